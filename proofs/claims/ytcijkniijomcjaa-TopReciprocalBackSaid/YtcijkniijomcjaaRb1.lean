/- Texts of the proof of TopReciprocalBack, put together (part 1): Mem, Kit, Floats, Samples, Leaf, Checks. -/
import Derived.BigQuiet
import Derived.Deep.Draws
import Derived.Deep.LoopGhost
import Derived.Deep.MidRow
import Derived.Deep.QuietTactic
import Derived.Deep.RegionHeld3
import Derived.IntWalk
import Derived.Laws.AppendOwn
import Derived.Laws.ComplexArith
import Derived.Laws.FloatArith
import Derived.Laws.Rows
import Derived.Laws.Tables
import Derived.Lib.Hide
import Derived.RangeFuncOwn
import Derived.Test.YtcijkniijomcjaaProg
import Derived.WalkKit
import Derived.WalkLawsBesides
import Derived.WalkSpells
namespace Go.Cpl
open Go.RowKit
/-- Block g holds just these cells, and none is frozen. -/
def Blk (w : World) (g : Nat) (t : TypeId) (cs : Array Value) : Prop := w.heap[g]? = some (.cells cs t (0, 0))
section
variable {w w' : World} {g : Nat} {t : TypeId} {cs : Array Value}
theorem Blk.cell (h : Blk w g t cs) (i : Nat) : w.cell? ⟨g, i, none⟩ = cs[i]? := cell_of_row w g i cs t (0, 0) h
theorem Blk.free (h : Blk w g t cs) (i : Nat) : w.frozen? ⟨g, i, none⟩ = false := frozen_of_row w g i cs t h
theorem Blk.new (w : World) (t : TypeId) (cs : Array Value) : Blk (w.alloc (.cells cs t)) w.heap.size t cs := heap_alloc_new w _
theorem Blk.keep {B : Nat} (h : Blk w g t cs) (hb : Below B w w') (hg : g < B) : Blk w' g t cs := (hb.block g hg).trans h
theorem Blk.lt (h : Blk w g t cs) : g < w.heap.size := by
  rcases Nat.lt_or_ge g w.heap.size with hlt | hge
  · exact hlt
  · unfold Blk at h; rw [Array.getElem?_eq_none hge] at h; cases h
theorem Blk.kept (h : Blk w g t cs) (hb : Below w.heap.size w w') : Blk w' g t cs := h.keep hb h.lt
theorem Blk.drewN (h : Blk w g t cs) (n : Nat) : Blk (w.drewN n) g t cs := h
theorem Blk.drew (h : Blk w g t cs) : Blk w.drew g t cs := h
theorem Blk.alloc (h : Blk w g t cs) (o : Obj) : Blk (w.alloc o) g t cs := (Below.heap_alloc w o g h.lt).trans h
theorem Blk.set_ (h : Blk w g t cs) (i : Nat) (u : Value) : Blk (w.setCell ⟨g, i, none⟩ u) g t (cs.setIfInBounds i u) := heap_setCell_same w g i cs t u h
theorem Blk.far (h : Blk w g t cs) {p : Addr} (hp : g ≠ p.block) (u : Value) : Blk (w.setCell p u) g t cs := (Below.heap_setCell w p u g hp).trans h
end
theorem Blk.past {w w' : World} {g g' : Nat} {t : TypeId} {cs : Array Value} (h : Blk w g t cs) (l : w.heap.size ≤ g') (k : Below g' w w') : Blk w' g t cs := h.keep k (Nat.lt_of_lt_of_le h.lt l)
theorem below_drewN {B : Nat} {a w : World} (h : Below B a w) (n : Nat) : Below B a (w.drewN n) := ⟨h.os, h.tape, h.output, h.size, h.block⟩
/-- Only block g has turned. -/
structure Turn (g : Nat) (w w' : World) : Prop where
  os : w'.os = w.os
  tape : w'.tape = w.tape
  output : w'.output = w.output
  size : w'.heap.size = w.heap.size
  block : ∀ k, k ≠ g → w'.heap[k]? = w.heap[k]?
theorem Turn.below {g B : Nat} {w w' : World} (h : Turn g w w') (hB : B ≤ g) : Below B w w' := ⟨h.os, h.tape, h.output, Nat.le_of_eq h.size.symm, fun k hk => h.block k (by omega)⟩
theorem Turn.blk {g k : Nat} {w w' : World} {t : TypeId} {cs : Array Value} (h : Turn g w w') (hb : Blk w k t cs) (hk : k ≠ g) : Blk w' k t cs := (h.block k hk).trans hb
theorem Turn.setRow (w : World) (g : Nat) (cs : Array Value) : Turn g w (w.setRow g cs) := ⟨rfl, rfl, rfl, by simp, fun k hk => setRow_other w g k cs hk⟩
theorem Turn.setCell (w : World) (g i : Nat) (u : Value) : Turn g w (w.setCell ⟨g, i, none⟩ u) := ⟨rfl, rfl, rfl, by simp [World.setCell], fun k hk => Below.heap_setCell w _ u k hk⟩
/-- Of what was there at first nothing has turned. -/
def Kp (w0 w : World) : Prop := Below w0.heap.size w0 w
theorem Kp.refl (w : World) : Kp w w := Below.refl _ _
theorem Kp.new {w0 w w' : World} {g : Nat} (h : Kp w0 w) (l : w.heap.size ≤ g) (k : Below g w w') : Kp w0 w' := h.trans (k.mono (Nat.le_trans h.size l))
theorem Kp.call {w0 w w' : World} (h : Kp w0 w) (k : Below w.heap.size w w') : Kp w0 w' := h.trans (k.mono h.size)
theorem Kp.turn {w0 w w' : World} {g : Nat} (h : Kp w0 w) (o : w0.heap.size ≤ g) (k : Turn g w w') : Kp w0 w' := h.trans (k.below o)
theorem Kp.own {w0 w : World} {g : Nat} (h : Kp w0 w) (l : w.heap.size ≤ g) : w0.heap.size ≤ g := Nat.le_trans h.size l
theorem Kp.drewN {w0 w : World} (h : Kp w0 w) (n : Nat) : Kp w0 (w.drewN n) := below_drewN h n
theorem Kp.setCell {w0 w : World} {g : Nat} (h : Kp w0 w) (o : w0.heap.size ≤ g) (i : Nat) (u : Value) : Kp w0 (w.setCell ⟨g, i, none⟩ u) := Below.setCell h o u
theorem Kp.drew {w0 w : World} (h : Kp w0 w) : Kp w0 w.drew := Below.drew h
theorem Kp.alloc {w0 w : World} (h : Kp w0 w) (o : Obj) : Kp w0 (w.alloc o) := Below.alloc h h.size o
theorem rangeAt_of_blk {w : World} {g : Nat} {t : TypeId} {cs : Array Value} (h : Blk w g t cs) : w.rangeAt g 0 cs.toList := by
  intro j v hv
  rw [Nat.zero_add, h.cell]
  simpa using hv
/-- A type whose values are arrays or structs of n cells. -/
def IsRow (P : Program) (ty : TypeId) (n : Nat) : Prop := (∃ d, P.underlying ty = some d ∧ (match d with | .struct _ | .array _ _ => true | _ => false) = true) ∧ (P.info? ty).map (·.size) = some n
section
variable {P : Program} {ops : Array Oper} {rest : List Oper} {o : Oper} {a : Act} {w : World} {Q : Exit → Act → World → Prop}
theorem wl_load (hgd : o.guard = none) (ty : TypeId) (x : Operand) (ho : o.op = .load ty x) (g : Nat) (hx : a.eval x = .pointer (some ⟨g, 0, none⟩)) {t : TypeId} {cs : Array Value} (hb : Blk w g t cs) {n : Nat} (hn : cs.size = n) (hr : IsRow P ty n)
    (h : wpList P ops Q rest (a.put o.dst (.agg cs)) w) : wpList P ops Q (o :: rest) a w := by
  subst hn
  obtain ⟨⟨d, hu, hd⟩, hi⟩ := hr
  cases d <;> first | exact wpList_load_row hgd ty x ho g hx t cs (0, 0) _ hb hu rfl hi h | cases hd
theorem wl_store (hgd : o.guard = none) (ty : TypeId) (x y : Operand) (ho : o.op = .store ty x y) (g : Nat) (cells : Array Value) (hx : a.eval x = .pointer (some ⟨g, 0, none⟩)) (hy : a.eval y = .agg cells)
    {t : TypeId} {old : Array Value} (hb : Blk w g t old) {n : Nat} (hn : cells.size = n) (ho' : old.size = n) (hr : IsRow P ty n) (h1 : cells.all (·.oneCell') = true)
    (h : ∀ w', Blk w' g t cells → Turn g w w' → wpList P ops Q rest (a.put o.dst undef) w') : wpList P ops Q (o :: rest) a w := by
  subst hn
  exact wpList_store_row hgd ty x y ho g cells hx hy t old hb hr.2 ho' h1 (h _ (setRow_heap w g old cells t (0, 0) hb) (Turn.setRow w g cells))
theorem wl_alloc (hgd : o.guard = none) (ty : TypeId) (ho : o.op = .alloc ty) (cells : Array Value) (hz : ((P.info? ty).bind (·.zero)).map (·.cells) = some cells)
    (h : ∀ g w', w.heap.size ≤ g → Blk w' g ty cells → Below g w w' → wpList P ops Q rest (a.put o.dst (.pointer (some ⟨g, 0, none⟩))) w') : wpList P ops Q (o :: rest) a w := by
  refine wpList_plain hgd fun K hK => ?_
  unfold Oper.wp execOp
  cases hi : P.info? ty with
  | none => simp [hi] at hz
  | some i =>
    cases hv : i.zero with
    | none => simp [hi, hv] at hz
    | some v =>
      have hc : v.cells = cells := by simpa [hi, hv] using hz
      have h' := hK _ _ (h w.heap.size _ (Nat.le_refl _) (Blk.new _ _ _) ((Below.refl _ _).alloc (Nat.le_refl _) _))
      simp [ho, Instr.alloc, zeroValue, typeInfo, newVar, newRow, hc, hi, hv]
      exact h'
theorem wl_box (hgd : o.guard = none) (ty : TypeId) (x : Operand) (ho : o.op = .box ty x) (cells : Array Value) (hx : a.eval x = .agg cells)
    (h : ∀ g w', w.heap.size ≤ g → Blk w' g ty cells → Below g w w' → wpList P ops Q rest (a.put o.dst (.pointer (some ⟨g, 0, none⟩))) w') : wpList P ops Q (o :: rest) a w := by
  refine wpList_plain hgd fun K hK => ?_
  unfold Oper.wp execOp
  have h' := hK _ _ (h w.heap.size _ (Nat.le_refl _) (Blk.new _ _ _) ((Below.refl _ _).alloc (Nat.le_refl _) _))
  simp [ho, hx, Instr.box, newVar, newRow, Value.cells]
  exact h'
theorem run_loadVar_blk {ty : TypeId} {g : Nat} {t : TypeId} {cs : Array Value} (hb : Blk w g t cs) {n : Nat} (hn : cs.size = n) (hr : IsRow P ty n) : (loadVar ty ⟨g, 0, none⟩).run P w = .ok (.agg cs) w := by
  subst hn
  obtain ⟨⟨d, hu, hd⟩, hi⟩ := hr
  cases d <;> first | exact run_loadVar_row w g t ty cs (0, 0) _ hb hu rfl hi | cases hd
theorem res_cell {fn : Func} {p : Tmp} {ty : TypeId} (h : fn.results = #[.cell p ty]) (tmps : Array Value) {g : Nat} (hp : tmps.getD p undef = .pointer (some ⟨g, 0, none⟩)) {t : TypeId} {cs : Array Value} (hb : Blk w g t cs) {n : Nat} (hn : cs.size = n) (hr : IsRow P ty n) :
    (results fn tmps).run P w = .ok (.agg cs) w := by
  have hp' : tmps[p]?.getD undef = .pointer (some ⟨g, 0, none⟩) := by simpa using hp
  simp [results, h, hp', asAddr, run_loadVar_blk hb hn hr]
theorem res_cell_tmp {fn : Func} {p q : Tmp} {ty : TypeId} (h : fn.results = #[.cell p ty, .tmp q]) (tmps : Array Value) {g : Nat} (hp : tmps.getD p undef = .pointer (some ⟨g, 0, none⟩)) {t : TypeId} {cs : Array Value} (hb : Blk w g t cs) {n : Nat} (hn : cs.size = n) (hr : IsRow P ty n) :
    (results fn tmps).run P w = .ok (.tuple #[.agg cs, tmps.getD q undef]) w := by
  have hp' : tmps[p]?.getD undef = .pointer (some ⟨g, 0, none⟩) := by simpa using hp
  simp [results, h, hp', asAddr, run_loadVar_blk hb hn hr]
/-- In a region that draws its order: the load of a whole array or struct may be taken first. -/
theorem yl_load {S : World → Prop} (hw : Region.wanted o (yielded ops a.tmps) = true) {ty : TypeId} {x : Operand} (ho : o.op = .load ty x) {g : Nat} (hx : a.eval x = .pointer (some ⟨g, 0, none⟩)) {t : TypeId} {cs : Array Value} (hS : ∀ w, S w → Blk w g t cs) {n : Nat} (hn : cs.size = n) (hr : IsRow P ty n) : YieldsIf P ops S o (.agg cs) a :=
  .inl ⟨hw, fun w hw' => by
    unfold execOp
    simp only [ho, hx, Instr.loadAt, Instr.sureAddr, Sem.run_bind, Sem.run_pure, Result.andThen_ok, run_loadVar_blk (hS w hw') hn hr]⟩
/-! The same laws, the operation written out, so that each fits by its slot alone. -/
variable {tt : TypeId} {pos : String} {aft : Array Edge}
theorem wlA (dst : Option Tmp) (ty : TypeId) (cells : Array Value) (hz : ((P.info? ty).bind (·.zero)).map (·.cells) = some cells)
    (h : ∀ g w', w.heap.size ≤ g → Blk w' g ty cells → Below g w w' → wpList P ops Q rest (a.put dst (.pointer (some ⟨g, 0, none⟩))) w') : wpList P ops Q (⟨dst, .alloc ty, tt, pos, aft, none⟩ :: rest) a w :=
  wl_alloc (o := ⟨dst, .alloc ty, tt, pos, aft, none⟩) rfl ty rfl cells hz h
theorem wlB (dst : Option Tmp) (ty : TypeId) {x : Operand} (cells : Array Value) (hx : a.eval x = .agg cells)
    (h : ∀ g w', w.heap.size ≤ g → Blk w' g ty cells → Below g w w' → wpList P ops Q rest (a.put dst (.pointer (some ⟨g, 0, none⟩))) w') : wpList P ops Q (⟨dst, .box ty x, tt, pos, aft, none⟩ :: rest) a w :=
  wl_box (o := ⟨dst, .box ty x, tt, pos, aft, none⟩) rfl ty x rfl cells hx h
theorem wlL (dst : Option Tmp) (ty : TypeId) {x : Operand} {g : Nat} {t : TypeId} {cs : Array Value} (hb : Blk w g t cs) {n : Nat} (hn : cs.size = n) (hr : IsRow P ty n) (hx : a.eval x = .pointer (some ⟨g, 0, none⟩))
    (h : wpList P ops Q rest (a.put dst (.agg cs)) w) : wpList P ops Q (⟨dst, .load ty x, tt, pos, aft, none⟩ :: rest) a w :=
  wl_load (o := ⟨dst, .load ty x, tt, pos, aft, none⟩) rfl ty x rfl g hx hb hn hr h
theorem wlS (ty : TypeId) (x y : Operand) {g : Nat} {cells : Array Value} {t : TypeId} {old : Array Value} (hb : Blk w g t old) {n : Nat} (ho' : old.size = n) (hn : cells.size = n) (hr : IsRow P ty n) (h1 : cells.all (·.oneCell') = true) (hx : a.eval x = .pointer (some ⟨g, 0, none⟩)) (hy : a.eval y = .agg cells)
    (h : ∀ w', Blk w' g t cells → Turn g w w' → wpList P ops Q rest (a.put none undef) w') : wpList P ops Q (⟨none, .store ty x y, tt, pos, aft, none⟩ :: rest) a w :=
  wl_store (o := ⟨none, .store ty x y, tt, pos, aft, none⟩) rfl ty x y rfl g cells hx hy hb hn ho' hr h1 h
end
theorem run_store_float (P : Program) (w : World) (a : Addr) (m : Mode) (k : FloatKind) (b : Nat) : (store a (.float k b) m).run P w = stored P w a (.float k b) m := run_store P w a _ m rfl
theorem run_store_complex (P : Program) (w : World) (a : Addr) (m : Mode) (k : FloatKind) (x y : Nat) : (store a (.complex k x y) m).run P w = stored P w a (.complex k x y) m := run_store P w a _ m rfl
/-- max and min, shut to the walk. -/
def mx (x y : Int) : Int := if y > x then y else x
def mn (x y : Int) : Int := if y < x then y else x
theorem mx_eq (x y : Int) : mx x y = max x y := by unfold mx; split <;> omega
theorem mn_eq (x y : Int) : mn x y = min x y := by unfold mn; split <;> omega
theorem run_max_mx (P : Program) (w : World) (ts : Array TypeId) (t : TypeId) (k k' : IntKind) (x y : Int) : (Builtin.max_ ts t #[.int k x, .int k' y]).run P w = .ok (.int k (mx x y)) w := run_max_int2 w ts t k k' x y
theorem run_min_mn (P : Program) (w : World) (ts : Array TypeId) (t : TypeId) (k k' : IntKind) (x y : Int) : (Builtin.min_ ts t #[.int k x, .int k' y]).run P w = .ok (.int k (mn x y)) w := run_min_int2 w ts t k k' x y
end Go.Cpl
namespace Go.Cpl
open Go.RowKit
/-! ### The frame -/
theorem beq_ff {a b : Nat} (h : ¬ a = b) : Nat.beq a b = false := by
  cases e : Nat.beq a b with
  | false => rfl
  | true => exact absurd (Nat.eq_of_beq_eq_true e) h
theorem blt_lt {d n : Nat} (h : Nat.blt d n = true) : d < n := by rw [Nat.blt_eq] at h; exact h
abbrev Fm := List (Nat × Value)
def look : Fm → Nat → Option Value
  | [], _ => none
  | (k, v) :: l, n => bif Nat.beq k n then some v else look l n
def evO (F : Fm) : Operand → Option Value
  | .tmp t => look F t
  | .const v => some v
  | .global g => some (.pointer (some ⟨g, 0, none⟩))
  | .func f => some (.func (.func f) #[] #[])
/-- How many slots, and what is deferred. -/
structure Sz where
  n : Nat
  ds : List Deferred
instance {k : Nat} : OfNat Sz k := ⟨⟨k, []⟩⟩
instance : Coe Sz Nat := ⟨Sz.n⟩
/-- The frame has n slots, this is deferred, and the named slots hold these values. -/
structure Fr (n : Sz) (a : Act) (F : Fm) : Prop where
  size : a.tmps.size = n.n
  def_ : a.defers = n.ds
  val : ∀ k v, look F k = some v → a.tmps[k]? = some v
theorem Fr.ev {n : Sz} {a : Act} {F : Fm} (h : Fr n a F) {x : Operand} {v : Value} (hx : evO F x = some v) : a.eval x = v := by
  cases x with
  | tmp t => have := h.val t v hx; simp [Act.eval, this]
  | const c => simpa [evO, Act.eval] using hx
  | global g => simpa [evO, Act.eval] using hx
  | func f => simpa [evO, Act.eval] using hx
theorem Fr.put {n : Sz} {a : Act} {F : Fm} (h : Fr n a F) {d : Nat} (hd : d < n) (v : Value) : Fr n (a.put (some d) v) ((d, v) :: F) := by
  refine ⟨by simp [Act.put, h.size], by simp [Act.put, h.def_], fun k u hk => ?_⟩
  simp only [look] at hk
  by_cases e : d = k
  · subst e
    simp only [Nat.beq_refl, cond_true, Option.some.injEq] at hk
    subst hk
    simp [Act.put, h.size, hd]
  · have e' : Nat.beq d k = false := beq_ff e
    rw [e', cond_false] at hk
    have := h.val k u hk
    simp [Act.put, e, this]
/-- The first m named slots are forgotten (none of them is named behind). -/
def fresh : Nat → Fm → Bool
  | 0, _ => true
  | _ + 1, [] => true
  | m + 1, (k, _) :: l => (look (l.drop m) k).isNone && fresh m l
theorem Fr.drop {n : Sz} {a : Act} : ∀ {m : Nat} {F : Fm}, Fr n a F → fresh m F = true → Fr n a (F.drop m)
  | 0, _, h, _ => h
  | _ + 1, [], h, _ => h
  | m + 1, (k, u) :: l, h, hf => by
    simp only [fresh, Bool.and_eq_true] at hf
    obtain ⟨h1, h2⟩ := hf
    have key : ∀ (m : Nat) (l : Fm), fresh m l = true → ∀ j v, look (l.drop m) j = some v → look l j = some v := by
      intro m
      induction m with
      | zero => intro l _ j v hj; exact hj
      | succ m ih =>
        intro l hl j v hj
        cases l with
        | nil => exact hj
        | cons p l =>
          obtain ⟨k, u⟩ := p
          simp only [fresh, Bool.and_eq_true] at hl
          have h3 := ih l hl.2 j v hj
          simp only [look]
          by_cases e : k = j
          · subst e
            simp only [List.drop_succ_cons] at hj
            rw [Option.isNone_iff_eq_none] at hl
            rw [hl.1] at hj; cases hj
          · have e' : Nat.beq k j = false := beq_ff e
            rw [e', cond_false]; exact h3
    refine ⟨h.size, h.def_, fun j v hj => h.val j v ?_⟩
    exact key (m + 1) ((k, u) :: l) (by simp only [fresh, Bool.and_eq_true]; exact ⟨h1, h2⟩) j v hj
theorem Fr.cons {n : Sz} {a : Act} {F : Fm} (h : Fr n a F) {d : Nat} {v : Value} (hv : a.tmps[d]? = some v) : Fr n a ((d, v) :: F) := by
  refine ⟨h.size, h.def_, fun k u hk => ?_⟩
  simp only [look] at hk
  by_cases e : d = k
  · subst e
    simp only [Nat.beq_refl, cond_true, Option.some.injEq] at hk
    subst hk; exact hv
  · have e' : Nat.beq d k = false := beq_ff e
    rw [e', cond_false] at hk
    exact h.val k u hk
theorem Fr.nil {n : Sz} {a : Act} {F : Fm} (h : Fr n a F) : Fr n a [] := ⟨h.size, h.def_, fun k v hk => by cases hk⟩
/-- A named slot, in another spelling. -/
theorem Fr.slot {n : Sz} {a : Act} {F G : Fm} (h : Fr n a F) (hG : Fr n a G) {d : Nat} {v u : Value} (hv : look F d = some v) (e : v = u) : Fr n a ((d, u) :: G) := hG.cons (e ▸ h.val d v hv)
def start (args : Array Value) : Fm := (args.toList.zipIdx).map fun p => (p.2, p.1)
theorem look_start : ∀ (l : List Value) (i k : Nat) (v : Value), look ((l.zipIdx i).map fun p => (p.2, p.1)) k = some v → i ≤ k ∧ l[k - i]? = some v
  | [], _, _, _, h => by simp [look] at h
  | x :: l, i, k, v, h => by
    simp only [List.zipIdx_cons, List.map_cons, look] at h
    by_cases e : i = k
    · subst e
      simp only [Nat.beq_refl, cond_true, Option.some.injEq] at h
      subst h
      simp
    · have e' : Nat.beq i k = false := beq_ff e
      rw [e', cond_false] at h
      obtain ⟨h1, h2⟩ := look_start l (i + 1) k v h
      refine ⟨by omega, ?_⟩
      rw [show k - i = (k - (i + 1)) + 1 by omega, List.getElem?_cons_succ]
      exact h2
theorem enter {P : Program} {f : FuncId} {fn : Func} {c : Code} {args : Array Value} {w : World} {R : Ending → World → Prop} {n : Nat}
    (hf : P.funcs[f]? = some fn) (hb : fn.body = some c) (hn : fn.ntmps = n) (hs : Nat.ble args.size n = true)
    (h : ∀ a, Fr ⟨n, []⟩ a (start args) → c.wp P (bodyPost P fn R) a w) : Calls P f args w R := by
  refine calls_of_wp hf hb (h _ ⟨?_, rfl, fun k v hk => ?_⟩)
  · have := Nat.le_of_ble_eq_true hs; simp; omega
  · obtain ⟨_, h2⟩ := look_start args.toList 0 k v hk
    rw [Nat.sub_zero, Array.getElem?_toList] at h2
    have hk' : k < args.size := by
      rcases Nat.lt_or_ge k args.size with h3 | h3
      · exact h3
      · rw [Array.getElem?_eq_none h3] at h2; cases h2
    rw [Array.getElem?_append_left hk']
    exact h2
/-! ### The memory -/
structure Bk where
  g : Nat
  t : TypeId
  cs : Array Value
  own : Bool
/-- A slice that the call has made by append: its value, the type and the cells of an element, its length, its cells. -/
structure Rw where
  v : Value
  e : TypeId
  size : Nat
  n : Nat
  xs : List Value
/-- The world at first, and one since when what is no cells lies as9 it lay. -/
structure Base where
  w : World
  v : World
instance : Coe World Base := ⟨fun w => ⟨w, w⟩⟩
/-- Cells without marks. -/
def plainO : Obj → Bool
  | .cells _ _ fz => fz == (0, 0)
  | _ => false
/-- Whatever is no plain cells lies as9 it lay. -/
structure KeepsX (W W' : World) : Prop where
  size : W.heap.size ≤ W'.heap.size
  same : ∀ (k : Nat) (o : Obj), W.heap[k]? = some o → plainO o = false → W'.heap[k]? = some o
theorem KeepsX.refl (W : World) : KeepsX W W := ⟨Nat.le_refl _, fun _ _ h _ => h⟩
theorem KeepsX.trans {A B C : World} (h : KeepsX A B) (k : KeepsX B C) : KeepsX A C := ⟨Nat.le_trans h.size k.size, fun i o hi ho => k.same i o (h.same i o hi ho) ho⟩
theorem KeepsX.of_grownBy {W W' : World} {row : Option Nat} (hg : W.grownBy W' row) (hrow : ∀ (j : Nat) (o : Obj), row = some j → W.heap[j]? = some o → plainO o = true) : KeepsX W W' :=
  ⟨hg.size, fun k o hk ho => (hg.block k (Array.getElem?_eq_some_iff.1 hk).1 (fun e => by rw [hrow k o e.symm hk] at ho; cases ho)).trans hk⟩
theorem keeps_of_below {g : Nat} {w w' : World} (k : Below g w w') (h : w.heap.size ≤ g) : KeepsX w w' :=
  ⟨k.size, fun i o hi _ => (k.block i (by have := (Array.getElem?_eq_some_iff.1 hi).1; omega)).trans hi⟩
def KpB (b : Base) (w : World) : Prop := Below b.w.heap.size b.w w ∧ KeepsX b.v w
theorem KpB.size {b : Base} {w : World} (h : KpB b w) : b.w.heap.size ≤ w.heap.size := h.1.size
theorem KpB.refl (w : World) : KpB w w := ⟨Below.refl _ _, KeepsX.refl _⟩
theorem KpB.new {b : Base} {w w' : World} {g : Nat} (h : KpB b w) (l : w.heap.size ≤ g) (k : Below g w w') : KpB b w' := ⟨h.1.trans (k.mono (Nat.le_trans h.1.size l)), h.2.trans (keeps_of_below k l)⟩
theorem KpB.call {b : Base} {w w' : World} (h : KpB b w) (k : Below w.heap.size w w') : KpB b w' := ⟨h.1.trans (k.mono h.1.size), h.2.trans (keeps_of_below k (Nat.le_refl _))⟩
theorem KpB.turn {b : Base} {w w' : World} {g : Nat} {t : TypeId} {cs : Array Value} (h : KpB b w) (o : b.w.heap.size ≤ g) (k : Turn g w w') (hb : Blk w g t cs) : KpB b w' :=
  ⟨h.1.trans (k.below o), h.2.trans ⟨Nat.le_of_eq k.size.symm, fun i o' hi ho => by
    by_cases e : i = g
    · subst e; rw [hb] at hi; cases hi; exact absurd ho (by simp [plainO])
    · exact (k.block i e).trans hi⟩⟩
theorem KpB.own {b : Base} {w : World} {g : Nat} (h : KpB b w) (l : w.heap.size ≤ g) : b.w.heap.size ≤ g := Nat.le_trans h.1.size l
theorem KpB.drew {b : Base} {w : World} (h : KpB b w) : KpB b w.drew := ⟨Below.drew h.1, h.2.trans ⟨Nat.le_refl _, fun _ _ hi _ => hi⟩⟩
/-- Of what was there at first nothing has turned; these blocks are known whole; those of the call's own are apart from all others; these slices are the call's own, too. -/
structure St (w0 : Base) (L : List Bk) (M : List Rw) (w : World) : Prop where
  kq : KpB w0 w
  blk : ∀ b ∈ L, Blk w b.g b.t b.cs
  own : ∀ b ∈ L, b.own = true → w0.w.heap.size ≤ b.g
  apart : L.Pairwise fun x y => (x.own = true ∨ y.own = true) → x.g ≠ y.g
  rows : ∀ r ∈ M, w.ownsRow w0.w.heap.size r.e r.size r.v r.n r.xs
  rb : ∀ r ∈ M, ∀ b ∈ L, r.v.ownBlock ≠ some b.g
  rr : M.Pairwise fun x y => x.v.ownBlock = none ∨ x.v.ownBlock ≠ y.v.ownBlock
theorem St.kp {w0 : Base} {w : World} {L : List Bk} {M : List Rw} (h : St w0 L M w) : Kp w0.w w := h.kq.1
theorem St.others {w0 : Base} {w : World} {L : List Bk} {M : List Rw} (h : St w0 L M w) : KeepsX w0.v w := h.kq.2
/-- Another world since when. -/
theorem St.since {w0 : Base} {w : World} {L : List Bk} {M : List Rw} (h : St w0 L M w) {v : World} (k : KeepsX v w) : St ⟨w0.w, v⟩ L M w := ⟨⟨h.kq.1, k⟩, h.blk, h.own, h.apart, h.rows, h.rb, h.rr⟩
theorem St.start (w : World) : St w [] [] w := ⟨KpB.refl w, (fun _ h => by cases h), (fun _ h => by cases h), List.Pairwise.nil, (fun _ h => by cases h), (fun _ h => by cases h), List.Pairwise.nil⟩
/-- A block that came in. -/
theorem St.came {w : World} {L : List Bk} (h : St w L [] w) {g : Nat} {t : TypeId} {cs : Array Value} (hb : Blk w g t cs) (hL : ∀ b ∈ L, b.own = false) : St w (⟨g, t, cs, false⟩ :: L) [] w := by
  refine ⟨h.kq, fun b hm => ?_, fun b hm hb' => ?_, List.pairwise_cons.2 ⟨fun b hm ho => ?_, h.apart⟩, h.rows, fun r hr => (by cases hr), h.rr⟩
  · rcases List.mem_cons.1 hm with rfl | hm
    · exact hb
    · exact h.blk b hm
  · rcases List.mem_cons.1 hm with rfl | hm
    · cases hb'
    · exact h.own b hm hb'
  · rcases ho with ho | ho
    · cases ho
    · rw [hL b hm] at ho; cases ho
theorem St.get {w0 : Base} {w : World} {L : List Bk} {M : List Rw} (h : St w0 L M w) (i : Nat) {b : Bk} (hi : L[i]? = some b) : Blk w b.g b.t b.cs := h.blk b (List.mem_of_getElem? hi)
theorem St.row {w0 : Base} {w : World} {L : List Bk} {M : List Rw} (h : St w0 L M w) (i : Nat) {r : Rw} (hi : M[i]? = some r) : w.ownsRow w0.w.heap.size r.e r.size r.v r.n r.xs := h.rows r (List.mem_of_getElem? hi)
theorem ownsRow_below {w w' : World} {base : Nat} {e : TypeId} {size : Nat} {v : Value} {n : Nat} {xs : List Value} {B : Nat} (h : w.ownsRow base e size v n xs) (k : Below B w w') (hB : ∀ g, v.ownBlock = some g → g < B) : w'.ownsRow base e size v n xs := by
  refine ⟨h.1, ?_⟩
  rcases h.2 with hn | ⟨g, cap, cur, rfl, hb, hgg, rest⟩
  · exact .inl hn
  · refine .inr ⟨g, cap, cur, rfl, hb, ?_, rest⟩
    rw [k.block g (hB g rfl)]
    exact hgg
theorem St.kept {w0 : Base} {w w' : World} {L : List Bk} {M : List Rw} (h : St w0 L M w) (k : Below w.heap.size w w') : St w0 L M w' :=
  ⟨h.kq.call k, fun b hb => (h.blk b hb).kept k, h.own, h.apart, fun r hr => ownsRow_below (h.rows r hr) k fun g hg => ((h.rows r hr).lt g hg).2, h.rb, h.rr⟩
theorem St.drew {w0 : Base} {w : World} {L : List Bk} {M : List Rw} (h : St w0 L M w) : St w0 L M w.drew := h.kept (Below.drew (Below.refl _ _))
theorem St.new {w0 : Base} {w w' : World} {L : List Bk} {M : List Rw} (h : St w0 L M w) {g : Nat} {t : TypeId} {cs : Array Value} (l : w.heap.size ≤ g) (hb : Blk w' g t cs) (k : Below g w w') : St w0 (⟨g, t, cs, true⟩ :: L) M w' := by
  refine ⟨h.kq.new l k, fun b hm => ?_, fun b hm ho => ?_, List.pairwise_cons.2 ⟨fun b hm _ => ?_, h.apart⟩, fun r hr => ?_, fun r hr b hm => ?_, h.rr⟩
  · rcases List.mem_cons.1 hm with rfl | hm
    · exact hb
    · exact (h.blk b hm).past l k
  · rcases List.mem_cons.1 hm with rfl | hm
    · exact h.kq.own l
    · exact h.own b hm ho
  · exact Nat.ne_of_gt (Nat.lt_of_lt_of_le (h.blk b hm).lt l)
  · exact ownsRow_below (h.rows r hr) k fun g' hg' => Nat.lt_of_lt_of_le ((h.rows r hr).lt g' hg').2 l
  · rcases List.mem_cons.1 hm with rfl | hm
    · intro e
      have := ((h.rows r hr).lt g e).2
      omega
    · exact h.rb r hr b hm
theorem St.set {w0 : Base} {w w' : World} {L : List Bk} {M : List Rw} (h : St w0 L M w) (i : Nat) {g : Nat} {t : TypeId} {cs cs' : Array Value} (hi : L[i]? = some ⟨g, t, cs, true⟩) (hb : Blk w' g t cs') (k : Turn g w w') : St w0 (L.set i ⟨g, t, cs', true⟩) M w' := by
  have hm0 : (⟨g, t, cs, true⟩ : Bk) ∈ L := List.mem_of_getElem? hi
  have hil : i < L.length := by
    rcases Nat.lt_or_ge i L.length with h3 | h3
    · exact h3
    · rw [List.getElem?_eq_none h3] at hi; cases hi
  have hpw := List.pairwise_iff_getElem.1 h.apart
  have hgi : L[i] = ⟨g, t, cs, true⟩ := by rw [List.getElem?_eq_getElem hil] at hi; exact Option.some.inj hi
  have hne : ∀ j (hj : j < L.length), j ≠ i → L[j].g ≠ g := by
    intro j hj hji e
    rcases Nat.lt_or_gt_of_ne hji with hlt | hgt
    · have := hpw j i hj hil hlt (.inr (by rw [hgi])); rw [hgi] at this; exact this e
    · have := hpw i j hil hj hgt (.inl (by rw [hgi])); rw [hgi] at this; exact this e.symm
  refine ⟨h.kq.turn (h.own _ hm0 rfl) k (h.blk _ hm0), fun b hm => ?_, fun b hm ho => ?_, List.pairwise_iff_getElem.2 fun x y hx hy hxy => ?_, fun r hr => ?_, fun r hr b hm => ?_, h.rr⟩
  · obtain ⟨j, hj, rfl⟩ := List.getElem_of_mem hm
    rw [List.length_set] at hj
    by_cases e : i = j
    · subst e; simp only [List.getElem_set_self]; exact hb
    · rw [List.getElem_set_ne e]
      exact k.blk (h.blk _ (List.getElem_mem hj)) (hne j hj (Ne.symm e))
  · obtain ⟨j, hj, rfl⟩ := List.getElem_of_mem hm
    rw [List.length_set] at hj
    by_cases e : i = j
    · subst e; simp only [List.getElem_set_self]; exact h.own _ hm0 rfl
    · rw [List.getElem_set_ne e] at ho ⊢
      exact h.own _ (List.getElem_mem hj) ho
  · rw [List.length_set] at hx hy
    by_cases e1 : i = x
    · subst e1
      rw [List.getElem_set_self, List.getElem_set_ne (by omega)]
      intro _
      exact Ne.symm (hne y hy (by omega))
    · by_cases e2 : i = y
      · subst e2
        rw [List.getElem_set_self, List.getElem_set_ne e1]
        intro _
        exact hne x hx (by omega)
      · rw [List.getElem_set_ne e1, List.getElem_set_ne e2]
        exact hpw x y hx hy hxy
  · have hg : r.v.ownBlock ≠ some g := h.rb r hr _ hm0
    have hro := h.rows r hr
    refine ⟨hro.1, ?_⟩
    rcases hro.2 with hn | ⟨g', cap, cur, hv, hb', hgg, rest⟩
    · exact .inl hn
    · refine .inr ⟨g', cap, cur, hv, hb', ?_, rest⟩
      rw [k.block g' (fun e => hg (by rw [hv, ← e]; rfl))]
      exact hgg
  · obtain ⟨j, hj, rfl⟩ := List.getElem_of_mem hm
    rw [List.length_set] at hj
    by_cases e : i = j
    · subst e; simp only [List.getElem_set_self]; exact h.rb r hr _ hm0
    · rw [List.getElem_set_ne e]; exact h.rb r hr _ (List.getElem_mem hj)
theorem St.tail {w0 : Base} {w : World} {b : Bk} {L : List Bk} {M : List Rw} (h : St w0 (b :: L) M w) : St w0 L M w :=
  ⟨h.kq, fun x hx => h.blk x (List.mem_cons_of_mem _ hx), fun x hx => h.own x (List.mem_cons_of_mem _ hx), (List.pairwise_cons.1 h.apart).2, h.rows, fun r hr x hx => h.rb r hr x (List.mem_cons_of_mem _ hx), h.rr⟩
/-- Less is known. -/
theorem St.sub {w0 : Base} {w : World} {L L' : List Bk} {M M' : List Rw} (h : St w0 L M w) (hs : L'.Sublist L) (hm : M'.Sublist M) : St w0 L' M' w :=
  ⟨h.kq, fun b hb => h.blk b (hs.subset hb), fun b hb => h.own b (hs.subset hb), h.apart.sublist hs, fun r hr => h.rows r (hm.subset hr), fun r hr b hb => h.rb r (hm.subset hr) b (hs.subset hb), h.rr.sublist hm⟩
/-- The same cells, in another spelling. -/
theorem St.recell {w0 : Base} {w : World} {L : List Bk} {M : List Rw} (i : Nat) (h : St w0 L M w) {g : Nat} {t : TypeId} {cs cs' : Array Value} {o : Bool} (hi : L[i]? = some ⟨g, t, cs, o⟩) (e : cs = cs') : St w0 (L.set i ⟨g, t, cs', o⟩) M w := by
  subst e
  rcases Nat.lt_or_ge i L.length with h3 | h3
  · rw [List.getElem?_eq_getElem h3] at hi
    rw [← Option.some.inj hi, List.set_getElem_self]
    exact h
  · rw [List.getElem?_eq_none h3] at hi; cases hi
theorem St.rerow {w0 : Base} {w : World} {L : List Bk} {M : List Rw} (i : Nat) (h : St w0 L M w) {v : Value} {e : TypeId} {size m m' : Nat} {xs xs' : List Value} (hi : M[i]? = some ⟨v, e, size, m, xs⟩) (q : m = m' ∧ xs = xs') : St w0 L (M.set i ⟨v, e, size, m', xs'⟩) w := by
  obtain ⟨rfl, rfl⟩ := q
  rcases Nat.lt_or_ge i M.length with h3 | h3
  · rw [List.getElem?_eq_getElem h3] at hi
    rw [← Option.some.inj hi, List.set_getElem_self]
    exact h
  · rw [List.getElem?_eq_none h3] at hi; cases hi
/-- A new slice, nil. -/
theorem St.nilRow {w0 : Base} {w : World} {L : List Bk} {M : List Rw} (h : St w0 L M w) (e : TypeId) (size : Nat) : St w0 L (⟨.slice none 0 0, e, size, 0, []⟩ :: M) w := by
  refine ⟨h.kq, h.blk, h.own, h.apart, fun r hr => ?_, fun r hr b hb => ?_, List.pairwise_cons.2 ⟨fun r _ => .inl rfl, h.rr⟩⟩
  · rcases List.mem_cons.1 hr with rfl | hr
    · exact World.ownsRow_nil _ _ _ _
    · exact h.rows r hr
  · rcases List.mem_cons.1 hr with rfl | hr
    · intro e; cases e
    · exact h.rb r hr b hb
/-- One of the slices has grown. -/
theorem St.grown {w0 : Base} {w w' : World} {L : List Bk} {M : List Rw} (h : St w0 L M w) (j : Nat) {v : Value} {e : TypeId} {size m : Nat} {xs : List Value} (hj : M[j]? = some ⟨v, e, size, m, xs⟩) {v' : Value} {m' : Nat} {xs' : List Value}
    (ho : w'.ownsRow w0.w.heap.size e size v' m' xs') (hg : w.grownBy w' v.ownBlock) (hfresh : v'.ownBlock = v.ownBlock ∨ ∀ g, v'.ownBlock = some g → w.heap.size ≤ g) : St w0 L (M.set j ⟨v', e, size, m', xs'⟩) w' := by
  have hm0 : (⟨v, e, size, m, xs⟩ : Rw) ∈ M := List.mem_of_getElem? hj
  have hjl : j < M.length := by
    rcases Nat.lt_or_ge j M.length with h3 | h3
    · exact h3
    · rw [List.getElem?_eq_none h3] at hj; cases hj
  have hgj : M[j] = ⟨v, e, size, m, xs⟩ := by rw [List.getElem?_eq_getElem hjl] at hj; exact Option.some.inj hj
  have hpw := List.pairwise_iff_getElem.1 h.rr
  have hbl : ∀ b ∈ L, Blk w' b.g b.t b.cs := fun b hb => (hg.block b.g (h.blk b hb).lt (fun e => h.rb _ hm0 b hb e.symm)).trans (h.blk b hb)
  have hnew : ∀ g, v'.ownBlock = some g → v.ownBlock = some g ∨ w.heap.size ≤ g := by
    intro g hg'
    rcases hfresh with e | e
    · exact .inl (e ▸ hg')
    · exact .inr (e g hg')
  have hot : KeepsX w w' := KeepsX.of_grownBy hg fun i o e hi => by
    rcases (h.rows _ hm0).2 with ⟨hv, _⟩ | ⟨g, cap, cur, hv, _, hgg, _⟩
    · simp only at hv; rw [hv] at e; cases e
    · simp only at hv hgg
      rw [hv] at e
      obtain rfl := Option.some.inj e
      rw [hgg] at hi; cases hi; rfl
  refine ⟨⟨⟨hg.os.trans h.kq.1.os, hg.tape.trans h.kq.1.tape, hg.output.trans h.kq.1.output, Nat.le_trans h.kq.size hg.size, fun k hk => ?_⟩, h.kq.2.trans hot⟩, hbl, h.own, h.apart, fun r hr => ?_, fun r hr b hb => ?_, List.pairwise_iff_getElem.2 fun x y hx hy hxy => ?_⟩
  · have hk' : k < w.heap.size := Nat.lt_of_lt_of_le hk h.kq.size
    rw [hg.block k hk' (fun e => by have := ((h.rows _ hm0).lt k e.symm).1; omega)]
    exact h.kq.1.block k hk
  · obtain ⟨i, hi, rfl⟩ := List.getElem_of_mem hr
    rw [List.length_set] at hi
    by_cases eij : j = i
    · subst eij; simp only [List.getElem_set_self]; exact ho
    · rw [List.getElem_set_ne eij]
      refine (h.rows _ (List.getElem_mem hi)).kept hg ?_
      rcases Nat.lt_or_gt_of_ne eij with hlt | hgt
      · rcases hpw j i hjl hi hlt with e | e
        · rw [hgj] at e
          cases hv : M[i].v.ownBlock with
          | none => exact .inl rfl
          | some g => exact .inr (by rw [e]; simp)
        · rw [hgj] at e; exact .inr (Ne.symm e)
      · rcases hpw i j hi hjl hgt with e | e
        · exact .inl e
        · rw [hgj] at e; exact .inr e
  · obtain ⟨i, hi, rfl⟩ := List.getElem_of_mem hr
    rw [List.length_set] at hi
    by_cases eij : j = i
    · subst eij
      simp only [List.getElem_set_self]
      intro e
      rcases hnew _ e with e' | e'
      · exact h.rb _ hm0 b hb e'
      · have := (h.blk b hb).lt; omega
    · rw [List.getElem_set_ne eij]; exact h.rb _ (List.getElem_mem hi) b hb
  · rw [List.length_set] at hx hy
    by_cases e1 : j = x
    · subst e1
      rw [List.getElem_set_self, List.getElem_set_ne (by omega)]
      cases hv : v'.ownBlock with
      | none => exact .inl rfl
      | some g =>
        refine .inr ?_
        intro e
        rcases hnew g hv with e' | e'
        · rcases hpw j y hjl hy hxy with e3 | e3
          · rw [hgj] at e3; simp only at e3; rw [e3] at e'; cases e'
          · rw [hgj] at e3; exact e3 (e'.trans e)
        · have := ((h.rows _ (List.getElem_mem hy)).lt g e.symm).2; omega
    · by_cases e2 : j = y
      · subst e2
        rw [List.getElem_set_self, List.getElem_set_ne e1]
        cases hv : M[x].v.ownBlock with
        | none => exact .inl rfl
        | some g =>
          refine .inr ?_
          show some g ≠ v'.ownBlock
          intro e
          rcases hnew g e.symm with e' | e'
          · rcases hpw x j hx hjl hxy with e3 | e3
            · rw [e3] at hv; cases hv
            · rw [hgj] at e3; exact e3 (hv.trans e'.symm)
          · have := ((h.rows _ (List.getElem_mem hx)).lt g hv).2; omega
      · rw [List.getElem_set_ne e1, List.getElem_set_ne e2]
        exact hpw x y hx hy hxy
/-! ### Single operations: what they give, whatever the world -/
section
variable {P : Program} {ops : Array Oper} {Q : Exit → Act → World → Prop} {n : Sz} {a : Act} {w0 : Base} {w : World} {F : Fm} {L : List Bk} {M : List Rw} {rest : List Oper}
/-- In a frame that holds these values and a world that holds these blocks the operation gives v, and does nothing else. -/
def Gives (P : Program) (F : Fm) (w0 : Base) (L : List Bk) (M : List Rw) (op : Op) (v : Value) : Prop :=
  ∀ (n : Sz) (a : Act) (w : World), Fr n a F → St w0 L M w → ∀ (d : Option Tmp) (ty : TypeId) (pos : String) (aft : Array Edge) (gd : Option (Nat × Bool)), (execOp a.eval ⟨d, op, ty, pos, aft, gd⟩).run P w = .ok (.value v) w
theorem g_move {x : Operand} {v : Value} (hx : evO F x = some v) : Gives P F w0 L M (.move x) v := fun _ _ _ hA _ _ _ _ _ _ => by simp [execOp, hA.ev hx]
theorem g_assign {x : Operand} {v : Value} (hx : evO F x = some v) : Gives P F w0 L M (.assign x) v := fun _ _ _ hA _ _ _ _ _ _ => by simp [execOp, hA.ev hx]
theorem g_pick {c x y : Operand} {b : Bool} {v : Value} (hc : evO F c = some (.bool b)) (hv : (bif b then evO F x else evO F y) = some v) : Gives P F w0 L M (.pick c x y) v := fun _ _ _ hA _ _ _ _ _ _ => by
  cases b
  · simp [execOp, hA.ev hc, asBool, hA.ev (show evO F y = some v from hv)]
  · simp [execOp, hA.ev hc, asBool, hA.ev (show evO F x = some v from hv)]
theorem g_pick_t {c x y : Operand} {b : Bool} {v : Value} (hc : evO F c = some (.bool b)) (h : b = true) (hv : evO F x = some v) : Gives P F w0 L M (.pick c x y) v := g_pick hc (by rw [h]; exact hv)
theorem g_pick_f {c x y : Operand} {b : Bool} {v : Value} (hc : evO F c = some (.bool b)) (h : b = false) (hv : evO F y = some v) : Gives P F w0 L M (.pick c x y) v := g_pick hc (by rw [h]; exact hv)
theorem g_extract {x : Operand} {i : Nat} {u v : Value} (hx : evO F x = some u) (hr : ∀ w, (Instr.extract u i).run P w = .ok v w) : Gives P F w0 L M (.extract x i) v := fun _ _ w hA _ _ _ _ _ _ => by simp [execOp, hA.ev hx, hr w]
theorem g_field {t : TypeId} {x : Operand} {i : Nat} {u v : Value} (hx : evO F x = some u) (hr : ∀ w, (Instr.fieldAt t u i).run P w = .ok v w) : Gives P F w0 L M (.fieldAddr t x i) v := fun _ _ w hA _ _ _ _ _ _ => by simp [execOp, hA.ev hx, hr w]
theorem g_index {t : TypeId} {x y : Operand} {u k v : Value} (hx : evO F x = some u) (hy : evO F y = some k) (hr : ∀ w, (Instr.indexAt t u k).run P w = .ok v w) : Gives P F w0 L M (.indexAddr t x y) v := fun _ _ w hA _ _ _ _ _ _ => by simp [execOp, hA.ev hx, hA.ev hy, hr w]
theorem g_indexv {t : TypeId} {x y : Operand} {u k v : Value} (hx : evO F x = some u) (hy : evO F y = some k) (hr : ∀ w, (Instr.index t u k).run P w = .ok v w) : Gives P F w0 L M (.index t x y) v := fun _ _ w hA _ _ _ _ _ _ => by simp [execOp, hA.ev hx, hA.ev hy, hr w]
theorem g_bin {op : BinOp} {t t' : TypeId} {x y : Operand} {u k v : Value} (hx : evO F x = some u) (hy : evO F y = some k) (hg : ∀ w, (eqGuard op t x y u k).run P w = .ok () w) (hr : ∀ w, (binOp op t u k).run P w = .ok v w) : Gives P F w0 L M (.binOp op t x y t') v := fun _ _ w hA _ _ _ _ _ _ => by simp [execOp, hA.ev hx, hA.ev hy, hg w, hr w]
theorem g_un {op : UnOp} {t : TypeId} {x : Operand} {u v : Value} (hx : evO F x = some u) (hr : ∀ w, (Op.unary op u).run P w = .ok v w) : Gives P F w0 L M (.unOp op t x) v := fun _ _ w hA _ _ _ _ _ _ => by simp [execOp, hA.ev hx, hr w]
theorem g_conv {t t' : TypeId} {x : Operand} {u v : Value} (hx : evO F x = some u) (hr : ∀ w, (convert t t' u).run P w = .ok v w) : Gives P F w0 L M (.convert t t' x) v := fun _ _ w hA _ _ _ _ _ _ => by simp [execOp, hA.ev hx, hr w]
theorem g_nil {x : Operand} {ad : Addr} (hx : evO F x = some (.pointer (some ad))) : Gives P F w0 L M (.nilCheck x) (.pointer (some ad)) := fun _ _ w hA _ _ _ _ _ _ => by simp [execOp, hA.ev hx]
theorem g_slice {t : TypeId} {x : Operand} {lo hi mx : Option Operand} {u v : Value} {lo' hi' mx' : Option Value} (hx : evO F x = some u) (hl : lo.map (evO F) = lo'.map some) (hh : hi.map (evO F) = hi'.map some) (hm : mx.map (evO F) = mx'.map some) (hr : ∀ w, (Instr.sliceAt t u lo' hi' mx').run P w = .ok v w) : Gives P F w0 L M (.slice t x lo hi mx) v := fun _ a w hA _ _ _ _ _ _ => by
  have key : ∀ (o : Option Operand) (o' : Option Value), o.map (evO F) = o'.map some → o.map a.eval = o' := by
    intro o o' h
    cases o <;> cases o' <;> simp at h ⊢
    exact hA.ev h
  simp [execOp, hA.ev hx, key _ _ hl, key _ _ hh, key _ _ hm, hr w]
theorem g_s2a {t : TypeId} {x : Operand} {u v : Value} (hx : evO F x = some u) (hr : ∀ w, (Instr.arrayAt t u).run P w = .ok v w) : Gives P F w0 L M (.sliceToArrayPointer t x) v := fun _ _ w hA _ _ _ _ _ _ => by simp [execOp, hA.ev hx, hr w]
/-- The values of some operands. -/
def evL (F : Fm) (ps : List (Nat × Operand)) : Option (List (Nat × Value)) :=
  match ps with
  | [] => some []
  | (i, x) :: l => match evO F x, evL F l with | some v, some r => some ((i, v) :: r) | _, _ => none
theorem evL_map {n : Sz} {a : Act} {F : Fm} (hA : Fr n a F) : ∀ {ps : List (Nat × Operand)} {r : List (Nat × Value)}, evL F ps = some r → ps.map (fun p => (p.1, a.eval p.2)) = r
  | [], r, h => by simp [evL] at h; simp [h]
  | (i, x) :: l, r, h => by
    simp only [evL] at h
    cases h1 : evO F x with
    | none => rw [h1] at h; cases h
    | some v =>
      cases h2 : evL F l with
      | none => rw [h1, h2] at h; cases h
      | some s =>
        rw [h1, h2] at h
        simp only [Option.some.injEq] at h
        rw [← h, List.map_cons, hA.ev h1, evL_map hA h2]
theorem g_build {t : TypeId} {ps : List (Nat × Operand)} {r : List (Nat × Value)} {v : Value} (hp : evL F ps = some r) (hr : ∀ w, (Instr.build t r.toArray).run P w = .ok v w) : Gives P F w0 L M (.build t ps.toArray) v := fun _ a w hA _ _ _ _ _ _ => by
  have e : ps.toArray.map (fun (p : Nat × Operand) => (p.1, a.eval p.2)) = r.toArray := by rw [List.map_toArray, evL_map hA hp]
  have := hr w
  simp only [execOp]
  show ((do pure (Next.value (← Instr.build t (ps.toArray.map fun (p : Nat × Operand) => (p.1, a.eval p.2))))) : Sem Next).run P w = _
  rw [e]
  simp [this]
theorem g_func {fn : Fn} {xs ys : List Operand} {us vs : List (Nat × Value)} {v : Value} (hx : evL F (xs.map fun x => (0, x)) = some us) (hy : evL F (ys.map fun x => (0, x)) = some vs) (hr : ∀ w, (Instr.makeFunc fn (us.map (·.2)).toArray (vs.map (·.2)).toArray).run P w = .ok v w) : Gives P F w0 L M (.makeFunc fn xs.toArray ys.toArray) v := fun _ a w hA _ _ _ _ _ _ => by
  have key : ∀ {l : List Operand} {r : List (Nat × Value)}, evL F (l.map fun x => (0, x)) = some r → l.map a.eval = r.map (·.2) := by
    intro l r h
    have := congrArg (List.map (·.2)) (evL_map hA h)
    rw [List.map_map, List.map_map] at this
    exact this
  simp only [execOp, List.map_toArray, key hx, key hy]
  simp [hr w]
/-- What a load gives at a place of a block. -/
def rowVal (P : Program) (ty : TypeId) (cs : Array Value) (off : Nat) : Option Value :=
  match P.underlying ty with
  | none => none
  | some (.struct _) | some (.array _ _) =>
    match (P.info? ty).map (·.size) with
    | some m => bif Nat.ble (off + m) cs.size then some (.agg (cs.extract off (off + m))) else none
    | none => none
  | some _ => cs[off]?
theorem rangeAt_extract {w : World} {g : Nat} {t : TypeId} {cs : Array Value} (h : Blk w g t cs) (off m : Nat) : w.rangeAt g off (cs.extract off (off + m)).toList := by
  intro j v hv
  rw [h.cell]
  simp only [Array.toList_extract, List.extract_eq_take_drop] at hv
  rw [List.getElem?_take] at hv
  split at hv
  · rw [List.getElem?_drop] at hv; simpa using hv
  · cases hv
theorem run_loadVar_rowVal {ty : TypeId} {g off : Nat} {t : TypeId} {cs : Array Value} {v : Value} (hb : Blk w g t cs) (hv : rowVal P ty cs off = some v) : (loadVar ty ⟨g, off, none⟩).run P w = .ok v w := by
  unfold rowVal at hv
  have hc : ∀ d, P.underlying ty = some d → d.isRow = false → cs[off]? = some v → (loadVar ty ⟨g, off, none⟩).run P w = .ok v w := by
    intro d hd hf hcell
    have hcc : w.cell? ⟨g, off, none⟩ = some v := by rw [hb.cell, hcell]
    have hi : (isAgg ty).run P w = .ok false w := by
      unfold isAgg
      rw [Sem.run_bind, run_underlying hd]
      cases d <;> first | rfl | cases hf
    unfold loadVar
    rw [Sem.run_bind, hi]
    simp only [Result.andThen_ok]
    rw [if_neg (by decide), run_load, hcc]
  cases hu : P.underlying ty with
  | none => rw [hu] at hv; cases hv
  | some d =>
    rw [hu] at hv
    have hagg : d.isRow = true → (match (P.info? ty).map (·.size) with | some m => bif Nat.ble (off + m) cs.size then some (Value.agg (cs.extract off (off + m))) else none | none => none) = some v → (loadVar ty ⟨g, off, none⟩).run P w = .ok v w := by
      intro hd hv'
      cases hs : (P.info? ty).map (·.size) with
      | none => rw [hs] at hv'; cases hv'
      | some m =>
        rw [hs] at hv'
        simp only at hv'
        cases hble : Nat.ble (off + m) cs.size with
        | false => rw [hble] at hv'; cases hv'
        | true =>
          rw [hble] at hv'
          simp only [cond_true, Option.some.injEq] at hv'
          subst hv'
          have hm := Nat.le_of_ble_eq_true hble
          have := run_loadVar_mid w g off ty (cs.extract off (off + m)).toList d (rangeAt_extract hb off m) hu hd (by rw [hs]; simp; omega)
          rw [Array.toArray_toList] at this
          exact this
    cases d <;> first | exact hagg rfl hv | exact hc _ hu rfl hv
theorem rowVal_whole {ty : TypeId} {cs : Array Value} {m : Nat} (hn : cs.size = m) (hr : IsRow P ty m) : rowVal P ty cs 0 = some (.agg cs) := by
  obtain ⟨⟨d, hu, hd⟩, hi⟩ := hr
  have key : (match (P.info? ty).map (·.size) with | some m => bif Nat.ble (0 + m) cs.size then some (Value.agg (cs.extract 0 (0 + m))) else none | none => none) = some (.agg cs) := by
    rw [hi]
    simp only
    rw [show Nat.ble (0 + m) cs.size = true by rw [Nat.ble_eq]; omega]
    simp only [cond_true, Nat.zero_add]
    rw [← hn, Array.extract_size]
  unfold rowVal
  rw [hu]
  cases d <;> first | exact key | cases hd
theorem g_load {ty : TypeId} {x : Operand} {g off : Nat} {v : Value} (i : Nat) {t : TypeId} {cs : Array Value} {o : Bool} (hx : evO F x = some (.pointer (some ⟨g, off, none⟩))) (hb : L[i]? = some ⟨g, t, cs, o⟩) (hv : rowVal P ty cs off = some v) : Gives P F w0 L M (.load ty x) v := fun _ _ w hA hS _ _ _ _ _ => by
  simp only [execOp, hA.ev hx, Instr.loadAt, Instr.sureAddr, Sem.run_bind, Sem.run_pure, Result.andThen_ok, run_loadVar_rowVal (hS.get i hb) hv]
/-- A whole array, of n cells. -/
theorem g_loadW {ty : TypeId} {x : Operand} {g m : Nat} (i : Nat) {t : TypeId} {cs : Array Value} {o : Bool} (hx : evO F x = some (.pointer (some ⟨g, 0, none⟩))) (hb : L[i]? = some ⟨g, t, cs, o⟩) (hn : cs.size = m) (hr : IsRow P ty m) : Gives P F w0 L M (.load ty x) (.agg cs) := fun _ _ w hA hS _ _ _ _ _ => by
  simp only [execOp, hA.ev hx, Instr.loadAt, Instr.sureAddr, Sem.run_bind, Sem.run_pure, Result.andThen_ok, run_loadVar_blk (hS.get i hb) hn hr]
/-! ### Steps in a list of operations -/
theorem s_one {d : Nat} {op : Op} {ty : TypeId} {pos : String} {aft : Array Edge} (v : Value) (hA : Fr n a F) (hS : St w0 L M w) (hg : Gives P F w0 L M op v) (hd : Nat.blt d n = true)
    (k : ∀ a', Fr n a' ((d, v) :: F) → wpList P ops Q rest a' w) : wpList P ops Q (⟨some d, op, ty, pos, aft, none⟩ :: rest) a w := by
  refine wpList_plain rfl fun K hK => ?_
  unfold Oper.wp
  rw [hg n a w hA hS]
  exact hK _ _ (k _ (hA.put (blt_lt hd) v))
/-- Whether a guarded operation is carried out. -/
theorem wanted_of {o : Oper} {j dj : Nat} {want b : Bool} (hA : Fr n a F) (hgd : o.guard = some (j, want)) (hj : (ops[j]?).bind (·.dst) = some dj) (hb : look F dj = some (.bool b)) : Region.wanted o (yielded ops a.tmps) = (b == want) := by
  have h1 := hA.val dj _ hb
  have h2 : yielded ops a.tmps j = some b := by unfold yielded; rw [hj]; simp only [Option.bind_some, h1]
  simp only [Region.wanted, hgd, h2]
  cases b <;> cases want <;> rfl
theorem s_want {d : Option Tmp} {op : Op} {ty : TypeId} {pos : String} {aft : Array Edge} {j dj : Nat} {want b : Bool} (hA : Fr n a F) (hj : (ops[j]?).bind (·.dst) = some dj) (hb : look F dj = some (.bool b)) (h : b = want)
    (k : wpList P ops Q (⟨d, op, ty, pos, aft, none⟩ :: rest) a w) : wpList P ops Q (⟨d, op, ty, pos, aft, some (j, want)⟩ :: rest) a w := by
  have hw : Region.wanted ⟨d, op, ty, pos, aft, some (j, want)⟩ (yielded ops a.tmps) = true := by rw [wanted_of hA rfl hj hb, h]; cases want <;> rfl
  have hw' : Region.wanted ⟨d, op, ty, pos, aft, none⟩ (yielded ops a.tmps) = true := rfl
  unfold wpList at k ⊢
  rw [if_pos hw]
  rw [if_pos hw'] at k
  exact k
theorem s_not {d : Nat} {op : Op} {ty : TypeId} {pos : String} {aft : Array Edge} {j dj : Nat} {want b : Bool} (hA : Fr n a F) (hj : (ops[j]?).bind (·.dst) = some dj) (hb : look F dj = some (.bool b)) (h : b = !want) (hd : Nat.blt d n = true)
    (k : ∀ a', Fr n a' ((d, undef) :: F) → wpList P ops Q rest a' w) : wpList P ops Q (⟨some d, op, ty, pos, aft, some (j, want)⟩ :: rest) a w := by
  refine wpList_skip ?_ (k _ (hA.put (blt_lt hd) undef))
  rw [wanted_of hA rfl hj hb, h]; cases want <;> rfl
/-! Memory. -/
theorem s_alloc {d : Nat} {t ty : TypeId} {pos : String} {aft : Array Edge} (cells : Array Value) (hA : Fr n a F) (hS : St w0 L M w) (hz : ((P.info? t).bind (·.zero)).map (·.cells) = some cells) (hd : Nat.blt d n = true)
    (k : ∀ g a' w', Fr n a' ((d, .pointer (some ⟨g, 0, none⟩)) :: F) → St w0 (⟨g, t, cells, true⟩ :: L) M w' → wpList P ops Q rest a' w') : wpList P ops Q (⟨some d, .alloc t, ty, pos, aft, none⟩ :: rest) a w :=
  wl_alloc rfl t rfl cells hz fun g w' l hb hbl => k g _ w' (hA.put (blt_lt hd) _) (hS.new l hb hbl)
theorem s_box {d : Nat} {t ty : TypeId} {x : Operand} {pos : String} {aft : Array Edge} (v : Value) (hA : Fr n a F) (hS : St w0 L M w) (hx : evO F x = some v) (hd : Nat.blt d n = true)
    (k : ∀ g a' w', Fr n a' ((d, .pointer (some ⟨g, 0, none⟩)) :: F) → St w0 (⟨g, t, v.cells, true⟩ :: L) M w' → wpList P ops Q rest a' w') : wpList P ops Q (⟨some d, .box t x, ty, pos, aft, none⟩ :: rest) a w := by
  refine wpList_plain rfl fun K hK => ?_
  unfold Oper.wp execOp
  have h' := hK _ _ (k w.heap.size _ _ (hA.put (blt_lt hd) _) (hS.new (Nat.le_refl _) (Blk.new w t v.cells) ((Below.refl _ _).alloc (Nat.le_refl _) _)))
  simp only [hA.ev hx, Instr.box, newVar, newRow]
  simp
  exact h'
/-- Cells written one behind the other. -/
def wr : Array Value → Nat → List Value → Array Value
  | cs, _, [] => cs
  | cs, k, v :: l => wr (cs.setIfInBounds k v) (k + 1) l
theorem run_storeCells_blk {g : Nat} {t : TypeId} (off : Nat) : ∀ (vs : List Value) (i : Nat) (cs : Array Value) (w : World), Blk w g t cs → off + i + vs.length ≤ cs.size → (∀ v ∈ vs, v.oneCell' = true) →
    ∃ w', (storeCells ⟨g, off, none⟩ vs i).run P w = .ok () w' ∧ Blk w' g t (wr cs (off + i) vs) ∧ Turn g w w'
  | [], _, cs, w, hb, _, _ => ⟨w, rfl, hb, rfl, rfl, rfl, rfl, fun _ _ => rfl⟩
  | v :: l, i, cs, w, hb, hl, h1 => by
    have hlt : off + i < cs.size := by simp at hl; omega
    have hadd : (⟨g, off, none⟩ : Addr).add i = ⟨g, off + i, none⟩ := Addr.add_mid _ _ _
    have hcell : w.cell? ⟨g, off + i, none⟩ = some cs[off + i] := by rw [hb.cell, Array.getElem?_eq_getElem hlt]
    have hst : (store ((⟨g, off, none⟩ : Addr).add i) v).run P w = .ok () (w.setCell ⟨g, off + i, none⟩ v) := by
      rw [hadd, run_store P w _ v _ (h1 v (by simp)), hcell]
      simp [hb.free]
    obtain ⟨w', hr, hb', ht⟩ := run_storeCells_blk off l (i + 1) (cs.setIfInBounds (off + i) v) (w.setCell ⟨g, off + i, none⟩ v) (hb.set_ _ _) (by simp at hl ⊢; omega) (fun x hx => h1 x (by simp [hx]))
    have ht0 := Turn.setCell w g (off + i) v
    refine ⟨w', ?_, hb', ?_⟩
    · simp only [storeCells, Sem.run_bind, hst, Result.andThen_ok, hr]
    · exact ⟨ht.os.trans ht0.os, ht.tape.trans ht0.tape, ht.output.trans ht0.output, ht.size.trans ht0.size, fun k hk => (ht.block k hk).trans (ht0.block k hk)⟩
/-- What a block holds behind a store at a place. -/
def putVal (P : Program) (ty : TypeId) (cs : Array Value) (off : Nat) (v : Value) : Option (Array Value) :=
  match (P.info? ty).map (·.size) with
  | some m => bif Nat.beq v.cells.size m && (Nat.ble (off + m) cs.size && v.cells.toList.all (·.oneCell')) then some (wr cs off v.cells.toList) else none
  | none => none
theorem run_storeVar_blk {ty : TypeId} {g off : Nat} {t : TypeId} {cs cs' : Array Value} {v : Value} (hb : Blk w g t cs) (hv : putVal P ty cs off v = some cs') :
    ∃ w', (storeVar ty ⟨g, off, none⟩ v).run P w = .ok () w' ∧ Blk w' g t cs' ∧ Turn g w w' := by
  unfold putVal at hv
  cases hs : (P.info? ty).map (·.size) with
  | none => rw [hs] at hv; cases hv
  | some m =>
    rw [hs] at hv
    simp only at hv
    cases hq : (Nat.beq v.cells.size m && (Nat.ble (off + m) cs.size && v.cells.toList.all (·.oneCell'))) with
    | false => rw [hq] at hv; cases hv
    | true =>
      rw [hq] at hv
      simp only [cond_true, Option.some.injEq] at hv
      subst hv
      rw [Bool.and_eq_true, Bool.and_eq_true] at hq
      obtain ⟨h1, h2, h3⟩ := hq
      have h1' := Nat.eq_of_beq_eq_true h1
      have h2' := Nat.le_of_ble_eq_true h2
      obtain ⟨w', hr, hb', ht⟩ := run_storeCells_blk (P := P) (t := t) off v.cells.toList 0 cs w hb (by simp; omega) (fun x hx => (List.all_eq_true.1 h3) x hx)
      refine ⟨w', ?_, hb', ht⟩
      cases hi : P.info? ty with
      | none => rw [hi] at hs; cases hs
      | some ti =>
        rw [hi] at hs
        simp only [Option.map_some, Option.some.injEq] at hs
        simp [storeVar, sizeOf, typeInfo, hi, h1', hs, hr]
theorem s_store {ty : TypeId} {x y : Operand} {ty' : TypeId} {pos : String} {aft : Array Edge} {g off : Nat} {v : Value} {t : TypeId} {cs : Array Value} (i : Nat) (cs' : Array Value) (hA : Fr n a F) (hS : St w0 L M w) (hx : evO F x = some (.pointer (some ⟨g, off, none⟩))) (hy : evO F y = some v) (hb : L[i]? = some ⟨g, t, cs, true⟩) (hv : putVal P ty cs off v = some cs')
    (k : ∀ w', St w0 (L.set i ⟨g, t, cs', true⟩) M w' → wpList P ops Q rest a w') : wpList P ops Q (⟨none, .store ty x y, ty', pos, aft, none⟩ :: rest) a w := by
  refine wpList_plain rfl fun K hK => ?_
  obtain ⟨w', hr, hb', ht⟩ := run_storeVar_blk (P := P) (hS.get i hb) hv
  unfold Oper.wp
  simp only [execOp, hA.ev hx, hA.ev hy, Instr.storeAt, Instr.sureAddr, Sem.run_bind, Sem.run_pure, Result.andThen_ok, hr]
  exact hK _ _ (k w' (hS.set i hb hb' ht))
/-- Of a whole array of m cells. -/
theorem putVal_whole {ty : TypeId} {cs cs' : Array Value} {m : Nat} (hn : cs.size = m) (hn' : cs'.size = m) (hr : IsRow P ty m) (h1 : cs'.all (·.oneCell') = true) : putVal P ty cs 0 (.agg cs') = some cs' := by
  have key : ∀ (l : List Value) (k : Nat) (c : Array Value), k + l.length = c.size → wr c k l = (c.toList.take k ++ l).toArray := by
    intro l
    induction l with
    | nil => intro k c h; simp only [wr, List.append_nil]; rw [List.take_of_length_le (by simp at h ⊢; omega)]
    | cons v l ih =>
      intro k c h
      simp only [wr]
      rw [ih (k + 1) _ (by simp at h ⊢; omega)]
      have hk : k < c.toList.length := by simp at h ⊢; omega
      congr 1
      rw [Array.toList_setIfInBounds, List.take_add_one, List.getElem?_set_self hk, List.take_set_of_le (Nat.le_refl k)]
      simp
  unfold putVal
  rw [hr.2]
  simp only [Value.cells]
  rw [show Nat.beq cs'.size m = true by rw [Nat.beq_eq]; exact hn', show Nat.ble (0 + m) cs.size = true by rw [Nat.ble_eq]; omega, show cs'.toList.all (·.oneCell') = true by rw [Array.all_toList]; exact h1]
  simp only [Bool.and_true, cond_true]
  rw [key cs'.toList 0 cs (by simp; omega)]
  simp
/-! Calls. -/
theorem evA_map {F : Fm} (hA : Fr n a F) {l : List Operand} {r : List (Nat × Value)} (h : evL F (l.map fun x => (0, x)) = some r) : l.map a.eval = r.map (·.2) := by
  have := congrArg (List.map (·.2)) (evL_map hA h)
  rw [List.map_map, List.map_map] at this
  exact this
/-- What a call comes to: it enters f with these arguments. -/
theorem run_call {f : FuncId} {fx : Operand} {args : List Operand} {ats : Array TypeId} {fs cp av : Array Value} {r : List (Nat × Value)} {d : Option Tmp} {ty : TypeId} {pos : String} {aft : Array Edge} {gd : Option (Nat × Bool)} (hA : Fr n a F)
    (hf : evO F fx = some (.func (.func f) fs cp)) (hr : evL F (args.map fun x => (0, x)) = some r) (hav : fs ++ (r.map (·.2)).toArray ++ cp = av) (hcall : ∀ (as9 : Array Value) (w : World), (callFunc f as9).run P w = .ok (.enter f as9) w) :
    (execOp a.eval ⟨d, .call ⟨.value fx, args.toArray, ats⟩, ty, pos, aft, gd⟩).run P w = .ok (.enter f av) w := by
  simp only [execOp, resolve, hA.ev hf, Deferred.ofValue, invoke, List.map_toArray, evA_map hA hr, Sem.run_bind, Sem.run_pure, Result.andThen_ok, hav]
  exact hcall _ _
theorem s_call {d : Nat} {f : FuncId} {fx : Operand} {args : List Operand} {ats : Array TypeId} {ty : TypeId} {pos : String} {aft : Array Edge} {fs cp : Array Value} {r : List (Nat × Value)} (av : Array Value) (v : Value) (hA : Fr n a F) (hS : St w0 L M w)
    (hc : Calls P f av w fun e w' => e = .returned v ∧ Below w.heap.size w w') (hcall : ∀ (as9 : Array Value) (w : World), (callFunc f as9).run P w = .ok (.enter f as9) w)
    (hf : evO F fx = some (.func (.func f) fs cp)) (hr : evL F (args.map fun x => (0, x)) = some r) (hav : fs ++ (r.map (·.2)).toArray ++ cp = av) (hd : Nat.blt d n = true)
    (k : ∀ a' w', Fr n a' ((d, v) :: F) → St w0 L M w' → wpList P ops Q rest a' w') : wpList P ops Q (⟨some d, .call ⟨.value fx, args.toArray, ats⟩, ty, pos, aft, none⟩ :: rest) a w := by
  refine wpList_plain rfl fun K hK => ?_
  unfold Oper.wp
  rw [run_call hA hf hr hav hcall]
  refine hc.mono fun e w' ⟨he, hb⟩ => ?_
  subst he
  exact hK _ _ (k _ w' (hA.put (blt_lt hd) _) (hS.kept hb))
/-- A built-in function that only computes. -/
theorem g_built {b : Builtin} {args : List Operand} {ats : Array TypeId} {r : List (Nat × Value)} {v : Value} (hr : evL F (args.map fun x => (0, x)) = some r)
    (h : ∀ (ty : TypeId) (cs : Array Bool) (w : World), (builtin b ats ty cs (r.map (·.2)).toArray).run P w = .ok (.value v) w) : Gives P F w0 L M (.call ⟨.builtin b, args.toArray, ats⟩) v := fun _ _ w hA _ _ ty _ _ _ => by
  simp only [execOp, resolve, invoke, List.map_toArray, evA_map hA hr, Sem.run_bind, Sem.run_pure, Result.andThen_ok]
  exact h _ _ w
/-- A function of the library that the model answers itself. -/
theorem g_ext {f : FuncId} {fx : Operand} {args : List Operand} {ats : Array TypeId} {r : List (Nat × Value)} {v : Value} (hf : evO F fx = some (.func (.func f) #[] #[])) (hr : evL F (args.map fun x => (0, x)) = some r)
    (h : ∀ w, (callFunc f (r.map (·.2)).toArray).run P w = .ok (.value v) w) : Gives P F w0 L M (.call ⟨.value fx, args.toArray, ats⟩) v := fun _ _ w hA _ _ _ _ _ _ => by
  simp only [execOp, resolve, hA.ev hf, Deferred.ofValue, invoke, List.map_toArray, evA_map hA hr, Sem.run_bind, Sem.run_pure, Result.andThen_ok, Array.empty_append, Array.append_empty]
  exact h w
/-- The cells of a new slice. -/
def bsRow (P : Program) (t : TypeId) (len : Nat) (parts : List (Nat × Value)) : Option (TypeId × Array Value) :=
  match P.underlying t with
  | some (.slice elem) =>
    match P.info? elem with
    | some i =>
      if len * i.size > 2 ^ 24 then none else
      match (if len * i.size = 0 then some #[] else i.zero.map (·.cells)) with
      | some zero => (Instr.fill (fun k => some (k * i.size, i.size)) ((Array.range (len * i.size)).map (zero[· % zero.size]!)) parts).map fun c => (elem, c)
      | none => none
    | none => none
  | _ => none
theorem run_buildSlice {t e : TypeId} {len : Nat} {parts : List (Nat × Value)} {cells : Array Value} (h : bsRow P t len parts = some (e, cells)) :
    (Instr.buildSlice t len parts.toArray).run P w = .ok (.slice (some ⟨w.heap.size, 0, none⟩) len len) (w.alloc (.cells cells e)) := by
  unfold bsRow at h
  split at h
  · rename_i elem hu
    split at h
    · rename_i ti hi
      split at h
      · cases h
      · rename_i hb
        split at h
        · rename_i zero hz
          cases hf : Instr.fill (fun k => some (k * ti.size, ti.size)) ((Array.range (len * ti.size)).map (zero[· % zero.size]!)) parts with
          | none => rw [hf] at h; cases h
          | some c =>
            rw [hf] at h
            simp only [Option.map_some, Option.some.injEq, Prod.mk.injEq] at h
            obtain ⟨rfl, rfl⟩ := h
            unfold Instr.buildSlice
            simp only [Sem.run_bind, run_underlying hu, Result.andThen_ok, sizeOf, typeInfo]
            by_cases h0 : len * ti.size = 0
            · rw [if_pos h0] at hz
              simp only [Option.some.injEq] at hz
              subst hz
              simp [hi, h0] at hf ⊢
              simp [hf, newRow]
            · rw [if_neg h0] at hz
              cases hzz : ti.zero with
              | none => rw [hzz] at hz; cases hz
              | some zv =>
                rw [hzz] at hz
                simp only [Option.map_some, Option.some.injEq] at hz
                subst hz
                simp [hi, hb, h0, zeroValue, typeInfo, hzz, hf, newRow]
        · cases h
    · cases h
  · cases h
theorem s_bs {d : Nat} {t ty : TypeId} {len : Nat} {ps : List (Nat × Operand)} {pos : String} {aft : Array Edge} {r : List (Nat × Value)} {e : TypeId} (cells : Array Value) (hA : Fr n a F) (hS : St w0 L M w) (hp : evL F ps = some r) (hr : bsRow P t len r = some (e, cells)) (hd : Nat.blt d n = true)
    (k : ∀ g a' w', Fr n a' ((d, .slice (some ⟨g, 0, none⟩) len len) :: F) → St w0 (⟨g, e, cells, true⟩ :: L) M w' → wpList P ops Q rest a' w') : wpList P ops Q (⟨some d, .buildSlice t len ps.toArray, ty, pos, aft, none⟩ :: rest) a w := by
  refine wpList_plain rfl fun K hK => ?_
  have h' := hK _ _ (k w.heap.size _ _ (hA.put (blt_lt hd) _) (hS.new (Nat.le_refl _) (Blk.new w e cells) ((Below.refl _ _).alloc (Nat.le_refl _) _)))
  have em : ps.toArray.map (fun (p : Nat × Operand) => (p.1, a.eval p.2)) = r.toArray := by rw [List.map_toArray, evL_map hA hp]
  unfold Oper.wp execOp
  simp only
  show Oper.upon P _ a K Q (Sem.run P (do pure (Next.value (← Instr.buildSlice t len (ps.toArray.map fun (p : Nat × Operand) => (p.1, a.eval p.2))))) w)
  rw [em, Sem.run_bind, run_buildSlice hr]
  exact h'
/-- An append to a slice of the call's own. -/
theorem run_append_st {t e : TypeId} {ti : TypeInfo} {z : Value} {size bytes : Nat} (ht : P.underlying t = some (.slice e)) (hi : P.info? e = some ti) (hz : ti.zero = some z) (hsize : ti.size = size) (hby : ti.bytes = bytes) (hzs : z.cells.size = size) (hsz : 0 < size)
    (hS : St w0 L M w) (j : Nat) {v : Value} {m : Nat} {xs : List Value} (hj : M[j]? = some ⟨v, e, size, m, xs⟩) {ad : Addr} {m' c : Nat} {news : List Value} (hl : news.length = m' * size) (hnews : ∀ k u, news[k]? = some u → w.cell? (ad.add k) = some u) (h1 : ∀ u ∈ news, u.oneCell' = true)
    (h63 : m + m' ≤ maxLen) (hbytes : (m + m') * bytes ≤ 140737488355328) (ty : TypeId) :
    ∃ v' w', (Builtin.append_ #[t, t] ty #[v, .slice (some ad) m' c]).run P w = .ok v' w' ∧ St w0 L (M.set j ⟨v', e, size, m + m', xs ++ news⟩) w' := by
  have hown : w.ownsRow w0.w.heap.size e size v m xs := hS.row j hj
  obtain ⟨v', w', hr, ho, hg, -⟩ := run_append_own (P := P) w w0.w.heap.size t ty e ti z size bytes ht hi hz hsize hby hzs hsz v m xs hown ad m' c news hl hnews h1 h63 hbytes hS.kq.size
  refine ⟨v', w', hr, hS.grown j hj ho hg ?_⟩
  subst hsize
  subst hby
  have hsmall : m + m' ≤ 9223372036854775807 := by simp only [maxLen] at h63; omega
  rcases hown.2 with ⟨rfl, rfl⟩ | ⟨g, cap, cur, rfl, hbg, hgg, hnc, hcm, hcs, htake⟩
  · by_cases hm : m' = 0
    · subst hm
      have hn : news = [] := List.eq_nil_of_length_eq_zero (by simpa using hl)
      subst hn
      rcases ho.2 with ⟨rfl, _⟩ | ⟨g', cap', cur', rfl, _⟩
      · exact .inl rfl
      · exfalso
        have : (Builtin.append_ #[t, t] ty #[.slice none 0 0, .slice (some ad) 0 c]).run P w = .ok (.slice none 0 0) w := by
          simp [Builtin.append_, run_underlying ht, sizeOf, typeInfo, hi, Builtin.lenOf, Builtin.firstCells, loadCells, loadCellsFrom]
        rw [this] at hr
        cases hr
    · have hr2 := run_append_nil (P := P) w t ty e ti z ht hi hz ad m' c news hl hnews (by omega) (by omega) (by have hb := hbytes; simp only [Nat.zero_add] at hb; omega)
      rw [hr2] at hr
      simp only [Result.ok.injEq] at hr
      refine .inr fun g' hg' => ?_
      rw [← hr.1] at hg'
      simp only [Value.ownBlock, Option.some.injEq] at hg'
      omega
  · by_cases hroom : m + m' ≤ cap
    · have hfit : m * ti.size + news.length ≤ cur.size := by rw [hl, hcs, ← Nat.add_mul]; exact Nat.mul_le_mul_right _ hroom
      have hr2 := run_append_room (P := P) w t ty e ti ht hi g m cap cur hgg ad m' c news hl hnews h1 hroom hfit
      rw [hr2] at hr
      simp only [Result.ok.injEq] at hr
      refine .inl ?_
      rw [← hr.1]
      rfl
    · have holds : ∀ k u, xs[k]? = some u → w.cell? ((⟨g, 0, none⟩ : Addr).add k) = some u := hown.cells (g := g) rfl
      have hr2 := run_append_grow (P := P) w t ty e ti z ht hi hz ⟨g, 0, none⟩ m cap xs hown.1 holds ad m' c news hl hnews (by omega) (by omega) (growslice_fits (by omega) hbytes)
      rw [hr2] at hr
      simp only [Result.ok.injEq] at hr
      refine .inr fun g' hg' => ?_
      rw [← hr.1] at hg'
      simp only [Value.ownBlock, Option.some.injEq] at hg'
      omega
/-- What the elements of a slice type are: their type, cells and bytes. -/
def elemInfo (P : Program) (t : TypeId) : Option (TypeId × Nat × Nat) :=
  match P.underlying t with
  | some (.slice e) =>
    match P.info? e with
    | some i => match i.zero with
      | some z => bif Nat.beq z.cells.size i.size && Nat.blt 0 i.size then some (e, i.size, i.bytes) else none
      | none => none
    | none => none
  | _ => none
theorem elemInfo_spec {t e : TypeId} {size bytes : Nat} (h : elemInfo P t = some (e, size, bytes)) : ∃ ti z, P.underlying t = some (.slice e) ∧ P.info? e = some ti ∧ ti.zero = some z ∧ ti.size = size ∧ ti.bytes = bytes ∧ z.cells.size = size ∧ 0 < size := by
  unfold elemInfo at h
  split at h
  · rename_i e' hu
    split at h
    · rename_i ti hi
      split at h
      · rename_i z hz
        cases hb : (Nat.beq z.cells.size ti.size && Nat.blt 0 ti.size) with
        | false => rw [hb] at h; cases h
        | true =>
          rw [hb] at h
          simp only [cond_true, Option.some.injEq, Prod.mk.injEq] at h
          obtain ⟨rfl, rfl, rfl⟩ := h
          rw [Bool.and_eq_true] at hb
          exact ⟨ti, z, hu, hi, hz, rfl, rfl, Nat.eq_of_beq_eq_true hb.1, blt_lt hb.2⟩
      · cases h
    · cases h
  · cases h
theorem cells_of_blk {g m : Nat} {t : TypeId} {cs : Array Value} (hb : Blk w g t cs) : ∀ k u, (cs.toList.take m)[k]? = some u → w.cell? ((⟨g, 0, none⟩ : Addr).add k) = some u := by
  intro k u hu
  rw [show (⟨g, 0, none⟩ : Addr).add k = ⟨g, k, none⟩ by rw [Addr.add_mid, Nat.zero_add], hb.cell]
  rw [List.getElem?_take] at hu
  split at hu
  · simpa using hu
  · cases hu
theorem s_append {d : Nat} {s x : Operand} {t ty : TypeId} {pos : String} {aft : Array Edge} {e e' : TypeId} {size bytes g m m' c : Nat} {v : Value} {xs : List Value} {cs : Array Value} {o : Bool} (j i : Nat) (news : List Value) (hA : Fr n a F) (hS : St w0 L M w) (he : elemInfo P t = some (e, size, bytes))
    (hs : evO F s = some v) (hx : evO F x = some (.slice (some ⟨g, 0, none⟩) m' c)) (hj : M[j]? = some ⟨v, e, size, m, xs⟩) (hi : L[i]? = some ⟨g, e', cs, o⟩) (hn : cs.toList.take (m' * size) = news) (hl0 : Nat.ble (m' * size) cs.size = true) (h1 : news.all (·.oneCell') = true)
    (h63 : (m + m') * 140737488355328 ≤ 140737488355328 * 140737488355328) (hbytes : (m + m') * bytes ≤ 140737488355328) (hd : Nat.blt d n = true)
    (k : ∀ v' a' w', Fr n a' ((d, v') :: F) → St w0 L (M.set j ⟨v', e, size, m + m', xs ++ news⟩) w' → wpList P ops Q rest a' w') : wpList P ops Q (⟨some d, .call ⟨.builtin .append, #[s, x], #[t, t]⟩, ty, pos, aft, none⟩ :: rest) a w := by
  refine wpList_plain rfl fun K hK => ?_
  obtain ⟨ti, z, q1, q2, q3, q4, q5, q6, q7⟩ := elemInfo_spec he
  have hl := Nat.le_of_ble_eq_true hl0
  have hlen : news.length = m' * size := by rw [← hn, List.length_take]; simp; omega
  obtain ⟨v', w', hr, hS'⟩ := run_append_st q1 q2 q3 q4 q5 q6 q7 hS j hj (c := c) hlen (by rw [← hn]; exact cells_of_blk (hS.get i hi)) (fun u hu => (List.all_eq_true.1 h1) u hu) (by unfold maxLen; omega) hbytes ty
  unfold Oper.wp execOp
  simp only [resolve, invoke, builtin, Sem.run_bind, Sem.run_pure, Result.andThen_ok, List.map_toArray, List.map_cons, List.map_nil, hA.ev hs, hA.ev hx, hr]
  exact hK _ _ (k v' _ w' (hA.put (blt_lt hd) v') hS')
/-! ### Regions that draw their order -/
section
variable {S : World → Prop} {Ls : List Bk} {Ms : List Rw} {fuel : Nat} {listed : Array Bool}
theorem want_t {o : Oper} {j dj : Nat} {want b : Bool} (hA : Fr n a F) (hgd : o.guard = some (j, want)) (hj : (ops[j]?).bind (·.dst) = some dj) (hb : look F dj = some (.bool b)) (h : b = want) : Region.wanted o (yielded ops a.tmps) = true := by
  rw [wanted_of hA hgd hj hb, h]; cases want <;> rfl
theorem want_f {o : Oper} {j dj : Nat} {want b : Bool} (hA : Fr n a F) (hgd : o.guard = some (j, want)) (hj : (ops[j]?).bind (·.dst) = some dj) (hb : look F dj = some (.bool b)) (h : b = !want) : Region.wanted o (yielded ops a.tmps) = false := by
  rw [wanted_of hA hgd hj hb, h]; cases want <;> rfl
/-- At a panic the post does not look at the slots. -/
def PanicFree (Q : Exit → Act → World → Prop) : Prop := ∀ c a d v w, Q (.panic c) (Act.put a d v) w → Q (.panic c) a w
theorem pf_body {fn : Func} {R : Ending → World → Prop} : PanicFree (bodyPost P fn R) := fun _ a d _ _ h => ⟨by have := h.1; cases d <;> simpa [Act.put] using this, h.2⟩
theorem pf_then {K : Act → World → Prop} (h : PanicFree Q) : PanicFree (Exit.then K Q) := h
theorem pf_block {id : Nat} (h : PanicFree Q) : PanicFree (Exit.inBlock id Q) := h
theorem r_begin {id : Nat} (hm : P.follows .mixedOrders = true) (hS : St w0 Ls Ms w)
    (h : ∀ w', St w0 Ls Ms w' → Below w.heap.size w w' → wpAnyH P .any ops Q (St w0 Ls Ms) ops.size (Array.replicate ops.size false) a w') : (Code.region id ops true).wp P Q a w :=
  wp_region_held hm (h w.drew hS.drew (Below.drew (Below.refl _ _)))
theorem r_take (i : Nat) {d : Nat} {op : Op} {ty : TypeId} {pos : String} {aft : Array Edge} {gd : Option (Nat × Bool)} (v : Value) (hA : Fr n a F) (hS : St w0 Ls Ms w) (hg : Gives P F w0 Ls Ms op v) (hi : ops[i]? = some ⟨some d, op, ty, pos, aft, gd⟩) (hw : Region.wanted ⟨some d, op, ty, pos, aft, gd⟩ (yielded ops a.tmps) = true) (hd : Nat.blt d n = true) (hQ : PanicFree Q)
    (hs : (Region.noSelect ops && Region.free .any ops listed i && (Region.ready .any ops listed).contains i) = true)
    (k : ∀ a', Fr n a' ((d, v) :: F) → wpAnyH P .any ops Q (St w0 Ls Ms) fuel (listed.setIfInBounds i true) a' w) : wpAnyH P .any ops Q (St w0 Ls Ms) (fuel + 1) listed a w := by
  rw [Bool.and_eq_true, Bool.and_eq_true] at hs
  exact wpAnyH_take hi hs.1.1 hs.1.2 hs.2 (fun c a w h => hQ c a _ v w h) (.inl ⟨hw, fun w' hw' => hg n a w' hA hw' _ _ _ _ _⟩) hS (k _ (hA.put (blt_lt hd) v))
theorem r_skip (i : Nat) {d : Nat} {op : Op} {ty : TypeId} {pos : String} {aft : Array Edge} {gd : Option (Nat × Bool)} (hA : Fr n a F) (hS : St w0 Ls Ms w) (hi : ops[i]? = some ⟨some d, op, ty, pos, aft, gd⟩) (hw : Region.wanted ⟨some d, op, ty, pos, aft, gd⟩ (yielded ops a.tmps) = false) (hd : Nat.blt d n = true) (hQ : PanicFree Q)
    (hs : (Region.noSelect ops && Region.free .any ops listed i && (Region.ready .any ops listed).contains i) = true)
    (k : ∀ a', Fr n a' ((d, undef) :: F) → wpAnyH P .any ops Q (St w0 Ls Ms) fuel (listed.setIfInBounds i true) a' w) : wpAnyH P .any ops Q (St w0 Ls Ms) (fuel + 1) listed a w := by
  rw [Bool.and_eq_true, Bool.and_eq_true] at hs
  exact wpAnyH_take hi hs.1.1 hs.1.2 hs.2 (fun c a w h => hQ c a _ undef w h) (.inr ⟨hw, rfl⟩) hS (k _ (hA.put (blt_lt hd) undef))
/-- The operation i comes up now. -/
def RS (P : Program) (ops : Array Oper) (Q : Exit → Act → World → Prop) (S : World → Prop) (fuel : Nat) (listed : Array Bool) (a : Act) (w : World) (i : Nat) : Prop :=
  wpOp P ops Q i (fun a' w' => S w' ∧ wpAnyH P .any ops Q S fuel (listed.setIfInBounds i true) a' w') a w
theorem r_1 {i : Nat} (hr : Region.ready .any ops listed = [i]) (h : RS P ops Q S fuel listed a w i) : wpAnyH P .any ops Q S (fuel + 1) listed a w :=
  wpAnyH_all hr (by simp) fun j hj => by rw [List.mem_singleton] at hj; subst hj; exact h
theorem r_2 {i j : Nat} (hr : Region.ready .any ops listed = [i, j]) (h : RS P ops Q S fuel listed a w i) (h' : RS P ops Q S fuel listed a w j) : wpAnyH P .any ops Q S (fuel + 1) listed a w :=
  wpAnyH_all hr (by simp) fun m hm => by simp only [List.mem_cons, List.not_mem_nil, or_false] at hm; rcases hm with rfl | rfl; exact h; exact h'
theorem r_done (hr : Region.ready .any ops listed = []) (h : Q .normal a w) : wpAnyH P .any ops Q S fuel listed a w := wpAnyH_done hr h fuel
theorem rs_of {i : Nat} {o : Oper} {K : Act → World → Prop} (hi : ops[i]? = some o) (hw : Region.wanted o (yielded ops a.tmps) = true) (h : o.wp P a w K Q) : wpOp P ops Q i K a w := by
  unfold wpOp; simp only [hi, hw, if_true]; exact .inl h
theorem rs_gives {i d : Nat} {op : Op} {ty : TypeId} {pos : String} {aft : Array Edge} {gd : Option (Nat × Bool)} (v : Value) (hA : Fr n a F) (hS : St w0 L M w) (hsub : Ls.Sublist L) (hsm : Ms.Sublist M) (hg : Gives P F w0 L M op v) (hi : ops[i]? = some ⟨some d, op, ty, pos, aft, gd⟩) (hw : Region.wanted ⟨some d, op, ty, pos, aft, gd⟩ (yielded ops a.tmps) = true) (hd : Nat.blt d n = true)
    (k : ∀ a', Fr n a' ((d, v) :: F) → wpAnyH P .any ops Q (St w0 Ls Ms) fuel (listed.setIfInBounds i true) a' w) : RS P ops Q (St w0 Ls Ms) fuel listed a w i := by
  refine rs_of hi hw ?_
  unfold Oper.wp
  rw [hg n a w hA hS]
  exact ⟨hS.sub hsub hsm, k _ (hA.put (blt_lt hd) v)⟩
theorem rs_call {i d : Nat} {f : FuncId} {fx : Operand} {args : List Operand} {ats : Array TypeId} {ty : TypeId} {pos : String} {aft : Array Edge} {gd : Option (Nat × Bool)} {fs cp : Array Value} {r : List (Nat × Value)} (av : Array Value) (v : Value) (hA : Fr n a F) (hS : St w0 L M w) (hsub : Ls.Sublist L) (hsm : Ms.Sublist M)
    (hc : Calls P f av w fun e w' => e = .returned v ∧ Below w.heap.size w w') (hcall : ∀ (as9 : Array Value) (w : World), (callFunc f as9).run P w = .ok (.enter f as9) w)
    (hi : ops[i]? = some ⟨some d, .call ⟨.value fx, args.toArray, ats⟩, ty, pos, aft, gd⟩) (hw : Region.wanted ⟨some d, .call ⟨.value fx, args.toArray, ats⟩, ty, pos, aft, gd⟩ (yielded ops a.tmps) = true)
    (hf : evO F fx = some (.func (.func f) fs cp)) (hr : evL F (args.map fun x => (0, x)) = some r) (hav : fs ++ (r.map (·.2)).toArray ++ cp = av) (hd : Nat.blt d n = true)
    (k : ∀ a' w', Fr n a' ((d, v) :: F) → St w0 L M w' → wpAnyH P .any ops Q (St w0 Ls Ms) fuel (listed.setIfInBounds i true) a' w') : RS P ops Q (St w0 Ls Ms) fuel listed a w i := by
  refine rs_of hi hw ?_
  unfold Oper.wp
  rw [run_call hA hf hr hav hcall]
  refine hc.mono fun e w' ⟨he, hb⟩ => ?_
  subst he
  exact ⟨(hS.kept hb).sub hsub hsm, k _ w' (hA.put (blt_lt hd) _) (hS.kept hb)⟩
theorem rs_alloc {i d : Nat} {t ty : TypeId} {pos : String} {aft : Array Edge} {gd : Option (Nat × Bool)} (cells : Array Value) (hA : Fr n a F) (hS : St w0 L M w) (hsub : Ls.Sublist L) (hsm : Ms.Sublist M) (hz : ((P.info? t).bind (·.zero)).map (·.cells) = some cells) (hi : ops[i]? = some ⟨some d, .alloc t, ty, pos, aft, gd⟩) (hw : Region.wanted ⟨some d, .alloc t, ty, pos, aft, gd⟩ (yielded ops a.tmps) = true) (hd : Nat.blt d n = true)
    (k : ∀ g a' w', Fr n a' ((d, .pointer (some ⟨g, 0, none⟩)) :: F) → St w0 (⟨g, t, cells, true⟩ :: L) M w' → wpAnyH P .any ops Q (St w0 Ls Ms) fuel (listed.setIfInBounds i true) a' w') : RS P ops Q (St w0 Ls Ms) fuel listed a w i := by
  refine rs_of hi hw ?_
  have hn := hS.new (Nat.le_refl _) (Blk.new w t cells) ((Below.refl _ _).alloc (Nat.le_refl _) _)
  have h' := k w.heap.size _ _ (hA.put (blt_lt hd) (.pointer (some ⟨w.heap.size, 0, none⟩))) hn
  unfold Oper.wp execOp
  cases hI : P.info? t with
  | none => simp [hI] at hz
  | some ti =>
    cases hv : ti.zero with
    | none => simp [hI, hv] at hz
    | some v =>
      have hc : v.cells = cells := by simpa [hI, hv] using hz
      simp [Instr.alloc, zeroValue, typeInfo, newVar, newRow, hc, hI, hv]
      exact ⟨hn.tail.sub hsub hsm, h'⟩
theorem rs_bs {i d : Nat} {t ty : TypeId} {len : Nat} {ps : List (Nat × Operand)} {pos : String} {aft : Array Edge} {gd : Option (Nat × Bool)} {r : List (Nat × Value)} {e : TypeId} (cells : Array Value) (hA : Fr n a F) (hS : St w0 L M w) (hsub : Ls.Sublist L) (hsm : Ms.Sublist M) (hp : evL F ps = some r) (hr : bsRow P t len r = some (e, cells)) (hi : ops[i]? = some ⟨some d, .buildSlice t len ps.toArray, ty, pos, aft, gd⟩) (hw : Region.wanted ⟨some d, .buildSlice t len ps.toArray, ty, pos, aft, gd⟩ (yielded ops a.tmps) = true) (hd : Nat.blt d n = true)
    (k : ∀ g a' w', Fr n a' ((d, .slice (some ⟨g, 0, none⟩) len len) :: F) → St w0 (⟨g, e, cells, true⟩ :: L) M w' → wpAnyH P .any ops Q (St w0 Ls Ms) fuel (listed.setIfInBounds i true) a' w') : RS P ops Q (St w0 Ls Ms) fuel listed a w i := by
  refine rs_of hi hw ?_
  have hn := hS.new (Nat.le_refl _) (Blk.new w e cells) ((Below.refl _ _).alloc (Nat.le_refl _) _)
  have h' := k w.heap.size _ _ (hA.put (blt_lt hd) (.slice (some ⟨w.heap.size, 0, none⟩) len len)) hn
  have em : ps.toArray.map (fun (p : Nat × Operand) => (p.1, a.eval p.2)) = r.toArray := by rw [List.map_toArray, evL_map hA hp]
  unfold Oper.wp execOp
  simp only
  show Oper.upon P _ a _ Q (Sem.run P (do pure (Next.value (← Instr.buildSlice t len (ps.toArray.map fun (p : Nat × Operand) => (p.1, a.eval p.2))))) w)
  rw [em, Sem.run_bind, run_buildSlice hr]
  exact ⟨hn.tail.sub hsub hsm, h'⟩
theorem rs_store {i : Nat} {ty : TypeId} {x y : Operand} {ty' : TypeId} {pos : String} {aft : Array Edge} {gd : Option (Nat × Bool)} {g off : Nat} {v : Value} {t : TypeId} {cs : Array Value} (m : Nat) (cs' : Array Value) (hA : Fr n a F) (hS : St w0 L M w) (hsub : Ls.Sublist (L.set m ⟨g, t, cs', true⟩)) (hsm : Ms.Sublist M) (hx : evO F x = some (.pointer (some ⟨g, off, none⟩))) (hy : evO F y = some v) (hb : L[m]? = some ⟨g, t, cs, true⟩) (hv : putVal P ty cs off v = some cs')
    (hi : ops[i]? = some ⟨none, .store ty x y, ty', pos, aft, gd⟩) (hw : Region.wanted ⟨none, .store ty x y, ty', pos, aft, gd⟩ (yielded ops a.tmps) = true)
    (k : ∀ w', St w0 (L.set m ⟨g, t, cs', true⟩) M w' → wpAnyH P .any ops Q (St w0 Ls Ms) fuel (listed.setIfInBounds i true) a w') : RS P ops Q (St w0 Ls Ms) fuel listed a w i := by
  refine rs_of hi hw ?_
  obtain ⟨w', hr, hb', ht⟩ := run_storeVar_blk (P := P) (hS.get m hb) hv
  unfold Oper.wp
  simp only [execOp, hA.ev hx, hA.ev hy, Instr.storeAt, Instr.sureAddr, Sem.run_bind, Sem.run_pure, Result.andThen_ok, hr]
  have hn := hS.set m hb hb' ht
  exact ⟨hn.sub hsub hsm, k w' hn⟩
theorem sub_nil {α : Type} {L : List α} : ([] : List α).Sublist L := List.nil_sublist L
theorem sub_all {α : Type} {L : List α} : L.Sublist L := List.Sublist.refl L
theorem sub_skip {α : Type} {b : α} {L L' : List α} (h : L'.Sublist L) : L'.Sublist (b :: L) := h.cons b
theorem sub_keep {α : Type} {b : α} {L L' : List α} (h : L'.Sublist L) : (b :: L').Sublist (b :: L) := h.cons_cons b
end
/-! ### Control -/
theorem n_then {K : Act → World → Prop} (h : K a w) : Exit.then K Q .normal a w := h
theorem n_block {id : Nat} (h : Q .normal a w) : Exit.inBlock id Q .normal a w := h
theorem r_then {K : Act → World → Prop} (h : Q .ret a w) : Exit.then K Q .ret a w := h
theorem r_block {id : Nat} (h : Q .ret a w) : Exit.inBlock id Q .ret a w := h
theorem x_then {K : Act → World → Prop} {i : Nat} (h : Q (.exit i) a w) : Exit.then K Q (.exit i) a w := h
theorem x_hit {i : Nat} (h : Q .normal a w) : Exit.inBlock i Q (.exit i) a w := by simp only [Exit.inBlock, if_true]; exact h
theorem x_miss {i j : Nat} (hij : Nat.beq j i = false) (h : Q (.exit j) a w) : Exit.inBlock i Q (.exit j) a w := by
  have : ¬ j = i := fun e => by rw [e, Nat.beq_refl] at hij; cases hij
  simp only [Exit.inBlock, this, if_false]; exact h
theorem c_ifb {c : Operand} {x y : Code} {b : Bool} (hA : Fr n a F) (hc : evO F c = some (.bool b)) (ht : b = true → x.wp P Q a w) (hf : b = false → y.wp P Q a w) : (Code.cond c x y).wp P Q a w := wp_cond_split (hA.ev hc) ht hf
theorem c_t {c : Operand} {x y : Code} {b : Bool} (hA : Fr n a F) (hc : evO F c = some (.bool b)) (h : b = true) (k : x.wp P Q a w) : (Code.cond c x y).wp P Q a w := wp_cond_true (by rw [hA.ev hc, h]) k
theorem c_f {c : Operand} {x y : Code} {b : Bool} (hA : Fr n a F) (hc : evO F c = some (.bool b)) (h : b = false) (k : y.wp P Q a w) : (Code.cond c x y).wp P Q a w := wp_cond_false (by rw [hA.ev hc, h]) k
/-- What holds behind a piece of code is fixed first. -/
theorem c_cut {c : Code} (K : Act → World → Prop) (h1 : c.wp P (Exit.then K Q) a w) (h2 : ∀ a w, K a w → Q .normal a w) : c.wp P Q a w :=
  wp_mono h1 fun e a w h => by cases e <;> first | exact h2 _ _ h | exact h
/-- A call that leaves the world alone, or that only draws. -/
theorem sameB {f : FuncId} {av : Array Value} {v : Value} (h : Calls P f av w fun e w' => e = .returned v ∧ w = w') : Calls P f av w fun e w' => e = .returned v ∧ Below w.heap.size w w' :=
  h.mono fun _ _ ⟨he, hw⟩ => ⟨he, hw ▸ Below.refl _ _⟩
theorem drewB {f : FuncId} {av : Array Value} {v : Value} (h : Calls P f av w fun e w' => e = .returned v ∧ ∃ m, w' = w.drewN m) : Calls P f av w fun e w' => e = .returned v ∧ Below w.heap.size w w' :=
  h.mono fun _ _ ⟨he, m, hw⟩ => ⟨he, hw ▸ below_drewN (Below.refl _ _) m⟩
theorem b_nt {b : Bool} (h : b = true) : (!b) = false := by rw [h]; rfl
theorem b_nf {b : Bool} (h : b = false) : (!b) = true := by rw [h]; rfl
theorem b_af1 {b c : Bool} (h : b = false) : (b && c) = false := by rw [h]; rfl
theorem b_ot1 {b c : Bool} (h : b = true) : (b || c) = true := by rw [h]; rfl
theorem b_ot2 {b c : Bool} (h : c = true) : (b || c) = true := by rw [h]; cases b <;> rfl
theorem b_and_t {b x c : Bool} (h : b = true) (e : x = c) : (b && x) = c := by rw [h, e]; rfl
theorem b_or_f {b x c : Bool} (h : b = false) (e : x = c) : (b || x) = c := by rw [h, e]; rfl
theorem by_bool {p : Prop} (b : Bool) (ht : b = true → p) (hf : b = false → p) : p := by cases b; exact hf rfl; exact ht rfl
/-- A loop whose rounds are counted by a state of their own. -/
theorem c_loop {c : Code} {ι : Type} (I : ι → Act → World → Prop) (μ : ι → Nat) (i0 : ι) (h0 : I i0 a w)
    (round : ∀ i a w, I i a w → c.wp P (Exit.then (fun a' w' => ∃ j, I j a' w' ∧ μ j < μ i) Q) a w) : (Code.loop c).wp P Q a w := by
  intro b k cs
  have key : ∀ m i a w, μ i = m → I i a w → ∃ e a' w', Q e a' w' ∧ Arrives P (lone (b.at a (.code c :: .inLoop c :: k)) cs w) b k cs e a' w' := by
    intro m
    induction m using Nat.strongRecOn with
    | _ m ih =>
      intro i a w hm hI
      obtain ⟨e, a₁, w₁, hq, harr⟩ := round i a w hI b (.inLoop c :: k) cs
      cases e with
      | normal =>
        obtain ⟨j, hJ, hlt⟩ := hq
        obtain ⟨e₂, a₂, w₂, hq₂, harr₂⟩ := ih (μ j) (hm ▸ hlt) j a₁ w₁ rfl hJ
        exact ⟨e₂, a₂, w₂, hq₂, .of_steps (Steps.trans harr (.one step_inLoop)) harr₂⟩
      | exit id => exact ⟨_, a₁, w₁, hq, .pass (x := .inLoop c) rfl (fun _ _ => .inl (by simp)) harr⟩
      | goto l => exact ⟨_, a₁, w₁, hq, .pass (x := .inLoop c) rfl (fun _ _ => .inl (by simp)) harr⟩
      | ret => exact ⟨_, a₁, w₁, hq, .pass (x := .inLoop c) rfl (fun _ _ => .inl (by simp)) harr⟩
      | panic ch => exact ⟨_, a₁, w₁, hq, .pass (x := .inLoop c) rfl (fun _ _ => .inl (by simp)) harr⟩
      | outgrown => exact ⟨_, a₁, w₁, hq, .pass (x := .inLoop c) rfl (fun _ _ => .inl (by simp)) harr⟩
  obtain ⟨e, a', w', hq, harr⟩ := key _ i0 a w rfl h0
  exact ⟨e, a', w', hq, .of_steps (.one step_loop) harr⟩
theorem c_loopN {c : Code} (I : Nat → Act → World → Prop) (i0 : Nat) (h0 : I i0 a w)
    (round : ∀ i a w, I i a w → c.wp P (Exit.then (fun a' w' => ∃ j, I j a' w' ∧ j < i) Q) a w) : (Code.loop c).wp P Q a w := c_loop I id i0 h0 round
/-! ### The end -/
def resVal (P : Program) (F : Fm) (L : List Bk) : ResultVar → Value → Prop
  | .tmp p, v => look F p = some v
  | .cell p ty, v => ∃ (g off i : Nat) (t : TypeId) (cs : Array Value) (o : Bool), look F p = some (.pointer (some ⟨g, off, none⟩)) ∧ L[i]? = some ⟨g, t, cs, o⟩ ∧ rowVal P ty cs off = some v
theorem rv_tmp {p : Nat} {v : Value} (h : look F p = some v) : resVal P F L (.tmp p) v := h
theorem rv_cell {p : Nat} {ty : TypeId} {v : Value} {g off : Nat} (i : Nat) {t : TypeId} {cs : Array Value} {o : Bool} (h : look F p = some (.pointer (some ⟨g, off, none⟩))) (hb : L[i]? = some ⟨g, t, cs, o⟩) (hv : rowVal P ty cs off = some v) : resVal P F L (.cell p ty) v := ⟨g, off, i, t, cs, o, h, hb, hv⟩
def rvRun (tmps : Array Value) : ResultVar → Sem Value
  | .tmp t => pure (tmps.getD t undef)
  | .cell p t => do loadVar t (← asAddr (tmps.getD p undef))
theorem results_eq (fn : Func) (tmps : Array Value) : results fn tmps = (do let vs ← fn.results.mapM (rvRun tmps); pure (if h : vs.size = 1 then vs[0] else .tuple vs)) := rfl
theorem run_resVal (hA : Fr n a F) (hS : St w0 L M w) {r : ResultVar} {v : Value} (h : resVal P F L r v) : (rvRun a.tmps r).run P w = .ok v w := by
  cases r with
  | tmp p => have := hA.val p v h; simp [rvRun, this]
  | cell p ty =>
    obtain ⟨g, off, i, t, cs, o, h1, h2, h3⟩ := h
    have := hA.val p _ h1
    simp [rvRun, this, asAddr, run_loadVar_rowVal (hS.get i h2) h3]
theorem fin1 {fn : Func} {R : Ending → World → Prop} {r : ResultVar} (v : Value) (hres : fn.results = #[r]) {m0 : Nat} (hA : Fr ⟨m0, []⟩ a F) (hS : St w0 L M w) (h : resVal P F L r v) (hR : R (.returned v) w) : bodyPost P fn R .ret a w := by
  refine bodyPost_ret (v := v) ?_ hA.def_ hR
  rw [results_eq, hres]
  simp [run_resVal hA hS h]
theorem fin2 {fn : Func} {R : Ending → World → Prop} {r s : ResultVar} (v u : Value) (hres : fn.results = #[r, s]) {m0 : Nat} (hA : Fr ⟨m0, []⟩ a F) (hS : St w0 L M w) (h : resVal P F L r v) (h' : resVal P F L s u) (hR : R (.returned (.tuple #[v, u])) w) : bodyPost P fn R .ret a w := by
  refine bodyPost_ret (v := .tuple #[v, u]) ?_ hA.def_ hR
  rw [results_eq, hres]
  simp [run_resVal hA hS h, run_resVal hA hS h']
/-! ### Numbers -/
theorem b_add {t : TypeId} {x y : Int} (h : -9223372036854775808 ≤ x + y ∧ x + y ≤ 9223372036854775807) (w : World) : (binOp .add t (.int .i64 x) (.int .i64 y)).run P w = .ok (.int .i64 (x + y)) w := by
  show Result.ok (Value.int .i64 (IntKind.i64.wrap (x + y))) w = _; rw [IntWalk.i64_in _ h]
theorem b_sub {t : TypeId} {x y : Int} (h : -9223372036854775808 ≤ x - y ∧ x - y ≤ 9223372036854775807) (w : World) : (binOp .sub t (.int .i64 x) (.int .i64 y)).run P w = .ok (.int .i64 (x - y)) w := by
  show Result.ok (Value.int .i64 (IntKind.i64.wrap (x - y))) w = _; rw [IntWalk.i64_in _ h]
theorem b_mul {t : TypeId} {x y : Int} (h : -9223372036854775808 ≤ x * y ∧ x * y ≤ 9223372036854775807) (w : World) : (binOp .mul t (.int .i64 x) (.int .i64 y)).run P w = .ok (.int .i64 (x * y)) w := by
  show Result.ok (Value.int .i64 (IntKind.i64.wrap (x * y))) w = _; rw [IntWalk.i64_in _ h]
theorem b_rem {t : TypeId} {x y : Int} (hy : y ≠ 0) (w : World) : (binOp .rem t (.int .i64 x) (.int .i64 y)).run P w = .ok (.int .i64 (x.tmod y)) w := by
  show (Op.intDiv .rem .i64 x y).run P w = _
  simp only [Op.intDiv, hy, if_false]
  rfl
theorem b_eql {k : IntKind} {t : TypeId} {x y : Int} (w : World) : (binOp .eql t (.int k x) (.int k y)).run P w = .ok (.bool (decide (x = y))) w := by
  have : (binOp .eql t (.int k x) (.int k y)).run P w = .ok (.bool (x == y)) w := by cases k <;> rfl
  rw [this, show (x == y) = decide (x = y) from rfl]
theorem b_neq {k : IntKind} {t : TypeId} {x y : Int} (w : World) : (binOp .neq t (.int k x) (.int k y)).run P w = .ok (.bool (decide (x ≠ y))) w := by
  have : (binOp .neq t (.int k x) (.int k y)).run P w = .ok (.bool (x != y)) w := by cases k <;> rfl
  rw [this, show (x != y) = decide (x ≠ y) by by_cases h : x = y <;> simp [h]]
theorem u_neg {x : Int} (h : -9223372036854775808 ≤ -x ∧ -x ≤ 9223372036854775807) (w : World) : (Op.unary .neg (.int .i64 x)).run P w = .ok (.int .i64 (-x)) w := by
  show Result.ok (Value.int .i64 (IntKind.i64.wrap (0 - x))) w = _; rw [Int.zero_sub, IntWalk.i64_in _ h]
end
end Go.Cpl
namespace Go.Cpl
open Ieee
/-- Units: every finite number of both formats is a whole multiple of 2 ^ -1074. -/
def K : Nat := 1074
theorem K_eq : K = 1074 := rfl
def U : Nat := 2 ^ K
theorem U_pos : 0 < U := Nat.two_pow_pos _
theorem shl (m k : Nat) : m <<< k = m * 2 ^ k := Nat.shiftLeft_eq m k
theorem signed_add (s : Bool) (m a k : Nat) : signed s m (a + k) = signed s m a * ((2 ^ k : Nat) : Int) := by
  unfold signed
  rw [shl, shl, Nat.pow_add, ← Nat.mul_assoc]
  cases s
  · simp only [Bool.false_eq_true, if_false]; exact Int.natCast_mul _ _
  · simp only [if_true]; rw [Int.natCast_mul, Int.neg_mul]
theorem cmp_mul (a b : Int) (c : Nat) (h : 0 < c) : compare (a * (c : Int)) (b * (c : Int)) = compare a b := by
  have hc : (0 : Int) < (c : Int) := by omega
  simp only [compare, compareOfLessAndEq]
  by_cases h1 : a < b
  · rw [if_pos h1, if_pos (Int.mul_lt_mul_of_pos_right h1 hc)]
  · rw [if_neg h1, if_neg (fun h2 => h1 (Int.lt_of_mul_lt_mul_right h2 (Int.le_of_lt hc)))]
    by_cases h3 : a = b
    · rw [if_pos h3, if_pos (by rw [h3])]
    · rw [if_neg h3, if_neg (fun h4 => h3 (Int.eq_of_mul_eq_mul_right (by omega) h4))]
/-- The number that a datum stands for, in units. -/
def sc : Datum → Option Int
  | .number s m i => some (signed s m (i + 1074).toNat)
  | _ => none
/-- A datum whose place is not below the least one of both formats. -/
def Fit : Datum → Prop
  | .number _ _ i => -1074 ≤ i
  | _ => True
theorem order_num (s t : Bool) (m n : Nat) (i j : Int) (hi : -1074 ≤ i) (hj : -1074 ≤ j) :
    Datum.order (.number s m i) (.number t n j) = some (compare (signed s m (i + 1074).toNat) (signed t n (j + 1074).toNat)) := by
  simp only [Datum.order]
  have e1 : (i + 1074).toNat = (i - min i j).toNat + (min i j + 1074).toNat := by omega
  have e2 : (j + 1074).toNat = (j - min i j).toNat + (min i j + 1074).toNat := by omega
  rw [e1, e2, signed_add, signed_add, cmp_mul _ _ _ (Nat.two_pow_pos _)]
theorem order_sc {d e : Datum} {a b : Int} (hd : Fit d) (he : Fit e) (ha : sc d = some a) (hb : sc e = some b) : Datum.order d e = some (compare a b) := by
  cases d with
  | number s m i =>
    cases e with
    | number t n j =>
      simp only [sc, Option.some.injEq] at ha hb
      rw [order_num s t m n i j hd he, ha, hb]
    | infinity _ => simp [sc] at hb
    | nan _ _ => simp [sc] at hb
  | infinity _ => simp [sc] at ha
  | nan _ _ => simp [sc] at ha
theorem cut_even_zero (neg : Bool) (n : Nat) : Toward.even.cut neg n 0 = n := by
  simp [Toward.cut, Nat.mod_one]
theorem cut_zero (neg : Bool) (n drop : Nat) : Toward.zero.cut neg n drop = n / 2 ^ drop := by
  simp only [Toward.cut, Bool.toNat_false, Nat.add_zero]
  rw [shl, Nat.one_mul]
  by_cases h : drop ≤ n.log2 + 2
  · rw [Nat.min_eq_left h]
  · rw [Nat.min_eq_right (by omega)]
    have h1 : n < 2 ^ (n.log2 + 1) := Nat.lt_log2_self
    have h2 : 2 ^ (n.log2 + 1) ≤ 2 ^ (n.log2 + 2) := Nat.pow_le_pow_right (by omega) (by omega)
    have h3 : 2 ^ (n.log2 + 2) ≤ 2 ^ drop := Nat.pow_le_pow_right (by omega) (by omega)
    rw [Nat.div_eq_of_lt (by omega), Nat.div_eq_of_lt (by omega)]
theorem tdiv_signed (s : Bool) (n d : Nat) : Int.tdiv (signed s n 0) (d : Int) = signed s (n / d) 0 := by
  unfold signed
  rw [shl, shl, Nat.pow_zero, Nat.mul_one, Nat.mul_one]
  cases s
  · simp only [Bool.false_eq_true, if_false]; exact (Int.ofNat_tdiv n d).symm
  · simp only [if_true]; rw [Int.neg_tdiv]; congr 1
theorem signed_zero (s : Bool) (m k : Nat) : signed s m k = signed s (m * 2 ^ k) 0 := by
  unfold signed
  rw [shl, shl, Nat.pow_zero, Nat.mul_one]
theorem div_pow_add (m a k : Nat) : m * 2 ^ a / 2 ^ (a + k) = m / 2 ^ k := by
  rw [Nat.pow_add, Nat.mul_comm m, Nat.mul_div_mul_left _ _ (Nat.two_pow_pos _)]
/-- Truncation. -/
theorem toInt_sc {d : Datum} {a : Int} (hd : Fit d) (ha : sc d = some a) : d.toInt .zero = some (Int.tdiv a (U : Int)) := by
  cases d with
  | number s m i =>
    simp only [sc, Option.some.injEq] at ha
    subst ha
    have hi : -1074 ≤ i := hd
    simp only [Datum.toInt, Datum.integral, cut_zero]
    rw [signed_zero s m, tdiv_signed, shl]
    congr 2
    unfold U
    by_cases h : 0 ≤ i
    · have e1 : (-i).toNat = 0 := by omega
      have e2 : (i + 1074).toNat = i.toNat + K := by rw [K_eq]; omega
      rw [e1, e2, Nat.pow_zero, Nat.div_one, Nat.pow_add, ← Nat.mul_assoc, Nat.mul_div_cancel _ (Nat.two_pow_pos _)]
    · have e1 : i.toNat = 0 := by omega
      have e2 : (i + 1074).toNat + (-i).toNat = K := by rw [K_eq]; omega
      rw [e1, Nat.pow_zero, Nat.mul_one, ← e2, div_pow_add]
  | infinity _ => simp [sc] at ha
  | nan _ _ => simp [sc] at ha
/-! Small whole numbers, and numbers of the narrower format, are written exactly. -/
theorem read_word (f : Format) (neg : Bool) (rung : Nat) (h : rung < f.signWeight) :
    f.read (f.word neg rung) = (if rung < f.binade then .number neg rung f.leastPlace
      else if rung < f.infRung then .number neg (f.binade + rung % f.binade) (f.leastPlace + (rung / f.binade - 1 : Nat))
      else if rung = f.infRung then .infinity neg else .nan neg (rung - f.infRung)) := by
  have hn : (f.word neg rung / f.signWeight % 2 == 1) = neg := by
    unfold Format.word
    cases neg
    · simp [Nat.div_eq_of_lt h]
    · simp only [if_true]
      rw [Nat.add_comm, Nat.add_div_right _ (by omega), Nat.div_eq_of_lt h]; rfl
  have hr : f.word neg rung % f.signWeight = rung := by
    unfold Format.word
    cases neg
    · simp [Nat.mod_eq_of_lt h]
    · simp only [if_true]
      rw [Nat.add_mod_left, Nat.mod_eq_of_lt h]
  simp only [Format.read, hn, hr]
theorem nearest_exact (f : Format) (neg : Bool) (mag : Nat) (place : Int) (hm : mag ≠ 0) (hL : mag.log2 ≤ f.fractionBits)
    (hlo : f.leastPlace ≤ place + mag.log2 - f.fractionBits) (hhi : place + mag.log2 - f.fractionBits - f.leastPlace + 2 ≤ ((2 ^ f.exponentBits - 1 : Nat) : Int)) :
    f.read (f.nearest neg mag place) = .number neg (mag * 2 ^ (f.fractionBits - mag.log2)) (place + mag.log2 - f.fractionBits) := by
  have hlast : max (place + (mag.log2 : Int) - f.fractionBits) f.leastPlace = place + mag.log2 - f.fractionBits := by omega
  simp only [Format.nearest, if_neg hm, hlast]
  have e1 : (place - (place + (mag.log2 : Int) - f.fractionBits)).toNat = f.fractionBits - mag.log2 := by omega
  have e2 : (place + (mag.log2 : Int) - f.fractionBits - place).toNat = 0 := by omega
  rw [e1, e2, cut_even_zero, shl]
  generalize hd : (place + (mag.log2 : Int) - f.fractionBits - f.leastPlace).toNat = d
  have hdi : (d : Int) = place + (mag.log2 : Int) - f.fractionBits - f.leastPlace := by omega
  generalize hk : mag * 2 ^ (f.fractionBits - mag.log2) = kept
  have hk1 : f.binade ≤ kept := by
    rw [← hk]; unfold Format.binade
    have h1 : 2 ^ mag.log2 ≤ mag := Nat.log2_self_le hm
    have h2 : 2 ^ f.fractionBits = 2 ^ mag.log2 * 2 ^ (f.fractionBits - mag.log2) := by rw [← Nat.pow_add]; congr 1; omega
    rw [h2]; exact Nat.mul_le_mul_right _ h1
  have hk2 : kept < 2 * f.binade := by
    rw [← hk]; unfold Format.binade
    have h1 : mag < 2 ^ (mag.log2 + 1) := Nat.lt_log2_self
    have h2 : 2 * 2 ^ f.fractionBits = 2 ^ (mag.log2 + 1) * 2 ^ (f.fractionBits - mag.log2) := by rw [← Nat.pow_add, Nat.mul_comm, ← Nat.pow_succ]; congr 1; omega
    rw [h2]; exact Nat.mul_lt_mul_of_pos_right h1 (Nat.two_pow_pos _)
  have hdR : d + 2 ≤ 2 ^ f.exponentBits - 1 := by omega
  have hb : 0 < f.binade := Nat.two_pow_pos _
  have hinf : (d + 2) * f.binade ≤ f.infRung := Nat.mul_le_mul_right _ hdR
  have hlt : d * f.binade + kept < f.infRung := by
    have : (d + 2) * f.binade = d * f.binade + 2 * f.binade := Nat.add_mul d 2 _
    omega
  rw [Nat.min_eq_left (Nat.le_of_lt hlt), read_word f neg _ (Nat.lt_trans hlt f.infRung_lt)]
  have hge : f.binade ≤ d * f.binade + kept := Nat.le_trans hk1 (Nat.le_add_left _ _)
  rw [if_neg (by omega), if_pos hlt]
  have hdiv : (d * f.binade + kept) / f.binade = d + 1 := by
    rw [Nat.add_comm, Nat.add_mul_div_right _ _ hb, show kept / f.binade = 1 from Nat.div_eq_of_lt_le (by omega) (by omega)]; omega
  have hmod : (d * f.binade + kept) % f.binade = kept - f.binade := by
    rw [Nat.add_comm, Nat.add_mul_mod_self_right, Nat.mod_eq_sub_mod hk1, Nat.mod_eq_of_lt (by omega)]
  rw [hdiv, hmod]
  congr 1
  · omega
  · omega
theorem sc_nearest (f : Format) (neg : Bool) (mag : Nat) (place : Int) (hm : mag ≠ 0) (hL : mag.log2 ≤ f.fractionBits)
    (hlo : f.leastPlace ≤ place + mag.log2 - f.fractionBits) (hhi : place + mag.log2 - f.fractionBits - f.leastPlace + 2 ≤ ((2 ^ f.exponentBits - 1 : Nat) : Int)) (hp : -1074 ≤ f.leastPlace) :
    sc (f.read (f.nearest neg mag place)) = some (signed neg mag (place + 1074).toNat) ∧ Fit (f.read (f.nearest neg mag place)) := by
  rw [nearest_exact f neg mag place hm hL hlo hhi]
  refine ⟨?_, by show (-1074 : Int) ≤ _; omega⟩
  simp only [sc, Option.some.injEq]
  rw [signed_zero neg mag, signed_zero, Nat.mul_assoc, ← Nat.pow_add]
  congr 3
  omega
theorem single_least : single.leastPlace = -149 := by decide
theorem double_least : double.leastPlace = -1074 := by decide
theorem single_binade : single.binade = 8388608 := by decide
theorem single_inf : single.infRung = 2139095040 := by decide
theorem single_sign : single.signWeight = 2147483648 := by decide
theorem signed_natAbs (s : Bool) (m k : Nat) : (signed s m k).natAbs = m * 2 ^ k := by
  unfold signed
  rw [shl]
  cases s
  · simp only [Bool.false_eq_true, if_false]; exact Int.natAbs_natCast _
  · simp only [if_true]; rw [Int.natAbs_neg]; exact Int.natAbs_natCast _
theorem fit_of_least (f : Format) (h : -1074 ≤ f.leastPlace) (x : Nat) : Fit (f.read x) := by
  simp only [Format.read]
  split
  · exact h
  · split
    · show (-1074 : Int) ≤ _; omega
    · split <;> exact trivial
theorem fit32 (x : Nat) : Fit (single.read x) := fit_of_least _ (by rw [single_least]; omega) x
theorem fit64 (x : Nat) : Fit (double.read x) := fit_of_least _ (by rw [double_least]; omega) x
/-- The finite words of the narrower format. -/
theorem shape32 {x : Nat} {s : Bool} {m : Nat} {i : Int} (h : single.read x = .number s m i) : m < 16777216 ∧ -149 ≤ i ∧ i ≤ 104 := by
  simp only [Format.read, single_least, single_binade, single_inf, single_sign] at h
  split at h
  · injection h with _ h2 h3; omega
  · split at h
    · injection h with _ h2 h3; omega
    · split at h <;> cases h
/-- A float that is so great is whole. -/
theorem whole32 {x : Nat} {v : Int} (h : sc (single.read x) = some v) (hv : 16777216 * U ≤ v.natAbs) : Int.tdiv v (U : Int) * (U : Int) = v := by
  cases hd : single.read x with
  | number s m i =>
    rw [hd] at h
    simp only [sc, Option.some.injEq] at h
    subst h
    obtain ⟨hm, hi, _⟩ := shape32 hd
    rw [signed_natAbs] at hv
    by_cases h0 : 0 ≤ i
    · have e : (i + 1074).toNat = i.toNat + K := by rw [K_eq]; omega
      rw [e, signed_add]
      unfold U
      rw [Int.mul_tdiv_cancel _ (by have := Nat.two_pow_pos K; omega)]
    · exfalso
      have h1 : 2 ^ (i + 1074).toNat ≤ U := Nat.pow_le_pow_right (by omega) (by rw [K_eq]; omega)
      have h2 : m * 2 ^ (i + 1074).toNat ≤ m * U := Nat.mul_le_mul_left _ h1
      have h3 : m * U < 16777216 * U := Nat.mul_lt_mul_of_pos_right hm U_pos
      omega
  | infinity _ => rw [hd] at h; simp [sc] at h
  | nan _ _ => rw [hd] at h; simp [sc] at h
theorem signed_int (n : Int) (k : Nat) : signed (decide (n < 0)) n.natAbs k = n * ((2 ^ k : Nat) : Int) := by
  have := signed_add (decide (n < 0)) n.natAbs 0 k
  rw [Nat.zero_add] at this
  rw [this]
  congr 1
  unfold signed
  rw [shl, Nat.pow_zero, Nat.mul_one]
  by_cases h : n < 0 <;> simp only [h, decide_true, decide_false, if_true, Bool.false_eq_true, if_false] <;> omega
theorem read_zero (f : Format) : f.read 0 = .number false 0 f.leastPlace := by
  have hb : 0 < f.binade := Nat.two_pow_pos _
  simp only [Format.read, Nat.zero_div, Nat.zero_mod, if_pos hb]
  rfl
theorem log2_le_of_lt {n k : Nat} (h : n < 2 ^ (k + 1)) (hn : n ≠ 0) : n.log2 ≤ k := by
  have := (Nat.log2_lt hn).2 h
  omega
/-- float32(n), float64(n) of small whole numbers are exact. -/
theorem sc_f32 (n : Int) (h : n.natAbs < 16777216) : sc (single.read (floatOfInt .f32 n)) = some (n * (U : Int)) := by
  unfold floatOfInt FloatKind.nearest FloatKind.encode
  show sc (single.read (single.nearest (decide (n < 0)) n.natAbs 0)) = _
  by_cases h0 : n = 0
  · subst h0
    show sc (single.read 0) = _
    rw [read_zero]
    simp [sc, signed]
  · have hL : n.natAbs.log2 ≤ 23 := log2_le_of_lt (by omega) (by omega)
    have h1 := (sc_nearest single (decide (n < 0)) n.natAbs 0 (by omega) hL (by rw [single_least]; show (-149 : Int) ≤ 0 + (n.natAbs.log2 : Int) - (23 : Nat); omega) (by rw [single_least]; show (0 : Int) + (n.natAbs.log2 : Int) - (23 : Nat) - -149 + 2 ≤ ((255 : Nat) : Int); omega) (by rw [single_least]; omega)).1
    have e : ((0 : Int) + 1074).toNat = K := by rw [K_eq]; omega
    rw [h1, signed_int, e]
    unfold U
    rfl
theorem sc_f64 (n : Int) (h : n.natAbs < 9007199254740992) : sc (double.read (floatOfInt .f64 n)) = some (n * (U : Int)) := by
  unfold floatOfInt FloatKind.nearest FloatKind.encode
  show sc (double.read (double.nearest (decide (n < 0)) n.natAbs 0)) = _
  by_cases h0 : n = 0
  · subst h0
    show sc (double.read 0) = _
    rw [read_zero]
    simp [sc, signed]
  · have hL : n.natAbs.log2 ≤ 52 := log2_le_of_lt (by omega) (by omega)
    have h1 := (sc_nearest double (decide (n < 0)) n.natAbs 0 (by omega) hL (by rw [double_least]; show (-1074 : Int) ≤ 0 + (n.natAbs.log2 : Int) - (52 : Nat); omega) (by rw [double_least]; show (0 : Int) + (n.natAbs.log2 : Int) - (52 : Nat) - -1074 + 2 ≤ ((2047 : Nat) : Int); omega) (by rw [double_least]; omega)).1
    have e : ((0 : Int) + 1074).toNat = K := by rw [K_eq]; omega
    rw [h1, signed_int, e]
    unfold U
    rfl
/-- Widening keeps the number. -/
theorem widen (s : Bool) (m : Nat) (i : Int) (hm : m < 16777216) (h1 : -149 ≤ i) (h2 : i ≤ 104) :
    sc (double.read (FloatKind.encode .f64 (.number s m i))) = some (signed s m (i + 1074).toNat) ∧ (double.read (FloatKind.encode .f64 (.number s m i))).isInfinity = false := by
  show sc (double.read (double.nearest s m i)) = _ ∧ (double.read (double.nearest s m i)).isInfinity = false
  by_cases h0 : m = 0
  · subst h0
    have e : double.read (double.nearest s 0 i) = .number s 0 (-1074) := by
      show double.read (double.word s 0) = _
      rw [read_word double s 0 (Nat.two_pow_pos _), if_pos (show 0 < double.binade from Nat.two_pow_pos _), double_least]
    rw [e]
    refine ⟨?_, rfl⟩
    simp [sc, signed]
  · have hL : m.log2 ≤ 23 := log2_le_of_lt (by omega) h0
    have g1 : m.log2 ≤ double.fractionBits := by show m.log2 ≤ 52; omega
    have g2 : double.leastPlace ≤ i + m.log2 - double.fractionBits := by rw [double_least]; show (-1074 : Int) ≤ i + (m.log2 : Int) - (52 : Nat); omega
    have g3 : i + m.log2 - double.fractionBits - double.leastPlace + 2 ≤ ((2 ^ double.exponentBits - 1 : Nat) : Int) := by rw [double_least]; show i + (m.log2 : Int) - (52 : Nat) - -1074 + 2 ≤ ((2047 : Nat) : Int); omega
    refine ⟨(sc_nearest double s m i h0 g1 g2 g3 (by rw [double_least]; omega)).1, ?_⟩
    rw [nearest_exact double s m i h0 g1 g2 g3]
    rfl
/-- x - x of a finite number. -/
theorem sub_self_num (f : Format) {x : Nat} {s : Bool} {m : Nat} {i : Int} (h : f.read x = .number s m i) : f.sub x x = some 0 := by
  have hs : ∀ k, signed s m k + signed (!s) m k = 0 := by intro k; unfold signed; cases s <;> simp <;> omega
  simp only [Format.sub, h, Datum.opposite, Datum.sum, Int.min_self, hs, if_true, Option.map_some, Option.some.injEq]
  show f.nearest _ 0 _ = 0
  cases s <;> rfl
theorem log2_shift (m k : Nat) (hm : m ≠ 0) : (m * 2 ^ k).log2 = m.log2 + k := by
  have h0 : m * 2 ^ k ≠ 0 := Nat.mul_ne_zero hm (Nat.pos_iff_ne_zero.1 (Nat.two_pow_pos _))
  refine (Nat.log2_eq_iff h0).2 ⟨?_, ?_⟩
  · rw [Nat.pow_add]; exact Nat.mul_le_mul_right _ (Nat.log2_self_le hm)
  · rw [show m.log2 + k + 1 = m.log2 + 1 + k by omega, Nat.pow_add]
    exact Nat.mul_lt_mul_of_pos_right Nat.lt_log2_self (Nat.two_pow_pos _)
theorem cut_even_exact (neg : Bool) (a d : Nat) (ha : a ≠ 0) : Toward.even.cut neg (a * 2 ^ d) d = a := by
  simp only [Toward.cut]
  rw [log2_shift a d ha, Nat.min_eq_left (by omega), shl, Nat.one_mul, Nat.mul_div_cancel _ (Nat.two_pow_pos _), Nat.mul_mod_left]
  have h1 : decide (2 ^ d < 2 * 0) = false := by simp
  have h2 : (2 ^ d == 2 * 0) = false := by simp
  rw [h1, h2]; simp
/-- A number written with zeros at its end. -/
theorem nearest_shift (f : Format) (neg : Bool) (m k : Nat) (place : Int) (hm : m ≠ 0) (hL : m.log2 ≤ f.fractionBits) (hlo : f.leastPlace ≤ place + k + m.log2 - f.fractionBits) :
    f.nearest neg (m * 2 ^ k) place = f.nearest neg m (place + k) := by
  have h0 : m * 2 ^ k ≠ 0 := Nat.mul_ne_zero hm (Nat.pos_iff_ne_zero.1 (Nat.two_pow_pos _))
  simp only [Format.nearest, if_neg h0, if_neg hm, log2_shift m k hm]
  have hl1 : max (place + ((m.log2 + k : Nat) : Int) - f.fractionBits) f.leastPlace = place + k + m.log2 - f.fractionBits := by omega
  have hl2 : max (place + (k : Int) + (m.log2 : Int) - f.fractionBits) f.leastPlace = place + k + m.log2 - f.fractionBits := by omega
  rw [hl1, hl2]
  have e2 : (place + (k : Int) + (m.log2 : Int) - f.fractionBits - (place + k)).toNat = 0 := by omega
  have e1 : (place + (k : Int) - (place + (k : Int) + (m.log2 : Int) - f.fractionBits)).toNat = f.fractionBits - m.log2 := by omega
  rw [e2, e1, cut_even_zero]
  have key : Toward.even.cut neg ((m * 2 ^ k) <<< (place - (place + (k : Int) + (m.log2 : Int) - f.fractionBits)).toNat) (place + (k : Int) + (m.log2 : Int) - f.fractionBits - place).toNat = m <<< (f.fractionBits - m.log2) := by
    rw [shl, shl]
    by_cases h : k + m.log2 ≤ f.fractionBits
    · have e3 : (place + (k : Int) + (m.log2 : Int) - f.fractionBits - place).toNat = 0 := by omega
      have e4 : (place - (place + (k : Int) + (m.log2 : Int) - f.fractionBits)).toNat = f.fractionBits - m.log2 - k := by omega
      rw [e3, e4, cut_even_zero, Nat.mul_assoc, ← Nat.pow_add]
      congr 2; omega
    · have e3 : (place + (k : Int) + (m.log2 : Int) - f.fractionBits - place).toNat = k + m.log2 - f.fractionBits := by omega
      have e4 : (place - (place + (k : Int) + (m.log2 : Int) - f.fractionBits)).toNat = 0 := by omega
      rw [e3, e4, Nat.pow_zero, Nat.mul_one]
      have e5 : m * 2 ^ k = (m * 2 ^ (f.fractionBits - m.log2)) * 2 ^ (k + m.log2 - f.fractionBits) := by
        rw [Nat.mul_assoc, ← Nat.pow_add]; congr 2; omega
      rw [e5, cut_even_exact _ _ _ (Nat.mul_ne_zero hm (Nat.pos_iff_ne_zero.1 (Nat.two_pow_pos _)))]
  rw [key]
/-- float64(n) of a whole number that is a float32 is exact. -/
theorem sc_f64_wide (s : Bool) (m k : Nat) (hm : m < 16777216) (hk : k ≤ 104) : sc (double.read (floatOfInt .f64 (signed s m k))) = some (signed s m k * (U : Int)) := by
  by_cases h0 : m = 0
  · subst h0
    have e : signed s 0 k = 0 := by simp [signed]
    rw [e]
    exact sc_f64 0 (by decide)
  · have hp : 0 < m * 2 ^ k := Nat.mul_pos (by omega) (Nat.two_pow_pos _)
    have hneg : decide (signed s m k < 0) = s := by
      unfold signed; rw [shl]; cases s
      · simp only [Bool.false_eq_true, if_false, decide_eq_false_iff_not]; omega
      · simp only [if_true, decide_eq_true_eq]; omega
    have hL : m.log2 ≤ 23 := log2_le_of_lt (by omega) h0
    have g1 : m.log2 ≤ double.fractionBits := by show m.log2 ≤ 52; omega
    have g2 : double.leastPlace ≤ 0 + (k : Int) + m.log2 - double.fractionBits := by rw [double_least]; show (-1074 : Int) ≤ 0 + (k : Int) + (m.log2 : Int) - (52 : Nat); omega
    have g3 : 0 + (k : Int) + m.log2 - double.fractionBits - double.leastPlace + 2 ≤ ((2 ^ double.exponentBits - 1 : Nat) : Int) := by rw [double_least]; show 0 + (k : Int) + (m.log2 : Int) - (52 : Nat) - -1074 + 2 ≤ ((2047 : Nat) : Int); omega
    unfold floatOfInt FloatKind.nearest FloatKind.encode
    show sc (double.read (double.nearest (decide (signed s m k < 0)) (signed s m k).natAbs 0)) = _
    rw [hneg, signed_natAbs, nearest_shift double s m k 0 h0 g1 g2, (sc_nearest double s m (0 + k) h0 g1 g2 g3 (by rw [double_least]; omega)).1]
    have e : ((0 : Int) + (k : Int) + 1074).toNat = k + K := by rw [K_eq]; omega
    rw [e, signed_add]
    unfold U
    rfl
end Go.Cpl
namespace Go.Cpl
open Ieee
/-- The number of a float32 word in units, if it is finite. -/
def fv (x : Nat) : Option Int := sc (single.read x)
/-- Its whole part. -/
def num (x : Nat) : Int := Int.tdiv ((fv x).getD 0) (U : Int)
/-- The error of a sample. -/
def sErr (x : Nat) : Int :=
  match fv x with
  | none => 25
  | some v => if Int.tdiv v (U : Int) * (U : Int) = v then (if -2047 ≤ Int.tdiv v (U : Int) ∧ Int.tdiv v (U : Int) ≤ 2047 then 0 else 2) else 25
theorem cmp_lt {a b : Int} : (some (compare a b) == some Ordering.lt) = decide (a < b) := by
  simp only [compare, compareOfLessAndEq]
  by_cases h : a < b
  · simp [h]
  · by_cases h2 : a = b <;> simp [h, h2]
theorem cmp_eq {a b : Int} : (some (compare a b) == some Ordering.eq) = decide (a = b) := by
  simp only [compare, compareOfLessAndEq]
  by_cases h : a < b
  · have : ¬ a = b := by omega
    simp [h, this]
  · by_cases h2 : a = b
    · simp [h2]
    · simp [h, h2]
theorem cmp_gt {a b : Int} : (some (compare a b) == some Ordering.gt) = decide (b < a) := by
  simp only [compare, compareOfLessAndEq]
  by_cases h : a < b
  · have : ¬ b < a := by omega
    simp [h, this]
  · by_cases h2 : a = b
    · simp [h2]
    · have : b < a := by omega
      simp [h, h2, this]
/-- Order of two finite words of one format. -/
theorem ord {f : Format} (hf : -1074 ≤ f.leastPlace) {x y : Nat} {a b : Int} (hx : sc (f.read x) = some a) (hy : sc (f.read y) = some b) : f.order x y = some (compare a b) :=
  order_sc (fit_of_least f hf x) (fit_of_least f hf y) hx hy
theorem ord32 {x y : Nat} {a b : Int} (hx : fv x = some a) (hy : fv y = some b) : FloatKind.f32.format.order x y = some (compare a b) := ord (f := single) (by rw [single_least]; omega) hx hy
theorem ord64 {x y : Nat} {a b : Int} (hx : sc (double.read x) = some a) (hy : sc (double.read y) = some b) : FloatKind.f64.format.order x y = some (compare a b) := ord (f := double) (by rw [double_least]; omega) hx hy
theorem ord_nan_left {f : Format} {x y : Nat} {s : Bool} {t : Nat} (hx : f.read x = .nan s t) : f.order x y = none := by
  simp [Format.order, hx, Datum.order]
theorem natAbs_tdiv (v : Int) : (Int.tdiv v (U : Int)).natAbs = v.natAbs / U := by rw [Int.natAbs_tdiv, Int.natAbs_natCast]; rfl
theorem toInt32 {x : Nat} {v : Int} (h : fv x = some v) (hv : v.natAbs < 16777216 * U) : floatToIntVal .f32 x .i64 = some (num x) := by
  unfold floatToIntVal FloatKind.decode FloatKind.format
  rw [toInt_sc (fit32 x) h]
  have h1 : (Int.tdiv v (U : Int)).natAbs < 16777216 := by
    rw [natAbs_tdiv]; exact Nat.div_lt_of_lt_mul (by rw [Nat.mul_comm]; exact hv)
  have hm : IntKind.i64.min = -9223372036854775808 := by decide
  have hM : IntKind.i64.max = 9223372036854775807 := by decide
  simp only [num, h, Option.getD_some]
  rw [if_pos (by rw [hm, hM]; omega)]
theorem num_bound {x : Nat} {v : Int} (h : fv x = some v) (hv : v.natAbs < 16777216 * U) : (num x).natAbs < 16777216 := by
  simp only [num, h, Option.getD_some]
  rw [natAbs_tdiv]; exact Nat.div_lt_of_lt_mul (by rw [Nat.mul_comm]; exact hv)
theorem fv_num (n : Int) (h : n.natAbs < 16777216) : fv (floatOfInt .f32 n) = some (n * (U : Int)) := sc_f32 n h
theorem num_of (n : Int) (h : n.natAbs < 16777216) : num (floatOfInt .f32 n) = n := by
  simp only [num, fv_num n h, Option.getD_some]
  exact Int.mul_tdiv_cancel _ (by have := U_pos; omega)
theorem sErr_of (n : Int) (h : n.natAbs < 16777216) : sErr (floatOfInt .f32 n) = if -2047 ≤ n ∧ n ≤ 2047 then 0 else 2 := by
  unfold sErr
  rw [fv_num n h]
  have e : Int.tdiv (n * (U : Int)) (U : Int) = n := Int.mul_tdiv_cancel _ (by have := U_pos; omega)
  simp only [e, if_true]
/-- A right sample is finite, whole and small. -/
theorem sErr_zero {x : Nat} (h : sErr x = 0) : fv x = some (num x * (U : Int)) ∧ -2047 ≤ num x ∧ num x ≤ 2047 := by
  unfold sErr at h
  cases hf : fv x with
  | none => rw [hf] at h; cases h
  | some v =>
    rw [hf] at h
    simp only [num, hf, Option.getD_some]
    by_cases h1 : Int.tdiv v (U : Int) * (U : Int) = v
    · simp only [h1, if_true] at h
      by_cases h2 : -2047 ≤ Int.tdiv v (U : Int) ∧ Int.tdiv v (U : Int) ≤ 2047
      · exact ⟨by rw [h1], h2⟩
      · rw [if_neg h2] at h; cases h
    · simp [h1] at h
theorem toInt_right {x : Nat} (h : sErr x = 0) : floatToIntVal .f32 x .i64 = some (num x) := by
  obtain ⟨h1, h2, h3⟩ := sErr_zero h
  refine toInt32 h1 ?_
  rw [Int.natAbs_mul, Int.natAbs_natCast]
  exact Nat.mul_lt_mul_of_pos_right (by omega) U_pos
/-- Constants of the text. -/
theorem fv_24 : fv 1266679808 = some (16777216 * (U : Int)) := by
  have e : single.read 1266679808 = .number false 8388608 1 := by decide
  unfold fv; rw [e]
  simp only [sc, Option.some.injEq]
  have e1 : ((1 : Int) + 1074).toNat = 1 + K := by rw [K_eq]; omega
  rw [e1, signed_add]; unfold U; rfl
theorem fv_m24 : fv 3414163456 = some (-16777216 * (U : Int)) := by
  have e : single.read 3414163456 = .number true 8388608 1 := by decide
  unfold fv; rw [e]
  simp only [sc, Option.some.injEq]
  have e1 : ((1 : Int) + 1074).toNat = 1 + K := by rw [K_eq]; omega
  rw [e1, signed_add]; unfold U; rfl
theorem fv_2047 : fv 1157619712 = some (2047 * (U : Int)) := by
  have e : 1157619712 = floatOfInt .f32 2047 := by decide
  rw [e]; exact fv_num 2047 (by decide)
theorem fv_m2047 : fv 3305103360 = some (-2047 * (U : Int)) := by
  have e : 3305103360 = floatOfInt .f32 (-2047) := by decide
  rw [e]; exact fv_num (-2047) (by decide)
theorem fv_0 : fv 0 = some 0 := by
  have e : 0 = floatOfInt .f32 0 := by decide
  conv => lhs; rw [e]
  rw [fv_num 0 (by decide)]; simp
theorem d_e16 : sc (double.read 4846369599423283200) = some (10000000000000000 * (U : Int)) := by
  have e : double.read 4846369599423283200 = .number false 5000000000000000 1 := by decide
  rw [e]
  simp only [sc, Option.some.injEq]
  have e1 : ((1 : Int) + 1074).toNat = 1 + K := by rw [K_eq]; omega
  rw [e1, signed_add]; unfold U; rfl
theorem d_me16 : sc (double.read 14069741636278059008) = some (-10000000000000000 * (U : Int)) := by
  have e : double.read 14069741636278059008 = .number true 5000000000000000 1 := by decide
  rw [e]
  simp only [sc, Option.some.injEq]
  have e1 : ((1 : Int) + 1074).toNat = 1 + K := by rw [K_eq]; omega
  rw [e1, signed_add]; unfold U; rfl
end Go.Cpl
namespace Go.Proofs.Ytcijkniijomcjaa
open Go.RowKit Go.Cpl
/-- 'lo <= n && n <= hi' -/
def inB (n lo hi : Int) : Bool := decide (lo ≤ n) && decide (n ≤ hi)
theorem inB_true {n lo hi : Int} : inB n lo hi = true ↔ lo ≤ n ∧ n ≤ hi := by simp [inB]
theorem inB_false {n lo hi : Int} : inB n lo hi = false ↔ ¬ (lo ≤ n ∧ n ≤ hi) := by simp [inB]
set_option maxHeartbeats 400000 in
theorem within_any (n lo hi : Int) (w : World) :
    Calls Try.prog 60 #[.int .i64 n, .int .i64 lo, .int .i64 hi] w fun e w' => e = .returned (.bool (inB n lo hi)) ∧ w = w' := by
  by_cases h1 : lo ≤ n
  · go_enter Try.func60, Try.ntmps60
    go_wp2
    go_ret
    exact ⟨by simp [inB, h1], rfl⟩
  · go_enter Try.func60, Try.ntmps60
    go_wp2
    go_ret
    exact ⟨by simp [inB]; omega, rfl⟩
set_option maxHeartbeats 400000 in
theorem Within_any (n lo hi : Int) (w : World) :
    Calls Try.prog 39 #[.int .i64 n, .int .i64 lo, .int .i64 hi] w fun e w' => e = .returned (.bool (inB n lo hi)) ∧ w = w' := by
  by_cases h1 : lo ≤ n
  · go_enter Try.func39, Try.ntmps39
    go_wp2
    go_ret
    exact ⟨by simp [inB, h1], rfl⟩
  · go_enter Try.func39, Try.ntmps39
    go_wp2
    go_ret
    exact ⟨by simp [inB]; omega, rfl⟩
set_option maxHeartbeats 400000 in
theorem small_any (n m : Int) (w : World) (hm : 0 ≤ m) (hM : m ≤ 1000000000000000) :
    Calls Try.prog 81 #[.int .i64 n, .int .i64 m] w fun e w' => e = .returned (.bool (inB n (-m) m)) ∧ w = w' := by
  go_enter Try.func81, Try.ntmps81
  go_wp2_with (go_at_call 60; refine (within_any _ _ _ _).mono ?_; rintro e w' ⟨rfl, rfl⟩)
  go_ret
  exact ⟨rfl, rfl⟩
set_option maxHeartbeats 400000 in
theorem sampleErr_nan (x : Nat) (s : Bool) (t : Nat) (w : World) (hx : Ieee.single.read x = .nan s t) :
    Calls Try.prog 101 #[.float .f32 x] w fun e w' => e = .returned (.int .i64 25) ∧ w = w' := by
  have h1 : (FloatKind.f32.format.order x x != some .eq) = true := by
    rw [show FloatKind.f32.format.order x x = none from ord_nan_left (f := Ieee.single) hx]; rfl
  clear hx
  go_enter Try.func101, Try.ntmps101
  go_wp2
  go_ret
  exact ⟨rfl, rfl⟩
theorem read_nan (f : Ieee.Format) (neg : Bool) (k : Nat) (h0 : 0 < k) (hk : k < f.binade) (hb : f.binade ≤ f.infRung) : f.read (f.word neg (f.infRung + k)) = .nan neg k := by
  have := f.infRung_add_binade
  rw [read_word _ _ _ (by omega), if_neg (by omega), if_neg (by omega), if_neg (by omega)]
  congr 1; omega
theorem nan32 (t : Nat) : ∃ s f, Ieee.single.read ((t % 2) * 2 ^ 31 + 0x7f800000 + 1 + (t / 2) % (2 ^ 23 - 1)) = .nan s f := by
  have hl : t / 2 % 8388607 < 8388607 := Nat.mod_lt _ (by decide)
  have h := read_nan Ieee.single (t % 2 == 1) (1 + t / 2 % 8388607) (by omega) (by rw [single_binade]; omega) (by decide)
  refine ⟨_, _, (congrArg Ieee.single.read ?_).trans h⟩
  unfold Ieee.Format.word
  rw [single_sign, single_inf]
  rcases Nat.mod_two_eq_zero_or_one t with h2 | h2 <;> rw [h2] <;> simp <;> omega
theorem nan64 (t : Nat) : ∃ s f, Ieee.double.read ((t % 2) * 2 ^ 63 + 0x7ff0000000000000 + 1 + (t / 2) % (2 ^ 52 - 1)) = .nan s f := by
  have hl : t / 2 % 4503599627370495 < 4503599627370495 := Nat.mod_lt _ (by decide)
  have hb : Ieee.double.binade = 4503599627370496 := by decide
  have hi : Ieee.double.infRung = 9218868437227405312 := by decide
  have hs : Ieee.double.signWeight = 9223372036854775808 := by decide
  have h := read_nan Ieee.double (t % 2 == 1) (1 + t / 2 % 4503599627370495) (by omega) (by rw [hb]; omega) (by rw [hb, hi]; omega)
  refine ⟨_, _, (congrArg Ieee.double.read ?_).trans h⟩
  unfold Ieee.Format.word
  rw [hs, hi]
  rcases Nat.mod_two_eq_zero_or_one t with h2 | h2 <;> rw [h2] <;> simp <;> omega
/-- An invalid operation on floats gives some NaN. -/
theorem run_float_invalid (op : BinOp) (t : TypeId) (k : FloatKind) (x y : Nat) (hop : op = .add ∨ op = .sub) (h : floatBits op k x y = none) (P : Program) (w : World) :
    ∃ r, (binOp op t (.float k x) (.float k y)).run P w = .ok (.float k r) w.drew ∧ ∃ s f, k.format.read r = .nan s f := by
  refine ⟨Question.cut (.nanBits k x y) (w.tape w.drawn (.nanBits k x y)), ?_, ?_⟩
  · rcases hop with rfl | rfl <;> simp only [floatBits] at h <;> simp [binOp, Op.floatArith, h, Question.forced]
  · cases k
    · exact nan32 _
    · exact nan64 _
set_option maxHeartbeats 400000 in
theorem sampleErr_inf (x : Nat) (s : Bool) (w : World) (hx : Ieee.single.read x = .infinity s) :
    Calls Try.prog 101 #[.float .f32 x] w fun e w' => e = .returned (.int .i64 25) ∧ ∃ n, w' = w.drewN n := by
  have h1 : (FloatKind.f32.format.order x x != some .eq) = false := by
    rw [show FloatKind.f32.format.order x x = some .eq by simp [FloatKind.format, Ieee.Format.order, hx, Ieee.Datum.order]]; rfl
  have h2 : FloatKind.f32.format.sub x x = none := by
    simp [FloatKind.format, Ieee.Format.sub, hx, Ieee.Datum.opposite, Ieee.Datum.sum]
  obtain ⟨r, hr, sg, f, hn⟩ := run_float_invalid .sub 36 .f32 x x (.inr rfl) h2 Try.prog w
  have h3 : (FloatKind.f32.format.order r 0 != some .eq) = true := by
    rw [show FloatKind.f32.format.order r 0 = none from ord_nan_left (f := Ieee.single) hn]; rfl
  clear hx h2 hn
  go_enter Try.func101, Try.ntmps101
  go_wp2
  go_ret
  exact ⟨rfl, 1, rfl⟩
/-- The tests of sampleErr on a finite word, decided. -/
theorem s_self {x : Nat} {v : Int} (h : fv x = some v) : (FloatKind.f32.format.order x x != some .eq) = false := by
  rw [ord32 h h, bne, cmp_eq]; simp
theorem s_sub {x : Nat} {v : Int} (h : fv x = some v) : floatBits .sub .f32 x x = some 0 := by
  cases hd : Ieee.single.read x with
  | number s m i => exact sub_self_num Ieee.single hd
  | infinity _ => unfold fv at h; rw [hd] at h; simp [sc] at h
  | nan _ _ => unfold fv at h; rw [hd] at h; simp [sc] at h
theorem s_zero : (FloatKind.f32.format.order 0 0 != some .eq) = false := s_self fv_0
theorem s_geq {x y : Nat} {v u : Int} (h : fv x = some v) (hy : fv y = some u) : (FloatKind.f32.format.order x y == some .gt || FloatKind.f32.format.order x y == some .eq) = decide (u ≤ v) := by
  rw [ord32 h hy, cmp_gt, cmp_eq, Bool.eq_iff_iff]; simp; omega
theorem s_leq {x y : Nat} {v u : Int} (h : fv x = some v) (hy : fv y = some u) : (FloatKind.f32.format.order x y == some .lt || FloatKind.f32.format.order x y == some .eq) = decide (v ≤ u) := by
  rw [ord32 h hy, cmp_lt, cmp_eq, Bool.eq_iff_iff]; simp; omega
theorem s_lss {x y : Nat} {v u : Int} (h : fv x = some v) (hy : fv y = some u) : (FloatKind.f32.format.order x y == some .lt) = decide (v < u) := by rw [ord32 h hy, cmp_lt]
theorem s_gtr {x y : Nat} {v u : Int} (h : fv x = some v) (hy : fv y = some u) : (FloatKind.f32.format.order x y == some .gt) = decide (u < v) := by rw [ord32 h hy, cmp_gt]
theorem s_neq {x y : Nat} {v u : Int} (h : fv x = some v) (hy : fv y = some u) : (FloatKind.f32.format.order x y != some .eq) = decide (v ≠ u) := by
  rw [ord32 h hy, bne, cmp_eq]; by_cases e : v = u <;> simp [e]
set_option maxHeartbeats 400000 in
theorem sampleErr_big (x : Nat) (v : Int) (w : World) (hx : fv x = some v) (hv : 16777216 * U ≤ v.natAbs) :
    Calls Try.prog 101 #[.float .f32 x] w fun e w' => e = .returned (.int .i64 (sErr x)) ∧ w = w' := by
  have he : sErr x = 2 := by
    unfold sErr
    rw [hx]
    simp only [whole32 hx hv, if_true]
    rw [if_neg]
    intro h
    have h1 : (Int.tdiv v (U : Int)).natAbs = v.natAbs / U := natAbs_tdiv v
    have h2 : 16777216 ≤ v.natAbs / U := (Nat.le_div_iff_mul_le U_pos).2 hv
    omega
  rw [he]
  have h1 := s_self hx
  have h2 : ∀ w, (binOp .sub 36 (.float .f32 x) (.float .f32 x)).run Try.prog w = .ok (.float .f32 0) w := fun w => run_float_arith w .sub 36 .f32 x x 0 (s_sub hx)
  have h3 := s_zero
  have h4 := s_geq hx fv_24
  have h5 := s_leq hx fv_m24
  have hU := U_pos
  by_cases hp : 16777216 * (U : Int) ≤ v
  · rw [decide_eq_true hp] at h4
    clear hx hv he h5 hp hU
    go_enter Try.func101, Try.ntmps101
    go_wp2
    go_ret
    exact ⟨rfl, rfl⟩
  · have hq : v ≤ -16777216 * (U : Int) := by omega
    rw [decide_eq_false hp] at h4
    rw [decide_eq_true hq] at h5
    clear hx hv he hp hq hU
    go_enter Try.func101, Try.ntmps101
    go_wp2
    go_ret
    exact ⟨rfl, rfl⟩
set_option maxHeartbeats 400000 in
theorem sampleErr_low (x : Nat) (v : Int) (w : World) (hx : fv x = some v) (hv : v.natAbs < 16777216 * U) :
    Calls Try.prog 101 #[.float .f32 x] w fun e w' => e = .returned (.int .i64 (sErr x)) ∧ w = w' := by
  have h1 := s_self hx
  have h2 : ∀ w, (binOp .sub 36 (.float .f32 x) (.float .f32 x)).run Try.prog w = .ok (.float .f32 0) w := fun w => run_float_arith w .sub 36 .f32 x x 0 (s_sub hx)
  have h3 := s_zero
  have h4 := s_geq hx fv_24
  have h5 := s_leq hx fv_m24
  have hU := U_pos
  rw [decide_eq_false (by omega)] at h4 h5
  have h6 : ∀ w, (convert 36 3 (.float .f32 x)).run Try.prog w = .ok (.int .i64 (num x)) w := fun w => run_convert_float_int w 36 3 .f32 .i64 x (num x) (by rw [Try.underlying36]; rfl) Try.underlying3 (toInt32 hx hv)
  have hb := num_bound hx hv
  have h7 := s_neq (fv_num (num x) hb) hx
  have hn : num x = Int.tdiv v (U : Int) := by simp only [num, hx, Option.getD_some]
  have he : sErr x = if num x * (U : Int) = v then (if -2047 ≤ num x ∧ num x ≤ 2047 then 0 else 2) else 25 := by
    unfold sErr
    rw [hx, hn]
  by_cases hw : num x * (U : Int) = v
  · rw [if_pos hw] at he
    rw [decide_eq_false (by simpa using hw)] at h7
    by_cases hr : -2047 ≤ num x ∧ num x ≤ 2047
    · rw [if_pos hr] at he
      rw [he]
      have hi := inB_true.2 hr
      have HI := Lib.hid hi
      clear hx hv he hw hr hn hi hU hb
      go_enter Try.func101, Try.ntmps101
      go_wp2_with (go_at_call 81; refine (small_any _ _ _ (by omega) (by omega)).mono ?_; rintro e w' ⟨rfl, rfl⟩; rw [HI.out])
      go_ret
      exact ⟨rfl, rfl⟩
    · rw [if_neg hr] at he
      rw [he]
      have hi := inB_false.2 hr
      have HI := Lib.hid hi
      clear hx hv he hw hr hn hi hU hb
      go_enter Try.func101, Try.ntmps101
      go_wp2_with (go_at_call 81; refine (small_any _ _ _ (by omega) (by omega)).mono ?_; rintro e w' ⟨rfl, rfl⟩; rw [HI.out])
      go_ret
      exact ⟨rfl, rfl⟩
  · rw [if_neg hw] at he
    rw [he]
    rw [decide_eq_true (by simpa using hw)] at h7
    clear hx hv he hw hn hU hb
    go_enter Try.func101, Try.ntmps101
    go_wp2
    go_ret
    exact ⟨rfl, rfl⟩
/-- The error of a sample. -/
theorem sampleErr_any (x : Nat) (w : World) : Calls Try.prog 101 #[.float .f32 x] w fun e w' => e = .returned (.int .i64 (sErr x)) ∧ ∃ n, w' = w.drewN n := by
  cases hd : Ieee.single.read x with
  | number s m i =>
    have hx : fv x = some (Ieee.signed s m (i + 1074).toNat) := by unfold fv; rw [hd]; rfl
    by_cases hv : 16777216 * U ≤ (Ieee.signed s m (i + 1074).toNat).natAbs
    · exact (sampleErr_big x _ w hx hv).mono fun _ _ ⟨h, h2⟩ => ⟨h, 0, h2 ▸ rfl⟩
    · exact (sampleErr_low x _ w hx (by omega)).mono fun _ _ ⟨h, h2⟩ => ⟨h, 0, h2 ▸ rfl⟩
  | infinity s =>
    have he : sErr x = 25 := by unfold sErr fv; rw [hd]; rfl
    rw [he]; exact sampleErr_inf x s w hd
  | nan s t =>
    have he : sErr x = 25 := by unfold sErr fv; rw [hd]; rfl
    rw [he]; exact (sampleErr_nan x s t w hd).mono fun _ _ ⟨h, h2⟩ => ⟨h, 0, h2 ▸ rfl⟩
/-! The reference's look at a sample: widened to float64. -/
theorem d_self {y : Nat} {v : Int} (h : sc (Ieee.double.read y) = some v) : (FloatKind.f64.format.order y y != some .eq) = false := by
  rw [ord64 h h, bne, cmp_eq]; simp
theorem d_sub {x : Nat} {v : Int} (h : sc (Ieee.double.read x) = some v) : floatBits .sub .f64 x x = some 0 := by
  cases hd : Ieee.double.read x with
  | number s m i => exact sub_self_num Ieee.double hd
  | infinity _ => rw [hd] at h; simp [sc] at h
  | nan _ _ => rw [hd] at h; simp [sc] at h
theorem d_0 : sc (Ieee.double.read 0) = some 0 := by
  rw [read_zero]; simp [sc, Ieee.signed]
theorem d_zero : (FloatKind.f64.format.order 0 0 != some .eq) = false := d_self d_0
theorem d_geq {x y : Nat} {v u : Int} (h : sc (Ieee.double.read x) = some v) (hy : sc (Ieee.double.read y) = some u) : (FloatKind.f64.format.order x y == some .gt || FloatKind.f64.format.order x y == some .eq) = decide (u ≤ v) := by
  rw [ord64 h hy, cmp_gt, cmp_eq, Bool.eq_iff_iff]; simp; omega
theorem d_leq {x y : Nat} {v u : Int} (h : sc (Ieee.double.read x) = some v) (hy : sc (Ieee.double.read y) = some u) : (FloatKind.f64.format.order x y == some .lt || FloatKind.f64.format.order x y == some .eq) = decide (v ≤ u) := by
  rw [ord64 h hy, cmp_lt, cmp_eq, Bool.eq_iff_iff]; simp; omega
theorem d_eql {x y : Nat} {v u : Int} (h : sc (Ieee.double.read x) = some v) (hy : sc (Ieee.double.read y) = some u) : (FloatKind.f64.format.order x y == some .eq) = decide (v = u) := by rw [ord64 h hy, cmp_eq]
set_option maxHeartbeats 400000 in
theorem IsWhole_nan (x : Nat) (s : Bool) (t : Nat) (w : World) (hx : Ieee.double.read x = .nan s t) :
    Calls Try.prog 110 #[.float .f64 x] w fun e w' => e = .returned (.bool false) ∧ ∃ n, w' = w.drewN n := by
  have h1 : (FloatKind.f64.format.order x x != some .eq) = true := by
    rw [show FloatKind.f64.format.order x x = none from ord_nan_left (f := Ieee.double) hx]; rfl
  clear hx
  go_enter Try.func110, Try.ntmps110
  go_wp2
  go_ret
  exact ⟨rfl, 0, rfl⟩
set_option maxHeartbeats 400000 in
theorem IsWhole_inf (x : Nat) (s : Bool) (w : World) (hx : Ieee.double.read x = .infinity s) :
    Calls Try.prog 110 #[.float .f64 x] w fun e w' => e = .returned (.bool false) ∧ ∃ n, w' = w.drewN n := by
  have h1 : (FloatKind.f64.format.order x x != some .eq) = false := by
    rw [show FloatKind.f64.format.order x x = some .eq by simp [FloatKind.format, Ieee.Format.order, hx, Ieee.Datum.order]]; rfl
  have h2 : FloatKind.f64.format.sub x x = none := by
    simp [FloatKind.format, Ieee.Format.sub, hx, Ieee.Datum.opposite, Ieee.Datum.sum]
  obtain ⟨r, hr, sg, f, hn⟩ := run_float_invalid .sub 173 .f64 x x (.inr rfl) h2 Try.prog w
  have h3 : (FloatKind.f64.format.order r 0 != some .eq) = true := by
    rw [show FloatKind.f64.format.order r 0 = none from ord_nan_left (f := Ieee.double) hn]; rfl
  clear hx h2 hn
  go_enter Try.func110, Try.ntmps110
  go_wp2
  go_ret
  exact ⟨rfl, 1, rfl⟩
def isWh (v : Int) : Bool := decide (Int.tdiv v (U : Int) * (U : Int) = v)
set_option maxHeartbeats 400000 in
theorem IsWhole_num (y : Nat) (v : Int) (w : World) (hy : sc (Ieee.double.read y) = some v)
    (hbig : ¬ (-10000000000000000 * (U : Int) ≤ v ∧ v ≤ 10000000000000000 * (U : Int)) → isWh v = true)
    (hex : (-10000000000000000 * (U : Int) ≤ v ∧ v ≤ 10000000000000000 * (U : Int)) → sc (Ieee.double.read (floatOfInt .f64 (Int.tdiv v (U : Int)))) = some (Int.tdiv v (U : Int) * (U : Int))) :
    Calls Try.prog 110 #[.float .f64 y] w fun e w' => e = .returned (.bool (isWh v)) ∧ ∃ n, w' = w.drewN n := by
  have h1 := d_self hy
  have h2 : ∀ w, (binOp .sub 173 (.float .f64 y) (.float .f64 y)).run Try.prog w = .ok (.float .f64 0) w := fun w => run_float_arith w .sub 173 .f64 y y 0 (d_sub hy)
  have h3 := d_zero
  have h4 := d_geq hy d_me16
  have h5 := d_leq hy d_e16
  by_cases c1 : -10000000000000000 * (U : Int) ≤ v
  · rw [decide_eq_true c1] at h4
    by_cases c2 : v ≤ 10000000000000000 * (U : Int)
    · rw [decide_eq_true c2] at h5
      have h6 : floatToIntVal .f64 y .i64 = some (Int.tdiv v (U : Int)) := by
        unfold floatToIntVal FloatKind.decode FloatKind.format
        rw [toInt_sc (fit64 y) hy]
        have h1 : (Int.tdiv v (U : Int)).natAbs ≤ 10000000000000000 := by
          rw [natAbs_tdiv]; exact Nat.div_le_of_le_mul (by omega)
        have hm : IntKind.i64.min = -9223372036854775808 := by decide
        have hM : IntKind.i64.max = 9223372036854775807 := by decide
        simp only
        rw [if_pos (by rw [hm, hM]; omega)]
      have h7 : ∀ w, (convert 173 3 (.float .f64 y)).run Try.prog w = .ok (.int .i64 (Int.tdiv v (U : Int))) w := fun w => run_convert_float_int w 173 3 .f64 .i64 y _ (by rw [Try.underlying173]; rfl) Try.underlying3 h6
      have h8 := d_eql (hex ⟨c1, c2⟩) hy
      have h9 : isWh v = decide (Int.tdiv v (U : Int) * (U : Int) = v) := rfl
      generalize Int.tdiv v (U : Int) = n at *
      rw [h9]
      generalize decide (n * (U : Int) = v) = b at *
      clear hy hbig hex h6 h9 c1 c2
      go_enter Try.func110, Try.ntmps110
      go_wp2
      go_ret
      exact ⟨rfl, 0, rfl⟩
    · rw [decide_eq_false c2] at h5
      rw [hbig (by omega)]
      clear hy hbig hex c1 c2
      go_enter Try.func110, Try.ntmps110
      go_wp2
      go_ret
      exact ⟨rfl, 0, rfl⟩
  · rw [decide_eq_false c1] at h4
    rw [hbig (by omega)]
    clear hy hbig hex c1 h5
    go_enter Try.func110, Try.ntmps110
    go_wp2
    go_ret
    exact ⟨rfl, 0, rfl⟩
theorem isWh_big {x : Nat} {v : Int} (h : fv x = some v) (hv : 16777216 * U ≤ v.natAbs) : isWh v = true := decide_eq_true (whole32 h hv)
theorem wide_exact {x : Nat} {s : Bool} {m : Nat} {i : Int} (hd : Ieee.single.read x = .number s m i) :
    sc (Ieee.double.read (floatOfInt .f64 (Int.tdiv (Ieee.signed s m (i + 1074).toNat) (U : Int)))) = some (Int.tdiv (Ieee.signed s m (i + 1074).toNat) (U : Int) * (U : Int)) := by
  obtain ⟨hm, h1, h2⟩ := shape32 hd
  by_cases h0 : 0 ≤ i
  · have e : (i + 1074).toNat = i.toNat + K := by rw [K_eq]; omega
    have e2 : Int.tdiv (Ieee.signed s m (i + 1074).toNat) (U : Int) = Ieee.signed s m i.toNat := by
      rw [e, signed_add]
      exact Int.mul_tdiv_cancel _ (by have := Nat.two_pow_pos K; omega)
    rw [e2]
    exact sc_f64_wide s m i.toNat hm (by omega)
  · refine sc_f64 _ ?_
    rw [natAbs_tdiv, signed_natAbs]
    have h3 : 2 ^ (i + 1074).toNat ≤ U := Nat.pow_le_pow_right (by omega) (by rw [K_eq]; omega)
    have h4 : m * 2 ^ (i + 1074).toNat ≤ m * U := Nat.mul_le_mul_left _ h3
    have h5 : m * 2 ^ (i + 1074).toNat / U ≤ m := Nat.div_le_of_le_mul (Nat.le_trans h4 (Nat.le_of_eq (Nat.mul_comm _ _)))
    omega
theorem sErr_wh {x : Nat} {v : Int} (h : fv x = some v) : sErr x = if isWh v = true then (if v < -2047 * (U : Int) then 2 else if 2047 * (U : Int) < v then 2 else 0) else 25 := by
  unfold sErr
  rw [h]
  by_cases hw : Int.tdiv v (U : Int) * (U : Int) = v
  · have h1 : isWh v = true := decide_eq_true hw
    simp only [hw, h1, if_true]
    generalize Int.tdiv v (U : Int) = n at *
    subst hw
    have hU : (0 : Int) < (U : Int) := by have := U_pos; omega
    have a1 : n * (U : Int) < -2047 * (U : Int) ↔ n < -2047 := ⟨fun h => Int.lt_of_mul_lt_mul_right h (by omega), fun h => Int.mul_lt_mul_of_pos_right h hU⟩
    have a2 : 2047 * (U : Int) < n * (U : Int) ↔ 2047 < n := ⟨fun h => Int.lt_of_mul_lt_mul_right h (by omega), fun h => Int.mul_lt_mul_of_pos_right h hU⟩
    by_cases b1 : n < -2047
    · rw [if_neg (by omega), if_pos (a1.2 b1)]
    · rw [if_neg (fun h => b1 (a1.1 h))]
      by_cases b2 : 2047 < n
      · rw [if_neg (by omega), if_pos (a2.2 b2)]
      · rw [if_pos (by omega), if_neg (fun h => b2 (a2.1 h))]
  · have h1 : ¬ isWh v = true := by unfold isWh; simpa using hw
    simp only [hw, h1, if_false]
    rfl
/-- float64(x) of a NaN is some NaN. -/
theorem run_widen_nan (src dst : TypeId) (x : Nat) (s : Bool) (t : Nat) (hx : Ieee.single.read x = .nan s t) (P : Program) (hs : (P.underlying src).isSome = true) (hd : P.underlying dst = some (.float .f64)) (w : World) :
    ∃ r, (convert src dst (.float .f32 x)).run P w = .ok (.float .f64 r) w.drew ∧ ∃ s f, Ieee.double.read r = .nan s f := by
  refine ⟨Question.cut (.nanConv .f64 x) (w.tape w.drawn (.nanConv .f64 x)), ?_, nan64 _⟩
  obtain ⟨u, hs'⟩ := Option.isSome_iff_exists.1 hs
  have hx' : FloatKind.f32.decode x = .nan s t := hx
  cases u <;> simp [convert, run_underlying hs', run_underlying hd, Conv.floatToFloat, hx', Question.forced]
set_option maxHeartbeats 400000 in
theorem refSampleErr_any (x : Nat) (w : World) : Calls Try.prog 102 #[.float .f32 x] w fun e w' => e = .returned (.int .i64 (sErr x)) ∧ ∃ n, w' = w.drewN n := by
  cases hd : Ieee.single.read x with
  | nan s t =>
    have he : sErr x = 25 := by unfold sErr fv; rw [hd]; rfl
    rw [he]
    obtain ⟨r, hr, sg, f, hn⟩ := run_widen_nan 36 173 x s t hd Try.prog (by rw [Try.underlying36]; rfl) Try.underlying173 w
    have H := Lib.hid hn
    clear hd he hn
    go_enter Try.func102, Try.ntmps102
    go_wp2_with (go_at_call 110; refine (IsWhole_nan _ _ _ _ H.out).mono ?_; rintro e w' ⟨rfl, n, rfl⟩)
    go_ret
    exact ⟨rfl, _, rfl⟩
  | infinity s =>
    have he : sErr x = 25 := by unfold sErr fv; rw [hd]; rfl
    rw [he]
    have hc : floatToFloatBits .f32 x .f64 = some (FloatKind.encode .f64 (.infinity s)) := by
      unfold floatToFloatBits; rw [if_neg (by decide), show FloatKind.f32.decode x = .infinity s from hd]
    have hr : ∀ w, (convert 36 173 (.float .f32 x)).run Try.prog w = .ok (.float .f64 (FloatKind.encode .f64 (.infinity s))) w := fun w => run_convert_float_float w 36 173 .f32 .f64 x _ (by rw [Try.underlying36]; rfl) Try.underlying173 hc
    have hn : Ieee.double.read (FloatKind.encode .f64 (.infinity s)) = .infinity s := by
      show Ieee.double.read (Ieee.double.word s Ieee.double.infRung) = _
      rw [read_word _ _ _ Ieee.double.infRung_lt, if_neg (by decide), if_neg (Nat.lt_irrefl _), if_pos rfl]
    generalize FloatKind.encode .f64 (.infinity s) = y at *
    have H := Lib.hid hn
    clear hd he hn hc
    go_enter Try.func102, Try.ntmps102
    go_wp2_with (go_at_call 110; refine (IsWhole_inf _ _ _ H.out).mono ?_; rintro e w' ⟨rfl, n, rfl⟩)
    go_ret
    exact ⟨rfl, _, rfl⟩
  | number s m i =>
    obtain ⟨hm, h1, h2⟩ := shape32 hd
    have hx : fv x = some (Ieee.signed s m (i + 1074).toNat) := by unfold fv; rw [hd]; rfl
    obtain ⟨hwd, hni⟩ := widen s m i hm h1 h2
    have hc : floatToFloatBits .f32 x .f64 = some (FloatKind.encode .f64 (.number s m i)) := by
      unfold floatToFloatBits
      rw [if_neg (by decide), show FloatKind.f32.decode x = .number s m i from hd]
      simp only
      rw [if_neg]
      show ¬ (Ieee.double.read (FloatKind.encode .f64 (.number s m i))).isInfinity = true
      rw [hni]; simp
    have hr : ∀ w, (convert 36 173 (.float .f32 x)).run Try.prog w = .ok (.float .f64 (FloatKind.encode .f64 (.number s m i))) w := fun w => run_convert_float_float w 36 173 .f32 .f64 x _ (by rw [Try.underlying36]; rfl) Try.underlying173 hc
    have hex := wide_exact hd
    have he := sErr_wh hx
    have hl := s_lss hx fv_m2047
    have hg := s_gtr hx fv_2047
    have hbg := isWh_big hx
    generalize Ieee.signed s m (i + 1074).toNat = v at *
    generalize FloatKind.encode .f64 (.number s m i) = y at *
    have HW := Lib.hid (fun w => IsWhole_num y v w hwd (fun hb => hbg (by have := U_pos; omega)) (fun _ => hex))
    rw [he]
    clear hd hc hx hwd hni hex hbg he h1 h2 hm
    by_cases b0 : isWh v = true
    · rw [if_pos b0]
      have HB := Lib.hid b0
      clear b0
      by_cases b1 : v < -2047 * (U : Int)
      · rw [if_pos b1]
        rw [decide_eq_true b1] at hl
        clear b1 hg
        go_enter Try.func102, Try.ntmps102
        go_wp2_with (go_at_call 110; refine (HW.out _).mono ?_; rintro e w' ⟨rfl, n, rfl⟩; rw [HB.out])
        go_ret
        exact ⟨rfl, _, rfl⟩
      · rw [if_neg b1]
        rw [decide_eq_false b1] at hl
        clear b1
        by_cases b2 : 2047 * (U : Int) < v
        · rw [if_pos b2]
          rw [decide_eq_true b2] at hg
          clear b2
          go_enter Try.func102, Try.ntmps102
          go_wp2_with (go_at_call 110; refine (HW.out _).mono ?_; rintro e w' ⟨rfl, n, rfl⟩; rw [HB.out])
          go_ret
          exact ⟨rfl, _, rfl⟩
        · rw [if_neg b2]
          rw [decide_eq_false b2] at hg
          clear b2
          go_enter Try.func102, Try.ntmps102
          go_wp2_with (go_at_call 110; refine (HW.out _).mono ?_; rintro e w' ⟨rfl, n, rfl⟩; rw [HB.out])
          go_ret
          exact ⟨rfl, _, rfl⟩
    · rw [if_neg b0]
      have HB := Lib.hid (Bool.eq_false_iff.2 b0)
      clear b0 hl hg
      go_enter Try.func102, Try.ntmps102
      go_wp2_with (go_at_call 110; refine (HW.out _).mono ?_; rintro e w' ⟨rfl, n, rfl⟩; rw [HB.out])
      go_ret
      exact ⟨rfl, _, rfl⟩
end Go.Proofs.Ytcijkniijomcjaa
namespace Go.Proofs.Ytcijkniijomcjaa
open Go.RowKit Go.Cpl
/-- A word of a list (kept shut to the walk). -/
def nth (xs : List Nat) (k : Nat) : Nat := xs.getD k 0
theorem nth_eq {xs : List Nat} {k : Nat} (h : k < xs.length) : nth xs k = xs[k] := by
  simp [nth, List.getD_eq_getElem?_getD, List.getElem?_eq_getElem h]
/-- The number of the first wrong sample from a place on, and its error. -/
def firstErr : List Nat → Nat → Nat × Int
  | [], _ => (0, 0)
  | x :: l, i => if sErr x = 0 then firstErr l (i + 1) else (i, sErr x)
theorem firstErr_step (xs : List Nat) (k : Nat) (h : k < xs.length) :
    firstErr (xs.drop k) k = if sErr (nth xs k) = 0 then firstErr (xs.drop (k + 1)) (k + 1) else (k, sErr (nth xs k)) := by
  rw [List.drop_eq_getElem_cons h]
  simp only [firstErr, nth_eq h]
/-- A slice of floats that reads as a list of words, nil let in. -/
def FReads (w : World) (A : Option Addr) (xs : List Nat) : Prop :=
  ∀ k, k < xs.length → ∃ ad, A = some ad ∧ w.cell? (ad.add k) = some (.float .f32 (nth xs k))
theorem FReads.drewN {w : World} {A : Option Addr} {xs : List Nat} (h : FReads w A xs) (n : Nat) : FReads (w.drewN n) A xs := h
set_option maxHeartbeats 400000 in
theorem samplesErr_any (A : Option Addr) (cap : Nat) (xs : List Nat) (w : World) (hr : FReads w A xs) (hl : xs.length ≤ maxLen) :
    Calls Try.prog 61 #[.slice A xs.length cap] w fun e w' => e = .returned (.tuple #[.int .i64 (firstErr xs 0).1, .int .i64 (firstErr xs 0).2]) ∧ ∃ n, w' = w.drewN n := by
  unfold maxLen at hl
  have HR := Lib.hid hr
  clear hr
  go_enter Try.func61, Try.ntmps61
  go_wp2
  go_loopw [9] (fun i wr => ∃ k n : Nat, k ≤ xs.length ∧ i = .int .i64 k ∧ Hid (firstErr xs 0 = firstErr (xs.drop k) k) ∧ wr = w.drewN n) (fun i _ => xs.length - (intOf i).toNat)
  case atStart => exact ⟨0, 0, Nat.zero_le _, rfl, rfl, rfl⟩
  case round =>
    obtain ⟨k, n, hk, rfl, HF, rfl⟩ := hrel
    by_cases hlt : k < xs.length
    · obtain ⟨ad, rfl, hc⟩ := HR.out k hlt
      have hs := firstErr_step xs k hlt
      rw [← HF.out] at hs
      by_cases h0 : sErr (nth xs k) = 0
      · rw [if_pos h0] at hs
        have H0 := Lib.hid h0
        have HS := Lib.hid hs
        clear h0 hs HF
        go_wp2_with (go_at_call 101; refine (sampleErr_any _ _).mono ?_; rintro e w' ⟨rfl, n', rfl⟩; rw [H0.out])
        go_roundw
        case rel => exact ⟨k + 1, n + n', by omega, by go_num, HS.out, by simp⟩
        case measure => simp [intOf]; omega
      · rw [if_neg h0] at hs
        have h1 : (sErr (nth xs k) != 0) = true := by simpa using h0
        have HS := Lib.hid hs
        clear h0 hs HF
        go_wp2_with (go_at_call 101; refine (sampleErr_any _ _).mono ?_; rintro e w' ⟨rfl, n', rfl⟩)
        go_ret2
        rw [HS.out]
        exact ⟨rfl, _, rfl⟩
    · have hs : firstErr xs 0 = (0, 0) := by
        rw [HF.out, List.drop_eq_nil_of_le (by omega)]; rfl
      have HS := Lib.hid hs
      clear hs HF
      go_wp2
      go_ret2
      rw [HS.out]
      exact ⟨rfl, _, rfl⟩
set_option maxHeartbeats 400000 in
theorem refSamplesErr_any (A : Option Addr) (cap : Nat) (xs : List Nat) (w : World) (hr : FReads w A xs) (hl : xs.length ≤ maxLen) :
    Calls Try.prog 67 #[.slice A xs.length cap] w fun e w' => e = .returned (.tuple #[.int .i64 (firstErr xs 0).1, .int .i64 (firstErr xs 0).2]) ∧ ∃ n, w' = w.drewN n := by
  unfold maxLen at hl
  have HR := Lib.hid hr
  clear hr
  go_enter Try.func67, Try.ntmps67
  go_wp2
  go_loopw [4] (fun i wr => ∃ k n : Nat, k ≤ xs.length ∧ i = .int .i64 k ∧ Hid (firstErr xs 0 = firstErr (xs.drop k) k) ∧ wr = w.drewN n) (fun i _ => xs.length - (intOf i).toNat)
  case atStart => exact ⟨0, 0, Nat.zero_le _, rfl, rfl, rfl⟩
  case round =>
    obtain ⟨k, n, hk, rfl, HF, rfl⟩ := hrel
    by_cases hlt : k < xs.length
    · obtain ⟨ad, rfl, hc⟩ := HR.out k hlt
      have hs := firstErr_step xs k hlt
      rw [← HF.out] at hs
      by_cases h0 : sErr (nth xs k) = 0
      · rw [if_pos h0] at hs
        have H0 := Lib.hid h0
        have HS := Lib.hid hs
        clear h0 hs HF
        go_wp2_with (go_at_call 102; refine (refSampleErr_any _ _).mono ?_; rintro e w' ⟨rfl, n', rfl⟩; rw [H0.out])
        go_roundw
        case rel => exact ⟨k + 1, n + n', by omega, by go_num, HS.out, by simp⟩
        case measure => simp [intOf]; omega
      · rw [if_neg h0] at hs
        have h1 : (sErr (nth xs k) != 0) = true := by simpa using h0
        have HS := Lib.hid hs
        clear h0 hs HF
        go_wp2_with (go_at_call 102; refine (refSampleErr_any _ _).mono ?_; rintro e w' ⟨rfl, n', rfl⟩)
        go_ret2
        rw [HS.out]
        exact ⟨rfl, _, rfl⟩
    · have hs : firstErr xs 0 = (0, 0) := by
        rw [HF.out, List.drop_eq_nil_of_le (by omega)]; rfl
      have HS := Lib.hid hs
      clear hs HF
      go_wp2
      go_ret2
      rw [HS.out]
      exact ⟨rfl, _, rfl⟩
/-- The cells of a trace. -/
def trc (xs : List Nat) : Array Value := (xs.map (Value.float .f32)).toArray
theorem trc_size (xs : List Nat) : (trc xs).size = xs.length := by simp [trc]
theorem trc_get {xs : List Nat} {k : Nat} (h : k < xs.length) : (trc xs)[k]? = some (.float .f32 (nth xs k)) := by
  simp [trc, nth_eq h, h]
theorem add_zero_off (g k : Nat) : (⟨g, 0, none⟩ : Addr).add k = ⟨g, k, none⟩ := by unfold Addr.add; split <;> simp_all
theorem FReads.of_blk {w : World} {g : Nat} {t : TypeId} {xs : List Nat} (h : Blk w g t (trc xs)) : FReads w (some ⟨g, 0, none⟩) xs := by
  intro k hk
  refine ⟨_, rfl, ?_⟩
  rw [add_zero_off, h.cell, trc_get hk]
theorem samplesErr_len (A : Option Addr) (n cap : Nat) (xs : List Nat) (w : World) (hn : xs.length = n) (hl : n ≤ maxLen) (hr : FReads w A xs) :
    Calls Try.prog 61 #[.slice A n cap] w fun e w' => e = .returned (.tuple #[.int .i64 (firstErr xs 0).1, .int .i64 (firstErr xs 0).2]) ∧ ∃ n, w' = w.drewN n := by
  subst hn; exact samplesErr_any A cap xs w hr hl
set_option maxHeartbeats 400000 in
theorem CheckTrace_any (xs : List Nat) (w : World) (hl : xs.length = 64) :
    Calls Try.prog 104 #[.agg (trc xs)] w fun e w' => e = .returned (.tuple #[.int .i64 (firstErr xs 0).1, .int .i64 (firstErr xs 0).2]) ∧ Below w.heap.size w w' := by
  have HL := Lib.hid hl
  clear hl
  go_enter Try.func104, Try.ntmps104
  go_wp2_with (go_at_call 61; refine (samplesErr_len _ _ _ xs _ HL.out (by decide) (FReads.of_blk (Blk.new _ _ _))).mono ?_; rintro e w' ⟨rfl, n, rfl⟩)
  go_ret2
  exact ⟨rfl, below_drewN ((Below.refl _ _).alloc (Nat.le_refl _) _) _⟩
theorem row26 : IsRow Try.prog 38 64 := ⟨⟨_, Try.underlying38, rfl⟩, by kernel_rfl⟩
theorem size_trc {xs : List Nat} (hl : xs.length = 64) : (trc xs).size = 64 := by rw [trc_size, hl]
set_option maxHeartbeats 400000 in
theorem traceErr_any (xs : List Nat) (w : World) (hl : xs.length = 64) :
    Calls Try.prog 71 #[.agg (trc xs)] w fun e w' => e = .returned (.int .i64 (firstErr xs 0).2) ∧ Below w.heap.size w w' := by
  have HL := Lib.hid hl
  clear hl
  go_enter Try.func71, Try.ntmps71
  go_wp2_with (first | (go_at_call 104; refine (CheckTrace_any xs _ HL.out).mono ?_; rintro e w' ⟨rfl, hb⟩) | (refine wl_load (o := ⟨some 6, _, _, _, _, _⟩) (by rfl) 38 (.tmp 1) (by rfl) w.heap.size (by rfl) (t := 38) (cs := trc xs) (by exact Blk.new _ _ _) (by exact size_trc HL.out) row26 ?_))
  go_ret
  exact ⟨rfl, ((Below.refl _ _).alloc (Nat.le_refl _) _).trans (hb.mono (by simp))⟩
end Go.Proofs.Ytcijkniijomcjaa
