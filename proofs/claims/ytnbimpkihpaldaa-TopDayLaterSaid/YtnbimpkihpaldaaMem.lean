/- Laws of the walk for whole arrays and structs in a block of their own, over blocks that are known whole: a load, a store, a new variable; the world behind a store or a new variable as a letter. -/
import Derived.WalkKit
import Derived.Laws.Rows
import Derived.Laws.Tables
import Derived.WalkSpells
import Derived.Deep.Draws
import Derived.Deep.MidRow
import Derived.Deep.RegionHeld3
namespace Go.Cpl
open Go.RowKit

/-- Block g holds just these cells, and none is frozen. -/
def Blk (w : World) (g : Nat) (t : TypeId) (cs : Array Value) : Prop := w.heap[g]? = some (.cells cs t (0, 0))
section
variable {w w' : World} {g : Nat} {t : TypeId} {cs : Array Value}
theorem Blk.cell (h : Blk w g t cs) (i : Nat) : w.cell? ⟨g, i, none⟩ = cs[i]? := cell_of_row w g i cs t (0, 0) h
theorem Blk.free (h : Blk w g t cs) (i : Nat) : w.frozen? ⟨g, i, none⟩ = false := frozen_of_row w g i cs t h
theorem Blk.new (w : World) (t : TypeId) (cs : Array Value) : Blk (w.alloc (.cells cs t)) w.heap.size t cs := heap_alloc_new w _
theorem Blk.keep {B : Nat} (h : Blk w g t cs) (hb : Below B w w') (hg : g < B) : Blk w' g t cs := (hb.block g hg).trans h
theorem Blk.lt (h : Blk w g t cs) : g < w.heap.size := by
  rcases Nat.lt_or_ge g w.heap.size with hlt | hge
  · exact hlt
  · unfold Blk at h; rw [Array.getElem?_eq_none hge] at h; cases h
theorem Blk.kept (h : Blk w g t cs) (hb : Below w.heap.size w w') : Blk w' g t cs := h.keep hb h.lt
theorem Blk.drewN (h : Blk w g t cs) (n : Nat) : Blk (w.drewN n) g t cs := h
theorem Blk.drew (h : Blk w g t cs) : Blk w.drew g t cs := h
theorem Blk.alloc (h : Blk w g t cs) (o : Obj) : Blk (w.alloc o) g t cs := (Below.heap_alloc w o g h.lt).trans h
theorem Blk.set_ (h : Blk w g t cs) (i : Nat) (u : Value) : Blk (w.setCell ⟨g, i, none⟩ u) g t (cs.setIfInBounds i u) := heap_setCell_same w g i cs t u h
theorem Blk.far (h : Blk w g t cs) {p : Addr} (hp : g ≠ p.block) (u : Value) : Blk (w.setCell p u) g t cs := (Below.heap_setCell w p u g hp).trans h
end

theorem Blk.past {w w' : World} {g g' : Nat} {t : TypeId} {cs : Array Value} (h : Blk w g t cs) (l : w.heap.size ≤ g') (k : Below g' w w') : Blk w' g t cs := h.keep k (Nat.lt_of_lt_of_le h.lt l)

theorem below_drewN {B : Nat} {a w : World} (h : Below B a w) (n : Nat) : Below B a (w.drewN n) := ⟨h.os, h.tape, h.output, h.size, h.block⟩

/-- Only block g has turned. -/
structure Turn (g : Nat) (w w' : World) : Prop where
  os : w'.os = w.os
  tape : w'.tape = w.tape
  output : w'.output = w.output
  size : w'.heap.size = w.heap.size
  block : ∀ k, k ≠ g → w'.heap[k]? = w.heap[k]?

theorem Turn.below {g B : Nat} {w w' : World} (h : Turn g w w') (hB : B ≤ g) : Below B w w' := ⟨h.os, h.tape, h.output, Nat.le_of_eq h.size.symm, fun k hk => h.block k (by omega)⟩
theorem Turn.blk {g k : Nat} {w w' : World} {t : TypeId} {cs : Array Value} (h : Turn g w w') (hb : Blk w k t cs) (hk : k ≠ g) : Blk w' k t cs := (h.block k hk).trans hb
theorem Turn.setRow (w : World) (g : Nat) (cs : Array Value) : Turn g w (w.setRow g cs) := ⟨rfl, rfl, rfl, by simp, fun k hk => setRow_other w g k cs hk⟩
theorem Turn.setCell (w : World) (g i : Nat) (u : Value) : Turn g w (w.setCell ⟨g, i, none⟩ u) := ⟨rfl, rfl, rfl, by simp [World.setCell], fun k hk => Below.heap_setCell w _ u k hk⟩

/-- Of what was there at first nothing has turned. -/
def Kp (w0 w : World) : Prop := Below w0.heap.size w0 w
theorem Kp.refl (w : World) : Kp w w := Below.refl _ _
theorem Kp.new {w0 w w' : World} {g : Nat} (h : Kp w0 w) (l : w.heap.size ≤ g) (k : Below g w w') : Kp w0 w' := h.trans (k.mono (Nat.le_trans h.size l))
theorem Kp.call {w0 w w' : World} (h : Kp w0 w) (k : Below w.heap.size w w') : Kp w0 w' := h.trans (k.mono h.size)
theorem Kp.turn {w0 w w' : World} {g : Nat} (h : Kp w0 w) (o : w0.heap.size ≤ g) (k : Turn g w w') : Kp w0 w' := h.trans (k.below o)
theorem Kp.own {w0 w : World} {g : Nat} (h : Kp w0 w) (l : w.heap.size ≤ g) : w0.heap.size ≤ g := Nat.le_trans h.size l
theorem Kp.drewN {w0 w : World} (h : Kp w0 w) (n : Nat) : Kp w0 (w.drewN n) := below_drewN h n
theorem Kp.setCell {w0 w : World} {g : Nat} (h : Kp w0 w) (o : w0.heap.size ≤ g) (i : Nat) (u : Value) : Kp w0 (w.setCell ⟨g, i, none⟩ u) := Below.setCell h o u
theorem Kp.drew {w0 w : World} (h : Kp w0 w) : Kp w0 w.drew := Below.drew h
theorem Kp.alloc {w0 w : World} (h : Kp w0 w) (o : Obj) : Kp w0 (w.alloc o) := Below.alloc h h.size o

theorem rangeAt_of_blk {w : World} {g : Nat} {t : TypeId} {cs : Array Value} (h : Blk w g t cs) : w.rangeAt g 0 cs.toList := by
  intro j v hv
  rw [Nat.zero_add, h.cell]
  simpa using hv

/-- A type whose values are arrays or structs of n cells. -/
def IsRow (P : Program) (ty : TypeId) (n : Nat) : Prop := (∃ d, P.underlying ty = some d ∧ (match d with | .struct _ | .array _ _ => true | _ => false) = true) ∧ (P.info? ty).map (·.size) = some n

section
variable {P : Program} {ops : Array Oper} {rest : List Oper} {o : Oper} {a : Act} {w : World} {Q : Exit → Act → World → Prop}

theorem wl_load (hgd : o.guard = none) (ty : TypeId) (x : Operand) (ho : o.op = .load ty x) (g : Nat) (hx : a.eval x = .pointer (some ⟨g, 0, none⟩)) {t : TypeId} {cs : Array Value} (hb : Blk w g t cs) {n : Nat} (hn : cs.size = n) (hr : IsRow P ty n)
    (h : wpList P ops Q rest (a.put o.dst (.agg cs)) w) : wpList P ops Q (o :: rest) a w := by
  subst hn
  obtain ⟨⟨d, hu, hd⟩, hi⟩ := hr
  cases d <;> first | exact wpList_load_row hgd ty x ho g hx t cs (0, 0) _ hb hu rfl hi h | cases hd

theorem wl_store (hgd : o.guard = none) (ty : TypeId) (x y : Operand) (ho : o.op = .store ty x y) (g : Nat) (cells : Array Value) (hx : a.eval x = .pointer (some ⟨g, 0, none⟩)) (hy : a.eval y = .agg cells)
    {t : TypeId} {old : Array Value} (hb : Blk w g t old) {n : Nat} (hn : cells.size = n) (ho' : old.size = n) (hr : IsRow P ty n) (h1 : cells.all (·.oneCell') = true)
    (h : ∀ w', Blk w' g t cells → Turn g w w' → wpList P ops Q rest (a.put o.dst undef) w') : wpList P ops Q (o :: rest) a w := by
  subst hn
  exact wpList_store_row hgd ty x y ho g cells hx hy t old hb hr.2 ho' h1 (h _ (setRow_heap w g old cells t (0, 0) hb) (Turn.setRow w g cells))

theorem wl_alloc (hgd : o.guard = none) (ty : TypeId) (ho : o.op = .alloc ty) (cells : Array Value) (hz : ((P.info? ty).bind (·.zero)).map (·.cells) = some cells)
    (h : ∀ g w', w.heap.size ≤ g → Blk w' g ty cells → Below g w w' → wpList P ops Q rest (a.put o.dst (.pointer (some ⟨g, 0, none⟩))) w') : wpList P ops Q (o :: rest) a w := by
  refine wpList_plain hgd fun K hK => ?_
  unfold Oper.wp execOp
  cases hi : P.info? ty with
  | none => simp [hi] at hz
  | some i =>
    cases hv : i.zero with
    | none => simp [hi, hv] at hz
    | some v =>
      have hc : v.cells = cells := by simpa [hi, hv] using hz
      have h' := hK _ _ (h w.heap.size _ (Nat.le_refl _) (Blk.new _ _ _) ((Below.refl _ _).alloc (Nat.le_refl _) _))
      simp [ho, Instr.alloc, zeroValue, typeInfo, newVar, newRow, hc, hi, hv]
      exact h'

theorem wl_box (hgd : o.guard = none) (ty : TypeId) (x : Operand) (ho : o.op = .box ty x) (cells : Array Value) (hx : a.eval x = .agg cells)
    (h : ∀ g w', w.heap.size ≤ g → Blk w' g ty cells → Below g w w' → wpList P ops Q rest (a.put o.dst (.pointer (some ⟨g, 0, none⟩))) w') : wpList P ops Q (o :: rest) a w := by
  refine wpList_plain hgd fun K hK => ?_
  unfold Oper.wp execOp
  have h' := hK _ _ (h w.heap.size _ (Nat.le_refl _) (Blk.new _ _ _) ((Below.refl _ _).alloc (Nat.le_refl _) _))
  simp [ho, hx, Instr.box, newVar, newRow, Value.cells]
  exact h'

theorem run_loadVar_blk {ty : TypeId} {g : Nat} {t : TypeId} {cs : Array Value} (hb : Blk w g t cs) {n : Nat} (hn : cs.size = n) (hr : IsRow P ty n) : (loadVar ty ⟨g, 0, none⟩).run P w = .ok (.agg cs) w := by
  subst hn
  obtain ⟨⟨d, hu, hd⟩, hi⟩ := hr
  cases d <;> first | exact run_loadVar_row w g t ty cs (0, 0) _ hb hu rfl hi | cases hd

theorem res_cell {fn : Func} {p : Tmp} {ty : TypeId} (h : fn.results = #[.cell p ty]) (tmps : Array Value) {g : Nat} (hp : tmps.getD p undef = .pointer (some ⟨g, 0, none⟩)) {t : TypeId} {cs : Array Value} (hb : Blk w g t cs) {n : Nat} (hn : cs.size = n) (hr : IsRow P ty n) :
    (results fn tmps).run P w = .ok (.agg cs) w := by
  have hp' : tmps[p]?.getD undef = .pointer (some ⟨g, 0, none⟩) := by simpa using hp
  simp [results, h, hp', asAddr, run_loadVar_blk hb hn hr]

theorem res_cell_tmp {fn : Func} {p q : Tmp} {ty : TypeId} (h : fn.results = #[.cell p ty, .tmp q]) (tmps : Array Value) {g : Nat} (hp : tmps.getD p undef = .pointer (some ⟨g, 0, none⟩)) {t : TypeId} {cs : Array Value} (hb : Blk w g t cs) {n : Nat} (hn : cs.size = n) (hr : IsRow P ty n) :
    (results fn tmps).run P w = .ok (.tuple #[.agg cs, tmps.getD q undef]) w := by
  have hp' : tmps[p]?.getD undef = .pointer (some ⟨g, 0, none⟩) := by simpa using hp
  simp [results, h, hp', asAddr, run_loadVar_blk hb hn hr]

theorem res_cell_tmp_tmp {fn : Func} {p q r : Tmp} {ty : TypeId} (h : fn.results = #[.cell p ty, .tmp q, .tmp r]) (tmps : Array Value) {g : Nat} (hp : tmps.getD p undef = .pointer (some ⟨g, 0, none⟩)) {t : TypeId} {cs : Array Value} (hb : Blk w g t cs) {n : Nat} (hn : cs.size = n) (hr : IsRow P ty n) :
    (results fn tmps).run P w = .ok (.tuple #[.agg cs, tmps.getD q undef, tmps.getD r undef]) w := by
  have hp' : tmps[p]?.getD undef = .pointer (some ⟨g, 0, none⟩) := by simpa using hp
  simp [results, h, hp', asAddr, run_loadVar_blk hb hn hr]

/-- In a region that draws its order: the load of a whole array or struct may be taken first. -/
theorem yl_load {S : World → Prop} (hw : Region.wanted o (yielded ops a.tmps) = true) {ty : TypeId} {x : Operand} (ho : o.op = .load ty x) {g : Nat} (hx : a.eval x = .pointer (some ⟨g, 0, none⟩)) {t : TypeId} {cs : Array Value} (hS : ∀ w, S w → Blk w g t cs) {n : Nat} (hn : cs.size = n) (hr : IsRow P ty n) : YieldsIf P ops S o (.agg cs) a :=
  .inl ⟨hw, fun w hw' => by
    unfold execOp
    simp only [ho, hx, Instr.loadAt, Instr.sureAddr, Sem.run_bind, Sem.run_pure, Result.andThen_ok, run_loadVar_blk (hS w hw') hn hr]⟩

/-! The same laws, the operation written out, so that each fits by its slot alone. -/
variable {tt : TypeId} {pos : String} {aft : Array Edge}
theorem wlA (dst : Option Tmp) (ty : TypeId) (cells : Array Value) (hz : ((P.info? ty).bind (·.zero)).map (·.cells) = some cells)
    (h : ∀ g w', w.heap.size ≤ g → Blk w' g ty cells → Below g w w' → wpList P ops Q rest (a.put dst (.pointer (some ⟨g, 0, none⟩))) w') : wpList P ops Q (⟨dst, .alloc ty, tt, pos, aft, none⟩ :: rest) a w :=
  wl_alloc (o := ⟨dst, .alloc ty, tt, pos, aft, none⟩) rfl ty rfl cells hz h
theorem wlB (dst : Option Tmp) (ty : TypeId) {x : Operand} (cells : Array Value) (hx : a.eval x = .agg cells)
    (h : ∀ g w', w.heap.size ≤ g → Blk w' g ty cells → Below g w w' → wpList P ops Q rest (a.put dst (.pointer (some ⟨g, 0, none⟩))) w') : wpList P ops Q (⟨dst, .box ty x, tt, pos, aft, none⟩ :: rest) a w :=
  wl_box (o := ⟨dst, .box ty x, tt, pos, aft, none⟩) rfl ty x rfl cells hx h
theorem wlL (dst : Option Tmp) (ty : TypeId) {x : Operand} {g : Nat} {t : TypeId} {cs : Array Value} (hb : Blk w g t cs) {n : Nat} (hn : cs.size = n) (hr : IsRow P ty n) (hx : a.eval x = .pointer (some ⟨g, 0, none⟩))
    (h : wpList P ops Q rest (a.put dst (.agg cs)) w) : wpList P ops Q (⟨dst, .load ty x, tt, pos, aft, none⟩ :: rest) a w :=
  wl_load (o := ⟨dst, .load ty x, tt, pos, aft, none⟩) rfl ty x rfl g hx hb hn hr h
theorem wlS (ty : TypeId) (x y : Operand) {g : Nat} {cells : Array Value} {t : TypeId} {old : Array Value} (hb : Blk w g t old) {n : Nat} (ho' : old.size = n) (hn : cells.size = n) (hr : IsRow P ty n) (h1 : cells.all (·.oneCell') = true) (hx : a.eval x = .pointer (some ⟨g, 0, none⟩)) (hy : a.eval y = .agg cells)
    (h : ∀ w', Blk w' g t cells → Turn g w w' → wpList P ops Q rest (a.put none undef) w') : wpList P ops Q (⟨none, .store ty x y, tt, pos, aft, none⟩ :: rest) a w :=
  wl_store (o := ⟨none, .store ty x y, tt, pos, aft, none⟩) rfl ty x y rfl g cells hx hy hb hn ho' hr h1 h
end

theorem run_store_float (P : Program) (w : World) (a : Addr) (m : Mode) (k : FloatKind) (b : Nat) : (store a (.float k b) m).run P w = stored P w a (.float k b) m := run_store P w a _ m rfl
theorem run_store_complex (P : Program) (w : World) (a : Addr) (m : Mode) (k : FloatKind) (x y : Nat) : (store a (.complex k x y) m).run P w = stored P w a (.complex k x y) m := run_store P w a _ m rfl

/-- max and min, shut to the walk. -/
def mx (x y : Int) : Int := if y > x then y else x
def mn (x y : Int) : Int := if y < x then y else x
theorem mx_eq (x y : Int) : mx x y = max x y := by unfold mx; split <;> omega
theorem mn_eq (x y : Int) : mn x y = min x y := by unfold mn; split <;> omega
theorem run_max_mx (P : Program) (w : World) (ts : Array TypeId) (t : TypeId) (k k' : IntKind) (x y : Int) : (Builtin.max_ ts t #[.int k x, .int k' y]).run P w = .ok (.int k (mx x y)) w := run_max_int2 w ts t k k' x y
theorem run_min_mn (P : Program) (w : World) (ts : Array TypeId) (t : TypeId) (k k' : IntKind) (x y : Int) : (Builtin.min_ ts t #[.int k x, .int k' y]).run P w = .ok (.int k (mn x y)) w := run_min_int2 w ts t k k' x y

/-- What is kept below a lesser number. -/
theorem below_chain {B C : Nat} {a b c : World} (h : Below B a b) (k : Below C b c) (hBC : B ≤ C) : Below B a c := h.trans (k.mono hBC)
end Go.Cpl
