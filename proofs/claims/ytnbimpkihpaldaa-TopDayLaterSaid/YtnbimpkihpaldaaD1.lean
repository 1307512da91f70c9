/- Bounds, sizes and names. -/
import Derived.Test.YtnbimpkihpaldaaProg
import Derived.Test.YtnbimpkihpaldaaSp2
import Derived.Laws.Cover3
import Derived.Laws.Small
namespace Go.Proofs.Ytnbimpkihpaldaa
open Go.RowKit Go.Cpl

set_option maxRecDepth 100000 in
set_option maxHeartbeats 400000 in
theorem within_s (n lo hi : Int) (w0 : World) :
    Calls Try.prog 21 #[.int .i64 n, .int .i64 lo, .int .i64 hi] w0 fun e w' => e = .returned (.bool (inB n lo hi)) ∧ Below w0.heap.size w0 w' := by
  have S0 := St.start w0
  refine enter (n := 15) Try.func21 rfl rfl rfl (fun ac A0 => ?_)
  refine wp_seq ?_
  refine wp_region_lit ?_
  refine s_one (.bool false) A0 S0 (g_assign (by kernel_rfl)) rfl (fun ac A1 => ?_)
  refine wpList_nil ?_
  refine n_then ?_
  refine wp_seq ?_
  refine c_cut (fun ac wc => Fr 15 ac [(6, .bool ((decide (lo ≤ n)) && (decide (n ≤ hi)))), (0, .int .i64 n), (1, .int .i64 lo), (2, .int .i64 hi)] ∧ St w0 [] [] wc) ?_ ?_
  · refine wp_region_lit ?_
    refine s_one (.int .i64 lo) A1 S0 (g_move (by kernel_rfl)) rfl (fun ac A2 => ?_)
    refine s_one (.int .i64 n) A2 S0 (g_move (by kernel_rfl)) rfl (fun ac A3 => ?_)
    refine s_one (.bool (decide (lo ≤ n))) A3 S0 (g_bin (u := .int .i64 lo) (k := .int .i64 n) (by kernel_rfl) (by kernel_rfl) (fun _ => by kernel_rfl) (fun _ => by kernel_rfl)) rfl (fun ac A4 => ?_)
    refine s_one (.bool (decide (lo ≤ n))) A4 S0 (g_move (by kernel_rfl)) rfl (fun ac A5 => ?_)
    refine by_bool (decide (lo ≤ n)) (fun h6 => ?_) (fun h6 => ?_)
    · have p7 := of_decide_eq_true h6
      refine s_want (dj := 10) (b := (decide (lo ≤ n))) A5 (by kernel_rfl) (by kernel_rfl) h6 ?_
      refine s_one (.int .i64 n) A5 S0 (g_move (by kernel_rfl)) rfl (fun ac A8 => ?_)
      refine s_want (dj := 10) (b := (decide (lo ≤ n))) A8 (by kernel_rfl) (by kernel_rfl) h6 ?_
      refine s_one (.int .i64 hi) A8 S0 (g_move (by kernel_rfl)) rfl (fun ac A9 => ?_)
      refine s_want (dj := 10) (b := (decide (lo ≤ n))) A9 (by kernel_rfl) (by kernel_rfl) h6 ?_
      refine s_one (.bool (decide (n ≤ hi))) A9 S0 (g_bin (u := .int .i64 n) (k := .int .i64 hi) (by kernel_rfl) (by kernel_rfl) (fun _ => by kernel_rfl) (fun _ => by kernel_rfl)) rfl (fun ac A10 => ?_)
      refine s_one (.bool (decide (n ≤ hi))) A10 S0 (g_pick_t (b := (decide (lo ≤ n))) (by kernel_rfl) h6 (by kernel_rfl)) rfl (fun ac A11 => ?_)
      refine s_one (.bool (decide (n ≤ hi))) A11 S0 (g_assign (by kernel_rfl)) rfl (fun ac A12 => ?_)
      refine wpList_nil ?_
      refine n_then ?_
      exact ⟨(A12.slot (A12.slot (A12.slot (A12.slot A12.nil (v := .int .i64 hi) (by kernel_rfl) rfl) (v := .int .i64 lo) (by kernel_rfl) rfl) (v := .int .i64 n) (by kernel_rfl) rfl) (v := .bool (decide (n ≤ hi))) (by kernel_rfl) (congrArg Value.bool (b_and_t h6 (Eq.refl (decide (n ≤ hi)))).symm)), S0.sub sub_all sub_all⟩
    · have p13 := of_decide_eq_false h6
      refine s_not (dj := 10) (b := (decide (lo ≤ n))) A5 (by kernel_rfl) (by kernel_rfl) h6 rfl (fun ac A14 => ?_)
      refine s_not (dj := 10) (b := (decide (lo ≤ n))) A14 (by kernel_rfl) (by kernel_rfl) h6 rfl (fun ac A15 => ?_)
      refine s_not (dj := 10) (b := (decide (lo ≤ n))) A15 (by kernel_rfl) (by kernel_rfl) h6 rfl (fun ac A16 => ?_)
      refine s_one (.bool false) A16 S0 (g_pick_f (b := (decide (lo ≤ n))) (by kernel_rfl) h6 (by kernel_rfl)) rfl (fun ac A17 => ?_)
      refine s_one (.bool false) A17 S0 (g_assign (by kernel_rfl)) rfl (fun ac A18 => ?_)
      refine wpList_nil ?_
      refine n_then ?_
      exact ⟨(A18.slot (A18.slot (A18.slot (A18.slot A18.nil (v := .int .i64 hi) (by kernel_rfl) rfl) (v := .int .i64 lo) (by kernel_rfl) rfl) (v := .int .i64 n) (by kernel_rfl) rfl) (v := .bool false) (by kernel_rfl) (congrArg Value.bool (b_af1 h6).symm)), S0.sub sub_all sub_all⟩
  · rintro ac wc ⟨A19, S20⟩
    refine n_then ?_
    refine wp_ret ?_
    refine fin1 (.bool ((decide (lo ≤ n)) && (decide (n ≤ hi)))) Try.results21 A19 S20 (rv_tmp (by kernel_rfl)) ⟨?_, S20.kp⟩
    rfl

set_option maxRecDepth 100000 in
set_option maxHeartbeats 400000 in
theorem Within_s (n lo hi : Int) (w0 : World) :
    Calls Try.prog 5 #[.int .i64 n, .int .i64 lo, .int .i64 hi] w0 fun e w' => e = .returned (.bool (inB n lo hi)) ∧ Below w0.heap.size w0 w' := by
  have S0 := St.start w0
  refine enter (n := 15) Try.func5 rfl rfl rfl (fun ac A0 => ?_)
  refine wp_seq ?_
  refine wp_region_lit ?_
  refine s_one (.bool false) A0 S0 (g_assign (by kernel_rfl)) rfl (fun ac A1 => ?_)
  refine wpList_nil ?_
  refine n_then ?_
  refine wp_seq ?_
  refine c_cut (fun ac wc => Fr 15 ac [(6, .bool ((decide (lo ≤ n)) && (decide (n ≤ hi)))), (0, .int .i64 n), (1, .int .i64 lo), (2, .int .i64 hi)] ∧ St w0 [] [] wc) ?_ ?_
  · refine wp_region_lit ?_
    refine s_one (.int .i64 lo) A1 S0 (g_move (by kernel_rfl)) rfl (fun ac A2 => ?_)
    refine s_one (.int .i64 n) A2 S0 (g_move (by kernel_rfl)) rfl (fun ac A3 => ?_)
    refine s_one (.bool (decide (lo ≤ n))) A3 S0 (g_bin (u := .int .i64 lo) (k := .int .i64 n) (by kernel_rfl) (by kernel_rfl) (fun _ => by kernel_rfl) (fun _ => by kernel_rfl)) rfl (fun ac A4 => ?_)
    refine s_one (.bool (decide (lo ≤ n))) A4 S0 (g_move (by kernel_rfl)) rfl (fun ac A5 => ?_)
    refine by_bool (decide (lo ≤ n)) (fun h6 => ?_) (fun h6 => ?_)
    · have p7 := of_decide_eq_true h6
      refine s_want (dj := 10) (b := (decide (lo ≤ n))) A5 (by kernel_rfl) (by kernel_rfl) h6 ?_
      refine s_one (.int .i64 n) A5 S0 (g_move (by kernel_rfl)) rfl (fun ac A8 => ?_)
      refine s_want (dj := 10) (b := (decide (lo ≤ n))) A8 (by kernel_rfl) (by kernel_rfl) h6 ?_
      refine s_one (.int .i64 hi) A8 S0 (g_move (by kernel_rfl)) rfl (fun ac A9 => ?_)
      refine s_want (dj := 10) (b := (decide (lo ≤ n))) A9 (by kernel_rfl) (by kernel_rfl) h6 ?_
      refine s_one (.bool (decide (n ≤ hi))) A9 S0 (g_bin (u := .int .i64 n) (k := .int .i64 hi) (by kernel_rfl) (by kernel_rfl) (fun _ => by kernel_rfl) (fun _ => by kernel_rfl)) rfl (fun ac A10 => ?_)
      refine s_one (.bool (decide (n ≤ hi))) A10 S0 (g_pick_t (b := (decide (lo ≤ n))) (by kernel_rfl) h6 (by kernel_rfl)) rfl (fun ac A11 => ?_)
      refine s_one (.bool (decide (n ≤ hi))) A11 S0 (g_assign (by kernel_rfl)) rfl (fun ac A12 => ?_)
      refine wpList_nil ?_
      refine n_then ?_
      exact ⟨(A12.slot (A12.slot (A12.slot (A12.slot A12.nil (v := .int .i64 hi) (by kernel_rfl) rfl) (v := .int .i64 lo) (by kernel_rfl) rfl) (v := .int .i64 n) (by kernel_rfl) rfl) (v := .bool (decide (n ≤ hi))) (by kernel_rfl) (congrArg Value.bool (b_and_t h6 (Eq.refl (decide (n ≤ hi)))).symm)), S0.sub sub_all sub_all⟩
    · have p13 := of_decide_eq_false h6
      refine s_not (dj := 10) (b := (decide (lo ≤ n))) A5 (by kernel_rfl) (by kernel_rfl) h6 rfl (fun ac A14 => ?_)
      refine s_not (dj := 10) (b := (decide (lo ≤ n))) A14 (by kernel_rfl) (by kernel_rfl) h6 rfl (fun ac A15 => ?_)
      refine s_not (dj := 10) (b := (decide (lo ≤ n))) A15 (by kernel_rfl) (by kernel_rfl) h6 rfl (fun ac A16 => ?_)
      refine s_one (.bool false) A16 S0 (g_pick_f (b := (decide (lo ≤ n))) (by kernel_rfl) h6 (by kernel_rfl)) rfl (fun ac A17 => ?_)
      refine s_one (.bool false) A17 S0 (g_assign (by kernel_rfl)) rfl (fun ac A18 => ?_)
      refine wpList_nil ?_
      refine n_then ?_
      exact ⟨(A18.slot (A18.slot (A18.slot (A18.slot A18.nil (v := .int .i64 hi) (by kernel_rfl) rfl) (v := .int .i64 lo) (by kernel_rfl) rfl) (v := .int .i64 n) (by kernel_rfl) rfl) (v := .bool false) (by kernel_rfl) (congrArg Value.bool (b_af1 h6).symm)), S0.sub sub_all sub_all⟩
  · rintro ac wc ⟨A19, S20⟩
    refine n_then ?_
    refine wp_ret ?_
    refine fin1 (.bool ((decide (lo ≤ n)) && (decide (n ≤ hi)))) Try.results5 A19 S20 (rv_tmp (by kernel_rfl)) ⟨?_, S20.kp⟩
    rfl

set_option maxRecDepth 100000 in
set_option maxHeartbeats 400000 in
theorem small_s (n m : Int) (w0 : World) (h0 : 0 ≤ m) (h1 : m ≤ 1000000000000) :
    Calls Try.prog 32 #[.int .i64 n, .int .i64 m] w0 fun e w' => e = .returned (.bool (inB n (-m) m)) ∧ Below w0.heap.size w0 w' := by
  have S0 := St.start w0
  refine enter (n := 10) Try.func32 rfl rfl rfl (fun ac A0 => ?_)
  refine wp_seq ?_
  refine wp_region_lit ?_
  refine s_one (.bool false) A0 S0 (g_assign (by kernel_rfl)) rfl (fun ac A1 => ?_)
  refine wpList_nil ?_
  refine n_then ?_
  refine wp_seq ?_
  refine wp_region_lit ?_
  refine s_one (.int .i64 n) A1 S0 (g_move (by kernel_rfl)) rfl (fun ac A2 => ?_)
  refine s_one (.int .i64 m) A2 S0 (g_move (by kernel_rfl)) rfl (fun ac A3 => ?_)
  refine s_one (.int .i64 (-m)) A3 S0 (g_un (u := .int .i64 m) (by kernel_rfl) (u_neg (by omega))) rfl (fun ac A4 => ?_)
  refine s_one (.int .i64 m) A4 S0 (g_move (by kernel_rfl)) rfl (fun ac A5 => ?_)
  refine s_call (fs := #[]) (cp := #[]) (r := [(0, .int .i64 n), (0, .int .i64 (-m)), (0, .int .i64 m)]) #[.int .i64 n, .int .i64 (-m), .int .i64 m] (.bool (inB n (-m) m)) A5 S0 (within_s n (-m) m _) Try.call21 (by kernel_rfl) (by kernel_rfl) (by kernel_rfl) rfl (fun ac wc A6 S7 => ?_)
  refine s_one (.bool (inB n (-m) m)) A6 S7 (g_assign (by kernel_rfl)) rfl (fun ac A9 => ?_)
  refine wpList_nil ?_
  refine n_then ?_
  refine wp_ret ?_
  refine fin1 (.bool (inB n (-m) m)) Try.results32 A9 S7 (rv_tmp (by kernel_rfl)) ⟨?_, S7.kp⟩
  rfl

set_option maxRecDepth 100000 in
set_option maxHeartbeats 400000 in
theorem size_s (n : Int) (w0 : World) (h : -1000000000000 ≤ n ∧ n ≤ 1000000000000) :
    Calls Try.prog 47 #[.int .i64 n] w0 fun e w' => e = .returned (.int .i64 (abI n)) ∧ Below w0.heap.size w0 w' := by
  have S0 := St.start w0
  refine enter (n := 7) Try.func47 rfl rfl rfl (fun ac A0 => ?_)
  refine wp_seq ?_
  refine wp_region_lit ?_
  refine s_one (.int .i64 0) A0 S0 (g_assign (by kernel_rfl)) rfl (fun ac A1 => ?_)
  refine wpList_nil ?_
  refine n_then ?_
  refine wp_seq ?_
  refine wp_region_lit ?_
  refine s_one (.int .i64 n) A1 S0 (g_move (by kernel_rfl)) rfl (fun ac A2 => ?_)
  refine s_one (.int .i64 n) A2 S0 (g_move (by kernel_rfl)) rfl (fun ac A3 => ?_)
  refine s_one (.int .i64 (-n)) A3 S0 (g_un (u := .int .i64 n) (by kernel_rfl) (u_neg (by omega))) rfl (fun ac A4 => ?_)
  refine s_one (.int .i64 (mx n (-n))) A4 S0 (g_built (r := [(0, .int .i64 n), (0, .int .i64 (-n))]) (by kernel_rfl) (fun ty cs w => by show (do let x ← Builtin.max_ _ ty #[.int .i64 n, .int .i64 (-n)]; pure (Next.value x) : Sem Next).run _ w = _; rw [Sem.run_bind, run_max_mx]; rfl)) rfl (fun ac A5 => ?_)
  refine s_one (.int .i64 (mx n (-n))) A5 S0 (g_assign (by kernel_rfl)) rfl (fun ac A6 => ?_)
  refine wpList_nil ?_
  refine n_then ?_
  refine wp_ret ?_
  refine fin1 (.int .i64 (mx n (-n))) Try.results47 A6 S0 (rv_tmp (by kernel_rfl)) ⟨?_, S0.kp⟩
  rfl

set_option maxRecDepth 100000 in
set_option maxHeartbeats 400000 in
theorem Size_s (n : Int) (w0 : World) (h : -1000000000000 ≤ n ∧ n ≤ 1000000000000) :
    Calls Try.prog 49 #[.int .i64 n] w0 fun e w' => e = .returned (.int .i64 (abI n)) ∧ Below w0.heap.size w0 w' := by
  have S0 := St.start w0
  refine enter (n := 7) Try.func49 rfl rfl rfl (fun ac A0 => ?_)
  refine wp_seq ?_
  refine wp_region_lit ?_
  refine s_one (.int .i64 0) A0 S0 (g_assign (by kernel_rfl)) rfl (fun ac A1 => ?_)
  refine wpList_nil ?_
  refine n_then ?_
  refine wp_seq ?_
  refine wp_region_lit ?_
  refine s_one (.int .i64 n) A1 S0 (g_move (by kernel_rfl)) rfl (fun ac A2 => ?_)
  refine s_one (.int .i64 n) A2 S0 (g_move (by kernel_rfl)) rfl (fun ac A3 => ?_)
  refine s_one (.int .i64 (-n)) A3 S0 (g_un (u := .int .i64 n) (by kernel_rfl) (u_neg (by omega))) rfl (fun ac A4 => ?_)
  refine s_one (.int .i64 (mx n (-n))) A4 S0 (g_built (r := [(0, .int .i64 n), (0, .int .i64 (-n))]) (by kernel_rfl) (fun ty cs w => by show (do let x ← Builtin.max_ _ ty #[.int .i64 n, .int .i64 (-n)]; pure (Next.value x) : Sem Next).run _ w = _; rw [Sem.run_bind, run_max_mx]; rfl)) rfl (fun ac A5 => ?_)
  refine s_one (.int .i64 (mx n (-n))) A5 S0 (g_assign (by kernel_rfl)) rfl (fun ac A6 => ?_)
  refine wpList_nil ?_
  refine n_then ?_
  refine wp_ret ?_
  refine fin1 (.int .i64 (mx n (-n))) Try.results49 A6 S0 (rv_tmp (by kernel_rfl)) ⟨?_, S0.kp⟩
  rfl

theorem name_end (nm : Bs) : (!(decide ((nm.length : Int) < 1) || decide ((nm.length : Int) > 12))) = (decide (nm ≠ ([] : List UInt8)) && decide ((nm.length : Int) ≤ 12)) := by
  cases nm with
  | nil => rfl
  | cons x l =>
    rw [decide_eq_false (by simp; omega), Bool.false_or, decide_eq_true (by simp : x :: l ≠ []), Bool.true_and]
    rw [Bool.eq_iff_iff]
    simp only [decide_eq_true_iff, Bool.not_eq_true', decide_eq_false_iff_not]
    omega
theorem q_slnil {P : Program} {t : TypeId} {e : TypeId} {ad : Addr} {m c : Nat} (h : P.underlying t = some (.slice e)) (w : World) : (binOp .eql t (.slice (some ad) m c) (.slice none 0 0)).run P w = .ok (.bool false) w := by
  simp [binOp, run_equal_slice_nil w t e (some ad) m c h]
theorem q_bool {P : Program} {t : TypeId} {a b : Bool} (h : P.underlying t = some .bool) (w : World) : (binOp .eql t (.bool a) (.bool b)).run P w = .ok (.bool (decide (a = b))) w := by
  simp [binOp, run_equal_bool w t a b h]
  cases a <;> cases b <;> rfl
theorem q_boolN {P : Program} {t : TypeId} {a b : Bool} (h : P.underlying t = some .bool) (w : World) : (binOp .neq t (.bool a) (.bool b)).run P w = .ok (.bool (decide (a ≠ b))) w := by
  simp [binOp, run_equal_bool w t a b h]
  cases a <;> cases b <;> rfl
theorem lsX_getE {n : Nat} {b : Nat → Ls} {k : Nat} {x : Ls} (hk : k < n) (e : b k = x) : ∀ j y, (lsC x)[j]? = some y → (lsX n b)[k * 4 + j]? = some y := by
  subst e; exact lsX_get hk
theorem bX_getE {n : Nat} {f : Nat → Bool} {k : Nat} {x : Bool} (hk : k < n) (e : f k = x) : (bX n f)[k]? = some (.bool x) := by
  subst e; exact bX_get hk
theorem ls_cell {w : World} {ad : Addr} {X : List Value} {o : Nat} {x : Value} (h : VReads w (some ad) X) (hx : X[o]? = some x) : w.cell? (ad.add o) = some x := by
  obtain ⟨_, e, hc⟩ := h o x hx
  cases e; exact hc
theorem ls_cells {w : World} {ad : Addr} {X us : List Value} {o : Nat} (h : VReads w (some ad) X) (hx : ∀ j x, us[j]? = some x → X[o + j]? = some x) : ∀ j x, us[j]? = some x → w.cell? ((ad.add o).add j) = some x := by
  intro j x q
  rw [Addr.add_add]; exact ls_cell h (hx j x q)
theorem ir_take {w : World} {A : Option Addr} {l : List Int} (h : IReads w A l) (m : Nat) : IReads w A (l.take m) := by
  intro k hk
  rw [List.length_take] at hk
  obtain ⟨ad, e, hc⟩ := h k (by omega)
  refine ⟨ad, e, ?_⟩
  have : nthI (l.take m) k = nthI l k := by
    simp only [nthI, List.getD_eq_getElem?_getD, List.getElem?_take]
    rw [if_pos (by omega)]
  rw [this]; exact hc
theorem ix_xA1 {P : Program} {t : TypeId} {A : Option Addr} {ad : Addr} {m c e : Nat} {bytes : Nat} {i : Int} (k : Nat) (he : elemInfo P t = some (e, 1, bytes)) (hi : i = (k : Int)) (hk : k < m) (hA : A = some ad) (w : World) : (Instr.indexAt t (.slice A m c) (.int .i64 i)).run P w = .ok (.pointer (some (ad.add k))) w := by
  subst hA; exact ix_x k he hi hk w

set_option maxRecDepth 100000 in
set_option maxHeartbeats 400000 in
theorem IsName_s (nm : List UInt8) (w0 : World) (hn : nm.length ≤ 9223372036854775807) :
    Calls Try.prog 28 #[.string ⟨nm.toArray⟩] w0 fun e w' => e = .returned (.bool (nameB nm)) ∧ Below w0.heap.size w0 w' := by
  have S0 := St.start w0
  refine enter (n := 55) Try.func28 rfl rfl rfl (fun ac A0 => ?_)
  refine wp_seq ?_
  refine wp_region_lit ?_
  refine s_one (.bool false) A0 S0 (g_assign (by kernel_rfl)) rfl (fun ac A1 => ?_)
  refine wpList_nil ?_
  refine n_then ?_
  refine wp_seq ?_
  refine wp_seq ?_
  refine c_cut (fun ac wc => Fr 55 ac [(13, .bool ((decide ((nm.length : Int) < 1)) || (decide ((nm.length : Int) > 12)))), (0, .string ⟨nm.toArray⟩), (2, .bool false)] ∧ St w0 [] [] wc) ?_ ?_
  · refine wp_region_lit ?_
    refine s_one (.string ⟨nm.toArray⟩) A1 S0 (g_move (by kernel_rfl)) rfl (fun ac A2 => ?_)
    refine s_one (.int .i64 (nm.length : Int)) A2 S0 (g_built (r := [(0, .string ⟨nm.toArray⟩)]) (by kernel_rfl) (fun ty cs w => bl_str (l := nm) Try.underlying9 ty cs w)) rfl (fun ac A3 => ?_)
    refine s_one (.bool (decide ((nm.length : Int) < 1))) A3 S0 (g_bin (u := .int .i64 (nm.length : Int)) (k := .int .i64 1) (by kernel_rfl) (by kernel_rfl) (fun _ => by kernel_rfl) (fun _ => by kernel_rfl)) rfl (fun ac A4 => ?_)
    refine s_one (.bool (decide ((nm.length : Int) < 1))) A4 S0 (g_move (by kernel_rfl)) rfl (fun ac A5 => ?_)
    refine by_bool (decide ((nm.length : Int) < 1)) (fun h6 => ?_) (fun h6 => ?_)
    · have p7 := of_decide_eq_true h6
      refine s_not (dj := 9) (b := (decide ((nm.length : Int) < 1))) A5 (by kernel_rfl) (by kernel_rfl) h6 rfl (fun ac A8 => ?_)
      refine s_not (dj := 9) (b := (decide ((nm.length : Int) < 1))) A8 (by kernel_rfl) (by kernel_rfl) h6 rfl (fun ac A9 => ?_)
      refine s_not (dj := 9) (b := (decide ((nm.length : Int) < 1))) A9 (by kernel_rfl) (by kernel_rfl) h6 rfl (fun ac A10 => ?_)
      refine s_one (.bool true) A10 S0 (g_pick_t (b := (decide ((nm.length : Int) < 1))) (by kernel_rfl) h6 (by kernel_rfl)) rfl (fun ac A11 => ?_)
      refine wpList_nil ?_
      refine n_then ?_
      exact ⟨(A11.slot (A11.slot (A11.slot A11.nil (v := .bool false) (by kernel_rfl) rfl) (v := .string ⟨nm.toArray⟩) (by kernel_rfl) rfl) (v := .bool true) (by kernel_rfl) (congrArg Value.bool (b_ot1 h6).symm)), S0.sub sub_all sub_all⟩
    · have p12 := of_decide_eq_false h6
      refine s_want (dj := 9) (b := (decide ((nm.length : Int) < 1))) A5 (by kernel_rfl) (by kernel_rfl) h6 ?_
      refine s_one (.string ⟨nm.toArray⟩) A5 S0 (g_move (by kernel_rfl)) rfl (fun ac A13 => ?_)
      refine s_want (dj := 9) (b := (decide ((nm.length : Int) < 1))) A13 (by kernel_rfl) (by kernel_rfl) h6 ?_
      refine s_one (.int .i64 (nm.length : Int)) A13 S0 (g_built (r := [(0, .string ⟨nm.toArray⟩)]) (by kernel_rfl) (fun ty cs w => bl_str (l := nm) Try.underlying9 ty cs w)) rfl (fun ac A14 => ?_)
      refine s_want (dj := 9) (b := (decide ((nm.length : Int) < 1))) A14 (by kernel_rfl) (by kernel_rfl) h6 ?_
      refine s_one (.bool (decide ((nm.length : Int) > 12))) A14 S0 (g_bin (u := .int .i64 (nm.length : Int)) (k := .int .i64 12) (by kernel_rfl) (by kernel_rfl) (fun _ => by kernel_rfl) (fun _ => by kernel_rfl)) rfl (fun ac A15 => ?_)
      refine s_one (.bool (decide ((nm.length : Int) > 12))) A15 S0 (g_pick_f (b := (decide ((nm.length : Int) < 1))) (by kernel_rfl) h6 (by kernel_rfl)) rfl (fun ac A16 => ?_)
      refine wpList_nil ?_
      refine n_then ?_
      exact ⟨(A16.slot (A16.slot (A16.slot A16.nil (v := .bool false) (by kernel_rfl) rfl) (v := .string ⟨nm.toArray⟩) (by kernel_rfl) rfl) (v := .bool (decide ((nm.length : Int) > 12))) (by kernel_rfl) (congrArg Value.bool (b_or_f h6 (Eq.refl (decide ((nm.length : Int) > 12)))).symm)), S0.sub sub_all sub_all⟩
  · rintro ac wc ⟨A17, S18⟩
    refine n_then ?_
    refine c_ifb (b := ((decide ((nm.length : Int) < 1)) || (decide ((nm.length : Int) > 12)))) A17 (by kernel_rfl) (fun h19 => ?_) (fun h19 => ?_)
    · refine wp_seq ?_
      refine wp_region_lit ?_
      refine s_one (.bool false) A17 S18 (g_assign (by kernel_rfl)) rfl (fun ac A20 => ?_)
      refine wpList_nil ?_
      refine n_then ?_
      refine wp_ret ?_
      refine r_then ?_
      refine fin1 (.bool false) Try.results28 A20 S18 (rv_tmp (by kernel_rfl)) ⟨?_, S18.kp⟩
      rw [name_n1 h19]
    · have h21 := (Bool.or_eq_false_iff.1 h19).1
      have p22 := of_decide_eq_false h21
      have h23 := (Bool.or_eq_false_iff.1 h19).2
      have p24 := of_decide_eq_false h23
      refine wp_skip ?_
      refine n_then ?_
      refine wp_seq ?_
      refine wp_seq ?_
      refine wp_region_lit ?_
      refine s_one (.int .i64 0) A17 S18 (g_assign (by kernel_rfl)) rfl (fun ac A25 => ?_)
      refine wpList_nil ?_
      refine n_then ?_
      refine wp_block ?_
      refine c_loopN (fun mm ac wc => ∃ (k : Nat), mm = nm.length - k ∧ (k ≤ nm.length) ∧ (∀ j, j < k → badC nm j = false) ∧ Fr 55 ac [(0, .string ⟨nm.toArray⟩), (13, .bool ((decide ((nm.length : Int) < 1)) || (decide ((nm.length : Int) > 12)))), (3, .int .i64 (k : Int))] ∧ St w0 [] [] wc) _ ⟨0, rfl, Nat.zero_le _, fun j hj => absurd hj (Nat.not_lt_zero j), (A25.slot (A25.slot (A25.slot A25.nil (v := .int .i64 0) (by kernel_rfl) (congrArg (Value.int .i64) (by omega))) (v := .bool ((decide ((nm.length : Int) < 1)) || (decide ((nm.length : Int) > 12)))) (by kernel_rfl) rfl) (v := .string ⟨nm.toArray⟩) (by kernel_rfl) rfl), S18.sub sub_all sub_all⟩ ?_
      rintro mm ac wc ⟨k, hm28, hk, hg, A26, S27⟩
      refine wp_seq ?_
      refine wp_seq ?_
      refine wp_region_lit ?_
      refine s_one (.int .i64 (k : Int)) A26 S27 (g_move (by kernel_rfl)) rfl (fun ac A29 => ?_)
      refine s_one (.string ⟨nm.toArray⟩) A29 S27 (g_move (by kernel_rfl)) rfl (fun ac A30 => ?_)
      refine s_one (.int .i64 (nm.length : Int)) A30 S27 (g_built (r := [(0, .string ⟨nm.toArray⟩)]) (by kernel_rfl) (fun ty cs w => bl_str (l := nm) Try.underlying9 ty cs w)) rfl (fun ac A31 => ?_)
      refine s_one (.bool (decide ((k : Int) < (nm.length : Int)))) A31 S27 (g_bin (u := .int .i64 (k : Int)) (k := .int .i64 (nm.length : Int)) (by kernel_rfl) (by kernel_rfl) (fun _ => by kernel_rfl) (fun _ => by kernel_rfl)) rfl (fun ac A32 => ?_)
      refine wpList_nil ?_
      refine n_then ?_
      refine c_ifb (b := (decide ((k : Int) < (nm.length : Int)))) A32 (by kernel_rfl) (fun h33 => ?_) (fun h33 => ?_)
      · have p34 := of_decide_eq_true h33
        refine wp_skip ?_
        refine n_then ?_
        refine wp_seq ?_
        refine wp_block ?_
        refine wp_seq ?_
        refine wp_region_lit ?_
        refine s_one (.string ⟨nm.toArray⟩) A32 S27 (g_move (by kernel_rfl)) rfl (fun ac A35 => ?_)
        refine s_one (.int .i64 (k : Int)) A35 S27 (g_move (by kernel_rfl)) rfl (fun ac A36 => ?_)
        refine s_one (.int .u8 (nthU nm k : Int)) A36 S27 (g_indexv (u := .string ⟨nm.toArray⟩) (k := .int .i64 (k : Int)) (by kernel_rfl) (by kernel_rfl) (ix_str (l := nm) k Try.underlying9 (by omega) (by omega))) rfl (fun ac A37 => ?_)
        refine s_one (.int .u8 (nthU nm k : Int)) A37 S27 (g_assign (by kernel_rfl)) rfl (fun ac A38 => ?_)
        refine wpList_nil ?_
        refine n_then ?_
        refine wp_seq ?_
        refine c_cut (fun ac wc => Fr 55 ac [(5, .bool (bif decide ((nthU nm k : Int) ≥ 97) then (decide ((nthU nm k : Int) ≤ 122)) || ((decide ((nthU nm k : Int) ≥ 65)) && (decide ((nthU nm k : Int) ≤ 90))) else (decide ((nthU nm k : Int) ≥ 65)) && (decide ((nthU nm k : Int) ≤ 90)))), (0, .string ⟨nm.toArray⟩), (13, .bool ((decide ((nm.length : Int) < 1)) || (decide ((nm.length : Int) > 12)))), (3, .int .i64 (k : Int)), (14, .int .i64 (k : Int)), (15, .string ⟨nm.toArray⟩), (16, .int .i64 (nm.length : Int)), (17, .bool (decide ((k : Int) < (nm.length : Int)))), (20, .string ⟨nm.toArray⟩), (21, .int .i64 (k : Int)), (22, .int .u8 (nthU nm k : Int)), (4, .int .u8 (nthU nm k : Int))] ∧ St w0 [] [] wc) ?_ ?_
        · refine wp_region_lit ?_
          refine s_one (.int .u8 (nthU nm k : Int)) A38 S27 (g_move (by kernel_rfl)) rfl (fun ac A39 => ?_)
          refine s_one (.bool (decide ((nthU nm k : Int) ≥ 97))) A39 S27 (g_bin (u := .int .u8 (nthU nm k : Int)) (k := .int .u8 97) (by kernel_rfl) (by kernel_rfl) (fun _ => by kernel_rfl) (fun _ => by kernel_rfl)) rfl (fun ac A40 => ?_)
          refine s_one (.bool (decide ((nthU nm k : Int) ≥ 97))) A40 S27 (g_move (by kernel_rfl)) rfl (fun ac A41 => ?_)
          refine by_bool (decide ((nthU nm k : Int) ≥ 97)) (fun h42 => ?_) (fun h42 => ?_)
          · have p43 := of_decide_eq_true h42
            refine s_want (dj := 25) (b := (decide ((nthU nm k : Int) ≥ 97))) A41 (by kernel_rfl) (by kernel_rfl) h42 ?_
            refine s_one (.int .u8 (nthU nm k : Int)) A41 S27 (g_move (by kernel_rfl)) rfl (fun ac A44 => ?_)
            refine s_want (dj := 25) (b := (decide ((nthU nm k : Int) ≥ 97))) A44 (by kernel_rfl) (by kernel_rfl) h42 ?_
            refine s_one (.bool (decide ((nthU nm k : Int) ≤ 122))) A44 S27 (g_bin (u := .int .u8 (nthU nm k : Int)) (k := .int .u8 122) (by kernel_rfl) (by kernel_rfl) (fun _ => by kernel_rfl) (fun _ => by kernel_rfl)) rfl (fun ac A45 => ?_)
            refine s_one (.bool (decide ((nthU nm k : Int) ≤ 122))) A45 S27 (g_pick_t (b := (decide ((nthU nm k : Int) ≥ 97))) (by kernel_rfl) h42 (by kernel_rfl)) rfl (fun ac A46 => ?_)
            refine s_one (.bool (decide ((nthU nm k : Int) ≤ 122))) A46 S27 (g_move (by kernel_rfl)) rfl (fun ac A47 => ?_)
            refine by_bool (decide ((nthU nm k : Int) ≤ 122)) (fun h48 => ?_) (fun h48 => ?_)
            · have p49 := of_decide_eq_true h48
              refine s_not (dj := 29) (b := (decide ((nthU nm k : Int) ≤ 122))) A47 (by kernel_rfl) (by kernel_rfl) h48 rfl (fun ac A50 => ?_)
              refine s_not (dj := 29) (b := (decide ((nthU nm k : Int) ≤ 122))) A50 (by kernel_rfl) (by kernel_rfl) h48 rfl (fun ac A51 => ?_)
              refine s_not (dj := 29) (b := (decide ((nthU nm k : Int) ≤ 122))) A51 (by kernel_rfl) (by kernel_rfl) h48 rfl (fun ac A52 => ?_)
              refine s_notU (dj := 32) A52 (by kernel_rfl) (by kernel_rfl) rfl (fun ac A53 => ?_)
              refine s_notU (dj := 32) A53 (by kernel_rfl) (by kernel_rfl) rfl (fun ac A54 => ?_)
              refine s_not (dj := 29) (b := (decide ((nthU nm k : Int) ≤ 122))) A54 (by kernel_rfl) (by kernel_rfl) h48 rfl (fun ac A55 => ?_)
              refine s_one (.bool true) A55 S27 (g_pick_t (b := (decide ((nthU nm k : Int) ≤ 122))) (by kernel_rfl) h48 (by kernel_rfl)) rfl (fun ac A56 => ?_)
              refine s_one (.bool true) A56 S27 (g_assign (by kernel_rfl)) rfl (fun ac A57 => ?_)
              refine wpList_nil ?_
              refine n_then ?_
              exact ⟨(A57.slot (A57.slot (A57.slot (A57.slot (A57.slot (A57.slot (A57.slot (A57.slot (A57.slot (A57.slot (A57.slot (A57.slot A57.nil (v := .int .u8 (nthU nm k : Int)) (by kernel_rfl) rfl) (v := .int .u8 (nthU nm k : Int)) (by kernel_rfl) rfl) (v := .int .i64 (k : Int)) (by kernel_rfl) rfl) (v := .string ⟨nm.toArray⟩) (by kernel_rfl) rfl) (v := .bool (decide ((k : Int) < (nm.length : Int)))) (by kernel_rfl) rfl) (v := .int .i64 (nm.length : Int)) (by kernel_rfl) rfl) (v := .string ⟨nm.toArray⟩) (by kernel_rfl) rfl) (v := .int .i64 (k : Int)) (by kernel_rfl) rfl) (v := .int .i64 (k : Int)) (by kernel_rfl) rfl) (v := .bool ((decide ((nm.length : Int) < 1)) || (decide ((nm.length : Int) > 12)))) (by kernel_rfl) rfl) (v := .string ⟨nm.toArray⟩) (by kernel_rfl) rfl) (v := .bool true) (by kernel_rfl) (congrArg Value.bool ((bif_t h42).trans (b_ot1 h48)).symm)), S27.sub sub_all sub_all⟩
            · have p58 := of_decide_eq_false h48
              refine s_want (dj := 29) (b := (decide ((nthU nm k : Int) ≤ 122))) A47 (by kernel_rfl) (by kernel_rfl) h48 ?_
              refine s_one (.int .u8 (nthU nm k : Int)) A47 S27 (g_move (by kernel_rfl)) rfl (fun ac A59 => ?_)
              refine s_want (dj := 29) (b := (decide ((nthU nm k : Int) ≤ 122))) A59 (by kernel_rfl) (by kernel_rfl) h48 ?_
              refine s_one (.bool (decide ((nthU nm k : Int) ≥ 65))) A59 S27 (g_bin (u := .int .u8 (nthU nm k : Int)) (k := .int .u8 65) (by kernel_rfl) (by kernel_rfl) (fun _ => by kernel_rfl) (fun _ => by kernel_rfl)) rfl (fun ac A60 => ?_)
              refine s_want (dj := 29) (b := (decide ((nthU nm k : Int) ≤ 122))) A60 (by kernel_rfl) (by kernel_rfl) h48 ?_
              refine s_one (.bool (decide ((nthU nm k : Int) ≥ 65))) A60 S27 (g_move (by kernel_rfl)) rfl (fun ac A61 => ?_)
              refine by_bool (decide ((nthU nm k : Int) ≥ 65)) (fun h62 => ?_) (fun h62 => ?_)
              · have p63 := of_decide_eq_true h62
                refine s_want (dj := 32) (b := (decide ((nthU nm k : Int) ≥ 65))) A61 (by kernel_rfl) (by kernel_rfl) h62 ?_
                refine s_one (.int .u8 (nthU nm k : Int)) A61 S27 (g_move (by kernel_rfl)) rfl (fun ac A64 => ?_)
                refine s_want (dj := 32) (b := (decide ((nthU nm k : Int) ≥ 65))) A64 (by kernel_rfl) (by kernel_rfl) h62 ?_
                refine s_one (.bool (decide ((nthU nm k : Int) ≤ 90))) A64 S27 (g_bin (u := .int .u8 (nthU nm k : Int)) (k := .int .u8 90) (by kernel_rfl) (by kernel_rfl) (fun _ => by kernel_rfl) (fun _ => by kernel_rfl)) rfl (fun ac A65 => ?_)
                refine s_want (dj := 29) (b := (decide ((nthU nm k : Int) ≤ 122))) A65 (by kernel_rfl) (by kernel_rfl) h48 ?_
                refine s_one (.bool (decide ((nthU nm k : Int) ≤ 90))) A65 S27 (g_pick_t (b := (decide ((nthU nm k : Int) ≥ 65))) (by kernel_rfl) h62 (by kernel_rfl)) rfl (fun ac A66 => ?_)
                refine s_one (.bool (decide ((nthU nm k : Int) ≤ 90))) A66 S27 (g_pick_f (b := (decide ((nthU nm k : Int) ≤ 122))) (by kernel_rfl) h48 (by kernel_rfl)) rfl (fun ac A67 => ?_)
                refine s_one (.bool (decide ((nthU nm k : Int) ≤ 90))) A67 S27 (g_assign (by kernel_rfl)) rfl (fun ac A68 => ?_)
                refine wpList_nil ?_
                refine n_then ?_
                exact ⟨(A68.slot (A68.slot (A68.slot (A68.slot (A68.slot (A68.slot (A68.slot (A68.slot (A68.slot (A68.slot (A68.slot (A68.slot A68.nil (v := .int .u8 (nthU nm k : Int)) (by kernel_rfl) rfl) (v := .int .u8 (nthU nm k : Int)) (by kernel_rfl) rfl) (v := .int .i64 (k : Int)) (by kernel_rfl) rfl) (v := .string ⟨nm.toArray⟩) (by kernel_rfl) rfl) (v := .bool (decide ((k : Int) < (nm.length : Int)))) (by kernel_rfl) rfl) (v := .int .i64 (nm.length : Int)) (by kernel_rfl) rfl) (v := .string ⟨nm.toArray⟩) (by kernel_rfl) rfl) (v := .int .i64 (k : Int)) (by kernel_rfl) rfl) (v := .int .i64 (k : Int)) (by kernel_rfl) rfl) (v := .bool ((decide ((nm.length : Int) < 1)) || (decide ((nm.length : Int) > 12)))) (by kernel_rfl) rfl) (v := .string ⟨nm.toArray⟩) (by kernel_rfl) rfl) (v := .bool (decide ((nthU nm k : Int) ≤ 90))) (by kernel_rfl) (congrArg Value.bool ((bif_t h42).trans (b_or_f h48 (b_and_t h62 (Eq.refl (decide ((nthU nm k : Int) ≤ 90)))))).symm)), S27.sub sub_all sub_all⟩
              · have p69 := of_decide_eq_false h62
                refine s_not (dj := 32) (b := (decide ((nthU nm k : Int) ≥ 65))) A61 (by kernel_rfl) (by kernel_rfl) h62 rfl (fun ac A70 => ?_)
                refine s_not (dj := 32) (b := (decide ((nthU nm k : Int) ≥ 65))) A70 (by kernel_rfl) (by kernel_rfl) h62 rfl (fun ac A71 => ?_)
                refine s_want (dj := 29) (b := (decide ((nthU nm k : Int) ≤ 122))) A71 (by kernel_rfl) (by kernel_rfl) h48 ?_
                refine s_one (.bool false) A71 S27 (g_pick_f (b := (decide ((nthU nm k : Int) ≥ 65))) (by kernel_rfl) h62 (by kernel_rfl)) rfl (fun ac A72 => ?_)
                refine s_one (.bool false) A72 S27 (g_pick_f (b := (decide ((nthU nm k : Int) ≤ 122))) (by kernel_rfl) h48 (by kernel_rfl)) rfl (fun ac A73 => ?_)
                refine s_one (.bool false) A73 S27 (g_assign (by kernel_rfl)) rfl (fun ac A74 => ?_)
                refine wpList_nil ?_
                refine n_then ?_
                exact ⟨(A74.slot (A74.slot (A74.slot (A74.slot (A74.slot (A74.slot (A74.slot (A74.slot (A74.slot (A74.slot (A74.slot (A74.slot A74.nil (v := .int .u8 (nthU nm k : Int)) (by kernel_rfl) rfl) (v := .int .u8 (nthU nm k : Int)) (by kernel_rfl) rfl) (v := .int .i64 (k : Int)) (by kernel_rfl) rfl) (v := .string ⟨nm.toArray⟩) (by kernel_rfl) rfl) (v := .bool (decide ((k : Int) < (nm.length : Int)))) (by kernel_rfl) rfl) (v := .int .i64 (nm.length : Int)) (by kernel_rfl) rfl) (v := .string ⟨nm.toArray⟩) (by kernel_rfl) rfl) (v := .int .i64 (k : Int)) (by kernel_rfl) rfl) (v := .int .i64 (k : Int)) (by kernel_rfl) rfl) (v := .bool ((decide ((nm.length : Int) < 1)) || (decide ((nm.length : Int) > 12)))) (by kernel_rfl) rfl) (v := .string ⟨nm.toArray⟩) (by kernel_rfl) rfl) (v := .bool false) (by kernel_rfl) (congrArg Value.bool ((bif_t h42).trans (b_of h48 (b_af1 h62))).symm)), S27.sub sub_all sub_all⟩
          · have p75 := of_decide_eq_false h42
            refine s_not (dj := 25) (b := (decide ((nthU nm k : Int) ≥ 97))) A41 (by kernel_rfl) (by kernel_rfl) h42 rfl (fun ac A76 => ?_)
            refine s_not (dj := 25) (b := (decide ((nthU nm k : Int) ≥ 97))) A76 (by kernel_rfl) (by kernel_rfl) h42 rfl (fun ac A77 => ?_)
            refine s_one (.bool false) A77 S27 (g_pick_f (b := (decide ((nthU nm k : Int) ≥ 97))) (by kernel_rfl) h42 (by kernel_rfl)) rfl (fun ac A78 => ?_)
            refine s_one (.bool false) A78 S27 (g_move (by kernel_rfl)) rfl (fun ac A79 => ?_)
            refine s_want (dj := 29) (b := false) A79 (by kernel_rfl) (by kernel_rfl) rfl ?_
            refine s_one (.int .u8 (nthU nm k : Int)) A79 S27 (g_move (by kernel_rfl)) rfl (fun ac A80 => ?_)
            refine s_want (dj := 29) (b := false) A80 (by kernel_rfl) (by kernel_rfl) rfl ?_
            refine s_one (.bool (decide ((nthU nm k : Int) ≥ 65))) A80 S27 (g_bin (u := .int .u8 (nthU nm k : Int)) (k := .int .u8 65) (by kernel_rfl) (by kernel_rfl) (fun _ => by kernel_rfl) (fun _ => by kernel_rfl)) rfl (fun ac A81 => ?_)
            refine s_want (dj := 29) (b := false) A81 (by kernel_rfl) (by kernel_rfl) rfl ?_
            refine s_one (.bool (decide ((nthU nm k : Int) ≥ 65))) A81 S27 (g_move (by kernel_rfl)) rfl (fun ac A82 => ?_)
            refine by_bool (decide ((nthU nm k : Int) ≥ 65)) (fun h83 => ?_) (fun h83 => ?_)
            · have p84 := of_decide_eq_true h83
              refine s_want (dj := 32) (b := (decide ((nthU nm k : Int) ≥ 65))) A82 (by kernel_rfl) (by kernel_rfl) h83 ?_
              refine s_one (.int .u8 (nthU nm k : Int)) A82 S27 (g_move (by kernel_rfl)) rfl (fun ac A85 => ?_)
              refine s_want (dj := 32) (b := (decide ((nthU nm k : Int) ≥ 65))) A85 (by kernel_rfl) (by kernel_rfl) h83 ?_
              refine s_one (.bool (decide ((nthU nm k : Int) ≤ 90))) A85 S27 (g_bin (u := .int .u8 (nthU nm k : Int)) (k := .int .u8 90) (by kernel_rfl) (by kernel_rfl) (fun _ => by kernel_rfl) (fun _ => by kernel_rfl)) rfl (fun ac A86 => ?_)
              refine s_want (dj := 29) (b := false) A86 (by kernel_rfl) (by kernel_rfl) rfl ?_
              refine s_one (.bool (decide ((nthU nm k : Int) ≤ 90))) A86 S27 (g_pick_t (b := (decide ((nthU nm k : Int) ≥ 65))) (by kernel_rfl) h83 (by kernel_rfl)) rfl (fun ac A87 => ?_)
              refine s_one (.bool (decide ((nthU nm k : Int) ≤ 90))) A87 S27 (g_pick_f (b := false) (by kernel_rfl) rfl (by kernel_rfl)) rfl (fun ac A88 => ?_)
              refine s_one (.bool (decide ((nthU nm k : Int) ≤ 90))) A88 S27 (g_assign (by kernel_rfl)) rfl (fun ac A89 => ?_)
              refine wpList_nil ?_
              refine n_then ?_
              exact ⟨(A89.slot (A89.slot (A89.slot (A89.slot (A89.slot (A89.slot (A89.slot (A89.slot (A89.slot (A89.slot (A89.slot (A89.slot A89.nil (v := .int .u8 (nthU nm k : Int)) (by kernel_rfl) rfl) (v := .int .u8 (nthU nm k : Int)) (by kernel_rfl) rfl) (v := .int .i64 (k : Int)) (by kernel_rfl) rfl) (v := .string ⟨nm.toArray⟩) (by kernel_rfl) rfl) (v := .bool (decide ((k : Int) < (nm.length : Int)))) (by kernel_rfl) rfl) (v := .int .i64 (nm.length : Int)) (by kernel_rfl) rfl) (v := .string ⟨nm.toArray⟩) (by kernel_rfl) rfl) (v := .int .i64 (k : Int)) (by kernel_rfl) rfl) (v := .int .i64 (k : Int)) (by kernel_rfl) rfl) (v := .bool ((decide ((nm.length : Int) < 1)) || (decide ((nm.length : Int) > 12)))) (by kernel_rfl) rfl) (v := .string ⟨nm.toArray⟩) (by kernel_rfl) rfl) (v := .bool (decide ((nthU nm k : Int) ≤ 90))) (by kernel_rfl) (congrArg Value.bool ((bif_f h42).trans (b_and_t h83 (Eq.refl (decide ((nthU nm k : Int) ≤ 90))))).symm)), S27.sub sub_all sub_all⟩
            · have p90 := of_decide_eq_false h83
              refine s_not (dj := 32) (b := (decide ((nthU nm k : Int) ≥ 65))) A82 (by kernel_rfl) (by kernel_rfl) h83 rfl (fun ac A91 => ?_)
              refine s_not (dj := 32) (b := (decide ((nthU nm k : Int) ≥ 65))) A91 (by kernel_rfl) (by kernel_rfl) h83 rfl (fun ac A92 => ?_)
              refine s_want (dj := 29) (b := false) A92 (by kernel_rfl) (by kernel_rfl) rfl ?_
              refine s_one (.bool false) A92 S27 (g_pick_f (b := (decide ((nthU nm k : Int) ≥ 65))) (by kernel_rfl) h83 (by kernel_rfl)) rfl (fun ac A93 => ?_)
              refine s_one (.bool false) A93 S27 (g_pick_f (b := false) (by kernel_rfl) rfl (by kernel_rfl)) rfl (fun ac A94 => ?_)
              refine s_one (.bool false) A94 S27 (g_assign (by kernel_rfl)) rfl (fun ac A95 => ?_)
              refine wpList_nil ?_
              refine n_then ?_
              exact ⟨(A95.slot (A95.slot (A95.slot (A95.slot (A95.slot (A95.slot (A95.slot (A95.slot (A95.slot (A95.slot (A95.slot (A95.slot A95.nil (v := .int .u8 (nthU nm k : Int)) (by kernel_rfl) rfl) (v := .int .u8 (nthU nm k : Int)) (by kernel_rfl) rfl) (v := .int .i64 (k : Int)) (by kernel_rfl) rfl) (v := .string ⟨nm.toArray⟩) (by kernel_rfl) rfl) (v := .bool (decide ((k : Int) < (nm.length : Int)))) (by kernel_rfl) rfl) (v := .int .i64 (nm.length : Int)) (by kernel_rfl) rfl) (v := .string ⟨nm.toArray⟩) (by kernel_rfl) rfl) (v := .int .i64 (k : Int)) (by kernel_rfl) rfl) (v := .int .i64 (k : Int)) (by kernel_rfl) rfl) (v := .bool ((decide ((nm.length : Int) < 1)) || (decide ((nm.length : Int) > 12)))) (by kernel_rfl) rfl) (v := .string ⟨nm.toArray⟩) (by kernel_rfl) rfl) (v := .bool false) (by kernel_rfl) (congrArg Value.bool ((bif_f h42).trans (b_af1 h83)).symm)), S27.sub sub_all sub_all⟩
        · rintro ac wc ⟨A96, S97⟩
          refine n_then ?_
          refine wp_seq ?_
          refine c_cut (fun ac wc => Fr 55 ac [(54, .bool ((!(bif decide ((nthU nm k : Int) ≥ 97) then (decide ((nthU nm k : Int) ≤ 122)) || ((decide ((nthU nm k : Int) ≥ 65)) && (decide ((nthU nm k : Int) ≤ 90))) else (decide ((nthU nm k : Int) ≥ 65)) && (decide ((nthU nm k : Int) ≤ 90)))) && ((decide ((k : Int) = 0)) || ((decide ((nthU nm k : Int) ≠ 45)) && ((decide ((nthU nm k : Int) < 48)) || (decide ((nthU nm k : Int) > 57))))))), (0, .string ⟨nm.toArray⟩), (13, .bool ((decide ((nm.length : Int) < 1)) || (decide ((nm.length : Int) > 12)))), (3, .int .i64 (k : Int)), (14, .int .i64 (k : Int)), (15, .string ⟨nm.toArray⟩), (16, .int .i64 (nm.length : Int)), (17, .bool (decide ((k : Int) < (nm.length : Int)))), (20, .string ⟨nm.toArray⟩), (21, .int .i64 (k : Int)), (22, .int .u8 (nthU nm k : Int)), (4, .int .u8 (nthU nm k : Int)), (5, .bool (bif decide ((nthU nm k : Int) ≥ 97) then (decide ((nthU nm k : Int) ≤ 122)) || ((decide ((nthU nm k : Int) ≥ 65)) && (decide ((nthU nm k : Int) ≤ 90))) else (decide ((nthU nm k : Int) ≥ 65)) && (decide ((nthU nm k : Int) ≤ 90))))] ∧ St w0 [] [] wc) ?_ ?_
          · refine wp_region_lit ?_
            refine s_one (.bool (bif decide ((nthU nm k : Int) ≥ 97) then (decide ((nthU nm k : Int) ≤ 122)) || ((decide ((nthU nm k : Int) ≥ 65)) && (decide ((nthU nm k : Int) ≤ 90))) else (decide ((nthU nm k : Int) ≥ 65)) && (decide ((nthU nm k : Int) ≤ 90)))) A96 S97 (g_move (by kernel_rfl)) rfl (fun ac A98 => ?_)
            refine s_one (.bool (!(bif decide ((nthU nm k : Int) ≥ 97) then (decide ((nthU nm k : Int) ≤ 122)) || ((decide ((nthU nm k : Int) ≥ 65)) && (decide ((nthU nm k : Int) ≤ 90))) else (decide ((nthU nm k : Int) ≥ 65)) && (decide ((nthU nm k : Int) ≤ 90))))) A98 S97 (g_un (u := .bool (bif decide ((nthU nm k : Int) ≥ 97) then (decide ((nthU nm k : Int) ≤ 122)) || ((decide ((nthU nm k : Int) ≥ 65)) && (decide ((nthU nm k : Int) ≤ 90))) else (decide ((nthU nm k : Int) ≥ 65)) && (decide ((nthU nm k : Int) ≤ 90)))) (by kernel_rfl) (fun _ => by kernel_rfl)) rfl (fun ac A99 => ?_)
            refine s_one (.bool (!(bif decide ((nthU nm k : Int) ≥ 97) then (decide ((nthU nm k : Int) ≤ 122)) || ((decide ((nthU nm k : Int) ≥ 65)) && (decide ((nthU nm k : Int) ≤ 90))) else (decide ((nthU nm k : Int) ≥ 65)) && (decide ((nthU nm k : Int) ≤ 90))))) A99 S97 (g_move (by kernel_rfl)) rfl (fun ac A100 => ?_)
            refine by_bool (!(bif decide ((nthU nm k : Int) ≥ 97) then (decide ((nthU nm k : Int) ≤ 122)) || ((decide ((nthU nm k : Int) ≥ 65)) && (decide ((nthU nm k : Int) ≤ 90))) else (decide ((nthU nm k : Int) ≥ 65)) && (decide ((nthU nm k : Int) ≤ 90)))) (fun h101 => ?_) (fun h101 => ?_)
            · have h102 : (bif decide ((nthU nm k : Int) ≥ 97) then (decide ((nthU nm k : Int) ≤ 122)) || ((decide ((nthU nm k : Int) ≥ 65)) && (decide ((nthU nm k : Int) ≤ 90))) else (decide ((nthU nm k : Int) ≥ 65)) && (decide ((nthU nm k : Int) ≤ 90))) = false := Eq.mp (Bool.not_eq_true' _) h101
              refine s_want (dj := 39) (b := (!(bif decide ((nthU nm k : Int) ≥ 97) then (decide ((nthU nm k : Int) ≤ 122)) || ((decide ((nthU nm k : Int) ≥ 65)) && (decide ((nthU nm k : Int) ≤ 90))) else (decide ((nthU nm k : Int) ≥ 65)) && (decide ((nthU nm k : Int) ≤ 90))))) A100 (by kernel_rfl) (by kernel_rfl) h101 ?_
              refine s_one (.int .i64 (k : Int)) A100 S97 (g_move (by kernel_rfl)) rfl (fun ac A103 => ?_)
              refine s_want (dj := 39) (b := (!(bif decide ((nthU nm k : Int) ≥ 97) then (decide ((nthU nm k : Int) ≤ 122)) || ((decide ((nthU nm k : Int) ≥ 65)) && (decide ((nthU nm k : Int) ≤ 90))) else (decide ((nthU nm k : Int) ≥ 65)) && (decide ((nthU nm k : Int) ≤ 90))))) A103 (by kernel_rfl) (by kernel_rfl) h101 ?_
              refine s_one (.bool (decide ((k : Int) = 0))) A103 S97 (g_bin (u := .int .i64 (k : Int)) (k := .int .i64 0) (by kernel_rfl) (by kernel_rfl) (fun _ => by kernel_rfl) b_eql) rfl (fun ac A104 => ?_)
              refine s_want (dj := 39) (b := (!(bif decide ((nthU nm k : Int) ≥ 97) then (decide ((nthU nm k : Int) ≤ 122)) || ((decide ((nthU nm k : Int) ≥ 65)) && (decide ((nthU nm k : Int) ≤ 90))) else (decide ((nthU nm k : Int) ≥ 65)) && (decide ((nthU nm k : Int) ≤ 90))))) A104 (by kernel_rfl) (by kernel_rfl) h101 ?_
              refine s_one (.bool (decide ((k : Int) = 0))) A104 S97 (g_move (by kernel_rfl)) rfl (fun ac A105 => ?_)
              refine by_bool (decide ((k : Int) = 0)) (fun h106 => ?_) (fun h106 => ?_)
              · have p107 := of_decide_eq_true h106
                refine s_not (dj := 42) (b := (decide ((k : Int) = 0))) A105 (by kernel_rfl) (by kernel_rfl) h106 rfl (fun ac A108 => ?_)
                refine s_not (dj := 42) (b := (decide ((k : Int) = 0))) A108 (by kernel_rfl) (by kernel_rfl) h106 rfl (fun ac A109 => ?_)
                refine s_not (dj := 42) (b := (decide ((k : Int) = 0))) A109 (by kernel_rfl) (by kernel_rfl) h106 rfl (fun ac A110 => ?_)
                refine s_notU (dj := 45) A110 (by kernel_rfl) (by kernel_rfl) rfl (fun ac A111 => ?_)
                refine s_notU (dj := 45) A111 (by kernel_rfl) (by kernel_rfl) rfl (fun ac A112 => ?_)
                refine s_notU (dj := 45) A112 (by kernel_rfl) (by kernel_rfl) rfl (fun ac A113 => ?_)
                refine s_notU (dj := 48) A113 (by kernel_rfl) (by kernel_rfl) rfl (fun ac A114 => ?_)
                refine s_notU (dj := 48) A114 (by kernel_rfl) (by kernel_rfl) rfl (fun ac A115 => ?_)
                refine s_notU (dj := 45) A115 (by kernel_rfl) (by kernel_rfl) rfl (fun ac A116 => ?_)
                refine s_not (dj := 42) (b := (decide ((k : Int) = 0))) A116 (by kernel_rfl) (by kernel_rfl) h106 rfl (fun ac A117 => ?_)
                refine s_want (dj := 39) (b := (!(bif decide ((nthU nm k : Int) ≥ 97) then (decide ((nthU nm k : Int) ≤ 122)) || ((decide ((nthU nm k : Int) ≥ 65)) && (decide ((nthU nm k : Int) ≤ 90))) else (decide ((nthU nm k : Int) ≥ 65)) && (decide ((nthU nm k : Int) ≤ 90))))) A117 (by kernel_rfl) (by kernel_rfl) h101 ?_
                refine s_one (.bool true) A117 S97 (g_pick_t (b := (decide ((k : Int) = 0))) (by kernel_rfl) h106 (by kernel_rfl)) rfl (fun ac A118 => ?_)
                refine s_one (.bool true) A118 S97 (g_pick_t (b := (!(bif decide ((nthU nm k : Int) ≥ 97) then (decide ((nthU nm k : Int) ≤ 122)) || ((decide ((nthU nm k : Int) ≥ 65)) && (decide ((nthU nm k : Int) ≤ 90))) else (decide ((nthU nm k : Int) ≥ 65)) && (decide ((nthU nm k : Int) ≤ 90))))) (by kernel_rfl) h101 (by kernel_rfl)) rfl (fun ac A119 => ?_)
                refine wpList_nil ?_
                refine n_then ?_
                exact ⟨(A119.slot (A119.slot (A119.slot (A119.slot (A119.slot (A119.slot (A119.slot (A119.slot (A119.slot (A119.slot (A119.slot (A119.slot (A119.slot A119.nil (v := .bool (bif decide ((nthU nm k : Int) ≥ 97) then (decide ((nthU nm k : Int) ≤ 122)) || ((decide ((nthU nm k : Int) ≥ 65)) && (decide ((nthU nm k : Int) ≤ 90))) else (decide ((nthU nm k : Int) ≥ 65)) && (decide ((nthU nm k : Int) ≤ 90)))) (by kernel_rfl) rfl) (v := .int .u8 (nthU nm k : Int)) (by kernel_rfl) rfl) (v := .int .u8 (nthU nm k : Int)) (by kernel_rfl) rfl) (v := .int .i64 (k : Int)) (by kernel_rfl) rfl) (v := .string ⟨nm.toArray⟩) (by kernel_rfl) rfl) (v := .bool (decide ((k : Int) < (nm.length : Int)))) (by kernel_rfl) rfl) (v := .int .i64 (nm.length : Int)) (by kernel_rfl) rfl) (v := .string ⟨nm.toArray⟩) (by kernel_rfl) rfl) (v := .int .i64 (k : Int)) (by kernel_rfl) rfl) (v := .int .i64 (k : Int)) (by kernel_rfl) rfl) (v := .bool ((decide ((nm.length : Int) < 1)) || (decide ((nm.length : Int) > 12)))) (by kernel_rfl) rfl) (v := .string ⟨nm.toArray⟩) (by kernel_rfl) rfl) (v := .bool true) (by kernel_rfl) (congrArg Value.bool (b_at h101 (b_ot1 h106)).symm)), S97.sub sub_all sub_all⟩
              · have p120 := of_decide_eq_false h106
                refine s_want (dj := 42) (b := (decide ((k : Int) = 0))) A105 (by kernel_rfl) (by kernel_rfl) h106 ?_
                refine s_one (.int .u8 (nthU nm k : Int)) A105 S97 (g_move (by kernel_rfl)) rfl (fun ac A121 => ?_)
                refine s_want (dj := 42) (b := (decide ((k : Int) = 0))) A121 (by kernel_rfl) (by kernel_rfl) h106 ?_
                refine s_one (.bool (decide ((nthU nm k : Int) ≠ 45))) A121 S97 (g_bin (u := .int .u8 (nthU nm k : Int)) (k := .int .u8 45) (by kernel_rfl) (by kernel_rfl) (fun _ => by kernel_rfl) b_neq) rfl (fun ac A122 => ?_)
                refine s_want (dj := 42) (b := (decide ((k : Int) = 0))) A122 (by kernel_rfl) (by kernel_rfl) h106 ?_
                refine s_one (.bool (decide ((nthU nm k : Int) ≠ 45))) A122 S97 (g_move (by kernel_rfl)) rfl (fun ac A123 => ?_)
                refine by_bool (decide ((nthU nm k : Int) ≠ 45)) (fun h124 => ?_) (fun h124 => ?_)
                · have p125 := of_decide_eq_true h124
                  refine s_want (dj := 45) (b := (decide ((nthU nm k : Int) ≠ 45))) A123 (by kernel_rfl) (by kernel_rfl) h124 ?_
                  refine s_one (.int .u8 (nthU nm k : Int)) A123 S97 (g_move (by kernel_rfl)) rfl (fun ac A126 => ?_)
                  refine s_want (dj := 45) (b := (decide ((nthU nm k : Int) ≠ 45))) A126 (by kernel_rfl) (by kernel_rfl) h124 ?_
                  refine s_one (.bool (decide ((nthU nm k : Int) < 48))) A126 S97 (g_bin (u := .int .u8 (nthU nm k : Int)) (k := .int .u8 48) (by kernel_rfl) (by kernel_rfl) (fun _ => by kernel_rfl) (fun _ => by kernel_rfl)) rfl (fun ac A127 => ?_)
                  refine s_want (dj := 45) (b := (decide ((nthU nm k : Int) ≠ 45))) A127 (by kernel_rfl) (by kernel_rfl) h124 ?_
                  refine s_one (.bool (decide ((nthU nm k : Int) < 48))) A127 S97 (g_move (by kernel_rfl)) rfl (fun ac A128 => ?_)
                  refine by_bool (decide ((nthU nm k : Int) < 48)) (fun h129 => ?_) (fun h129 => ?_)
                  · have p130 := of_decide_eq_true h129
                    refine s_not (dj := 48) (b := (decide ((nthU nm k : Int) < 48))) A128 (by kernel_rfl) (by kernel_rfl) h129 rfl (fun ac A131 => ?_)
                    refine s_not (dj := 48) (b := (decide ((nthU nm k : Int) < 48))) A131 (by kernel_rfl) (by kernel_rfl) h129 rfl (fun ac A132 => ?_)
                    refine s_want (dj := 45) (b := (decide ((nthU nm k : Int) ≠ 45))) A132 (by kernel_rfl) (by kernel_rfl) h124 ?_
                    refine s_one (.bool true) A132 S97 (g_pick_t (b := (decide ((nthU nm k : Int) < 48))) (by kernel_rfl) h129 (by kernel_rfl)) rfl (fun ac A133 => ?_)
                    refine s_want (dj := 42) (b := (decide ((k : Int) = 0))) A133 (by kernel_rfl) (by kernel_rfl) h106 ?_
                    refine s_one (.bool true) A133 S97 (g_pick_t (b := (decide ((nthU nm k : Int) ≠ 45))) (by kernel_rfl) h124 (by kernel_rfl)) rfl (fun ac A134 => ?_)
                    refine s_want (dj := 39) (b := (!(bif decide ((nthU nm k : Int) ≥ 97) then (decide ((nthU nm k : Int) ≤ 122)) || ((decide ((nthU nm k : Int) ≥ 65)) && (decide ((nthU nm k : Int) ≤ 90))) else (decide ((nthU nm k : Int) ≥ 65)) && (decide ((nthU nm k : Int) ≤ 90))))) A134 (by kernel_rfl) (by kernel_rfl) h101 ?_
                    refine s_one (.bool true) A134 S97 (g_pick_f (b := (decide ((k : Int) = 0))) (by kernel_rfl) h106 (by kernel_rfl)) rfl (fun ac A135 => ?_)
                    refine s_one (.bool true) A135 S97 (g_pick_t (b := (!(bif decide ((nthU nm k : Int) ≥ 97) then (decide ((nthU nm k : Int) ≤ 122)) || ((decide ((nthU nm k : Int) ≥ 65)) && (decide ((nthU nm k : Int) ≤ 90))) else (decide ((nthU nm k : Int) ≥ 65)) && (decide ((nthU nm k : Int) ≤ 90))))) (by kernel_rfl) h101 (by kernel_rfl)) rfl (fun ac A136 => ?_)
                    refine wpList_nil ?_
                    refine n_then ?_
                    exact ⟨(A136.slot (A136.slot (A136.slot (A136.slot (A136.slot (A136.slot (A136.slot (A136.slot (A136.slot (A136.slot (A136.slot (A136.slot (A136.slot A136.nil (v := .bool (bif decide ((nthU nm k : Int) ≥ 97) then (decide ((nthU nm k : Int) ≤ 122)) || ((decide ((nthU nm k : Int) ≥ 65)) && (decide ((nthU nm k : Int) ≤ 90))) else (decide ((nthU nm k : Int) ≥ 65)) && (decide ((nthU nm k : Int) ≤ 90)))) (by kernel_rfl) rfl) (v := .int .u8 (nthU nm k : Int)) (by kernel_rfl) rfl) (v := .int .u8 (nthU nm k : Int)) (by kernel_rfl) rfl) (v := .int .i64 (k : Int)) (by kernel_rfl) rfl) (v := .string ⟨nm.toArray⟩) (by kernel_rfl) rfl) (v := .bool (decide ((k : Int) < (nm.length : Int)))) (by kernel_rfl) rfl) (v := .int .i64 (nm.length : Int)) (by kernel_rfl) rfl) (v := .string ⟨nm.toArray⟩) (by kernel_rfl) rfl) (v := .int .i64 (k : Int)) (by kernel_rfl) rfl) (v := .int .i64 (k : Int)) (by kernel_rfl) rfl) (v := .bool ((decide ((nm.length : Int) < 1)) || (decide ((nm.length : Int) > 12)))) (by kernel_rfl) rfl) (v := .string ⟨nm.toArray⟩) (by kernel_rfl) rfl) (v := .bool true) (by kernel_rfl) (congrArg Value.bool (b_at h101 (b_ot2 (b_at h124 (b_ot1 h129)))).symm)), S97.sub sub_all sub_all⟩
                  · have p137 := of_decide_eq_false h129
                    refine s_want (dj := 48) (b := (decide ((nthU nm k : Int) < 48))) A128 (by kernel_rfl) (by kernel_rfl) h129 ?_
                    refine s_one (.int .u8 (nthU nm k : Int)) A128 S97 (g_move (by kernel_rfl)) rfl (fun ac A138 => ?_)
                    refine s_want (dj := 48) (b := (decide ((nthU nm k : Int) < 48))) A138 (by kernel_rfl) (by kernel_rfl) h129 ?_
                    refine s_one (.bool (decide ((nthU nm k : Int) > 57))) A138 S97 (g_bin (u := .int .u8 (nthU nm k : Int)) (k := .int .u8 57) (by kernel_rfl) (by kernel_rfl) (fun _ => by kernel_rfl) (fun _ => by kernel_rfl)) rfl (fun ac A139 => ?_)
                    refine s_want (dj := 45) (b := (decide ((nthU nm k : Int) ≠ 45))) A139 (by kernel_rfl) (by kernel_rfl) h124 ?_
                    refine s_one (.bool (decide ((nthU nm k : Int) > 57))) A139 S97 (g_pick_f (b := (decide ((nthU nm k : Int) < 48))) (by kernel_rfl) h129 (by kernel_rfl)) rfl (fun ac A140 => ?_)
                    refine s_want (dj := 42) (b := (decide ((k : Int) = 0))) A140 (by kernel_rfl) (by kernel_rfl) h106 ?_
                    refine s_one (.bool (decide ((nthU nm k : Int) > 57))) A140 S97 (g_pick_t (b := (decide ((nthU nm k : Int) ≠ 45))) (by kernel_rfl) h124 (by kernel_rfl)) rfl (fun ac A141 => ?_)
                    refine s_want (dj := 39) (b := (!(bif decide ((nthU nm k : Int) ≥ 97) then (decide ((nthU nm k : Int) ≤ 122)) || ((decide ((nthU nm k : Int) ≥ 65)) && (decide ((nthU nm k : Int) ≤ 90))) else (decide ((nthU nm k : Int) ≥ 65)) && (decide ((nthU nm k : Int) ≤ 90))))) A141 (by kernel_rfl) (by kernel_rfl) h101 ?_
                    refine s_one (.bool (decide ((nthU nm k : Int) > 57))) A141 S97 (g_pick_f (b := (decide ((k : Int) = 0))) (by kernel_rfl) h106 (by kernel_rfl)) rfl (fun ac A142 => ?_)
                    refine s_one (.bool (decide ((nthU nm k : Int) > 57))) A142 S97 (g_pick_t (b := (!(bif decide ((nthU nm k : Int) ≥ 97) then (decide ((nthU nm k : Int) ≤ 122)) || ((decide ((nthU nm k : Int) ≥ 65)) && (decide ((nthU nm k : Int) ≤ 90))) else (decide ((nthU nm k : Int) ≥ 65)) && (decide ((nthU nm k : Int) ≤ 90))))) (by kernel_rfl) h101 (by kernel_rfl)) rfl (fun ac A143 => ?_)
                    refine wpList_nil ?_
                    refine n_then ?_
                    exact ⟨(A143.slot (A143.slot (A143.slot (A143.slot (A143.slot (A143.slot (A143.slot (A143.slot (A143.slot (A143.slot (A143.slot (A143.slot (A143.slot A143.nil (v := .bool (bif decide ((nthU nm k : Int) ≥ 97) then (decide ((nthU nm k : Int) ≤ 122)) || ((decide ((nthU nm k : Int) ≥ 65)) && (decide ((nthU nm k : Int) ≤ 90))) else (decide ((nthU nm k : Int) ≥ 65)) && (decide ((nthU nm k : Int) ≤ 90)))) (by kernel_rfl) rfl) (v := .int .u8 (nthU nm k : Int)) (by kernel_rfl) rfl) (v := .int .u8 (nthU nm k : Int)) (by kernel_rfl) rfl) (v := .int .i64 (k : Int)) (by kernel_rfl) rfl) (v := .string ⟨nm.toArray⟩) (by kernel_rfl) rfl) (v := .bool (decide ((k : Int) < (nm.length : Int)))) (by kernel_rfl) rfl) (v := .int .i64 (nm.length : Int)) (by kernel_rfl) rfl) (v := .string ⟨nm.toArray⟩) (by kernel_rfl) rfl) (v := .int .i64 (k : Int)) (by kernel_rfl) rfl) (v := .int .i64 (k : Int)) (by kernel_rfl) rfl) (v := .bool ((decide ((nm.length : Int) < 1)) || (decide ((nm.length : Int) > 12)))) (by kernel_rfl) rfl) (v := .string ⟨nm.toArray⟩) (by kernel_rfl) rfl) (v := .bool (decide ((nthU nm k : Int) > 57))) (by kernel_rfl) (congrArg Value.bool (b_and_t h101 (b_or_f h106 (b_and_t h124 (b_or_f h129 (Eq.refl (decide ((nthU nm k : Int) > 57))))))).symm)), S97.sub sub_all sub_all⟩
                · have p144 := of_decide_eq_false h124
                  refine s_not (dj := 45) (b := (decide ((nthU nm k : Int) ≠ 45))) A123 (by kernel_rfl) (by kernel_rfl) h124 rfl (fun ac A145 => ?_)
                  refine s_not (dj := 45) (b := (decide ((nthU nm k : Int) ≠ 45))) A145 (by kernel_rfl) (by kernel_rfl) h124 rfl (fun ac A146 => ?_)
                  refine s_not (dj := 45) (b := (decide ((nthU nm k : Int) ≠ 45))) A146 (by kernel_rfl) (by kernel_rfl) h124 rfl (fun ac A147 => ?_)
                  refine s_notU (dj := 48) A147 (by kernel_rfl) (by kernel_rfl) rfl (fun ac A148 => ?_)
                  refine s_notU (dj := 48) A148 (by kernel_rfl) (by kernel_rfl) rfl (fun ac A149 => ?_)
                  refine s_not (dj := 45) (b := (decide ((nthU nm k : Int) ≠ 45))) A149 (by kernel_rfl) (by kernel_rfl) h124 rfl (fun ac A150 => ?_)
                  refine s_want (dj := 42) (b := (decide ((k : Int) = 0))) A150 (by kernel_rfl) (by kernel_rfl) h106 ?_
                  refine s_one (.bool false) A150 S97 (g_pick_f (b := (decide ((nthU nm k : Int) ≠ 45))) (by kernel_rfl) h124 (by kernel_rfl)) rfl (fun ac A151 => ?_)
                  refine s_want (dj := 39) (b := (!(bif decide ((nthU nm k : Int) ≥ 97) then (decide ((nthU nm k : Int) ≤ 122)) || ((decide ((nthU nm k : Int) ≥ 65)) && (decide ((nthU nm k : Int) ≤ 90))) else (decide ((nthU nm k : Int) ≥ 65)) && (decide ((nthU nm k : Int) ≤ 90))))) A151 (by kernel_rfl) (by kernel_rfl) h101 ?_
                  refine s_one (.bool false) A151 S97 (g_pick_f (b := (decide ((k : Int) = 0))) (by kernel_rfl) h106 (by kernel_rfl)) rfl (fun ac A152 => ?_)
                  refine s_one (.bool false) A152 S97 (g_pick_t (b := (!(bif decide ((nthU nm k : Int) ≥ 97) then (decide ((nthU nm k : Int) ≤ 122)) || ((decide ((nthU nm k : Int) ≥ 65)) && (decide ((nthU nm k : Int) ≤ 90))) else (decide ((nthU nm k : Int) ≥ 65)) && (decide ((nthU nm k : Int) ≤ 90))))) (by kernel_rfl) h101 (by kernel_rfl)) rfl (fun ac A153 => ?_)
                  refine wpList_nil ?_
                  refine n_then ?_
                  exact ⟨(A153.slot (A153.slot (A153.slot (A153.slot (A153.slot (A153.slot (A153.slot (A153.slot (A153.slot (A153.slot (A153.slot (A153.slot (A153.slot A153.nil (v := .bool (bif decide ((nthU nm k : Int) ≥ 97) then (decide ((nthU nm k : Int) ≤ 122)) || ((decide ((nthU nm k : Int) ≥ 65)) && (decide ((nthU nm k : Int) ≤ 90))) else (decide ((nthU nm k : Int) ≥ 65)) && (decide ((nthU nm k : Int) ≤ 90)))) (by kernel_rfl) rfl) (v := .int .u8 (nthU nm k : Int)) (by kernel_rfl) rfl) (v := .int .u8 (nthU nm k : Int)) (by kernel_rfl) rfl) (v := .int .i64 (k : Int)) (by kernel_rfl) rfl) (v := .string ⟨nm.toArray⟩) (by kernel_rfl) rfl) (v := .bool (decide ((k : Int) < (nm.length : Int)))) (by kernel_rfl) rfl) (v := .int .i64 (nm.length : Int)) (by kernel_rfl) rfl) (v := .string ⟨nm.toArray⟩) (by kernel_rfl) rfl) (v := .int .i64 (k : Int)) (by kernel_rfl) rfl) (v := .int .i64 (k : Int)) (by kernel_rfl) rfl) (v := .bool ((decide ((nm.length : Int) < 1)) || (decide ((nm.length : Int) > 12)))) (by kernel_rfl) rfl) (v := .string ⟨nm.toArray⟩) (by kernel_rfl) rfl) (v := .bool false) (by kernel_rfl) (congrArg Value.bool (b_af2 (b_of h106 (b_af1 h124))).symm)), S97.sub sub_all sub_all⟩
            · have h154 : (bif decide ((nthU nm k : Int) ≥ 97) then (decide ((nthU nm k : Int) ≤ 122)) || ((decide ((nthU nm k : Int) ≥ 65)) && (decide ((nthU nm k : Int) ≤ 90))) else (decide ((nthU nm k : Int) ≥ 65)) && (decide ((nthU nm k : Int) ≤ 90))) = true := Eq.mp (Bool.not_eq_false' _) h101
              refine s_not (dj := 39) (b := (!(bif decide ((nthU nm k : Int) ≥ 97) then (decide ((nthU nm k : Int) ≤ 122)) || ((decide ((nthU nm k : Int) ≥ 65)) && (decide ((nthU nm k : Int) ≤ 90))) else (decide ((nthU nm k : Int) ≥ 65)) && (decide ((nthU nm k : Int) ≤ 90))))) A100 (by kernel_rfl) (by kernel_rfl) h101 rfl (fun ac A155 => ?_)
              refine s_not (dj := 39) (b := (!(bif decide ((nthU nm k : Int) ≥ 97) then (decide ((nthU nm k : Int) ≤ 122)) || ((decide ((nthU nm k : Int) ≥ 65)) && (decide ((nthU nm k : Int) ≤ 90))) else (decide ((nthU nm k : Int) ≥ 65)) && (decide ((nthU nm k : Int) ≤ 90))))) A155 (by kernel_rfl) (by kernel_rfl) h101 rfl (fun ac A156 => ?_)
              refine s_not (dj := 39) (b := (!(bif decide ((nthU nm k : Int) ≥ 97) then (decide ((nthU nm k : Int) ≤ 122)) || ((decide ((nthU nm k : Int) ≥ 65)) && (decide ((nthU nm k : Int) ≤ 90))) else (decide ((nthU nm k : Int) ≥ 65)) && (decide ((nthU nm k : Int) ≤ 90))))) A156 (by kernel_rfl) (by kernel_rfl) h101 rfl (fun ac A157 => ?_)
              refine s_notU (dj := 42) A157 (by kernel_rfl) (by kernel_rfl) rfl (fun ac A158 => ?_)
              refine s_notU (dj := 42) A158 (by kernel_rfl) (by kernel_rfl) rfl (fun ac A159 => ?_)
              refine s_notU (dj := 42) A159 (by kernel_rfl) (by kernel_rfl) rfl (fun ac A160 => ?_)
              refine s_notU (dj := 45) A160 (by kernel_rfl) (by kernel_rfl) rfl (fun ac A161 => ?_)
              refine s_notU (dj := 45) A161 (by kernel_rfl) (by kernel_rfl) rfl (fun ac A162 => ?_)
              refine s_notU (dj := 45) A162 (by kernel_rfl) (by kernel_rfl) rfl (fun ac A163 => ?_)
              refine s_notU (dj := 48) A163 (by kernel_rfl) (by kernel_rfl) rfl (fun ac A164 => ?_)
              refine s_notU (dj := 48) A164 (by kernel_rfl) (by kernel_rfl) rfl (fun ac A165 => ?_)
              refine s_notU (dj := 45) A165 (by kernel_rfl) (by kernel_rfl) rfl (fun ac A166 => ?_)
              refine s_notU (dj := 42) A166 (by kernel_rfl) (by kernel_rfl) rfl (fun ac A167 => ?_)
              refine s_not (dj := 39) (b := (!(bif decide ((nthU nm k : Int) ≥ 97) then (decide ((nthU nm k : Int) ≤ 122)) || ((decide ((nthU nm k : Int) ≥ 65)) && (decide ((nthU nm k : Int) ≤ 90))) else (decide ((nthU nm k : Int) ≥ 65)) && (decide ((nthU nm k : Int) ≤ 90))))) A167 (by kernel_rfl) (by kernel_rfl) h101 rfl (fun ac A168 => ?_)
              refine s_one (.bool false) A168 S97 (g_pick_f (b := (!(bif decide ((nthU nm k : Int) ≥ 97) then (decide ((nthU nm k : Int) ≤ 122)) || ((decide ((nthU nm k : Int) ≥ 65)) && (decide ((nthU nm k : Int) ≤ 90))) else (decide ((nthU nm k : Int) ≥ 65)) && (decide ((nthU nm k : Int) ≤ 90))))) (by kernel_rfl) h101 (by kernel_rfl)) rfl (fun ac A169 => ?_)
              refine wpList_nil ?_
              refine n_then ?_
              exact ⟨(A169.slot (A169.slot (A169.slot (A169.slot (A169.slot (A169.slot (A169.slot (A169.slot (A169.slot (A169.slot (A169.slot (A169.slot (A169.slot A169.nil (v := .bool (bif decide ((nthU nm k : Int) ≥ 97) then (decide ((nthU nm k : Int) ≤ 122)) || ((decide ((nthU nm k : Int) ≥ 65)) && (decide ((nthU nm k : Int) ≤ 90))) else (decide ((nthU nm k : Int) ≥ 65)) && (decide ((nthU nm k : Int) ≤ 90)))) (by kernel_rfl) rfl) (v := .int .u8 (nthU nm k : Int)) (by kernel_rfl) rfl) (v := .int .u8 (nthU nm k : Int)) (by kernel_rfl) rfl) (v := .int .i64 (k : Int)) (by kernel_rfl) rfl) (v := .string ⟨nm.toArray⟩) (by kernel_rfl) rfl) (v := .bool (decide ((k : Int) < (nm.length : Int)))) (by kernel_rfl) rfl) (v := .int .i64 (nm.length : Int)) (by kernel_rfl) rfl) (v := .string ⟨nm.toArray⟩) (by kernel_rfl) rfl) (v := .int .i64 (k : Int)) (by kernel_rfl) rfl) (v := .int .i64 (k : Int)) (by kernel_rfl) rfl) (v := .bool ((decide ((nm.length : Int) < 1)) || (decide ((nm.length : Int) > 12)))) (by kernel_rfl) rfl) (v := .string ⟨nm.toArray⟩) (by kernel_rfl) rfl) (v := .bool false) (by kernel_rfl) (congrArg Value.bool (b_af1 h101).symm)), S97.sub sub_all sub_all⟩
          · rintro ac wc ⟨A170, S171⟩
            refine n_then ?_
            refine c_ifb (b := ((!(bif decide ((nthU nm k : Int) ≥ 97) then (decide ((nthU nm k : Int) ≤ 122)) || ((decide ((nthU nm k : Int) ≥ 65)) && (decide ((nthU nm k : Int) ≤ 90))) else (decide ((nthU nm k : Int) ≥ 65)) && (decide ((nthU nm k : Int) ≤ 90)))) && ((decide ((k : Int) = 0)) || ((decide ((nthU nm k : Int) ≠ 45)) && ((decide ((nthU nm k : Int) < 48)) || (decide ((nthU nm k : Int) > 57))))))) A170 (by kernel_rfl) (fun h172 => ?_) (fun h172 => ?_)
            · have h173 := (Bool.and_eq_true_iff.1 h172).1
              have h174 : (bif decide ((nthU nm k : Int) ≥ 97) then (decide ((nthU nm k : Int) ≤ 122)) || ((decide ((nthU nm k : Int) ≥ 65)) && (decide ((nthU nm k : Int) ≤ 90))) else (decide ((nthU nm k : Int) ≥ 65)) && (decide ((nthU nm k : Int) ≤ 90))) = false := Eq.mp (Bool.not_eq_true' _) h173
              have h175 := (Bool.and_eq_true_iff.1 h172).2
              refine wp_seq ?_
              refine wp_region_lit ?_
              refine s_one (.bool false) A170 S171 (g_assign (by kernel_rfl)) rfl (fun ac A176 => ?_)
              refine wpList_nil ?_
              refine n_then ?_
              refine wp_ret ?_
              refine r_block ?_
              refine r_then ?_
              refine r_then ?_
              refine r_block ?_
              refine r_then ?_
              refine fin1 (.bool false) Try.results28 A176 S171 (rv_tmp (by kernel_rfl)) ⟨?_, S171.kp⟩
              rw [name_n2 (k := k) (by omega) h172]
            · refine wp_skip ?_
              refine n_block ?_
              refine n_then ?_
              refine wp_region_lit ?_
              refine s_one (.int .i64 (k : Int)) A170 S171 (g_move (by kernel_rfl)) rfl (fun ac A177 => ?_)
              refine s_one (.int .i64 ((k : Int) + 1)) A177 S171 (g_bin (u := .int .i64 (k : Int)) (k := .int .i64 1) (by kernel_rfl) (by kernel_rfl) (fun _ => by kernel_rfl) (b_add (by omega))) rfl (fun ac A178 => ?_)
              refine s_one (.int .i64 ((k : Int) + 1)) A178 S171 (g_assign (by kernel_rfl)) rfl (fun ac A179 => ?_)
              refine wpList_nil ?_
              refine n_then ?_
              refine ⟨_, ⟨k + 1, rfl, by omega, bad_snoc hg h172, (A179.slot (A179.slot (A179.slot A179.nil (v := .int .i64 ((k : Int) + 1)) (by kernel_rfl) (congrArg (Value.int .i64) (by omega))) (v := .bool ((decide ((nm.length : Int) < 1)) || (decide ((nm.length : Int) > 12)))) (by kernel_rfl) rfl) (v := .string ⟨nm.toArray⟩) (by kernel_rfl) rfl), S171.sub sub_all sub_all⟩, ?_⟩
              omega
      · have p180 := of_decide_eq_false h33
        refine wp_exit ?_
        refine x_then ?_
        refine x_then ?_
        refine x_hit ?_
        refine n_then ?_
        refine wp_seq ?_
        refine wp_region_lit ?_
        refine s_one (.bool true) A32 S27 (g_assign (by kernel_rfl)) rfl (fun ac A181 => ?_)
        refine wpList_nil ?_
        refine n_then ?_
        refine wp_ret ?_
        refine fin1 (.bool true) Try.results28 A181 S27 (rv_tmp (by kernel_rfl)) ⟨?_, S27.kp⟩
        obtain rfl : k = nm.length := by omega
        rw [name_y hg]
        rw [h19]; rfl

set_option maxRecDepth 100000 in
set_option maxHeartbeats 400000 in
theorem isName_s (nm : List UInt8) (w0 : World) (hn : nm.length ≤ 9223372036854775807) :
    Calls Try.prog 44 #[.string ⟨nm.toArray⟩] w0 fun e w' => e = .returned (.bool (nameB nm)) ∧ Below w0.heap.size w0 w' := by
  have S0 := St.start w0
  refine enter (n := 54) Try.func44 rfl rfl rfl (fun ac A0 => ?_)
  refine wp_seq ?_
  refine wp_region_lit ?_
  refine s_one (.bool false) A0 S0 (g_assign (by kernel_rfl)) rfl (fun ac A1 => ?_)
  refine wpList_nil ?_
  refine n_then ?_
  refine wp_seq ?_
  refine wp_seq ?_
  refine wp_region_lit ?_
  refine s_one (.string ⟨nm.toArray⟩) A1 S0 (g_move (by kernel_rfl)) rfl (fun ac A2 => ?_)
  refine s_bytesOf (l := nm) A2 S0 (by kernel_rfl) Try.underlying9 Try.underlying97 Try.underlying5 rfl (fun wz3 ad4 cap5 ac hc7 hz8 A6 hkx9 S10 => ?_)
  refine s_one (.int .i64 (nm.length : Int)) A6 S10 (g_built (r := [(0, .slice (some ad4) nm.length cap5)]) (by kernel_rfl) (fun _ _ _ => by kernel_rfl)) rfl (fun ac A11 => ?_)
  refine s_one (.int .i64 0) A11 S10 (g_move (by kernel_rfl)) rfl (fun ac A12 => ?_)
  refine wpList_nil ?_
  refine n_then ?_
  refine wp_block ?_
  refine c_loopN (fun mm ac wc => ∃ (k : Nat), mm = nm.length - k ∧ (k ≤ nm.length) ∧ (∀ j, j < k → badC nm j = false) ∧ Fr 54 ac [(0, .string ⟨nm.toArray⟩), (6, .string ⟨nm.toArray⟩), (7, .slice (some ad4) nm.length cap5), (8, .int .i64 (nm.length : Int)), (9, .int .i64 (k : Int))] ∧ St ⟨w0, wz3⟩ [] [] wc) _ ⟨0, rfl, Nat.zero_le _, fun j hj => absurd hj (Nat.not_lt_zero j), (A12.slot (A12.slot (A12.slot (A12.slot (A12.slot A12.nil (v := .int .i64 0) (by kernel_rfl) (congrArg (Value.int .i64) (by omega))) (v := .int .i64 (nm.length : Int)) (by kernel_rfl) rfl) (v := .slice (some ad4) nm.length cap5) (by kernel_rfl) rfl) (v := .string ⟨nm.toArray⟩) (by kernel_rfl) rfl) (v := .string ⟨nm.toArray⟩) (by kernel_rfl) rfl), S10.sub sub_all sub_all⟩ ?_
  rintro mm ac wc ⟨k, hm15, hk, hg, A13, S14⟩
  refine wp_seq ?_
  refine wp_region_lit ?_
  refine s_one (.bool (decide ((k : Int) < (nm.length : Int)))) A13 S14 (g_bin (u := .int .i64 (k : Int)) (k := .int .i64 (nm.length : Int)) (by kernel_rfl) (by kernel_rfl) (fun _ => by kernel_rfl) (fun _ => by kernel_rfl)) rfl (fun ac A16 => ?_)
  refine wpList_nil ?_
  refine n_then ?_
  refine wp_seq ?_
  refine c_ifb (b := (decide ((k : Int) < (nm.length : Int)))) A16 (by kernel_rfl) (fun h17 => ?_) (fun h17 => ?_)
  · have p18 := of_decide_eq_true h17
    refine wp_skip ?_
    refine n_then ?_
    refine wp_seq ?_
    refine wp_block ?_
    refine wp_seq ?_
    refine wp_region_lit ?_
    refine s_one (.int .i64 (k : Int)) A16 S14 (g_move (by kernel_rfl)) rfl (fun ac A19 => ?_)
    refine s_one (.pointer (some (ad4.add k))) A19 S14 (g_index (u := .slice (some ad4) nm.length cap5) (k := .int .i64 (k : Int)) (by kernel_rfl) (by kernel_rfl) (ix_by (e := 5) (bytes := 1) k (by kernel_rfl) (by omega) (by omega))) rfl (fun ac A20 => ?_)
    refine s_one (.int .u8 (nthU nm k : Int)) A20 S14 (g_loadXB (l := nm) (k := k) (by kernel_rfl) hz8 (by omega) (by kernel_rfl)) rfl (fun ac A21 => ?_)
    refine s_one (.int .i64 (k : Int)) A21 S14 (g_assign (by kernel_rfl)) rfl (fun ac A22 => ?_)
    refine s_one (.int .u8 (nthU nm k : Int)) A22 S14 (g_assign (by kernel_rfl)) rfl (fun ac A23 => ?_)
    refine wpList_nil ?_
    refine n_then ?_
    refine wp_seq ?_
    refine c_cut (fun ac wc => Fr 54 ac [(5, .bool (bif decide ((nthU nm k : Int) ≥ 97) then (decide ((nthU nm k : Int) ≤ 122)) || ((decide ((nthU nm k : Int) ≥ 65)) && (decide ((nthU nm k : Int) ≤ 90))) else (decide ((nthU nm k : Int) ≥ 65)) && (decide ((nthU nm k : Int) ≤ 90)))), (0, .string ⟨nm.toArray⟩), (6, .string ⟨nm.toArray⟩), (7, .slice (some ad4) nm.length cap5), (8, .int .i64 (nm.length : Int)), (9, .int .i64 (k : Int)), (10, .bool (decide ((k : Int) < (nm.length : Int)))), (11, .int .i64 (k : Int)), (12, .pointer (some (ad4.add k))), (13, .int .u8 (nthU nm k : Int)), (3, .int .i64 (k : Int)), (4, .int .u8 (nthU nm k : Int))] ∧ St ⟨w0, wz3⟩ [] [] wc) ?_ ?_
    · refine wp_region_lit ?_
      refine s_one (.int .u8 (nthU nm k : Int)) A23 S14 (g_move (by kernel_rfl)) rfl (fun ac A24 => ?_)
      refine s_one (.bool (decide ((nthU nm k : Int) ≥ 97))) A24 S14 (g_bin (u := .int .u8 (nthU nm k : Int)) (k := .int .u8 97) (by kernel_rfl) (by kernel_rfl) (fun _ => by kernel_rfl) (fun _ => by kernel_rfl)) rfl (fun ac A25 => ?_)
      refine s_one (.bool (decide ((nthU nm k : Int) ≥ 97))) A25 S14 (g_move (by kernel_rfl)) rfl (fun ac A26 => ?_)
      refine by_bool (decide ((nthU nm k : Int) ≥ 97)) (fun h27 => ?_) (fun h27 => ?_)
      · have p28 := of_decide_eq_true h27
        refine s_want (dj := 16) (b := (decide ((nthU nm k : Int) ≥ 97))) A26 (by kernel_rfl) (by kernel_rfl) h27 ?_
        refine s_one (.int .u8 (nthU nm k : Int)) A26 S14 (g_move (by kernel_rfl)) rfl (fun ac A29 => ?_)
        refine s_want (dj := 16) (b := (decide ((nthU nm k : Int) ≥ 97))) A29 (by kernel_rfl) (by kernel_rfl) h27 ?_
        refine s_one (.bool (decide ((nthU nm k : Int) ≤ 122))) A29 S14 (g_bin (u := .int .u8 (nthU nm k : Int)) (k := .int .u8 122) (by kernel_rfl) (by kernel_rfl) (fun _ => by kernel_rfl) (fun _ => by kernel_rfl)) rfl (fun ac A30 => ?_)
        refine s_one (.bool (decide ((nthU nm k : Int) ≤ 122))) A30 S14 (g_pick_t (b := (decide ((nthU nm k : Int) ≥ 97))) (by kernel_rfl) h27 (by kernel_rfl)) rfl (fun ac A31 => ?_)
        refine s_one (.bool (decide ((nthU nm k : Int) ≤ 122))) A31 S14 (g_move (by kernel_rfl)) rfl (fun ac A32 => ?_)
        refine by_bool (decide ((nthU nm k : Int) ≤ 122)) (fun h33 => ?_) (fun h33 => ?_)
        · have p34 := of_decide_eq_true h33
          refine s_not (dj := 20) (b := (decide ((nthU nm k : Int) ≤ 122))) A32 (by kernel_rfl) (by kernel_rfl) h33 rfl (fun ac A35 => ?_)
          refine s_not (dj := 20) (b := (decide ((nthU nm k : Int) ≤ 122))) A35 (by kernel_rfl) (by kernel_rfl) h33 rfl (fun ac A36 => ?_)
          refine s_not (dj := 20) (b := (decide ((nthU nm k : Int) ≤ 122))) A36 (by kernel_rfl) (by kernel_rfl) h33 rfl (fun ac A37 => ?_)
          refine s_notU (dj := 23) A37 (by kernel_rfl) (by kernel_rfl) rfl (fun ac A38 => ?_)
          refine s_notU (dj := 23) A38 (by kernel_rfl) (by kernel_rfl) rfl (fun ac A39 => ?_)
          refine s_not (dj := 20) (b := (decide ((nthU nm k : Int) ≤ 122))) A39 (by kernel_rfl) (by kernel_rfl) h33 rfl (fun ac A40 => ?_)
          refine s_one (.bool true) A40 S14 (g_pick_t (b := (decide ((nthU nm k : Int) ≤ 122))) (by kernel_rfl) h33 (by kernel_rfl)) rfl (fun ac A41 => ?_)
          refine s_one (.bool true) A41 S14 (g_assign (by kernel_rfl)) rfl (fun ac A42 => ?_)
          refine wpList_nil ?_
          refine n_then ?_
          exact ⟨(A42.slot (A42.slot (A42.slot (A42.slot (A42.slot (A42.slot (A42.slot (A42.slot (A42.slot (A42.slot (A42.slot (A42.slot A42.nil (v := .int .u8 (nthU nm k : Int)) (by kernel_rfl) rfl) (v := .int .i64 (k : Int)) (by kernel_rfl) rfl) (v := .int .u8 (nthU nm k : Int)) (by kernel_rfl) rfl) (v := .pointer (some (ad4.add k))) (by kernel_rfl) rfl) (v := .int .i64 (k : Int)) (by kernel_rfl) rfl) (v := .bool (decide ((k : Int) < (nm.length : Int)))) (by kernel_rfl) rfl) (v := .int .i64 (k : Int)) (by kernel_rfl) rfl) (v := .int .i64 (nm.length : Int)) (by kernel_rfl) rfl) (v := .slice (some ad4) nm.length cap5) (by kernel_rfl) rfl) (v := .string ⟨nm.toArray⟩) (by kernel_rfl) rfl) (v := .string ⟨nm.toArray⟩) (by kernel_rfl) rfl) (v := .bool true) (by kernel_rfl) (congrArg Value.bool ((bif_t h27).trans (b_ot1 h33)).symm)), S14.sub sub_all sub_all⟩
        · have p43 := of_decide_eq_false h33
          refine s_want (dj := 20) (b := (decide ((nthU nm k : Int) ≤ 122))) A32 (by kernel_rfl) (by kernel_rfl) h33 ?_
          refine s_one (.int .u8 (nthU nm k : Int)) A32 S14 (g_move (by kernel_rfl)) rfl (fun ac A44 => ?_)
          refine s_want (dj := 20) (b := (decide ((nthU nm k : Int) ≤ 122))) A44 (by kernel_rfl) (by kernel_rfl) h33 ?_
          refine s_one (.bool (decide ((nthU nm k : Int) ≥ 65))) A44 S14 (g_bin (u := .int .u8 (nthU nm k : Int)) (k := .int .u8 65) (by kernel_rfl) (by kernel_rfl) (fun _ => by kernel_rfl) (fun _ => by kernel_rfl)) rfl (fun ac A45 => ?_)
          refine s_want (dj := 20) (b := (decide ((nthU nm k : Int) ≤ 122))) A45 (by kernel_rfl) (by kernel_rfl) h33 ?_
          refine s_one (.bool (decide ((nthU nm k : Int) ≥ 65))) A45 S14 (g_move (by kernel_rfl)) rfl (fun ac A46 => ?_)
          refine by_bool (decide ((nthU nm k : Int) ≥ 65)) (fun h47 => ?_) (fun h47 => ?_)
          · have p48 := of_decide_eq_true h47
            refine s_want (dj := 23) (b := (decide ((nthU nm k : Int) ≥ 65))) A46 (by kernel_rfl) (by kernel_rfl) h47 ?_
            refine s_one (.int .u8 (nthU nm k : Int)) A46 S14 (g_move (by kernel_rfl)) rfl (fun ac A49 => ?_)
            refine s_want (dj := 23) (b := (decide ((nthU nm k : Int) ≥ 65))) A49 (by kernel_rfl) (by kernel_rfl) h47 ?_
            refine s_one (.bool (decide ((nthU nm k : Int) ≤ 90))) A49 S14 (g_bin (u := .int .u8 (nthU nm k : Int)) (k := .int .u8 90) (by kernel_rfl) (by kernel_rfl) (fun _ => by kernel_rfl) (fun _ => by kernel_rfl)) rfl (fun ac A50 => ?_)
            refine s_want (dj := 20) (b := (decide ((nthU nm k : Int) ≤ 122))) A50 (by kernel_rfl) (by kernel_rfl) h33 ?_
            refine s_one (.bool (decide ((nthU nm k : Int) ≤ 90))) A50 S14 (g_pick_t (b := (decide ((nthU nm k : Int) ≥ 65))) (by kernel_rfl) h47 (by kernel_rfl)) rfl (fun ac A51 => ?_)
            refine s_one (.bool (decide ((nthU nm k : Int) ≤ 90))) A51 S14 (g_pick_f (b := (decide ((nthU nm k : Int) ≤ 122))) (by kernel_rfl) h33 (by kernel_rfl)) rfl (fun ac A52 => ?_)
            refine s_one (.bool (decide ((nthU nm k : Int) ≤ 90))) A52 S14 (g_assign (by kernel_rfl)) rfl (fun ac A53 => ?_)
            refine wpList_nil ?_
            refine n_then ?_
            exact ⟨(A53.slot (A53.slot (A53.slot (A53.slot (A53.slot (A53.slot (A53.slot (A53.slot (A53.slot (A53.slot (A53.slot (A53.slot A53.nil (v := .int .u8 (nthU nm k : Int)) (by kernel_rfl) rfl) (v := .int .i64 (k : Int)) (by kernel_rfl) rfl) (v := .int .u8 (nthU nm k : Int)) (by kernel_rfl) rfl) (v := .pointer (some (ad4.add k))) (by kernel_rfl) rfl) (v := .int .i64 (k : Int)) (by kernel_rfl) rfl) (v := .bool (decide ((k : Int) < (nm.length : Int)))) (by kernel_rfl) rfl) (v := .int .i64 (k : Int)) (by kernel_rfl) rfl) (v := .int .i64 (nm.length : Int)) (by kernel_rfl) rfl) (v := .slice (some ad4) nm.length cap5) (by kernel_rfl) rfl) (v := .string ⟨nm.toArray⟩) (by kernel_rfl) rfl) (v := .string ⟨nm.toArray⟩) (by kernel_rfl) rfl) (v := .bool (decide ((nthU nm k : Int) ≤ 90))) (by kernel_rfl) (congrArg Value.bool ((bif_t h27).trans (b_or_f h33 (b_and_t h47 (Eq.refl (decide ((nthU nm k : Int) ≤ 90)))))).symm)), S14.sub sub_all sub_all⟩
          · have p54 := of_decide_eq_false h47
            refine s_not (dj := 23) (b := (decide ((nthU nm k : Int) ≥ 65))) A46 (by kernel_rfl) (by kernel_rfl) h47 rfl (fun ac A55 => ?_)
            refine s_not (dj := 23) (b := (decide ((nthU nm k : Int) ≥ 65))) A55 (by kernel_rfl) (by kernel_rfl) h47 rfl (fun ac A56 => ?_)
            refine s_want (dj := 20) (b := (decide ((nthU nm k : Int) ≤ 122))) A56 (by kernel_rfl) (by kernel_rfl) h33 ?_
            refine s_one (.bool false) A56 S14 (g_pick_f (b := (decide ((nthU nm k : Int) ≥ 65))) (by kernel_rfl) h47 (by kernel_rfl)) rfl (fun ac A57 => ?_)
            refine s_one (.bool false) A57 S14 (g_pick_f (b := (decide ((nthU nm k : Int) ≤ 122))) (by kernel_rfl) h33 (by kernel_rfl)) rfl (fun ac A58 => ?_)
            refine s_one (.bool false) A58 S14 (g_assign (by kernel_rfl)) rfl (fun ac A59 => ?_)
            refine wpList_nil ?_
            refine n_then ?_
            exact ⟨(A59.slot (A59.slot (A59.slot (A59.slot (A59.slot (A59.slot (A59.slot (A59.slot (A59.slot (A59.slot (A59.slot (A59.slot A59.nil (v := .int .u8 (nthU nm k : Int)) (by kernel_rfl) rfl) (v := .int .i64 (k : Int)) (by kernel_rfl) rfl) (v := .int .u8 (nthU nm k : Int)) (by kernel_rfl) rfl) (v := .pointer (some (ad4.add k))) (by kernel_rfl) rfl) (v := .int .i64 (k : Int)) (by kernel_rfl) rfl) (v := .bool (decide ((k : Int) < (nm.length : Int)))) (by kernel_rfl) rfl) (v := .int .i64 (k : Int)) (by kernel_rfl) rfl) (v := .int .i64 (nm.length : Int)) (by kernel_rfl) rfl) (v := .slice (some ad4) nm.length cap5) (by kernel_rfl) rfl) (v := .string ⟨nm.toArray⟩) (by kernel_rfl) rfl) (v := .string ⟨nm.toArray⟩) (by kernel_rfl) rfl) (v := .bool false) (by kernel_rfl) (congrArg Value.bool ((bif_t h27).trans (b_of h33 (b_af1 h47))).symm)), S14.sub sub_all sub_all⟩
      · have p60 := of_decide_eq_false h27
        refine s_not (dj := 16) (b := (decide ((nthU nm k : Int) ≥ 97))) A26 (by kernel_rfl) (by kernel_rfl) h27 rfl (fun ac A61 => ?_)
        refine s_not (dj := 16) (b := (decide ((nthU nm k : Int) ≥ 97))) A61 (by kernel_rfl) (by kernel_rfl) h27 rfl (fun ac A62 => ?_)
        refine s_one (.bool false) A62 S14 (g_pick_f (b := (decide ((nthU nm k : Int) ≥ 97))) (by kernel_rfl) h27 (by kernel_rfl)) rfl (fun ac A63 => ?_)
        refine s_one (.bool false) A63 S14 (g_move (by kernel_rfl)) rfl (fun ac A64 => ?_)
        refine s_want (dj := 20) (b := false) A64 (by kernel_rfl) (by kernel_rfl) rfl ?_
        refine s_one (.int .u8 (nthU nm k : Int)) A64 S14 (g_move (by kernel_rfl)) rfl (fun ac A65 => ?_)
        refine s_want (dj := 20) (b := false) A65 (by kernel_rfl) (by kernel_rfl) rfl ?_
        refine s_one (.bool (decide ((nthU nm k : Int) ≥ 65))) A65 S14 (g_bin (u := .int .u8 (nthU nm k : Int)) (k := .int .u8 65) (by kernel_rfl) (by kernel_rfl) (fun _ => by kernel_rfl) (fun _ => by kernel_rfl)) rfl (fun ac A66 => ?_)
        refine s_want (dj := 20) (b := false) A66 (by kernel_rfl) (by kernel_rfl) rfl ?_
        refine s_one (.bool (decide ((nthU nm k : Int) ≥ 65))) A66 S14 (g_move (by kernel_rfl)) rfl (fun ac A67 => ?_)
        refine by_bool (decide ((nthU nm k : Int) ≥ 65)) (fun h68 => ?_) (fun h68 => ?_)
        · have p69 := of_decide_eq_true h68
          refine s_want (dj := 23) (b := (decide ((nthU nm k : Int) ≥ 65))) A67 (by kernel_rfl) (by kernel_rfl) h68 ?_
          refine s_one (.int .u8 (nthU nm k : Int)) A67 S14 (g_move (by kernel_rfl)) rfl (fun ac A70 => ?_)
          refine s_want (dj := 23) (b := (decide ((nthU nm k : Int) ≥ 65))) A70 (by kernel_rfl) (by kernel_rfl) h68 ?_
          refine s_one (.bool (decide ((nthU nm k : Int) ≤ 90))) A70 S14 (g_bin (u := .int .u8 (nthU nm k : Int)) (k := .int .u8 90) (by kernel_rfl) (by kernel_rfl) (fun _ => by kernel_rfl) (fun _ => by kernel_rfl)) rfl (fun ac A71 => ?_)
          refine s_want (dj := 20) (b := false) A71 (by kernel_rfl) (by kernel_rfl) rfl ?_
          refine s_one (.bool (decide ((nthU nm k : Int) ≤ 90))) A71 S14 (g_pick_t (b := (decide ((nthU nm k : Int) ≥ 65))) (by kernel_rfl) h68 (by kernel_rfl)) rfl (fun ac A72 => ?_)
          refine s_one (.bool (decide ((nthU nm k : Int) ≤ 90))) A72 S14 (g_pick_f (b := false) (by kernel_rfl) rfl (by kernel_rfl)) rfl (fun ac A73 => ?_)
          refine s_one (.bool (decide ((nthU nm k : Int) ≤ 90))) A73 S14 (g_assign (by kernel_rfl)) rfl (fun ac A74 => ?_)
          refine wpList_nil ?_
          refine n_then ?_
          exact ⟨(A74.slot (A74.slot (A74.slot (A74.slot (A74.slot (A74.slot (A74.slot (A74.slot (A74.slot (A74.slot (A74.slot (A74.slot A74.nil (v := .int .u8 (nthU nm k : Int)) (by kernel_rfl) rfl) (v := .int .i64 (k : Int)) (by kernel_rfl) rfl) (v := .int .u8 (nthU nm k : Int)) (by kernel_rfl) rfl) (v := .pointer (some (ad4.add k))) (by kernel_rfl) rfl) (v := .int .i64 (k : Int)) (by kernel_rfl) rfl) (v := .bool (decide ((k : Int) < (nm.length : Int)))) (by kernel_rfl) rfl) (v := .int .i64 (k : Int)) (by kernel_rfl) rfl) (v := .int .i64 (nm.length : Int)) (by kernel_rfl) rfl) (v := .slice (some ad4) nm.length cap5) (by kernel_rfl) rfl) (v := .string ⟨nm.toArray⟩) (by kernel_rfl) rfl) (v := .string ⟨nm.toArray⟩) (by kernel_rfl) rfl) (v := .bool (decide ((nthU nm k : Int) ≤ 90))) (by kernel_rfl) (congrArg Value.bool ((bif_f h27).trans (b_and_t h68 (Eq.refl (decide ((nthU nm k : Int) ≤ 90))))).symm)), S14.sub sub_all sub_all⟩
        · have p75 := of_decide_eq_false h68
          refine s_not (dj := 23) (b := (decide ((nthU nm k : Int) ≥ 65))) A67 (by kernel_rfl) (by kernel_rfl) h68 rfl (fun ac A76 => ?_)
          refine s_not (dj := 23) (b := (decide ((nthU nm k : Int) ≥ 65))) A76 (by kernel_rfl) (by kernel_rfl) h68 rfl (fun ac A77 => ?_)
          refine s_want (dj := 20) (b := false) A77 (by kernel_rfl) (by kernel_rfl) rfl ?_
          refine s_one (.bool false) A77 S14 (g_pick_f (b := (decide ((nthU nm k : Int) ≥ 65))) (by kernel_rfl) h68 (by kernel_rfl)) rfl (fun ac A78 => ?_)
          refine s_one (.bool false) A78 S14 (g_pick_f (b := false) (by kernel_rfl) rfl (by kernel_rfl)) rfl (fun ac A79 => ?_)
          refine s_one (.bool false) A79 S14 (g_assign (by kernel_rfl)) rfl (fun ac A80 => ?_)
          refine wpList_nil ?_
          refine n_then ?_
          exact ⟨(A80.slot (A80.slot (A80.slot (A80.slot (A80.slot (A80.slot (A80.slot (A80.slot (A80.slot (A80.slot (A80.slot (A80.slot A80.nil (v := .int .u8 (nthU nm k : Int)) (by kernel_rfl) rfl) (v := .int .i64 (k : Int)) (by kernel_rfl) rfl) (v := .int .u8 (nthU nm k : Int)) (by kernel_rfl) rfl) (v := .pointer (some (ad4.add k))) (by kernel_rfl) rfl) (v := .int .i64 (k : Int)) (by kernel_rfl) rfl) (v := .bool (decide ((k : Int) < (nm.length : Int)))) (by kernel_rfl) rfl) (v := .int .i64 (k : Int)) (by kernel_rfl) rfl) (v := .int .i64 (nm.length : Int)) (by kernel_rfl) rfl) (v := .slice (some ad4) nm.length cap5) (by kernel_rfl) rfl) (v := .string ⟨nm.toArray⟩) (by kernel_rfl) rfl) (v := .string ⟨nm.toArray⟩) (by kernel_rfl) rfl) (v := .bool false) (by kernel_rfl) (congrArg Value.bool ((bif_f h27).trans (b_af1 h68)).symm)), S14.sub sub_all sub_all⟩
    · rintro ac wc ⟨A81, S82⟩
      refine n_then ?_
      refine wp_seq ?_
      refine c_cut (fun ac wc => Fr 54 ac [(45, .bool ((!(bif decide ((nthU nm k : Int) ≥ 97) then (decide ((nthU nm k : Int) ≤ 122)) || ((decide ((nthU nm k : Int) ≥ 65)) && (decide ((nthU nm k : Int) ≤ 90))) else (decide ((nthU nm k : Int) ≥ 65)) && (decide ((nthU nm k : Int) ≤ 90)))) && ((decide ((k : Int) = 0)) || ((decide ((nthU nm k : Int) ≠ 45)) && ((decide ((nthU nm k : Int) < 48)) || (decide ((nthU nm k : Int) > 57))))))), (0, .string ⟨nm.toArray⟩), (6, .string ⟨nm.toArray⟩), (7, .slice (some ad4) nm.length cap5), (8, .int .i64 (nm.length : Int)), (9, .int .i64 (k : Int)), (10, .bool (decide ((k : Int) < (nm.length : Int)))), (11, .int .i64 (k : Int)), (12, .pointer (some (ad4.add k))), (13, .int .u8 (nthU nm k : Int)), (3, .int .i64 (k : Int)), (4, .int .u8 (nthU nm k : Int)), (5, .bool (bif decide ((nthU nm k : Int) ≥ 97) then (decide ((nthU nm k : Int) ≤ 122)) || ((decide ((nthU nm k : Int) ≥ 65)) && (decide ((nthU nm k : Int) ≤ 90))) else (decide ((nthU nm k : Int) ≥ 65)) && (decide ((nthU nm k : Int) ≤ 90))))] ∧ St ⟨w0, wz3⟩ [] [] wc) ?_ ?_
      · refine wp_region_lit ?_
        refine s_one (.bool (bif decide ((nthU nm k : Int) ≥ 97) then (decide ((nthU nm k : Int) ≤ 122)) || ((decide ((nthU nm k : Int) ≥ 65)) && (decide ((nthU nm k : Int) ≤ 90))) else (decide ((nthU nm k : Int) ≥ 65)) && (decide ((nthU nm k : Int) ≤ 90)))) A81 S82 (g_move (by kernel_rfl)) rfl (fun ac A83 => ?_)
        refine s_one (.bool (!(bif decide ((nthU nm k : Int) ≥ 97) then (decide ((nthU nm k : Int) ≤ 122)) || ((decide ((nthU nm k : Int) ≥ 65)) && (decide ((nthU nm k : Int) ≤ 90))) else (decide ((nthU nm k : Int) ≥ 65)) && (decide ((nthU nm k : Int) ≤ 90))))) A83 S82 (g_un (u := .bool (bif decide ((nthU nm k : Int) ≥ 97) then (decide ((nthU nm k : Int) ≤ 122)) || ((decide ((nthU nm k : Int) ≥ 65)) && (decide ((nthU nm k : Int) ≤ 90))) else (decide ((nthU nm k : Int) ≥ 65)) && (decide ((nthU nm k : Int) ≤ 90)))) (by kernel_rfl) (fun _ => by kernel_rfl)) rfl (fun ac A84 => ?_)
        refine s_one (.bool (!(bif decide ((nthU nm k : Int) ≥ 97) then (decide ((nthU nm k : Int) ≤ 122)) || ((decide ((nthU nm k : Int) ≥ 65)) && (decide ((nthU nm k : Int) ≤ 90))) else (decide ((nthU nm k : Int) ≥ 65)) && (decide ((nthU nm k : Int) ≤ 90))))) A84 S82 (g_move (by kernel_rfl)) rfl (fun ac A85 => ?_)
        refine by_bool (!(bif decide ((nthU nm k : Int) ≥ 97) then (decide ((nthU nm k : Int) ≤ 122)) || ((decide ((nthU nm k : Int) ≥ 65)) && (decide ((nthU nm k : Int) ≤ 90))) else (decide ((nthU nm k : Int) ≥ 65)) && (decide ((nthU nm k : Int) ≤ 90)))) (fun h86 => ?_) (fun h86 => ?_)
        · have h87 : (bif decide ((nthU nm k : Int) ≥ 97) then (decide ((nthU nm k : Int) ≤ 122)) || ((decide ((nthU nm k : Int) ≥ 65)) && (decide ((nthU nm k : Int) ≤ 90))) else (decide ((nthU nm k : Int) ≥ 65)) && (decide ((nthU nm k : Int) ≤ 90))) = false := Eq.mp (Bool.not_eq_true' _) h86
          refine s_want (dj := 30) (b := (!(bif decide ((nthU nm k : Int) ≥ 97) then (decide ((nthU nm k : Int) ≤ 122)) || ((decide ((nthU nm k : Int) ≥ 65)) && (decide ((nthU nm k : Int) ≤ 90))) else (decide ((nthU nm k : Int) ≥ 65)) && (decide ((nthU nm k : Int) ≤ 90))))) A85 (by kernel_rfl) (by kernel_rfl) h86 ?_
          refine s_one (.int .i64 (k : Int)) A85 S82 (g_move (by kernel_rfl)) rfl (fun ac A88 => ?_)
          refine s_want (dj := 30) (b := (!(bif decide ((nthU nm k : Int) ≥ 97) then (decide ((nthU nm k : Int) ≤ 122)) || ((decide ((nthU nm k : Int) ≥ 65)) && (decide ((nthU nm k : Int) ≤ 90))) else (decide ((nthU nm k : Int) ≥ 65)) && (decide ((nthU nm k : Int) ≤ 90))))) A88 (by kernel_rfl) (by kernel_rfl) h86 ?_
          refine s_one (.bool (decide ((k : Int) = 0))) A88 S82 (g_bin (u := .int .i64 (k : Int)) (k := .int .i64 0) (by kernel_rfl) (by kernel_rfl) (fun _ => by kernel_rfl) b_eql) rfl (fun ac A89 => ?_)
          refine s_want (dj := 30) (b := (!(bif decide ((nthU nm k : Int) ≥ 97) then (decide ((nthU nm k : Int) ≤ 122)) || ((decide ((nthU nm k : Int) ≥ 65)) && (decide ((nthU nm k : Int) ≤ 90))) else (decide ((nthU nm k : Int) ≥ 65)) && (decide ((nthU nm k : Int) ≤ 90))))) A89 (by kernel_rfl) (by kernel_rfl) h86 ?_
          refine s_one (.bool (decide ((k : Int) = 0))) A89 S82 (g_move (by kernel_rfl)) rfl (fun ac A90 => ?_)
          refine by_bool (decide ((k : Int) = 0)) (fun h91 => ?_) (fun h91 => ?_)
          · have p92 := of_decide_eq_true h91
            refine s_not (dj := 33) (b := (decide ((k : Int) = 0))) A90 (by kernel_rfl) (by kernel_rfl) h91 rfl (fun ac A93 => ?_)
            refine s_not (dj := 33) (b := (decide ((k : Int) = 0))) A93 (by kernel_rfl) (by kernel_rfl) h91 rfl (fun ac A94 => ?_)
            refine s_not (dj := 33) (b := (decide ((k : Int) = 0))) A94 (by kernel_rfl) (by kernel_rfl) h91 rfl (fun ac A95 => ?_)
            refine s_notU (dj := 36) A95 (by kernel_rfl) (by kernel_rfl) rfl (fun ac A96 => ?_)
            refine s_notU (dj := 36) A96 (by kernel_rfl) (by kernel_rfl) rfl (fun ac A97 => ?_)
            refine s_notU (dj := 36) A97 (by kernel_rfl) (by kernel_rfl) rfl (fun ac A98 => ?_)
            refine s_notU (dj := 39) A98 (by kernel_rfl) (by kernel_rfl) rfl (fun ac A99 => ?_)
            refine s_notU (dj := 39) A99 (by kernel_rfl) (by kernel_rfl) rfl (fun ac A100 => ?_)
            refine s_notU (dj := 36) A100 (by kernel_rfl) (by kernel_rfl) rfl (fun ac A101 => ?_)
            refine s_not (dj := 33) (b := (decide ((k : Int) = 0))) A101 (by kernel_rfl) (by kernel_rfl) h91 rfl (fun ac A102 => ?_)
            refine s_want (dj := 30) (b := (!(bif decide ((nthU nm k : Int) ≥ 97) then (decide ((nthU nm k : Int) ≤ 122)) || ((decide ((nthU nm k : Int) ≥ 65)) && (decide ((nthU nm k : Int) ≤ 90))) else (decide ((nthU nm k : Int) ≥ 65)) && (decide ((nthU nm k : Int) ≤ 90))))) A102 (by kernel_rfl) (by kernel_rfl) h86 ?_
            refine s_one (.bool true) A102 S82 (g_pick_t (b := (decide ((k : Int) = 0))) (by kernel_rfl) h91 (by kernel_rfl)) rfl (fun ac A103 => ?_)
            refine s_one (.bool true) A103 S82 (g_pick_t (b := (!(bif decide ((nthU nm k : Int) ≥ 97) then (decide ((nthU nm k : Int) ≤ 122)) || ((decide ((nthU nm k : Int) ≥ 65)) && (decide ((nthU nm k : Int) ≤ 90))) else (decide ((nthU nm k : Int) ≥ 65)) && (decide ((nthU nm k : Int) ≤ 90))))) (by kernel_rfl) h86 (by kernel_rfl)) rfl (fun ac A104 => ?_)
            refine wpList_nil ?_
            refine n_then ?_
            exact ⟨(A104.slot (A104.slot (A104.slot (A104.slot (A104.slot (A104.slot (A104.slot (A104.slot (A104.slot (A104.slot (A104.slot (A104.slot (A104.slot A104.nil (v := .bool (bif decide ((nthU nm k : Int) ≥ 97) then (decide ((nthU nm k : Int) ≤ 122)) || ((decide ((nthU nm k : Int) ≥ 65)) && (decide ((nthU nm k : Int) ≤ 90))) else (decide ((nthU nm k : Int) ≥ 65)) && (decide ((nthU nm k : Int) ≤ 90)))) (by kernel_rfl) rfl) (v := .int .u8 (nthU nm k : Int)) (by kernel_rfl) rfl) (v := .int .i64 (k : Int)) (by kernel_rfl) rfl) (v := .int .u8 (nthU nm k : Int)) (by kernel_rfl) rfl) (v := .pointer (some (ad4.add k))) (by kernel_rfl) rfl) (v := .int .i64 (k : Int)) (by kernel_rfl) rfl) (v := .bool (decide ((k : Int) < (nm.length : Int)))) (by kernel_rfl) rfl) (v := .int .i64 (k : Int)) (by kernel_rfl) rfl) (v := .int .i64 (nm.length : Int)) (by kernel_rfl) rfl) (v := .slice (some ad4) nm.length cap5) (by kernel_rfl) rfl) (v := .string ⟨nm.toArray⟩) (by kernel_rfl) rfl) (v := .string ⟨nm.toArray⟩) (by kernel_rfl) rfl) (v := .bool true) (by kernel_rfl) (congrArg Value.bool (b_at h86 (b_ot1 h91)).symm)), S82.sub sub_all sub_all⟩
          · have p105 := of_decide_eq_false h91
            refine s_want (dj := 33) (b := (decide ((k : Int) = 0))) A90 (by kernel_rfl) (by kernel_rfl) h91 ?_
            refine s_one (.int .u8 (nthU nm k : Int)) A90 S82 (g_move (by kernel_rfl)) rfl (fun ac A106 => ?_)
            refine s_want (dj := 33) (b := (decide ((k : Int) = 0))) A106 (by kernel_rfl) (by kernel_rfl) h91 ?_
            refine s_one (.bool (decide ((nthU nm k : Int) ≠ 45))) A106 S82 (g_bin (u := .int .u8 (nthU nm k : Int)) (k := .int .u8 45) (by kernel_rfl) (by kernel_rfl) (fun _ => by kernel_rfl) b_neq) rfl (fun ac A107 => ?_)
            refine s_want (dj := 33) (b := (decide ((k : Int) = 0))) A107 (by kernel_rfl) (by kernel_rfl) h91 ?_
            refine s_one (.bool (decide ((nthU nm k : Int) ≠ 45))) A107 S82 (g_move (by kernel_rfl)) rfl (fun ac A108 => ?_)
            refine by_bool (decide ((nthU nm k : Int) ≠ 45)) (fun h109 => ?_) (fun h109 => ?_)
            · have p110 := of_decide_eq_true h109
              refine s_want (dj := 36) (b := (decide ((nthU nm k : Int) ≠ 45))) A108 (by kernel_rfl) (by kernel_rfl) h109 ?_
              refine s_one (.int .u8 (nthU nm k : Int)) A108 S82 (g_move (by kernel_rfl)) rfl (fun ac A111 => ?_)
              refine s_want (dj := 36) (b := (decide ((nthU nm k : Int) ≠ 45))) A111 (by kernel_rfl) (by kernel_rfl) h109 ?_
              refine s_one (.bool (decide ((nthU nm k : Int) < 48))) A111 S82 (g_bin (u := .int .u8 (nthU nm k : Int)) (k := .int .u8 48) (by kernel_rfl) (by kernel_rfl) (fun _ => by kernel_rfl) (fun _ => by kernel_rfl)) rfl (fun ac A112 => ?_)
              refine s_want (dj := 36) (b := (decide ((nthU nm k : Int) ≠ 45))) A112 (by kernel_rfl) (by kernel_rfl) h109 ?_
              refine s_one (.bool (decide ((nthU nm k : Int) < 48))) A112 S82 (g_move (by kernel_rfl)) rfl (fun ac A113 => ?_)
              refine by_bool (decide ((nthU nm k : Int) < 48)) (fun h114 => ?_) (fun h114 => ?_)
              · have p115 := of_decide_eq_true h114
                refine s_not (dj := 39) (b := (decide ((nthU nm k : Int) < 48))) A113 (by kernel_rfl) (by kernel_rfl) h114 rfl (fun ac A116 => ?_)
                refine s_not (dj := 39) (b := (decide ((nthU nm k : Int) < 48))) A116 (by kernel_rfl) (by kernel_rfl) h114 rfl (fun ac A117 => ?_)
                refine s_want (dj := 36) (b := (decide ((nthU nm k : Int) ≠ 45))) A117 (by kernel_rfl) (by kernel_rfl) h109 ?_
                refine s_one (.bool true) A117 S82 (g_pick_t (b := (decide ((nthU nm k : Int) < 48))) (by kernel_rfl) h114 (by kernel_rfl)) rfl (fun ac A118 => ?_)
                refine s_want (dj := 33) (b := (decide ((k : Int) = 0))) A118 (by kernel_rfl) (by kernel_rfl) h91 ?_
                refine s_one (.bool true) A118 S82 (g_pick_t (b := (decide ((nthU nm k : Int) ≠ 45))) (by kernel_rfl) h109 (by kernel_rfl)) rfl (fun ac A119 => ?_)
                refine s_want (dj := 30) (b := (!(bif decide ((nthU nm k : Int) ≥ 97) then (decide ((nthU nm k : Int) ≤ 122)) || ((decide ((nthU nm k : Int) ≥ 65)) && (decide ((nthU nm k : Int) ≤ 90))) else (decide ((nthU nm k : Int) ≥ 65)) && (decide ((nthU nm k : Int) ≤ 90))))) A119 (by kernel_rfl) (by kernel_rfl) h86 ?_
                refine s_one (.bool true) A119 S82 (g_pick_f (b := (decide ((k : Int) = 0))) (by kernel_rfl) h91 (by kernel_rfl)) rfl (fun ac A120 => ?_)
                refine s_one (.bool true) A120 S82 (g_pick_t (b := (!(bif decide ((nthU nm k : Int) ≥ 97) then (decide ((nthU nm k : Int) ≤ 122)) || ((decide ((nthU nm k : Int) ≥ 65)) && (decide ((nthU nm k : Int) ≤ 90))) else (decide ((nthU nm k : Int) ≥ 65)) && (decide ((nthU nm k : Int) ≤ 90))))) (by kernel_rfl) h86 (by kernel_rfl)) rfl (fun ac A121 => ?_)
                refine wpList_nil ?_
                refine n_then ?_
                exact ⟨(A121.slot (A121.slot (A121.slot (A121.slot (A121.slot (A121.slot (A121.slot (A121.slot (A121.slot (A121.slot (A121.slot (A121.slot (A121.slot A121.nil (v := .bool (bif decide ((nthU nm k : Int) ≥ 97) then (decide ((nthU nm k : Int) ≤ 122)) || ((decide ((nthU nm k : Int) ≥ 65)) && (decide ((nthU nm k : Int) ≤ 90))) else (decide ((nthU nm k : Int) ≥ 65)) && (decide ((nthU nm k : Int) ≤ 90)))) (by kernel_rfl) rfl) (v := .int .u8 (nthU nm k : Int)) (by kernel_rfl) rfl) (v := .int .i64 (k : Int)) (by kernel_rfl) rfl) (v := .int .u8 (nthU nm k : Int)) (by kernel_rfl) rfl) (v := .pointer (some (ad4.add k))) (by kernel_rfl) rfl) (v := .int .i64 (k : Int)) (by kernel_rfl) rfl) (v := .bool (decide ((k : Int) < (nm.length : Int)))) (by kernel_rfl) rfl) (v := .int .i64 (k : Int)) (by kernel_rfl) rfl) (v := .int .i64 (nm.length : Int)) (by kernel_rfl) rfl) (v := .slice (some ad4) nm.length cap5) (by kernel_rfl) rfl) (v := .string ⟨nm.toArray⟩) (by kernel_rfl) rfl) (v := .string ⟨nm.toArray⟩) (by kernel_rfl) rfl) (v := .bool true) (by kernel_rfl) (congrArg Value.bool (b_at h86 (b_ot2 (b_at h109 (b_ot1 h114)))).symm)), S82.sub sub_all sub_all⟩
              · have p122 := of_decide_eq_false h114
                refine s_want (dj := 39) (b := (decide ((nthU nm k : Int) < 48))) A113 (by kernel_rfl) (by kernel_rfl) h114 ?_
                refine s_one (.int .u8 (nthU nm k : Int)) A113 S82 (g_move (by kernel_rfl)) rfl (fun ac A123 => ?_)
                refine s_want (dj := 39) (b := (decide ((nthU nm k : Int) < 48))) A123 (by kernel_rfl) (by kernel_rfl) h114 ?_
                refine s_one (.bool (decide ((nthU nm k : Int) > 57))) A123 S82 (g_bin (u := .int .u8 (nthU nm k : Int)) (k := .int .u8 57) (by kernel_rfl) (by kernel_rfl) (fun _ => by kernel_rfl) (fun _ => by kernel_rfl)) rfl (fun ac A124 => ?_)
                refine s_want (dj := 36) (b := (decide ((nthU nm k : Int) ≠ 45))) A124 (by kernel_rfl) (by kernel_rfl) h109 ?_
                refine s_one (.bool (decide ((nthU nm k : Int) > 57))) A124 S82 (g_pick_f (b := (decide ((nthU nm k : Int) < 48))) (by kernel_rfl) h114 (by kernel_rfl)) rfl (fun ac A125 => ?_)
                refine s_want (dj := 33) (b := (decide ((k : Int) = 0))) A125 (by kernel_rfl) (by kernel_rfl) h91 ?_
                refine s_one (.bool (decide ((nthU nm k : Int) > 57))) A125 S82 (g_pick_t (b := (decide ((nthU nm k : Int) ≠ 45))) (by kernel_rfl) h109 (by kernel_rfl)) rfl (fun ac A126 => ?_)
                refine s_want (dj := 30) (b := (!(bif decide ((nthU nm k : Int) ≥ 97) then (decide ((nthU nm k : Int) ≤ 122)) || ((decide ((nthU nm k : Int) ≥ 65)) && (decide ((nthU nm k : Int) ≤ 90))) else (decide ((nthU nm k : Int) ≥ 65)) && (decide ((nthU nm k : Int) ≤ 90))))) A126 (by kernel_rfl) (by kernel_rfl) h86 ?_
                refine s_one (.bool (decide ((nthU nm k : Int) > 57))) A126 S82 (g_pick_f (b := (decide ((k : Int) = 0))) (by kernel_rfl) h91 (by kernel_rfl)) rfl (fun ac A127 => ?_)
                refine s_one (.bool (decide ((nthU nm k : Int) > 57))) A127 S82 (g_pick_t (b := (!(bif decide ((nthU nm k : Int) ≥ 97) then (decide ((nthU nm k : Int) ≤ 122)) || ((decide ((nthU nm k : Int) ≥ 65)) && (decide ((nthU nm k : Int) ≤ 90))) else (decide ((nthU nm k : Int) ≥ 65)) && (decide ((nthU nm k : Int) ≤ 90))))) (by kernel_rfl) h86 (by kernel_rfl)) rfl (fun ac A128 => ?_)
                refine wpList_nil ?_
                refine n_then ?_
                exact ⟨(A128.slot (A128.slot (A128.slot (A128.slot (A128.slot (A128.slot (A128.slot (A128.slot (A128.slot (A128.slot (A128.slot (A128.slot (A128.slot A128.nil (v := .bool (bif decide ((nthU nm k : Int) ≥ 97) then (decide ((nthU nm k : Int) ≤ 122)) || ((decide ((nthU nm k : Int) ≥ 65)) && (decide ((nthU nm k : Int) ≤ 90))) else (decide ((nthU nm k : Int) ≥ 65)) && (decide ((nthU nm k : Int) ≤ 90)))) (by kernel_rfl) rfl) (v := .int .u8 (nthU nm k : Int)) (by kernel_rfl) rfl) (v := .int .i64 (k : Int)) (by kernel_rfl) rfl) (v := .int .u8 (nthU nm k : Int)) (by kernel_rfl) rfl) (v := .pointer (some (ad4.add k))) (by kernel_rfl) rfl) (v := .int .i64 (k : Int)) (by kernel_rfl) rfl) (v := .bool (decide ((k : Int) < (nm.length : Int)))) (by kernel_rfl) rfl) (v := .int .i64 (k : Int)) (by kernel_rfl) rfl) (v := .int .i64 (nm.length : Int)) (by kernel_rfl) rfl) (v := .slice (some ad4) nm.length cap5) (by kernel_rfl) rfl) (v := .string ⟨nm.toArray⟩) (by kernel_rfl) rfl) (v := .string ⟨nm.toArray⟩) (by kernel_rfl) rfl) (v := .bool (decide ((nthU nm k : Int) > 57))) (by kernel_rfl) (congrArg Value.bool (b_and_t h86 (b_or_f h91 (b_and_t h109 (b_or_f h114 (Eq.refl (decide ((nthU nm k : Int) > 57))))))).symm)), S82.sub sub_all sub_all⟩
            · have p129 := of_decide_eq_false h109
              refine s_not (dj := 36) (b := (decide ((nthU nm k : Int) ≠ 45))) A108 (by kernel_rfl) (by kernel_rfl) h109 rfl (fun ac A130 => ?_)
              refine s_not (dj := 36) (b := (decide ((nthU nm k : Int) ≠ 45))) A130 (by kernel_rfl) (by kernel_rfl) h109 rfl (fun ac A131 => ?_)
              refine s_not (dj := 36) (b := (decide ((nthU nm k : Int) ≠ 45))) A131 (by kernel_rfl) (by kernel_rfl) h109 rfl (fun ac A132 => ?_)
              refine s_notU (dj := 39) A132 (by kernel_rfl) (by kernel_rfl) rfl (fun ac A133 => ?_)
              refine s_notU (dj := 39) A133 (by kernel_rfl) (by kernel_rfl) rfl (fun ac A134 => ?_)
              refine s_not (dj := 36) (b := (decide ((nthU nm k : Int) ≠ 45))) A134 (by kernel_rfl) (by kernel_rfl) h109 rfl (fun ac A135 => ?_)
              refine s_want (dj := 33) (b := (decide ((k : Int) = 0))) A135 (by kernel_rfl) (by kernel_rfl) h91 ?_
              refine s_one (.bool false) A135 S82 (g_pick_f (b := (decide ((nthU nm k : Int) ≠ 45))) (by kernel_rfl) h109 (by kernel_rfl)) rfl (fun ac A136 => ?_)
              refine s_want (dj := 30) (b := (!(bif decide ((nthU nm k : Int) ≥ 97) then (decide ((nthU nm k : Int) ≤ 122)) || ((decide ((nthU nm k : Int) ≥ 65)) && (decide ((nthU nm k : Int) ≤ 90))) else (decide ((nthU nm k : Int) ≥ 65)) && (decide ((nthU nm k : Int) ≤ 90))))) A136 (by kernel_rfl) (by kernel_rfl) h86 ?_
              refine s_one (.bool false) A136 S82 (g_pick_f (b := (decide ((k : Int) = 0))) (by kernel_rfl) h91 (by kernel_rfl)) rfl (fun ac A137 => ?_)
              refine s_one (.bool false) A137 S82 (g_pick_t (b := (!(bif decide ((nthU nm k : Int) ≥ 97) then (decide ((nthU nm k : Int) ≤ 122)) || ((decide ((nthU nm k : Int) ≥ 65)) && (decide ((nthU nm k : Int) ≤ 90))) else (decide ((nthU nm k : Int) ≥ 65)) && (decide ((nthU nm k : Int) ≤ 90))))) (by kernel_rfl) h86 (by kernel_rfl)) rfl (fun ac A138 => ?_)
              refine wpList_nil ?_
              refine n_then ?_
              exact ⟨(A138.slot (A138.slot (A138.slot (A138.slot (A138.slot (A138.slot (A138.slot (A138.slot (A138.slot (A138.slot (A138.slot (A138.slot (A138.slot A138.nil (v := .bool (bif decide ((nthU nm k : Int) ≥ 97) then (decide ((nthU nm k : Int) ≤ 122)) || ((decide ((nthU nm k : Int) ≥ 65)) && (decide ((nthU nm k : Int) ≤ 90))) else (decide ((nthU nm k : Int) ≥ 65)) && (decide ((nthU nm k : Int) ≤ 90)))) (by kernel_rfl) rfl) (v := .int .u8 (nthU nm k : Int)) (by kernel_rfl) rfl) (v := .int .i64 (k : Int)) (by kernel_rfl) rfl) (v := .int .u8 (nthU nm k : Int)) (by kernel_rfl) rfl) (v := .pointer (some (ad4.add k))) (by kernel_rfl) rfl) (v := .int .i64 (k : Int)) (by kernel_rfl) rfl) (v := .bool (decide ((k : Int) < (nm.length : Int)))) (by kernel_rfl) rfl) (v := .int .i64 (k : Int)) (by kernel_rfl) rfl) (v := .int .i64 (nm.length : Int)) (by kernel_rfl) rfl) (v := .slice (some ad4) nm.length cap5) (by kernel_rfl) rfl) (v := .string ⟨nm.toArray⟩) (by kernel_rfl) rfl) (v := .string ⟨nm.toArray⟩) (by kernel_rfl) rfl) (v := .bool false) (by kernel_rfl) (congrArg Value.bool (b_af2 (b_of h91 (b_af1 h109))).symm)), S82.sub sub_all sub_all⟩
        · have h139 : (bif decide ((nthU nm k : Int) ≥ 97) then (decide ((nthU nm k : Int) ≤ 122)) || ((decide ((nthU nm k : Int) ≥ 65)) && (decide ((nthU nm k : Int) ≤ 90))) else (decide ((nthU nm k : Int) ≥ 65)) && (decide ((nthU nm k : Int) ≤ 90))) = true := Eq.mp (Bool.not_eq_false' _) h86
          refine s_not (dj := 30) (b := (!(bif decide ((nthU nm k : Int) ≥ 97) then (decide ((nthU nm k : Int) ≤ 122)) || ((decide ((nthU nm k : Int) ≥ 65)) && (decide ((nthU nm k : Int) ≤ 90))) else (decide ((nthU nm k : Int) ≥ 65)) && (decide ((nthU nm k : Int) ≤ 90))))) A85 (by kernel_rfl) (by kernel_rfl) h86 rfl (fun ac A140 => ?_)
          refine s_not (dj := 30) (b := (!(bif decide ((nthU nm k : Int) ≥ 97) then (decide ((nthU nm k : Int) ≤ 122)) || ((decide ((nthU nm k : Int) ≥ 65)) && (decide ((nthU nm k : Int) ≤ 90))) else (decide ((nthU nm k : Int) ≥ 65)) && (decide ((nthU nm k : Int) ≤ 90))))) A140 (by kernel_rfl) (by kernel_rfl) h86 rfl (fun ac A141 => ?_)
          refine s_not (dj := 30) (b := (!(bif decide ((nthU nm k : Int) ≥ 97) then (decide ((nthU nm k : Int) ≤ 122)) || ((decide ((nthU nm k : Int) ≥ 65)) && (decide ((nthU nm k : Int) ≤ 90))) else (decide ((nthU nm k : Int) ≥ 65)) && (decide ((nthU nm k : Int) ≤ 90))))) A141 (by kernel_rfl) (by kernel_rfl) h86 rfl (fun ac A142 => ?_)
          refine s_notU (dj := 33) A142 (by kernel_rfl) (by kernel_rfl) rfl (fun ac A143 => ?_)
          refine s_notU (dj := 33) A143 (by kernel_rfl) (by kernel_rfl) rfl (fun ac A144 => ?_)
          refine s_notU (dj := 33) A144 (by kernel_rfl) (by kernel_rfl) rfl (fun ac A145 => ?_)
          refine s_notU (dj := 36) A145 (by kernel_rfl) (by kernel_rfl) rfl (fun ac A146 => ?_)
          refine s_notU (dj := 36) A146 (by kernel_rfl) (by kernel_rfl) rfl (fun ac A147 => ?_)
          refine s_notU (dj := 36) A147 (by kernel_rfl) (by kernel_rfl) rfl (fun ac A148 => ?_)
          refine s_notU (dj := 39) A148 (by kernel_rfl) (by kernel_rfl) rfl (fun ac A149 => ?_)
          refine s_notU (dj := 39) A149 (by kernel_rfl) (by kernel_rfl) rfl (fun ac A150 => ?_)
          refine s_notU (dj := 36) A150 (by kernel_rfl) (by kernel_rfl) rfl (fun ac A151 => ?_)
          refine s_notU (dj := 33) A151 (by kernel_rfl) (by kernel_rfl) rfl (fun ac A152 => ?_)
          refine s_not (dj := 30) (b := (!(bif decide ((nthU nm k : Int) ≥ 97) then (decide ((nthU nm k : Int) ≤ 122)) || ((decide ((nthU nm k : Int) ≥ 65)) && (decide ((nthU nm k : Int) ≤ 90))) else (decide ((nthU nm k : Int) ≥ 65)) && (decide ((nthU nm k : Int) ≤ 90))))) A152 (by kernel_rfl) (by kernel_rfl) h86 rfl (fun ac A153 => ?_)
          refine s_one (.bool false) A153 S82 (g_pick_f (b := (!(bif decide ((nthU nm k : Int) ≥ 97) then (decide ((nthU nm k : Int) ≤ 122)) || ((decide ((nthU nm k : Int) ≥ 65)) && (decide ((nthU nm k : Int) ≤ 90))) else (decide ((nthU nm k : Int) ≥ 65)) && (decide ((nthU nm k : Int) ≤ 90))))) (by kernel_rfl) h86 (by kernel_rfl)) rfl (fun ac A154 => ?_)
          refine wpList_nil ?_
          refine n_then ?_
          exact ⟨(A154.slot (A154.slot (A154.slot (A154.slot (A154.slot (A154.slot (A154.slot (A154.slot (A154.slot (A154.slot (A154.slot (A154.slot (A154.slot A154.nil (v := .bool (bif decide ((nthU nm k : Int) ≥ 97) then (decide ((nthU nm k : Int) ≤ 122)) || ((decide ((nthU nm k : Int) ≥ 65)) && (decide ((nthU nm k : Int) ≤ 90))) else (decide ((nthU nm k : Int) ≥ 65)) && (decide ((nthU nm k : Int) ≤ 90)))) (by kernel_rfl) rfl) (v := .int .u8 (nthU nm k : Int)) (by kernel_rfl) rfl) (v := .int .i64 (k : Int)) (by kernel_rfl) rfl) (v := .int .u8 (nthU nm k : Int)) (by kernel_rfl) rfl) (v := .pointer (some (ad4.add k))) (by kernel_rfl) rfl) (v := .int .i64 (k : Int)) (by kernel_rfl) rfl) (v := .bool (decide ((k : Int) < (nm.length : Int)))) (by kernel_rfl) rfl) (v := .int .i64 (k : Int)) (by kernel_rfl) rfl) (v := .int .i64 (nm.length : Int)) (by kernel_rfl) rfl) (v := .slice (some ad4) nm.length cap5) (by kernel_rfl) rfl) (v := .string ⟨nm.toArray⟩) (by kernel_rfl) rfl) (v := .string ⟨nm.toArray⟩) (by kernel_rfl) rfl) (v := .bool false) (by kernel_rfl) (congrArg Value.bool (b_af1 h86).symm)), S82.sub sub_all sub_all⟩
      · rintro ac wc ⟨A155, S156⟩
        refine n_then ?_
        refine c_ifb (b := ((!(bif decide ((nthU nm k : Int) ≥ 97) then (decide ((nthU nm k : Int) ≤ 122)) || ((decide ((nthU nm k : Int) ≥ 65)) && (decide ((nthU nm k : Int) ≤ 90))) else (decide ((nthU nm k : Int) ≥ 65)) && (decide ((nthU nm k : Int) ≤ 90)))) && ((decide ((k : Int) = 0)) || ((decide ((nthU nm k : Int) ≠ 45)) && ((decide ((nthU nm k : Int) < 48)) || (decide ((nthU nm k : Int) > 57))))))) A155 (by kernel_rfl) (fun h157 => ?_) (fun h157 => ?_)
        · have h158 := (Bool.and_eq_true_iff.1 h157).1
          have h159 : (bif decide ((nthU nm k : Int) ≥ 97) then (decide ((nthU nm k : Int) ≤ 122)) || ((decide ((nthU nm k : Int) ≥ 65)) && (decide ((nthU nm k : Int) ≤ 90))) else (decide ((nthU nm k : Int) ≥ 65)) && (decide ((nthU nm k : Int) ≤ 90))) = false := Eq.mp (Bool.not_eq_true' _) h158
          have h160 := (Bool.and_eq_true_iff.1 h157).2
          refine wp_seq ?_
          refine wp_region_lit ?_
          refine s_one (.bool false) A155 S156 (g_assign (by kernel_rfl)) rfl (fun ac A161 => ?_)
          refine wpList_nil ?_
          refine n_then ?_
          refine wp_ret ?_
          refine r_block ?_
          refine r_then ?_
          refine r_then ?_
          refine r_block ?_
          refine r_then ?_
          refine fin1 (.bool false) Try.results44 A161 S156 (rv_tmp (by kernel_rfl)) ⟨?_, S156.kp⟩
          rw [name_n2 (k := k) (by omega) h157]
        · refine wp_skip ?_
          refine n_block ?_
          refine n_then ?_
          refine wp_region_lit ?_
          refine s_one (.int .i64 ((k : Int) + 1)) A155 S156 (g_bin (u := .int .i64 (k : Int)) (k := .int .i64 1) (by kernel_rfl) (by kernel_rfl) (fun _ => by kernel_rfl) (b_add (by omega))) rfl (fun ac A162 => ?_)
          refine s_one (.int .i64 ((k : Int) + 1)) A162 S156 (g_move (by kernel_rfl)) rfl (fun ac A163 => ?_)
          refine wpList_nil ?_
          refine n_then ?_
          refine ⟨_, ⟨k + 1, rfl, by omega, bad_snoc hg h157, (A163.slot (A163.slot (A163.slot (A163.slot (A163.slot A163.nil (v := .int .i64 ((k : Int) + 1)) (by kernel_rfl) (congrArg (Value.int .i64) (by omega))) (v := .int .i64 (nm.length : Int)) (by kernel_rfl) rfl) (v := .slice (some ad4) nm.length cap5) (by kernel_rfl) rfl) (v := .string ⟨nm.toArray⟩) (by kernel_rfl) rfl) (v := .string ⟨nm.toArray⟩) (by kernel_rfl) rfl), S156.sub sub_all sub_all⟩, ?_⟩
          omega
  · have p164 := of_decide_eq_false h17
    refine wp_exit ?_
    refine x_then ?_
    refine x_then ?_
    refine x_hit ?_
    refine n_then ?_
    refine wp_seq ?_
    refine c_cut (fun ac wc => Fr 54 ac [(2, .bool ((decide (nm ≠ ([] : List UInt8))) && (decide ((nm.length : Int) ≤ 12)))), (0, .string ⟨nm.toArray⟩), (6, .string ⟨nm.toArray⟩), (7, .slice (some ad4) nm.length cap5), (8, .int .i64 (nm.length : Int)), (9, .int .i64 (k : Int)), (10, .bool (decide ((k : Int) < (nm.length : Int))))] ∧ St ⟨w0, wz3⟩ [] [] wc) ?_ ?_
    · refine wp_region_lit ?_
      refine s_one (.string ⟨nm.toArray⟩) A16 S14 (g_move (by kernel_rfl)) rfl (fun ac A165 => ?_)
      refine s_one (.bool (decide (nm ≠ ([] : List UInt8)))) A165 S14 (g_bin (u := .string ⟨nm.toArray⟩) (k := .string ⟨([] : List UInt8).toArray⟩) (by kernel_rfl) (by kernel_rfl) (fun _ => by kernel_rfl) (q_strN (l := nm) (m := ([] : List UInt8)))) rfl (fun ac A166 => ?_)
      refine s_one (.bool (decide (nm ≠ ([] : List UInt8)))) A166 S14 (g_move (by kernel_rfl)) rfl (fun ac A167 => ?_)
      refine by_bool (decide (nm ≠ ([] : List UInt8))) (fun h168 => ?_) (fun h168 => ?_)
      · have p169 := of_decide_eq_true h168
        refine s_want (dj := 49) (b := (decide (nm ≠ ([] : List UInt8)))) A167 (by kernel_rfl) (by kernel_rfl) h168 ?_
        refine s_one (.string ⟨nm.toArray⟩) A167 S14 (g_move (by kernel_rfl)) rfl (fun ac A170 => ?_)
        refine s_want (dj := 49) (b := (decide (nm ≠ ([] : List UInt8)))) A170 (by kernel_rfl) (by kernel_rfl) h168 ?_
        refine s_one (.int .i64 (nm.length : Int)) A170 S14 (g_built (r := [(0, .string ⟨nm.toArray⟩)]) (by kernel_rfl) (fun ty cs w => bl_str (l := nm) Try.underlying9 ty cs w)) rfl (fun ac A171 => ?_)
        refine s_want (dj := 49) (b := (decide (nm ≠ ([] : List UInt8)))) A171 (by kernel_rfl) (by kernel_rfl) h168 ?_
        refine s_one (.bool (decide ((nm.length : Int) ≤ 12))) A171 S14 (g_bin (u := .int .i64 (nm.length : Int)) (k := .int .i64 12) (by kernel_rfl) (by kernel_rfl) (fun _ => by kernel_rfl) (fun _ => by kernel_rfl)) rfl (fun ac A172 => ?_)
        refine s_one (.bool (decide ((nm.length : Int) ≤ 12))) A172 S14 (g_pick_t (b := (decide (nm ≠ ([] : List UInt8)))) (by kernel_rfl) h168 (by kernel_rfl)) rfl (fun ac A173 => ?_)
        refine s_one (.bool (decide ((nm.length : Int) ≤ 12))) A173 S14 (g_assign (by kernel_rfl)) rfl (fun ac A174 => ?_)
        refine wpList_nil ?_
        refine n_then ?_
        exact ⟨(A174.slot (A174.slot (A174.slot (A174.slot (A174.slot (A174.slot (A174.slot A174.nil (v := .bool (decide ((k : Int) < (nm.length : Int)))) (by kernel_rfl) rfl) (v := .int .i64 (k : Int)) (by kernel_rfl) rfl) (v := .int .i64 (nm.length : Int)) (by kernel_rfl) rfl) (v := .slice (some ad4) nm.length cap5) (by kernel_rfl) rfl) (v := .string ⟨nm.toArray⟩) (by kernel_rfl) rfl) (v := .string ⟨nm.toArray⟩) (by kernel_rfl) rfl) (v := .bool (decide ((nm.length : Int) ≤ 12))) (by kernel_rfl) (congrArg Value.bool (b_and_t h168 (Eq.refl (decide ((nm.length : Int) ≤ 12)))).symm)), S14.sub sub_all sub_all⟩
      · have p175 := of_decide_eq_false h168
        refine s_not (dj := 49) (b := (decide (nm ≠ ([] : List UInt8)))) A167 (by kernel_rfl) (by kernel_rfl) h168 rfl (fun ac A176 => ?_)
        refine s_not (dj := 49) (b := (decide (nm ≠ ([] : List UInt8)))) A176 (by kernel_rfl) (by kernel_rfl) h168 rfl (fun ac A177 => ?_)
        refine s_not (dj := 49) (b := (decide (nm ≠ ([] : List UInt8)))) A177 (by kernel_rfl) (by kernel_rfl) h168 rfl (fun ac A178 => ?_)
        refine s_one (.bool false) A178 S14 (g_pick_f (b := (decide (nm ≠ ([] : List UInt8)))) (by kernel_rfl) h168 (by kernel_rfl)) rfl (fun ac A179 => ?_)
        refine s_one (.bool false) A179 S14 (g_assign (by kernel_rfl)) rfl (fun ac A180 => ?_)
        refine wpList_nil ?_
        refine n_then ?_
        exact ⟨(A180.slot (A180.slot (A180.slot (A180.slot (A180.slot (A180.slot (A180.slot A180.nil (v := .bool (decide ((k : Int) < (nm.length : Int)))) (by kernel_rfl) rfl) (v := .int .i64 (k : Int)) (by kernel_rfl) rfl) (v := .int .i64 (nm.length : Int)) (by kernel_rfl) rfl) (v := .slice (some ad4) nm.length cap5) (by kernel_rfl) rfl) (v := .string ⟨nm.toArray⟩) (by kernel_rfl) rfl) (v := .string ⟨nm.toArray⟩) (by kernel_rfl) rfl) (v := .bool false) (by kernel_rfl) (congrArg Value.bool (b_af1 h168).symm)), S14.sub sub_all sub_all⟩
    · rintro ac wc ⟨A181, S182⟩
      refine n_then ?_
      refine wp_ret ?_
      refine fin1 (.bool ((decide (nm ≠ ([] : List UInt8))) && (decide ((nm.length : Int) ≤ 12)))) Try.results44 A181 S182 (rv_tmp (by kernel_rfl)) ⟨?_, S182.kp⟩
      obtain rfl : k = nm.length := by omega
      rw [name_y hg]
      rw [name_end]

end Go.Proofs.Ytnbimpkihpaldaa
