/- Elements of matrices. -/
import Derived.Test.YtcijkniijomcjaaMx11
import Derived.Test.YtcijkniijomcjaaEq
import Derived.Laws.Cover1
namespace Go.Proofs.Ytcijkniijomcjaa
open Go.RowKit Go.Cpl

/-- A list of pairs, flat. -/
def flP (ps : List (Nat × Nat)) : List Int := ps.flatMap fun p => [(p.1 : Int), (p.2 : Int)]
theorem flP_length (ps : List (Nat × Nat)) : (flP ps).length = ps.length * 2 := by
  induction ps with
  | nil => rfl
  | cons p ps ih => simp only [flP, List.flatMap_cons, List.length_append, List.length_cons, List.length_nil] at ih ⊢; omega
theorem flP_snoc (ps : List (Nat × Nat)) (f r : Nat) : rowI (flP ps) ++ [.int .i64 (f : Int), .int .i64 (r : Int)] = rowI (flP (ps ++ [(f, r)])) := by simp [flP, rowI]
/-- The pairs that a test takes. -/
theorem sel_y {B : Nat × Nat → Bool} {ps : List (Nat × Nat)} {f r : Nat} (h : B (f, r) = true) : (ps ++ [(f, r)]).filter B = ps.filter B ++ [(f, r)] := by rw [List.filter_append]; simp [h]
theorem sel_n {B : Nat × Nat → Bool} {ps : List (Nat × Nat)} {f r : Nat} (h : B (f, r) = false) : (ps ++ [(f, r)]).filter B = ps.filter B := by rw [List.filter_append]; simp [h]
theorem sel_len {B : Nat × Nat → Bool} (ps : List (Nat × Nat)) : (ps.filter B).length ≤ ps.length := List.length_filter_le _ _
def satB (l : List Int) (n : Nat) (p : Nat × Nat) : Bool := decide (gr l ((p.1 * n + p.2) * 64) 64 = 2047)
theorem pre_len {n : Nat} {pre rest : List (Nat × Nat)} {x : Nat × Nat} (h : pairsOf n = pre ++ x :: rest) : pre.length < n * n := by
  obtain ⟨h1, h2, h3⟩ := pairs_next h
  rw [h3]; exact pair_lt h1 h2
theorem run_max_mx3 (P : Program) (w : World) (ts : Array TypeId) (t : TypeId) (k k' k'' : IntKind) (x y z : Int) : (Builtin.max_ ts t #[.int k x, .int k' y, .int k'' z]).run P w = .ok (.int k (mx (mx x y) z)) w := run_max_int3 w ts t k k' k'' x y z
theorem pairE_nat {n f r : Nat} (hn : n ≤ 16) (hf : f < n) (hr : r < n) : pairE (n : Int) (f : Int) (r : Int) = 0 := by
  have e : el1 (n : Int) = (n : Int) - 1 := if_neg (by omega)
  exact pairE_y (by rw [e]; exact inB_true.2 ⟨by omega, by omega⟩) (by rw [e]; exact inB_true.2 ⟨by omega, by omega⟩)
theorem gr_cut {l : List Int} {i : Nat} : ∀ {k : Nat}, k ≤ 64 → gr (cutN l i 64) 0 k = gr l i k := by
  intro k
  induction k with
  | zero => intro _; rfl
  | succ k ih =>
    intro hk
    unfold gr
    rw [ih (by omega), cutN_nth (by omega), Nat.zero_add]
/-- The ints of the trace of a pair. -/
theorem nums_pair {xs : List Nat} {n f r : Nat} (hR : Right xs) (h : (f * n + r) * 64 + 64 ≤ xs.length) : nums (mkT (nums (cutF xs (toI (n : Int) (f : Int) (r : Int)) 64)) 64) = cutN (mi xs) ((f * n + r) * 64) 64 := by
  rw [toI_nat, nums_cut h, nums_mi (xs := mkT (cutN (mi xs) ((f * n + r) * 64) 64) 64) (done_length _ _ _ _), mkT_fw (cutN_length _ _ _), num_fw (cutN_range (mi_range hR) _ _)]

set_option maxRecDepth 100000 in
set_option maxHeartbeats 400000 in
theorem pairs_s (l : List Int) (C D : Option Addr) (c d m : Nat) (w0 : World) (hl : l.length = m * 2) (hm : m ≤ 100000) (hC : IReads w0 C l) (hD : IReads w0 D l) :
    Calls Try.prog 37 #[.slice C m c, .slice D m d] w0 fun e w' => e = .returned (.bool true) ∧ Below w0.heap.size w0 w' := by
  have S0 := St.start w0
  refine enter (n := 26) Try.func37 rfl rfl rfl (fun ac A0 => ?_)
  refine wp_seq ?_
  refine wp_region_lit ?_
  refine s_one (.bool false) A0 S0 (g_assign (by kernel_rfl)) rfl (fun ac A1 => ?_)
  refine wpList_nil ?_
  refine n_then ?_
  refine wp_seq ?_
  refine wp_seq ?_
  refine wp_region_lit ?_
  refine s_one (.slice C m c) A1 S0 (g_move (by kernel_rfl)) rfl (fun ac A2 => ?_)
  refine s_one (.int .i64 (m : Int)) A2 S0 (g_built (r := [(0, .slice C m c)]) (by kernel_rfl) (fun _ _ _ => by kernel_rfl)) rfl (fun ac A3 => ?_)
  refine s_one (.slice D m d) A3 S0 (g_move (by kernel_rfl)) rfl (fun ac A4 => ?_)
  refine s_one (.int .i64 (m : Int)) A4 S0 (g_built (r := [(0, .slice D m d)]) (by kernel_rfl) (fun _ _ _ => by kernel_rfl)) rfl (fun ac A5 => ?_)
  refine s_one (.bool (decide ((m : Int) ≠ (m : Int)))) A5 S0 (g_bin (u := .int .i64 (m : Int)) (k := .int .i64 (m : Int)) (by kernel_rfl) (by kernel_rfl) (fun _ => by kernel_rfl) b_neq) rfl (fun ac A6 => ?_)
  refine wpList_nil ?_
  refine n_then ?_
  refine c_f (b := (decide ((m : Int) ≠ (m : Int)))) A6 (by kernel_rfl) (decide_eq_false (fun h => h rfl)) ?_
  refine wp_skip ?_
  refine n_then ?_
  refine wp_seq ?_
  refine wp_seq ?_
  refine wp_region_lit ?_
  refine s_one (.int .i64 0) A6 S0 (g_assign (by kernel_rfl)) rfl (fun ac A7 => ?_)
  refine wpList_nil ?_
  refine n_then ?_
  refine wp_block ?_
  refine c_loopN (fun mm ac wc => ∃ (k : Nat), mm = m - k ∧ (k ≤ m) ∧ Fr 26 ac [(0, .slice C m c), (1, .slice D m d), (6, .slice C m c), (7, .int .i64 (m : Int)), (8, .slice D m d), (9, .int .i64 (m : Int)), (10, .bool (decide ((m : Int) ≠ (m : Int)))), (5, .int .i64 (k : Int))] ∧ St w0 [] [] wc) _ ⟨0, rfl, by omega, (A7.slot (A7.slot (A7.slot (A7.slot (A7.slot (A7.slot (A7.slot (A7.slot A7.nil (v := .int .i64 0) (by kernel_rfl) (congrArg (Value.int .i64) (by omega))) (v := .bool (decide ((m : Int) ≠ (m : Int)))) (by kernel_rfl) rfl) (v := .int .i64 (m : Int)) (by kernel_rfl) rfl) (v := .slice D m d) (by kernel_rfl) rfl) (v := .int .i64 (m : Int)) (by kernel_rfl) rfl) (v := .slice C m c) (by kernel_rfl) rfl) (v := .slice D m d) (by kernel_rfl) rfl) (v := .slice C m c) (by kernel_rfl) rfl), S0.sub sub_all sub_all⟩ ?_
  rintro mm ac wc ⟨k, hm10, hk, A8, S9⟩
  refine wp_seq ?_
  refine wp_seq ?_
  refine wp_region_lit ?_
  refine s_one (.int .i64 (k : Int)) A8 S9 (g_move (by kernel_rfl)) rfl (fun ac A11 => ?_)
  refine s_one (.slice C m c) A11 S9 (g_move (by kernel_rfl)) rfl (fun ac A12 => ?_)
  refine s_one (.int .i64 (m : Int)) A12 S9 (g_built (r := [(0, .slice C m c)]) (by kernel_rfl) (fun _ _ _ => by kernel_rfl)) rfl (fun ac A13 => ?_)
  refine s_one (.bool (decide ((k : Int) < (m : Int)))) A13 S9 (g_bin (u := .int .i64 (k : Int)) (k := .int .i64 (m : Int)) (by kernel_rfl) (by kernel_rfl) (fun _ => by kernel_rfl) (fun _ => by kernel_rfl)) rfl (fun ac A14 => ?_)
  refine wpList_nil ?_
  refine n_then ?_
  refine c_ifb (b := (decide ((k : Int) < (m : Int)))) A14 (by kernel_rfl) (fun h15 => ?_) (fun h15 => ?_)
  · have p16 := of_decide_eq_true h15
    refine wp_skip ?_
    refine n_then ?_
    refine wp_seq ?_
    refine wp_block ?_
    refine wp_seq ?_
    refine r_begin (w0 := w0) (by kernel_rfl) (S9.sub sub_all sub_all) (fun wc T17 B18 => ?_)
    have S19 := S9.kept B18
    refine r_take 0 (.slice C m c) A14 T17 (g_move (by kernel_rfl)) rfl rfl rfl (pf_then (pf_block (pf_then (pf_then (pf_block (pf_then pf_body)))))) (by kernel_rfl) (fun ac A20 => ?_)
    refine r_take 1 (.int .i64 (k : Int)) A20 T17 (g_move (by kernel_rfl)) rfl rfl rfl (pf_then (pf_block (pf_then (pf_then (pf_block (pf_then pf_body)))))) (by kernel_rfl) (fun ac A21 => ?_)
    obtain ⟨ad22, rfl, _⟩ := hC (k * 2) (by have hlen := hl; omega)
    refine r_take 2 (.pointer (some (ad22.add (k * 2)))) A21 T17 (g_index (u := .slice (some ad22) m c) (k := .int .i64 (k : Int)) (by kernel_rfl) (by kernel_rfl) (ix_xs (e := 26) (bytes := 16) k (by kernel_rfl) (by omega) (by omega))) rfl rfl rfl (pf_then (pf_block (pf_then (pf_then (pf_block (pf_then pf_body)))))) (by kernel_rfl) (fun ac A23 => ?_)
    refine r_take 3 (.agg #[.int .i64 (nthI l (k * 2)), .int .i64 (nthI l (k * 2 + 1))]) A23 T17 (g_loadXS (l := l) (k := k * 2) 2 (by kernel_rfl) hC (by have hlen := hl; omega) (by kernel_rfl) (by kernel_rfl)) rfl rfl rfl (pf_then (pf_block (pf_then (pf_then (pf_block (pf_then pf_body)))))) (by kernel_rfl) (fun ac A24 => ?_)
    refine r_take 4 (.slice D m d) A24 T17 (g_move (by kernel_rfl)) rfl rfl rfl (pf_then (pf_block (pf_then (pf_then (pf_block (pf_then pf_body)))))) (by kernel_rfl) (fun ac A25 => ?_)
    refine r_take 5 (.int .i64 (k : Int)) A25 T17 (g_move (by kernel_rfl)) rfl rfl rfl (pf_then (pf_block (pf_then (pf_then (pf_block (pf_then pf_body)))))) (by kernel_rfl) (fun ac A26 => ?_)
    obtain ⟨ad27, rfl, _⟩ := hD (k * 2) (by have hlen := hl; omega)
    refine r_take 6 (.pointer (some (ad27.add (k * 2)))) A26 T17 (g_index (u := .slice (some ad27) m d) (k := .int .i64 (k : Int)) (by kernel_rfl) (by kernel_rfl) (ix_xs (e := 26) (bytes := 16) k (by kernel_rfl) (by omega) (by omega))) rfl rfl rfl (pf_then (pf_block (pf_then (pf_then (pf_block (pf_then pf_body)))))) (by kernel_rfl) (fun ac A28 => ?_)
    refine r_take 7 (.agg #[.int .i64 (nthI l (k * 2)), .int .i64 (nthI l (k * 2 + 1))]) A28 T17 (g_loadXS (l := l) (k := k * 2) 2 (by kernel_rfl) hD (by have hlen := hl; omega) (by kernel_rfl) (by kernel_rfl)) rfl rfl rfl (pf_then (pf_block (pf_then (pf_then (pf_block (pf_then pf_body)))))) (by kernel_rfl) (fun ac A29 => ?_)
    refine r_take 8 (.bool (decide ([nthI l (k * 2), nthI l (k * 2 + 1)] ≠ [nthI l (k * 2), nthI l (k * 2 + 1)]))) A29 T17 (g_bin (u := .agg #[.int .i64 (nthI l (k * 2)), .int .i64 (nthI l (k * 2 + 1))]) (k := .agg #[.int .i64 (nthI l (k * 2)), .int .i64 (nthI l (k * 2 + 1))]) (by kernel_rfl) (by kernel_rfl) (fun _ => by kernel_rfl) (q_arrayN (n := 2) [nthI l (k * 2), nthI l (k * 2 + 1)] [nthI l (k * 2), nthI l (k * 2 + 1)] (by kernel_rfl) rfl rfl)) rfl rfl rfl (pf_then (pf_block (pf_then (pf_then (pf_block (pf_then pf_body)))))) (by kernel_rfl) (fun ac A30 => ?_)
    refine r_done (by kernel_rfl) ?_
    refine n_then ?_
    refine c_f (b := (decide ([nthI l (k * 2), nthI l (k * 2 + 1)] ≠ [nthI l (k * 2), nthI l (k * 2 + 1)]))) A30 (by kernel_rfl) (decide_eq_false (fun h => h rfl)) ?_
    refine wp_skip ?_
    refine n_block ?_
    refine n_then ?_
    refine wp_region_lit ?_
    refine s_one (.int .i64 (k : Int)) A30 S19 (g_move (by kernel_rfl)) rfl (fun ac A31 => ?_)
    refine s_one (.int .i64 ((k : Int) + 1)) A31 S19 (g_bin (u := .int .i64 (k : Int)) (k := .int .i64 1) (by kernel_rfl) (by kernel_rfl) (fun _ => by kernel_rfl) (b_add (by omega))) rfl (fun ac A32 => ?_)
    refine s_one (.int .i64 ((k : Int) + 1)) A32 S19 (g_assign (by kernel_rfl)) rfl (fun ac A33 => ?_)
    refine wpList_nil ?_
    refine n_then ?_
    refine ⟨_, ⟨k + 1, rfl, by omega, (A33.slot (A33.slot (A33.slot (A33.slot (A33.slot (A33.slot (A33.slot (A33.slot A33.nil (v := .int .i64 ((k : Int) + 1)) (by kernel_rfl) (congrArg (Value.int .i64) (by omega))) (v := .bool (decide ((m : Int) ≠ (m : Int)))) (by kernel_rfl) rfl) (v := .int .i64 (m : Int)) (by kernel_rfl) rfl) (v := .slice (some ad27) m d) (by kernel_rfl) (by first | rfl | simp)) (v := .int .i64 (m : Int)) (by kernel_rfl) rfl) (v := .slice (some ad22) m c) (by kernel_rfl) (by first | rfl | simp)) (v := .slice (some ad27) m d) (by kernel_rfl) (by first | rfl | simp)) (v := .slice (some ad22) m c) (by kernel_rfl) (by first | rfl | simp)), S19.sub sub_all sub_all⟩, ?_⟩
    omega
  · have p34 := of_decide_eq_false h15
    refine wp_exit ?_
    refine x_then ?_
    refine x_then ?_
    refine x_hit ?_
    refine n_then ?_
    refine wp_seq ?_
    refine wp_region_lit ?_
    refine s_one (.bool true) A14 S9 (g_assign (by kernel_rfl)) rfl (fun ac A35 => ?_)
    refine wpList_nil ?_
    refine n_then ?_
    refine wp_ret ?_
    refine fin1 (.bool true) Try.results37 A35 S9 (rv_tmp (by kernel_rfl)) ⟨?_, S9.kp⟩
    rfl

theorem pairs_eq (l k : List Int) (e : l = k) (C D : Option Addr) (c d m m2 : Nat) (w : World) (hl : l.length = m * 2) (hk : k.length = m2 * 2) (hm : m ≤ 100000) (hC : IReads w C l) (hD : IReads w D k) : Calls Try.prog 37 #[.slice C m c, .slice D m2 d] w fun en w' => en = .returned (.bool true) ∧ Below w.heap.size w w' := by
  subst e
  obtain rfl : m = m2 := by omega
  exact pairs_s l C D c d m w hl hm hC hD

set_option maxRecDepth 100000 in
set_option maxHeartbeats 400000 in
theorem baseInts_s (l : List Int) (C D : Option Addr) (c d m : Nat) (w0 : World) (hl : l.length = m * 1) (hm : m ≤ 100000) (hC : IReads w0 C l) (hD : IReads w0 D l) :
    Calls Try.prog 40 #[.slice C m c, .slice D m d] w0 fun e w' => e = .returned (.bool true) ∧ Below w0.heap.size w0 w' := by
  have S0 := St.start w0
  refine enter (n := 26) Try.func40 rfl rfl rfl (fun ac A0 => ?_)
  refine wp_seq ?_
  refine wp_region_lit ?_
  refine s_one (.bool false) A0 S0 (g_assign (by kernel_rfl)) rfl (fun ac A1 => ?_)
  refine wpList_nil ?_
  refine n_then ?_
  refine wp_seq ?_
  refine wp_seq ?_
  refine wp_region_lit ?_
  refine s_one (.slice C m c) A1 S0 (g_move (by kernel_rfl)) rfl (fun ac A2 => ?_)
  refine s_one (.int .i64 (m : Int)) A2 S0 (g_built (r := [(0, .slice C m c)]) (by kernel_rfl) (fun _ _ _ => by kernel_rfl)) rfl (fun ac A3 => ?_)
  refine s_one (.slice D m d) A3 S0 (g_move (by kernel_rfl)) rfl (fun ac A4 => ?_)
  refine s_one (.int .i64 (m : Int)) A4 S0 (g_built (r := [(0, .slice D m d)]) (by kernel_rfl) (fun _ _ _ => by kernel_rfl)) rfl (fun ac A5 => ?_)
  refine s_one (.bool (decide ((m : Int) ≠ (m : Int)))) A5 S0 (g_bin (u := .int .i64 (m : Int)) (k := .int .i64 (m : Int)) (by kernel_rfl) (by kernel_rfl) (fun _ => by kernel_rfl) b_neq) rfl (fun ac A6 => ?_)
  refine wpList_nil ?_
  refine n_then ?_
  refine c_f (b := (decide ((m : Int) ≠ (m : Int)))) A6 (by kernel_rfl) (decide_eq_false (fun h => h rfl)) ?_
  refine wp_skip ?_
  refine n_then ?_
  refine wp_seq ?_
  refine wp_seq ?_
  refine wp_region_lit ?_
  refine s_one (.int .i64 0) A6 S0 (g_assign (by kernel_rfl)) rfl (fun ac A7 => ?_)
  refine wpList_nil ?_
  refine n_then ?_
  refine wp_block ?_
  refine c_loopN (fun mm ac wc => ∃ (k : Nat), mm = m - k ∧ (k ≤ m) ∧ Fr 26 ac [(0, .slice C m c), (1, .slice D m d), (6, .slice C m c), (7, .int .i64 (m : Int)), (8, .slice D m d), (9, .int .i64 (m : Int)), (10, .bool (decide ((m : Int) ≠ (m : Int)))), (5, .int .i64 (k : Int))] ∧ St w0 [] [] wc) _ ⟨0, rfl, by omega, (A7.slot (A7.slot (A7.slot (A7.slot (A7.slot (A7.slot (A7.slot (A7.slot A7.nil (v := .int .i64 0) (by kernel_rfl) (congrArg (Value.int .i64) (by omega))) (v := .bool (decide ((m : Int) ≠ (m : Int)))) (by kernel_rfl) rfl) (v := .int .i64 (m : Int)) (by kernel_rfl) rfl) (v := .slice D m d) (by kernel_rfl) rfl) (v := .int .i64 (m : Int)) (by kernel_rfl) rfl) (v := .slice C m c) (by kernel_rfl) rfl) (v := .slice D m d) (by kernel_rfl) rfl) (v := .slice C m c) (by kernel_rfl) rfl), S0.sub sub_all sub_all⟩ ?_
  rintro mm ac wc ⟨k, hm10, hk, A8, S9⟩
  refine wp_seq ?_
  refine wp_seq ?_
  refine wp_region_lit ?_
  refine s_one (.int .i64 (k : Int)) A8 S9 (g_move (by kernel_rfl)) rfl (fun ac A11 => ?_)
  refine s_one (.slice C m c) A11 S9 (g_move (by kernel_rfl)) rfl (fun ac A12 => ?_)
  refine s_one (.int .i64 (m : Int)) A12 S9 (g_built (r := [(0, .slice C m c)]) (by kernel_rfl) (fun _ _ _ => by kernel_rfl)) rfl (fun ac A13 => ?_)
  refine s_one (.bool (decide ((k : Int) < (m : Int)))) A13 S9 (g_bin (u := .int .i64 (k : Int)) (k := .int .i64 (m : Int)) (by kernel_rfl) (by kernel_rfl) (fun _ => by kernel_rfl) (fun _ => by kernel_rfl)) rfl (fun ac A14 => ?_)
  refine wpList_nil ?_
  refine n_then ?_
  refine c_ifb (b := (decide ((k : Int) < (m : Int)))) A14 (by kernel_rfl) (fun h15 => ?_) (fun h15 => ?_)
  · have p16 := of_decide_eq_true h15
    refine wp_skip ?_
    refine n_then ?_
    refine wp_seq ?_
    refine wp_block ?_
    refine wp_seq ?_
    refine r_begin (w0 := w0) (by kernel_rfl) (S9.sub sub_all sub_all) (fun wc T17 B18 => ?_)
    have S19 := S9.kept B18
    refine r_take 0 (.slice C m c) A14 T17 (g_move (by kernel_rfl)) rfl rfl rfl (pf_then (pf_block (pf_then (pf_then (pf_block (pf_then pf_body)))))) (by kernel_rfl) (fun ac A20 => ?_)
    refine r_take 1 (.int .i64 (k : Int)) A20 T17 (g_move (by kernel_rfl)) rfl rfl rfl (pf_then (pf_block (pf_then (pf_then (pf_block (pf_then pf_body)))))) (by kernel_rfl) (fun ac A21 => ?_)
    obtain ⟨ad22, rfl, _⟩ := hC (k) (by have hlen := hl; omega)
    refine r_take 2 (.pointer (some (ad22.add k))) A21 T17 (g_index (u := .slice (some ad22) m c) (k := .int .i64 (k : Int)) (by kernel_rfl) (by kernel_rfl) (ix_x (e := 3) (bytes := 8) k (by kernel_rfl) (by omega) (by omega))) rfl rfl rfl (pf_then (pf_block (pf_then (pf_then (pf_block (pf_then pf_body)))))) (by kernel_rfl) (fun ac A23 => ?_)
    refine r_take 3 (.int .i64 (nthI l k)) A23 T17 (g_loadXI (l := l) (k := k) (by kernel_rfl) hC (by have hlen := hl; omega) (by kernel_rfl)) rfl rfl rfl (pf_then (pf_block (pf_then (pf_then (pf_block (pf_then pf_body)))))) (by kernel_rfl) (fun ac A24 => ?_)
    refine r_take 4 (.slice D m d) A24 T17 (g_move (by kernel_rfl)) rfl rfl rfl (pf_then (pf_block (pf_then (pf_then (pf_block (pf_then pf_body)))))) (by kernel_rfl) (fun ac A25 => ?_)
    refine r_take 5 (.int .i64 (k : Int)) A25 T17 (g_move (by kernel_rfl)) rfl rfl rfl (pf_then (pf_block (pf_then (pf_then (pf_block (pf_then pf_body)))))) (by kernel_rfl) (fun ac A26 => ?_)
    obtain ⟨ad27, rfl, _⟩ := hD (k) (by have hlen := hl; omega)
    refine r_take 6 (.pointer (some (ad27.add k))) A26 T17 (g_index (u := .slice (some ad27) m d) (k := .int .i64 (k : Int)) (by kernel_rfl) (by kernel_rfl) (ix_x (e := 3) (bytes := 8) k (by kernel_rfl) (by omega) (by omega))) rfl rfl rfl (pf_then (pf_block (pf_then (pf_then (pf_block (pf_then pf_body)))))) (by kernel_rfl) (fun ac A28 => ?_)
    refine r_take 7 (.int .i64 (nthI l k)) A28 T17 (g_loadXI (l := l) (k := k) (by kernel_rfl) hD (by have hlen := hl; omega) (by kernel_rfl)) rfl rfl rfl (pf_then (pf_block (pf_then (pf_then (pf_block (pf_then pf_body)))))) (by kernel_rfl) (fun ac A29 => ?_)
    refine r_take 8 (.bool (decide (nthI l k ≠ nthI l k))) A29 T17 (g_bin (u := .int .i64 (nthI l k)) (k := .int .i64 (nthI l k)) (by kernel_rfl) (by kernel_rfl) (fun _ => by kernel_rfl) b_neq) rfl rfl rfl (pf_then (pf_block (pf_then (pf_then (pf_block (pf_then pf_body)))))) (by kernel_rfl) (fun ac A30 => ?_)
    refine r_done (by kernel_rfl) ?_
    refine n_then ?_
    refine c_f (b := (decide (nthI l k ≠ nthI l k))) A30 (by kernel_rfl) (decide_eq_false (fun h => h rfl)) ?_
    refine wp_skip ?_
    refine n_block ?_
    refine n_then ?_
    refine wp_region_lit ?_
    refine s_one (.int .i64 (k : Int)) A30 S19 (g_move (by kernel_rfl)) rfl (fun ac A31 => ?_)
    refine s_one (.int .i64 ((k : Int) + 1)) A31 S19 (g_bin (u := .int .i64 (k : Int)) (k := .int .i64 1) (by kernel_rfl) (by kernel_rfl) (fun _ => by kernel_rfl) (b_add (by omega))) rfl (fun ac A32 => ?_)
    refine s_one (.int .i64 ((k : Int) + 1)) A32 S19 (g_assign (by kernel_rfl)) rfl (fun ac A33 => ?_)
    refine wpList_nil ?_
    refine n_then ?_
    refine ⟨_, ⟨k + 1, rfl, by omega, (A33.slot (A33.slot (A33.slot (A33.slot (A33.slot (A33.slot (A33.slot (A33.slot A33.nil (v := .int .i64 ((k : Int) + 1)) (by kernel_rfl) (congrArg (Value.int .i64) (by omega))) (v := .bool (decide ((m : Int) ≠ (m : Int)))) (by kernel_rfl) rfl) (v := .int .i64 (m : Int)) (by kernel_rfl) rfl) (v := .slice (some ad27) m d) (by kernel_rfl) (by first | rfl | simp)) (v := .int .i64 (m : Int)) (by kernel_rfl) rfl) (v := .slice (some ad22) m c) (by kernel_rfl) (by first | rfl | simp)) (v := .slice (some ad27) m d) (by kernel_rfl) (by first | rfl | simp)) (v := .slice (some ad22) m c) (by kernel_rfl) (by first | rfl | simp)), S19.sub sub_all sub_all⟩, ?_⟩
    omega
  · have p34 := of_decide_eq_false h15
    refine wp_exit ?_
    refine x_then ?_
    refine x_then ?_
    refine x_hit ?_
    refine n_then ?_
    refine wp_seq ?_
    refine wp_region_lit ?_
    refine s_one (.bool true) A14 S9 (g_assign (by kernel_rfl)) rfl (fun ac A35 => ?_)
    refine wpList_nil ?_
    refine n_then ?_
    refine wp_ret ?_
    refine fin1 (.bool true) Try.results40 A35 S9 (rv_tmp (by kernel_rfl)) ⟨?_, S9.kp⟩
    rfl

theorem baseInts_eq (l k : List Int) (e : l = k) (C D : Option Addr) (c d m m2 : Nat) (w : World) (hl : l.length = m * 1) (hk : k.length = m2 * 1) (hm : m ≤ 100000) (hC : IReads w C l) (hD : IReads w D k) : Calls Try.prog 40 #[.slice C m c, .slice D m2 d] w fun en w' => en = .returned (.bool true) ∧ Below w.heap.size w w' := by
  subst e
  obtain rfl : m = m2 := by omega
  exact baseInts_s l C D c d m w hl hm hC hD

set_option maxRecDepth 100000 in
set_option maxHeartbeats 400000 in
theorem Saturated_err (el : Int) (A : Option Addr) (n cap : Nat) (xs : List Nat) (w0 : World) (hn : xs.length = n) (hr : FReads w0 A xs) (hm : n ≤ 1000) (h0 : (mxC el xs).2 ≠ 0) :
    Calls Try.prog 36 #[.agg #[.int .i64 el, .slice A n cap]] w0 fun e w' => e = .returned (.tuple #[.slice none 0 0, .int .i64 (mxC el xs).2]) ∧ Below w0.heap.size w0 w' := by
  have S0 := St.start w0
  refine enterM (n := 34) Try.func36 rfl rfl rfl (fun ac A0 => ?_)
  refine wp_seq ?_
  refine wp_region_lit ?_
  refine s_box (.agg #[.int .i64 el, .slice A n cap]) A0 S0 (by kernel_rfl) rfl (fun g3 ac wc A1 S2 => ?_)
  replace S2 : St _ (⟨g3, 30, #[.int .i64 el, .slice A n cap], true⟩ :: _) _ _ := S2
  refine s_one (.slice none 0 0) A1 S2 (g_assign (by kernel_rfl)) rfl (fun ac A5 => ?_)
  refine s_one (.int .i64 0) A5 S2 (g_assign (by kernel_rfl)) rfl (fun ac A6 => ?_)
  refine wpList_nil ?_
  refine n_then ?_
  refine wp_seq ?_
  refine wp_region_lit ?_
  refine s_one (.agg #[.int .i64 el, .slice A n cap]) A6 S2 (g_load (g := g3) (off := 0) 0 (by kernel_rfl) rfl (by kernel_rfl)) rfl (fun ac A7 => ?_)
  refine s_call (fs := #[]) (cp := #[]) (r := [(0, .agg #[.int .i64 el, .slice A n cap])]) #[.agg #[.int .i64 el, .slice A n cap]] (.tuple #[.pointer none, .int .i64 ((mxC el xs).2)]) A7 S2 (open_err el A n cap xs _ hn (hr.kept S2.kp) (by omega) h0) Try.call72 (by kernel_rfl) (by kernel_rfl) (by kernel_rfl) rfl (fun ac wc A8 S9 => ?_)
  refine s_one (.tuple #[.pointer none, .int .i64 ((mxC el xs).2)]) A8 S9 (g_move (by kernel_rfl)) rfl (fun ac A11 => ?_)
  refine s_one (.pointer none) A11 S9 (g_extract (u := .tuple #[.pointer none, .int .i64 ((mxC el xs).2)]) (by kernel_rfl) (fun _ => by kernel_rfl)) rfl (fun ac A12 => ?_)
  refine s_one (.int .i64 ((mxC el xs).2)) A12 S9 (g_extract (u := .tuple #[.pointer none, .int .i64 ((mxC el xs).2)]) (by kernel_rfl) (fun _ => by kernel_rfl)) rfl (fun ac A13 => ?_)
  refine s_alloc (#[.pointer none]) A13 S9 (by kernel_rfl) rfl (fun g16 ac wc A14 S15 => ?_)
  refine s_store (g := g16) (off := 0) (v := .pointer none) 0 (#[.pointer none]) A14 S15 (by kernel_rfl) (by kernel_rfl) rfl (by kernel_rfl) (fun wc S18 => ?_)
  refine s_one (.int .i64 ((mxC el xs).2)) A14 S18 (g_assign (by kernel_rfl)) rfl (fun ac A20 => ?_)
  refine wpList_nil ?_
  refine n_then ?_
  refine wp_seq ?_
  refine wp_seq ?_
  refine wp_region_lit ?_
  refine s_one (.int .i64 ((mxC el xs).2)) A20 S18 (g_move (by kernel_rfl)) rfl (fun ac A21 => ?_)
  refine s_one (.bool (decide ((mxC el xs).2 ≠ 0))) A21 S18 (g_bin (u := .int .i64 ((mxC el xs).2)) (k := .int .i64 0) (by kernel_rfl) (by kernel_rfl) (fun _ => by kernel_rfl) b_neq) rfl (fun ac A22 => ?_)
  refine wpList_nil ?_
  refine n_then ?_
  refine c_t (b := (decide ((mxC el xs).2 ≠ 0))) A22 (by kernel_rfl) (decide_eq_true h0) ?_
  refine wp_seq ?_
  refine wp_region_lit ?_
  refine s_one (.int .i64 ((mxC el xs).2)) A22 S18 (g_move (by kernel_rfl)) rfl (fun ac A23 => ?_)
  refine s_one (.slice none 0 0) A23 S18 (g_assign (by kernel_rfl)) rfl (fun ac A24 => ?_)
  refine s_one (.int .i64 ((mxC el xs).2)) A24 S18 (g_assign (by kernel_rfl)) rfl (fun ac A25 => ?_)
  refine wpList_nil ?_
  refine n_then ?_
  refine wp_ret ?_
  refine r_then ?_
  refine m_ret0 A25 ?_
  refine fin2 (.slice none 0 0) (.int .i64 ((mxC el xs).2)) Try.results36 A25 S18 (rv_tmp (by kernel_rfl)) (rv_tmp (by kernel_rfl)) ⟨?_, S18.kp⟩
  rfl

set_option maxRecDepth 100000 in
set_option maxHeartbeats 400000 in
theorem Saturated_ok (ne n cap : Nat) (ad : Addr) (xs : List Nat) (w0 : World) (hn : xs.length = n) (hr : FReads w0 (some ad) xs) (hm : n ≤ 1000) (hcp : n ≤ cap) (h1 : 1 ≤ ne) (hne : n = ne * ne * 64) (h0 : (mxC (ne : Int) xs).2 = 0) :
    Calls Try.prog 36 #[.agg #[.int .i64 (ne : Int), .slice (some ad) n cap]] w0 fun e w' => ∃ v, e = .returned (.tuple #[v, .int .i64 0]) ∧ Below w0.heap.size w0 w' ∧ w'.ownsRow w0.heap.size 26 2 v ((((pairsOf ne).filter (satB (mi xs) ne))).length) (rowI (flP (((pairsOf ne)).filter (satB (mi xs) ne)))) := by
  have S0 := St.start w0
  have hR : Right xs := right_of (mxC_0 h0).2.2
  have hpos : 0 < ne * ne := Nat.mul_pos h1 h1
  have hml : (mi xs).length = ne * ne * 64 := by rw [mi_length, hn, hne]
  have hne3 : ne ≤ 3 := by rcases Nat.lt_or_ge 3 ne with q | q; have := Nat.mul_le_mul q q; omega; exact q
  have hee : ne * ne ≤ 15 := by omega
  refine enterM (n := 34) Try.func36 rfl rfl rfl (fun ac A0 => ?_)
  refine wp_seq ?_
  refine wp_region_lit ?_
  refine s_box (.agg #[.int .i64 (ne : Int), .slice (some ad) n cap]) A0 S0 (by kernel_rfl) rfl (fun g3 ac wc A1 S2 => ?_)
  replace S2 : St _ (⟨g3, 30, #[.int .i64 (ne : Int), .slice (some ad) n cap], true⟩ :: _) _ _ := S2
  refine s_one (.slice none 0 0) A1 S2 (g_assign (by kernel_rfl)) rfl (fun ac A5 => ?_)
  refine s_one (.int .i64 0) A5 S2 (g_assign (by kernel_rfl)) rfl (fun ac A6 => ?_)
  refine wpList_nil ?_
  refine n_then ?_
  refine wp_seq ?_
  refine wp_region_lit ?_
  refine s_one (.agg #[.int .i64 (ne : Int), .slice (some ad) n cap]) A6 S2 (g_load (g := g3) (off := 0) 0 (by kernel_rfl) rfl (by kernel_rfl)) rfl (fun ac A7 => ?_)
  refine s_callSt (T := Nat × Nat × Nat) (fs := #[]) (cp := #[]) (r := [(0, .agg #[.int .i64 (ne : Int), .slice (some ad) n cap])]) #[.agg #[.int .i64 (ne : Int), .slice (some ad) n cap]] (fun u => .tuple #[.pointer (some ⟨u.1, 0, none⟩), .int .i64 0]) (fun u => [⟨u.1, 137, #[.int .i64 (ne : Int), .slice (some (Addr.mk u.2.1 0 none)) (ne * ne) u.2.2], true⟩]) (fun u => [⟨.slice (some (Addr.mk u.2.1 0 none)) (ne * ne) u.2.2, 123, 64, (ne * ne), (rowI (mi xs))⟩]) A7 S2 (open_ok ne n cap ad xs _ hn (hr.kept S2.kp) hm hcp h1 hne h0) (fun u x hx => by simp only [List.mem_cons, List.not_mem_nil, or_false] at hx; subst hx; rfl) Try.call72 (by kernel_rfl) (by kernel_rfl) (by kernel_rfl) rfl (fun u14 ac wc A8 S9 => ?_)
  obtain ⟨gm11, gr12, cp13⟩ := u14
  replace S9 : St w0 [⟨gm11, 137, #[.int .i64 (ne : Int), .slice (some (Addr.mk gr12 0 none)) (ne * ne) cp13], true⟩, ⟨g3, 30, #[.int .i64 (ne : Int), .slice (some ad) n cap], true⟩] [⟨.slice (some (Addr.mk gr12 0 none)) (ne * ne) cp13, 123, 64, (ne * ne), (rowI (mi xs))⟩] _ := S9
  refine s_one (.tuple #[.pointer (some ⟨gm11, 0, none⟩), .int .i64 0]) A8 S9 (g_move (by kernel_rfl)) rfl (fun ac A15 => ?_)
  refine s_one (.pointer (some ⟨gm11, 0, none⟩)) A15 S9 (g_extract (u := .tuple #[.pointer (some ⟨gm11, 0, none⟩), .int .i64 0]) (by kernel_rfl) (fun _ => by kernel_rfl)) rfl (fun ac A16 => ?_)
  refine s_one (.int .i64 0) A16 S9 (g_extract (u := .tuple #[.pointer (some ⟨gm11, 0, none⟩), .int .i64 0]) (by kernel_rfl) (fun _ => by kernel_rfl)) rfl (fun ac A17 => ?_)
  refine s_alloc (#[.pointer none]) A17 S9 (by kernel_rfl) rfl (fun g20 ac wc A18 S19 => ?_)
  refine s_store (g := g20) (off := 0) (v := .pointer (some ⟨gm11, 0, none⟩)) 0 (#[.pointer (some ⟨gm11, 0, none⟩)]) A18 S19 (by kernel_rfl) (by kernel_rfl) rfl (by kernel_rfl) (fun wc S22 => ?_)
  refine s_one (.int .i64 0) A18 S22 (g_assign (by kernel_rfl)) rfl (fun ac A24 => ?_)
  refine wpList_nil ?_
  refine n_then ?_
  refine wp_seq ?_
  refine wp_seq ?_
  refine wp_region_lit ?_
  refine s_one (.int .i64 0) A24 S22 (g_move (by kernel_rfl)) rfl (fun ac A25 => ?_)
  refine s_one (.bool (decide (0 ≠ 0))) A25 S22 (g_bin (u := .int .i64 0) (k := .int .i64 0) (by kernel_rfl) (by kernel_rfl) (fun _ => by kernel_rfl) b_neq) rfl (fun ac A26 => ?_)
  refine wpList_nil ?_
  refine n_then ?_
  refine c_f (b := (decide (0 ≠ 0))) A26 (by kernel_rfl) (by decide) ?_
  refine wp_skip ?_
  refine n_then ?_
  refine wp_seq ?_
  refine wp_region_lit ?_
  refine s_alloc (#[.slice none 0 0]) A26 S22 (by kernel_rfl) rfl (fun g29 ac wc A27 S28 => ?_)
  refine wpList_nil ?_
  refine n_then ?_
  refine wp_seq ?_
  refine wp_seq ?_
  refine wp_region_lit ?_
  refine s_one (.pointer (some ⟨gm11, 0, none⟩)) A27 S28 (g_load (g := g20) (off := 0) 1 (by kernel_rfl) rfl (by kernel_rfl)) rfl (fun ac A30 => ?_)
  refine s_one (.func (.func 86) #[.pointer (some ⟨gm11, 0, none⟩)] #[]) A30 S28 (g_func (us := [(0, .pointer (some ⟨gm11, 0, none⟩))]) (vs := []) (by kernel_rfl) (by kernel_rfl) (fun _ => by kernel_rfl)) rfl (fun ac A31 => ?_)
  refine wpList_nil ?_
  refine n_then ?_
  refine wp_block ?_
  refine c_range (α := Nat × Nat) (gf := 86) (fs := #[.pointer (some ⟨gm11, 0, none⟩)]) (lb := #[]) (encs := fun x => #[.int .i64 (x.1 : Int), .int .i64 (x.2 : Int)]) (G := [⟨gm11, 137, #[.int .i64 (ne : Int), .slice (some (Addr.mk gr12 0 none)) (ne * ne) cp13], true⟩]) (xs := pairsOf ne) A31 S28 (by kernel_rfl) Try.call86 (List.forall_mem_cons.2 ⟨S28.get 2 rfl, (List.forall_mem_nil _)⟩) (all_seq gm11 ne (.slice (some (Addr.mk gr12 0 none)) (ne * ne) cp13) true (by omega)) (fun _ => rfl) (fun x => [(19, .int .i64 (x.1 : Int)), (20, .int .i64 (x.2 : Int))]) (fun _ => (by first | rfl | simp)) (fun _ => (List.forall_mem_cons.2 ⟨(show 19 < 34 by decide), (List.forall_mem_cons.2 ⟨(show 20 < 34 by decide), (List.forall_mem_nil _)⟩)⟩)) (fun pre W => ∃ (v : Value), St w0 [⟨g29, 22, #[v], true⟩, ⟨g20, 130, #[.pointer (some ⟨gm11, 0, none⟩)], true⟩, ⟨gm11, 137, #[.int .i64 (ne : Int), .slice (some (Addr.mk gr12 0 none)) (ne * ne) cp13], true⟩, ⟨g3, 30, #[.int .i64 (ne : Int), .slice (some ad) n cap], true⟩] [⟨v, 26, 2, ((((pre).filter (satB (mi xs) ne))).length), (rowI (flP ((pre).filter (satB (mi xs) ne))))⟩, ⟨.slice (some (Addr.mk gr12 0 none)) (ne * ne) cp13, 123, 64, (ne * ne), (rowI (mi xs))⟩] W) (fun _ _ => False) ?_ ?_ ?_ ?_ (fun x => [(7, .int .i64 (x.1 : Int)), (8, .int .i64 (x.2 : Int)), (19, .int .i64 (x.1 : Int)), (20, .int .i64 (x.2 : Int)), (0, .agg #[.int .i64 (ne : Int), .slice (some ad) n cap]), (1, .pointer (some ⟨g3, 0, none⟩)), (2, .slice none 0 0), (3, .int .i64 0), (10, .agg #[.int .i64 (ne : Int), .slice (some ad) n cap]), (11, .tuple #[.pointer (some ⟨gm11, 0, none⟩), .int .i64 0]), (9, .tuple #[.pointer (some ⟨gm11, 0, none⟩), .int .i64 0]), (12, .pointer (some ⟨gm11, 0, none⟩)), (13, .int .i64 0), (4, .pointer (some ⟨g20, 0, none⟩)), (5, .int .i64 0), (14, .int .i64 0), (15, .bool (decide (0 ≠ 0))), (6, .pointer (some ⟨g29, 0, none⟩)), (17, .pointer (some ⟨gm11, 0, none⟩)), (18, .func (.func 86) #[.pointer (some ⟨gm11, 0, none⟩)] #[])]) ?_ ?_ ?_ ?_
  · rintro pre W W' row ⟨v, hS⟩ hg hr
    exact ⟨v, St.round hS hg hr⟩
  · rintro pre W W' ⟨v, hS⟩ hb
    exact ⟨v, hS.kept hb⟩
  · exact fun _ _ _ _ h _ _ => h
  · have S32 := S28.nilRow 26 2
    exact ⟨.slice none 0 0, (St.rerow 0 (St.recell 0 S32 rfl (by rfl)) rfl ⟨rfl, rfl⟩).sub sub_all sub_all⟩
  · intro l x a' WA K HA HK
    have SA := St.start WA
    replace HA : Fr 34 a' [(20, .int .i64 (x.2 : Int)), (19, .int .i64 (x.1 : Int)), (0, .agg #[.int .i64 (ne : Int), .slice (some ad) n cap]), (1, .pointer (some ⟨g3, 0, none⟩)), (2, .slice none 0 0), (3, .int .i64 0), (10, .agg #[.int .i64 (ne : Int), .slice (some ad) n cap]), (11, .tuple #[.pointer (some ⟨gm11, 0, none⟩), .int .i64 0]), (9, .tuple #[.pointer (some ⟨gm11, 0, none⟩), .int .i64 0]), (12, .pointer (some ⟨gm11, 0, none⟩)), (13, .int .i64 0), (4, .pointer (some ⟨g20, 0, none⟩)), (5, .int .i64 0), (14, .int .i64 0), (15, .bool (decide (0 ≠ 0))), (6, .pointer (some ⟨g29, 0, none⟩)), (17, .pointer (some ⟨gm11, 0, none⟩)), (18, .func (.func 86) #[.pointer (some ⟨gm11, 0, none⟩)] #[])] := (HA.slot (HA.slot (HA.slot (HA.slot (HA.slot (HA.slot (HA.slot (HA.slot (HA.slot (HA.slot (HA.slot (HA.slot (HA.slot (HA.slot (HA.slot (HA.slot (HA.slot (HA.slot HA.nil (v := .func (.func 86) #[.pointer (some ⟨gm11, 0, none⟩)] #[]) (by kernel_rfl) rfl) (v := .pointer (some ⟨gm11, 0, none⟩)) (by kernel_rfl) rfl) (v := .pointer (some ⟨g29, 0, none⟩)) (by kernel_rfl) rfl) (v := .bool (decide (0 ≠ 0))) (by kernel_rfl) rfl) (v := .int .i64 0) (by kernel_rfl) rfl) (v := .int .i64 0) (by kernel_rfl) rfl) (v := .pointer (some ⟨g20, 0, none⟩)) (by kernel_rfl) rfl) (v := .int .i64 0) (by kernel_rfl) rfl) (v := .pointer (some ⟨gm11, 0, none⟩)) (by kernel_rfl) rfl) (v := .tuple #[.pointer (some ⟨gm11, 0, none⟩), .int .i64 0]) (by kernel_rfl) rfl) (v := .tuple #[.pointer (some ⟨gm11, 0, none⟩), .int .i64 0]) (by kernel_rfl) rfl) (v := .agg #[.int .i64 (ne : Int), .slice (some ad) n cap]) (by kernel_rfl) rfl) (v := .int .i64 0) (by kernel_rfl) rfl) (v := .slice none 0 0) (by kernel_rfl) rfl) (v := .pointer (some ⟨g3, 0, none⟩)) (by kernel_rfl) rfl) (v := .agg #[.int .i64 (ne : Int), .slice (some ad) n cap]) (by kernel_rfl) rfl) (v := .int .i64 (x.1 : Int)) (by kernel_rfl) rfl) (v := .int .i64 (x.2 : Int)) (by kernel_rfl) rfl)
    refine wpIn_seq ?_
    refine i_region (noOut_then noOut_assign) (by kernel_rfl) ?_
    refine s_one (.int .i64 (x.1 : Int)) HA SA (g_assign (by kernel_rfl)) rfl (fun ac A33 => ?_)
    refine wpList_nil ?_
    refine n_then ?_
    refine i_region noOut_assign (by kernel_rfl) ?_
    refine s_one (.int .i64 (x.2 : Int)) A33 SA (g_assign (by kernel_rfl)) rfl (fun ac A34 => ?_)
    refine wpList_nil ?_
    refine n_then ?_
    exact HK _ (A34.slot (A34.slot (A34.slot (A34.slot (A34.slot (A34.slot (A34.slot (A34.slot (A34.slot (A34.slot (A34.slot (A34.slot (A34.slot (A34.slot (A34.slot (A34.slot (A34.slot (A34.slot (A34.slot (A34.slot A34.nil (v := .func (.func 86) #[.pointer (some ⟨gm11, 0, none⟩)] #[]) (by kernel_rfl) rfl) (v := .pointer (some ⟨gm11, 0, none⟩)) (by kernel_rfl) rfl) (v := .pointer (some ⟨g29, 0, none⟩)) (by kernel_rfl) rfl) (v := .bool (decide (0 ≠ 0))) (by kernel_rfl) rfl) (v := .int .i64 0) (by kernel_rfl) rfl) (v := .int .i64 0) (by kernel_rfl) rfl) (v := .pointer (some ⟨g20, 0, none⟩)) (by kernel_rfl) rfl) (v := .int .i64 0) (by kernel_rfl) rfl) (v := .pointer (some ⟨gm11, 0, none⟩)) (by kernel_rfl) rfl) (v := .tuple #[.pointer (some ⟨gm11, 0, none⟩), .int .i64 0]) (by kernel_rfl) rfl) (v := .tuple #[.pointer (some ⟨gm11, 0, none⟩), .int .i64 0]) (by kernel_rfl) rfl) (v := .agg #[.int .i64 (ne : Int), .slice (some ad) n cap]) (by kernel_rfl) rfl) (v := .int .i64 0) (by kernel_rfl) rfl) (v := .slice none 0 0) (by kernel_rfl) rfl) (v := .pointer (some ⟨g3, 0, none⟩)) (by kernel_rfl) rfl) (v := .agg #[.int .i64 (ne : Int), .slice (some ad) n cap]) (by kernel_rfl) rfl) (v := .int .i64 (x.2 : Int)) (by kernel_rfl) rfl) (v := .int .i64 (x.1 : Int)) (by kernel_rfl) rfl) (v := .int .i64 (x.2 : Int)) (by kernel_rfl) rfl) (v := .int .i64 (x.1 : Int)) (by kernel_rfl) rfl)
  · rintro l pre x rest a' WB35 hx ⟨v, hS⟩ HA
    have SB36 := St.begin hS
    obtain ⟨hx1, hx2, hx3⟩ := pairs_next hx
    have hxk : x.1 * ne + x.2 < ne * ne := pair_lt hx1 hx2
    have hxr : x.2 * ne + x.1 < ne * ne := pair_lt hx2 hx1
    have hpl := pre_len hx
    have hsl := sel_len (B := satB (mi xs) ne) pre
    refine wpIn_block ?_
    refine wpIn_seq ?_
    refine i_region (noOut_then (noOut_block noOut_body)) (by kernel_rfl) ?_
    refine s_one (.pointer (some ⟨gm11, 0, none⟩)) HA SB36 (g_load (g := g20) (off := 0) 1 (by kernel_rfl) rfl (by kernel_rfl)) rfl (fun ac A37 => ?_)
    refine s_one (.int .i64 (x.1 : Int)) A37 SB36 (g_move (by kernel_rfl)) rfl (fun ac A38 => ?_)
    refine s_one (.int .i64 (x.2 : Int)) A38 SB36 (g_move (by kernel_rfl)) rfl (fun ac A39 => ?_)
    refine s_call (fs := #[]) (cp := #[]) (r := [(0, .pointer (some ⟨gm11, 0, none⟩)), (0, .int .i64 (x.1 : Int)), (0, .int .i64 (x.2 : Int))]) #[.pointer (some ⟨gm11, 0, none⟩), .int .i64 (x.1 : Int), .int .i64 (x.2 : Int)] (.pointer (some ((Addr.mk gr12 0 none).add ((x.1 * ne + x.2) * 64)))) A39 SB36 (mat_at gm11 ne (ne * ne) cp13 x.1 x.2 (Addr.mk gr12 0 none) (mi xs) _ (SB36.get 2 rfl) (by have hlen := hml; omega) hxk (by omega)) Try.call73 (by kernel_rfl) (by kernel_rfl) (by kernel_rfl) rfl (fun ac wc A40 S41 => ?_)
    refine s_call (fs := #[]) (cp := #[]) (r := [(0, .pointer (some ((Addr.mk gr12 0 none).add ((x.1 * ne + x.2) * 64))))]) #[.pointer (some ((Addr.mk gr12 0 none).add ((x.1 * ne + x.2) * 64)))] (.int .i64 (gr (mi xs) ((x.1 * ne + x.2) * 64) 64)) A40 S41 (greatest_s (Addr.mk gr12 0 none) (mi xs) ((x.1 * ne + x.2) * 64) _ (row_ir (S41.row 1 rfl)) (by have hlen := hml; omega) (mi_range hR)) Try.call87 (by kernel_rfl) (by kernel_rfl) (by kernel_rfl) rfl (fun ac wc A43 S44 => ?_)
    refine s_one (.bool (decide (gr (mi xs) ((x.1 * ne + x.2) * 64) 64 = 2047))) A43 S44 (g_bin (u := .int .i64 (gr (mi xs) ((x.1 * ne + x.2) * 64) 64)) (k := .int .i64 2047) (by kernel_rfl) (by kernel_rfl) (fun _ => by kernel_rfl) b_eql) rfl (fun ac A46 => ?_)
    refine wpList_nil ?_
    refine n_then ?_
    refine i_ifb (b := (decide (gr (mi xs) ((x.1 * ne + x.2) * 64) 64 = 2047))) A46 (by kernel_rfl) (fun h47 => ?_) (fun h47 => ?_)
    · have p48 := of_decide_eq_true h47
      refine i_region (noOut_block noOut_body) (by kernel_rfl) ?_
      refine s_one (v) A46 S44 (g_load (g := g29) (off := 0) 0 (by kernel_rfl) rfl (by kernel_rfl)) rfl (fun ac A49 => ?_)
      refine s_one (.int .i64 (x.1 : Int)) A49 S44 (g_move (by kernel_rfl)) rfl (fun ac A50 => ?_)
      refine s_one (.int .i64 (x.2 : Int)) A50 S44 (g_move (by kernel_rfl)) rfl (fun ac A51 => ?_)
      refine s_one (.agg #[.int .i64 (x.1 : Int), .int .i64 (x.2 : Int)]) A51 S44 (g_build (r := [(0, .int .i64 (x.1 : Int)), (1, .int .i64 (x.2 : Int))]) (by kernel_rfl) (fun _ => by kernel_rfl)) rfl (fun ac A52 => ?_)
      refine s_bs (e := 26) (r := [(0, .agg #[.int .i64 (x.1 : Int), .int .i64 (x.2 : Int)])]) (#[.int .i64 (x.1 : Int), .int .i64 (x.2 : Int)]) A52 S44 (by kernel_rfl) (by kernel_rfl) rfl (fun g55 ac wc A53 S54 => ?_)
      refine s_append (e := 26) (size := 2) (bytes := 16) (v := v) (g := g55) (m' := 1) (c := 1) 0 0 [.int .i64 (x.1 : Int), .int .i64 (x.2 : Int)] A53 S54 (by kernel_rfl) (by kernel_rfl) (by kernel_rfl) rfl rfl (by kernel_rfl) rfl (by kernel_rfl) (by omega) (by omega) rfl (fun v59 ac wc A56 S57 => ?_)
      obtain ⟨A60, cap61, rfl⟩ := row_slice (v := v59) (m := (((pre).filter (satB (mi xs) ne))).length + 1) (S57.row 0 rfl)
      refine s_store (g := g29) (off := 0) (v := .slice A60 ((((pre).filter (satB (mi xs) ne))).length + 1) cap61) 1 (#[.slice A60 ((((pre).filter (satB (mi xs) ne))).length + 1) cap61]) A56 S57 (by kernel_rfl) (by kernel_rfl) rfl (by kernel_rfl) (fun wc S63 => ?_)
      refine wpList_nil ?_
      refine n_block ?_
      refine r_end (w0 := w0) S63 (KpG.cons (S63.get 3 rfl) KpG.nil) (fun SE => ?_)
      exact ⟨.slice A60 ((((pre).filter (satB (mi xs) ne))).length + 1) cap61, (St.rerow 0 (St.recell 1 SE rfl (by rfl)) rfl ⟨by rw [sel_y (show satB (mi xs) ne (x.1, x.2) = true from decide_eq_true p48), List.length_append]; rfl, by rw [sel_y (show satB (mi xs) ne (x.1, x.2) = true from decide_eq_true p48)]; exact flP_snoc _ _ _⟩).sub (sub_skip sub_all) sub_all⟩
    · have p65 := of_decide_eq_false h47
      refine wpIn_skip ?_
      refine n_block ?_
      refine r_end (w0 := w0) S44 (KpG.cons (S44.get 2 rfl) KpG.nil) (fun SE => ?_)
      exact ⟨v, (St.rerow 0 SE rfl ⟨by rw [sel_n (show satB (mi xs) ne (x.1, x.2) = false from decide_eq_false p65)], by rw [sel_n (show satB (mi xs) ne (x.1, x.2) = false from decide_eq_false p65)]⟩).sub sub_all sub_all⟩
  · rintro D66 a' WD67 hD68 ⟨v, hS⟩ hK69 HA70
    have SD71 := St.begin hS
    refine n_block ?_
    refine n_then ?_
    refine wp_seq ?_
    refine wp_region_lit ?_
    refine s_one (v) HA70 SD71 (g_load (g := g29) (off := 0) 0 (by kernel_rfl) rfl (by kernel_rfl)) rfl (fun ac A72 => ?_)
    refine s_one (v) A72 SD71 (g_assign (by kernel_rfl)) rfl (fun ac A73 => ?_)
    refine s_one (.int .i64 0) A73 SD71 (g_assign (by kernel_rfl)) rfl (fun ac A74 => ?_)
    refine wpList_nil ?_
    refine n_then ?_
    refine wp_ret ?_
    refine m_ret (w0 := w0) A74 SD71 hK69 hD68 (fun ac wc A75 S76 => ?_)
    obtain ⟨A77, cap78, rfl⟩ := row_slice (v := v) (m := ((((pairsOf ne)).filter (satB (mi xs) ne))).length) (S76.row 0 rfl)
    refine fin2 (.slice A77 (((((pairsOf ne)).filter (satB (mi xs) ne))).length) cap78) (.int .i64 0) Try.results36 A75 S76 (rv_tmp (by kernel_rfl)) (rv_tmp (by kernel_rfl)) ?_
    have bw := S76.kp
    have ow := S76.row 0 rfl
    exact ⟨_, rfl, bw, ow⟩
  · exact fun _ _ _ _ _ h => h.elim

set_option maxRecDepth 100000 in
set_option maxHeartbeats 400000 in
theorem baseSize_s (n : Int) (w0 : World) (hn : -100000 ≤ n ∧ n ≤ 100000) :
    Calls Try.prog 91 #[.int .i64 n] w0 fun e w' => e = .returned (.int .i64 (mx n (-n))) ∧ Below w0.heap.size w0 w' := by
  have S0 := St.start w0
  refine enter (n := 7) Try.func91 rfl rfl rfl (fun ac A0 => ?_)
  refine wp_seq ?_
  refine wp_region_lit ?_
  refine s_one (.int .i64 0) A0 S0 (g_assign (by kernel_rfl)) rfl (fun ac A1 => ?_)
  refine wpList_nil ?_
  refine n_then ?_
  refine wp_seq ?_
  refine wp_region_lit ?_
  refine s_one (.int .i64 n) A1 S0 (g_move (by kernel_rfl)) rfl (fun ac A2 => ?_)
  refine s_one (.int .i64 n) A2 S0 (g_move (by kernel_rfl)) rfl (fun ac A3 => ?_)
  refine s_one (.int .i64 (-n)) A3 S0 (g_un (u := .int .i64 n) (by kernel_rfl) (u_neg (by omega))) rfl (fun ac A4 => ?_)
  refine s_one (.int .i64 (mx n (-n))) A4 S0 (g_built (r := [(0, .int .i64 n), (0, .int .i64 (-n))]) (by kernel_rfl) (fun ty cs w => by show (do let x ← Builtin.max_ _ ty #[.int .i64 n, .int .i64 (-n)]; pure (Next.value x) : Sem Next).run _ w = _; rw [Sem.run_bind, run_max_mx]; rfl)) rfl (fun ac A5 => ?_)
  refine s_one (.int .i64 (mx n (-n))) A5 S0 (g_assign (by kernel_rfl)) rfl (fun ac A6 => ?_)
  refine wpList_nil ?_
  refine n_then ?_
  refine wp_ret ?_
  refine fin1 (.int .i64 (mx n (-n))) Try.results91 A6 S0 (rv_tmp (by kernel_rfl)) ⟨?_, S0.kp⟩
  rfl

end Go.Proofs.Ytcijkniijomcjaa
