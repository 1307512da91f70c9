/- Traces of matrices. -/
import Derived.Test.YtcijkniijomcjaaMat1
import Derived.Test.YtcijkniijomcjaaRefs
import Derived.Test.YtcijkniijomcjaaAwake
namespace Go.Proofs.Ytcijkniijomcjaa
open Go.RowKit Go.Cpl

set_option maxRecDepth 100000 in
set_option maxHeartbeats 400000 in
theorem traceOf_s (l : List Int) (w0 : World) (hl : l.length = 64) :
    Calls Try.prog 65 #[.agg (ints l)] w0 fun e w' => e = .returned (.agg (trc (mkT l 64))) ∧ Below w0.heap.size w0 w' := by
  have S0 := St.start w0
  refine enter (n := 16) Try.func65 rfl rfl rfl (fun ac A0 => ?_)
  refine wp_seq ?_
  refine wp_region_lit ?_
  refine s_box (.agg (ints l)) A0 S0 (by kernel_rfl) rfl (fun g3 ac wc A1 S2 => ?_)
  replace S2 : St _ (⟨g3, 123, (ints l), true⟩ :: _) _ _ := S2
  refine s_alloc (trc zT) A1 S2 zero26 rfl (fun g7 ac wc A5 S6 => ?_)
  refine wpList_nil ?_
  refine n_then ?_
  refine wp_seq ?_
  refine wp_seq ?_
  refine wp_region_lit ?_
  refine s_one (.agg (ints l)) A5 S6 (g_loadW (g := g3) 1 (by kernel_rfl) rfl ((ints_size _).trans hl) ⟨⟨_, Try.underlying123, rfl⟩, by kernel_rfl⟩) rfl (fun ac A8 => ?_)
  refine s_one (.int .i64 0) A8 S6 (g_move (by kernel_rfl)) rfl (fun ac A9 => ?_)
  refine wpList_nil ?_
  refine n_then ?_
  refine wp_block ?_
  refine c_loopN (fun mm ac wc => ∃ (k : Nat), mm = 64 - k ∧ (k ≤ 64) ∧ Fr 16 ac [(0, .agg (ints l)), (1, .pointer (some ⟨g3, 0, none⟩)), (2, .pointer (some ⟨g7, 0, none⟩)), (5, .agg (ints l)), (6, .int .i64 (k : Int))] ∧ St w0 [⟨g7, 38, (trc (done 0 (fun i => floatOfInt .f32 (nthI l i)) 64 k)), true⟩, ⟨g3, 123, (ints l), true⟩] [] wc) _ ⟨0, rfl, by omega, (A9.slot (A9.slot (A9.slot (A9.slot (A9.slot A9.nil (v := .int .i64 0) (by kernel_rfl) (congrArg (Value.int .i64) (by omega))) (v := .agg (ints l)) (by kernel_rfl) rfl) (v := .pointer (some ⟨g7, 0, none⟩)) (by kernel_rfl) rfl) (v := .pointer (some ⟨g3, 0, none⟩)) (by kernel_rfl) rfl) (v := .agg (ints l)) (by kernel_rfl) rfl), (St.recell 0 S6 rfl (congrArg trc (done_zero 0 (fun i => floatOfInt .f32 (nthI l i)) 64).symm)).sub sub_all sub_all⟩ ?_
  rintro mm ac wc ⟨k, hm12, hk, A10, S11⟩
  refine wp_seq ?_
  refine wp_region_lit ?_
  refine s_one (.bool (decide ((k : Int) < 64))) A10 S11 (g_bin (u := .int .i64 (k : Int)) (k := .int .i64 64) (by kernel_rfl) (by kernel_rfl) (fun _ => by kernel_rfl) (fun _ => by kernel_rfl)) rfl (fun ac A13 => ?_)
  refine wpList_nil ?_
  refine n_then ?_
  refine wp_seq ?_
  refine c_ifb (b := (decide ((k : Int) < 64))) A13 (by kernel_rfl) (fun h14 => ?_) (fun h14 => ?_)
  · have p15 := of_decide_eq_true h14
    refine wp_skip ?_
    refine n_then ?_
    refine wp_seq ?_
    refine wp_block ?_
    refine wp_seq ?_
    refine wp_region_lit ?_
    refine s_one (.int .i64 (k : Int)) A13 S11 (g_move (by kernel_rfl)) rfl (fun ac A16 => ?_)
    refine s_one (.int .i64 (nthI l k)) A16 S11 (g_indexv (u := .agg (ints l)) (k := .int .i64 (k : Int)) (by kernel_rfl) (by kernel_rfl) (index159 l hl k (by omega))) rfl (fun ac A17 => ?_)
    refine s_one (.int .i64 (k : Int)) A17 S11 (g_assign (by kernel_rfl)) rfl (fun ac A18 => ?_)
    refine s_one (.int .i64 (nthI l k)) A18 S11 (g_assign (by kernel_rfl)) rfl (fun ac A19 => ?_)
    refine wpList_nil ?_
    refine n_then ?_
    refine wp_region_lit ?_
    refine s_one (.int .i64 (k : Int)) A19 S11 (g_move (by kernel_rfl)) rfl (fun ac A20 => ?_)
    refine s_one (.int .i64 (nthI l k)) A20 S11 (g_move (by kernel_rfl)) rfl (fun ac A21 => ?_)
    refine s_one (.float .f32 (floatOfInt .f32 (nthI l k))) A21 S11 (g_conv (u := .int .i64 (nthI l k)) (by kernel_rfl) (fun _ => by kernel_rfl)) rfl (fun ac A22 => ?_)
    refine s_one (.pointer (some ⟨g7, k, none⟩)) A22 S11 (g_index (u := .pointer (some ⟨g7, 0, none⟩)) (k := .int .i64 (k : Int)) (by kernel_rfl) (by kernel_rfl) (ix_arr1 k (len := 64) (by kernel_rfl) (by omega) (by omega))) rfl (fun ac A23 => ?_)
    refine s_store (g := g7) (off := k) (v := .float .f32 (floatOfInt .f32 (nthI l k))) 0 (trc ((done 0 (fun i => floatOfInt .f32 (nthI l i)) 64 k).set k (floatOfInt .f32 (nthI l k)))) A23 S11 (by kernel_rfl) (by kernel_rfl) rfl ((pv_of (by kernel_rfl) rfl (by rw [trc_size, (done_length _ _ _ _)]; omega)).trans (congrArg some (trc_set (done 0 (fun i => floatOfInt .f32 (nthI l i)) 64 k) k (floatOfInt .f32 (nthI l k))))) (fun wc S25 => ?_)
    refine wpList_nil ?_
    refine n_block ?_
    refine n_then ?_
    refine wp_region_lit ?_
    refine s_one (.int .i64 ((k : Int) + 1)) A23 S25 (g_bin (u := .int .i64 (k : Int)) (k := .int .i64 1) (by kernel_rfl) (by kernel_rfl) (fun _ => by kernel_rfl) (b_add (by omega))) rfl (fun ac A27 => ?_)
    refine s_one (.int .i64 ((k : Int) + 1)) A27 S25 (g_move (by kernel_rfl)) rfl (fun ac A28 => ?_)
    refine wpList_nil ?_
    refine n_then ?_
    refine ⟨_, ⟨k + 1, rfl, by omega, (A28.slot (A28.slot (A28.slot (A28.slot (A28.slot A28.nil (v := .int .i64 ((k : Int) + 1)) (by kernel_rfl) (congrArg (Value.int .i64) (by omega))) (v := .agg (ints l)) (by kernel_rfl) rfl) (v := .pointer (some ⟨g7, 0, none⟩)) (by kernel_rfl) rfl) (v := .pointer (some ⟨g3, 0, none⟩)) (by kernel_rfl) rfl) (v := .agg (ints l)) (by kernel_rfl) rfl), (St.recell 0 S25 rfl (congrArg trc (done_set 0 (fun i => floatOfInt .f32 (nthI l i)) 64 k))).sub sub_all sub_all⟩, ?_⟩
    omega
  · have p29 := of_decide_eq_false h14
    refine wp_exit ?_
    refine x_then ?_
    refine x_then ?_
    refine x_hit ?_
    refine n_then ?_
    refine wp_seq ?_
    refine wp_region_lit ?_
    refine s_one (.agg (trc (done 0 (fun i => floatOfInt .f32 (nthI l i)) 64 k))) A13 S11 (g_loadW (g := g7) 0 (by kernel_rfl) rfl ((trc_size _).trans (done_length _ _ _ _)) ⟨⟨_, Try.underlying38, rfl⟩, by kernel_rfl⟩) rfl (fun ac A30 => ?_)
    refine s_store (g := g7) (off := 0) (v := .agg (trc (done 0 (fun i => floatOfInt .f32 (nthI l i)) 64 k))) 0 (trc (done 0 (fun i => floatOfInt .f32 (nthI l i)) 64 k)) A30 S11 (by kernel_rfl) (by kernel_rfl) rfl (putVal_whole ((trc_size _).trans (done_length _ _ _ _)) ((trc_size _).trans (done_length _ _ _ _)) ⟨⟨_, Try.underlying38, rfl⟩, by kernel_rfl⟩ (trc_one _)) (fun wc S32 => ?_)
    refine wpList_nil ?_
    refine n_then ?_
    refine wp_ret ?_
    refine fin1 (.agg (trc (done 0 (fun i => floatOfInt .f32 (nthI l i)) 64 k))) Try.results65 A30 S32 (rv_cell (g := g7) (off := 0) 0 (by kernel_rfl) rfl (rowVal_whole ((trc_size _).trans (done_length _ _ _ _)) ⟨⟨_, Try.underlying38, rfl⟩, by kernel_rfl⟩)) ⟨?_, S32.kp⟩
    obtain rfl : k = 64 := by omega
    rfl

set_option maxRecDepth 100000 in
set_option maxHeartbeats 400000 in
theorem SameFloats_s (xs : List Nat) (C D : Option Addr) (c d n : Nat) (w0 : World) (hn : xs.length = n) (hm : n ≤ maxLen) (hC : FReads w0 C xs) (hD : FReads w0 D xs) :
    Calls Try.prog 68 #[.slice C n c, .slice D n d] w0 fun e w' => e = .returned (.bool true) ∧ Below w0.heap.size w0 w' := by
  have S0 := St.start w0
  unfold maxLen at hm
  refine enter (n := 28) Try.func68 rfl rfl rfl (fun ac A0 => ?_)
  refine wp_seq ?_
  refine wp_region_lit ?_
  refine s_one (.bool false) A0 S0 (g_assign (by kernel_rfl)) rfl (fun ac A1 => ?_)
  refine wpList_nil ?_
  refine n_then ?_
  refine wp_seq ?_
  refine wp_seq ?_
  refine wp_region_lit ?_
  refine s_one (.slice C n c) A1 S0 (g_move (by kernel_rfl)) rfl (fun ac A2 => ?_)
  refine s_one (.int .i64 (n : Int)) A2 S0 (g_built (r := [(0, .slice C n c)]) (by kernel_rfl) (fun _ _ _ => by kernel_rfl)) rfl (fun ac A3 => ?_)
  refine s_one (.slice D n d) A3 S0 (g_move (by kernel_rfl)) rfl (fun ac A4 => ?_)
  refine s_one (.int .i64 (n : Int)) A4 S0 (g_built (r := [(0, .slice D n d)]) (by kernel_rfl) (fun _ _ _ => by kernel_rfl)) rfl (fun ac A5 => ?_)
  refine s_one (.bool (decide ((n : Int) ≠ (n : Int)))) A5 S0 (g_bin (u := .int .i64 (n : Int)) (k := .int .i64 (n : Int)) (by kernel_rfl) (by kernel_rfl) (fun _ => by kernel_rfl) b_neq) rfl (fun ac A6 => ?_)
  refine wpList_nil ?_
  refine n_then ?_
  refine c_f (b := (decide ((n : Int) ≠ (n : Int)))) A6 (by kernel_rfl) (decide_eq_false (fun h => h rfl)) ?_
  refine wp_skip ?_
  refine n_then ?_
  refine wp_seq ?_
  refine wp_seq ?_
  refine wp_region_lit ?_
  refine s_one (.int .i64 0) A6 S0 (g_assign (by kernel_rfl)) rfl (fun ac A7 => ?_)
  refine wpList_nil ?_
  refine n_then ?_
  refine wp_block ?_
  refine c_loopN (fun mm ac wc => ∃ (k : Nat), mm = n - k ∧ (k ≤ n) ∧ Fr 28 ac [(0, .slice C n c), (1, .slice D n d), (6, .slice C n c), (7, .int .i64 (n : Int)), (8, .slice D n d), (9, .int .i64 (n : Int)), (10, .bool (decide ((n : Int) ≠ (n : Int)))), (5, .int .i64 (k : Int))] ∧ St w0 [] [] wc) _ ⟨0, rfl, by omega, (A7.slot (A7.slot (A7.slot (A7.slot (A7.slot (A7.slot (A7.slot (A7.slot A7.nil (v := .int .i64 0) (by kernel_rfl) (congrArg (Value.int .i64) (by omega))) (v := .bool (decide ((n : Int) ≠ (n : Int)))) (by kernel_rfl) rfl) (v := .int .i64 (n : Int)) (by kernel_rfl) rfl) (v := .slice D n d) (by kernel_rfl) rfl) (v := .int .i64 (n : Int)) (by kernel_rfl) rfl) (v := .slice C n c) (by kernel_rfl) rfl) (v := .slice D n d) (by kernel_rfl) rfl) (v := .slice C n c) (by kernel_rfl) rfl), S0.sub sub_all sub_all⟩ ?_
  rintro mm ac wc ⟨k, hm10, hk, A8, S9⟩
  refine wp_seq ?_
  refine wp_seq ?_
  refine wp_region_lit ?_
  refine s_one (.int .i64 (k : Int)) A8 S9 (g_move (by kernel_rfl)) rfl (fun ac A11 => ?_)
  refine s_one (.slice C n c) A11 S9 (g_move (by kernel_rfl)) rfl (fun ac A12 => ?_)
  refine s_one (.int .i64 (n : Int)) A12 S9 (g_built (r := [(0, .slice C n c)]) (by kernel_rfl) (fun _ _ _ => by kernel_rfl)) rfl (fun ac A13 => ?_)
  refine s_one (.bool (decide ((k : Int) < (n : Int)))) A13 S9 (g_bin (u := .int .i64 (k : Int)) (k := .int .i64 (n : Int)) (by kernel_rfl) (by kernel_rfl) (fun _ => by kernel_rfl) (fun _ => by kernel_rfl)) rfl (fun ac A14 => ?_)
  refine wpList_nil ?_
  refine n_then ?_
  refine c_ifb (b := (decide ((k : Int) < (n : Int)))) A14 (by kernel_rfl) (fun h15 => ?_) (fun h15 => ?_)
  · have p16 := of_decide_eq_true h15
    refine wp_skip ?_
    refine n_then ?_
    refine wp_seq ?_
    refine wp_block ?_
    refine wp_seq ?_
    refine r_begin (w0 := w0) (by kernel_rfl) (S9.sub sub_all sub_all) (fun wc T17 B18 => ?_)
    have S19 := S9.kept B18
    refine r_take 0 (.slice C n c) A14 T17 (g_move (by kernel_rfl)) rfl rfl rfl (pf_then (pf_block (pf_then (pf_then (pf_block (pf_then pf_body)))))) (by kernel_rfl) (fun ac A20 => ?_)
    refine r_take 1 (.int .i64 (k : Int)) A20 T17 (g_move (by kernel_rfl)) rfl rfl rfl (pf_then (pf_block (pf_then (pf_then (pf_block (pf_then pf_body)))))) (by kernel_rfl) (fun ac A21 => ?_)
    obtain ⟨ad22, rfl, _⟩ := hC (k) (by have hlen := hn; omega)
    refine r_take 2 (.pointer (some (ad22.add k))) A21 T17 (g_index (u := .slice (some ad22) n c) (k := .int .i64 (k : Int)) (by kernel_rfl) (by kernel_rfl) (ix_x (e := 36) (bytes := 4) k (by kernel_rfl) (by omega) (by omega))) rfl rfl rfl (pf_then (pf_block (pf_then (pf_then (pf_block (pf_then pf_body)))))) (by kernel_rfl) (fun ac A23 => ?_)
    refine r_take 3 (.float .f32 (nth xs k)) A23 T17 (g_loadXF (l := xs) (k := k) (by kernel_rfl) hC (by have hlen := hn; omega) (by kernel_rfl)) rfl rfl rfl (pf_then (pf_block (pf_then (pf_then (pf_block (pf_then pf_body)))))) (by kernel_rfl) (fun ac A24 => ?_)
    refine r_take 4 (.int .u32 ((nth xs k) : Int)) A24 T17 (g_ext (f := 103) (r := [(0, .float .f32 (nth xs k))]) (by kernel_rfl) (by kernel_rfl) (fun _ => by kernel_rfl)) rfl rfl rfl (pf_then (pf_block (pf_then (pf_then (pf_block (pf_then pf_body)))))) (by kernel_rfl) (fun ac A25 => ?_)
    refine r_take 5 (.slice D n d) A25 T17 (g_move (by kernel_rfl)) rfl rfl rfl (pf_then (pf_block (pf_then (pf_then (pf_block (pf_then pf_body)))))) (by kernel_rfl) (fun ac A26 => ?_)
    refine r_take 6 (.int .i64 (k : Int)) A26 T17 (g_move (by kernel_rfl)) rfl rfl rfl (pf_then (pf_block (pf_then (pf_then (pf_block (pf_then pf_body)))))) (by kernel_rfl) (fun ac A27 => ?_)
    obtain ⟨ad28, rfl, _⟩ := hD (k) (by have hlen := hn; omega)
    refine r_take 7 (.pointer (some (ad28.add k))) A27 T17 (g_index (u := .slice (some ad28) n d) (k := .int .i64 (k : Int)) (by kernel_rfl) (by kernel_rfl) (ix_x (e := 36) (bytes := 4) k (by kernel_rfl) (by omega) (by omega))) rfl rfl rfl (pf_then (pf_block (pf_then (pf_then (pf_block (pf_then pf_body)))))) (by kernel_rfl) (fun ac A29 => ?_)
    refine r_take 8 (.float .f32 (nth xs k)) A29 T17 (g_loadXF (l := xs) (k := k) (by kernel_rfl) hD (by have hlen := hn; omega) (by kernel_rfl)) rfl rfl rfl (pf_then (pf_block (pf_then (pf_then (pf_block (pf_then pf_body)))))) (by kernel_rfl) (fun ac A30 => ?_)
    refine r_take 9 (.int .u32 ((nth xs k) : Int)) A30 T17 (g_ext (f := 103) (r := [(0, .float .f32 (nth xs k))]) (by kernel_rfl) (by kernel_rfl) (fun _ => by kernel_rfl)) rfl rfl rfl (pf_then (pf_block (pf_then (pf_then (pf_block (pf_then pf_body)))))) (by kernel_rfl) (fun ac A31 => ?_)
    refine r_take 10 (.bool (decide (((nth xs k) : Int) ≠ ((nth xs k) : Int)))) A31 T17 (g_bin (u := .int .u32 ((nth xs k) : Int)) (k := .int .u32 ((nth xs k) : Int)) (by kernel_rfl) (by kernel_rfl) (fun _ => by kernel_rfl) b_neq) rfl rfl rfl (pf_then (pf_block (pf_then (pf_then (pf_block (pf_then pf_body)))))) (by kernel_rfl) (fun ac A32 => ?_)
    refine r_done (by kernel_rfl) ?_
    refine n_then ?_
    refine c_f (b := (decide (((nth xs k) : Int) ≠ ((nth xs k) : Int)))) A32 (by kernel_rfl) (decide_eq_false (fun h => h rfl)) ?_
    refine wp_skip ?_
    refine n_block ?_
    refine n_then ?_
    refine wp_region_lit ?_
    refine s_one (.int .i64 (k : Int)) A32 S19 (g_move (by kernel_rfl)) rfl (fun ac A33 => ?_)
    refine s_one (.int .i64 ((k : Int) + 1)) A33 S19 (g_bin (u := .int .i64 (k : Int)) (k := .int .i64 1) (by kernel_rfl) (by kernel_rfl) (fun _ => by kernel_rfl) (b_add (by omega))) rfl (fun ac A34 => ?_)
    refine s_one (.int .i64 ((k : Int) + 1)) A34 S19 (g_assign (by kernel_rfl)) rfl (fun ac A35 => ?_)
    refine wpList_nil ?_
    refine n_then ?_
    refine ⟨_, ⟨k + 1, rfl, by omega, (A35.slot (A35.slot (A35.slot (A35.slot (A35.slot (A35.slot (A35.slot (A35.slot A35.nil (v := .int .i64 ((k : Int) + 1)) (by kernel_rfl) (congrArg (Value.int .i64) (by omega))) (v := .bool (decide ((n : Int) ≠ (n : Int)))) (by kernel_rfl) rfl) (v := .int .i64 (n : Int)) (by kernel_rfl) rfl) (v := .slice (some ad28) n d) (by kernel_rfl) (by first | rfl | simp)) (v := .int .i64 (n : Int)) (by kernel_rfl) rfl) (v := .slice (some ad22) n c) (by kernel_rfl) (by first | rfl | simp)) (v := .slice (some ad28) n d) (by kernel_rfl) (by first | rfl | simp)) (v := .slice (some ad22) n c) (by kernel_rfl) (by first | rfl | simp)), S19.sub sub_all sub_all⟩, ?_⟩
    omega
  · have p36 := of_decide_eq_false h15
    refine wp_exit ?_
    refine x_then ?_
    refine x_then ?_
    refine x_hit ?_
    refine n_then ?_
    refine wp_seq ?_
    refine wp_region_lit ?_
    refine s_one (.bool true) A14 S9 (g_assign (by kernel_rfl)) rfl (fun ac A37 => ?_)
    refine wpList_nil ?_
    refine n_then ?_
    refine wp_ret ?_
    refine fin1 (.bool true) Try.results68 A37 S9 (rv_tmp (by kernel_rfl)) ⟨?_, S9.kp⟩
    rfl

set_option maxRecDepth 100000 in
set_option maxHeartbeats 400000 in
theorem SameTrace_s (xs : List Nat) (w0 : World) (hl : xs.length = 64) :
    Calls Try.prog 19 #[.agg (trc xs), .agg (trc xs)] w0 fun e w' => e = .returned (.bool true) ∧ Below w0.heap.size w0 w' := by
  have S0 := St.start w0
  refine enter (n := 8) Try.func19 rfl rfl rfl (fun ac A0 => ?_)
  refine wp_seq ?_
  refine wp_region_lit ?_
  refine s_box (.agg (trc xs)) A0 S0 (by kernel_rfl) rfl (fun g3 ac wc A1 S2 => ?_)
  replace S2 : St _ (⟨g3, 38, (trc xs), true⟩ :: _) _ _ := S2
  refine s_box (.agg (trc xs)) A1 S2 (by kernel_rfl) rfl (fun g7 ac wc A5 S6 => ?_)
  replace S6 : St _ (⟨g7, 38, (trc xs), true⟩ :: _) _ _ := S6
  refine s_one (.bool false) A5 S6 (g_assign (by kernel_rfl)) rfl (fun ac A9 => ?_)
  refine wpList_nil ?_
  refine n_then ?_
  refine wp_seq ?_
  refine r_begin (w0 := w0) (by kernel_rfl) (S6.sub sub_all sub_all) (fun wc T10 B11 => ?_)
  have S12 := S6.kept B11
  refine r_take 0 (.slice (some ⟨g3, 0, none⟩) 64 64) A9 T10 (g_slice (u := .pointer (some ⟨g3, 0, none⟩)) (lo' := none) (hi' := none) (mx' := none) (by kernel_rfl) (by kernel_rfl) (by kernel_rfl) (by kernel_rfl) (fun _ => by kernel_rfl)) rfl rfl rfl (pf_then pf_body) (by kernel_rfl) (fun ac A13 => ?_)
  refine r_take 1 (.slice (some ⟨g7, 0, none⟩) 64 64) A13 T10 (g_slice (u := .pointer (some ⟨g7, 0, none⟩)) (lo' := none) (hi' := none) (mx' := none) (by kernel_rfl) (by kernel_rfl) (by kernel_rfl) (by kernel_rfl) (fun _ => by kernel_rfl)) rfl rfl rfl (pf_then pf_body) (by kernel_rfl) (fun ac A14 => ?_)
  refine r_1 (i := 2) (by kernel_rfl) ?_
  refine rs_call (fs := #[]) (cp := #[]) (r := [(0, .slice (some ⟨g3, 0, none⟩) 64 64), (0, .slice (some ⟨g7, 0, none⟩) 64 64)]) #[.slice (some ⟨g3, 0, none⟩) 64 64, .slice (some ⟨g7, 0, none⟩) 64 64] (.bool true) A14 S12 sub_all sub_all (SameFloats_s xs _ _ 64 64 64 _ hl (by decide) (FReads.of_blk (S12.get 1 rfl)) (FReads.of_blk (S12.get 0 rfl))) Try.call68 rfl rfl (by kernel_rfl) (by kernel_rfl) (by kernel_rfl) rfl (fun ac wc A15 S16 => ?_)
  have T18 := S16.sub sub_all sub_all
  refine r_take 3 (.bool true) A15 T18 (g_assign (by kernel_rfl)) rfl rfl rfl (pf_then pf_body) (by kernel_rfl) (fun ac A19 => ?_)
  refine r_done (by kernel_rfl) ?_
  refine n_then ?_
  refine wp_ret ?_
  refine fin1 (.bool true) Try.results19 A19 S16 (rv_tmp (by kernel_rfl)) ⟨?_, S16.kp⟩
  rfl

theorem SameTrace_eq (xs ys : List Nat) (e : xs = ys) (w : World) (hl : xs.length = 64) : Calls Try.prog 19 #[.agg (trc xs), .agg (trc ys)] w fun en w' => en = .returned (.bool true) ∧ Below w.heap.size w w' := by
  subst e; exact SameTrace_s xs w hl

set_option maxRecDepth 100000 in
set_option maxHeartbeats 400000 in
theorem matrixErr_s (el : Int) (A : Option Addr) (n cap : Nat) (xs : List Nat) (w0 : World) (hn : xs.length = n) (hr : FReads w0 A xs) (hm : n ≤ 1000) :
    Calls Try.prog 63 #[.agg #[.int .i64 el, .slice A n cap]] w0 fun e w' => e = .returned (.int .i64 (mxC el xs).2) ∧ Below w0.heap.size w0 w' := by
  have S0 := St.start w0
  refine enter (n := 11) Try.func63 rfl rfl rfl (fun ac A0 => ?_)
  refine wp_seq ?_
  refine wp_region_lit ?_
  refine s_box (.agg #[.int .i64 el, .slice A n cap]) A0 S0 (by kernel_rfl) rfl (fun g3 ac wc A1 S2 => ?_)
  replace S2 : St _ (⟨g3, 30, #[.int .i64 el, .slice A n cap], true⟩ :: _) _ _ := S2
  refine s_one (.int .i64 0) A1 S2 (g_assign (by kernel_rfl)) rfl (fun ac A5 => ?_)
  refine wpList_nil ?_
  refine n_then ?_
  refine wp_seq ?_
  refine wp_region_lit ?_
  refine s_one (.agg #[.int .i64 el, .slice A n cap]) A5 S2 (g_load (g := g3) (off := 0) 0 (by kernel_rfl) rfl (by kernel_rfl)) rfl (fun ac A6 => ?_)
  refine s_call (fs := #[]) (cp := #[]) (r := [(0, .agg #[.int .i64 el, .slice A n cap])]) #[.agg #[.int .i64 el, .slice A n cap]] (.tuple #[.int .i64 ((mxC el xs).1), .int .i64 ((mxC el xs).2)]) A6 S2 (CheckMatrix_s el A n cap xs _ hn (hr.kept S2.kp) (by omega)) Try.call14 (by kernel_rfl) (by kernel_rfl) (by kernel_rfl) rfl (fun ac wc A7 S8 => ?_)
  refine s_one (.tuple #[.int .i64 ((mxC el xs).1), .int .i64 ((mxC el xs).2)]) A7 S8 (g_move (by kernel_rfl)) rfl (fun ac A10 => ?_)
  refine s_one (.int .i64 ((mxC el xs).1)) A10 S8 (g_extract (u := .tuple #[.int .i64 ((mxC el xs).1), .int .i64 ((mxC el xs).2)]) (by kernel_rfl) (fun _ => by kernel_rfl)) rfl (fun ac A11 => ?_)
  refine s_one (.int .i64 ((mxC el xs).2)) A11 S8 (g_extract (u := .tuple #[.int .i64 ((mxC el xs).1), .int .i64 ((mxC el xs).2)]) (by kernel_rfl) (fun _ => by kernel_rfl)) rfl (fun ac A12 => ?_)
  refine s_one (.int .i64 ((mxC el xs).1)) A12 S8 (g_assign (by kernel_rfl)) rfl (fun ac A13 => ?_)
  refine s_one (.int .i64 ((mxC el xs).2)) A13 S8 (g_assign (by kernel_rfl)) rfl (fun ac A14 => ?_)
  refine wpList_nil ?_
  refine n_then ?_
  refine wp_seq ?_
  refine wp_region_lit ?_
  refine s_one (.int .i64 ((mxC el xs).2)) A14 S8 (g_move (by kernel_rfl)) rfl (fun ac A15 => ?_)
  refine s_one (.int .i64 ((mxC el xs).2)) A15 S8 (g_assign (by kernel_rfl)) rfl (fun ac A16 => ?_)
  refine wpList_nil ?_
  refine n_then ?_
  refine wp_ret ?_
  refine fin1 (.int .i64 ((mxC el xs).2)) Try.results63 A16 S8 (rv_tmp (by kernel_rfl)) ⟨?_, S8.kp⟩
  rfl

set_option maxRecDepth 100000 in
set_option maxHeartbeats 400000 in
theorem pairErr_s (el p q : Int) (A : Option Addr) (n cap : Nat) (w0 : World) (hel : -9223372036854775808 ≤ el ∧ el ≤ 9223372036854775807) :
    Calls Try.prog 64 #[.agg #[.int .i64 el, .slice A n cap], .agg #[.int .i64 p, .int .i64 q]] w0 fun e w' => e = .returned (.int .i64 (pairE el p q)) ∧ Below w0.heap.size w0 w' := by
  have S0 := St.start w0
  refine enter (n := 21) Try.func64 rfl rfl rfl (fun ac A0 => ?_)
  refine wp_seq ?_
  refine wp_region_lit ?_
  refine s_box (.agg #[.int .i64 el, .slice A n cap]) A0 S0 (by kernel_rfl) rfl (fun g3 ac wc A1 S2 => ?_)
  replace S2 : St _ (⟨g3, 30, #[.int .i64 el, .slice A n cap], true⟩ :: _) _ _ := S2
  refine s_box (.agg #[.int .i64 p, .int .i64 q]) A1 S2 (by kernel_rfl) rfl (fun g7 ac wc A5 S6 => ?_)
  replace S6 : St _ (⟨g7, 26, #[.int .i64 p, .int .i64 q], true⟩ :: _) _ _ := S6
  refine s_one (.int .i64 0) A5 S6 (g_assign (by kernel_rfl)) rfl (fun ac A9 => ?_)
  refine wpList_nil ?_
  refine n_then ?_
  refine wp_seq ?_
  refine wp_seq ?_
  refine wp_region_lit ?_
  refine s_one (.pointer (some ⟨g7, 0, none⟩)) A9 S6 (g_index (u := .pointer (some ⟨g7, 0, none⟩)) (k := .int .i64 0) (by kernel_rfl) (by kernel_rfl) (fun _ => by kernel_rfl)) rfl (fun ac A10 => ?_)
  refine s_one (.int .i64 p) A10 S6 (g_load (g := g7) (off := 0) 0 (by kernel_rfl) rfl (by kernel_rfl)) rfl (fun ac A11 => ?_)
  refine s_one (.pointer (some ⟨g3, 0, none⟩)) A11 S6 (g_field (u := .pointer (some ⟨g3, 0, none⟩)) (by kernel_rfl) (fun _ => by kernel_rfl)) rfl (fun ac A12 => ?_)
  refine s_one (.int .i64 el) A12 S6 (g_load (g := g3) (off := 0) 1 (by kernel_rfl) rfl (by kernel_rfl)) rfl (fun ac A13 => ?_)
  refine s_one (.int .i64 (el1 el)) A13 S6 (g_bin (u := .int .i64 el) (k := .int .i64 1) (by kernel_rfl) (by kernel_rfl) (fun _ => by kernel_rfl) (sub_el1 hel)) rfl (fun ac A14 => ?_)
  refine s_call (fs := #[]) (cp := #[]) (r := [(0, .int .i64 p), (0, .int .i64 0), (0, .int .i64 (el1 el))]) #[.int .i64 p, .int .i64 0, .int .i64 (el1 el)] (.bool (inB p 0 (el1 el))) A14 S6 (sameB (within_any p 0 (el1 el) _)) Try.call60 (by kernel_rfl) (by kernel_rfl) (by kernel_rfl) rfl (fun ac wc A15 S16 => ?_)
  refine s_one (.bool (!(inB p 0 (el1 el)))) A15 S16 (g_un (u := .bool (inB p 0 (el1 el))) (by kernel_rfl) (fun _ => by kernel_rfl)) rfl (fun ac A18 => ?_)
  refine s_one (.bool (!(inB p 0 (el1 el)))) A18 S16 (g_move (by kernel_rfl)) rfl (fun ac A19 => ?_)
  refine by_bool (!(inB p 0 (el1 el))) (fun h20 => ?_) (fun h20 => ?_)
  · have h21 : inB p 0 (el1 el) = false := by simpa using h20
    refine s_not (dj := 12) (b := (!(inB p 0 (el1 el)))) A19 (by kernel_rfl) (by kernel_rfl) h20 rfl (fun ac A22 => ?_)
    refine s_not (dj := 12) (b := (!(inB p 0 (el1 el)))) A22 (by kernel_rfl) (by kernel_rfl) h20 rfl (fun ac A23 => ?_)
    refine s_not (dj := 12) (b := (!(inB p 0 (el1 el)))) A23 (by kernel_rfl) (by kernel_rfl) h20 rfl (fun ac A24 => ?_)
    refine s_not (dj := 12) (b := (!(inB p 0 (el1 el)))) A24 (by kernel_rfl) (by kernel_rfl) h20 rfl (fun ac A25 => ?_)
    refine s_not (dj := 12) (b := (!(inB p 0 (el1 el)))) A25 (by kernel_rfl) (by kernel_rfl) h20 rfl (fun ac A26 => ?_)
    refine s_not (dj := 12) (b := (!(inB p 0 (el1 el)))) A26 (by kernel_rfl) (by kernel_rfl) h20 rfl (fun ac A27 => ?_)
    refine s_not (dj := 12) (b := (!(inB p 0 (el1 el)))) A27 (by kernel_rfl) (by kernel_rfl) h20 rfl (fun ac A28 => ?_)
    refine s_one (.bool true) A28 S16 (g_pick_t (b := (!(inB p 0 (el1 el)))) (by kernel_rfl) h20 (by kernel_rfl)) rfl (fun ac A29 => ?_)
    refine wpList_nil ?_
    refine n_then ?_
    refine c_t (b := true) A29 (by kernel_rfl) rfl ?_
    refine wp_seq ?_
    refine wp_region_lit ?_
    refine s_one (.int .i64 6) A29 S16 (g_assign (by kernel_rfl)) rfl (fun ac A30 => ?_)
    refine wpList_nil ?_
    refine n_then ?_
    refine wp_ret ?_
    refine r_then ?_
    refine fin1 (.int .i64 6) Try.results64 A30 S16 (rv_tmp (by kernel_rfl)) ⟨?_, S16.kp⟩
    rw [pairE_1 h21]
  · have h31 : inB p 0 (el1 el) = true := by simpa using h20
    refine s_want (dj := 12) (b := (!(inB p 0 (el1 el)))) A19 (by kernel_rfl) (by kernel_rfl) h20 ?_
    refine s_one (.pointer (some ⟨g7, 1, none⟩)) A19 S16 (g_index (u := .pointer (some ⟨g7, 0, none⟩)) (k := .int .i64 1) (by kernel_rfl) (by kernel_rfl) (fun _ => by kernel_rfl)) rfl (fun ac A32 => ?_)
    refine s_want (dj := 12) (b := (!(inB p 0 (el1 el)))) A32 (by kernel_rfl) (by kernel_rfl) h20 ?_
    refine s_one (.int .i64 q) A32 S16 (g_load (g := g7) (off := 1) 0 (by kernel_rfl) rfl (by kernel_rfl)) rfl (fun ac A33 => ?_)
    refine s_want (dj := 12) (b := (!(inB p 0 (el1 el)))) A33 (by kernel_rfl) (by kernel_rfl) h20 ?_
    refine s_one (.pointer (some ⟨g3, 0, none⟩)) A33 S16 (g_field (u := .pointer (some ⟨g3, 0, none⟩)) (by kernel_rfl) (fun _ => by kernel_rfl)) rfl (fun ac A34 => ?_)
    refine s_want (dj := 12) (b := (!(inB p 0 (el1 el)))) A34 (by kernel_rfl) (by kernel_rfl) h20 ?_
    refine s_one (.int .i64 el) A34 S16 (g_load (g := g3) (off := 0) 1 (by kernel_rfl) rfl (by kernel_rfl)) rfl (fun ac A35 => ?_)
    refine s_want (dj := 12) (b := (!(inB p 0 (el1 el)))) A35 (by kernel_rfl) (by kernel_rfl) h20 ?_
    refine s_one (.int .i64 (el1 el)) A35 S16 (g_bin (u := .int .i64 el) (k := .int .i64 1) (by kernel_rfl) (by kernel_rfl) (fun _ => by kernel_rfl) (sub_el1 hel)) rfl (fun ac A36 => ?_)
    refine s_want (dj := 12) (b := (!(inB p 0 (el1 el)))) A36 (by kernel_rfl) (by kernel_rfl) h20 ?_
    refine s_call (fs := #[]) (cp := #[]) (r := [(0, .int .i64 q), (0, .int .i64 0), (0, .int .i64 (el1 el))]) #[.int .i64 q, .int .i64 0, .int .i64 (el1 el)] (.bool (inB q 0 (el1 el))) A36 S16 (sameB (within_any q 0 (el1 el) _)) Try.call60 (by kernel_rfl) (by kernel_rfl) (by kernel_rfl) rfl (fun ac wc A37 S38 => ?_)
    refine s_want (dj := 12) (b := (!(inB p 0 (el1 el)))) A37 (by kernel_rfl) (by kernel_rfl) h20 ?_
    refine s_one (.bool (!(inB q 0 (el1 el)))) A37 S38 (g_un (u := .bool (inB q 0 (el1 el))) (by kernel_rfl) (fun _ => by kernel_rfl)) rfl (fun ac A40 => ?_)
    refine s_one (.bool (!(inB q 0 (el1 el)))) A40 S38 (g_pick_f (b := (!(inB p 0 (el1 el)))) (by kernel_rfl) h20 (by kernel_rfl)) rfl (fun ac A41 => ?_)
    refine wpList_nil ?_
    refine n_then ?_
    refine c_ifb (b := (!(inB q 0 (el1 el)))) A41 (by kernel_rfl) (fun h42 => ?_) (fun h42 => ?_)
    · have h43 : inB q 0 (el1 el) = false := by simpa using h42
      refine wp_seq ?_
      refine wp_region_lit ?_
      refine s_one (.int .i64 6) A41 S38 (g_assign (by kernel_rfl)) rfl (fun ac A44 => ?_)
      refine wpList_nil ?_
      refine n_then ?_
      refine wp_ret ?_
      refine r_then ?_
      refine fin1 (.int .i64 6) Try.results64 A44 S38 (rv_tmp (by kernel_rfl)) ⟨?_, S38.kp⟩
      rw [pairE_2 h43]
    · have h45 : inB q 0 (el1 el) = true := by simpa using h42
      refine wp_skip ?_
      refine n_then ?_
      refine wp_seq ?_
      refine wp_region_lit ?_
      refine s_one (.int .i64 0) A41 S38 (g_assign (by kernel_rfl)) rfl (fun ac A46 => ?_)
      refine wpList_nil ?_
      refine n_then ?_
      refine wp_ret ?_
      refine fin1 (.int .i64 0) Try.results64 A46 S38 (rv_tmp (by kernel_rfl)) ⟨?_, S38.kp⟩
      rw [pairE_y h31 h45]

set_option maxRecDepth 100000 in
set_option maxHeartbeats 400000 in
theorem refPairErr_s (el p q : Int) (A : Option Addr) (n cap : Nat) (w0 : World) (hel : -9223372036854775808 ≤ el ∧ el ≤ 9223372036854775807) :
    Calls Try.prog 18 #[.agg #[.int .i64 el, .slice A n cap], .agg #[.int .i64 p, .int .i64 q]] w0 fun e w' => e = .returned (.int .i64 (pairE el p q)) ∧ Below w0.heap.size w0 w' := by
  have S0 := St.start w0
  refine enter (n := 21) Try.func18 rfl rfl rfl (fun ac A0 => ?_)
  refine wp_seq ?_
  refine wp_region_lit ?_
  refine s_box (.agg #[.int .i64 el, .slice A n cap]) A0 S0 (by kernel_rfl) rfl (fun g3 ac wc A1 S2 => ?_)
  replace S2 : St _ (⟨g3, 30, #[.int .i64 el, .slice A n cap], true⟩ :: _) _ _ := S2
  refine s_box (.agg #[.int .i64 p, .int .i64 q]) A1 S2 (by kernel_rfl) rfl (fun g7 ac wc A5 S6 => ?_)
  replace S6 : St _ (⟨g7, 26, #[.int .i64 p, .int .i64 q], true⟩ :: _) _ _ := S6
  refine s_one (.int .i64 0) A5 S6 (g_assign (by kernel_rfl)) rfl (fun ac A9 => ?_)
  refine wpList_nil ?_
  refine n_then ?_
  refine wp_seq ?_
  refine wp_seq ?_
  refine wp_region_lit ?_
  refine s_one (.pointer (some ⟨g7, 0, none⟩)) A9 S6 (g_index (u := .pointer (some ⟨g7, 0, none⟩)) (k := .int .i64 0) (by kernel_rfl) (by kernel_rfl) (fun _ => by kernel_rfl)) rfl (fun ac A10 => ?_)
  refine s_one (.int .i64 p) A10 S6 (g_load (g := g7) (off := 0) 0 (by kernel_rfl) rfl (by kernel_rfl)) rfl (fun ac A11 => ?_)
  refine s_one (.pointer (some ⟨g3, 0, none⟩)) A11 S6 (g_field (u := .pointer (some ⟨g3, 0, none⟩)) (by kernel_rfl) (fun _ => by kernel_rfl)) rfl (fun ac A12 => ?_)
  refine s_one (.int .i64 el) A12 S6 (g_load (g := g3) (off := 0) 1 (by kernel_rfl) rfl (by kernel_rfl)) rfl (fun ac A13 => ?_)
  refine s_one (.int .i64 (el1 el)) A13 S6 (g_bin (u := .int .i64 el) (k := .int .i64 1) (by kernel_rfl) (by kernel_rfl) (fun _ => by kernel_rfl) (sub_el1 hel)) rfl (fun ac A14 => ?_)
  refine s_call (fs := #[]) (cp := #[]) (r := [(0, .int .i64 p), (0, .int .i64 0), (0, .int .i64 (el1 el))]) #[.int .i64 p, .int .i64 0, .int .i64 (el1 el)] (.bool (inB p 0 (el1 el))) A14 S6 (sameB (Within_any p 0 (el1 el) _)) Try.call39 (by kernel_rfl) (by kernel_rfl) (by kernel_rfl) rfl (fun ac wc A15 S16 => ?_)
  refine s_one (.bool (!(inB p 0 (el1 el)))) A15 S16 (g_un (u := .bool (inB p 0 (el1 el))) (by kernel_rfl) (fun _ => by kernel_rfl)) rfl (fun ac A18 => ?_)
  refine s_one (.bool (!(inB p 0 (el1 el)))) A18 S16 (g_move (by kernel_rfl)) rfl (fun ac A19 => ?_)
  refine by_bool (!(inB p 0 (el1 el))) (fun h20 => ?_) (fun h20 => ?_)
  · have h21 : inB p 0 (el1 el) = false := by simpa using h20
    refine s_not (dj := 12) (b := (!(inB p 0 (el1 el)))) A19 (by kernel_rfl) (by kernel_rfl) h20 rfl (fun ac A22 => ?_)
    refine s_not (dj := 12) (b := (!(inB p 0 (el1 el)))) A22 (by kernel_rfl) (by kernel_rfl) h20 rfl (fun ac A23 => ?_)
    refine s_not (dj := 12) (b := (!(inB p 0 (el1 el)))) A23 (by kernel_rfl) (by kernel_rfl) h20 rfl (fun ac A24 => ?_)
    refine s_not (dj := 12) (b := (!(inB p 0 (el1 el)))) A24 (by kernel_rfl) (by kernel_rfl) h20 rfl (fun ac A25 => ?_)
    refine s_not (dj := 12) (b := (!(inB p 0 (el1 el)))) A25 (by kernel_rfl) (by kernel_rfl) h20 rfl (fun ac A26 => ?_)
    refine s_not (dj := 12) (b := (!(inB p 0 (el1 el)))) A26 (by kernel_rfl) (by kernel_rfl) h20 rfl (fun ac A27 => ?_)
    refine s_not (dj := 12) (b := (!(inB p 0 (el1 el)))) A27 (by kernel_rfl) (by kernel_rfl) h20 rfl (fun ac A28 => ?_)
    refine s_one (.bool true) A28 S16 (g_pick_t (b := (!(inB p 0 (el1 el)))) (by kernel_rfl) h20 (by kernel_rfl)) rfl (fun ac A29 => ?_)
    refine wpList_nil ?_
    refine n_then ?_
    refine c_t (b := true) A29 (by kernel_rfl) rfl ?_
    refine wp_seq ?_
    refine wp_region_lit ?_
    refine s_one (.int .i64 6) A29 S16 (g_assign (by kernel_rfl)) rfl (fun ac A30 => ?_)
    refine wpList_nil ?_
    refine n_then ?_
    refine wp_ret ?_
    refine r_then ?_
    refine fin1 (.int .i64 6) Try.results18 A30 S16 (rv_tmp (by kernel_rfl)) ⟨?_, S16.kp⟩
    rw [pairE_1 h21]
  · have h31 : inB p 0 (el1 el) = true := by simpa using h20
    refine s_want (dj := 12) (b := (!(inB p 0 (el1 el)))) A19 (by kernel_rfl) (by kernel_rfl) h20 ?_
    refine s_one (.pointer (some ⟨g7, 1, none⟩)) A19 S16 (g_index (u := .pointer (some ⟨g7, 0, none⟩)) (k := .int .i64 1) (by kernel_rfl) (by kernel_rfl) (fun _ => by kernel_rfl)) rfl (fun ac A32 => ?_)
    refine s_want (dj := 12) (b := (!(inB p 0 (el1 el)))) A32 (by kernel_rfl) (by kernel_rfl) h20 ?_
    refine s_one (.int .i64 q) A32 S16 (g_load (g := g7) (off := 1) 0 (by kernel_rfl) rfl (by kernel_rfl)) rfl (fun ac A33 => ?_)
    refine s_want (dj := 12) (b := (!(inB p 0 (el1 el)))) A33 (by kernel_rfl) (by kernel_rfl) h20 ?_
    refine s_one (.pointer (some ⟨g3, 0, none⟩)) A33 S16 (g_field (u := .pointer (some ⟨g3, 0, none⟩)) (by kernel_rfl) (fun _ => by kernel_rfl)) rfl (fun ac A34 => ?_)
    refine s_want (dj := 12) (b := (!(inB p 0 (el1 el)))) A34 (by kernel_rfl) (by kernel_rfl) h20 ?_
    refine s_one (.int .i64 el) A34 S16 (g_load (g := g3) (off := 0) 1 (by kernel_rfl) rfl (by kernel_rfl)) rfl (fun ac A35 => ?_)
    refine s_want (dj := 12) (b := (!(inB p 0 (el1 el)))) A35 (by kernel_rfl) (by kernel_rfl) h20 ?_
    refine s_one (.int .i64 (el1 el)) A35 S16 (g_bin (u := .int .i64 el) (k := .int .i64 1) (by kernel_rfl) (by kernel_rfl) (fun _ => by kernel_rfl) (sub_el1 hel)) rfl (fun ac A36 => ?_)
    refine s_want (dj := 12) (b := (!(inB p 0 (el1 el)))) A36 (by kernel_rfl) (by kernel_rfl) h20 ?_
    refine s_call (fs := #[]) (cp := #[]) (r := [(0, .int .i64 q), (0, .int .i64 0), (0, .int .i64 (el1 el))]) #[.int .i64 q, .int .i64 0, .int .i64 (el1 el)] (.bool (inB q 0 (el1 el))) A36 S16 (sameB (Within_any q 0 (el1 el) _)) Try.call39 (by kernel_rfl) (by kernel_rfl) (by kernel_rfl) rfl (fun ac wc A37 S38 => ?_)
    refine s_want (dj := 12) (b := (!(inB p 0 (el1 el)))) A37 (by kernel_rfl) (by kernel_rfl) h20 ?_
    refine s_one (.bool (!(inB q 0 (el1 el)))) A37 S38 (g_un (u := .bool (inB q 0 (el1 el))) (by kernel_rfl) (fun _ => by kernel_rfl)) rfl (fun ac A40 => ?_)
    refine s_one (.bool (!(inB q 0 (el1 el)))) A40 S38 (g_pick_f (b := (!(inB p 0 (el1 el)))) (by kernel_rfl) h20 (by kernel_rfl)) rfl (fun ac A41 => ?_)
    refine wpList_nil ?_
    refine n_then ?_
    refine c_ifb (b := (!(inB q 0 (el1 el)))) A41 (by kernel_rfl) (fun h42 => ?_) (fun h42 => ?_)
    · have h43 : inB q 0 (el1 el) = false := by simpa using h42
      refine wp_seq ?_
      refine wp_region_lit ?_
      refine s_one (.int .i64 6) A41 S38 (g_assign (by kernel_rfl)) rfl (fun ac A44 => ?_)
      refine wpList_nil ?_
      refine n_then ?_
      refine wp_ret ?_
      refine r_then ?_
      refine fin1 (.int .i64 6) Try.results18 A44 S38 (rv_tmp (by kernel_rfl)) ⟨?_, S38.kp⟩
      rw [pairE_2 h43]
    · have h45 : inB q 0 (el1 el) = true := by simpa using h42
      refine wp_skip ?_
      refine n_then ?_
      refine wp_seq ?_
      refine wp_region_lit ?_
      refine s_one (.int .i64 0) A41 S38 (g_assign (by kernel_rfl)) rfl (fun ac A46 => ?_)
      refine wpList_nil ?_
      refine n_then ?_
      refine wp_ret ?_
      refine fin1 (.int .i64 0) Try.results18 A46 S38 (rv_tmp (by kernel_rfl)) ⟨?_, S38.kp⟩
      rw [pairE_y h31 h45]

def toI (el p q : Int) : Nat := ((p * el + q) * 64).toNat
/-- The trace of a pair, or none. -/
def toF (el : Int) (xs : List Nat) (p q : Int) : List Nat := if firstOf [(mxC el xs).2, pairE el p q] = 0 then mkT (nums (cutF xs (toI el p q) 64)) 64 else zT
theorem toF_y {el : Int} {xs : List Nat} {p q : Int} (h : firstOf [(mxC el xs).2, pairE el p q] = 0) : toF el xs p q = mkT (nums (cutF xs (toI el p q) 64)) 64 := if_pos h
theorem toF_n {el : Int} {xs : List Nat} {p q : Int} (h : firstOf [(mxC el xs).2, pairE el p q] ≠ 0) : toF el xs p q = zT := if_neg h
theorem toF_length (el : Int) (xs : List Nat) (p q : Int) : (toF el xs p q).length = 64 := by
  unfold toF; split
  · exact done_length _ _ _ _
  · exact zT_length
theorem cut_right {xs : List Nat} (h : Right xs) {i n : Nat} (hi : i + n ≤ xs.length) : Right (cutF xs i n) := by
  intro x hx
  simp only [cutF, List.mem_map, List.mem_range] at hx
  obtain ⟨k, hk, rfl⟩ := hx
  exact h.at_ (by omega)

set_option maxRecDepth 100000 in
set_option maxHeartbeats 400000 in
theorem TraceOf_s (el : Int) (A : Option Addr) (n cap : Nat) (xs : List Nat) (p q : Int) (w0 : World) (hn : xs.length = n) (hr : FReads w0 A xs) (hm : n ≤ 1000) (hel : -9223372036854775808 ≤ el ∧ el ≤ 9223372036854775807) (hcp : n ≤ cap) :
    Calls Try.prog 16 #[.agg #[.int .i64 el, .slice A n cap], .agg #[.int .i64 p, .int .i64 q]] w0 fun e w' => e = .returned (.tuple #[.agg (trc (toF el xs p q)), .int .i64 (firstOf [(mxC el xs).2, pairE el p q])]) ∧ Below w0.heap.size w0 w' := by
  have S0 := St.start w0
  refine enter (n := 39) Try.func16 rfl rfl rfl (fun ac A0 => ?_)
  refine wp_seq ?_
  refine wp_region_lit ?_
  refine s_box (.agg #[.int .i64 el, .slice A n cap]) A0 S0 (by kernel_rfl) rfl (fun g3 ac wc A1 S2 => ?_)
  replace S2 : St _ (⟨g3, 30, #[.int .i64 el, .slice A n cap], true⟩ :: _) _ _ := S2
  refine s_box (.agg #[.int .i64 p, .int .i64 q]) A1 S2 (by kernel_rfl) rfl (fun g7 ac wc A5 S6 => ?_)
  replace S6 : St _ (⟨g7, 26, #[.int .i64 p, .int .i64 q], true⟩ :: _) _ _ := S6
  refine s_alloc (trc zT) A5 S6 zero26 rfl (fun g11 ac wc A9 S10 => ?_)
  refine s_one (.int .i64 0) A9 S10 (g_assign (by kernel_rfl)) rfl (fun ac A12 => ?_)
  refine wpList_nil ?_
  refine n_then ?_
  refine wp_seq ?_
  refine wp_seq ?_
  refine r_begin (w0 := w0) (by kernel_rfl) (S10.sub sub_all sub_all) (fun wc T13 B14 => ?_)
  have S15 := S10.kept B14
  refine r_take 0 (.agg #[.int .i64 el, .slice A n cap]) A12 T13 (g_load (g := g3) (off := 0) 2 (by kernel_rfl) rfl (by kernel_rfl)) rfl rfl rfl (pf_then (pf_then pf_body)) (by kernel_rfl) (fun ac A16 => ?_)
  refine r_take 2 (.agg #[.int .i64 el, .slice A n cap]) A16 T13 (g_load (g := g3) (off := 0) 2 (by kernel_rfl) rfl (by kernel_rfl)) rfl rfl rfl (pf_then (pf_then pf_body)) (by kernel_rfl) (fun ac A17 => ?_)
  refine r_take 3 (.agg #[.int .i64 p, .int .i64 q]) A17 T13 (g_load (g := g7) (off := 0) 1 (by kernel_rfl) rfl (by kernel_rfl)) rfl rfl rfl (pf_then (pf_then pf_body)) (by kernel_rfl) (fun ac A18 => ?_)
  refine r_1 (i := 1) (by kernel_rfl) ?_
  refine rs_call (fs := #[]) (cp := #[]) (r := [(0, .agg #[.int .i64 el, .slice A n cap])]) #[.agg #[.int .i64 el, .slice A n cap]] (.int .i64 ((mxC el xs).2)) A18 S15 sub_all sub_all (matrixErr_s el A n cap xs _ hn (hr.kept S15.kp) (by omega)) Try.call63 rfl rfl (by kernel_rfl) (by kernel_rfl) (by kernel_rfl) rfl (fun ac wc A19 S20 => ?_)
  have T22 := S20.sub sub_all sub_all
  refine r_1 (i := 4) (by kernel_rfl) ?_
  refine rs_call (fs := #[]) (cp := #[]) (r := [(0, .agg #[.int .i64 el, .slice A n cap]), (0, .agg #[.int .i64 p, .int .i64 q])]) #[.agg #[.int .i64 el, .slice A n cap], .agg #[.int .i64 p, .int .i64 q]] (.int .i64 (pairE el p q)) A19 S20 sub_all sub_all (pairErr_s el p q A n cap _ (by omega)) Try.call64 rfl rfl (by kernel_rfl) (by kernel_rfl) (by kernel_rfl) rfl (fun ac wc A23 S24 => ?_)
  have T26 := S24.sub sub_all sub_all
  refine r_1 (i := 5) (by kernel_rfl) ?_
  refine rs_bs (e := 32) (r := [(0, .int .i64 ((mxC el xs).2)), (1, .int .i64 (pairE el p q))]) (#[.int .i64 ((mxC el xs).2), .int .i64 (pairE el p q)]) A23 S24 sub_all sub_all (by kernel_rfl) (by kernel_rfl) rfl rfl rfl (fun g29 ac wc A27 S28 => ?_)
  have T30 := S28.sub (sub_skip sub_all) sub_all
  refine r_1 (i := 6) (by kernel_rfl) ?_
  refine rs_call (fs := #[]) (cp := #[]) (r := [(0, .slice (some ⟨g29, 0, none⟩) 2 2)]) #[.slice (some ⟨g29, 0, none⟩) 2 2] (.int .i64 (firstOf [(mxC el xs).2, pairE el p q])) A27 S28 (sub_skip sub_all) sub_all (sameB (first_any g29 32 2 [(mxC el xs).2, pairE el p q] 2 _ (S28.get 0 rfl) rfl (by omega))) Try.call62 rfl rfl (by kernel_rfl) (by kernel_rfl) (by kernel_rfl) rfl (fun ac wc A31 S32 => ?_)
  have T34 := S32.sub (sub_skip sub_all) sub_all
  refine r_take 7 (.int .i64 (firstOf [(mxC el xs).2, pairE el p q])) A31 T34 (g_assign (by kernel_rfl)) rfl rfl rfl (pf_then (pf_then pf_body)) (by kernel_rfl) (fun ac A35 => ?_)
  refine r_done (by kernel_rfl) ?_
  refine n_then ?_
  refine wp_seq ?_
  refine wp_region_lit ?_
  refine s_one (.int .i64 (firstOf [(mxC el xs).2, pairE el p q])) A35 S32 (g_move (by kernel_rfl)) rfl (fun ac A36 => ?_)
  refine s_one (.bool (decide (firstOf [(mxC el xs).2, pairE el p q] ≠ 0))) A36 S32 (g_bin (u := .int .i64 (firstOf [(mxC el xs).2, pairE el p q])) (k := .int .i64 0) (by kernel_rfl) (by kernel_rfl) (fun _ => by kernel_rfl) b_neq) rfl (fun ac A37 => ?_)
  refine wpList_nil ?_
  refine n_then ?_
  refine c_ifb (b := (decide (firstOf [(mxC el xs).2, pairE el p q] ≠ 0))) A37 (by kernel_rfl) (fun h38 => ?_) (fun h38 => ?_)
  · have p39 := of_decide_eq_true h38
    have hz : firstOf [(mxC el xs).2, pairE el p q] ≠ 0 := of_decide_eq_true h38
    refine wp_seq ?_
    refine wp_region_lit ?_
    refine s_one (.agg (trc zT)) A37 S32 (g_build (r := []) (by kernel_rfl) (fun _ => by kernel_rfl)) rfl (fun ac A40 => ?_)
    refine s_one (.int .i64 (firstOf [(mxC el xs).2, pairE el p q])) A40 S32 (g_move (by kernel_rfl)) rfl (fun ac A41 => ?_)
    refine s_store (g := g11) (off := 0) (v := .agg (trc zT)) 1 (trc zT) A41 S32 (by kernel_rfl) (by kernel_rfl) rfl (putVal_whole ((trc_size _).trans zT_length) ((trc_size _).trans zT_length) ⟨⟨_, Try.underlying38, rfl⟩, by kernel_rfl⟩ (trc_one _)) (fun wc S43 => ?_)
    refine s_one (.int .i64 (firstOf [(mxC el xs).2, pairE el p q])) A41 S43 (g_assign (by kernel_rfl)) rfl (fun ac A45 => ?_)
    refine wpList_nil ?_
    refine n_then ?_
    refine wp_ret ?_
    refine r_then ?_
    refine fin2 (.agg (trc zT)) (.int .i64 (firstOf [(mxC el xs).2, pairE el p q])) Try.results16 A45 S43 (rv_cell (g := g11) (off := 0) 1 (by kernel_rfl) rfl (rowVal_whole ((trc_size _).trans zT_length) ⟨⟨_, Try.underlying38, rfl⟩, by kernel_rfl⟩)) (rv_tmp (by kernel_rfl)) ⟨?_, S43.kp⟩
    rw [toF_n hz]
  · have p46 := of_decide_eq_false h38
    have hz : firstOf [(mxC el xs).2, pairE el p q] = 0 := by simpa using h38
    obtain ⟨z1, z2⟩ := firstOf_two hz
    obtain ⟨he1, he2, he3⟩ := mxC_0 z1
    obtain ⟨hp, hq⟩ := pairE_0 he1 z2
    have hsq := sq_bd he1
    have hpa := pair_at he1 hp hq
    have hti : toI el p q = ((p * el + q) * 64).toNat := rfl
    have HC := cut_right (right_of he3) (i := ((p * el + q) * 64).toNat) (n := 64) (by omega)
    refine wp_skip ?_
    refine n_then ?_
    refine wp_seq ?_
    refine wp_region_lit ?_
    refine s_one (.pointer (some ⟨g7, 0, none⟩)) A37 S32 (g_index (u := .pointer (some ⟨g7, 0, none⟩)) (k := .int .i64 0) (by kernel_rfl) (by kernel_rfl) (fun _ => by kernel_rfl)) rfl (fun ac A47 => ?_)
    refine s_one (.int .i64 p) A47 S32 (g_load (g := g7) (off := 0) 2 (by kernel_rfl) rfl (by kernel_rfl)) rfl (fun ac A48 => ?_)
    refine s_one (.pointer (some ⟨g3, 0, none⟩)) A48 S32 (g_field (u := .pointer (some ⟨g3, 0, none⟩)) (by kernel_rfl) (fun _ => by kernel_rfl)) rfl (fun ac A49 => ?_)
    refine s_one (.int .i64 el) A49 S32 (g_load (g := g3) (off := 0) 3 (by kernel_rfl) rfl (by kernel_rfl)) rfl (fun ac A50 => ?_)
    refine s_one (.int .i64 (p * el)) A50 S32 (g_bin (u := .int .i64 p) (k := .int .i64 el) (by kernel_rfl) (by kernel_rfl) (fun _ => by kernel_rfl) (b_mul (by omega))) rfl (fun ac A51 => ?_)
    refine s_one (.pointer (some ⟨g7, 1, none⟩)) A51 S32 (g_index (u := .pointer (some ⟨g7, 0, none⟩)) (k := .int .i64 1) (by kernel_rfl) (by kernel_rfl) (fun _ => by kernel_rfl)) rfl (fun ac A52 => ?_)
    refine s_one (.int .i64 q) A52 S32 (g_load (g := g7) (off := 1) 2 (by kernel_rfl) rfl (by kernel_rfl)) rfl (fun ac A53 => ?_)
    refine s_one (.int .i64 (p * el + q)) A53 S32 (g_bin (u := .int .i64 (p * el)) (k := .int .i64 q) (by kernel_rfl) (by kernel_rfl) (fun _ => by kernel_rfl) (b_add (by omega))) rfl (fun ac A54 => ?_)
    refine s_one (.int .i64 ((p * el + q) * 64)) A54 S32 (g_bin (u := .int .i64 (p * el + q)) (k := .int .i64 64) (by kernel_rfl) (by kernel_rfl) (fun _ => by kernel_rfl) (b_mul (by omega))) rfl (fun ac A55 => ?_)
    refine s_one (.int .i64 ((p * el + q) * 64)) A55 S32 (g_assign (by kernel_rfl)) rfl (fun ac A56 => ?_)
    refine wpList_nil ?_
    refine n_then ?_
    refine wp_seq ?_
    refine wp_region_lit ?_
    refine s_one (.pointer (some ⟨g3, 1, none⟩)) A56 S32 (g_field (u := .pointer (some ⟨g3, 0, none⟩)) (by kernel_rfl) (fun _ => by kernel_rfl)) rfl (fun ac A57 => ?_)
    refine s_one (.slice A n cap) A57 S32 (g_load (g := g3) (off := 1) 3 (by kernel_rfl) rfl (by kernel_rfl)) rfl (fun ac A58 => ?_)
    refine s_one (.int .i64 ((p * el + q) * 64)) A58 S32 (g_move (by kernel_rfl)) rfl (fun ac A59 => ?_)
    refine s_one (.int .i64 ((p * el + q) * 64)) A59 S32 (g_move (by kernel_rfl)) rfl (fun ac A60 => ?_)
    refine s_one (.int .i64 ((p * el + q) * 64 + 64)) A60 S32 (g_bin (u := .int .i64 ((p * el + q) * 64)) (k := .int .i64 64) (by kernel_rfl) (by kernel_rfl) (fun _ => by kernel_rfl) (b_add (by omega))) rfl (fun ac A61 => ?_)
    obtain ⟨ad62, rfl, _⟩ := hr (((p * el + q) * 64).toNat) (by have hlen := hn; omega)
    refine s_one (.slice (some (ad62.add (((p * el + q) * 64).toNat))) ((((p * el + q) * 64 + 64).toNat) - (((p * el + q) * 64).toNat)) (cap - (((p * el + q) * 64).toNat))) A61 S32 (g_slice (u := .slice (some ad62) n cap) (lo' := (some (.int .i64 ((p * el + q) * 64)))) (hi' := (some (.int .i64 ((p * el + q) * 64 + 64)))) (mx' := none) (by kernel_rfl) (by kernel_rfl) (by kernel_rfl) (by kernel_rfl) (sl_x (e := 36) (b := 4) (i := ((p * el + q) * 64).toNat) (h := ((p * el + q) * 64 + 64).toNat) (by kernel_rfl) (by omega) (by omega) (by omega) (by omega) (by omega))) rfl (fun ac A63 => ?_)
    refine s_one (.pointer (some (ad62.add (((p * el + q) * 64).toNat)))) A63 S32 (g_s2a (u := .slice (some (ad62.add (((p * el + q) * 64).toNat))) ((((p * el + q) * 64 + 64).toNat) - (((p * el + q) * 64).toNat)) (cap - (((p * el + q) * 64).toNat))) (by kernel_rfl) (arr_x Try.underlying38 (by omega))) rfl (fun ac A64 => ?_)
    refine s_one (.agg (trc (cutF xs (((p * el + q) * 64).toNat) 64))) A64 S32 (g_loadXA (l := xs) (i := ((p * el + q) * 64).toNat) 64 (by kernel_rfl) hr (by have hlen := hn; omega) (by kernel_rfl)) rfl (fun ac A65 => ?_)
    refine s_alloc (trc zT) A65 S32 zero26 rfl (fun g68 ac wc A66 S67 => ?_)
    refine s_store (g := g68) (off := 0) (v := .agg (trc (cutF xs (((p * el + q) * 64).toNat) 64))) 0 (trc (cutF xs (((p * el + q) * 64).toNat) 64)) A66 S67 (by kernel_rfl) (by kernel_rfl) rfl (putVal_whole ((trc_size _).trans zT_length) ((trc_size _).trans (cutF_length _ _ _)) ⟨⟨_, Try.underlying38, rfl⟩, by kernel_rfl⟩ (trc_one _)) (fun wc S70 => ?_)
    refine wpList_nil ?_
    refine n_then ?_
    refine wp_seq ?_
    refine wp_region_lit ?_
    refine s_call (fs := #[]) (cp := #[]) (r := [(0, .pointer (some ⟨g68, 0, none⟩))]) #[.pointer (some ⟨g68, 0, none⟩)] (.agg (ints (nums (cutF xs (((p * el + q) * 64).toNat) 64)))) A66 S70 (numbersOf_any g68 (cutF xs (((p * el + q) * 64).toNat) 64) _ (cutF_length _ _ _) (S70.get 0 rfl) HC) Try.call66 (by kernel_rfl) (by kernel_rfl) (by kernel_rfl) rfl (fun ac wc A72 S73 => ?_)
    refine s_call (fs := #[]) (cp := #[]) (r := [(0, .agg (ints (nums (cutF xs (((p * el + q) * 64).toNat) 64))))]) #[.agg (ints (nums (cutF xs (((p * el + q) * 64).toNat) 64)))] (.agg (trc (mkT (nums (cutF xs (((p * el + q) * 64).toNat) 64)) 64))) A72 S73 (traceOf_s (nums (cutF xs (((p * el + q) * 64).toNat) 64)) _ (nums_length _)) Try.call65 (by kernel_rfl) (by kernel_rfl) (by kernel_rfl) rfl (fun ac wc A75 S76 => ?_)
    refine s_store (g := g11) (off := 0) (v := .agg (trc (mkT (nums (cutF xs (((p * el + q) * 64).toNat) 64)) 64))) 2 (trc (mkT (nums (cutF xs (((p * el + q) * 64).toNat) 64)) 64)) A75 S76 (by kernel_rfl) (by kernel_rfl) rfl (putVal_whole ((trc_size _).trans zT_length) ((trc_size _).trans (done_length _ _ _ _)) ⟨⟨_, Try.underlying38, rfl⟩, by kernel_rfl⟩ (trc_one _)) (fun wc S79 => ?_)
    refine s_one (.int .i64 0) A75 S79 (g_assign (by kernel_rfl)) rfl (fun ac A81 => ?_)
    refine wpList_nil ?_
    refine n_then ?_
    refine wp_ret ?_
    refine fin2 (.agg (trc (mkT (nums (cutF xs (((p * el + q) * 64).toNat) 64)) 64))) (.int .i64 0) Try.results16 A81 S79 (rv_cell (g := g11) (off := 0) 2 (by kernel_rfl) rfl (rowVal_whole ((trc_size _).trans (done_length _ _ _ _)) ⟨⟨_, Try.underlying38, rfl⟩, by kernel_rfl⟩)) (rv_tmp (by kernel_rfl)) ⟨?_, S79.kp⟩
    rw [toF_y hz, hz]
    rfl

end Go.Proofs.Ytcijkniijomcjaa
