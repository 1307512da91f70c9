/- Lengths, times and products of chapter 1. -/
import Derived.Test.YtfeapeblnnmhlaaRay1
namespace Go.Proofs.Ytfeapeblnnmhlaa
open Go.RowKit Go.Cpl Go.Ray1

theorem len_bd {x z : Int} (hx : -200000 ≤ x ∧ x ≤ 200000) (hz : -200000 ≤ z ∧ z ≤ 200000) : 0 ≤ lenL x z ∧ lenL x z ≤ lenU x z ∧ lenU x z ≤ 300000000 := by
  have a := sq_b hx; have b := sq_b hz; have a0 := sq_nn x; have b0 := sq_nn z
  have q := rt_bd (n := lenN x z) (b := 282842713) (lenN_nn x z) (by omega) (by unfold lenN; omega)
  have q2 := rtU_bd (n := lenN x z)
  have q3 := lenL_nn x z
  unfold lenL lenU at *
  omega
theorem t_bd {l v : Int} (h0 : 0 ≤ l) (h1 : l ≤ 300000000) (hv : 500 ≤ v) : 0 ≤ tLo l v ∧ tLo l v ≤ 6000000000 := by
  refine ⟨tLo_nn h0 (by omega), ?_⟩
  unfold tLo
  have : l * 10000 / v < 6000000001 := by
    apply (Int.ediv_lt_iff_lt_mul (by omega)).2
    have := Int.mul_le_mul_of_nonneg_left hv (show (0 : Int) ≤ 6000000001 by omega)
    omega
  omega
theorem up_bd {n v m : Int} (h0 : 0 ≤ n) (hv : 1 ≤ v) (h1 : n ≤ m * v) : 0 ≤ upD n v ∧ upD n v ≤ m := by
  refine ⟨upD_nn h0 (by omega), ?_⟩
  unfold upD
  have : -m ≤ -n / v := by
    apply (Int.le_ediv_iff_mul_le (by omega)).2
    rw [Int.neg_mul]; omega
  omega
theorem tH_bd {l v : Int} (h0 : 0 ≤ l) (h1 : l ≤ 300000000) (hv : 500 ≤ v) : 0 ≤ tHi l v ∧ tHi l v ≤ 6000000000 := by
  unfold tHi
  apply up_bd (by omega) (by omega)
  have := Int.mul_le_mul_of_nonneg_left hv (show (0 : Int) ≤ 6000000000 by omega)
  omega

set_option maxRecDepth 100000 in
set_option maxHeartbeats 400000 in
theorem length_s (x z : Int) (w0 : World) (h1 : -200000 ≤ x) (h2 : x ≤ 200000) (h3 : -200000 ≤ z) (h4 : z ≤ 200000) :
    Calls Try.prog 63 #[.int .i64 x, .int .i64 z] w0 fun e w' => e = .returned (.agg #[.int .i64 (lenL x z), .int .i64 (lenU x z)]) ∧ Below w0.heap.size w0 w' := by
  have S0 := St.start w0
  have q1 := sq_b (a := x) (b := 200000) (by omega)
  have q2 := sq_nn x
  have q3 := sq_b (a := z) (b := 200000) (by omega)
  have q4 := sq_nn z
  have q5 := rt_nn (n := 1000000 * (x * x + z * z)) (by omega)
  have q6 := rt_bd (n := 1000000 * (x * x + z * z)) (b := 282842713) (by omega) (by omega) (by omega)
  have q7 := sq_b (a := rt (1000000 * (x * x + z * z))) (b := 282842713) (by omega)
  have q8 := sq_nn (rt (1000000 * (x * x + z * z)))
  refine enter (n := 33) Try.func63 rfl rfl rfl (fun ac A0 => ?_)
  refine wp_seq ?_
  refine wp_region_lit ?_
  refine s_alloc (#[.int .i64 0, .int .i64 0]) A0 S0 (by kernel_rfl) rfl (fun g3 ac wc A1 S2 => ?_)
  refine wpList_nil ?_
  refine n_then ?_
  refine wp_seq ?_
  refine wp_region_lit ?_
  refine s_one (.int .i64 x) A1 S2 (g_move (by kernel_rfl)) rfl (fun ac A4 => ?_)
  refine s_one (.int .i64 x) A4 S2 (g_move (by kernel_rfl)) rfl (fun ac A5 => ?_)
  refine s_one (.int .i64 (x * x)) A5 S2 (g_bin (u := .int .i64 x) (k := .int .i64 x) (by kernel_rfl) (by kernel_rfl) (fun _ => by kernel_rfl) (b_mul (by omega))) rfl (fun ac A6 => ?_)
  refine s_one (.int .i64 z) A6 S2 (g_move (by kernel_rfl)) rfl (fun ac A7 => ?_)
  refine s_one (.int .i64 z) A7 S2 (g_move (by kernel_rfl)) rfl (fun ac A8 => ?_)
  refine s_one (.int .i64 (z * z)) A8 S2 (g_bin (u := .int .i64 z) (k := .int .i64 z) (by kernel_rfl) (by kernel_rfl) (fun _ => by kernel_rfl) (b_mul (by omega))) rfl (fun ac A9 => ?_)
  refine s_one (.int .i64 (x * x + (z * z))) A9 S2 (g_bin (u := .int .i64 (x * x)) (k := .int .i64 (z * z)) (by kernel_rfl) (by kernel_rfl) (fun _ => by kernel_rfl) (b_add (by omega))) rfl (fun ac A10 => ?_)
  refine s_one (.int .i64 (1000000 * (x * x + (z * z)))) A10 S2 (g_bin (u := .int .i64 1000000) (k := .int .i64 (x * x + (z * z))) (by kernel_rfl) (by kernel_rfl) (fun _ => by kernel_rfl) (b_mul (by omega))) rfl (fun ac A11 => ?_)
  refine s_one (.int .i64 (1000000 * (x * x + (z * z)))) A11 S2 (g_assign (by kernel_rfl)) rfl (fun ac A12 => ?_)
  refine wpList_nil ?_
  refine n_then ?_
  refine wp_seq ?_
  refine wp_region_lit ?_
  refine s_one (.int .i64 (1000000 * (x * x + (z * z)))) A12 S2 (g_move (by kernel_rfl)) rfl (fun ac A13 => ?_)
  refine s_call (fs := #[]) (cp := #[]) (r := [(0, .int .i64 (1000000 * (x * x + (z * z))))]) #[.int .i64 (1000000 * (x * x + (z * z)))] (.int .i64 (rt (1000000 * (x * x + (z * z))))) A13 S2 (root_s (1000000 * (x * x + (z * z))) _ (by omega) (by omega)) Try.call67 (by kernel_rfl) (by kernel_rfl) (by kernel_rfl) rfl (fun ac wc A14 S15 => ?_)
  refine s_one (.agg #[.int .i64 (rt (1000000 * (x * x + (z * z)))), .int .i64 0]) A14 S15 (g_build (r := [(0, .int .i64 (rt (1000000 * (x * x + (z * z)))))]) (by kernel_rfl) (fun _ => by kernel_rfl)) rfl (fun ac A17 => ?_)
  refine s_alloc (#[.int .i64 0, .int .i64 0]) A17 S15 (by kernel_rfl) rfl (fun g20 ac wc A18 S19 => ?_)
  refine s_store (g := g20) (off := 0) (v := .agg #[.int .i64 (rt (1000000 * (x * x + (z * z)))), .int .i64 0]) 0 (#[.int .i64 (rt (1000000 * (x * x + (z * z)))), .int .i64 0]) A18 S19 (by kernel_rfl) (by kernel_rfl) rfl (by kernel_rfl) (fun wc S22 => ?_)
  refine wpList_nil ?_
  refine n_then ?_
  refine wp_seq ?_
  refine wp_region_lit ?_
  refine s_one (.pointer (some ⟨g20, 0, none⟩)) A18 S22 (g_field (u := .pointer (some ⟨g20, 0, none⟩)) (by kernel_rfl) (fun _ => by kernel_rfl)) rfl (fun ac A24 => ?_)
  refine s_one (.int .i64 (rt (1000000 * (x * x + (z * z))))) A24 S22 (g_load (g := g20) (off := 0) 0 (by kernel_rfl) rfl (by kernel_rfl)) rfl (fun ac A25 => ?_)
  refine s_one (.pointer (some ⟨g20, 1, none⟩)) A25 S22 (g_field (u := .pointer (some ⟨g20, 0, none⟩)) (by kernel_rfl) (fun _ => by kernel_rfl)) rfl (fun ac A26 => ?_)
  refine s_store (g := g20) (off := 1) (v := .int .i64 (rt (1000000 * (x * x + (z * z))))) 0 (#[.int .i64 (rt (1000000 * (x * x + (z * z)))), .int .i64 (rt (1000000 * (x * x + (z * z))))]) A26 S22 (by kernel_rfl) (by kernel_rfl) rfl (by kernel_rfl) (fun wc S28 => ?_)
  refine wpList_nil ?_
  refine n_then ?_
  refine wp_seq ?_
  refine wp_seq ?_
  refine wp_region_lit ?_
  refine s_one (.pointer (some ⟨g20, 0, none⟩)) A26 S28 (g_field (u := .pointer (some ⟨g20, 0, none⟩)) (by kernel_rfl) (fun _ => by kernel_rfl)) rfl (fun ac A30 => ?_)
  refine s_one (.int .i64 (rt (1000000 * (x * x + (z * z))))) A30 S28 (g_load (g := g20) (off := 0) 0 (by kernel_rfl) rfl (by kernel_rfl)) rfl (fun ac A31 => ?_)
  refine s_one (.pointer (some ⟨g20, 0, none⟩)) A31 S28 (g_field (u := .pointer (some ⟨g20, 0, none⟩)) (by kernel_rfl) (fun _ => by kernel_rfl)) rfl (fun ac A32 => ?_)
  refine s_one (.int .i64 (rt (1000000 * (x * x + (z * z))))) A32 S28 (g_load (g := g20) (off := 0) 0 (by kernel_rfl) rfl (by kernel_rfl)) rfl (fun ac A33 => ?_)
  refine s_one (.int .i64 ((rt (1000000 * (x * x + (z * z)))) * (rt (1000000 * (x * x + (z * z)))))) A33 S28 (g_bin (u := .int .i64 (rt (1000000 * (x * x + (z * z))))) (k := .int .i64 (rt (1000000 * (x * x + (z * z))))) (by kernel_rfl) (by kernel_rfl) (fun _ => by kernel_rfl) (b_mul (by omega))) rfl (fun ac A34 => ?_)
  refine s_one (.int .i64 (1000000 * (x * x + (z * z)))) A34 S28 (g_move (by kernel_rfl)) rfl (fun ac A35 => ?_)
  refine s_one (.bool (decide ((rt (1000000 * (x * x + (z * z)))) * (rt (1000000 * (x * x + (z * z)))) < 1000000 * (x * x + (z * z))))) A35 S28 (g_bin (u := .int .i64 ((rt (1000000 * (x * x + (z * z)))) * (rt (1000000 * (x * x + (z * z)))))) (k := .int .i64 (1000000 * (x * x + (z * z)))) (by kernel_rfl) (by kernel_rfl) (fun _ => by kernel_rfl) (fun _ => by kernel_rfl)) rfl (fun ac A36 => ?_)
  refine wpList_nil ?_
  refine n_then ?_
  refine c_ifb (b := (decide ((rt (1000000 * (x * x + (z * z)))) * (rt (1000000 * (x * x + (z * z)))) < 1000000 * (x * x + (z * z))))) A36 (by kernel_rfl) (fun h37 => ?_) (fun h37 => ?_)
  · have p38 := of_decide_eq_true h37
    refine wp_region_lit ?_
    refine s_one (.pointer (some ⟨g20, 1, none⟩)) A36 S28 (g_field (u := .pointer (some ⟨g20, 0, none⟩)) (by kernel_rfl) (fun _ => by kernel_rfl)) rfl (fun ac A39 => ?_)
    refine s_one (.int .i64 (rt (1000000 * (x * x + (z * z))))) A39 S28 (g_load (g := g20) (off := 1) 0 (by kernel_rfl) rfl (by kernel_rfl)) rfl (fun ac A40 => ?_)
    refine s_one (.int .i64 (rt (1000000 * (x * x + (z * z))) + 1)) A40 S28 (g_bin (u := .int .i64 (rt (1000000 * (x * x + (z * z))))) (k := .int .i64 1) (by kernel_rfl) (by kernel_rfl) (fun _ => by kernel_rfl) (b_add (by omega))) rfl (fun ac A41 => ?_)
    refine s_one (.pointer (some ⟨g20, 1, none⟩)) A41 S28 (g_field (u := .pointer (some ⟨g20, 0, none⟩)) (by kernel_rfl) (fun _ => by kernel_rfl)) rfl (fun ac A42 => ?_)
    refine s_store (g := g20) (off := 1) (v := .int .i64 (rt (1000000 * (x * x + (z * z))) + 1)) 0 (#[.int .i64 (rt (1000000 * (x * x + (z * z)))), .int .i64 (rt (1000000 * (x * x + (z * z))) + 1)]) A42 S28 (by kernel_rfl) (by kernel_rfl) rfl (by kernel_rfl) (fun wc S44 => ?_)
    refine wpList_nil ?_
    refine n_then ?_
    refine wp_seq ?_
    refine wp_region_lit ?_
    refine s_one (.agg #[.int .i64 (rt (1000000 * (x * x + (z * z)))), .int .i64 (rt (1000000 * (x * x + (z * z))) + 1)]) A42 S44 (g_load (g := g20) (off := 0) 0 (by kernel_rfl) rfl (by kernel_rfl)) rfl (fun ac A46 => ?_)
    refine s_store (g := g3) (off := 0) (v := .agg #[.int .i64 (rt (1000000 * (x * x + (z * z)))), .int .i64 (rt (1000000 * (x * x + (z * z))) + 1)]) 1 (#[.int .i64 (rt (1000000 * (x * x + (z * z)))), .int .i64 (rt (1000000 * (x * x + (z * z))) + 1)]) A46 S44 (by kernel_rfl) (by kernel_rfl) rfl (by kernel_rfl) (fun wc S48 => ?_)
    refine wpList_nil ?_
    refine n_then ?_
    refine wp_ret ?_
    refine fin1 (.agg #[.int .i64 (rt (1000000 * (x * x + (z * z)))), .int .i64 (rt (1000000 * (x * x + (z * z))) + 1)]) Try.results63 A46 S48 (rv_cell (g := g3) (off := 0) 1 (by kernel_rfl) rfl (by kernel_rfl)) ⟨?_, S48.kp⟩
    have e : lenU x z = rt (1000000 * (x * x + (z * z))) + 1 := if_pos p38
    rw [e]
    rfl
  · have p50 := of_decide_eq_false h37
    refine wp_skip ?_
    refine n_then ?_
    refine wp_seq ?_
    refine wp_region_lit ?_
    refine s_one (.agg #[.int .i64 (rt (1000000 * (x * x + (z * z)))), .int .i64 (rt (1000000 * (x * x + (z * z))))]) A36 S28 (g_load (g := g20) (off := 0) 0 (by kernel_rfl) rfl (by kernel_rfl)) rfl (fun ac A51 => ?_)
    refine s_store (g := g3) (off := 0) (v := .agg #[.int .i64 (rt (1000000 * (x * x + (z * z)))), .int .i64 (rt (1000000 * (x * x + (z * z))))]) 1 (#[.int .i64 (rt (1000000 * (x * x + (z * z)))), .int .i64 (rt (1000000 * (x * x + (z * z))))]) A51 S28 (by kernel_rfl) (by kernel_rfl) rfl (by kernel_rfl) (fun wc S53 => ?_)
    refine wpList_nil ?_
    refine n_then ?_
    refine wp_ret ?_
    refine fin1 (.agg #[.int .i64 (rt (1000000 * (x * x + (z * z)))), .int .i64 (rt (1000000 * (x * x + (z * z))))]) Try.results63 A51 S53 (rv_cell (g := g3) (off := 0) 1 (by kernel_rfl) rfl (by kernel_rfl)) ⟨?_, S53.kp⟩
    have e : lenU x z = rt (1000000 * (x * x + (z * z))) := if_neg p50
    rw [e]
    rfl

set_option maxRecDepth 100000 in
set_option maxHeartbeats 400000 in
theorem time_s (lo hi v : Int) (w0 : World) (h1 : 0 ≤ lo) (h2 : lo ≤ 300000000) (h3 : 0 ≤ hi) (h4 : hi ≤ 300000000) (h5 : 500 ≤ v) :
    Calls Try.prog 62 #[.agg #[.int .i64 lo, .int .i64 hi], .int .i64 v] w0 fun e w' => e = .returned (.agg #[.int .i64 (tLo lo v), .int .i64 (tHi hi v)]) ∧ Below w0.heap.size w0 w' := by
  have S0 := St.start w0
  refine enter (n := 16) Try.func62 rfl rfl rfl (fun ac A0 => ?_)
  refine wp_seq ?_
  refine wp_region_lit ?_
  refine s_box (.agg #[.int .i64 lo, .int .i64 hi]) A0 S0 (by kernel_rfl) rfl (fun g3 ac wc A1 S2 => ?_)
  replace S2 : St _ (⟨g3, 40, #[.int .i64 lo, .int .i64 hi], true⟩ :: _) _ _ := S2
  refine s_alloc (#[.int .i64 0, .int .i64 0]) A1 S2 (by kernel_rfl) rfl (fun g7 ac wc A5 S6 => ?_)
  refine wpList_nil ?_
  refine n_then ?_
  refine wp_seq ?_
  refine r_begin (w0 := w0) (by kernel_rfl) (S6.sub (sub_skip sub_all) sub_all) (fun wc T8 B9 => ?_)
  have S10 := S6.kept B9
  refine r_take 0 (.pointer (some ⟨g3, 0, none⟩)) A5 T8 (g_field (u := .pointer (some ⟨g3, 0, none⟩)) (by kernel_rfl) (fun _ => by kernel_rfl)) rfl rfl rfl (pf_then pf_body) (by kernel_rfl) (fun ac A11 => ?_)
  refine r_take 1 (.int .i64 lo) A11 T8 (g_load (g := g3) (off := 0) 0 (by kernel_rfl) rfl (by kernel_rfl)) rfl rfl rfl (pf_then pf_body) (by kernel_rfl) (fun ac A12 => ?_)
  refine r_take 2 (.int .i64 (lo * 10000)) A12 T8 (g_bin (u := .int .i64 lo) (k := .int .i64 10000) (by kernel_rfl) (by kernel_rfl) (fun _ => by kernel_rfl) (b_mul (by omega))) rfl rfl rfl (pf_then pf_body) (by kernel_rfl) (fun ac A13 => ?_)
  refine r_take 3 (.int .i64 v) A13 T8 (g_move (by kernel_rfl)) rfl rfl rfl (pf_then pf_body) (by kernel_rfl) (fun ac A14 => ?_)
  refine r_take 5 (.pointer (some ⟨g3, 1, none⟩)) A14 T8 (g_field (u := .pointer (some ⟨g3, 0, none⟩)) (by kernel_rfl) (fun _ => by kernel_rfl)) rfl rfl rfl (pf_then pf_body) (by kernel_rfl) (fun ac A15 => ?_)
  refine r_take 6 (.int .i64 hi) A15 T8 (g_load (g := g3) (off := 1) 0 (by kernel_rfl) rfl (by kernel_rfl)) rfl rfl rfl (pf_then pf_body) (by kernel_rfl) (fun ac A16 => ?_)
  refine r_take 7 (.int .i64 (hi * 10000)) A16 T8 (g_bin (u := .int .i64 hi) (k := .int .i64 10000) (by kernel_rfl) (by kernel_rfl) (fun _ => by kernel_rfl) (b_mul (by omega))) rfl rfl rfl (pf_then pf_body) (by kernel_rfl) (fun ac A17 => ?_)
  refine r_take 8 (.int .i64 v) A17 T8 (g_move (by kernel_rfl)) rfl rfl rfl (pf_then pf_body) (by kernel_rfl) (fun ac A18 => ?_)
  refine r_1 (i := 4) (by kernel_rfl) ?_
  refine rs_call (fs := #[]) (cp := #[]) (r := [(0, .int .i64 (lo * 10000)), (0, .int .i64 v)]) #[.int .i64 (lo * 10000), .int .i64 v] (.int .i64 ((lo * 10000) / v)) A18 S10 (sub_skip sub_all) sub_all (down_s (lo * 10000) v _ (by omega) (by omega) (by omega)) Try.call44 rfl rfl (by kernel_rfl) (by kernel_rfl) (by kernel_rfl) rfl (fun ac wc A19 S20 => ?_)
  have T22 := S20.sub (sub_skip sub_all) sub_all
  refine r_1 (i := 9) (by kernel_rfl) ?_
  refine rs_call (fs := #[]) (cp := #[]) (r := [(0, .int .i64 (hi * 10000)), (0, .int .i64 v)]) #[.int .i64 (hi * 10000), .int .i64 v] (.int .i64 (upD (hi * 10000) v)) A19 S20 (sub_skip sub_all) sub_all (up_s (hi * 10000) v _ (by omega) (by omega) (by omega)) Try.call49 rfl rfl (by kernel_rfl) (by kernel_rfl) (by kernel_rfl) rfl (fun ac wc A23 S24 => ?_)
  have T26 := S24.sub (sub_skip sub_all) sub_all
  refine r_take 10 (.agg #[.int .i64 ((lo * 10000) / v), .int .i64 (upD (hi * 10000) v)]) A23 T26 (g_build (r := [(0, .int .i64 ((lo * 10000) / v)), (1, .int .i64 (upD (hi * 10000) v))]) (by kernel_rfl) (fun _ => by kernel_rfl)) rfl rfl rfl (pf_then pf_body) (by kernel_rfl) (fun ac A27 => ?_)
  refine r_1 (i := 11) (by kernel_rfl) ?_
  refine rs_store (g := g7) (off := 0) (v := .agg #[.int .i64 ((lo * 10000) / v), .int .i64 (upD (hi * 10000) v)]) 0 (#[.int .i64 ((lo * 10000) / v), .int .i64 (upD (hi * 10000) v)]) A27 S24 (sub_skip sub_all) sub_all (by kernel_rfl) (by kernel_rfl) rfl (by kernel_rfl) rfl rfl (fun wc S29 => ?_)
  have T31 := S29.sub (sub_skip sub_all) sub_all
  refine r_done (by kernel_rfl) ?_
  refine n_then ?_
  refine wp_ret ?_
  refine fin1 (.agg #[.int .i64 ((lo * 10000) / v), .int .i64 (upD (hi * 10000) v)]) Try.results62 A27 S29 (rv_cell (g := g7) (off := 0) 0 (by kernel_rfl) rfl (by kernel_rfl)) ⟨?_, S29.kp⟩
  rfl

set_option maxRecDepth 100000 in
set_option maxHeartbeats 400000 in
theorem plus_s (lo hi lo2 hi2 : Int) (w0 : World) (h1 : 0 ≤ lo) (h2 : lo ≤ 100000000000) (h3 : 0 ≤ hi) (h4 : hi ≤ 100000000000) (h5 : 0 ≤ lo2) (h6 : lo2 ≤ 100000000000) (h7 : 0 ≤ hi2) (h8 : hi2 ≤ 100000000000) :
    Calls Try.prog 61 #[.agg #[.int .i64 lo, .int .i64 hi], .agg #[.int .i64 lo2, .int .i64 hi2]] w0 fun e w' => e = .returned (.agg #[.int .i64 (lo + lo2), .int .i64 (hi + hi2)]) ∧ Below w0.heap.size w0 w' := by
  have S0 := St.start w0
  refine enter (n := 16) Try.func61 rfl rfl rfl (fun ac A0 => ?_)
  refine wp_seq ?_
  refine wp_region_lit ?_
  refine s_box (.agg #[.int .i64 lo, .int .i64 hi]) A0 S0 (by kernel_rfl) rfl (fun g3 ac wc A1 S2 => ?_)
  replace S2 : St _ (⟨g3, 40, #[.int .i64 lo, .int .i64 hi], true⟩ :: _) _ _ := S2
  refine s_box (.agg #[.int .i64 lo2, .int .i64 hi2]) A1 S2 (by kernel_rfl) rfl (fun g7 ac wc A5 S6 => ?_)
  replace S6 : St _ (⟨g7, 40, #[.int .i64 lo2, .int .i64 hi2], true⟩ :: _) _ _ := S6
  refine s_alloc (#[.int .i64 0, .int .i64 0]) A5 S6 (by kernel_rfl) rfl (fun g11 ac wc A9 S10 => ?_)
  refine wpList_nil ?_
  refine n_then ?_
  refine wp_seq ?_
  refine wp_region_lit ?_
  refine s_one (.pointer (some ⟨g3, 0, none⟩)) A9 S10 (g_field (u := .pointer (some ⟨g3, 0, none⟩)) (by kernel_rfl) (fun _ => by kernel_rfl)) rfl (fun ac A12 => ?_)
  refine s_one (.int .i64 lo) A12 S10 (g_load (g := g3) (off := 0) 2 (by kernel_rfl) rfl (by kernel_rfl)) rfl (fun ac A13 => ?_)
  refine s_one (.pointer (some ⟨g7, 0, none⟩)) A13 S10 (g_field (u := .pointer (some ⟨g7, 0, none⟩)) (by kernel_rfl) (fun _ => by kernel_rfl)) rfl (fun ac A14 => ?_)
  refine s_one (.int .i64 lo2) A14 S10 (g_load (g := g7) (off := 0) 1 (by kernel_rfl) rfl (by kernel_rfl)) rfl (fun ac A15 => ?_)
  refine s_one (.int .i64 (lo + lo2)) A15 S10 (g_bin (u := .int .i64 lo) (k := .int .i64 lo2) (by kernel_rfl) (by kernel_rfl) (fun _ => by kernel_rfl) (b_add (by omega))) rfl (fun ac A16 => ?_)
  refine s_one (.pointer (some ⟨g3, 1, none⟩)) A16 S10 (g_field (u := .pointer (some ⟨g3, 0, none⟩)) (by kernel_rfl) (fun _ => by kernel_rfl)) rfl (fun ac A17 => ?_)
  refine s_one (.int .i64 hi) A17 S10 (g_load (g := g3) (off := 1) 2 (by kernel_rfl) rfl (by kernel_rfl)) rfl (fun ac A18 => ?_)
  refine s_one (.pointer (some ⟨g7, 1, none⟩)) A18 S10 (g_field (u := .pointer (some ⟨g7, 0, none⟩)) (by kernel_rfl) (fun _ => by kernel_rfl)) rfl (fun ac A19 => ?_)
  refine s_one (.int .i64 hi2) A19 S10 (g_load (g := g7) (off := 1) 1 (by kernel_rfl) rfl (by kernel_rfl)) rfl (fun ac A20 => ?_)
  refine s_one (.int .i64 (hi + hi2)) A20 S10 (g_bin (u := .int .i64 hi) (k := .int .i64 hi2) (by kernel_rfl) (by kernel_rfl) (fun _ => by kernel_rfl) (b_add (by omega))) rfl (fun ac A21 => ?_)
  refine s_one (.agg #[.int .i64 (lo + lo2), .int .i64 (hi + hi2)]) A21 S10 (g_build (r := [(0, .int .i64 (lo + lo2)), (1, .int .i64 (hi + hi2))]) (by kernel_rfl) (fun _ => by kernel_rfl)) rfl (fun ac A22 => ?_)
  refine s_store (g := g11) (off := 0) (v := .agg #[.int .i64 (lo + lo2), .int .i64 (hi + hi2)]) 0 (#[.int .i64 (lo + lo2), .int .i64 (hi + hi2)]) A22 S10 (by kernel_rfl) (by kernel_rfl) rfl (by kernel_rfl) (fun wc S24 => ?_)
  refine wpList_nil ?_
  refine n_then ?_
  refine wp_ret ?_
  refine fin1 (.agg #[.int .i64 (lo + lo2), .int .i64 (hi + hi2)]) Try.results61 A22 S24 (rv_cell (g := g11) (off := 0) 0 (by kernel_rfl) rfl (by kernel_rfl)) ⟨?_, S24.kp⟩
  rfl

theorem cmp_mul {n d : Int} (hd : 1 ≤ d) (h0 : 0 ≤ n) : 0 ≤ n / d * d ∧ n / d * d ≤ n ∧ n - n / d * d < d := by
  have h1 := Int.ediv_mul_le n (b := d) (by omega)
  have h2 := Int.lt_ediv_add_one_mul_self n (b := d) (by omega)
  have h3 := Int.mul_nonneg (Int.ediv_nonneg h0 (show 0 ≤ d by omega)) (show 0 ≤ d by omega)
  rw [Int.add_mul] at h2
  omega

set_option maxRecDepth 100000 in
set_option maxHeartbeats 400000 in
theorem Mul64_s (x y : Int) (w0 : World) (h1 : 0 ≤ x ∧ x < 18446744073709551616) (h2 : 0 ≤ y ∧ y < 18446744073709551616) :
    Calls Try.prog 68 #[.int .u64 x, .int .u64 y] w0 fun e w' => e = .returned (.tuple #[.int .u64 (x * y / 18446744073709551616), .int .u64 (x * y % 18446744073709551616)]) ∧ Below w0.heap.size w0 w' := by
  have S0 := St.start w0
  obtain ⟨q1, q2, q3, q4, q5⟩ := mul64_int h1 h2
  refine enter (n := 51) Try.func68 rfl rfl rfl (fun ac A0 => ?_)
  refine wp_seq ?_
  refine wp_region_lit ?_
  refine s_one (.int .u64 0) A0 S0 (g_assign (by kernel_rfl)) rfl (fun ac A1 => ?_)
  refine s_one (.int .u64 0) A1 S0 (g_assign (by kernel_rfl)) rfl (fun ac A2 => ?_)
  refine wpList_nil ?_
  refine n_then ?_
  refine wp_seq ?_
  refine wp_region_lit ?_
  refine s_one (.int .u64 x) A2 S0 (g_move (by kernel_rfl)) rfl (fun ac A3 => ?_)
  refine s_one (.int .u64 (x % 4294967296)) A3 S0 (g_bin (u := .int .u64 x) (k := .int .u64 4294967295) (by kernel_rfl) (by kernel_rfl) (fun _ => by kernel_rfl) (u_and (by omega))) rfl (fun ac A4 => ?_)
  refine s_one (.int .u64 (x % 4294967296)) A4 S0 (g_assign (by kernel_rfl)) rfl (fun ac A5 => ?_)
  refine wpList_nil ?_
  refine n_then ?_
  refine wp_seq ?_
  refine wp_region_lit ?_
  refine s_one (.int .u64 x) A5 S0 (g_move (by kernel_rfl)) rfl (fun ac A6 => ?_)
  refine s_one (.int .u64 (x / 4294967296)) A6 S0 (g_bin (u := .int .u64 x) (k := .int .u64 32) (by kernel_rfl) (by kernel_rfl) (fun _ => by kernel_rfl) u_shr32) rfl (fun ac A7 => ?_)
  refine s_one (.int .u64 (x / 4294967296)) A7 S0 (g_assign (by kernel_rfl)) rfl (fun ac A8 => ?_)
  refine wpList_nil ?_
  refine n_then ?_
  refine wp_seq ?_
  refine wp_region_lit ?_
  refine s_one (.int .u64 y) A8 S0 (g_move (by kernel_rfl)) rfl (fun ac A9 => ?_)
  refine s_one (.int .u64 (y % 4294967296)) A9 S0 (g_bin (u := .int .u64 y) (k := .int .u64 4294967295) (by kernel_rfl) (by kernel_rfl) (fun _ => by kernel_rfl) (u_and (by omega))) rfl (fun ac A10 => ?_)
  refine s_one (.int .u64 (y % 4294967296)) A10 S0 (g_assign (by kernel_rfl)) rfl (fun ac A11 => ?_)
  refine wpList_nil ?_
  refine n_then ?_
  refine wp_seq ?_
  refine wp_region_lit ?_
  refine s_one (.int .u64 y) A11 S0 (g_move (by kernel_rfl)) rfl (fun ac A12 => ?_)
  refine s_one (.int .u64 (y / 4294967296)) A12 S0 (g_bin (u := .int .u64 y) (k := .int .u64 32) (by kernel_rfl) (by kernel_rfl) (fun _ => by kernel_rfl) u_shr32) rfl (fun ac A13 => ?_)
  refine s_one (.int .u64 (y / 4294967296)) A13 S0 (g_assign (by kernel_rfl)) rfl (fun ac A14 => ?_)
  refine wpList_nil ?_
  refine n_then ?_
  refine wp_seq ?_
  refine wp_region_lit ?_
  refine s_one (.int .u64 (x % 4294967296)) A14 S0 (g_move (by kernel_rfl)) rfl (fun ac A15 => ?_)
  refine s_one (.int .u64 (y % 4294967296)) A15 S0 (g_move (by kernel_rfl)) rfl (fun ac A16 => ?_)
  refine s_one (.int .u64 ((x % 4294967296) * (y % 4294967296))) A16 S0 (g_bin (u := .int .u64 (x % 4294967296)) (k := .int .u64 (y % 4294967296)) (by kernel_rfl) (by kernel_rfl) (fun _ => by kernel_rfl) (u_mul (by omega))) rfl (fun ac A17 => ?_)
  refine s_one (.int .u64 ((x % 4294967296) * (y % 4294967296))) A17 S0 (g_assign (by kernel_rfl)) rfl (fun ac A18 => ?_)
  refine wpList_nil ?_
  refine n_then ?_
  refine wp_seq ?_
  refine wp_region_lit ?_
  refine s_one (.int .u64 (x / 4294967296)) A18 S0 (g_move (by kernel_rfl)) rfl (fun ac A19 => ?_)
  refine s_one (.int .u64 (y % 4294967296)) A19 S0 (g_move (by kernel_rfl)) rfl (fun ac A20 => ?_)
  refine s_one (.int .u64 ((x / 4294967296) * (y % 4294967296))) A20 S0 (g_bin (u := .int .u64 (x / 4294967296)) (k := .int .u64 (y % 4294967296)) (by kernel_rfl) (by kernel_rfl) (fun _ => by kernel_rfl) (u_mul (by omega))) rfl (fun ac A21 => ?_)
  refine s_one (.int .u64 ((x % 4294967296) * (y % 4294967296))) A21 S0 (g_move (by kernel_rfl)) rfl (fun ac A22 => ?_)
  refine s_one (.int .u64 (((x % 4294967296) * (y % 4294967296)) / 4294967296)) A22 S0 (g_bin (u := .int .u64 ((x % 4294967296) * (y % 4294967296))) (k := .int .u64 32) (by kernel_rfl) (by kernel_rfl) (fun _ => by kernel_rfl) u_shr32) rfl (fun ac A23 => ?_)
  refine s_one (.int .u64 ((x / 4294967296) * (y % 4294967296) + (((x % 4294967296) * (y % 4294967296)) / 4294967296))) A23 S0 (g_bin (u := .int .u64 ((x / 4294967296) * (y % 4294967296))) (k := .int .u64 (((x % 4294967296) * (y % 4294967296)) / 4294967296)) (by kernel_rfl) (by kernel_rfl) (fun _ => by kernel_rfl) (u_add (by omega))) rfl (fun ac A24 => ?_)
  refine s_one (.int .u64 ((x / 4294967296) * (y % 4294967296) + (((x % 4294967296) * (y % 4294967296)) / 4294967296))) A24 S0 (g_assign (by kernel_rfl)) rfl (fun ac A25 => ?_)
  refine wpList_nil ?_
  refine n_then ?_
  refine wp_seq ?_
  refine wp_region_lit ?_
  refine s_one (.int .u64 ((x / 4294967296) * (y % 4294967296) + (((x % 4294967296) * (y % 4294967296)) / 4294967296))) A25 S0 (g_move (by kernel_rfl)) rfl (fun ac A26 => ?_)
  refine s_one (.int .u64 (((x / 4294967296) * (y % 4294967296) + (((x % 4294967296) * (y % 4294967296)) / 4294967296)) % 4294967296)) A26 S0 (g_bin (u := .int .u64 ((x / 4294967296) * (y % 4294967296) + (((x % 4294967296) * (y % 4294967296)) / 4294967296))) (k := .int .u64 4294967295) (by kernel_rfl) (by kernel_rfl) (fun _ => by kernel_rfl) (u_and (by omega))) rfl (fun ac A27 => ?_)
  refine s_one (.int .u64 (((x / 4294967296) * (y % 4294967296) + (((x % 4294967296) * (y % 4294967296)) / 4294967296)) % 4294967296)) A27 S0 (g_assign (by kernel_rfl)) rfl (fun ac A28 => ?_)
  refine wpList_nil ?_
  refine n_then ?_
  refine wp_seq ?_
  refine wp_region_lit ?_
  refine s_one (.int .u64 ((x / 4294967296) * (y % 4294967296) + (((x % 4294967296) * (y % 4294967296)) / 4294967296))) A28 S0 (g_move (by kernel_rfl)) rfl (fun ac A29 => ?_)
  refine s_one (.int .u64 (((x / 4294967296) * (y % 4294967296) + (((x % 4294967296) * (y % 4294967296)) / 4294967296)) / 4294967296)) A29 S0 (g_bin (u := .int .u64 ((x / 4294967296) * (y % 4294967296) + (((x % 4294967296) * (y % 4294967296)) / 4294967296))) (k := .int .u64 32) (by kernel_rfl) (by kernel_rfl) (fun _ => by kernel_rfl) u_shr32) rfl (fun ac A30 => ?_)
  refine s_one (.int .u64 (((x / 4294967296) * (y % 4294967296) + (((x % 4294967296) * (y % 4294967296)) / 4294967296)) / 4294967296)) A30 S0 (g_assign (by kernel_rfl)) rfl (fun ac A31 => ?_)
  refine wpList_nil ?_
  refine n_then ?_
  refine wp_seq ?_
  refine wp_region_lit ?_
  refine s_one (.int .u64 (((x / 4294967296) * (y % 4294967296) + (((x % 4294967296) * (y % 4294967296)) / 4294967296)) % 4294967296)) A31 S0 (g_move (by kernel_rfl)) rfl (fun ac A32 => ?_)
  refine s_one (.int .u64 (x % 4294967296)) A32 S0 (g_move (by kernel_rfl)) rfl (fun ac A33 => ?_)
  refine s_one (.int .u64 (y / 4294967296)) A33 S0 (g_move (by kernel_rfl)) rfl (fun ac A34 => ?_)
  refine s_one (.int .u64 ((x % 4294967296) * (y / 4294967296))) A34 S0 (g_bin (u := .int .u64 (x % 4294967296)) (k := .int .u64 (y / 4294967296)) (by kernel_rfl) (by kernel_rfl) (fun _ => by kernel_rfl) (u_mul (by omega))) rfl (fun ac A35 => ?_)
  refine s_one (.int .u64 (((x / 4294967296) * (y % 4294967296) + (((x % 4294967296) * (y % 4294967296)) / 4294967296)) % 4294967296 + ((x % 4294967296) * (y / 4294967296)))) A35 S0 (g_bin (u := .int .u64 (((x / 4294967296) * (y % 4294967296) + (((x % 4294967296) * (y % 4294967296)) / 4294967296)) % 4294967296)) (k := .int .u64 ((x % 4294967296) * (y / 4294967296))) (by kernel_rfl) (by kernel_rfl) (fun _ => by kernel_rfl) (u_add (by omega))) rfl (fun ac A36 => ?_)
  refine s_one (.int .u64 (((x / 4294967296) * (y % 4294967296) + (((x % 4294967296) * (y % 4294967296)) / 4294967296)) % 4294967296 + ((x % 4294967296) * (y / 4294967296)))) A36 S0 (g_assign (by kernel_rfl)) rfl (fun ac A37 => ?_)
  refine wpList_nil ?_
  refine n_then ?_
  refine wp_seq ?_
  refine wp_region_lit ?_
  refine s_one (.int .u64 (x / 4294967296)) A37 S0 (g_move (by kernel_rfl)) rfl (fun ac A38 => ?_)
  refine s_one (.int .u64 (y / 4294967296)) A38 S0 (g_move (by kernel_rfl)) rfl (fun ac A39 => ?_)
  refine s_one (.int .u64 ((x / 4294967296) * (y / 4294967296))) A39 S0 (g_bin (u := .int .u64 (x / 4294967296)) (k := .int .u64 (y / 4294967296)) (by kernel_rfl) (by kernel_rfl) (fun _ => by kernel_rfl) (u_mul (by omega))) rfl (fun ac A40 => ?_)
  refine s_one (.int .u64 (((x / 4294967296) * (y % 4294967296) + (((x % 4294967296) * (y % 4294967296)) / 4294967296)) / 4294967296)) A40 S0 (g_move (by kernel_rfl)) rfl (fun ac A41 => ?_)
  refine s_one (.int .u64 ((x / 4294967296) * (y / 4294967296) + (((x / 4294967296) * (y % 4294967296) + (((x % 4294967296) * (y % 4294967296)) / 4294967296)) / 4294967296))) A41 S0 (g_bin (u := .int .u64 ((x / 4294967296) * (y / 4294967296))) (k := .int .u64 (((x / 4294967296) * (y % 4294967296) + (((x % 4294967296) * (y % 4294967296)) / 4294967296)) / 4294967296)) (by kernel_rfl) (by kernel_rfl) (fun _ => by kernel_rfl) (u_add (by omega))) rfl (fun ac A42 => ?_)
  refine s_one (.int .u64 (((x / 4294967296) * (y % 4294967296) + (((x % 4294967296) * (y % 4294967296)) / 4294967296)) % 4294967296 + ((x % 4294967296) * (y / 4294967296)))) A42 S0 (g_move (by kernel_rfl)) rfl (fun ac A43 => ?_)
  refine s_one (.int .u64 ((((x / 4294967296) * (y % 4294967296) + (((x % 4294967296) * (y % 4294967296)) / 4294967296)) % 4294967296 + ((x % 4294967296) * (y / 4294967296))) / 4294967296)) A43 S0 (g_bin (u := .int .u64 (((x / 4294967296) * (y % 4294967296) + (((x % 4294967296) * (y % 4294967296)) / 4294967296)) % 4294967296 + ((x % 4294967296) * (y / 4294967296)))) (k := .int .u64 32) (by kernel_rfl) (by kernel_rfl) (fun _ => by kernel_rfl) u_shr32) rfl (fun ac A44 => ?_)
  refine s_one (.int .u64 ((x / 4294967296) * (y / 4294967296) + (((x / 4294967296) * (y % 4294967296) + (((x % 4294967296) * (y % 4294967296)) / 4294967296)) / 4294967296) + ((((x / 4294967296) * (y % 4294967296) + (((x % 4294967296) * (y % 4294967296)) / 4294967296)) % 4294967296 + ((x % 4294967296) * (y / 4294967296))) / 4294967296))) A44 S0 (g_bin (u := .int .u64 ((x / 4294967296) * (y / 4294967296) + (((x / 4294967296) * (y % 4294967296) + (((x % 4294967296) * (y % 4294967296)) / 4294967296)) / 4294967296))) (k := .int .u64 ((((x / 4294967296) * (y % 4294967296) + (((x % 4294967296) * (y % 4294967296)) / 4294967296)) % 4294967296 + ((x % 4294967296) * (y / 4294967296))) / 4294967296)) (by kernel_rfl) (by kernel_rfl) (fun _ => by kernel_rfl) (u_add (by omega))) rfl (fun ac A45 => ?_)
  refine s_one (.int .u64 ((x / 4294967296) * (y / 4294967296) + (((x / 4294967296) * (y % 4294967296) + (((x % 4294967296) * (y % 4294967296)) / 4294967296)) / 4294967296) + ((((x / 4294967296) * (y % 4294967296) + (((x % 4294967296) * (y % 4294967296)) / 4294967296)) % 4294967296 + ((x % 4294967296) * (y / 4294967296))) / 4294967296))) A45 S0 (g_assign (by kernel_rfl)) rfl (fun ac A46 => ?_)
  refine wpList_nil ?_
  refine n_then ?_
  refine wp_seq ?_
  refine wp_region_lit ?_
  refine s_one (.int .u64 x) A46 S0 (g_move (by kernel_rfl)) rfl (fun ac A47 => ?_)
  refine s_one (.int .u64 y) A47 S0 (g_move (by kernel_rfl)) rfl (fun ac A48 => ?_)
  refine s_one (.int .u64 (x * y % 18446744073709551616)) A48 S0 (g_bin (u := .int .u64 x) (k := .int .u64 y) (by kernel_rfl) (by kernel_rfl) (fun _ => by kernel_rfl) u_mulW) rfl (fun ac A49 => ?_)
  refine s_one (.int .u64 (x * y % 18446744073709551616)) A49 S0 (g_assign (by kernel_rfl)) rfl (fun ac A50 => ?_)
  refine wpList_nil ?_
  refine n_then ?_
  refine wp_ret ?_
  refine fin2 (.int .u64 ((x / 4294967296) * (y / 4294967296) + (((x / 4294967296) * (y % 4294967296) + (((x % 4294967296) * (y % 4294967296)) / 4294967296)) / 4294967296) + ((((x / 4294967296) * (y % 4294967296) + (((x % 4294967296) * (y % 4294967296)) / 4294967296)) % 4294967296 + ((x % 4294967296) * (y / 4294967296))) / 4294967296))) (.int .u64 (x * y % 18446744073709551616)) Try.results68 A50 S0 (rv_tmp (by kernel_rfl)) (rv_tmp (by kernel_rfl)) ⟨?_, S0.kp⟩
  rw [q5]

set_option maxRecDepth 100000 in
set_option maxHeartbeats 400000 in
theorem times_s (a b : Int) (w0 : World) (h1 : 0 ≤ a ∧ a ≤ 9223372036854775807) (h2 : 0 ≤ b ∧ b ≤ 9223372036854775807) :
    Calls Try.prog 65 #[.int .i64 a, .int .i64 b] w0 fun e w' => e = .returned (.agg #[.int .u64 (a * b / 18446744073709551616), .int .u64 (a * b % 18446744073709551616)]) ∧ Below w0.heap.size w0 w' := by
  have S0 := St.start w0
  refine enter (n := 18) Try.func65 rfl rfl rfl (fun ac A0 => ?_)
  refine wp_seq ?_
  refine wp_region_lit ?_
  refine s_alloc (#[.int .u64 0, .int .u64 0]) A0 S0 (by kernel_rfl) rfl (fun g3 ac wc A1 S2 => ?_)
  refine wpList_nil ?_
  refine n_then ?_
  refine wp_seq ?_
  refine wp_region_lit ?_
  refine s_one (.int .i64 a) A1 S2 (g_move (by kernel_rfl)) rfl (fun ac A4 => ?_)
  refine s_one (.int .u64 a) A4 S2 (g_conv (u := .int .i64 a) (by kernel_rfl) (cv_iu (by kernel_rfl) (by kernel_rfl) (by kernel_rfl) (by omega))) rfl (fun ac A5 => ?_)
  refine s_one (.int .i64 b) A5 S2 (g_move (by kernel_rfl)) rfl (fun ac A6 => ?_)
  refine s_one (.int .u64 b) A6 S2 (g_conv (u := .int .i64 b) (by kernel_rfl) (cv_iu (by kernel_rfl) (by kernel_rfl) (by kernel_rfl) (by omega))) rfl (fun ac A7 => ?_)
  refine s_call (fs := #[]) (cp := #[]) (r := [(0, .int .u64 a), (0, .int .u64 b)]) #[.int .u64 a, .int .u64 b] (.tuple #[.int .u64 (a * b / 18446744073709551616), .int .u64 (a * b % 18446744073709551616)]) A7 S2 (Mul64_s a b _ (by omega) (by omega)) Try.call68 (by kernel_rfl) (by kernel_rfl) (by kernel_rfl) rfl (fun ac wc A8 S9 => ?_)
  refine s_one (.tuple #[.int .u64 (a * b / 18446744073709551616), .int .u64 (a * b % 18446744073709551616)]) A8 S9 (g_move (by kernel_rfl)) rfl (fun ac A11 => ?_)
  refine s_one (.int .u64 (a * b / 18446744073709551616)) A11 S9 (g_extract (u := .tuple #[.int .u64 (a * b / 18446744073709551616), .int .u64 (a * b % 18446744073709551616)]) (by kernel_rfl) (fun _ => by kernel_rfl)) rfl (fun ac A12 => ?_)
  refine s_one (.int .u64 (a * b % 18446744073709551616)) A12 S9 (g_extract (u := .tuple #[.int .u64 (a * b / 18446744073709551616), .int .u64 (a * b % 18446744073709551616)]) (by kernel_rfl) (fun _ => by kernel_rfl)) rfl (fun ac A13 => ?_)
  refine s_one (.int .u64 (a * b / 18446744073709551616)) A13 S9 (g_assign (by kernel_rfl)) rfl (fun ac A14 => ?_)
  refine s_one (.int .u64 (a * b % 18446744073709551616)) A14 S9 (g_assign (by kernel_rfl)) rfl (fun ac A15 => ?_)
  refine wpList_nil ?_
  refine n_then ?_
  refine wp_seq ?_
  refine wp_region_lit ?_
  refine s_one (.int .u64 (a * b / 18446744073709551616)) A15 S9 (g_move (by kernel_rfl)) rfl (fun ac A16 => ?_)
  refine s_one (.int .u64 (a * b % 18446744073709551616)) A16 S9 (g_move (by kernel_rfl)) rfl (fun ac A17 => ?_)
  refine s_one (.agg #[.int .u64 (a * b / 18446744073709551616), .int .u64 (a * b % 18446744073709551616)]) A17 S9 (g_build (r := [(0, .int .u64 (a * b / 18446744073709551616)), (1, .int .u64 (a * b % 18446744073709551616))]) (by kernel_rfl) (fun _ => by kernel_rfl)) rfl (fun ac A18 => ?_)
  refine s_store (g := g3) (off := 0) (v := .agg #[.int .u64 (a * b / 18446744073709551616), .int .u64 (a * b % 18446744073709551616)]) 0 (#[.int .u64 (a * b / 18446744073709551616), .int .u64 (a * b % 18446744073709551616)]) A18 S9 (by kernel_rfl) (by kernel_rfl) rfl (by kernel_rfl) (fun wc S20 => ?_)
  refine wpList_nil ?_
  refine n_then ?_
  refine wp_ret ?_
  refine fin1 (.agg #[.int .u64 (a * b / 18446744073709551616), .int .u64 (a * b % 18446744073709551616)]) Try.results65 A18 S20 (rv_cell (g := g3) (off := 0) 0 (by kernel_rfl) rfl (by kernel_rfl)) ⟨?_, S20.kp⟩
  rfl

def compare_a_r (p1 : Int) (p2 : Int) (q1 : Int) (q2 : Int) : Int := if [p1, p2] = [q1, q2] then 0 else (bif (decide (p1 < q1)) || ((decide (p1 = q1)) && (decide (p2 < q2))) then (-1) else 1)

set_option maxRecDepth 100000 in
set_option maxHeartbeats 400000 in
theorem compare_a (p1 : Int) (p2 : Int) (q1 : Int) (q2 : Int) (w0 : World) :
    Calls Try.prog 66 #[.agg #[.int .u64 p1, .int .u64 p2], .agg #[.int .u64 q1, .int .u64 q2]] w0 fun e w' => e = .returned (.int .i64 (compare_a_r p1 p2 q1 q2)) ∧ Below w0.heap.size w0 w' := by
  have S0 := St.start w0
  refine enter (n := 29) Try.func66 rfl rfl rfl (fun ac A0 => ?_)
  refine wp_seq ?_
  refine wp_region_lit ?_
  refine s_box (.agg #[.int .u64 p1, .int .u64 p2]) A0 S0 (by kernel_rfl) rfl (fun g3 ac wc A1 S2 => ?_)
  replace S2 : St _ (⟨g3, 102, #[.int .u64 p1, .int .u64 p2], true⟩ :: _) _ _ := S2
  refine s_box (.agg #[.int .u64 q1, .int .u64 q2]) A1 S2 (by kernel_rfl) rfl (fun g7 ac wc A5 S6 => ?_)
  replace S6 : St _ (⟨g7, 102, #[.int .u64 q1, .int .u64 q2], true⟩ :: _) _ _ := S6
  refine s_one (.int .i64 0) A5 S6 (g_assign (by kernel_rfl)) rfl (fun ac A9 => ?_)
  refine wpList_nil ?_
  refine n_then ?_
  refine wp_seq ?_
  refine wp_block ?_
  refine wp_seq ?_
  refine wp_region_lit ?_
  refine s_one (.agg #[.int .u64 p1, .int .u64 p2]) A9 S6 (g_load (g := g3) (off := 0) 1 (by kernel_rfl) rfl (by kernel_rfl)) rfl (fun ac A10 => ?_)
  refine s_one (.agg #[.int .u64 q1, .int .u64 q2]) A10 S6 (g_load (g := g7) (off := 0) 0 (by kernel_rfl) rfl (by kernel_rfl)) rfl (fun ac A11 => ?_)
  refine s_one (.bool (decide ([p1, p2] = [q1, q2]))) A11 S6 (g_bin (u := .agg #[.int .u64 p1, .int .u64 p2]) (k := .agg #[.int .u64 q1, .int .u64 q2]) (by kernel_rfl) (by kernel_rfl) (fun _ => by kernel_rfl) (q_structU (n := 2) [p1, p2] [q1, q2] (by kernel_rfl) rfl rfl)) rfl (fun ac A12 => ?_)
  refine s_one (.bool (decide ([p1, p2] = [q1, q2]))) A12 S6 (g_assign (by kernel_rfl)) rfl (fun ac A13 => ?_)
  refine wpList_nil ?_
  refine n_then ?_
  refine c_ifb (b := (decide ([p1, p2] = [q1, q2]))) A13 (by kernel_rfl) (fun h14 => ?_) (fun h14 => ?_)
  · have p15 := of_decide_eq_true h14
    refine wp_seq ?_
    refine wp_region_lit ?_
    refine s_one (.int .i64 0) A13 S6 (g_assign (by kernel_rfl)) rfl (fun ac A16 => ?_)
    refine wpList_nil ?_
    refine n_then ?_
    refine wp_ret ?_
    refine r_block ?_
    refine r_then ?_
    refine fin1 (.int .i64 0) Try.results66 A16 S6 (rv_tmp (by kernel_rfl)) ⟨?_, S6.kp⟩
    have e : compare_a_r p1 p2 q1 q2 = 0 := by unfold compare_a_r; exact ((if_pos (of_decide_eq_true h14)).trans rfl)
    rw [e]
  · have p17 := of_decide_eq_false h14
    refine wp_seq ?_
    refine c_cut (fun ac wc => Fr 29 ac [(9, .bool ((decide (p1 < q1)) || ((decide (p1 = q1)) && (decide (p2 < q2))))), (0, .agg #[.int .u64 p1, .int .u64 p2]), (1, .agg #[.int .u64 q1, .int .u64 q2]), (2, .pointer (some ⟨g3, 0, none⟩)), (3, .pointer (some ⟨g7, 0, none⟩)), (4, .int .i64 0), (6, .agg #[.int .u64 p1, .int .u64 p2]), (7, .agg #[.int .u64 q1, .int .u64 q2]), (8, .bool (decide ([p1, p2] = [q1, q2]))), (5, .bool (decide ([p1, p2] = [q1, q2])))] ∧ St w0 [⟨g7, 102, #[.int .u64 q1, .int .u64 q2], true⟩, ⟨g3, 102, #[.int .u64 p1, .int .u64 p2], true⟩] [] wc) ?_ ?_
    · refine wp_region_lit ?_
      refine s_one (.pointer (some ⟨g3, 0, none⟩)) A13 S6 (g_field (u := .pointer (some ⟨g3, 0, none⟩)) (by kernel_rfl) (fun _ => by kernel_rfl)) rfl (fun ac A18 => ?_)
      refine s_one (.int .u64 p1) A18 S6 (g_load (g := g3) (off := 0) 1 (by kernel_rfl) rfl (by kernel_rfl)) rfl (fun ac A19 => ?_)
      refine s_one (.pointer (some ⟨g7, 0, none⟩)) A19 S6 (g_field (u := .pointer (some ⟨g7, 0, none⟩)) (by kernel_rfl) (fun _ => by kernel_rfl)) rfl (fun ac A20 => ?_)
      refine s_one (.int .u64 q1) A20 S6 (g_load (g := g7) (off := 0) 0 (by kernel_rfl) rfl (by kernel_rfl)) rfl (fun ac A21 => ?_)
      refine s_one (.bool (decide (p1 < q1))) A21 S6 (g_bin (u := .int .u64 p1) (k := .int .u64 q1) (by kernel_rfl) (by kernel_rfl) (fun _ => by kernel_rfl) (fun _ => by kernel_rfl)) rfl (fun ac A22 => ?_)
      refine s_one (.bool (decide (p1 < q1))) A22 S6 (g_move (by kernel_rfl)) rfl (fun ac A23 => ?_)
      refine by_bool (decide (p1 < q1)) (fun h24 => ?_) (fun h24 => ?_)
      · have p25 := of_decide_eq_true h24
        refine s_not (dj := 15) (b := (decide (p1 < q1))) A23 (by kernel_rfl) (by kernel_rfl) h24 rfl (fun ac A26 => ?_)
        refine s_not (dj := 15) (b := (decide (p1 < q1))) A26 (by kernel_rfl) (by kernel_rfl) h24 rfl (fun ac A27 => ?_)
        refine s_not (dj := 15) (b := (decide (p1 < q1))) A27 (by kernel_rfl) (by kernel_rfl) h24 rfl (fun ac A28 => ?_)
        refine s_not (dj := 15) (b := (decide (p1 < q1))) A28 (by kernel_rfl) (by kernel_rfl) h24 rfl (fun ac A29 => ?_)
        refine s_not (dj := 15) (b := (decide (p1 < q1))) A29 (by kernel_rfl) (by kernel_rfl) h24 rfl (fun ac A30 => ?_)
        refine s_not (dj := 15) (b := (decide (p1 < q1))) A30 (by kernel_rfl) (by kernel_rfl) h24 rfl (fun ac A31 => ?_)
        refine s_notU (dj := 21) A31 (by kernel_rfl) (by kernel_rfl) rfl (fun ac A32 => ?_)
        refine s_notU (dj := 21) A32 (by kernel_rfl) (by kernel_rfl) rfl (fun ac A33 => ?_)
        refine s_notU (dj := 21) A33 (by kernel_rfl) (by kernel_rfl) rfl (fun ac A34 => ?_)
        refine s_notU (dj := 21) A34 (by kernel_rfl) (by kernel_rfl) rfl (fun ac A35 => ?_)
        refine s_notU (dj := 21) A35 (by kernel_rfl) (by kernel_rfl) rfl (fun ac A36 => ?_)
        refine s_not (dj := 15) (b := (decide (p1 < q1))) A36 (by kernel_rfl) (by kernel_rfl) h24 rfl (fun ac A37 => ?_)
        refine s_one (.bool true) A37 S6 (g_pick_t (b := (decide (p1 < q1))) (by kernel_rfl) h24 (by kernel_rfl)) rfl (fun ac A38 => ?_)
        refine s_one (.bool true) A38 S6 (g_assign (by kernel_rfl)) rfl (fun ac A39 => ?_)
        refine wpList_nil ?_
        refine n_then ?_
        exact ⟨(A39.slot (A39.slot (A39.slot (A39.slot (A39.slot (A39.slot (A39.slot (A39.slot (A39.slot (A39.slot A39.nil (v := .bool (decide ([p1, p2] = [q1, q2]))) (by kernel_rfl) rfl) (v := .bool (decide ([p1, p2] = [q1, q2]))) (by kernel_rfl) rfl) (v := .agg #[.int .u64 q1, .int .u64 q2]) (by kernel_rfl) rfl) (v := .agg #[.int .u64 p1, .int .u64 p2]) (by kernel_rfl) rfl) (v := .int .i64 0) (by kernel_rfl) rfl) (v := .pointer (some ⟨g7, 0, none⟩)) (by kernel_rfl) rfl) (v := .pointer (some ⟨g3, 0, none⟩)) (by kernel_rfl) rfl) (v := .agg #[.int .u64 q1, .int .u64 q2]) (by kernel_rfl) rfl) (v := .agg #[.int .u64 p1, .int .u64 p2]) (by kernel_rfl) rfl) (v := .bool true) (by kernel_rfl) (congrArg Value.bool (b_ot1 h24).symm)), S6.sub sub_all sub_all⟩
      · have p40 := of_decide_eq_false h24
        refine s_want (dj := 15) (b := (decide (p1 < q1))) A23 (by kernel_rfl) (by kernel_rfl) h24 ?_
        refine s_one (.pointer (some ⟨g3, 0, none⟩)) A23 S6 (g_field (u := .pointer (some ⟨g3, 0, none⟩)) (by kernel_rfl) (fun _ => by kernel_rfl)) rfl (fun ac A41 => ?_)
        refine s_want (dj := 15) (b := (decide (p1 < q1))) A41 (by kernel_rfl) (by kernel_rfl) h24 ?_
        refine s_one (.int .u64 p1) A41 S6 (g_load (g := g3) (off := 0) 1 (by kernel_rfl) rfl (by kernel_rfl)) rfl (fun ac A42 => ?_)
        refine s_want (dj := 15) (b := (decide (p1 < q1))) A42 (by kernel_rfl) (by kernel_rfl) h24 ?_
        refine s_one (.pointer (some ⟨g7, 0, none⟩)) A42 S6 (g_field (u := .pointer (some ⟨g7, 0, none⟩)) (by kernel_rfl) (fun _ => by kernel_rfl)) rfl (fun ac A43 => ?_)
        refine s_want (dj := 15) (b := (decide (p1 < q1))) A43 (by kernel_rfl) (by kernel_rfl) h24 ?_
        refine s_one (.int .u64 q1) A43 S6 (g_load (g := g7) (off := 0) 0 (by kernel_rfl) rfl (by kernel_rfl)) rfl (fun ac A44 => ?_)
        refine s_want (dj := 15) (b := (decide (p1 < q1))) A44 (by kernel_rfl) (by kernel_rfl) h24 ?_
        refine s_one (.bool (decide (p1 = q1))) A44 S6 (g_bin (u := .int .u64 p1) (k := .int .u64 q1) (by kernel_rfl) (by kernel_rfl) (fun _ => by kernel_rfl) b_eql) rfl (fun ac A45 => ?_)
        refine s_want (dj := 15) (b := (decide (p1 < q1))) A45 (by kernel_rfl) (by kernel_rfl) h24 ?_
        refine s_one (.bool (decide (p1 = q1))) A45 S6 (g_move (by kernel_rfl)) rfl (fun ac A46 => ?_)
        refine by_bool (decide (p1 = q1)) (fun h47 => ?_) (fun h47 => ?_)
        · have p48 := of_decide_eq_true h47
          refine s_want (dj := 21) (b := (decide (p1 = q1))) A46 (by kernel_rfl) (by kernel_rfl) h47 ?_
          refine s_one (.pointer (some ⟨g3, 1, none⟩)) A46 S6 (g_field (u := .pointer (some ⟨g3, 0, none⟩)) (by kernel_rfl) (fun _ => by kernel_rfl)) rfl (fun ac A49 => ?_)
          refine s_want (dj := 21) (b := (decide (p1 = q1))) A49 (by kernel_rfl) (by kernel_rfl) h47 ?_
          refine s_one (.int .u64 p2) A49 S6 (g_load (g := g3) (off := 1) 1 (by kernel_rfl) rfl (by kernel_rfl)) rfl (fun ac A50 => ?_)
          refine s_want (dj := 21) (b := (decide (p1 = q1))) A50 (by kernel_rfl) (by kernel_rfl) h47 ?_
          refine s_one (.pointer (some ⟨g7, 1, none⟩)) A50 S6 (g_field (u := .pointer (some ⟨g7, 0, none⟩)) (by kernel_rfl) (fun _ => by kernel_rfl)) rfl (fun ac A51 => ?_)
          refine s_want (dj := 21) (b := (decide (p1 = q1))) A51 (by kernel_rfl) (by kernel_rfl) h47 ?_
          refine s_one (.int .u64 q2) A51 S6 (g_load (g := g7) (off := 1) 0 (by kernel_rfl) rfl (by kernel_rfl)) rfl (fun ac A52 => ?_)
          refine s_want (dj := 21) (b := (decide (p1 = q1))) A52 (by kernel_rfl) (by kernel_rfl) h47 ?_
          refine s_one (.bool (decide (p2 < q2))) A52 S6 (g_bin (u := .int .u64 p2) (k := .int .u64 q2) (by kernel_rfl) (by kernel_rfl) (fun _ => by kernel_rfl) (fun _ => by kernel_rfl)) rfl (fun ac A53 => ?_)
          refine s_want (dj := 15) (b := (decide (p1 < q1))) A53 (by kernel_rfl) (by kernel_rfl) h24 ?_
          refine s_one (.bool (decide (p2 < q2))) A53 S6 (g_pick_t (b := (decide (p1 = q1))) (by kernel_rfl) h47 (by kernel_rfl)) rfl (fun ac A54 => ?_)
          refine s_one (.bool (decide (p2 < q2))) A54 S6 (g_pick_f (b := (decide (p1 < q1))) (by kernel_rfl) h24 (by kernel_rfl)) rfl (fun ac A55 => ?_)
          refine s_one (.bool (decide (p2 < q2))) A55 S6 (g_assign (by kernel_rfl)) rfl (fun ac A56 => ?_)
          refine wpList_nil ?_
          refine n_then ?_
          exact ⟨(A56.slot (A56.slot (A56.slot (A56.slot (A56.slot (A56.slot (A56.slot (A56.slot (A56.slot (A56.slot A56.nil (v := .bool (decide ([p1, p2] = [q1, q2]))) (by kernel_rfl) rfl) (v := .bool (decide ([p1, p2] = [q1, q2]))) (by kernel_rfl) rfl) (v := .agg #[.int .u64 q1, .int .u64 q2]) (by kernel_rfl) rfl) (v := .agg #[.int .u64 p1, .int .u64 p2]) (by kernel_rfl) rfl) (v := .int .i64 0) (by kernel_rfl) rfl) (v := .pointer (some ⟨g7, 0, none⟩)) (by kernel_rfl) rfl) (v := .pointer (some ⟨g3, 0, none⟩)) (by kernel_rfl) rfl) (v := .agg #[.int .u64 q1, .int .u64 q2]) (by kernel_rfl) rfl) (v := .agg #[.int .u64 p1, .int .u64 p2]) (by kernel_rfl) rfl) (v := .bool (decide (p2 < q2))) (by kernel_rfl) (congrArg Value.bool (b_or_f h24 (b_and_t h47 (Eq.refl (decide (p2 < q2))))).symm)), S6.sub sub_all sub_all⟩
        · have p57 := of_decide_eq_false h47
          refine s_not (dj := 21) (b := (decide (p1 = q1))) A46 (by kernel_rfl) (by kernel_rfl) h47 rfl (fun ac A58 => ?_)
          refine s_not (dj := 21) (b := (decide (p1 = q1))) A58 (by kernel_rfl) (by kernel_rfl) h47 rfl (fun ac A59 => ?_)
          refine s_not (dj := 21) (b := (decide (p1 = q1))) A59 (by kernel_rfl) (by kernel_rfl) h47 rfl (fun ac A60 => ?_)
          refine s_not (dj := 21) (b := (decide (p1 = q1))) A60 (by kernel_rfl) (by kernel_rfl) h47 rfl (fun ac A61 => ?_)
          refine s_not (dj := 21) (b := (decide (p1 = q1))) A61 (by kernel_rfl) (by kernel_rfl) h47 rfl (fun ac A62 => ?_)
          refine s_want (dj := 15) (b := (decide (p1 < q1))) A62 (by kernel_rfl) (by kernel_rfl) h24 ?_
          refine s_one (.bool false) A62 S6 (g_pick_f (b := (decide (p1 = q1))) (by kernel_rfl) h47 (by kernel_rfl)) rfl (fun ac A63 => ?_)
          refine s_one (.bool false) A63 S6 (g_pick_f (b := (decide (p1 < q1))) (by kernel_rfl) h24 (by kernel_rfl)) rfl (fun ac A64 => ?_)
          refine s_one (.bool false) A64 S6 (g_assign (by kernel_rfl)) rfl (fun ac A65 => ?_)
          refine wpList_nil ?_
          refine n_then ?_
          exact ⟨(A65.slot (A65.slot (A65.slot (A65.slot (A65.slot (A65.slot (A65.slot (A65.slot (A65.slot (A65.slot A65.nil (v := .bool (decide ([p1, p2] = [q1, q2]))) (by kernel_rfl) rfl) (v := .bool (decide ([p1, p2] = [q1, q2]))) (by kernel_rfl) rfl) (v := .agg #[.int .u64 q1, .int .u64 q2]) (by kernel_rfl) rfl) (v := .agg #[.int .u64 p1, .int .u64 p2]) (by kernel_rfl) rfl) (v := .int .i64 0) (by kernel_rfl) rfl) (v := .pointer (some ⟨g7, 0, none⟩)) (by kernel_rfl) rfl) (v := .pointer (some ⟨g3, 0, none⟩)) (by kernel_rfl) rfl) (v := .agg #[.int .u64 q1, .int .u64 q2]) (by kernel_rfl) rfl) (v := .agg #[.int .u64 p1, .int .u64 p2]) (by kernel_rfl) rfl) (v := .bool false) (by kernel_rfl) (congrArg Value.bool (b_of h24 (b_af1 h47)).symm)), S6.sub sub_all sub_all⟩
    · rintro ac wc ⟨A66, S67⟩
      refine n_then ?_
      refine c_ifb (b := ((decide (p1 < q1)) || ((decide (p1 = q1)) && (decide (p2 < q2))))) A66 (by kernel_rfl) (fun h68 => ?_) (fun h68 => ?_)
      · refine wp_seq ?_
        refine wp_region_lit ?_
        refine s_one (.int .i64 (-1)) A66 S67 (g_assign (by kernel_rfl)) rfl (fun ac A69 => ?_)
        refine wpList_nil ?_
        refine n_then ?_
        refine wp_ret ?_
        refine r_block ?_
        refine r_then ?_
        refine fin1 (.int .i64 (-1)) Try.results66 A69 S67 (rv_tmp (by kernel_rfl)) ⟨?_, S67.kp⟩
        have e : compare_a_r p1 p2 q1 q2 = (-1) := by unfold compare_a_r; exact ((if_neg (of_decide_eq_false h14)).trans ((bif_t h68).trans rfl))
        rw [e]
      · have h70 := (Bool.or_eq_false_iff.1 h68).1
        have p71 := of_decide_eq_false h70
        have h72 := (Bool.or_eq_false_iff.1 h68).2
        refine wp_skip ?_
        refine n_block ?_
        refine n_then ?_
        refine wp_seq ?_
        refine wp_region_lit ?_
        refine s_one (.int .i64 1) A66 S67 (g_assign (by kernel_rfl)) rfl (fun ac A73 => ?_)
        refine wpList_nil ?_
        refine n_then ?_
        refine wp_ret ?_
        refine fin1 (.int .i64 1) Try.results66 A73 S67 (rv_tmp (by kernel_rfl)) ⟨?_, S67.kp⟩
        have e : compare_a_r p1 p2 q1 q2 = 1 := by unfold compare_a_r; exact ((if_neg (of_decide_eq_false h14)).trans ((bif_f h68).trans rfl))
        rw [e]

end Go.Proofs.Ytfeapeblnnmhlaa
