/- The walk of RayCrossings: it returns true. -/
import Derived.Test.YtnfmfkejhgbipaaRay7
import Derived.Test.YtnfmfkejhgbipaaArgs
namespace Go.Proofs.Ytnfmfkejhgbipaa
open Go.RowKit Go.Cpl Go.Ray1

set_option maxRecDepth 100000 in
set_option maxHeartbeats 400000 in
theorem RayCrossings_s (c : Cr) (w0 : World) :
    Calls Try.prog 3 #[.agg #[.int .i64 c.x1, .int .i64 c.h1, .int .i64 c.v1, .int .i64 c.x2, .int .i64 c.h2, .int .i64 c.v2]] w0 fun e w' => e = .returned (.bool true) ∧ Below w0.heap.size w0 w' := by
  have S0 := St.start w0
  refine enter (n := 59) Try.func3 rfl rfl rfl (fun ac A0 => ?_)
  refine wp_seq ?_
  refine wp_region_lit ?_
  refine s_box (.agg #[.int .i64 c.x1, .int .i64 c.h1, .int .i64 c.v1, .int .i64 c.x2, .int .i64 c.h2, .int .i64 c.v2]) A0 S0 (by kernel_rfl) rfl (fun g3 ac wc A1 S2 => ?_)
  replace S2 : St _ (⟨g3, 23, #[.int .i64 c.x1, .int .i64 c.h1, .int .i64 c.v1, .int .i64 c.x2, .int .i64 c.h2, .int .i64 c.v2], true⟩ :: _) _ _ := S2
  refine s_one (.bool false) A1 S2 (g_assign (by kernel_rfl)) rfl (fun ac A5 => ?_)
  refine wpList_nil ?_
  refine n_then ?_
  refine wp_seq ?_
  refine wp_seq ?_
  refine wp_region_lit ?_
  refine s_call (fs := #[]) (cp := #[]) (r := []) #[] (.bool true) A5 S2 (awake_s _) Try.call19 (by kernel_rfl) (by kernel_rfl) (by kernel_rfl) rfl (fun ac wc A6 S7 => ?_)
  refine s_one (.bool false) A6 S7 (g_un (u := .bool true) (by kernel_rfl) (fun _ => by kernel_rfl)) rfl (fun ac A9 => ?_)
  refine wpList_nil ?_
  refine n_then ?_
  refine c_f (b := false) A9 (by kernel_rfl) rfl ?_
  refine wp_skip ?_
  refine n_then ?_
  refine wp_seq ?_
  refine wp_region_lit ?_
  refine s_one (.agg #[.int .i64 c.x1, .int .i64 c.h1, .int .i64 c.v1, .int .i64 c.x2, .int .i64 c.h2, .int .i64 c.v2]) A9 S7 (g_load (g := g3) (off := 0) 0 (by kernel_rfl) rfl (by kernel_rfl)) rfl (fun ac A10 => ?_)
  refine s_call (fs := #[]) (cp := #[]) (r := [(0, .agg #[.int .i64 c.x1, .int .i64 c.h1, .int .i64 c.v1, .int .i64 c.x2, .int .i64 c.h2, .int .i64 c.v2])]) #[.agg #[.int .i64 c.x1, .int .i64 c.h1, .int .i64 c.v1, .int .i64 c.x2, .int .i64 c.h2, .int .i64 c.v2]] (.tuple #[.int .i64 (zv (crE c) (crs c)), .int .i64 (crE c)]) A10 S7 (Crossing_s c _) Try.call20 (by kernel_rfl) (by kernel_rfl) (by kernel_rfl) rfl (fun ac wc A11 S12 => ?_)
  refine s_one (.tuple #[.int .i64 (zv (crE c) (crs c)), .int .i64 (crE c)]) A11 S12 (g_move (by kernel_rfl)) rfl (fun ac A14 => ?_)
  refine s_one (.int .i64 (zv (crE c) (crs c))) A14 S12 (g_extract (u := .tuple #[.int .i64 (zv (crE c) (crs c)), .int .i64 (crE c)]) (by kernel_rfl) (fun _ => by kernel_rfl)) rfl (fun ac A15 => ?_)
  refine s_one (.int .i64 (crE c)) A15 S12 (g_extract (u := .tuple #[.int .i64 (zv (crE c) (crs c)), .int .i64 (crE c)]) (by kernel_rfl) (fun _ => by kernel_rfl)) rfl (fun ac A16 => ?_)
  refine s_one (.int .i64 (zv (crE c) (crs c))) A16 S12 (g_assign (by kernel_rfl)) rfl (fun ac A17 => ?_)
  refine s_one (.int .i64 (crE c)) A17 S12 (g_assign (by kernel_rfl)) rfl (fun ac A18 => ?_)
  refine wpList_nil ?_
  refine n_then ?_
  refine wp_seq ?_
  refine wp_region_lit ?_
  refine s_one (.agg #[.int .i64 c.x1, .int .i64 c.h1, .int .i64 c.v1, .int .i64 c.x2, .int .i64 c.h2, .int .i64 c.v2]) A18 S12 (g_load (g := g3) (off := 0) 0 (by kernel_rfl) rfl (by kernel_rfl)) rfl (fun ac A19 => ?_)
  refine s_call (fs := #[]) (cp := #[]) (r := [(0, .agg #[.int .i64 c.x1, .int .i64 c.h1, .int .i64 c.v1, .int .i64 c.x2, .int .i64 c.h2, .int .i64 c.v2])]) #[.agg #[.int .i64 c.x1, .int .i64 c.h1, .int .i64 c.v1, .int .i64 c.x2, .int .i64 c.h2, .int .i64 c.v2]] (.tuple #[.agg #[.int .i64 (zv (crE c) (leLo c)), .int .i64 (zv (crE c) (mHi c))], .int .i64 (crE c)]) A19 S12 (Least_s c _) Try.call21 (by kernel_rfl) (by kernel_rfl) (by kernel_rfl) rfl (fun ac wc A20 S21 => ?_)
  refine s_one (.tuple #[.agg #[.int .i64 (zv (crE c) (leLo c)), .int .i64 (zv (crE c) (mHi c))], .int .i64 (crE c)]) A20 S21 (g_move (by kernel_rfl)) rfl (fun ac A23 => ?_)
  refine s_one (.agg #[.int .i64 (zv (crE c) (leLo c)), .int .i64 (zv (crE c) (mHi c))]) A23 S21 (g_extract (u := .tuple #[.agg #[.int .i64 (zv (crE c) (leLo c)), .int .i64 (zv (crE c) (mHi c))], .int .i64 (crE c)]) (by kernel_rfl) (fun _ => by kernel_rfl)) rfl (fun ac A24 => ?_)
  refine s_one (.int .i64 (crE c)) A24 S21 (g_extract (u := .tuple #[.agg #[.int .i64 (zv (crE c) (leLo c)), .int .i64 (zv (crE c) (mHi c))], .int .i64 (crE c)]) (by kernel_rfl) (fun _ => by kernel_rfl)) rfl (fun ac A25 => ?_)
  refine s_alloc (#[.int .i64 0, .int .i64 0]) A25 S21 (by kernel_rfl) rfl (fun g28 ac wc A26 S27 => ?_)
  refine s_store (g := g28) (off := 0) (v := .agg #[.int .i64 (zv (crE c) (leLo c)), .int .i64 (zv (crE c) (mHi c))]) 0 (#[.int .i64 (zv (crE c) (leLo c)), .int .i64 (zv (crE c) (mHi c))]) A26 S27 (by kernel_rfl) (by kernel_rfl) rfl (by kernel_rfl) (fun wc S30 => ?_)
  refine s_one (.int .i64 (crE c)) A26 S30 (g_assign (by kernel_rfl)) rfl (fun ac A32 => ?_)
  refine wpList_nil ?_
  refine n_then ?_
  refine wp_seq ?_
  refine wp_seq ?_
  refine wp_region_lit ?_
  refine s_one (.agg #[.int .i64 c.x1, .int .i64 c.h1, .int .i64 c.v1, .int .i64 c.x2, .int .i64 c.h2, .int .i64 c.v2]) A32 S30 (g_load (g := g3) (off := 0) 1 (by kernel_rfl) rfl (by kernel_rfl)) rfl (fun ac A33 => ?_)
  refine s_call (fs := #[]) (cp := #[]) (r := [(0, .agg #[.int .i64 c.x1, .int .i64 c.h1, .int .i64 c.v1, .int .i64 c.x2, .int .i64 c.h2, .int .i64 c.v2])]) #[.agg #[.int .i64 c.x1, .int .i64 c.h1, .int .i64 c.v1, .int .i64 c.x2, .int .i64 c.h2, .int .i64 c.v2]] (.int .i64 (crE c)) A33 S30 (refCheckCross_s c _) Try.call22 (by kernel_rfl) (by kernel_rfl) (by kernel_rfl) rfl (fun ac wc A34 S35 => ?_)
  refine s_one (.int .i64 (crE c)) A34 S35 (g_assign (by kernel_rfl)) rfl (fun ac A37 => ?_)
  refine wpList_nil ?_
  refine n_then ?_
  refine wp_seq ?_
  refine wp_region_lit ?_
  refine s_one (.int .i64 (crE c)) A37 S35 (g_move (by kernel_rfl)) rfl (fun ac A38 => ?_)
  refine s_one (.bool (decide (crE c ≠ 0))) A38 S35 (g_bin (u := .int .i64 (crE c)) (k := .int .i64 0) (by kernel_rfl) (by kernel_rfl) (fun _ => by kernel_rfl) b_neq) rfl (fun ac A39 => ?_)
  refine wpList_nil ?_
  refine n_then ?_
  refine c_ifb (b := (decide (crE c ≠ 0))) A39 (by kernel_rfl) (fun h40 => ?_) (fun h40 => ?_)
  · have p41 := of_decide_eq_true h40
    refine wp_seq ?_
    refine wp_region_lit ?_
    refine s_one (.int .i64 (crE c)) A39 S35 (g_move (by kernel_rfl)) rfl (fun ac A42 => ?_)
    refine s_one (.int .i64 (crE c)) A42 S35 (g_move (by kernel_rfl)) rfl (fun ac A43 => ?_)
    refine s_one (.bool (decide (crE c = crE c))) A43 S35 (g_bin (u := .int .i64 (crE c)) (k := .int .i64 (crE c)) (by kernel_rfl) (by kernel_rfl) (fun _ => by kernel_rfl) b_eql) rfl (fun ac A44 => ?_)
    refine s_one (.bool (decide (crE c = crE c))) A44 S35 (g_move (by kernel_rfl)) rfl (fun ac A45 => ?_)
    refine s_want (dj := 27) (b := (decide (crE c = crE c))) A45 (by kernel_rfl) (by kernel_rfl) (decide_eq_true rfl) ?_
    refine s_one (.int .i64 (crE c)) A45 S35 (g_move (by kernel_rfl)) rfl (fun ac A46 => ?_)
    refine s_want (dj := 27) (b := (decide (crE c = crE c))) A46 (by kernel_rfl) (by kernel_rfl) (decide_eq_true rfl) ?_
    refine s_one (.int .i64 (crE c)) A46 S35 (g_move (by kernel_rfl)) rfl (fun ac A47 => ?_)
    refine s_want (dj := 27) (b := (decide (crE c = crE c))) A47 (by kernel_rfl) (by kernel_rfl) (decide_eq_true rfl) ?_
    refine s_one (.bool (decide (crE c = crE c))) A47 S35 (g_bin (u := .int .i64 (crE c)) (k := .int .i64 (crE c)) (by kernel_rfl) (by kernel_rfl) (fun _ => by kernel_rfl) b_eql) rfl (fun ac A48 => ?_)
    refine s_one (.bool (decide (crE c = crE c))) A48 S35 (g_pick_t (b := (decide (crE c = crE c))) (by kernel_rfl) (decide_eq_true rfl) (by kernel_rfl)) rfl (fun ac A49 => ?_)
    refine s_one (.bool (decide (crE c = crE c))) A49 S35 (g_move (by kernel_rfl)) rfl (fun ac A50 => ?_)
    refine s_want (dj := 32) (b := (decide (crE c = crE c))) A50 (by kernel_rfl) (by kernel_rfl) (decide_eq_true rfl) ?_
    refine s_one (.int .i64 (zv (crE c) (crs c))) A50 S35 (g_move (by kernel_rfl)) rfl (fun ac A51 => ?_)
    refine s_want (dj := 32) (b := (decide (crE c = crE c))) A51 (by kernel_rfl) (by kernel_rfl) (decide_eq_true rfl) ?_
    refine s_one (.bool (decide (zv (crE c) (crs c) = 0))) A51 S35 (g_bin (u := .int .i64 (zv (crE c) (crs c))) (k := .int .i64 0) (by kernel_rfl) (by kernel_rfl) (fun _ => by kernel_rfl) b_eql) rfl (fun ac A52 => ?_)
    refine s_one (.bool (decide (zv (crE c) (crs c) = 0))) A52 S35 (g_pick_t (b := (decide (crE c = crE c))) (by kernel_rfl) (decide_eq_true rfl) (by kernel_rfl)) rfl (fun ac A53 => ?_)
    refine s_one (.bool (decide (zv (crE c) (crs c) = 0))) A53 S35 (g_move (by kernel_rfl)) rfl (fun ac A54 => ?_)
    refine s_want (dj := 36) (b := (decide (zv (crE c) (crs c) = 0))) A54 (by kernel_rfl) (by kernel_rfl) (decide_eq_true (by simp only [zv_n p41])) ?_
    refine s_one (.agg #[.int .i64 (zv (crE c) (leLo c)), .int .i64 (zv (crE c) (mHi c))]) A54 S35 (g_load (g := g28) (off := 0) 0 (by kernel_rfl) rfl (by kernel_rfl)) rfl (fun ac A55 => ?_)
    refine s_want (dj := 36) (b := (decide (zv (crE c) (crs c) = 0))) A55 (by kernel_rfl) (by kernel_rfl) (decide_eq_true (by simp only [zv_n p41])) ?_
    refine s_one (.agg #[.int .i64 0, .int .i64 0]) A55 S35 (g_build (r := []) (by kernel_rfl) (fun _ => by kernel_rfl)) rfl (fun ac A56 => ?_)
    refine s_want (dj := 36) (b := (decide (zv (crE c) (crs c) = 0))) A56 (by kernel_rfl) (by kernel_rfl) (decide_eq_true (by simp only [zv_n p41])) ?_
    refine s_one (.bool (decide ([zv (crE c) (leLo c), zv (crE c) (mHi c)] = [0, 0]))) A56 S35 (g_bin (u := .agg #[.int .i64 (zv (crE c) (leLo c)), .int .i64 (zv (crE c) (mHi c))]) (k := .agg #[.int .i64 0, .int .i64 0]) (by kernel_rfl) (by kernel_rfl) (fun _ => by kernel_rfl) (q_struct (n := 2) [zv (crE c) (leLo c), zv (crE c) (mHi c)] [0, 0] (by kernel_rfl) rfl rfl)) rfl (fun ac A57 => ?_)
    refine s_one (.bool (decide ([zv (crE c) (leLo c), zv (crE c) (mHi c)] = [0, 0]))) A57 S35 (g_pick_t (b := (decide (zv (crE c) (crs c) = 0))) (by kernel_rfl) (decide_eq_true (by simp only [zv_n p41])) (by kernel_rfl)) rfl (fun ac A58 => ?_)
    refine s_one (.bool (decide ([zv (crE c) (leLo c), zv (crE c) (mHi c)] = [0, 0]))) A58 S35 (g_assign (by kernel_rfl)) rfl (fun ac A59 => ?_)
    refine wpList_nil ?_
    refine n_then ?_
    refine wp_ret ?_
    refine r_then ?_
    refine fin1 (.bool (decide ([zv (crE c) (leLo c), zv (crE c) (mHi c)] = [0, 0]))) Try.results3 A59 S35 (rv_tmp (by kernel_rfl)) ⟨?_, S35.kp⟩
    exact congrArg (fun b => Ending.returned (Value.bool b)) (decide_eq_true (by simp only [zv_n p41]))
  · have p60 := of_decide_eq_false h40
    have ze : crE c = 0 := by simpa using h40
    have ok := crE_ok ze
    refine wp_skip ?_
    refine n_then ?_
    refine wp_seq ?_
    refine r_begin (w0 := w0) (by kernel_rfl) (S35.sub sub_all sub_all) (fun wc T61 B62 => ?_)
    have S63 := S35.kept B62
    refine r_take 0 (.int .i64 (crE c)) A39 T61 (g_move (by kernel_rfl)) rfl rfl rfl (pf_then pf_body) (by kernel_rfl) (fun ac A64 => ?_)
    refine r_take 1 (.bool (decide (crE c = 0))) A64 T61 (g_bin (u := .int .i64 (crE c)) (k := .int .i64 0) (by kernel_rfl) (by kernel_rfl) (fun _ => by kernel_rfl) b_eql) rfl rfl rfl (pf_then pf_body) (by kernel_rfl) (fun ac A65 => ?_)
    refine r_take 2 (.bool (decide (crE c = 0))) A65 T61 (g_move (by kernel_rfl)) rfl rfl rfl (pf_then pf_body) (by kernel_rfl) (fun ac A66 => ?_)
    refine r_take 3 (.int .i64 (zv (crE c) (crs c))) A66 T61 (g_move (by kernel_rfl)) rfl (want_t (dj := 43) (b := (decide (crE c = 0))) A66 rfl (by kernel_rfl) (by kernel_rfl) (decide_eq_true ze)) rfl (pf_then pf_body) (by kernel_rfl) (fun ac A67 => ?_)
    refine r_take 4 (.agg #[.int .i64 c.x1, .int .i64 c.h1, .int .i64 c.v1, .int .i64 c.x2, .int .i64 c.h2, .int .i64 c.v2]) A67 T61 (g_load (g := g3) (off := 0) 1 (by kernel_rfl) rfl (by kernel_rfl)) rfl (want_t (dj := 43) (b := (decide (crE c = 0))) A67 rfl (by kernel_rfl) (by kernel_rfl) (decide_eq_true ze)) rfl (pf_then pf_body) (by kernel_rfl) (fun ac A68 => ?_)
    refine r_1 (i := 5) (by kernel_rfl) ?_
    have kk73 := crs_bd (c := c) ok
    refine rs_call (fs := #[]) (cp := #[]) (r := [(0, .agg #[.int .i64 c.x1, .int .i64 c.h1, .int .i64 c.v1, .int .i64 c.x2, .int .i64 c.h2, .int .i64 c.v2])]) #[.agg #[.int .i64 c.x1, .int .i64 c.h1, .int .i64 c.v1, .int .i64 c.x2, .int .i64 c.h2, .int .i64 c.v2]] (.int .i64 (crs c)) A68 S63 sub_all sub_all (refCrossing_s c _ ok) Try.call23 rfl (want_t (dj := 43) (b := (decide (crE c = 0))) A68 rfl (by kernel_rfl) (by kernel_rfl) (decide_eq_true ze)) (by kernel_rfl) (by kernel_rfl) (by kernel_rfl) rfl (fun ac wc A69 S70 => ?_)
    have T72 := S70.sub sub_all sub_all
    refine r_take 6 (.bool (decide (zv (crE c) (crs c) = crs c))) A69 T72 (g_bin (u := .int .i64 (zv (crE c) (crs c))) (k := .int .i64 (crs c)) (by kernel_rfl) (by kernel_rfl) (fun _ => by kernel_rfl) b_eql) rfl (want_t (dj := 43) (b := (decide (crE c = 0))) A69 rfl (by kernel_rfl) (by kernel_rfl) (decide_eq_true ze)) rfl (pf_then pf_body) (by kernel_rfl) (fun ac A74 => ?_)
    refine r_take 7 (.bool (decide (zv (crE c) (crs c) = crs c))) A74 T72 (g_pick_t (b := (decide (crE c = 0))) (by kernel_rfl) (decide_eq_true ze) (by kernel_rfl)) rfl rfl rfl (pf_then pf_body) (by kernel_rfl) (fun ac A75 => ?_)
    refine r_take 8 (.bool (decide (zv (crE c) (crs c) = crs c))) A75 T72 (g_move (by kernel_rfl)) rfl rfl rfl (pf_then pf_body) (by kernel_rfl) (fun ac A76 => ?_)
    refine r_take 9 (.int .i64 (crE c)) A76 T72 (g_move (by kernel_rfl)) rfl (want_t (dj := 49) (b := (decide (zv (crE c) (crs c) = crs c))) A76 rfl (by kernel_rfl) (by kernel_rfl) (decide_eq_true (by simp only [zv_0 ze]))) rfl (pf_then pf_body) (by kernel_rfl) (fun ac A77 => ?_)
    refine r_take 10 (.bool (decide (crE c = 0))) A77 T72 (g_bin (u := .int .i64 (crE c)) (k := .int .i64 0) (by kernel_rfl) (by kernel_rfl) (fun _ => by kernel_rfl) b_eql) rfl (want_t (dj := 49) (b := (decide (zv (crE c) (crs c) = crs c))) A77 rfl (by kernel_rfl) (by kernel_rfl) (decide_eq_true (by simp only [zv_0 ze]))) rfl (pf_then pf_body) (by kernel_rfl) (fun ac A78 => ?_)
    refine r_take 11 (.bool (decide (crE c = 0))) A78 T72 (g_pick_t (b := (decide (zv (crE c) (crs c) = crs c))) (by kernel_rfl) (decide_eq_true (by simp only [zv_0 ze])) (by kernel_rfl)) rfl rfl rfl (pf_then pf_body) (by kernel_rfl) (fun ac A79 => ?_)
    refine r_take 12 (.bool (decide (crE c = 0))) A79 T72 (g_move (by kernel_rfl)) rfl rfl rfl (pf_then pf_body) (by kernel_rfl) (fun ac A80 => ?_)
    refine r_take 13 (.agg #[.int .i64 (zv (crE c) (leLo c)), .int .i64 (zv (crE c) (mHi c))]) A80 T72 (g_load (g := g28) (off := 0) 0 (by kernel_rfl) rfl (by kernel_rfl)) rfl (want_t (dj := 53) (b := (decide (crE c = 0))) A80 rfl (by kernel_rfl) (by kernel_rfl) (decide_eq_true ze)) rfl (pf_then pf_body) (by kernel_rfl) (fun ac A81 => ?_)
    refine r_take 14 (.agg #[.int .i64 c.x1, .int .i64 c.h1, .int .i64 c.v1, .int .i64 c.x2, .int .i64 c.h2, .int .i64 c.v2]) A81 T72 (g_load (g := g3) (off := 0) 1 (by kernel_rfl) rfl (by kernel_rfl)) rfl (want_t (dj := 53) (b := (decide (crE c = 0))) A81 rfl (by kernel_rfl) (by kernel_rfl) (decide_eq_true ze)) rfl (pf_then pf_body) (by kernel_rfl) (fun ac A82 => ?_)
    refine r_1 (i := 15) (by kernel_rfl) ?_
    have q87 := le_bd (c := c) ok
    refine rs_call (fs := #[]) (cp := #[]) (r := [(0, .agg #[.int .i64 c.x1, .int .i64 c.h1, .int .i64 c.v1, .int .i64 c.x2, .int .i64 c.h2, .int .i64 c.v2])]) #[.agg #[.int .i64 c.x1, .int .i64 c.h1, .int .i64 c.v1, .int .i64 c.x2, .int .i64 c.h2, .int .i64 c.v2]] (.agg #[.int .i64 (leLo c), .int .i64 (mHi c)]) A82 S70 sub_all sub_all (refLeast_s c _ ok) Try.call24 rfl (want_t (dj := 53) (b := (decide (crE c = 0))) A82 rfl (by kernel_rfl) (by kernel_rfl) (decide_eq_true ze)) (by kernel_rfl) (by kernel_rfl) (by kernel_rfl) rfl (fun ac wc A83 S84 => ?_)
    have T86 := S84.sub sub_all sub_all
    refine r_take 16 (.bool (decide ([zv (crE c) (leLo c), zv (crE c) (mHi c)] = [leLo c, mHi c]))) A83 T86 (g_bin (u := .agg #[.int .i64 (zv (crE c) (leLo c)), .int .i64 (zv (crE c) (mHi c))]) (k := .agg #[.int .i64 (leLo c), .int .i64 (mHi c)]) (by kernel_rfl) (by kernel_rfl) (fun _ => by kernel_rfl) (q_struct (n := 2) [zv (crE c) (leLo c), zv (crE c) (mHi c)] [leLo c, mHi c] (by kernel_rfl) rfl rfl)) rfl (want_t (dj := 53) (b := (decide (crE c = 0))) A83 rfl (by kernel_rfl) (by kernel_rfl) (decide_eq_true ze)) rfl (pf_then pf_body) (by kernel_rfl) (fun ac A88 => ?_)
    refine r_take 17 (.bool (decide ([zv (crE c) (leLo c), zv (crE c) (mHi c)] = [leLo c, mHi c]))) A88 T86 (g_pick_t (b := (decide (crE c = 0))) (by kernel_rfl) (decide_eq_true ze) (by kernel_rfl)) rfl rfl rfl (pf_then pf_body) (by kernel_rfl) (fun ac A89 => ?_)
    refine r_take 18 (.bool (decide ([zv (crE c) (leLo c), zv (crE c) (mHi c)] = [leLo c, mHi c]))) A89 T86 (g_assign (by kernel_rfl)) rfl rfl rfl (pf_then pf_body) (by kernel_rfl) (fun ac A90 => ?_)
    refine r_done (by kernel_rfl) ?_
    refine n_then ?_
    refine wp_ret ?_
    refine fin1 (.bool (decide ([zv (crE c) (leLo c), zv (crE c) (mHi c)] = [leLo c, mHi c]))) Try.results3 A90 S84 (rv_tmp (by kernel_rfl)) ⟨?_, S84.kp⟩
    exact congrArg (fun b => Ending.returned (Value.bool b)) (decide_eq_true (by simp only [zv_0 ze]))

end Go.Proofs.Ytnfmfkejhgbipaa
