/- The walk of RayAngles: it returns true. -/
import Derived.Test.YtnfmfkejhgbipaaRay10
import Derived.Test.YtnfmfkejhgbipaaPlain
import Derived.Test.YtnfmfkejhgbipaaArgs
namespace Go.Proofs.Ytnfmfkejhgbipaa
open Go.RowKit Go.Cpl Go.Ray1

theorem bsE_p {a b v w : Int} (h : psE a b v w ≠ 0) : bsE a b v w = psE a b v w := if_neg h

set_option maxRecDepth 100000 in
set_option maxHeartbeats 400000 in
theorem RayAngles_s (a b v w : Int) (w0 : World) :
    Calls Try.prog 15 #[.agg #[.int .i64 a, .int .i64 b], .int .i64 v, .int .i64 w] w0 fun e w' => e = .returned (.bool true) ∧ Below w0.heap.size w0 w' := by
  have S0 := St.start w0
  refine enter (n := 115) Try.func15 rfl rfl rfl (fun ac A0 => ?_)
  refine wp_seq ?_
  refine wp_region_lit ?_
  refine s_box (.agg #[.int .i64 a, .int .i64 b]) A0 S0 (by kernel_rfl) rfl (fun g3 ac wc A1 S2 => ?_)
  replace S2 : St _ (⟨g3, 71, #[.int .i64 a, .int .i64 b], true⟩ :: _) _ _ := S2
  refine s_one (.bool false) A1 S2 (g_assign (by kernel_rfl)) rfl (fun ac A5 => ?_)
  refine wpList_nil ?_
  refine n_then ?_
  refine wp_seq ?_
  refine wp_seq ?_
  refine wp_region_lit ?_
  refine s_call (fs := #[]) (cp := #[]) (r := []) #[] (.bool true) A5 S2 (awake_s _) Try.call19 (by kernel_rfl) (by kernel_rfl) (by kernel_rfl) rfl (fun ac wc A6 S7 => ?_)
  refine s_one (.bool false) A6 S7 (g_un (u := .bool true) (by kernel_rfl) (fun _ => by kernel_rfl)) rfl (fun ac A9 => ?_)
  refine wpList_nil ?_
  refine n_then ?_
  refine c_f (b := false) A9 (by kernel_rfl) rfl ?_
  refine wp_skip ?_
  refine n_then ?_
  refine wp_seq ?_
  refine wp_region_lit ?_
  refine s_one (.int .i64 v) A9 S7 (g_move (by kernel_rfl)) rfl (fun ac A10 => ?_)
  refine s_one (.int .i64 w) A10 S7 (g_move (by kernel_rfl)) rfl (fun ac A11 => ?_)
  refine s_call (fs := #[]) (cp := #[]) (r := [(0, .int .i64 v), (0, .int .i64 w)]) #[.int .i64 v, .int .i64 w] (.tuple #[.agg #[.int .i64 (zv (csE v w) (Int.tdiv (v * v) (gcdE (v * v) (w * w)))), .int .i64 (zv (csE v w) (Int.tdiv (w * w) (gcdE (v * v) (w * w))))], .int .i64 (csE v w)]) A11 S7 (CriticalSquare_s v w _) Try.call67 (by kernel_rfl) (by kernel_rfl) (by kernel_rfl) rfl (fun ac wc A12 S13 => ?_)
  refine s_one (.tuple #[.agg #[.int .i64 (zv (csE v w) (Int.tdiv (v * v) (gcdE (v * v) (w * w)))), .int .i64 (zv (csE v w) (Int.tdiv (w * w) (gcdE (v * v) (w * w))))], .int .i64 (csE v w)]) A12 S13 (g_move (by kernel_rfl)) rfl (fun ac A15 => ?_)
  refine s_one (.agg #[.int .i64 (zv (csE v w) (Int.tdiv (v * v) (gcdE (v * v) (w * w)))), .int .i64 (zv (csE v w) (Int.tdiv (w * w) (gcdE (v * v) (w * w))))]) A15 S13 (g_extract (u := .tuple #[.agg #[.int .i64 (zv (csE v w) (Int.tdiv (v * v) (gcdE (v * v) (w * w)))), .int .i64 (zv (csE v w) (Int.tdiv (w * w) (gcdE (v * v) (w * w))))], .int .i64 (csE v w)]) (by kernel_rfl) (fun _ => by kernel_rfl)) rfl (fun ac A16 => ?_)
  refine s_one (.int .i64 (csE v w)) A16 S13 (g_extract (u := .tuple #[.agg #[.int .i64 (zv (csE v w) (Int.tdiv (v * v) (gcdE (v * v) (w * w)))), .int .i64 (zv (csE v w) (Int.tdiv (w * w) (gcdE (v * v) (w * w))))], .int .i64 (csE v w)]) (by kernel_rfl) (fun _ => by kernel_rfl)) rfl (fun ac A17 => ?_)
  refine s_alloc (#[.int .i64 0, .int .i64 0]) A17 S13 (by kernel_rfl) rfl (fun g20 ac wc A18 S19 => ?_)
  refine s_store (g := g20) (off := 0) (v := .agg #[.int .i64 (zv (csE v w) (Int.tdiv (v * v) (gcdE (v * v) (w * w)))), .int .i64 (zv (csE v w) (Int.tdiv (w * w) (gcdE (v * v) (w * w))))]) 0 (#[.int .i64 (zv (csE v w) (Int.tdiv (v * v) (gcdE (v * v) (w * w)))), .int .i64 (zv (csE v w) (Int.tdiv (w * w) (gcdE (v * v) (w * w))))]) A18 S19 (by kernel_rfl) (by kernel_rfl) rfl (by kernel_rfl) (fun wc S22 => ?_)
  refine s_one (.int .i64 (csE v w)) A18 S22 (g_assign (by kernel_rfl)) rfl (fun ac A24 => ?_)
  refine wpList_nil ?_
  refine n_then ?_
  refine wp_seq ?_
  refine wp_region_lit ?_
  refine s_one (.agg #[.int .i64 a, .int .i64 b]) A24 S22 (g_load (g := g3) (off := 0) 1 (by kernel_rfl) rfl (by kernel_rfl)) rfl (fun ac A25 => ?_)
  refine s_one (.int .i64 v) A25 S22 (g_move (by kernel_rfl)) rfl (fun ac A26 => ?_)
  refine s_one (.int .i64 w) A26 S22 (g_move (by kernel_rfl)) rfl (fun ac A27 => ?_)
  refine s_call (fs := #[]) (cp := #[]) (r := [(0, .agg #[.int .i64 a, .int .i64 b]), (0, .int .i64 v), (0, .int .i64 w)]) #[.agg #[.int .i64 a, .int .i64 b], .int .i64 v, .int .i64 w] (.tuple #[.bool (zb (psE a b v w) (psB a b v w)), .int .i64 (psE a b v w)]) A27 S22 (Passes_s a b v w _) Try.call45 (by kernel_rfl) (by kernel_rfl) (by kernel_rfl) rfl (fun ac wc A28 S29 => ?_)
  refine s_one (.tuple #[.bool (zb (psE a b v w) (psB a b v w)), .int .i64 (psE a b v w)]) A28 S29 (g_move (by kernel_rfl)) rfl (fun ac A31 => ?_)
  refine s_one (.bool (zb (psE a b v w) (psB a b v w))) A31 S29 (g_extract (u := .tuple #[.bool (zb (psE a b v w) (psB a b v w)), .int .i64 (psE a b v w)]) (by kernel_rfl) (fun _ => by kernel_rfl)) rfl (fun ac A32 => ?_)
  refine s_one (.int .i64 (psE a b v w)) A32 S29 (g_extract (u := .tuple #[.bool (zb (psE a b v w) (psB a b v w)), .int .i64 (psE a b v w)]) (by kernel_rfl) (fun _ => by kernel_rfl)) rfl (fun ac A33 => ?_)
  refine s_one (.bool (zb (psE a b v w) (psB a b v w))) A33 S29 (g_assign (by kernel_rfl)) rfl (fun ac A34 => ?_)
  refine s_one (.int .i64 (psE a b v w)) A34 S29 (g_assign (by kernel_rfl)) rfl (fun ac A35 => ?_)
  refine wpList_nil ?_
  refine n_then ?_
  refine wp_seq ?_
  refine wp_region_lit ?_
  refine s_one (.agg #[.int .i64 a, .int .i64 b]) A35 S29 (g_load (g := g3) (off := 0) 1 (by kernel_rfl) rfl (by kernel_rfl)) rfl (fun ac A36 => ?_)
  refine s_one (.int .i64 v) A36 S29 (g_move (by kernel_rfl)) rfl (fun ac A37 => ?_)
  refine s_one (.int .i64 w) A37 S29 (g_move (by kernel_rfl)) rfl (fun ac A38 => ?_)
  refine s_call (fs := #[]) (cp := #[]) (r := [(0, .agg #[.int .i64 a, .int .i64 b]), (0, .int .i64 v), (0, .int .i64 w)]) #[.agg #[.int .i64 a, .int .i64 b], .int .i64 v, .int .i64 w] (.tuple #[.agg #[.int .i64 (zv (bsE a b v w) (bsN a b v w)), .int .i64 (zv (bsE a b v w) (bsD a b v w))], .int .i64 (bsE a b v w)]) A38 S29 (BehindSquare_s a b v w _) Try.call46 (by kernel_rfl) (by kernel_rfl) (by kernel_rfl) rfl (fun ac wc A39 S40 => ?_)
  refine s_one (.tuple #[.agg #[.int .i64 (zv (bsE a b v w) (bsN a b v w)), .int .i64 (zv (bsE a b v w) (bsD a b v w))], .int .i64 (bsE a b v w)]) A39 S40 (g_move (by kernel_rfl)) rfl (fun ac A42 => ?_)
  refine s_one (.agg #[.int .i64 (zv (bsE a b v w) (bsN a b v w)), .int .i64 (zv (bsE a b v w) (bsD a b v w))]) A42 S40 (g_extract (u := .tuple #[.agg #[.int .i64 (zv (bsE a b v w) (bsN a b v w)), .int .i64 (zv (bsE a b v w) (bsD a b v w))], .int .i64 (bsE a b v w)]) (by kernel_rfl) (fun _ => by kernel_rfl)) rfl (fun ac A43 => ?_)
  refine s_one (.int .i64 (bsE a b v w)) A43 S40 (g_extract (u := .tuple #[.agg #[.int .i64 (zv (bsE a b v w) (bsN a b v w)), .int .i64 (zv (bsE a b v w) (bsD a b v w))], .int .i64 (bsE a b v w)]) (by kernel_rfl) (fun _ => by kernel_rfl)) rfl (fun ac A44 => ?_)
  refine s_alloc (#[.int .i64 0, .int .i64 0]) A44 S40 (by kernel_rfl) rfl (fun g47 ac wc A45 S46 => ?_)
  refine s_store (g := g47) (off := 0) (v := .agg #[.int .i64 (zv (bsE a b v w) (bsN a b v w)), .int .i64 (zv (bsE a b v w) (bsD a b v w))]) 0 (#[.int .i64 (zv (bsE a b v w) (bsN a b v w)), .int .i64 (zv (bsE a b v w) (bsD a b v w))]) A45 S46 (by kernel_rfl) (by kernel_rfl) rfl (by kernel_rfl) (fun wc S49 => ?_)
  refine s_one (.int .i64 (bsE a b v w)) A45 S49 (g_assign (by kernel_rfl)) rfl (fun ac A51 => ?_)
  refine wpList_nil ?_
  refine n_then ?_
  refine wp_seq ?_
  refine wp_region_lit ?_
  refine s_one (.int .i64 v) A51 S49 (g_move (by kernel_rfl)) rfl (fun ac A52 => ?_)
  refine s_call (fs := #[]) (cp := #[]) (r := [(0, .int .i64 v)]) #[.int .i64 v] (.int .i64 (veE v)) A52 S49 (refSpeedErr_s v _) Try.call37 (by kernel_rfl) (by kernel_rfl) (by kernel_rfl) rfl (fun ac wc A53 S54 => ?_)
  refine s_one (.int .i64 (veE v)) A53 S54 (g_assign (by kernel_rfl)) rfl (fun ac A56 => ?_)
  refine wpList_nil ?_
  refine n_then ?_
  refine wp_seq ?_
  refine wp_seq ?_
  refine wp_region_lit ?_
  refine s_one (.int .i64 (veE v)) A56 S54 (g_move (by kernel_rfl)) rfl (fun ac A57 => ?_)
  refine s_one (.bool (decide (veE v = 0))) A57 S54 (g_bin (u := .int .i64 (veE v)) (k := .int .i64 0) (by kernel_rfl) (by kernel_rfl) (fun _ => by kernel_rfl) b_eql) rfl (fun ac A58 => ?_)
  refine wpList_nil ?_
  refine n_then ?_
  refine c_ifb (b := (decide (veE v = 0))) A58 (by kernel_rfl) (fun h59 => ?_) (fun h59 => ?_)
  · have p60 := of_decide_eq_true h59
    have z1 := of_decide_eq_true h59
    refine wp_region_lit ?_
    refine s_one (.int .i64 w) A58 S54 (g_move (by kernel_rfl)) rfl (fun ac A61 => ?_)
    refine s_call (fs := #[]) (cp := #[]) (r := [(0, .int .i64 w)]) #[.int .i64 w] (.int .i64 (veE w)) A61 S54 (refSpeedErr_s w _) Try.call37 (by kernel_rfl) (by kernel_rfl) (by kernel_rfl) rfl (fun ac wc A62 S63 => ?_)
    refine s_one (.int .i64 (veE w)) A62 S63 (g_assign (by kernel_rfl)) rfl (fun ac A65 => ?_)
    refine wpList_nil ?_
    refine n_then ?_
    refine wp_seq ?_
    refine wp_region_lit ?_
    refine s_alloc (#[.int .i64 0, .int .i64 0]) A65 S63 (by kernel_rfl) rfl (fun g68 ac wc A66 S67 => ?_)
    refine wpList_nil ?_
    refine n_then ?_
    refine wp_seq ?_
    refine wp_region_lit ?_
    refine s_one (.int .i64 (veE w)) A66 S67 (g_move (by kernel_rfl)) rfl (fun ac A69 => ?_)
    refine s_one (.int .i64 (veE w)) A69 S67 (g_assign (by kernel_rfl)) rfl (fun ac A70 => ?_)
    refine wpList_nil ?_
    refine n_then ?_
    refine wp_seq ?_
    refine wp_seq ?_
    refine wp_region_lit ?_
    refine s_one (.int .i64 (veE w)) A70 S67 (g_move (by kernel_rfl)) rfl (fun ac A71 => ?_)
    refine s_one (.bool (decide (veE w = 0))) A71 S67 (g_bin (u := .int .i64 (veE w)) (k := .int .i64 0) (by kernel_rfl) (by kernel_rfl) (fun _ => by kernel_rfl) b_eql) rfl (fun ac A72 => ?_)
    refine wpList_nil ?_
    refine n_then ?_
    refine c_ifb (b := (decide (veE w = 0))) A72 (by kernel_rfl) (fun h73 => ?_) (fun h73 => ?_)
    · have p74 := of_decide_eq_true h73
      have z2 := of_decide_eq_true h73
      refine wp_region_lit ?_
      refine s_one (.int .i64 v) A72 S67 (g_move (by kernel_rfl)) rfl (fun ac A75 => ?_)
      refine s_one (.int .i64 w) A75 S67 (g_move (by kernel_rfl)) rfl (fun ac A76 => ?_)
      refine s_call (fs := #[]) (cp := #[]) (r := [(0, .int .i64 v), (0, .int .i64 w)]) #[.int .i64 v, .int .i64 w] (.tuple #[.agg #[.int .i64 (zv (csE v w) (Int.tdiv (v * v) (gcdE (v * v) (w * w)))), .int .i64 (zv (csE v w) (Int.tdiv (w * w) (gcdE (v * v) (w * w))))], .int .i64 (csE v w)]) A76 S67 (refCriticalSquare_s v w _ z1 z2) Try.call68 (by kernel_rfl) (by kernel_rfl) (by kernel_rfl) rfl (fun ac wc A77 S78 => ?_)
      refine s_one (.tuple #[.agg #[.int .i64 (zv (csE v w) (Int.tdiv (v * v) (gcdE (v * v) (w * w)))), .int .i64 (zv (csE v w) (Int.tdiv (w * w) (gcdE (v * v) (w * w))))], .int .i64 (csE v w)]) A77 S78 (g_move (by kernel_rfl)) rfl (fun ac A80 => ?_)
      refine s_one (.agg #[.int .i64 (zv (csE v w) (Int.tdiv (v * v) (gcdE (v * v) (w * w)))), .int .i64 (zv (csE v w) (Int.tdiv (w * w) (gcdE (v * v) (w * w))))]) A80 S78 (g_extract (u := .tuple #[.agg #[.int .i64 (zv (csE v w) (Int.tdiv (v * v) (gcdE (v * v) (w * w)))), .int .i64 (zv (csE v w) (Int.tdiv (w * w) (gcdE (v * v) (w * w))))], .int .i64 (csE v w)]) (by kernel_rfl) (fun _ => by kernel_rfl)) rfl (fun ac A81 => ?_)
      refine s_one (.int .i64 (csE v w)) A81 S78 (g_extract (u := .tuple #[.agg #[.int .i64 (zv (csE v w) (Int.tdiv (v * v) (gcdE (v * v) (w * w)))), .int .i64 (zv (csE v w) (Int.tdiv (w * w) (gcdE (v * v) (w * w))))], .int .i64 (csE v w)]) (by kernel_rfl) (fun _ => by kernel_rfl)) rfl (fun ac A82 => ?_)
      refine s_store (g := g68) (off := 0) (v := .agg #[.int .i64 (zv (csE v w) (Int.tdiv (v * v) (gcdE (v * v) (w * w)))), .int .i64 (zv (csE v w) (Int.tdiv (w * w) (gcdE (v * v) (w * w))))]) 0 (#[.int .i64 (zv (csE v w) (Int.tdiv (v * v) (gcdE (v * v) (w * w)))), .int .i64 (zv (csE v w) (Int.tdiv (w * w) (gcdE (v * v) (w * w))))]) A82 S78 (by kernel_rfl) (by kernel_rfl) rfl (by kernel_rfl) (fun wc S84 => ?_)
      refine s_one (.int .i64 (csE v w)) A82 S84 (g_assign (by kernel_rfl)) rfl (fun ac A86 => ?_)
      refine wpList_nil ?_
      refine n_then ?_
      refine wp_seq ?_
      refine wp_seq ?_
      refine wp_region_lit ?_
      refine s_one (.int .i64 (csE v w)) A86 S84 (g_move (by kernel_rfl)) rfl (fun ac A87 => ?_)
      refine s_one (.int .i64 (csE v w)) A87 S84 (g_move (by kernel_rfl)) rfl (fun ac A88 => ?_)
      refine s_one (.bool (decide (csE v w ≠ csE v w))) A88 S84 (g_bin (u := .int .i64 (csE v w)) (k := .int .i64 (csE v w)) (by kernel_rfl) (by kernel_rfl) (fun _ => by kernel_rfl) b_neq) rfl (fun ac A89 => ?_)
      refine s_one (.bool (decide (csE v w ≠ csE v w))) A89 S84 (g_move (by kernel_rfl)) rfl (fun ac A90 => ?_)
      refine s_want (dj := 59) (b := (decide (csE v w ≠ csE v w))) A90 (by kernel_rfl) (by kernel_rfl) (decide_eq_false (fun h => h rfl)) ?_
      refine s_one (.agg #[.int .i64 (zv (csE v w) (Int.tdiv (v * v) (gcdE (v * v) (w * w)))), .int .i64 (zv (csE v w) (Int.tdiv (w * w) (gcdE (v * v) (w * w))))]) A90 S84 (g_load (g := g20) (off := 0) 2 (by kernel_rfl) rfl (by kernel_rfl)) rfl (fun ac A91 => ?_)
      refine s_want (dj := 59) (b := (decide (csE v w ≠ csE v w))) A91 (by kernel_rfl) (by kernel_rfl) (decide_eq_false (fun h => h rfl)) ?_
      refine s_one (.agg #[.int .i64 (zv (csE v w) (Int.tdiv (v * v) (gcdE (v * v) (w * w)))), .int .i64 (zv (csE v w) (Int.tdiv (w * w) (gcdE (v * v) (w * w))))]) A91 S84 (g_load (g := g68) (off := 0) 0 (by kernel_rfl) rfl (by kernel_rfl)) rfl (fun ac A92 => ?_)
      refine s_want (dj := 59) (b := (decide (csE v w ≠ csE v w))) A92 (by kernel_rfl) (by kernel_rfl) (decide_eq_false (fun h => h rfl)) ?_
      refine s_one (.bool (decide ([zv (csE v w) (Int.tdiv (v * v) (gcdE (v * v) (w * w))), zv (csE v w) (Int.tdiv (w * w) (gcdE (v * v) (w * w)))] ≠ [zv (csE v w) (Int.tdiv (v * v) (gcdE (v * v) (w * w))), zv (csE v w) (Int.tdiv (w * w) (gcdE (v * v) (w * w)))]))) A92 S84 (g_bin (u := .agg #[.int .i64 (zv (csE v w) (Int.tdiv (v * v) (gcdE (v * v) (w * w)))), .int .i64 (zv (csE v w) (Int.tdiv (w * w) (gcdE (v * v) (w * w))))]) (k := .agg #[.int .i64 (zv (csE v w) (Int.tdiv (v * v) (gcdE (v * v) (w * w)))), .int .i64 (zv (csE v w) (Int.tdiv (w * w) (gcdE (v * v) (w * w))))]) (by kernel_rfl) (by kernel_rfl) (fun _ => by kernel_rfl) (q_structN (n := 2) [zv (csE v w) (Int.tdiv (v * v) (gcdE (v * v) (w * w))), zv (csE v w) (Int.tdiv (w * w) (gcdE (v * v) (w * w)))] [zv (csE v w) (Int.tdiv (v * v) (gcdE (v * v) (w * w))), zv (csE v w) (Int.tdiv (w * w) (gcdE (v * v) (w * w)))] (by kernel_rfl) rfl rfl)) rfl (fun ac A93 => ?_)
      refine s_one (.bool (decide ([zv (csE v w) (Int.tdiv (v * v) (gcdE (v * v) (w * w))), zv (csE v w) (Int.tdiv (w * w) (gcdE (v * v) (w * w)))] ≠ [zv (csE v w) (Int.tdiv (v * v) (gcdE (v * v) (w * w))), zv (csE v w) (Int.tdiv (w * w) (gcdE (v * v) (w * w)))]))) A93 S84 (g_pick_f (b := (decide (csE v w ≠ csE v w))) (by kernel_rfl) (decide_eq_false (fun h => h rfl)) (by kernel_rfl)) rfl (fun ac A94 => ?_)
      refine wpList_nil ?_
      refine n_then ?_
      refine c_f (b := (decide ([zv (csE v w) (Int.tdiv (v * v) (gcdE (v * v) (w * w))), zv (csE v w) (Int.tdiv (w * w) (gcdE (v * v) (w * w)))] ≠ [zv (csE v w) (Int.tdiv (v * v) (gcdE (v * v) (w * w))), zv (csE v w) (Int.tdiv (w * w) (gcdE (v * v) (w * w)))]))) A94 (by kernel_rfl) (decide_eq_false (fun h => h rfl)) ?_
      refine wp_skip ?_
      refine n_then ?_
      refine wp_seq ?_
      refine wp_seq ?_
      refine wp_region_lit ?_
      refine s_one (.agg #[.int .i64 a, .int .i64 b]) A94 S84 (g_load (g := g3) (off := 0) 3 (by kernel_rfl) rfl (by kernel_rfl)) rfl (fun ac A95 => ?_)
      refine s_call (fs := #[]) (cp := #[]) (r := [(0, .agg #[.int .i64 a, .int .i64 b])]) #[.agg #[.int .i64 a, .int .i64 b]] (.int .i64 (dirE a b)) A95 S84 (refDirectionErr_s a b _) Try.call65 (by kernel_rfl) (by kernel_rfl) (by kernel_rfl) rfl (fun ac wc A96 S97 => ?_)
      refine s_one (.int .i64 (dirE a b)) A96 S97 (g_assign (by kernel_rfl)) rfl (fun ac A99 => ?_)
      refine wpList_nil ?_
      refine n_then ?_
      refine wp_seq ?_
      refine wp_region_lit ?_
      refine s_one (.int .i64 (dirE a b)) A99 S97 (g_move (by kernel_rfl)) rfl (fun ac A100 => ?_)
      refine s_one (.bool (decide (dirE a b ≠ 0))) A100 S97 (g_bin (u := .int .i64 (dirE a b)) (k := .int .i64 0) (by kernel_rfl) (by kernel_rfl) (fun _ => by kernel_rfl) b_neq) rfl (fun ac A101 => ?_)
      refine wpList_nil ?_
      refine n_then ?_
      refine c_ifb (b := (decide (dirE a b ≠ 0))) A101 (by kernel_rfl) (fun h102 => ?_) (fun h102 => ?_)
      · have p103 := of_decide_eq_true h102
        have zd := of_decide_eq_true h102
        have ep : psE a b v w = dirE a b := fo_ne zd
        have zp : psE a b v w ≠ 0 := ep ▸ zd
        have eb : bsE a b v w = dirE a b := (bsE_p zp).trans ep
        have zbn : bsE a b v w ≠ 0 := eb ▸ zd
        refine wp_region_lit ?_
        refine s_one (.int .i64 (dirE a b)) A101 S97 (g_move (by kernel_rfl)) rfl (fun ac A104 => ?_)
        refine s_one (.int .i64 (dirE a b)) A104 S97 (g_assign (by kernel_rfl)) rfl (fun ac A105 => ?_)
        refine wpList_nil ?_
        refine n_then ?_
        refine wp_seq ?_
        refine wp_seq ?_
        refine wp_region_lit ?_
        refine s_one (.int .i64 (dirE a b)) A105 S97 (g_move (by kernel_rfl)) rfl (fun ac A106 => ?_)
        refine s_one (.bool (decide (dirE a b ≠ 0))) A106 S97 (g_bin (u := .int .i64 (dirE a b)) (k := .int .i64 0) (by kernel_rfl) (by kernel_rfl) (fun _ => by kernel_rfl) b_neq) rfl (fun ac A107 => ?_)
        refine wpList_nil ?_
        refine n_then ?_
        refine c_t (b := (decide (dirE a b ≠ 0))) A107 (by kernel_rfl) h102 ?_
        refine wp_seq ?_
        refine wp_region_lit ?_
        refine s_one (.int .i64 (psE a b v w)) A107 S97 (g_move (by kernel_rfl)) rfl (fun ac A108 => ?_)
        refine s_one (.int .i64 (dirE a b)) A108 S97 (g_move (by kernel_rfl)) rfl (fun ac A109 => ?_)
        refine s_one (.bool (decide (psE a b v w = dirE a b))) A109 S97 (g_bin (u := .int .i64 (psE a b v w)) (k := .int .i64 (dirE a b)) (by kernel_rfl) (by kernel_rfl) (fun _ => by kernel_rfl) b_eql) rfl (fun ac A110 => ?_)
        refine s_one (.bool (decide (psE a b v w = dirE a b))) A110 S97 (g_move (by kernel_rfl)) rfl (fun ac A111 => ?_)
        refine s_want (dj := 74) (b := (decide (psE a b v w = dirE a b))) A111 (by kernel_rfl) (by kernel_rfl) (decide_eq_true (by first | assumption | rfl | (simp only [zv_n zbn]; done) | (intro hh; apply hh; first | exact ec | (simp only [zv_n zc]; done)) | omega)) ?_
        refine s_one (.int .i64 (bsE a b v w)) A111 S97 (g_move (by kernel_rfl)) rfl (fun ac A112 => ?_)
        refine s_want (dj := 74) (b := (decide (psE a b v w = dirE a b))) A112 (by kernel_rfl) (by kernel_rfl) (decide_eq_true (by first | assumption | rfl | (simp only [zv_n zbn]; done) | (intro hh; apply hh; first | exact ec | (simp only [zv_n zc]; done)) | omega)) ?_
        refine s_one (.int .i64 (dirE a b)) A112 S97 (g_move (by kernel_rfl)) rfl (fun ac A113 => ?_)
        refine s_want (dj := 74) (b := (decide (psE a b v w = dirE a b))) A113 (by kernel_rfl) (by kernel_rfl) (decide_eq_true (by first | assumption | rfl | (simp only [zv_n zbn]; done) | (intro hh; apply hh; first | exact ec | (simp only [zv_n zc]; done)) | omega)) ?_
        refine s_one (.bool (decide (bsE a b v w = dirE a b))) A113 S97 (g_bin (u := .int .i64 (bsE a b v w)) (k := .int .i64 (dirE a b)) (by kernel_rfl) (by kernel_rfl) (fun _ => by kernel_rfl) b_eql) rfl (fun ac A114 => ?_)
        refine s_one (.bool (decide (bsE a b v w = dirE a b))) A114 S97 (g_pick_t (b := (decide (psE a b v w = dirE a b))) (by kernel_rfl) (decide_eq_true (by first | assumption | rfl | (simp only [zv_n zbn]; done) | (intro hh; apply hh; first | exact ec | (simp only [zv_n zc]; done)) | omega)) (by kernel_rfl)) rfl (fun ac A115 => ?_)
        refine s_one (.bool (decide (bsE a b v w = dirE a b))) A115 S97 (g_move (by kernel_rfl)) rfl (fun ac A116 => ?_)
        refine s_want (dj := 79) (b := (decide (bsE a b v w = dirE a b))) A116 (by kernel_rfl) (by kernel_rfl) (decide_eq_true (by first | assumption | rfl | (simp only [zv_n zbn]; done) | (intro hh; apply hh; first | exact ec | (simp only [zv_n zc]; done)) | omega)) ?_
        refine s_one (.bool (zb (psE a b v w) (psB a b v w))) A116 S97 (g_move (by kernel_rfl)) rfl (fun ac A117 => ?_)
        refine s_want (dj := 79) (b := (decide (bsE a b v w = dirE a b))) A117 (by kernel_rfl) (by kernel_rfl) (decide_eq_true (by first | assumption | rfl | (simp only [zv_n zbn]; done) | (intro hh; apply hh; first | exact ec | (simp only [zv_n zc]; done)) | omega)) ?_
        refine s_one (.bool (!(zb (psE a b v w) (psB a b v w)))) A117 S97 (g_un (u := .bool (zb (psE a b v w) (psB a b v w))) (by kernel_rfl) (fun _ => by kernel_rfl)) rfl (fun ac A118 => ?_)
        refine s_one (.bool (!(zb (psE a b v w) (psB a b v w)))) A118 S97 (g_pick_t (b := (decide (bsE a b v w = dirE a b))) (by kernel_rfl) (decide_eq_true (by first | assumption | rfl | (simp only [zv_n zbn]; done) | (intro hh; apply hh; first | exact ec | (simp only [zv_n zc]; done)) | omega)) (by kernel_rfl)) rfl (fun ac A119 => ?_)
        refine s_one (.bool (!(zb (psE a b v w) (psB a b v w)))) A119 S97 (g_move (by kernel_rfl)) rfl (fun ac A120 => ?_)
        refine s_want (dj := 83) (b := (!(zb (psE a b v w) (psB a b v w)))) A120 (by kernel_rfl) (by kernel_rfl) (b_nf (zb_n zp _)) ?_
        refine s_one (.agg #[.int .i64 (zv (bsE a b v w) (bsN a b v w)), .int .i64 (zv (bsE a b v w) (bsD a b v w))]) A120 S97 (g_load (g := g47) (off := 0) 1 (by kernel_rfl) rfl (by kernel_rfl)) rfl (fun ac A121 => ?_)
        refine s_want (dj := 83) (b := (!(zb (psE a b v w) (psB a b v w)))) A121 (by kernel_rfl) (by kernel_rfl) (b_nf (zb_n zp _)) ?_
        refine s_one (.agg #[.int .i64 0, .int .i64 0]) A121 S97 (g_build (r := []) (by kernel_rfl) (fun _ => by kernel_rfl)) rfl (fun ac A122 => ?_)
        refine s_want (dj := 83) (b := (!(zb (psE a b v w) (psB a b v w)))) A122 (by kernel_rfl) (by kernel_rfl) (b_nf (zb_n zp _)) ?_
        refine s_one (.bool (decide ([zv (bsE a b v w) (bsN a b v w), zv (bsE a b v w) (bsD a b v w)] = [0, 0]))) A122 S97 (g_bin (u := .agg #[.int .i64 (zv (bsE a b v w) (bsN a b v w)), .int .i64 (zv (bsE a b v w) (bsD a b v w))]) (k := .agg #[.int .i64 0, .int .i64 0]) (by kernel_rfl) (by kernel_rfl) (fun _ => by kernel_rfl) (q_struct (n := 2) [zv (bsE a b v w) (bsN a b v w), zv (bsE a b v w) (bsD a b v w)] [0, 0] (by kernel_rfl) rfl rfl)) rfl (fun ac A123 => ?_)
        refine s_one (.bool (decide ([zv (bsE a b v w) (bsN a b v w), zv (bsE a b v w) (bsD a b v w)] = [0, 0]))) A123 S97 (g_pick_t (b := (!(zb (psE a b v w) (psB a b v w)))) (by kernel_rfl) (b_nf (zb_n zp _)) (by kernel_rfl)) rfl (fun ac A124 => ?_)
        refine s_one (.bool (decide ([zv (bsE a b v w) (bsN a b v w), zv (bsE a b v w) (bsD a b v w)] = [0, 0]))) A124 S97 (g_assign (by kernel_rfl)) rfl (fun ac A125 => ?_)
        refine wpList_nil ?_
        refine n_then ?_
        refine wp_ret ?_
        refine r_then ?_
        refine fin1 (.bool (decide ([zv (bsE a b v w) (bsN a b v w), zv (bsE a b v w) (bsD a b v w)] = [0, 0]))) Try.results15 A125 S97 (rv_tmp (by kernel_rfl)) ⟨?_, S97.kp⟩
        exact congrArg (fun b => Ending.returned (Value.bool b)) (decide_eq_true (by first | assumption | rfl | (simp only [zv_n zbn]; done) | (intro hh; apply hh; first | exact ec | (simp only [zv_n zc]; done)) | omega))
      · have p126 := of_decide_eq_false h102
        have zd : dirE a b = 0 := by simpa using h102
        have ze : psE a b v w = 0 := psE_of zd z1 z2
        refine wp_skip ?_
        refine n_then ?_
        refine wp_seq ?_
        refine wp_seq ?_
        refine wp_region_lit ?_
        refine s_one (.int .i64 (veE w)) A101 S97 (g_move (by kernel_rfl)) rfl (fun ac A127 => ?_)
        refine s_one (.bool (decide (veE w ≠ 0))) A127 S97 (g_bin (u := .int .i64 (veE w)) (k := .int .i64 0) (by kernel_rfl) (by kernel_rfl) (fun _ => by kernel_rfl) b_neq) rfl (fun ac A128 => ?_)
        refine wpList_nil ?_
        refine n_then ?_
        refine c_f (b := (decide (veE w ≠ 0))) A128 (by kernel_rfl) (decide_eq_false (by omega)) ?_
        refine wp_skip ?_
        refine n_then ?_
        refine wp_seq ?_
        refine wp_region_lit ?_
        refine s_one (.agg #[.int .i64 a, .int .i64 b]) A128 S97 (g_load (g := g3) (off := 0) 3 (by kernel_rfl) rfl (by kernel_rfl)) rfl (fun ac A129 => ?_)
        refine s_one (.int .i64 v) A129 S97 (g_move (by kernel_rfl)) rfl (fun ac A130 => ?_)
        refine s_one (.int .i64 w) A130 S97 (g_move (by kernel_rfl)) rfl (fun ac A131 => ?_)
        refine s_call (fs := #[]) (cp := #[]) (r := [(0, .agg #[.int .i64 a, .int .i64 b]), (0, .int .i64 v), (0, .int .i64 w)]) #[.agg #[.int .i64 a, .int .i64 b], .int .i64 v, .int .i64 w] (.tuple #[.agg #[.int .i64 (zv (bsE a b v w) (bsN a b v w)), .int .i64 (zv (bsE a b v w) (bsD a b v w))], .int .i64 (bsE a b v w)]) A131 S97 (refBehindSquare_s a b v w _ ze) Try.call69 (by kernel_rfl) (by kernel_rfl) (by kernel_rfl) rfl (fun ac wc A132 S133 => ?_)
        refine s_one (.tuple #[.agg #[.int .i64 (zv (bsE a b v w) (bsN a b v w)), .int .i64 (zv (bsE a b v w) (bsD a b v w))], .int .i64 (bsE a b v w)]) A132 S133 (g_move (by kernel_rfl)) rfl (fun ac A135 => ?_)
        refine s_one (.agg #[.int .i64 (zv (bsE a b v w) (bsN a b v w)), .int .i64 (zv (bsE a b v w) (bsD a b v w))]) A135 S133 (g_extract (u := .tuple #[.agg #[.int .i64 (zv (bsE a b v w) (bsN a b v w)), .int .i64 (zv (bsE a b v w) (bsD a b v w))], .int .i64 (bsE a b v w)]) (by kernel_rfl) (fun _ => by kernel_rfl)) rfl (fun ac A136 => ?_)
        refine s_one (.int .i64 (bsE a b v w)) A136 S133 (g_extract (u := .tuple #[.agg #[.int .i64 (zv (bsE a b v w) (bsN a b v w)), .int .i64 (zv (bsE a b v w) (bsD a b v w))], .int .i64 (bsE a b v w)]) (by kernel_rfl) (fun _ => by kernel_rfl)) rfl (fun ac A137 => ?_)
        refine s_alloc (#[.int .i64 0, .int .i64 0]) A137 S133 (by kernel_rfl) rfl (fun g140 ac wc A138 S139 => ?_)
        refine s_store (g := g140) (off := 0) (v := .agg #[.int .i64 (zv (bsE a b v w) (bsN a b v w)), .int .i64 (zv (bsE a b v w) (bsD a b v w))]) 0 (#[.int .i64 (zv (bsE a b v w) (bsN a b v w)), .int .i64 (zv (bsE a b v w) (bsD a b v w))]) A138 S139 (by kernel_rfl) (by kernel_rfl) rfl (by kernel_rfl) (fun wc S142 => ?_)
        refine s_one (.int .i64 (bsE a b v w)) A138 S142 (g_assign (by kernel_rfl)) rfl (fun ac A144 => ?_)
        refine wpList_nil ?_
        refine n_then ?_
        refine wp_seq ?_
        refine wp_region_lit ?_
        refine s_one (.int .i64 (psE a b v w)) A144 S142 (g_move (by kernel_rfl)) rfl (fun ac A145 => ?_)
        refine s_one (.bool (decide (psE a b v w = 0))) A145 S142 (g_bin (u := .int .i64 (psE a b v w)) (k := .int .i64 0) (by kernel_rfl) (by kernel_rfl) (fun _ => by kernel_rfl) b_eql) rfl (fun ac A146 => ?_)
        refine s_one (.bool (decide (psE a b v w = 0))) A146 S142 (g_move (by kernel_rfl)) rfl (fun ac A147 => ?_)
        refine s_want (dj := 97) (b := (decide (psE a b v w = 0))) A147 (by kernel_rfl) (by kernel_rfl) (decide_eq_true (by first | assumption | rfl | (simp only [zv_n zbn]; done) | (intro hh; apply hh; first | exact ec | (simp only [zv_n zc]; done)) | omega)) ?_
        refine s_one (.bool (zb (psE a b v w) (psB a b v w))) A147 S142 (g_move (by kernel_rfl)) rfl (fun ac A148 => ?_)
        refine s_want (dj := 97) (b := (decide (psE a b v w = 0))) A148 (by kernel_rfl) (by kernel_rfl) (decide_eq_true (by first | assumption | rfl | (simp only [zv_n zbn]; done) | (intro hh; apply hh; first | exact ec | (simp only [zv_n zc]; done)) | omega)) ?_
        refine s_one (.agg #[.int .i64 a, .int .i64 b]) A148 S142 (g_load (g := g3) (off := 0) 4 (by kernel_rfl) rfl (by kernel_rfl)) rfl (fun ac A149 => ?_)
        refine s_want (dj := 97) (b := (decide (psE a b v w = 0))) A149 (by kernel_rfl) (by kernel_rfl) (decide_eq_true (by first | assumption | rfl | (simp only [zv_n zbn]; done) | (intro hh; apply hh; first | exact ec | (simp only [zv_n zc]; done)) | omega)) ?_
        refine s_one (.int .i64 v) A149 S142 (g_move (by kernel_rfl)) rfl (fun ac A150 => ?_)
        refine s_want (dj := 97) (b := (decide (psE a b v w = 0))) A150 (by kernel_rfl) (by kernel_rfl) (decide_eq_true (by first | assumption | rfl | (simp only [zv_n zbn]; done) | (intro hh; apply hh; first | exact ec | (simp only [zv_n zc]; done)) | omega)) ?_
        refine s_one (.int .i64 w) A150 S142 (g_move (by kernel_rfl)) rfl (fun ac A151 => ?_)
        refine s_want (dj := 97) (b := (decide (psE a b v w = 0))) A151 (by kernel_rfl) (by kernel_rfl) (decide_eq_true (by first | assumption | rfl | (simp only [zv_n zbn]; done) | (intro hh; apply hh; first | exact ec | (simp only [zv_n zc]; done)) | omega)) ?_
        refine s_call (fs := #[]) (cp := #[]) (r := [(0, .agg #[.int .i64 a, .int .i64 b]), (0, .int .i64 v), (0, .int .i64 w)]) #[.agg #[.int .i64 a, .int .i64 b], .int .i64 v, .int .i64 w] (.bool (zb (psE a b v w) (psB a b v w))) A151 S142 (refPasses_s a b v w _ ze) Try.call70 (by kernel_rfl) (by kernel_rfl) (by kernel_rfl) rfl (fun ac wc A152 S153 => ?_)
        refine s_want (dj := 97) (b := (decide (psE a b v w = 0))) A152 (by kernel_rfl) (by kernel_rfl) (decide_eq_true (by first | assumption | rfl | (simp only [zv_n zbn]; done) | (intro hh; apply hh; first | exact ec | (simp only [zv_n zc]; done)) | omega)) ?_
        refine s_one (.bool true) A152 S153 (g_bin (u := .bool (zb (psE a b v w) (psB a b v w))) (k := .bool (zb (psE a b v w) (psB a b v w))) (by kernel_rfl) (by kernel_rfl) (fun _ => by kernel_rfl) (b_boolS Try.underlying4)) rfl (fun ac A155 => ?_)
        refine s_one (.bool true) A155 S153 (g_pick_t (b := (decide (psE a b v w = 0))) (by kernel_rfl) (decide_eq_true (by first | assumption | rfl | (simp only [zv_n zbn]; done) | (intro hh; apply hh; first | exact ec | (simp only [zv_n zc]; done)) | omega)) (by kernel_rfl)) rfl (fun ac A156 => ?_)
        refine s_one (.bool true) A156 S153 (g_move (by kernel_rfl)) rfl (fun ac A157 => ?_)
        refine s_want (dj := 105) (b := true) A157 (by kernel_rfl) (by kernel_rfl) rfl ?_
        refine s_one (.int .i64 (bsE a b v w)) A157 S153 (g_move (by kernel_rfl)) rfl (fun ac A158 => ?_)
        refine s_want (dj := 105) (b := true) A158 (by kernel_rfl) (by kernel_rfl) rfl ?_
        refine s_one (.int .i64 (bsE a b v w)) A158 S153 (g_move (by kernel_rfl)) rfl (fun ac A159 => ?_)
        refine s_want (dj := 105) (b := true) A159 (by kernel_rfl) (by kernel_rfl) rfl ?_
        refine s_one (.bool (decide (bsE a b v w = bsE a b v w))) A159 S153 (g_bin (u := .int .i64 (bsE a b v w)) (k := .int .i64 (bsE a b v w)) (by kernel_rfl) (by kernel_rfl) (fun _ => by kernel_rfl) b_eql) rfl (fun ac A160 => ?_)
        refine s_one (.bool (decide (bsE a b v w = bsE a b v w))) A160 S153 (g_pick_t (b := true) (by kernel_rfl) rfl (by kernel_rfl)) rfl (fun ac A161 => ?_)
        refine s_one (.bool (decide (bsE a b v w = bsE a b v w))) A161 S153 (g_move (by kernel_rfl)) rfl (fun ac A162 => ?_)
        refine s_want (dj := 110) (b := (decide (bsE a b v w = bsE a b v w))) A162 (by kernel_rfl) (by kernel_rfl) (decide_eq_true rfl) ?_
        refine s_one (.agg #[.int .i64 (zv (bsE a b v w) (bsN a b v w)), .int .i64 (zv (bsE a b v w) (bsD a b v w))]) A162 S153 (g_load (g := g47) (off := 0) 2 (by kernel_rfl) rfl (by kernel_rfl)) rfl (fun ac A163 => ?_)
        refine s_want (dj := 110) (b := (decide (bsE a b v w = bsE a b v w))) A163 (by kernel_rfl) (by kernel_rfl) (decide_eq_true rfl) ?_
        refine s_one (.agg #[.int .i64 (zv (bsE a b v w) (bsN a b v w)), .int .i64 (zv (bsE a b v w) (bsD a b v w))]) A163 S153 (g_load (g := g140) (off := 0) 0 (by kernel_rfl) rfl (by kernel_rfl)) rfl (fun ac A164 => ?_)
        refine s_want (dj := 110) (b := (decide (bsE a b v w = bsE a b v w))) A164 (by kernel_rfl) (by kernel_rfl) (decide_eq_true rfl) ?_
        refine s_one (.bool (decide ([zv (bsE a b v w) (bsN a b v w), zv (bsE a b v w) (bsD a b v w)] = [zv (bsE a b v w) (bsN a b v w), zv (bsE a b v w) (bsD a b v w)]))) A164 S153 (g_bin (u := .agg #[.int .i64 (zv (bsE a b v w) (bsN a b v w)), .int .i64 (zv (bsE a b v w) (bsD a b v w))]) (k := .agg #[.int .i64 (zv (bsE a b v w) (bsN a b v w)), .int .i64 (zv (bsE a b v w) (bsD a b v w))]) (by kernel_rfl) (by kernel_rfl) (fun _ => by kernel_rfl) (q_struct (n := 2) [zv (bsE a b v w) (bsN a b v w), zv (bsE a b v w) (bsD a b v w)] [zv (bsE a b v w) (bsN a b v w), zv (bsE a b v w) (bsD a b v w)] (by kernel_rfl) rfl rfl)) rfl (fun ac A165 => ?_)
        refine s_one (.bool (decide ([zv (bsE a b v w) (bsN a b v w), zv (bsE a b v w) (bsD a b v w)] = [zv (bsE a b v w) (bsN a b v w), zv (bsE a b v w) (bsD a b v w)]))) A165 S153 (g_pick_t (b := (decide (bsE a b v w = bsE a b v w))) (by kernel_rfl) (decide_eq_true rfl) (by kernel_rfl)) rfl (fun ac A166 => ?_)
        refine s_one (.bool (decide ([zv (bsE a b v w) (bsN a b v w), zv (bsE a b v w) (bsD a b v w)] = [zv (bsE a b v w) (bsN a b v w), zv (bsE a b v w) (bsD a b v w)]))) A166 S153 (g_assign (by kernel_rfl)) rfl (fun ac A167 => ?_)
        refine wpList_nil ?_
        refine n_then ?_
        refine wp_ret ?_
        refine fin1 (.bool (decide ([zv (bsE a b v w) (bsN a b v w), zv (bsE a b v w) (bsD a b v w)] = [zv (bsE a b v w) (bsN a b v w), zv (bsE a b v w) (bsD a b v w)]))) Try.results15 A167 S153 (rv_tmp (by kernel_rfl)) ⟨?_, S153.kp⟩
        exact congrArg (fun b => Ending.returned (Value.bool b)) (decide_eq_true rfl)
    · have p168 := of_decide_eq_false h73
      have zn := of_decide_eq_false h73
      have ec : csE v w = veE w := cs_2 z1 zn
      have zc : csE v w ≠ 0 := ec ▸ zn
      refine wp_skip ?_
      refine n_then ?_
      refine wp_seq ?_
      refine wp_seq ?_
      refine wp_region_lit ?_
      refine s_one (.int .i64 (csE v w)) A72 S67 (g_move (by kernel_rfl)) rfl (fun ac A169 => ?_)
      refine s_one (.int .i64 (veE w)) A169 S67 (g_move (by kernel_rfl)) rfl (fun ac A170 => ?_)
      refine s_one (.bool (decide (csE v w ≠ veE w))) A170 S67 (g_bin (u := .int .i64 (csE v w)) (k := .int .i64 (veE w)) (by kernel_rfl) (by kernel_rfl) (fun _ => by kernel_rfl) b_neq) rfl (fun ac A171 => ?_)
      refine s_one (.bool (decide (csE v w ≠ veE w))) A171 S67 (g_move (by kernel_rfl)) rfl (fun ac A172 => ?_)
      refine s_want (dj := 59) (b := (decide (csE v w ≠ veE w))) A172 (by kernel_rfl) (by kernel_rfl) (decide_eq_false (by first | assumption | rfl | (simp only [zv_n zbn]; done) | (intro hh; apply hh; first | exact ec | (simp only [zv_n zc]; done)) | omega)) ?_
      refine s_one (.agg #[.int .i64 (zv (csE v w) (Int.tdiv (v * v) (gcdE (v * v) (w * w)))), .int .i64 (zv (csE v w) (Int.tdiv (w * w) (gcdE (v * v) (w * w))))]) A172 S67 (g_load (g := g20) (off := 0) 2 (by kernel_rfl) rfl (by kernel_rfl)) rfl (fun ac A173 => ?_)
      refine s_want (dj := 59) (b := (decide (csE v w ≠ veE w))) A173 (by kernel_rfl) (by kernel_rfl) (decide_eq_false (by first | assumption | rfl | (simp only [zv_n zbn]; done) | (intro hh; apply hh; first | exact ec | (simp only [zv_n zc]; done)) | omega)) ?_
      refine s_one (.agg #[.int .i64 0, .int .i64 0]) A173 S67 (g_load (g := g68) (off := 0) 0 (by kernel_rfl) rfl (by kernel_rfl)) rfl (fun ac A174 => ?_)
      refine s_want (dj := 59) (b := (decide (csE v w ≠ veE w))) A174 (by kernel_rfl) (by kernel_rfl) (decide_eq_false (by first | assumption | rfl | (simp only [zv_n zbn]; done) | (intro hh; apply hh; first | exact ec | (simp only [zv_n zc]; done)) | omega)) ?_
      refine s_one (.bool (decide ([zv (csE v w) (Int.tdiv (v * v) (gcdE (v * v) (w * w))), zv (csE v w) (Int.tdiv (w * w) (gcdE (v * v) (w * w)))] ≠ [0, 0]))) A174 S67 (g_bin (u := .agg #[.int .i64 (zv (csE v w) (Int.tdiv (v * v) (gcdE (v * v) (w * w)))), .int .i64 (zv (csE v w) (Int.tdiv (w * w) (gcdE (v * v) (w * w))))]) (k := .agg #[.int .i64 0, .int .i64 0]) (by kernel_rfl) (by kernel_rfl) (fun _ => by kernel_rfl) (q_structN (n := 2) [zv (csE v w) (Int.tdiv (v * v) (gcdE (v * v) (w * w))), zv (csE v w) (Int.tdiv (w * w) (gcdE (v * v) (w * w)))] [0, 0] (by kernel_rfl) rfl rfl)) rfl (fun ac A175 => ?_)
      refine s_one (.bool (decide ([zv (csE v w) (Int.tdiv (v * v) (gcdE (v * v) (w * w))), zv (csE v w) (Int.tdiv (w * w) (gcdE (v * v) (w * w)))] ≠ [0, 0]))) A175 S67 (g_pick_f (b := (decide (csE v w ≠ veE w))) (by kernel_rfl) (decide_eq_false (by first | assumption | rfl | (simp only [zv_n zbn]; done) | (intro hh; apply hh; first | exact ec | (simp only [zv_n zc]; done)) | omega)) (by kernel_rfl)) rfl (fun ac A176 => ?_)
      refine wpList_nil ?_
      refine n_then ?_
      refine c_f (b := (decide ([zv (csE v w) (Int.tdiv (v * v) (gcdE (v * v) (w * w))), zv (csE v w) (Int.tdiv (w * w) (gcdE (v * v) (w * w)))] ≠ [0, 0]))) A176 (by kernel_rfl) (decide_eq_false (by first | assumption | rfl | (simp only [zv_n zbn]; done) | (intro hh; apply hh; first | exact ec | (simp only [zv_n zc]; done)) | omega)) ?_
      refine wp_skip ?_
      refine n_then ?_
      refine wp_seq ?_
      refine wp_seq ?_
      refine wp_region_lit ?_
      refine s_one (.agg #[.int .i64 a, .int .i64 b]) A176 S67 (g_load (g := g3) (off := 0) 3 (by kernel_rfl) rfl (by kernel_rfl)) rfl (fun ac A177 => ?_)
      refine s_call (fs := #[]) (cp := #[]) (r := [(0, .agg #[.int .i64 a, .int .i64 b])]) #[.agg #[.int .i64 a, .int .i64 b]] (.int .i64 (dirE a b)) A177 S67 (refDirectionErr_s a b _) Try.call65 (by kernel_rfl) (by kernel_rfl) (by kernel_rfl) rfl (fun ac wc A178 S179 => ?_)
      refine s_one (.int .i64 (dirE a b)) A178 S179 (g_assign (by kernel_rfl)) rfl (fun ac A181 => ?_)
      refine wpList_nil ?_
      refine n_then ?_
      refine wp_seq ?_
      refine wp_region_lit ?_
      refine s_one (.int .i64 (dirE a b)) A181 S179 (g_move (by kernel_rfl)) rfl (fun ac A182 => ?_)
      refine s_one (.bool (decide (dirE a b ≠ 0))) A182 S179 (g_bin (u := .int .i64 (dirE a b)) (k := .int .i64 0) (by kernel_rfl) (by kernel_rfl) (fun _ => by kernel_rfl) b_neq) rfl (fun ac A183 => ?_)
      refine wpList_nil ?_
      refine n_then ?_
      refine c_ifb (b := (decide (dirE a b ≠ 0))) A183 (by kernel_rfl) (fun h184 => ?_) (fun h184 => ?_)
      · have p185 := of_decide_eq_true h184
        have zd := of_decide_eq_true h184
        have ep : psE a b v w = dirE a b := fo_ne zd
        have zp : psE a b v w ≠ 0 := ep ▸ zd
        have eb : bsE a b v w = dirE a b := (bsE_p zp).trans ep
        have zbn : bsE a b v w ≠ 0 := eb ▸ zd
        refine wp_region_lit ?_
        refine s_one (.int .i64 (dirE a b)) A183 S179 (g_move (by kernel_rfl)) rfl (fun ac A186 => ?_)
        refine s_one (.int .i64 (dirE a b)) A186 S179 (g_assign (by kernel_rfl)) rfl (fun ac A187 => ?_)
        refine wpList_nil ?_
        refine n_then ?_
        refine wp_seq ?_
        refine wp_seq ?_
        refine wp_region_lit ?_
        refine s_one (.int .i64 (dirE a b)) A187 S179 (g_move (by kernel_rfl)) rfl (fun ac A188 => ?_)
        refine s_one (.bool (decide (dirE a b ≠ 0))) A188 S179 (g_bin (u := .int .i64 (dirE a b)) (k := .int .i64 0) (by kernel_rfl) (by kernel_rfl) (fun _ => by kernel_rfl) b_neq) rfl (fun ac A189 => ?_)
        refine wpList_nil ?_
        refine n_then ?_
        refine c_t (b := (decide (dirE a b ≠ 0))) A189 (by kernel_rfl) h184 ?_
        refine wp_seq ?_
        refine wp_region_lit ?_
        refine s_one (.int .i64 (psE a b v w)) A189 S179 (g_move (by kernel_rfl)) rfl (fun ac A190 => ?_)
        refine s_one (.int .i64 (dirE a b)) A190 S179 (g_move (by kernel_rfl)) rfl (fun ac A191 => ?_)
        refine s_one (.bool (decide (psE a b v w = dirE a b))) A191 S179 (g_bin (u := .int .i64 (psE a b v w)) (k := .int .i64 (dirE a b)) (by kernel_rfl) (by kernel_rfl) (fun _ => by kernel_rfl) b_eql) rfl (fun ac A192 => ?_)
        refine s_one (.bool (decide (psE a b v w = dirE a b))) A192 S179 (g_move (by kernel_rfl)) rfl (fun ac A193 => ?_)
        refine s_want (dj := 74) (b := (decide (psE a b v w = dirE a b))) A193 (by kernel_rfl) (by kernel_rfl) (decide_eq_true (by first | assumption | rfl | (simp only [zv_n zbn]; done) | (intro hh; apply hh; first | exact ec | (simp only [zv_n zc]; done)) | omega)) ?_
        refine s_one (.int .i64 (bsE a b v w)) A193 S179 (g_move (by kernel_rfl)) rfl (fun ac A194 => ?_)
        refine s_want (dj := 74) (b := (decide (psE a b v w = dirE a b))) A194 (by kernel_rfl) (by kernel_rfl) (decide_eq_true (by first | assumption | rfl | (simp only [zv_n zbn]; done) | (intro hh; apply hh; first | exact ec | (simp only [zv_n zc]; done)) | omega)) ?_
        refine s_one (.int .i64 (dirE a b)) A194 S179 (g_move (by kernel_rfl)) rfl (fun ac A195 => ?_)
        refine s_want (dj := 74) (b := (decide (psE a b v w = dirE a b))) A195 (by kernel_rfl) (by kernel_rfl) (decide_eq_true (by first | assumption | rfl | (simp only [zv_n zbn]; done) | (intro hh; apply hh; first | exact ec | (simp only [zv_n zc]; done)) | omega)) ?_
        refine s_one (.bool (decide (bsE a b v w = dirE a b))) A195 S179 (g_bin (u := .int .i64 (bsE a b v w)) (k := .int .i64 (dirE a b)) (by kernel_rfl) (by kernel_rfl) (fun _ => by kernel_rfl) b_eql) rfl (fun ac A196 => ?_)
        refine s_one (.bool (decide (bsE a b v w = dirE a b))) A196 S179 (g_pick_t (b := (decide (psE a b v w = dirE a b))) (by kernel_rfl) (decide_eq_true (by first | assumption | rfl | (simp only [zv_n zbn]; done) | (intro hh; apply hh; first | exact ec | (simp only [zv_n zc]; done)) | omega)) (by kernel_rfl)) rfl (fun ac A197 => ?_)
        refine s_one (.bool (decide (bsE a b v w = dirE a b))) A197 S179 (g_move (by kernel_rfl)) rfl (fun ac A198 => ?_)
        refine s_want (dj := 79) (b := (decide (bsE a b v w = dirE a b))) A198 (by kernel_rfl) (by kernel_rfl) (decide_eq_true (by first | assumption | rfl | (simp only [zv_n zbn]; done) | (intro hh; apply hh; first | exact ec | (simp only [zv_n zc]; done)) | omega)) ?_
        refine s_one (.bool (zb (psE a b v w) (psB a b v w))) A198 S179 (g_move (by kernel_rfl)) rfl (fun ac A199 => ?_)
        refine s_want (dj := 79) (b := (decide (bsE a b v w = dirE a b))) A199 (by kernel_rfl) (by kernel_rfl) (decide_eq_true (by first | assumption | rfl | (simp only [zv_n zbn]; done) | (intro hh; apply hh; first | exact ec | (simp only [zv_n zc]; done)) | omega)) ?_
        refine s_one (.bool (!(zb (psE a b v w) (psB a b v w)))) A199 S179 (g_un (u := .bool (zb (psE a b v w) (psB a b v w))) (by kernel_rfl) (fun _ => by kernel_rfl)) rfl (fun ac A200 => ?_)
        refine s_one (.bool (!(zb (psE a b v w) (psB a b v w)))) A200 S179 (g_pick_t (b := (decide (bsE a b v w = dirE a b))) (by kernel_rfl) (decide_eq_true (by first | assumption | rfl | (simp only [zv_n zbn]; done) | (intro hh; apply hh; first | exact ec | (simp only [zv_n zc]; done)) | omega)) (by kernel_rfl)) rfl (fun ac A201 => ?_)
        refine s_one (.bool (!(zb (psE a b v w) (psB a b v w)))) A201 S179 (g_move (by kernel_rfl)) rfl (fun ac A202 => ?_)
        refine s_want (dj := 83) (b := (!(zb (psE a b v w) (psB a b v w)))) A202 (by kernel_rfl) (by kernel_rfl) (b_nf (zb_n zp _)) ?_
        refine s_one (.agg #[.int .i64 (zv (bsE a b v w) (bsN a b v w)), .int .i64 (zv (bsE a b v w) (bsD a b v w))]) A202 S179 (g_load (g := g47) (off := 0) 1 (by kernel_rfl) rfl (by kernel_rfl)) rfl (fun ac A203 => ?_)
        refine s_want (dj := 83) (b := (!(zb (psE a b v w) (psB a b v w)))) A203 (by kernel_rfl) (by kernel_rfl) (b_nf (zb_n zp _)) ?_
        refine s_one (.agg #[.int .i64 0, .int .i64 0]) A203 S179 (g_build (r := []) (by kernel_rfl) (fun _ => by kernel_rfl)) rfl (fun ac A204 => ?_)
        refine s_want (dj := 83) (b := (!(zb (psE a b v w) (psB a b v w)))) A204 (by kernel_rfl) (by kernel_rfl) (b_nf (zb_n zp _)) ?_
        refine s_one (.bool (decide ([zv (bsE a b v w) (bsN a b v w), zv (bsE a b v w) (bsD a b v w)] = [0, 0]))) A204 S179 (g_bin (u := .agg #[.int .i64 (zv (bsE a b v w) (bsN a b v w)), .int .i64 (zv (bsE a b v w) (bsD a b v w))]) (k := .agg #[.int .i64 0, .int .i64 0]) (by kernel_rfl) (by kernel_rfl) (fun _ => by kernel_rfl) (q_struct (n := 2) [zv (bsE a b v w) (bsN a b v w), zv (bsE a b v w) (bsD a b v w)] [0, 0] (by kernel_rfl) rfl rfl)) rfl (fun ac A205 => ?_)
        refine s_one (.bool (decide ([zv (bsE a b v w) (bsN a b v w), zv (bsE a b v w) (bsD a b v w)] = [0, 0]))) A205 S179 (g_pick_t (b := (!(zb (psE a b v w) (psB a b v w)))) (by kernel_rfl) (b_nf (zb_n zp _)) (by kernel_rfl)) rfl (fun ac A206 => ?_)
        refine s_one (.bool (decide ([zv (bsE a b v w) (bsN a b v w), zv (bsE a b v w) (bsD a b v w)] = [0, 0]))) A206 S179 (g_assign (by kernel_rfl)) rfl (fun ac A207 => ?_)
        refine wpList_nil ?_
        refine n_then ?_
        refine wp_ret ?_
        refine r_then ?_
        refine fin1 (.bool (decide ([zv (bsE a b v w) (bsN a b v w), zv (bsE a b v w) (bsD a b v w)] = [0, 0]))) Try.results15 A207 S179 (rv_tmp (by kernel_rfl)) ⟨?_, S179.kp⟩
        exact congrArg (fun b => Ending.returned (Value.bool b)) (decide_eq_true (by first | assumption | rfl | (simp only [zv_n zbn]; done) | (intro hh; apply hh; first | exact ec | (simp only [zv_n zc]; done)) | omega))
      · have p208 := of_decide_eq_false h184
        have zd : dirE a b = 0 := by simpa using h184
        have ep : psE a b v w = veE w := (fo_cons0 zd).trans ((fo_cons0 z1).trans (fo_last _))
        have zp : psE a b v w ≠ 0 := ep ▸ zn
        have eb : bsE a b v w = veE w := (bsE_p zp).trans ep
        have zbn : bsE a b v w ≠ 0 := eb ▸ zn
        refine wp_skip ?_
        refine n_then ?_
        refine wp_seq ?_
        refine wp_seq ?_
        refine wp_region_lit ?_
        refine s_one (.int .i64 (veE w)) A183 S179 (g_move (by kernel_rfl)) rfl (fun ac A209 => ?_)
        refine s_one (.bool (decide (veE w ≠ 0))) A209 S179 (g_bin (u := .int .i64 (veE w)) (k := .int .i64 0) (by kernel_rfl) (by kernel_rfl) (fun _ => by kernel_rfl) b_neq) rfl (fun ac A210 => ?_)
        refine wpList_nil ?_
        refine n_then ?_
        refine c_t (b := (decide (veE w ≠ 0))) A210 (by kernel_rfl) (decide_eq_true (by omega)) ?_
        refine wp_seq ?_
        refine wp_region_lit ?_
        refine s_one (.int .i64 (psE a b v w)) A210 S179 (g_move (by kernel_rfl)) rfl (fun ac A211 => ?_)
        refine s_one (.int .i64 (veE w)) A211 S179 (g_move (by kernel_rfl)) rfl (fun ac A212 => ?_)
        refine s_one (.bool (decide (psE a b v w = veE w))) A212 S179 (g_bin (u := .int .i64 (psE a b v w)) (k := .int .i64 (veE w)) (by kernel_rfl) (by kernel_rfl) (fun _ => by kernel_rfl) b_eql) rfl (fun ac A213 => ?_)
        refine s_one (.bool (decide (psE a b v w = veE w))) A213 S179 (g_move (by kernel_rfl)) rfl (fun ac A214 => ?_)
        refine s_want (dj := 74) (b := (decide (psE a b v w = veE w))) A214 (by kernel_rfl) (by kernel_rfl) (decide_eq_true (by first | assumption | rfl | (simp only [zv_n zbn]; done) | (intro hh; apply hh; first | exact ec | (simp only [zv_n zc]; done)) | omega)) ?_
        refine s_one (.int .i64 (bsE a b v w)) A214 S179 (g_move (by kernel_rfl)) rfl (fun ac A215 => ?_)
        refine s_want (dj := 74) (b := (decide (psE a b v w = veE w))) A215 (by kernel_rfl) (by kernel_rfl) (decide_eq_true (by first | assumption | rfl | (simp only [zv_n zbn]; done) | (intro hh; apply hh; first | exact ec | (simp only [zv_n zc]; done)) | omega)) ?_
        refine s_one (.int .i64 (veE w)) A215 S179 (g_move (by kernel_rfl)) rfl (fun ac A216 => ?_)
        refine s_want (dj := 74) (b := (decide (psE a b v w = veE w))) A216 (by kernel_rfl) (by kernel_rfl) (decide_eq_true (by first | assumption | rfl | (simp only [zv_n zbn]; done) | (intro hh; apply hh; first | exact ec | (simp only [zv_n zc]; done)) | omega)) ?_
        refine s_one (.bool (decide (bsE a b v w = veE w))) A216 S179 (g_bin (u := .int .i64 (bsE a b v w)) (k := .int .i64 (veE w)) (by kernel_rfl) (by kernel_rfl) (fun _ => by kernel_rfl) b_eql) rfl (fun ac A217 => ?_)
        refine s_one (.bool (decide (bsE a b v w = veE w))) A217 S179 (g_pick_t (b := (decide (psE a b v w = veE w))) (by kernel_rfl) (decide_eq_true (by first | assumption | rfl | (simp only [zv_n zbn]; done) | (intro hh; apply hh; first | exact ec | (simp only [zv_n zc]; done)) | omega)) (by kernel_rfl)) rfl (fun ac A218 => ?_)
        refine s_one (.bool (decide (bsE a b v w = veE w))) A218 S179 (g_move (by kernel_rfl)) rfl (fun ac A219 => ?_)
        refine s_want (dj := 79) (b := (decide (bsE a b v w = veE w))) A219 (by kernel_rfl) (by kernel_rfl) (decide_eq_true (by first | assumption | rfl | (simp only [zv_n zbn]; done) | (intro hh; apply hh; first | exact ec | (simp only [zv_n zc]; done)) | omega)) ?_
        refine s_one (.bool (zb (psE a b v w) (psB a b v w))) A219 S179 (g_move (by kernel_rfl)) rfl (fun ac A220 => ?_)
        refine s_want (dj := 79) (b := (decide (bsE a b v w = veE w))) A220 (by kernel_rfl) (by kernel_rfl) (decide_eq_true (by first | assumption | rfl | (simp only [zv_n zbn]; done) | (intro hh; apply hh; first | exact ec | (simp only [zv_n zc]; done)) | omega)) ?_
        refine s_one (.bool (!(zb (psE a b v w) (psB a b v w)))) A220 S179 (g_un (u := .bool (zb (psE a b v w) (psB a b v w))) (by kernel_rfl) (fun _ => by kernel_rfl)) rfl (fun ac A221 => ?_)
        refine s_one (.bool (!(zb (psE a b v w) (psB a b v w)))) A221 S179 (g_pick_t (b := (decide (bsE a b v w = veE w))) (by kernel_rfl) (decide_eq_true (by first | assumption | rfl | (simp only [zv_n zbn]; done) | (intro hh; apply hh; first | exact ec | (simp only [zv_n zc]; done)) | omega)) (by kernel_rfl)) rfl (fun ac A222 => ?_)
        refine s_one (.bool (!(zb (psE a b v w) (psB a b v w)))) A222 S179 (g_move (by kernel_rfl)) rfl (fun ac A223 => ?_)
        refine s_want (dj := 83) (b := (!(zb (psE a b v w) (psB a b v w)))) A223 (by kernel_rfl) (by kernel_rfl) (b_nf (zb_n zp _)) ?_
        refine s_one (.agg #[.int .i64 (zv (bsE a b v w) (bsN a b v w)), .int .i64 (zv (bsE a b v w) (bsD a b v w))]) A223 S179 (g_load (g := g47) (off := 0) 1 (by kernel_rfl) rfl (by kernel_rfl)) rfl (fun ac A224 => ?_)
        refine s_want (dj := 83) (b := (!(zb (psE a b v w) (psB a b v w)))) A224 (by kernel_rfl) (by kernel_rfl) (b_nf (zb_n zp _)) ?_
        refine s_one (.agg #[.int .i64 0, .int .i64 0]) A224 S179 (g_build (r := []) (by kernel_rfl) (fun _ => by kernel_rfl)) rfl (fun ac A225 => ?_)
        refine s_want (dj := 83) (b := (!(zb (psE a b v w) (psB a b v w)))) A225 (by kernel_rfl) (by kernel_rfl) (b_nf (zb_n zp _)) ?_
        refine s_one (.bool (decide ([zv (bsE a b v w) (bsN a b v w), zv (bsE a b v w) (bsD a b v w)] = [0, 0]))) A225 S179 (g_bin (u := .agg #[.int .i64 (zv (bsE a b v w) (bsN a b v w)), .int .i64 (zv (bsE a b v w) (bsD a b v w))]) (k := .agg #[.int .i64 0, .int .i64 0]) (by kernel_rfl) (by kernel_rfl) (fun _ => by kernel_rfl) (q_struct (n := 2) [zv (bsE a b v w) (bsN a b v w), zv (bsE a b v w) (bsD a b v w)] [0, 0] (by kernel_rfl) rfl rfl)) rfl (fun ac A226 => ?_)
        refine s_one (.bool (decide ([zv (bsE a b v w) (bsN a b v w), zv (bsE a b v w) (bsD a b v w)] = [0, 0]))) A226 S179 (g_pick_t (b := (!(zb (psE a b v w) (psB a b v w)))) (by kernel_rfl) (b_nf (zb_n zp _)) (by kernel_rfl)) rfl (fun ac A227 => ?_)
        refine s_one (.bool (decide ([zv (bsE a b v w) (bsN a b v w), zv (bsE a b v w) (bsD a b v w)] = [0, 0]))) A227 S179 (g_assign (by kernel_rfl)) rfl (fun ac A228 => ?_)
        refine wpList_nil ?_
        refine n_then ?_
        refine wp_ret ?_
        refine r_then ?_
        refine fin1 (.bool (decide ([zv (bsE a b v w) (bsN a b v w), zv (bsE a b v w) (bsD a b v w)] = [0, 0]))) Try.results15 A228 S179 (rv_tmp (by kernel_rfl)) ⟨?_, S179.kp⟩
        exact congrArg (fun b => Ending.returned (Value.bool b)) (decide_eq_true (by first | assumption | rfl | (simp only [zv_n zbn]; done) | (intro hh; apply hh; first | exact ec | (simp only [zv_n zc]; done)) | omega))
  · have p229 := of_decide_eq_false h59
    have zn := of_decide_eq_false h59
    have ec : csE v w = veE v := cs_1 zn
    have zc : csE v w ≠ 0 := ec ▸ zn
    refine wp_skip ?_
    refine n_then ?_
    refine wp_seq ?_
    refine wp_region_lit ?_
    refine s_alloc (#[.int .i64 0, .int .i64 0]) A58 S54 (by kernel_rfl) rfl (fun g232 ac wc A230 S231 => ?_)
    refine wpList_nil ?_
    refine n_then ?_
    refine wp_seq ?_
    refine wp_region_lit ?_
    refine s_one (.int .i64 (veE v)) A230 S231 (g_move (by kernel_rfl)) rfl (fun ac A233 => ?_)
    refine s_one (.int .i64 (veE v)) A233 S231 (g_assign (by kernel_rfl)) rfl (fun ac A234 => ?_)
    refine wpList_nil ?_
    refine n_then ?_
    refine wp_seq ?_
    refine wp_seq ?_
    refine wp_region_lit ?_
    refine s_one (.int .i64 (veE v)) A234 S231 (g_move (by kernel_rfl)) rfl (fun ac A235 => ?_)
    refine s_one (.bool (decide (veE v = 0))) A235 S231 (g_bin (u := .int .i64 (veE v)) (k := .int .i64 0) (by kernel_rfl) (by kernel_rfl) (fun _ => by kernel_rfl) b_eql) rfl (fun ac A236 => ?_)
    refine wpList_nil ?_
    refine n_then ?_
    refine c_f (b := (decide (veE v = 0))) A236 (by kernel_rfl) h59 ?_
    refine wp_skip ?_
    refine n_then ?_
    refine wp_seq ?_
    refine wp_seq ?_
    refine wp_region_lit ?_
    refine s_one (.int .i64 (csE v w)) A236 S231 (g_move (by kernel_rfl)) rfl (fun ac A237 => ?_)
    refine s_one (.int .i64 (veE v)) A237 S231 (g_move (by kernel_rfl)) rfl (fun ac A238 => ?_)
    refine s_one (.bool (decide (csE v w ≠ veE v))) A238 S231 (g_bin (u := .int .i64 (csE v w)) (k := .int .i64 (veE v)) (by kernel_rfl) (by kernel_rfl) (fun _ => by kernel_rfl) b_neq) rfl (fun ac A239 => ?_)
    refine s_one (.bool (decide (csE v w ≠ veE v))) A239 S231 (g_move (by kernel_rfl)) rfl (fun ac A240 => ?_)
    refine s_want (dj := 59) (b := (decide (csE v w ≠ veE v))) A240 (by kernel_rfl) (by kernel_rfl) (decide_eq_false (by first | assumption | rfl | (simp only [zv_n zbn]; done) | (intro hh; apply hh; first | exact ec | (simp only [zv_n zc]; done)) | omega)) ?_
    refine s_one (.agg #[.int .i64 (zv (csE v w) (Int.tdiv (v * v) (gcdE (v * v) (w * w)))), .int .i64 (zv (csE v w) (Int.tdiv (w * w) (gcdE (v * v) (w * w))))]) A240 S231 (g_load (g := g20) (off := 0) 2 (by kernel_rfl) rfl (by kernel_rfl)) rfl (fun ac A241 => ?_)
    refine s_want (dj := 59) (b := (decide (csE v w ≠ veE v))) A241 (by kernel_rfl) (by kernel_rfl) (decide_eq_false (by first | assumption | rfl | (simp only [zv_n zbn]; done) | (intro hh; apply hh; first | exact ec | (simp only [zv_n zc]; done)) | omega)) ?_
    refine s_one (.agg #[.int .i64 0, .int .i64 0]) A241 S231 (g_load (g := g232) (off := 0) 0 (by kernel_rfl) rfl (by kernel_rfl)) rfl (fun ac A242 => ?_)
    refine s_want (dj := 59) (b := (decide (csE v w ≠ veE v))) A242 (by kernel_rfl) (by kernel_rfl) (decide_eq_false (by first | assumption | rfl | (simp only [zv_n zbn]; done) | (intro hh; apply hh; first | exact ec | (simp only [zv_n zc]; done)) | omega)) ?_
    refine s_one (.bool (decide ([zv (csE v w) (Int.tdiv (v * v) (gcdE (v * v) (w * w))), zv (csE v w) (Int.tdiv (w * w) (gcdE (v * v) (w * w)))] ≠ [0, 0]))) A242 S231 (g_bin (u := .agg #[.int .i64 (zv (csE v w) (Int.tdiv (v * v) (gcdE (v * v) (w * w)))), .int .i64 (zv (csE v w) (Int.tdiv (w * w) (gcdE (v * v) (w * w))))]) (k := .agg #[.int .i64 0, .int .i64 0]) (by kernel_rfl) (by kernel_rfl) (fun _ => by kernel_rfl) (q_structN (n := 2) [zv (csE v w) (Int.tdiv (v * v) (gcdE (v * v) (w * w))), zv (csE v w) (Int.tdiv (w * w) (gcdE (v * v) (w * w)))] [0, 0] (by kernel_rfl) rfl rfl)) rfl (fun ac A243 => ?_)
    refine s_one (.bool (decide ([zv (csE v w) (Int.tdiv (v * v) (gcdE (v * v) (w * w))), zv (csE v w) (Int.tdiv (w * w) (gcdE (v * v) (w * w)))] ≠ [0, 0]))) A243 S231 (g_pick_f (b := (decide (csE v w ≠ veE v))) (by kernel_rfl) (decide_eq_false (by first | assumption | rfl | (simp only [zv_n zbn]; done) | (intro hh; apply hh; first | exact ec | (simp only [zv_n zc]; done)) | omega)) (by kernel_rfl)) rfl (fun ac A244 => ?_)
    refine wpList_nil ?_
    refine n_then ?_
    refine c_f (b := (decide ([zv (csE v w) (Int.tdiv (v * v) (gcdE (v * v) (w * w))), zv (csE v w) (Int.tdiv (w * w) (gcdE (v * v) (w * w)))] ≠ [0, 0]))) A244 (by kernel_rfl) (decide_eq_false (by first | assumption | rfl | (simp only [zv_n zbn]; done) | (intro hh; apply hh; first | exact ec | (simp only [zv_n zc]; done)) | omega)) ?_
    refine wp_skip ?_
    refine n_then ?_
    refine wp_seq ?_
    refine wp_seq ?_
    refine wp_region_lit ?_
    refine s_one (.agg #[.int .i64 a, .int .i64 b]) A244 S231 (g_load (g := g3) (off := 0) 3 (by kernel_rfl) rfl (by kernel_rfl)) rfl (fun ac A245 => ?_)
    refine s_call (fs := #[]) (cp := #[]) (r := [(0, .agg #[.int .i64 a, .int .i64 b])]) #[.agg #[.int .i64 a, .int .i64 b]] (.int .i64 (dirE a b)) A245 S231 (refDirectionErr_s a b _) Try.call65 (by kernel_rfl) (by kernel_rfl) (by kernel_rfl) rfl (fun ac wc A246 S247 => ?_)
    refine s_one (.int .i64 (dirE a b)) A246 S247 (g_assign (by kernel_rfl)) rfl (fun ac A249 => ?_)
    refine wpList_nil ?_
    refine n_then ?_
    refine wp_seq ?_
    refine wp_region_lit ?_
    refine s_one (.int .i64 (dirE a b)) A249 S247 (g_move (by kernel_rfl)) rfl (fun ac A250 => ?_)
    refine s_one (.bool (decide (dirE a b ≠ 0))) A250 S247 (g_bin (u := .int .i64 (dirE a b)) (k := .int .i64 0) (by kernel_rfl) (by kernel_rfl) (fun _ => by kernel_rfl) b_neq) rfl (fun ac A251 => ?_)
    refine wpList_nil ?_
    refine n_then ?_
    refine c_ifb (b := (decide (dirE a b ≠ 0))) A251 (by kernel_rfl) (fun h252 => ?_) (fun h252 => ?_)
    · have p253 := of_decide_eq_true h252
      have zd := of_decide_eq_true h252
      have ep : psE a b v w = dirE a b := fo_ne zd
      have zp : psE a b v w ≠ 0 := ep ▸ zd
      have eb : bsE a b v w = dirE a b := (bsE_p zp).trans ep
      have zbn : bsE a b v w ≠ 0 := eb ▸ zd
      refine wp_region_lit ?_
      refine s_one (.int .i64 (dirE a b)) A251 S247 (g_move (by kernel_rfl)) rfl (fun ac A254 => ?_)
      refine s_one (.int .i64 (dirE a b)) A254 S247 (g_assign (by kernel_rfl)) rfl (fun ac A255 => ?_)
      refine wpList_nil ?_
      refine n_then ?_
      refine wp_seq ?_
      refine wp_seq ?_
      refine wp_region_lit ?_
      refine s_one (.int .i64 (dirE a b)) A255 S247 (g_move (by kernel_rfl)) rfl (fun ac A256 => ?_)
      refine s_one (.bool (decide (dirE a b ≠ 0))) A256 S247 (g_bin (u := .int .i64 (dirE a b)) (k := .int .i64 0) (by kernel_rfl) (by kernel_rfl) (fun _ => by kernel_rfl) b_neq) rfl (fun ac A257 => ?_)
      refine wpList_nil ?_
      refine n_then ?_
      refine c_t (b := (decide (dirE a b ≠ 0))) A257 (by kernel_rfl) h252 ?_
      refine wp_seq ?_
      refine wp_region_lit ?_
      refine s_one (.int .i64 (psE a b v w)) A257 S247 (g_move (by kernel_rfl)) rfl (fun ac A258 => ?_)
      refine s_one (.int .i64 (dirE a b)) A258 S247 (g_move (by kernel_rfl)) rfl (fun ac A259 => ?_)
      refine s_one (.bool (decide (psE a b v w = dirE a b))) A259 S247 (g_bin (u := .int .i64 (psE a b v w)) (k := .int .i64 (dirE a b)) (by kernel_rfl) (by kernel_rfl) (fun _ => by kernel_rfl) b_eql) rfl (fun ac A260 => ?_)
      refine s_one (.bool (decide (psE a b v w = dirE a b))) A260 S247 (g_move (by kernel_rfl)) rfl (fun ac A261 => ?_)
      refine s_want (dj := 74) (b := (decide (psE a b v w = dirE a b))) A261 (by kernel_rfl) (by kernel_rfl) (decide_eq_true (by first | assumption | rfl | (simp only [zv_n zbn]; done) | (intro hh; apply hh; first | exact ec | (simp only [zv_n zc]; done)) | omega)) ?_
      refine s_one (.int .i64 (bsE a b v w)) A261 S247 (g_move (by kernel_rfl)) rfl (fun ac A262 => ?_)
      refine s_want (dj := 74) (b := (decide (psE a b v w = dirE a b))) A262 (by kernel_rfl) (by kernel_rfl) (decide_eq_true (by first | assumption | rfl | (simp only [zv_n zbn]; done) | (intro hh; apply hh; first | exact ec | (simp only [zv_n zc]; done)) | omega)) ?_
      refine s_one (.int .i64 (dirE a b)) A262 S247 (g_move (by kernel_rfl)) rfl (fun ac A263 => ?_)
      refine s_want (dj := 74) (b := (decide (psE a b v w = dirE a b))) A263 (by kernel_rfl) (by kernel_rfl) (decide_eq_true (by first | assumption | rfl | (simp only [zv_n zbn]; done) | (intro hh; apply hh; first | exact ec | (simp only [zv_n zc]; done)) | omega)) ?_
      refine s_one (.bool (decide (bsE a b v w = dirE a b))) A263 S247 (g_bin (u := .int .i64 (bsE a b v w)) (k := .int .i64 (dirE a b)) (by kernel_rfl) (by kernel_rfl) (fun _ => by kernel_rfl) b_eql) rfl (fun ac A264 => ?_)
      refine s_one (.bool (decide (bsE a b v w = dirE a b))) A264 S247 (g_pick_t (b := (decide (psE a b v w = dirE a b))) (by kernel_rfl) (decide_eq_true (by first | assumption | rfl | (simp only [zv_n zbn]; done) | (intro hh; apply hh; first | exact ec | (simp only [zv_n zc]; done)) | omega)) (by kernel_rfl)) rfl (fun ac A265 => ?_)
      refine s_one (.bool (decide (bsE a b v w = dirE a b))) A265 S247 (g_move (by kernel_rfl)) rfl (fun ac A266 => ?_)
      refine s_want (dj := 79) (b := (decide (bsE a b v w = dirE a b))) A266 (by kernel_rfl) (by kernel_rfl) (decide_eq_true (by first | assumption | rfl | (simp only [zv_n zbn]; done) | (intro hh; apply hh; first | exact ec | (simp only [zv_n zc]; done)) | omega)) ?_
      refine s_one (.bool (zb (psE a b v w) (psB a b v w))) A266 S247 (g_move (by kernel_rfl)) rfl (fun ac A267 => ?_)
      refine s_want (dj := 79) (b := (decide (bsE a b v w = dirE a b))) A267 (by kernel_rfl) (by kernel_rfl) (decide_eq_true (by first | assumption | rfl | (simp only [zv_n zbn]; done) | (intro hh; apply hh; first | exact ec | (simp only [zv_n zc]; done)) | omega)) ?_
      refine s_one (.bool (!(zb (psE a b v w) (psB a b v w)))) A267 S247 (g_un (u := .bool (zb (psE a b v w) (psB a b v w))) (by kernel_rfl) (fun _ => by kernel_rfl)) rfl (fun ac A268 => ?_)
      refine s_one (.bool (!(zb (psE a b v w) (psB a b v w)))) A268 S247 (g_pick_t (b := (decide (bsE a b v w = dirE a b))) (by kernel_rfl) (decide_eq_true (by first | assumption | rfl | (simp only [zv_n zbn]; done) | (intro hh; apply hh; first | exact ec | (simp only [zv_n zc]; done)) | omega)) (by kernel_rfl)) rfl (fun ac A269 => ?_)
      refine s_one (.bool (!(zb (psE a b v w) (psB a b v w)))) A269 S247 (g_move (by kernel_rfl)) rfl (fun ac A270 => ?_)
      refine s_want (dj := 83) (b := (!(zb (psE a b v w) (psB a b v w)))) A270 (by kernel_rfl) (by kernel_rfl) (b_nf (zb_n zp _)) ?_
      refine s_one (.agg #[.int .i64 (zv (bsE a b v w) (bsN a b v w)), .int .i64 (zv (bsE a b v w) (bsD a b v w))]) A270 S247 (g_load (g := g47) (off := 0) 1 (by kernel_rfl) rfl (by kernel_rfl)) rfl (fun ac A271 => ?_)
      refine s_want (dj := 83) (b := (!(zb (psE a b v w) (psB a b v w)))) A271 (by kernel_rfl) (by kernel_rfl) (b_nf (zb_n zp _)) ?_
      refine s_one (.agg #[.int .i64 0, .int .i64 0]) A271 S247 (g_build (r := []) (by kernel_rfl) (fun _ => by kernel_rfl)) rfl (fun ac A272 => ?_)
      refine s_want (dj := 83) (b := (!(zb (psE a b v w) (psB a b v w)))) A272 (by kernel_rfl) (by kernel_rfl) (b_nf (zb_n zp _)) ?_
      refine s_one (.bool (decide ([zv (bsE a b v w) (bsN a b v w), zv (bsE a b v w) (bsD a b v w)] = [0, 0]))) A272 S247 (g_bin (u := .agg #[.int .i64 (zv (bsE a b v w) (bsN a b v w)), .int .i64 (zv (bsE a b v w) (bsD a b v w))]) (k := .agg #[.int .i64 0, .int .i64 0]) (by kernel_rfl) (by kernel_rfl) (fun _ => by kernel_rfl) (q_struct (n := 2) [zv (bsE a b v w) (bsN a b v w), zv (bsE a b v w) (bsD a b v w)] [0, 0] (by kernel_rfl) rfl rfl)) rfl (fun ac A273 => ?_)
      refine s_one (.bool (decide ([zv (bsE a b v w) (bsN a b v w), zv (bsE a b v w) (bsD a b v w)] = [0, 0]))) A273 S247 (g_pick_t (b := (!(zb (psE a b v w) (psB a b v w)))) (by kernel_rfl) (b_nf (zb_n zp _)) (by kernel_rfl)) rfl (fun ac A274 => ?_)
      refine s_one (.bool (decide ([zv (bsE a b v w) (bsN a b v w), zv (bsE a b v w) (bsD a b v w)] = [0, 0]))) A274 S247 (g_assign (by kernel_rfl)) rfl (fun ac A275 => ?_)
      refine wpList_nil ?_
      refine n_then ?_
      refine wp_ret ?_
      refine r_then ?_
      refine fin1 (.bool (decide ([zv (bsE a b v w) (bsN a b v w), zv (bsE a b v w) (bsD a b v w)] = [0, 0]))) Try.results15 A275 S247 (rv_tmp (by kernel_rfl)) ⟨?_, S247.kp⟩
      exact congrArg (fun b => Ending.returned (Value.bool b)) (decide_eq_true (by first | assumption | rfl | (simp only [zv_n zbn]; done) | (intro hh; apply hh; first | exact ec | (simp only [zv_n zc]; done)) | omega))
    · have p276 := of_decide_eq_false h252
      have zd : dirE a b = 0 := by simpa using h252
      have ep : psE a b v w = veE v := (fo_cons0 zd).trans (fo_ne zn)
      have zp : psE a b v w ≠ 0 := ep ▸ zn
      have eb : bsE a b v w = veE v := (bsE_p zp).trans ep
      have zbn : bsE a b v w ≠ 0 := eb ▸ zn
      refine wp_skip ?_
      refine n_then ?_
      refine wp_seq ?_
      refine wp_seq ?_
      refine wp_region_lit ?_
      refine s_one (.int .i64 (veE v)) A251 S247 (g_move (by kernel_rfl)) rfl (fun ac A277 => ?_)
      refine s_one (.bool (decide (veE v ≠ 0))) A277 S247 (g_bin (u := .int .i64 (veE v)) (k := .int .i64 0) (by kernel_rfl) (by kernel_rfl) (fun _ => by kernel_rfl) b_neq) rfl (fun ac A278 => ?_)
      refine wpList_nil ?_
      refine n_then ?_
      refine c_t (b := (decide (veE v ≠ 0))) A278 (by kernel_rfl) (decide_eq_true (by omega)) ?_
      refine wp_seq ?_
      refine wp_region_lit ?_
      refine s_one (.int .i64 (psE a b v w)) A278 S247 (g_move (by kernel_rfl)) rfl (fun ac A279 => ?_)
      refine s_one (.int .i64 (veE v)) A279 S247 (g_move (by kernel_rfl)) rfl (fun ac A280 => ?_)
      refine s_one (.bool (decide (psE a b v w = veE v))) A280 S247 (g_bin (u := .int .i64 (psE a b v w)) (k := .int .i64 (veE v)) (by kernel_rfl) (by kernel_rfl) (fun _ => by kernel_rfl) b_eql) rfl (fun ac A281 => ?_)
      refine s_one (.bool (decide (psE a b v w = veE v))) A281 S247 (g_move (by kernel_rfl)) rfl (fun ac A282 => ?_)
      refine s_want (dj := 74) (b := (decide (psE a b v w = veE v))) A282 (by kernel_rfl) (by kernel_rfl) (decide_eq_true (by first | assumption | rfl | (simp only [zv_n zbn]; done) | (intro hh; apply hh; first | exact ec | (simp only [zv_n zc]; done)) | omega)) ?_
      refine s_one (.int .i64 (bsE a b v w)) A282 S247 (g_move (by kernel_rfl)) rfl (fun ac A283 => ?_)
      refine s_want (dj := 74) (b := (decide (psE a b v w = veE v))) A283 (by kernel_rfl) (by kernel_rfl) (decide_eq_true (by first | assumption | rfl | (simp only [zv_n zbn]; done) | (intro hh; apply hh; first | exact ec | (simp only [zv_n zc]; done)) | omega)) ?_
      refine s_one (.int .i64 (veE v)) A283 S247 (g_move (by kernel_rfl)) rfl (fun ac A284 => ?_)
      refine s_want (dj := 74) (b := (decide (psE a b v w = veE v))) A284 (by kernel_rfl) (by kernel_rfl) (decide_eq_true (by first | assumption | rfl | (simp only [zv_n zbn]; done) | (intro hh; apply hh; first | exact ec | (simp only [zv_n zc]; done)) | omega)) ?_
      refine s_one (.bool (decide (bsE a b v w = veE v))) A284 S247 (g_bin (u := .int .i64 (bsE a b v w)) (k := .int .i64 (veE v)) (by kernel_rfl) (by kernel_rfl) (fun _ => by kernel_rfl) b_eql) rfl (fun ac A285 => ?_)
      refine s_one (.bool (decide (bsE a b v w = veE v))) A285 S247 (g_pick_t (b := (decide (psE a b v w = veE v))) (by kernel_rfl) (decide_eq_true (by first | assumption | rfl | (simp only [zv_n zbn]; done) | (intro hh; apply hh; first | exact ec | (simp only [zv_n zc]; done)) | omega)) (by kernel_rfl)) rfl (fun ac A286 => ?_)
      refine s_one (.bool (decide (bsE a b v w = veE v))) A286 S247 (g_move (by kernel_rfl)) rfl (fun ac A287 => ?_)
      refine s_want (dj := 79) (b := (decide (bsE a b v w = veE v))) A287 (by kernel_rfl) (by kernel_rfl) (decide_eq_true (by first | assumption | rfl | (simp only [zv_n zbn]; done) | (intro hh; apply hh; first | exact ec | (simp only [zv_n zc]; done)) | omega)) ?_
      refine s_one (.bool (zb (psE a b v w) (psB a b v w))) A287 S247 (g_move (by kernel_rfl)) rfl (fun ac A288 => ?_)
      refine s_want (dj := 79) (b := (decide (bsE a b v w = veE v))) A288 (by kernel_rfl) (by kernel_rfl) (decide_eq_true (by first | assumption | rfl | (simp only [zv_n zbn]; done) | (intro hh; apply hh; first | exact ec | (simp only [zv_n zc]; done)) | omega)) ?_
      refine s_one (.bool (!(zb (psE a b v w) (psB a b v w)))) A288 S247 (g_un (u := .bool (zb (psE a b v w) (psB a b v w))) (by kernel_rfl) (fun _ => by kernel_rfl)) rfl (fun ac A289 => ?_)
      refine s_one (.bool (!(zb (psE a b v w) (psB a b v w)))) A289 S247 (g_pick_t (b := (decide (bsE a b v w = veE v))) (by kernel_rfl) (decide_eq_true (by first | assumption | rfl | (simp only [zv_n zbn]; done) | (intro hh; apply hh; first | exact ec | (simp only [zv_n zc]; done)) | omega)) (by kernel_rfl)) rfl (fun ac A290 => ?_)
      refine s_one (.bool (!(zb (psE a b v w) (psB a b v w)))) A290 S247 (g_move (by kernel_rfl)) rfl (fun ac A291 => ?_)
      refine s_want (dj := 83) (b := (!(zb (psE a b v w) (psB a b v w)))) A291 (by kernel_rfl) (by kernel_rfl) (b_nf (zb_n zp _)) ?_
      refine s_one (.agg #[.int .i64 (zv (bsE a b v w) (bsN a b v w)), .int .i64 (zv (bsE a b v w) (bsD a b v w))]) A291 S247 (g_load (g := g47) (off := 0) 1 (by kernel_rfl) rfl (by kernel_rfl)) rfl (fun ac A292 => ?_)
      refine s_want (dj := 83) (b := (!(zb (psE a b v w) (psB a b v w)))) A292 (by kernel_rfl) (by kernel_rfl) (b_nf (zb_n zp _)) ?_
      refine s_one (.agg #[.int .i64 0, .int .i64 0]) A292 S247 (g_build (r := []) (by kernel_rfl) (fun _ => by kernel_rfl)) rfl (fun ac A293 => ?_)
      refine s_want (dj := 83) (b := (!(zb (psE a b v w) (psB a b v w)))) A293 (by kernel_rfl) (by kernel_rfl) (b_nf (zb_n zp _)) ?_
      refine s_one (.bool (decide ([zv (bsE a b v w) (bsN a b v w), zv (bsE a b v w) (bsD a b v w)] = [0, 0]))) A293 S247 (g_bin (u := .agg #[.int .i64 (zv (bsE a b v w) (bsN a b v w)), .int .i64 (zv (bsE a b v w) (bsD a b v w))]) (k := .agg #[.int .i64 0, .int .i64 0]) (by kernel_rfl) (by kernel_rfl) (fun _ => by kernel_rfl) (q_struct (n := 2) [zv (bsE a b v w) (bsN a b v w), zv (bsE a b v w) (bsD a b v w)] [0, 0] (by kernel_rfl) rfl rfl)) rfl (fun ac A294 => ?_)
      refine s_one (.bool (decide ([zv (bsE a b v w) (bsN a b v w), zv (bsE a b v w) (bsD a b v w)] = [0, 0]))) A294 S247 (g_pick_t (b := (!(zb (psE a b v w) (psB a b v w)))) (by kernel_rfl) (b_nf (zb_n zp _)) (by kernel_rfl)) rfl (fun ac A295 => ?_)
      refine s_one (.bool (decide ([zv (bsE a b v w) (bsN a b v w), zv (bsE a b v w) (bsD a b v w)] = [0, 0]))) A295 S247 (g_assign (by kernel_rfl)) rfl (fun ac A296 => ?_)
      refine wpList_nil ?_
      refine n_then ?_
      refine wp_ret ?_
      refine r_then ?_
      refine fin1 (.bool (decide ([zv (bsE a b v w) (bsN a b v w), zv (bsE a b v w) (bsD a b v w)] = [0, 0]))) Try.results15 A296 S247 (rv_tmp (by kernel_rfl)) ⟨?_, S247.kp⟩
      exact congrArg (fun b => Ending.returned (Value.bool b)) (decide_eq_true (by first | assumption | rfl | (simp only [zv_n zbn]; done) | (intro hh; apply hh; first | exact ec | (simp only [zv_n zc]; done)) | omega))

end Go.Proofs.Ytnfmfkejhgbipaa
