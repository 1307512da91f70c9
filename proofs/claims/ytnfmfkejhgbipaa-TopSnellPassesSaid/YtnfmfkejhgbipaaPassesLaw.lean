/- The walk of TopSnellPasses: it returns true. -/
import Derived.Test.YtnfmfkejhgbipaaRay10
import Derived.Test.YtnfmfkejhgbipaaPlain
import Derived.Test.YtnfmfkejhgbipaaArgs
namespace Go.Proofs.Ytnfmfkejhgbipaa
open Go.RowKit Go.Cpl Go.Ray1

set_option maxRecDepth 100000 in
set_option maxHeartbeats 400000 in
theorem rayed_s  (w0 : World) :
    Calls Try.prog 27 #[] w0 fun e w' => e = .returned (.bool true) ∧ Below w0.heap.size w0 w' := by
  have S0 := St.start w0
  refine enter (n := 32) Try.func27 rfl rfl rfl (fun ac A0 => ?_)
  refine wp_seq ?_
  refine wp_region_lit ?_
  refine s_one (.bool false) A0 S0 (g_assign (by kernel_rfl)) rfl (fun ac A1 => ?_)
  refine wpList_nil ?_
  refine n_then ?_
  refine wp_seq ?_
  refine wp_region_lit ?_
  refine s_call (fs := #[]) (cp := #[]) (r := []) #[] (.agg #[.int .i64 0, .int .i64 300, .int .i64 2500, .int .i64 800, .int .i64 300, .int .i64 2500]) A1 S0 (Middle_s _) Try.call75 (by kernel_rfl) (by kernel_rfl) (by kernel_rfl) rfl (fun ac wc A2 S3 => ?_)
  refine s_call (fs := #[]) (cp := #[]) (r := [(0, .agg #[.int .i64 0, .int .i64 300, .int .i64 2500, .int .i64 800, .int .i64 300, .int .i64 2500])]) #[.agg #[.int .i64 0, .int .i64 300, .int .i64 2500, .int .i64 800, .int .i64 300, .int .i64 2500]] (.tuple #[.int .i64 (zv (crE ⟨0, 300, 2500, 800, 300, 2500⟩) (crs ⟨0, 300, 2500, 800, 300, 2500⟩)), .int .i64 (crE ⟨0, 300, 2500, 800, 300, 2500⟩)]) A2 S3 (Crossing_s ⟨0, 300, 2500, 800, 300, 2500⟩ _) Try.call20 (by kernel_rfl) (by kernel_rfl) (by kernel_rfl) rfl (fun ac wc A5 S6 => ?_)
  refine s_one (.tuple #[.int .i64 (zv (crE ⟨0, 300, 2500, 800, 300, 2500⟩) (crs ⟨0, 300, 2500, 800, 300, 2500⟩)), .int .i64 (crE ⟨0, 300, 2500, 800, 300, 2500⟩)]) A5 S6 (g_move (by kernel_rfl)) rfl (fun ac A8 => ?_)
  refine s_one (.int .i64 (zv (crE ⟨0, 300, 2500, 800, 300, 2500⟩) (crs ⟨0, 300, 2500, 800, 300, 2500⟩))) A8 S6 (g_extract (u := .tuple #[.int .i64 (zv (crE ⟨0, 300, 2500, 800, 300, 2500⟩) (crs ⟨0, 300, 2500, 800, 300, 2500⟩)), .int .i64 (crE ⟨0, 300, 2500, 800, 300, 2500⟩)]) (by kernel_rfl) (fun _ => by kernel_rfl)) rfl (fun ac A9 => ?_)
  refine s_one (.int .i64 (crE ⟨0, 300, 2500, 800, 300, 2500⟩)) A9 S6 (g_extract (u := .tuple #[.int .i64 (zv (crE ⟨0, 300, 2500, 800, 300, 2500⟩) (crs ⟨0, 300, 2500, 800, 300, 2500⟩)), .int .i64 (crE ⟨0, 300, 2500, 800, 300, 2500⟩)]) (by kernel_rfl) (fun _ => by kernel_rfl)) rfl (fun ac A10 => ?_)
  refine s_one (.int .i64 (zv (crE ⟨0, 300, 2500, 800, 300, 2500⟩) (crs ⟨0, 300, 2500, 800, 300, 2500⟩))) A10 S6 (g_assign (by kernel_rfl)) rfl (fun ac A11 => ?_)
  refine s_one (.int .i64 (crE ⟨0, 300, 2500, 800, 300, 2500⟩)) A11 S6 (g_assign (by kernel_rfl)) rfl (fun ac A12 => ?_)
  refine wpList_nil ?_
  refine n_then ?_
  refine wp_seq ?_
  refine wp_region_lit ?_
  refine s_call (fs := #[]) (cp := #[]) (r := []) #[] (.agg #[.int .i64 2500, .int .i64 5000, .int .i64 1, .int .i64 1000]) A12 S6 (Plate_s _) Try.call76 (by kernel_rfl) (by kernel_rfl) (by kernel_rfl) rfl (fun ac wc A13 S14 => ?_)
  refine s_one (.agg #[.int .i64 0, .int .i64 (-300)]) A13 S14 (g_build (r := [(1, .int .i64 (-300))]) (by kernel_rfl) (fun _ => by kernel_rfl)) rfl (fun ac A16 => ?_)
  refine s_one (.agg #[.int .i64 0, .int .i64 400]) A16 S14 (g_build (r := [(1, .int .i64 400)]) (by kernel_rfl) (fun _ => by kernel_rfl)) rfl (fun ac A17 => ?_)
  refine s_call (fs := #[]) (cp := #[]) (r := [(0, .agg #[.int .i64 2500, .int .i64 5000, .int .i64 1, .int .i64 1000]), (0, .agg #[.int .i64 0, .int .i64 (-300)]), (0, .agg #[.int .i64 0, .int .i64 400])]) #[.agg #[.int .i64 2500, .int .i64 5000, .int .i64 1, .int .i64 1000], .agg #[.int .i64 0, .int .i64 (-300)], .agg #[.int .i64 0, .int .i64 400]] (.tuple #[.agg #[.int .i64 (zv (opE 2500 5000 1 1000 0 (-300) 0 400) (leLo (wyC 2500 5000 1 1000 0 (-300) 0 400))), .int .i64 (zv (opE 2500 5000 1 1000 0 (-300) 0 400) (mHi (wyC 2500 5000 1 1000 0 (-300) 0 400)))], .int .i64 (opE 2500 5000 1 1000 0 (-300) 0 400)]) A17 S14 (LeastTime_s 2500 5000 1 1000 0 (-300) 0 400 _) Try.call28 (by kernel_rfl) (by kernel_rfl) (by kernel_rfl) rfl (fun ac wc A18 S19 => ?_)
  refine s_one (.tuple #[.agg #[.int .i64 (zv (opE 2500 5000 1 1000 0 (-300) 0 400) (leLo (wyC 2500 5000 1 1000 0 (-300) 0 400))), .int .i64 (zv (opE 2500 5000 1 1000 0 (-300) 0 400) (mHi (wyC 2500 5000 1 1000 0 (-300) 0 400)))], .int .i64 (opE 2500 5000 1 1000 0 (-300) 0 400)]) A18 S19 (g_move (by kernel_rfl)) rfl (fun ac A21 => ?_)
  refine s_one (.agg #[.int .i64 (zv (opE 2500 5000 1 1000 0 (-300) 0 400) (leLo (wyC 2500 5000 1 1000 0 (-300) 0 400))), .int .i64 (zv (opE 2500 5000 1 1000 0 (-300) 0 400) (mHi (wyC 2500 5000 1 1000 0 (-300) 0 400)))]) A21 S19 (g_extract (u := .tuple #[.agg #[.int .i64 (zv (opE 2500 5000 1 1000 0 (-300) 0 400) (leLo (wyC 2500 5000 1 1000 0 (-300) 0 400))), .int .i64 (zv (opE 2500 5000 1 1000 0 (-300) 0 400) (mHi (wyC 2500 5000 1 1000 0 (-300) 0 400)))], .int .i64 (opE 2500 5000 1 1000 0 (-300) 0 400)]) (by kernel_rfl) (fun _ => by kernel_rfl)) rfl (fun ac A22 => ?_)
  refine s_one (.int .i64 (opE 2500 5000 1 1000 0 (-300) 0 400)) A22 S19 (g_extract (u := .tuple #[.agg #[.int .i64 (zv (opE 2500 5000 1 1000 0 (-300) 0 400) (leLo (wyC 2500 5000 1 1000 0 (-300) 0 400))), .int .i64 (zv (opE 2500 5000 1 1000 0 (-300) 0 400) (mHi (wyC 2500 5000 1 1000 0 (-300) 0 400)))], .int .i64 (opE 2500 5000 1 1000 0 (-300) 0 400)]) (by kernel_rfl) (fun _ => by kernel_rfl)) rfl (fun ac A23 => ?_)
  refine s_alloc (#[.int .i64 0, .int .i64 0]) A23 S19 (by kernel_rfl) rfl (fun g26 ac wc A24 S25 => ?_)
  refine s_store (g := g26) (off := 0) (v := .agg #[.int .i64 (zv (opE 2500 5000 1 1000 0 (-300) 0 400) (leLo (wyC 2500 5000 1 1000 0 (-300) 0 400))), .int .i64 (zv (opE 2500 5000 1 1000 0 (-300) 0 400) (mHi (wyC 2500 5000 1 1000 0 (-300) 0 400)))]) 0 (#[.int .i64 (zv (opE 2500 5000 1 1000 0 (-300) 0 400) (leLo (wyC 2500 5000 1 1000 0 (-300) 0 400))), .int .i64 (zv (opE 2500 5000 1 1000 0 (-300) 0 400) (mHi (wyC 2500 5000 1 1000 0 (-300) 0 400)))]) A24 S25 (by kernel_rfl) (by kernel_rfl) rfl (by kernel_rfl) (fun wc S28 => ?_)
  refine s_one (.int .i64 (opE 2500 5000 1 1000 0 (-300) 0 400)) A24 S28 (g_assign (by kernel_rfl)) rfl (fun ac A30 => ?_)
  refine wpList_nil ?_
  refine n_then ?_
  refine wp_seq ?_
  refine wp_region_lit ?_
  refine s_one (.int .i64 (crE ⟨0, 300, 2500, 800, 300, 2500⟩)) A30 S28 (g_move (by kernel_rfl)) rfl (fun ac A31 => ?_)
  refine s_one (.bool (decide (crE ⟨0, 300, 2500, 800, 300, 2500⟩ = 0))) A31 S28 (g_bin (u := .int .i64 (crE ⟨0, 300, 2500, 800, 300, 2500⟩)) (k := .int .i64 0) (by kernel_rfl) (by kernel_rfl) (fun _ => by kernel_rfl) b_eql) rfl (fun ac A32 => ?_)
  refine s_one (.bool (decide (crE ⟨0, 300, 2500, 800, 300, 2500⟩ = 0))) A32 S28 (g_move (by kernel_rfl)) rfl (fun ac A33 => ?_)
  refine s_want (dj := 19) (b := (decide (crE ⟨0, 300, 2500, 800, 300, 2500⟩ = 0))) A33 (by kernel_rfl) (by kernel_rfl) (decide_eq_true (by exact midE)) ?_
  refine s_one (.int .i64 (zv (crE ⟨0, 300, 2500, 800, 300, 2500⟩) (crs ⟨0, 300, 2500, 800, 300, 2500⟩))) A33 S28 (g_move (by kernel_rfl)) rfl (fun ac A34 => ?_)
  refine s_want (dj := 19) (b := (decide (crE ⟨0, 300, 2500, 800, 300, 2500⟩ = 0))) A34 (by kernel_rfl) (by kernel_rfl) (decide_eq_true (by exact midE)) ?_
  refine s_one (.bool (decide (zv (crE ⟨0, 300, 2500, 800, 300, 2500⟩) (crs ⟨0, 300, 2500, 800, 300, 2500⟩) = 400))) A34 S28 (g_bin (u := .int .i64 (zv (crE ⟨0, 300, 2500, 800, 300, 2500⟩) (crs ⟨0, 300, 2500, 800, 300, 2500⟩))) (k := .int .i64 400) (by kernel_rfl) (by kernel_rfl) (fun _ => by kernel_rfl) b_eql) rfl (fun ac A35 => ?_)
  refine s_one (.bool (decide (zv (crE ⟨0, 300, 2500, 800, 300, 2500⟩) (crs ⟨0, 300, 2500, 800, 300, 2500⟩) = 400))) A35 S28 (g_pick_t (b := (decide (crE ⟨0, 300, 2500, 800, 300, 2500⟩ = 0))) (by kernel_rfl) (decide_eq_true (by exact midE)) (by kernel_rfl)) rfl (fun ac A36 => ?_)
  refine s_one (.bool (decide (zv (crE ⟨0, 300, 2500, 800, 300, 2500⟩) (crs ⟨0, 300, 2500, 800, 300, 2500⟩) = 400))) A36 S28 (g_move (by kernel_rfl)) rfl (fun ac A37 => ?_)
  refine s_want (dj := 23) (b := (decide (zv (crE ⟨0, 300, 2500, 800, 300, 2500⟩) (crs ⟨0, 300, 2500, 800, 300, 2500⟩) = 400))) A37 (by kernel_rfl) (by kernel_rfl) (decide_eq_true (by rw [zv_0 midE]; exact mid_crs)) ?_
  refine s_one (.int .i64 (opE 2500 5000 1 1000 0 (-300) 0 400)) A37 S28 (g_move (by kernel_rfl)) rfl (fun ac A38 => ?_)
  refine s_want (dj := 23) (b := (decide (zv (crE ⟨0, 300, 2500, 800, 300, 2500⟩) (crs ⟨0, 300, 2500, 800, 300, 2500⟩) = 400))) A38 (by kernel_rfl) (by kernel_rfl) (decide_eq_true (by rw [zv_0 midE]; exact mid_crs)) ?_
  refine s_one (.bool (decide (opE 2500 5000 1 1000 0 (-300) 0 400 = 0))) A38 S28 (g_bin (u := .int .i64 (opE 2500 5000 1 1000 0 (-300) 0 400)) (k := .int .i64 0) (by kernel_rfl) (by kernel_rfl) (fun _ => by kernel_rfl) b_eql) rfl (fun ac A39 => ?_)
  refine s_one (.bool (decide (opE 2500 5000 1 1000 0 (-300) 0 400 = 0))) A39 S28 (g_pick_t (b := (decide (zv (crE ⟨0, 300, 2500, 800, 300, 2500⟩) (crs ⟨0, 300, 2500, 800, 300, 2500⟩) = 400))) (by kernel_rfl) (decide_eq_true (by rw [zv_0 midE]; exact mid_crs)) (by kernel_rfl)) rfl (fun ac A40 => ?_)
  refine s_one (.bool (decide (opE 2500 5000 1 1000 0 (-300) 0 400 = 0))) A40 S28 (g_move (by kernel_rfl)) rfl (fun ac A41 => ?_)
  refine s_want (dj := 27) (b := (decide (opE 2500 5000 1 1000 0 (-300) 0 400 = 0))) A41 (by kernel_rfl) (by kernel_rfl) (decide_eq_true (by exact pla_E)) ?_
  refine s_one (.agg #[.int .i64 (zv (opE 2500 5000 1 1000 0 (-300) 0 400) (leLo (wyC 2500 5000 1 1000 0 (-300) 0 400))), .int .i64 (zv (opE 2500 5000 1 1000 0 (-300) 0 400) (mHi (wyC 2500 5000 1 1000 0 (-300) 0 400)))]) A41 S28 (g_load (g := g26) (off := 0) 0 (by kernel_rfl) rfl (by kernel_rfl)) rfl (fun ac A42 => ?_)
  refine s_want (dj := 27) (b := (decide (opE 2500 5000 1 1000 0 (-300) 0 400 = 0))) A42 (by kernel_rfl) (by kernel_rfl) (decide_eq_true (by exact pla_E)) ?_
  refine s_one (.agg #[.int .i64 4399984, .int .i64 4400000]) A42 S28 (g_build (r := [(0, .int .i64 4399984), (1, .int .i64 4400000)]) (by kernel_rfl) (fun _ => by kernel_rfl)) rfl (fun ac A43 => ?_)
  refine s_want (dj := 27) (b := (decide (opE 2500 5000 1 1000 0 (-300) 0 400 = 0))) A43 (by kernel_rfl) (by kernel_rfl) (decide_eq_true (by exact pla_E)) ?_
  refine s_one (.bool (decide ([zv (opE 2500 5000 1 1000 0 (-300) 0 400) (leLo (wyC 2500 5000 1 1000 0 (-300) 0 400)), zv (opE 2500 5000 1 1000 0 (-300) 0 400) (mHi (wyC 2500 5000 1 1000 0 (-300) 0 400))] = [4399984, 4400000]))) A43 S28 (g_bin (u := .agg #[.int .i64 (zv (opE 2500 5000 1 1000 0 (-300) 0 400) (leLo (wyC 2500 5000 1 1000 0 (-300) 0 400))), .int .i64 (zv (opE 2500 5000 1 1000 0 (-300) 0 400) (mHi (wyC 2500 5000 1 1000 0 (-300) 0 400)))]) (k := .agg #[.int .i64 4399984, .int .i64 4400000]) (by kernel_rfl) (by kernel_rfl) (fun _ => by kernel_rfl) (q_struct (n := 2) [zv (opE 2500 5000 1 1000 0 (-300) 0 400) (leLo (wyC 2500 5000 1 1000 0 (-300) 0 400)), zv (opE 2500 5000 1 1000 0 (-300) 0 400) (mHi (wyC 2500 5000 1 1000 0 (-300) 0 400))] [4399984, 4400000] (by kernel_rfl) rfl rfl)) rfl (fun ac A44 => ?_)
  refine s_one (.bool (decide ([zv (opE 2500 5000 1 1000 0 (-300) 0 400) (leLo (wyC 2500 5000 1 1000 0 (-300) 0 400)), zv (opE 2500 5000 1 1000 0 (-300) 0 400) (mHi (wyC 2500 5000 1 1000 0 (-300) 0 400))] = [4399984, 4400000]))) A44 S28 (g_pick_t (b := (decide (opE 2500 5000 1 1000 0 (-300) 0 400 = 0))) (by kernel_rfl) (decide_eq_true (by exact pla_E)) (by kernel_rfl)) rfl (fun ac A45 => ?_)
  refine s_one (.bool (decide ([zv (opE 2500 5000 1 1000 0 (-300) 0 400) (leLo (wyC 2500 5000 1 1000 0 (-300) 0 400)), zv (opE 2500 5000 1 1000 0 (-300) 0 400) (mHi (wyC 2500 5000 1 1000 0 (-300) 0 400))] = [4399984, 4400000]))) A45 S28 (g_assign (by kernel_rfl)) rfl (fun ac A46 => ?_)
  refine wpList_nil ?_
  refine n_then ?_
  refine wp_ret ?_
  refine fin1 (.bool (decide ([zv (opE 2500 5000 1 1000 0 (-300) 0 400) (leLo (wyC 2500 5000 1 1000 0 (-300) 0 400)), zv (opE 2500 5000 1 1000 0 (-300) 0 400) (mHi (wyC 2500 5000 1 1000 0 (-300) 0 400))] = [4399984, 4400000]))) Try.results27 A46 S28 (rv_tmp (by kernel_rfl)) ⟨?_, S28.kp⟩
  exact congrArg (fun b => Ending.returned (Value.bool b)) (decide_eq_true (by rw [pla_C, zv_0 pla_E, zv_0 pla_E]; exact pair2 pla_lo pla_hi))

theorem pass_up {c : Cr} (ok : c.Ok) {p : Int} (e : ¬ c.x2 < c.x1) (h : slp c p ≤ 0) : psB (p - c.x1) c.h1 c.v1 c.v2 = true := by
  have p1 := ok.h2; have p2 := ok.v2
  have s := (slp_le h).2 e
  unfold shA shB at s
  unfold psB
  exact decide_eq_true (pass_of (by omega) (by omega) s)
theorem pass_down {c : Cr} (ok : c.Ok) {p : Int} (e : c.x2 < c.x1) (h : 0 ≤ slp c p) : psB (p - c.x1) c.h1 c.v1 c.v2 = true := by
  have p1 := ok.h2; have p2 := ok.v2
  have s := (slp_ge h).1 e
  unfold shA shB at s
  have q := pass_of (show 1 ≤ c.v2 by omega) (show 1 ≤ c.h2 by omega) s
  unfold psB
  apply decide_eq_true
  have x : p - c.x1 = -(c.x1 - p) := by omega
  rw [x, Int.neg_mul_neg]
  exact q
theorem bs_08 {a b v w : Int} (h : psE a b v w = 0) (h2 : psB a b v w = true) (h3 : bsE a b v w ≠ 8) : bsE a b v w = 0 := by
  unfold bsE at *
  rw [if_pos h, h2] at *
  cases l : bsL a b v w with
  | false => rfl
  | true => rw [l] at h3; exact absurd rfl h3

set_option maxRecDepth 100000 in
set_option maxHeartbeats 400000 in
theorem TopSnellPasses_s (c : Cr) (w0 : World) :
    Calls Try.prog 10 #[.agg #[.int .i64 c.x1, .int .i64 c.h1, .int .i64 c.v1, .int .i64 c.x2, .int .i64 c.h2, .int .i64 c.v2]] w0 fun e w' => e = .returned (.bool true) ∧ Below w0.heap.size w0 w' := by
  have S0 := St.start w0
  refine enter (n := 90) Try.func10 rfl rfl rfl (fun ac A0 => ?_)
  refine wp_seq ?_
  refine wp_region_lit ?_
  refine s_box (.agg #[.int .i64 c.x1, .int .i64 c.h1, .int .i64 c.v1, .int .i64 c.x2, .int .i64 c.h2, .int .i64 c.v2]) A0 S0 (by kernel_rfl) rfl (fun g3 ac wc A1 S2 => ?_)
  replace S2 : St _ (⟨g3, 23, #[.int .i64 c.x1, .int .i64 c.h1, .int .i64 c.v1, .int .i64 c.x2, .int .i64 c.h2, .int .i64 c.v2], true⟩ :: _) _ _ := S2
  refine s_one (.bool false) A1 S2 (g_assign (by kernel_rfl)) rfl (fun ac A5 => ?_)
  refine wpList_nil ?_
  refine n_then ?_
  refine wp_seq ?_
  refine wp_seq ?_
  refine wp_region_lit ?_
  refine s_call (fs := #[]) (cp := #[]) (r := []) #[] (.bool true) A5 S2 (rayed_s _) Try.call27 (by kernel_rfl) (by kernel_rfl) (by kernel_rfl) rfl (fun ac wc A6 S7 => ?_)
  refine s_one (.bool false) A6 S7 (g_un (u := .bool true) (by kernel_rfl) (fun _ => by kernel_rfl)) rfl (fun ac A9 => ?_)
  refine wpList_nil ?_
  refine n_then ?_
  refine c_f (b := false) A9 (by kernel_rfl) rfl ?_
  refine wp_skip ?_
  refine n_then ?_
  refine wp_seq ?_
  refine wp_region_lit ?_
  refine s_one (.agg #[.int .i64 c.x1, .int .i64 c.h1, .int .i64 c.v1, .int .i64 c.x2, .int .i64 c.h2, .int .i64 c.v2]) A9 S7 (g_load (g := g3) (off := 0) 0 (by kernel_rfl) rfl (by kernel_rfl)) rfl (fun ac A10 => ?_)
  refine s_call (fs := #[]) (cp := #[]) (r := [(0, .agg #[.int .i64 c.x1, .int .i64 c.h1, .int .i64 c.v1, .int .i64 c.x2, .int .i64 c.h2, .int .i64 c.v2])]) #[.agg #[.int .i64 c.x1, .int .i64 c.h1, .int .i64 c.v1, .int .i64 c.x2, .int .i64 c.h2, .int .i64 c.v2]] (.tuple #[.int .i64 (zv (crE c) (crs c)), .int .i64 (crE c)]) A10 S7 (Crossing_s c _) Try.call20 (by kernel_rfl) (by kernel_rfl) (by kernel_rfl) rfl (fun ac wc A11 S12 => ?_)
  refine s_one (.tuple #[.int .i64 (zv (crE c) (crs c)), .int .i64 (crE c)]) A11 S12 (g_move (by kernel_rfl)) rfl (fun ac A14 => ?_)
  refine s_one (.int .i64 (zv (crE c) (crs c))) A14 S12 (g_extract (u := .tuple #[.int .i64 (zv (crE c) (crs c)), .int .i64 (crE c)]) (by kernel_rfl) (fun _ => by kernel_rfl)) rfl (fun ac A15 => ?_)
  refine s_one (.int .i64 (crE c)) A15 S12 (g_extract (u := .tuple #[.int .i64 (zv (crE c) (crs c)), .int .i64 (crE c)]) (by kernel_rfl) (fun _ => by kernel_rfl)) rfl (fun ac A16 => ?_)
  refine s_one (.int .i64 (zv (crE c) (crs c))) A16 S12 (g_assign (by kernel_rfl)) rfl (fun ac A17 => ?_)
  refine s_one (.int .i64 (crE c)) A17 S12 (g_assign (by kernel_rfl)) rfl (fun ac A18 => ?_)
  refine wpList_nil ?_
  refine n_then ?_
  refine wp_seq ?_
  refine wp_seq ?_
  refine wp_region_lit ?_
  refine s_one (.int .i64 (crE c)) A18 S12 (g_move (by kernel_rfl)) rfl (fun ac A19 => ?_)
  refine s_one (.bool (decide (crE c ≠ 0))) A19 S12 (g_bin (u := .int .i64 (crE c)) (k := .int .i64 0) (by kernel_rfl) (by kernel_rfl) (fun _ => by kernel_rfl) b_neq) rfl (fun ac A20 => ?_)
  refine wpList_nil ?_
  refine n_then ?_
  refine c_ifb (b := (decide (crE c ≠ 0))) A20 (by kernel_rfl) (fun h21 => ?_) (fun h21 => ?_)
  · have p22 := of_decide_eq_true h21
    have zn := of_decide_eq_true h21
    refine wp_seq ?_
    refine wp_region_lit ?_
    refine s_one (.int .i64 (zv (crE c) (crs c))) A20 S12 (g_move (by kernel_rfl)) rfl (fun ac A23 => ?_)
    refine s_one (.bool (decide (zv (crE c) (crs c) = 0))) A23 S12 (g_bin (u := .int .i64 (zv (crE c) (crs c))) (k := .int .i64 0) (by kernel_rfl) (by kernel_rfl) (fun _ => by kernel_rfl) b_eql) rfl (fun ac A24 => ?_)
    refine s_one (.bool (decide (zv (crE c) (crs c) = 0))) A24 S12 (g_assign (by kernel_rfl)) rfl (fun ac A25 => ?_)
    refine wpList_nil ?_
    refine n_then ?_
    refine wp_ret ?_
    refine r_then ?_
    refine fin1 (.bool (decide (zv (crE c) (crs c) = 0))) Try.results10 A25 S12 (rv_tmp (by kernel_rfl)) ⟨?_, S12.kp⟩
    exact congrArg (fun b => Ending.returned (Value.bool b)) (decide_eq_true (by first | assumption | rfl | exact zv_n zn _ | omega | (intro hh; exact hh ze2)))
  · have p26 := of_decide_eq_false h21
    have ze : crE c = 0 := by simpa using h21
    have ok := crE_ok ze
    have p1 := ok.x1
    have p2 := ok.x2
    have p3 := ok.h1
    have p4 := ok.h2
    have p5 := ok.v1
    have p6 := ok.v2
    have pl : c.lo = min c.x1 c.x2 := rfl
    have ph : c.hi = max c.x1 c.x2 := rfl
    have k := crs_is ok
    have kl := k.lo
    have kh := k.hi
    have ks := k.le
    have AZ3 := A20
    simp only [zv_0 ze] at AZ3
    refine wp_skip ?_
    refine n_then ?_
    refine wp_seq ?_
    refine wp_seq ?_
    refine wp_region_lit ?_
    refine s_one (.pointer (some ⟨g3, 3, none⟩)) AZ3 S12 (g_field (u := .pointer (some ⟨g3, 0, none⟩)) (by kernel_rfl) (fun _ => by kernel_rfl)) rfl (fun ac A27 => ?_)
    refine s_one (.int .i64 c.x2) A27 S12 (g_load (g := g3) (off := 3) 0 (by kernel_rfl) rfl (by kernel_rfl)) rfl (fun ac A28 => ?_)
    refine s_one (.pointer (some ⟨g3, 0, none⟩)) A28 S12 (g_field (u := .pointer (some ⟨g3, 0, none⟩)) (by kernel_rfl) (fun _ => by kernel_rfl)) rfl (fun ac A29 => ?_)
    refine s_one (.int .i64 c.x1) A29 S12 (g_load (g := g3) (off := 0) 0 (by kernel_rfl) rfl (by kernel_rfl)) rfl (fun ac A30 => ?_)
    refine s_one (.bool (decide (c.x2 < c.x1))) A30 S12 (g_bin (u := .int .i64 c.x2) (k := .int .i64 c.x1) (by kernel_rfl) (by kernel_rfl) (fun _ => by kernel_rfl) (fun _ => by kernel_rfl)) rfl (fun ac A31 => ?_)
    refine wpList_nil ?_
    refine n_then ?_
    refine c_ifb (b := (decide (c.x2 < c.x1))) A31 (by kernel_rfl) (fun h32 => ?_) (fun h32 => ?_)
    · have p33 := of_decide_eq_true h32
      refine wp_region_lit ?_
      refine s_one (.int .i64 (crs c)) A31 S12 (g_move (by kernel_rfl)) rfl (fun ac A34 => ?_)
      refine s_one (.int .i64 (crs c + 1)) A34 S12 (g_bin (u := .int .i64 (crs c)) (k := .int .i64 1) (by kernel_rfl) (by kernel_rfl) (fun _ => by kernel_rfl) (b_add (by omega))) rfl (fun ac A35 => ?_)
      refine s_one (.int .i64 (crs c + 1)) A35 S12 (g_assign (by kernel_rfl)) rfl (fun ac A36 => ?_)
      refine wpList_nil ?_
      refine n_then ?_
      refine wp_seq ?_
      refine wp_region_lit ?_
      refine s_one (.int .i64 (crs c + 1)) A36 S12 (g_move (by kernel_rfl)) rfl (fun ac A37 => ?_)
      refine s_one (.pointer (some ⟨g3, 0, none⟩)) A37 S12 (g_field (u := .pointer (some ⟨g3, 0, none⟩)) (by kernel_rfl) (fun _ => by kernel_rfl)) rfl (fun ac A38 => ?_)
      refine s_one (.int .i64 c.x1) A38 S12 (g_load (g := g3) (off := 0) 0 (by kernel_rfl) rfl (by kernel_rfl)) rfl (fun ac A39 => ?_)
      refine s_one (.int .i64 (crs c + 1 - c.x1)) A39 S12 (g_bin (u := .int .i64 (crs c + 1)) (k := .int .i64 c.x1) (by kernel_rfl) (by kernel_rfl) (fun _ => by kernel_rfl) (b_sub (by omega))) rfl (fun ac A40 => ?_)
      refine s_one (.pointer (some ⟨g3, 1, none⟩)) A40 S12 (g_field (u := .pointer (some ⟨g3, 0, none⟩)) (by kernel_rfl) (fun _ => by kernel_rfl)) rfl (fun ac A41 => ?_)
      refine s_one (.int .i64 c.h1) A41 S12 (g_load (g := g3) (off := 1) 0 (by kernel_rfl) rfl (by kernel_rfl)) rfl (fun ac A42 => ?_)
      refine s_one (.agg #[.int .i64 (crs c + 1 - c.x1), .int .i64 c.h1]) A42 S12 (g_build (r := [(0, .int .i64 (crs c + 1 - c.x1)), (1, .int .i64 c.h1)]) (by kernel_rfl) (fun _ => by kernel_rfl)) rfl (fun ac A43 => ?_)
      refine s_alloc (#[.int .i64 0, .int .i64 0]) A43 S12 (by kernel_rfl) rfl (fun g46 ac wc A44 S45 => ?_)
      refine s_store (g := g46) (off := 0) (v := .agg #[.int .i64 (crs c + 1 - c.x1), .int .i64 c.h1]) 0 (#[.int .i64 (crs c + 1 - c.x1), .int .i64 c.h1]) A44 S45 (by kernel_rfl) (by kernel_rfl) rfl (by kernel_rfl) (fun wc S48 => ?_)
      refine wpList_nil ?_
      refine n_then ?_
      refine wp_seq ?_
      refine wp_seq ?_
      refine c_cut (fun ac wc => Fr 90 ac [(52, .bool ((!(inB (crs c + 1 - c.x1) (-1000) 1000)) || ((decide (c.h1 > 1000)) || (decide (crs c + 1 > mx c.x1 c.x2))))), (0, .agg #[.int .i64 c.x1, .int .i64 c.h1, .int .i64 c.v1, .int .i64 c.x2, .int .i64 c.h2, .int .i64 c.v2]), (1, .pointer (some ⟨g3, 0, none⟩)), (2, .bool false), (10, .bool true), (11, .bool false), (13, .agg #[.int .i64 c.x1, .int .i64 c.h1, .int .i64 c.v1, .int .i64 c.x2, .int .i64 c.h2, .int .i64 c.v2]), (14, .tuple #[.int .i64 (crs c), .int .i64 (crE c)]), (12, .tuple #[.int .i64 (crs c), .int .i64 (crE c)]), (15, .int .i64 (crs c)), (16, .int .i64 (crE c)), (3, .int .i64 (crs c + 1)), (4, .int .i64 (crE c)), (17, .int .i64 (crE c)), (18, .bool (decide (crE c ≠ 0))), (21, .pointer (some ⟨g3, 3, none⟩)), (22, .int .i64 c.x2), (23, .pointer (some ⟨g3, 0, none⟩)), (24, .int .i64 c.x1), (25, .bool (decide (c.x2 < c.x1))), (26, .int .i64 (crs c)), (27, .int .i64 (crs c + 1)), (28, .int .i64 (crs c + 1)), (29, .pointer (some ⟨g3, 0, none⟩)), (30, .int .i64 c.x1), (31, .int .i64 (crs c + 1 - c.x1)), (32, .pointer (some ⟨g3, 1, none⟩)), (33, .int .i64 c.h1), (34, .agg #[.int .i64 (crs c + 1 - c.x1), .int .i64 c.h1]), (5, .pointer (some ⟨g46, 0, none⟩))] ∧ St w0 [⟨g46, 71, #[.int .i64 (crs c + 1 - c.x1), .int .i64 c.h1], true⟩, ⟨g3, 23, #[.int .i64 c.x1, .int .i64 c.h1, .int .i64 c.v1, .int .i64 c.x2, .int .i64 c.h2, .int .i64 c.v2], true⟩] [] wc) ?_ ?_
      · refine wp_region_lit ?_
        refine s_one (.pointer (some ⟨g46, 0, none⟩)) A44 S48 (g_index (u := .pointer (some ⟨g46, 0, none⟩)) (k := .int .i64 0) (by kernel_rfl) (by kernel_rfl) (fun _ => by kernel_rfl)) rfl (fun ac A50 => ?_)
        refine s_one (.int .i64 (crs c + 1 - c.x1)) A50 S48 (g_load (g := g46) (off := 0) 0 (by kernel_rfl) rfl (by kernel_rfl)) rfl (fun ac A51 => ?_)
        refine s_call (fs := #[]) (cp := #[]) (r := [(0, .int .i64 (crs c + 1 - c.x1)), (0, .int .i64 (-1000)), (0, .int .i64 1000)]) #[.int .i64 (crs c + 1 - c.x1), .int .i64 (-1000), .int .i64 1000] (.bool (inB (crs c + 1 - c.x1) (-1000) 1000)) A51 S48 (Within_s (crs c + 1 - c.x1) (-1000) 1000 _) Try.call26 (by kernel_rfl) (by kernel_rfl) (by kernel_rfl) rfl (fun ac wc A52 S53 => ?_)
        refine s_one (.bool (!(inB (crs c + 1 - c.x1) (-1000) 1000))) A52 S53 (g_un (u := .bool (inB (crs c + 1 - c.x1) (-1000) 1000)) (by kernel_rfl) (fun _ => by kernel_rfl)) rfl (fun ac A55 => ?_)
        refine s_one (.bool (!(inB (crs c + 1 - c.x1) (-1000) 1000))) A55 S53 (g_move (by kernel_rfl)) rfl (fun ac A56 => ?_)
        refine by_bool (!(inB (crs c + 1 - c.x1) (-1000) 1000)) (fun h57 => ?_) (fun h57 => ?_)
        · have h58 : inB (crs c + 1 - c.x1) (-1000) 1000 = false := by simpa using h57
          refine s_not (dj := 39) (b := (!(inB (crs c + 1 - c.x1) (-1000) 1000))) A56 (by kernel_rfl) (by kernel_rfl) h57 rfl (fun ac A59 => ?_)
          refine s_not (dj := 39) (b := (!(inB (crs c + 1 - c.x1) (-1000) 1000))) A59 (by kernel_rfl) (by kernel_rfl) h57 rfl (fun ac A60 => ?_)
          refine s_not (dj := 39) (b := (!(inB (crs c + 1 - c.x1) (-1000) 1000))) A60 (by kernel_rfl) (by kernel_rfl) h57 rfl (fun ac A61 => ?_)
          refine s_one (.bool true) A61 S53 (g_pick_t (b := (!(inB (crs c + 1 - c.x1) (-1000) 1000))) (by kernel_rfl) h57 (by kernel_rfl)) rfl (fun ac A62 => ?_)
          refine s_one (.bool true) A62 S53 (g_move (by kernel_rfl)) rfl (fun ac A63 => ?_)
          refine s_not (dj := 44) (b := true) A63 (by kernel_rfl) (by kernel_rfl) rfl rfl (fun ac A64 => ?_)
          refine s_not (dj := 44) (b := true) A64 (by kernel_rfl) (by kernel_rfl) rfl rfl (fun ac A65 => ?_)
          refine s_not (dj := 44) (b := true) A65 (by kernel_rfl) (by kernel_rfl) rfl rfl (fun ac A66 => ?_)
          refine s_not (dj := 44) (b := true) A66 (by kernel_rfl) (by kernel_rfl) rfl rfl (fun ac A67 => ?_)
          refine s_not (dj := 44) (b := true) A67 (by kernel_rfl) (by kernel_rfl) rfl rfl (fun ac A68 => ?_)
          refine s_not (dj := 44) (b := true) A68 (by kernel_rfl) (by kernel_rfl) rfl rfl (fun ac A69 => ?_)
          refine s_not (dj := 44) (b := true) A69 (by kernel_rfl) (by kernel_rfl) rfl rfl (fun ac A70 => ?_)
          refine s_one (.bool true) A70 S53 (g_pick_t (b := true) (by kernel_rfl) rfl (by kernel_rfl)) rfl (fun ac A71 => ?_)
          refine wpList_nil ?_
          refine n_then ?_
          exact ⟨(A71.slot (A71.slot (A71.slot (A71.slot (A71.slot (A71.slot (A71.slot (A71.slot (A71.slot (A71.slot (A71.slot (A71.slot (A71.slot (A71.slot (A71.slot (A71.slot (A71.slot (A71.slot (A71.slot (A71.slot (A71.slot (A71.slot (A71.slot (A71.slot (A71.slot (A71.slot (A71.slot (A71.slot (A71.slot (A71.slot A71.nil (v := .pointer (some ⟨g46, 0, none⟩)) (by kernel_rfl) rfl) (v := .agg #[.int .i64 (crs c + 1 - c.x1), .int .i64 c.h1]) (by kernel_rfl) rfl) (v := .int .i64 c.h1) (by kernel_rfl) rfl) (v := .pointer (some ⟨g3, 1, none⟩)) (by kernel_rfl) rfl) (v := .int .i64 (crs c + 1 - c.x1)) (by kernel_rfl) rfl) (v := .int .i64 c.x1) (by kernel_rfl) rfl) (v := .pointer (some ⟨g3, 0, none⟩)) (by kernel_rfl) rfl) (v := .int .i64 (crs c + 1)) (by kernel_rfl) rfl) (v := .int .i64 (crs c + 1)) (by kernel_rfl) rfl) (v := .int .i64 (crs c)) (by kernel_rfl) rfl) (v := .bool (decide (c.x2 < c.x1))) (by kernel_rfl) rfl) (v := .int .i64 c.x1) (by kernel_rfl) rfl) (v := .pointer (some ⟨g3, 0, none⟩)) (by kernel_rfl) rfl) (v := .int .i64 c.x2) (by kernel_rfl) rfl) (v := .pointer (some ⟨g3, 3, none⟩)) (by kernel_rfl) rfl) (v := .bool (decide (crE c ≠ 0))) (by kernel_rfl) rfl) (v := .int .i64 (crE c)) (by kernel_rfl) rfl) (v := .int .i64 (crE c)) (by kernel_rfl) rfl) (v := .int .i64 (crs c + 1)) (by kernel_rfl) rfl) (v := .int .i64 (crE c)) (by kernel_rfl) rfl) (v := .int .i64 (crs c)) (by kernel_rfl) rfl) (v := .tuple #[.int .i64 (crs c), .int .i64 (crE c)]) (by kernel_rfl) rfl) (v := .tuple #[.int .i64 (crs c), .int .i64 (crE c)]) (by kernel_rfl) rfl) (v := .agg #[.int .i64 c.x1, .int .i64 c.h1, .int .i64 c.v1, .int .i64 c.x2, .int .i64 c.h2, .int .i64 c.v2]) (by kernel_rfl) rfl) (v := .bool false) (by kernel_rfl) rfl) (v := .bool true) (by kernel_rfl) rfl) (v := .bool false) (by kernel_rfl) rfl) (v := .pointer (some ⟨g3, 0, none⟩)) (by kernel_rfl) rfl) (v := .agg #[.int .i64 c.x1, .int .i64 c.h1, .int .i64 c.v1, .int .i64 c.x2, .int .i64 c.h2, .int .i64 c.v2]) (by kernel_rfl) rfl) (v := .bool true) (by kernel_rfl) (congrArg Value.bool (b_ot1 h57).symm)), S53.sub sub_all sub_all⟩
        · have h72 : inB (crs c + 1 - c.x1) (-1000) 1000 = true := by simpa using h57
          refine s_want (dj := 39) (b := (!(inB (crs c + 1 - c.x1) (-1000) 1000))) A56 (by kernel_rfl) (by kernel_rfl) h57 ?_
          refine s_one (.pointer (some ⟨g46, 1, none⟩)) A56 S53 (g_index (u := .pointer (some ⟨g46, 0, none⟩)) (k := .int .i64 1) (by kernel_rfl) (by kernel_rfl) (fun _ => by kernel_rfl)) rfl (fun ac A73 => ?_)
          refine s_want (dj := 39) (b := (!(inB (crs c + 1 - c.x1) (-1000) 1000))) A73 (by kernel_rfl) (by kernel_rfl) h57 ?_
          refine s_one (.int .i64 c.h1) A73 S53 (g_load (g := g46) (off := 1) 0 (by kernel_rfl) rfl (by kernel_rfl)) rfl (fun ac A74 => ?_)
          refine s_want (dj := 39) (b := (!(inB (crs c + 1 - c.x1) (-1000) 1000))) A74 (by kernel_rfl) (by kernel_rfl) h57 ?_
          refine s_one (.bool (decide (c.h1 > 1000))) A74 S53 (g_bin (u := .int .i64 c.h1) (k := .int .i64 1000) (by kernel_rfl) (by kernel_rfl) (fun _ => by kernel_rfl) (fun _ => by kernel_rfl)) rfl (fun ac A75 => ?_)
          refine s_one (.bool (decide (c.h1 > 1000))) A75 S53 (g_pick_f (b := (!(inB (crs c + 1 - c.x1) (-1000) 1000))) (by kernel_rfl) h57 (by kernel_rfl)) rfl (fun ac A76 => ?_)
          refine s_one (.bool (decide (c.h1 > 1000))) A76 S53 (g_move (by kernel_rfl)) rfl (fun ac A77 => ?_)
          refine by_bool (decide (c.h1 > 1000)) (fun h78 => ?_) (fun h78 => ?_)
          · have p79 := of_decide_eq_true h78
            refine s_not (dj := 44) (b := (decide (c.h1 > 1000))) A77 (by kernel_rfl) (by kernel_rfl) h78 rfl (fun ac A80 => ?_)
            refine s_not (dj := 44) (b := (decide (c.h1 > 1000))) A80 (by kernel_rfl) (by kernel_rfl) h78 rfl (fun ac A81 => ?_)
            refine s_not (dj := 44) (b := (decide (c.h1 > 1000))) A81 (by kernel_rfl) (by kernel_rfl) h78 rfl (fun ac A82 => ?_)
            refine s_not (dj := 44) (b := (decide (c.h1 > 1000))) A82 (by kernel_rfl) (by kernel_rfl) h78 rfl (fun ac A83 => ?_)
            refine s_not (dj := 44) (b := (decide (c.h1 > 1000))) A83 (by kernel_rfl) (by kernel_rfl) h78 rfl (fun ac A84 => ?_)
            refine s_not (dj := 44) (b := (decide (c.h1 > 1000))) A84 (by kernel_rfl) (by kernel_rfl) h78 rfl (fun ac A85 => ?_)
            refine s_not (dj := 44) (b := (decide (c.h1 > 1000))) A85 (by kernel_rfl) (by kernel_rfl) h78 rfl (fun ac A86 => ?_)
            refine s_one (.bool true) A86 S53 (g_pick_t (b := (decide (c.h1 > 1000))) (by kernel_rfl) h78 (by kernel_rfl)) rfl (fun ac A87 => ?_)
            refine wpList_nil ?_
            refine n_then ?_
            exact ⟨(A87.slot (A87.slot (A87.slot (A87.slot (A87.slot (A87.slot (A87.slot (A87.slot (A87.slot (A87.slot (A87.slot (A87.slot (A87.slot (A87.slot (A87.slot (A87.slot (A87.slot (A87.slot (A87.slot (A87.slot (A87.slot (A87.slot (A87.slot (A87.slot (A87.slot (A87.slot (A87.slot (A87.slot (A87.slot (A87.slot A87.nil (v := .pointer (some ⟨g46, 0, none⟩)) (by kernel_rfl) rfl) (v := .agg #[.int .i64 (crs c + 1 - c.x1), .int .i64 c.h1]) (by kernel_rfl) rfl) (v := .int .i64 c.h1) (by kernel_rfl) rfl) (v := .pointer (some ⟨g3, 1, none⟩)) (by kernel_rfl) rfl) (v := .int .i64 (crs c + 1 - c.x1)) (by kernel_rfl) rfl) (v := .int .i64 c.x1) (by kernel_rfl) rfl) (v := .pointer (some ⟨g3, 0, none⟩)) (by kernel_rfl) rfl) (v := .int .i64 (crs c + 1)) (by kernel_rfl) rfl) (v := .int .i64 (crs c + 1)) (by kernel_rfl) rfl) (v := .int .i64 (crs c)) (by kernel_rfl) rfl) (v := .bool (decide (c.x2 < c.x1))) (by kernel_rfl) rfl) (v := .int .i64 c.x1) (by kernel_rfl) rfl) (v := .pointer (some ⟨g3, 0, none⟩)) (by kernel_rfl) rfl) (v := .int .i64 c.x2) (by kernel_rfl) rfl) (v := .pointer (some ⟨g3, 3, none⟩)) (by kernel_rfl) rfl) (v := .bool (decide (crE c ≠ 0))) (by kernel_rfl) rfl) (v := .int .i64 (crE c)) (by kernel_rfl) rfl) (v := .int .i64 (crE c)) (by kernel_rfl) rfl) (v := .int .i64 (crs c + 1)) (by kernel_rfl) rfl) (v := .int .i64 (crE c)) (by kernel_rfl) rfl) (v := .int .i64 (crs c)) (by kernel_rfl) rfl) (v := .tuple #[.int .i64 (crs c), .int .i64 (crE c)]) (by kernel_rfl) rfl) (v := .tuple #[.int .i64 (crs c), .int .i64 (crE c)]) (by kernel_rfl) rfl) (v := .agg #[.int .i64 c.x1, .int .i64 c.h1, .int .i64 c.v1, .int .i64 c.x2, .int .i64 c.h2, .int .i64 c.v2]) (by kernel_rfl) rfl) (v := .bool false) (by kernel_rfl) rfl) (v := .bool true) (by kernel_rfl) rfl) (v := .bool false) (by kernel_rfl) rfl) (v := .pointer (some ⟨g3, 0, none⟩)) (by kernel_rfl) rfl) (v := .agg #[.int .i64 c.x1, .int .i64 c.h1, .int .i64 c.v1, .int .i64 c.x2, .int .i64 c.h2, .int .i64 c.v2]) (by kernel_rfl) rfl) (v := .bool true) (by kernel_rfl) (congrArg Value.bool (b_ot2 (b_ot1 h78)).symm)), S53.sub sub_all sub_all⟩
          · have p88 := of_decide_eq_false h78
            refine s_want (dj := 44) (b := (decide (c.h1 > 1000))) A77 (by kernel_rfl) (by kernel_rfl) h78 ?_
            refine s_one (.int .i64 (crs c + 1)) A77 S53 (g_move (by kernel_rfl)) rfl (fun ac A89 => ?_)
            refine s_want (dj := 44) (b := (decide (c.h1 > 1000))) A89 (by kernel_rfl) (by kernel_rfl) h78 ?_
            refine s_one (.pointer (some ⟨g3, 0, none⟩)) A89 S53 (g_field (u := .pointer (some ⟨g3, 0, none⟩)) (by kernel_rfl) (fun _ => by kernel_rfl)) rfl (fun ac A90 => ?_)
            refine s_want (dj := 44) (b := (decide (c.h1 > 1000))) A90 (by kernel_rfl) (by kernel_rfl) h78 ?_
            refine s_one (.int .i64 c.x1) A90 S53 (g_load (g := g3) (off := 0) 1 (by kernel_rfl) rfl (by kernel_rfl)) rfl (fun ac A91 => ?_)
            refine s_want (dj := 44) (b := (decide (c.h1 > 1000))) A91 (by kernel_rfl) (by kernel_rfl) h78 ?_
            refine s_one (.pointer (some ⟨g3, 3, none⟩)) A91 S53 (g_field (u := .pointer (some ⟨g3, 0, none⟩)) (by kernel_rfl) (fun _ => by kernel_rfl)) rfl (fun ac A92 => ?_)
            refine s_want (dj := 44) (b := (decide (c.h1 > 1000))) A92 (by kernel_rfl) (by kernel_rfl) h78 ?_
            refine s_one (.int .i64 c.x2) A92 S53 (g_load (g := g3) (off := 3) 1 (by kernel_rfl) rfl (by kernel_rfl)) rfl (fun ac A93 => ?_)
            refine s_want (dj := 44) (b := (decide (c.h1 > 1000))) A93 (by kernel_rfl) (by kernel_rfl) h78 ?_
            refine s_one (.int .i64 (mx c.x1 c.x2)) A93 S53 (g_built (r := [(0, .int .i64 c.x1), (0, .int .i64 c.x2)]) (by kernel_rfl) (fun ty cs w => by show (do let x ← Builtin.max_ _ ty #[.int .i64 c.x1, .int .i64 c.x2]; pure (Next.value x) : Sem Next).run _ w = _; rw [Sem.run_bind, run_max_mx]; rfl)) rfl (fun ac A94 => ?_)
            refine s_want (dj := 44) (b := (decide (c.h1 > 1000))) A94 (by kernel_rfl) (by kernel_rfl) h78 ?_
            refine s_one (.bool (decide (crs c + 1 > mx c.x1 c.x2))) A94 S53 (g_bin (u := .int .i64 (crs c + 1)) (k := .int .i64 (mx c.x1 c.x2)) (by kernel_rfl) (by kernel_rfl) (fun _ => by kernel_rfl) (fun _ => by kernel_rfl)) rfl (fun ac A95 => ?_)
            refine s_one (.bool (decide (crs c + 1 > mx c.x1 c.x2))) A95 S53 (g_pick_f (b := (decide (c.h1 > 1000))) (by kernel_rfl) h78 (by kernel_rfl)) rfl (fun ac A96 => ?_)
            refine wpList_nil ?_
            refine n_then ?_
            exact ⟨(A96.slot (A96.slot (A96.slot (A96.slot (A96.slot (A96.slot (A96.slot (A96.slot (A96.slot (A96.slot (A96.slot (A96.slot (A96.slot (A96.slot (A96.slot (A96.slot (A96.slot (A96.slot (A96.slot (A96.slot (A96.slot (A96.slot (A96.slot (A96.slot (A96.slot (A96.slot (A96.slot (A96.slot (A96.slot (A96.slot A96.nil (v := .pointer (some ⟨g46, 0, none⟩)) (by kernel_rfl) rfl) (v := .agg #[.int .i64 (crs c + 1 - c.x1), .int .i64 c.h1]) (by kernel_rfl) rfl) (v := .int .i64 c.h1) (by kernel_rfl) rfl) (v := .pointer (some ⟨g3, 1, none⟩)) (by kernel_rfl) rfl) (v := .int .i64 (crs c + 1 - c.x1)) (by kernel_rfl) rfl) (v := .int .i64 c.x1) (by kernel_rfl) rfl) (v := .pointer (some ⟨g3, 0, none⟩)) (by kernel_rfl) rfl) (v := .int .i64 (crs c + 1)) (by kernel_rfl) rfl) (v := .int .i64 (crs c + 1)) (by kernel_rfl) rfl) (v := .int .i64 (crs c)) (by kernel_rfl) rfl) (v := .bool (decide (c.x2 < c.x1))) (by kernel_rfl) rfl) (v := .int .i64 c.x1) (by kernel_rfl) rfl) (v := .pointer (some ⟨g3, 0, none⟩)) (by kernel_rfl) rfl) (v := .int .i64 c.x2) (by kernel_rfl) rfl) (v := .pointer (some ⟨g3, 3, none⟩)) (by kernel_rfl) rfl) (v := .bool (decide (crE c ≠ 0))) (by kernel_rfl) rfl) (v := .int .i64 (crE c)) (by kernel_rfl) rfl) (v := .int .i64 (crE c)) (by kernel_rfl) rfl) (v := .int .i64 (crs c + 1)) (by kernel_rfl) rfl) (v := .int .i64 (crE c)) (by kernel_rfl) rfl) (v := .int .i64 (crs c)) (by kernel_rfl) rfl) (v := .tuple #[.int .i64 (crs c), .int .i64 (crE c)]) (by kernel_rfl) rfl) (v := .tuple #[.int .i64 (crs c), .int .i64 (crE c)]) (by kernel_rfl) rfl) (v := .agg #[.int .i64 c.x1, .int .i64 c.h1, .int .i64 c.v1, .int .i64 c.x2, .int .i64 c.h2, .int .i64 c.v2]) (by kernel_rfl) rfl) (v := .bool false) (by kernel_rfl) rfl) (v := .bool true) (by kernel_rfl) rfl) (v := .bool false) (by kernel_rfl) rfl) (v := .pointer (some ⟨g3, 0, none⟩)) (by kernel_rfl) rfl) (v := .agg #[.int .i64 c.x1, .int .i64 c.h1, .int .i64 c.v1, .int .i64 c.x2, .int .i64 c.h2, .int .i64 c.v2]) (by kernel_rfl) rfl) (v := .bool (decide (crs c + 1 > mx c.x1 c.x2))) (by kernel_rfl) (congrArg Value.bool (b_or_f h57 (b_or_f h78 (Eq.refl (decide (crs c + 1 > mx c.x1 c.x2))))).symm)), S53.sub sub_all sub_all⟩
      · rintro ac wc ⟨A97, S98⟩
        refine n_then ?_
        refine c_ifb (b := ((!(inB (crs c + 1 - c.x1) (-1000) 1000)) || ((decide (c.h1 > 1000)) || (decide (crs c + 1 > mx c.x1 c.x2))))) A97 (by kernel_rfl) (fun h99 => ?_) (fun h99 => ?_)
        · refine wp_seq ?_
          refine wp_region_lit ?_
          refine s_one (.bool true) A97 S98 (g_assign (by kernel_rfl)) rfl (fun ac A100 => ?_)
          refine wpList_nil ?_
          refine n_then ?_
          refine wp_ret ?_
          refine r_then ?_
          refine fin1 (.bool true) Try.results10 A100 S98 (rv_tmp (by kernel_rfl)) ⟨?_, S98.kp⟩
          rfl
        · have h101 := (Bool.or_eq_false_iff.1 h99).1
          have h102 : inB (crs c + 1 - c.x1) (-1000) 1000 = true := by simpa using h101
          have h103 := (Bool.or_eq_false_iff.1 h99).2
          have h104 := (Bool.or_eq_false_iff.1 h103).1
          have p105 := of_decide_eq_false h104
          have h106 := (Bool.or_eq_false_iff.1 h103).2
          have p107 := of_decide_eq_false h106
          have mxe := mx_eq c.x1 c.x2
          have dz : dirE (crs c + 1 - c.x1) c.h1 = 0 := dirE_y h102 (inB_true.2 (by omega))
          have ze2 : psE (crs c + 1 - c.x1) c.h1 c.v1 c.v2 = 0 := psE_of dz (veE_y (inB_true.2 ok.v1)) (veE_y (inB_true.2 ok.v2))
          have ps := pass_down ok (p := crs c + 1) (by omega) (by have := k.gt (by omega); omega)
          have bb := bs_bd ze2
          have bl := bs_le ze2 ps
          refine wp_skip ?_
          refine n_then ?_
          refine wp_seq ?_
          refine wp_region_lit ?_
          refine s_one (.agg #[.int .i64 (crs c + 1 - c.x1), .int .i64 c.h1]) A97 S98 (g_load (g := g46) (off := 0) 0 (by kernel_rfl) rfl (by kernel_rfl)) rfl (fun ac A108 => ?_)
          refine s_one (.pointer (some ⟨g3, 2, none⟩)) A108 S98 (g_field (u := .pointer (some ⟨g3, 0, none⟩)) (by kernel_rfl) (fun _ => by kernel_rfl)) rfl (fun ac A109 => ?_)
          refine s_one (.int .i64 c.v1) A109 S98 (g_load (g := g3) (off := 2) 1 (by kernel_rfl) rfl (by kernel_rfl)) rfl (fun ac A110 => ?_)
          refine s_one (.pointer (some ⟨g3, 5, none⟩)) A110 S98 (g_field (u := .pointer (some ⟨g3, 0, none⟩)) (by kernel_rfl) (fun _ => by kernel_rfl)) rfl (fun ac A111 => ?_)
          refine s_one (.int .i64 c.v2) A111 S98 (g_load (g := g3) (off := 5) 1 (by kernel_rfl) rfl (by kernel_rfl)) rfl (fun ac A112 => ?_)
          refine s_call (fs := #[]) (cp := #[]) (r := [(0, .agg #[.int .i64 (crs c + 1 - c.x1), .int .i64 c.h1]), (0, .int .i64 c.v1), (0, .int .i64 c.v2)]) #[.agg #[.int .i64 (crs c + 1 - c.x1), .int .i64 c.h1], .int .i64 c.v1, .int .i64 c.v2] (.tuple #[.bool (zb (psE (crs c + 1 - c.x1) c.h1 c.v1 c.v2) (psB (crs c + 1 - c.x1) c.h1 c.v1 c.v2)), .int .i64 (psE (crs c + 1 - c.x1) c.h1 c.v1 c.v2)]) A112 S98 (Passes_s (crs c + 1 - c.x1) c.h1 c.v1 c.v2 _) Try.call45 (by kernel_rfl) (by kernel_rfl) (by kernel_rfl) rfl (fun ac wc A113 S114 => ?_)
          refine s_one (.tuple #[.bool (zb (psE (crs c + 1 - c.x1) c.h1 c.v1 c.v2) (psB (crs c + 1 - c.x1) c.h1 c.v1 c.v2)), .int .i64 (psE (crs c + 1 - c.x1) c.h1 c.v1 c.v2)]) A113 S114 (g_move (by kernel_rfl)) rfl (fun ac A116 => ?_)
          refine s_one (.bool (zb (psE (crs c + 1 - c.x1) c.h1 c.v1 c.v2) (psB (crs c + 1 - c.x1) c.h1 c.v1 c.v2))) A116 S114 (g_extract (u := .tuple #[.bool (zb (psE (crs c + 1 - c.x1) c.h1 c.v1 c.v2) (psB (crs c + 1 - c.x1) c.h1 c.v1 c.v2)), .int .i64 (psE (crs c + 1 - c.x1) c.h1 c.v1 c.v2)]) (by kernel_rfl) (fun _ => by kernel_rfl)) rfl (fun ac A117 => ?_)
          refine s_one (.int .i64 (psE (crs c + 1 - c.x1) c.h1 c.v1 c.v2)) A117 S114 (g_extract (u := .tuple #[.bool (zb (psE (crs c + 1 - c.x1) c.h1 c.v1 c.v2) (psB (crs c + 1 - c.x1) c.h1 c.v1 c.v2)), .int .i64 (psE (crs c + 1 - c.x1) c.h1 c.v1 c.v2)]) (by kernel_rfl) (fun _ => by kernel_rfl)) rfl (fun ac A118 => ?_)
          refine s_one (.bool (zb (psE (crs c + 1 - c.x1) c.h1 c.v1 c.v2) (psB (crs c + 1 - c.x1) c.h1 c.v1 c.v2))) A118 S114 (g_assign (by kernel_rfl)) rfl (fun ac A119 => ?_)
          refine s_one (.int .i64 (psE (crs c + 1 - c.x1) c.h1 c.v1 c.v2)) A119 S114 (g_assign (by kernel_rfl)) rfl (fun ac A120 => ?_)
          refine wpList_nil ?_
          refine n_then ?_
          refine wp_seq ?_
          refine wp_seq ?_
          refine wp_region_lit ?_
          refine s_one (.int .i64 (psE (crs c + 1 - c.x1) c.h1 c.v1 c.v2)) A120 S114 (g_move (by kernel_rfl)) rfl (fun ac A121 => ?_)
          refine s_one (.bool (decide (psE (crs c + 1 - c.x1) c.h1 c.v1 c.v2 ≠ 0))) A121 S114 (g_bin (u := .int .i64 (psE (crs c + 1 - c.x1) c.h1 c.v1 c.v2)) (k := .int .i64 0) (by kernel_rfl) (by kernel_rfl) (fun _ => by kernel_rfl) b_neq) rfl (fun ac A122 => ?_)
          refine s_one (.bool (decide (psE (crs c + 1 - c.x1) c.h1 c.v1 c.v2 ≠ 0))) A122 S114 (g_move (by kernel_rfl)) rfl (fun ac A123 => ?_)
          refine s_want (dj := 64) (b := (decide (psE (crs c + 1 - c.x1) c.h1 c.v1 c.v2 ≠ 0))) A123 (by kernel_rfl) (by kernel_rfl) (decide_eq_false (by first | assumption | rfl | exact zv_n zn _ | omega | (intro hh; exact hh ze2))) ?_
          refine s_one (.bool (zb (psE (crs c + 1 - c.x1) c.h1 c.v1 c.v2) (psB (crs c + 1 - c.x1) c.h1 c.v1 c.v2))) A123 S114 (g_move (by kernel_rfl)) rfl (fun ac A124 => ?_)
          refine s_want (dj := 64) (b := (decide (psE (crs c + 1 - c.x1) c.h1 c.v1 c.v2 ≠ 0))) A124 (by kernel_rfl) (by kernel_rfl) (decide_eq_false (by first | assumption | rfl | exact zv_n zn _ | omega | (intro hh; exact hh ze2))) ?_
          refine s_one (.bool (!(zb (psE (crs c + 1 - c.x1) c.h1 c.v1 c.v2) (psB (crs c + 1 - c.x1) c.h1 c.v1 c.v2)))) A124 S114 (g_un (u := .bool (zb (psE (crs c + 1 - c.x1) c.h1 c.v1 c.v2) (psB (crs c + 1 - c.x1) c.h1 c.v1 c.v2))) (by kernel_rfl) (fun _ => by kernel_rfl)) rfl (fun ac A125 => ?_)
          refine s_one (.bool (!(zb (psE (crs c + 1 - c.x1) c.h1 c.v1 c.v2) (psB (crs c + 1 - c.x1) c.h1 c.v1 c.v2)))) A125 S114 (g_pick_f (b := (decide (psE (crs c + 1 - c.x1) c.h1 c.v1 c.v2 ≠ 0))) (by kernel_rfl) (decide_eq_false (by first | assumption | rfl | exact zv_n zn _ | omega | (intro hh; exact hh ze2))) (by kernel_rfl)) rfl (fun ac A126 => ?_)
          refine wpList_nil ?_
          refine n_then ?_
          refine c_f (b := (!(zb (psE (crs c + 1 - c.x1) c.h1 c.v1 c.v2) (psB (crs c + 1 - c.x1) c.h1 c.v1 c.v2)))) A126 (by kernel_rfl) (b_nt ((zb_0 ze2 _).trans ps)) ?_
          refine wp_skip ?_
          refine n_then ?_
          refine wp_seq ?_
          refine wp_region_lit ?_
          refine s_one (.agg #[.int .i64 (crs c + 1 - c.x1), .int .i64 c.h1]) A126 S114 (g_load (g := g46) (off := 0) 0 (by kernel_rfl) rfl (by kernel_rfl)) rfl (fun ac A127 => ?_)
          refine s_one (.pointer (some ⟨g3, 2, none⟩)) A127 S114 (g_field (u := .pointer (some ⟨g3, 0, none⟩)) (by kernel_rfl) (fun _ => by kernel_rfl)) rfl (fun ac A128 => ?_)
          refine s_one (.int .i64 c.v1) A128 S114 (g_load (g := g3) (off := 2) 1 (by kernel_rfl) rfl (by kernel_rfl)) rfl (fun ac A129 => ?_)
          refine s_one (.pointer (some ⟨g3, 5, none⟩)) A129 S114 (g_field (u := .pointer (some ⟨g3, 0, none⟩)) (by kernel_rfl) (fun _ => by kernel_rfl)) rfl (fun ac A130 => ?_)
          refine s_one (.int .i64 c.v2) A130 S114 (g_load (g := g3) (off := 5) 1 (by kernel_rfl) rfl (by kernel_rfl)) rfl (fun ac A131 => ?_)
          refine s_call (fs := #[]) (cp := #[]) (r := [(0, .agg #[.int .i64 (crs c + 1 - c.x1), .int .i64 c.h1]), (0, .int .i64 c.v1), (0, .int .i64 c.v2)]) #[.agg #[.int .i64 (crs c + 1 - c.x1), .int .i64 c.h1], .int .i64 c.v1, .int .i64 c.v2] (.tuple #[.agg #[.int .i64 (zv (bsE (crs c + 1 - c.x1) c.h1 c.v1 c.v2) (bsN (crs c + 1 - c.x1) c.h1 c.v1 c.v2)), .int .i64 (zv (bsE (crs c + 1 - c.x1) c.h1 c.v1 c.v2) (bsD (crs c + 1 - c.x1) c.h1 c.v1 c.v2))], .int .i64 (bsE (crs c + 1 - c.x1) c.h1 c.v1 c.v2)]) A131 S114 (BehindSquare_s (crs c + 1 - c.x1) c.h1 c.v1 c.v2 _) Try.call46 (by kernel_rfl) (by kernel_rfl) (by kernel_rfl) rfl (fun ac wc A132 S133 => ?_)
          refine s_one (.tuple #[.agg #[.int .i64 (zv (bsE (crs c + 1 - c.x1) c.h1 c.v1 c.v2) (bsN (crs c + 1 - c.x1) c.h1 c.v1 c.v2)), .int .i64 (zv (bsE (crs c + 1 - c.x1) c.h1 c.v1 c.v2) (bsD (crs c + 1 - c.x1) c.h1 c.v1 c.v2))], .int .i64 (bsE (crs c + 1 - c.x1) c.h1 c.v1 c.v2)]) A132 S133 (g_move (by kernel_rfl)) rfl (fun ac A135 => ?_)
          refine s_one (.agg #[.int .i64 (zv (bsE (crs c + 1 - c.x1) c.h1 c.v1 c.v2) (bsN (crs c + 1 - c.x1) c.h1 c.v1 c.v2)), .int .i64 (zv (bsE (crs c + 1 - c.x1) c.h1 c.v1 c.v2) (bsD (crs c + 1 - c.x1) c.h1 c.v1 c.v2))]) A135 S133 (g_extract (u := .tuple #[.agg #[.int .i64 (zv (bsE (crs c + 1 - c.x1) c.h1 c.v1 c.v2) (bsN (crs c + 1 - c.x1) c.h1 c.v1 c.v2)), .int .i64 (zv (bsE (crs c + 1 - c.x1) c.h1 c.v1 c.v2) (bsD (crs c + 1 - c.x1) c.h1 c.v1 c.v2))], .int .i64 (bsE (crs c + 1 - c.x1) c.h1 c.v1 c.v2)]) (by kernel_rfl) (fun _ => by kernel_rfl)) rfl (fun ac A136 => ?_)
          refine s_one (.int .i64 (bsE (crs c + 1 - c.x1) c.h1 c.v1 c.v2)) A136 S133 (g_extract (u := .tuple #[.agg #[.int .i64 (zv (bsE (crs c + 1 - c.x1) c.h1 c.v1 c.v2) (bsN (crs c + 1 - c.x1) c.h1 c.v1 c.v2)), .int .i64 (zv (bsE (crs c + 1 - c.x1) c.h1 c.v1 c.v2) (bsD (crs c + 1 - c.x1) c.h1 c.v1 c.v2))], .int .i64 (bsE (crs c + 1 - c.x1) c.h1 c.v1 c.v2)]) (by kernel_rfl) (fun _ => by kernel_rfl)) rfl (fun ac A137 => ?_)
          refine s_alloc (#[.int .i64 0, .int .i64 0]) A137 S133 (by kernel_rfl) rfl (fun g140 ac wc A138 S139 => ?_)
          refine s_store (g := g140) (off := 0) (v := .agg #[.int .i64 (zv (bsE (crs c + 1 - c.x1) c.h1 c.v1 c.v2) (bsN (crs c + 1 - c.x1) c.h1 c.v1 c.v2)), .int .i64 (zv (bsE (crs c + 1 - c.x1) c.h1 c.v1 c.v2) (bsD (crs c + 1 - c.x1) c.h1 c.v1 c.v2))]) 0 (#[.int .i64 (zv (bsE (crs c + 1 - c.x1) c.h1 c.v1 c.v2) (bsN (crs c + 1 - c.x1) c.h1 c.v1 c.v2)), .int .i64 (zv (bsE (crs c + 1 - c.x1) c.h1 c.v1 c.v2) (bsD (crs c + 1 - c.x1) c.h1 c.v1 c.v2))]) A138 S139 (by kernel_rfl) (by kernel_rfl) rfl (by kernel_rfl) (fun wc S142 => ?_)
          refine s_one (.int .i64 (bsE (crs c + 1 - c.x1) c.h1 c.v1 c.v2)) A138 S142 (g_assign (by kernel_rfl)) rfl (fun ac A144 => ?_)
          refine wpList_nil ?_
          refine n_then ?_
          refine wp_seq ?_
          refine wp_region_lit ?_
          refine s_one (.int .i64 (bsE (crs c + 1 - c.x1) c.h1 c.v1 c.v2)) A144 S142 (g_move (by kernel_rfl)) rfl (fun ac A145 => ?_)
          refine s_one (.bool (decide (bsE (crs c + 1 - c.x1) c.h1 c.v1 c.v2 = 8))) A145 S142 (g_bin (u := .int .i64 (bsE (crs c + 1 - c.x1) c.h1 c.v1 c.v2)) (k := .int .i64 8) (by kernel_rfl) (by kernel_rfl) (fun _ => by kernel_rfl) b_eql) rfl (fun ac A146 => ?_)
          refine s_one (.bool (decide (bsE (crs c + 1 - c.x1) c.h1 c.v1 c.v2 = 8))) A146 S142 (g_move (by kernel_rfl)) rfl (fun ac A147 => ?_)
          refine by_bool (decide (bsE (crs c + 1 - c.x1) c.h1 c.v1 c.v2 = 8)) (fun h148 => ?_) (fun h148 => ?_)
          · have p149 := of_decide_eq_true h148
            refine s_not (dj := 79) (b := (decide (bsE (crs c + 1 - c.x1) c.h1 c.v1 c.v2 = 8))) A147 (by kernel_rfl) (by kernel_rfl) h148 rfl (fun ac A150 => ?_)
            refine s_not (dj := 79) (b := (decide (bsE (crs c + 1 - c.x1) c.h1 c.v1 c.v2 = 8))) A150 (by kernel_rfl) (by kernel_rfl) h148 rfl (fun ac A151 => ?_)
            refine s_not (dj := 79) (b := (decide (bsE (crs c + 1 - c.x1) c.h1 c.v1 c.v2 = 8))) A151 (by kernel_rfl) (by kernel_rfl) h148 rfl (fun ac A152 => ?_)
            refine s_notU (dj := 82) A152 (by kernel_rfl) (by kernel_rfl) rfl (fun ac A153 => ?_)
            refine s_notU (dj := 82) A153 (by kernel_rfl) (by kernel_rfl) rfl (fun ac A154 => ?_)
            refine s_notU (dj := 82) A154 (by kernel_rfl) (by kernel_rfl) rfl (fun ac A155 => ?_)
            refine s_notU (dj := 82) A155 (by kernel_rfl) (by kernel_rfl) rfl (fun ac A156 => ?_)
            refine s_notU (dj := 82) A156 (by kernel_rfl) (by kernel_rfl) rfl (fun ac A157 => ?_)
            refine s_not (dj := 79) (b := (decide (bsE (crs c + 1 - c.x1) c.h1 c.v1 c.v2 = 8))) A157 (by kernel_rfl) (by kernel_rfl) h148 rfl (fun ac A158 => ?_)
            refine s_one (.bool true) A158 S142 (g_pick_t (b := (decide (bsE (crs c + 1 - c.x1) c.h1 c.v1 c.v2 = 8))) (by kernel_rfl) h148 (by kernel_rfl)) rfl (fun ac A159 => ?_)
            refine s_one (.bool true) A159 S142 (g_assign (by kernel_rfl)) rfl (fun ac A160 => ?_)
            refine wpList_nil ?_
            refine n_then ?_
            refine wp_ret ?_
            refine fin1 (.bool true) Try.results10 A160 S142 (rv_tmp (by kernel_rfl)) ⟨?_, S142.kp⟩
            rfl
          · have p161 := of_decide_eq_false h148
            have b0 := bs_08 ze2 ps (of_decide_eq_false h148)
            have y1 := zv_0 b0 (bsN (crs c + 1 - c.x1) c.h1 c.v1 c.v2)
            have y2 := zv_0 b0 (bsD (crs c + 1 - c.x1) c.h1 c.v1 c.v2)
            refine s_want (dj := 79) (b := (decide (bsE (crs c + 1 - c.x1) c.h1 c.v1 c.v2 = 8))) A147 (by kernel_rfl) (by kernel_rfl) h148 ?_
            refine s_one (.int .i64 (bsE (crs c + 1 - c.x1) c.h1 c.v1 c.v2)) A147 S142 (g_move (by kernel_rfl)) rfl (fun ac A162 => ?_)
            refine s_want (dj := 79) (b := (decide (bsE (crs c + 1 - c.x1) c.h1 c.v1 c.v2 = 8))) A162 (by kernel_rfl) (by kernel_rfl) h148 ?_
            refine s_one (.bool (decide (bsE (crs c + 1 - c.x1) c.h1 c.v1 c.v2 = 0))) A162 S142 (g_bin (u := .int .i64 (bsE (crs c + 1 - c.x1) c.h1 c.v1 c.v2)) (k := .int .i64 0) (by kernel_rfl) (by kernel_rfl) (fun _ => by kernel_rfl) b_eql) rfl (fun ac A163 => ?_)
            refine s_want (dj := 79) (b := (decide (bsE (crs c + 1 - c.x1) c.h1 c.v1 c.v2 = 8))) A163 (by kernel_rfl) (by kernel_rfl) h148 ?_
            refine s_one (.bool (decide (bsE (crs c + 1 - c.x1) c.h1 c.v1 c.v2 = 0))) A163 S142 (g_move (by kernel_rfl)) rfl (fun ac A164 => ?_)
            refine s_want (dj := 82) (b := (decide (bsE (crs c + 1 - c.x1) c.h1 c.v1 c.v2 = 0))) A164 (by kernel_rfl) (by kernel_rfl) (decide_eq_true (by first | assumption | rfl | exact zv_n zn _ | omega | (intro hh; exact hh ze2))) ?_
            refine s_one (.pointer (some ⟨g140, 0, none⟩)) A164 S142 (g_field (u := .pointer (some ⟨g140, 0, none⟩)) (by kernel_rfl) (fun _ => by kernel_rfl)) rfl (fun ac A165 => ?_)
            refine s_want (dj := 82) (b := (decide (bsE (crs c + 1 - c.x1) c.h1 c.v1 c.v2 = 0))) A165 (by kernel_rfl) (by kernel_rfl) (decide_eq_true (by first | assumption | rfl | exact zv_n zn _ | omega | (intro hh; exact hh ze2))) ?_
            refine s_one (.int .i64 (zv (bsE (crs c + 1 - c.x1) c.h1 c.v1 c.v2) (bsN (crs c + 1 - c.x1) c.h1 c.v1 c.v2))) A165 S142 (g_load (g := g140) (off := 0) 0 (by kernel_rfl) rfl (by kernel_rfl)) rfl (fun ac A166 => ?_)
            refine s_want (dj := 82) (b := (decide (bsE (crs c + 1 - c.x1) c.h1 c.v1 c.v2 = 0))) A166 (by kernel_rfl) (by kernel_rfl) (decide_eq_true (by first | assumption | rfl | exact zv_n zn _ | omega | (intro hh; exact hh ze2))) ?_
            refine s_one (.pointer (some ⟨g140, 1, none⟩)) A166 S142 (g_field (u := .pointer (some ⟨g140, 0, none⟩)) (by kernel_rfl) (fun _ => by kernel_rfl)) rfl (fun ac A167 => ?_)
            refine s_want (dj := 82) (b := (decide (bsE (crs c + 1 - c.x1) c.h1 c.v1 c.v2 = 0))) A167 (by kernel_rfl) (by kernel_rfl) (decide_eq_true (by first | assumption | rfl | exact zv_n zn _ | omega | (intro hh; exact hh ze2))) ?_
            refine s_one (.int .i64 (zv (bsE (crs c + 1 - c.x1) c.h1 c.v1 c.v2) (bsD (crs c + 1 - c.x1) c.h1 c.v1 c.v2))) A167 S142 (g_load (g := g140) (off := 1) 0 (by kernel_rfl) rfl (by kernel_rfl)) rfl (fun ac A168 => ?_)
            refine s_want (dj := 82) (b := (decide (bsE (crs c + 1 - c.x1) c.h1 c.v1 c.v2 = 0))) A168 (by kernel_rfl) (by kernel_rfl) (decide_eq_true (by first | assumption | rfl | exact zv_n zn _ | omega | (intro hh; exact hh ze2))) ?_
            refine s_call (fs := #[]) (cp := #[]) (r := [(0, .int .i64 (zv (bsE (crs c + 1 - c.x1) c.h1 c.v1 c.v2) (bsN (crs c + 1 - c.x1) c.h1 c.v1 c.v2))), (0, .int .i64 0), (0, .int .i64 (zv (bsE (crs c + 1 - c.x1) c.h1 c.v1 c.v2) (bsD (crs c + 1 - c.x1) c.h1 c.v1 c.v2)))]) #[.int .i64 (zv (bsE (crs c + 1 - c.x1) c.h1 c.v1 c.v2) (bsN (crs c + 1 - c.x1) c.h1 c.v1 c.v2)), .int .i64 0, .int .i64 (zv (bsE (crs c + 1 - c.x1) c.h1 c.v1 c.v2) (bsD (crs c + 1 - c.x1) c.h1 c.v1 c.v2))] (.bool (inB (zv (bsE (crs c + 1 - c.x1) c.h1 c.v1 c.v2) (bsN (crs c + 1 - c.x1) c.h1 c.v1 c.v2)) 0 (zv (bsE (crs c + 1 - c.x1) c.h1 c.v1 c.v2) (bsD (crs c + 1 - c.x1) c.h1 c.v1 c.v2)))) A168 S142 (Within_s (zv (bsE (crs c + 1 - c.x1) c.h1 c.v1 c.v2) (bsN (crs c + 1 - c.x1) c.h1 c.v1 c.v2)) 0 (zv (bsE (crs c + 1 - c.x1) c.h1 c.v1 c.v2) (bsD (crs c + 1 - c.x1) c.h1 c.v1 c.v2)) _) Try.call26 (by kernel_rfl) (by kernel_rfl) (by kernel_rfl) rfl (fun ac wc A169 S170 => ?_)
            refine s_want (dj := 79) (b := (decide (bsE (crs c + 1 - c.x1) c.h1 c.v1 c.v2 = 8))) A169 (by kernel_rfl) (by kernel_rfl) h148 ?_
            refine s_one (.bool (inB (zv (bsE (crs c + 1 - c.x1) c.h1 c.v1 c.v2) (bsN (crs c + 1 - c.x1) c.h1 c.v1 c.v2)) 0 (zv (bsE (crs c + 1 - c.x1) c.h1 c.v1 c.v2) (bsD (crs c + 1 - c.x1) c.h1 c.v1 c.v2)))) A169 S170 (g_pick_t (b := (decide (bsE (crs c + 1 - c.x1) c.h1 c.v1 c.v2 = 0))) (by kernel_rfl) (decide_eq_true (by first | assumption | rfl | exact zv_n zn _ | omega | (intro hh; exact hh ze2))) (by kernel_rfl)) rfl (fun ac A172 => ?_)
            refine s_one (.bool (inB (zv (bsE (crs c + 1 - c.x1) c.h1 c.v1 c.v2) (bsN (crs c + 1 - c.x1) c.h1 c.v1 c.v2)) 0 (zv (bsE (crs c + 1 - c.x1) c.h1 c.v1 c.v2) (bsD (crs c + 1 - c.x1) c.h1 c.v1 c.v2)))) A172 S170 (g_pick_f (b := (decide (bsE (crs c + 1 - c.x1) c.h1 c.v1 c.v2 = 8))) (by kernel_rfl) h148 (by kernel_rfl)) rfl (fun ac A173 => ?_)
            refine s_one (.bool (inB (zv (bsE (crs c + 1 - c.x1) c.h1 c.v1 c.v2) (bsN (crs c + 1 - c.x1) c.h1 c.v1 c.v2)) 0 (zv (bsE (crs c + 1 - c.x1) c.h1 c.v1 c.v2) (bsD (crs c + 1 - c.x1) c.h1 c.v1 c.v2)))) A173 S170 (g_assign (by kernel_rfl)) rfl (fun ac A174 => ?_)
            refine wpList_nil ?_
            refine n_then ?_
            refine wp_ret ?_
            refine fin1 (.bool (inB (zv (bsE (crs c + 1 - c.x1) c.h1 c.v1 c.v2) (bsN (crs c + 1 - c.x1) c.h1 c.v1 c.v2)) 0 (zv (bsE (crs c + 1 - c.x1) c.h1 c.v1 c.v2) (bsD (crs c + 1 - c.x1) c.h1 c.v1 c.v2)))) Try.results10 A174 S170 (rv_tmp (by kernel_rfl)) ⟨?_, S170.kp⟩
            exact congrArg (fun b => Ending.returned (Value.bool b)) (inB_true.2 (by omega))
    · have p175 := of_decide_eq_false h32
      refine wp_skip ?_
      refine n_then ?_
      refine wp_seq ?_
      refine wp_region_lit ?_
      refine s_one (.int .i64 (crs c)) A31 S12 (g_move (by kernel_rfl)) rfl (fun ac A176 => ?_)
      refine s_one (.pointer (some ⟨g3, 0, none⟩)) A176 S12 (g_field (u := .pointer (some ⟨g3, 0, none⟩)) (by kernel_rfl) (fun _ => by kernel_rfl)) rfl (fun ac A177 => ?_)
      refine s_one (.int .i64 c.x1) A177 S12 (g_load (g := g3) (off := 0) 0 (by kernel_rfl) rfl (by kernel_rfl)) rfl (fun ac A178 => ?_)
      refine s_one (.int .i64 (crs c - c.x1)) A178 S12 (g_bin (u := .int .i64 (crs c)) (k := .int .i64 c.x1) (by kernel_rfl) (by kernel_rfl) (fun _ => by kernel_rfl) (b_sub (by omega))) rfl (fun ac A179 => ?_)
      refine s_one (.pointer (some ⟨g3, 1, none⟩)) A179 S12 (g_field (u := .pointer (some ⟨g3, 0, none⟩)) (by kernel_rfl) (fun _ => by kernel_rfl)) rfl (fun ac A180 => ?_)
      refine s_one (.int .i64 c.h1) A180 S12 (g_load (g := g3) (off := 1) 0 (by kernel_rfl) rfl (by kernel_rfl)) rfl (fun ac A181 => ?_)
      refine s_one (.agg #[.int .i64 (crs c - c.x1), .int .i64 c.h1]) A181 S12 (g_build (r := [(0, .int .i64 (crs c - c.x1)), (1, .int .i64 c.h1)]) (by kernel_rfl) (fun _ => by kernel_rfl)) rfl (fun ac A182 => ?_)
      refine s_alloc (#[.int .i64 0, .int .i64 0]) A182 S12 (by kernel_rfl) rfl (fun g185 ac wc A183 S184 => ?_)
      refine s_store (g := g185) (off := 0) (v := .agg #[.int .i64 (crs c - c.x1), .int .i64 c.h1]) 0 (#[.int .i64 (crs c - c.x1), .int .i64 c.h1]) A183 S184 (by kernel_rfl) (by kernel_rfl) rfl (by kernel_rfl) (fun wc S187 => ?_)
      refine wpList_nil ?_
      refine n_then ?_
      refine wp_seq ?_
      refine wp_seq ?_
      refine c_cut (fun ac wc => Fr 90 ac [(52, .bool ((!(inB (crs c - c.x1) (-1000) 1000)) || ((decide (c.h1 > 1000)) || (decide (crs c > mx c.x1 c.x2))))), (0, .agg #[.int .i64 c.x1, .int .i64 c.h1, .int .i64 c.v1, .int .i64 c.x2, .int .i64 c.h2, .int .i64 c.v2]), (1, .pointer (some ⟨g3, 0, none⟩)), (2, .bool false), (10, .bool true), (11, .bool false), (13, .agg #[.int .i64 c.x1, .int .i64 c.h1, .int .i64 c.v1, .int .i64 c.x2, .int .i64 c.h2, .int .i64 c.v2]), (14, .tuple #[.int .i64 (crs c), .int .i64 (crE c)]), (12, .tuple #[.int .i64 (crs c), .int .i64 (crE c)]), (15, .int .i64 (crs c)), (16, .int .i64 (crE c)), (3, .int .i64 (crs c)), (4, .int .i64 (crE c)), (17, .int .i64 (crE c)), (18, .bool (decide (crE c ≠ 0))), (21, .pointer (some ⟨g3, 3, none⟩)), (22, .int .i64 c.x2), (23, .pointer (some ⟨g3, 0, none⟩)), (24, .int .i64 c.x1), (25, .bool (decide (c.x2 < c.x1))), (28, .int .i64 (crs c)), (29, .pointer (some ⟨g3, 0, none⟩)), (30, .int .i64 c.x1), (31, .int .i64 (crs c - c.x1)), (32, .pointer (some ⟨g3, 1, none⟩)), (33, .int .i64 c.h1), (34, .agg #[.int .i64 (crs c - c.x1), .int .i64 c.h1]), (5, .pointer (some ⟨g185, 0, none⟩))] ∧ St w0 [⟨g185, 71, #[.int .i64 (crs c - c.x1), .int .i64 c.h1], true⟩, ⟨g3, 23, #[.int .i64 c.x1, .int .i64 c.h1, .int .i64 c.v1, .int .i64 c.x2, .int .i64 c.h2, .int .i64 c.v2], true⟩] [] wc) ?_ ?_
      · refine wp_region_lit ?_
        refine s_one (.pointer (some ⟨g185, 0, none⟩)) A183 S187 (g_index (u := .pointer (some ⟨g185, 0, none⟩)) (k := .int .i64 0) (by kernel_rfl) (by kernel_rfl) (fun _ => by kernel_rfl)) rfl (fun ac A189 => ?_)
        refine s_one (.int .i64 (crs c - c.x1)) A189 S187 (g_load (g := g185) (off := 0) 0 (by kernel_rfl) rfl (by kernel_rfl)) rfl (fun ac A190 => ?_)
        refine s_call (fs := #[]) (cp := #[]) (r := [(0, .int .i64 (crs c - c.x1)), (0, .int .i64 (-1000)), (0, .int .i64 1000)]) #[.int .i64 (crs c - c.x1), .int .i64 (-1000), .int .i64 1000] (.bool (inB (crs c - c.x1) (-1000) 1000)) A190 S187 (Within_s (crs c - c.x1) (-1000) 1000 _) Try.call26 (by kernel_rfl) (by kernel_rfl) (by kernel_rfl) rfl (fun ac wc A191 S192 => ?_)
        refine s_one (.bool (!(inB (crs c - c.x1) (-1000) 1000))) A191 S192 (g_un (u := .bool (inB (crs c - c.x1) (-1000) 1000)) (by kernel_rfl) (fun _ => by kernel_rfl)) rfl (fun ac A194 => ?_)
        refine s_one (.bool (!(inB (crs c - c.x1) (-1000) 1000))) A194 S192 (g_move (by kernel_rfl)) rfl (fun ac A195 => ?_)
        refine by_bool (!(inB (crs c - c.x1) (-1000) 1000)) (fun h196 => ?_) (fun h196 => ?_)
        · have h197 : inB (crs c - c.x1) (-1000) 1000 = false := by simpa using h196
          refine s_not (dj := 39) (b := (!(inB (crs c - c.x1) (-1000) 1000))) A195 (by kernel_rfl) (by kernel_rfl) h196 rfl (fun ac A198 => ?_)
          refine s_not (dj := 39) (b := (!(inB (crs c - c.x1) (-1000) 1000))) A198 (by kernel_rfl) (by kernel_rfl) h196 rfl (fun ac A199 => ?_)
          refine s_not (dj := 39) (b := (!(inB (crs c - c.x1) (-1000) 1000))) A199 (by kernel_rfl) (by kernel_rfl) h196 rfl (fun ac A200 => ?_)
          refine s_one (.bool true) A200 S192 (g_pick_t (b := (!(inB (crs c - c.x1) (-1000) 1000))) (by kernel_rfl) h196 (by kernel_rfl)) rfl (fun ac A201 => ?_)
          refine s_one (.bool true) A201 S192 (g_move (by kernel_rfl)) rfl (fun ac A202 => ?_)
          refine s_not (dj := 44) (b := true) A202 (by kernel_rfl) (by kernel_rfl) rfl rfl (fun ac A203 => ?_)
          refine s_not (dj := 44) (b := true) A203 (by kernel_rfl) (by kernel_rfl) rfl rfl (fun ac A204 => ?_)
          refine s_not (dj := 44) (b := true) A204 (by kernel_rfl) (by kernel_rfl) rfl rfl (fun ac A205 => ?_)
          refine s_not (dj := 44) (b := true) A205 (by kernel_rfl) (by kernel_rfl) rfl rfl (fun ac A206 => ?_)
          refine s_not (dj := 44) (b := true) A206 (by kernel_rfl) (by kernel_rfl) rfl rfl (fun ac A207 => ?_)
          refine s_not (dj := 44) (b := true) A207 (by kernel_rfl) (by kernel_rfl) rfl rfl (fun ac A208 => ?_)
          refine s_not (dj := 44) (b := true) A208 (by kernel_rfl) (by kernel_rfl) rfl rfl (fun ac A209 => ?_)
          refine s_one (.bool true) A209 S192 (g_pick_t (b := true) (by kernel_rfl) rfl (by kernel_rfl)) rfl (fun ac A210 => ?_)
          refine wpList_nil ?_
          refine n_then ?_
          exact ⟨(A210.slot (A210.slot (A210.slot (A210.slot (A210.slot (A210.slot (A210.slot (A210.slot (A210.slot (A210.slot (A210.slot (A210.slot (A210.slot (A210.slot (A210.slot (A210.slot (A210.slot (A210.slot (A210.slot (A210.slot (A210.slot (A210.slot (A210.slot (A210.slot (A210.slot (A210.slot (A210.slot (A210.slot A210.nil (v := .pointer (some ⟨g185, 0, none⟩)) (by kernel_rfl) rfl) (v := .agg #[.int .i64 (crs c - c.x1), .int .i64 c.h1]) (by kernel_rfl) rfl) (v := .int .i64 c.h1) (by kernel_rfl) rfl) (v := .pointer (some ⟨g3, 1, none⟩)) (by kernel_rfl) rfl) (v := .int .i64 (crs c - c.x1)) (by kernel_rfl) rfl) (v := .int .i64 c.x1) (by kernel_rfl) rfl) (v := .pointer (some ⟨g3, 0, none⟩)) (by kernel_rfl) rfl) (v := .int .i64 (crs c)) (by kernel_rfl) rfl) (v := .bool (decide (c.x2 < c.x1))) (by kernel_rfl) rfl) (v := .int .i64 c.x1) (by kernel_rfl) rfl) (v := .pointer (some ⟨g3, 0, none⟩)) (by kernel_rfl) rfl) (v := .int .i64 c.x2) (by kernel_rfl) rfl) (v := .pointer (some ⟨g3, 3, none⟩)) (by kernel_rfl) rfl) (v := .bool (decide (crE c ≠ 0))) (by kernel_rfl) rfl) (v := .int .i64 (crE c)) (by kernel_rfl) rfl) (v := .int .i64 (crE c)) (by kernel_rfl) rfl) (v := .int .i64 (crs c)) (by kernel_rfl) rfl) (v := .int .i64 (crE c)) (by kernel_rfl) rfl) (v := .int .i64 (crs c)) (by kernel_rfl) rfl) (v := .tuple #[.int .i64 (crs c), .int .i64 (crE c)]) (by kernel_rfl) rfl) (v := .tuple #[.int .i64 (crs c), .int .i64 (crE c)]) (by kernel_rfl) rfl) (v := .agg #[.int .i64 c.x1, .int .i64 c.h1, .int .i64 c.v1, .int .i64 c.x2, .int .i64 c.h2, .int .i64 c.v2]) (by kernel_rfl) rfl) (v := .bool false) (by kernel_rfl) rfl) (v := .bool true) (by kernel_rfl) rfl) (v := .bool false) (by kernel_rfl) rfl) (v := .pointer (some ⟨g3, 0, none⟩)) (by kernel_rfl) rfl) (v := .agg #[.int .i64 c.x1, .int .i64 c.h1, .int .i64 c.v1, .int .i64 c.x2, .int .i64 c.h2, .int .i64 c.v2]) (by kernel_rfl) rfl) (v := .bool true) (by kernel_rfl) (congrArg Value.bool (b_ot1 h196).symm)), S192.sub sub_all sub_all⟩
        · have h211 : inB (crs c - c.x1) (-1000) 1000 = true := by simpa using h196
          refine s_want (dj := 39) (b := (!(inB (crs c - c.x1) (-1000) 1000))) A195 (by kernel_rfl) (by kernel_rfl) h196 ?_
          refine s_one (.pointer (some ⟨g185, 1, none⟩)) A195 S192 (g_index (u := .pointer (some ⟨g185, 0, none⟩)) (k := .int .i64 1) (by kernel_rfl) (by kernel_rfl) (fun _ => by kernel_rfl)) rfl (fun ac A212 => ?_)
          refine s_want (dj := 39) (b := (!(inB (crs c - c.x1) (-1000) 1000))) A212 (by kernel_rfl) (by kernel_rfl) h196 ?_
          refine s_one (.int .i64 c.h1) A212 S192 (g_load (g := g185) (off := 1) 0 (by kernel_rfl) rfl (by kernel_rfl)) rfl (fun ac A213 => ?_)
          refine s_want (dj := 39) (b := (!(inB (crs c - c.x1) (-1000) 1000))) A213 (by kernel_rfl) (by kernel_rfl) h196 ?_
          refine s_one (.bool (decide (c.h1 > 1000))) A213 S192 (g_bin (u := .int .i64 c.h1) (k := .int .i64 1000) (by kernel_rfl) (by kernel_rfl) (fun _ => by kernel_rfl) (fun _ => by kernel_rfl)) rfl (fun ac A214 => ?_)
          refine s_one (.bool (decide (c.h1 > 1000))) A214 S192 (g_pick_f (b := (!(inB (crs c - c.x1) (-1000) 1000))) (by kernel_rfl) h196 (by kernel_rfl)) rfl (fun ac A215 => ?_)
          refine s_one (.bool (decide (c.h1 > 1000))) A215 S192 (g_move (by kernel_rfl)) rfl (fun ac A216 => ?_)
          refine by_bool (decide (c.h1 > 1000)) (fun h217 => ?_) (fun h217 => ?_)
          · have p218 := of_decide_eq_true h217
            refine s_not (dj := 44) (b := (decide (c.h1 > 1000))) A216 (by kernel_rfl) (by kernel_rfl) h217 rfl (fun ac A219 => ?_)
            refine s_not (dj := 44) (b := (decide (c.h1 > 1000))) A219 (by kernel_rfl) (by kernel_rfl) h217 rfl (fun ac A220 => ?_)
            refine s_not (dj := 44) (b := (decide (c.h1 > 1000))) A220 (by kernel_rfl) (by kernel_rfl) h217 rfl (fun ac A221 => ?_)
            refine s_not (dj := 44) (b := (decide (c.h1 > 1000))) A221 (by kernel_rfl) (by kernel_rfl) h217 rfl (fun ac A222 => ?_)
            refine s_not (dj := 44) (b := (decide (c.h1 > 1000))) A222 (by kernel_rfl) (by kernel_rfl) h217 rfl (fun ac A223 => ?_)
            refine s_not (dj := 44) (b := (decide (c.h1 > 1000))) A223 (by kernel_rfl) (by kernel_rfl) h217 rfl (fun ac A224 => ?_)
            refine s_not (dj := 44) (b := (decide (c.h1 > 1000))) A224 (by kernel_rfl) (by kernel_rfl) h217 rfl (fun ac A225 => ?_)
            refine s_one (.bool true) A225 S192 (g_pick_t (b := (decide (c.h1 > 1000))) (by kernel_rfl) h217 (by kernel_rfl)) rfl (fun ac A226 => ?_)
            refine wpList_nil ?_
            refine n_then ?_
            exact ⟨(A226.slot (A226.slot (A226.slot (A226.slot (A226.slot (A226.slot (A226.slot (A226.slot (A226.slot (A226.slot (A226.slot (A226.slot (A226.slot (A226.slot (A226.slot (A226.slot (A226.slot (A226.slot (A226.slot (A226.slot (A226.slot (A226.slot (A226.slot (A226.slot (A226.slot (A226.slot (A226.slot (A226.slot A226.nil (v := .pointer (some ⟨g185, 0, none⟩)) (by kernel_rfl) rfl) (v := .agg #[.int .i64 (crs c - c.x1), .int .i64 c.h1]) (by kernel_rfl) rfl) (v := .int .i64 c.h1) (by kernel_rfl) rfl) (v := .pointer (some ⟨g3, 1, none⟩)) (by kernel_rfl) rfl) (v := .int .i64 (crs c - c.x1)) (by kernel_rfl) rfl) (v := .int .i64 c.x1) (by kernel_rfl) rfl) (v := .pointer (some ⟨g3, 0, none⟩)) (by kernel_rfl) rfl) (v := .int .i64 (crs c)) (by kernel_rfl) rfl) (v := .bool (decide (c.x2 < c.x1))) (by kernel_rfl) rfl) (v := .int .i64 c.x1) (by kernel_rfl) rfl) (v := .pointer (some ⟨g3, 0, none⟩)) (by kernel_rfl) rfl) (v := .int .i64 c.x2) (by kernel_rfl) rfl) (v := .pointer (some ⟨g3, 3, none⟩)) (by kernel_rfl) rfl) (v := .bool (decide (crE c ≠ 0))) (by kernel_rfl) rfl) (v := .int .i64 (crE c)) (by kernel_rfl) rfl) (v := .int .i64 (crE c)) (by kernel_rfl) rfl) (v := .int .i64 (crs c)) (by kernel_rfl) rfl) (v := .int .i64 (crE c)) (by kernel_rfl) rfl) (v := .int .i64 (crs c)) (by kernel_rfl) rfl) (v := .tuple #[.int .i64 (crs c), .int .i64 (crE c)]) (by kernel_rfl) rfl) (v := .tuple #[.int .i64 (crs c), .int .i64 (crE c)]) (by kernel_rfl) rfl) (v := .agg #[.int .i64 c.x1, .int .i64 c.h1, .int .i64 c.v1, .int .i64 c.x2, .int .i64 c.h2, .int .i64 c.v2]) (by kernel_rfl) rfl) (v := .bool false) (by kernel_rfl) rfl) (v := .bool true) (by kernel_rfl) rfl) (v := .bool false) (by kernel_rfl) rfl) (v := .pointer (some ⟨g3, 0, none⟩)) (by kernel_rfl) rfl) (v := .agg #[.int .i64 c.x1, .int .i64 c.h1, .int .i64 c.v1, .int .i64 c.x2, .int .i64 c.h2, .int .i64 c.v2]) (by kernel_rfl) rfl) (v := .bool true) (by kernel_rfl) (congrArg Value.bool (b_ot2 (b_ot1 h217)).symm)), S192.sub sub_all sub_all⟩
          · have p227 := of_decide_eq_false h217
            refine s_want (dj := 44) (b := (decide (c.h1 > 1000))) A216 (by kernel_rfl) (by kernel_rfl) h217 ?_
            refine s_one (.int .i64 (crs c)) A216 S192 (g_move (by kernel_rfl)) rfl (fun ac A228 => ?_)
            refine s_want (dj := 44) (b := (decide (c.h1 > 1000))) A228 (by kernel_rfl) (by kernel_rfl) h217 ?_
            refine s_one (.pointer (some ⟨g3, 0, none⟩)) A228 S192 (g_field (u := .pointer (some ⟨g3, 0, none⟩)) (by kernel_rfl) (fun _ => by kernel_rfl)) rfl (fun ac A229 => ?_)
            refine s_want (dj := 44) (b := (decide (c.h1 > 1000))) A229 (by kernel_rfl) (by kernel_rfl) h217 ?_
            refine s_one (.int .i64 c.x1) A229 S192 (g_load (g := g3) (off := 0) 1 (by kernel_rfl) rfl (by kernel_rfl)) rfl (fun ac A230 => ?_)
            refine s_want (dj := 44) (b := (decide (c.h1 > 1000))) A230 (by kernel_rfl) (by kernel_rfl) h217 ?_
            refine s_one (.pointer (some ⟨g3, 3, none⟩)) A230 S192 (g_field (u := .pointer (some ⟨g3, 0, none⟩)) (by kernel_rfl) (fun _ => by kernel_rfl)) rfl (fun ac A231 => ?_)
            refine s_want (dj := 44) (b := (decide (c.h1 > 1000))) A231 (by kernel_rfl) (by kernel_rfl) h217 ?_
            refine s_one (.int .i64 c.x2) A231 S192 (g_load (g := g3) (off := 3) 1 (by kernel_rfl) rfl (by kernel_rfl)) rfl (fun ac A232 => ?_)
            refine s_want (dj := 44) (b := (decide (c.h1 > 1000))) A232 (by kernel_rfl) (by kernel_rfl) h217 ?_
            refine s_one (.int .i64 (mx c.x1 c.x2)) A232 S192 (g_built (r := [(0, .int .i64 c.x1), (0, .int .i64 c.x2)]) (by kernel_rfl) (fun ty cs w => by show (do let x ← Builtin.max_ _ ty #[.int .i64 c.x1, .int .i64 c.x2]; pure (Next.value x) : Sem Next).run _ w = _; rw [Sem.run_bind, run_max_mx]; rfl)) rfl (fun ac A233 => ?_)
            refine s_want (dj := 44) (b := (decide (c.h1 > 1000))) A233 (by kernel_rfl) (by kernel_rfl) h217 ?_
            refine s_one (.bool (decide (crs c > mx c.x1 c.x2))) A233 S192 (g_bin (u := .int .i64 (crs c)) (k := .int .i64 (mx c.x1 c.x2)) (by kernel_rfl) (by kernel_rfl) (fun _ => by kernel_rfl) (fun _ => by kernel_rfl)) rfl (fun ac A234 => ?_)
            refine s_one (.bool (decide (crs c > mx c.x1 c.x2))) A234 S192 (g_pick_f (b := (decide (c.h1 > 1000))) (by kernel_rfl) h217 (by kernel_rfl)) rfl (fun ac A235 => ?_)
            refine wpList_nil ?_
            refine n_then ?_
            exact ⟨(A235.slot (A235.slot (A235.slot (A235.slot (A235.slot (A235.slot (A235.slot (A235.slot (A235.slot (A235.slot (A235.slot (A235.slot (A235.slot (A235.slot (A235.slot (A235.slot (A235.slot (A235.slot (A235.slot (A235.slot (A235.slot (A235.slot (A235.slot (A235.slot (A235.slot (A235.slot (A235.slot (A235.slot A235.nil (v := .pointer (some ⟨g185, 0, none⟩)) (by kernel_rfl) rfl) (v := .agg #[.int .i64 (crs c - c.x1), .int .i64 c.h1]) (by kernel_rfl) rfl) (v := .int .i64 c.h1) (by kernel_rfl) rfl) (v := .pointer (some ⟨g3, 1, none⟩)) (by kernel_rfl) rfl) (v := .int .i64 (crs c - c.x1)) (by kernel_rfl) rfl) (v := .int .i64 c.x1) (by kernel_rfl) rfl) (v := .pointer (some ⟨g3, 0, none⟩)) (by kernel_rfl) rfl) (v := .int .i64 (crs c)) (by kernel_rfl) rfl) (v := .bool (decide (c.x2 < c.x1))) (by kernel_rfl) rfl) (v := .int .i64 c.x1) (by kernel_rfl) rfl) (v := .pointer (some ⟨g3, 0, none⟩)) (by kernel_rfl) rfl) (v := .int .i64 c.x2) (by kernel_rfl) rfl) (v := .pointer (some ⟨g3, 3, none⟩)) (by kernel_rfl) rfl) (v := .bool (decide (crE c ≠ 0))) (by kernel_rfl) rfl) (v := .int .i64 (crE c)) (by kernel_rfl) rfl) (v := .int .i64 (crE c)) (by kernel_rfl) rfl) (v := .int .i64 (crs c)) (by kernel_rfl) rfl) (v := .int .i64 (crE c)) (by kernel_rfl) rfl) (v := .int .i64 (crs c)) (by kernel_rfl) rfl) (v := .tuple #[.int .i64 (crs c), .int .i64 (crE c)]) (by kernel_rfl) rfl) (v := .tuple #[.int .i64 (crs c), .int .i64 (crE c)]) (by kernel_rfl) rfl) (v := .agg #[.int .i64 c.x1, .int .i64 c.h1, .int .i64 c.v1, .int .i64 c.x2, .int .i64 c.h2, .int .i64 c.v2]) (by kernel_rfl) rfl) (v := .bool false) (by kernel_rfl) rfl) (v := .bool true) (by kernel_rfl) rfl) (v := .bool false) (by kernel_rfl) rfl) (v := .pointer (some ⟨g3, 0, none⟩)) (by kernel_rfl) rfl) (v := .agg #[.int .i64 c.x1, .int .i64 c.h1, .int .i64 c.v1, .int .i64 c.x2, .int .i64 c.h2, .int .i64 c.v2]) (by kernel_rfl) rfl) (v := .bool (decide (crs c > mx c.x1 c.x2))) (by kernel_rfl) (congrArg Value.bool (b_or_f h196 (b_or_f h217 (Eq.refl (decide (crs c > mx c.x1 c.x2))))).symm)), S192.sub sub_all sub_all⟩
      · rintro ac wc ⟨A236, S237⟩
        refine n_then ?_
        refine c_ifb (b := ((!(inB (crs c - c.x1) (-1000) 1000)) || ((decide (c.h1 > 1000)) || (decide (crs c > mx c.x1 c.x2))))) A236 (by kernel_rfl) (fun h238 => ?_) (fun h238 => ?_)
        · refine wp_seq ?_
          refine wp_region_lit ?_
          refine s_one (.bool true) A236 S237 (g_assign (by kernel_rfl)) rfl (fun ac A239 => ?_)
          refine wpList_nil ?_
          refine n_then ?_
          refine wp_ret ?_
          refine r_then ?_
          refine fin1 (.bool true) Try.results10 A239 S237 (rv_tmp (by kernel_rfl)) ⟨?_, S237.kp⟩
          rfl
        · have h240 := (Bool.or_eq_false_iff.1 h238).1
          have h241 : inB (crs c - c.x1) (-1000) 1000 = true := by simpa using h240
          have h242 := (Bool.or_eq_false_iff.1 h238).2
          have h243 := (Bool.or_eq_false_iff.1 h242).1
          have p244 := of_decide_eq_false h243
          have h245 := (Bool.or_eq_false_iff.1 h242).2
          have p246 := of_decide_eq_false h245
          have mxe := mx_eq c.x1 c.x2
          have dz : dirE (crs c - c.x1) c.h1 = 0 := dirE_y h241 (inB_true.2 (by omega))
          have ze2 : psE (crs c - c.x1) c.h1 c.v1 c.v2 = 0 := psE_of dz (veE_y (inB_true.2 ok.v1)) (veE_y (inB_true.2 ok.v2))
          have ps := pass_up ok (p := crs c) (by omega) ks
          have bb := bs_bd ze2
          have bl := bs_le ze2 ps
          refine wp_skip ?_
          refine n_then ?_
          refine wp_seq ?_
          refine wp_region_lit ?_
          refine s_one (.agg #[.int .i64 (crs c - c.x1), .int .i64 c.h1]) A236 S237 (g_load (g := g185) (off := 0) 0 (by kernel_rfl) rfl (by kernel_rfl)) rfl (fun ac A247 => ?_)
          refine s_one (.pointer (some ⟨g3, 2, none⟩)) A247 S237 (g_field (u := .pointer (some ⟨g3, 0, none⟩)) (by kernel_rfl) (fun _ => by kernel_rfl)) rfl (fun ac A248 => ?_)
          refine s_one (.int .i64 c.v1) A248 S237 (g_load (g := g3) (off := 2) 1 (by kernel_rfl) rfl (by kernel_rfl)) rfl (fun ac A249 => ?_)
          refine s_one (.pointer (some ⟨g3, 5, none⟩)) A249 S237 (g_field (u := .pointer (some ⟨g3, 0, none⟩)) (by kernel_rfl) (fun _ => by kernel_rfl)) rfl (fun ac A250 => ?_)
          refine s_one (.int .i64 c.v2) A250 S237 (g_load (g := g3) (off := 5) 1 (by kernel_rfl) rfl (by kernel_rfl)) rfl (fun ac A251 => ?_)
          refine s_call (fs := #[]) (cp := #[]) (r := [(0, .agg #[.int .i64 (crs c - c.x1), .int .i64 c.h1]), (0, .int .i64 c.v1), (0, .int .i64 c.v2)]) #[.agg #[.int .i64 (crs c - c.x1), .int .i64 c.h1], .int .i64 c.v1, .int .i64 c.v2] (.tuple #[.bool (zb (psE (crs c - c.x1) c.h1 c.v1 c.v2) (psB (crs c - c.x1) c.h1 c.v1 c.v2)), .int .i64 (psE (crs c - c.x1) c.h1 c.v1 c.v2)]) A251 S237 (Passes_s (crs c - c.x1) c.h1 c.v1 c.v2 _) Try.call45 (by kernel_rfl) (by kernel_rfl) (by kernel_rfl) rfl (fun ac wc A252 S253 => ?_)
          refine s_one (.tuple #[.bool (zb (psE (crs c - c.x1) c.h1 c.v1 c.v2) (psB (crs c - c.x1) c.h1 c.v1 c.v2)), .int .i64 (psE (crs c - c.x1) c.h1 c.v1 c.v2)]) A252 S253 (g_move (by kernel_rfl)) rfl (fun ac A255 => ?_)
          refine s_one (.bool (zb (psE (crs c - c.x1) c.h1 c.v1 c.v2) (psB (crs c - c.x1) c.h1 c.v1 c.v2))) A255 S253 (g_extract (u := .tuple #[.bool (zb (psE (crs c - c.x1) c.h1 c.v1 c.v2) (psB (crs c - c.x1) c.h1 c.v1 c.v2)), .int .i64 (psE (crs c - c.x1) c.h1 c.v1 c.v2)]) (by kernel_rfl) (fun _ => by kernel_rfl)) rfl (fun ac A256 => ?_)
          refine s_one (.int .i64 (psE (crs c - c.x1) c.h1 c.v1 c.v2)) A256 S253 (g_extract (u := .tuple #[.bool (zb (psE (crs c - c.x1) c.h1 c.v1 c.v2) (psB (crs c - c.x1) c.h1 c.v1 c.v2)), .int .i64 (psE (crs c - c.x1) c.h1 c.v1 c.v2)]) (by kernel_rfl) (fun _ => by kernel_rfl)) rfl (fun ac A257 => ?_)
          refine s_one (.bool (zb (psE (crs c - c.x1) c.h1 c.v1 c.v2) (psB (crs c - c.x1) c.h1 c.v1 c.v2))) A257 S253 (g_assign (by kernel_rfl)) rfl (fun ac A258 => ?_)
          refine s_one (.int .i64 (psE (crs c - c.x1) c.h1 c.v1 c.v2)) A258 S253 (g_assign (by kernel_rfl)) rfl (fun ac A259 => ?_)
          refine wpList_nil ?_
          refine n_then ?_
          refine wp_seq ?_
          refine wp_seq ?_
          refine wp_region_lit ?_
          refine s_one (.int .i64 (psE (crs c - c.x1) c.h1 c.v1 c.v2)) A259 S253 (g_move (by kernel_rfl)) rfl (fun ac A260 => ?_)
          refine s_one (.bool (decide (psE (crs c - c.x1) c.h1 c.v1 c.v2 ≠ 0))) A260 S253 (g_bin (u := .int .i64 (psE (crs c - c.x1) c.h1 c.v1 c.v2)) (k := .int .i64 0) (by kernel_rfl) (by kernel_rfl) (fun _ => by kernel_rfl) b_neq) rfl (fun ac A261 => ?_)
          refine s_one (.bool (decide (psE (crs c - c.x1) c.h1 c.v1 c.v2 ≠ 0))) A261 S253 (g_move (by kernel_rfl)) rfl (fun ac A262 => ?_)
          refine s_want (dj := 64) (b := (decide (psE (crs c - c.x1) c.h1 c.v1 c.v2 ≠ 0))) A262 (by kernel_rfl) (by kernel_rfl) (decide_eq_false (by first | assumption | rfl | exact zv_n zn _ | omega | (intro hh; exact hh ze2))) ?_
          refine s_one (.bool (zb (psE (crs c - c.x1) c.h1 c.v1 c.v2) (psB (crs c - c.x1) c.h1 c.v1 c.v2))) A262 S253 (g_move (by kernel_rfl)) rfl (fun ac A263 => ?_)
          refine s_want (dj := 64) (b := (decide (psE (crs c - c.x1) c.h1 c.v1 c.v2 ≠ 0))) A263 (by kernel_rfl) (by kernel_rfl) (decide_eq_false (by first | assumption | rfl | exact zv_n zn _ | omega | (intro hh; exact hh ze2))) ?_
          refine s_one (.bool (!(zb (psE (crs c - c.x1) c.h1 c.v1 c.v2) (psB (crs c - c.x1) c.h1 c.v1 c.v2)))) A263 S253 (g_un (u := .bool (zb (psE (crs c - c.x1) c.h1 c.v1 c.v2) (psB (crs c - c.x1) c.h1 c.v1 c.v2))) (by kernel_rfl) (fun _ => by kernel_rfl)) rfl (fun ac A264 => ?_)
          refine s_one (.bool (!(zb (psE (crs c - c.x1) c.h1 c.v1 c.v2) (psB (crs c - c.x1) c.h1 c.v1 c.v2)))) A264 S253 (g_pick_f (b := (decide (psE (crs c - c.x1) c.h1 c.v1 c.v2 ≠ 0))) (by kernel_rfl) (decide_eq_false (by first | assumption | rfl | exact zv_n zn _ | omega | (intro hh; exact hh ze2))) (by kernel_rfl)) rfl (fun ac A265 => ?_)
          refine wpList_nil ?_
          refine n_then ?_
          refine c_f (b := (!(zb (psE (crs c - c.x1) c.h1 c.v1 c.v2) (psB (crs c - c.x1) c.h1 c.v1 c.v2)))) A265 (by kernel_rfl) (b_nt ((zb_0 ze2 _).trans ps)) ?_
          refine wp_skip ?_
          refine n_then ?_
          refine wp_seq ?_
          refine wp_region_lit ?_
          refine s_one (.agg #[.int .i64 (crs c - c.x1), .int .i64 c.h1]) A265 S253 (g_load (g := g185) (off := 0) 0 (by kernel_rfl) rfl (by kernel_rfl)) rfl (fun ac A266 => ?_)
          refine s_one (.pointer (some ⟨g3, 2, none⟩)) A266 S253 (g_field (u := .pointer (some ⟨g3, 0, none⟩)) (by kernel_rfl) (fun _ => by kernel_rfl)) rfl (fun ac A267 => ?_)
          refine s_one (.int .i64 c.v1) A267 S253 (g_load (g := g3) (off := 2) 1 (by kernel_rfl) rfl (by kernel_rfl)) rfl (fun ac A268 => ?_)
          refine s_one (.pointer (some ⟨g3, 5, none⟩)) A268 S253 (g_field (u := .pointer (some ⟨g3, 0, none⟩)) (by kernel_rfl) (fun _ => by kernel_rfl)) rfl (fun ac A269 => ?_)
          refine s_one (.int .i64 c.v2) A269 S253 (g_load (g := g3) (off := 5) 1 (by kernel_rfl) rfl (by kernel_rfl)) rfl (fun ac A270 => ?_)
          refine s_call (fs := #[]) (cp := #[]) (r := [(0, .agg #[.int .i64 (crs c - c.x1), .int .i64 c.h1]), (0, .int .i64 c.v1), (0, .int .i64 c.v2)]) #[.agg #[.int .i64 (crs c - c.x1), .int .i64 c.h1], .int .i64 c.v1, .int .i64 c.v2] (.tuple #[.agg #[.int .i64 (zv (bsE (crs c - c.x1) c.h1 c.v1 c.v2) (bsN (crs c - c.x1) c.h1 c.v1 c.v2)), .int .i64 (zv (bsE (crs c - c.x1) c.h1 c.v1 c.v2) (bsD (crs c - c.x1) c.h1 c.v1 c.v2))], .int .i64 (bsE (crs c - c.x1) c.h1 c.v1 c.v2)]) A270 S253 (BehindSquare_s (crs c - c.x1) c.h1 c.v1 c.v2 _) Try.call46 (by kernel_rfl) (by kernel_rfl) (by kernel_rfl) rfl (fun ac wc A271 S272 => ?_)
          refine s_one (.tuple #[.agg #[.int .i64 (zv (bsE (crs c - c.x1) c.h1 c.v1 c.v2) (bsN (crs c - c.x1) c.h1 c.v1 c.v2)), .int .i64 (zv (bsE (crs c - c.x1) c.h1 c.v1 c.v2) (bsD (crs c - c.x1) c.h1 c.v1 c.v2))], .int .i64 (bsE (crs c - c.x1) c.h1 c.v1 c.v2)]) A271 S272 (g_move (by kernel_rfl)) rfl (fun ac A274 => ?_)
          refine s_one (.agg #[.int .i64 (zv (bsE (crs c - c.x1) c.h1 c.v1 c.v2) (bsN (crs c - c.x1) c.h1 c.v1 c.v2)), .int .i64 (zv (bsE (crs c - c.x1) c.h1 c.v1 c.v2) (bsD (crs c - c.x1) c.h1 c.v1 c.v2))]) A274 S272 (g_extract (u := .tuple #[.agg #[.int .i64 (zv (bsE (crs c - c.x1) c.h1 c.v1 c.v2) (bsN (crs c - c.x1) c.h1 c.v1 c.v2)), .int .i64 (zv (bsE (crs c - c.x1) c.h1 c.v1 c.v2) (bsD (crs c - c.x1) c.h1 c.v1 c.v2))], .int .i64 (bsE (crs c - c.x1) c.h1 c.v1 c.v2)]) (by kernel_rfl) (fun _ => by kernel_rfl)) rfl (fun ac A275 => ?_)
          refine s_one (.int .i64 (bsE (crs c - c.x1) c.h1 c.v1 c.v2)) A275 S272 (g_extract (u := .tuple #[.agg #[.int .i64 (zv (bsE (crs c - c.x1) c.h1 c.v1 c.v2) (bsN (crs c - c.x1) c.h1 c.v1 c.v2)), .int .i64 (zv (bsE (crs c - c.x1) c.h1 c.v1 c.v2) (bsD (crs c - c.x1) c.h1 c.v1 c.v2))], .int .i64 (bsE (crs c - c.x1) c.h1 c.v1 c.v2)]) (by kernel_rfl) (fun _ => by kernel_rfl)) rfl (fun ac A276 => ?_)
          refine s_alloc (#[.int .i64 0, .int .i64 0]) A276 S272 (by kernel_rfl) rfl (fun g279 ac wc A277 S278 => ?_)
          refine s_store (g := g279) (off := 0) (v := .agg #[.int .i64 (zv (bsE (crs c - c.x1) c.h1 c.v1 c.v2) (bsN (crs c - c.x1) c.h1 c.v1 c.v2)), .int .i64 (zv (bsE (crs c - c.x1) c.h1 c.v1 c.v2) (bsD (crs c - c.x1) c.h1 c.v1 c.v2))]) 0 (#[.int .i64 (zv (bsE (crs c - c.x1) c.h1 c.v1 c.v2) (bsN (crs c - c.x1) c.h1 c.v1 c.v2)), .int .i64 (zv (bsE (crs c - c.x1) c.h1 c.v1 c.v2) (bsD (crs c - c.x1) c.h1 c.v1 c.v2))]) A277 S278 (by kernel_rfl) (by kernel_rfl) rfl (by kernel_rfl) (fun wc S281 => ?_)
          refine s_one (.int .i64 (bsE (crs c - c.x1) c.h1 c.v1 c.v2)) A277 S281 (g_assign (by kernel_rfl)) rfl (fun ac A283 => ?_)
          refine wpList_nil ?_
          refine n_then ?_
          refine wp_seq ?_
          refine wp_region_lit ?_
          refine s_one (.int .i64 (bsE (crs c - c.x1) c.h1 c.v1 c.v2)) A283 S281 (g_move (by kernel_rfl)) rfl (fun ac A284 => ?_)
          refine s_one (.bool (decide (bsE (crs c - c.x1) c.h1 c.v1 c.v2 = 8))) A284 S281 (g_bin (u := .int .i64 (bsE (crs c - c.x1) c.h1 c.v1 c.v2)) (k := .int .i64 8) (by kernel_rfl) (by kernel_rfl) (fun _ => by kernel_rfl) b_eql) rfl (fun ac A285 => ?_)
          refine s_one (.bool (decide (bsE (crs c - c.x1) c.h1 c.v1 c.v2 = 8))) A285 S281 (g_move (by kernel_rfl)) rfl (fun ac A286 => ?_)
          refine by_bool (decide (bsE (crs c - c.x1) c.h1 c.v1 c.v2 = 8)) (fun h287 => ?_) (fun h287 => ?_)
          · have p288 := of_decide_eq_true h287
            refine s_not (dj := 79) (b := (decide (bsE (crs c - c.x1) c.h1 c.v1 c.v2 = 8))) A286 (by kernel_rfl) (by kernel_rfl) h287 rfl (fun ac A289 => ?_)
            refine s_not (dj := 79) (b := (decide (bsE (crs c - c.x1) c.h1 c.v1 c.v2 = 8))) A289 (by kernel_rfl) (by kernel_rfl) h287 rfl (fun ac A290 => ?_)
            refine s_not (dj := 79) (b := (decide (bsE (crs c - c.x1) c.h1 c.v1 c.v2 = 8))) A290 (by kernel_rfl) (by kernel_rfl) h287 rfl (fun ac A291 => ?_)
            refine s_notU (dj := 82) A291 (by kernel_rfl) (by kernel_rfl) rfl (fun ac A292 => ?_)
            refine s_notU (dj := 82) A292 (by kernel_rfl) (by kernel_rfl) rfl (fun ac A293 => ?_)
            refine s_notU (dj := 82) A293 (by kernel_rfl) (by kernel_rfl) rfl (fun ac A294 => ?_)
            refine s_notU (dj := 82) A294 (by kernel_rfl) (by kernel_rfl) rfl (fun ac A295 => ?_)
            refine s_notU (dj := 82) A295 (by kernel_rfl) (by kernel_rfl) rfl (fun ac A296 => ?_)
            refine s_not (dj := 79) (b := (decide (bsE (crs c - c.x1) c.h1 c.v1 c.v2 = 8))) A296 (by kernel_rfl) (by kernel_rfl) h287 rfl (fun ac A297 => ?_)
            refine s_one (.bool true) A297 S281 (g_pick_t (b := (decide (bsE (crs c - c.x1) c.h1 c.v1 c.v2 = 8))) (by kernel_rfl) h287 (by kernel_rfl)) rfl (fun ac A298 => ?_)
            refine s_one (.bool true) A298 S281 (g_assign (by kernel_rfl)) rfl (fun ac A299 => ?_)
            refine wpList_nil ?_
            refine n_then ?_
            refine wp_ret ?_
            refine fin1 (.bool true) Try.results10 A299 S281 (rv_tmp (by kernel_rfl)) ⟨?_, S281.kp⟩
            rfl
          · have p300 := of_decide_eq_false h287
            have b0 := bs_08 ze2 ps (of_decide_eq_false h287)
            have y1 := zv_0 b0 (bsN (crs c - c.x1) c.h1 c.v1 c.v2)
            have y2 := zv_0 b0 (bsD (crs c - c.x1) c.h1 c.v1 c.v2)
            refine s_want (dj := 79) (b := (decide (bsE (crs c - c.x1) c.h1 c.v1 c.v2 = 8))) A286 (by kernel_rfl) (by kernel_rfl) h287 ?_
            refine s_one (.int .i64 (bsE (crs c - c.x1) c.h1 c.v1 c.v2)) A286 S281 (g_move (by kernel_rfl)) rfl (fun ac A301 => ?_)
            refine s_want (dj := 79) (b := (decide (bsE (crs c - c.x1) c.h1 c.v1 c.v2 = 8))) A301 (by kernel_rfl) (by kernel_rfl) h287 ?_
            refine s_one (.bool (decide (bsE (crs c - c.x1) c.h1 c.v1 c.v2 = 0))) A301 S281 (g_bin (u := .int .i64 (bsE (crs c - c.x1) c.h1 c.v1 c.v2)) (k := .int .i64 0) (by kernel_rfl) (by kernel_rfl) (fun _ => by kernel_rfl) b_eql) rfl (fun ac A302 => ?_)
            refine s_want (dj := 79) (b := (decide (bsE (crs c - c.x1) c.h1 c.v1 c.v2 = 8))) A302 (by kernel_rfl) (by kernel_rfl) h287 ?_
            refine s_one (.bool (decide (bsE (crs c - c.x1) c.h1 c.v1 c.v2 = 0))) A302 S281 (g_move (by kernel_rfl)) rfl (fun ac A303 => ?_)
            refine s_want (dj := 82) (b := (decide (bsE (crs c - c.x1) c.h1 c.v1 c.v2 = 0))) A303 (by kernel_rfl) (by kernel_rfl) (decide_eq_true (by first | assumption | rfl | exact zv_n zn _ | omega | (intro hh; exact hh ze2))) ?_
            refine s_one (.pointer (some ⟨g279, 0, none⟩)) A303 S281 (g_field (u := .pointer (some ⟨g279, 0, none⟩)) (by kernel_rfl) (fun _ => by kernel_rfl)) rfl (fun ac A304 => ?_)
            refine s_want (dj := 82) (b := (decide (bsE (crs c - c.x1) c.h1 c.v1 c.v2 = 0))) A304 (by kernel_rfl) (by kernel_rfl) (decide_eq_true (by first | assumption | rfl | exact zv_n zn _ | omega | (intro hh; exact hh ze2))) ?_
            refine s_one (.int .i64 (zv (bsE (crs c - c.x1) c.h1 c.v1 c.v2) (bsN (crs c - c.x1) c.h1 c.v1 c.v2))) A304 S281 (g_load (g := g279) (off := 0) 0 (by kernel_rfl) rfl (by kernel_rfl)) rfl (fun ac A305 => ?_)
            refine s_want (dj := 82) (b := (decide (bsE (crs c - c.x1) c.h1 c.v1 c.v2 = 0))) A305 (by kernel_rfl) (by kernel_rfl) (decide_eq_true (by first | assumption | rfl | exact zv_n zn _ | omega | (intro hh; exact hh ze2))) ?_
            refine s_one (.pointer (some ⟨g279, 1, none⟩)) A305 S281 (g_field (u := .pointer (some ⟨g279, 0, none⟩)) (by kernel_rfl) (fun _ => by kernel_rfl)) rfl (fun ac A306 => ?_)
            refine s_want (dj := 82) (b := (decide (bsE (crs c - c.x1) c.h1 c.v1 c.v2 = 0))) A306 (by kernel_rfl) (by kernel_rfl) (decide_eq_true (by first | assumption | rfl | exact zv_n zn _ | omega | (intro hh; exact hh ze2))) ?_
            refine s_one (.int .i64 (zv (bsE (crs c - c.x1) c.h1 c.v1 c.v2) (bsD (crs c - c.x1) c.h1 c.v1 c.v2))) A306 S281 (g_load (g := g279) (off := 1) 0 (by kernel_rfl) rfl (by kernel_rfl)) rfl (fun ac A307 => ?_)
            refine s_want (dj := 82) (b := (decide (bsE (crs c - c.x1) c.h1 c.v1 c.v2 = 0))) A307 (by kernel_rfl) (by kernel_rfl) (decide_eq_true (by first | assumption | rfl | exact zv_n zn _ | omega | (intro hh; exact hh ze2))) ?_
            refine s_call (fs := #[]) (cp := #[]) (r := [(0, .int .i64 (zv (bsE (crs c - c.x1) c.h1 c.v1 c.v2) (bsN (crs c - c.x1) c.h1 c.v1 c.v2))), (0, .int .i64 0), (0, .int .i64 (zv (bsE (crs c - c.x1) c.h1 c.v1 c.v2) (bsD (crs c - c.x1) c.h1 c.v1 c.v2)))]) #[.int .i64 (zv (bsE (crs c - c.x1) c.h1 c.v1 c.v2) (bsN (crs c - c.x1) c.h1 c.v1 c.v2)), .int .i64 0, .int .i64 (zv (bsE (crs c - c.x1) c.h1 c.v1 c.v2) (bsD (crs c - c.x1) c.h1 c.v1 c.v2))] (.bool (inB (zv (bsE (crs c - c.x1) c.h1 c.v1 c.v2) (bsN (crs c - c.x1) c.h1 c.v1 c.v2)) 0 (zv (bsE (crs c - c.x1) c.h1 c.v1 c.v2) (bsD (crs c - c.x1) c.h1 c.v1 c.v2)))) A307 S281 (Within_s (zv (bsE (crs c - c.x1) c.h1 c.v1 c.v2) (bsN (crs c - c.x1) c.h1 c.v1 c.v2)) 0 (zv (bsE (crs c - c.x1) c.h1 c.v1 c.v2) (bsD (crs c - c.x1) c.h1 c.v1 c.v2)) _) Try.call26 (by kernel_rfl) (by kernel_rfl) (by kernel_rfl) rfl (fun ac wc A308 S309 => ?_)
            refine s_want (dj := 79) (b := (decide (bsE (crs c - c.x1) c.h1 c.v1 c.v2 = 8))) A308 (by kernel_rfl) (by kernel_rfl) h287 ?_
            refine s_one (.bool (inB (zv (bsE (crs c - c.x1) c.h1 c.v1 c.v2) (bsN (crs c - c.x1) c.h1 c.v1 c.v2)) 0 (zv (bsE (crs c - c.x1) c.h1 c.v1 c.v2) (bsD (crs c - c.x1) c.h1 c.v1 c.v2)))) A308 S309 (g_pick_t (b := (decide (bsE (crs c - c.x1) c.h1 c.v1 c.v2 = 0))) (by kernel_rfl) (decide_eq_true (by first | assumption | rfl | exact zv_n zn _ | omega | (intro hh; exact hh ze2))) (by kernel_rfl)) rfl (fun ac A311 => ?_)
            refine s_one (.bool (inB (zv (bsE (crs c - c.x1) c.h1 c.v1 c.v2) (bsN (crs c - c.x1) c.h1 c.v1 c.v2)) 0 (zv (bsE (crs c - c.x1) c.h1 c.v1 c.v2) (bsD (crs c - c.x1) c.h1 c.v1 c.v2)))) A311 S309 (g_pick_f (b := (decide (bsE (crs c - c.x1) c.h1 c.v1 c.v2 = 8))) (by kernel_rfl) h287 (by kernel_rfl)) rfl (fun ac A312 => ?_)
            refine s_one (.bool (inB (zv (bsE (crs c - c.x1) c.h1 c.v1 c.v2) (bsN (crs c - c.x1) c.h1 c.v1 c.v2)) 0 (zv (bsE (crs c - c.x1) c.h1 c.v1 c.v2) (bsD (crs c - c.x1) c.h1 c.v1 c.v2)))) A312 S309 (g_assign (by kernel_rfl)) rfl (fun ac A313 => ?_)
            refine wpList_nil ?_
            refine n_then ?_
            refine wp_ret ?_
            refine fin1 (.bool (inB (zv (bsE (crs c - c.x1) c.h1 c.v1 c.v2) (bsN (crs c - c.x1) c.h1 c.v1 c.v2)) 0 (zv (bsE (crs c - c.x1) c.h1 c.v1 c.v2) (bsD (crs c - c.x1) c.h1 c.v1 c.v2)))) Try.results10 A313 S309 (rv_tmp (by kernel_rfl)) ⟨?_, S309.kp⟩
            exact congrArg (fun b => Ending.returned (Value.bool b)) (inB_true.2 (by omega))

end Go.Proofs.Ytnfmfkejhgbipaa
