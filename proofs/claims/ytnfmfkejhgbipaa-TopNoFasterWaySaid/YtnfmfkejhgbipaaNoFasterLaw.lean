/- The walk of TopNoFasterWay: it returns true. -/
import Derived.Test.YtnfmfkejhgbipaaRay9
import Derived.Test.YtnfmfkejhgbipaaPlain
import Derived.Test.YtnfmfkejhgbipaaArgs
namespace Go.Proofs.Ytnfmfkejhgbipaa
open Go.RowKit Go.Cpl Go.Ray1

set_option maxRecDepth 100000 in
set_option maxHeartbeats 400000 in
theorem rayed_s  (w0 : World) :
    Calls Try.prog 27 #[] w0 fun e w' => e = .returned (.bool true) ∧ Below w0.heap.size w0 w' := by
  have S0 := St.start w0
  refine enter (n := 32) Try.func27 rfl rfl rfl (fun ac A0 => ?_)
  refine wp_seq ?_
  refine wp_region_lit ?_
  refine s_one (.bool false) A0 S0 (g_assign (by kernel_rfl)) rfl (fun ac A1 => ?_)
  refine wpList_nil ?_
  refine n_then ?_
  refine wp_seq ?_
  refine wp_region_lit ?_
  refine s_call (fs := #[]) (cp := #[]) (r := []) #[] (.agg #[.int .i64 0, .int .i64 300, .int .i64 2500, .int .i64 800, .int .i64 300, .int .i64 2500]) A1 S0 (Middle_s _) Try.call75 (by kernel_rfl) (by kernel_rfl) (by kernel_rfl) rfl (fun ac wc A2 S3 => ?_)
  refine s_call (fs := #[]) (cp := #[]) (r := [(0, .agg #[.int .i64 0, .int .i64 300, .int .i64 2500, .int .i64 800, .int .i64 300, .int .i64 2500])]) #[.agg #[.int .i64 0, .int .i64 300, .int .i64 2500, .int .i64 800, .int .i64 300, .int .i64 2500]] (.tuple #[.int .i64 (zv (crE ⟨0, 300, 2500, 800, 300, 2500⟩) (crs ⟨0, 300, 2500, 800, 300, 2500⟩)), .int .i64 (crE ⟨0, 300, 2500, 800, 300, 2500⟩)]) A2 S3 (Crossing_s ⟨0, 300, 2500, 800, 300, 2500⟩ _) Try.call20 (by kernel_rfl) (by kernel_rfl) (by kernel_rfl) rfl (fun ac wc A5 S6 => ?_)
  refine s_one (.tuple #[.int .i64 (zv (crE ⟨0, 300, 2500, 800, 300, 2500⟩) (crs ⟨0, 300, 2500, 800, 300, 2500⟩)), .int .i64 (crE ⟨0, 300, 2500, 800, 300, 2500⟩)]) A5 S6 (g_move (by kernel_rfl)) rfl (fun ac A8 => ?_)
  refine s_one (.int .i64 (zv (crE ⟨0, 300, 2500, 800, 300, 2500⟩) (crs ⟨0, 300, 2500, 800, 300, 2500⟩))) A8 S6 (g_extract (u := .tuple #[.int .i64 (zv (crE ⟨0, 300, 2500, 800, 300, 2500⟩) (crs ⟨0, 300, 2500, 800, 300, 2500⟩)), .int .i64 (crE ⟨0, 300, 2500, 800, 300, 2500⟩)]) (by kernel_rfl) (fun _ => by kernel_rfl)) rfl (fun ac A9 => ?_)
  refine s_one (.int .i64 (crE ⟨0, 300, 2500, 800, 300, 2500⟩)) A9 S6 (g_extract (u := .tuple #[.int .i64 (zv (crE ⟨0, 300, 2500, 800, 300, 2500⟩) (crs ⟨0, 300, 2500, 800, 300, 2500⟩)), .int .i64 (crE ⟨0, 300, 2500, 800, 300, 2500⟩)]) (by kernel_rfl) (fun _ => by kernel_rfl)) rfl (fun ac A10 => ?_)
  refine s_one (.int .i64 (zv (crE ⟨0, 300, 2500, 800, 300, 2500⟩) (crs ⟨0, 300, 2500, 800, 300, 2500⟩))) A10 S6 (g_assign (by kernel_rfl)) rfl (fun ac A11 => ?_)
  refine s_one (.int .i64 (crE ⟨0, 300, 2500, 800, 300, 2500⟩)) A11 S6 (g_assign (by kernel_rfl)) rfl (fun ac A12 => ?_)
  refine wpList_nil ?_
  refine n_then ?_
  refine wp_seq ?_
  refine wp_region_lit ?_
  refine s_call (fs := #[]) (cp := #[]) (r := []) #[] (.agg #[.int .i64 2500, .int .i64 5000, .int .i64 1, .int .i64 1000]) A12 S6 (Plate_s _) Try.call76 (by kernel_rfl) (by kernel_rfl) (by kernel_rfl) rfl (fun ac wc A13 S14 => ?_)
  refine s_one (.agg #[.int .i64 0, .int .i64 (-300)]) A13 S14 (g_build (r := [(1, .int .i64 (-300))]) (by kernel_rfl) (fun _ => by kernel_rfl)) rfl (fun ac A16 => ?_)
  refine s_one (.agg #[.int .i64 0, .int .i64 400]) A16 S14 (g_build (r := [(1, .int .i64 400)]) (by kernel_rfl) (fun _ => by kernel_rfl)) rfl (fun ac A17 => ?_)
  refine s_call (fs := #[]) (cp := #[]) (r := [(0, .agg #[.int .i64 2500, .int .i64 5000, .int .i64 1, .int .i64 1000]), (0, .agg #[.int .i64 0, .int .i64 (-300)]), (0, .agg #[.int .i64 0, .int .i64 400])]) #[.agg #[.int .i64 2500, .int .i64 5000, .int .i64 1, .int .i64 1000], .agg #[.int .i64 0, .int .i64 (-300)], .agg #[.int .i64 0, .int .i64 400]] (.tuple #[.agg #[.int .i64 (zv (opE 2500 5000 1 1000 0 (-300) 0 400) (leLo (wyC 2500 5000 1 1000 0 (-300) 0 400))), .int .i64 (zv (opE 2500 5000 1 1000 0 (-300) 0 400) (mHi (wyC 2500 5000 1 1000 0 (-300) 0 400)))], .int .i64 (opE 2500 5000 1 1000 0 (-300) 0 400)]) A17 S14 (LeastTime_s 2500 5000 1 1000 0 (-300) 0 400 _) Try.call28 (by kernel_rfl) (by kernel_rfl) (by kernel_rfl) rfl (fun ac wc A18 S19 => ?_)
  refine s_one (.tuple #[.agg #[.int .i64 (zv (opE 2500 5000 1 1000 0 (-300) 0 400) (leLo (wyC 2500 5000 1 1000 0 (-300) 0 400))), .int .i64 (zv (opE 2500 5000 1 1000 0 (-300) 0 400) (mHi (wyC 2500 5000 1 1000 0 (-300) 0 400)))], .int .i64 (opE 2500 5000 1 1000 0 (-300) 0 400)]) A18 S19 (g_move (by kernel_rfl)) rfl (fun ac A21 => ?_)
  refine s_one (.agg #[.int .i64 (zv (opE 2500 5000 1 1000 0 (-300) 0 400) (leLo (wyC 2500 5000 1 1000 0 (-300) 0 400))), .int .i64 (zv (opE 2500 5000 1 1000 0 (-300) 0 400) (mHi (wyC 2500 5000 1 1000 0 (-300) 0 400)))]) A21 S19 (g_extract (u := .tuple #[.agg #[.int .i64 (zv (opE 2500 5000 1 1000 0 (-300) 0 400) (leLo (wyC 2500 5000 1 1000 0 (-300) 0 400))), .int .i64 (zv (opE 2500 5000 1 1000 0 (-300) 0 400) (mHi (wyC 2500 5000 1 1000 0 (-300) 0 400)))], .int .i64 (opE 2500 5000 1 1000 0 (-300) 0 400)]) (by kernel_rfl) (fun _ => by kernel_rfl)) rfl (fun ac A22 => ?_)
  refine s_one (.int .i64 (opE 2500 5000 1 1000 0 (-300) 0 400)) A22 S19 (g_extract (u := .tuple #[.agg #[.int .i64 (zv (opE 2500 5000 1 1000 0 (-300) 0 400) (leLo (wyC 2500 5000 1 1000 0 (-300) 0 400))), .int .i64 (zv (opE 2500 5000 1 1000 0 (-300) 0 400) (mHi (wyC 2500 5000 1 1000 0 (-300) 0 400)))], .int .i64 (opE 2500 5000 1 1000 0 (-300) 0 400)]) (by kernel_rfl) (fun _ => by kernel_rfl)) rfl (fun ac A23 => ?_)
  refine s_alloc (#[.int .i64 0, .int .i64 0]) A23 S19 (by kernel_rfl) rfl (fun g26 ac wc A24 S25 => ?_)
  refine s_store (g := g26) (off := 0) (v := .agg #[.int .i64 (zv (opE 2500 5000 1 1000 0 (-300) 0 400) (leLo (wyC 2500 5000 1 1000 0 (-300) 0 400))), .int .i64 (zv (opE 2500 5000 1 1000 0 (-300) 0 400) (mHi (wyC 2500 5000 1 1000 0 (-300) 0 400)))]) 0 (#[.int .i64 (zv (opE 2500 5000 1 1000 0 (-300) 0 400) (leLo (wyC 2500 5000 1 1000 0 (-300) 0 400))), .int .i64 (zv (opE 2500 5000 1 1000 0 (-300) 0 400) (mHi (wyC 2500 5000 1 1000 0 (-300) 0 400)))]) A24 S25 (by kernel_rfl) (by kernel_rfl) rfl (by kernel_rfl) (fun wc S28 => ?_)
  refine s_one (.int .i64 (opE 2500 5000 1 1000 0 (-300) 0 400)) A24 S28 (g_assign (by kernel_rfl)) rfl (fun ac A30 => ?_)
  refine wpList_nil ?_
  refine n_then ?_
  refine wp_seq ?_
  refine wp_region_lit ?_
  refine s_one (.int .i64 (crE ⟨0, 300, 2500, 800, 300, 2500⟩)) A30 S28 (g_move (by kernel_rfl)) rfl (fun ac A31 => ?_)
  refine s_one (.bool (decide (crE ⟨0, 300, 2500, 800, 300, 2500⟩ = 0))) A31 S28 (g_bin (u := .int .i64 (crE ⟨0, 300, 2500, 800, 300, 2500⟩)) (k := .int .i64 0) (by kernel_rfl) (by kernel_rfl) (fun _ => by kernel_rfl) b_eql) rfl (fun ac A32 => ?_)
  refine s_one (.bool (decide (crE ⟨0, 300, 2500, 800, 300, 2500⟩ = 0))) A32 S28 (g_move (by kernel_rfl)) rfl (fun ac A33 => ?_)
  refine s_want (dj := 19) (b := (decide (crE ⟨0, 300, 2500, 800, 300, 2500⟩ = 0))) A33 (by kernel_rfl) (by kernel_rfl) (decide_eq_true (by exact midE)) ?_
  refine s_one (.int .i64 (zv (crE ⟨0, 300, 2500, 800, 300, 2500⟩) (crs ⟨0, 300, 2500, 800, 300, 2500⟩))) A33 S28 (g_move (by kernel_rfl)) rfl (fun ac A34 => ?_)
  refine s_want (dj := 19) (b := (decide (crE ⟨0, 300, 2500, 800, 300, 2500⟩ = 0))) A34 (by kernel_rfl) (by kernel_rfl) (decide_eq_true (by exact midE)) ?_
  refine s_one (.bool (decide (zv (crE ⟨0, 300, 2500, 800, 300, 2500⟩) (crs ⟨0, 300, 2500, 800, 300, 2500⟩) = 400))) A34 S28 (g_bin (u := .int .i64 (zv (crE ⟨0, 300, 2500, 800, 300, 2500⟩) (crs ⟨0, 300, 2500, 800, 300, 2500⟩))) (k := .int .i64 400) (by kernel_rfl) (by kernel_rfl) (fun _ => by kernel_rfl) b_eql) rfl (fun ac A35 => ?_)
  refine s_one (.bool (decide (zv (crE ⟨0, 300, 2500, 800, 300, 2500⟩) (crs ⟨0, 300, 2500, 800, 300, 2500⟩) = 400))) A35 S28 (g_pick_t (b := (decide (crE ⟨0, 300, 2500, 800, 300, 2500⟩ = 0))) (by kernel_rfl) (decide_eq_true (by exact midE)) (by kernel_rfl)) rfl (fun ac A36 => ?_)
  refine s_one (.bool (decide (zv (crE ⟨0, 300, 2500, 800, 300, 2500⟩) (crs ⟨0, 300, 2500, 800, 300, 2500⟩) = 400))) A36 S28 (g_move (by kernel_rfl)) rfl (fun ac A37 => ?_)
  refine s_want (dj := 23) (b := (decide (zv (crE ⟨0, 300, 2500, 800, 300, 2500⟩) (crs ⟨0, 300, 2500, 800, 300, 2500⟩) = 400))) A37 (by kernel_rfl) (by kernel_rfl) (decide_eq_true (by rw [zv_0 midE]; exact mid_crs)) ?_
  refine s_one (.int .i64 (opE 2500 5000 1 1000 0 (-300) 0 400)) A37 S28 (g_move (by kernel_rfl)) rfl (fun ac A38 => ?_)
  refine s_want (dj := 23) (b := (decide (zv (crE ⟨0, 300, 2500, 800, 300, 2500⟩) (crs ⟨0, 300, 2500, 800, 300, 2500⟩) = 400))) A38 (by kernel_rfl) (by kernel_rfl) (decide_eq_true (by rw [zv_0 midE]; exact mid_crs)) ?_
  refine s_one (.bool (decide (opE 2500 5000 1 1000 0 (-300) 0 400 = 0))) A38 S28 (g_bin (u := .int .i64 (opE 2500 5000 1 1000 0 (-300) 0 400)) (k := .int .i64 0) (by kernel_rfl) (by kernel_rfl) (fun _ => by kernel_rfl) b_eql) rfl (fun ac A39 => ?_)
  refine s_one (.bool (decide (opE 2500 5000 1 1000 0 (-300) 0 400 = 0))) A39 S28 (g_pick_t (b := (decide (zv (crE ⟨0, 300, 2500, 800, 300, 2500⟩) (crs ⟨0, 300, 2500, 800, 300, 2500⟩) = 400))) (by kernel_rfl) (decide_eq_true (by rw [zv_0 midE]; exact mid_crs)) (by kernel_rfl)) rfl (fun ac A40 => ?_)
  refine s_one (.bool (decide (opE 2500 5000 1 1000 0 (-300) 0 400 = 0))) A40 S28 (g_move (by kernel_rfl)) rfl (fun ac A41 => ?_)
  refine s_want (dj := 27) (b := (decide (opE 2500 5000 1 1000 0 (-300) 0 400 = 0))) A41 (by kernel_rfl) (by kernel_rfl) (decide_eq_true (by exact pla_E)) ?_
  refine s_one (.agg #[.int .i64 (zv (opE 2500 5000 1 1000 0 (-300) 0 400) (leLo (wyC 2500 5000 1 1000 0 (-300) 0 400))), .int .i64 (zv (opE 2500 5000 1 1000 0 (-300) 0 400) (mHi (wyC 2500 5000 1 1000 0 (-300) 0 400)))]) A41 S28 (g_load (g := g26) (off := 0) 0 (by kernel_rfl) rfl (by kernel_rfl)) rfl (fun ac A42 => ?_)
  refine s_want (dj := 27) (b := (decide (opE 2500 5000 1 1000 0 (-300) 0 400 = 0))) A42 (by kernel_rfl) (by kernel_rfl) (decide_eq_true (by exact pla_E)) ?_
  refine s_one (.agg #[.int .i64 4399984, .int .i64 4400000]) A42 S28 (g_build (r := [(0, .int .i64 4399984), (1, .int .i64 4400000)]) (by kernel_rfl) (fun _ => by kernel_rfl)) rfl (fun ac A43 => ?_)
  refine s_want (dj := 27) (b := (decide (opE 2500 5000 1 1000 0 (-300) 0 400 = 0))) A43 (by kernel_rfl) (by kernel_rfl) (decide_eq_true (by exact pla_E)) ?_
  refine s_one (.bool (decide ([zv (opE 2500 5000 1 1000 0 (-300) 0 400) (leLo (wyC 2500 5000 1 1000 0 (-300) 0 400)), zv (opE 2500 5000 1 1000 0 (-300) 0 400) (mHi (wyC 2500 5000 1 1000 0 (-300) 0 400))] = [4399984, 4400000]))) A43 S28 (g_bin (u := .agg #[.int .i64 (zv (opE 2500 5000 1 1000 0 (-300) 0 400) (leLo (wyC 2500 5000 1 1000 0 (-300) 0 400))), .int .i64 (zv (opE 2500 5000 1 1000 0 (-300) 0 400) (mHi (wyC 2500 5000 1 1000 0 (-300) 0 400)))]) (k := .agg #[.int .i64 4399984, .int .i64 4400000]) (by kernel_rfl) (by kernel_rfl) (fun _ => by kernel_rfl) (q_struct (n := 2) [zv (opE 2500 5000 1 1000 0 (-300) 0 400) (leLo (wyC 2500 5000 1 1000 0 (-300) 0 400)), zv (opE 2500 5000 1 1000 0 (-300) 0 400) (mHi (wyC 2500 5000 1 1000 0 (-300) 0 400))] [4399984, 4400000] (by kernel_rfl) rfl rfl)) rfl (fun ac A44 => ?_)
  refine s_one (.bool (decide ([zv (opE 2500 5000 1 1000 0 (-300) 0 400) (leLo (wyC 2500 5000 1 1000 0 (-300) 0 400)), zv (opE 2500 5000 1 1000 0 (-300) 0 400) (mHi (wyC 2500 5000 1 1000 0 (-300) 0 400))] = [4399984, 4400000]))) A44 S28 (g_pick_t (b := (decide (opE 2500 5000 1 1000 0 (-300) 0 400 = 0))) (by kernel_rfl) (decide_eq_true (by exact pla_E)) (by kernel_rfl)) rfl (fun ac A45 => ?_)
  refine s_one (.bool (decide ([zv (opE 2500 5000 1 1000 0 (-300) 0 400) (leLo (wyC 2500 5000 1 1000 0 (-300) 0 400)), zv (opE 2500 5000 1 1000 0 (-300) 0 400) (mHi (wyC 2500 5000 1 1000 0 (-300) 0 400))] = [4399984, 4400000]))) A45 S28 (g_assign (by kernel_rfl)) rfl (fun ac A46 => ?_)
  refine wpList_nil ?_
  refine n_then ?_
  refine wp_ret ?_
  refine fin1 (.bool (decide ([zv (opE 2500 5000 1 1000 0 (-300) 0 400) (leLo (wyC 2500 5000 1 1000 0 (-300) 0 400)), zv (opE 2500 5000 1 1000 0 (-300) 0 400) (mHi (wyC 2500 5000 1 1000 0 (-300) 0 400))] = [4399984, 4400000]))) Try.results27 A46 S28 (rv_tmp (by kernel_rfl)) ⟨?_, S28.kp⟩
  exact congrArg (fun b => Ending.returned (Value.bool b)) (decide_eq_true (by rw [pla_C, zv_0 pla_E, zv_0 pla_E]; exact pair2 pla_lo pla_hi))

theorem tm_of {ax az bx bz v : Int} (h1 : (-100000 ≤ ax ∧ ax ≤ 100000) ∧ (-100000 ≤ az ∧ az ≤ 100000)) (h2 : (-100000 ≤ bx ∧ bx ≤ 100000) ∧ (-100000 ≤ bz ∧ bz ≤ 100000)) (h3 : 500 ≤ v ∧ v ≤ 10000) : tmE ax az bx bz v = 0 := by
  unfold tmE
  rw [fo_cons0 (spE_y (inB_true.2 h1.1) (inB_true.2 h1.2)), fo_cons0 (spE_y (inB_true.2 h2.1) (inB_true.2 h2.2)), fo_last]
  exact veE_y (inB_true.2 h3)
theorem TimeOf_ok (ax az bx bz v : Int) (w0 : World) (h1 : (-100000 ≤ ax ∧ ax ≤ 100000) ∧ (-100000 ≤ az ∧ az ≤ 100000)) (h2 : (-100000 ≤ bx ∧ bx ≤ 100000) ∧ (-100000 ≤ bz ∧ bz ≤ 100000)) (h3 : 500 ≤ v ∧ v ≤ 10000) :
    Calls Try.prog 29 #[.agg #[.int .i64 ax, .int .i64 az], .agg #[.int .i64 bx, .int .i64 bz], .int .i64 v] w0 fun e w' => e = .returned (.tuple #[.agg #[.int .i64 (tLo (lenL (ax - bx) (az - bz)) v), .int .i64 (tHi (lenU (ax - bx) (az - bz)) v)], .int .i64 0]) ∧ Below w0.heap.size w0 w' := by
  have h := TimeOf_s ax az bx bz v w0
  rw [zv_0 (tm_of h1 h2 h3), zv_0 (tm_of h1 h2 h3), tm_of h1 h2 h3] at h
  exact h
theorem way_all {mw md ms mt fx fz tx tz sx ax az S U : Int} {j : Nat} (hm : mdE mw md ms mt = 0) (hw : wyE mt fx fz tx tz = 0) (hj : (j : Int) = ms) (hU : 0 ≤ U) (hN : lenN (ax - sx) ((j : Int) * mt) ≤ U * U) (hS : tHi U md ≤ S)
    (haz : (j % 2 = 0 ∧ az = 0) ∨ (j % 2 = 1 ∧ az = mt)) : leLo (wyC mw md ms mt fx fz tx tz) ≤ tHi (lenU (fx - sx) (fz - 0)) mw + S + tHi (lenU (ax - tx) (az - tz)) md := by
  have zm := mdE_0 hm
  have ok := wyC_ok hm hw
  have key : ∃ T : Int, (az - tz) * (az - tz) = T * T ∧ (j : Int) * mt + T = unf ms mt tz := by
    have htm := Int.tmod_eq_emod_of_nonneg (a := (j : Int)) (b := 2) (by omega)
    subst hj
    rcases haz with ⟨h1, h2⟩ | ⟨h1, h2⟩
    · refine ⟨tz, by rw [h2, Int.zero_sub, Int.neg_mul_neg], ?_⟩
      unfold unf; rw [if_neg (by omega)]
    · refine ⟨mt - tz, by rw [h2], ?_⟩
      unfold unf; rw [if_pos (by omega)]
  obtain ⟨T, hd, hT⟩ := key
  obtain ⟨a, b, d⟩ := way_step (wx := tx) (T := T) (az := az) (wz := tz) (v := md) (by omega) hU hN hS hd
  rw [hT] at b
  have e := way_end ok (sx := sx) a b d
  have z : -(wyC mw md ms mt fx fz tx tz).h1 = fz - 0 := by show -(-fz) = fz - 0; omega
  rw [z] at e
  have e2 : leLo (wyC mw md ms mt fx fz tx tz) ≤ tHi (lenU (fx - sx) (fz - 0)) mw + (S + tHi (lenU (ax - tx) (az - tz)) md) := e
  omega
theorem sq_az {az mt : Int} (h : az = 0 ∨ az = mt) : (az = 0 → (az - mt) * (az - mt) = mt * mt) ∧ (az = mt → (az - 0) * (az - 0) = mt * mt) := by
  constructor
  · rintro rfl; rw [Int.zero_sub, Int.neg_mul_neg]
  · rintro rfl; rw [Int.sub_zero]
theorem nat_mul1 (j : Nat) (mt : Int) : ((j + 1 : Nat) : Int) * mt = (j : Int) * mt + mt := by rw [Int.natCast_add, Int.add_mul]; omega

set_option maxRecDepth 100000 in
set_option maxHeartbeats 400000 in
theorem TopNoFasterWay_s (mw md ms mt fx fz tx tz sx : Int) (ws : List Int) (w0 : World) (hlw : ws.length = 4) :
    Calls Try.prog 5 #[.agg #[.int .i64 mw, .int .i64 md, .int .i64 ms, .int .i64 mt, .int .i64 fx, .int .i64 fz, .int .i64 tx, .int .i64 tz], .int .i64 sx, .agg (ints ws)] w0 fun e w' => e = .returned (.bool true) ∧ Below w0.heap.size w0 w' := by
  have S0 := St.start w0
  refine enter (n := 122) Try.func5 rfl rfl rfl (fun ac A0 => ?_)
  refine wp_seq ?_
  refine wp_region_lit ?_
  refine s_box (.agg #[.int .i64 mw, .int .i64 md, .int .i64 ms, .int .i64 mt, .int .i64 fx, .int .i64 fz, .int .i64 tx, .int .i64 tz]) A0 S0 (by kernel_rfl) rfl (fun g3 ac wc A1 S2 => ?_)
  replace S2 : St _ (⟨g3, 43, #[.int .i64 mw, .int .i64 md, .int .i64 ms, .int .i64 mt, .int .i64 fx, .int .i64 fz, .int .i64 tx, .int .i64 tz], true⟩ :: _) _ _ := S2
  refine s_box (.agg (ints ws)) A1 S2 (by kernel_rfl) rfl (fun g7 ac wc A5 S6 => ?_)
  replace S6 : St _ (⟨g7, 44, (ints ws), true⟩ :: _) _ _ := S6
  refine s_one (.bool false) A5 S6 (g_assign (by kernel_rfl)) rfl (fun ac A9 => ?_)
  refine wpList_nil ?_
  refine n_then ?_
  refine wp_seq ?_
  refine wp_seq ?_
  refine wp_region_lit ?_
  refine s_call (fs := #[]) (cp := #[]) (r := []) #[] (.bool true) A9 S6 (rayed_s _) Try.call27 (by kernel_rfl) (by kernel_rfl) (by kernel_rfl) rfl (fun ac wc A10 S11 => ?_)
  refine s_one (.bool false) A10 S11 (g_un (u := .bool true) (by kernel_rfl) (fun _ => by kernel_rfl)) rfl (fun ac A13 => ?_)
  refine wpList_nil ?_
  refine n_then ?_
  refine c_f (b := false) A13 (by kernel_rfl) rfl ?_
  refine wp_skip ?_
  refine n_then ?_
  refine wp_seq ?_
  refine wp_region_lit ?_
  refine s_one (.pointer (some ⟨g3, 0, none⟩)) A13 S11 (g_field (u := .pointer (some ⟨g3, 0, none⟩)) (by kernel_rfl) (fun _ => by kernel_rfl)) rfl (fun ac A14 => ?_)
  refine s_one (.agg #[.int .i64 mw, .int .i64 md, .int .i64 ms, .int .i64 mt]) A14 S11 (g_load (g := g3) (off := 0) 1 (by kernel_rfl) rfl (by kernel_rfl)) rfl (fun ac A15 => ?_)
  refine s_one (.pointer (some ⟨g3, 4, none⟩)) A15 S11 (g_field (u := .pointer (some ⟨g3, 0, none⟩)) (by kernel_rfl) (fun _ => by kernel_rfl)) rfl (fun ac A16 => ?_)
  refine s_one (.agg #[.int .i64 fx, .int .i64 fz]) A16 S11 (g_load (g := g3) (off := 4) 1 (by kernel_rfl) rfl (by kernel_rfl)) rfl (fun ac A17 => ?_)
  refine s_one (.pointer (some ⟨g3, 6, none⟩)) A17 S11 (g_field (u := .pointer (some ⟨g3, 0, none⟩)) (by kernel_rfl) (fun _ => by kernel_rfl)) rfl (fun ac A18 => ?_)
  refine s_one (.agg #[.int .i64 tx, .int .i64 tz]) A18 S11 (g_load (g := g3) (off := 6) 1 (by kernel_rfl) rfl (by kernel_rfl)) rfl (fun ac A19 => ?_)
  refine s_call (fs := #[]) (cp := #[]) (r := [(0, .agg #[.int .i64 mw, .int .i64 md, .int .i64 ms, .int .i64 mt]), (0, .agg #[.int .i64 fx, .int .i64 fz]), (0, .agg #[.int .i64 tx, .int .i64 tz])]) #[.agg #[.int .i64 mw, .int .i64 md, .int .i64 ms, .int .i64 mt], .agg #[.int .i64 fx, .int .i64 fz], .agg #[.int .i64 tx, .int .i64 tz]] (.tuple #[.agg #[.int .i64 (zv (opE mw md ms mt fx fz tx tz) (leLo (wyC mw md ms mt fx fz tx tz))), .int .i64 (zv (opE mw md ms mt fx fz tx tz) (mHi (wyC mw md ms mt fx fz tx tz)))], .int .i64 (opE mw md ms mt fx fz tx tz)]) A19 S11 (LeastTime_s mw md ms mt fx fz tx tz _) Try.call28 (by kernel_rfl) (by kernel_rfl) (by kernel_rfl) rfl (fun ac wc A20 S21 => ?_)
  refine s_one (.tuple #[.agg #[.int .i64 (zv (opE mw md ms mt fx fz tx tz) (leLo (wyC mw md ms mt fx fz tx tz))), .int .i64 (zv (opE mw md ms mt fx fz tx tz) (mHi (wyC mw md ms mt fx fz tx tz)))], .int .i64 (opE mw md ms mt fx fz tx tz)]) A20 S21 (g_move (by kernel_rfl)) rfl (fun ac A23 => ?_)
  refine s_one (.agg #[.int .i64 (zv (opE mw md ms mt fx fz tx tz) (leLo (wyC mw md ms mt fx fz tx tz))), .int .i64 (zv (opE mw md ms mt fx fz tx tz) (mHi (wyC mw md ms mt fx fz tx tz)))]) A23 S21 (g_extract (u := .tuple #[.agg #[.int .i64 (zv (opE mw md ms mt fx fz tx tz) (leLo (wyC mw md ms mt fx fz tx tz))), .int .i64 (zv (opE mw md ms mt fx fz tx tz) (mHi (wyC mw md ms mt fx fz tx tz)))], .int .i64 (opE mw md ms mt fx fz tx tz)]) (by kernel_rfl) (fun _ => by kernel_rfl)) rfl (fun ac A24 => ?_)
  refine s_one (.int .i64 (opE mw md ms mt fx fz tx tz)) A24 S21 (g_extract (u := .tuple #[.agg #[.int .i64 (zv (opE mw md ms mt fx fz tx tz) (leLo (wyC mw md ms mt fx fz tx tz))), .int .i64 (zv (opE mw md ms mt fx fz tx tz) (mHi (wyC mw md ms mt fx fz tx tz)))], .int .i64 (opE mw md ms mt fx fz tx tz)]) (by kernel_rfl) (fun _ => by kernel_rfl)) rfl (fun ac A25 => ?_)
  refine s_alloc (#[.int .i64 0, .int .i64 0]) A25 S21 (by kernel_rfl) rfl (fun g28 ac wc A26 S27 => ?_)
  refine s_store (g := g28) (off := 0) (v := .agg #[.int .i64 (zv (opE mw md ms mt fx fz tx tz) (leLo (wyC mw md ms mt fx fz tx tz))), .int .i64 (zv (opE mw md ms mt fx fz tx tz) (mHi (wyC mw md ms mt fx fz tx tz)))]) 0 (#[.int .i64 (zv (opE mw md ms mt fx fz tx tz) (leLo (wyC mw md ms mt fx fz tx tz))), .int .i64 (zv (opE mw md ms mt fx fz tx tz) (mHi (wyC mw md ms mt fx fz tx tz)))]) A26 S27 (by kernel_rfl) (by kernel_rfl) rfl (by kernel_rfl) (fun wc S30 => ?_)
  refine s_one (.int .i64 (opE mw md ms mt fx fz tx tz)) A26 S30 (g_assign (by kernel_rfl)) rfl (fun ac A32 => ?_)
  refine wpList_nil ?_
  refine n_then ?_
  refine wp_seq ?_
  refine wp_seq ?_
  refine wp_region_lit ?_
  refine s_one (.int .i64 (opE mw md ms mt fx fz tx tz)) A32 S30 (g_move (by kernel_rfl)) rfl (fun ac A33 => ?_)
  refine s_one (.bool (decide (opE mw md ms mt fx fz tx tz ≠ 0))) A33 S30 (g_bin (u := .int .i64 (opE mw md ms mt fx fz tx tz)) (k := .int .i64 0) (by kernel_rfl) (by kernel_rfl) (fun _ => by kernel_rfl) b_neq) rfl (fun ac A34 => ?_)
  refine wpList_nil ?_
  refine n_then ?_
  refine c_ifb (b := (decide (opE mw md ms mt fx fz tx tz ≠ 0))) A34 (by kernel_rfl) (fun h35 => ?_) (fun h35 => ?_)
  · have p36 := of_decide_eq_true h35
    have zn := of_decide_eq_true h35
    refine wp_seq ?_
    refine wp_region_lit ?_
    refine s_one (.agg #[.int .i64 (zv (opE mw md ms mt fx fz tx tz) (leLo (wyC mw md ms mt fx fz tx tz))), .int .i64 (zv (opE mw md ms mt fx fz tx tz) (mHi (wyC mw md ms mt fx fz tx tz)))]) A34 S30 (g_load (g := g28) (off := 0) 0 (by kernel_rfl) rfl (by kernel_rfl)) rfl (fun ac A37 => ?_)
    refine s_one (.agg #[.int .i64 0, .int .i64 0]) A37 S30 (g_build (r := []) (by kernel_rfl) (fun _ => by kernel_rfl)) rfl (fun ac A38 => ?_)
    refine s_one (.bool (decide ([zv (opE mw md ms mt fx fz tx tz) (leLo (wyC mw md ms mt fx fz tx tz)), zv (opE mw md ms mt fx fz tx tz) (mHi (wyC mw md ms mt fx fz tx tz))] = [0, 0]))) A38 S30 (g_bin (u := .agg #[.int .i64 (zv (opE mw md ms mt fx fz tx tz) (leLo (wyC mw md ms mt fx fz tx tz))), .int .i64 (zv (opE mw md ms mt fx fz tx tz) (mHi (wyC mw md ms mt fx fz tx tz)))]) (k := .agg #[.int .i64 0, .int .i64 0]) (by kernel_rfl) (by kernel_rfl) (fun _ => by kernel_rfl) (q_struct (n := 2) [zv (opE mw md ms mt fx fz tx tz) (leLo (wyC mw md ms mt fx fz tx tz)), zv (opE mw md ms mt fx fz tx tz) (mHi (wyC mw md ms mt fx fz tx tz))] [0, 0] (by kernel_rfl) rfl rfl)) rfl (fun ac A39 => ?_)
    refine s_one (.bool (decide ([zv (opE mw md ms mt fx fz tx tz) (leLo (wyC mw md ms mt fx fz tx tz)), zv (opE mw md ms mt fx fz tx tz) (mHi (wyC mw md ms mt fx fz tx tz))] = [0, 0]))) A39 S30 (g_assign (by kernel_rfl)) rfl (fun ac A40 => ?_)
    refine wpList_nil ?_
    refine n_then ?_
    refine wp_ret ?_
    refine r_then ?_
    refine fin1 (.bool (decide ([zv (opE mw md ms mt fx fz tx tz) (leLo (wyC mw md ms mt fx fz tx tz)), zv (opE mw md ms mt fx fz tx tz) (mHi (wyC mw md ms mt fx fz tx tz))] = [0, 0]))) Try.results5 A40 S30 (rv_tmp (by kernel_rfl)) ⟨?_, S30.kp⟩
    exact congrArg (fun b => Ending.returned (Value.bool b)) (decide_eq_true (by simp only [zv_n zn]))
  · have p41 := of_decide_eq_false h35
    have ze : opE mw md ms mt fx fz tx tz = 0 := by simpa using h35
    have zo := opE_0 ze
    have zm := mdE_0 zo.1
    have zw := wyE_0 zo.2
    refine wp_skip ?_
    refine n_then ?_
    refine wp_seq ?_
    refine wp_seq ?_
    refine c_cut (fun ac wc => Fr 122 ac [(41, .bool ((!(inB sx (-50000) 50000)) || (!(inB ms 0 4)))), (0, .agg #[.int .i64 mw, .int .i64 md, .int .i64 ms, .int .i64 mt, .int .i64 fx, .int .i64 fz, .int .i64 tx, .int .i64 tz]), (1, .int .i64 sx), (2, .agg (ints ws)), (3, .pointer (some ⟨g3, 0, none⟩)), (5, .pointer (some ⟨g7, 0, none⟩)), (6, .bool false), (15, .bool true), (16, .bool false), (18, .pointer (some ⟨g3, 0, none⟩)), (19, .agg #[.int .i64 mw, .int .i64 md, .int .i64 ms, .int .i64 mt]), (20, .pointer (some ⟨g3, 4, none⟩)), (21, .agg #[.int .i64 fx, .int .i64 fz]), (22, .pointer (some ⟨g3, 6, none⟩)), (23, .agg #[.int .i64 tx, .int .i64 tz]), (24, .tuple #[.agg #[.int .i64 (zv (opE mw md ms mt fx fz tx tz) (leLo (wyC mw md ms mt fx fz tx tz))), .int .i64 (zv (opE mw md ms mt fx fz tx tz) (mHi (wyC mw md ms mt fx fz tx tz)))], .int .i64 (opE mw md ms mt fx fz tx tz)]), (17, .tuple #[.agg #[.int .i64 (zv (opE mw md ms mt fx fz tx tz) (leLo (wyC mw md ms mt fx fz tx tz))), .int .i64 (zv (opE mw md ms mt fx fz tx tz) (mHi (wyC mw md ms mt fx fz tx tz)))], .int .i64 (opE mw md ms mt fx fz tx tz)]), (25, .agg #[.int .i64 (zv (opE mw md ms mt fx fz tx tz) (leLo (wyC mw md ms mt fx fz tx tz))), .int .i64 (zv (opE mw md ms mt fx fz tx tz) (mHi (wyC mw md ms mt fx fz tx tz)))]), (26, .int .i64 (opE mw md ms mt fx fz tx tz)), (7, .pointer (some ⟨g28, 0, none⟩)), (8, .int .i64 (opE mw md ms mt fx fz tx tz)), (27, .int .i64 (opE mw md ms mt fx fz tx tz)), (28, .bool (decide (opE mw md ms mt fx fz tx tz ≠ 0)))] ∧ St w0 [⟨g28, 29, #[.int .i64 (zv (opE mw md ms mt fx fz tx tz) (leLo (wyC mw md ms mt fx fz tx tz))), .int .i64 (zv (opE mw md ms mt fx fz tx tz) (mHi (wyC mw md ms mt fx fz tx tz)))], true⟩, ⟨g7, 44, (ints ws), true⟩, ⟨g3, 43, #[.int .i64 mw, .int .i64 md, .int .i64 ms, .int .i64 mt, .int .i64 fx, .int .i64 fz, .int .i64 tx, .int .i64 tz], true⟩] [] wc) ?_ ?_
    · refine wp_region_lit ?_
      refine s_one (.int .i64 sx) A34 S30 (g_move (by kernel_rfl)) rfl (fun ac A42 => ?_)
      refine s_call (fs := #[]) (cp := #[]) (r := [(0, .int .i64 sx), (0, .int .i64 (-50000)), (0, .int .i64 50000)]) #[.int .i64 sx, .int .i64 (-50000), .int .i64 50000] (.bool (inB sx (-50000) 50000)) A42 S30 (Within_s sx (-50000) 50000 _) Try.call26 (by kernel_rfl) (by kernel_rfl) (by kernel_rfl) rfl (fun ac wc A43 S44 => ?_)
      refine s_one (.bool (!(inB sx (-50000) 50000))) A43 S44 (g_un (u := .bool (inB sx (-50000) 50000)) (by kernel_rfl) (fun _ => by kernel_rfl)) rfl (fun ac A46 => ?_)
      refine s_one (.bool (!(inB sx (-50000) 50000))) A46 S44 (g_move (by kernel_rfl)) rfl (fun ac A47 => ?_)
      refine by_bool (!(inB sx (-50000) 50000)) (fun h48 => ?_) (fun h48 => ?_)
      · have h49 : inB sx (-50000) 50000 = false := by simpa using h48
        refine s_not (dj := 35) (b := (!(inB sx (-50000) 50000))) A47 (by kernel_rfl) (by kernel_rfl) h48 rfl (fun ac A50 => ?_)
        refine s_not (dj := 35) (b := (!(inB sx (-50000) 50000))) A50 (by kernel_rfl) (by kernel_rfl) h48 rfl (fun ac A51 => ?_)
        refine s_not (dj := 35) (b := (!(inB sx (-50000) 50000))) A51 (by kernel_rfl) (by kernel_rfl) h48 rfl (fun ac A52 => ?_)
        refine s_not (dj := 35) (b := (!(inB sx (-50000) 50000))) A52 (by kernel_rfl) (by kernel_rfl) h48 rfl (fun ac A53 => ?_)
        refine s_not (dj := 35) (b := (!(inB sx (-50000) 50000))) A53 (by kernel_rfl) (by kernel_rfl) h48 rfl (fun ac A54 => ?_)
        refine s_one (.bool true) A54 S44 (g_pick_t (b := (!(inB sx (-50000) 50000))) (by kernel_rfl) h48 (by kernel_rfl)) rfl (fun ac A55 => ?_)
        refine wpList_nil ?_
        refine n_then ?_
        exact ⟨(A55.slot (A55.slot (A55.slot (A55.slot (A55.slot (A55.slot (A55.slot (A55.slot (A55.slot (A55.slot (A55.slot (A55.slot (A55.slot (A55.slot (A55.slot (A55.slot (A55.slot (A55.slot (A55.slot (A55.slot (A55.slot (A55.slot (A55.slot A55.nil (v := .bool (decide (opE mw md ms mt fx fz tx tz ≠ 0))) (by kernel_rfl) rfl) (v := .int .i64 (opE mw md ms mt fx fz tx tz)) (by kernel_rfl) rfl) (v := .int .i64 (opE mw md ms mt fx fz tx tz)) (by kernel_rfl) rfl) (v := .pointer (some ⟨g28, 0, none⟩)) (by kernel_rfl) rfl) (v := .int .i64 (opE mw md ms mt fx fz tx tz)) (by kernel_rfl) rfl) (v := .agg #[.int .i64 (zv (opE mw md ms mt fx fz tx tz) (leLo (wyC mw md ms mt fx fz tx tz))), .int .i64 (zv (opE mw md ms mt fx fz tx tz) (mHi (wyC mw md ms mt fx fz tx tz)))]) (by kernel_rfl) rfl) (v := .tuple #[.agg #[.int .i64 (zv (opE mw md ms mt fx fz tx tz) (leLo (wyC mw md ms mt fx fz tx tz))), .int .i64 (zv (opE mw md ms mt fx fz tx tz) (mHi (wyC mw md ms mt fx fz tx tz)))], .int .i64 (opE mw md ms mt fx fz tx tz)]) (by kernel_rfl) rfl) (v := .tuple #[.agg #[.int .i64 (zv (opE mw md ms mt fx fz tx tz) (leLo (wyC mw md ms mt fx fz tx tz))), .int .i64 (zv (opE mw md ms mt fx fz tx tz) (mHi (wyC mw md ms mt fx fz tx tz)))], .int .i64 (opE mw md ms mt fx fz tx tz)]) (by kernel_rfl) rfl) (v := .agg #[.int .i64 tx, .int .i64 tz]) (by kernel_rfl) rfl) (v := .pointer (some ⟨g3, 6, none⟩)) (by kernel_rfl) rfl) (v := .agg #[.int .i64 fx, .int .i64 fz]) (by kernel_rfl) rfl) (v := .pointer (some ⟨g3, 4, none⟩)) (by kernel_rfl) rfl) (v := .agg #[.int .i64 mw, .int .i64 md, .int .i64 ms, .int .i64 mt]) (by kernel_rfl) rfl) (v := .pointer (some ⟨g3, 0, none⟩)) (by kernel_rfl) rfl) (v := .bool false) (by kernel_rfl) rfl) (v := .bool true) (by kernel_rfl) rfl) (v := .bool false) (by kernel_rfl) rfl) (v := .pointer (some ⟨g7, 0, none⟩)) (by kernel_rfl) rfl) (v := .pointer (some ⟨g3, 0, none⟩)) (by kernel_rfl) rfl) (v := .agg (ints ws)) (by kernel_rfl) rfl) (v := .int .i64 sx) (by kernel_rfl) rfl) (v := .agg #[.int .i64 mw, .int .i64 md, .int .i64 ms, .int .i64 mt, .int .i64 fx, .int .i64 fz, .int .i64 tx, .int .i64 tz]) (by kernel_rfl) rfl) (v := .bool true) (by kernel_rfl) (congrArg Value.bool (b_ot1 h48).symm)), S44.sub sub_all sub_all⟩
      · have h56 : inB sx (-50000) 50000 = true := by simpa using h48
        have hsx := inB_true.1 h56
        refine s_want (dj := 35) (b := (!(inB sx (-50000) 50000))) A47 (by kernel_rfl) (by kernel_rfl) h48 ?_
        refine s_one (.pointer (some ⟨g3, 0, none⟩)) A47 S44 (g_field (u := .pointer (some ⟨g3, 0, none⟩)) (by kernel_rfl) (fun _ => by kernel_rfl)) rfl (fun ac A57 => ?_)
        refine s_want (dj := 35) (b := (!(inB sx (-50000) 50000))) A57 (by kernel_rfl) (by kernel_rfl) h48 ?_
        refine s_one (.pointer (some ⟨g3, 2, none⟩)) A57 S44 (g_field (u := .pointer (some ⟨g3, 0, none⟩)) (by kernel_rfl) (fun _ => by kernel_rfl)) rfl (fun ac A58 => ?_)
        refine s_want (dj := 35) (b := (!(inB sx (-50000) 50000))) A58 (by kernel_rfl) (by kernel_rfl) h48 ?_
        refine s_one (.int .i64 ms) A58 S44 (g_load (g := g3) (off := 2) 2 (by kernel_rfl) rfl (by kernel_rfl)) rfl (fun ac A59 => ?_)
        refine s_want (dj := 35) (b := (!(inB sx (-50000) 50000))) A59 (by kernel_rfl) (by kernel_rfl) h48 ?_
        refine s_call (fs := #[]) (cp := #[]) (r := [(0, .int .i64 ms), (0, .int .i64 0), (0, .int .i64 4)]) #[.int .i64 ms, .int .i64 0, .int .i64 4] (.bool (inB ms 0 4)) A59 S44 (Within_s ms 0 4 _) Try.call26 (by kernel_rfl) (by kernel_rfl) (by kernel_rfl) rfl (fun ac wc A60 S61 => ?_)
        refine s_want (dj := 35) (b := (!(inB sx (-50000) 50000))) A60 (by kernel_rfl) (by kernel_rfl) h48 ?_
        refine s_one (.bool (!(inB ms 0 4))) A60 S61 (g_un (u := .bool (inB ms 0 4)) (by kernel_rfl) (fun _ => by kernel_rfl)) rfl (fun ac A63 => ?_)
        refine s_one (.bool (!(inB ms 0 4))) A63 S61 (g_pick_f (b := (!(inB sx (-50000) 50000))) (by kernel_rfl) h48 (by kernel_rfl)) rfl (fun ac A64 => ?_)
        refine wpList_nil ?_
        refine n_then ?_
        exact ⟨(A64.slot (A64.slot (A64.slot (A64.slot (A64.slot (A64.slot (A64.slot (A64.slot (A64.slot (A64.slot (A64.slot (A64.slot (A64.slot (A64.slot (A64.slot (A64.slot (A64.slot (A64.slot (A64.slot (A64.slot (A64.slot (A64.slot (A64.slot A64.nil (v := .bool (decide (opE mw md ms mt fx fz tx tz ≠ 0))) (by kernel_rfl) rfl) (v := .int .i64 (opE mw md ms mt fx fz tx tz)) (by kernel_rfl) rfl) (v := .int .i64 (opE mw md ms mt fx fz tx tz)) (by kernel_rfl) rfl) (v := .pointer (some ⟨g28, 0, none⟩)) (by kernel_rfl) rfl) (v := .int .i64 (opE mw md ms mt fx fz tx tz)) (by kernel_rfl) rfl) (v := .agg #[.int .i64 (zv (opE mw md ms mt fx fz tx tz) (leLo (wyC mw md ms mt fx fz tx tz))), .int .i64 (zv (opE mw md ms mt fx fz tx tz) (mHi (wyC mw md ms mt fx fz tx tz)))]) (by kernel_rfl) rfl) (v := .tuple #[.agg #[.int .i64 (zv (opE mw md ms mt fx fz tx tz) (leLo (wyC mw md ms mt fx fz tx tz))), .int .i64 (zv (opE mw md ms mt fx fz tx tz) (mHi (wyC mw md ms mt fx fz tx tz)))], .int .i64 (opE mw md ms mt fx fz tx tz)]) (by kernel_rfl) rfl) (v := .tuple #[.agg #[.int .i64 (zv (opE mw md ms mt fx fz tx tz) (leLo (wyC mw md ms mt fx fz tx tz))), .int .i64 (zv (opE mw md ms mt fx fz tx tz) (mHi (wyC mw md ms mt fx fz tx tz)))], .int .i64 (opE mw md ms mt fx fz tx tz)]) (by kernel_rfl) rfl) (v := .agg #[.int .i64 tx, .int .i64 tz]) (by kernel_rfl) rfl) (v := .pointer (some ⟨g3, 6, none⟩)) (by kernel_rfl) rfl) (v := .agg #[.int .i64 fx, .int .i64 fz]) (by kernel_rfl) rfl) (v := .pointer (some ⟨g3, 4, none⟩)) (by kernel_rfl) rfl) (v := .agg #[.int .i64 mw, .int .i64 md, .int .i64 ms, .int .i64 mt]) (by kernel_rfl) rfl) (v := .pointer (some ⟨g3, 0, none⟩)) (by kernel_rfl) rfl) (v := .bool false) (by kernel_rfl) rfl) (v := .bool true) (by kernel_rfl) rfl) (v := .bool false) (by kernel_rfl) rfl) (v := .pointer (some ⟨g7, 0, none⟩)) (by kernel_rfl) rfl) (v := .pointer (some ⟨g3, 0, none⟩)) (by kernel_rfl) rfl) (v := .agg (ints ws)) (by kernel_rfl) rfl) (v := .int .i64 sx) (by kernel_rfl) rfl) (v := .agg #[.int .i64 mw, .int .i64 md, .int .i64 ms, .int .i64 mt, .int .i64 fx, .int .i64 fz, .int .i64 tx, .int .i64 tz]) (by kernel_rfl) rfl) (v := .bool (!(inB ms 0 4))) (by kernel_rfl) (congrArg Value.bool (b_or_f h48 (Eq.refl (!(inB ms 0 4)))).symm)), S61.sub sub_all sub_all⟩
    · rintro ac wc ⟨A65, S66⟩
      refine n_then ?_
      refine c_ifb (b := ((!(inB sx (-50000) 50000)) || (!(inB ms 0 4)))) A65 (by kernel_rfl) (fun h67 => ?_) (fun h67 => ?_)
      · refine wp_seq ?_
        refine wp_region_lit ?_
        refine s_one (.pointer (some ⟨g3, 0, none⟩)) A65 S66 (g_field (u := .pointer (some ⟨g3, 0, none⟩)) (by kernel_rfl) (fun _ => by kernel_rfl)) rfl (fun ac A68 => ?_)
        refine s_one (.pointer (some ⟨g3, 2, none⟩)) A68 S66 (g_field (u := .pointer (some ⟨g3, 0, none⟩)) (by kernel_rfl) (fun _ => by kernel_rfl)) rfl (fun ac A69 => ?_)
        refine s_one (.int .i64 ms) A69 S66 (g_load (g := g3) (off := 2) 2 (by kernel_rfl) rfl (by kernel_rfl)) rfl (fun ac A70 => ?_)
        refine s_call (fs := #[]) (cp := #[]) (r := [(0, .int .i64 ms), (0, .int .i64 0), (0, .int .i64 4)]) #[.int .i64 ms, .int .i64 0, .int .i64 4] (.bool (inB ms 0 4)) A70 S66 (Within_s ms 0 4 _) Try.call26 (by kernel_rfl) (by kernel_rfl) (by kernel_rfl) rfl (fun ac wc A71 S72 => ?_)
        refine s_one (.bool (inB ms 0 4)) A71 S72 (g_assign (by kernel_rfl)) rfl (fun ac A74 => ?_)
        refine wpList_nil ?_
        refine n_then ?_
        refine wp_ret ?_
        refine r_then ?_
        refine fin1 (.bool (inB ms 0 4)) Try.results5 A74 S72 (rv_tmp (by kernel_rfl)) ⟨?_, S72.kp⟩
        exact congrArg (fun b => Ending.returned (Value.bool b)) (inB_true.2 zm.2.2.1)
      · have h75 := (Bool.or_eq_false_iff.1 h67).1
        have h76 : inB sx (-50000) 50000 = true := by simpa using h75
        have hsx := inB_true.1 h76
        have h77 := (Bool.or_eq_false_iff.1 h67).2
        have h78 : inB ms 0 4 = true := by simpa using h77
        refine wp_skip ?_
        refine n_then ?_
        refine wp_seq ?_
        refine wp_region_lit ?_
        refine s_one (.int .i64 sx) A65 S66 (g_move (by kernel_rfl)) rfl (fun ac A79 => ?_)
        refine s_one (.agg #[.int .i64 sx, .int .i64 0]) A79 S66 (g_build (r := [(0, .int .i64 sx)]) (by kernel_rfl) (fun _ => by kernel_rfl)) rfl (fun ac A80 => ?_)
        refine s_alloc (#[.int .i64 0, .int .i64 0]) A80 S66 (by kernel_rfl) rfl (fun g83 ac wc A81 S82 => ?_)
        refine s_store (g := g83) (off := 0) (v := .agg #[.int .i64 sx, .int .i64 0]) 0 (#[.int .i64 sx, .int .i64 0]) A81 S82 (by kernel_rfl) (by kernel_rfl) rfl (by kernel_rfl) (fun wc S85 => ?_)
        refine wpList_nil ?_
        refine n_then ?_
        refine wp_seq ?_
        refine wp_region_lit ?_
        refine s_one (.pointer (some ⟨g3, 4, none⟩)) A81 S85 (g_field (u := .pointer (some ⟨g3, 0, none⟩)) (by kernel_rfl) (fun _ => by kernel_rfl)) rfl (fun ac A87 => ?_)
        refine s_one (.agg #[.int .i64 fx, .int .i64 fz]) A87 S85 (g_load (g := g3) (off := 4) 3 (by kernel_rfl) rfl (by kernel_rfl)) rfl (fun ac A88 => ?_)
        refine s_one (.agg #[.int .i64 sx, .int .i64 0]) A88 S85 (g_load (g := g83) (off := 0) 0 (by kernel_rfl) rfl (by kernel_rfl)) rfl (fun ac A89 => ?_)
        refine s_one (.pointer (some ⟨g3, 0, none⟩)) A89 S85 (g_field (u := .pointer (some ⟨g3, 0, none⟩)) (by kernel_rfl) (fun _ => by kernel_rfl)) rfl (fun ac A90 => ?_)
        refine s_one (.pointer (some ⟨g3, 0, none⟩)) A90 S85 (g_field (u := .pointer (some ⟨g3, 0, none⟩)) (by kernel_rfl) (fun _ => by kernel_rfl)) rfl (fun ac A91 => ?_)
        refine s_one (.int .i64 mw) A91 S85 (g_load (g := g3) (off := 0) 3 (by kernel_rfl) rfl (by kernel_rfl)) rfl (fun ac A92 => ?_)
        have q96 := len_bd (x := fx - sx) (z := fz - 0) (by omega) (by omega)
        have q97 := tH_bd (l := lenU (fx - sx) (fz - 0)) (v := mw) (by omega) (by omega) (by omega)
        refine s_call (fs := #[]) (cp := #[]) (r := [(0, .agg #[.int .i64 fx, .int .i64 fz]), (0, .agg #[.int .i64 sx, .int .i64 0]), (0, .int .i64 mw)]) #[.agg #[.int .i64 fx, .int .i64 fz], .agg #[.int .i64 sx, .int .i64 0], .int .i64 mw] (.tuple #[.agg #[.int .i64 (tLo (lenL (fx - sx) (fz - 0)) mw), .int .i64 (tHi (lenU (fx - sx) (fz - 0)) mw)], .int .i64 0]) A92 S85 (TimeOf_ok fx fz sx 0 mw _ (by omega) (by omega) (by omega)) Try.call29 (by kernel_rfl) (by kernel_rfl) (by kernel_rfl) rfl (fun ac wc A93 S94 => ?_)
        refine s_one (.tuple #[.agg #[.int .i64 (tLo (lenL (fx - sx) (fz - 0)) mw), .int .i64 (tHi (lenU (fx - sx) (fz - 0)) mw)], .int .i64 0]) A93 S94 (g_move (by kernel_rfl)) rfl (fun ac A98 => ?_)
        refine s_one (.agg #[.int .i64 (tLo (lenL (fx - sx) (fz - 0)) mw), .int .i64 (tHi (lenU (fx - sx) (fz - 0)) mw)]) A98 S94 (g_extract (u := .tuple #[.agg #[.int .i64 (tLo (lenL (fx - sx) (fz - 0)) mw), .int .i64 (tHi (lenU (fx - sx) (fz - 0)) mw)], .int .i64 0]) (by kernel_rfl) (fun _ => by kernel_rfl)) rfl (fun ac A99 => ?_)
        refine s_one (.int .i64 0) A99 S94 (g_extract (u := .tuple #[.agg #[.int .i64 (tLo (lenL (fx - sx) (fz - 0)) mw), .int .i64 (tHi (lenU (fx - sx) (fz - 0)) mw)], .int .i64 0]) (by kernel_rfl) (fun _ => by kernel_rfl)) rfl (fun ac A100 => ?_)
        refine s_alloc (#[.int .i64 0, .int .i64 0]) A100 S94 (by kernel_rfl) rfl (fun g103 ac wc A101 S102 => ?_)
        refine s_store (g := g103) (off := 0) (v := .agg #[.int .i64 (tLo (lenL (fx - sx) (fz - 0)) mw), .int .i64 (tHi (lenU (fx - sx) (fz - 0)) mw)]) 0 (#[.int .i64 (tLo (lenL (fx - sx) (fz - 0)) mw), .int .i64 (tHi (lenU (fx - sx) (fz - 0)) mw)]) A101 S102 (by kernel_rfl) (by kernel_rfl) rfl (by kernel_rfl) (fun wc S105 => ?_)
        refine s_one (.int .i64 0) A101 S105 (g_assign (by kernel_rfl)) rfl (fun ac A107 => ?_)
        refine wpList_nil ?_
        refine n_then ?_
        refine wp_seq ?_
        refine wp_seq ?_
        refine wp_region_lit ?_
        refine s_one (.int .i64 0) A107 S105 (g_move (by kernel_rfl)) rfl (fun ac A108 => ?_)
        refine s_one (.bool (decide (0 ≠ 0))) A108 S105 (g_bin (u := .int .i64 0) (k := .int .i64 0) (by kernel_rfl) (by kernel_rfl) (fun _ => by kernel_rfl) b_neq) rfl (fun ac A109 => ?_)
        refine wpList_nil ?_
        refine n_then ?_
        refine c_f (b := (decide (0 ≠ 0))) A109 (by kernel_rfl) (by decide) ?_
        refine wp_skip ?_
        refine n_then ?_
        refine wp_seq ?_
        refine wp_region_lit ?_
        refine s_one (.pointer (some ⟨g103, 1, none⟩)) A109 S105 (g_field (u := .pointer (some ⟨g103, 0, none⟩)) (by kernel_rfl) (fun _ => by kernel_rfl)) rfl (fun ac A110 => ?_)
        refine s_one (.int .i64 (tHi (lenU (fx - sx) (fz - 0)) mw)) A110 S105 (g_load (g := g103) (off := 1) 0 (by kernel_rfl) rfl (by kernel_rfl)) rfl (fun ac A111 => ?_)
        refine s_one (.int .i64 (tHi (lenU (fx - sx) (fz - 0)) mw)) A111 S105 (g_assign (by kernel_rfl)) rfl (fun ac A112 => ?_)
        refine wpList_nil ?_
        refine n_then ?_
        refine wp_seq ?_
        refine wp_seq ?_
        refine wp_region_lit ?_
        refine s_one (.int .i64 0) A112 S105 (g_assign (by kernel_rfl)) rfl (fun ac A113 => ?_)
        refine wpList_nil ?_
        refine n_then ?_
        refine wp_block ?_
        refine c_loopN (fun mm ac wc => ∃ (j : Nat) (S : Int) (U : Int) (ax : Int) (az : Int) (p : Int) (q : Int), mm = (ms - (j : Int)).toNat ∧ ((j : Int) ≤ ms) ∧ (0 ≤ U) ∧ (lenN (ax - sx) ((j : Int) * mt) ≤ U * U) ∧ (tHi U md ≤ S) ∧ (-50000 ≤ ax ∧ ax ≤ 50000) ∧ ((j % 2 = 0 ∧ az = 0) ∨ (j % 2 = 1 ∧ az = mt)) ∧ (0 ≤ S ∧ S ≤ (j : Int) * 6000000000) ∧ Fr 122 ac [(0, .agg #[.int .i64 mw, .int .i64 md, .int .i64 ms, .int .i64 mt, .int .i64 fx, .int .i64 fz, .int .i64 tx, .int .i64 tz]), (1, .int .i64 sx), (2, .agg (ints ws)), (3, .pointer (some ⟨g3, 0, none⟩)), (5, .pointer (some ⟨g7, 0, none⟩)), (15, .bool true), (16, .bool false), (18, .pointer (some ⟨g3, 0, none⟩)), (19, .agg #[.int .i64 mw, .int .i64 md, .int .i64 ms, .int .i64 mt]), (20, .pointer (some ⟨g3, 4, none⟩)), (21, .agg #[.int .i64 fx, .int .i64 fz]), (22, .pointer (some ⟨g3, 6, none⟩)), (23, .agg #[.int .i64 tx, .int .i64 tz]), (24, .tuple #[.agg #[.int .i64 (zv (opE mw md ms mt fx fz tx tz) (leLo (wyC mw md ms mt fx fz tx tz))), .int .i64 (zv (opE mw md ms mt fx fz tx tz) (mHi (wyC mw md ms mt fx fz tx tz)))], .int .i64 (opE mw md ms mt fx fz tx tz)]), (17, .tuple #[.agg #[.int .i64 (zv (opE mw md ms mt fx fz tx tz) (leLo (wyC mw md ms mt fx fz tx tz))), .int .i64 (zv (opE mw md ms mt fx fz tx tz) (mHi (wyC mw md ms mt fx fz tx tz)))], .int .i64 (opE mw md ms mt fx fz tx tz)]), (25, .agg #[.int .i64 (zv (opE mw md ms mt fx fz tx tz) (leLo (wyC mw md ms mt fx fz tx tz))), .int .i64 (zv (opE mw md ms mt fx fz tx tz) (mHi (wyC mw md ms mt fx fz tx tz)))]), (26, .int .i64 (opE mw md ms mt fx fz tx tz)), (7, .pointer (some ⟨g28, 0, none⟩)), (8, .int .i64 (opE mw md ms mt fx fz tx tz)), (27, .int .i64 (opE mw md ms mt fx fz tx tz)), (28, .bool (decide (opE mw md ms mt fx fz tx tz ≠ 0))), (41, .bool ((!(inB sx (-50000) 50000)) || (!(inB ms 0 4)))), (46, .int .i64 sx), (47, .agg #[.int .i64 sx, .int .i64 0]), (9, .pointer (some ⟨g83, 0, none⟩)), (49, .pointer (some ⟨g3, 4, none⟩)), (50, .agg #[.int .i64 fx, .int .i64 fz]), (51, .agg #[.int .i64 sx, .int .i64 0]), (52, .pointer (some ⟨g3, 0, none⟩)), (53, .pointer (some ⟨g3, 0, none⟩)), (54, .int .i64 mw), (55, .tuple #[.agg #[.int .i64 (tLo (lenL (fx - sx) (fz - 0)) mw), .int .i64 (tHi (lenU (fx - sx) (fz - 0)) mw)], .int .i64 0]), (48, .tuple #[.agg #[.int .i64 (tLo (lenL (fx - sx) (fz - 0)) mw), .int .i64 (tHi (lenU (fx - sx) (fz - 0)) mw)], .int .i64 0]), (56, .agg #[.int .i64 (tLo (lenL (fx - sx) (fz - 0)) mw), .int .i64 (tHi (lenU (fx - sx) (fz - 0)) mw)]), (57, .int .i64 0), (10, .pointer (some ⟨g103, 0, none⟩)), (58, .int .i64 0), (59, .bool (decide (0 ≠ 0))), (60, .pointer (some ⟨g103, 1, none⟩)), (61, .int .i64 (tHi (lenU (fx - sx) (fz - 0)) mw)), (13, .int .i64 (j : Int)), (12, .int .i64 (tHi (lenU (fx - sx) (fz - 0)) mw + S))] ∧ St w0 [⟨g103, 29, #[.int .i64 p, .int .i64 q], true⟩, ⟨g83, 41, #[.int .i64 ax, .int .i64 az], true⟩, ⟨g28, 29, #[.int .i64 (zv (opE mw md ms mt fx fz tx tz) (leLo (wyC mw md ms mt fx fz tx tz))), .int .i64 (zv (opE mw md ms mt fx fz tx tz) (mHi (wyC mw md ms mt fx fz tx tz)))], true⟩, ⟨g7, 44, (ints ws), true⟩, ⟨g3, 43, #[.int .i64 mw, .int .i64 md, .int .i64 ms, .int .i64 mt, .int .i64 fx, .int .i64 fz, .int .i64 tx, .int .i64 tz], true⟩] [] wc) _ ⟨0, 0, 0, sx, 0, (tLo (lenL (fx - sx) (fz - 0)) mw), (tHi (lenU (fx - sx) (fz - 0)) mw), rfl, (by omega), (by omega), (by have := (way_first sx md).1; rw [show ((0 : Nat) : Int) * mt = 0 by omega]; exact this), (way_first sx md).2, (by omega), (.inl ⟨rfl, rfl⟩), (by omega), (A113.slot (A113.slot (A113.slot (A113.slot (A113.slot (A113.slot (A113.slot (A113.slot (A113.slot (A113.slot (A113.slot (A113.slot (A113.slot (A113.slot (A113.slot (A113.slot (A113.slot (A113.slot (A113.slot (A113.slot (A113.slot (A113.slot (A113.slot (A113.slot (A113.slot (A113.slot (A113.slot (A113.slot (A113.slot (A113.slot (A113.slot (A113.slot (A113.slot (A113.slot (A113.slot (A113.slot (A113.slot (A113.slot (A113.slot (A113.slot (A113.slot (A113.slot A113.nil (v := .int .i64 (tHi (lenU (fx - sx) (fz - 0)) mw)) (by kernel_rfl) (congrArg (Value.int .i64) (by omega))) (v := .int .i64 0) (by kernel_rfl) (congrArg (Value.int .i64) (by omega))) (v := .int .i64 (tHi (lenU (fx - sx) (fz - 0)) mw)) (by kernel_rfl) rfl) (v := .pointer (some ⟨g103, 1, none⟩)) (by kernel_rfl) rfl) (v := .bool (decide (0 ≠ 0))) (by kernel_rfl) rfl) (v := .int .i64 0) (by kernel_rfl) rfl) (v := .pointer (some ⟨g103, 0, none⟩)) (by kernel_rfl) rfl) (v := .int .i64 0) (by kernel_rfl) rfl) (v := .agg #[.int .i64 (tLo (lenL (fx - sx) (fz - 0)) mw), .int .i64 (tHi (lenU (fx - sx) (fz - 0)) mw)]) (by kernel_rfl) rfl) (v := .tuple #[.agg #[.int .i64 (tLo (lenL (fx - sx) (fz - 0)) mw), .int .i64 (tHi (lenU (fx - sx) (fz - 0)) mw)], .int .i64 0]) (by kernel_rfl) rfl) (v := .tuple #[.agg #[.int .i64 (tLo (lenL (fx - sx) (fz - 0)) mw), .int .i64 (tHi (lenU (fx - sx) (fz - 0)) mw)], .int .i64 0]) (by kernel_rfl) rfl) (v := .int .i64 mw) (by kernel_rfl) rfl) (v := .pointer (some ⟨g3, 0, none⟩)) (by kernel_rfl) rfl) (v := .pointer (some ⟨g3, 0, none⟩)) (by kernel_rfl) rfl) (v := .agg #[.int .i64 sx, .int .i64 0]) (by kernel_rfl) rfl) (v := .agg #[.int .i64 fx, .int .i64 fz]) (by kernel_rfl) rfl) (v := .pointer (some ⟨g3, 4, none⟩)) (by kernel_rfl) rfl) (v := .pointer (some ⟨g83, 0, none⟩)) (by kernel_rfl) rfl) (v := .agg #[.int .i64 sx, .int .i64 0]) (by kernel_rfl) rfl) (v := .int .i64 sx) (by kernel_rfl) rfl) (v := .bool ((!(inB sx (-50000) 50000)) || (!(inB ms 0 4)))) (by kernel_rfl) rfl) (v := .bool (decide (opE mw md ms mt fx fz tx tz ≠ 0))) (by kernel_rfl) rfl) (v := .int .i64 (opE mw md ms mt fx fz tx tz)) (by kernel_rfl) rfl) (v := .int .i64 (opE mw md ms mt fx fz tx tz)) (by kernel_rfl) rfl) (v := .pointer (some ⟨g28, 0, none⟩)) (by kernel_rfl) rfl) (v := .int .i64 (opE mw md ms mt fx fz tx tz)) (by kernel_rfl) rfl) (v := .agg #[.int .i64 (zv (opE mw md ms mt fx fz tx tz) (leLo (wyC mw md ms mt fx fz tx tz))), .int .i64 (zv (opE mw md ms mt fx fz tx tz) (mHi (wyC mw md ms mt fx fz tx tz)))]) (by kernel_rfl) rfl) (v := .tuple #[.agg #[.int .i64 (zv (opE mw md ms mt fx fz tx tz) (leLo (wyC mw md ms mt fx fz tx tz))), .int .i64 (zv (opE mw md ms mt fx fz tx tz) (mHi (wyC mw md ms mt fx fz tx tz)))], .int .i64 (opE mw md ms mt fx fz tx tz)]) (by kernel_rfl) rfl) (v := .tuple #[.agg #[.int .i64 (zv (opE mw md ms mt fx fz tx tz) (leLo (wyC mw md ms mt fx fz tx tz))), .int .i64 (zv (opE mw md ms mt fx fz tx tz) (mHi (wyC mw md ms mt fx fz tx tz)))], .int .i64 (opE mw md ms mt fx fz tx tz)]) (by kernel_rfl) rfl) (v := .agg #[.int .i64 tx, .int .i64 tz]) (by kernel_rfl) rfl) (v := .pointer (some ⟨g3, 6, none⟩)) (by kernel_rfl) rfl) (v := .agg #[.int .i64 fx, .int .i64 fz]) (by kernel_rfl) rfl) (v := .pointer (some ⟨g3, 4, none⟩)) (by kernel_rfl) rfl) (v := .agg #[.int .i64 mw, .int .i64 md, .int .i64 ms, .int .i64 mt]) (by kernel_rfl) rfl) (v := .pointer (some ⟨g3, 0, none⟩)) (by kernel_rfl) rfl) (v := .bool false) (by kernel_rfl) rfl) (v := .bool true) (by kernel_rfl) rfl) (v := .pointer (some ⟨g7, 0, none⟩)) (by kernel_rfl) rfl) (v := .pointer (some ⟨g3, 0, none⟩)) (by kernel_rfl) rfl) (v := .agg (ints ws)) (by kernel_rfl) rfl) (v := .int .i64 sx) (by kernel_rfl) rfl) (v := .agg #[.int .i64 mw, .int .i64 md, .int .i64 ms, .int .i64 mt, .int .i64 fx, .int .i64 fz, .int .i64 tx, .int .i64 tz]) (by kernel_rfl) rfl), (St.recell 1 (St.recell 0 S105 rfl (by rfl)) rfl (by rfl)).sub sub_all sub_all⟩ ?_
        rintro mm ac wc ⟨j, S, U, ax, az, p, q, hm116, hj, hU, hN, hS, hax, haz, hS2, A114, S115⟩
        have htm := Int.tmod_eq_emod_of_nonneg (a := (j : Int)) (b := 2) (by omega)
        refine wp_seq ?_
        refine wp_seq ?_
        refine wp_region_lit ?_
        refine s_one (.int .i64 (j : Int)) A114 S115 (g_move (by kernel_rfl)) rfl (fun ac A117 => ?_)
        refine s_one (.pointer (some ⟨g3, 0, none⟩)) A117 S115 (g_field (u := .pointer (some ⟨g3, 0, none⟩)) (by kernel_rfl) (fun _ => by kernel_rfl)) rfl (fun ac A118 => ?_)
        refine s_one (.pointer (some ⟨g3, 2, none⟩)) A118 S115 (g_field (u := .pointer (some ⟨g3, 0, none⟩)) (by kernel_rfl) (fun _ => by kernel_rfl)) rfl (fun ac A119 => ?_)
        refine s_one (.int .i64 ms) A119 S115 (g_load (g := g3) (off := 2) 4 (by kernel_rfl) rfl (by kernel_rfl)) rfl (fun ac A120 => ?_)
        refine s_one (.bool (decide ((j : Int) < ms))) A120 S115 (g_bin (u := .int .i64 (j : Int)) (k := .int .i64 ms) (by kernel_rfl) (by kernel_rfl) (fun _ => by kernel_rfl) (fun _ => by kernel_rfl)) rfl (fun ac A121 => ?_)
        refine wpList_nil ?_
        refine n_then ?_
        refine c_ifb (b := (decide ((j : Int) < ms))) A121 (by kernel_rfl) (fun h122 => ?_) (fun h122 => ?_)
        · have p123 := of_decide_eq_true h122
          refine wp_skip ?_
          refine n_then ?_
          refine wp_seq ?_
          refine wp_block ?_
          refine wp_seq ?_
          refine wp_seq ?_
          refine wp_region_lit ?_
          refine s_one (.int .i64 (j : Int)) A121 S115 (g_move (by kernel_rfl)) rfl (fun ac A124 => ?_)
          refine s_one (.pointer (some ⟨g7, j, none⟩)) A124 S115 (g_index (u := .pointer (some ⟨g7, 0, none⟩)) (k := .int .i64 (j : Int)) (by kernel_rfl) (by kernel_rfl) (ix_arr1 j (len := 4) (by kernel_rfl) (by omega) (by omega))) rfl (fun ac A125 => ?_)
          refine s_one (.int .i64 (nthI ws j)) A125 S115 (g_load (g := g7) (off := j) 3 (by kernel_rfl) rfl (rv_of (by kernel_rfl) (ints_get (by rw [hlw]; omega)))) rfl (fun ac A126 => ?_)
          refine s_call (fs := #[]) (cp := #[]) (r := [(0, .int .i64 (nthI ws j)), (0, .int .i64 (-50000)), (0, .int .i64 50000)]) #[.int .i64 (nthI ws j), .int .i64 (-50000), .int .i64 50000] (.bool (inB (nthI ws j) (-50000) 50000)) A126 S115 (Within_s (nthI ws j) (-50000) 50000 _) Try.call26 (by kernel_rfl) (by kernel_rfl) (by kernel_rfl) rfl (fun ac wc A127 S128 => ?_)
          refine s_one (.bool (!(inB (nthI ws j) (-50000) 50000))) A127 S128 (g_un (u := .bool (inB (nthI ws j) (-50000) 50000)) (by kernel_rfl) (fun _ => by kernel_rfl)) rfl (fun ac A130 => ?_)
          refine wpList_nil ?_
          refine n_then ?_
          refine c_ifb (b := (!(inB (nthI ws j) (-50000) 50000))) A130 (by kernel_rfl) (fun h131 => ?_) (fun h131 => ?_)
          · have h132 : inB (nthI ws j) (-50000) 50000 = false := by simpa using h131
            refine wp_seq ?_
            refine wp_region_lit ?_
            refine s_one (.bool true) A130 S128 (g_assign (by kernel_rfl)) rfl (fun ac A133 => ?_)
            refine wpList_nil ?_
            refine n_then ?_
            refine wp_ret ?_
            refine r_then ?_
            refine r_block ?_
            refine r_then ?_
            refine r_then ?_
            refine r_block ?_
            refine r_then ?_
            refine fin1 (.bool true) Try.results5 A133 S128 (rv_tmp (by kernel_rfl)) ⟨?_, S128.kp⟩
            rfl
          · have h134 : inB (nthI ws j) (-50000) 50000 = true := by simpa using h131
            have hwx := inB_true.1 h134
            refine wp_skip ?_
            refine n_then ?_
            refine wp_seq ?_
            refine wp_region_lit ?_
            refine s_one (.int .i64 (j : Int)) A130 S128 (g_move (by kernel_rfl)) rfl (fun ac A135 => ?_)
            refine s_one (.pointer (some ⟨g7, j, none⟩)) A135 S128 (g_index (u := .pointer (some ⟨g7, 0, none⟩)) (k := .int .i64 (j : Int)) (by kernel_rfl) (by kernel_rfl) (ix_arr1 j (len := 4) (by kernel_rfl) (by omega) (by omega))) rfl (fun ac A136 => ?_)
            refine s_one (.int .i64 (nthI ws j)) A136 S128 (g_load (g := g7) (off := j) 3 (by kernel_rfl) rfl (rv_of (by kernel_rfl) (ints_get (by rw [hlw]; omega)))) rfl (fun ac A137 => ?_)
            refine s_one (.agg #[.int .i64 (nthI ws j), .int .i64 0]) A137 S128 (g_build (r := [(0, .int .i64 (nthI ws j))]) (by kernel_rfl) (fun _ => by kernel_rfl)) rfl (fun ac A138 => ?_)
            refine s_alloc (#[.int .i64 0, .int .i64 0]) A138 S128 (by kernel_rfl) rfl (fun g141 ac wc A139 S140 => ?_)
            refine s_store (g := g141) (off := 0) (v := .agg #[.int .i64 (nthI ws j), .int .i64 0]) 0 (#[.int .i64 (nthI ws j), .int .i64 0]) A139 S140 (by kernel_rfl) (by kernel_rfl) rfl (by kernel_rfl) (fun wc S143 => ?_)
            refine wpList_nil ?_
            refine n_then ?_
            refine wp_seq ?_
            refine wp_seq ?_
            refine wp_region_lit ?_
            refine s_one (.int .i64 (j : Int)) A139 S143 (g_move (by kernel_rfl)) rfl (fun ac A145 => ?_)
            refine s_one (.int .i64 (((j : Int)).tmod 2)) A145 S143 (g_bin (u := .int .i64 (j : Int)) (k := .int .i64 2) (by kernel_rfl) (by kernel_rfl) (fun _ => by kernel_rfl) (b_rem (by omega))) rfl (fun ac A146 => ?_)
            refine s_one (.bool (decide (((j : Int)).tmod 2 = 0))) A146 S143 (g_bin (u := .int .i64 (((j : Int)).tmod 2)) (k := .int .i64 0) (by kernel_rfl) (by kernel_rfl) (fun _ => by kernel_rfl) b_eql) rfl (fun ac A147 => ?_)
            refine wpList_nil ?_
            refine n_then ?_
            refine c_ifb (b := (decide (((j : Int)).tmod 2 = 0))) A147 (by kernel_rfl) (fun h148 => ?_) (fun h148 => ?_)
            · have p149 := of_decide_eq_true h148
              refine wp_region_lit ?_
              refine s_one (.pointer (some ⟨g3, 0, none⟩)) A147 S143 (g_field (u := .pointer (some ⟨g3, 0, none⟩)) (by kernel_rfl) (fun _ => by kernel_rfl)) rfl (fun ac A150 => ?_)
              refine s_one (.pointer (some ⟨g3, 3, none⟩)) A150 S143 (g_field (u := .pointer (some ⟨g3, 0, none⟩)) (by kernel_rfl) (fun _ => by kernel_rfl)) rfl (fun ac A151 => ?_)
              refine s_one (.int .i64 mt) A151 S143 (g_load (g := g3) (off := 3) 5 (by kernel_rfl) rfl (by kernel_rfl)) rfl (fun ac A152 => ?_)
              refine s_one (.pointer (some ⟨g141, 1, none⟩)) A152 S143 (g_field (u := .pointer (some ⟨g141, 0, none⟩)) (by kernel_rfl) (fun _ => by kernel_rfl)) rfl (fun ac A153 => ?_)
              refine s_store (g := g141) (off := 1) (v := .int .i64 mt) 0 (#[.int .i64 (nthI ws j), .int .i64 mt]) A153 S143 (by kernel_rfl) (by kernel_rfl) rfl (by kernel_rfl) (fun wc S155 => ?_)
              refine wpList_nil ?_
              refine n_then ?_
              refine wp_seq ?_
              refine wp_region_lit ?_
              refine s_one (.agg #[.int .i64 ax, .int .i64 az]) A153 S155 (g_load (g := g83) (off := 0) 2 (by kernel_rfl) rfl (by kernel_rfl)) rfl (fun ac A157 => ?_)
              refine s_one (.agg #[.int .i64 (nthI ws j), .int .i64 mt]) A157 S155 (g_load (g := g141) (off := 0) 0 (by kernel_rfl) rfl (by kernel_rfl)) rfl (fun ac A158 => ?_)
              refine s_one (.pointer (some ⟨g3, 0, none⟩)) A158 S155 (g_field (u := .pointer (some ⟨g3, 0, none⟩)) (by kernel_rfl) (fun _ => by kernel_rfl)) rfl (fun ac A159 => ?_)
              refine s_one (.pointer (some ⟨g3, 1, none⟩)) A159 S155 (g_field (u := .pointer (some ⟨g3, 0, none⟩)) (by kernel_rfl) (fun _ => by kernel_rfl)) rfl (fun ac A160 => ?_)
              refine s_one (.int .i64 md) A160 S155 (g_load (g := g3) (off := 1) 5 (by kernel_rfl) rfl (by kernel_rfl)) rfl (fun ac A161 => ?_)
              have q165 := len_bd (x := ax - (nthI ws j)) (z := az - mt) (by omega) (by omega)
              have q166 := tH_bd (l := lenU (ax - (nthI ws j)) (az - mt)) (v := md) (by omega) (by omega) (by omega)
              refine s_call (fs := #[]) (cp := #[]) (r := [(0, .agg #[.int .i64 ax, .int .i64 az]), (0, .agg #[.int .i64 (nthI ws j), .int .i64 mt]), (0, .int .i64 md)]) #[.agg #[.int .i64 ax, .int .i64 az], .agg #[.int .i64 (nthI ws j), .int .i64 mt], .int .i64 md] (.tuple #[.agg #[.int .i64 (tLo (lenL (ax - (nthI ws j)) (az - mt)) md), .int .i64 (tHi (lenU (ax - (nthI ws j)) (az - mt)) md)], .int .i64 0]) A161 S155 (TimeOf_ok ax az (nthI ws j) mt md _ (by omega) (by omega) (by omega)) Try.call29 (by kernel_rfl) (by kernel_rfl) (by kernel_rfl) rfl (fun ac wc A162 S163 => ?_)
              refine s_one (.tuple #[.agg #[.int .i64 (tLo (lenL (ax - (nthI ws j)) (az - mt)) md), .int .i64 (tHi (lenU (ax - (nthI ws j)) (az - mt)) md)], .int .i64 0]) A162 S163 (g_move (by kernel_rfl)) rfl (fun ac A167 => ?_)
              refine s_one (.agg #[.int .i64 (tLo (lenL (ax - (nthI ws j)) (az - mt)) md), .int .i64 (tHi (lenU (ax - (nthI ws j)) (az - mt)) md)]) A167 S163 (g_extract (u := .tuple #[.agg #[.int .i64 (tLo (lenL (ax - (nthI ws j)) (az - mt)) md), .int .i64 (tHi (lenU (ax - (nthI ws j)) (az - mt)) md)], .int .i64 0]) (by kernel_rfl) (fun _ => by kernel_rfl)) rfl (fun ac A168 => ?_)
              refine s_one (.int .i64 0) A168 S163 (g_extract (u := .tuple #[.agg #[.int .i64 (tLo (lenL (ax - (nthI ws j)) (az - mt)) md), .int .i64 (tHi (lenU (ax - (nthI ws j)) (az - mt)) md)], .int .i64 0]) (by kernel_rfl) (fun _ => by kernel_rfl)) rfl (fun ac A169 => ?_)
              refine s_store (g := g103) (off := 0) (v := .agg #[.int .i64 (tLo (lenL (ax - (nthI ws j)) (az - mt)) md), .int .i64 (tHi (lenU (ax - (nthI ws j)) (az - mt)) md)]) 1 (#[.int .i64 (tLo (lenL (ax - (nthI ws j)) (az - mt)) md), .int .i64 (tHi (lenU (ax - (nthI ws j)) (az - mt)) md)]) A169 S163 (by kernel_rfl) (by kernel_rfl) rfl (by kernel_rfl) (fun wc S171 => ?_)
              refine s_one (.int .i64 0) A169 S171 (g_assign (by kernel_rfl)) rfl (fun ac A173 => ?_)
              refine wpList_nil ?_
              refine n_then ?_
              refine wp_seq ?_
              refine wp_seq ?_
              refine wp_region_lit ?_
              refine s_one (.int .i64 0) A173 S171 (g_move (by kernel_rfl)) rfl (fun ac A174 => ?_)
              refine s_one (.bool (decide (0 ≠ 0))) A174 S171 (g_bin (u := .int .i64 0) (k := .int .i64 0) (by kernel_rfl) (by kernel_rfl) (fun _ => by kernel_rfl) b_neq) rfl (fun ac A175 => ?_)
              refine wpList_nil ?_
              refine n_then ?_
              refine c_f (b := (decide (0 ≠ 0))) A175 (by kernel_rfl) (by decide) ?_
              refine wp_skip ?_
              refine n_then ?_
              refine r_begin (w0 := w0) (by kernel_rfl) (S171.sub (sub_keep (sub_keep (sub_skip sub_all))) sub_all) (fun wc T176 B177 => ?_)
              have S178 := S171.kept B177
              refine r_take 0 (.int .i64 (tHi (lenU (fx - sx) (fz - 0)) mw + S)) A175 T176 (g_move (by kernel_rfl)) rfl rfl rfl (pf_block (pf_then (pf_then (pf_block (pf_then pf_body))))) (by kernel_rfl) (fun ac A179 => ?_)
              refine r_take 1 (.pointer (some ⟨g103, 1, none⟩)) A179 T176 (g_field (u := .pointer (some ⟨g103, 0, none⟩)) (by kernel_rfl) (fun _ => by kernel_rfl)) rfl rfl rfl (pf_block (pf_then (pf_then (pf_block (pf_then pf_body))))) (by kernel_rfl) (fun ac A180 => ?_)
              refine r_take 2 (.int .i64 (tHi (lenU (ax - (nthI ws j)) (az - mt)) md)) A180 T176 (g_load (g := g103) (off := 1) 1 (by kernel_rfl) rfl (by kernel_rfl)) rfl rfl rfl (pf_block (pf_then (pf_then (pf_block (pf_then pf_body))))) (by kernel_rfl) (fun ac A181 => ?_)
              refine r_take 3 (.int .i64 (tHi (lenU (fx - sx) (fz - 0)) mw + S + (tHi (lenU (ax - (nthI ws j)) (az - mt)) md))) A181 T176 (g_bin (u := .int .i64 (tHi (lenU (fx - sx) (fz - 0)) mw + S)) (k := .int .i64 (tHi (lenU (ax - (nthI ws j)) (az - mt)) md)) (by kernel_rfl) (by kernel_rfl) (fun _ => by kernel_rfl) (b_add (by omega))) rfl rfl rfl (pf_block (pf_then (pf_then (pf_block (pf_then pf_body))))) (by kernel_rfl) (fun ac A182 => ?_)
              refine r_take 4 (.agg #[.int .i64 (nthI ws j), .int .i64 mt]) A182 T176 (g_load (g := g141) (off := 0) 0 (by kernel_rfl) rfl (by kernel_rfl)) rfl rfl rfl (pf_block (pf_then (pf_then (pf_block (pf_then pf_body))))) (by kernel_rfl) (fun ac A183 => ?_)
              refine r_take 5 (.int .i64 (tHi (lenU (fx - sx) (fz - 0)) mw + S + (tHi (lenU (ax - (nthI ws j)) (az - mt)) md))) A183 T176 (g_assign (by kernel_rfl)) rfl rfl rfl (pf_block (pf_then (pf_then (pf_block (pf_then pf_body))))) (by kernel_rfl) (fun ac A184 => ?_)
              refine r_1 (i := 6) (by kernel_rfl) ?_
              refine rs_store (g := g83) (off := 0) (v := .agg #[.int .i64 (nthI ws j), .int .i64 mt]) 2 (#[.int .i64 (nthI ws j), .int .i64 mt]) A184 S178 (sub_keep (sub_keep (sub_skip sub_all))) sub_all (by kernel_rfl) (by kernel_rfl) rfl (by kernel_rfl) rfl rfl (fun wc S186 => ?_)
              have T188 := S186.sub (sub_keep (sub_keep (sub_skip sub_all))) sub_all
              refine r_done (by kernel_rfl) ?_
              refine n_block ?_
              refine n_then ?_
              refine wp_region_lit ?_
              refine s_one (.int .i64 (j : Int)) A184 S186 (g_move (by kernel_rfl)) rfl (fun ac A189 => ?_)
              refine s_one (.int .i64 ((j : Int) + 1)) A189 S186 (g_bin (u := .int .i64 (j : Int)) (k := .int .i64 1) (by kernel_rfl) (by kernel_rfl) (fun _ => by kernel_rfl) (b_add (by omega))) rfl (fun ac A190 => ?_)
              refine s_one (.int .i64 ((j : Int) + 1)) A190 S186 (g_assign (by kernel_rfl)) rfl (fun ac A191 => ?_)
              refine wpList_nil ?_
              refine n_then ?_
              have sz := sq_az (az := az) (mt := mt) (by omega)
              obtain ⟨wa, wb, wc⟩ := way_step (wx := nthI ws j) (T := mt) (az := az) (wz := mt) (v := md) (by omega) hU hN hS (sz.1 (by omega))
              refine ⟨_, ⟨j + 1, S + tHi (lenU (ax - (nthI ws j)) (az - mt)) md, U + lenU (ax - (nthI ws j)) (az - mt), nthI ws j, mt, tLo (lenL (ax - (nthI ws j)) (az - mt)) md, tHi (lenU (ax - (nthI ws j)) (az - mt)) md, rfl, (by omega), wa, (by rw [nat_mul1]; exact wb), wc, (by omega), (by omega), (by omega), (A191.slot (A191.slot (A191.slot (A191.slot (A191.slot (A191.slot (A191.slot (A191.slot (A191.slot (A191.slot (A191.slot (A191.slot (A191.slot (A191.slot (A191.slot (A191.slot (A191.slot (A191.slot (A191.slot (A191.slot (A191.slot (A191.slot (A191.slot (A191.slot (A191.slot (A191.slot (A191.slot (A191.slot (A191.slot (A191.slot (A191.slot (A191.slot (A191.slot (A191.slot (A191.slot (A191.slot (A191.slot (A191.slot (A191.slot (A191.slot (A191.slot (A191.slot A191.nil (v := .int .i64 (tHi (lenU (fx - sx) (fz - 0)) mw + S + (tHi (lenU (ax - (nthI ws j)) (az - mt)) md))) (by kernel_rfl) (congrArg (Value.int .i64) (by omega))) (v := .int .i64 ((j : Int) + 1)) (by kernel_rfl) (congrArg (Value.int .i64) (by omega))) (v := .int .i64 (tHi (lenU (fx - sx) (fz - 0)) mw)) (by kernel_rfl) rfl) (v := .pointer (some ⟨g103, 1, none⟩)) (by kernel_rfl) rfl) (v := .bool (decide (0 ≠ 0))) (by kernel_rfl) rfl) (v := .int .i64 0) (by kernel_rfl) rfl) (v := .pointer (some ⟨g103, 0, none⟩)) (by kernel_rfl) rfl) (v := .int .i64 0) (by kernel_rfl) rfl) (v := .agg #[.int .i64 (tLo (lenL (fx - sx) (fz - 0)) mw), .int .i64 (tHi (lenU (fx - sx) (fz - 0)) mw)]) (by kernel_rfl) rfl) (v := .tuple #[.agg #[.int .i64 (tLo (lenL (fx - sx) (fz - 0)) mw), .int .i64 (tHi (lenU (fx - sx) (fz - 0)) mw)], .int .i64 0]) (by kernel_rfl) rfl) (v := .tuple #[.agg #[.int .i64 (tLo (lenL (fx - sx) (fz - 0)) mw), .int .i64 (tHi (lenU (fx - sx) (fz - 0)) mw)], .int .i64 0]) (by kernel_rfl) rfl) (v := .int .i64 mw) (by kernel_rfl) rfl) (v := .pointer (some ⟨g3, 0, none⟩)) (by kernel_rfl) rfl) (v := .pointer (some ⟨g3, 0, none⟩)) (by kernel_rfl) rfl) (v := .agg #[.int .i64 sx, .int .i64 0]) (by kernel_rfl) rfl) (v := .agg #[.int .i64 fx, .int .i64 fz]) (by kernel_rfl) rfl) (v := .pointer (some ⟨g3, 4, none⟩)) (by kernel_rfl) rfl) (v := .pointer (some ⟨g83, 0, none⟩)) (by kernel_rfl) rfl) (v := .agg #[.int .i64 sx, .int .i64 0]) (by kernel_rfl) rfl) (v := .int .i64 sx) (by kernel_rfl) rfl) (v := .bool ((!(inB sx (-50000) 50000)) || (!(inB ms 0 4)))) (by kernel_rfl) rfl) (v := .bool (decide (opE mw md ms mt fx fz tx tz ≠ 0))) (by kernel_rfl) rfl) (v := .int .i64 (opE mw md ms mt fx fz tx tz)) (by kernel_rfl) rfl) (v := .int .i64 (opE mw md ms mt fx fz tx tz)) (by kernel_rfl) rfl) (v := .pointer (some ⟨g28, 0, none⟩)) (by kernel_rfl) rfl) (v := .int .i64 (opE mw md ms mt fx fz tx tz)) (by kernel_rfl) rfl) (v := .agg #[.int .i64 (zv (opE mw md ms mt fx fz tx tz) (leLo (wyC mw md ms mt fx fz tx tz))), .int .i64 (zv (opE mw md ms mt fx fz tx tz) (mHi (wyC mw md ms mt fx fz tx tz)))]) (by kernel_rfl) rfl) (v := .tuple #[.agg #[.int .i64 (zv (opE mw md ms mt fx fz tx tz) (leLo (wyC mw md ms mt fx fz tx tz))), .int .i64 (zv (opE mw md ms mt fx fz tx tz) (mHi (wyC mw md ms mt fx fz tx tz)))], .int .i64 (opE mw md ms mt fx fz tx tz)]) (by kernel_rfl) rfl) (v := .tuple #[.agg #[.int .i64 (zv (opE mw md ms mt fx fz tx tz) (leLo (wyC mw md ms mt fx fz tx tz))), .int .i64 (zv (opE mw md ms mt fx fz tx tz) (mHi (wyC mw md ms mt fx fz tx tz)))], .int .i64 (opE mw md ms mt fx fz tx tz)]) (by kernel_rfl) rfl) (v := .agg #[.int .i64 tx, .int .i64 tz]) (by kernel_rfl) rfl) (v := .pointer (some ⟨g3, 6, none⟩)) (by kernel_rfl) rfl) (v := .agg #[.int .i64 fx, .int .i64 fz]) (by kernel_rfl) rfl) (v := .pointer (some ⟨g3, 4, none⟩)) (by kernel_rfl) rfl) (v := .agg #[.int .i64 mw, .int .i64 md, .int .i64 ms, .int .i64 mt]) (by kernel_rfl) rfl) (v := .pointer (some ⟨g3, 0, none⟩)) (by kernel_rfl) rfl) (v := .bool false) (by kernel_rfl) rfl) (v := .bool true) (by kernel_rfl) rfl) (v := .pointer (some ⟨g7, 0, none⟩)) (by kernel_rfl) rfl) (v := .pointer (some ⟨g3, 0, none⟩)) (by kernel_rfl) rfl) (v := .agg (ints ws)) (by kernel_rfl) rfl) (v := .int .i64 sx) (by kernel_rfl) rfl) (v := .agg #[.int .i64 mw, .int .i64 md, .int .i64 ms, .int .i64 mt, .int .i64 fx, .int .i64 fz, .int .i64 tx, .int .i64 tz]) (by kernel_rfl) rfl), S186.sub (sub_skip sub_all) sub_all⟩, ?_⟩
              omega
            · have p192 := of_decide_eq_false h148
              refine wp_skip ?_
              refine n_then ?_
              refine wp_seq ?_
              refine wp_region_lit ?_
              refine s_one (.agg #[.int .i64 ax, .int .i64 az]) A147 S143 (g_load (g := g83) (off := 0) 2 (by kernel_rfl) rfl (by kernel_rfl)) rfl (fun ac A193 => ?_)
              refine s_one (.agg #[.int .i64 (nthI ws j), .int .i64 0]) A193 S143 (g_load (g := g141) (off := 0) 0 (by kernel_rfl) rfl (by kernel_rfl)) rfl (fun ac A194 => ?_)
              refine s_one (.pointer (some ⟨g3, 0, none⟩)) A194 S143 (g_field (u := .pointer (some ⟨g3, 0, none⟩)) (by kernel_rfl) (fun _ => by kernel_rfl)) rfl (fun ac A195 => ?_)
              refine s_one (.pointer (some ⟨g3, 1, none⟩)) A195 S143 (g_field (u := .pointer (some ⟨g3, 0, none⟩)) (by kernel_rfl) (fun _ => by kernel_rfl)) rfl (fun ac A196 => ?_)
              refine s_one (.int .i64 md) A196 S143 (g_load (g := g3) (off := 1) 5 (by kernel_rfl) rfl (by kernel_rfl)) rfl (fun ac A197 => ?_)
              have q201 := len_bd (x := ax - (nthI ws j)) (z := az - 0) (by omega) (by omega)
              have q202 := tH_bd (l := lenU (ax - (nthI ws j)) (az - 0)) (v := md) (by omega) (by omega) (by omega)
              refine s_call (fs := #[]) (cp := #[]) (r := [(0, .agg #[.int .i64 ax, .int .i64 az]), (0, .agg #[.int .i64 (nthI ws j), .int .i64 0]), (0, .int .i64 md)]) #[.agg #[.int .i64 ax, .int .i64 az], .agg #[.int .i64 (nthI ws j), .int .i64 0], .int .i64 md] (.tuple #[.agg #[.int .i64 (tLo (lenL (ax - (nthI ws j)) (az - 0)) md), .int .i64 (tHi (lenU (ax - (nthI ws j)) (az - 0)) md)], .int .i64 0]) A197 S143 (TimeOf_ok ax az (nthI ws j) 0 md _ (by omega) (by omega) (by omega)) Try.call29 (by kernel_rfl) (by kernel_rfl) (by kernel_rfl) rfl (fun ac wc A198 S199 => ?_)
              refine s_one (.tuple #[.agg #[.int .i64 (tLo (lenL (ax - (nthI ws j)) (az - 0)) md), .int .i64 (tHi (lenU (ax - (nthI ws j)) (az - 0)) md)], .int .i64 0]) A198 S199 (g_move (by kernel_rfl)) rfl (fun ac A203 => ?_)
              refine s_one (.agg #[.int .i64 (tLo (lenL (ax - (nthI ws j)) (az - 0)) md), .int .i64 (tHi (lenU (ax - (nthI ws j)) (az - 0)) md)]) A203 S199 (g_extract (u := .tuple #[.agg #[.int .i64 (tLo (lenL (ax - (nthI ws j)) (az - 0)) md), .int .i64 (tHi (lenU (ax - (nthI ws j)) (az - 0)) md)], .int .i64 0]) (by kernel_rfl) (fun _ => by kernel_rfl)) rfl (fun ac A204 => ?_)
              refine s_one (.int .i64 0) A204 S199 (g_extract (u := .tuple #[.agg #[.int .i64 (tLo (lenL (ax - (nthI ws j)) (az - 0)) md), .int .i64 (tHi (lenU (ax - (nthI ws j)) (az - 0)) md)], .int .i64 0]) (by kernel_rfl) (fun _ => by kernel_rfl)) rfl (fun ac A205 => ?_)
              refine s_store (g := g103) (off := 0) (v := .agg #[.int .i64 (tLo (lenL (ax - (nthI ws j)) (az - 0)) md), .int .i64 (tHi (lenU (ax - (nthI ws j)) (az - 0)) md)]) 1 (#[.int .i64 (tLo (lenL (ax - (nthI ws j)) (az - 0)) md), .int .i64 (tHi (lenU (ax - (nthI ws j)) (az - 0)) md)]) A205 S199 (by kernel_rfl) (by kernel_rfl) rfl (by kernel_rfl) (fun wc S207 => ?_)
              refine s_one (.int .i64 0) A205 S207 (g_assign (by kernel_rfl)) rfl (fun ac A209 => ?_)
              refine wpList_nil ?_
              refine n_then ?_
              refine wp_seq ?_
              refine wp_seq ?_
              refine wp_region_lit ?_
              refine s_one (.int .i64 0) A209 S207 (g_move (by kernel_rfl)) rfl (fun ac A210 => ?_)
              refine s_one (.bool (decide (0 ≠ 0))) A210 S207 (g_bin (u := .int .i64 0) (k := .int .i64 0) (by kernel_rfl) (by kernel_rfl) (fun _ => by kernel_rfl) b_neq) rfl (fun ac A211 => ?_)
              refine wpList_nil ?_
              refine n_then ?_
              refine c_f (b := (decide (0 ≠ 0))) A211 (by kernel_rfl) (by decide) ?_
              refine wp_skip ?_
              refine n_then ?_
              refine r_begin (w0 := w0) (by kernel_rfl) (S207.sub (sub_keep (sub_keep (sub_skip sub_all))) sub_all) (fun wc T212 B213 => ?_)
              have S214 := S207.kept B213
              refine r_take 0 (.int .i64 (tHi (lenU (fx - sx) (fz - 0)) mw + S)) A211 T212 (g_move (by kernel_rfl)) rfl rfl rfl (pf_block (pf_then (pf_then (pf_block (pf_then pf_body))))) (by kernel_rfl) (fun ac A215 => ?_)
              refine r_take 1 (.pointer (some ⟨g103, 1, none⟩)) A215 T212 (g_field (u := .pointer (some ⟨g103, 0, none⟩)) (by kernel_rfl) (fun _ => by kernel_rfl)) rfl rfl rfl (pf_block (pf_then (pf_then (pf_block (pf_then pf_body))))) (by kernel_rfl) (fun ac A216 => ?_)
              refine r_take 2 (.int .i64 (tHi (lenU (ax - (nthI ws j)) (az - 0)) md)) A216 T212 (g_load (g := g103) (off := 1) 1 (by kernel_rfl) rfl (by kernel_rfl)) rfl rfl rfl (pf_block (pf_then (pf_then (pf_block (pf_then pf_body))))) (by kernel_rfl) (fun ac A217 => ?_)
              refine r_take 3 (.int .i64 (tHi (lenU (fx - sx) (fz - 0)) mw + S + (tHi (lenU (ax - (nthI ws j)) (az - 0)) md))) A217 T212 (g_bin (u := .int .i64 (tHi (lenU (fx - sx) (fz - 0)) mw + S)) (k := .int .i64 (tHi (lenU (ax - (nthI ws j)) (az - 0)) md)) (by kernel_rfl) (by kernel_rfl) (fun _ => by kernel_rfl) (b_add (by omega))) rfl rfl rfl (pf_block (pf_then (pf_then (pf_block (pf_then pf_body))))) (by kernel_rfl) (fun ac A218 => ?_)
              refine r_take 4 (.agg #[.int .i64 (nthI ws j), .int .i64 0]) A218 T212 (g_load (g := g141) (off := 0) 0 (by kernel_rfl) rfl (by kernel_rfl)) rfl rfl rfl (pf_block (pf_then (pf_then (pf_block (pf_then pf_body))))) (by kernel_rfl) (fun ac A219 => ?_)
              refine r_take 5 (.int .i64 (tHi (lenU (fx - sx) (fz - 0)) mw + S + (tHi (lenU (ax - (nthI ws j)) (az - 0)) md))) A219 T212 (g_assign (by kernel_rfl)) rfl rfl rfl (pf_block (pf_then (pf_then (pf_block (pf_then pf_body))))) (by kernel_rfl) (fun ac A220 => ?_)
              refine r_1 (i := 6) (by kernel_rfl) ?_
              refine rs_store (g := g83) (off := 0) (v := .agg #[.int .i64 (nthI ws j), .int .i64 0]) 2 (#[.int .i64 (nthI ws j), .int .i64 0]) A220 S214 (sub_keep (sub_keep (sub_skip sub_all))) sub_all (by kernel_rfl) (by kernel_rfl) rfl (by kernel_rfl) rfl rfl (fun wc S222 => ?_)
              have T224 := S222.sub (sub_keep (sub_keep (sub_skip sub_all))) sub_all
              refine r_done (by kernel_rfl) ?_
              refine n_block ?_
              refine n_then ?_
              refine wp_region_lit ?_
              refine s_one (.int .i64 (j : Int)) A220 S222 (g_move (by kernel_rfl)) rfl (fun ac A225 => ?_)
              refine s_one (.int .i64 ((j : Int) + 1)) A225 S222 (g_bin (u := .int .i64 (j : Int)) (k := .int .i64 1) (by kernel_rfl) (by kernel_rfl) (fun _ => by kernel_rfl) (b_add (by omega))) rfl (fun ac A226 => ?_)
              refine s_one (.int .i64 ((j : Int) + 1)) A226 S222 (g_assign (by kernel_rfl)) rfl (fun ac A227 => ?_)
              refine wpList_nil ?_
              refine n_then ?_
              have sz := sq_az (az := az) (mt := mt) (by omega)
              obtain ⟨wa, wb, wc⟩ := way_step (wx := nthI ws j) (T := mt) (az := az) (wz := 0) (v := md) (by omega) hU hN hS (sz.2 (by omega))
              refine ⟨_, ⟨j + 1, S + tHi (lenU (ax - (nthI ws j)) (az - 0)) md, U + lenU (ax - (nthI ws j)) (az - 0), nthI ws j, 0, tLo (lenL (ax - (nthI ws j)) (az - 0)) md, tHi (lenU (ax - (nthI ws j)) (az - 0)) md, rfl, (by omega), wa, (by rw [nat_mul1]; exact wb), wc, (by omega), (by omega), (by omega), (A227.slot (A227.slot (A227.slot (A227.slot (A227.slot (A227.slot (A227.slot (A227.slot (A227.slot (A227.slot (A227.slot (A227.slot (A227.slot (A227.slot (A227.slot (A227.slot (A227.slot (A227.slot (A227.slot (A227.slot (A227.slot (A227.slot (A227.slot (A227.slot (A227.slot (A227.slot (A227.slot (A227.slot (A227.slot (A227.slot (A227.slot (A227.slot (A227.slot (A227.slot (A227.slot (A227.slot (A227.slot (A227.slot (A227.slot (A227.slot (A227.slot (A227.slot A227.nil (v := .int .i64 (tHi (lenU (fx - sx) (fz - 0)) mw + S + (tHi (lenU (ax - (nthI ws j)) (az - 0)) md))) (by kernel_rfl) (congrArg (Value.int .i64) (by omega))) (v := .int .i64 ((j : Int) + 1)) (by kernel_rfl) (congrArg (Value.int .i64) (by omega))) (v := .int .i64 (tHi (lenU (fx - sx) (fz - 0)) mw)) (by kernel_rfl) rfl) (v := .pointer (some ⟨g103, 1, none⟩)) (by kernel_rfl) rfl) (v := .bool (decide (0 ≠ 0))) (by kernel_rfl) rfl) (v := .int .i64 0) (by kernel_rfl) rfl) (v := .pointer (some ⟨g103, 0, none⟩)) (by kernel_rfl) rfl) (v := .int .i64 0) (by kernel_rfl) rfl) (v := .agg #[.int .i64 (tLo (lenL (fx - sx) (fz - 0)) mw), .int .i64 (tHi (lenU (fx - sx) (fz - 0)) mw)]) (by kernel_rfl) rfl) (v := .tuple #[.agg #[.int .i64 (tLo (lenL (fx - sx) (fz - 0)) mw), .int .i64 (tHi (lenU (fx - sx) (fz - 0)) mw)], .int .i64 0]) (by kernel_rfl) rfl) (v := .tuple #[.agg #[.int .i64 (tLo (lenL (fx - sx) (fz - 0)) mw), .int .i64 (tHi (lenU (fx - sx) (fz - 0)) mw)], .int .i64 0]) (by kernel_rfl) rfl) (v := .int .i64 mw) (by kernel_rfl) rfl) (v := .pointer (some ⟨g3, 0, none⟩)) (by kernel_rfl) rfl) (v := .pointer (some ⟨g3, 0, none⟩)) (by kernel_rfl) rfl) (v := .agg #[.int .i64 sx, .int .i64 0]) (by kernel_rfl) rfl) (v := .agg #[.int .i64 fx, .int .i64 fz]) (by kernel_rfl) rfl) (v := .pointer (some ⟨g3, 4, none⟩)) (by kernel_rfl) rfl) (v := .pointer (some ⟨g83, 0, none⟩)) (by kernel_rfl) rfl) (v := .agg #[.int .i64 sx, .int .i64 0]) (by kernel_rfl) rfl) (v := .int .i64 sx) (by kernel_rfl) rfl) (v := .bool ((!(inB sx (-50000) 50000)) || (!(inB ms 0 4)))) (by kernel_rfl) rfl) (v := .bool (decide (opE mw md ms mt fx fz tx tz ≠ 0))) (by kernel_rfl) rfl) (v := .int .i64 (opE mw md ms mt fx fz tx tz)) (by kernel_rfl) rfl) (v := .int .i64 (opE mw md ms mt fx fz tx tz)) (by kernel_rfl) rfl) (v := .pointer (some ⟨g28, 0, none⟩)) (by kernel_rfl) rfl) (v := .int .i64 (opE mw md ms mt fx fz tx tz)) (by kernel_rfl) rfl) (v := .agg #[.int .i64 (zv (opE mw md ms mt fx fz tx tz) (leLo (wyC mw md ms mt fx fz tx tz))), .int .i64 (zv (opE mw md ms mt fx fz tx tz) (mHi (wyC mw md ms mt fx fz tx tz)))]) (by kernel_rfl) rfl) (v := .tuple #[.agg #[.int .i64 (zv (opE mw md ms mt fx fz tx tz) (leLo (wyC mw md ms mt fx fz tx tz))), .int .i64 (zv (opE mw md ms mt fx fz tx tz) (mHi (wyC mw md ms mt fx fz tx tz)))], .int .i64 (opE mw md ms mt fx fz tx tz)]) (by kernel_rfl) rfl) (v := .tuple #[.agg #[.int .i64 (zv (opE mw md ms mt fx fz tx tz) (leLo (wyC mw md ms mt fx fz tx tz))), .int .i64 (zv (opE mw md ms mt fx fz tx tz) (mHi (wyC mw md ms mt fx fz tx tz)))], .int .i64 (opE mw md ms mt fx fz tx tz)]) (by kernel_rfl) rfl) (v := .agg #[.int .i64 tx, .int .i64 tz]) (by kernel_rfl) rfl) (v := .pointer (some ⟨g3, 6, none⟩)) (by kernel_rfl) rfl) (v := .agg #[.int .i64 fx, .int .i64 fz]) (by kernel_rfl) rfl) (v := .pointer (some ⟨g3, 4, none⟩)) (by kernel_rfl) rfl) (v := .agg #[.int .i64 mw, .int .i64 md, .int .i64 ms, .int .i64 mt]) (by kernel_rfl) rfl) (v := .pointer (some ⟨g3, 0, none⟩)) (by kernel_rfl) rfl) (v := .bool false) (by kernel_rfl) rfl) (v := .bool true) (by kernel_rfl) rfl) (v := .pointer (some ⟨g7, 0, none⟩)) (by kernel_rfl) rfl) (v := .pointer (some ⟨g3, 0, none⟩)) (by kernel_rfl) rfl) (v := .agg (ints ws)) (by kernel_rfl) rfl) (v := .int .i64 sx) (by kernel_rfl) rfl) (v := .agg #[.int .i64 mw, .int .i64 md, .int .i64 ms, .int .i64 mt, .int .i64 fx, .int .i64 fz, .int .i64 tx, .int .i64 tz]) (by kernel_rfl) rfl), S222.sub (sub_skip sub_all) sub_all⟩, ?_⟩
              omega
        · have p228 := of_decide_eq_false h122
          refine wp_exit ?_
          refine x_then ?_
          refine x_then ?_
          refine x_hit ?_
          refine n_then ?_
          refine wp_seq ?_
          refine wp_region_lit ?_
          refine s_one (.agg #[.int .i64 ax, .int .i64 az]) A121 S115 (g_load (g := g83) (off := 0) 1 (by kernel_rfl) rfl (by kernel_rfl)) rfl (fun ac A229 => ?_)
          refine s_one (.pointer (some ⟨g3, 6, none⟩)) A229 S115 (g_field (u := .pointer (some ⟨g3, 0, none⟩)) (by kernel_rfl) (fun _ => by kernel_rfl)) rfl (fun ac A230 => ?_)
          refine s_one (.agg #[.int .i64 tx, .int .i64 tz]) A230 S115 (g_load (g := g3) (off := 6) 4 (by kernel_rfl) rfl (by kernel_rfl)) rfl (fun ac A231 => ?_)
          refine s_one (.pointer (some ⟨g3, 0, none⟩)) A231 S115 (g_field (u := .pointer (some ⟨g3, 0, none⟩)) (by kernel_rfl) (fun _ => by kernel_rfl)) rfl (fun ac A232 => ?_)
          refine s_one (.pointer (some ⟨g3, 1, none⟩)) A232 S115 (g_field (u := .pointer (some ⟨g3, 0, none⟩)) (by kernel_rfl) (fun _ => by kernel_rfl)) rfl (fun ac A233 => ?_)
          refine s_one (.int .i64 md) A233 S115 (g_load (g := g3) (off := 1) 4 (by kernel_rfl) rfl (by kernel_rfl)) rfl (fun ac A234 => ?_)
          have q238 := len_bd (x := ax - tx) (z := az - tz) (by omega) (by omega)
          have q239 := tH_bd (l := lenU (ax - tx) (az - tz)) (v := md) (by omega) (by omega) (by omega)
          refine s_call (fs := #[]) (cp := #[]) (r := [(0, .agg #[.int .i64 ax, .int .i64 az]), (0, .agg #[.int .i64 tx, .int .i64 tz]), (0, .int .i64 md)]) #[.agg #[.int .i64 ax, .int .i64 az], .agg #[.int .i64 tx, .int .i64 tz], .int .i64 md] (.tuple #[.agg #[.int .i64 (tLo (lenL (ax - tx) (az - tz)) md), .int .i64 (tHi (lenU (ax - tx) (az - tz)) md)], .int .i64 0]) A234 S115 (TimeOf_ok ax az tx tz md _ (by omega) (by omega) (by omega)) Try.call29 (by kernel_rfl) (by kernel_rfl) (by kernel_rfl) rfl (fun ac wc A235 S236 => ?_)
          refine s_one (.tuple #[.agg #[.int .i64 (tLo (lenL (ax - tx) (az - tz)) md), .int .i64 (tHi (lenU (ax - tx) (az - tz)) md)], .int .i64 0]) A235 S236 (g_move (by kernel_rfl)) rfl (fun ac A240 => ?_)
          refine s_one (.agg #[.int .i64 (tLo (lenL (ax - tx) (az - tz)) md), .int .i64 (tHi (lenU (ax - tx) (az - tz)) md)]) A240 S236 (g_extract (u := .tuple #[.agg #[.int .i64 (tLo (lenL (ax - tx) (az - tz)) md), .int .i64 (tHi (lenU (ax - tx) (az - tz)) md)], .int .i64 0]) (by kernel_rfl) (fun _ => by kernel_rfl)) rfl (fun ac A241 => ?_)
          refine s_one (.int .i64 0) A241 S236 (g_extract (u := .tuple #[.agg #[.int .i64 (tLo (lenL (ax - tx) (az - tz)) md), .int .i64 (tHi (lenU (ax - tx) (az - tz)) md)], .int .i64 0]) (by kernel_rfl) (fun _ => by kernel_rfl)) rfl (fun ac A242 => ?_)
          refine s_store (g := g103) (off := 0) (v := .agg #[.int .i64 (tLo (lenL (ax - tx) (az - tz)) md), .int .i64 (tHi (lenU (ax - tx) (az - tz)) md)]) 0 (#[.int .i64 (tLo (lenL (ax - tx) (az - tz)) md), .int .i64 (tHi (lenU (ax - tx) (az - tz)) md)]) A242 S236 (by kernel_rfl) (by kernel_rfl) rfl (by kernel_rfl) (fun wc S244 => ?_)
          refine s_one (.int .i64 0) A242 S244 (g_assign (by kernel_rfl)) rfl (fun ac A246 => ?_)
          refine wpList_nil ?_
          refine n_then ?_
          refine wp_seq ?_
          refine wp_region_lit ?_
          refine s_one (.int .i64 0) A246 S244 (g_move (by kernel_rfl)) rfl (fun ac A247 => ?_)
          refine s_one (.bool (decide (0 = 0))) A247 S244 (g_bin (u := .int .i64 0) (k := .int .i64 0) (by kernel_rfl) (by kernel_rfl) (fun _ => by kernel_rfl) b_eql) rfl (fun ac A248 => ?_)
          refine s_one (.bool (decide (0 = 0))) A248 S244 (g_move (by kernel_rfl)) rfl (fun ac A249 => ?_)
          refine s_want (dj := 113) (b := (decide (0 = 0))) A249 (by kernel_rfl) (by kernel_rfl) (by decide) ?_
          refine s_one (.int .i64 (tHi (lenU (fx - sx) (fz - 0)) mw + S)) A249 S244 (g_move (by kernel_rfl)) rfl (fun ac A250 => ?_)
          refine s_want (dj := 113) (b := (decide (0 = 0))) A250 (by kernel_rfl) (by kernel_rfl) (by decide) ?_
          refine s_one (.pointer (some ⟨g103, 1, none⟩)) A250 S244 (g_field (u := .pointer (some ⟨g103, 0, none⟩)) (by kernel_rfl) (fun _ => by kernel_rfl)) rfl (fun ac A251 => ?_)
          refine s_want (dj := 113) (b := (decide (0 = 0))) A251 (by kernel_rfl) (by kernel_rfl) (by decide) ?_
          refine s_one (.int .i64 (tHi (lenU (ax - tx) (az - tz)) md)) A251 S244 (g_load (g := g103) (off := 1) 0 (by kernel_rfl) rfl (by kernel_rfl)) rfl (fun ac A252 => ?_)
          refine s_want (dj := 113) (b := (decide (0 = 0))) A252 (by kernel_rfl) (by kernel_rfl) (by decide) ?_
          refine s_one (.int .i64 (tHi (lenU (fx - sx) (fz - 0)) mw + S + (tHi (lenU (ax - tx) (az - tz)) md))) A252 S244 (g_bin (u := .int .i64 (tHi (lenU (fx - sx) (fz - 0)) mw + S)) (k := .int .i64 (tHi (lenU (ax - tx) (az - tz)) md)) (by kernel_rfl) (by kernel_rfl) (fun _ => by kernel_rfl) (b_add (by omega))) rfl (fun ac A253 => ?_)
          refine s_want (dj := 113) (b := (decide (0 = 0))) A253 (by kernel_rfl) (by kernel_rfl) (by decide) ?_
          refine s_one (.pointer (some ⟨g28, 0, none⟩)) A253 S244 (g_field (u := .pointer (some ⟨g28, 0, none⟩)) (by kernel_rfl) (fun _ => by kernel_rfl)) rfl (fun ac A254 => ?_)
          refine s_want (dj := 113) (b := (decide (0 = 0))) A254 (by kernel_rfl) (by kernel_rfl) (by decide) ?_
          refine s_one (.int .i64 (zv (opE mw md ms mt fx fz tx tz) (leLo (wyC mw md ms mt fx fz tx tz)))) A254 S244 (g_load (g := g28) (off := 0) 2 (by kernel_rfl) rfl (by kernel_rfl)) rfl (fun ac A255 => ?_)
          refine s_want (dj := 113) (b := (decide (0 = 0))) A255 (by kernel_rfl) (by kernel_rfl) (by decide) ?_
          refine s_one (.bool (decide (tHi (lenU (fx - sx) (fz - 0)) mw + S + (tHi (lenU (ax - tx) (az - tz)) md) ≥ zv (opE mw md ms mt fx fz tx tz) (leLo (wyC mw md ms mt fx fz tx tz))))) A255 S244 (g_bin (u := .int .i64 (tHi (lenU (fx - sx) (fz - 0)) mw + S + (tHi (lenU (ax - tx) (az - tz)) md))) (k := .int .i64 (zv (opE mw md ms mt fx fz tx tz) (leLo (wyC mw md ms mt fx fz tx tz)))) (by kernel_rfl) (by kernel_rfl) (fun _ => by kernel_rfl) (fun _ => by kernel_rfl)) rfl (fun ac A256 => ?_)
          refine s_one (.bool (decide (tHi (lenU (fx - sx) (fz - 0)) mw + S + (tHi (lenU (ax - tx) (az - tz)) md) ≥ zv (opE mw md ms mt fx fz tx tz) (leLo (wyC mw md ms mt fx fz tx tz))))) A256 S244 (g_pick_t (b := (decide (0 = 0))) (by kernel_rfl) (by decide) (by kernel_rfl)) rfl (fun ac A257 => ?_)
          refine s_one (.bool (decide (tHi (lenU (fx - sx) (fz - 0)) mw + S + (tHi (lenU (ax - tx) (az - tz)) md) ≥ zv (opE mw md ms mt fx fz tx tz) (leLo (wyC mw md ms mt fx fz tx tz))))) A257 S244 (g_assign (by kernel_rfl)) rfl (fun ac A258 => ?_)
          refine wpList_nil ?_
          refine n_then ?_
          refine wp_ret ?_
          refine fin1 (.bool (decide (tHi (lenU (fx - sx) (fz - 0)) mw + S + (tHi (lenU (ax - tx) (az - tz)) md) ≥ zv (opE mw md ms mt fx fz tx tz) (leLo (wyC mw md ms mt fx fz tx tz))))) Try.results5 A258 S244 (rv_tmp (by kernel_rfl)) ⟨?_, S244.kp⟩
          exact congrArg (fun b => Ending.returned (Value.bool b)) (decide_eq_true (by have wa := way_all zo.1 zo.2 (by omega) hU hN hS haz; rw [zv_0 ze]; omega))

end Go.Proofs.Ytnfmfkejhgbipaa
