/- The walk of RayLegs: it returns true. -/
import Derived.Test.YtnfmfkejhgbipaaRay9
import Derived.Test.YtnfmfkejhgbipaaPlain
import Derived.Test.YtnfmfkejhgbipaaArgs
namespace Go.Proofs.Ytnfmfkejhgbipaa
open Go.RowKit Go.Cpl Go.Ray1

set_option maxRecDepth 100000 in
set_option maxHeartbeats 400000 in
theorem RayLegs_s (ax az bx bz v : Int) (w0 : World) :
    Calls Try.prog 7 #[.agg #[.int .i64 ax, .int .i64 az], .agg #[.int .i64 bx, .int .i64 bz], .int .i64 v] w0 fun e w' => e = .returned (.bool true) ∧ Below w0.heap.size w0 w' := by
  have S0 := St.start w0
  refine enter (n := 84) Try.func7 rfl rfl rfl (fun ac A0 => ?_)
  refine wp_seq ?_
  refine wp_region_lit ?_
  refine s_box (.agg #[.int .i64 ax, .int .i64 az]) A0 S0 (by kernel_rfl) rfl (fun g3 ac wc A1 S2 => ?_)
  replace S2 : St _ (⟨g3, 41, #[.int .i64 ax, .int .i64 az], true⟩ :: _) _ _ := S2
  refine s_box (.agg #[.int .i64 bx, .int .i64 bz]) A1 S2 (by kernel_rfl) rfl (fun g7 ac wc A5 S6 => ?_)
  replace S6 : St _ (⟨g7, 41, #[.int .i64 bx, .int .i64 bz], true⟩ :: _) _ _ := S6
  refine s_one (.bool false) A5 S6 (g_assign (by kernel_rfl)) rfl (fun ac A9 => ?_)
  refine wpList_nil ?_
  refine n_then ?_
  refine wp_seq ?_
  refine wp_seq ?_
  refine wp_region_lit ?_
  refine s_call (fs := #[]) (cp := #[]) (r := []) #[] (.bool true) A9 S6 (awake_s _) Try.call19 (by kernel_rfl) (by kernel_rfl) (by kernel_rfl) rfl (fun ac wc A10 S11 => ?_)
  refine s_one (.bool false) A10 S11 (g_un (u := .bool true) (by kernel_rfl) (fun _ => by kernel_rfl)) rfl (fun ac A13 => ?_)
  refine wpList_nil ?_
  refine n_then ?_
  refine c_f (b := false) A13 (by kernel_rfl) rfl ?_
  refine wp_skip ?_
  refine n_then ?_
  refine wp_seq ?_
  refine wp_region_lit ?_
  refine s_one (.agg #[.int .i64 ax, .int .i64 az]) A13 S11 (g_load (g := g3) (off := 0) 1 (by kernel_rfl) rfl (by kernel_rfl)) rfl (fun ac A14 => ?_)
  refine s_one (.agg #[.int .i64 bx, .int .i64 bz]) A14 S11 (g_load (g := g7) (off := 0) 0 (by kernel_rfl) rfl (by kernel_rfl)) rfl (fun ac A15 => ?_)
  refine s_call (fs := #[]) (cp := #[]) (r := [(0, .agg #[.int .i64 ax, .int .i64 az]), (0, .agg #[.int .i64 bx, .int .i64 bz])]) #[.agg #[.int .i64 ax, .int .i64 az], .agg #[.int .i64 bx, .int .i64 bz]] (.tuple #[.agg #[.int .i64 (zv (lgE ax az bx bz) (lenL (ax - bx) (az - bz))), .int .i64 (zv (lgE ax az bx bz) (lenU (ax - bx) (az - bz)))], .int .i64 (lgE ax az bx bz)]) A15 S11 (Length_s ax az bx bz _) Try.call34 (by kernel_rfl) (by kernel_rfl) (by kernel_rfl) rfl (fun ac wc A16 S17 => ?_)
  refine s_one (.tuple #[.agg #[.int .i64 (zv (lgE ax az bx bz) (lenL (ax - bx) (az - bz))), .int .i64 (zv (lgE ax az bx bz) (lenU (ax - bx) (az - bz)))], .int .i64 (lgE ax az bx bz)]) A16 S17 (g_move (by kernel_rfl)) rfl (fun ac A19 => ?_)
  refine s_one (.agg #[.int .i64 (zv (lgE ax az bx bz) (lenL (ax - bx) (az - bz))), .int .i64 (zv (lgE ax az bx bz) (lenU (ax - bx) (az - bz)))]) A19 S17 (g_extract (u := .tuple #[.agg #[.int .i64 (zv (lgE ax az bx bz) (lenL (ax - bx) (az - bz))), .int .i64 (zv (lgE ax az bx bz) (lenU (ax - bx) (az - bz)))], .int .i64 (lgE ax az bx bz)]) (by kernel_rfl) (fun _ => by kernel_rfl)) rfl (fun ac A20 => ?_)
  refine s_one (.int .i64 (lgE ax az bx bz)) A20 S17 (g_extract (u := .tuple #[.agg #[.int .i64 (zv (lgE ax az bx bz) (lenL (ax - bx) (az - bz))), .int .i64 (zv (lgE ax az bx bz) (lenU (ax - bx) (az - bz)))], .int .i64 (lgE ax az bx bz)]) (by kernel_rfl) (fun _ => by kernel_rfl)) rfl (fun ac A21 => ?_)
  refine s_alloc (#[.int .i64 0, .int .i64 0]) A21 S17 (by kernel_rfl) rfl (fun g24 ac wc A22 S23 => ?_)
  refine s_store (g := g24) (off := 0) (v := .agg #[.int .i64 (zv (lgE ax az bx bz) (lenL (ax - bx) (az - bz))), .int .i64 (zv (lgE ax az bx bz) (lenU (ax - bx) (az - bz)))]) 0 (#[.int .i64 (zv (lgE ax az bx bz) (lenL (ax - bx) (az - bz))), .int .i64 (zv (lgE ax az bx bz) (lenU (ax - bx) (az - bz)))]) A22 S23 (by kernel_rfl) (by kernel_rfl) rfl (by kernel_rfl) (fun wc S26 => ?_)
  refine s_one (.int .i64 (lgE ax az bx bz)) A22 S26 (g_assign (by kernel_rfl)) rfl (fun ac A28 => ?_)
  refine wpList_nil ?_
  refine n_then ?_
  refine wp_seq ?_
  refine wp_region_lit ?_
  refine s_one (.agg #[.int .i64 ax, .int .i64 az]) A28 S26 (g_load (g := g3) (off := 0) 2 (by kernel_rfl) rfl (by kernel_rfl)) rfl (fun ac A29 => ?_)
  refine s_one (.agg #[.int .i64 bx, .int .i64 bz]) A29 S26 (g_load (g := g7) (off := 0) 1 (by kernel_rfl) rfl (by kernel_rfl)) rfl (fun ac A30 => ?_)
  refine s_one (.int .i64 v) A30 S26 (g_move (by kernel_rfl)) rfl (fun ac A31 => ?_)
  refine s_call (fs := #[]) (cp := #[]) (r := [(0, .agg #[.int .i64 ax, .int .i64 az]), (0, .agg #[.int .i64 bx, .int .i64 bz]), (0, .int .i64 v)]) #[.agg #[.int .i64 ax, .int .i64 az], .agg #[.int .i64 bx, .int .i64 bz], .int .i64 v] (.tuple #[.agg #[.int .i64 (zv (tmE ax az bx bz v) (tLo (lenL (ax - bx) (az - bz)) v)), .int .i64 (zv (tmE ax az bx bz v) (tHi (lenU (ax - bx) (az - bz)) v))], .int .i64 (tmE ax az bx bz v)]) A31 S26 (TimeOf_s ax az bx bz v _) Try.call29 (by kernel_rfl) (by kernel_rfl) (by kernel_rfl) rfl (fun ac wc A32 S33 => ?_)
  refine s_one (.tuple #[.agg #[.int .i64 (zv (tmE ax az bx bz v) (tLo (lenL (ax - bx) (az - bz)) v)), .int .i64 (zv (tmE ax az bx bz v) (tHi (lenU (ax - bx) (az - bz)) v))], .int .i64 (tmE ax az bx bz v)]) A32 S33 (g_move (by kernel_rfl)) rfl (fun ac A35 => ?_)
  refine s_one (.agg #[.int .i64 (zv (tmE ax az bx bz v) (tLo (lenL (ax - bx) (az - bz)) v)), .int .i64 (zv (tmE ax az bx bz v) (tHi (lenU (ax - bx) (az - bz)) v))]) A35 S33 (g_extract (u := .tuple #[.agg #[.int .i64 (zv (tmE ax az bx bz v) (tLo (lenL (ax - bx) (az - bz)) v)), .int .i64 (zv (tmE ax az bx bz v) (tHi (lenU (ax - bx) (az - bz)) v))], .int .i64 (tmE ax az bx bz v)]) (by kernel_rfl) (fun _ => by kernel_rfl)) rfl (fun ac A36 => ?_)
  refine s_one (.int .i64 (tmE ax az bx bz v)) A36 S33 (g_extract (u := .tuple #[.agg #[.int .i64 (zv (tmE ax az bx bz v) (tLo (lenL (ax - bx) (az - bz)) v)), .int .i64 (zv (tmE ax az bx bz v) (tHi (lenU (ax - bx) (az - bz)) v))], .int .i64 (tmE ax az bx bz v)]) (by kernel_rfl) (fun _ => by kernel_rfl)) rfl (fun ac A37 => ?_)
  refine s_alloc (#[.int .i64 0, .int .i64 0]) A37 S33 (by kernel_rfl) rfl (fun g40 ac wc A38 S39 => ?_)
  refine s_store (g := g40) (off := 0) (v := .agg #[.int .i64 (zv (tmE ax az bx bz v) (tLo (lenL (ax - bx) (az - bz)) v)), .int .i64 (zv (tmE ax az bx bz v) (tHi (lenU (ax - bx) (az - bz)) v))]) 0 (#[.int .i64 (zv (tmE ax az bx bz v) (tLo (lenL (ax - bx) (az - bz)) v)), .int .i64 (zv (tmE ax az bx bz v) (tHi (lenU (ax - bx) (az - bz)) v))]) A38 S39 (by kernel_rfl) (by kernel_rfl) rfl (by kernel_rfl) (fun wc S42 => ?_)
  refine s_one (.int .i64 (tmE ax az bx bz v)) A38 S42 (g_assign (by kernel_rfl)) rfl (fun ac A44 => ?_)
  refine wpList_nil ?_
  refine n_then ?_
  refine wp_seq ?_
  refine wp_region_lit ?_
  refine s_one (.agg #[.int .i64 ax, .int .i64 az]) A44 S42 (g_load (g := g3) (off := 0) 3 (by kernel_rfl) rfl (by kernel_rfl)) rfl (fun ac A45 => ?_)
  refine s_call (fs := #[]) (cp := #[]) (r := [(0, .agg #[.int .i64 ax, .int .i64 az])]) #[.agg #[.int .i64 ax, .int .i64 az]] (.int .i64 (spE ax az)) A45 S42 (refSpotErr_s ax az _) Try.call35 (by kernel_rfl) (by kernel_rfl) (by kernel_rfl) rfl (fun ac wc A46 S47 => ?_)
  refine s_one (.int .i64 (spE ax az)) A46 S47 (g_assign (by kernel_rfl)) rfl (fun ac A49 => ?_)
  refine wpList_nil ?_
  refine n_then ?_
  refine wp_seq ?_
  refine wp_seq ?_
  refine wp_region_lit ?_
  refine s_one (.int .i64 (spE ax az)) A49 S47 (g_move (by kernel_rfl)) rfl (fun ac A50 => ?_)
  refine s_one (.bool (decide (spE ax az = 0))) A50 S47 (g_bin (u := .int .i64 (spE ax az)) (k := .int .i64 0) (by kernel_rfl) (by kernel_rfl) (fun _ => by kernel_rfl) b_eql) rfl (fun ac A51 => ?_)
  refine wpList_nil ?_
  refine n_then ?_
  refine c_ifb (b := (decide (spE ax az = 0))) A51 (by kernel_rfl) (fun h52 => ?_) (fun h52 => ?_)
  · have p53 := of_decide_eq_true h52
    have z1 := of_decide_eq_true h52
    refine wp_region_lit ?_
    refine s_one (.agg #[.int .i64 bx, .int .i64 bz]) A51 S47 (g_load (g := g7) (off := 0) 2 (by kernel_rfl) rfl (by kernel_rfl)) rfl (fun ac A54 => ?_)
    refine s_call (fs := #[]) (cp := #[]) (r := [(0, .agg #[.int .i64 bx, .int .i64 bz])]) #[.agg #[.int .i64 bx, .int .i64 bz]] (.int .i64 (spE bx bz)) A54 S47 (refSpotErr_s bx bz _) Try.call35 (by kernel_rfl) (by kernel_rfl) (by kernel_rfl) rfl (fun ac wc A55 S56 => ?_)
    refine s_one (.int .i64 (spE bx bz)) A55 S56 (g_assign (by kernel_rfl)) rfl (fun ac A58 => ?_)
    refine wpList_nil ?_
    refine n_then ?_
    refine wp_seq ?_
    refine wp_seq ?_
    refine wp_region_lit ?_
    refine s_one (.int .i64 (spE bx bz)) A58 S56 (g_move (by kernel_rfl)) rfl (fun ac A59 => ?_)
    refine s_one (.bool (decide (spE bx bz ≠ 0))) A59 S56 (g_bin (u := .int .i64 (spE bx bz)) (k := .int .i64 0) (by kernel_rfl) (by kernel_rfl) (fun _ => by kernel_rfl) b_neq) rfl (fun ac A60 => ?_)
    refine wpList_nil ?_
    refine n_then ?_
    refine c_ifb (b := (decide (spE bx bz ≠ 0))) A60 (by kernel_rfl) (fun h61 => ?_) (fun h61 => ?_)
    · have p62 := of_decide_eq_true h61
      have zn := of_decide_eq_true h61
      have el : lgE ax az bx bz = spE bx bz := (fo_cons0 z1).trans (fo_last _)
      have et : tmE ax az bx bz v = spE bx bz := (fo_cons0 z1).trans (fo_ne zn)
      have zl : lgE ax az bx bz ≠ 0 := el ▸ zn
      have zt : tmE ax az bx bz v ≠ 0 := et ▸ zn
      refine wp_seq ?_
      refine wp_region_lit ?_
      refine s_one (.int .i64 (lgE ax az bx bz)) A60 S56 (g_move (by kernel_rfl)) rfl (fun ac A63 => ?_)
      refine s_one (.int .i64 (spE bx bz)) A63 S56 (g_move (by kernel_rfl)) rfl (fun ac A64 => ?_)
      refine s_one (.bool (decide (lgE ax az bx bz = spE bx bz))) A64 S56 (g_bin (u := .int .i64 (lgE ax az bx bz)) (k := .int .i64 (spE bx bz)) (by kernel_rfl) (by kernel_rfl) (fun _ => by kernel_rfl) b_eql) rfl (fun ac A65 => ?_)
      refine s_one (.bool (decide (lgE ax az bx bz = spE bx bz))) A65 S56 (g_move (by kernel_rfl)) rfl (fun ac A66 => ?_)
      refine s_want (dj := 38) (b := (decide (lgE ax az bx bz = spE bx bz))) A66 (by kernel_rfl) (by kernel_rfl) (decide_eq_true (by first | rfl | assumption | omega | (simp only [zv_n zl]) | (simp only [zv_n zt]) | (simp only [zv_0 el]; simp) | (simp only [zv_0 et0]))) ?_
      refine s_one (.int .i64 (tmE ax az bx bz v)) A66 S56 (g_move (by kernel_rfl)) rfl (fun ac A67 => ?_)
      refine s_want (dj := 38) (b := (decide (lgE ax az bx bz = spE bx bz))) A67 (by kernel_rfl) (by kernel_rfl) (decide_eq_true (by first | rfl | assumption | omega | (simp only [zv_n zl]) | (simp only [zv_n zt]) | (simp only [zv_0 el]; simp) | (simp only [zv_0 et0]))) ?_
      refine s_one (.int .i64 (spE bx bz)) A67 S56 (g_move (by kernel_rfl)) rfl (fun ac A68 => ?_)
      refine s_want (dj := 38) (b := (decide (lgE ax az bx bz = spE bx bz))) A68 (by kernel_rfl) (by kernel_rfl) (decide_eq_true (by first | rfl | assumption | omega | (simp only [zv_n zl]) | (simp only [zv_n zt]) | (simp only [zv_0 el]; simp) | (simp only [zv_0 et0]))) ?_
      refine s_one (.bool (decide (tmE ax az bx bz v = spE bx bz))) A68 S56 (g_bin (u := .int .i64 (tmE ax az bx bz v)) (k := .int .i64 (spE bx bz)) (by kernel_rfl) (by kernel_rfl) (fun _ => by kernel_rfl) b_eql) rfl (fun ac A69 => ?_)
      refine s_one (.bool (decide (tmE ax az bx bz v = spE bx bz))) A69 S56 (g_pick_t (b := (decide (lgE ax az bx bz = spE bx bz))) (by kernel_rfl) (decide_eq_true (by first | rfl | assumption | omega | (simp only [zv_n zl]) | (simp only [zv_n zt]) | (simp only [zv_0 el]; simp) | (simp only [zv_0 et0]))) (by kernel_rfl)) rfl (fun ac A70 => ?_)
      refine s_one (.bool (decide (tmE ax az bx bz v = spE bx bz))) A70 S56 (g_move (by kernel_rfl)) rfl (fun ac A71 => ?_)
      refine s_want (dj := 43) (b := (decide (tmE ax az bx bz v = spE bx bz))) A71 (by kernel_rfl) (by kernel_rfl) (decide_eq_true (by first | rfl | assumption | omega | (simp only [zv_n zl]) | (simp only [zv_n zt]) | (simp only [zv_0 el]; simp) | (simp only [zv_0 et0]))) ?_
      refine s_one (.agg #[.int .i64 (zv (lgE ax az bx bz) (lenL (ax - bx) (az - bz))), .int .i64 (zv (lgE ax az bx bz) (lenU (ax - bx) (az - bz)))]) A71 S56 (g_load (g := g24) (off := 0) 1 (by kernel_rfl) rfl (by kernel_rfl)) rfl (fun ac A72 => ?_)
      refine s_want (dj := 43) (b := (decide (tmE ax az bx bz v = spE bx bz))) A72 (by kernel_rfl) (by kernel_rfl) (decide_eq_true (by first | rfl | assumption | omega | (simp only [zv_n zl]) | (simp only [zv_n zt]) | (simp only [zv_0 el]; simp) | (simp only [zv_0 et0]))) ?_
      refine s_one (.agg #[.int .i64 0, .int .i64 0]) A72 S56 (g_build (r := []) (by kernel_rfl) (fun _ => by kernel_rfl)) rfl (fun ac A73 => ?_)
      refine s_want (dj := 43) (b := (decide (tmE ax az bx bz v = spE bx bz))) A73 (by kernel_rfl) (by kernel_rfl) (decide_eq_true (by first | rfl | assumption | omega | (simp only [zv_n zl]) | (simp only [zv_n zt]) | (simp only [zv_0 el]; simp) | (simp only [zv_0 et0]))) ?_
      refine s_one (.bool (decide ([zv (lgE ax az bx bz) (lenL (ax - bx) (az - bz)), zv (lgE ax az bx bz) (lenU (ax - bx) (az - bz))] = [0, 0]))) A73 S56 (g_bin (u := .agg #[.int .i64 (zv (lgE ax az bx bz) (lenL (ax - bx) (az - bz))), .int .i64 (zv (lgE ax az bx bz) (lenU (ax - bx) (az - bz)))]) (k := .agg #[.int .i64 0, .int .i64 0]) (by kernel_rfl) (by kernel_rfl) (fun _ => by kernel_rfl) (q_struct (n := 2) [zv (lgE ax az bx bz) (lenL (ax - bx) (az - bz)), zv (lgE ax az bx bz) (lenU (ax - bx) (az - bz))] [0, 0] (by kernel_rfl) rfl rfl)) rfl (fun ac A74 => ?_)
      refine s_one (.bool (decide ([zv (lgE ax az bx bz) (lenL (ax - bx) (az - bz)), zv (lgE ax az bx bz) (lenU (ax - bx) (az - bz))] = [0, 0]))) A74 S56 (g_pick_t (b := (decide (tmE ax az bx bz v = spE bx bz))) (by kernel_rfl) (decide_eq_true (by first | rfl | assumption | omega | (simp only [zv_n zl]) | (simp only [zv_n zt]) | (simp only [zv_0 el]; simp) | (simp only [zv_0 et0]))) (by kernel_rfl)) rfl (fun ac A75 => ?_)
      refine s_one (.bool (decide ([zv (lgE ax az bx bz) (lenL (ax - bx) (az - bz)), zv (lgE ax az bx bz) (lenU (ax - bx) (az - bz))] = [0, 0]))) A75 S56 (g_move (by kernel_rfl)) rfl (fun ac A76 => ?_)
      refine s_want (dj := 48) (b := (decide ([zv (lgE ax az bx bz) (lenL (ax - bx) (az - bz)), zv (lgE ax az bx bz) (lenU (ax - bx) (az - bz))] = [0, 0]))) A76 (by kernel_rfl) (by kernel_rfl) (decide_eq_true (by first | rfl | assumption | omega | (simp only [zv_n zl]) | (simp only [zv_n zt]) | (simp only [zv_0 el]; simp) | (simp only [zv_0 et0]))) ?_
      refine s_one (.agg #[.int .i64 (zv (tmE ax az bx bz v) (tLo (lenL (ax - bx) (az - bz)) v)), .int .i64 (zv (tmE ax az bx bz v) (tHi (lenU (ax - bx) (az - bz)) v))]) A76 S56 (g_load (g := g40) (off := 0) 0 (by kernel_rfl) rfl (by kernel_rfl)) rfl (fun ac A77 => ?_)
      refine s_want (dj := 48) (b := (decide ([zv (lgE ax az bx bz) (lenL (ax - bx) (az - bz)), zv (lgE ax az bx bz) (lenU (ax - bx) (az - bz))] = [0, 0]))) A77 (by kernel_rfl) (by kernel_rfl) (decide_eq_true (by first | rfl | assumption | omega | (simp only [zv_n zl]) | (simp only [zv_n zt]) | (simp only [zv_0 el]; simp) | (simp only [zv_0 et0]))) ?_
      refine s_one (.agg #[.int .i64 0, .int .i64 0]) A77 S56 (g_build (r := []) (by kernel_rfl) (fun _ => by kernel_rfl)) rfl (fun ac A78 => ?_)
      refine s_want (dj := 48) (b := (decide ([zv (lgE ax az bx bz) (lenL (ax - bx) (az - bz)), zv (lgE ax az bx bz) (lenU (ax - bx) (az - bz))] = [0, 0]))) A78 (by kernel_rfl) (by kernel_rfl) (decide_eq_true (by first | rfl | assumption | omega | (simp only [zv_n zl]) | (simp only [zv_n zt]) | (simp only [zv_0 el]; simp) | (simp only [zv_0 et0]))) ?_
      refine s_one (.bool (decide ([zv (tmE ax az bx bz v) (tLo (lenL (ax - bx) (az - bz)) v), zv (tmE ax az bx bz v) (tHi (lenU (ax - bx) (az - bz)) v)] = [0, 0]))) A78 S56 (g_bin (u := .agg #[.int .i64 (zv (tmE ax az bx bz v) (tLo (lenL (ax - bx) (az - bz)) v)), .int .i64 (zv (tmE ax az bx bz v) (tHi (lenU (ax - bx) (az - bz)) v))]) (k := .agg #[.int .i64 0, .int .i64 0]) (by kernel_rfl) (by kernel_rfl) (fun _ => by kernel_rfl) (q_struct (n := 2) [zv (tmE ax az bx bz v) (tLo (lenL (ax - bx) (az - bz)) v), zv (tmE ax az bx bz v) (tHi (lenU (ax - bx) (az - bz)) v)] [0, 0] (by kernel_rfl) rfl rfl)) rfl (fun ac A79 => ?_)
      refine s_one (.bool (decide ([zv (tmE ax az bx bz v) (tLo (lenL (ax - bx) (az - bz)) v), zv (tmE ax az bx bz v) (tHi (lenU (ax - bx) (az - bz)) v)] = [0, 0]))) A79 S56 (g_pick_t (b := (decide ([zv (lgE ax az bx bz) (lenL (ax - bx) (az - bz)), zv (lgE ax az bx bz) (lenU (ax - bx) (az - bz))] = [0, 0]))) (by kernel_rfl) (decide_eq_true (by first | rfl | assumption | omega | (simp only [zv_n zl]) | (simp only [zv_n zt]) | (simp only [zv_0 el]; simp) | (simp only [zv_0 et0]))) (by kernel_rfl)) rfl (fun ac A80 => ?_)
      refine s_one (.bool (decide ([zv (tmE ax az bx bz v) (tLo (lenL (ax - bx) (az - bz)) v), zv (tmE ax az bx bz v) (tHi (lenU (ax - bx) (az - bz)) v)] = [0, 0]))) A80 S56 (g_assign (by kernel_rfl)) rfl (fun ac A81 => ?_)
      refine wpList_nil ?_
      refine n_then ?_
      refine wp_ret ?_
      refine r_then ?_
      refine fin1 (.bool (decide ([zv (tmE ax az bx bz v) (tLo (lenL (ax - bx) (az - bz)) v), zv (tmE ax az bx bz v) (tHi (lenU (ax - bx) (az - bz)) v)] = [0, 0]))) Try.results7 A81 S56 (rv_tmp (by kernel_rfl)) ⟨?_, S56.kp⟩
      exact congrArg (fun b => Ending.returned (Value.bool b)) (decide_eq_true (by first | rfl | assumption | omega | (simp only [zv_n zl]) | (simp only [zv_n zt]) | (simp only [zv_0 el]; simp) | (simp only [zv_0 et0])))
    · have p82 := of_decide_eq_false h61
      have z2 : spE bx bz = 0 := by simpa using h61
      have el : lgE ax az bx bz = 0 := (fo_cons0 z1).trans ((fo_last _).trans z2)
      have et : tmE ax az bx bz v = veE v := (fo_cons0 z1).trans ((fo_cons0 z2).trans (fo_last _))
      have zz := spE_0 z1
      have zz2 := spE_0 z2
      refine wp_skip ?_
      refine n_then ?_
      refine wp_seq ?_
      refine wp_seq ?_
      refine r_begin (w0 := w0) (by kernel_rfl) (S56.sub sub_all sub_all) (fun wc T83 B84 => ?_)
      have S85 := S56.kept B84
      refine r_take 0 (.int .i64 (lgE ax az bx bz)) A60 T83 (g_move (by kernel_rfl)) rfl rfl rfl (pf_then (pf_then pf_body)) (by kernel_rfl) (fun ac A86 => ?_)
      refine r_take 1 (.bool (decide (lgE ax az bx bz ≠ 0))) A86 T83 (g_bin (u := .int .i64 (lgE ax az bx bz)) (k := .int .i64 0) (by kernel_rfl) (by kernel_rfl) (fun _ => by kernel_rfl) b_neq) rfl rfl rfl (pf_then (pf_then pf_body)) (by kernel_rfl) (fun ac A87 => ?_)
      refine r_take 2 (.bool (decide (lgE ax az bx bz ≠ 0))) A87 T83 (g_move (by kernel_rfl)) rfl rfl rfl (pf_then (pf_then pf_body)) (by kernel_rfl) (fun ac A88 => ?_)
      refine r_take 3 (.agg #[.int .i64 (zv (lgE ax az bx bz) (lenL (ax - bx) (az - bz))), .int .i64 (zv (lgE ax az bx bz) (lenU (ax - bx) (az - bz)))]) A88 T83 (g_load (g := g24) (off := 0) 1 (by kernel_rfl) rfl (by kernel_rfl)) rfl (want_t (dj := 55) (b := (decide (lgE ax az bx bz ≠ 0))) A88 rfl (by kernel_rfl) (by kernel_rfl) (decide_eq_false (by first | rfl | assumption | omega | (simp only [zv_n zl]) | (simp only [zv_n zt]) | (simp only [zv_0 el]; simp) | (simp only [zv_0 et0])))) rfl (pf_then (pf_then pf_body)) (by kernel_rfl) (fun ac A89 => ?_)
      refine r_take 4 (.agg #[.int .i64 ax, .int .i64 az]) A89 T83 (g_load (g := g3) (off := 0) 3 (by kernel_rfl) rfl (by kernel_rfl)) rfl (want_t (dj := 55) (b := (decide (lgE ax az bx bz ≠ 0))) A89 rfl (by kernel_rfl) (by kernel_rfl) (decide_eq_false (by first | rfl | assumption | omega | (simp only [zv_n zl]) | (simp only [zv_n zt]) | (simp only [zv_0 el]; simp) | (simp only [zv_0 et0])))) rfl (pf_then (pf_then pf_body)) (by kernel_rfl) (fun ac A90 => ?_)
      refine r_take 5 (.agg #[.int .i64 bx, .int .i64 bz]) A90 T83 (g_load (g := g7) (off := 0) 2 (by kernel_rfl) rfl (by kernel_rfl)) rfl (want_t (dj := 55) (b := (decide (lgE ax az bx bz ≠ 0))) A90 rfl (by kernel_rfl) (by kernel_rfl) (decide_eq_false (by first | rfl | assumption | omega | (simp only [zv_n zl]) | (simp only [zv_n zt]) | (simp only [zv_0 el]; simp) | (simp only [zv_0 et0])))) rfl (pf_then (pf_then pf_body)) (by kernel_rfl) (fun ac A91 => ?_)
      refine r_1 (i := 6) (by kernel_rfl) ?_
      have q96 := len_bd (x := ax - bx) (z := az - bz) (by omega) (by omega)
      refine rs_call (fs := #[]) (cp := #[]) (r := [(0, .agg #[.int .i64 ax, .int .i64 az]), (0, .agg #[.int .i64 bx, .int .i64 bz])]) #[.agg #[.int .i64 ax, .int .i64 az], .agg #[.int .i64 bx, .int .i64 bz]] (.agg #[.int .i64 (lenL (ax - bx) (az - bz)), .int .i64 (lenU (ax - bx) (az - bz))]) A91 S85 sub_all sub_all (refLength_s ax az bx bz _ (by omega) (by omega)) Try.call36 rfl (want_t (dj := 55) (b := (decide (lgE ax az bx bz ≠ 0))) A91 rfl (by kernel_rfl) (by kernel_rfl) (decide_eq_false (by first | rfl | assumption | omega | (simp only [zv_n zl]) | (simp only [zv_n zt]) | (simp only [zv_0 el]; simp) | (simp only [zv_0 et0])))) (by kernel_rfl) (by kernel_rfl) (by kernel_rfl) rfl (fun ac wc A92 S93 => ?_)
      have T95 := S93.sub sub_all sub_all
      refine r_take 7 (.bool (decide ([zv (lgE ax az bx bz) (lenL (ax - bx) (az - bz)), zv (lgE ax az bx bz) (lenU (ax - bx) (az - bz))] ≠ [lenL (ax - bx) (az - bz), lenU (ax - bx) (az - bz)]))) A92 T95 (g_bin (u := .agg #[.int .i64 (zv (lgE ax az bx bz) (lenL (ax - bx) (az - bz))), .int .i64 (zv (lgE ax az bx bz) (lenU (ax - bx) (az - bz)))]) (k := .agg #[.int .i64 (lenL (ax - bx) (az - bz)), .int .i64 (lenU (ax - bx) (az - bz))]) (by kernel_rfl) (by kernel_rfl) (fun _ => by kernel_rfl) (q_structN (n := 2) [zv (lgE ax az bx bz) (lenL (ax - bx) (az - bz)), zv (lgE ax az bx bz) (lenU (ax - bx) (az - bz))] [lenL (ax - bx) (az - bz), lenU (ax - bx) (az - bz)] (by kernel_rfl) rfl rfl)) rfl (want_t (dj := 55) (b := (decide (lgE ax az bx bz ≠ 0))) A92 rfl (by kernel_rfl) (by kernel_rfl) (decide_eq_false (by first | rfl | assumption | omega | (simp only [zv_n zl]) | (simp only [zv_n zt]) | (simp only [zv_0 el]; simp) | (simp only [zv_0 et0])))) rfl (pf_then (pf_then pf_body)) (by kernel_rfl) (fun ac A97 => ?_)
      refine r_take 8 (.bool (decide ([zv (lgE ax az bx bz) (lenL (ax - bx) (az - bz)), zv (lgE ax az bx bz) (lenU (ax - bx) (az - bz))] ≠ [lenL (ax - bx) (az - bz), lenU (ax - bx) (az - bz)]))) A97 T95 (g_pick_f (b := (decide (lgE ax az bx bz ≠ 0))) (by kernel_rfl) (decide_eq_false (by first | rfl | assumption | omega | (simp only [zv_n zl]) | (simp only [zv_n zt]) | (simp only [zv_0 el]; simp) | (simp only [zv_0 et0]))) (by kernel_rfl)) rfl rfl rfl (pf_then (pf_then pf_body)) (by kernel_rfl) (fun ac A98 => ?_)
      refine r_done (by kernel_rfl) ?_
      refine n_then ?_
      refine c_f (b := (decide ([zv (lgE ax az bx bz) (lenL (ax - bx) (az - bz)), zv (lgE ax az bx bz) (lenU (ax - bx) (az - bz))] ≠ [lenL (ax - bx) (az - bz), lenU (ax - bx) (az - bz)]))) A98 (by kernel_rfl) (decide_eq_false (by first | rfl | assumption | omega | (simp only [zv_n zl]) | (simp only [zv_n zt]) | (simp only [zv_0 el]; simp) | (simp only [zv_0 et0]))) ?_
      refine wp_skip ?_
      refine n_then ?_
      refine wp_seq ?_
      refine wp_seq ?_
      refine wp_region_lit ?_
      refine s_one (.int .i64 v) A98 S93 (g_move (by kernel_rfl)) rfl (fun ac A99 => ?_)
      refine s_call (fs := #[]) (cp := #[]) (r := [(0, .int .i64 v)]) #[.int .i64 v] (.int .i64 (veE v)) A99 S93 (refSpeedErr_s v _) Try.call37 (by kernel_rfl) (by kernel_rfl) (by kernel_rfl) rfl (fun ac wc A100 S101 => ?_)
      refine s_one (.int .i64 (veE v)) A100 S101 (g_assign (by kernel_rfl)) rfl (fun ac A103 => ?_)
      refine wpList_nil ?_
      refine n_then ?_
      refine wp_seq ?_
      refine wp_region_lit ?_
      refine s_one (.int .i64 (veE v)) A103 S101 (g_move (by kernel_rfl)) rfl (fun ac A104 => ?_)
      refine s_one (.bool (decide (veE v ≠ 0))) A104 S101 (g_bin (u := .int .i64 (veE v)) (k := .int .i64 0) (by kernel_rfl) (by kernel_rfl) (fun _ => by kernel_rfl) b_neq) rfl (fun ac A105 => ?_)
      refine wpList_nil ?_
      refine n_then ?_
      refine c_ifb (b := (decide (veE v ≠ 0))) A105 (by kernel_rfl) (fun h106 => ?_) (fun h106 => ?_)
      · have p107 := of_decide_eq_true h106
        have zt : tmE ax az bx bz v ≠ 0 := et ▸ (of_decide_eq_true h106)
        refine wp_seq ?_
        refine wp_region_lit ?_
        refine s_one (.int .i64 (tmE ax az bx bz v)) A105 S101 (g_move (by kernel_rfl)) rfl (fun ac A108 => ?_)
        refine s_one (.int .i64 (veE v)) A108 S101 (g_move (by kernel_rfl)) rfl (fun ac A109 => ?_)
        refine s_one (.bool (decide (tmE ax az bx bz v = veE v))) A109 S101 (g_bin (u := .int .i64 (tmE ax az bx bz v)) (k := .int .i64 (veE v)) (by kernel_rfl) (by kernel_rfl) (fun _ => by kernel_rfl) b_eql) rfl (fun ac A110 => ?_)
        refine s_one (.bool (decide (tmE ax az bx bz v = veE v))) A110 S101 (g_move (by kernel_rfl)) rfl (fun ac A111 => ?_)
        refine s_want (dj := 69) (b := (decide (tmE ax az bx bz v = veE v))) A111 (by kernel_rfl) (by kernel_rfl) (decide_eq_true (by first | rfl | assumption | omega | (simp only [zv_n zl]) | (simp only [zv_n zt]) | (simp only [zv_0 el]; simp) | (simp only [zv_0 et0]))) ?_
        refine s_one (.agg #[.int .i64 (zv (tmE ax az bx bz v) (tLo (lenL (ax - bx) (az - bz)) v)), .int .i64 (zv (tmE ax az bx bz v) (tHi (lenU (ax - bx) (az - bz)) v))]) A111 S101 (g_load (g := g40) (off := 0) 0 (by kernel_rfl) rfl (by kernel_rfl)) rfl (fun ac A112 => ?_)
        refine s_want (dj := 69) (b := (decide (tmE ax az bx bz v = veE v))) A112 (by kernel_rfl) (by kernel_rfl) (decide_eq_true (by first | rfl | assumption | omega | (simp only [zv_n zl]) | (simp only [zv_n zt]) | (simp only [zv_0 el]; simp) | (simp only [zv_0 et0]))) ?_
        refine s_one (.agg #[.int .i64 0, .int .i64 0]) A112 S101 (g_build (r := []) (by kernel_rfl) (fun _ => by kernel_rfl)) rfl (fun ac A113 => ?_)
        refine s_want (dj := 69) (b := (decide (tmE ax az bx bz v = veE v))) A113 (by kernel_rfl) (by kernel_rfl) (decide_eq_true (by first | rfl | assumption | omega | (simp only [zv_n zl]) | (simp only [zv_n zt]) | (simp only [zv_0 el]; simp) | (simp only [zv_0 et0]))) ?_
        refine s_one (.bool (decide ([zv (tmE ax az bx bz v) (tLo (lenL (ax - bx) (az - bz)) v), zv (tmE ax az bx bz v) (tHi (lenU (ax - bx) (az - bz)) v)] = [0, 0]))) A113 S101 (g_bin (u := .agg #[.int .i64 (zv (tmE ax az bx bz v) (tLo (lenL (ax - bx) (az - bz)) v)), .int .i64 (zv (tmE ax az bx bz v) (tHi (lenU (ax - bx) (az - bz)) v))]) (k := .agg #[.int .i64 0, .int .i64 0]) (by kernel_rfl) (by kernel_rfl) (fun _ => by kernel_rfl) (q_struct (n := 2) [zv (tmE ax az bx bz v) (tLo (lenL (ax - bx) (az - bz)) v), zv (tmE ax az bx bz v) (tHi (lenU (ax - bx) (az - bz)) v)] [0, 0] (by kernel_rfl) rfl rfl)) rfl (fun ac A114 => ?_)
        refine s_one (.bool (decide ([zv (tmE ax az bx bz v) (tLo (lenL (ax - bx) (az - bz)) v), zv (tmE ax az bx bz v) (tHi (lenU (ax - bx) (az - bz)) v)] = [0, 0]))) A114 S101 (g_pick_t (b := (decide (tmE ax az bx bz v = veE v))) (by kernel_rfl) (decide_eq_true (by first | rfl | assumption | omega | (simp only [zv_n zl]) | (simp only [zv_n zt]) | (simp only [zv_0 el]; simp) | (simp only [zv_0 et0]))) (by kernel_rfl)) rfl (fun ac A115 => ?_)
        refine s_one (.bool (decide ([zv (tmE ax az bx bz v) (tLo (lenL (ax - bx) (az - bz)) v), zv (tmE ax az bx bz v) (tHi (lenU (ax - bx) (az - bz)) v)] = [0, 0]))) A115 S101 (g_assign (by kernel_rfl)) rfl (fun ac A116 => ?_)
        refine wpList_nil ?_
        refine n_then ?_
        refine wp_ret ?_
        refine r_then ?_
        refine fin1 (.bool (decide ([zv (tmE ax az bx bz v) (tLo (lenL (ax - bx) (az - bz)) v), zv (tmE ax az bx bz v) (tHi (lenU (ax - bx) (az - bz)) v)] = [0, 0]))) Try.results7 A116 S101 (rv_tmp (by kernel_rfl)) ⟨?_, S101.kp⟩
        exact congrArg (fun b => Ending.returned (Value.bool b)) (decide_eq_true (by first | rfl | assumption | omega | (simp only [zv_n zl]) | (simp only [zv_n zt]) | (simp only [zv_0 el]; simp) | (simp only [zv_0 et0])))
      · have p117 := of_decide_eq_false h106
        have z3 : veE v = 0 := by simpa using h106
        have et0 : tmE ax az bx bz v = 0 := et.trans z3
        have zv3 := veE_0 z3
        refine wp_skip ?_
        refine n_then ?_
        refine wp_seq ?_
        refine r_begin (w0 := w0) (by kernel_rfl) (S101.sub sub_all sub_all) (fun wc T118 B119 => ?_)
        have S120 := S101.kept B119
        refine r_take 0 (.int .i64 (tmE ax az bx bz v)) A105 T118 (g_move (by kernel_rfl)) rfl rfl rfl (pf_then pf_body) (by kernel_rfl) (fun ac A121 => ?_)
        refine r_take 1 (.bool (decide (tmE ax az bx bz v = 0))) A121 T118 (g_bin (u := .int .i64 (tmE ax az bx bz v)) (k := .int .i64 0) (by kernel_rfl) (by kernel_rfl) (fun _ => by kernel_rfl) b_eql) rfl rfl rfl (pf_then pf_body) (by kernel_rfl) (fun ac A122 => ?_)
        refine r_take 2 (.bool (decide (tmE ax az bx bz v = 0))) A122 T118 (g_move (by kernel_rfl)) rfl rfl rfl (pf_then pf_body) (by kernel_rfl) (fun ac A123 => ?_)
        refine r_take 3 (.agg #[.int .i64 (zv (tmE ax az bx bz v) (tLo (lenL (ax - bx) (az - bz)) v)), .int .i64 (zv (tmE ax az bx bz v) (tHi (lenU (ax - bx) (az - bz)) v))]) A123 T118 (g_load (g := g40) (off := 0) 0 (by kernel_rfl) rfl (by kernel_rfl)) rfl (want_t (dj := 76) (b := (decide (tmE ax az bx bz v = 0))) A123 rfl (by kernel_rfl) (by kernel_rfl) (decide_eq_true (by first | rfl | assumption | omega | (simp only [zv_n zl]) | (simp only [zv_n zt]) | (simp only [zv_0 el]; simp) | (simp only [zv_0 et0])))) rfl (pf_then pf_body) (by kernel_rfl) (fun ac A124 => ?_)
        refine r_take 4 (.agg #[.int .i64 ax, .int .i64 az]) A124 T118 (g_load (g := g3) (off := 0) 3 (by kernel_rfl) rfl (by kernel_rfl)) rfl (want_t (dj := 76) (b := (decide (tmE ax az bx bz v = 0))) A124 rfl (by kernel_rfl) (by kernel_rfl) (decide_eq_true (by first | rfl | assumption | omega | (simp only [zv_n zl]) | (simp only [zv_n zt]) | (simp only [zv_0 el]; simp) | (simp only [zv_0 et0])))) rfl (pf_then pf_body) (by kernel_rfl) (fun ac A125 => ?_)
        refine r_take 5 (.agg #[.int .i64 bx, .int .i64 bz]) A125 T118 (g_load (g := g7) (off := 0) 2 (by kernel_rfl) rfl (by kernel_rfl)) rfl (want_t (dj := 76) (b := (decide (tmE ax az bx bz v = 0))) A125 rfl (by kernel_rfl) (by kernel_rfl) (decide_eq_true (by first | rfl | assumption | omega | (simp only [zv_n zl]) | (simp only [zv_n zt]) | (simp only [zv_0 el]; simp) | (simp only [zv_0 et0])))) rfl (pf_then pf_body) (by kernel_rfl) (fun ac A126 => ?_)
        refine r_take 6 (.int .i64 v) A126 T118 (g_move (by kernel_rfl)) rfl (want_t (dj := 76) (b := (decide (tmE ax az bx bz v = 0))) A126 rfl (by kernel_rfl) (by kernel_rfl) (decide_eq_true (by first | rfl | assumption | omega | (simp only [zv_n zl]) | (simp only [zv_n zt]) | (simp only [zv_0 el]; simp) | (simp only [zv_0 et0])))) rfl (pf_then pf_body) (by kernel_rfl) (fun ac A127 => ?_)
        refine r_1 (i := 7) (by kernel_rfl) ?_
        refine rs_call (fs := #[]) (cp := #[]) (r := [(0, .agg #[.int .i64 ax, .int .i64 az]), (0, .agg #[.int .i64 bx, .int .i64 bz]), (0, .int .i64 v)]) #[.agg #[.int .i64 ax, .int .i64 az], .agg #[.int .i64 bx, .int .i64 bz], .int .i64 v] (.agg #[.int .i64 (tLo (lenL (ax - bx) (az - bz)) v), .int .i64 (tHi (lenU (ax - bx) (az - bz)) v)]) A127 S120 sub_all sub_all (refTimeOf_s ax az bx bz v _ (by omega) (by omega) (by omega)) Try.call38 rfl (want_t (dj := 76) (b := (decide (tmE ax az bx bz v = 0))) A127 rfl (by kernel_rfl) (by kernel_rfl) (decide_eq_true (by first | rfl | assumption | omega | (simp only [zv_n zl]) | (simp only [zv_n zt]) | (simp only [zv_0 el]; simp) | (simp only [zv_0 et0])))) (by kernel_rfl) (by kernel_rfl) (by kernel_rfl) rfl (fun ac wc A128 S129 => ?_)
        have T131 := S129.sub sub_all sub_all
        refine r_take 8 (.bool (decide ([zv (tmE ax az bx bz v) (tLo (lenL (ax - bx) (az - bz)) v), zv (tmE ax az bx bz v) (tHi (lenU (ax - bx) (az - bz)) v)] = [tLo (lenL (ax - bx) (az - bz)) v, tHi (lenU (ax - bx) (az - bz)) v]))) A128 T131 (g_bin (u := .agg #[.int .i64 (zv (tmE ax az bx bz v) (tLo (lenL (ax - bx) (az - bz)) v)), .int .i64 (zv (tmE ax az bx bz v) (tHi (lenU (ax - bx) (az - bz)) v))]) (k := .agg #[.int .i64 (tLo (lenL (ax - bx) (az - bz)) v), .int .i64 (tHi (lenU (ax - bx) (az - bz)) v)]) (by kernel_rfl) (by kernel_rfl) (fun _ => by kernel_rfl) (q_struct (n := 2) [zv (tmE ax az bx bz v) (tLo (lenL (ax - bx) (az - bz)) v), zv (tmE ax az bx bz v) (tHi (lenU (ax - bx) (az - bz)) v)] [tLo (lenL (ax - bx) (az - bz)) v, tHi (lenU (ax - bx) (az - bz)) v] (by kernel_rfl) rfl rfl)) rfl (want_t (dj := 76) (b := (decide (tmE ax az bx bz v = 0))) A128 rfl (by kernel_rfl) (by kernel_rfl) (decide_eq_true (by first | rfl | assumption | omega | (simp only [zv_n zl]) | (simp only [zv_n zt]) | (simp only [zv_0 el]; simp) | (simp only [zv_0 et0])))) rfl (pf_then pf_body) (by kernel_rfl) (fun ac A132 => ?_)
        refine r_take 9 (.bool (decide ([zv (tmE ax az bx bz v) (tLo (lenL (ax - bx) (az - bz)) v), zv (tmE ax az bx bz v) (tHi (lenU (ax - bx) (az - bz)) v)] = [tLo (lenL (ax - bx) (az - bz)) v, tHi (lenU (ax - bx) (az - bz)) v]))) A132 T131 (g_pick_t (b := (decide (tmE ax az bx bz v = 0))) (by kernel_rfl) (decide_eq_true (by first | rfl | assumption | omega | (simp only [zv_n zl]) | (simp only [zv_n zt]) | (simp only [zv_0 el]; simp) | (simp only [zv_0 et0]))) (by kernel_rfl)) rfl rfl rfl (pf_then pf_body) (by kernel_rfl) (fun ac A133 => ?_)
        refine r_take 10 (.bool (decide ([zv (tmE ax az bx bz v) (tLo (lenL (ax - bx) (az - bz)) v), zv (tmE ax az bx bz v) (tHi (lenU (ax - bx) (az - bz)) v)] = [tLo (lenL (ax - bx) (az - bz)) v, tHi (lenU (ax - bx) (az - bz)) v]))) A133 T131 (g_assign (by kernel_rfl)) rfl rfl rfl (pf_then pf_body) (by kernel_rfl) (fun ac A134 => ?_)
        refine r_done (by kernel_rfl) ?_
        refine n_then ?_
        refine wp_ret ?_
        refine fin1 (.bool (decide ([zv (tmE ax az bx bz v) (tLo (lenL (ax - bx) (az - bz)) v), zv (tmE ax az bx bz v) (tHi (lenU (ax - bx) (az - bz)) v)] = [tLo (lenL (ax - bx) (az - bz)) v, tHi (lenU (ax - bx) (az - bz)) v]))) Try.results7 A134 S129 (rv_tmp (by kernel_rfl)) ⟨?_, S129.kp⟩
        exact congrArg (fun b => Ending.returned (Value.bool b)) (decide_eq_true (by first | rfl | assumption | omega | (simp only [zv_n zl]) | (simp only [zv_n zt]) | (simp only [zv_0 el]; simp) | (simp only [zv_0 et0])))
  · have p135 := of_decide_eq_false h52
    have zn := of_decide_eq_false h52
    have el : lgE ax az bx bz = spE ax az := fo_ne zn
    have et : tmE ax az bx bz v = spE ax az := fo_ne zn
    have zl : lgE ax az bx bz ≠ 0 := el ▸ zn
    have zt : tmE ax az bx bz v ≠ 0 := et ▸ zn
    refine wp_skip ?_
    refine n_then ?_
    refine wp_seq ?_
    refine wp_seq ?_
    refine wp_region_lit ?_
    refine s_one (.int .i64 (spE ax az)) A51 S47 (g_move (by kernel_rfl)) rfl (fun ac A136 => ?_)
    refine s_one (.bool (decide (spE ax az ≠ 0))) A136 S47 (g_bin (u := .int .i64 (spE ax az)) (k := .int .i64 0) (by kernel_rfl) (by kernel_rfl) (fun _ => by kernel_rfl) b_neq) rfl (fun ac A137 => ?_)
    refine wpList_nil ?_
    refine n_then ?_
    refine c_t (b := (decide (spE ax az ≠ 0))) A137 (by kernel_rfl) (decide_eq_true (by assumption)) ?_
    refine wp_seq ?_
    refine wp_region_lit ?_
    refine s_one (.int .i64 (lgE ax az bx bz)) A137 S47 (g_move (by kernel_rfl)) rfl (fun ac A138 => ?_)
    refine s_one (.int .i64 (spE ax az)) A138 S47 (g_move (by kernel_rfl)) rfl (fun ac A139 => ?_)
    refine s_one (.bool (decide (lgE ax az bx bz = spE ax az))) A139 S47 (g_bin (u := .int .i64 (lgE ax az bx bz)) (k := .int .i64 (spE ax az)) (by kernel_rfl) (by kernel_rfl) (fun _ => by kernel_rfl) b_eql) rfl (fun ac A140 => ?_)
    refine s_one (.bool (decide (lgE ax az bx bz = spE ax az))) A140 S47 (g_move (by kernel_rfl)) rfl (fun ac A141 => ?_)
    refine s_want (dj := 38) (b := (decide (lgE ax az bx bz = spE ax az))) A141 (by kernel_rfl) (by kernel_rfl) (decide_eq_true (by first | rfl | assumption | omega | (simp only [zv_n zl]) | (simp only [zv_n zt]) | (simp only [zv_0 el]; simp) | (simp only [zv_0 et0]))) ?_
    refine s_one (.int .i64 (tmE ax az bx bz v)) A141 S47 (g_move (by kernel_rfl)) rfl (fun ac A142 => ?_)
    refine s_want (dj := 38) (b := (decide (lgE ax az bx bz = spE ax az))) A142 (by kernel_rfl) (by kernel_rfl) (decide_eq_true (by first | rfl | assumption | omega | (simp only [zv_n zl]) | (simp only [zv_n zt]) | (simp only [zv_0 el]; simp) | (simp only [zv_0 et0]))) ?_
    refine s_one (.int .i64 (spE ax az)) A142 S47 (g_move (by kernel_rfl)) rfl (fun ac A143 => ?_)
    refine s_want (dj := 38) (b := (decide (lgE ax az bx bz = spE ax az))) A143 (by kernel_rfl) (by kernel_rfl) (decide_eq_true (by first | rfl | assumption | omega | (simp only [zv_n zl]) | (simp only [zv_n zt]) | (simp only [zv_0 el]; simp) | (simp only [zv_0 et0]))) ?_
    refine s_one (.bool (decide (tmE ax az bx bz v = spE ax az))) A143 S47 (g_bin (u := .int .i64 (tmE ax az bx bz v)) (k := .int .i64 (spE ax az)) (by kernel_rfl) (by kernel_rfl) (fun _ => by kernel_rfl) b_eql) rfl (fun ac A144 => ?_)
    refine s_one (.bool (decide (tmE ax az bx bz v = spE ax az))) A144 S47 (g_pick_t (b := (decide (lgE ax az bx bz = spE ax az))) (by kernel_rfl) (decide_eq_true (by first | rfl | assumption | omega | (simp only [zv_n zl]) | (simp only [zv_n zt]) | (simp only [zv_0 el]; simp) | (simp only [zv_0 et0]))) (by kernel_rfl)) rfl (fun ac A145 => ?_)
    refine s_one (.bool (decide (tmE ax az bx bz v = spE ax az))) A145 S47 (g_move (by kernel_rfl)) rfl (fun ac A146 => ?_)
    refine s_want (dj := 43) (b := (decide (tmE ax az bx bz v = spE ax az))) A146 (by kernel_rfl) (by kernel_rfl) (decide_eq_true (by first | rfl | assumption | omega | (simp only [zv_n zl]) | (simp only [zv_n zt]) | (simp only [zv_0 el]; simp) | (simp only [zv_0 et0]))) ?_
    refine s_one (.agg #[.int .i64 (zv (lgE ax az bx bz) (lenL (ax - bx) (az - bz))), .int .i64 (zv (lgE ax az bx bz) (lenU (ax - bx) (az - bz)))]) A146 S47 (g_load (g := g24) (off := 0) 1 (by kernel_rfl) rfl (by kernel_rfl)) rfl (fun ac A147 => ?_)
    refine s_want (dj := 43) (b := (decide (tmE ax az bx bz v = spE ax az))) A147 (by kernel_rfl) (by kernel_rfl) (decide_eq_true (by first | rfl | assumption | omega | (simp only [zv_n zl]) | (simp only [zv_n zt]) | (simp only [zv_0 el]; simp) | (simp only [zv_0 et0]))) ?_
    refine s_one (.agg #[.int .i64 0, .int .i64 0]) A147 S47 (g_build (r := []) (by kernel_rfl) (fun _ => by kernel_rfl)) rfl (fun ac A148 => ?_)
    refine s_want (dj := 43) (b := (decide (tmE ax az bx bz v = spE ax az))) A148 (by kernel_rfl) (by kernel_rfl) (decide_eq_true (by first | rfl | assumption | omega | (simp only [zv_n zl]) | (simp only [zv_n zt]) | (simp only [zv_0 el]; simp) | (simp only [zv_0 et0]))) ?_
    refine s_one (.bool (decide ([zv (lgE ax az bx bz) (lenL (ax - bx) (az - bz)), zv (lgE ax az bx bz) (lenU (ax - bx) (az - bz))] = [0, 0]))) A148 S47 (g_bin (u := .agg #[.int .i64 (zv (lgE ax az bx bz) (lenL (ax - bx) (az - bz))), .int .i64 (zv (lgE ax az bx bz) (lenU (ax - bx) (az - bz)))]) (k := .agg #[.int .i64 0, .int .i64 0]) (by kernel_rfl) (by kernel_rfl) (fun _ => by kernel_rfl) (q_struct (n := 2) [zv (lgE ax az bx bz) (lenL (ax - bx) (az - bz)), zv (lgE ax az bx bz) (lenU (ax - bx) (az - bz))] [0, 0] (by kernel_rfl) rfl rfl)) rfl (fun ac A149 => ?_)
    refine s_one (.bool (decide ([zv (lgE ax az bx bz) (lenL (ax - bx) (az - bz)), zv (lgE ax az bx bz) (lenU (ax - bx) (az - bz))] = [0, 0]))) A149 S47 (g_pick_t (b := (decide (tmE ax az bx bz v = spE ax az))) (by kernel_rfl) (decide_eq_true (by first | rfl | assumption | omega | (simp only [zv_n zl]) | (simp only [zv_n zt]) | (simp only [zv_0 el]; simp) | (simp only [zv_0 et0]))) (by kernel_rfl)) rfl (fun ac A150 => ?_)
    refine s_one (.bool (decide ([zv (lgE ax az bx bz) (lenL (ax - bx) (az - bz)), zv (lgE ax az bx bz) (lenU (ax - bx) (az - bz))] = [0, 0]))) A150 S47 (g_move (by kernel_rfl)) rfl (fun ac A151 => ?_)
    refine s_want (dj := 48) (b := (decide ([zv (lgE ax az bx bz) (lenL (ax - bx) (az - bz)), zv (lgE ax az bx bz) (lenU (ax - bx) (az - bz))] = [0, 0]))) A151 (by kernel_rfl) (by kernel_rfl) (decide_eq_true (by first | rfl | assumption | omega | (simp only [zv_n zl]) | (simp only [zv_n zt]) | (simp only [zv_0 el]; simp) | (simp only [zv_0 et0]))) ?_
    refine s_one (.agg #[.int .i64 (zv (tmE ax az bx bz v) (tLo (lenL (ax - bx) (az - bz)) v)), .int .i64 (zv (tmE ax az bx bz v) (tHi (lenU (ax - bx) (az - bz)) v))]) A151 S47 (g_load (g := g40) (off := 0) 0 (by kernel_rfl) rfl (by kernel_rfl)) rfl (fun ac A152 => ?_)
    refine s_want (dj := 48) (b := (decide ([zv (lgE ax az bx bz) (lenL (ax - bx) (az - bz)), zv (lgE ax az bx bz) (lenU (ax - bx) (az - bz))] = [0, 0]))) A152 (by kernel_rfl) (by kernel_rfl) (decide_eq_true (by first | rfl | assumption | omega | (simp only [zv_n zl]) | (simp only [zv_n zt]) | (simp only [zv_0 el]; simp) | (simp only [zv_0 et0]))) ?_
    refine s_one (.agg #[.int .i64 0, .int .i64 0]) A152 S47 (g_build (r := []) (by kernel_rfl) (fun _ => by kernel_rfl)) rfl (fun ac A153 => ?_)
    refine s_want (dj := 48) (b := (decide ([zv (lgE ax az bx bz) (lenL (ax - bx) (az - bz)), zv (lgE ax az bx bz) (lenU (ax - bx) (az - bz))] = [0, 0]))) A153 (by kernel_rfl) (by kernel_rfl) (decide_eq_true (by first | rfl | assumption | omega | (simp only [zv_n zl]) | (simp only [zv_n zt]) | (simp only [zv_0 el]; simp) | (simp only [zv_0 et0]))) ?_
    refine s_one (.bool (decide ([zv (tmE ax az bx bz v) (tLo (lenL (ax - bx) (az - bz)) v), zv (tmE ax az bx bz v) (tHi (lenU (ax - bx) (az - bz)) v)] = [0, 0]))) A153 S47 (g_bin (u := .agg #[.int .i64 (zv (tmE ax az bx bz v) (tLo (lenL (ax - bx) (az - bz)) v)), .int .i64 (zv (tmE ax az bx bz v) (tHi (lenU (ax - bx) (az - bz)) v))]) (k := .agg #[.int .i64 0, .int .i64 0]) (by kernel_rfl) (by kernel_rfl) (fun _ => by kernel_rfl) (q_struct (n := 2) [zv (tmE ax az bx bz v) (tLo (lenL (ax - bx) (az - bz)) v), zv (tmE ax az bx bz v) (tHi (lenU (ax - bx) (az - bz)) v)] [0, 0] (by kernel_rfl) rfl rfl)) rfl (fun ac A154 => ?_)
    refine s_one (.bool (decide ([zv (tmE ax az bx bz v) (tLo (lenL (ax - bx) (az - bz)) v), zv (tmE ax az bx bz v) (tHi (lenU (ax - bx) (az - bz)) v)] = [0, 0]))) A154 S47 (g_pick_t (b := (decide ([zv (lgE ax az bx bz) (lenL (ax - bx) (az - bz)), zv (lgE ax az bx bz) (lenU (ax - bx) (az - bz))] = [0, 0]))) (by kernel_rfl) (decide_eq_true (by first | rfl | assumption | omega | (simp only [zv_n zl]) | (simp only [zv_n zt]) | (simp only [zv_0 el]; simp) | (simp only [zv_0 et0]))) (by kernel_rfl)) rfl (fun ac A155 => ?_)
    refine s_one (.bool (decide ([zv (tmE ax az bx bz v) (tLo (lenL (ax - bx) (az - bz)) v), zv (tmE ax az bx bz v) (tHi (lenU (ax - bx) (az - bz)) v)] = [0, 0]))) A155 S47 (g_assign (by kernel_rfl)) rfl (fun ac A156 => ?_)
    refine wpList_nil ?_
    refine n_then ?_
    refine wp_ret ?_
    refine r_then ?_
    refine fin1 (.bool (decide ([zv (tmE ax az bx bz v) (tLo (lenL (ax - bx) (az - bz)) v), zv (tmE ax az bx bz v) (tHi (lenU (ax - bx) (az - bz)) v)] = [0, 0]))) Try.results7 A156 S47 (rv_tmp (by kernel_rfl)) ⟨?_, S47.kp⟩
    exact congrArg (fun b => Ending.returned (Value.bool b)) (decide_eq_true (by first | rfl | assumption | omega | (simp only [zv_n zl]) | (simp only [zv_n zt]) | (simp only [zv_0 el]; simp) | (simp only [zv_0 et0])))

end Go.Proofs.Ytnfmfkejhgbipaa
