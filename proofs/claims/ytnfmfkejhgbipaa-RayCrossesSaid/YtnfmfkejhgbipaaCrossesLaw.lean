/- The walk of RayCrosses: it returns true. -/
import Derived.Test.YtnfmfkejhgbipaaRay8
import Derived.Test.YtnfmfkejhgbipaaArgs
namespace Go.Proofs.Ytnfmfkejhgbipaa
open Go.RowKit Go.Cpl Go.Ray1

set_option maxRecDepth 100000 in
set_option maxHeartbeats 400000 in
theorem RayCrosses_s (c : Cr) (p : Int) (w0 : World) :
    Calls Try.prog 12 #[.agg #[.int .i64 c.x1, .int .i64 c.h1, .int .i64 c.v1, .int .i64 c.x2, .int .i64 c.h2, .int .i64 c.v2], .int .i64 p] w0 fun e w' => e = .returned (.bool true) ∧ Below w0.heap.size w0 w' := by
  have S0 := St.start w0
  refine enter (n := 93) Try.func12 rfl rfl rfl (fun ac A0 => ?_)
  refine wp_seq ?_
  refine wp_region_lit ?_
  refine s_box (.agg #[.int .i64 c.x1, .int .i64 c.h1, .int .i64 c.v1, .int .i64 c.x2, .int .i64 c.h2, .int .i64 c.v2]) A0 S0 (by kernel_rfl) rfl (fun g3 ac wc A1 S2 => ?_)
  replace S2 : St _ (⟨g3, 23, #[.int .i64 c.x1, .int .i64 c.h1, .int .i64 c.v1, .int .i64 c.x2, .int .i64 c.h2, .int .i64 c.v2], true⟩ :: _) _ _ := S2
  refine s_one (.bool false) A1 S2 (g_assign (by kernel_rfl)) rfl (fun ac A5 => ?_)
  refine wpList_nil ?_
  refine n_then ?_
  refine wp_seq ?_
  refine wp_seq ?_
  refine wp_region_lit ?_
  refine s_call (fs := #[]) (cp := #[]) (r := []) #[] (.bool true) A5 S2 (awake_s _) Try.call19 (by kernel_rfl) (by kernel_rfl) (by kernel_rfl) rfl (fun ac wc A6 S7 => ?_)
  refine s_one (.bool false) A6 S7 (g_un (u := .bool true) (by kernel_rfl) (fun _ => by kernel_rfl)) rfl (fun ac A9 => ?_)
  refine wpList_nil ?_
  refine n_then ?_
  refine c_f (b := false) A9 (by kernel_rfl) rfl ?_
  refine wp_skip ?_
  refine n_then ?_
  refine wp_seq ?_
  refine wp_region_lit ?_
  refine s_one (.agg #[.int .i64 c.x1, .int .i64 c.h1, .int .i64 c.v1, .int .i64 c.x2, .int .i64 c.h2, .int .i64 c.v2]) A9 S7 (g_load (g := g3) (off := 0) 0 (by kernel_rfl) rfl (by kernel_rfl)) rfl (fun ac A10 => ?_)
  refine s_one (.int .i64 p) A10 S7 (g_move (by kernel_rfl)) rfl (fun ac A11 => ?_)
  refine s_call (fs := #[]) (cp := #[]) (r := [(0, .agg #[.int .i64 c.x1, .int .i64 c.h1, .int .i64 c.v1, .int .i64 c.x2, .int .i64 c.h2, .int .i64 c.v2]), (0, .int .i64 p)]) #[.agg #[.int .i64 c.x1, .int .i64 c.h1, .int .i64 c.v1, .int .i64 c.x2, .int .i64 c.h2, .int .i64 c.v2], .int .i64 p] (.tuple #[.int .i64 (zv (atE c p) (slp c p)), .int .i64 (atE c p)]) A11 S7 (SlopeAt_s c p _) Try.call56 (by kernel_rfl) (by kernel_rfl) (by kernel_rfl) rfl (fun ac wc A12 S13 => ?_)
  refine s_one (.tuple #[.int .i64 (zv (atE c p) (slp c p)), .int .i64 (atE c p)]) A12 S13 (g_move (by kernel_rfl)) rfl (fun ac A15 => ?_)
  refine s_one (.int .i64 (zv (atE c p) (slp c p))) A15 S13 (g_extract (u := .tuple #[.int .i64 (zv (atE c p) (slp c p)), .int .i64 (atE c p)]) (by kernel_rfl) (fun _ => by kernel_rfl)) rfl (fun ac A16 => ?_)
  refine s_one (.int .i64 (atE c p)) A16 S13 (g_extract (u := .tuple #[.int .i64 (zv (atE c p) (slp c p)), .int .i64 (atE c p)]) (by kernel_rfl) (fun _ => by kernel_rfl)) rfl (fun ac A17 => ?_)
  refine s_one (.int .i64 (zv (atE c p) (slp c p))) A17 S13 (g_assign (by kernel_rfl)) rfl (fun ac A18 => ?_)
  refine s_one (.int .i64 (atE c p)) A18 S13 (g_assign (by kernel_rfl)) rfl (fun ac A19 => ?_)
  refine wpList_nil ?_
  refine n_then ?_
  refine wp_seq ?_
  refine wp_region_lit ?_
  refine s_one (.agg #[.int .i64 c.x1, .int .i64 c.h1, .int .i64 c.v1, .int .i64 c.x2, .int .i64 c.h2, .int .i64 c.v2]) A19 S13 (g_load (g := g3) (off := 0) 0 (by kernel_rfl) rfl (by kernel_rfl)) rfl (fun ac A20 => ?_)
  refine s_one (.int .i64 p) A20 S13 (g_move (by kernel_rfl)) rfl (fun ac A21 => ?_)
  refine s_call (fs := #[]) (cp := #[]) (r := [(0, .agg #[.int .i64 c.x1, .int .i64 c.h1, .int .i64 c.v1, .int .i64 c.x2, .int .i64 c.h2, .int .i64 c.v2]), (0, .int .i64 p)]) #[.agg #[.int .i64 c.x1, .int .i64 c.h1, .int .i64 c.v1, .int .i64 c.x2, .int .i64 c.h2, .int .i64 c.v2], .int .i64 p] (.tuple #[.agg #[.int .i64 (zv (atE c p) (timLo c p)), .int .i64 (zv (atE c p) (timHi c p))], .int .i64 (atE c p)]) A21 S13 (TimeAt_s c p _) Try.call57 (by kernel_rfl) (by kernel_rfl) (by kernel_rfl) rfl (fun ac wc A22 S23 => ?_)
  refine s_one (.tuple #[.agg #[.int .i64 (zv (atE c p) (timLo c p)), .int .i64 (zv (atE c p) (timHi c p))], .int .i64 (atE c p)]) A22 S23 (g_move (by kernel_rfl)) rfl (fun ac A25 => ?_)
  refine s_one (.agg #[.int .i64 (zv (atE c p) (timLo c p)), .int .i64 (zv (atE c p) (timHi c p))]) A25 S23 (g_extract (u := .tuple #[.agg #[.int .i64 (zv (atE c p) (timLo c p)), .int .i64 (zv (atE c p) (timHi c p))], .int .i64 (atE c p)]) (by kernel_rfl) (fun _ => by kernel_rfl)) rfl (fun ac A26 => ?_)
  refine s_one (.int .i64 (atE c p)) A26 S23 (g_extract (u := .tuple #[.agg #[.int .i64 (zv (atE c p) (timLo c p)), .int .i64 (zv (atE c p) (timHi c p))], .int .i64 (atE c p)]) (by kernel_rfl) (fun _ => by kernel_rfl)) rfl (fun ac A27 => ?_)
  refine s_alloc (#[.int .i64 0, .int .i64 0]) A27 S23 (by kernel_rfl) rfl (fun g30 ac wc A28 S29 => ?_)
  refine s_store (g := g30) (off := 0) (v := .agg #[.int .i64 (zv (atE c p) (timLo c p)), .int .i64 (zv (atE c p) (timHi c p))]) 0 (#[.int .i64 (zv (atE c p) (timLo c p)), .int .i64 (zv (atE c p) (timHi c p))]) A28 S29 (by kernel_rfl) (by kernel_rfl) rfl (by kernel_rfl) (fun wc S32 => ?_)
  refine s_one (.int .i64 (atE c p)) A28 S32 (g_assign (by kernel_rfl)) rfl (fun ac A34 => ?_)
  refine wpList_nil ?_
  refine n_then ?_
  refine wp_seq ?_
  refine wp_region_lit ?_
  refine s_one (.agg #[.int .i64 c.x1, .int .i64 c.h1, .int .i64 c.v1, .int .i64 c.x2, .int .i64 c.h2, .int .i64 c.v2]) A34 S32 (g_load (g := g3) (off := 0) 1 (by kernel_rfl) rfl (by kernel_rfl)) rfl (fun ac A35 => ?_)
  refine s_one (.int .i64 p) A35 S32 (g_move (by kernel_rfl)) rfl (fun ac A36 => ?_)
  refine s_call (fs := #[]) (cp := #[]) (r := [(0, .agg #[.int .i64 c.x1, .int .i64 c.h1, .int .i64 c.v1, .int .i64 c.x2, .int .i64 c.h2, .int .i64 c.v2]), (0, .int .i64 p)]) #[.agg #[.int .i64 c.x1, .int .i64 c.h1, .int .i64 c.v1, .int .i64 c.x2, .int .i64 c.h2, .int .i64 c.v2], .int .i64 p] (.int .i64 (ckE c p)) A36 S32 (CheckCrossing_s c p _) Try.call58 (by kernel_rfl) (by kernel_rfl) (by kernel_rfl) rfl (fun ac wc A37 S38 => ?_)
  refine s_one (.int .i64 (ckE c p)) A37 S38 (g_assign (by kernel_rfl)) rfl (fun ac A40 => ?_)
  refine wpList_nil ?_
  refine n_then ?_
  refine wp_seq ?_
  refine wp_region_lit ?_
  refine s_one (.agg #[.int .i64 c.x1, .int .i64 c.h1, .int .i64 c.v1, .int .i64 c.x2, .int .i64 c.h2, .int .i64 c.v2]) A40 S38 (g_load (g := g3) (off := 0) 1 (by kernel_rfl) rfl (by kernel_rfl)) rfl (fun ac A41 => ?_)
  refine s_call (fs := #[]) (cp := #[]) (r := [(0, .agg #[.int .i64 c.x1, .int .i64 c.h1, .int .i64 c.v1, .int .i64 c.x2, .int .i64 c.h2, .int .i64 c.v2])]) #[.agg #[.int .i64 c.x1, .int .i64 c.h1, .int .i64 c.v1, .int .i64 c.x2, .int .i64 c.h2, .int .i64 c.v2]] (.int .i64 (crE c)) A41 S38 (refCheckCross_s c _) Try.call22 (by kernel_rfl) (by kernel_rfl) (by kernel_rfl) rfl (fun ac wc A42 S43 => ?_)
  refine s_one (.int .i64 (crE c)) A42 S43 (g_assign (by kernel_rfl)) rfl (fun ac A45 => ?_)
  refine wpList_nil ?_
  refine n_then ?_
  refine wp_seq ?_
  refine wp_seq ?_
  refine wp_region_lit ?_
  refine s_one (.agg #[.int .i64 c.x1, .int .i64 c.h1, .int .i64 c.v1, .int .i64 c.x2, .int .i64 c.h2, .int .i64 c.v2]) A45 S43 (g_load (g := g3) (off := 0) 1 (by kernel_rfl) rfl (by kernel_rfl)) rfl (fun ac A46 => ?_)
  refine s_call (fs := #[]) (cp := #[]) (r := [(0, .agg #[.int .i64 c.x1, .int .i64 c.h1, .int .i64 c.v1, .int .i64 c.x2, .int .i64 c.h2, .int .i64 c.v2])]) #[.agg #[.int .i64 c.x1, .int .i64 c.h1, .int .i64 c.v1, .int .i64 c.x2, .int .i64 c.h2, .int .i64 c.v2]] (.int .i64 (crE c)) A46 S43 (CheckCross_s c _) Try.call59 (by kernel_rfl) (by kernel_rfl) (by kernel_rfl) rfl (fun ac wc A47 S48 => ?_)
  refine s_one (.int .i64 (crE c)) A47 S48 (g_move (by kernel_rfl)) rfl (fun ac A50 => ?_)
  refine s_one (.bool (decide (crE c ≠ crE c))) A50 S48 (g_bin (u := .int .i64 (crE c)) (k := .int .i64 (crE c)) (by kernel_rfl) (by kernel_rfl) (fun _ => by kernel_rfl) b_neq) rfl (fun ac A51 => ?_)
  refine wpList_nil ?_
  refine n_then ?_
  refine c_f (b := (decide (crE c ≠ crE c))) A51 (by kernel_rfl) (decide_eq_false (fun h => h rfl)) ?_
  refine wp_skip ?_
  refine n_then ?_
  refine wp_seq ?_
  refine wp_seq ?_
  refine wp_region_lit ?_
  refine s_one (.int .i64 (crE c)) A51 S48 (g_move (by kernel_rfl)) rfl (fun ac A52 => ?_)
  refine s_one (.bool (decide (crE c = 0))) A52 S48 (g_bin (u := .int .i64 (crE c)) (k := .int .i64 0) (by kernel_rfl) (by kernel_rfl) (fun _ => by kernel_rfl) b_eql) rfl (fun ac A53 => ?_)
  refine s_one (.bool (decide (crE c = 0))) A53 S48 (g_move (by kernel_rfl)) rfl (fun ac A54 => ?_)
  refine by_bool (decide (crE c = 0)) (fun h55 => ?_) (fun h55 => ?_)
  · have p56 := of_decide_eq_true h55
    have ze : crE c = 0 := of_decide_eq_true h55
    have ok := crE_ok ze
    refine s_want (dj := 36) (b := (decide (crE c = 0))) A54 (by kernel_rfl) (by kernel_rfl) h55 ?_
    refine s_one (.agg #[.int .i64 c.x1, .int .i64 c.h1, .int .i64 c.v1, .int .i64 c.x2, .int .i64 c.h2, .int .i64 c.v2]) A54 S48 (g_load (g := g3) (off := 0) 1 (by kernel_rfl) rfl (by kernel_rfl)) rfl (fun ac A57 => ?_)
    refine s_want (dj := 36) (b := (decide (crE c = 0))) A57 (by kernel_rfl) (by kernel_rfl) h55 ?_
    refine s_one (.int .i64 p) A57 S48 (g_move (by kernel_rfl)) rfl (fun ac A58 => ?_)
    refine s_want (dj := 36) (b := (decide (crE c = 0))) A58 (by kernel_rfl) (by kernel_rfl) h55 ?_
    refine s_call (fs := #[]) (cp := #[]) (r := [(0, .agg #[.int .i64 c.x1, .int .i64 c.h1, .int .i64 c.v1, .int .i64 c.x2, .int .i64 c.h2, .int .i64 c.v2]), (0, .int .i64 p)]) #[.agg #[.int .i64 c.x1, .int .i64 c.h1, .int .i64 c.v1, .int .i64 c.x2, .int .i64 c.h2, .int .i64 c.v2], .int .i64 p] (.bool (inB p c.lo c.hi)) A58 S48 (Is_s c p _) Try.call60 (by kernel_rfl) (by kernel_rfl) (by kernel_rfl) rfl (fun ac wc A59 S60 => ?_)
    refine s_want (dj := 36) (b := (decide (crE c = 0))) A59 (by kernel_rfl) (by kernel_rfl) h55 ?_
    refine s_one (.bool (!(inB p c.lo c.hi))) A59 S60 (g_un (u := .bool (inB p c.lo c.hi)) (by kernel_rfl) (fun _ => by kernel_rfl)) rfl (fun ac A62 => ?_)
    refine s_one (.bool (!(inB p c.lo c.hi))) A62 S60 (g_pick_t (b := (decide (crE c = 0))) (by kernel_rfl) h55 (by kernel_rfl)) rfl (fun ac A63 => ?_)
    refine wpList_nil ?_
    refine n_then ?_
    refine c_ifb (b := (!(inB p c.lo c.hi))) A63 (by kernel_rfl) (fun h64 => ?_) (fun h64 => ?_)
    · have h65 : inB p c.lo c.hi = false := by simpa using h64
      have ea := atE_r ze h65
      have zq : atE c p ≠ 0 := by rw [ea]; decide
      have ek : ckE c p = 2 := (ckE_n zq).trans ea
      refine wp_region_lit ?_
      refine s_one (.int .i64 2) A63 S60 (g_assign (by kernel_rfl)) rfl (fun ac A66 => ?_)
      refine wpList_nil ?_
      refine n_then ?_
      refine wp_seq ?_
      refine wp_seq ?_
      refine wp_region_lit ?_
      refine s_one (.int .i64 2) A66 S60 (g_move (by kernel_rfl)) rfl (fun ac A67 => ?_)
      refine s_one (.bool (decide (2 ≠ 0))) A67 S60 (g_bin (u := .int .i64 2) (k := .int .i64 0) (by kernel_rfl) (by kernel_rfl) (fun _ => by kernel_rfl) b_neq) rfl (fun ac A68 => ?_)
      refine wpList_nil ?_
      refine n_then ?_
      refine c_t (b := (decide (2 ≠ 0))) A68 (by kernel_rfl) (by decide) ?_
      refine wp_seq ?_
      refine wp_region_lit ?_
      refine s_one (.int .i64 (atE c p)) A68 S60 (g_move (by kernel_rfl)) rfl (fun ac A69 => ?_)
      refine s_one (.int .i64 2) A69 S60 (g_move (by kernel_rfl)) rfl (fun ac A70 => ?_)
      refine s_one (.bool (decide (atE c p = 2))) A70 S60 (g_bin (u := .int .i64 (atE c p)) (k := .int .i64 2) (by kernel_rfl) (by kernel_rfl) (fun _ => by kernel_rfl) b_eql) rfl (fun ac A71 => ?_)
      refine s_one (.bool (decide (atE c p = 2))) A71 S60 (g_move (by kernel_rfl)) rfl (fun ac A72 => ?_)
      refine s_want (dj := 47) (b := (decide (atE c p = 2))) A72 (by kernel_rfl) (by kernel_rfl) (decide_eq_true (by first | rfl | assumption | exact zv_n zq _ | rw [zv_n zq, zv_n zq] | rw [zv_0 za, zv_0 za] | rw [zv_0 za] | omega)) ?_
      refine s_one (.int .i64 (atE c p)) A72 S60 (g_move (by kernel_rfl)) rfl (fun ac A73 => ?_)
      refine s_want (dj := 47) (b := (decide (atE c p = 2))) A73 (by kernel_rfl) (by kernel_rfl) (decide_eq_true (by first | rfl | assumption | exact zv_n zq _ | rw [zv_n zq, zv_n zq] | rw [zv_0 za, zv_0 za] | rw [zv_0 za] | omega)) ?_
      refine s_one (.int .i64 2) A73 S60 (g_move (by kernel_rfl)) rfl (fun ac A74 => ?_)
      refine s_want (dj := 47) (b := (decide (atE c p = 2))) A74 (by kernel_rfl) (by kernel_rfl) (decide_eq_true (by first | rfl | assumption | exact zv_n zq _ | rw [zv_n zq, zv_n zq] | rw [zv_0 za, zv_0 za] | rw [zv_0 za] | omega)) ?_
      refine s_one (.bool (decide (atE c p = 2))) A74 S60 (g_bin (u := .int .i64 (atE c p)) (k := .int .i64 2) (by kernel_rfl) (by kernel_rfl) (fun _ => by kernel_rfl) b_eql) rfl (fun ac A75 => ?_)
      refine s_one (.bool (decide (atE c p = 2))) A75 S60 (g_pick_t (b := (decide (atE c p = 2))) (by kernel_rfl) (decide_eq_true (by first | rfl | assumption | exact zv_n zq _ | rw [zv_n zq, zv_n zq] | rw [zv_0 za, zv_0 za] | rw [zv_0 za] | omega)) (by kernel_rfl)) rfl (fun ac A76 => ?_)
      refine s_one (.bool (decide (atE c p = 2))) A76 S60 (g_move (by kernel_rfl)) rfl (fun ac A77 => ?_)
      refine s_want (dj := 52) (b := (decide (atE c p = 2))) A77 (by kernel_rfl) (by kernel_rfl) (decide_eq_true (by first | rfl | assumption | exact zv_n zq _ | rw [zv_n zq, zv_n zq] | rw [zv_0 za, zv_0 za] | rw [zv_0 za] | omega)) ?_
      refine s_one (.int .i64 (ckE c p)) A77 S60 (g_move (by kernel_rfl)) rfl (fun ac A78 => ?_)
      refine s_want (dj := 52) (b := (decide (atE c p = 2))) A78 (by kernel_rfl) (by kernel_rfl) (decide_eq_true (by first | rfl | assumption | exact zv_n zq _ | rw [zv_n zq, zv_n zq] | rw [zv_0 za, zv_0 za] | rw [zv_0 za] | omega)) ?_
      refine s_one (.int .i64 2) A78 S60 (g_move (by kernel_rfl)) rfl (fun ac A79 => ?_)
      refine s_want (dj := 52) (b := (decide (atE c p = 2))) A79 (by kernel_rfl) (by kernel_rfl) (decide_eq_true (by first | rfl | assumption | exact zv_n zq _ | rw [zv_n zq, zv_n zq] | rw [zv_0 za, zv_0 za] | rw [zv_0 za] | omega)) ?_
      refine s_one (.bool (decide (ckE c p = 2))) A79 S60 (g_bin (u := .int .i64 (ckE c p)) (k := .int .i64 2) (by kernel_rfl) (by kernel_rfl) (fun _ => by kernel_rfl) b_eql) rfl (fun ac A80 => ?_)
      refine s_one (.bool (decide (ckE c p = 2))) A80 S60 (g_pick_t (b := (decide (atE c p = 2))) (by kernel_rfl) (decide_eq_true (by first | rfl | assumption | exact zv_n zq _ | rw [zv_n zq, zv_n zq] | rw [zv_0 za, zv_0 za] | rw [zv_0 za] | omega)) (by kernel_rfl)) rfl (fun ac A81 => ?_)
      refine s_one (.bool (decide (ckE c p = 2))) A81 S60 (g_move (by kernel_rfl)) rfl (fun ac A82 => ?_)
      refine s_want (dj := 57) (b := (decide (ckE c p = 2))) A82 (by kernel_rfl) (by kernel_rfl) (decide_eq_true (by first | rfl | assumption | exact zv_n zq _ | rw [zv_n zq, zv_n zq] | rw [zv_0 za, zv_0 za] | rw [zv_0 za] | omega)) ?_
      refine s_one (.int .i64 (zv (atE c p) (slp c p))) A82 S60 (g_move (by kernel_rfl)) rfl (fun ac A83 => ?_)
      refine s_want (dj := 57) (b := (decide (ckE c p = 2))) A83 (by kernel_rfl) (by kernel_rfl) (decide_eq_true (by first | rfl | assumption | exact zv_n zq _ | rw [zv_n zq, zv_n zq] | rw [zv_0 za, zv_0 za] | rw [zv_0 za] | omega)) ?_
      refine s_one (.bool (decide (zv (atE c p) (slp c p) = 0))) A83 S60 (g_bin (u := .int .i64 (zv (atE c p) (slp c p))) (k := .int .i64 0) (by kernel_rfl) (by kernel_rfl) (fun _ => by kernel_rfl) b_eql) rfl (fun ac A84 => ?_)
      refine s_one (.bool (decide (zv (atE c p) (slp c p) = 0))) A84 S60 (g_pick_t (b := (decide (ckE c p = 2))) (by kernel_rfl) (decide_eq_true (by first | rfl | assumption | exact zv_n zq _ | rw [zv_n zq, zv_n zq] | rw [zv_0 za, zv_0 za] | rw [zv_0 za] | omega)) (by kernel_rfl)) rfl (fun ac A85 => ?_)
      refine s_one (.bool (decide (zv (atE c p) (slp c p) = 0))) A85 S60 (g_move (by kernel_rfl)) rfl (fun ac A86 => ?_)
      refine s_want (dj := 61) (b := (decide (zv (atE c p) (slp c p) = 0))) A86 (by kernel_rfl) (by kernel_rfl) (decide_eq_true (by first | rfl | assumption | exact zv_n zq _ | rw [zv_n zq, zv_n zq] | rw [zv_0 za, zv_0 za] | rw [zv_0 za] | omega)) ?_
      refine s_one (.agg #[.int .i64 (zv (atE c p) (timLo c p)), .int .i64 (zv (atE c p) (timHi c p))]) A86 S60 (g_load (g := g30) (off := 0) 0 (by kernel_rfl) rfl (by kernel_rfl)) rfl (fun ac A87 => ?_)
      refine s_want (dj := 61) (b := (decide (zv (atE c p) (slp c p) = 0))) A87 (by kernel_rfl) (by kernel_rfl) (decide_eq_true (by first | rfl | assumption | exact zv_n zq _ | rw [zv_n zq, zv_n zq] | rw [zv_0 za, zv_0 za] | rw [zv_0 za] | omega)) ?_
      refine s_one (.agg #[.int .i64 0, .int .i64 0]) A87 S60 (g_build (r := []) (by kernel_rfl) (fun _ => by kernel_rfl)) rfl (fun ac A88 => ?_)
      refine s_want (dj := 61) (b := (decide (zv (atE c p) (slp c p) = 0))) A88 (by kernel_rfl) (by kernel_rfl) (decide_eq_true (by first | rfl | assumption | exact zv_n zq _ | rw [zv_n zq, zv_n zq] | rw [zv_0 za, zv_0 za] | rw [zv_0 za] | omega)) ?_
      refine s_one (.bool (decide ([zv (atE c p) (timLo c p), zv (atE c p) (timHi c p)] = [0, 0]))) A88 S60 (g_bin (u := .agg #[.int .i64 (zv (atE c p) (timLo c p)), .int .i64 (zv (atE c p) (timHi c p))]) (k := .agg #[.int .i64 0, .int .i64 0]) (by kernel_rfl) (by kernel_rfl) (fun _ => by kernel_rfl) (q_struct (n := 2) [zv (atE c p) (timLo c p), zv (atE c p) (timHi c p)] [0, 0] (by kernel_rfl) rfl rfl)) rfl (fun ac A89 => ?_)
      refine s_one (.bool (decide ([zv (atE c p) (timLo c p), zv (atE c p) (timHi c p)] = [0, 0]))) A89 S60 (g_pick_t (b := (decide (zv (atE c p) (slp c p) = 0))) (by kernel_rfl) (decide_eq_true (by first | rfl | assumption | exact zv_n zq _ | rw [zv_n zq, zv_n zq] | rw [zv_0 za, zv_0 za] | rw [zv_0 za] | omega)) (by kernel_rfl)) rfl (fun ac A90 => ?_)
      refine s_one (.bool (decide ([zv (atE c p) (timLo c p), zv (atE c p) (timHi c p)] = [0, 0]))) A90 S60 (g_assign (by kernel_rfl)) rfl (fun ac A91 => ?_)
      refine wpList_nil ?_
      refine n_then ?_
      refine wp_ret ?_
      refine r_then ?_
      refine fin1 (.bool (decide ([zv (atE c p) (timLo c p), zv (atE c p) (timHi c p)] = [0, 0]))) Try.results12 A91 S60 (rv_tmp (by kernel_rfl)) ⟨?_, S60.kp⟩
      exact congrArg (fun b => Ending.returned (Value.bool b)) (decide_eq_true (by first | rfl | assumption | exact zv_n zq _ | rw [zv_n zq, zv_n zq] | rw [zv_0 za, zv_0 za] | rw [zv_0 za] | omega))
    · have h92 : inB p c.lo c.hi = true := by simpa using h64
      have za := atE_of ok h92
      have k01 := inB_true.1 h92
      refine wp_skip ?_
      refine n_then ?_
      refine wp_seq ?_
      refine wp_seq ?_
      refine wp_region_lit ?_
      refine s_one (.int .i64 (crE c)) A63 S60 (g_move (by kernel_rfl)) rfl (fun ac A93 => ?_)
      refine s_one (.bool (decide (crE c ≠ 0))) A93 S60 (g_bin (u := .int .i64 (crE c)) (k := .int .i64 0) (by kernel_rfl) (by kernel_rfl) (fun _ => by kernel_rfl) b_neq) rfl (fun ac A94 => ?_)
      refine wpList_nil ?_
      refine n_then ?_
      refine c_f (b := (decide (crE c ≠ 0))) A94 (by kernel_rfl) (decide_eq_false (by omega)) ?_
      refine wp_skip ?_
      refine n_then ?_
      refine wp_seq ?_
      refine r_begin (w0 := w0) (by kernel_rfl) (S60.sub sub_all sub_all) (fun wc T95 B96 => ?_)
      have S97 := S60.kept B96
      refine r_take 0 (.int .i64 (atE c p)) A94 T95 (g_move (by kernel_rfl)) rfl rfl rfl (pf_then pf_body) (by kernel_rfl) (fun ac A98 => ?_)
      refine r_take 1 (.bool (decide (atE c p = 0))) A98 T95 (g_bin (u := .int .i64 (atE c p)) (k := .int .i64 0) (by kernel_rfl) (by kernel_rfl) (fun _ => by kernel_rfl) b_eql) rfl rfl rfl (pf_then pf_body) (by kernel_rfl) (fun ac A99 => ?_)
      refine r_take 2 (.bool (decide (atE c p = 0))) A99 T95 (g_move (by kernel_rfl)) rfl rfl rfl (pf_then pf_body) (by kernel_rfl) (fun ac A100 => ?_)
      refine r_take 3 (.int .i64 (zv (atE c p) (slp c p))) A100 T95 (g_move (by kernel_rfl)) rfl (want_t (dj := 68) (b := (decide (atE c p = 0))) A100 rfl (by kernel_rfl) (by kernel_rfl) (decide_eq_true (by first | rfl | assumption | exact zv_n zq _ | rw [zv_n zq, zv_n zq] | rw [zv_0 za, zv_0 za] | rw [zv_0 za] | omega))) rfl (pf_then pf_body) (by kernel_rfl) (fun ac A101 => ?_)
      refine r_take 4 (.agg #[.int .i64 c.x1, .int .i64 c.h1, .int .i64 c.v1, .int .i64 c.x2, .int .i64 c.h2, .int .i64 c.v2]) A101 T95 (g_load (g := g3) (off := 0) 1 (by kernel_rfl) rfl (by kernel_rfl)) rfl (want_t (dj := 68) (b := (decide (atE c p = 0))) A101 rfl (by kernel_rfl) (by kernel_rfl) (decide_eq_true (by first | rfl | assumption | exact zv_n zq _ | rw [zv_n zq, zv_n zq] | rw [zv_0 za, zv_0 za] | rw [zv_0 za] | omega))) rfl (pf_then pf_body) (by kernel_rfl) (fun ac A102 => ?_)
      refine r_take 5 (.int .i64 p) A102 T95 (g_move (by kernel_rfl)) rfl (want_t (dj := 68) (b := (decide (atE c p = 0))) A102 rfl (by kernel_rfl) (by kernel_rfl) (decide_eq_true (by first | rfl | assumption | exact zv_n zq _ | rw [zv_n zq, zv_n zq] | rw [zv_0 za, zv_0 za] | rw [zv_0 za] | omega))) rfl (pf_then pf_body) (by kernel_rfl) (fun ac A103 => ?_)
      refine r_1 (i := 6) (by kernel_rfl) ?_
      refine rs_call (fs := #[]) (cp := #[]) (r := [(0, .agg #[.int .i64 c.x1, .int .i64 c.h1, .int .i64 c.v1, .int .i64 c.x2, .int .i64 c.h2, .int .i64 c.v2]), (0, .int .i64 p)]) #[.agg #[.int .i64 c.x1, .int .i64 c.h1, .int .i64 c.v1, .int .i64 c.x2, .int .i64 c.h2, .int .i64 c.v2], .int .i64 p] (.int .i64 (slp c p)) A103 S97 sub_all sub_all (refSlope_s c p _ ok (by omega) (by omega)) Try.call61 rfl (want_t (dj := 68) (b := (decide (atE c p = 0))) A103 rfl (by kernel_rfl) (by kernel_rfl) (decide_eq_true (by first | rfl | assumption | exact zv_n zq _ | rw [zv_n zq, zv_n zq] | rw [zv_0 za, zv_0 za] | rw [zv_0 za] | omega))) (by kernel_rfl) (by kernel_rfl) (by kernel_rfl) rfl (fun ac wc A104 S105 => ?_)
      have T107 := S105.sub sub_all sub_all
      refine r_take 7 (.bool (decide (zv (atE c p) (slp c p) = slp c p))) A104 T107 (g_bin (u := .int .i64 (zv (atE c p) (slp c p))) (k := .int .i64 (slp c p)) (by kernel_rfl) (by kernel_rfl) (fun _ => by kernel_rfl) b_eql) rfl (want_t (dj := 68) (b := (decide (atE c p = 0))) A104 rfl (by kernel_rfl) (by kernel_rfl) (decide_eq_true (by first | rfl | assumption | exact zv_n zq _ | rw [zv_n zq, zv_n zq] | rw [zv_0 za, zv_0 za] | rw [zv_0 za] | omega))) rfl (pf_then pf_body) (by kernel_rfl) (fun ac A108 => ?_)
      refine r_take 8 (.bool (decide (zv (atE c p) (slp c p) = slp c p))) A108 T107 (g_pick_t (b := (decide (atE c p = 0))) (by kernel_rfl) (decide_eq_true (by first | rfl | assumption | exact zv_n zq _ | rw [zv_n zq, zv_n zq] | rw [zv_0 za, zv_0 za] | rw [zv_0 za] | omega)) (by kernel_rfl)) rfl rfl rfl (pf_then pf_body) (by kernel_rfl) (fun ac A109 => ?_)
      refine r_take 9 (.bool (decide (zv (atE c p) (slp c p) = slp c p))) A109 T107 (g_move (by kernel_rfl)) rfl rfl rfl (pf_then pf_body) (by kernel_rfl) (fun ac A110 => ?_)
      refine r_take 10 (.int .i64 (atE c p)) A110 T107 (g_move (by kernel_rfl)) rfl (want_t (dj := 75) (b := (decide (zv (atE c p) (slp c p) = slp c p))) A110 rfl (by kernel_rfl) (by kernel_rfl) (decide_eq_true (by first | rfl | assumption | exact zv_n zq _ | rw [zv_n zq, zv_n zq] | rw [zv_0 za, zv_0 za] | rw [zv_0 za] | omega))) rfl (pf_then pf_body) (by kernel_rfl) (fun ac A111 => ?_)
      refine r_take 11 (.bool (decide (atE c p = 0))) A111 T107 (g_bin (u := .int .i64 (atE c p)) (k := .int .i64 0) (by kernel_rfl) (by kernel_rfl) (fun _ => by kernel_rfl) b_eql) rfl (want_t (dj := 75) (b := (decide (zv (atE c p) (slp c p) = slp c p))) A111 rfl (by kernel_rfl) (by kernel_rfl) (decide_eq_true (by first | rfl | assumption | exact zv_n zq _ | rw [zv_n zq, zv_n zq] | rw [zv_0 za, zv_0 za] | rw [zv_0 za] | omega))) rfl (pf_then pf_body) (by kernel_rfl) (fun ac A112 => ?_)
      refine r_take 12 (.bool (decide (atE c p = 0))) A112 T107 (g_pick_t (b := (decide (zv (atE c p) (slp c p) = slp c p))) (by kernel_rfl) (decide_eq_true (by first | rfl | assumption | exact zv_n zq _ | rw [zv_n zq, zv_n zq] | rw [zv_0 za, zv_0 za] | rw [zv_0 za] | omega)) (by kernel_rfl)) rfl rfl rfl (pf_then pf_body) (by kernel_rfl) (fun ac A113 => ?_)
      refine r_take 13 (.bool (decide (atE c p = 0))) A113 T107 (g_move (by kernel_rfl)) rfl rfl rfl (pf_then pf_body) (by kernel_rfl) (fun ac A114 => ?_)
      refine r_take 14 (.agg #[.int .i64 (zv (atE c p) (timLo c p)), .int .i64 (zv (atE c p) (timHi c p))]) A114 T107 (g_load (g := g30) (off := 0) 0 (by kernel_rfl) rfl (by kernel_rfl)) rfl (want_t (dj := 79) (b := (decide (atE c p = 0))) A114 rfl (by kernel_rfl) (by kernel_rfl) (decide_eq_true (by first | rfl | assumption | exact zv_n zq _ | rw [zv_n zq, zv_n zq] | rw [zv_0 za, zv_0 za] | rw [zv_0 za] | omega))) rfl (pf_then pf_body) (by kernel_rfl) (fun ac A115 => ?_)
      refine r_take 15 (.agg #[.int .i64 c.x1, .int .i64 c.h1, .int .i64 c.v1, .int .i64 c.x2, .int .i64 c.h2, .int .i64 c.v2]) A115 T107 (g_load (g := g3) (off := 0) 1 (by kernel_rfl) rfl (by kernel_rfl)) rfl (want_t (dj := 79) (b := (decide (atE c p = 0))) A115 rfl (by kernel_rfl) (by kernel_rfl) (decide_eq_true (by first | rfl | assumption | exact zv_n zq _ | rw [zv_n zq, zv_n zq] | rw [zv_0 za, zv_0 za] | rw [zv_0 za] | omega))) rfl (pf_then pf_body) (by kernel_rfl) (fun ac A116 => ?_)
      refine r_take 16 (.int .i64 p) A116 T107 (g_move (by kernel_rfl)) rfl (want_t (dj := 79) (b := (decide (atE c p = 0))) A116 rfl (by kernel_rfl) (by kernel_rfl) (decide_eq_true (by first | rfl | assumption | exact zv_n zq _ | rw [zv_n zq, zv_n zq] | rw [zv_0 za, zv_0 za] | rw [zv_0 za] | omega))) rfl (pf_then pf_body) (by kernel_rfl) (fun ac A117 => ?_)
      refine r_1 (i := 17) (by kernel_rfl) ?_
      have q122 := tim_bd (c := c) (p := p) ok (by omega) (by omega)
      refine rs_call (fs := #[]) (cp := #[]) (r := [(0, .agg #[.int .i64 c.x1, .int .i64 c.h1, .int .i64 c.v1, .int .i64 c.x2, .int .i64 c.h2, .int .i64 c.v2]), (0, .int .i64 p)]) #[.agg #[.int .i64 c.x1, .int .i64 c.h1, .int .i64 c.v1, .int .i64 c.x2, .int .i64 c.h2, .int .i64 c.v2], .int .i64 p] (.agg #[.int .i64 (timLo c p), .int .i64 (timHi c p)]) A117 S105 sub_all sub_all (refTimeAt_s c p _ ok (by omega) (by omega)) Try.call62 rfl (want_t (dj := 79) (b := (decide (atE c p = 0))) A117 rfl (by kernel_rfl) (by kernel_rfl) (decide_eq_true (by first | rfl | assumption | exact zv_n zq _ | rw [zv_n zq, zv_n zq] | rw [zv_0 za, zv_0 za] | rw [zv_0 za] | omega))) (by kernel_rfl) (by kernel_rfl) (by kernel_rfl) rfl (fun ac wc A118 S119 => ?_)
      have T121 := S119.sub sub_all sub_all
      refine r_take 18 (.bool (decide ([zv (atE c p) (timLo c p), zv (atE c p) (timHi c p)] = [timLo c p, timHi c p]))) A118 T121 (g_bin (u := .agg #[.int .i64 (zv (atE c p) (timLo c p)), .int .i64 (zv (atE c p) (timHi c p))]) (k := .agg #[.int .i64 (timLo c p), .int .i64 (timHi c p)]) (by kernel_rfl) (by kernel_rfl) (fun _ => by kernel_rfl) (q_struct (n := 2) [zv (atE c p) (timLo c p), zv (atE c p) (timHi c p)] [timLo c p, timHi c p] (by kernel_rfl) rfl rfl)) rfl (want_t (dj := 79) (b := (decide (atE c p = 0))) A118 rfl (by kernel_rfl) (by kernel_rfl) (decide_eq_true (by first | rfl | assumption | exact zv_n zq _ | rw [zv_n zq, zv_n zq] | rw [zv_0 za, zv_0 za] | rw [zv_0 za] | omega))) rfl (pf_then pf_body) (by kernel_rfl) (fun ac A123 => ?_)
      refine r_take 19 (.bool (decide ([zv (atE c p) (timLo c p), zv (atE c p) (timHi c p)] = [timLo c p, timHi c p]))) A123 T121 (g_pick_t (b := (decide (atE c p = 0))) (by kernel_rfl) (decide_eq_true (by first | rfl | assumption | exact zv_n zq _ | rw [zv_n zq, zv_n zq] | rw [zv_0 za, zv_0 za] | rw [zv_0 za] | omega)) (by kernel_rfl)) rfl rfl rfl (pf_then pf_body) (by kernel_rfl) (fun ac A124 => ?_)
      refine r_take 20 (.bool (decide ([zv (atE c p) (timLo c p), zv (atE c p) (timHi c p)] = [timLo c p, timHi c p]))) A124 T121 (g_move (by kernel_rfl)) rfl rfl rfl (pf_then pf_body) (by kernel_rfl) (fun ac A125 => ?_)
      refine r_take 21 (.int .i64 (ckE c p)) A125 T121 (g_move (by kernel_rfl)) rfl (want_t (dj := 86) (b := (decide ([zv (atE c p) (timLo c p), zv (atE c p) (timHi c p)] = [timLo c p, timHi c p]))) A125 rfl (by kernel_rfl) (by kernel_rfl) (decide_eq_true (by first | rfl | assumption | exact zv_n zq _ | rw [zv_n zq, zv_n zq] | rw [zv_0 za, zv_0 za] | rw [zv_0 za] | omega))) rfl (pf_then pf_body) (by kernel_rfl) (fun ac A126 => ?_)
      refine r_take 22 (.agg #[.int .i64 c.x1, .int .i64 c.h1, .int .i64 c.v1, .int .i64 c.x2, .int .i64 c.h2, .int .i64 c.v2]) A126 T121 (g_load (g := g3) (off := 0) 1 (by kernel_rfl) rfl (by kernel_rfl)) rfl (want_t (dj := 86) (b := (decide ([zv (atE c p) (timLo c p), zv (atE c p) (timHi c p)] = [timLo c p, timHi c p]))) A126 rfl (by kernel_rfl) (by kernel_rfl) (decide_eq_true (by first | rfl | assumption | exact zv_n zq _ | rw [zv_n zq, zv_n zq] | rw [zv_0 za, zv_0 za] | rw [zv_0 za] | omega))) rfl (pf_then pf_body) (by kernel_rfl) (fun ac A127 => ?_)
      refine r_take 23 (.int .i64 p) A127 T121 (g_move (by kernel_rfl)) rfl (want_t (dj := 86) (b := (decide ([zv (atE c p) (timLo c p), zv (atE c p) (timHi c p)] = [timLo c p, timHi c p]))) A127 rfl (by kernel_rfl) (by kernel_rfl) (decide_eq_true (by first | rfl | assumption | exact zv_n zq _ | rw [zv_n zq, zv_n zq] | rw [zv_0 za, zv_0 za] | rw [zv_0 za] | omega))) rfl (pf_then pf_body) (by kernel_rfl) (fun ac A128 => ?_)
      refine r_1 (i := 24) (by kernel_rfl) ?_
      refine rs_call (fs := #[]) (cp := #[]) (r := [(0, .agg #[.int .i64 c.x1, .int .i64 c.h1, .int .i64 c.v1, .int .i64 c.x2, .int .i64 c.h2, .int .i64 c.v2]), (0, .int .i64 p)]) #[.agg #[.int .i64 c.x1, .int .i64 c.h1, .int .i64 c.v1, .int .i64 c.x2, .int .i64 c.h2, .int .i64 c.v2], .int .i64 p] (.int .i64 (ckE c p)) A128 S119 sub_all sub_all (refCheckCrossing_s c p _ ok) Try.call63 rfl (want_t (dj := 86) (b := (decide ([zv (atE c p) (timLo c p), zv (atE c p) (timHi c p)] = [timLo c p, timHi c p]))) A128 rfl (by kernel_rfl) (by kernel_rfl) (decide_eq_true (by first | rfl | assumption | exact zv_n zq _ | rw [zv_n zq, zv_n zq] | rw [zv_0 za, zv_0 za] | rw [zv_0 za] | omega))) (by kernel_rfl) (by kernel_rfl) (by kernel_rfl) rfl (fun ac wc A129 S130 => ?_)
      have T132 := S130.sub sub_all sub_all
      refine r_take 25 (.bool (decide (ckE c p = ckE c p))) A129 T132 (g_bin (u := .int .i64 (ckE c p)) (k := .int .i64 (ckE c p)) (by kernel_rfl) (by kernel_rfl) (fun _ => by kernel_rfl) b_eql) rfl (want_t (dj := 86) (b := (decide ([zv (atE c p) (timLo c p), zv (atE c p) (timHi c p)] = [timLo c p, timHi c p]))) A129 rfl (by kernel_rfl) (by kernel_rfl) (decide_eq_true (by first | rfl | assumption | exact zv_n zq _ | rw [zv_n zq, zv_n zq] | rw [zv_0 za, zv_0 za] | rw [zv_0 za] | omega))) rfl (pf_then pf_body) (by kernel_rfl) (fun ac A133 => ?_)
      refine r_take 26 (.bool (decide (ckE c p = ckE c p))) A133 T132 (g_pick_t (b := (decide ([zv (atE c p) (timLo c p), zv (atE c p) (timHi c p)] = [timLo c p, timHi c p]))) (by kernel_rfl) (decide_eq_true (by first | rfl | assumption | exact zv_n zq _ | rw [zv_n zq, zv_n zq] | rw [zv_0 za, zv_0 za] | rw [zv_0 za] | omega)) (by kernel_rfl)) rfl rfl rfl (pf_then pf_body) (by kernel_rfl) (fun ac A134 => ?_)
      refine r_take 27 (.bool (decide (ckE c p = ckE c p))) A134 T132 (g_assign (by kernel_rfl)) rfl rfl rfl (pf_then pf_body) (by kernel_rfl) (fun ac A135 => ?_)
      refine r_done (by kernel_rfl) ?_
      refine n_then ?_
      refine wp_ret ?_
      refine fin1 (.bool (decide (ckE c p = ckE c p))) Try.results12 A135 S130 (rv_tmp (by kernel_rfl)) ⟨?_, S130.kp⟩
      exact congrArg (fun b => Ending.returned (Value.bool b)) (decide_eq_true rfl)
  · have p136 := of_decide_eq_false h55
    have zn : crE c ≠ 0 := of_decide_eq_false h55
    have ea : atE c p = crE c := atE_n zn
    have zq : atE c p ≠ 0 := by rw [ea]; exact zn
    have ek : ckE c p = crE c := (ckE_n zq).trans ea
    refine s_not (dj := 36) (b := (decide (crE c = 0))) A54 (by kernel_rfl) (by kernel_rfl) h55 rfl (fun ac A137 => ?_)
    refine s_not (dj := 36) (b := (decide (crE c = 0))) A137 (by kernel_rfl) (by kernel_rfl) h55 rfl (fun ac A138 => ?_)
    refine s_not (dj := 36) (b := (decide (crE c = 0))) A138 (by kernel_rfl) (by kernel_rfl) h55 rfl (fun ac A139 => ?_)
    refine s_not (dj := 36) (b := (decide (crE c = 0))) A139 (by kernel_rfl) (by kernel_rfl) h55 rfl (fun ac A140 => ?_)
    refine s_one (.bool false) A140 S48 (g_pick_f (b := (decide (crE c = 0))) (by kernel_rfl) h55 (by kernel_rfl)) rfl (fun ac A141 => ?_)
    refine wpList_nil ?_
    refine n_then ?_
    refine c_f (b := false) A141 (by kernel_rfl) rfl ?_
    refine wp_skip ?_
    refine n_then ?_
    refine wp_seq ?_
    refine wp_seq ?_
    refine wp_region_lit ?_
    refine s_one (.int .i64 (crE c)) A141 S48 (g_move (by kernel_rfl)) rfl (fun ac A142 => ?_)
    refine s_one (.bool (decide (crE c ≠ 0))) A142 S48 (g_bin (u := .int .i64 (crE c)) (k := .int .i64 0) (by kernel_rfl) (by kernel_rfl) (fun _ => by kernel_rfl) b_neq) rfl (fun ac A143 => ?_)
    refine wpList_nil ?_
    refine n_then ?_
    refine c_t (b := (decide (crE c ≠ 0))) A143 (by kernel_rfl) (decide_eq_true (by omega)) ?_
    refine wp_seq ?_
    refine wp_region_lit ?_
    refine s_one (.int .i64 (atE c p)) A143 S48 (g_move (by kernel_rfl)) rfl (fun ac A144 => ?_)
    refine s_one (.int .i64 (crE c)) A144 S48 (g_move (by kernel_rfl)) rfl (fun ac A145 => ?_)
    refine s_one (.bool (decide (atE c p = crE c))) A145 S48 (g_bin (u := .int .i64 (atE c p)) (k := .int .i64 (crE c)) (by kernel_rfl) (by kernel_rfl) (fun _ => by kernel_rfl) b_eql) rfl (fun ac A146 => ?_)
    refine s_one (.bool (decide (atE c p = crE c))) A146 S48 (g_move (by kernel_rfl)) rfl (fun ac A147 => ?_)
    refine s_want (dj := 47) (b := (decide (atE c p = crE c))) A147 (by kernel_rfl) (by kernel_rfl) (decide_eq_true (by first | rfl | assumption | exact zv_n zq _ | rw [zv_n zq, zv_n zq] | rw [zv_0 za, zv_0 za] | rw [zv_0 za] | omega)) ?_
    refine s_one (.int .i64 (atE c p)) A147 S48 (g_move (by kernel_rfl)) rfl (fun ac A148 => ?_)
    refine s_want (dj := 47) (b := (decide (atE c p = crE c))) A148 (by kernel_rfl) (by kernel_rfl) (decide_eq_true (by first | rfl | assumption | exact zv_n zq _ | rw [zv_n zq, zv_n zq] | rw [zv_0 za, zv_0 za] | rw [zv_0 za] | omega)) ?_
    refine s_one (.int .i64 (crE c)) A148 S48 (g_move (by kernel_rfl)) rfl (fun ac A149 => ?_)
    refine s_want (dj := 47) (b := (decide (atE c p = crE c))) A149 (by kernel_rfl) (by kernel_rfl) (decide_eq_true (by first | rfl | assumption | exact zv_n zq _ | rw [zv_n zq, zv_n zq] | rw [zv_0 za, zv_0 za] | rw [zv_0 za] | omega)) ?_
    refine s_one (.bool (decide (atE c p = crE c))) A149 S48 (g_bin (u := .int .i64 (atE c p)) (k := .int .i64 (crE c)) (by kernel_rfl) (by kernel_rfl) (fun _ => by kernel_rfl) b_eql) rfl (fun ac A150 => ?_)
    refine s_one (.bool (decide (atE c p = crE c))) A150 S48 (g_pick_t (b := (decide (atE c p = crE c))) (by kernel_rfl) (decide_eq_true (by first | rfl | assumption | exact zv_n zq _ | rw [zv_n zq, zv_n zq] | rw [zv_0 za, zv_0 za] | rw [zv_0 za] | omega)) (by kernel_rfl)) rfl (fun ac A151 => ?_)
    refine s_one (.bool (decide (atE c p = crE c))) A151 S48 (g_move (by kernel_rfl)) rfl (fun ac A152 => ?_)
    refine s_want (dj := 52) (b := (decide (atE c p = crE c))) A152 (by kernel_rfl) (by kernel_rfl) (decide_eq_true (by first | rfl | assumption | exact zv_n zq _ | rw [zv_n zq, zv_n zq] | rw [zv_0 za, zv_0 za] | rw [zv_0 za] | omega)) ?_
    refine s_one (.int .i64 (ckE c p)) A152 S48 (g_move (by kernel_rfl)) rfl (fun ac A153 => ?_)
    refine s_want (dj := 52) (b := (decide (atE c p = crE c))) A153 (by kernel_rfl) (by kernel_rfl) (decide_eq_true (by first | rfl | assumption | exact zv_n zq _ | rw [zv_n zq, zv_n zq] | rw [zv_0 za, zv_0 za] | rw [zv_0 za] | omega)) ?_
    refine s_one (.int .i64 (crE c)) A153 S48 (g_move (by kernel_rfl)) rfl (fun ac A154 => ?_)
    refine s_want (dj := 52) (b := (decide (atE c p = crE c))) A154 (by kernel_rfl) (by kernel_rfl) (decide_eq_true (by first | rfl | assumption | exact zv_n zq _ | rw [zv_n zq, zv_n zq] | rw [zv_0 za, zv_0 za] | rw [zv_0 za] | omega)) ?_
    refine s_one (.bool (decide (ckE c p = crE c))) A154 S48 (g_bin (u := .int .i64 (ckE c p)) (k := .int .i64 (crE c)) (by kernel_rfl) (by kernel_rfl) (fun _ => by kernel_rfl) b_eql) rfl (fun ac A155 => ?_)
    refine s_one (.bool (decide (ckE c p = crE c))) A155 S48 (g_pick_t (b := (decide (atE c p = crE c))) (by kernel_rfl) (decide_eq_true (by first | rfl | assumption | exact zv_n zq _ | rw [zv_n zq, zv_n zq] | rw [zv_0 za, zv_0 za] | rw [zv_0 za] | omega)) (by kernel_rfl)) rfl (fun ac A156 => ?_)
    refine s_one (.bool (decide (ckE c p = crE c))) A156 S48 (g_move (by kernel_rfl)) rfl (fun ac A157 => ?_)
    refine s_want (dj := 57) (b := (decide (ckE c p = crE c))) A157 (by kernel_rfl) (by kernel_rfl) (decide_eq_true (by first | rfl | assumption | exact zv_n zq _ | rw [zv_n zq, zv_n zq] | rw [zv_0 za, zv_0 za] | rw [zv_0 za] | omega)) ?_
    refine s_one (.int .i64 (zv (atE c p) (slp c p))) A157 S48 (g_move (by kernel_rfl)) rfl (fun ac A158 => ?_)
    refine s_want (dj := 57) (b := (decide (ckE c p = crE c))) A158 (by kernel_rfl) (by kernel_rfl) (decide_eq_true (by first | rfl | assumption | exact zv_n zq _ | rw [zv_n zq, zv_n zq] | rw [zv_0 za, zv_0 za] | rw [zv_0 za] | omega)) ?_
    refine s_one (.bool (decide (zv (atE c p) (slp c p) = 0))) A158 S48 (g_bin (u := .int .i64 (zv (atE c p) (slp c p))) (k := .int .i64 0) (by kernel_rfl) (by kernel_rfl) (fun _ => by kernel_rfl) b_eql) rfl (fun ac A159 => ?_)
    refine s_one (.bool (decide (zv (atE c p) (slp c p) = 0))) A159 S48 (g_pick_t (b := (decide (ckE c p = crE c))) (by kernel_rfl) (decide_eq_true (by first | rfl | assumption | exact zv_n zq _ | rw [zv_n zq, zv_n zq] | rw [zv_0 za, zv_0 za] | rw [zv_0 za] | omega)) (by kernel_rfl)) rfl (fun ac A160 => ?_)
    refine s_one (.bool (decide (zv (atE c p) (slp c p) = 0))) A160 S48 (g_move (by kernel_rfl)) rfl (fun ac A161 => ?_)
    refine s_want (dj := 61) (b := (decide (zv (atE c p) (slp c p) = 0))) A161 (by kernel_rfl) (by kernel_rfl) (decide_eq_true (by first | rfl | assumption | exact zv_n zq _ | rw [zv_n zq, zv_n zq] | rw [zv_0 za, zv_0 za] | rw [zv_0 za] | omega)) ?_
    refine s_one (.agg #[.int .i64 (zv (atE c p) (timLo c p)), .int .i64 (zv (atE c p) (timHi c p))]) A161 S48 (g_load (g := g30) (off := 0) 0 (by kernel_rfl) rfl (by kernel_rfl)) rfl (fun ac A162 => ?_)
    refine s_want (dj := 61) (b := (decide (zv (atE c p) (slp c p) = 0))) A162 (by kernel_rfl) (by kernel_rfl) (decide_eq_true (by first | rfl | assumption | exact zv_n zq _ | rw [zv_n zq, zv_n zq] | rw [zv_0 za, zv_0 za] | rw [zv_0 za] | omega)) ?_
    refine s_one (.agg #[.int .i64 0, .int .i64 0]) A162 S48 (g_build (r := []) (by kernel_rfl) (fun _ => by kernel_rfl)) rfl (fun ac A163 => ?_)
    refine s_want (dj := 61) (b := (decide (zv (atE c p) (slp c p) = 0))) A163 (by kernel_rfl) (by kernel_rfl) (decide_eq_true (by first | rfl | assumption | exact zv_n zq _ | rw [zv_n zq, zv_n zq] | rw [zv_0 za, zv_0 za] | rw [zv_0 za] | omega)) ?_
    refine s_one (.bool (decide ([zv (atE c p) (timLo c p), zv (atE c p) (timHi c p)] = [0, 0]))) A163 S48 (g_bin (u := .agg #[.int .i64 (zv (atE c p) (timLo c p)), .int .i64 (zv (atE c p) (timHi c p))]) (k := .agg #[.int .i64 0, .int .i64 0]) (by kernel_rfl) (by kernel_rfl) (fun _ => by kernel_rfl) (q_struct (n := 2) [zv (atE c p) (timLo c p), zv (atE c p) (timHi c p)] [0, 0] (by kernel_rfl) rfl rfl)) rfl (fun ac A164 => ?_)
    refine s_one (.bool (decide ([zv (atE c p) (timLo c p), zv (atE c p) (timHi c p)] = [0, 0]))) A164 S48 (g_pick_t (b := (decide (zv (atE c p) (slp c p) = 0))) (by kernel_rfl) (decide_eq_true (by first | rfl | assumption | exact zv_n zq _ | rw [zv_n zq, zv_n zq] | rw [zv_0 za, zv_0 za] | rw [zv_0 za] | omega)) (by kernel_rfl)) rfl (fun ac A165 => ?_)
    refine s_one (.bool (decide ([zv (atE c p) (timLo c p), zv (atE c p) (timHi c p)] = [0, 0]))) A165 S48 (g_assign (by kernel_rfl)) rfl (fun ac A166 => ?_)
    refine wpList_nil ?_
    refine n_then ?_
    refine wp_ret ?_
    refine r_then ?_
    refine fin1 (.bool (decide ([zv (atE c p) (timLo c p), zv (atE c p) (timHi c p)] = [0, 0]))) Try.results12 A166 S48 (rv_tmp (by kernel_rfl)) ⟨?_, S48.kp⟩
    exact congrArg (fun b => Ending.returned (Value.bool b)) (decide_eq_true (by first | rfl | assumption | exact zv_n zq _ | rw [zv_n zq, zv_n zq] | rw [zv_0 za, zv_0 za] | rw [zv_0 za] | omega))

end Go.Proofs.Ytnfmfkejhgbipaa
