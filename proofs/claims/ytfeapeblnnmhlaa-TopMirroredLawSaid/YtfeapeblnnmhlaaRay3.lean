/- Slopes of chapter 1. -/
import Derived.Test.YtfeapeblnnmhlaaRay2
namespace Go.Proofs.Ytfeapeblnnmhlaa
open Go.RowKit Go.Cpl Go.Ray1

theorem sl_bd {a v : Int} (ha : -200000 ≤ a ∧ a ≤ 200000) (hv : 500 ≤ v ∧ v ≤ 10000) : (-2000000000 ≤ a * v ∧ a * v ≤ 2000000000) ∧ (0 ≤ a * v * a ∧ a * v * a ≤ 400000000000000) ∧ (0 ≤ a * v * a * v ∧ a * v * a * v ≤ 4000000000000000000) := by
  have h1 := sq_nn a; have h2 := sq_b ha
  have e1 : a * v * a = a * a * v := by grind
  have f1 := Int.mul_nonneg h1 (show 0 ≤ v by omega)
  have f2 := Int.mul_le_mul h2 hv.2 (by omega) (by omega)
  have f3 := Int.mul_nonneg f1 (show 0 ≤ v by omega)
  have f4 := Int.mul_le_mul f2 hv.2 (by omega) (by omega)
  have g1 := Int.mul_le_mul_of_nonneg_right ha.1 (show 0 ≤ v by omega)
  have g2 := Int.mul_le_mul_of_nonneg_right ha.2 (show 0 ≤ v by omega)
  rw [e1]
  omega
theorem sr_bd {a v : Int} (ha : -200000 ≤ a ∧ a ≤ 200000) (hv : 500 ≤ v ∧ v ≤ 10000) : (0 ≤ a * a ∧ a * a ≤ 40000000000) ∧ (0 ≤ a * a * v ∧ a * a * v ≤ 400000000000000) ∧ (0 ≤ a * a * v * v ∧ a * a * v * v ≤ 4000000000000000000) := by
  have := sl_bd ha hv
  have h1 := sq_nn a; have h2 := sq_b ha
  have e1 : a * v * a = a * a * v := by grind
  rw [e1] at this
  omega
theorem hh_bd {h : Int} (hh : 1 ≤ h ∧ h ≤ 100000) : 1 ≤ h * h ∧ h * h ≤ 10000000000 := by
  have := sq_b (a := h) (b := 100000) (by omega)
  have := sq_le (a := 1) (b := h) (by omega) (by omega)
  omega
theorem compare_eq (X Y : Int) : compare_a_r (X / 18446744073709551616) (X % 18446744073709551616) (Y / 18446744073709551616) (Y % 18446744073709551616) = sgn (X - Y) := by
  unfold compare_a_r sgn
  by_cases h : X = Y
  · subst h; rw [if_pos rfl]; simp
  · rw [if_neg (by simp only [List.cons.injEq, and_true]; omega)]
    by_cases h2 : X < Y
    · rw [if_neg (by omega), if_pos (by omega)]
      have : (decide (X / 18446744073709551616 < Y / 18446744073709551616) || (decide (X / 18446744073709551616 = Y / 18446744073709551616) && decide (X % 18446744073709551616 < Y % 18446744073709551616))) = true := by
        simp only [Bool.or_eq_true, Bool.and_eq_true, decide_eq_true_eq]; omega
      rw [this]; rfl
    · rw [if_pos (by omega)]
      have : (decide (X / 18446744073709551616 < Y / 18446744073709551616) || (decide (X / 18446744073709551616 = Y / 18446744073709551616) && decide (X % 18446744073709551616 < Y % 18446744073709551616))) = false := by
        simp only [Bool.or_eq_false_iff, Bool.and_eq_false_iff, decide_eq_false_iff_not]; omega
      rw [this]; rfl
theorem slope_eq {c : Cr} (a b : Int) : compare_a_r (a * c.v2 * a * c.v2 * (b * b + c.h2 * c.h2) / 18446744073709551616) (a * c.v2 * a * c.v2 * (b * b + c.h2 * c.h2) % 18446744073709551616) (b * c.v1 * b * c.v1 * (a * a + c.h1 * c.h1) / 18446744073709551616) (b * c.v1 * b * c.v1 * (a * a + c.h1 * c.h1) % 18446744073709551616) = sgn (shA c a b - shB c a b) := by
  have e1 : a * c.v2 * a * c.v2 * (b * b + c.h2 * c.h2) = shA c a b := by unfold shA; grind
  have e2 : b * c.v1 * b * c.v1 * (a * a + c.h1 * c.h1) = shB c a b := by unfold shB; grind
  rw [e1, e2]
  exact compare_eq _ _
theorem cmp_b (h1 l1 h2 l2 : Int) : -1 ≤ compare_a_r h1 l1 h2 l2 ∧ compare_a_r h1 l1 h2 l2 ≤ 1 := by
  unfold compare_a_r
  split
  · omega
  · cases (decide (h1 < h2) || (decide (h1 = h2) && decide (l1 < l2))) <;> simp

set_option maxRecDepth 100000 in
set_option maxHeartbeats 400000 in
theorem slope_s (c : Cr) (p : Int) (w0 : World) (ok : c.Ok) (k0 : c.lo ≤ p) (k1 : p ≤ c.hi) :
    Calls Try.prog 60 #[.agg #[.int .i64 c.x1, .int .i64 c.h1, .int .i64 c.v1, .int .i64 c.x2, .int .i64 c.h2, .int .i64 c.v2], .int .i64 p] w0 fun e w' => e = .returned (.int .i64 (slp c p)) ∧ Below w0.heap.size w0 w' := by
  have S0 := St.start w0
  have p1 := ok.x1
  have p2 := ok.x2
  have p3 := ok.h1
  have p4 := ok.h2
  have p5 := ok.v1
  have p6 := ok.v2
  have pl : c.lo = min c.x1 c.x2 := rfl
  have ph : c.hi = max c.x1 c.x2 := rfl
  have s1 := sl_bd (a := p - c.x1) (v := c.v2) (by omega) (by omega)
  have s2 := sl_bd (a := c.x2 - p) (v := c.v1) (by omega) (by omega)
  have s3 := sr_bd (a := p - c.x1) (v := c.v2) (by omega) (by omega)
  have s4 := sr_bd (a := c.x2 - p) (v := c.v1) (by omega) (by omega)
  have s5 := hh_bd p3
  have s6 := hh_bd p4
  refine enter (n := 79) Try.func60 rfl rfl rfl (fun ac A0 => ?_)
  refine wp_seq ?_
  refine wp_region_lit ?_
  refine s_box (.agg #[.int .i64 c.x1, .int .i64 c.h1, .int .i64 c.v1, .int .i64 c.x2, .int .i64 c.h2, .int .i64 c.v2]) A0 S0 (by kernel_rfl) rfl (fun g3 ac wc A1 S2 => ?_)
  replace S2 : St _ (⟨g3, 77, #[.int .i64 c.x1, .int .i64 c.h1, .int .i64 c.v1, .int .i64 c.x2, .int .i64 c.h2, .int .i64 c.v2], true⟩ :: _) _ _ := S2
  refine s_one (.int .i64 0) A1 S2 (g_assign (by kernel_rfl)) rfl (fun ac A5 => ?_)
  refine wpList_nil ?_
  refine n_then ?_
  refine wp_seq ?_
  refine r_begin (w0 := w0) (by kernel_rfl) (S2.sub sub_all sub_all) (fun wc T6 B7 => ?_)
  have S8 := S2.kept B7
  refine r_take 0 (.int .i64 p) A5 T6 (g_move (by kernel_rfl)) rfl rfl rfl (pf_then pf_body) (by kernel_rfl) (fun ac A9 => ?_)
  refine r_take 1 (.pointer (some ⟨g3, 0, none⟩)) A9 T6 (g_field (u := .pointer (some ⟨g3, 0, none⟩)) (by kernel_rfl) (fun _ => by kernel_rfl)) rfl rfl rfl (pf_then pf_body) (by kernel_rfl) (fun ac A10 => ?_)
  refine r_take 2 (.pointer (some ⟨g3, 0, none⟩)) A10 T6 (g_field (u := .pointer (some ⟨g3, 0, none⟩)) (by kernel_rfl) (fun _ => by kernel_rfl)) rfl rfl rfl (pf_then pf_body) (by kernel_rfl) (fun ac A11 => ?_)
  refine r_take 3 (.int .i64 c.x1) A11 T6 (g_load (g := g3) (off := 0) 0 (by kernel_rfl) rfl (by kernel_rfl)) rfl rfl rfl (pf_then pf_body) (by kernel_rfl) (fun ac A12 => ?_)
  refine r_take 4 (.int .i64 (p - c.x1)) A12 T6 (g_bin (u := .int .i64 p) (k := .int .i64 c.x1) (by kernel_rfl) (by kernel_rfl) (fun _ => by kernel_rfl) (b_sub (by omega))) rfl rfl rfl (pf_then pf_body) (by kernel_rfl) (fun ac A13 => ?_)
  refine r_take 5 (.pointer (some ⟨g3, 0, none⟩)) A13 T6 (g_field (u := .pointer (some ⟨g3, 0, none⟩)) (by kernel_rfl) (fun _ => by kernel_rfl)) rfl rfl rfl (pf_then pf_body) (by kernel_rfl) (fun ac A14 => ?_)
  refine r_take 6 (.pointer (some ⟨g3, 3, none⟩)) A14 T6 (g_field (u := .pointer (some ⟨g3, 0, none⟩)) (by kernel_rfl) (fun _ => by kernel_rfl)) rfl rfl rfl (pf_then pf_body) (by kernel_rfl) (fun ac A15 => ?_)
  refine r_take 7 (.int .i64 c.x2) A15 T6 (g_load (g := g3) (off := 3) 0 (by kernel_rfl) rfl (by kernel_rfl)) rfl rfl rfl (pf_then pf_body) (by kernel_rfl) (fun ac A16 => ?_)
  refine r_take 8 (.int .i64 p) A16 T6 (g_move (by kernel_rfl)) rfl rfl rfl (pf_then pf_body) (by kernel_rfl) (fun ac A17 => ?_)
  refine r_take 9 (.int .i64 (c.x2 - p)) A17 T6 (g_bin (u := .int .i64 c.x2) (k := .int .i64 p) (by kernel_rfl) (by kernel_rfl) (fun _ => by kernel_rfl) (b_sub (by omega))) rfl rfl rfl (pf_then pf_body) (by kernel_rfl) (fun ac A18 => ?_)
  refine r_take 10 (.int .i64 (p - c.x1)) A18 T6 (g_assign (by kernel_rfl)) rfl rfl rfl (pf_then pf_body) (by kernel_rfl) (fun ac A19 => ?_)
  refine r_take 11 (.int .i64 (c.x2 - p)) A19 T6 (g_assign (by kernel_rfl)) rfl rfl rfl (pf_then pf_body) (by kernel_rfl) (fun ac A20 => ?_)
  refine r_done (by kernel_rfl) ?_
  refine n_then ?_
  refine wp_seq ?_
  refine wp_region_lit ?_
  refine s_one (.int .i64 (p - c.x1)) A20 S8 (g_move (by kernel_rfl)) rfl (fun ac A21 => ?_)
  refine s_one (.pointer (some ⟨g3, 0, none⟩)) A21 S8 (g_field (u := .pointer (some ⟨g3, 0, none⟩)) (by kernel_rfl) (fun _ => by kernel_rfl)) rfl (fun ac A22 => ?_)
  refine s_one (.pointer (some ⟨g3, 5, none⟩)) A22 S8 (g_field (u := .pointer (some ⟨g3, 0, none⟩)) (by kernel_rfl) (fun _ => by kernel_rfl)) rfl (fun ac A23 => ?_)
  refine s_one (.int .i64 c.v2) A23 S8 (g_load (g := g3) (off := 5) 0 (by kernel_rfl) rfl (by kernel_rfl)) rfl (fun ac A24 => ?_)
  refine s_one (.int .i64 ((p - c.x1) * c.v2)) A24 S8 (g_bin (u := .int .i64 (p - c.x1)) (k := .int .i64 c.v2) (by kernel_rfl) (by kernel_rfl) (fun _ => by kernel_rfl) (b_mul (by omega))) rfl (fun ac A25 => ?_)
  refine s_one (.int .i64 (p - c.x1)) A25 S8 (g_move (by kernel_rfl)) rfl (fun ac A26 => ?_)
  refine s_one (.int .i64 (((p - c.x1) * c.v2) * (p - c.x1))) A26 S8 (g_bin (u := .int .i64 ((p - c.x1) * c.v2)) (k := .int .i64 (p - c.x1)) (by kernel_rfl) (by kernel_rfl) (fun _ => by kernel_rfl) (b_mul (by omega))) rfl (fun ac A27 => ?_)
  refine s_one (.pointer (some ⟨g3, 0, none⟩)) A27 S8 (g_field (u := .pointer (some ⟨g3, 0, none⟩)) (by kernel_rfl) (fun _ => by kernel_rfl)) rfl (fun ac A28 => ?_)
  refine s_one (.pointer (some ⟨g3, 5, none⟩)) A28 S8 (g_field (u := .pointer (some ⟨g3, 0, none⟩)) (by kernel_rfl) (fun _ => by kernel_rfl)) rfl (fun ac A29 => ?_)
  refine s_one (.int .i64 c.v2) A29 S8 (g_load (g := g3) (off := 5) 0 (by kernel_rfl) rfl (by kernel_rfl)) rfl (fun ac A30 => ?_)
  refine s_one (.int .i64 ((((p - c.x1) * c.v2) * (p - c.x1)) * c.v2)) A30 S8 (g_bin (u := .int .i64 (((p - c.x1) * c.v2) * (p - c.x1))) (k := .int .i64 c.v2) (by kernel_rfl) (by kernel_rfl) (fun _ => by kernel_rfl) (b_mul (by omega))) rfl (fun ac A31 => ?_)
  refine s_one (.int .i64 (c.x2 - p)) A31 S8 (g_move (by kernel_rfl)) rfl (fun ac A32 => ?_)
  refine s_one (.int .i64 (c.x2 - p)) A32 S8 (g_move (by kernel_rfl)) rfl (fun ac A33 => ?_)
  refine s_one (.int .i64 ((c.x2 - p) * (c.x2 - p))) A33 S8 (g_bin (u := .int .i64 (c.x2 - p)) (k := .int .i64 (c.x2 - p)) (by kernel_rfl) (by kernel_rfl) (fun _ => by kernel_rfl) (b_mul (by omega))) rfl (fun ac A34 => ?_)
  refine s_one (.pointer (some ⟨g3, 0, none⟩)) A34 S8 (g_field (u := .pointer (some ⟨g3, 0, none⟩)) (by kernel_rfl) (fun _ => by kernel_rfl)) rfl (fun ac A35 => ?_)
  refine s_one (.pointer (some ⟨g3, 4, none⟩)) A35 S8 (g_field (u := .pointer (some ⟨g3, 0, none⟩)) (by kernel_rfl) (fun _ => by kernel_rfl)) rfl (fun ac A36 => ?_)
  refine s_one (.int .i64 c.h2) A36 S8 (g_load (g := g3) (off := 4) 0 (by kernel_rfl) rfl (by kernel_rfl)) rfl (fun ac A37 => ?_)
  refine s_one (.pointer (some ⟨g3, 0, none⟩)) A37 S8 (g_field (u := .pointer (some ⟨g3, 0, none⟩)) (by kernel_rfl) (fun _ => by kernel_rfl)) rfl (fun ac A38 => ?_)
  refine s_one (.pointer (some ⟨g3, 4, none⟩)) A38 S8 (g_field (u := .pointer (some ⟨g3, 0, none⟩)) (by kernel_rfl) (fun _ => by kernel_rfl)) rfl (fun ac A39 => ?_)
  refine s_one (.int .i64 c.h2) A39 S8 (g_load (g := g3) (off := 4) 0 (by kernel_rfl) rfl (by kernel_rfl)) rfl (fun ac A40 => ?_)
  refine s_one (.int .i64 (c.h2 * c.h2)) A40 S8 (g_bin (u := .int .i64 c.h2) (k := .int .i64 c.h2) (by kernel_rfl) (by kernel_rfl) (fun _ => by kernel_rfl) (b_mul (by omega))) rfl (fun ac A41 => ?_)
  refine s_one (.int .i64 ((c.x2 - p) * (c.x2 - p) + (c.h2 * c.h2))) A41 S8 (g_bin (u := .int .i64 ((c.x2 - p) * (c.x2 - p))) (k := .int .i64 (c.h2 * c.h2)) (by kernel_rfl) (by kernel_rfl) (fun _ => by kernel_rfl) (b_add (by omega))) rfl (fun ac A42 => ?_)
  refine s_call (fs := #[]) (cp := #[]) (r := [(0, .int .i64 ((((p - c.x1) * c.v2) * (p - c.x1)) * c.v2)), (0, .int .i64 ((c.x2 - p) * (c.x2 - p) + (c.h2 * c.h2)))]) #[.int .i64 ((((p - c.x1) * c.v2) * (p - c.x1)) * c.v2), .int .i64 ((c.x2 - p) * (c.x2 - p) + (c.h2 * c.h2))] (.agg #[.int .u64 (((((p - c.x1) * c.v2) * (p - c.x1)) * c.v2) * ((c.x2 - p) * (c.x2 - p) + (c.h2 * c.h2)) / 18446744073709551616), .int .u64 (((((p - c.x1) * c.v2) * (p - c.x1)) * c.v2) * ((c.x2 - p) * (c.x2 - p) + (c.h2 * c.h2)) % 18446744073709551616)]) A42 S8 (times_s ((((p - c.x1) * c.v2) * (p - c.x1)) * c.v2) ((c.x2 - p) * (c.x2 - p) + (c.h2 * c.h2)) _ (by omega) (by omega)) Try.call65 (by kernel_rfl) (by kernel_rfl) (by kernel_rfl) rfl (fun ac wc A43 S44 => ?_)
  refine s_alloc (#[.int .u64 0, .int .u64 0]) A43 S44 (by kernel_rfl) rfl (fun g48 ac wc A46 S47 => ?_)
  refine s_store (g := g48) (off := 0) (v := .agg #[.int .u64 (((((p - c.x1) * c.v2) * (p - c.x1)) * c.v2) * ((c.x2 - p) * (c.x2 - p) + (c.h2 * c.h2)) / 18446744073709551616), .int .u64 (((((p - c.x1) * c.v2) * (p - c.x1)) * c.v2) * ((c.x2 - p) * (c.x2 - p) + (c.h2 * c.h2)) % 18446744073709551616)]) 0 (#[.int .u64 (((((p - c.x1) * c.v2) * (p - c.x1)) * c.v2) * ((c.x2 - p) * (c.x2 - p) + (c.h2 * c.h2)) / 18446744073709551616), .int .u64 (((((p - c.x1) * c.v2) * (p - c.x1)) * c.v2) * ((c.x2 - p) * (c.x2 - p) + (c.h2 * c.h2)) % 18446744073709551616)]) A46 S47 (by kernel_rfl) (by kernel_rfl) rfl (by kernel_rfl) (fun wc S50 => ?_)
  refine wpList_nil ?_
  refine n_then ?_
  refine wp_seq ?_
  refine wp_region_lit ?_
  refine s_one (.int .i64 (c.x2 - p)) A46 S50 (g_move (by kernel_rfl)) rfl (fun ac A52 => ?_)
  refine s_one (.pointer (some ⟨g3, 0, none⟩)) A52 S50 (g_field (u := .pointer (some ⟨g3, 0, none⟩)) (by kernel_rfl) (fun _ => by kernel_rfl)) rfl (fun ac A53 => ?_)
  refine s_one (.pointer (some ⟨g3, 2, none⟩)) A53 S50 (g_field (u := .pointer (some ⟨g3, 0, none⟩)) (by kernel_rfl) (fun _ => by kernel_rfl)) rfl (fun ac A54 => ?_)
  refine s_one (.int .i64 c.v1) A54 S50 (g_load (g := g3) (off := 2) 1 (by kernel_rfl) rfl (by kernel_rfl)) rfl (fun ac A55 => ?_)
  refine s_one (.int .i64 ((c.x2 - p) * c.v1)) A55 S50 (g_bin (u := .int .i64 (c.x2 - p)) (k := .int .i64 c.v1) (by kernel_rfl) (by kernel_rfl) (fun _ => by kernel_rfl) (b_mul (by omega))) rfl (fun ac A56 => ?_)
  refine s_one (.int .i64 (c.x2 - p)) A56 S50 (g_move (by kernel_rfl)) rfl (fun ac A57 => ?_)
  refine s_one (.int .i64 (((c.x2 - p) * c.v1) * (c.x2 - p))) A57 S50 (g_bin (u := .int .i64 ((c.x2 - p) * c.v1)) (k := .int .i64 (c.x2 - p)) (by kernel_rfl) (by kernel_rfl) (fun _ => by kernel_rfl) (b_mul (by omega))) rfl (fun ac A58 => ?_)
  refine s_one (.pointer (some ⟨g3, 0, none⟩)) A58 S50 (g_field (u := .pointer (some ⟨g3, 0, none⟩)) (by kernel_rfl) (fun _ => by kernel_rfl)) rfl (fun ac A59 => ?_)
  refine s_one (.pointer (some ⟨g3, 2, none⟩)) A59 S50 (g_field (u := .pointer (some ⟨g3, 0, none⟩)) (by kernel_rfl) (fun _ => by kernel_rfl)) rfl (fun ac A60 => ?_)
  refine s_one (.int .i64 c.v1) A60 S50 (g_load (g := g3) (off := 2) 1 (by kernel_rfl) rfl (by kernel_rfl)) rfl (fun ac A61 => ?_)
  refine s_one (.int .i64 ((((c.x2 - p) * c.v1) * (c.x2 - p)) * c.v1)) A61 S50 (g_bin (u := .int .i64 (((c.x2 - p) * c.v1) * (c.x2 - p))) (k := .int .i64 c.v1) (by kernel_rfl) (by kernel_rfl) (fun _ => by kernel_rfl) (b_mul (by omega))) rfl (fun ac A62 => ?_)
  refine s_one (.int .i64 (p - c.x1)) A62 S50 (g_move (by kernel_rfl)) rfl (fun ac A63 => ?_)
  refine s_one (.int .i64 (p - c.x1)) A63 S50 (g_move (by kernel_rfl)) rfl (fun ac A64 => ?_)
  refine s_one (.int .i64 ((p - c.x1) * (p - c.x1))) A64 S50 (g_bin (u := .int .i64 (p - c.x1)) (k := .int .i64 (p - c.x1)) (by kernel_rfl) (by kernel_rfl) (fun _ => by kernel_rfl) (b_mul (by omega))) rfl (fun ac A65 => ?_)
  refine s_one (.pointer (some ⟨g3, 0, none⟩)) A65 S50 (g_field (u := .pointer (some ⟨g3, 0, none⟩)) (by kernel_rfl) (fun _ => by kernel_rfl)) rfl (fun ac A66 => ?_)
  refine s_one (.pointer (some ⟨g3, 1, none⟩)) A66 S50 (g_field (u := .pointer (some ⟨g3, 0, none⟩)) (by kernel_rfl) (fun _ => by kernel_rfl)) rfl (fun ac A67 => ?_)
  refine s_one (.int .i64 c.h1) A67 S50 (g_load (g := g3) (off := 1) 1 (by kernel_rfl) rfl (by kernel_rfl)) rfl (fun ac A68 => ?_)
  refine s_one (.pointer (some ⟨g3, 0, none⟩)) A68 S50 (g_field (u := .pointer (some ⟨g3, 0, none⟩)) (by kernel_rfl) (fun _ => by kernel_rfl)) rfl (fun ac A69 => ?_)
  refine s_one (.pointer (some ⟨g3, 1, none⟩)) A69 S50 (g_field (u := .pointer (some ⟨g3, 0, none⟩)) (by kernel_rfl) (fun _ => by kernel_rfl)) rfl (fun ac A70 => ?_)
  refine s_one (.int .i64 c.h1) A70 S50 (g_load (g := g3) (off := 1) 1 (by kernel_rfl) rfl (by kernel_rfl)) rfl (fun ac A71 => ?_)
  refine s_one (.int .i64 (c.h1 * c.h1)) A71 S50 (g_bin (u := .int .i64 c.h1) (k := .int .i64 c.h1) (by kernel_rfl) (by kernel_rfl) (fun _ => by kernel_rfl) (b_mul (by omega))) rfl (fun ac A72 => ?_)
  refine s_one (.int .i64 ((p - c.x1) * (p - c.x1) + (c.h1 * c.h1))) A72 S50 (g_bin (u := .int .i64 ((p - c.x1) * (p - c.x1))) (k := .int .i64 (c.h1 * c.h1)) (by kernel_rfl) (by kernel_rfl) (fun _ => by kernel_rfl) (b_add (by omega))) rfl (fun ac A73 => ?_)
  refine s_call (fs := #[]) (cp := #[]) (r := [(0, .int .i64 ((((c.x2 - p) * c.v1) * (c.x2 - p)) * c.v1)), (0, .int .i64 ((p - c.x1) * (p - c.x1) + (c.h1 * c.h1)))]) #[.int .i64 ((((c.x2 - p) * c.v1) * (c.x2 - p)) * c.v1), .int .i64 ((p - c.x1) * (p - c.x1) + (c.h1 * c.h1))] (.agg #[.int .u64 (((((c.x2 - p) * c.v1) * (c.x2 - p)) * c.v1) * ((p - c.x1) * (p - c.x1) + (c.h1 * c.h1)) / 18446744073709551616), .int .u64 (((((c.x2 - p) * c.v1) * (c.x2 - p)) * c.v1) * ((p - c.x1) * (p - c.x1) + (c.h1 * c.h1)) % 18446744073709551616)]) A73 S50 (times_s ((((c.x2 - p) * c.v1) * (c.x2 - p)) * c.v1) ((p - c.x1) * (p - c.x1) + (c.h1 * c.h1)) _ (by omega) (by omega)) Try.call65 (by kernel_rfl) (by kernel_rfl) (by kernel_rfl) rfl (fun ac wc A74 S75 => ?_)
  refine s_alloc (#[.int .u64 0, .int .u64 0]) A74 S75 (by kernel_rfl) rfl (fun g79 ac wc A77 S78 => ?_)
  refine s_store (g := g79) (off := 0) (v := .agg #[.int .u64 (((((c.x2 - p) * c.v1) * (c.x2 - p)) * c.v1) * ((p - c.x1) * (p - c.x1) + (c.h1 * c.h1)) / 18446744073709551616), .int .u64 (((((c.x2 - p) * c.v1) * (c.x2 - p)) * c.v1) * ((p - c.x1) * (p - c.x1) + (c.h1 * c.h1)) % 18446744073709551616)]) 0 (#[.int .u64 (((((c.x2 - p) * c.v1) * (c.x2 - p)) * c.v1) * ((p - c.x1) * (p - c.x1) + (c.h1 * c.h1)) / 18446744073709551616), .int .u64 (((((c.x2 - p) * c.v1) * (c.x2 - p)) * c.v1) * ((p - c.x1) * (p - c.x1) + (c.h1 * c.h1)) % 18446744073709551616)]) A77 S78 (by kernel_rfl) (by kernel_rfl) rfl (by kernel_rfl) (fun wc S81 => ?_)
  refine wpList_nil ?_
  refine n_then ?_
  refine wp_seq ?_
  refine wp_region_lit ?_
  refine s_one (.agg #[.int .u64 (((((p - c.x1) * c.v2) * (p - c.x1)) * c.v2) * ((c.x2 - p) * (c.x2 - p) + (c.h2 * c.h2)) / 18446744073709551616), .int .u64 (((((p - c.x1) * c.v2) * (p - c.x1)) * c.v2) * ((c.x2 - p) * (c.x2 - p) + (c.h2 * c.h2)) % 18446744073709551616)]) A77 S81 (g_load (g := g48) (off := 0) 1 (by kernel_rfl) rfl (by kernel_rfl)) rfl (fun ac A83 => ?_)
  refine s_one (.agg #[.int .u64 (((((c.x2 - p) * c.v1) * (c.x2 - p)) * c.v1) * ((p - c.x1) * (p - c.x1) + (c.h1 * c.h1)) / 18446744073709551616), .int .u64 (((((c.x2 - p) * c.v1) * (c.x2 - p)) * c.v1) * ((p - c.x1) * (p - c.x1) + (c.h1 * c.h1)) % 18446744073709551616)]) A83 S81 (g_load (g := g79) (off := 0) 0 (by kernel_rfl) rfl (by kernel_rfl)) rfl (fun ac A84 => ?_)
  refine s_call (fs := #[]) (cp := #[]) (r := [(0, .agg #[.int .u64 (((((p - c.x1) * c.v2) * (p - c.x1)) * c.v2) * ((c.x2 - p) * (c.x2 - p) + (c.h2 * c.h2)) / 18446744073709551616), .int .u64 (((((p - c.x1) * c.v2) * (p - c.x1)) * c.v2) * ((c.x2 - p) * (c.x2 - p) + (c.h2 * c.h2)) % 18446744073709551616)]), (0, .agg #[.int .u64 (((((c.x2 - p) * c.v1) * (c.x2 - p)) * c.v1) * ((p - c.x1) * (p - c.x1) + (c.h1 * c.h1)) / 18446744073709551616), .int .u64 (((((c.x2 - p) * c.v1) * (c.x2 - p)) * c.v1) * ((p - c.x1) * (p - c.x1) + (c.h1 * c.h1)) % 18446744073709551616)])]) #[.agg #[.int .u64 (((((p - c.x1) * c.v2) * (p - c.x1)) * c.v2) * ((c.x2 - p) * (c.x2 - p) + (c.h2 * c.h2)) / 18446744073709551616), .int .u64 (((((p - c.x1) * c.v2) * (p - c.x1)) * c.v2) * ((c.x2 - p) * (c.x2 - p) + (c.h2 * c.h2)) % 18446744073709551616)], .agg #[.int .u64 (((((c.x2 - p) * c.v1) * (c.x2 - p)) * c.v1) * ((p - c.x1) * (p - c.x1) + (c.h1 * c.h1)) / 18446744073709551616), .int .u64 (((((c.x2 - p) * c.v1) * (c.x2 - p)) * c.v1) * ((p - c.x1) * (p - c.x1) + (c.h1 * c.h1)) % 18446744073709551616)]] (.int .i64 (compare_a_r (((((p - c.x1) * c.v2) * (p - c.x1)) * c.v2) * ((c.x2 - p) * (c.x2 - p) + (c.h2 * c.h2)) / 18446744073709551616) (((((p - c.x1) * c.v2) * (p - c.x1)) * c.v2) * ((c.x2 - p) * (c.x2 - p) + (c.h2 * c.h2)) % 18446744073709551616) (((((c.x2 - p) * c.v1) * (c.x2 - p)) * c.v1) * ((p - c.x1) * (p - c.x1) + (c.h1 * c.h1)) / 18446744073709551616) (((((c.x2 - p) * c.v1) * (c.x2 - p)) * c.v1) * ((p - c.x1) * (p - c.x1) + (c.h1 * c.h1)) % 18446744073709551616))) A84 S81 (compare_a (((((p - c.x1) * c.v2) * (p - c.x1)) * c.v2) * ((c.x2 - p) * (c.x2 - p) + (c.h2 * c.h2)) / 18446744073709551616) (((((p - c.x1) * c.v2) * (p - c.x1)) * c.v2) * ((c.x2 - p) * (c.x2 - p) + (c.h2 * c.h2)) % 18446744073709551616) (((((c.x2 - p) * c.v1) * (c.x2 - p)) * c.v1) * ((p - c.x1) * (p - c.x1) + (c.h1 * c.h1)) / 18446744073709551616) (((((c.x2 - p) * c.v1) * (c.x2 - p)) * c.v1) * ((p - c.x1) * (p - c.x1) + (c.h1 * c.h1)) % 18446744073709551616) _) Try.call66 (by kernel_rfl) (by kernel_rfl) (by kernel_rfl) rfl (fun ac wc A85 S86 => ?_)
  refine s_one (.int .i64 (compare_a_r (((((p - c.x1) * c.v2) * (p - c.x1)) * c.v2) * ((c.x2 - p) * (c.x2 - p) + (c.h2 * c.h2)) / 18446744073709551616) (((((p - c.x1) * c.v2) * (p - c.x1)) * c.v2) * ((c.x2 - p) * (c.x2 - p) + (c.h2 * c.h2)) % 18446744073709551616) (((((c.x2 - p) * c.v1) * (c.x2 - p)) * c.v1) * ((p - c.x1) * (p - c.x1) + (c.h1 * c.h1)) / 18446744073709551616) (((((c.x2 - p) * c.v1) * (c.x2 - p)) * c.v1) * ((p - c.x1) * (p - c.x1) + (c.h1 * c.h1)) % 18446744073709551616))) A85 S86 (g_assign (by kernel_rfl)) rfl (fun ac A88 => ?_)
  refine wpList_nil ?_
  refine n_then ?_
  refine wp_seq ?_
  refine wp_seq ?_
  refine wp_region_lit ?_
  refine s_one (.pointer (some ⟨g3, 0, none⟩)) A88 S86 (g_field (u := .pointer (some ⟨g3, 0, none⟩)) (by kernel_rfl) (fun _ => by kernel_rfl)) rfl (fun ac A89 => ?_)
  refine s_one (.pointer (some ⟨g3, 3, none⟩)) A89 S86 (g_field (u := .pointer (some ⟨g3, 0, none⟩)) (by kernel_rfl) (fun _ => by kernel_rfl)) rfl (fun ac A90 => ?_)
  refine s_one (.int .i64 c.x2) A90 S86 (g_load (g := g3) (off := 3) 2 (by kernel_rfl) rfl (by kernel_rfl)) rfl (fun ac A91 => ?_)
  refine s_one (.pointer (some ⟨g3, 0, none⟩)) A91 S86 (g_field (u := .pointer (some ⟨g3, 0, none⟩)) (by kernel_rfl) (fun _ => by kernel_rfl)) rfl (fun ac A92 => ?_)
  refine s_one (.pointer (some ⟨g3, 0, none⟩)) A92 S86 (g_field (u := .pointer (some ⟨g3, 0, none⟩)) (by kernel_rfl) (fun _ => by kernel_rfl)) rfl (fun ac A93 => ?_)
  refine s_one (.int .i64 c.x1) A93 S86 (g_load (g := g3) (off := 0) 2 (by kernel_rfl) rfl (by kernel_rfl)) rfl (fun ac A94 => ?_)
  refine s_one (.bool (decide (c.x2 < c.x1))) A94 S86 (g_bin (u := .int .i64 c.x2) (k := .int .i64 c.x1) (by kernel_rfl) (by kernel_rfl) (fun _ => by kernel_rfl) (fun _ => by kernel_rfl)) rfl (fun ac A95 => ?_)
  refine wpList_nil ?_
  refine n_then ?_
  refine c_ifb (b := (decide (c.x2 < c.x1))) A95 (by kernel_rfl) (fun h96 => ?_) (fun h96 => ?_)
  · have p97 := of_decide_eq_true h96
    refine wp_region_lit ?_
    refine s_one (.int .i64 (compare_a_r (((((p - c.x1) * c.v2) * (p - c.x1)) * c.v2) * ((c.x2 - p) * (c.x2 - p) + (c.h2 * c.h2)) / 18446744073709551616) (((((p - c.x1) * c.v2) * (p - c.x1)) * c.v2) * ((c.x2 - p) * (c.x2 - p) + (c.h2 * c.h2)) % 18446744073709551616) (((((c.x2 - p) * c.v1) * (c.x2 - p)) * c.v1) * ((p - c.x1) * (p - c.x1) + (c.h1 * c.h1)) / 18446744073709551616) (((((c.x2 - p) * c.v1) * (c.x2 - p)) * c.v1) * ((p - c.x1) * (p - c.x1) + (c.h1 * c.h1)) % 18446744073709551616))) A95 S86 (g_move (by kernel_rfl)) rfl (fun ac A98 => ?_)
    refine s_one (.int .i64 (-(compare_a_r (((((p - c.x1) * c.v2) * (p - c.x1)) * c.v2) * ((c.x2 - p) * (c.x2 - p) + (c.h2 * c.h2)) / 18446744073709551616) (((((p - c.x1) * c.v2) * (p - c.x1)) * c.v2) * ((c.x2 - p) * (c.x2 - p) + (c.h2 * c.h2)) % 18446744073709551616) (((((c.x2 - p) * c.v1) * (c.x2 - p)) * c.v1) * ((p - c.x1) * (p - c.x1) + (c.h1 * c.h1)) / 18446744073709551616) (((((c.x2 - p) * c.v1) * (c.x2 - p)) * c.v1) * ((p - c.x1) * (p - c.x1) + (c.h1 * c.h1)) % 18446744073709551616)))) A98 S86 (g_un (u := .int .i64 (compare_a_r (((((p - c.x1) * c.v2) * (p - c.x1)) * c.v2) * ((c.x2 - p) * (c.x2 - p) + (c.h2 * c.h2)) / 18446744073709551616) (((((p - c.x1) * c.v2) * (p - c.x1)) * c.v2) * ((c.x2 - p) * (c.x2 - p) + (c.h2 * c.h2)) % 18446744073709551616) (((((c.x2 - p) * c.v1) * (c.x2 - p)) * c.v1) * ((p - c.x1) * (p - c.x1) + (c.h1 * c.h1)) / 18446744073709551616) (((((c.x2 - p) * c.v1) * (c.x2 - p)) * c.v1) * ((p - c.x1) * (p - c.x1) + (c.h1 * c.h1)) % 18446744073709551616))) (by kernel_rfl) (u_neg (by rw [slope_eq _ _]; have q2 := sgn_b (shA c (p - c.x1) (c.x2 - p) - shB c (p - c.x1) (c.x2 - p)); omega))) rfl (fun ac A99 => ?_)
    refine s_one (.int .i64 (-(compare_a_r (((((p - c.x1) * c.v2) * (p - c.x1)) * c.v2) * ((c.x2 - p) * (c.x2 - p) + (c.h2 * c.h2)) / 18446744073709551616) (((((p - c.x1) * c.v2) * (p - c.x1)) * c.v2) * ((c.x2 - p) * (c.x2 - p) + (c.h2 * c.h2)) % 18446744073709551616) (((((c.x2 - p) * c.v1) * (c.x2 - p)) * c.v1) * ((p - c.x1) * (p - c.x1) + (c.h1 * c.h1)) / 18446744073709551616) (((((c.x2 - p) * c.v1) * (c.x2 - p)) * c.v1) * ((p - c.x1) * (p - c.x1) + (c.h1 * c.h1)) % 18446744073709551616)))) A99 S86 (g_assign (by kernel_rfl)) rfl (fun ac A100 => ?_)
    refine wpList_nil ?_
    refine n_then ?_
    refine wp_seq ?_
    refine wp_region_lit ?_
    refine s_one (.int .i64 (-(compare_a_r (((((p - c.x1) * c.v2) * (p - c.x1)) * c.v2) * ((c.x2 - p) * (c.x2 - p) + (c.h2 * c.h2)) / 18446744073709551616) (((((p - c.x1) * c.v2) * (p - c.x1)) * c.v2) * ((c.x2 - p) * (c.x2 - p) + (c.h2 * c.h2)) % 18446744073709551616) (((((c.x2 - p) * c.v1) * (c.x2 - p)) * c.v1) * ((p - c.x1) * (p - c.x1) + (c.h1 * c.h1)) / 18446744073709551616) (((((c.x2 - p) * c.v1) * (c.x2 - p)) * c.v1) * ((p - c.x1) * (p - c.x1) + (c.h1 * c.h1)) % 18446744073709551616)))) A100 S86 (g_move (by kernel_rfl)) rfl (fun ac A101 => ?_)
    refine s_one (.int .i64 (-(compare_a_r (((((p - c.x1) * c.v2) * (p - c.x1)) * c.v2) * ((c.x2 - p) * (c.x2 - p) + (c.h2 * c.h2)) / 18446744073709551616) (((((p - c.x1) * c.v2) * (p - c.x1)) * c.v2) * ((c.x2 - p) * (c.x2 - p) + (c.h2 * c.h2)) % 18446744073709551616) (((((c.x2 - p) * c.v1) * (c.x2 - p)) * c.v1) * ((p - c.x1) * (p - c.x1) + (c.h1 * c.h1)) / 18446744073709551616) (((((c.x2 - p) * c.v1) * (c.x2 - p)) * c.v1) * ((p - c.x1) * (p - c.x1) + (c.h1 * c.h1)) % 18446744073709551616)))) A101 S86 (g_assign (by kernel_rfl)) rfl (fun ac A102 => ?_)
    refine wpList_nil ?_
    refine n_then ?_
    refine wp_ret ?_
    refine fin1 (.int .i64 (-(compare_a_r (((((p - c.x1) * c.v2) * (p - c.x1)) * c.v2) * ((c.x2 - p) * (c.x2 - p) + (c.h2 * c.h2)) / 18446744073709551616) (((((p - c.x1) * c.v2) * (p - c.x1)) * c.v2) * ((c.x2 - p) * (c.x2 - p) + (c.h2 * c.h2)) % 18446744073709551616) (((((c.x2 - p) * c.v1) * (c.x2 - p)) * c.v1) * ((p - c.x1) * (p - c.x1) + (c.h1 * c.h1)) / 18446744073709551616) (((((c.x2 - p) * c.v1) * (c.x2 - p)) * c.v1) * ((p - c.x1) * (p - c.x1) + (c.h1 * c.h1)) % 18446744073709551616)))) Try.results60 A102 S86 (rv_tmp (by kernel_rfl)) ⟨?_, S86.kp⟩
    have e : slp c p = -(compare_a_r (((((p - c.x1) * c.v2) * (p - c.x1)) * c.v2) * ((c.x2 - p) * (c.x2 - p) + (c.h2 * c.h2)) / 18446744073709551616) (((((p - c.x1) * c.v2) * (p - c.x1)) * c.v2) * ((c.x2 - p) * (c.x2 - p) + (c.h2 * c.h2)) % 18446744073709551616) (((((c.x2 - p) * c.v1) * (c.x2 - p)) * c.v1) * ((p - c.x1) * (p - c.x1) + (c.h1 * c.h1)) / 18446744073709551616) (((((c.x2 - p) * c.v1) * (c.x2 - p)) * c.v1) * ((p - c.x1) * (p - c.x1) + (c.h1 * c.h1)) % 18446744073709551616)) := by unfold slp; rw [if_pos p97, slope_eq _ _]
    rw [e]
  · have p103 := of_decide_eq_false h96
    refine wp_skip ?_
    refine n_then ?_
    refine wp_seq ?_
    refine wp_region_lit ?_
    refine s_one (.int .i64 (compare_a_r (((((p - c.x1) * c.v2) * (p - c.x1)) * c.v2) * ((c.x2 - p) * (c.x2 - p) + (c.h2 * c.h2)) / 18446744073709551616) (((((p - c.x1) * c.v2) * (p - c.x1)) * c.v2) * ((c.x2 - p) * (c.x2 - p) + (c.h2 * c.h2)) % 18446744073709551616) (((((c.x2 - p) * c.v1) * (c.x2 - p)) * c.v1) * ((p - c.x1) * (p - c.x1) + (c.h1 * c.h1)) / 18446744073709551616) (((((c.x2 - p) * c.v1) * (c.x2 - p)) * c.v1) * ((p - c.x1) * (p - c.x1) + (c.h1 * c.h1)) % 18446744073709551616))) A95 S86 (g_move (by kernel_rfl)) rfl (fun ac A104 => ?_)
    refine s_one (.int .i64 (compare_a_r (((((p - c.x1) * c.v2) * (p - c.x1)) * c.v2) * ((c.x2 - p) * (c.x2 - p) + (c.h2 * c.h2)) / 18446744073709551616) (((((p - c.x1) * c.v2) * (p - c.x1)) * c.v2) * ((c.x2 - p) * (c.x2 - p) + (c.h2 * c.h2)) % 18446744073709551616) (((((c.x2 - p) * c.v1) * (c.x2 - p)) * c.v1) * ((p - c.x1) * (p - c.x1) + (c.h1 * c.h1)) / 18446744073709551616) (((((c.x2 - p) * c.v1) * (c.x2 - p)) * c.v1) * ((p - c.x1) * (p - c.x1) + (c.h1 * c.h1)) % 18446744073709551616))) A104 S86 (g_assign (by kernel_rfl)) rfl (fun ac A105 => ?_)
    refine wpList_nil ?_
    refine n_then ?_
    refine wp_ret ?_
    refine fin1 (.int .i64 (compare_a_r (((((p - c.x1) * c.v2) * (p - c.x1)) * c.v2) * ((c.x2 - p) * (c.x2 - p) + (c.h2 * c.h2)) / 18446744073709551616) (((((p - c.x1) * c.v2) * (p - c.x1)) * c.v2) * ((c.x2 - p) * (c.x2 - p) + (c.h2 * c.h2)) % 18446744073709551616) (((((c.x2 - p) * c.v1) * (c.x2 - p)) * c.v1) * ((p - c.x1) * (p - c.x1) + (c.h1 * c.h1)) / 18446744073709551616) (((((c.x2 - p) * c.v1) * (c.x2 - p)) * c.v1) * ((p - c.x1) * (p - c.x1) + (c.h1 * c.h1)) % 18446744073709551616))) Try.results60 A105 S86 (rv_tmp (by kernel_rfl)) ⟨?_, S86.kp⟩
    have e : slp c p = (compare_a_r (((((p - c.x1) * c.v2) * (p - c.x1)) * c.v2) * ((c.x2 - p) * (c.x2 - p) + (c.h2 * c.h2)) / 18446744073709551616) (((((p - c.x1) * c.v2) * (p - c.x1)) * c.v2) * ((c.x2 - p) * (c.x2 - p) + (c.h2 * c.h2)) % 18446744073709551616) (((((c.x2 - p) * c.v1) * (c.x2 - p)) * c.v1) * ((p - c.x1) * (p - c.x1) + (c.h1 * c.h1)) / 18446744073709551616) (((((c.x2 - p) * c.v1) * (c.x2 - p)) * c.v1) * ((p - c.x1) * (p - c.x1) + (c.h1 * c.h1)) % 18446744073709551616)) := by unfold slp; rw [if_neg p103, slope_eq _ _]
    rw [e]

theorem slp_zero {c : Cr} {p : Int} (ok : c.Ok) (h : p - c.x1 = 0 ∨ c.x2 - p = 0) : sgn (sgn (p - c.x1) - sgn (c.x2 - p)) = slp c p := by
  obtain ⟨H1, H2, V1, V2⟩ := ok.pos
  unfold slp
  rcases h with h | h
  · rw [h, sgn_zero]
    have e1 : shA c 0 (c.x2 - p) = 0 := by unfold shA; simp
    have e2 : 0 < shB c 0 (c.x2 - p) ∨ c.x2 - p = 0 := by
      by_cases z : c.x2 - p = 0
      · exact .inr z
      · left; unfold shB; exact Int.mul_pos (Int.mul_pos (sq_pos z) V1) (by omega)
    rw [e1]
    rcases e2 with e2 | e2
    · rw [sgn_neg (show 0 - shB c 0 (c.x2 - p) < 0 by omega)]
      by_cases z : c.x2 < c.x1
      · rw [if_pos z, sgn_neg (show c.x2 - p < 0 by omega)]; rfl
      · have : 0 < c.x2 - p := by
          have : c.x2 - p ≠ 0 := fun q => by rw [q] at e2; simp [shB] at e2
          omega
        rw [if_neg z, sgn_pos this]; rfl
    · rw [e2, if_neg (by omega)]
      unfold shB; simp [sgn]
  · rw [h, sgn_zero]
    have e1 : shB c (p - c.x1) 0 = 0 := by unfold shB; simp
    rw [e1]
    by_cases z : p - c.x1 = 0
    · rw [z, if_neg (by omega)]; unfold shA; simp [sgn]
    · have e2 : 0 < shA c (p - c.x1) 0 := by unfold shA; exact Int.mul_pos (Int.mul_pos (sq_pos z) V2) (by omega)
      rw [sgn_pos (show 0 < shA c (p - c.x1) 0 - 0 by omega)]
      by_cases y : c.x2 < c.x1
      · rw [if_pos y, sgn_neg (show p - c.x1 < 0 by omega)]; rfl
      · rw [if_neg y, sgn_pos (show 0 < p - c.x1 by omega)]; rfl
theorem cmp_slope (c : Cr) (a b : Int) : cmpI (a * a * c.v2 * c.v2) (a * a + c.h1 * c.h1) (b * b * c.v1 * c.v1) (b * b + c.h2 * c.h2) = sgn (shA c a b - shB c a b) := by
  unfold cmpI shA shB; congr 1; grind
theorem sg_sum {c : Cr} {p : Int} (k0 : c.lo ≤ p) (k1 : p ≤ c.hi) (h1 : ¬ p - c.x1 = 0) (h2 : ¬ c.x2 - p = 0) : sgn (p - c.x1) + sgn (c.x2 - p) < 0 ↔ c.x2 < c.x1 := by
  unfold Cr.lo at k0; unfold Cr.hi at k1
  by_cases z : c.x2 < c.x1
  · rw [sgn_neg (show p - c.x1 < 0 by omega), sgn_neg (show c.x2 - p < 0 by omega)]; omega
  · rw [sgn_pos (show 0 < p - c.x1 by omega), sgn_pos (show 0 < c.x2 - p by omega)]; omega
theorem or_split {p q : Prop} [Decidable p] [Decidable q] (h : (decide p || decide q) = true) : p ∨ q := by simpa using h
theorem or_none {p q : Prop} [Decidable p] [Decidable q] (h : (decide p || decide q) = false) : ¬ p ∧ ¬ q := by simpa using h

set_option maxRecDepth 100000 in
set_option maxHeartbeats 400000 in
theorem ends_s (c : Cr) (w0 : World) :
    Calls Try.prog 57 #[.agg #[.int .i64 c.x1, .int .i64 c.h1, .int .i64 c.v1, .int .i64 c.x2, .int .i64 c.h2, .int .i64 c.v2]] w0 fun e w' => e = .returned (.tuple #[.int .i64 c.lo, .int .i64 c.hi]) ∧ Below w0.heap.size w0 w' := by
  have S0 := St.start w0
  refine enter (n := 18) Try.func57 rfl rfl rfl (fun ac A0 => ?_)
  refine wp_seq ?_
  refine wp_region_lit ?_
  refine s_box (.agg #[.int .i64 c.x1, .int .i64 c.h1, .int .i64 c.v1, .int .i64 c.x2, .int .i64 c.h2, .int .i64 c.v2]) A0 S0 (by kernel_rfl) rfl (fun g3 ac wc A1 S2 => ?_)
  replace S2 : St _ (⟨g3, 77, #[.int .i64 c.x1, .int .i64 c.h1, .int .i64 c.v1, .int .i64 c.x2, .int .i64 c.h2, .int .i64 c.v2], true⟩ :: _) _ _ := S2
  refine s_one (.int .i64 0) A1 S2 (g_assign (by kernel_rfl)) rfl (fun ac A5 => ?_)
  refine s_one (.int .i64 0) A5 S2 (g_assign (by kernel_rfl)) rfl (fun ac A6 => ?_)
  refine wpList_nil ?_
  refine n_then ?_
  refine wp_seq ?_
  refine r_begin (w0 := w0) (by kernel_rfl) (S2.sub sub_all sub_all) (fun wc T7 B8 => ?_)
  have S9 := S2.kept B8
  refine r_take 0 (.pointer (some ⟨g3, 0, none⟩)) A6 T7 (g_field (u := .pointer (some ⟨g3, 0, none⟩)) (by kernel_rfl) (fun _ => by kernel_rfl)) rfl rfl rfl (pf_then pf_body) (by kernel_rfl) (fun ac A10 => ?_)
  refine r_take 1 (.pointer (some ⟨g3, 0, none⟩)) A10 T7 (g_field (u := .pointer (some ⟨g3, 0, none⟩)) (by kernel_rfl) (fun _ => by kernel_rfl)) rfl rfl rfl (pf_then pf_body) (by kernel_rfl) (fun ac A11 => ?_)
  refine r_take 2 (.int .i64 c.x1) A11 T7 (g_load (g := g3) (off := 0) 0 (by kernel_rfl) rfl (by kernel_rfl)) rfl rfl rfl (pf_then pf_body) (by kernel_rfl) (fun ac A12 => ?_)
  refine r_take 3 (.pointer (some ⟨g3, 0, none⟩)) A12 T7 (g_field (u := .pointer (some ⟨g3, 0, none⟩)) (by kernel_rfl) (fun _ => by kernel_rfl)) rfl rfl rfl (pf_then pf_body) (by kernel_rfl) (fun ac A13 => ?_)
  refine r_take 4 (.pointer (some ⟨g3, 3, none⟩)) A13 T7 (g_field (u := .pointer (some ⟨g3, 0, none⟩)) (by kernel_rfl) (fun _ => by kernel_rfl)) rfl rfl rfl (pf_then pf_body) (by kernel_rfl) (fun ac A14 => ?_)
  refine r_take 5 (.int .i64 c.x2) A14 T7 (g_load (g := g3) (off := 3) 0 (by kernel_rfl) rfl (by kernel_rfl)) rfl rfl rfl (pf_then pf_body) (by kernel_rfl) (fun ac A15 => ?_)
  refine r_take 6 (.int .i64 (mn c.x1 c.x2)) A15 T7 (g_built (r := [(0, .int .i64 c.x1), (0, .int .i64 c.x2)]) (by kernel_rfl) (fun ty cs w => by show (do let x ← Builtin.min_ _ ty #[.int .i64 c.x1, .int .i64 c.x2]; pure (Next.value x) : Sem Next).run _ w = _; rw [Sem.run_bind, run_min_mn]; rfl)) rfl rfl rfl (pf_then pf_body) (by kernel_rfl) (fun ac A16 => ?_)
  refine r_take 7 (.pointer (some ⟨g3, 0, none⟩)) A16 T7 (g_field (u := .pointer (some ⟨g3, 0, none⟩)) (by kernel_rfl) (fun _ => by kernel_rfl)) rfl rfl rfl (pf_then pf_body) (by kernel_rfl) (fun ac A17 => ?_)
  refine r_take 8 (.pointer (some ⟨g3, 0, none⟩)) A17 T7 (g_field (u := .pointer (some ⟨g3, 0, none⟩)) (by kernel_rfl) (fun _ => by kernel_rfl)) rfl rfl rfl (pf_then pf_body) (by kernel_rfl) (fun ac A18 => ?_)
  refine r_take 9 (.int .i64 c.x1) A18 T7 (g_load (g := g3) (off := 0) 0 (by kernel_rfl) rfl (by kernel_rfl)) rfl rfl rfl (pf_then pf_body) (by kernel_rfl) (fun ac A19 => ?_)
  refine r_take 10 (.pointer (some ⟨g3, 0, none⟩)) A19 T7 (g_field (u := .pointer (some ⟨g3, 0, none⟩)) (by kernel_rfl) (fun _ => by kernel_rfl)) rfl rfl rfl (pf_then pf_body) (by kernel_rfl) (fun ac A20 => ?_)
  refine r_take 11 (.pointer (some ⟨g3, 3, none⟩)) A20 T7 (g_field (u := .pointer (some ⟨g3, 0, none⟩)) (by kernel_rfl) (fun _ => by kernel_rfl)) rfl rfl rfl (pf_then pf_body) (by kernel_rfl) (fun ac A21 => ?_)
  refine r_take 12 (.int .i64 c.x2) A21 T7 (g_load (g := g3) (off := 3) 0 (by kernel_rfl) rfl (by kernel_rfl)) rfl rfl rfl (pf_then pf_body) (by kernel_rfl) (fun ac A22 => ?_)
  refine r_take 13 (.int .i64 (mx c.x1 c.x2)) A22 T7 (g_built (r := [(0, .int .i64 c.x1), (0, .int .i64 c.x2)]) (by kernel_rfl) (fun ty cs w => by show (do let x ← Builtin.max_ _ ty #[.int .i64 c.x1, .int .i64 c.x2]; pure (Next.value x) : Sem Next).run _ w = _; rw [Sem.run_bind, run_max_mx]; rfl)) rfl rfl rfl (pf_then pf_body) (by kernel_rfl) (fun ac A23 => ?_)
  refine r_take 14 (.int .i64 (mn c.x1 c.x2)) A23 T7 (g_assign (by kernel_rfl)) rfl rfl rfl (pf_then pf_body) (by kernel_rfl) (fun ac A24 => ?_)
  refine r_take 15 (.int .i64 (mx c.x1 c.x2)) A24 T7 (g_assign (by kernel_rfl)) rfl rfl rfl (pf_then pf_body) (by kernel_rfl) (fun ac A25 => ?_)
  refine r_done (by kernel_rfl) ?_
  refine n_then ?_
  refine wp_ret ?_
  refine fin2 (.int .i64 (mn c.x1 c.x2)) (.int .i64 (mx c.x1 c.x2)) Try.results57 A25 S9 (rv_tmp (by kernel_rfl)) (rv_tmp (by kernel_rfl)) ⟨?_, S9.kp⟩
  rw [mn_eq, mx_eq]
  rfl

set_option maxRecDepth 100000 in
set_option maxHeartbeats 400000 in
theorem has_s (c : Cr) (p : Int) (w0 : World) :
    Calls Try.prog 48 #[.agg #[.int .i64 c.x1, .int .i64 c.h1, .int .i64 c.v1, .int .i64 c.x2, .int .i64 c.h2, .int .i64 c.v2], .int .i64 p] w0 fun e w' => e = .returned (.bool (inB p c.lo c.hi)) ∧ Below w0.heap.size w0 w' := by
  have S0 := St.start w0
  refine enter (n := 16) Try.func48 rfl rfl rfl (fun ac A0 => ?_)
  refine wp_seq ?_
  refine wp_region_lit ?_
  refine s_box (.agg #[.int .i64 c.x1, .int .i64 c.h1, .int .i64 c.v1, .int .i64 c.x2, .int .i64 c.h2, .int .i64 c.v2]) A0 S0 (by kernel_rfl) rfl (fun g3 ac wc A1 S2 => ?_)
  replace S2 : St _ (⟨g3, 77, #[.int .i64 c.x1, .int .i64 c.h1, .int .i64 c.v1, .int .i64 c.x2, .int .i64 c.h2, .int .i64 c.v2], true⟩ :: _) _ _ := S2
  refine s_one (.bool false) A1 S2 (g_assign (by kernel_rfl)) rfl (fun ac A5 => ?_)
  refine wpList_nil ?_
  refine n_then ?_
  refine wp_seq ?_
  refine wp_region_lit ?_
  refine s_one (.agg #[.int .i64 c.x1, .int .i64 c.h1, .int .i64 c.v1, .int .i64 c.x2, .int .i64 c.h2, .int .i64 c.v2]) A5 S2 (g_load (g := g3) (off := 0) 0 (by kernel_rfl) rfl (by kernel_rfl)) rfl (fun ac A6 => ?_)
  refine s_call (fs := #[]) (cp := #[]) (r := [(0, .agg #[.int .i64 c.x1, .int .i64 c.h1, .int .i64 c.v1, .int .i64 c.x2, .int .i64 c.h2, .int .i64 c.v2])]) #[.agg #[.int .i64 c.x1, .int .i64 c.h1, .int .i64 c.v1, .int .i64 c.x2, .int .i64 c.h2, .int .i64 c.v2]] (.tuple #[.int .i64 c.lo, .int .i64 c.hi]) A6 S2 (ends_s c _) Try.call57 (by kernel_rfl) (by kernel_rfl) (by kernel_rfl) rfl (fun ac wc A7 S8 => ?_)
  refine s_one (.tuple #[.int .i64 c.lo, .int .i64 c.hi]) A7 S8 (g_move (by kernel_rfl)) rfl (fun ac A10 => ?_)
  refine s_one (.int .i64 c.lo) A10 S8 (g_extract (u := .tuple #[.int .i64 c.lo, .int .i64 c.hi]) (by kernel_rfl) (fun _ => by kernel_rfl)) rfl (fun ac A11 => ?_)
  refine s_one (.int .i64 c.hi) A11 S8 (g_extract (u := .tuple #[.int .i64 c.lo, .int .i64 c.hi]) (by kernel_rfl) (fun _ => by kernel_rfl)) rfl (fun ac A12 => ?_)
  refine s_one (.int .i64 c.lo) A12 S8 (g_assign (by kernel_rfl)) rfl (fun ac A13 => ?_)
  refine s_one (.int .i64 c.hi) A13 S8 (g_assign (by kernel_rfl)) rfl (fun ac A14 => ?_)
  refine wpList_nil ?_
  refine n_then ?_
  refine wp_seq ?_
  refine wp_region_lit ?_
  refine s_one (.int .i64 p) A14 S8 (g_move (by kernel_rfl)) rfl (fun ac A15 => ?_)
  refine s_one (.int .i64 c.lo) A15 S8 (g_move (by kernel_rfl)) rfl (fun ac A16 => ?_)
  refine s_one (.int .i64 c.hi) A16 S8 (g_move (by kernel_rfl)) rfl (fun ac A17 => ?_)
  refine s_call (fs := #[]) (cp := #[]) (r := [(0, .int .i64 p), (0, .int .i64 c.lo), (0, .int .i64 c.hi)]) #[.int .i64 p, .int .i64 c.lo, .int .i64 c.hi] (.bool (inB p c.lo c.hi)) A17 S8 (within_s p c.lo c.hi _) Try.call53 (by kernel_rfl) (by kernel_rfl) (by kernel_rfl) rfl (fun ac wc A18 S19 => ?_)
  refine s_one (.bool (inB p c.lo c.hi)) A18 S19 (g_assign (by kernel_rfl)) rfl (fun ac A21 => ?_)
  refine wpList_nil ?_
  refine n_then ?_
  refine wp_ret ?_
  refine fin1 (.bool (inB p c.lo c.hi)) Try.results48 A21 S19 (rv_tmp (by kernel_rfl)) ⟨?_, S19.kp⟩
  rfl

end Go.Proofs.Ytfeapeblnnmhlaa
