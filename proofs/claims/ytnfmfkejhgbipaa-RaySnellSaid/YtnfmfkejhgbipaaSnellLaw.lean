/- The walk of RaySnell: it returns true. -/
import Derived.Test.YtnfmfkejhgbipaaRay10
import Derived.Test.YtnfmfkejhgbipaaPlain
import Derived.Test.YtnfmfkejhgbipaaArgs
namespace Go.Proofs.Ytnfmfkejhgbipaa
open Go.RowKit Go.Cpl Go.Ray1

theorem ve_of {v : Int} (h : 500 ≤ v ∧ v ≤ 10000) : veE v = 0 := veE_y (inB_true.2 h)
theorem snell_1 {a b v w : Int} (h : psE a b v w = 0) : psB a b v w = decide (cmpI (a * a) (a * a + b * b) (Int.tdiv (v * v) (gcdE (v * v) (w * w))) (Int.tdiv (w * w) (gcdE (v * v) (w * w))) ≤ 0) := by
  obtain ⟨h1, h2, h3⟩ := psE_0 h
  have s1 := sv_bd h2; have s2 := sv_bd h3
  have g := gcdE_bd (p := v * v) (q := w * w) (by omega)
  obtain ⟨m1, m2⟩ := low_mul (p := v * v) (q := w * w)
  unfold psB cmpI
  rw [decide_eq_decide, sgn_le]
  generalize gcdE (v * v) (w * w) = d at *
  generalize Int.tdiv (v * v) d = x at *
  generalize Int.tdiv (w * w) d = y at *
  have e1 : a * a * w * w = (a * a * y) * d := by rw [show a * a * w * w = a * a * (w * w) by grind, ← m2]; grind
  have e2 : (a * a + b * b) * v * v = (x * (a * a + b * b)) * d := by rw [show (a * a + b * b) * v * v = (a * a + b * b) * (v * v) by grind, ← m1]; grind
  rw [e1, e2]
  constructor
  · intro k
    have := Int.le_of_mul_le_mul_right k (show 0 < d by omega)
    omega
  · intro k
    exact Int.mul_le_mul_of_nonneg_right (by omega) (by omega)
theorem snell_ge {a b v w : Int} (h : psE a b v w = 0) (h2 : v ≥ w) : psB a b v w = true := by
  obtain ⟨k1, k2, k3⟩ := psE_0 h
  have := sq_le (a := w) (b := v) (by omega) h2
  have s1 := sq_nn a; have s2 := sq_nn b; have s3 := sq_nn v
  have f1 := Int.mul_le_mul_of_nonneg_left this s1
  have f2 := Int.mul_nonneg s2 s3
  unfold psB
  apply decide_eq_true
  have e1 : a * a * w * w = a * a * (w * w) := by grind
  have e2 : (a * a + b * b) * v * v = a * a * (v * v) + b * b * (v * v) := by grind
  rw [e1, e2]
  omega
theorem snell_2 {a b v w : Int} : cmpI (bsN a b v w * v) (bsD a b v w * w) (a * a * w) ((a * a + b * b) * v) = 0 := by
  unfold cmpI
  have e := bs_cross (a := a) (b := b) (v := v) (w := w)
  have e1 : bsN a b v w * v * ((a * a + b * b) * v) = bsN a b v w * ((a * a + b * b) * v * v) := by grind
  have e2 : a * a * w * (bsD a b v w * w) = a * a * w * w * bsD a b v w := by grind
  rw [e1, e2, e, Int.sub_self, sgn_zero]
theorem cs_ge {v w : Int} (h1 : 500 ≤ v ∧ v ≤ 10000) (h2 : 500 ≤ w ∧ w ≤ 10000) (h : csE v w ≠ 0) : csE v w = 12 ∧ v ≥ w := by
  by_cases z : v ≥ w
  · exact ⟨cs_12 (ve_of h1) (ve_of h2) z, z⟩
  · exact absurd (cs_ok (ve_of h1) (ve_of h2) z) h
theorem bs_not {a b v w : Int} (h : psE a b v w = 0) (h2 : bsE a b v w ≠ 0) : (bsE a b v w = 12 → psB a b v w = false) ∧ (bsE a b v w ≠ 12 → psB a b v w = true ∧ bsE a b v w = 8) := by
  unfold bsE at *
  rw [if_pos h] at *
  cases p : psB a b v w with
  | false => rw [p] at h2; simp
  | true =>
    rw [p] at h2
    cases l : bsL a b v w with
    | false => rw [l] at h2; simp at h2
    | true => simp
theorem bsL_no {a b v w : Int} (h : bsL a b v w = false) : bsN a b v w ≤ 1000000000 ∧ bsD a b v w ≤ 1000000000 := by
  unfold bsL at h
  rw [Bool.or_eq_false_iff] at h
  have h1 := of_decide_eq_false h.1; have h2 := of_decide_eq_false h.2
  omega
theorem mul_pb {x y A B : Int} (hx : 0 ≤ x ∧ x ≤ A) (hy : 0 ≤ y ∧ y ≤ B) : 0 ≤ x * y ∧ x * y ≤ A * B := ⟨Int.mul_nonneg hx.1 hy.1, Int.mul_le_mul hx.2 hy.2 hy.1 (by omega)⟩
theorem mul_p1 {x y : Int} (hx : 1 ≤ x) (hy : 1 ≤ y) : 1 ≤ x * y := by have := Int.mul_le_mul hx hy (by omega) (by omega); omega

set_option maxRecDepth 100000 in
set_option maxHeartbeats 400000 in
theorem RaySnell_s (a b v w : Int) (w0 : World) :
    Calls Try.prog 16 #[.agg #[.int .i64 a, .int .i64 b], .int .i64 v, .int .i64 w] w0 fun e w' => e = .returned (.bool true) ∧ Below w0.heap.size w0 w' := by
  have S0 := St.start w0
  refine enter (n := 136) Try.func16 rfl rfl rfl (fun ac A0 => ?_)
  refine wp_seq ?_
  refine wp_region_lit ?_
  refine s_box (.agg #[.int .i64 a, .int .i64 b]) A0 S0 (by kernel_rfl) rfl (fun g3 ac wc A1 S2 => ?_)
  replace S2 : St _ (⟨g3, 71, #[.int .i64 a, .int .i64 b], true⟩ :: _) _ _ := S2
  refine s_one (.bool false) A1 S2 (g_assign (by kernel_rfl)) rfl (fun ac A5 => ?_)
  refine wpList_nil ?_
  refine n_then ?_
  refine wp_seq ?_
  refine wp_seq ?_
  refine wp_region_lit ?_
  refine s_call (fs := #[]) (cp := #[]) (r := []) #[] (.bool true) A5 S2 (awake_s _) Try.call19 (by kernel_rfl) (by kernel_rfl) (by kernel_rfl) rfl (fun ac wc A6 S7 => ?_)
  refine s_one (.bool false) A6 S7 (g_un (u := .bool true) (by kernel_rfl) (fun _ => by kernel_rfl)) rfl (fun ac A9 => ?_)
  refine wpList_nil ?_
  refine n_then ?_
  refine c_f (b := false) A9 (by kernel_rfl) rfl ?_
  refine wp_skip ?_
  refine n_then ?_
  refine wp_seq ?_
  refine wp_region_lit ?_
  refine s_one (.agg #[.int .i64 a, .int .i64 b]) A9 S7 (g_load (g := g3) (off := 0) 0 (by kernel_rfl) rfl (by kernel_rfl)) rfl (fun ac A10 => ?_)
  refine s_one (.int .i64 v) A10 S7 (g_move (by kernel_rfl)) rfl (fun ac A11 => ?_)
  refine s_one (.int .i64 w) A11 S7 (g_move (by kernel_rfl)) rfl (fun ac A12 => ?_)
  refine s_call (fs := #[]) (cp := #[]) (r := [(0, .agg #[.int .i64 a, .int .i64 b]), (0, .int .i64 v), (0, .int .i64 w)]) #[.agg #[.int .i64 a, .int .i64 b], .int .i64 v, .int .i64 w] (.tuple #[.bool (zb (psE a b v w) (psB a b v w)), .int .i64 (psE a b v w)]) A12 S7 (Passes_s a b v w _) Try.call45 (by kernel_rfl) (by kernel_rfl) (by kernel_rfl) rfl (fun ac wc A13 S14 => ?_)
  refine s_one (.tuple #[.bool (zb (psE a b v w) (psB a b v w)), .int .i64 (psE a b v w)]) A13 S14 (g_move (by kernel_rfl)) rfl (fun ac A16 => ?_)
  refine s_one (.bool (zb (psE a b v w) (psB a b v w))) A16 S14 (g_extract (u := .tuple #[.bool (zb (psE a b v w) (psB a b v w)), .int .i64 (psE a b v w)]) (by kernel_rfl) (fun _ => by kernel_rfl)) rfl (fun ac A17 => ?_)
  refine s_one (.int .i64 (psE a b v w)) A17 S14 (g_extract (u := .tuple #[.bool (zb (psE a b v w) (psB a b v w)), .int .i64 (psE a b v w)]) (by kernel_rfl) (fun _ => by kernel_rfl)) rfl (fun ac A18 => ?_)
  refine s_one (.bool (zb (psE a b v w) (psB a b v w))) A18 S14 (g_assign (by kernel_rfl)) rfl (fun ac A19 => ?_)
  refine s_one (.int .i64 (psE a b v w)) A19 S14 (g_assign (by kernel_rfl)) rfl (fun ac A20 => ?_)
  refine wpList_nil ?_
  refine n_then ?_
  refine wp_seq ?_
  refine wp_seq ?_
  refine wp_region_lit ?_
  refine s_one (.int .i64 (psE a b v w)) A20 S14 (g_move (by kernel_rfl)) rfl (fun ac A21 => ?_)
  refine s_one (.bool (decide (psE a b v w ≠ 0))) A21 S14 (g_bin (u := .int .i64 (psE a b v w)) (k := .int .i64 0) (by kernel_rfl) (by kernel_rfl) (fun _ => by kernel_rfl) b_neq) rfl (fun ac A22 => ?_)
  refine wpList_nil ?_
  refine n_then ?_
  refine c_ifb (b := (decide (psE a b v w ≠ 0))) A22 (by kernel_rfl) (fun h23 => ?_) (fun h23 => ?_)
  · have p24 := of_decide_eq_true h23
    have zp := of_decide_eq_true h23
    refine wp_seq ?_
    refine wp_region_lit ?_
    refine s_one (.bool (zb (psE a b v w) (psB a b v w))) A22 S14 (g_move (by kernel_rfl)) rfl (fun ac A25 => ?_)
    refine s_one (.bool (!(zb (psE a b v w) (psB a b v w)))) A25 S14 (g_un (u := .bool (zb (psE a b v w) (psB a b v w))) (by kernel_rfl) (fun _ => by kernel_rfl)) rfl (fun ac A26 => ?_)
    refine s_one (.bool (!(zb (psE a b v w) (psB a b v w)))) A26 S14 (g_assign (by kernel_rfl)) rfl (fun ac A27 => ?_)
    refine wpList_nil ?_
    refine n_then ?_
    refine wp_ret ?_
    refine r_then ?_
    refine fin1 (.bool (!(zb (psE a b v w) (psB a b v w)))) Try.results16 A27 S14 (rv_tmp (by kernel_rfl)) ⟨?_, S14.kp⟩
    exact congrArg (fun b => Ending.returned (Value.bool b)) (b_nf (zb_n zp _))
  · have p28 := of_decide_eq_false h23
    have ze : psE a b v w = 0 := by simpa using h23
    have zz := psE_0 ze
    have q := dv_bd zz.1.1 zz.1.2 zz.2.1 zz.2.2
    have lb2 := low_bd (p := v * v) (q := w * w) (by omega) (by omega)
    have sn := snell_1 ze
    refine wp_skip ?_
    refine n_then ?_
    refine wp_seq ?_
    refine wp_region_lit ?_
    refine s_one (.int .i64 v) A22 S14 (g_move (by kernel_rfl)) rfl (fun ac A29 => ?_)
    refine s_one (.int .i64 w) A29 S14 (g_move (by kernel_rfl)) rfl (fun ac A30 => ?_)
    refine s_call (fs := #[]) (cp := #[]) (r := [(0, .int .i64 v), (0, .int .i64 w)]) #[.int .i64 v, .int .i64 w] (.tuple #[.agg #[.int .i64 (zv (csE v w) (Int.tdiv (v * v) (gcdE (v * v) (w * w)))), .int .i64 (zv (csE v w) (Int.tdiv (w * w) (gcdE (v * v) (w * w))))], .int .i64 (csE v w)]) A30 S14 (CriticalSquare_s v w _) Try.call67 (by kernel_rfl) (by kernel_rfl) (by kernel_rfl) rfl (fun ac wc A31 S32 => ?_)
    refine s_one (.tuple #[.agg #[.int .i64 (zv (csE v w) (Int.tdiv (v * v) (gcdE (v * v) (w * w)))), .int .i64 (zv (csE v w) (Int.tdiv (w * w) (gcdE (v * v) (w * w))))], .int .i64 (csE v w)]) A31 S32 (g_move (by kernel_rfl)) rfl (fun ac A34 => ?_)
    refine s_one (.agg #[.int .i64 (zv (csE v w) (Int.tdiv (v * v) (gcdE (v * v) (w * w)))), .int .i64 (zv (csE v w) (Int.tdiv (w * w) (gcdE (v * v) (w * w))))]) A34 S32 (g_extract (u := .tuple #[.agg #[.int .i64 (zv (csE v w) (Int.tdiv (v * v) (gcdE (v * v) (w * w)))), .int .i64 (zv (csE v w) (Int.tdiv (w * w) (gcdE (v * v) (w * w))))], .int .i64 (csE v w)]) (by kernel_rfl) (fun _ => by kernel_rfl)) rfl (fun ac A35 => ?_)
    refine s_one (.int .i64 (csE v w)) A35 S32 (g_extract (u := .tuple #[.agg #[.int .i64 (zv (csE v w) (Int.tdiv (v * v) (gcdE (v * v) (w * w)))), .int .i64 (zv (csE v w) (Int.tdiv (w * w) (gcdE (v * v) (w * w))))], .int .i64 (csE v w)]) (by kernel_rfl) (fun _ => by kernel_rfl)) rfl (fun ac A36 => ?_)
    refine s_alloc (#[.int .i64 0, .int .i64 0]) A36 S32 (by kernel_rfl) rfl (fun g39 ac wc A37 S38 => ?_)
    refine s_store (g := g39) (off := 0) (v := .agg #[.int .i64 (zv (csE v w) (Int.tdiv (v * v) (gcdE (v * v) (w * w)))), .int .i64 (zv (csE v w) (Int.tdiv (w * w) (gcdE (v * v) (w * w))))]) 0 (#[.int .i64 (zv (csE v w) (Int.tdiv (v * v) (gcdE (v * v) (w * w)))), .int .i64 (zv (csE v w) (Int.tdiv (w * w) (gcdE (v * v) (w * w))))]) A37 S38 (by kernel_rfl) (by kernel_rfl) rfl (by kernel_rfl) (fun wc S41 => ?_)
    refine s_one (.int .i64 (csE v w)) A37 S41 (g_assign (by kernel_rfl)) rfl (fun ac A43 => ?_)
    refine wpList_nil ?_
    refine n_then ?_
    refine wp_seq ?_
    refine wp_region_lit ?_
    refine s_one (.agg #[.int .i64 a, .int .i64 b]) A43 S41 (g_load (g := g3) (off := 0) 1 (by kernel_rfl) rfl (by kernel_rfl)) rfl (fun ac A44 => ?_)
    refine s_one (.int .i64 v) A44 S41 (g_move (by kernel_rfl)) rfl (fun ac A45 => ?_)
    refine s_one (.int .i64 w) A45 S41 (g_move (by kernel_rfl)) rfl (fun ac A46 => ?_)
    refine s_call (fs := #[]) (cp := #[]) (r := [(0, .agg #[.int .i64 a, .int .i64 b]), (0, .int .i64 v), (0, .int .i64 w)]) #[.agg #[.int .i64 a, .int .i64 b], .int .i64 v, .int .i64 w] (.tuple #[.agg #[.int .i64 (zv (bsE a b v w) (bsN a b v w)), .int .i64 (zv (bsE a b v w) (bsD a b v w))], .int .i64 (bsE a b v w)]) A46 S41 (BehindSquare_s a b v w _) Try.call46 (by kernel_rfl) (by kernel_rfl) (by kernel_rfl) rfl (fun ac wc A47 S48 => ?_)
    refine s_one (.tuple #[.agg #[.int .i64 (zv (bsE a b v w) (bsN a b v w)), .int .i64 (zv (bsE a b v w) (bsD a b v w))], .int .i64 (bsE a b v w)]) A47 S48 (g_move (by kernel_rfl)) rfl (fun ac A50 => ?_)
    refine s_one (.agg #[.int .i64 (zv (bsE a b v w) (bsN a b v w)), .int .i64 (zv (bsE a b v w) (bsD a b v w))]) A50 S48 (g_extract (u := .tuple #[.agg #[.int .i64 (zv (bsE a b v w) (bsN a b v w)), .int .i64 (zv (bsE a b v w) (bsD a b v w))], .int .i64 (bsE a b v w)]) (by kernel_rfl) (fun _ => by kernel_rfl)) rfl (fun ac A51 => ?_)
    refine s_one (.int .i64 (bsE a b v w)) A51 S48 (g_extract (u := .tuple #[.agg #[.int .i64 (zv (bsE a b v w) (bsN a b v w)), .int .i64 (zv (bsE a b v w) (bsD a b v w))], .int .i64 (bsE a b v w)]) (by kernel_rfl) (fun _ => by kernel_rfl)) rfl (fun ac A52 => ?_)
    refine s_alloc (#[.int .i64 0, .int .i64 0]) A52 S48 (by kernel_rfl) rfl (fun g55 ac wc A53 S54 => ?_)
    refine s_store (g := g55) (off := 0) (v := .agg #[.int .i64 (zv (bsE a b v w) (bsN a b v w)), .int .i64 (zv (bsE a b v w) (bsD a b v w))]) 0 (#[.int .i64 (zv (bsE a b v w) (bsN a b v w)), .int .i64 (zv (bsE a b v w) (bsD a b v w))]) A53 S54 (by kernel_rfl) (by kernel_rfl) rfl (by kernel_rfl) (fun wc S57 => ?_)
    refine s_one (.int .i64 (bsE a b v w)) A53 S57 (g_assign (by kernel_rfl)) rfl (fun ac A59 => ?_)
    refine wpList_nil ?_
    refine n_then ?_
    refine wp_seq ?_
    refine wp_region_lit ?_
    refine s_one (.pointer (some ⟨g3, 0, none⟩)) A59 S57 (g_index (u := .pointer (some ⟨g3, 0, none⟩)) (k := .int .i64 0) (by kernel_rfl) (by kernel_rfl) (fun _ => by kernel_rfl)) rfl (fun ac A60 => ?_)
    refine s_one (.int .i64 a) A60 S57 (g_load (g := g3) (off := 0) 2 (by kernel_rfl) rfl (by kernel_rfl)) rfl (fun ac A61 => ?_)
    refine s_one (.pointer (some ⟨g3, 0, none⟩)) A61 S57 (g_index (u := .pointer (some ⟨g3, 0, none⟩)) (k := .int .i64 0) (by kernel_rfl) (by kernel_rfl) (fun _ => by kernel_rfl)) rfl (fun ac A62 => ?_)
    refine s_one (.int .i64 a) A62 S57 (g_load (g := g3) (off := 0) 2 (by kernel_rfl) rfl (by kernel_rfl)) rfl (fun ac A63 => ?_)
    refine s_one (.int .i64 (a * a)) A63 S57 (g_bin (u := .int .i64 a) (k := .int .i64 a) (by kernel_rfl) (by kernel_rfl) (fun _ => by kernel_rfl) (b_mul (by omega))) rfl (fun ac A64 => ?_)
    refine s_one (.pointer (some ⟨g3, 1, none⟩)) A64 S57 (g_index (u := .pointer (some ⟨g3, 0, none⟩)) (k := .int .i64 1) (by kernel_rfl) (by kernel_rfl) (fun _ => by kernel_rfl)) rfl (fun ac A65 => ?_)
    refine s_one (.int .i64 b) A65 S57 (g_load (g := g3) (off := 1) 2 (by kernel_rfl) rfl (by kernel_rfl)) rfl (fun ac A66 => ?_)
    refine s_one (.pointer (some ⟨g3, 1, none⟩)) A66 S57 (g_index (u := .pointer (some ⟨g3, 0, none⟩)) (k := .int .i64 1) (by kernel_rfl) (by kernel_rfl) (fun _ => by kernel_rfl)) rfl (fun ac A67 => ?_)
    refine s_one (.int .i64 b) A67 S57 (g_load (g := g3) (off := 1) 2 (by kernel_rfl) rfl (by kernel_rfl)) rfl (fun ac A68 => ?_)
    refine s_one (.int .i64 (b * b)) A68 S57 (g_bin (u := .int .i64 b) (k := .int .i64 b) (by kernel_rfl) (by kernel_rfl) (fun _ => by kernel_rfl) (b_mul (by omega))) rfl (fun ac A69 => ?_)
    refine s_one (.int .i64 (a * a + (b * b))) A69 S57 (g_bin (u := .int .i64 (a * a)) (k := .int .i64 (b * b)) (by kernel_rfl) (by kernel_rfl) (fun _ => by kernel_rfl) (b_add (by omega))) rfl (fun ac A70 => ?_)
    refine s_one (.int .i64 (a * a + (b * b))) A70 S57 (g_assign (by kernel_rfl)) rfl (fun ac A71 => ?_)
    refine wpList_nil ?_
    refine n_then ?_
    refine wp_seq ?_
    refine wp_seq ?_
    refine wp_region_lit ?_
    refine s_one (.int .i64 (csE v w)) A71 S57 (g_move (by kernel_rfl)) rfl (fun ac A72 => ?_)
    refine s_one (.bool (decide (csE v w = 0))) A72 S57 (g_bin (u := .int .i64 (csE v w)) (k := .int .i64 0) (by kernel_rfl) (by kernel_rfl) (fun _ => by kernel_rfl) b_eql) rfl (fun ac A73 => ?_)
    refine s_one (.bool (decide (csE v w = 0))) A73 S57 (g_move (by kernel_rfl)) rfl (fun ac A74 => ?_)
    refine by_bool (decide (csE v w = 0)) (fun h75 => ?_) (fun h75 => ?_)
    · have p76 := of_decide_eq_true h75
      have zc := of_decide_eq_true h75
      have y1 := zv_0 zc (Int.tdiv (v * v) (gcdE (v * v) (w * w)))
      have y2 := zv_0 zc (Int.tdiv (w * w) (gcdE (v * v) (w * w)))
      refine s_want (dj := 53) (b := (decide (csE v w = 0))) A74 (by kernel_rfl) (by kernel_rfl) h75 ?_
      refine s_one (.bool (zb (psE a b v w) (psB a b v w))) A74 S57 (g_move (by kernel_rfl)) rfl (fun ac A77 => ?_)
      refine s_want (dj := 53) (b := (decide (csE v w = 0))) A77 (by kernel_rfl) (by kernel_rfl) h75 ?_
      refine s_one (.pointer (some ⟨g3, 0, none⟩)) A77 S57 (g_index (u := .pointer (some ⟨g3, 0, none⟩)) (k := .int .i64 0) (by kernel_rfl) (by kernel_rfl) (fun _ => by kernel_rfl)) rfl (fun ac A78 => ?_)
      refine s_want (dj := 53) (b := (decide (csE v w = 0))) A78 (by kernel_rfl) (by kernel_rfl) h75 ?_
      refine s_one (.int .i64 a) A78 S57 (g_load (g := g3) (off := 0) 2 (by kernel_rfl) rfl (by kernel_rfl)) rfl (fun ac A79 => ?_)
      refine s_want (dj := 53) (b := (decide (csE v w = 0))) A79 (by kernel_rfl) (by kernel_rfl) h75 ?_
      refine s_one (.pointer (some ⟨g3, 0, none⟩)) A79 S57 (g_index (u := .pointer (some ⟨g3, 0, none⟩)) (k := .int .i64 0) (by kernel_rfl) (by kernel_rfl) (fun _ => by kernel_rfl)) rfl (fun ac A80 => ?_)
      refine s_want (dj := 53) (b := (decide (csE v w = 0))) A80 (by kernel_rfl) (by kernel_rfl) h75 ?_
      refine s_one (.int .i64 a) A80 S57 (g_load (g := g3) (off := 0) 2 (by kernel_rfl) rfl (by kernel_rfl)) rfl (fun ac A81 => ?_)
      refine s_want (dj := 53) (b := (decide (csE v w = 0))) A81 (by kernel_rfl) (by kernel_rfl) h75 ?_
      refine s_one (.int .i64 (a * a)) A81 S57 (g_bin (u := .int .i64 a) (k := .int .i64 a) (by kernel_rfl) (by kernel_rfl) (fun _ => by kernel_rfl) (b_mul (by omega))) rfl (fun ac A82 => ?_)
      refine s_want (dj := 53) (b := (decide (csE v w = 0))) A82 (by kernel_rfl) (by kernel_rfl) h75 ?_
      refine s_one (.int .i64 (a * a + (b * b))) A82 S57 (g_move (by kernel_rfl)) rfl (fun ac A83 => ?_)
      refine s_want (dj := 53) (b := (decide (csE v w = 0))) A83 (by kernel_rfl) (by kernel_rfl) h75 ?_
      refine s_one (.pointer (some ⟨g39, 0, none⟩)) A83 S57 (g_field (u := .pointer (some ⟨g39, 0, none⟩)) (by kernel_rfl) (fun _ => by kernel_rfl)) rfl (fun ac A84 => ?_)
      refine s_want (dj := 53) (b := (decide (csE v w = 0))) A84 (by kernel_rfl) (by kernel_rfl) h75 ?_
      refine s_one (.int .i64 (zv (csE v w) (Int.tdiv (v * v) (gcdE (v * v) (w * w))))) A84 S57 (g_load (g := g39) (off := 0) 1 (by kernel_rfl) rfl (by kernel_rfl)) rfl (fun ac A85 => ?_)
      refine s_want (dj := 53) (b := (decide (csE v w = 0))) A85 (by kernel_rfl) (by kernel_rfl) h75 ?_
      refine s_one (.pointer (some ⟨g39, 1, none⟩)) A85 S57 (g_field (u := .pointer (some ⟨g39, 0, none⟩)) (by kernel_rfl) (fun _ => by kernel_rfl)) rfl (fun ac A86 => ?_)
      refine s_want (dj := 53) (b := (decide (csE v w = 0))) A86 (by kernel_rfl) (by kernel_rfl) h75 ?_
      refine s_one (.int .i64 (zv (csE v w) (Int.tdiv (w * w) (gcdE (v * v) (w * w))))) A86 S57 (g_load (g := g39) (off := 1) 1 (by kernel_rfl) rfl (by kernel_rfl)) rfl (fun ac A87 => ?_)
      refine s_want (dj := 53) (b := (decide (csE v w = 0))) A87 (by kernel_rfl) (by kernel_rfl) h75 ?_
      refine s_call (fs := #[]) (cp := #[]) (r := [(0, .int .i64 (a * a)), (0, .int .i64 (a * a + (b * b))), (0, .int .i64 (zv (csE v w) (Int.tdiv (v * v) (gcdE (v * v) (w * w))))), (0, .int .i64 (zv (csE v w) (Int.tdiv (w * w) (gcdE (v * v) (w * w)))))]) #[.int .i64 (a * a), .int .i64 (a * a + (b * b)), .int .i64 (zv (csE v w) (Int.tdiv (v * v) (gcdE (v * v) (w * w)))), .int .i64 (zv (csE v w) (Int.tdiv (w * w) (gcdE (v * v) (w * w))))] (.int .i64 (cmpI (a * a) (a * a + (b * b)) (zv (csE v w) (Int.tdiv (v * v) (gcdE (v * v) (w * w)))) (zv (csE v w) (Int.tdiv (w * w) (gcdE (v * v) (w * w)))))) A87 S57 (Compare_s (a * a) (a * a + (b * b)) (zv (csE v w) (Int.tdiv (v * v) (gcdE (v * v) (w * w)))) (zv (csE v w) (Int.tdiv (w * w) (gcdE (v * v) (w * w)))) _ (by omega) (by omega) (by omega) (by omega)) Try.call71 (by kernel_rfl) (by kernel_rfl) (by kernel_rfl) rfl (fun ac wc A88 S89 => ?_)
      refine s_want (dj := 53) (b := (decide (csE v w = 0))) A88 (by kernel_rfl) (by kernel_rfl) h75 ?_
      refine s_one (.bool (decide (cmpI (a * a) (a * a + (b * b)) (zv (csE v w) (Int.tdiv (v * v) (gcdE (v * v) (w * w)))) (zv (csE v w) (Int.tdiv (w * w) (gcdE (v * v) (w * w)))) ≤ 0))) A88 S89 (g_bin (u := .int .i64 (cmpI (a * a) (a * a + (b * b)) (zv (csE v w) (Int.tdiv (v * v) (gcdE (v * v) (w * w)))) (zv (csE v w) (Int.tdiv (w * w) (gcdE (v * v) (w * w)))))) (k := .int .i64 0) (by kernel_rfl) (by kernel_rfl) (fun _ => by kernel_rfl) (fun _ => by kernel_rfl)) rfl (fun ac A91 => ?_)
      refine s_want (dj := 53) (b := (decide (csE v w = 0))) A91 (by kernel_rfl) (by kernel_rfl) h75 ?_
      refine s_one (.bool (zb (psE a b v w) (psB a b v w) != decide (cmpI (a * a) (a * a + (b * b)) (zv (csE v w) (Int.tdiv (v * v) (gcdE (v * v) (w * w)))) (zv (csE v w) (Int.tdiv (w * w) (gcdE (v * v) (w * w)))) ≤ 0))) A91 S89 (g_bin (u := .bool (zb (psE a b v w) (psB a b v w))) (k := .bool (decide (cmpI (a * a) (a * a + (b * b)) (zv (csE v w) (Int.tdiv (v * v) (gcdE (v * v) (w * w)))) (zv (csE v w) (Int.tdiv (w * w) (gcdE (v * v) (w * w)))) ≤ 0))) (by kernel_rfl) (by kernel_rfl) (fun _ => by kernel_rfl) (b_boolN Try.underlying4)) rfl (fun ac A92 => ?_)
      refine s_one (.bool (zb (psE a b v w) (psB a b v w) != decide (cmpI (a * a) (a * a + (b * b)) (zv (csE v w) (Int.tdiv (v * v) (gcdE (v * v) (w * w)))) (zv (csE v w) (Int.tdiv (w * w) (gcdE (v * v) (w * w)))) ≤ 0))) A92 S89 (g_pick_t (b := (decide (csE v w = 0))) (by kernel_rfl) h75 (by kernel_rfl)) rfl (fun ac A93 => ?_)
      refine s_one (.bool (zb (psE a b v w) (psB a b v w) != decide (cmpI (a * a) (a * a + (b * b)) (zv (csE v w) (Int.tdiv (v * v) (gcdE (v * v) (w * w)))) (zv (csE v w) (Int.tdiv (w * w) (gcdE (v * v) (w * w)))) ≤ 0))) A93 S89 (g_move (by kernel_rfl)) rfl (fun ac A94 => ?_)
      refine s_want (dj := 69) (b := (zb (psE a b v w) (psB a b v w) != decide (cmpI (a * a) (a * a + (b * b)) (zv (csE v w) (Int.tdiv (v * v) (gcdE (v * v) (w * w)))) (zv (csE v w) (Int.tdiv (w * w) (gcdE (v * v) (w * w)))) ≤ 0))) A94 (by kernel_rfl) (by kernel_rfl) (show ((zb (psE a b v w) (psB a b v w) != decide (cmpI (a * a) (a * a + (b * b)) (zv (csE v w) (Int.tdiv (v * v) (gcdE (v * v) (w * w)))) (zv (csE v w) (Int.tdiv (w * w) (gcdE (v * v) (w * w)))) ≤ 0))) = false from by rw [zb_0 ze, sn, zv_0 zc, zv_0 zc]; simp) ?_
      refine s_one (.int .i64 (csE v w)) A94 S89 (g_move (by kernel_rfl)) rfl (fun ac A95 => ?_)
      refine s_want (dj := 69) (b := (zb (psE a b v w) (psB a b v w) != decide (cmpI (a * a) (a * a + (b * b)) (zv (csE v w) (Int.tdiv (v * v) (gcdE (v * v) (w * w)))) (zv (csE v w) (Int.tdiv (w * w) (gcdE (v * v) (w * w)))) ≤ 0))) A95 (by kernel_rfl) (by kernel_rfl) (show ((zb (psE a b v w) (psB a b v w) != decide (cmpI (a * a) (a * a + (b * b)) (zv (csE v w) (Int.tdiv (v * v) (gcdE (v * v) (w * w)))) (zv (csE v w) (Int.tdiv (w * w) (gcdE (v * v) (w * w)))) ≤ 0))) = false from by rw [zb_0 ze, sn, zv_0 zc, zv_0 zc]; simp) ?_
      refine s_one (.bool (decide (csE v w = 12))) A95 S89 (g_bin (u := .int .i64 (csE v w)) (k := .int .i64 12) (by kernel_rfl) (by kernel_rfl) (fun _ => by kernel_rfl) b_eql) rfl (fun ac A96 => ?_)
      refine s_want (dj := 69) (b := (zb (psE a b v w) (psB a b v w) != decide (cmpI (a * a) (a * a + (b * b)) (zv (csE v w) (Int.tdiv (v * v) (gcdE (v * v) (w * w)))) (zv (csE v w) (Int.tdiv (w * w) (gcdE (v * v) (w * w)))) ≤ 0))) A96 (by kernel_rfl) (by kernel_rfl) (show ((zb (psE a b v w) (psB a b v w) != decide (cmpI (a * a) (a * a + (b * b)) (zv (csE v w) (Int.tdiv (v * v) (gcdE (v * v) (w * w)))) (zv (csE v w) (Int.tdiv (w * w) (gcdE (v * v) (w * w)))) ≤ 0))) = false from by rw [zb_0 ze, sn, zv_0 zc, zv_0 zc]; simp) ?_
      refine s_one (.bool (decide (csE v w = 12))) A96 S89 (g_move (by kernel_rfl)) rfl (fun ac A97 => ?_)
      refine s_not (dj := 72) (b := (decide (csE v w = 12))) A97 (by kernel_rfl) (by kernel_rfl) (decide_eq_false (by omega)) rfl (fun ac A98 => ?_)
      refine s_not (dj := 72) (b := (decide (csE v w = 12))) A98 (by kernel_rfl) (by kernel_rfl) (decide_eq_false (by omega)) rfl (fun ac A99 => ?_)
      refine s_want (dj := 69) (b := (zb (psE a b v w) (psB a b v w) != decide (cmpI (a * a) (a * a + (b * b)) (zv (csE v w) (Int.tdiv (v * v) (gcdE (v * v) (w * w)))) (zv (csE v w) (Int.tdiv (w * w) (gcdE (v * v) (w * w)))) ≤ 0))) A99 (by kernel_rfl) (by kernel_rfl) (show ((zb (psE a b v w) (psB a b v w) != decide (cmpI (a * a) (a * a + (b * b)) (zv (csE v w) (Int.tdiv (v * v) (gcdE (v * v) (w * w)))) (zv (csE v w) (Int.tdiv (w * w) (gcdE (v * v) (w * w)))) ≤ 0))) = false from by rw [zb_0 ze, sn, zv_0 zc, zv_0 zc]; simp) ?_
      refine s_one (.bool false) A99 S89 (g_pick_f (b := (decide (csE v w = 12))) (by kernel_rfl) (decide_eq_false (by omega)) (by kernel_rfl)) rfl (fun ac A100 => ?_)
      refine s_one (.bool false) A100 S89 (g_pick_f (b := (zb (psE a b v w) (psB a b v w) != decide (cmpI (a * a) (a * a + (b * b)) (zv (csE v w) (Int.tdiv (v * v) (gcdE (v * v) (w * w)))) (zv (csE v w) (Int.tdiv (w * w) (gcdE (v * v) (w * w)))) ≤ 0))) (by kernel_rfl) (show ((zb (psE a b v w) (psB a b v w) != decide (cmpI (a * a) (a * a + (b * b)) (zv (csE v w) (Int.tdiv (v * v) (gcdE (v * v) (w * w)))) (zv (csE v w) (Int.tdiv (w * w) (gcdE (v * v) (w * w)))) ≤ 0))) = false from by rw [zb_0 ze, sn, zv_0 zc, zv_0 zc]; simp) (by kernel_rfl)) rfl (fun ac A101 => ?_)
      refine s_one (.bool false) A101 S89 (g_move (by kernel_rfl)) rfl (fun ac A102 => ?_)
      refine s_want (dj := 77) (b := false) A102 (by kernel_rfl) (by kernel_rfl) rfl ?_
      refine s_one (.int .i64 (csE v w)) A102 S89 (g_move (by kernel_rfl)) rfl (fun ac A103 => ?_)
      refine s_want (dj := 77) (b := false) A103 (by kernel_rfl) (by kernel_rfl) rfl ?_
      refine s_one (.bool (decide (csE v w ≠ 0))) A103 S89 (g_bin (u := .int .i64 (csE v w)) (k := .int .i64 0) (by kernel_rfl) (by kernel_rfl) (fun _ => by kernel_rfl) b_neq) rfl (fun ac A104 => ?_)
      refine s_want (dj := 77) (b := false) A104 (by kernel_rfl) (by kernel_rfl) rfl ?_
      refine s_one (.bool (decide (csE v w ≠ 0))) A104 S89 (g_move (by kernel_rfl)) rfl (fun ac A105 => ?_)
      refine s_not (dj := 80) (b := (decide (csE v w ≠ 0))) A105 (by kernel_rfl) (by kernel_rfl) (decide_eq_false (by omega)) rfl (fun ac A106 => ?_)
      refine s_not (dj := 80) (b := (decide (csE v w ≠ 0))) A106 (by kernel_rfl) (by kernel_rfl) (decide_eq_false (by omega)) rfl (fun ac A107 => ?_)
      refine s_want (dj := 77) (b := false) A107 (by kernel_rfl) (by kernel_rfl) rfl ?_
      refine s_one (.bool false) A107 S89 (g_pick_f (b := (decide (csE v w ≠ 0))) (by kernel_rfl) (decide_eq_false (by omega)) (by kernel_rfl)) rfl (fun ac A108 => ?_)
      refine s_one (.bool false) A108 S89 (g_pick_f (b := false) (by kernel_rfl) rfl (by kernel_rfl)) rfl (fun ac A109 => ?_)
      refine wpList_nil ?_
      refine n_then ?_
      refine c_f (b := false) A109 (by kernel_rfl) rfl ?_
      refine wp_skip ?_
      refine n_then ?_
      refine wp_seq ?_
      refine wp_seq ?_
      refine wp_region_lit ?_
      refine s_one (.int .i64 (bsE a b v w)) A109 S89 (g_move (by kernel_rfl)) rfl (fun ac A110 => ?_)
      refine s_one (.bool (decide (bsE a b v w ≠ 0))) A110 S89 (g_bin (u := .int .i64 (bsE a b v w)) (k := .int .i64 0) (by kernel_rfl) (by kernel_rfl) (fun _ => by kernel_rfl) b_neq) rfl (fun ac A111 => ?_)
      refine wpList_nil ?_
      refine n_then ?_
      refine c_ifb (b := (decide (bsE a b v w ≠ 0))) A111 (by kernel_rfl) (fun h112 => ?_) (fun h112 => ?_)
      · have p113 := of_decide_eq_true h112
        have zbn := of_decide_eq_true h112
        have bn := bs_not ze zbn
        refine wp_seq ?_
        refine wp_region_lit ?_
        refine s_one (.int .i64 (bsE a b v w)) A111 S89 (g_move (by kernel_rfl)) rfl (fun ac A114 => ?_)
        refine s_one (.bool (decide (bsE a b v w = 12))) A114 S89 (g_bin (u := .int .i64 (bsE a b v w)) (k := .int .i64 12) (by kernel_rfl) (by kernel_rfl) (fun _ => by kernel_rfl) b_eql) rfl (fun ac A115 => ?_)
        refine s_one (.bool (decide (bsE a b v w = 12))) A115 S89 (g_move (by kernel_rfl)) rfl (fun ac A116 => ?_)
        refine by_bool (decide (bsE a b v w = 12)) (fun h117 => ?_) (fun h117 => ?_)
        · have p118 := of_decide_eq_true h117
          have pf := bn.1 (of_decide_eq_true h117)
          refine s_want (dj := 89) (b := (decide (bsE a b v w = 12))) A116 (by kernel_rfl) (by kernel_rfl) h117 ?_
          refine s_one (.bool (zb (psE a b v w) (psB a b v w))) A116 S89 (g_move (by kernel_rfl)) rfl (fun ac A119 => ?_)
          refine s_want (dj := 89) (b := (decide (bsE a b v w = 12))) A119 (by kernel_rfl) (by kernel_rfl) h117 ?_
          refine s_one (.bool (!(zb (psE a b v w) (psB a b v w)))) A119 S89 (g_un (u := .bool (zb (psE a b v w) (psB a b v w))) (by kernel_rfl) (fun _ => by kernel_rfl)) rfl (fun ac A120 => ?_)
          refine s_one (.bool (!(zb (psE a b v w) (psB a b v w)))) A120 S89 (g_pick_t (b := (decide (bsE a b v w = 12))) (by kernel_rfl) h117 (by kernel_rfl)) rfl (fun ac A121 => ?_)
          refine s_one (.bool (!(zb (psE a b v w) (psB a b v w)))) A121 S89 (g_move (by kernel_rfl)) rfl (fun ac A122 => ?_)
          refine s_not (dj := 93) (b := (!(zb (psE a b v w) (psB a b v w)))) A122 (by kernel_rfl) (by kernel_rfl) (b_nf ((zb_0 ze _).trans pf)) rfl (fun ac A123 => ?_)
          refine s_not (dj := 93) (b := (!(zb (psE a b v w) (psB a b v w)))) A123 (by kernel_rfl) (by kernel_rfl) (b_nf ((zb_0 ze _).trans pf)) rfl (fun ac A124 => ?_)
          refine s_not (dj := 93) (b := (!(zb (psE a b v w) (psB a b v w)))) A124 (by kernel_rfl) (by kernel_rfl) (b_nf ((zb_0 ze _).trans pf)) rfl (fun ac A125 => ?_)
          refine s_notU (dj := 96) A125 (by kernel_rfl) (by kernel_rfl) rfl (fun ac A126 => ?_)
          refine s_not (dj := 93) (b := (!(zb (psE a b v w) (psB a b v w)))) A126 (by kernel_rfl) (by kernel_rfl) (b_nf ((zb_0 ze _).trans pf)) rfl (fun ac A127 => ?_)
          refine s_one (.bool true) A127 S89 (g_pick_t (b := (!(zb (psE a b v w) (psB a b v w)))) (by kernel_rfl) (b_nf ((zb_0 ze _).trans pf)) (by kernel_rfl)) rfl (fun ac A128 => ?_)
          refine s_one (.bool true) A128 S89 (g_assign (by kernel_rfl)) rfl (fun ac A129 => ?_)
          refine wpList_nil ?_
          refine n_then ?_
          refine wp_ret ?_
          refine r_then ?_
          refine fin1 (.bool true) Try.results16 A129 S89 (rv_tmp (by kernel_rfl)) ⟨?_, S89.kp⟩
          rfl
        · have p130 := of_decide_eq_false h117
          have pt2 := bn.2 (of_decide_eq_false h117)
          refine s_not (dj := 89) (b := (decide (bsE a b v w = 12))) A116 (by kernel_rfl) (by kernel_rfl) h117 rfl (fun ac A131 => ?_)
          refine s_not (dj := 89) (b := (decide (bsE a b v w = 12))) A131 (by kernel_rfl) (by kernel_rfl) h117 rfl (fun ac A132 => ?_)
          refine s_one (.bool false) A132 S89 (g_pick_f (b := (decide (bsE a b v w = 12))) (by kernel_rfl) h117 (by kernel_rfl)) rfl (fun ac A133 => ?_)
          refine s_one (.bool false) A133 S89 (g_move (by kernel_rfl)) rfl (fun ac A134 => ?_)
          refine s_want (dj := 93) (b := false) A134 (by kernel_rfl) (by kernel_rfl) rfl ?_
          refine s_one (.int .i64 (bsE a b v w)) A134 S89 (g_move (by kernel_rfl)) rfl (fun ac A135 => ?_)
          refine s_want (dj := 93) (b := false) A135 (by kernel_rfl) (by kernel_rfl) rfl ?_
          refine s_one (.bool (decide (bsE a b v w = 8))) A135 S89 (g_bin (u := .int .i64 (bsE a b v w)) (k := .int .i64 8) (by kernel_rfl) (by kernel_rfl) (fun _ => by kernel_rfl) b_eql) rfl (fun ac A136 => ?_)
          refine s_want (dj := 93) (b := false) A136 (by kernel_rfl) (by kernel_rfl) rfl ?_
          refine s_one (.bool (decide (bsE a b v w = 8))) A136 S89 (g_move (by kernel_rfl)) rfl (fun ac A137 => ?_)
          refine s_want (dj := 96) (b := (decide (bsE a b v w = 8))) A137 (by kernel_rfl) (by kernel_rfl) (decide_eq_true pt2.2) ?_
          refine s_one (.bool (zb (psE a b v w) (psB a b v w))) A137 S89 (g_move (by kernel_rfl)) rfl (fun ac A138 => ?_)
          refine s_want (dj := 93) (b := false) A138 (by kernel_rfl) (by kernel_rfl) rfl ?_
          refine s_one (.bool (zb (psE a b v w) (psB a b v w))) A138 S89 (g_pick_t (b := (decide (bsE a b v w = 8))) (by kernel_rfl) (decide_eq_true pt2.2) (by kernel_rfl)) rfl (fun ac A139 => ?_)
          refine s_one (.bool (zb (psE a b v w) (psB a b v w))) A139 S89 (g_pick_f (b := false) (by kernel_rfl) rfl (by kernel_rfl)) rfl (fun ac A140 => ?_)
          refine s_one (.bool (zb (psE a b v w) (psB a b v w))) A140 S89 (g_assign (by kernel_rfl)) rfl (fun ac A141 => ?_)
          refine wpList_nil ?_
          refine n_then ?_
          refine wp_ret ?_
          refine r_then ?_
          refine fin1 (.bool (zb (psE a b v w) (psB a b v w))) Try.results16 A141 S89 (rv_tmp (by kernel_rfl)) ⟨?_, S89.kp⟩
          exact congrArg (fun b => Ending.returned (Value.bool b)) ((zb_0 ze _).trans pt2.1)
      · have p142 := of_decide_eq_false h112
        have zb0 : bsE a b v w = 0 := by simpa using h112
        have pl := bsE_0 zb0
        have lg := bsL_no pl.2.2
        have bb := bs_bd ze
        have ble := bs_le ze pl.2.1
        have m1 := mul_pb (x := bsN a b v w) (y := v) (A := 1000000000) (B := 10000) (by omega) (by omega)
        have m2 := mul_pb (x := bsD a b v w) (y := w) (A := 1000000000) (B := 10000) (by omega) (by omega)
        have m3 := mul_p1 (x := bsD a b v w) (y := w) (by omega) (by omega)
        have AZ3 := A111
        simp only [zv_0 zb0] at AZ3
        have SZ3 := S89
        simp only [zv_0 zb0] at SZ3
        refine wp_skip ?_
        refine n_then ?_
        refine wp_seq ?_
        refine wp_seq ?_
        refine wp_region_lit ?_
        refine s_one (.bool (zb (psE a b v w) (psB a b v w))) AZ3 SZ3 (g_move (by kernel_rfl)) rfl (fun ac A143 => ?_)
        refine s_one (.bool (!(zb (psE a b v w) (psB a b v w)))) A143 SZ3 (g_un (u := .bool (zb (psE a b v w) (psB a b v w))) (by kernel_rfl) (fun _ => by kernel_rfl)) rfl (fun ac A144 => ?_)
        refine s_one (.bool (!(zb (psE a b v w) (psB a b v w)))) A144 SZ3 (g_move (by kernel_rfl)) rfl (fun ac A145 => ?_)
        refine s_want (dj := 102) (b := (!(zb (psE a b v w) (psB a b v w)))) A145 (by kernel_rfl) (by kernel_rfl) (b_nt ((zb_0 ze _).trans pl.2.1)) ?_
        refine s_one (.pointer (some ⟨g55, 0, none⟩)) A145 SZ3 (g_field (u := .pointer (some ⟨g55, 0, none⟩)) (by kernel_rfl) (fun _ => by kernel_rfl)) rfl (fun ac A146 => ?_)
        refine s_want (dj := 102) (b := (!(zb (psE a b v w) (psB a b v w)))) A146 (by kernel_rfl) (by kernel_rfl) (b_nt ((zb_0 ze _).trans pl.2.1)) ?_
        refine s_one (.int .i64 (bsN a b v w)) A146 SZ3 (g_load (g := g55) (off := 0) 0 (by kernel_rfl) rfl (by kernel_rfl)) rfl (fun ac A147 => ?_)
        refine s_want (dj := 102) (b := (!(zb (psE a b v w) (psB a b v w)))) A147 (by kernel_rfl) (by kernel_rfl) (b_nt ((zb_0 ze _).trans pl.2.1)) ?_
        refine s_one (.pointer (some ⟨g55, 1, none⟩)) A147 SZ3 (g_field (u := .pointer (some ⟨g55, 0, none⟩)) (by kernel_rfl) (fun _ => by kernel_rfl)) rfl (fun ac A148 => ?_)
        refine s_want (dj := 102) (b := (!(zb (psE a b v w) (psB a b v w)))) A148 (by kernel_rfl) (by kernel_rfl) (b_nt ((zb_0 ze _).trans pl.2.1)) ?_
        refine s_one (.int .i64 (bsD a b v w)) A148 SZ3 (g_load (g := g55) (off := 1) 0 (by kernel_rfl) rfl (by kernel_rfl)) rfl (fun ac A149 => ?_)
        refine s_want (dj := 102) (b := (!(zb (psE a b v w) (psB a b v w)))) A149 (by kernel_rfl) (by kernel_rfl) (b_nt ((zb_0 ze _).trans pl.2.1)) ?_
        refine s_call (fs := #[]) (cp := #[]) (r := [(0, .int .i64 (bsN a b v w)), (0, .int .i64 0), (0, .int .i64 (bsD a b v w))]) #[.int .i64 (bsN a b v w), .int .i64 0, .int .i64 (bsD a b v w)] (.bool (inB (bsN a b v w) 0 (bsD a b v w))) A149 SZ3 (Within_s (bsN a b v w) 0 (bsD a b v w) _) Try.call26 (by kernel_rfl) (by kernel_rfl) (by kernel_rfl) rfl (fun ac wc A150 S151 => ?_)
        refine s_want (dj := 102) (b := (!(zb (psE a b v w) (psB a b v w)))) A150 (by kernel_rfl) (by kernel_rfl) (b_nt ((zb_0 ze _).trans pl.2.1)) ?_
        refine s_one (.bool (!(inB (bsN a b v w) 0 (bsD a b v w)))) A150 S151 (g_un (u := .bool (inB (bsN a b v w) 0 (bsD a b v w))) (by kernel_rfl) (fun _ => by kernel_rfl)) rfl (fun ac A153 => ?_)
        refine s_one (.bool (!(inB (bsN a b v w) 0 (bsD a b v w)))) A153 S151 (g_pick_f (b := (!(zb (psE a b v w) (psB a b v w)))) (by kernel_rfl) (b_nt ((zb_0 ze _).trans pl.2.1)) (by kernel_rfl)) rfl (fun ac A154 => ?_)
        refine s_one (.bool (!(inB (bsN a b v w) 0 (bsD a b v w)))) A154 S151 (g_move (by kernel_rfl)) rfl (fun ac A155 => ?_)
        refine s_want (dj := 110) (b := (!(inB (bsN a b v w) 0 (bsD a b v w)))) A155 (by kernel_rfl) (by kernel_rfl) (b_nt (inB_true.2 (by omega))) ?_
        refine s_one (.pointer (some ⟨g55, 1, none⟩)) A155 S151 (g_field (u := .pointer (some ⟨g55, 0, none⟩)) (by kernel_rfl) (fun _ => by kernel_rfl)) rfl (fun ac A156 => ?_)
        refine s_want (dj := 110) (b := (!(inB (bsN a b v w) 0 (bsD a b v w)))) A156 (by kernel_rfl) (by kernel_rfl) (b_nt (inB_true.2 (by omega))) ?_
        refine s_one (.int .i64 (bsD a b v w)) A156 S151 (g_load (g := g55) (off := 1) 0 (by kernel_rfl) rfl (by kernel_rfl)) rfl (fun ac A157 => ?_)
        refine s_want (dj := 110) (b := (!(inB (bsN a b v w) 0 (bsD a b v w)))) A157 (by kernel_rfl) (by kernel_rfl) (b_nt (inB_true.2 (by omega))) ?_
        refine s_call (fs := #[]) (cp := #[]) (r := [(0, .int .i64 (bsD a b v w)), (0, .int .i64 1), (0, .int .i64 1000000000)]) #[.int .i64 (bsD a b v w), .int .i64 1, .int .i64 1000000000] (.bool (inB (bsD a b v w) 1 1000000000)) A157 S151 (Within_s (bsD a b v w) 1 1000000000 _) Try.call26 (by kernel_rfl) (by kernel_rfl) (by kernel_rfl) rfl (fun ac wc A158 S159 => ?_)
        refine s_want (dj := 110) (b := (!(inB (bsN a b v w) 0 (bsD a b v w)))) A158 (by kernel_rfl) (by kernel_rfl) (b_nt (inB_true.2 (by omega))) ?_
        refine s_one (.bool (!(inB (bsD a b v w) 1 1000000000))) A158 S159 (g_un (u := .bool (inB (bsD a b v w) 1 1000000000)) (by kernel_rfl) (fun _ => by kernel_rfl)) rfl (fun ac A161 => ?_)
        refine s_one (.bool (!(inB (bsD a b v w) 1 1000000000))) A161 S159 (g_pick_f (b := (!(inB (bsN a b v w) 0 (bsD a b v w)))) (by kernel_rfl) (b_nt (inB_true.2 (by omega))) (by kernel_rfl)) rfl (fun ac A162 => ?_)
        refine wpList_nil ?_
        refine n_then ?_
        refine c_f (b := (!(inB (bsD a b v w) 1 1000000000))) A162 (by kernel_rfl) (b_nt (inB_true.2 (by omega))) ?_
        refine wp_skip ?_
        refine n_then ?_
        refine wp_seq ?_
        refine wp_region_lit ?_
        refine s_one (.pointer (some ⟨g55, 0, none⟩)) A162 S159 (g_field (u := .pointer (some ⟨g55, 0, none⟩)) (by kernel_rfl) (fun _ => by kernel_rfl)) rfl (fun ac A163 => ?_)
        refine s_one (.int .i64 (bsN a b v w)) A163 S159 (g_load (g := g55) (off := 0) 0 (by kernel_rfl) rfl (by kernel_rfl)) rfl (fun ac A164 => ?_)
        refine s_one (.int .i64 v) A164 S159 (g_move (by kernel_rfl)) rfl (fun ac A165 => ?_)
        refine s_one (.int .i64 ((bsN a b v w) * v)) A165 S159 (g_bin (u := .int .i64 (bsN a b v w)) (k := .int .i64 v) (by kernel_rfl) (by kernel_rfl) (fun _ => by kernel_rfl) (b_mul (by omega))) rfl (fun ac A166 => ?_)
        refine s_one (.pointer (some ⟨g55, 1, none⟩)) A166 S159 (g_field (u := .pointer (some ⟨g55, 0, none⟩)) (by kernel_rfl) (fun _ => by kernel_rfl)) rfl (fun ac A167 => ?_)
        refine s_one (.int .i64 (bsD a b v w)) A167 S159 (g_load (g := g55) (off := 1) 0 (by kernel_rfl) rfl (by kernel_rfl)) rfl (fun ac A168 => ?_)
        refine s_one (.int .i64 w) A168 S159 (g_move (by kernel_rfl)) rfl (fun ac A169 => ?_)
        refine s_one (.int .i64 ((bsD a b v w) * w)) A169 S159 (g_bin (u := .int .i64 (bsD a b v w)) (k := .int .i64 w) (by kernel_rfl) (by kernel_rfl) (fun _ => by kernel_rfl) (b_mul (by omega))) rfl (fun ac A170 => ?_)
        refine s_one (.pointer (some ⟨g3, 0, none⟩)) A170 S159 (g_index (u := .pointer (some ⟨g3, 0, none⟩)) (k := .int .i64 0) (by kernel_rfl) (by kernel_rfl) (fun _ => by kernel_rfl)) rfl (fun ac A171 => ?_)
        refine s_one (.int .i64 a) A171 S159 (g_load (g := g3) (off := 0) 2 (by kernel_rfl) rfl (by kernel_rfl)) rfl (fun ac A172 => ?_)
        refine s_one (.pointer (some ⟨g3, 0, none⟩)) A172 S159 (g_index (u := .pointer (some ⟨g3, 0, none⟩)) (k := .int .i64 0) (by kernel_rfl) (by kernel_rfl) (fun _ => by kernel_rfl)) rfl (fun ac A173 => ?_)
        refine s_one (.int .i64 a) A173 S159 (g_load (g := g3) (off := 0) 2 (by kernel_rfl) rfl (by kernel_rfl)) rfl (fun ac A174 => ?_)
        refine s_one (.int .i64 (a * a)) A174 S159 (g_bin (u := .int .i64 a) (k := .int .i64 a) (by kernel_rfl) (by kernel_rfl) (fun _ => by kernel_rfl) (b_mul (by omega))) rfl (fun ac A175 => ?_)
        refine s_one (.int .i64 w) A175 S159 (g_move (by kernel_rfl)) rfl (fun ac A176 => ?_)
        refine s_one (.int .i64 ((a * a) * w)) A176 S159 (g_bin (u := .int .i64 (a * a)) (k := .int .i64 w) (by kernel_rfl) (by kernel_rfl) (fun _ => by kernel_rfl) (b_mul (by omega))) rfl (fun ac A177 => ?_)
        refine s_one (.int .i64 (a * a + (b * b))) A177 S159 (g_move (by kernel_rfl)) rfl (fun ac A178 => ?_)
        refine s_one (.int .i64 v) A178 S159 (g_move (by kernel_rfl)) rfl (fun ac A179 => ?_)
        refine s_one (.int .i64 ((a * a + (b * b)) * v)) A179 S159 (g_bin (u := .int .i64 (a * a + (b * b))) (k := .int .i64 v) (by kernel_rfl) (by kernel_rfl) (fun _ => by kernel_rfl) (b_mul (by omega))) rfl (fun ac A180 => ?_)
        refine s_call (fs := #[]) (cp := #[]) (r := [(0, .int .i64 ((bsN a b v w) * v)), (0, .int .i64 ((bsD a b v w) * w)), (0, .int .i64 ((a * a) * w)), (0, .int .i64 ((a * a + (b * b)) * v))]) #[.int .i64 ((bsN a b v w) * v), .int .i64 ((bsD a b v w) * w), .int .i64 ((a * a) * w), .int .i64 ((a * a + (b * b)) * v)] (.int .i64 (cmpI ((bsN a b v w) * v) ((bsD a b v w) * w) ((a * a) * w) ((a * a + (b * b)) * v))) A180 S159 (Compare_s ((bsN a b v w) * v) ((bsD a b v w) * w) ((a * a) * w) ((a * a + (b * b)) * v) _ (by omega) (by omega) (by omega) (by omega)) Try.call71 (by kernel_rfl) (by kernel_rfl) (by kernel_rfl) rfl (fun ac wc A181 S182 => ?_)
        refine s_one (.bool (decide (cmpI ((bsN a b v w) * v) ((bsD a b v w) * w) ((a * a) * w) ((a * a + (b * b)) * v) = 0))) A181 S182 (g_bin (u := .int .i64 (cmpI ((bsN a b v w) * v) ((bsD a b v w) * w) ((a * a) * w) ((a * a + (b * b)) * v))) (k := .int .i64 0) (by kernel_rfl) (by kernel_rfl) (fun _ => by kernel_rfl) b_eql) rfl (fun ac A184 => ?_)
        refine s_one (.bool (decide (cmpI ((bsN a b v w) * v) ((bsD a b v w) * w) ((a * a) * w) ((a * a + (b * b)) * v) = 0))) A184 S182 (g_assign (by kernel_rfl)) rfl (fun ac A185 => ?_)
        refine wpList_nil ?_
        refine n_then ?_
        refine wp_ret ?_
        refine fin1 (.bool (decide (cmpI ((bsN a b v w) * v) ((bsD a b v w) * w) ((a * a) * w) ((a * a + (b * b)) * v) = 0))) Try.results16 A185 S182 (rv_tmp (by kernel_rfl)) ⟨?_, S182.kp⟩
        exact congrArg (fun b => Ending.returned (Value.bool b)) (decide_eq_true (by first | assumption | rfl | omega | exact snell_2))
    · have p186 := of_decide_eq_false h75
      have zc := cs_ge zz.2.1 zz.2.2 (of_decide_eq_false h75)
      have pt := snell_ge ze zc.2
      refine s_not (dj := 53) (b := (decide (csE v w = 0))) A74 (by kernel_rfl) (by kernel_rfl) h75 rfl (fun ac A187 => ?_)
      refine s_not (dj := 53) (b := (decide (csE v w = 0))) A187 (by kernel_rfl) (by kernel_rfl) h75 rfl (fun ac A188 => ?_)
      refine s_not (dj := 53) (b := (decide (csE v w = 0))) A188 (by kernel_rfl) (by kernel_rfl) h75 rfl (fun ac A189 => ?_)
      refine s_not (dj := 53) (b := (decide (csE v w = 0))) A189 (by kernel_rfl) (by kernel_rfl) h75 rfl (fun ac A190 => ?_)
      refine s_not (dj := 53) (b := (decide (csE v w = 0))) A190 (by kernel_rfl) (by kernel_rfl) h75 rfl (fun ac A191 => ?_)
      refine s_not (dj := 53) (b := (decide (csE v w = 0))) A191 (by kernel_rfl) (by kernel_rfl) h75 rfl (fun ac A192 => ?_)
      refine s_not (dj := 53) (b := (decide (csE v w = 0))) A192 (by kernel_rfl) (by kernel_rfl) h75 rfl (fun ac A193 => ?_)
      refine s_not (dj := 53) (b := (decide (csE v w = 0))) A193 (by kernel_rfl) (by kernel_rfl) h75 rfl (fun ac A194 => ?_)
      refine s_not (dj := 53) (b := (decide (csE v w = 0))) A194 (by kernel_rfl) (by kernel_rfl) h75 rfl (fun ac A195 => ?_)
      refine s_not (dj := 53) (b := (decide (csE v w = 0))) A195 (by kernel_rfl) (by kernel_rfl) h75 rfl (fun ac A196 => ?_)
      refine s_not (dj := 53) (b := (decide (csE v w = 0))) A196 (by kernel_rfl) (by kernel_rfl) h75 rfl (fun ac A197 => ?_)
      refine s_not (dj := 53) (b := (decide (csE v w = 0))) A197 (by kernel_rfl) (by kernel_rfl) h75 rfl (fun ac A198 => ?_)
      refine s_not (dj := 53) (b := (decide (csE v w = 0))) A198 (by kernel_rfl) (by kernel_rfl) h75 rfl (fun ac A199 => ?_)
      refine s_not (dj := 53) (b := (decide (csE v w = 0))) A199 (by kernel_rfl) (by kernel_rfl) h75 rfl (fun ac A200 => ?_)
      refine s_one (.bool false) A200 S57 (g_pick_f (b := (decide (csE v w = 0))) (by kernel_rfl) h75 (by kernel_rfl)) rfl (fun ac A201 => ?_)
      refine s_one (.bool false) A201 S57 (g_move (by kernel_rfl)) rfl (fun ac A202 => ?_)
      refine s_want (dj := 69) (b := false) A202 (by kernel_rfl) (by kernel_rfl) rfl ?_
      refine s_one (.int .i64 (csE v w)) A202 S57 (g_move (by kernel_rfl)) rfl (fun ac A203 => ?_)
      refine s_want (dj := 69) (b := false) A203 (by kernel_rfl) (by kernel_rfl) rfl ?_
      refine s_one (.bool (decide (csE v w = 12))) A203 S57 (g_bin (u := .int .i64 (csE v w)) (k := .int .i64 12) (by kernel_rfl) (by kernel_rfl) (fun _ => by kernel_rfl) b_eql) rfl (fun ac A204 => ?_)
      refine s_want (dj := 69) (b := false) A204 (by kernel_rfl) (by kernel_rfl) rfl ?_
      refine s_one (.bool (decide (csE v w = 12))) A204 S57 (g_move (by kernel_rfl)) rfl (fun ac A205 => ?_)
      refine s_want (dj := 72) (b := (decide (csE v w = 12))) A205 (by kernel_rfl) (by kernel_rfl) (decide_eq_true (by omega)) ?_
      refine s_one (.bool (zb (psE a b v w) (psB a b v w))) A205 S57 (g_move (by kernel_rfl)) rfl (fun ac A206 => ?_)
      refine s_want (dj := 72) (b := (decide (csE v w = 12))) A206 (by kernel_rfl) (by kernel_rfl) (decide_eq_true (by omega)) ?_
      refine s_one (.bool (!(zb (psE a b v w) (psB a b v w)))) A206 S57 (g_un (u := .bool (zb (psE a b v w) (psB a b v w))) (by kernel_rfl) (fun _ => by kernel_rfl)) rfl (fun ac A207 => ?_)
      refine s_want (dj := 69) (b := false) A207 (by kernel_rfl) (by kernel_rfl) rfl ?_
      refine s_one (.bool (!(zb (psE a b v w) (psB a b v w)))) A207 S57 (g_pick_t (b := (decide (csE v w = 12))) (by kernel_rfl) (decide_eq_true (by omega)) (by kernel_rfl)) rfl (fun ac A208 => ?_)
      refine s_one (.bool (!(zb (psE a b v w) (psB a b v w)))) A208 S57 (g_pick_f (b := false) (by kernel_rfl) rfl (by kernel_rfl)) rfl (fun ac A209 => ?_)
      refine s_one (.bool (!(zb (psE a b v w) (psB a b v w)))) A209 S57 (g_move (by kernel_rfl)) rfl (fun ac A210 => ?_)
      refine s_want (dj := 77) (b := (!(zb (psE a b v w) (psB a b v w)))) A210 (by kernel_rfl) (by kernel_rfl) (b_nt ((zb_0 ze _).trans pt)) ?_
      refine s_one (.int .i64 (csE v w)) A210 S57 (g_move (by kernel_rfl)) rfl (fun ac A211 => ?_)
      refine s_want (dj := 77) (b := (!(zb (psE a b v w) (psB a b v w)))) A211 (by kernel_rfl) (by kernel_rfl) (b_nt ((zb_0 ze _).trans pt)) ?_
      refine s_one (.bool (decide (csE v w ≠ 0))) A211 S57 (g_bin (u := .int .i64 (csE v w)) (k := .int .i64 0) (by kernel_rfl) (by kernel_rfl) (fun _ => by kernel_rfl) b_neq) rfl (fun ac A212 => ?_)
      refine s_want (dj := 77) (b := (!(zb (psE a b v w) (psB a b v w)))) A212 (by kernel_rfl) (by kernel_rfl) (b_nt ((zb_0 ze _).trans pt)) ?_
      refine s_one (.bool (decide (csE v w ≠ 0))) A212 S57 (g_move (by kernel_rfl)) rfl (fun ac A213 => ?_)
      refine s_want (dj := 80) (b := (decide (csE v w ≠ 0))) A213 (by kernel_rfl) (by kernel_rfl) (decide_eq_true (by omega)) ?_
      refine s_one (.int .i64 (csE v w)) A213 S57 (g_move (by kernel_rfl)) rfl (fun ac A214 => ?_)
      refine s_want (dj := 80) (b := (decide (csE v w ≠ 0))) A214 (by kernel_rfl) (by kernel_rfl) (decide_eq_true (by omega)) ?_
      refine s_one (.bool (decide (csE v w ≠ 12))) A214 S57 (g_bin (u := .int .i64 (csE v w)) (k := .int .i64 12) (by kernel_rfl) (by kernel_rfl) (fun _ => by kernel_rfl) b_neq) rfl (fun ac A215 => ?_)
      refine s_want (dj := 77) (b := (!(zb (psE a b v w) (psB a b v w)))) A215 (by kernel_rfl) (by kernel_rfl) (b_nt ((zb_0 ze _).trans pt)) ?_
      refine s_one (.bool (decide (csE v w ≠ 12))) A215 S57 (g_pick_t (b := (decide (csE v w ≠ 0))) (by kernel_rfl) (decide_eq_true (by omega)) (by kernel_rfl)) rfl (fun ac A216 => ?_)
      refine s_one (.bool (decide (csE v w ≠ 12))) A216 S57 (g_pick_f (b := (!(zb (psE a b v w) (psB a b v w)))) (by kernel_rfl) (b_nt ((zb_0 ze _).trans pt)) (by kernel_rfl)) rfl (fun ac A217 => ?_)
      refine wpList_nil ?_
      refine n_then ?_
      refine c_f (b := (decide (csE v w ≠ 12))) A217 (by kernel_rfl) (decide_eq_false (by omega)) ?_
      refine wp_skip ?_
      refine n_then ?_
      refine wp_seq ?_
      refine wp_seq ?_
      refine wp_region_lit ?_
      refine s_one (.int .i64 (bsE a b v w)) A217 S57 (g_move (by kernel_rfl)) rfl (fun ac A218 => ?_)
      refine s_one (.bool (decide (bsE a b v w ≠ 0))) A218 S57 (g_bin (u := .int .i64 (bsE a b v w)) (k := .int .i64 0) (by kernel_rfl) (by kernel_rfl) (fun _ => by kernel_rfl) b_neq) rfl (fun ac A219 => ?_)
      refine wpList_nil ?_
      refine n_then ?_
      refine c_ifb (b := (decide (bsE a b v w ≠ 0))) A219 (by kernel_rfl) (fun h220 => ?_) (fun h220 => ?_)
      · have p221 := of_decide_eq_true h220
        have zbn := of_decide_eq_true h220
        have bn := bs_not ze zbn
        refine wp_seq ?_
        refine wp_region_lit ?_
        refine s_one (.int .i64 (bsE a b v w)) A219 S57 (g_move (by kernel_rfl)) rfl (fun ac A222 => ?_)
        refine s_one (.bool (decide (bsE a b v w = 12))) A222 S57 (g_bin (u := .int .i64 (bsE a b v w)) (k := .int .i64 12) (by kernel_rfl) (by kernel_rfl) (fun _ => by kernel_rfl) b_eql) rfl (fun ac A223 => ?_)
        refine s_one (.bool (decide (bsE a b v w = 12))) A223 S57 (g_move (by kernel_rfl)) rfl (fun ac A224 => ?_)
        refine by_bool (decide (bsE a b v w = 12)) (fun h225 => ?_) (fun h225 => ?_)
        · have p226 := of_decide_eq_true h225
          have pf := bn.1 (of_decide_eq_true h225)
          refine s_want (dj := 89) (b := (decide (bsE a b v w = 12))) A224 (by kernel_rfl) (by kernel_rfl) h225 ?_
          refine s_one (.bool (zb (psE a b v w) (psB a b v w))) A224 S57 (g_move (by kernel_rfl)) rfl (fun ac A227 => ?_)
          refine s_want (dj := 89) (b := (decide (bsE a b v w = 12))) A227 (by kernel_rfl) (by kernel_rfl) h225 ?_
          refine s_one (.bool (!(zb (psE a b v w) (psB a b v w)))) A227 S57 (g_un (u := .bool (zb (psE a b v w) (psB a b v w))) (by kernel_rfl) (fun _ => by kernel_rfl)) rfl (fun ac A228 => ?_)
          refine s_one (.bool (!(zb (psE a b v w) (psB a b v w)))) A228 S57 (g_pick_t (b := (decide (bsE a b v w = 12))) (by kernel_rfl) h225 (by kernel_rfl)) rfl (fun ac A229 => ?_)
          refine s_one (.bool (!(zb (psE a b v w) (psB a b v w)))) A229 S57 (g_move (by kernel_rfl)) rfl (fun ac A230 => ?_)
          refine s_not (dj := 93) (b := (!(zb (psE a b v w) (psB a b v w)))) A230 (by kernel_rfl) (by kernel_rfl) (b_nf ((zb_0 ze _).trans pf)) rfl (fun ac A231 => ?_)
          refine s_not (dj := 93) (b := (!(zb (psE a b v w) (psB a b v w)))) A231 (by kernel_rfl) (by kernel_rfl) (b_nf ((zb_0 ze _).trans pf)) rfl (fun ac A232 => ?_)
          refine s_not (dj := 93) (b := (!(zb (psE a b v w) (psB a b v w)))) A232 (by kernel_rfl) (by kernel_rfl) (b_nf ((zb_0 ze _).trans pf)) rfl (fun ac A233 => ?_)
          refine s_notU (dj := 96) A233 (by kernel_rfl) (by kernel_rfl) rfl (fun ac A234 => ?_)
          refine s_not (dj := 93) (b := (!(zb (psE a b v w) (psB a b v w)))) A234 (by kernel_rfl) (by kernel_rfl) (b_nf ((zb_0 ze _).trans pf)) rfl (fun ac A235 => ?_)
          refine s_one (.bool true) A235 S57 (g_pick_t (b := (!(zb (psE a b v w) (psB a b v w)))) (by kernel_rfl) (b_nf ((zb_0 ze _).trans pf)) (by kernel_rfl)) rfl (fun ac A236 => ?_)
          refine s_one (.bool true) A236 S57 (g_assign (by kernel_rfl)) rfl (fun ac A237 => ?_)
          refine wpList_nil ?_
          refine n_then ?_
          refine wp_ret ?_
          refine r_then ?_
          refine fin1 (.bool true) Try.results16 A237 S57 (rv_tmp (by kernel_rfl)) ⟨?_, S57.kp⟩
          rfl
        · have p238 := of_decide_eq_false h225
          have pt2 := bn.2 (of_decide_eq_false h225)
          refine s_not (dj := 89) (b := (decide (bsE a b v w = 12))) A224 (by kernel_rfl) (by kernel_rfl) h225 rfl (fun ac A239 => ?_)
          refine s_not (dj := 89) (b := (decide (bsE a b v w = 12))) A239 (by kernel_rfl) (by kernel_rfl) h225 rfl (fun ac A240 => ?_)
          refine s_one (.bool false) A240 S57 (g_pick_f (b := (decide (bsE a b v w = 12))) (by kernel_rfl) h225 (by kernel_rfl)) rfl (fun ac A241 => ?_)
          refine s_one (.bool false) A241 S57 (g_move (by kernel_rfl)) rfl (fun ac A242 => ?_)
          refine s_want (dj := 93) (b := false) A242 (by kernel_rfl) (by kernel_rfl) rfl ?_
          refine s_one (.int .i64 (bsE a b v w)) A242 S57 (g_move (by kernel_rfl)) rfl (fun ac A243 => ?_)
          refine s_want (dj := 93) (b := false) A243 (by kernel_rfl) (by kernel_rfl) rfl ?_
          refine s_one (.bool (decide (bsE a b v w = 8))) A243 S57 (g_bin (u := .int .i64 (bsE a b v w)) (k := .int .i64 8) (by kernel_rfl) (by kernel_rfl) (fun _ => by kernel_rfl) b_eql) rfl (fun ac A244 => ?_)
          refine s_want (dj := 93) (b := false) A244 (by kernel_rfl) (by kernel_rfl) rfl ?_
          refine s_one (.bool (decide (bsE a b v w = 8))) A244 S57 (g_move (by kernel_rfl)) rfl (fun ac A245 => ?_)
          refine s_want (dj := 96) (b := (decide (bsE a b v w = 8))) A245 (by kernel_rfl) (by kernel_rfl) (decide_eq_true pt2.2) ?_
          refine s_one (.bool (zb (psE a b v w) (psB a b v w))) A245 S57 (g_move (by kernel_rfl)) rfl (fun ac A246 => ?_)
          refine s_want (dj := 93) (b := false) A246 (by kernel_rfl) (by kernel_rfl) rfl ?_
          refine s_one (.bool (zb (psE a b v w) (psB a b v w))) A246 S57 (g_pick_t (b := (decide (bsE a b v w = 8))) (by kernel_rfl) (decide_eq_true pt2.2) (by kernel_rfl)) rfl (fun ac A247 => ?_)
          refine s_one (.bool (zb (psE a b v w) (psB a b v w))) A247 S57 (g_pick_f (b := false) (by kernel_rfl) rfl (by kernel_rfl)) rfl (fun ac A248 => ?_)
          refine s_one (.bool (zb (psE a b v w) (psB a b v w))) A248 S57 (g_assign (by kernel_rfl)) rfl (fun ac A249 => ?_)
          refine wpList_nil ?_
          refine n_then ?_
          refine wp_ret ?_
          refine r_then ?_
          refine fin1 (.bool (zb (psE a b v w) (psB a b v w))) Try.results16 A249 S57 (rv_tmp (by kernel_rfl)) ⟨?_, S57.kp⟩
          exact congrArg (fun b => Ending.returned (Value.bool b)) ((zb_0 ze _).trans pt2.1)
      · have p250 := of_decide_eq_false h220
        have zb0 : bsE a b v w = 0 := by simpa using h220
        have pl := bsE_0 zb0
        have lg := bsL_no pl.2.2
        have bb := bs_bd ze
        have ble := bs_le ze pl.2.1
        have m1 := mul_pb (x := bsN a b v w) (y := v) (A := 1000000000) (B := 10000) (by omega) (by omega)
        have m2 := mul_pb (x := bsD a b v w) (y := w) (A := 1000000000) (B := 10000) (by omega) (by omega)
        have m3 := mul_p1 (x := bsD a b v w) (y := w) (by omega) (by omega)
        have AZ4 := A219
        simp only [zv_0 zb0] at AZ4
        have SZ4 := S57
        simp only [zv_0 zb0] at SZ4
        refine wp_skip ?_
        refine n_then ?_
        refine wp_seq ?_
        refine wp_seq ?_
        refine wp_region_lit ?_
        refine s_one (.bool (zb (psE a b v w) (psB a b v w))) AZ4 SZ4 (g_move (by kernel_rfl)) rfl (fun ac A251 => ?_)
        refine s_one (.bool (!(zb (psE a b v w) (psB a b v w)))) A251 SZ4 (g_un (u := .bool (zb (psE a b v w) (psB a b v w))) (by kernel_rfl) (fun _ => by kernel_rfl)) rfl (fun ac A252 => ?_)
        refine s_one (.bool (!(zb (psE a b v w) (psB a b v w)))) A252 SZ4 (g_move (by kernel_rfl)) rfl (fun ac A253 => ?_)
        refine s_want (dj := 102) (b := (!(zb (psE a b v w) (psB a b v w)))) A253 (by kernel_rfl) (by kernel_rfl) (b_nt ((zb_0 ze _).trans pl.2.1)) ?_
        refine s_one (.pointer (some ⟨g55, 0, none⟩)) A253 SZ4 (g_field (u := .pointer (some ⟨g55, 0, none⟩)) (by kernel_rfl) (fun _ => by kernel_rfl)) rfl (fun ac A254 => ?_)
        refine s_want (dj := 102) (b := (!(zb (psE a b v w) (psB a b v w)))) A254 (by kernel_rfl) (by kernel_rfl) (b_nt ((zb_0 ze _).trans pl.2.1)) ?_
        refine s_one (.int .i64 (bsN a b v w)) A254 SZ4 (g_load (g := g55) (off := 0) 0 (by kernel_rfl) rfl (by kernel_rfl)) rfl (fun ac A255 => ?_)
        refine s_want (dj := 102) (b := (!(zb (psE a b v w) (psB a b v w)))) A255 (by kernel_rfl) (by kernel_rfl) (b_nt ((zb_0 ze _).trans pl.2.1)) ?_
        refine s_one (.pointer (some ⟨g55, 1, none⟩)) A255 SZ4 (g_field (u := .pointer (some ⟨g55, 0, none⟩)) (by kernel_rfl) (fun _ => by kernel_rfl)) rfl (fun ac A256 => ?_)
        refine s_want (dj := 102) (b := (!(zb (psE a b v w) (psB a b v w)))) A256 (by kernel_rfl) (by kernel_rfl) (b_nt ((zb_0 ze _).trans pl.2.1)) ?_
        refine s_one (.int .i64 (bsD a b v w)) A256 SZ4 (g_load (g := g55) (off := 1) 0 (by kernel_rfl) rfl (by kernel_rfl)) rfl (fun ac A257 => ?_)
        refine s_want (dj := 102) (b := (!(zb (psE a b v w) (psB a b v w)))) A257 (by kernel_rfl) (by kernel_rfl) (b_nt ((zb_0 ze _).trans pl.2.1)) ?_
        refine s_call (fs := #[]) (cp := #[]) (r := [(0, .int .i64 (bsN a b v w)), (0, .int .i64 0), (0, .int .i64 (bsD a b v w))]) #[.int .i64 (bsN a b v w), .int .i64 0, .int .i64 (bsD a b v w)] (.bool (inB (bsN a b v w) 0 (bsD a b v w))) A257 SZ4 (Within_s (bsN a b v w) 0 (bsD a b v w) _) Try.call26 (by kernel_rfl) (by kernel_rfl) (by kernel_rfl) rfl (fun ac wc A258 S259 => ?_)
        refine s_want (dj := 102) (b := (!(zb (psE a b v w) (psB a b v w)))) A258 (by kernel_rfl) (by kernel_rfl) (b_nt ((zb_0 ze _).trans pl.2.1)) ?_
        refine s_one (.bool (!(inB (bsN a b v w) 0 (bsD a b v w)))) A258 S259 (g_un (u := .bool (inB (bsN a b v w) 0 (bsD a b v w))) (by kernel_rfl) (fun _ => by kernel_rfl)) rfl (fun ac A261 => ?_)
        refine s_one (.bool (!(inB (bsN a b v w) 0 (bsD a b v w)))) A261 S259 (g_pick_f (b := (!(zb (psE a b v w) (psB a b v w)))) (by kernel_rfl) (b_nt ((zb_0 ze _).trans pl.2.1)) (by kernel_rfl)) rfl (fun ac A262 => ?_)
        refine s_one (.bool (!(inB (bsN a b v w) 0 (bsD a b v w)))) A262 S259 (g_move (by kernel_rfl)) rfl (fun ac A263 => ?_)
        refine s_want (dj := 110) (b := (!(inB (bsN a b v w) 0 (bsD a b v w)))) A263 (by kernel_rfl) (by kernel_rfl) (b_nt (inB_true.2 (by omega))) ?_
        refine s_one (.pointer (some ⟨g55, 1, none⟩)) A263 S259 (g_field (u := .pointer (some ⟨g55, 0, none⟩)) (by kernel_rfl) (fun _ => by kernel_rfl)) rfl (fun ac A264 => ?_)
        refine s_want (dj := 110) (b := (!(inB (bsN a b v w) 0 (bsD a b v w)))) A264 (by kernel_rfl) (by kernel_rfl) (b_nt (inB_true.2 (by omega))) ?_
        refine s_one (.int .i64 (bsD a b v w)) A264 S259 (g_load (g := g55) (off := 1) 0 (by kernel_rfl) rfl (by kernel_rfl)) rfl (fun ac A265 => ?_)
        refine s_want (dj := 110) (b := (!(inB (bsN a b v w) 0 (bsD a b v w)))) A265 (by kernel_rfl) (by kernel_rfl) (b_nt (inB_true.2 (by omega))) ?_
        refine s_call (fs := #[]) (cp := #[]) (r := [(0, .int .i64 (bsD a b v w)), (0, .int .i64 1), (0, .int .i64 1000000000)]) #[.int .i64 (bsD a b v w), .int .i64 1, .int .i64 1000000000] (.bool (inB (bsD a b v w) 1 1000000000)) A265 S259 (Within_s (bsD a b v w) 1 1000000000 _) Try.call26 (by kernel_rfl) (by kernel_rfl) (by kernel_rfl) rfl (fun ac wc A266 S267 => ?_)
        refine s_want (dj := 110) (b := (!(inB (bsN a b v w) 0 (bsD a b v w)))) A266 (by kernel_rfl) (by kernel_rfl) (b_nt (inB_true.2 (by omega))) ?_
        refine s_one (.bool (!(inB (bsD a b v w) 1 1000000000))) A266 S267 (g_un (u := .bool (inB (bsD a b v w) 1 1000000000)) (by kernel_rfl) (fun _ => by kernel_rfl)) rfl (fun ac A269 => ?_)
        refine s_one (.bool (!(inB (bsD a b v w) 1 1000000000))) A269 S267 (g_pick_f (b := (!(inB (bsN a b v w) 0 (bsD a b v w)))) (by kernel_rfl) (b_nt (inB_true.2 (by omega))) (by kernel_rfl)) rfl (fun ac A270 => ?_)
        refine wpList_nil ?_
        refine n_then ?_
        refine c_f (b := (!(inB (bsD a b v w) 1 1000000000))) A270 (by kernel_rfl) (b_nt (inB_true.2 (by omega))) ?_
        refine wp_skip ?_
        refine n_then ?_
        refine wp_seq ?_
        refine wp_region_lit ?_
        refine s_one (.pointer (some ⟨g55, 0, none⟩)) A270 S267 (g_field (u := .pointer (some ⟨g55, 0, none⟩)) (by kernel_rfl) (fun _ => by kernel_rfl)) rfl (fun ac A271 => ?_)
        refine s_one (.int .i64 (bsN a b v w)) A271 S267 (g_load (g := g55) (off := 0) 0 (by kernel_rfl) rfl (by kernel_rfl)) rfl (fun ac A272 => ?_)
        refine s_one (.int .i64 v) A272 S267 (g_move (by kernel_rfl)) rfl (fun ac A273 => ?_)
        refine s_one (.int .i64 ((bsN a b v w) * v)) A273 S267 (g_bin (u := .int .i64 (bsN a b v w)) (k := .int .i64 v) (by kernel_rfl) (by kernel_rfl) (fun _ => by kernel_rfl) (b_mul (by omega))) rfl (fun ac A274 => ?_)
        refine s_one (.pointer (some ⟨g55, 1, none⟩)) A274 S267 (g_field (u := .pointer (some ⟨g55, 0, none⟩)) (by kernel_rfl) (fun _ => by kernel_rfl)) rfl (fun ac A275 => ?_)
        refine s_one (.int .i64 (bsD a b v w)) A275 S267 (g_load (g := g55) (off := 1) 0 (by kernel_rfl) rfl (by kernel_rfl)) rfl (fun ac A276 => ?_)
        refine s_one (.int .i64 w) A276 S267 (g_move (by kernel_rfl)) rfl (fun ac A277 => ?_)
        refine s_one (.int .i64 ((bsD a b v w) * w)) A277 S267 (g_bin (u := .int .i64 (bsD a b v w)) (k := .int .i64 w) (by kernel_rfl) (by kernel_rfl) (fun _ => by kernel_rfl) (b_mul (by omega))) rfl (fun ac A278 => ?_)
        refine s_one (.pointer (some ⟨g3, 0, none⟩)) A278 S267 (g_index (u := .pointer (some ⟨g3, 0, none⟩)) (k := .int .i64 0) (by kernel_rfl) (by kernel_rfl) (fun _ => by kernel_rfl)) rfl (fun ac A279 => ?_)
        refine s_one (.int .i64 a) A279 S267 (g_load (g := g3) (off := 0) 2 (by kernel_rfl) rfl (by kernel_rfl)) rfl (fun ac A280 => ?_)
        refine s_one (.pointer (some ⟨g3, 0, none⟩)) A280 S267 (g_index (u := .pointer (some ⟨g3, 0, none⟩)) (k := .int .i64 0) (by kernel_rfl) (by kernel_rfl) (fun _ => by kernel_rfl)) rfl (fun ac A281 => ?_)
        refine s_one (.int .i64 a) A281 S267 (g_load (g := g3) (off := 0) 2 (by kernel_rfl) rfl (by kernel_rfl)) rfl (fun ac A282 => ?_)
        refine s_one (.int .i64 (a * a)) A282 S267 (g_bin (u := .int .i64 a) (k := .int .i64 a) (by kernel_rfl) (by kernel_rfl) (fun _ => by kernel_rfl) (b_mul (by omega))) rfl (fun ac A283 => ?_)
        refine s_one (.int .i64 w) A283 S267 (g_move (by kernel_rfl)) rfl (fun ac A284 => ?_)
        refine s_one (.int .i64 ((a * a) * w)) A284 S267 (g_bin (u := .int .i64 (a * a)) (k := .int .i64 w) (by kernel_rfl) (by kernel_rfl) (fun _ => by kernel_rfl) (b_mul (by omega))) rfl (fun ac A285 => ?_)
        refine s_one (.int .i64 (a * a + (b * b))) A285 S267 (g_move (by kernel_rfl)) rfl (fun ac A286 => ?_)
        refine s_one (.int .i64 v) A286 S267 (g_move (by kernel_rfl)) rfl (fun ac A287 => ?_)
        refine s_one (.int .i64 ((a * a + (b * b)) * v)) A287 S267 (g_bin (u := .int .i64 (a * a + (b * b))) (k := .int .i64 v) (by kernel_rfl) (by kernel_rfl) (fun _ => by kernel_rfl) (b_mul (by omega))) rfl (fun ac A288 => ?_)
        refine s_call (fs := #[]) (cp := #[]) (r := [(0, .int .i64 ((bsN a b v w) * v)), (0, .int .i64 ((bsD a b v w) * w)), (0, .int .i64 ((a * a) * w)), (0, .int .i64 ((a * a + (b * b)) * v))]) #[.int .i64 ((bsN a b v w) * v), .int .i64 ((bsD a b v w) * w), .int .i64 ((a * a) * w), .int .i64 ((a * a + (b * b)) * v)] (.int .i64 (cmpI ((bsN a b v w) * v) ((bsD a b v w) * w) ((a * a) * w) ((a * a + (b * b)) * v))) A288 S267 (Compare_s ((bsN a b v w) * v) ((bsD a b v w) * w) ((a * a) * w) ((a * a + (b * b)) * v) _ (by omega) (by omega) (by omega) (by omega)) Try.call71 (by kernel_rfl) (by kernel_rfl) (by kernel_rfl) rfl (fun ac wc A289 S290 => ?_)
        refine s_one (.bool (decide (cmpI ((bsN a b v w) * v) ((bsD a b v w) * w) ((a * a) * w) ((a * a + (b * b)) * v) = 0))) A289 S290 (g_bin (u := .int .i64 (cmpI ((bsN a b v w) * v) ((bsD a b v w) * w) ((a * a) * w) ((a * a + (b * b)) * v))) (k := .int .i64 0) (by kernel_rfl) (by kernel_rfl) (fun _ => by kernel_rfl) b_eql) rfl (fun ac A292 => ?_)
        refine s_one (.bool (decide (cmpI ((bsN a b v w) * v) ((bsD a b v w) * w) ((a * a) * w) ((a * a + (b * b)) * v) = 0))) A292 S290 (g_assign (by kernel_rfl)) rfl (fun ac A293 => ?_)
        refine wpList_nil ?_
        refine n_then ?_
        refine wp_ret ?_
        refine fin1 (.bool (decide (cmpI ((bsN a b v w) * v) ((bsD a b v w) * w) ((a * a) * w) ((a * a + (b * b)) * v) = 0))) Try.results16 A293 S290 (rv_tmp (by kernel_rfl)) ⟨?_, S290.kp⟩
        exact congrArg (fun b => Ending.returned (Value.bool b)) (decide_eq_true (by first | assumption | rfl | omega | exact snell_2))

end Go.Proofs.Ytnfmfkejhgbipaa
