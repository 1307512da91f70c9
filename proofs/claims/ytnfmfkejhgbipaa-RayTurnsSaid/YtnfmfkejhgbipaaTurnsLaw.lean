/- The walk of RayTurns: it returns true. -/
import Derived.Test.YtnfmfkejhgbipaaRay9
import Derived.Test.YtnfmfkejhgbipaaPlain
import Derived.Test.YtnfmfkejhgbipaaArgs
namespace Go.Proofs.Ytnfmfkejhgbipaa
open Go.RowKit Go.Cpl Go.Ray1

def meets_a_r (alo : Int) (ahi : Int) (blo : Int) (bhi : Int) : Bool := decide (mx alo blo ≤ mn ahi bhi)

set_option maxRecDepth 100000 in
set_option maxHeartbeats 400000 in
theorem meets_a (alo : Int) (ahi : Int) (blo : Int) (bhi : Int) (w0 : World) :
    Calls Try.prog 25 #[.agg #[.int .i64 alo, .int .i64 ahi], .agg #[.int .i64 blo, .int .i64 bhi]] w0 fun e w' => e = .returned (.bool (meets_a_r alo ahi blo bhi)) ∧ Below w0.heap.size w0 w' := by
  have S0 := St.start w0
  refine enter (n := 16) Try.func25 rfl rfl rfl (fun ac A0 => ?_)
  refine wp_seq ?_
  refine wp_region_lit ?_
  refine s_box (.agg #[.int .i64 alo, .int .i64 ahi]) A0 S0 (by kernel_rfl) rfl (fun g3 ac wc A1 S2 => ?_)
  replace S2 : St _ (⟨g3, 29, #[.int .i64 alo, .int .i64 ahi], true⟩ :: _) _ _ := S2
  refine s_box (.agg #[.int .i64 blo, .int .i64 bhi]) A1 S2 (by kernel_rfl) rfl (fun g7 ac wc A5 S6 => ?_)
  replace S6 : St _ (⟨g7, 29, #[.int .i64 blo, .int .i64 bhi], true⟩ :: _) _ _ := S6
  refine s_one (.bool false) A5 S6 (g_assign (by kernel_rfl)) rfl (fun ac A9 => ?_)
  refine wpList_nil ?_
  refine n_then ?_
  refine wp_seq ?_
  refine wp_region_lit ?_
  refine s_one (.pointer (some ⟨g3, 0, none⟩)) A9 S6 (g_field (u := .pointer (some ⟨g3, 0, none⟩)) (by kernel_rfl) (fun _ => by kernel_rfl)) rfl (fun ac A10 => ?_)
  refine s_one (.int .i64 alo) A10 S6 (g_load (g := g3) (off := 0) 1 (by kernel_rfl) rfl (by kernel_rfl)) rfl (fun ac A11 => ?_)
  refine s_one (.pointer (some ⟨g7, 0, none⟩)) A11 S6 (g_field (u := .pointer (some ⟨g7, 0, none⟩)) (by kernel_rfl) (fun _ => by kernel_rfl)) rfl (fun ac A12 => ?_)
  refine s_one (.int .i64 blo) A12 S6 (g_load (g := g7) (off := 0) 0 (by kernel_rfl) rfl (by kernel_rfl)) rfl (fun ac A13 => ?_)
  refine s_one (.int .i64 (mx alo blo)) A13 S6 (g_built (r := [(0, .int .i64 alo), (0, .int .i64 blo)]) (by kernel_rfl) (fun ty cs w => by show (do let x ← Builtin.max_ _ ty #[.int .i64 alo, .int .i64 blo]; pure (Next.value x) : Sem Next).run _ w = _; rw [Sem.run_bind, run_max_mx]; rfl)) rfl (fun ac A14 => ?_)
  refine s_one (.pointer (some ⟨g3, 1, none⟩)) A14 S6 (g_field (u := .pointer (some ⟨g3, 0, none⟩)) (by kernel_rfl) (fun _ => by kernel_rfl)) rfl (fun ac A15 => ?_)
  refine s_one (.int .i64 ahi) A15 S6 (g_load (g := g3) (off := 1) 1 (by kernel_rfl) rfl (by kernel_rfl)) rfl (fun ac A16 => ?_)
  refine s_one (.pointer (some ⟨g7, 1, none⟩)) A16 S6 (g_field (u := .pointer (some ⟨g7, 0, none⟩)) (by kernel_rfl) (fun _ => by kernel_rfl)) rfl (fun ac A17 => ?_)
  refine s_one (.int .i64 bhi) A17 S6 (g_load (g := g7) (off := 1) 0 (by kernel_rfl) rfl (by kernel_rfl)) rfl (fun ac A18 => ?_)
  refine s_one (.int .i64 (mn ahi bhi)) A18 S6 (g_built (r := [(0, .int .i64 ahi), (0, .int .i64 bhi)]) (by kernel_rfl) (fun ty cs w => by show (do let x ← Builtin.min_ _ ty #[.int .i64 ahi, .int .i64 bhi]; pure (Next.value x) : Sem Next).run _ w = _; rw [Sem.run_bind, run_min_mn]; rfl)) rfl (fun ac A19 => ?_)
  refine s_one (.bool (decide (mx alo blo ≤ mn ahi bhi))) A19 S6 (g_bin (u := .int .i64 (mx alo blo)) (k := .int .i64 (mn ahi bhi)) (by kernel_rfl) (by kernel_rfl) (fun _ => by kernel_rfl) (fun _ => by kernel_rfl)) rfl (fun ac A20 => ?_)
  refine s_one (.bool (decide (mx alo blo ≤ mn ahi bhi))) A20 S6 (g_assign (by kernel_rfl)) rfl (fun ac A21 => ?_)
  refine wpList_nil ?_
  refine n_then ?_
  refine wp_ret ?_
  refine fin1 (.bool (decide (mx alo blo ≤ mn ahi bhi))) Try.results25 A21 S6 (rv_tmp (by kernel_rfl)) ⟨?_, S6.kp⟩
  have e : meets_a_r alo ahi blo bhi = (decide (mx alo blo ≤ mn ahi bhi)) := by unfold meets_a_r; exact rfl
  rw [e]

theorem turn_in {fx fz tx tz th va vb : Int} (h : tuE fx fz tx tz th va vb = 0) : tmE fx fz tx (2 * th - tz) va = 0 := by
  obtain ⟨a, b, c, d, e⟩ := tuE_0 h
  have h1 : spE fx fz = 0 := spE_y (inB_true.2 a.1.1) (inB_true.2 a.1.2)
  have h2 : spE tx (2 * th - tz) = 0 := spE_y (inB_true.2 a.2.1) (inB_true.2 (by omega))
  have h3 : veE va = 0 := veE_y (inB_true.2 d)
  exact (fo_cons0 h1).trans ((fo_cons0 h2).trans ((fo_last _).trans h3))
theorem turn_meet {fx fz tx tz th va vb : Int} (h : tuE fx fz tx tz th va vb = 0) (e : va = vb) : tLo (lenL (fx - tx) (fz - (2 * th - tz))) va ≤ mHi (tuC fx fz tx tz th va vb) ∧ leLo (tuC fx fz tx tz th va vb) ≤ tHi (lenU (fx - tx) (fz - (2 * th - tz))) va := by
  have ok := tuC_ok h
  have a := one_lo ok e
  have b := one_hi ok e
  have x : tx - fx = -(fx - tx) := by omega
  have y : th - fz + (th - tz) = -(fz - (2 * th - tz)) := by omega
  have x2 : (tuC fx fz tx tz th va vb).x2 - (tuC fx fz tx tz th va vb).x1 = -(fx - tx) := x
  have y2 : (tuC fx fz tx tz th va vb).h1 + (tuC fx fz tx tz th va vb).h2 = -(fz - (2 * th - tz)) := y
  rw [x2, y2] at a b
  rw [lenL_n2] at a
  rw [lenU_n2] at b
  exact ⟨a, b⟩

set_option maxRecDepth 100000 in
set_option maxHeartbeats 400000 in
theorem RayTurns_s (fx fz tx tz th va vb : Int) (w0 : World) :
    Calls Try.prog 8 #[.agg #[.int .i64 fx, .int .i64 fz, .int .i64 tx, .int .i64 tz, .int .i64 th, .int .i64 va, .int .i64 vb]] w0 fun e w' => e = .returned (.bool true) ∧ Below w0.heap.size w0 w' := by
  have S0 := St.start w0
  refine enter (n := 66) Try.func8 rfl rfl rfl (fun ac A0 => ?_)
  refine wp_seq ?_
  refine wp_region_lit ?_
  refine s_box (.agg #[.int .i64 fx, .int .i64 fz, .int .i64 tx, .int .i64 tz, .int .i64 th, .int .i64 va, .int .i64 vb]) A0 S0 (by kernel_rfl) rfl (fun g3 ac wc A1 S2 => ?_)
  replace S2 : St _ (⟨g3, 60, #[.int .i64 fx, .int .i64 fz, .int .i64 tx, .int .i64 tz, .int .i64 th, .int .i64 va, .int .i64 vb], true⟩ :: _) _ _ := S2
  refine s_one (.bool false) A1 S2 (g_assign (by kernel_rfl)) rfl (fun ac A5 => ?_)
  refine wpList_nil ?_
  refine n_then ?_
  refine wp_seq ?_
  refine wp_seq ?_
  refine wp_region_lit ?_
  refine s_call (fs := #[]) (cp := #[]) (r := []) #[] (.bool true) A5 S2 (awake_s _) Try.call19 (by kernel_rfl) (by kernel_rfl) (by kernel_rfl) rfl (fun ac wc A6 S7 => ?_)
  refine s_one (.bool false) A6 S7 (g_un (u := .bool true) (by kernel_rfl) (fun _ => by kernel_rfl)) rfl (fun ac A9 => ?_)
  refine wpList_nil ?_
  refine n_then ?_
  refine c_f (b := false) A9 (by kernel_rfl) rfl ?_
  refine wp_skip ?_
  refine n_then ?_
  refine wp_seq ?_
  refine wp_region_lit ?_
  refine s_one (.agg #[.int .i64 fx, .int .i64 fz, .int .i64 tx, .int .i64 tz, .int .i64 th, .int .i64 va, .int .i64 vb]) A9 S7 (g_load (g := g3) (off := 0) 0 (by kernel_rfl) rfl (by kernel_rfl)) rfl (fun ac A10 => ?_)
  refine s_call (fs := #[]) (cp := #[]) (r := [(0, .agg #[.int .i64 fx, .int .i64 fz, .int .i64 tx, .int .i64 tz, .int .i64 th, .int .i64 va, .int .i64 vb])]) #[.agg #[.int .i64 fx, .int .i64 fz, .int .i64 tx, .int .i64 tz, .int .i64 th, .int .i64 va, .int .i64 vb]] (.tuple #[.agg #[.int .i64 (zv (tuE fx fz tx tz th va vb) (leLo (tuC fx fz tx tz th va vb))), .int .i64 (zv (tuE fx fz tx tz th va vb) (mHi (tuC fx fz tx tz th va vb)))], .int .i64 (tuE fx fz tx tz th va vb)]) A10 S7 (TurnedTime_s fx fz tx tz th va vb _) Try.call39 (by kernel_rfl) (by kernel_rfl) (by kernel_rfl) rfl (fun ac wc A11 S12 => ?_)
  refine s_one (.tuple #[.agg #[.int .i64 (zv (tuE fx fz tx tz th va vb) (leLo (tuC fx fz tx tz th va vb))), .int .i64 (zv (tuE fx fz tx tz th va vb) (mHi (tuC fx fz tx tz th va vb)))], .int .i64 (tuE fx fz tx tz th va vb)]) A11 S12 (g_move (by kernel_rfl)) rfl (fun ac A14 => ?_)
  refine s_one (.agg #[.int .i64 (zv (tuE fx fz tx tz th va vb) (leLo (tuC fx fz tx tz th va vb))), .int .i64 (zv (tuE fx fz tx tz th va vb) (mHi (tuC fx fz tx tz th va vb)))]) A14 S12 (g_extract (u := .tuple #[.agg #[.int .i64 (zv (tuE fx fz tx tz th va vb) (leLo (tuC fx fz tx tz th va vb))), .int .i64 (zv (tuE fx fz tx tz th va vb) (mHi (tuC fx fz tx tz th va vb)))], .int .i64 (tuE fx fz tx tz th va vb)]) (by kernel_rfl) (fun _ => by kernel_rfl)) rfl (fun ac A15 => ?_)
  refine s_one (.int .i64 (tuE fx fz tx tz th va vb)) A15 S12 (g_extract (u := .tuple #[.agg #[.int .i64 (zv (tuE fx fz tx tz th va vb) (leLo (tuC fx fz tx tz th va vb))), .int .i64 (zv (tuE fx fz tx tz th va vb) (mHi (tuC fx fz tx tz th va vb)))], .int .i64 (tuE fx fz tx tz th va vb)]) (by kernel_rfl) (fun _ => by kernel_rfl)) rfl (fun ac A16 => ?_)
  refine s_alloc (#[.int .i64 0, .int .i64 0]) A16 S12 (by kernel_rfl) rfl (fun g19 ac wc A17 S18 => ?_)
  refine s_store (g := g19) (off := 0) (v := .agg #[.int .i64 (zv (tuE fx fz tx tz th va vb) (leLo (tuC fx fz tx tz th va vb))), .int .i64 (zv (tuE fx fz tx tz th va vb) (mHi (tuC fx fz tx tz th va vb)))]) 0 (#[.int .i64 (zv (tuE fx fz tx tz th va vb) (leLo (tuC fx fz tx tz th va vb))), .int .i64 (zv (tuE fx fz tx tz th va vb) (mHi (tuC fx fz tx tz th va vb)))]) A17 S18 (by kernel_rfl) (by kernel_rfl) rfl (by kernel_rfl) (fun wc S21 => ?_)
  refine s_one (.int .i64 (tuE fx fz tx tz th va vb)) A17 S21 (g_assign (by kernel_rfl)) rfl (fun ac A23 => ?_)
  refine wpList_nil ?_
  refine n_then ?_
  refine wp_seq ?_
  refine wp_seq ?_
  refine wp_region_lit ?_
  refine s_one (.agg #[.int .i64 fx, .int .i64 fz, .int .i64 tx, .int .i64 tz, .int .i64 th, .int .i64 va, .int .i64 vb]) A23 S21 (g_load (g := g3) (off := 0) 1 (by kernel_rfl) rfl (by kernel_rfl)) rfl (fun ac A24 => ?_)
  refine s_call (fs := #[]) (cp := #[]) (r := [(0, .agg #[.int .i64 fx, .int .i64 fz, .int .i64 tx, .int .i64 tz, .int .i64 th, .int .i64 va, .int .i64 vb])]) #[.agg #[.int .i64 fx, .int .i64 fz, .int .i64 tx, .int .i64 tz, .int .i64 th, .int .i64 va, .int .i64 vb]] (.int .i64 (tuE fx fz tx tz th va vb)) A24 S21 (refTurnErr_s fx fz tx tz th va vb _) Try.call40 (by kernel_rfl) (by kernel_rfl) (by kernel_rfl) rfl (fun ac wc A25 S26 => ?_)
  refine s_one (.int .i64 (tuE fx fz tx tz th va vb)) A25 S26 (g_assign (by kernel_rfl)) rfl (fun ac A28 => ?_)
  refine wpList_nil ?_
  refine n_then ?_
  refine wp_seq ?_
  refine wp_region_lit ?_
  refine s_one (.int .i64 (tuE fx fz tx tz th va vb)) A28 S26 (g_move (by kernel_rfl)) rfl (fun ac A29 => ?_)
  refine s_one (.bool (decide (tuE fx fz tx tz th va vb ≠ 0))) A29 S26 (g_bin (u := .int .i64 (tuE fx fz tx tz th va vb)) (k := .int .i64 0) (by kernel_rfl) (by kernel_rfl) (fun _ => by kernel_rfl) b_neq) rfl (fun ac A30 => ?_)
  refine wpList_nil ?_
  refine n_then ?_
  refine c_ifb (b := (decide (tuE fx fz tx tz th va vb ≠ 0))) A30 (by kernel_rfl) (fun h31 => ?_) (fun h31 => ?_)
  · have p32 := of_decide_eq_true h31
    have zn := of_decide_eq_true h31
    refine wp_seq ?_
    refine wp_region_lit ?_
    refine s_one (.int .i64 (tuE fx fz tx tz th va vb)) A30 S26 (g_move (by kernel_rfl)) rfl (fun ac A33 => ?_)
    refine s_one (.int .i64 (tuE fx fz tx tz th va vb)) A33 S26 (g_move (by kernel_rfl)) rfl (fun ac A34 => ?_)
    refine s_one (.bool (decide (tuE fx fz tx tz th va vb = tuE fx fz tx tz th va vb))) A34 S26 (g_bin (u := .int .i64 (tuE fx fz tx tz th va vb)) (k := .int .i64 (tuE fx fz tx tz th va vb)) (by kernel_rfl) (by kernel_rfl) (fun _ => by kernel_rfl) b_eql) rfl (fun ac A35 => ?_)
    refine s_one (.bool (decide (tuE fx fz tx tz th va vb = tuE fx fz tx tz th va vb))) A35 S26 (g_move (by kernel_rfl)) rfl (fun ac A36 => ?_)
    refine s_want (dj := 22) (b := (decide (tuE fx fz tx tz th va vb = tuE fx fz tx tz th va vb))) A36 (by kernel_rfl) (by kernel_rfl) (decide_eq_true rfl) ?_
    refine s_one (.agg #[.int .i64 (zv (tuE fx fz tx tz th va vb) (leLo (tuC fx fz tx tz th va vb))), .int .i64 (zv (tuE fx fz tx tz th va vb) (mHi (tuC fx fz tx tz th va vb)))]) A36 S26 (g_load (g := g19) (off := 0) 0 (by kernel_rfl) rfl (by kernel_rfl)) rfl (fun ac A37 => ?_)
    refine s_want (dj := 22) (b := (decide (tuE fx fz tx tz th va vb = tuE fx fz tx tz th va vb))) A37 (by kernel_rfl) (by kernel_rfl) (decide_eq_true rfl) ?_
    refine s_one (.agg #[.int .i64 0, .int .i64 0]) A37 S26 (g_build (r := []) (by kernel_rfl) (fun _ => by kernel_rfl)) rfl (fun ac A38 => ?_)
    refine s_want (dj := 22) (b := (decide (tuE fx fz tx tz th va vb = tuE fx fz tx tz th va vb))) A38 (by kernel_rfl) (by kernel_rfl) (decide_eq_true rfl) ?_
    refine s_one (.bool (decide ([zv (tuE fx fz tx tz th va vb) (leLo (tuC fx fz tx tz th va vb)), zv (tuE fx fz tx tz th va vb) (mHi (tuC fx fz tx tz th va vb))] = [0, 0]))) A38 S26 (g_bin (u := .agg #[.int .i64 (zv (tuE fx fz tx tz th va vb) (leLo (tuC fx fz tx tz th va vb))), .int .i64 (zv (tuE fx fz tx tz th va vb) (mHi (tuC fx fz tx tz th va vb)))]) (k := .agg #[.int .i64 0, .int .i64 0]) (by kernel_rfl) (by kernel_rfl) (fun _ => by kernel_rfl) (q_struct (n := 2) [zv (tuE fx fz tx tz th va vb) (leLo (tuC fx fz tx tz th va vb)), zv (tuE fx fz tx tz th va vb) (mHi (tuC fx fz tx tz th va vb))] [0, 0] (by kernel_rfl) rfl rfl)) rfl (fun ac A39 => ?_)
    refine s_one (.bool (decide ([zv (tuE fx fz tx tz th va vb) (leLo (tuC fx fz tx tz th va vb)), zv (tuE fx fz tx tz th va vb) (mHi (tuC fx fz tx tz th va vb))] = [0, 0]))) A39 S26 (g_pick_t (b := (decide (tuE fx fz tx tz th va vb = tuE fx fz tx tz th va vb))) (by kernel_rfl) (decide_eq_true rfl) (by kernel_rfl)) rfl (fun ac A40 => ?_)
    refine s_one (.bool (decide ([zv (tuE fx fz tx tz th va vb) (leLo (tuC fx fz tx tz th va vb)), zv (tuE fx fz tx tz th va vb) (mHi (tuC fx fz tx tz th va vb))] = [0, 0]))) A40 S26 (g_assign (by kernel_rfl)) rfl (fun ac A41 => ?_)
    refine wpList_nil ?_
    refine n_then ?_
    refine wp_ret ?_
    refine r_then ?_
    refine fin1 (.bool (decide ([zv (tuE fx fz tx tz th va vb) (leLo (tuC fx fz tx tz th va vb)), zv (tuE fx fz tx tz th va vb) (mHi (tuC fx fz tx tz th va vb))] = [0, 0]))) Try.results8 A41 S26 (rv_tmp (by kernel_rfl)) ⟨?_, S26.kp⟩
    exact congrArg (fun b => Ending.returned (Value.bool b)) (decide_eq_true (by first | rfl | assumption | omega | (simp only [zv_n zn]) | (simp only [zv_0 ze])))
  · have p42 := of_decide_eq_false h31
    have ze : tuE fx fz tx tz th va vb = 0 := by simpa using h31
    have zz := tuE_0 ze
    have zt := turn_in ze
    have lb := le_bd (tuC_ok ze)
    have ok := tuC_ok ze
    refine wp_skip ?_
    refine n_then ?_
    refine wp_seq ?_
    refine wp_seq ?_
    refine r_begin (w0 := w0) (by kernel_rfl) (S26.sub sub_all sub_all) (fun wc T43 B44 => ?_)
    have S45 := S26.kept B44
    refine r_take 0 (.int .i64 (tuE fx fz tx tz th va vb)) A30 T43 (g_move (by kernel_rfl)) rfl rfl rfl (pf_then (pf_then pf_body)) (by kernel_rfl) (fun ac A46 => ?_)
    refine r_take 1 (.bool (decide (tuE fx fz tx tz th va vb ≠ 0))) A46 T43 (g_bin (u := .int .i64 (tuE fx fz tx tz th va vb)) (k := .int .i64 0) (by kernel_rfl) (by kernel_rfl) (fun _ => by kernel_rfl) b_neq) rfl rfl rfl (pf_then (pf_then pf_body)) (by kernel_rfl) (fun ac A47 => ?_)
    refine r_take 2 (.bool (decide (tuE fx fz tx tz th va vb ≠ 0))) A47 T43 (g_move (by kernel_rfl)) rfl rfl rfl (pf_then (pf_then pf_body)) (by kernel_rfl) (fun ac A48 => ?_)
    refine r_take 3 (.agg #[.int .i64 (zv (tuE fx fz tx tz th va vb) (leLo (tuC fx fz tx tz th va vb))), .int .i64 (zv (tuE fx fz tx tz th va vb) (mHi (tuC fx fz tx tz th va vb)))]) A48 T43 (g_load (g := g19) (off := 0) 0 (by kernel_rfl) rfl (by kernel_rfl)) rfl (want_t (dj := 29) (b := (decide (tuE fx fz tx tz th va vb ≠ 0))) A48 rfl (by kernel_rfl) (by kernel_rfl) h31) rfl (pf_then (pf_then pf_body)) (by kernel_rfl) (fun ac A49 => ?_)
    refine r_take 4 (.agg #[.int .i64 fx, .int .i64 fz, .int .i64 tx, .int .i64 tz, .int .i64 th, .int .i64 va, .int .i64 vb]) A49 T43 (g_load (g := g3) (off := 0) 1 (by kernel_rfl) rfl (by kernel_rfl)) rfl (want_t (dj := 29) (b := (decide (tuE fx fz tx tz th va vb ≠ 0))) A49 rfl (by kernel_rfl) (by kernel_rfl) h31) rfl (pf_then (pf_then pf_body)) (by kernel_rfl) (fun ac A50 => ?_)
    refine r_1 (i := 5) (by kernel_rfl) ?_
    refine rs_call (fs := #[]) (cp := #[]) (r := [(0, .agg #[.int .i64 fx, .int .i64 fz, .int .i64 tx, .int .i64 tz, .int .i64 th, .int .i64 va, .int .i64 vb])]) #[.agg #[.int .i64 fx, .int .i64 fz, .int .i64 tx, .int .i64 tz, .int .i64 th, .int .i64 va, .int .i64 vb]] (.agg #[.int .i64 (leLo (tuC fx fz tx tz th va vb)), .int .i64 (mHi (tuC fx fz tx tz th va vb))]) A50 S45 sub_all sub_all (refTurnedTime_s fx fz tx tz th va vb _ ze) Try.call41 rfl (want_t (dj := 29) (b := (decide (tuE fx fz tx tz th va vb ≠ 0))) A50 rfl (by kernel_rfl) (by kernel_rfl) h31) (by kernel_rfl) (by kernel_rfl) (by kernel_rfl) rfl (fun ac wc A51 S52 => ?_)
    have T54 := S52.sub sub_all sub_all
    refine r_take 6 (.bool (decide ([zv (tuE fx fz tx tz th va vb) (leLo (tuC fx fz tx tz th va vb)), zv (tuE fx fz tx tz th va vb) (mHi (tuC fx fz tx tz th va vb))] ≠ [leLo (tuC fx fz tx tz th va vb), mHi (tuC fx fz tx tz th va vb)]))) A51 T54 (g_bin (u := .agg #[.int .i64 (zv (tuE fx fz tx tz th va vb) (leLo (tuC fx fz tx tz th va vb))), .int .i64 (zv (tuE fx fz tx tz th va vb) (mHi (tuC fx fz tx tz th va vb)))]) (k := .agg #[.int .i64 (leLo (tuC fx fz tx tz th va vb)), .int .i64 (mHi (tuC fx fz tx tz th va vb))]) (by kernel_rfl) (by kernel_rfl) (fun _ => by kernel_rfl) (q_structN (n := 2) [zv (tuE fx fz tx tz th va vb) (leLo (tuC fx fz tx tz th va vb)), zv (tuE fx fz tx tz th va vb) (mHi (tuC fx fz tx tz th va vb))] [leLo (tuC fx fz tx tz th va vb), mHi (tuC fx fz tx tz th va vb)] (by kernel_rfl) rfl rfl)) rfl (want_t (dj := 29) (b := (decide (tuE fx fz tx tz th va vb ≠ 0))) A51 rfl (by kernel_rfl) (by kernel_rfl) h31) rfl (pf_then (pf_then pf_body)) (by kernel_rfl) (fun ac A55 => ?_)
    refine r_take 7 (.bool (decide ([zv (tuE fx fz tx tz th va vb) (leLo (tuC fx fz tx tz th va vb)), zv (tuE fx fz tx tz th va vb) (mHi (tuC fx fz tx tz th va vb))] ≠ [leLo (tuC fx fz tx tz th va vb), mHi (tuC fx fz tx tz th va vb)]))) A55 T54 (g_pick_f (b := (decide (tuE fx fz tx tz th va vb ≠ 0))) (by kernel_rfl) h31 (by kernel_rfl)) rfl rfl rfl (pf_then (pf_then pf_body)) (by kernel_rfl) (fun ac A56 => ?_)
    refine r_done (by kernel_rfl) ?_
    refine n_then ?_
    refine c_f (b := (decide ([zv (tuE fx fz tx tz th va vb) (leLo (tuC fx fz tx tz th va vb)), zv (tuE fx fz tx tz th va vb) (mHi (tuC fx fz tx tz th va vb))] ≠ [leLo (tuC fx fz tx tz th va vb), mHi (tuC fx fz tx tz th va vb)]))) A56 (by kernel_rfl) (decide_eq_false (by simp only [zv_0 ze]; simp)) ?_
    refine wp_skip ?_
    refine n_then ?_
    refine wp_seq ?_
    refine wp_seq ?_
    refine wp_region_lit ?_
    refine s_one (.pointer (some ⟨g3, 5, none⟩)) A56 S52 (g_field (u := .pointer (some ⟨g3, 0, none⟩)) (by kernel_rfl) (fun _ => by kernel_rfl)) rfl (fun ac A57 => ?_)
    refine s_one (.int .i64 va) A57 S52 (g_load (g := g3) (off := 5) 1 (by kernel_rfl) rfl (by kernel_rfl)) rfl (fun ac A58 => ?_)
    refine s_one (.pointer (some ⟨g3, 6, none⟩)) A58 S52 (g_field (u := .pointer (some ⟨g3, 0, none⟩)) (by kernel_rfl) (fun _ => by kernel_rfl)) rfl (fun ac A59 => ?_)
    refine s_one (.int .i64 vb) A59 S52 (g_load (g := g3) (off := 6) 1 (by kernel_rfl) rfl (by kernel_rfl)) rfl (fun ac A60 => ?_)
    refine s_one (.bool (decide (va ≠ vb))) A60 S52 (g_bin (u := .int .i64 va) (k := .int .i64 vb) (by kernel_rfl) (by kernel_rfl) (fun _ => by kernel_rfl) b_neq) rfl (fun ac A61 => ?_)
    refine wpList_nil ?_
    refine n_then ?_
    refine c_ifb (b := (decide (va ≠ vb))) A61 (by kernel_rfl) (fun h62 => ?_) (fun h62 => ?_)
    · have p63 := of_decide_eq_true h62
      refine wp_seq ?_
      refine wp_region_lit ?_
      refine s_one (.bool true) A61 S52 (g_assign (by kernel_rfl)) rfl (fun ac A64 => ?_)
      refine wpList_nil ?_
      refine n_then ?_
      refine wp_ret ?_
      refine r_then ?_
      refine fin1 (.bool true) Try.results8 A64 S52 (rv_tmp (by kernel_rfl)) ⟨?_, S52.kp⟩
      rfl
    · have p65 := of_decide_eq_false h62
      have ev : va = vb := by simpa using h62
      have mt2 := turn_meet ze ev
      have ll := tLo_tHi (v := va) (by omega) (len_bd (x := fx - tx) (z := fz - (2 * th - tz)) (by omega) (by omega)).2.1
      refine wp_skip ?_
      refine n_then ?_
      refine wp_seq ?_
      refine wp_region_lit ?_
      refine s_one (.pointer (some ⟨g3, 0, none⟩)) A61 S52 (g_field (u := .pointer (some ⟨g3, 0, none⟩)) (by kernel_rfl) (fun _ => by kernel_rfl)) rfl (fun ac A66 => ?_)
      refine s_one (.agg #[.int .i64 fx, .int .i64 fz]) A66 S52 (g_load (g := g3) (off := 0) 1 (by kernel_rfl) rfl (by kernel_rfl)) rfl (fun ac A67 => ?_)
      refine s_one (.pointer (some ⟨g3, 2, none⟩)) A67 S52 (g_field (u := .pointer (some ⟨g3, 0, none⟩)) (by kernel_rfl) (fun _ => by kernel_rfl)) rfl (fun ac A68 => ?_)
      refine s_one (.pointer (some ⟨g3, 2, none⟩)) A68 S52 (g_field (u := .pointer (some ⟨g3, 2, none⟩)) (by kernel_rfl) (fun _ => by kernel_rfl)) rfl (fun ac A69 => ?_)
      refine s_one (.int .i64 tx) A69 S52 (g_load (g := g3) (off := 2) 1 (by kernel_rfl) rfl (by kernel_rfl)) rfl (fun ac A70 => ?_)
      refine s_one (.pointer (some ⟨g3, 4, none⟩)) A70 S52 (g_field (u := .pointer (some ⟨g3, 0, none⟩)) (by kernel_rfl) (fun _ => by kernel_rfl)) rfl (fun ac A71 => ?_)
      refine s_one (.int .i64 th) A71 S52 (g_load (g := g3) (off := 4) 1 (by kernel_rfl) rfl (by kernel_rfl)) rfl (fun ac A72 => ?_)
      refine s_one (.int .i64 (2 * th)) A72 S52 (g_bin (u := .int .i64 2) (k := .int .i64 th) (by kernel_rfl) (by kernel_rfl) (fun _ => by kernel_rfl) (b_mul (by omega))) rfl (fun ac A73 => ?_)
      refine s_one (.pointer (some ⟨g3, 2, none⟩)) A73 S52 (g_field (u := .pointer (some ⟨g3, 0, none⟩)) (by kernel_rfl) (fun _ => by kernel_rfl)) rfl (fun ac A74 => ?_)
      refine s_one (.pointer (some ⟨g3, 3, none⟩)) A74 S52 (g_field (u := .pointer (some ⟨g3, 2, none⟩)) (by kernel_rfl) (fun _ => by kernel_rfl)) rfl (fun ac A75 => ?_)
      refine s_one (.int .i64 tz) A75 S52 (g_load (g := g3) (off := 3) 1 (by kernel_rfl) rfl (by kernel_rfl)) rfl (fun ac A76 => ?_)
      refine s_one (.int .i64 (2 * th - tz)) A76 S52 (g_bin (u := .int .i64 (2 * th)) (k := .int .i64 tz) (by kernel_rfl) (by kernel_rfl) (fun _ => by kernel_rfl) (b_sub (by omega))) rfl (fun ac A77 => ?_)
      refine s_one (.agg #[.int .i64 tx, .int .i64 (2 * th - tz)]) A77 S52 (g_build (r := [(0, .int .i64 tx), (1, .int .i64 (2 * th - tz))]) (by kernel_rfl) (fun _ => by kernel_rfl)) rfl (fun ac A78 => ?_)
      refine s_one (.pointer (some ⟨g3, 5, none⟩)) A78 S52 (g_field (u := .pointer (some ⟨g3, 0, none⟩)) (by kernel_rfl) (fun _ => by kernel_rfl)) rfl (fun ac A79 => ?_)
      refine s_one (.int .i64 va) A79 S52 (g_load (g := g3) (off := 5) 1 (by kernel_rfl) rfl (by kernel_rfl)) rfl (fun ac A80 => ?_)
      refine s_call (fs := #[]) (cp := #[]) (r := [(0, .agg #[.int .i64 fx, .int .i64 fz]), (0, .agg #[.int .i64 tx, .int .i64 (2 * th - tz)]), (0, .int .i64 va)]) #[.agg #[.int .i64 fx, .int .i64 fz], .agg #[.int .i64 tx, .int .i64 (2 * th - tz)], .int .i64 va] (.tuple #[.agg #[.int .i64 (zv (tmE fx fz tx (2 * th - tz) va) (tLo (lenL (fx - tx) (fz - (2 * th - tz))) va)), .int .i64 (zv (tmE fx fz tx (2 * th - tz) va) (tHi (lenU (fx - tx) (fz - (2 * th - tz))) va))], .int .i64 (tmE fx fz tx (2 * th - tz) va)]) A80 S52 (TimeOf_s fx fz tx (2 * th - tz) va _) Try.call29 (by kernel_rfl) (by kernel_rfl) (by kernel_rfl) rfl (fun ac wc A81 S82 => ?_)
      refine s_one (.tuple #[.agg #[.int .i64 (zv (tmE fx fz tx (2 * th - tz) va) (tLo (lenL (fx - tx) (fz - (2 * th - tz))) va)), .int .i64 (zv (tmE fx fz tx (2 * th - tz) va) (tHi (lenU (fx - tx) (fz - (2 * th - tz))) va))], .int .i64 (tmE fx fz tx (2 * th - tz) va)]) A81 S82 (g_move (by kernel_rfl)) rfl (fun ac A84 => ?_)
      refine s_one (.agg #[.int .i64 (zv (tmE fx fz tx (2 * th - tz) va) (tLo (lenL (fx - tx) (fz - (2 * th - tz))) va)), .int .i64 (zv (tmE fx fz tx (2 * th - tz) va) (tHi (lenU (fx - tx) (fz - (2 * th - tz))) va))]) A84 S82 (g_extract (u := .tuple #[.agg #[.int .i64 (zv (tmE fx fz tx (2 * th - tz) va) (tLo (lenL (fx - tx) (fz - (2 * th - tz))) va)), .int .i64 (zv (tmE fx fz tx (2 * th - tz) va) (tHi (lenU (fx - tx) (fz - (2 * th - tz))) va))], .int .i64 (tmE fx fz tx (2 * th - tz) va)]) (by kernel_rfl) (fun _ => by kernel_rfl)) rfl (fun ac A85 => ?_)
      refine s_one (.int .i64 (tmE fx fz tx (2 * th - tz) va)) A85 S82 (g_extract (u := .tuple #[.agg #[.int .i64 (zv (tmE fx fz tx (2 * th - tz) va) (tLo (lenL (fx - tx) (fz - (2 * th - tz))) va)), .int .i64 (zv (tmE fx fz tx (2 * th - tz) va) (tHi (lenU (fx - tx) (fz - (2 * th - tz))) va))], .int .i64 (tmE fx fz tx (2 * th - tz) va)]) (by kernel_rfl) (fun _ => by kernel_rfl)) rfl (fun ac A86 => ?_)
      refine s_alloc (#[.int .i64 0, .int .i64 0]) A86 S82 (by kernel_rfl) rfl (fun g89 ac wc A87 S88 => ?_)
      refine s_store (g := g89) (off := 0) (v := .agg #[.int .i64 (zv (tmE fx fz tx (2 * th - tz) va) (tLo (lenL (fx - tx) (fz - (2 * th - tz))) va)), .int .i64 (zv (tmE fx fz tx (2 * th - tz) va) (tHi (lenU (fx - tx) (fz - (2 * th - tz))) va))]) 0 (#[.int .i64 (zv (tmE fx fz tx (2 * th - tz) va) (tLo (lenL (fx - tx) (fz - (2 * th - tz))) va)), .int .i64 (zv (tmE fx fz tx (2 * th - tz) va) (tHi (lenU (fx - tx) (fz - (2 * th - tz))) va))]) A87 S88 (by kernel_rfl) (by kernel_rfl) rfl (by kernel_rfl) (fun wc S91 => ?_)
      refine s_one (.int .i64 (tmE fx fz tx (2 * th - tz) va)) A87 S91 (g_assign (by kernel_rfl)) rfl (fun ac A93 => ?_)
      refine wpList_nil ?_
      refine n_then ?_
      refine wp_seq ?_
      refine wp_region_lit ?_
      refine s_one (.int .i64 (tmE fx fz tx (2 * th - tz) va)) A93 S91 (g_move (by kernel_rfl)) rfl (fun ac A94 => ?_)
      refine s_one (.bool (decide (tmE fx fz tx (2 * th - tz) va = 0))) A94 S91 (g_bin (u := .int .i64 (tmE fx fz tx (2 * th - tz) va)) (k := .int .i64 0) (by kernel_rfl) (by kernel_rfl) (fun _ => by kernel_rfl) b_eql) rfl (fun ac A95 => ?_)
      refine s_one (.bool (decide (tmE fx fz tx (2 * th - tz) va = 0))) A95 S91 (g_move (by kernel_rfl)) rfl (fun ac A96 => ?_)
      refine s_want (dj := 61) (b := (decide (tmE fx fz tx (2 * th - tz) va = 0))) A96 (by kernel_rfl) (by kernel_rfl) (decide_eq_true (by first | rfl | assumption | omega | (simp only [zv_n zn]) | (simp only [zv_0 ze]))) ?_
      refine s_one (.agg #[.int .i64 (zv (tmE fx fz tx (2 * th - tz) va) (tLo (lenL (fx - tx) (fz - (2 * th - tz))) va)), .int .i64 (zv (tmE fx fz tx (2 * th - tz) va) (tHi (lenU (fx - tx) (fz - (2 * th - tz))) va))]) A96 S91 (g_load (g := g89) (off := 0) 0 (by kernel_rfl) rfl (by kernel_rfl)) rfl (fun ac A97 => ?_)
      refine s_want (dj := 61) (b := (decide (tmE fx fz tx (2 * th - tz) va = 0))) A97 (by kernel_rfl) (by kernel_rfl) (decide_eq_true (by first | rfl | assumption | omega | (simp only [zv_n zn]) | (simp only [zv_0 ze]))) ?_
      refine s_one (.agg #[.int .i64 (zv (tuE fx fz tx tz th va vb) (leLo (tuC fx fz tx tz th va vb))), .int .i64 (zv (tuE fx fz tx tz th va vb) (mHi (tuC fx fz tx tz th va vb)))]) A97 S91 (g_load (g := g19) (off := 0) 1 (by kernel_rfl) rfl (by kernel_rfl)) rfl (fun ac A98 => ?_)
      refine s_want (dj := 61) (b := (decide (tmE fx fz tx (2 * th - tz) va = 0))) A98 (by kernel_rfl) (by kernel_rfl) (decide_eq_true (by first | rfl | assumption | omega | (simp only [zv_n zn]) | (simp only [zv_0 ze]))) ?_
      refine s_call (fs := #[]) (cp := #[]) (r := [(0, .agg #[.int .i64 (zv (tmE fx fz tx (2 * th - tz) va) (tLo (lenL (fx - tx) (fz - (2 * th - tz))) va)), .int .i64 (zv (tmE fx fz tx (2 * th - tz) va) (tHi (lenU (fx - tx) (fz - (2 * th - tz))) va))]), (0, .agg #[.int .i64 (zv (tuE fx fz tx tz th va vb) (leLo (tuC fx fz tx tz th va vb))), .int .i64 (zv (tuE fx fz tx tz th va vb) (mHi (tuC fx fz tx tz th va vb)))])]) #[.agg #[.int .i64 (zv (tmE fx fz tx (2 * th - tz) va) (tLo (lenL (fx - tx) (fz - (2 * th - tz))) va)), .int .i64 (zv (tmE fx fz tx (2 * th - tz) va) (tHi (lenU (fx - tx) (fz - (2 * th - tz))) va))], .agg #[.int .i64 (zv (tuE fx fz tx tz th va vb) (leLo (tuC fx fz tx tz th va vb))), .int .i64 (zv (tuE fx fz tx tz th va vb) (mHi (tuC fx fz tx tz th va vb)))]] (.bool (meets_a_r (zv (tmE fx fz tx (2 * th - tz) va) (tLo (lenL (fx - tx) (fz - (2 * th - tz))) va)) (zv (tmE fx fz tx (2 * th - tz) va) (tHi (lenU (fx - tx) (fz - (2 * th - tz))) va)) (zv (tuE fx fz tx tz th va vb) (leLo (tuC fx fz tx tz th va vb))) (zv (tuE fx fz tx tz th va vb) (mHi (tuC fx fz tx tz th va vb))))) A98 S91 (meets_a (zv (tmE fx fz tx (2 * th - tz) va) (tLo (lenL (fx - tx) (fz - (2 * th - tz))) va)) (zv (tmE fx fz tx (2 * th - tz) va) (tHi (lenU (fx - tx) (fz - (2 * th - tz))) va)) (zv (tuE fx fz tx tz th va vb) (leLo (tuC fx fz tx tz th va vb))) (zv (tuE fx fz tx tz th va vb) (mHi (tuC fx fz tx tz th va vb))) _) Try.call25 (by kernel_rfl) (by kernel_rfl) (by kernel_rfl) rfl (fun ac wc A99 S100 => ?_)
      refine s_one (.bool (meets_a_r (zv (tmE fx fz tx (2 * th - tz) va) (tLo (lenL (fx - tx) (fz - (2 * th - tz))) va)) (zv (tmE fx fz tx (2 * th - tz) va) (tHi (lenU (fx - tx) (fz - (2 * th - tz))) va)) (zv (tuE fx fz tx tz th va vb) (leLo (tuC fx fz tx tz th va vb))) (zv (tuE fx fz tx tz th va vb) (mHi (tuC fx fz tx tz th va vb))))) A99 S100 (g_pick_t (b := (decide (tmE fx fz tx (2 * th - tz) va = 0))) (by kernel_rfl) (decide_eq_true (by first | rfl | assumption | omega | (simp only [zv_n zn]) | (simp only [zv_0 ze]))) (by kernel_rfl)) rfl (fun ac A102 => ?_)
      refine s_one (.bool (meets_a_r (zv (tmE fx fz tx (2 * th - tz) va) (tLo (lenL (fx - tx) (fz - (2 * th - tz))) va)) (zv (tmE fx fz tx (2 * th - tz) va) (tHi (lenU (fx - tx) (fz - (2 * th - tz))) va)) (zv (tuE fx fz tx tz th va vb) (leLo (tuC fx fz tx tz th va vb))) (zv (tuE fx fz tx tz th va vb) (mHi (tuC fx fz tx tz th va vb))))) A102 S100 (g_assign (by kernel_rfl)) rfl (fun ac A103 => ?_)
      refine wpList_nil ?_
      refine n_then ?_
      refine wp_ret ?_
      refine fin1 (.bool (meets_a_r (zv (tmE fx fz tx (2 * th - tz) va) (tLo (lenL (fx - tx) (fz - (2 * th - tz))) va)) (zv (tmE fx fz tx (2 * th - tz) va) (tHi (lenU (fx - tx) (fz - (2 * th - tz))) va)) (zv (tuE fx fz tx tz th va vb) (leLo (tuC fx fz tx tz th va vb))) (zv (tuE fx fz tx tz th va vb) (mHi (tuC fx fz tx tz th va vb))))) Try.results8 A103 S100 (rv_tmp (by kernel_rfl)) ⟨?_, S100.kp⟩
      exact congrArg (fun b => Ending.returned (Value.bool b)) (decide_eq_true (by simp only [mx_eq, mn_eq, zv_0 ze, zv_0 zt]; omega))

end Go.Proofs.Ytnfmfkejhgbipaa
