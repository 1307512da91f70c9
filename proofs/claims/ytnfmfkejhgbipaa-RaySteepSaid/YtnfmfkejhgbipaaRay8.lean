/- What is at a place of a crossing. -/
import Derived.Test.YtnfmfkejhgbipaaRay7
namespace Go.Proofs.Ytnfmfkejhgbipaa
open Go.RowKit Go.Cpl Go.Ray1

def atE (c : Cr) (p : Int) : Int := firstOf [crE c, must_a_r (inB p c.lo c.hi) 2]
theorem atE_0 {c : Cr} {p : Int} (h : atE c p = 0) : c.Ok ∧ c.lo ≤ p ∧ p ≤ c.hi := by
  obtain ⟨h1, h⟩ := fo_zero h
  rw [fo_last] at h
  exact ⟨crE_ok h1, inB_true.1 (must_0 (by decide) h)⟩
theorem atE_of {c : Cr} {p : Int} (ok : c.Ok) (h : inB p c.lo c.hi = true) : atE c p = 0 := by
  unfold atE; rw [crE_of ok, fo_cons0 rfl, fo_last, h]; rfl
theorem atE_n {c : Cr} {p : Int} (h : crE c ≠ 0) : atE c p = crE c := fo_ne h
theorem atE_r {c : Cr} {p : Int} (h : crE c = 0) (h2 : inB p c.lo c.hi = false) : atE c p = 2 := by unfold atE; rw [fo_cons0 h, fo_last, h2]; rfl
/-- Is a place not the crossing of least time? -/
def ckB (c : Cr) (p : Int) : Bool := decide (slp c p > 0) || (inB (p + 1) c.lo c.hi && decide (slp c (p + 1) ≤ 0))
def ckE (c : Cr) (p : Int) : Int := if atE c p = 0 then (bif ckB c p then 18 else 0) else atE c p
theorem ckE_n {c : Cr} {p : Int} (h : atE c p ≠ 0) : ckE c p = atE c p := if_neg h
theorem ckE_y {c : Cr} {p : Int} (h : atE c p = 0) : ckE c p = (bif ckB c p then 18 else 0) := if_pos h

set_option maxRecDepth 100000 in
set_option maxHeartbeats 400000 in
theorem SlopeAt_s (c : Cr) (p : Int) (w0 : World) :
    Calls Try.prog 56 #[.agg #[.int .i64 c.x1, .int .i64 c.h1, .int .i64 c.v1, .int .i64 c.x2, .int .i64 c.h2, .int .i64 c.v2], .int .i64 p] w0 fun e w' => e = .returned (.tuple #[.int .i64 (zv (atE c p) (slp c p)), .int .i64 (atE c p)]) ∧ Below w0.heap.size w0 w' := by
  have S0 := St.start w0
  refine enter (n := 23) Try.func56 rfl rfl rfl (fun ac A0 => ?_)
  refine wp_seq ?_
  refine wp_region_lit ?_
  refine s_box (.agg #[.int .i64 c.x1, .int .i64 c.h1, .int .i64 c.v1, .int .i64 c.x2, .int .i64 c.h2, .int .i64 c.v2]) A0 S0 (by kernel_rfl) rfl (fun g3 ac wc A1 S2 => ?_)
  replace S2 : St _ (⟨g3, 23, #[.int .i64 c.x1, .int .i64 c.h1, .int .i64 c.v1, .int .i64 c.x2, .int .i64 c.h2, .int .i64 c.v2], true⟩ :: _) _ _ := S2
  refine s_one (.int .i64 0) A1 S2 (g_assign (by kernel_rfl)) rfl (fun ac A5 => ?_)
  refine s_one (.int .i64 0) A5 S2 (g_assign (by kernel_rfl)) rfl (fun ac A6 => ?_)
  refine wpList_nil ?_
  refine n_then ?_
  refine wp_seq ?_
  refine wp_seq ?_
  refine r_begin (w0 := w0) (by kernel_rfl) (S2.sub sub_all sub_all) (fun wc T7 B8 => ?_)
  have S9 := S2.kept B8
  refine r_take 0 (.agg #[.int .i64 c.x1, .int .i64 c.h1, .int .i64 c.v1, .int .i64 c.x2, .int .i64 c.h2, .int .i64 c.v2]) A6 T7 (g_load (g := g3) (off := 0) 0 (by kernel_rfl) rfl (by kernel_rfl)) rfl rfl rfl (pf_then (pf_then pf_body)) (by kernel_rfl) (fun ac A10 => ?_)
  refine r_take 2 (.agg #[.int .i64 c.x1, .int .i64 c.h1, .int .i64 c.v1, .int .i64 c.x2, .int .i64 c.h2, .int .i64 c.v2]) A10 T7 (g_load (g := g3) (off := 0) 0 (by kernel_rfl) rfl (by kernel_rfl)) rfl rfl rfl (pf_then (pf_then pf_body)) (by kernel_rfl) (fun ac A11 => ?_)
  refine r_take 3 (.agg #[.int .i64 c.x1, .int .i64 c.h1, .int .i64 c.v1, .int .i64 c.x2, .int .i64 c.h2, .int .i64 c.v2]) A11 T7 (g_build (r := [(0, .agg #[.int .i64 c.x1, .int .i64 c.h1, .int .i64 c.v1, .int .i64 c.x2, .int .i64 c.h2, .int .i64 c.v2])]) (by kernel_rfl) (fun _ => by kernel_rfl)) rfl rfl rfl (pf_then (pf_then pf_body)) (by kernel_rfl) (fun ac A12 => ?_)
  refine r_take 4 (.int .i64 p) A12 T7 (g_move (by kernel_rfl)) rfl rfl rfl (pf_then (pf_then pf_body)) (by kernel_rfl) (fun ac A13 => ?_)
  refine r_1 (i := 1) (by kernel_rfl) ?_
  refine rs_call (fs := #[]) (cp := #[]) (r := [(0, .agg #[.int .i64 c.x1, .int .i64 c.h1, .int .i64 c.v1, .int .i64 c.x2, .int .i64 c.h2, .int .i64 c.v2])]) #[.agg #[.int .i64 c.x1, .int .i64 c.h1, .int .i64 c.v1, .int .i64 c.x2, .int .i64 c.h2, .int .i64 c.v2]] (.int .i64 (crE c)) A13 S9 sub_all sub_all (CheckCross_s c _) Try.call59 rfl rfl (by kernel_rfl) (by kernel_rfl) (by kernel_rfl) rfl (fun ac wc A14 S15 => ?_)
  have T17 := S15.sub sub_all sub_all
  refine r_1 (i := 5) (by kernel_rfl) ?_
  refine rs_call (fs := #[]) (cp := #[]) (r := [(0, .agg #[.int .i64 c.x1, .int .i64 c.h1, .int .i64 c.v1, .int .i64 c.x2, .int .i64 c.h2, .int .i64 c.v2]), (0, .int .i64 p)]) #[.agg #[.int .i64 c.x1, .int .i64 c.h1, .int .i64 c.v1, .int .i64 c.x2, .int .i64 c.h2, .int .i64 c.v2], .int .i64 p] (.bool (inB p c.lo c.hi)) A14 S15 sub_all sub_all (has_s c p _) Try.call103 rfl rfl (by kernel_rfl) (by kernel_rfl) (by kernel_rfl) rfl (fun ac wc A18 S19 => ?_)
  have T21 := S19.sub sub_all sub_all
  refine r_1 (i := 6) (by kernel_rfl) ?_
  refine rs_call (fs := #[]) (cp := #[]) (r := [(0, .bool (inB p c.lo c.hi)), (0, .int .i64 2)]) #[.bool (inB p c.lo c.hi), .int .i64 2] (.int .i64 (must_a_r (inB p c.lo c.hi) 2)) A18 S19 sub_all sub_all (must_a (inB p c.lo c.hi) 2 _) Try.call88 rfl rfl (by kernel_rfl) (by kernel_rfl) (by kernel_rfl) rfl (fun ac wc A22 S23 => ?_)
  have T25 := S23.sub sub_all sub_all
  refine r_1 (i := 7) (by kernel_rfl) ?_
  refine rs_bs (e := 25) (r := [(0, .int .i64 (crE c)), (1, .int .i64 (must_a_r (inB p c.lo c.hi) 2))]) (#[.int .i64 (crE c), .int .i64 (must_a_r (inB p c.lo c.hi) 2)]) A22 S23 sub_all sub_all (by kernel_rfl) (by kernel_rfl) rfl rfl rfl (fun g28 ac wc A26 S27 => ?_)
  have T29 := S27.sub (sub_skip sub_all) sub_all
  refine r_1 (i := 8) (by kernel_rfl) ?_
  refine rs_call (fs := #[]) (cp := #[]) (r := [(0, .slice (some ⟨g28, 0, none⟩) 2 2)]) #[.slice (some ⟨g28, 0, none⟩) 2 2] (.int .i64 (firstOf [crE c, (must_a_r (inB p c.lo c.hi) 2)])) A26 S27 (sub_skip sub_all) sub_all (first_s g28 ([crE c, (must_a_r (inB p c.lo c.hi) 2)]) 2 2 _ (S27.get 0 rfl) rfl (by omega)) Try.call83 rfl rfl (by kernel_rfl) (by kernel_rfl) (by kernel_rfl) rfl (fun ac wc A30 S31 => ?_)
  have T33 := S31.sub (sub_skip sub_all) sub_all
  refine r_take 9 (.int .i64 (firstOf [crE c, (must_a_r (inB p c.lo c.hi) 2)])) A30 T33 (g_assign (by kernel_rfl)) rfl rfl rfl (pf_then (pf_then pf_body)) (by kernel_rfl) (fun ac A34 => ?_)
  refine r_done (by kernel_rfl) ?_
  refine n_then ?_
  refine wp_seq ?_
  refine wp_region_lit ?_
  refine s_one (.int .i64 (firstOf [crE c, (must_a_r (inB p c.lo c.hi) 2)])) A34 S31 (g_move (by kernel_rfl)) rfl (fun ac A35 => ?_)
  refine s_one (.bool (decide (firstOf [crE c, (must_a_r (inB p c.lo c.hi) 2)] ≠ 0))) A35 S31 (g_bin (u := .int .i64 (firstOf [crE c, (must_a_r (inB p c.lo c.hi) 2)])) (k := .int .i64 0) (by kernel_rfl) (by kernel_rfl) (fun _ => by kernel_rfl) b_neq) rfl (fun ac A36 => ?_)
  refine wpList_nil ?_
  refine n_then ?_
  refine c_ifb (b := (decide (firstOf [crE c, (must_a_r (inB p c.lo c.hi) 2)] ≠ 0))) A36 (by kernel_rfl) (fun h37 => ?_) (fun h37 => ?_)
  · have p38 := of_decide_eq_true h37
    refine wp_seq ?_
    refine wp_region_lit ?_
    refine s_one (.int .i64 (firstOf [crE c, (must_a_r (inB p c.lo c.hi) 2)])) A36 S31 (g_move (by kernel_rfl)) rfl (fun ac A39 => ?_)
    refine s_one (.int .i64 0) A39 S31 (g_assign (by kernel_rfl)) rfl (fun ac A40 => ?_)
    refine s_one (.int .i64 (firstOf [crE c, (must_a_r (inB p c.lo c.hi) 2)])) A40 S31 (g_assign (by kernel_rfl)) rfl (fun ac A41 => ?_)
    refine wpList_nil ?_
    refine n_then ?_
    refine wp_ret ?_
    refine r_then ?_
    refine fin2 (.int .i64 0) (.int .i64 (firstOf [crE c, (must_a_r (inB p c.lo c.hi) 2)])) Try.results56 A41 S31 (rv_tmp (by kernel_rfl)) (rv_tmp (by kernel_rfl)) ⟨?_, S31.kp⟩
    have zn : atE c p ≠ 0 := p38
    simp only [zv_n zn]
    rfl
  · have p42 := of_decide_eq_false h37
    have ze0 : firstOf [crE c, (must_a_r (inB p c.lo c.hi) 2)] = 0 := by simpa using h37
    have ze : atE c p = 0 := ze0
    have zz := atE_0 ze
    have ok := zz.1
    have k0 := zz.2.1
    have k1 := zz.2.2
    have p1 := ok.x1
    have p2 := ok.x2
    have p3 := ok.h1
    have p4 := ok.h2
    have p5 := ok.v1
    have p6 := ok.v2
    have pl : c.lo = min c.x1 c.x2 := rfl
    have ph : c.hi = max c.x1 c.x2 := rfl
    refine wp_skip ?_
    refine n_then ?_
    refine wp_seq ?_
    refine wp_region_lit ?_
    refine s_one (.agg #[.int .i64 c.x1, .int .i64 c.h1, .int .i64 c.v1, .int .i64 c.x2, .int .i64 c.h2, .int .i64 c.v2]) A36 S31 (g_load (g := g3) (off := 0) 1 (by kernel_rfl) rfl (by kernel_rfl)) rfl (fun ac A43 => ?_)
    refine s_one (.agg #[.int .i64 c.x1, .int .i64 c.h1, .int .i64 c.v1, .int .i64 c.x2, .int .i64 c.h2, .int .i64 c.v2]) A43 S31 (g_build (r := [(0, .agg #[.int .i64 c.x1, .int .i64 c.h1, .int .i64 c.v1, .int .i64 c.x2, .int .i64 c.h2, .int .i64 c.v2])]) (by kernel_rfl) (fun _ => by kernel_rfl)) rfl (fun ac A44 => ?_)
    refine s_one (.int .i64 p) A44 S31 (g_move (by kernel_rfl)) rfl (fun ac A45 => ?_)
    refine s_call (fs := #[]) (cp := #[]) (r := [(0, .agg #[.int .i64 c.x1, .int .i64 c.h1, .int .i64 c.v1, .int .i64 c.x2, .int .i64 c.h2, .int .i64 c.v2]), (0, .int .i64 p)]) #[.agg #[.int .i64 c.x1, .int .i64 c.h1, .int .i64 c.v1, .int .i64 c.x2, .int .i64 c.h2, .int .i64 c.v2], .int .i64 p] (.int .i64 (slp c p)) A45 S31 (slope_s c p _ ok (by omega) (by omega)) Try.call104 (by kernel_rfl) (by kernel_rfl) (by kernel_rfl) rfl (fun ac wc A46 S47 => ?_)
    refine s_one (.int .i64 (slp c p)) A46 S47 (g_assign (by kernel_rfl)) rfl (fun ac A49 => ?_)
    refine s_one (.int .i64 0) A49 S47 (g_assign (by kernel_rfl)) rfl (fun ac A50 => ?_)
    refine wpList_nil ?_
    refine n_then ?_
    refine wp_ret ?_
    refine fin2 (.int .i64 (slp c p)) (.int .i64 0) Try.results56 A50 S47 (rv_tmp (by kernel_rfl)) (rv_tmp (by kernel_rfl)) ⟨?_, S47.kp⟩
    simp only [zv_0 ze]
    rw [ze]

set_option maxRecDepth 100000 in
set_option maxHeartbeats 400000 in
theorem TimeAt_s (c : Cr) (p : Int) (w0 : World) :
    Calls Try.prog 57 #[.agg #[.int .i64 c.x1, .int .i64 c.h1, .int .i64 c.v1, .int .i64 c.x2, .int .i64 c.h2, .int .i64 c.v2], .int .i64 p] w0 fun e w' => e = .returned (.tuple #[.agg #[.int .i64 (zv (atE c p) (timLo c p)), .int .i64 (zv (atE c p) (timHi c p))], .int .i64 (atE c p)]) ∧ Below w0.heap.size w0 w' := by
  have S0 := St.start w0
  refine enter (n := 24) Try.func57 rfl rfl rfl (fun ac A0 => ?_)
  refine wp_seq ?_
  refine wp_region_lit ?_
  refine s_box (.agg #[.int .i64 c.x1, .int .i64 c.h1, .int .i64 c.v1, .int .i64 c.x2, .int .i64 c.h2, .int .i64 c.v2]) A0 S0 (by kernel_rfl) rfl (fun g3 ac wc A1 S2 => ?_)
  replace S2 : St _ (⟨g3, 23, #[.int .i64 c.x1, .int .i64 c.h1, .int .i64 c.v1, .int .i64 c.x2, .int .i64 c.h2, .int .i64 c.v2], true⟩ :: _) _ _ := S2
  refine s_alloc (#[.int .i64 0, .int .i64 0]) A1 S2 (by kernel_rfl) rfl (fun g7 ac wc A5 S6 => ?_)
  refine s_one (.int .i64 0) A5 S6 (g_assign (by kernel_rfl)) rfl (fun ac A8 => ?_)
  refine wpList_nil ?_
  refine n_then ?_
  refine wp_seq ?_
  refine wp_seq ?_
  refine r_begin (w0 := w0) (by kernel_rfl) (S6.sub sub_all sub_all) (fun wc T9 B10 => ?_)
  have S11 := S6.kept B10
  refine r_take 0 (.agg #[.int .i64 c.x1, .int .i64 c.h1, .int .i64 c.v1, .int .i64 c.x2, .int .i64 c.h2, .int .i64 c.v2]) A8 T9 (g_load (g := g3) (off := 0) 1 (by kernel_rfl) rfl (by kernel_rfl)) rfl rfl rfl (pf_then (pf_then pf_body)) (by kernel_rfl) (fun ac A12 => ?_)
  refine r_take 2 (.agg #[.int .i64 c.x1, .int .i64 c.h1, .int .i64 c.v1, .int .i64 c.x2, .int .i64 c.h2, .int .i64 c.v2]) A12 T9 (g_load (g := g3) (off := 0) 1 (by kernel_rfl) rfl (by kernel_rfl)) rfl rfl rfl (pf_then (pf_then pf_body)) (by kernel_rfl) (fun ac A13 => ?_)
  refine r_take 3 (.agg #[.int .i64 c.x1, .int .i64 c.h1, .int .i64 c.v1, .int .i64 c.x2, .int .i64 c.h2, .int .i64 c.v2]) A13 T9 (g_build (r := [(0, .agg #[.int .i64 c.x1, .int .i64 c.h1, .int .i64 c.v1, .int .i64 c.x2, .int .i64 c.h2, .int .i64 c.v2])]) (by kernel_rfl) (fun _ => by kernel_rfl)) rfl rfl rfl (pf_then (pf_then pf_body)) (by kernel_rfl) (fun ac A14 => ?_)
  refine r_take 4 (.int .i64 p) A14 T9 (g_move (by kernel_rfl)) rfl rfl rfl (pf_then (pf_then pf_body)) (by kernel_rfl) (fun ac A15 => ?_)
  refine r_1 (i := 1) (by kernel_rfl) ?_
  refine rs_call (fs := #[]) (cp := #[]) (r := [(0, .agg #[.int .i64 c.x1, .int .i64 c.h1, .int .i64 c.v1, .int .i64 c.x2, .int .i64 c.h2, .int .i64 c.v2])]) #[.agg #[.int .i64 c.x1, .int .i64 c.h1, .int .i64 c.v1, .int .i64 c.x2, .int .i64 c.h2, .int .i64 c.v2]] (.int .i64 (crE c)) A15 S11 sub_all sub_all (CheckCross_s c _) Try.call59 rfl rfl (by kernel_rfl) (by kernel_rfl) (by kernel_rfl) rfl (fun ac wc A16 S17 => ?_)
  have T19 := S17.sub sub_all sub_all
  refine r_1 (i := 5) (by kernel_rfl) ?_
  refine rs_call (fs := #[]) (cp := #[]) (r := [(0, .agg #[.int .i64 c.x1, .int .i64 c.h1, .int .i64 c.v1, .int .i64 c.x2, .int .i64 c.h2, .int .i64 c.v2]), (0, .int .i64 p)]) #[.agg #[.int .i64 c.x1, .int .i64 c.h1, .int .i64 c.v1, .int .i64 c.x2, .int .i64 c.h2, .int .i64 c.v2], .int .i64 p] (.bool (inB p c.lo c.hi)) A16 S17 sub_all sub_all (has_s c p _) Try.call103 rfl rfl (by kernel_rfl) (by kernel_rfl) (by kernel_rfl) rfl (fun ac wc A20 S21 => ?_)
  have T23 := S21.sub sub_all sub_all
  refine r_1 (i := 6) (by kernel_rfl) ?_
  refine rs_call (fs := #[]) (cp := #[]) (r := [(0, .bool (inB p c.lo c.hi)), (0, .int .i64 2)]) #[.bool (inB p c.lo c.hi), .int .i64 2] (.int .i64 (must_a_r (inB p c.lo c.hi) 2)) A20 S21 sub_all sub_all (must_a (inB p c.lo c.hi) 2 _) Try.call88 rfl rfl (by kernel_rfl) (by kernel_rfl) (by kernel_rfl) rfl (fun ac wc A24 S25 => ?_)
  have T27 := S25.sub sub_all sub_all
  refine r_1 (i := 7) (by kernel_rfl) ?_
  refine rs_bs (e := 25) (r := [(0, .int .i64 (crE c)), (1, .int .i64 (must_a_r (inB p c.lo c.hi) 2))]) (#[.int .i64 (crE c), .int .i64 (must_a_r (inB p c.lo c.hi) 2)]) A24 S25 sub_all sub_all (by kernel_rfl) (by kernel_rfl) rfl rfl rfl (fun g30 ac wc A28 S29 => ?_)
  have T31 := S29.sub (sub_skip sub_all) sub_all
  refine r_1 (i := 8) (by kernel_rfl) ?_
  refine rs_call (fs := #[]) (cp := #[]) (r := [(0, .slice (some ⟨g30, 0, none⟩) 2 2)]) #[.slice (some ⟨g30, 0, none⟩) 2 2] (.int .i64 (firstOf [crE c, (must_a_r (inB p c.lo c.hi) 2)])) A28 S29 (sub_skip sub_all) sub_all (first_s g30 ([crE c, (must_a_r (inB p c.lo c.hi) 2)]) 2 2 _ (S29.get 0 rfl) rfl (by omega)) Try.call83 rfl rfl (by kernel_rfl) (by kernel_rfl) (by kernel_rfl) rfl (fun ac wc A32 S33 => ?_)
  have T35 := S33.sub (sub_skip sub_all) sub_all
  refine r_take 9 (.int .i64 (firstOf [crE c, (must_a_r (inB p c.lo c.hi) 2)])) A32 T35 (g_assign (by kernel_rfl)) rfl rfl rfl (pf_then (pf_then pf_body)) (by kernel_rfl) (fun ac A36 => ?_)
  refine r_done (by kernel_rfl) ?_
  refine n_then ?_
  refine wp_seq ?_
  refine wp_region_lit ?_
  refine s_one (.int .i64 (firstOf [crE c, (must_a_r (inB p c.lo c.hi) 2)])) A36 S33 (g_move (by kernel_rfl)) rfl (fun ac A37 => ?_)
  refine s_one (.bool (decide (firstOf [crE c, (must_a_r (inB p c.lo c.hi) 2)] ≠ 0))) A37 S33 (g_bin (u := .int .i64 (firstOf [crE c, (must_a_r (inB p c.lo c.hi) 2)])) (k := .int .i64 0) (by kernel_rfl) (by kernel_rfl) (fun _ => by kernel_rfl) b_neq) rfl (fun ac A38 => ?_)
  refine wpList_nil ?_
  refine n_then ?_
  refine c_ifb (b := (decide (firstOf [crE c, (must_a_r (inB p c.lo c.hi) 2)] ≠ 0))) A38 (by kernel_rfl) (fun h39 => ?_) (fun h39 => ?_)
  · have p40 := of_decide_eq_true h39
    refine wp_seq ?_
    refine wp_region_lit ?_
    refine s_one (.agg #[.int .i64 0, .int .i64 0]) A38 S33 (g_build (r := []) (by kernel_rfl) (fun _ => by kernel_rfl)) rfl (fun ac A41 => ?_)
    refine s_one (.int .i64 (firstOf [crE c, (must_a_r (inB p c.lo c.hi) 2)])) A41 S33 (g_move (by kernel_rfl)) rfl (fun ac A42 => ?_)
    refine s_store (g := g7) (off := 0) (v := .agg #[.int .i64 0, .int .i64 0]) 1 (#[.int .i64 0, .int .i64 0]) A42 S33 (by kernel_rfl) (by kernel_rfl) rfl (by kernel_rfl) (fun wc S44 => ?_)
    refine s_one (.int .i64 (firstOf [crE c, (must_a_r (inB p c.lo c.hi) 2)])) A42 S44 (g_assign (by kernel_rfl)) rfl (fun ac A46 => ?_)
    refine wpList_nil ?_
    refine n_then ?_
    refine wp_ret ?_
    refine r_then ?_
    refine fin2 (.agg #[.int .i64 0, .int .i64 0]) (.int .i64 (firstOf [crE c, (must_a_r (inB p c.lo c.hi) 2)])) Try.results57 A46 S44 (rv_cell (g := g7) (off := 0) 1 (by kernel_rfl) rfl (by kernel_rfl)) (rv_tmp (by kernel_rfl)) ⟨?_, S44.kp⟩
    have zn : atE c p ≠ 0 := p40
    simp only [zv_n zn]
    rfl
  · have p47 := of_decide_eq_false h39
    have ze0 : firstOf [crE c, (must_a_r (inB p c.lo c.hi) 2)] = 0 := by simpa using h39
    have ze : atE c p = 0 := ze0
    have zz := atE_0 ze
    have ok := zz.1
    have k0 := zz.2.1
    have k1 := zz.2.2
    have p1 := ok.x1
    have p2 := ok.x2
    have p3 := ok.h1
    have p4 := ok.h2
    have p5 := ok.v1
    have p6 := ok.v2
    have pl : c.lo = min c.x1 c.x2 := rfl
    have ph : c.hi = max c.x1 c.x2 := rfl
    refine wp_skip ?_
    refine n_then ?_
    refine wp_seq ?_
    refine wp_region_lit ?_
    refine s_one (.agg #[.int .i64 c.x1, .int .i64 c.h1, .int .i64 c.v1, .int .i64 c.x2, .int .i64 c.h2, .int .i64 c.v2]) A38 S33 (g_load (g := g3) (off := 0) 2 (by kernel_rfl) rfl (by kernel_rfl)) rfl (fun ac A48 => ?_)
    refine s_one (.agg #[.int .i64 c.x1, .int .i64 c.h1, .int .i64 c.v1, .int .i64 c.x2, .int .i64 c.h2, .int .i64 c.v2]) A48 S33 (g_build (r := [(0, .agg #[.int .i64 c.x1, .int .i64 c.h1, .int .i64 c.v1, .int .i64 c.x2, .int .i64 c.h2, .int .i64 c.v2])]) (by kernel_rfl) (fun _ => by kernel_rfl)) rfl (fun ac A49 => ?_)
    refine s_one (.int .i64 p) A49 S33 (g_move (by kernel_rfl)) rfl (fun ac A50 => ?_)
    have q54 := tim_bd (c := c) (p := p) ok (by omega) (by omega)
    refine s_call (fs := #[]) (cp := #[]) (r := [(0, .agg #[.int .i64 c.x1, .int .i64 c.h1, .int .i64 c.v1, .int .i64 c.x2, .int .i64 c.h2, .int .i64 c.v2]), (0, .int .i64 p)]) #[.agg #[.int .i64 c.x1, .int .i64 c.h1, .int .i64 c.v1, .int .i64 c.x2, .int .i64 c.h2, .int .i64 c.v2], .int .i64 p] (.agg #[.int .i64 (timLo c p), .int .i64 (timHi c p)]) A50 S33 (ctime_s c p _ ok (by omega) (by omega)) Try.call105 (by kernel_rfl) (by kernel_rfl) (by kernel_rfl) rfl (fun ac wc A51 S52 => ?_)
    refine s_store (g := g7) (off := 0) (v := .agg #[.int .i64 (timLo c p), .int .i64 (timHi c p)]) 1 (#[.int .i64 (timLo c p), .int .i64 (timHi c p)]) A51 S52 (by kernel_rfl) (by kernel_rfl) rfl (by kernel_rfl) (fun wc S56 => ?_)
    refine s_one (.int .i64 0) A51 S56 (g_assign (by kernel_rfl)) rfl (fun ac A58 => ?_)
    refine wpList_nil ?_
    refine n_then ?_
    refine wp_ret ?_
    refine fin2 (.agg #[.int .i64 (timLo c p), .int .i64 (timHi c p)]) (.int .i64 0) Try.results57 A58 S56 (rv_cell (g := g7) (off := 0) 1 (by kernel_rfl) rfl (by kernel_rfl)) (rv_tmp (by kernel_rfl)) ⟨?_, S56.kp⟩
    simp only [zv_0 ze]
    rw [ze]

set_option maxRecDepth 100000 in
set_option maxHeartbeats 400000 in
theorem CheckCrossing_s (c : Cr) (p : Int) (w0 : World) :
    Calls Try.prog 58 #[.agg #[.int .i64 c.x1, .int .i64 c.h1, .int .i64 c.v1, .int .i64 c.x2, .int .i64 c.h2, .int .i64 c.v2], .int .i64 p] w0 fun e w' => e = .returned (.int .i64 (ckE c p)) ∧ Below w0.heap.size w0 w' := by
  have S0 := St.start w0
  refine enter (n := 38) Try.func58 rfl rfl rfl (fun ac A0 => ?_)
  refine wp_seq ?_
  refine wp_region_lit ?_
  refine s_box (.agg #[.int .i64 c.x1, .int .i64 c.h1, .int .i64 c.v1, .int .i64 c.x2, .int .i64 c.h2, .int .i64 c.v2]) A0 S0 (by kernel_rfl) rfl (fun g3 ac wc A1 S2 => ?_)
  replace S2 : St _ (⟨g3, 23, #[.int .i64 c.x1, .int .i64 c.h1, .int .i64 c.v1, .int .i64 c.x2, .int .i64 c.h2, .int .i64 c.v2], true⟩ :: _) _ _ := S2
  refine s_one (.int .i64 0) A1 S2 (g_assign (by kernel_rfl)) rfl (fun ac A5 => ?_)
  refine wpList_nil ?_
  refine n_then ?_
  refine wp_seq ?_
  refine wp_seq ?_
  refine r_begin (w0 := w0) (by kernel_rfl) (S2.sub sub_all sub_all) (fun wc T6 B7 => ?_)
  have S8 := S2.kept B7
  refine r_take 0 (.agg #[.int .i64 c.x1, .int .i64 c.h1, .int .i64 c.v1, .int .i64 c.x2, .int .i64 c.h2, .int .i64 c.v2]) A5 T6 (g_load (g := g3) (off := 0) 0 (by kernel_rfl) rfl (by kernel_rfl)) rfl rfl rfl (pf_then (pf_then pf_body)) (by kernel_rfl) (fun ac A9 => ?_)
  refine r_take 2 (.agg #[.int .i64 c.x1, .int .i64 c.h1, .int .i64 c.v1, .int .i64 c.x2, .int .i64 c.h2, .int .i64 c.v2]) A9 T6 (g_load (g := g3) (off := 0) 0 (by kernel_rfl) rfl (by kernel_rfl)) rfl rfl rfl (pf_then (pf_then pf_body)) (by kernel_rfl) (fun ac A10 => ?_)
  refine r_take 3 (.agg #[.int .i64 c.x1, .int .i64 c.h1, .int .i64 c.v1, .int .i64 c.x2, .int .i64 c.h2, .int .i64 c.v2]) A10 T6 (g_build (r := [(0, .agg #[.int .i64 c.x1, .int .i64 c.h1, .int .i64 c.v1, .int .i64 c.x2, .int .i64 c.h2, .int .i64 c.v2])]) (by kernel_rfl) (fun _ => by kernel_rfl)) rfl rfl rfl (pf_then (pf_then pf_body)) (by kernel_rfl) (fun ac A11 => ?_)
  refine r_take 4 (.int .i64 p) A11 T6 (g_move (by kernel_rfl)) rfl rfl rfl (pf_then (pf_then pf_body)) (by kernel_rfl) (fun ac A12 => ?_)
  refine r_1 (i := 1) (by kernel_rfl) ?_
  refine rs_call (fs := #[]) (cp := #[]) (r := [(0, .agg #[.int .i64 c.x1, .int .i64 c.h1, .int .i64 c.v1, .int .i64 c.x2, .int .i64 c.h2, .int .i64 c.v2])]) #[.agg #[.int .i64 c.x1, .int .i64 c.h1, .int .i64 c.v1, .int .i64 c.x2, .int .i64 c.h2, .int .i64 c.v2]] (.int .i64 (crE c)) A12 S8 sub_all sub_all (CheckCross_s c _) Try.call59 rfl rfl (by kernel_rfl) (by kernel_rfl) (by kernel_rfl) rfl (fun ac wc A13 S14 => ?_)
  have T16 := S14.sub sub_all sub_all
  refine r_1 (i := 5) (by kernel_rfl) ?_
  refine rs_call (fs := #[]) (cp := #[]) (r := [(0, .agg #[.int .i64 c.x1, .int .i64 c.h1, .int .i64 c.v1, .int .i64 c.x2, .int .i64 c.h2, .int .i64 c.v2]), (0, .int .i64 p)]) #[.agg #[.int .i64 c.x1, .int .i64 c.h1, .int .i64 c.v1, .int .i64 c.x2, .int .i64 c.h2, .int .i64 c.v2], .int .i64 p] (.bool (inB p c.lo c.hi)) A13 S14 sub_all sub_all (has_s c p _) Try.call103 rfl rfl (by kernel_rfl) (by kernel_rfl) (by kernel_rfl) rfl (fun ac wc A17 S18 => ?_)
  have T20 := S18.sub sub_all sub_all
  refine r_1 (i := 6) (by kernel_rfl) ?_
  refine rs_call (fs := #[]) (cp := #[]) (r := [(0, .bool (inB p c.lo c.hi)), (0, .int .i64 2)]) #[.bool (inB p c.lo c.hi), .int .i64 2] (.int .i64 (must_a_r (inB p c.lo c.hi) 2)) A17 S18 sub_all sub_all (must_a (inB p c.lo c.hi) 2 _) Try.call88 rfl rfl (by kernel_rfl) (by kernel_rfl) (by kernel_rfl) rfl (fun ac wc A21 S22 => ?_)
  have T24 := S22.sub sub_all sub_all
  refine r_1 (i := 7) (by kernel_rfl) ?_
  refine rs_bs (e := 25) (r := [(0, .int .i64 (crE c)), (1, .int .i64 (must_a_r (inB p c.lo c.hi) 2))]) (#[.int .i64 (crE c), .int .i64 (must_a_r (inB p c.lo c.hi) 2)]) A21 S22 sub_all sub_all (by kernel_rfl) (by kernel_rfl) rfl rfl rfl (fun g27 ac wc A25 S26 => ?_)
  have T28 := S26.sub (sub_skip sub_all) sub_all
  refine r_1 (i := 8) (by kernel_rfl) ?_
  refine rs_call (fs := #[]) (cp := #[]) (r := [(0, .slice (some ⟨g27, 0, none⟩) 2 2)]) #[.slice (some ⟨g27, 0, none⟩) 2 2] (.int .i64 (firstOf [crE c, (must_a_r (inB p c.lo c.hi) 2)])) A25 S26 (sub_skip sub_all) sub_all (first_s g27 ([crE c, (must_a_r (inB p c.lo c.hi) 2)]) 2 2 _ (S26.get 0 rfl) rfl (by omega)) Try.call83 rfl rfl (by kernel_rfl) (by kernel_rfl) (by kernel_rfl) rfl (fun ac wc A29 S30 => ?_)
  have T32 := S30.sub (sub_skip sub_all) sub_all
  refine r_take 9 (.int .i64 (firstOf [crE c, (must_a_r (inB p c.lo c.hi) 2)])) A29 T32 (g_assign (by kernel_rfl)) rfl rfl rfl (pf_then (pf_then pf_body)) (by kernel_rfl) (fun ac A33 => ?_)
  refine r_done (by kernel_rfl) ?_
  refine n_then ?_
  refine wp_seq ?_
  refine wp_region_lit ?_
  refine s_one (.int .i64 (firstOf [crE c, (must_a_r (inB p c.lo c.hi) 2)])) A33 S30 (g_move (by kernel_rfl)) rfl (fun ac A34 => ?_)
  refine s_one (.bool (decide (firstOf [crE c, (must_a_r (inB p c.lo c.hi) 2)] ≠ 0))) A34 S30 (g_bin (u := .int .i64 (firstOf [crE c, (must_a_r (inB p c.lo c.hi) 2)])) (k := .int .i64 0) (by kernel_rfl) (by kernel_rfl) (fun _ => by kernel_rfl) b_neq) rfl (fun ac A35 => ?_)
  refine wpList_nil ?_
  refine n_then ?_
  refine c_ifb (b := (decide (firstOf [crE c, (must_a_r (inB p c.lo c.hi) 2)] ≠ 0))) A35 (by kernel_rfl) (fun h36 => ?_) (fun h36 => ?_)
  · have p37 := of_decide_eq_true h36
    refine wp_seq ?_
    refine wp_region_lit ?_
    refine s_one (.int .i64 (firstOf [crE c, (must_a_r (inB p c.lo c.hi) 2)])) A35 S30 (g_move (by kernel_rfl)) rfl (fun ac A38 => ?_)
    refine s_one (.int .i64 (firstOf [crE c, (must_a_r (inB p c.lo c.hi) 2)])) A38 S30 (g_assign (by kernel_rfl)) rfl (fun ac A39 => ?_)
    refine wpList_nil ?_
    refine n_then ?_
    refine wp_ret ?_
    refine r_then ?_
    refine fin1 (.int .i64 (firstOf [crE c, (must_a_r (inB p c.lo c.hi) 2)])) Try.results58 A39 S30 (rv_tmp (by kernel_rfl)) ⟨?_, S30.kp⟩
    have zn : atE c p ≠ 0 := p37
    rw [ckE_n zn]
    rfl
  · have p40 := of_decide_eq_false h36
    have ze0 : firstOf [crE c, (must_a_r (inB p c.lo c.hi) 2)] = 0 := by simpa using h36
    have ze : atE c p = 0 := ze0
    have zz := atE_0 ze
    have ok := zz.1
    have k0 := zz.2.1
    have k1 := zz.2.2
    have p1 := ok.x1
    have p2 := ok.x2
    have p3 := ok.h1
    have p4 := ok.h2
    have p5 := ok.v1
    have p6 := ok.v2
    have pl : c.lo = min c.x1 c.x2 := rfl
    have ph : c.hi = max c.x1 c.x2 := rfl
    refine wp_skip ?_
    refine n_then ?_
    refine wp_seq ?_
    refine wp_region_lit ?_
    refine s_one (.agg #[.int .i64 c.x1, .int .i64 c.h1, .int .i64 c.v1, .int .i64 c.x2, .int .i64 c.h2, .int .i64 c.v2]) A35 S30 (g_load (g := g3) (off := 0) 1 (by kernel_rfl) rfl (by kernel_rfl)) rfl (fun ac A41 => ?_)
    refine s_one (.agg #[.int .i64 c.x1, .int .i64 c.h1, .int .i64 c.v1, .int .i64 c.x2, .int .i64 c.h2, .int .i64 c.v2]) A41 S30 (g_build (r := [(0, .agg #[.int .i64 c.x1, .int .i64 c.h1, .int .i64 c.v1, .int .i64 c.x2, .int .i64 c.h2, .int .i64 c.v2])]) (by kernel_rfl) (fun _ => by kernel_rfl)) rfl (fun ac A42 => ?_)
    refine s_alloc (#[.int .i64 0, .int .i64 0, .int .i64 0, .int .i64 0, .int .i64 0, .int .i64 0]) A42 S30 (by kernel_rfl) rfl (fun g45 ac wc A43 S44 => ?_)
    refine s_store (g := g45) (off := 0) (v := .agg #[.int .i64 c.x1, .int .i64 c.h1, .int .i64 c.v1, .int .i64 c.x2, .int .i64 c.h2, .int .i64 c.v2]) 0 (#[.int .i64 c.x1, .int .i64 c.h1, .int .i64 c.v1, .int .i64 c.x2, .int .i64 c.h2, .int .i64 c.v2]) A43 S44 (by kernel_rfl) (by kernel_rfl) rfl (by kernel_rfl) (fun wc S47 => ?_)
    refine wpList_nil ?_
    refine n_then ?_
    refine wp_seq ?_
    refine wp_seq ?_
    refine c_cut (fun ac wc => Fr 38 ac [(37, .bool ((decide (slp c p > 0)) || ((inB (p + 1) c.lo c.hi) && (decide (slp c (p + 1) ≤ 0))))), (0, .agg #[.int .i64 c.x1, .int .i64 c.h1, .int .i64 c.v1, .int .i64 c.x2, .int .i64 c.h2, .int .i64 c.v2]), (1, .int .i64 p), (2, .pointer (some ⟨g3, 0, none⟩)), (4, .int .i64 0), (7, .agg #[.int .i64 c.x1, .int .i64 c.h1, .int .i64 c.v1, .int .i64 c.x2, .int .i64 c.h2, .int .i64 c.v2]), (9, .agg #[.int .i64 c.x1, .int .i64 c.h1, .int .i64 c.v1, .int .i64 c.x2, .int .i64 c.h2, .int .i64 c.v2]), (10, .agg #[.int .i64 c.x1, .int .i64 c.h1, .int .i64 c.v1, .int .i64 c.x2, .int .i64 c.h2, .int .i64 c.v2]), (11, .int .i64 p), (8, .int .i64 (crE c)), (12, .bool (inB p c.lo c.hi)), (13, .int .i64 (must_a_r (inB p c.lo c.hi) 2)), (14, .slice (some ⟨g27, 0, none⟩) 2 2), (15, .int .i64 (firstOf [crE c, (must_a_r (inB p c.lo c.hi) 2)])), (5, .int .i64 (firstOf [crE c, (must_a_r (inB p c.lo c.hi) 2)])), (16, .int .i64 (firstOf [crE c, (must_a_r (inB p c.lo c.hi) 2)])), (17, .bool (decide (firstOf [crE c, (must_a_r (inB p c.lo c.hi) 2)] ≠ 0))), (19, .agg #[.int .i64 c.x1, .int .i64 c.h1, .int .i64 c.v1, .int .i64 c.x2, .int .i64 c.h2, .int .i64 c.v2]), (20, .agg #[.int .i64 c.x1, .int .i64 c.h1, .int .i64 c.v1, .int .i64 c.x2, .int .i64 c.h2, .int .i64 c.v2]), (6, .pointer (some ⟨g45, 0, none⟩))] ∧ St w0 [⟨g45, 119, #[.int .i64 c.x1, .int .i64 c.h1, .int .i64 c.v1, .int .i64 c.x2, .int .i64 c.h2, .int .i64 c.v2], true⟩, ⟨g27, 25, #[.int .i64 (crE c), .int .i64 (must_a_r (inB p c.lo c.hi) 2)], true⟩, ⟨g3, 23, #[.int .i64 c.x1, .int .i64 c.h1, .int .i64 c.v1, .int .i64 c.x2, .int .i64 c.h2, .int .i64 c.v2], true⟩] [] wc) ?_ ?_
    · refine wp_region_lit ?_
      refine s_one (.agg #[.int .i64 c.x1, .int .i64 c.h1, .int .i64 c.v1, .int .i64 c.x2, .int .i64 c.h2, .int .i64 c.v2]) A43 S47 (g_load (g := g45) (off := 0) 0 (by kernel_rfl) rfl (by kernel_rfl)) rfl (fun ac A49 => ?_)
      refine s_one (.int .i64 p) A49 S47 (g_move (by kernel_rfl)) rfl (fun ac A50 => ?_)
      refine s_call (fs := #[]) (cp := #[]) (r := [(0, .agg #[.int .i64 c.x1, .int .i64 c.h1, .int .i64 c.v1, .int .i64 c.x2, .int .i64 c.h2, .int .i64 c.v2]), (0, .int .i64 p)]) #[.agg #[.int .i64 c.x1, .int .i64 c.h1, .int .i64 c.v1, .int .i64 c.x2, .int .i64 c.h2, .int .i64 c.v2], .int .i64 p] (.int .i64 (slp c p)) A50 S47 (slope_s c p _ ok (by omega) (by omega)) Try.call104 (by kernel_rfl) (by kernel_rfl) (by kernel_rfl) rfl (fun ac wc A51 S52 => ?_)
      refine s_one (.bool (decide (slp c p > 0))) A51 S52 (g_bin (u := .int .i64 (slp c p)) (k := .int .i64 0) (by kernel_rfl) (by kernel_rfl) (fun _ => by kernel_rfl) (fun _ => by kernel_rfl)) rfl (fun ac A54 => ?_)
      refine s_one (.bool (decide (slp c p > 0))) A54 S52 (g_move (by kernel_rfl)) rfl (fun ac A55 => ?_)
      refine by_bool (decide (slp c p > 0)) (fun h56 => ?_) (fun h56 => ?_)
      · have p57 := of_decide_eq_true h56
        refine s_not (dj := 25) (b := (decide (slp c p > 0))) A55 (by kernel_rfl) (by kernel_rfl) h56 rfl (fun ac A58 => ?_)
        refine s_not (dj := 25) (b := (decide (slp c p > 0))) A58 (by kernel_rfl) (by kernel_rfl) h56 rfl (fun ac A59 => ?_)
        refine s_not (dj := 25) (b := (decide (slp c p > 0))) A59 (by kernel_rfl) (by kernel_rfl) h56 rfl (fun ac A60 => ?_)
        refine s_not (dj := 25) (b := (decide (slp c p > 0))) A60 (by kernel_rfl) (by kernel_rfl) h56 rfl (fun ac A61 => ?_)
        refine s_not (dj := 25) (b := (decide (slp c p > 0))) A61 (by kernel_rfl) (by kernel_rfl) h56 rfl (fun ac A62 => ?_)
        refine s_notU (dj := 30) A62 (by kernel_rfl) (by kernel_rfl) rfl (fun ac A63 => ?_)
        refine s_notU (dj := 30) A63 (by kernel_rfl) (by kernel_rfl) rfl (fun ac A64 => ?_)
        refine s_notU (dj := 30) A64 (by kernel_rfl) (by kernel_rfl) rfl (fun ac A65 => ?_)
        refine s_notU (dj := 30) A65 (by kernel_rfl) (by kernel_rfl) rfl (fun ac A66 => ?_)
        refine s_notU (dj := 30) A66 (by kernel_rfl) (by kernel_rfl) rfl (fun ac A67 => ?_)
        refine s_not (dj := 25) (b := (decide (slp c p > 0))) A67 (by kernel_rfl) (by kernel_rfl) h56 rfl (fun ac A68 => ?_)
        refine s_one (.bool true) A68 S52 (g_pick_t (b := (decide (slp c p > 0))) (by kernel_rfl) h56 (by kernel_rfl)) rfl (fun ac A69 => ?_)
        refine wpList_nil ?_
        refine n_then ?_
        exact ⟨(A69.slot (A69.slot (A69.slot (A69.slot (A69.slot (A69.slot (A69.slot (A69.slot (A69.slot (A69.slot (A69.slot (A69.slot (A69.slot (A69.slot (A69.slot (A69.slot (A69.slot (A69.slot (A69.slot (A69.slot A69.nil (v := .pointer (some ⟨g45, 0, none⟩)) (by kernel_rfl) rfl) (v := .agg #[.int .i64 c.x1, .int .i64 c.h1, .int .i64 c.v1, .int .i64 c.x2, .int .i64 c.h2, .int .i64 c.v2]) (by kernel_rfl) rfl) (v := .agg #[.int .i64 c.x1, .int .i64 c.h1, .int .i64 c.v1, .int .i64 c.x2, .int .i64 c.h2, .int .i64 c.v2]) (by kernel_rfl) rfl) (v := .bool (decide (firstOf [crE c, (must_a_r (inB p c.lo c.hi) 2)] ≠ 0))) (by kernel_rfl) rfl) (v := .int .i64 (firstOf [crE c, (must_a_r (inB p c.lo c.hi) 2)])) (by kernel_rfl) rfl) (v := .int .i64 (firstOf [crE c, (must_a_r (inB p c.lo c.hi) 2)])) (by kernel_rfl) rfl) (v := .int .i64 (firstOf [crE c, (must_a_r (inB p c.lo c.hi) 2)])) (by kernel_rfl) rfl) (v := .slice (some ⟨g27, 0, none⟩) 2 2) (by kernel_rfl) rfl) (v := .int .i64 (must_a_r (inB p c.lo c.hi) 2)) (by kernel_rfl) rfl) (v := .bool (inB p c.lo c.hi)) (by kernel_rfl) rfl) (v := .int .i64 (crE c)) (by kernel_rfl) rfl) (v := .int .i64 p) (by kernel_rfl) rfl) (v := .agg #[.int .i64 c.x1, .int .i64 c.h1, .int .i64 c.v1, .int .i64 c.x2, .int .i64 c.h2, .int .i64 c.v2]) (by kernel_rfl) rfl) (v := .agg #[.int .i64 c.x1, .int .i64 c.h1, .int .i64 c.v1, .int .i64 c.x2, .int .i64 c.h2, .int .i64 c.v2]) (by kernel_rfl) rfl) (v := .agg #[.int .i64 c.x1, .int .i64 c.h1, .int .i64 c.v1, .int .i64 c.x2, .int .i64 c.h2, .int .i64 c.v2]) (by kernel_rfl) rfl) (v := .int .i64 0) (by kernel_rfl) rfl) (v := .pointer (some ⟨g3, 0, none⟩)) (by kernel_rfl) rfl) (v := .int .i64 p) (by kernel_rfl) rfl) (v := .agg #[.int .i64 c.x1, .int .i64 c.h1, .int .i64 c.v1, .int .i64 c.x2, .int .i64 c.h2, .int .i64 c.v2]) (by kernel_rfl) rfl) (v := .bool true) (by kernel_rfl) (congrArg Value.bool (b_ot1 h56).symm)), S52.sub sub_all sub_all⟩
      · have p70 := of_decide_eq_false h56
        refine s_want (dj := 25) (b := (decide (slp c p > 0))) A55 (by kernel_rfl) (by kernel_rfl) h56 ?_
        refine s_one (.agg #[.int .i64 c.x1, .int .i64 c.h1, .int .i64 c.v1, .int .i64 c.x2, .int .i64 c.h2, .int .i64 c.v2]) A55 S52 (g_load (g := g45) (off := 0) 0 (by kernel_rfl) rfl (by kernel_rfl)) rfl (fun ac A71 => ?_)
        refine s_want (dj := 25) (b := (decide (slp c p > 0))) A71 (by kernel_rfl) (by kernel_rfl) h56 ?_
        refine s_one (.int .i64 p) A71 S52 (g_move (by kernel_rfl)) rfl (fun ac A72 => ?_)
        refine s_want (dj := 25) (b := (decide (slp c p > 0))) A72 (by kernel_rfl) (by kernel_rfl) h56 ?_
        refine s_one (.int .i64 (p + 1)) A72 S52 (g_bin (u := .int .i64 p) (k := .int .i64 1) (by kernel_rfl) (by kernel_rfl) (fun _ => by kernel_rfl) (b_add (by omega))) rfl (fun ac A73 => ?_)
        refine s_want (dj := 25) (b := (decide (slp c p > 0))) A73 (by kernel_rfl) (by kernel_rfl) h56 ?_
        refine s_call (fs := #[]) (cp := #[]) (r := [(0, .agg #[.int .i64 c.x1, .int .i64 c.h1, .int .i64 c.v1, .int .i64 c.x2, .int .i64 c.h2, .int .i64 c.v2]), (0, .int .i64 (p + 1))]) #[.agg #[.int .i64 c.x1, .int .i64 c.h1, .int .i64 c.v1, .int .i64 c.x2, .int .i64 c.h2, .int .i64 c.v2], .int .i64 (p + 1)] (.bool (inB (p + 1) c.lo c.hi)) A73 S52 (has_s c (p + 1) _) Try.call103 (by kernel_rfl) (by kernel_rfl) (by kernel_rfl) rfl (fun ac wc A74 S75 => ?_)
        refine s_want (dj := 25) (b := (decide (slp c p > 0))) A74 (by kernel_rfl) (by kernel_rfl) h56 ?_
        refine s_one (.bool (inB (p + 1) c.lo c.hi)) A74 S75 (g_move (by kernel_rfl)) rfl (fun ac A77 => ?_)
        refine by_bool (inB (p + 1) c.lo c.hi) (fun h78 => ?_) (fun h78 => ?_)
        · have hin := inB_true.1 h78
          refine s_want (dj := 30) (b := (inB (p + 1) c.lo c.hi)) A77 (by kernel_rfl) (by kernel_rfl) h78 ?_
          refine s_one (.agg #[.int .i64 c.x1, .int .i64 c.h1, .int .i64 c.v1, .int .i64 c.x2, .int .i64 c.h2, .int .i64 c.v2]) A77 S75 (g_load (g := g45) (off := 0) 0 (by kernel_rfl) rfl (by kernel_rfl)) rfl (fun ac A79 => ?_)
          refine s_want (dj := 30) (b := (inB (p + 1) c.lo c.hi)) A79 (by kernel_rfl) (by kernel_rfl) h78 ?_
          refine s_one (.int .i64 p) A79 S75 (g_move (by kernel_rfl)) rfl (fun ac A80 => ?_)
          refine s_want (dj := 30) (b := (inB (p + 1) c.lo c.hi)) A80 (by kernel_rfl) (by kernel_rfl) h78 ?_
          refine s_one (.int .i64 (p + 1)) A80 S75 (g_bin (u := .int .i64 p) (k := .int .i64 1) (by kernel_rfl) (by kernel_rfl) (fun _ => by kernel_rfl) (b_add (by omega))) rfl (fun ac A81 => ?_)
          refine s_want (dj := 30) (b := (inB (p + 1) c.lo c.hi)) A81 (by kernel_rfl) (by kernel_rfl) h78 ?_
          refine s_call (fs := #[]) (cp := #[]) (r := [(0, .agg #[.int .i64 c.x1, .int .i64 c.h1, .int .i64 c.v1, .int .i64 c.x2, .int .i64 c.h2, .int .i64 c.v2]), (0, .int .i64 (p + 1))]) #[.agg #[.int .i64 c.x1, .int .i64 c.h1, .int .i64 c.v1, .int .i64 c.x2, .int .i64 c.h2, .int .i64 c.v2], .int .i64 (p + 1)] (.int .i64 (slp c (p + 1))) A81 S75 (slope_s c (p + 1) _ ok (by omega) (by omega)) Try.call104 (by kernel_rfl) (by kernel_rfl) (by kernel_rfl) rfl (fun ac wc A82 S83 => ?_)
          refine s_want (dj := 30) (b := (inB (p + 1) c.lo c.hi)) A82 (by kernel_rfl) (by kernel_rfl) h78 ?_
          refine s_one (.bool (decide (slp c (p + 1) ≤ 0))) A82 S83 (g_bin (u := .int .i64 (slp c (p + 1))) (k := .int .i64 0) (by kernel_rfl) (by kernel_rfl) (fun _ => by kernel_rfl) (fun _ => by kernel_rfl)) rfl (fun ac A85 => ?_)
          refine s_want (dj := 25) (b := (decide (slp c p > 0))) A85 (by kernel_rfl) (by kernel_rfl) h56 ?_
          refine s_one (.bool (decide (slp c (p + 1) ≤ 0))) A85 S83 (g_pick_t (b := (inB (p + 1) c.lo c.hi)) (by kernel_rfl) h78 (by kernel_rfl)) rfl (fun ac A86 => ?_)
          refine s_one (.bool (decide (slp c (p + 1) ≤ 0))) A86 S83 (g_pick_f (b := (decide (slp c p > 0))) (by kernel_rfl) h56 (by kernel_rfl)) rfl (fun ac A87 => ?_)
          refine wpList_nil ?_
          refine n_then ?_
          exact ⟨(A87.slot (A87.slot (A87.slot (A87.slot (A87.slot (A87.slot (A87.slot (A87.slot (A87.slot (A87.slot (A87.slot (A87.slot (A87.slot (A87.slot (A87.slot (A87.slot (A87.slot (A87.slot (A87.slot (A87.slot A87.nil (v := .pointer (some ⟨g45, 0, none⟩)) (by kernel_rfl) rfl) (v := .agg #[.int .i64 c.x1, .int .i64 c.h1, .int .i64 c.v1, .int .i64 c.x2, .int .i64 c.h2, .int .i64 c.v2]) (by kernel_rfl) rfl) (v := .agg #[.int .i64 c.x1, .int .i64 c.h1, .int .i64 c.v1, .int .i64 c.x2, .int .i64 c.h2, .int .i64 c.v2]) (by kernel_rfl) rfl) (v := .bool (decide (firstOf [crE c, (must_a_r (inB p c.lo c.hi) 2)] ≠ 0))) (by kernel_rfl) rfl) (v := .int .i64 (firstOf [crE c, (must_a_r (inB p c.lo c.hi) 2)])) (by kernel_rfl) rfl) (v := .int .i64 (firstOf [crE c, (must_a_r (inB p c.lo c.hi) 2)])) (by kernel_rfl) rfl) (v := .int .i64 (firstOf [crE c, (must_a_r (inB p c.lo c.hi) 2)])) (by kernel_rfl) rfl) (v := .slice (some ⟨g27, 0, none⟩) 2 2) (by kernel_rfl) rfl) (v := .int .i64 (must_a_r (inB p c.lo c.hi) 2)) (by kernel_rfl) rfl) (v := .bool (inB p c.lo c.hi)) (by kernel_rfl) rfl) (v := .int .i64 (crE c)) (by kernel_rfl) rfl) (v := .int .i64 p) (by kernel_rfl) rfl) (v := .agg #[.int .i64 c.x1, .int .i64 c.h1, .int .i64 c.v1, .int .i64 c.x2, .int .i64 c.h2, .int .i64 c.v2]) (by kernel_rfl) rfl) (v := .agg #[.int .i64 c.x1, .int .i64 c.h1, .int .i64 c.v1, .int .i64 c.x2, .int .i64 c.h2, .int .i64 c.v2]) (by kernel_rfl) rfl) (v := .agg #[.int .i64 c.x1, .int .i64 c.h1, .int .i64 c.v1, .int .i64 c.x2, .int .i64 c.h2, .int .i64 c.v2]) (by kernel_rfl) rfl) (v := .int .i64 0) (by kernel_rfl) rfl) (v := .pointer (some ⟨g3, 0, none⟩)) (by kernel_rfl) rfl) (v := .int .i64 p) (by kernel_rfl) rfl) (v := .agg #[.int .i64 c.x1, .int .i64 c.h1, .int .i64 c.v1, .int .i64 c.x2, .int .i64 c.h2, .int .i64 c.v2]) (by kernel_rfl) rfl) (v := .bool (decide (slp c (p + 1) ≤ 0))) (by kernel_rfl) (congrArg Value.bool (b_or_f h56 (b_and_t h78 (Eq.refl (decide (slp c (p + 1) ≤ 0))))).symm)), S83.sub sub_all sub_all⟩
        · refine s_not (dj := 30) (b := (inB (p + 1) c.lo c.hi)) A77 (by kernel_rfl) (by kernel_rfl) h78 rfl (fun ac A88 => ?_)
          refine s_not (dj := 30) (b := (inB (p + 1) c.lo c.hi)) A88 (by kernel_rfl) (by kernel_rfl) h78 rfl (fun ac A89 => ?_)
          refine s_not (dj := 30) (b := (inB (p + 1) c.lo c.hi)) A89 (by kernel_rfl) (by kernel_rfl) h78 rfl (fun ac A90 => ?_)
          refine s_not (dj := 30) (b := (inB (p + 1) c.lo c.hi)) A90 (by kernel_rfl) (by kernel_rfl) h78 rfl (fun ac A91 => ?_)
          refine s_not (dj := 30) (b := (inB (p + 1) c.lo c.hi)) A91 (by kernel_rfl) (by kernel_rfl) h78 rfl (fun ac A92 => ?_)
          refine s_want (dj := 25) (b := (decide (slp c p > 0))) A92 (by kernel_rfl) (by kernel_rfl) h56 ?_
          refine s_one (.bool false) A92 S75 (g_pick_f (b := (inB (p + 1) c.lo c.hi)) (by kernel_rfl) h78 (by kernel_rfl)) rfl (fun ac A93 => ?_)
          refine s_one (.bool false) A93 S75 (g_pick_f (b := (decide (slp c p > 0))) (by kernel_rfl) h56 (by kernel_rfl)) rfl (fun ac A94 => ?_)
          refine wpList_nil ?_
          refine n_then ?_
          exact ⟨(A94.slot (A94.slot (A94.slot (A94.slot (A94.slot (A94.slot (A94.slot (A94.slot (A94.slot (A94.slot (A94.slot (A94.slot (A94.slot (A94.slot (A94.slot (A94.slot (A94.slot (A94.slot (A94.slot (A94.slot A94.nil (v := .pointer (some ⟨g45, 0, none⟩)) (by kernel_rfl) rfl) (v := .agg #[.int .i64 c.x1, .int .i64 c.h1, .int .i64 c.v1, .int .i64 c.x2, .int .i64 c.h2, .int .i64 c.v2]) (by kernel_rfl) rfl) (v := .agg #[.int .i64 c.x1, .int .i64 c.h1, .int .i64 c.v1, .int .i64 c.x2, .int .i64 c.h2, .int .i64 c.v2]) (by kernel_rfl) rfl) (v := .bool (decide (firstOf [crE c, (must_a_r (inB p c.lo c.hi) 2)] ≠ 0))) (by kernel_rfl) rfl) (v := .int .i64 (firstOf [crE c, (must_a_r (inB p c.lo c.hi) 2)])) (by kernel_rfl) rfl) (v := .int .i64 (firstOf [crE c, (must_a_r (inB p c.lo c.hi) 2)])) (by kernel_rfl) rfl) (v := .int .i64 (firstOf [crE c, (must_a_r (inB p c.lo c.hi) 2)])) (by kernel_rfl) rfl) (v := .slice (some ⟨g27, 0, none⟩) 2 2) (by kernel_rfl) rfl) (v := .int .i64 (must_a_r (inB p c.lo c.hi) 2)) (by kernel_rfl) rfl) (v := .bool (inB p c.lo c.hi)) (by kernel_rfl) rfl) (v := .int .i64 (crE c)) (by kernel_rfl) rfl) (v := .int .i64 p) (by kernel_rfl) rfl) (v := .agg #[.int .i64 c.x1, .int .i64 c.h1, .int .i64 c.v1, .int .i64 c.x2, .int .i64 c.h2, .int .i64 c.v2]) (by kernel_rfl) rfl) (v := .agg #[.int .i64 c.x1, .int .i64 c.h1, .int .i64 c.v1, .int .i64 c.x2, .int .i64 c.h2, .int .i64 c.v2]) (by kernel_rfl) rfl) (v := .agg #[.int .i64 c.x1, .int .i64 c.h1, .int .i64 c.v1, .int .i64 c.x2, .int .i64 c.h2, .int .i64 c.v2]) (by kernel_rfl) rfl) (v := .int .i64 0) (by kernel_rfl) rfl) (v := .pointer (some ⟨g3, 0, none⟩)) (by kernel_rfl) rfl) (v := .int .i64 p) (by kernel_rfl) rfl) (v := .agg #[.int .i64 c.x1, .int .i64 c.h1, .int .i64 c.v1, .int .i64 c.x2, .int .i64 c.h2, .int .i64 c.v2]) (by kernel_rfl) rfl) (v := .bool false) (by kernel_rfl) (congrArg Value.bool (b_of h56 (b_af1 h78)).symm)), S75.sub sub_all sub_all⟩
    · rintro ac wc ⟨A95, S96⟩
      refine n_then ?_
      refine c_ifb (b := ((decide (slp c p > 0)) || ((inB (p + 1) c.lo c.hi) && (decide (slp c (p + 1) ≤ 0))))) A95 (by kernel_rfl) (fun h97 => ?_) (fun h97 => ?_)
      · refine wp_seq ?_
        refine wp_region_lit ?_
        refine s_one (.int .i64 18) A95 S96 (g_assign (by kernel_rfl)) rfl (fun ac A98 => ?_)
        refine wpList_nil ?_
        refine n_then ?_
        refine wp_ret ?_
        refine r_then ?_
        refine fin1 (.int .i64 18) Try.results58 A98 S96 (rv_tmp (by kernel_rfl)) ⟨?_, S96.kp⟩
        rw [ckE_y ze]
        have eb : ckB c p = true := h97
        rw [eb]
        rfl
      · have h99 := (Bool.or_eq_false_iff.1 h97).1
        have p100 := of_decide_eq_false h99
        have h101 := (Bool.or_eq_false_iff.1 h97).2
        refine wp_skip ?_
        refine n_then ?_
        refine wp_seq ?_
        refine wp_region_lit ?_
        refine s_one (.int .i64 0) A95 S96 (g_assign (by kernel_rfl)) rfl (fun ac A102 => ?_)
        refine wpList_nil ?_
        refine n_then ?_
        refine wp_ret ?_
        refine fin1 (.int .i64 0) Try.results58 A102 S96 (rv_tmp (by kernel_rfl)) ⟨?_, S96.kp⟩
        rw [ckE_y ze]
        have eb : ckB c p = false := h97
        rw [eb]
        rfl

set_option maxRecDepth 100000 in
set_option maxHeartbeats 400000 in
theorem refCheckCrossing_s (c : Cr) (p : Int) (w0 : World) (ok : c.Ok) :
    Calls Try.prog 63 #[.agg #[.int .i64 c.x1, .int .i64 c.h1, .int .i64 c.v1, .int .i64 c.x2, .int .i64 c.h2, .int .i64 c.v2], .int .i64 p] w0 fun e w' => e = .returned (.int .i64 (ckE c p)) ∧ Below w0.heap.size w0 w' := by
  have S0 := St.start w0
  have p1 := ok.x1
  have p2 := ok.x2
  have p3 := ok.h1
  have p4 := ok.h2
  have p5 := ok.v1
  have p6 := ok.v2
  have pl : c.lo = min c.x1 c.x2 := rfl
  have ph : c.hi = max c.x1 c.x2 := rfl
  refine enter (n := 26) Try.func63 rfl rfl rfl (fun ac A0 => ?_)
  refine wp_seq ?_
  refine wp_region_lit ?_
  refine s_box (.agg #[.int .i64 c.x1, .int .i64 c.h1, .int .i64 c.v1, .int .i64 c.x2, .int .i64 c.h2, .int .i64 c.v2]) A0 S0 (by kernel_rfl) rfl (fun g3 ac wc A1 S2 => ?_)
  replace S2 : St _ (⟨g3, 23, #[.int .i64 c.x1, .int .i64 c.h1, .int .i64 c.v1, .int .i64 c.x2, .int .i64 c.h2, .int .i64 c.v2], true⟩ :: _) _ _ := S2
  refine s_one (.int .i64 0) A1 S2 (g_assign (by kernel_rfl)) rfl (fun ac A5 => ?_)
  refine wpList_nil ?_
  refine n_then ?_
  refine wp_seq ?_
  refine wp_seq ?_
  refine wp_region_lit ?_
  refine s_one (.agg #[.int .i64 c.x1, .int .i64 c.h1, .int .i64 c.v1, .int .i64 c.x2, .int .i64 c.h2, .int .i64 c.v2]) A5 S2 (g_load (g := g3) (off := 0) 0 (by kernel_rfl) rfl (by kernel_rfl)) rfl (fun ac A6 => ?_)
  refine s_one (.int .i64 p) A6 S2 (g_move (by kernel_rfl)) rfl (fun ac A7 => ?_)
  refine s_call (fs := #[]) (cp := #[]) (r := [(0, .agg #[.int .i64 c.x1, .int .i64 c.h1, .int .i64 c.v1, .int .i64 c.x2, .int .i64 c.h2, .int .i64 c.v2]), (0, .int .i64 p)]) #[.agg #[.int .i64 c.x1, .int .i64 c.h1, .int .i64 c.v1, .int .i64 c.x2, .int .i64 c.h2, .int .i64 c.v2], .int .i64 p] (.bool (inB p c.lo c.hi)) A7 S2 (Is_s c p _) Try.call60 (by kernel_rfl) (by kernel_rfl) (by kernel_rfl) rfl (fun ac wc A8 S9 => ?_)
  refine s_one (.bool (!(inB p c.lo c.hi))) A8 S9 (g_un (u := .bool (inB p c.lo c.hi)) (by kernel_rfl) (fun _ => by kernel_rfl)) rfl (fun ac A11 => ?_)
  refine wpList_nil ?_
  refine n_then ?_
  refine c_ifb (b := (!(inB p c.lo c.hi))) A11 (by kernel_rfl) (fun h12 => ?_) (fun h12 => ?_)
  · have h13 : inB p c.lo c.hi = false := by simpa using h12
    have ze2 := atE_r (crE_of ok) h13
    refine wp_seq ?_
    refine wp_region_lit ?_
    refine s_one (.int .i64 2) A11 S9 (g_assign (by kernel_rfl)) rfl (fun ac A14 => ?_)
    refine wpList_nil ?_
    refine n_then ?_
    refine wp_ret ?_
    refine r_then ?_
    refine fin1 (.int .i64 2) Try.results63 A14 S9 (rv_tmp (by kernel_rfl)) ⟨?_, S9.kp⟩
    rw [ckE_n (by rw [ze2]; decide), ze2]
  · have h15 : inB p c.lo c.hi = true := by simpa using h12
    have ze := atE_of ok h15
    have k01 := inB_true.1 h15
    refine wp_skip ?_
    refine n_then ?_
    refine wp_seq ?_
    refine wp_seq ?_
    refine c_cut (fun ac wc => Fr 26 ac [(25, .bool ((decide (slp c p > 0)) || ((inB (p + 1) c.lo c.hi) && (decide (slp c (p + 1) ≤ 0))))), (0, .agg #[.int .i64 c.x1, .int .i64 c.h1, .int .i64 c.v1, .int .i64 c.x2, .int .i64 c.h2, .int .i64 c.v2]), (1, .int .i64 p), (2, .pointer (some ⟨g3, 0, none⟩)), (4, .int .i64 0), (5, .agg #[.int .i64 c.x1, .int .i64 c.h1, .int .i64 c.v1, .int .i64 c.x2, .int .i64 c.h2, .int .i64 c.v2]), (6, .int .i64 p), (7, .bool (inB p c.lo c.hi)), (8, .bool (!(inB p c.lo c.hi)))] ∧ St w0 [⟨g3, 23, #[.int .i64 c.x1, .int .i64 c.h1, .int .i64 c.v1, .int .i64 c.x2, .int .i64 c.h2, .int .i64 c.v2], true⟩] [] wc) ?_ ?_
    · refine wp_region_lit ?_
      refine s_one (.agg #[.int .i64 c.x1, .int .i64 c.h1, .int .i64 c.v1, .int .i64 c.x2, .int .i64 c.h2, .int .i64 c.v2]) A11 S9 (g_load (g := g3) (off := 0) 0 (by kernel_rfl) rfl (by kernel_rfl)) rfl (fun ac A16 => ?_)
      refine s_one (.int .i64 p) A16 S9 (g_move (by kernel_rfl)) rfl (fun ac A17 => ?_)
      refine s_call (fs := #[]) (cp := #[]) (r := [(0, .agg #[.int .i64 c.x1, .int .i64 c.h1, .int .i64 c.v1, .int .i64 c.x2, .int .i64 c.h2, .int .i64 c.v2]), (0, .int .i64 p)]) #[.agg #[.int .i64 c.x1, .int .i64 c.h1, .int .i64 c.v1, .int .i64 c.x2, .int .i64 c.h2, .int .i64 c.v2], .int .i64 p] (.int .i64 (slp c p)) A17 S9 (refSlope_s c p _ ok (by omega) (by omega)) Try.call61 (by kernel_rfl) (by kernel_rfl) (by kernel_rfl) rfl (fun ac wc A18 S19 => ?_)
      refine s_one (.bool (decide (slp c p > 0))) A18 S19 (g_bin (u := .int .i64 (slp c p)) (k := .int .i64 0) (by kernel_rfl) (by kernel_rfl) (fun _ => by kernel_rfl) (fun _ => by kernel_rfl)) rfl (fun ac A21 => ?_)
      refine s_one (.bool (decide (slp c p > 0))) A21 S19 (g_move (by kernel_rfl)) rfl (fun ac A22 => ?_)
      refine by_bool (decide (slp c p > 0)) (fun h23 => ?_) (fun h23 => ?_)
      · have p24 := of_decide_eq_true h23
        refine s_not (dj := 13) (b := (decide (slp c p > 0))) A22 (by kernel_rfl) (by kernel_rfl) h23 rfl (fun ac A25 => ?_)
        refine s_not (dj := 13) (b := (decide (slp c p > 0))) A25 (by kernel_rfl) (by kernel_rfl) h23 rfl (fun ac A26 => ?_)
        refine s_not (dj := 13) (b := (decide (slp c p > 0))) A26 (by kernel_rfl) (by kernel_rfl) h23 rfl (fun ac A27 => ?_)
        refine s_not (dj := 13) (b := (decide (slp c p > 0))) A27 (by kernel_rfl) (by kernel_rfl) h23 rfl (fun ac A28 => ?_)
        refine s_not (dj := 13) (b := (decide (slp c p > 0))) A28 (by kernel_rfl) (by kernel_rfl) h23 rfl (fun ac A29 => ?_)
        refine s_notU (dj := 18) A29 (by kernel_rfl) (by kernel_rfl) rfl (fun ac A30 => ?_)
        refine s_notU (dj := 18) A30 (by kernel_rfl) (by kernel_rfl) rfl (fun ac A31 => ?_)
        refine s_notU (dj := 18) A31 (by kernel_rfl) (by kernel_rfl) rfl (fun ac A32 => ?_)
        refine s_notU (dj := 18) A32 (by kernel_rfl) (by kernel_rfl) rfl (fun ac A33 => ?_)
        refine s_notU (dj := 18) A33 (by kernel_rfl) (by kernel_rfl) rfl (fun ac A34 => ?_)
        refine s_not (dj := 13) (b := (decide (slp c p > 0))) A34 (by kernel_rfl) (by kernel_rfl) h23 rfl (fun ac A35 => ?_)
        refine s_one (.bool true) A35 S19 (g_pick_t (b := (decide (slp c p > 0))) (by kernel_rfl) h23 (by kernel_rfl)) rfl (fun ac A36 => ?_)
        refine wpList_nil ?_
        refine n_then ?_
        exact ⟨(A36.slot (A36.slot (A36.slot (A36.slot (A36.slot (A36.slot (A36.slot (A36.slot (A36.slot A36.nil (v := .bool (!(inB p c.lo c.hi))) (by kernel_rfl) rfl) (v := .bool (inB p c.lo c.hi)) (by kernel_rfl) rfl) (v := .int .i64 p) (by kernel_rfl) rfl) (v := .agg #[.int .i64 c.x1, .int .i64 c.h1, .int .i64 c.v1, .int .i64 c.x2, .int .i64 c.h2, .int .i64 c.v2]) (by kernel_rfl) rfl) (v := .int .i64 0) (by kernel_rfl) rfl) (v := .pointer (some ⟨g3, 0, none⟩)) (by kernel_rfl) rfl) (v := .int .i64 p) (by kernel_rfl) rfl) (v := .agg #[.int .i64 c.x1, .int .i64 c.h1, .int .i64 c.v1, .int .i64 c.x2, .int .i64 c.h2, .int .i64 c.v2]) (by kernel_rfl) rfl) (v := .bool true) (by kernel_rfl) (congrArg Value.bool (b_ot1 h23).symm)), S19.sub sub_all sub_all⟩
      · have p37 := of_decide_eq_false h23
        refine s_want (dj := 13) (b := (decide (slp c p > 0))) A22 (by kernel_rfl) (by kernel_rfl) h23 ?_
        refine s_one (.agg #[.int .i64 c.x1, .int .i64 c.h1, .int .i64 c.v1, .int .i64 c.x2, .int .i64 c.h2, .int .i64 c.v2]) A22 S19 (g_load (g := g3) (off := 0) 0 (by kernel_rfl) rfl (by kernel_rfl)) rfl (fun ac A38 => ?_)
        refine s_want (dj := 13) (b := (decide (slp c p > 0))) A38 (by kernel_rfl) (by kernel_rfl) h23 ?_
        refine s_one (.int .i64 p) A38 S19 (g_move (by kernel_rfl)) rfl (fun ac A39 => ?_)
        refine s_want (dj := 13) (b := (decide (slp c p > 0))) A39 (by kernel_rfl) (by kernel_rfl) h23 ?_
        refine s_one (.int .i64 (p + 1)) A39 S19 (g_bin (u := .int .i64 p) (k := .int .i64 1) (by kernel_rfl) (by kernel_rfl) (fun _ => by kernel_rfl) (b_add (by omega))) rfl (fun ac A40 => ?_)
        refine s_want (dj := 13) (b := (decide (slp c p > 0))) A40 (by kernel_rfl) (by kernel_rfl) h23 ?_
        refine s_call (fs := #[]) (cp := #[]) (r := [(0, .agg #[.int .i64 c.x1, .int .i64 c.h1, .int .i64 c.v1, .int .i64 c.x2, .int .i64 c.h2, .int .i64 c.v2]), (0, .int .i64 (p + 1))]) #[.agg #[.int .i64 c.x1, .int .i64 c.h1, .int .i64 c.v1, .int .i64 c.x2, .int .i64 c.h2, .int .i64 c.v2], .int .i64 (p + 1)] (.bool (inB (p + 1) c.lo c.hi)) A40 S19 (Is_s c (p + 1) _) Try.call60 (by kernel_rfl) (by kernel_rfl) (by kernel_rfl) rfl (fun ac wc A41 S42 => ?_)
        refine s_want (dj := 13) (b := (decide (slp c p > 0))) A41 (by kernel_rfl) (by kernel_rfl) h23 ?_
        refine s_one (.bool (inB (p + 1) c.lo c.hi)) A41 S42 (g_move (by kernel_rfl)) rfl (fun ac A44 => ?_)
        refine by_bool (inB (p + 1) c.lo c.hi) (fun h45 => ?_) (fun h45 => ?_)
        · have hin := inB_true.1 h45
          refine s_want (dj := 18) (b := (inB (p + 1) c.lo c.hi)) A44 (by kernel_rfl) (by kernel_rfl) h45 ?_
          refine s_one (.agg #[.int .i64 c.x1, .int .i64 c.h1, .int .i64 c.v1, .int .i64 c.x2, .int .i64 c.h2, .int .i64 c.v2]) A44 S42 (g_load (g := g3) (off := 0) 0 (by kernel_rfl) rfl (by kernel_rfl)) rfl (fun ac A46 => ?_)
          refine s_want (dj := 18) (b := (inB (p + 1) c.lo c.hi)) A46 (by kernel_rfl) (by kernel_rfl) h45 ?_
          refine s_one (.int .i64 p) A46 S42 (g_move (by kernel_rfl)) rfl (fun ac A47 => ?_)
          refine s_want (dj := 18) (b := (inB (p + 1) c.lo c.hi)) A47 (by kernel_rfl) (by kernel_rfl) h45 ?_
          refine s_one (.int .i64 (p + 1)) A47 S42 (g_bin (u := .int .i64 p) (k := .int .i64 1) (by kernel_rfl) (by kernel_rfl) (fun _ => by kernel_rfl) (b_add (by omega))) rfl (fun ac A48 => ?_)
          refine s_want (dj := 18) (b := (inB (p + 1) c.lo c.hi)) A48 (by kernel_rfl) (by kernel_rfl) h45 ?_
          refine s_call (fs := #[]) (cp := #[]) (r := [(0, .agg #[.int .i64 c.x1, .int .i64 c.h1, .int .i64 c.v1, .int .i64 c.x2, .int .i64 c.h2, .int .i64 c.v2]), (0, .int .i64 (p + 1))]) #[.agg #[.int .i64 c.x1, .int .i64 c.h1, .int .i64 c.v1, .int .i64 c.x2, .int .i64 c.h2, .int .i64 c.v2], .int .i64 (p + 1)] (.int .i64 (slp c (p + 1))) A48 S42 (refSlope_s c (p + 1) _ ok (by omega) (by omega)) Try.call61 (by kernel_rfl) (by kernel_rfl) (by kernel_rfl) rfl (fun ac wc A49 S50 => ?_)
          refine s_want (dj := 18) (b := (inB (p + 1) c.lo c.hi)) A49 (by kernel_rfl) (by kernel_rfl) h45 ?_
          refine s_one (.bool (decide (slp c (p + 1) ≤ 0))) A49 S50 (g_bin (u := .int .i64 (slp c (p + 1))) (k := .int .i64 0) (by kernel_rfl) (by kernel_rfl) (fun _ => by kernel_rfl) (fun _ => by kernel_rfl)) rfl (fun ac A52 => ?_)
          refine s_want (dj := 13) (b := (decide (slp c p > 0))) A52 (by kernel_rfl) (by kernel_rfl) h23 ?_
          refine s_one (.bool (decide (slp c (p + 1) ≤ 0))) A52 S50 (g_pick_t (b := (inB (p + 1) c.lo c.hi)) (by kernel_rfl) h45 (by kernel_rfl)) rfl (fun ac A53 => ?_)
          refine s_one (.bool (decide (slp c (p + 1) ≤ 0))) A53 S50 (g_pick_f (b := (decide (slp c p > 0))) (by kernel_rfl) h23 (by kernel_rfl)) rfl (fun ac A54 => ?_)
          refine wpList_nil ?_
          refine n_then ?_
          exact ⟨(A54.slot (A54.slot (A54.slot (A54.slot (A54.slot (A54.slot (A54.slot (A54.slot (A54.slot A54.nil (v := .bool (!(inB p c.lo c.hi))) (by kernel_rfl) rfl) (v := .bool (inB p c.lo c.hi)) (by kernel_rfl) rfl) (v := .int .i64 p) (by kernel_rfl) rfl) (v := .agg #[.int .i64 c.x1, .int .i64 c.h1, .int .i64 c.v1, .int .i64 c.x2, .int .i64 c.h2, .int .i64 c.v2]) (by kernel_rfl) rfl) (v := .int .i64 0) (by kernel_rfl) rfl) (v := .pointer (some ⟨g3, 0, none⟩)) (by kernel_rfl) rfl) (v := .int .i64 p) (by kernel_rfl) rfl) (v := .agg #[.int .i64 c.x1, .int .i64 c.h1, .int .i64 c.v1, .int .i64 c.x2, .int .i64 c.h2, .int .i64 c.v2]) (by kernel_rfl) rfl) (v := .bool (decide (slp c (p + 1) ≤ 0))) (by kernel_rfl) (congrArg Value.bool (b_or_f h23 (b_and_t h45 (Eq.refl (decide (slp c (p + 1) ≤ 0))))).symm)), S50.sub sub_all sub_all⟩
        · refine s_not (dj := 18) (b := (inB (p + 1) c.lo c.hi)) A44 (by kernel_rfl) (by kernel_rfl) h45 rfl (fun ac A55 => ?_)
          refine s_not (dj := 18) (b := (inB (p + 1) c.lo c.hi)) A55 (by kernel_rfl) (by kernel_rfl) h45 rfl (fun ac A56 => ?_)
          refine s_not (dj := 18) (b := (inB (p + 1) c.lo c.hi)) A56 (by kernel_rfl) (by kernel_rfl) h45 rfl (fun ac A57 => ?_)
          refine s_not (dj := 18) (b := (inB (p + 1) c.lo c.hi)) A57 (by kernel_rfl) (by kernel_rfl) h45 rfl (fun ac A58 => ?_)
          refine s_not (dj := 18) (b := (inB (p + 1) c.lo c.hi)) A58 (by kernel_rfl) (by kernel_rfl) h45 rfl (fun ac A59 => ?_)
          refine s_want (dj := 13) (b := (decide (slp c p > 0))) A59 (by kernel_rfl) (by kernel_rfl) h23 ?_
          refine s_one (.bool false) A59 S42 (g_pick_f (b := (inB (p + 1) c.lo c.hi)) (by kernel_rfl) h45 (by kernel_rfl)) rfl (fun ac A60 => ?_)
          refine s_one (.bool false) A60 S42 (g_pick_f (b := (decide (slp c p > 0))) (by kernel_rfl) h23 (by kernel_rfl)) rfl (fun ac A61 => ?_)
          refine wpList_nil ?_
          refine n_then ?_
          exact ⟨(A61.slot (A61.slot (A61.slot (A61.slot (A61.slot (A61.slot (A61.slot (A61.slot (A61.slot A61.nil (v := .bool (!(inB p c.lo c.hi))) (by kernel_rfl) rfl) (v := .bool (inB p c.lo c.hi)) (by kernel_rfl) rfl) (v := .int .i64 p) (by kernel_rfl) rfl) (v := .agg #[.int .i64 c.x1, .int .i64 c.h1, .int .i64 c.v1, .int .i64 c.x2, .int .i64 c.h2, .int .i64 c.v2]) (by kernel_rfl) rfl) (v := .int .i64 0) (by kernel_rfl) rfl) (v := .pointer (some ⟨g3, 0, none⟩)) (by kernel_rfl) rfl) (v := .int .i64 p) (by kernel_rfl) rfl) (v := .agg #[.int .i64 c.x1, .int .i64 c.h1, .int .i64 c.v1, .int .i64 c.x2, .int .i64 c.h2, .int .i64 c.v2]) (by kernel_rfl) rfl) (v := .bool false) (by kernel_rfl) (congrArg Value.bool (b_of h23 (b_af1 h45)).symm)), S42.sub sub_all sub_all⟩
    · rintro ac wc ⟨A62, S63⟩
      refine n_then ?_
      refine c_ifb (b := ((decide (slp c p > 0)) || ((inB (p + 1) c.lo c.hi) && (decide (slp c (p + 1) ≤ 0))))) A62 (by kernel_rfl) (fun h64 => ?_) (fun h64 => ?_)
      · refine wp_seq ?_
        refine wp_region_lit ?_
        refine s_one (.int .i64 18) A62 S63 (g_assign (by kernel_rfl)) rfl (fun ac A65 => ?_)
        refine wpList_nil ?_
        refine n_then ?_
        refine wp_ret ?_
        refine r_then ?_
        refine fin1 (.int .i64 18) Try.results63 A65 S63 (rv_tmp (by kernel_rfl)) ⟨?_, S63.kp⟩
        rw [ckE_y ze]
        have eb : ckB c p = true := h64
        rw [eb]
        rfl
      · have h66 := (Bool.or_eq_false_iff.1 h64).1
        have p67 := of_decide_eq_false h66
        have h68 := (Bool.or_eq_false_iff.1 h64).2
        refine wp_skip ?_
        refine n_then ?_
        refine wp_seq ?_
        refine wp_region_lit ?_
        refine s_one (.int .i64 0) A62 S63 (g_assign (by kernel_rfl)) rfl (fun ac A69 => ?_)
        refine wpList_nil ?_
        refine n_then ?_
        refine wp_ret ?_
        refine fin1 (.int .i64 0) Try.results63 A69 S63 (rv_tmp (by kernel_rfl)) ⟨?_, S63.kp⟩
        rw [ckE_y ze]
        have eb : ckB c p = false := h64
        rw [eb]
        rfl

end Go.Proofs.Ytnfmfkejhgbipaa
