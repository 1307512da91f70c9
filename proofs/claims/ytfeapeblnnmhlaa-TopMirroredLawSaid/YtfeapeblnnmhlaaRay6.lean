/- Modes and ways of chapter 1. -/
import Derived.Test.YtfeapeblnnmhlaaRay5
namespace Go.Proofs.Ytfeapeblnnmhlaa
open Go.RowKit Go.Cpl Go.Ray1

/-- A value, or 0 beside an error. -/
def zv (e v : Int) : Int := if e = 0 then v else 0
theorem zv_0 {e : Int} (h : e = 0) (v : Int) : zv e v = v := if_pos h
theorem zv_n {e : Int} (h : e ≠ 0) (v : Int) : zv e v = 0 := if_neg h

def mdE (mw md ms mt : Int) : Int := firstOf [veE mw, veE md, (bif inB ms 0 4 && inB mt 2 20000 then 0 else 2)]
theorem md_a {ms mt : Int} (h : inB ms 0 4 = true) : must_a_r (inB mt 2 20000) 2 = (bif inB ms 0 4 && inB mt 2 20000 then 0 else 2) := by unfold must_a_r; rw [h]; rfl
theorem md_b {ms mt : Int} (h : inB ms 0 4 = false) : must_a_r false 2 = (bif inB ms 0 4 && inB mt 2 20000 then 0 else 2) := by unfold must_a_r; rw [h]; rfl
theorem mdE_0 {mw md ms mt : Int} (h : mdE mw md ms mt = 0) : (500 ≤ mw ∧ mw ≤ 10000) ∧ (500 ≤ md ∧ md ≤ 10000) ∧ (0 ≤ ms ∧ ms ≤ 4) ∧ (2 ≤ mt ∧ mt ≤ 20000) := by
  unfold mdE at h
  obtain ⟨h1, h2⟩ := fo_zero h
  obtain ⟨h2, h3⟩ := fo_zero h2
  rw [fo_last] at h3
  cases q : (inB ms 0 4 && inB mt 2 20000) with
  | false => rw [q] at h3; simp at h3
  | true => rw [Bool.and_eq_true, inB_true, inB_true] at q; exact ⟨veE_0 h1, veE_0 h2, q⟩
/-- The unfolded depth. -/
def unf (ms mt z : Int) : Int := if ms.tmod 2 = 1 then ms * mt + (mt - z) else ms * mt + z
theorem ms_cases {ms : Int} (h : 0 ≤ ms ∧ ms ≤ 4) : ms = 0 ∨ ms = 1 ∨ ms = 2 ∨ ms = 3 ∨ ms = 4 := by omega
theorem unf_bd {ms mt z : Int} (hs : 0 ≤ ms ∧ ms ≤ 4) (ht : 2 ≤ mt ∧ mt ≤ 20000) (hz : 1 ≤ z ∧ z ≤ mt - 1) : 1 ≤ unf ms mt z ∧ unf ms mt z ≤ 100000 := by
  unfold unf
  rcases ms_cases hs with rfl | rfl | rfl | rfl | rfl
  · rw [if_neg (by decide)]; omega
  · rw [if_pos (by decide)]; omega
  · rw [if_neg (by decide)]; omega
  · rw [if_pos (by decide)]; omega
  · rw [if_neg (by decide)]; omega
theorem mst_bd {ms mt : Int} (hs : 0 ≤ ms ∧ ms ≤ 4) (ht : 2 ≤ mt ∧ mt ≤ 20000) : 0 ≤ ms * mt ∧ ms * mt ≤ 80000 := by
  rcases ms_cases hs with rfl | rfl | rfl | rfl | rfl <;> omega

set_option maxRecDepth 100000 in
set_option maxHeartbeats 400000 in
theorem isThick_s (n : Int) (w0 : World) :
    Calls Try.prog 54 #[.int .i64 n] w0 fun e w' => e = .returned (.bool (inB n 2 20000)) ∧ Below w0.heap.size w0 w' := by
  have S0 := St.start w0
  refine enter (n := 5) Try.func54 rfl rfl rfl (fun ac A0 => ?_)
  refine wp_seq ?_
  refine wp_region_lit ?_
  refine s_one (.bool false) A0 S0 (g_assign (by kernel_rfl)) rfl (fun ac A1 => ?_)
  refine wpList_nil ?_
  refine n_then ?_
  refine wp_seq ?_
  refine wp_region_lit ?_
  refine s_one (.int .i64 n) A1 S0 (g_move (by kernel_rfl)) rfl (fun ac A2 => ?_)
  refine s_call (fs := #[]) (cp := #[]) (r := [(0, .int .i64 n), (0, .int .i64 2), (0, .int .i64 20000)]) #[.int .i64 n, .int .i64 2, .int .i64 20000] (.bool (inB n 2 20000)) A2 S0 (within_s n 2 20000 _) Try.call53 (by kernel_rfl) (by kernel_rfl) (by kernel_rfl) rfl (fun ac wc A3 S4 => ?_)
  refine s_one (.bool (inB n 2 20000)) A3 S4 (g_assign (by kernel_rfl)) rfl (fun ac A6 => ?_)
  refine wpList_nil ?_
  refine n_then ?_
  refine wp_ret ?_
  refine fin1 (.bool (inB n 2 20000)) Try.results54 A6 S4 (rv_tmp (by kernel_rfl)) ⟨?_, S4.kp⟩
  rfl

set_option maxRecDepth 100000 in
set_option maxHeartbeats 400000 in
theorem CheckMode_s (mw md ms mt : Int) (w0 : World) :
    Calls Try.prog 43 #[.agg #[.int .i64 mw, .int .i64 md, .int .i64 ms, .int .i64 mt]] w0 fun e w' => e = .returned (.int .i64 (mdE mw md ms mt)) ∧ Below w0.heap.size w0 w' := by
  have S0 := St.start w0
  refine enter (n := 20) Try.func43 rfl rfl rfl (fun ac A0 => ?_)
  refine wp_seq ?_
  refine wp_region_lit ?_
  refine s_box (.agg #[.int .i64 mw, .int .i64 md, .int .i64 ms, .int .i64 mt]) A0 S0 (by kernel_rfl) rfl (fun g3 ac wc A1 S2 => ?_)
  replace S2 : St _ (⟨g3, 24, #[.int .i64 mw, .int .i64 md, .int .i64 ms, .int .i64 mt], true⟩ :: _) _ _ := S2
  refine s_one (.int .i64 0) A1 S2 (g_assign (by kernel_rfl)) rfl (fun ac A5 => ?_)
  refine wpList_nil ?_
  refine n_then ?_
  refine wp_seq ?_
  refine r_begin (w0 := w0) (by kernel_rfl) (S2.sub sub_all sub_all) (fun wc T6 B7 => ?_)
  have S8 := S2.kept B7
  refine r_take 0 (.pointer (some ⟨g3, 0, none⟩)) A5 T6 (g_field (u := .pointer (some ⟨g3, 0, none⟩)) (by kernel_rfl) (fun _ => by kernel_rfl)) rfl rfl rfl (pf_then pf_body) (by kernel_rfl) (fun ac A9 => ?_)
  refine r_take 1 (.int .i64 mw) A9 T6 (g_load (g := g3) (off := 0) 0 (by kernel_rfl) rfl (by kernel_rfl)) rfl rfl rfl (pf_then pf_body) (by kernel_rfl) (fun ac A10 => ?_)
  refine r_take 3 (.pointer (some ⟨g3, 1, none⟩)) A10 T6 (g_field (u := .pointer (some ⟨g3, 0, none⟩)) (by kernel_rfl) (fun _ => by kernel_rfl)) rfl rfl rfl (pf_then pf_body) (by kernel_rfl) (fun ac A11 => ?_)
  refine r_take 4 (.int .i64 md) A11 T6 (g_load (g := g3) (off := 1) 0 (by kernel_rfl) rfl (by kernel_rfl)) rfl rfl rfl (pf_then pf_body) (by kernel_rfl) (fun ac A12 => ?_)
  refine r_take 6 (.pointer (some ⟨g3, 2, none⟩)) A12 T6 (g_field (u := .pointer (some ⟨g3, 0, none⟩)) (by kernel_rfl) (fun _ => by kernel_rfl)) rfl rfl rfl (pf_then pf_body) (by kernel_rfl) (fun ac A13 => ?_)
  refine r_take 7 (.int .i64 ms) A13 T6 (g_load (g := g3) (off := 2) 0 (by kernel_rfl) rfl (by kernel_rfl)) rfl rfl rfl (pf_then pf_body) (by kernel_rfl) (fun ac A14 => ?_)
  refine r_1 (i := 2) (by kernel_rfl) ?_
  refine rs_call (fs := #[]) (cp := #[]) (r := [(0, .int .i64 mw)]) #[.int .i64 mw] (.int .i64 (veE mw)) A14 S8 sub_all sub_all (speedErr_s mw _) Try.call51 rfl rfl (by kernel_rfl) (by kernel_rfl) (by kernel_rfl) rfl (fun ac wc A15 S16 => ?_)
  have T18 := S16.sub sub_all sub_all
  refine r_1 (i := 5) (by kernel_rfl) ?_
  refine rs_call (fs := #[]) (cp := #[]) (r := [(0, .int .i64 md)]) #[.int .i64 md] (.int .i64 (veE md)) A15 S16 sub_all sub_all (speedErr_s md _) Try.call51 rfl rfl (by kernel_rfl) (by kernel_rfl) (by kernel_rfl) rfl (fun ac wc A19 S20 => ?_)
  have T22 := S20.sub sub_all sub_all
  refine r_1 (i := 8) (by kernel_rfl) ?_
  refine rs_call (fs := #[]) (cp := #[]) (r := [(0, .int .i64 ms), (0, .int .i64 0), (0, .int .i64 4)]) #[.int .i64 ms, .int .i64 0, .int .i64 4] (.bool (inB ms 0 4)) A19 S20 sub_all sub_all (within_s ms 0 4 _) Try.call53 rfl rfl (by kernel_rfl) (by kernel_rfl) (by kernel_rfl) rfl (fun ac wc A23 S24 => ?_)
  have T26 := S24.sub sub_all sub_all
  refine r_take 9 (.bool (inB ms 0 4)) A23 T26 (g_move (by kernel_rfl)) rfl rfl rfl (pf_then pf_body) (by kernel_rfl) (fun ac A27 => ?_)
  refine by_bool (inB ms 0 4) (fun h28 => ?_) (fun h28 => ?_)
  · refine r_take 10 (.pointer (some ⟨g3, 3, none⟩)) A27 T26 (g_field (u := .pointer (some ⟨g3, 0, none⟩)) (by kernel_rfl) (fun _ => by kernel_rfl)) rfl (want_t (dj := 12) (b := (inB ms 0 4)) A27 rfl (by kernel_rfl) (by kernel_rfl) h28) rfl (pf_then pf_body) (by kernel_rfl) (fun ac A29 => ?_)
    refine r_take 11 (.int .i64 mt) A29 T26 (g_load (g := g3) (off := 3) 0 (by kernel_rfl) rfl (by kernel_rfl)) rfl (want_t (dj := 12) (b := (inB ms 0 4)) A29 rfl (by kernel_rfl) (by kernel_rfl) h28) rfl (pf_then pf_body) (by kernel_rfl) (fun ac A30 => ?_)
    refine r_1 (i := 12) (by kernel_rfl) ?_
    refine rs_call (fs := #[]) (cp := #[]) (r := [(0, .int .i64 mt)]) #[.int .i64 mt] (.bool (inB mt 2 20000)) A30 S24 sub_all sub_all (isThick_s mt _) Try.call54 rfl (want_t (dj := 12) (b := (inB ms 0 4)) A30 rfl (by kernel_rfl) (by kernel_rfl) h28) (by kernel_rfl) (by kernel_rfl) (by kernel_rfl) rfl (fun ac wc A31 S32 => ?_)
    have T34 := S32.sub sub_all sub_all
    refine r_take 13 (.bool (inB mt 2 20000)) A31 T34 (g_pick_t (b := (inB ms 0 4)) (by kernel_rfl) h28 (by kernel_rfl)) rfl rfl rfl (pf_then pf_body) (by kernel_rfl) (fun ac A35 => ?_)
    refine r_1 (i := 14) (by kernel_rfl) ?_
    refine rs_call (fs := #[]) (cp := #[]) (r := [(0, .bool (inB mt 2 20000)), (0, .int .i64 2)]) #[.bool (inB mt 2 20000), .int .i64 2] (.int .i64 (must_a_r (inB mt 2 20000) 2)) A35 S32 sub_all sub_all (must_a (inB mt 2 20000) 2 _) Try.call52 rfl rfl (by kernel_rfl) (by kernel_rfl) (by kernel_rfl) rfl (fun ac wc A36 S37 => ?_)
    have T39 := S37.sub sub_all sub_all
    refine r_1 (i := 15) (by kernel_rfl) ?_
    refine rs_bs (e := 33) (r := [(0, .int .i64 (veE mw)), (1, .int .i64 (veE md)), (2, .int .i64 (must_a_r (inB mt 2 20000) 2))]) (#[.int .i64 (veE mw), .int .i64 (veE md), .int .i64 (must_a_r (inB mt 2 20000) 2)]) A36 S37 sub_all sub_all (by kernel_rfl) (by kernel_rfl) rfl rfl rfl (fun g42 ac wc A40 S41 => ?_)
    have T43 := S41.sub (sub_skip sub_all) sub_all
    refine r_1 (i := 16) (by kernel_rfl) ?_
    refine rs_call (fs := #[]) (cp := #[]) (r := [(0, .slice (some ⟨g42, 0, none⟩) 3 3)]) #[.slice (some ⟨g42, 0, none⟩) 3 3] (.int .i64 (firstOf [veE mw, veE md, (must_a_r (inB mt 2 20000) 2)])) A40 S41 (sub_skip sub_all) sub_all (first_s g42 ([veE mw, veE md, (must_a_r (inB mt 2 20000) 2)]) 3 3 _ (S41.get 0 rfl) rfl (by omega)) Try.call50 rfl rfl (by kernel_rfl) (by kernel_rfl) (by kernel_rfl) rfl (fun ac wc A44 S45 => ?_)
    have T47 := S45.sub (sub_skip sub_all) sub_all
    refine r_take 17 (.int .i64 (firstOf [veE mw, veE md, (must_a_r (inB mt 2 20000) 2)])) A44 T47 (g_assign (by kernel_rfl)) rfl rfl rfl (pf_then pf_body) (by kernel_rfl) (fun ac A48 => ?_)
    refine r_done (by kernel_rfl) ?_
    refine n_then ?_
    refine wp_ret ?_
    refine fin1 (.int .i64 (firstOf [veE mw, veE md, (must_a_r (inB mt 2 20000) 2)])) Try.results43 A48 S45 (rv_tmp (by kernel_rfl)) ⟨?_, S45.kp⟩
    rw [md_a (mt := mt) h28]
    rfl
  · refine r_skip 10 A27 T26 rfl (want_f (dj := 12) (b := (inB ms 0 4)) A27 rfl (by kernel_rfl) (by kernel_rfl) h28) rfl (pf_then pf_body) (by kernel_rfl) (fun ac A49 => ?_)
    refine r_skip 11 A49 T26 rfl (want_f (dj := 12) (b := (inB ms 0 4)) A49 rfl (by kernel_rfl) (by kernel_rfl) h28) rfl (pf_then pf_body) (by kernel_rfl) (fun ac A50 => ?_)
    refine r_skip 12 A50 T26 rfl (want_f (dj := 12) (b := (inB ms 0 4)) A50 rfl (by kernel_rfl) (by kernel_rfl) h28) rfl (pf_then pf_body) (by kernel_rfl) (fun ac A51 => ?_)
    refine r_take 13 (.bool false) A51 T26 (g_pick_f (b := (inB ms 0 4)) (by kernel_rfl) h28 (by kernel_rfl)) rfl rfl rfl (pf_then pf_body) (by kernel_rfl) (fun ac A52 => ?_)
    refine r_1 (i := 14) (by kernel_rfl) ?_
    refine rs_call (fs := #[]) (cp := #[]) (r := [(0, .bool false), (0, .int .i64 2)]) #[.bool false, .int .i64 2] (.int .i64 (must_a_r false 2)) A52 S24 sub_all sub_all (must_a false 2 _) Try.call52 rfl rfl (by kernel_rfl) (by kernel_rfl) (by kernel_rfl) rfl (fun ac wc A53 S54 => ?_)
    have T56 := S54.sub sub_all sub_all
    refine r_1 (i := 15) (by kernel_rfl) ?_
    refine rs_bs (e := 33) (r := [(0, .int .i64 (veE mw)), (1, .int .i64 (veE md)), (2, .int .i64 (must_a_r false 2))]) (#[.int .i64 (veE mw), .int .i64 (veE md), .int .i64 (must_a_r false 2)]) A53 S54 sub_all sub_all (by kernel_rfl) (by kernel_rfl) rfl rfl rfl (fun g59 ac wc A57 S58 => ?_)
    have T60 := S58.sub (sub_skip sub_all) sub_all
    refine r_1 (i := 16) (by kernel_rfl) ?_
    refine rs_call (fs := #[]) (cp := #[]) (r := [(0, .slice (some ⟨g59, 0, none⟩) 3 3)]) #[.slice (some ⟨g59, 0, none⟩) 3 3] (.int .i64 (firstOf [veE mw, veE md, (must_a_r false 2)])) A57 S58 (sub_skip sub_all) sub_all (first_s g59 ([veE mw, veE md, (must_a_r false 2)]) 3 3 _ (S58.get 0 rfl) rfl (by omega)) Try.call50 rfl rfl (by kernel_rfl) (by kernel_rfl) (by kernel_rfl) rfl (fun ac wc A61 S62 => ?_)
    have T64 := S62.sub (sub_skip sub_all) sub_all
    refine r_take 17 (.int .i64 (firstOf [veE mw, veE md, (must_a_r false 2)])) A61 T64 (g_assign (by kernel_rfl)) rfl rfl rfl (pf_then pf_body) (by kernel_rfl) (fun ac A65 => ?_)
    refine r_done (by kernel_rfl) ?_
    refine n_then ?_
    refine wp_ret ?_
    refine fin1 (.int .i64 (firstOf [veE mw, veE md, (must_a_r false 2)])) Try.results43 A65 S62 (rv_tmp (by kernel_rfl)) ⟨?_, S62.kp⟩
    rw [md_b (mt := mt) h28]
    rfl

set_option maxRecDepth 100000 in
set_option maxHeartbeats 400000 in
theorem unfolded_s (mw md ms mt z : Int) (w0 : World) (h1 : 0 ≤ ms ∧ ms ≤ 4) (h2 : 2 ≤ mt ∧ mt ≤ 20000) (h3 : 1 ≤ z ∧ z ≤ mt - 1) :
    Calls Try.prog 56 #[.agg #[.int .i64 mw, .int .i64 md, .int .i64 ms, .int .i64 mt], .int .i64 z] w0 fun e w' => e = .returned (.int .i64 (unf ms mt z)) ∧ Below w0.heap.size w0 w' := by
  have S0 := St.start w0
  have q := mst_bd h1 h2
  refine enter (n := 20) Try.func56 rfl rfl rfl (fun ac A0 => ?_)
  refine wp_seq ?_
  refine wp_region_lit ?_
  refine s_box (.agg #[.int .i64 mw, .int .i64 md, .int .i64 ms, .int .i64 mt]) A0 S0 (by kernel_rfl) rfl (fun g3 ac wc A1 S2 => ?_)
  replace S2 : St _ (⟨g3, 24, #[.int .i64 mw, .int .i64 md, .int .i64 ms, .int .i64 mt], true⟩ :: _) _ _ := S2
  refine s_one (.int .i64 0) A1 S2 (g_assign (by kernel_rfl)) rfl (fun ac A5 => ?_)
  refine wpList_nil ?_
  refine n_then ?_
  refine wp_seq ?_
  refine wp_seq ?_
  refine wp_region_lit ?_
  refine s_one (.pointer (some ⟨g3, 2, none⟩)) A5 S2 (g_field (u := .pointer (some ⟨g3, 0, none⟩)) (by kernel_rfl) (fun _ => by kernel_rfl)) rfl (fun ac A6 => ?_)
  refine s_one (.int .i64 ms) A6 S2 (g_load (g := g3) (off := 2) 0 (by kernel_rfl) rfl (by kernel_rfl)) rfl (fun ac A7 => ?_)
  refine s_one (.int .i64 ((ms).tmod 2)) A7 S2 (g_bin (u := .int .i64 ms) (k := .int .i64 2) (by kernel_rfl) (by kernel_rfl) (fun _ => by kernel_rfl) (b_rem (by omega))) rfl (fun ac A8 => ?_)
  refine s_one (.bool (decide ((ms).tmod 2 = 1))) A8 S2 (g_bin (u := .int .i64 ((ms).tmod 2)) (k := .int .i64 1) (by kernel_rfl) (by kernel_rfl) (fun _ => by kernel_rfl) b_eql) rfl (fun ac A9 => ?_)
  refine wpList_nil ?_
  refine n_then ?_
  refine c_ifb (b := (decide ((ms).tmod 2 = 1))) A9 (by kernel_rfl) (fun h10 => ?_) (fun h10 => ?_)
  · have p11 := of_decide_eq_true h10
    refine wp_region_lit ?_
    refine s_one (.pointer (some ⟨g3, 3, none⟩)) A9 S2 (g_field (u := .pointer (some ⟨g3, 0, none⟩)) (by kernel_rfl) (fun _ => by kernel_rfl)) rfl (fun ac A12 => ?_)
    refine s_one (.int .i64 mt) A12 S2 (g_load (g := g3) (off := 3) 0 (by kernel_rfl) rfl (by kernel_rfl)) rfl (fun ac A13 => ?_)
    refine s_one (.int .i64 z) A13 S2 (g_move (by kernel_rfl)) rfl (fun ac A14 => ?_)
    refine s_one (.int .i64 (mt - z)) A14 S2 (g_bin (u := .int .i64 mt) (k := .int .i64 z) (by kernel_rfl) (by kernel_rfl) (fun _ => by kernel_rfl) (b_sub (by omega))) rfl (fun ac A15 => ?_)
    refine s_one (.int .i64 (mt - z)) A15 S2 (g_assign (by kernel_rfl)) rfl (fun ac A16 => ?_)
    refine wpList_nil ?_
    refine n_then ?_
    refine wp_seq ?_
    refine wp_region_lit ?_
    refine s_one (.pointer (some ⟨g3, 2, none⟩)) A16 S2 (g_field (u := .pointer (some ⟨g3, 0, none⟩)) (by kernel_rfl) (fun _ => by kernel_rfl)) rfl (fun ac A17 => ?_)
    refine s_one (.int .i64 ms) A17 S2 (g_load (g := g3) (off := 2) 0 (by kernel_rfl) rfl (by kernel_rfl)) rfl (fun ac A18 => ?_)
    refine s_one (.pointer (some ⟨g3, 3, none⟩)) A18 S2 (g_field (u := .pointer (some ⟨g3, 0, none⟩)) (by kernel_rfl) (fun _ => by kernel_rfl)) rfl (fun ac A19 => ?_)
    refine s_one (.int .i64 mt) A19 S2 (g_load (g := g3) (off := 3) 0 (by kernel_rfl) rfl (by kernel_rfl)) rfl (fun ac A20 => ?_)
    refine s_one (.int .i64 (ms * mt)) A20 S2 (g_bin (u := .int .i64 ms) (k := .int .i64 mt) (by kernel_rfl) (by kernel_rfl) (fun _ => by kernel_rfl) (b_mul (by omega))) rfl (fun ac A21 => ?_)
    refine s_one (.int .i64 (mt - z)) A21 S2 (g_move (by kernel_rfl)) rfl (fun ac A22 => ?_)
    refine s_one (.int .i64 (ms * mt + (mt - z))) A22 S2 (g_bin (u := .int .i64 (ms * mt)) (k := .int .i64 (mt - z)) (by kernel_rfl) (by kernel_rfl) (fun _ => by kernel_rfl) (b_add (by omega))) rfl (fun ac A23 => ?_)
    refine s_one (.int .i64 (ms * mt + (mt - z))) A23 S2 (g_assign (by kernel_rfl)) rfl (fun ac A24 => ?_)
    refine wpList_nil ?_
    refine n_then ?_
    refine wp_ret ?_
    refine fin1 (.int .i64 (ms * mt + (mt - z))) Try.results56 A24 S2 (rv_tmp (by kernel_rfl)) ⟨?_, S2.kp⟩
    have e : unf ms mt z = ms * mt + (mt - z) := if_pos p11
    rw [e]
  · have p25 := of_decide_eq_false h10
    refine wp_skip ?_
    refine n_then ?_
    refine wp_seq ?_
    refine wp_region_lit ?_
    refine s_one (.pointer (some ⟨g3, 2, none⟩)) A9 S2 (g_field (u := .pointer (some ⟨g3, 0, none⟩)) (by kernel_rfl) (fun _ => by kernel_rfl)) rfl (fun ac A26 => ?_)
    refine s_one (.int .i64 ms) A26 S2 (g_load (g := g3) (off := 2) 0 (by kernel_rfl) rfl (by kernel_rfl)) rfl (fun ac A27 => ?_)
    refine s_one (.pointer (some ⟨g3, 3, none⟩)) A27 S2 (g_field (u := .pointer (some ⟨g3, 0, none⟩)) (by kernel_rfl) (fun _ => by kernel_rfl)) rfl (fun ac A28 => ?_)
    refine s_one (.int .i64 mt) A28 S2 (g_load (g := g3) (off := 3) 0 (by kernel_rfl) rfl (by kernel_rfl)) rfl (fun ac A29 => ?_)
    refine s_one (.int .i64 (ms * mt)) A29 S2 (g_bin (u := .int .i64 ms) (k := .int .i64 mt) (by kernel_rfl) (by kernel_rfl) (fun _ => by kernel_rfl) (b_mul (by omega))) rfl (fun ac A30 => ?_)
    refine s_one (.int .i64 z) A30 S2 (g_move (by kernel_rfl)) rfl (fun ac A31 => ?_)
    refine s_one (.int .i64 (ms * mt + z)) A31 S2 (g_bin (u := .int .i64 (ms * mt)) (k := .int .i64 z) (by kernel_rfl) (by kernel_rfl) (fun _ => by kernel_rfl) (b_add (by omega))) rfl (fun ac A32 => ?_)
    refine s_one (.int .i64 (ms * mt + z)) A32 S2 (g_assign (by kernel_rfl)) rfl (fun ac A33 => ?_)
    refine wpList_nil ?_
    refine n_then ?_
    refine wp_ret ?_
    refine fin1 (.int .i64 (ms * mt + z)) Try.results56 A33 S2 (rv_tmp (by kernel_rfl)) ⟨?_, S2.kp⟩
    have e : unf ms mt z = ms * mt + z := if_neg p25
    rw [e]

def wyE (mt fx fz tx tz : Int) : Int := firstOf [spE fx fz, spE tx tz, must_a_r (decide (fz < 0)) 15, must_a_r (inB tz 1 (mt - 1)) 22]
def wyC (mw md ms mt fx fz tx tz : Int) : Cr := ⟨fx, -fz, mw, tx, unf ms mt tz, md⟩
theorem must_0 {b : Bool} {e : Int} (he : e ≠ 0) (h : must_a_r b e = 0) : b = true := by unfold must_a_r at h; cases b with | false => exact absurd h he | true => rfl
theorem wyE_0 {mt fx fz tx tz : Int} (h : wyE mt fx fz tx tz = 0) : ((-100000 ≤ fx ∧ fx ≤ 100000) ∧ (-100000 ≤ fz ∧ fz ≤ 100000)) ∧ ((-100000 ≤ tx ∧ tx ≤ 100000) ∧ (-100000 ≤ tz ∧ tz ≤ 100000)) ∧ fz < 0 ∧ 1 ≤ tz ∧ tz ≤ mt - 1 := by
  unfold wyE at h
  obtain ⟨h1, h⟩ := fo_zero h
  obtain ⟨h2, h⟩ := fo_zero h
  obtain ⟨h3, h⟩ := fo_zero h
  rw [fo_last] at h
  exact ⟨spE_0 h1, spE_0 h2, of_decide_eq_true (must_0 (by decide) h3), inB_true.1 (must_0 (by decide) h)⟩
theorem wyC_ok {mw md ms mt fx fz tx tz : Int} (h : mdE mw md ms mt = 0) (h2 : wyE mt fx fz tx tz = 0) : (wyC mw md ms mt fx fz tx tz).Ok := by
  obtain ⟨a, b, d, e⟩ := mdE_0 h
  obtain ⟨f, k, l, m⟩ := wyE_0 h2
  have u := unf_bd d e m
  exact ⟨f.1, k.1, by show 1 ≤ -fz ∧ -fz ≤ 100000; omega, u, a, b⟩
def opE (mw md ms mt fx fz tx tz : Int) : Int := firstOf [mdE mw md ms mt, wyE mt fx fz tx tz]
theorem opE_n {mw md ms mt fx fz tx tz : Int} (h : mdE mw md ms mt ≠ 0) : opE mw md ms mt fx fz tx tz = mdE mw md ms mt := fo_ne h
theorem opE_y {mw md ms mt fx fz tx tz : Int} (h : mdE mw md ms mt = 0) : opE mw md ms mt fx fz tx tz = wyE mt fx fz tx tz := by unfold opE; rw [fo_cons0 h, fo_last]
theorem opE_0 {mw md ms mt fx fz tx tz : Int} (h : opE mw md ms mt fx fz tx tz = 0) : mdE mw md ms mt = 0 ∧ wyE mt fx fz tx tz = 0 := by
  obtain ⟨h1, h⟩ := fo_zero h
  rw [fo_last] at h
  exact ⟨h1, h⟩

set_option maxRecDepth 100000 in
set_option maxHeartbeats 400000 in
theorem way_s (mw md ms mt fx fz tx tz : Int) (w0 : World) (h1 : 0 ≤ ms ∧ ms ≤ 4) (h2 : 2 ≤ mt ∧ mt ≤ 20000) :
    Calls Try.prog 45 #[.agg #[.int .i64 mw, .int .i64 md, .int .i64 ms, .int .i64 mt], .agg #[.int .i64 fx, .int .i64 fz], .agg #[.int .i64 tx, .int .i64 tz]] w0 fun e w' => e = .returned (.tuple #[.agg #[.int .i64 (zv (wyE mt fx fz tx tz) (fx)), .int .i64 (zv (wyE mt fx fz tx tz) (-fz)), .int .i64 (zv (wyE mt fx fz tx tz) (mw)), .int .i64 (zv (wyE mt fx fz tx tz) (tx)), .int .i64 (zv (wyE mt fx fz tx tz) (unf ms mt tz)), .int .i64 (zv (wyE mt fx fz tx tz) (md))], .int .i64 (wyE mt fx fz tx tz)]) ∧ Below w0.heap.size w0 w' := by
  have S0 := St.start w0
  refine enter (n := 52) Try.func45 rfl rfl rfl (fun ac A0 => ?_)
  refine wp_seq ?_
  refine wp_region_lit ?_
  refine s_box (.agg #[.int .i64 mw, .int .i64 md, .int .i64 ms, .int .i64 mt]) A0 S0 (by kernel_rfl) rfl (fun g3 ac wc A1 S2 => ?_)
  replace S2 : St _ (⟨g3, 24, #[.int .i64 mw, .int .i64 md, .int .i64 ms, .int .i64 mt], true⟩ :: _) _ _ := S2
  refine s_box (.agg #[.int .i64 fx, .int .i64 fz]) A1 S2 (by kernel_rfl) rfl (fun g7 ac wc A5 S6 => ?_)
  replace S6 : St _ (⟨g7, 28, #[.int .i64 fx, .int .i64 fz], true⟩ :: _) _ _ := S6
  refine s_box (.agg #[.int .i64 tx, .int .i64 tz]) A5 S6 (by kernel_rfl) rfl (fun g11 ac wc A9 S10 => ?_)
  replace S10 : St _ (⟨g11, 28, #[.int .i64 tx, .int .i64 tz], true⟩ :: _) _ _ := S10
  refine s_alloc (#[.int .i64 0, .int .i64 0, .int .i64 0, .int .i64 0, .int .i64 0, .int .i64 0]) A9 S10 (by kernel_rfl) rfl (fun g15 ac wc A13 S14 => ?_)
  refine s_one (.int .i64 0) A13 S14 (g_assign (by kernel_rfl)) rfl (fun ac A16 => ?_)
  refine wpList_nil ?_
  refine n_then ?_
  refine wp_seq ?_
  refine r_begin (w0 := w0) (by kernel_rfl) (S14.sub sub_all sub_all) (fun wc T17 B18 => ?_)
  have S19 := S14.kept B18
  refine r_take 0 (.agg #[.int .i64 fx, .int .i64 fz]) A16 T17 (g_load (g := g7) (off := 0) 2 (by kernel_rfl) rfl (by kernel_rfl)) rfl rfl rfl (pf_then pf_body) (by kernel_rfl) (fun ac A20 => ?_)
  refine r_take 2 (.agg #[.int .i64 tx, .int .i64 tz]) A20 T17 (g_load (g := g11) (off := 0) 1 (by kernel_rfl) rfl (by kernel_rfl)) rfl rfl rfl (pf_then pf_body) (by kernel_rfl) (fun ac A21 => ?_)
  refine r_take 4 (.pointer (some ⟨g7, 1, none⟩)) A21 T17 (g_field (u := .pointer (some ⟨g7, 0, none⟩)) (by kernel_rfl) (fun _ => by kernel_rfl)) rfl rfl rfl (pf_then pf_body) (by kernel_rfl) (fun ac A22 => ?_)
  refine r_take 5 (.int .i64 fz) A22 T17 (g_load (g := g7) (off := 1) 2 (by kernel_rfl) rfl (by kernel_rfl)) rfl rfl rfl (pf_then pf_body) (by kernel_rfl) (fun ac A23 => ?_)
  refine r_take 6 (.bool (decide (fz < 0))) A23 T17 (g_bin (u := .int .i64 fz) (k := .int .i64 0) (by kernel_rfl) (by kernel_rfl) (fun _ => by kernel_rfl) (fun _ => by kernel_rfl)) rfl rfl rfl (pf_then pf_body) (by kernel_rfl) (fun ac A24 => ?_)
  refine r_take 8 (.pointer (some ⟨g11, 1, none⟩)) A24 T17 (g_field (u := .pointer (some ⟨g11, 0, none⟩)) (by kernel_rfl) (fun _ => by kernel_rfl)) rfl rfl rfl (pf_then pf_body) (by kernel_rfl) (fun ac A25 => ?_)
  refine r_take 9 (.int .i64 tz) A25 T17 (g_load (g := g11) (off := 1) 1 (by kernel_rfl) rfl (by kernel_rfl)) rfl rfl rfl (pf_then pf_body) (by kernel_rfl) (fun ac A26 => ?_)
  refine r_take 10 (.pointer (some ⟨g3, 3, none⟩)) A26 T17 (g_field (u := .pointer (some ⟨g3, 0, none⟩)) (by kernel_rfl) (fun _ => by kernel_rfl)) rfl rfl rfl (pf_then pf_body) (by kernel_rfl) (fun ac A27 => ?_)
  refine r_take 11 (.int .i64 mt) A27 T17 (g_load (g := g3) (off := 3) 3 (by kernel_rfl) rfl (by kernel_rfl)) rfl rfl rfl (pf_then pf_body) (by kernel_rfl) (fun ac A28 => ?_)
  refine r_take 12 (.int .i64 (mt - 1)) A28 T17 (g_bin (u := .int .i64 mt) (k := .int .i64 1) (by kernel_rfl) (by kernel_rfl) (fun _ => by kernel_rfl) (b_sub (by omega))) rfl rfl rfl (pf_then pf_body) (by kernel_rfl) (fun ac A29 => ?_)
  refine r_1 (i := 1) (by kernel_rfl) ?_
  refine rs_call (fs := #[]) (cp := #[]) (r := [(0, .agg #[.int .i64 fx, .int .i64 fz])]) #[.agg #[.int .i64 fx, .int .i64 fz]] (.int .i64 (spE fx fz)) A29 S19 sub_all sub_all (spotErr_s fx fz _) Try.call55 rfl rfl (by kernel_rfl) (by kernel_rfl) (by kernel_rfl) rfl (fun ac wc A30 S31 => ?_)
  have T33 := S31.sub sub_all sub_all
  refine r_1 (i := 3) (by kernel_rfl) ?_
  refine rs_call (fs := #[]) (cp := #[]) (r := [(0, .agg #[.int .i64 tx, .int .i64 tz])]) #[.agg #[.int .i64 tx, .int .i64 tz]] (.int .i64 (spE tx tz)) A30 S31 sub_all sub_all (spotErr_s tx tz _) Try.call55 rfl rfl (by kernel_rfl) (by kernel_rfl) (by kernel_rfl) rfl (fun ac wc A34 S35 => ?_)
  have T37 := S35.sub sub_all sub_all
  refine r_1 (i := 7) (by kernel_rfl) ?_
  refine rs_call (fs := #[]) (cp := #[]) (r := [(0, .bool (decide (fz < 0))), (0, .int .i64 15)]) #[.bool (decide (fz < 0)), .int .i64 15] (.int .i64 (must_a_r (decide (fz < 0)) 15)) A34 S35 sub_all sub_all (must_a (decide (fz < 0)) 15 _) Try.call52 rfl rfl (by kernel_rfl) (by kernel_rfl) (by kernel_rfl) rfl (fun ac wc A38 S39 => ?_)
  have T41 := S39.sub sub_all sub_all
  refine r_1 (i := 13) (by kernel_rfl) ?_
  refine rs_call (fs := #[]) (cp := #[]) (r := [(0, .int .i64 tz), (0, .int .i64 1), (0, .int .i64 (mt - 1))]) #[.int .i64 tz, .int .i64 1, .int .i64 (mt - 1)] (.bool (inB tz 1 (mt - 1))) A38 S39 sub_all sub_all (within_s tz 1 (mt - 1) _) Try.call53 rfl rfl (by kernel_rfl) (by kernel_rfl) (by kernel_rfl) rfl (fun ac wc A42 S43 => ?_)
  have T45 := S43.sub sub_all sub_all
  refine r_1 (i := 14) (by kernel_rfl) ?_
  refine rs_call (fs := #[]) (cp := #[]) (r := [(0, .bool (inB tz 1 (mt - 1))), (0, .int .i64 22)]) #[.bool (inB tz 1 (mt - 1)), .int .i64 22] (.int .i64 (must_a_r (inB tz 1 (mt - 1)) 22)) A42 S43 sub_all sub_all (must_a (inB tz 1 (mt - 1)) 22 _) Try.call52 rfl rfl (by kernel_rfl) (by kernel_rfl) (by kernel_rfl) rfl (fun ac wc A46 S47 => ?_)
  have T49 := S47.sub sub_all sub_all
  refine r_1 (i := 15) (by kernel_rfl) ?_
  refine rs_bs (e := 33) (r := [(0, .int .i64 (spE fx fz)), (1, .int .i64 (spE tx tz)), (2, .int .i64 (must_a_r (decide (fz < 0)) 15)), (3, .int .i64 (must_a_r (inB tz 1 (mt - 1)) 22))]) (#[.int .i64 (spE fx fz), .int .i64 (spE tx tz), .int .i64 (must_a_r (decide (fz < 0)) 15), .int .i64 (must_a_r (inB tz 1 (mt - 1)) 22)]) A46 S47 sub_all sub_all (by kernel_rfl) (by kernel_rfl) rfl rfl rfl (fun g52 ac wc A50 S51 => ?_)
  have T53 := S51.sub (sub_skip sub_all) sub_all
  refine r_1 (i := 16) (by kernel_rfl) ?_
  refine rs_call (fs := #[]) (cp := #[]) (r := [(0, .slice (some ⟨g52, 0, none⟩) 4 4)]) #[.slice (some ⟨g52, 0, none⟩) 4 4] (.int .i64 (firstOf [spE fx fz, spE tx tz, (must_a_r (decide (fz < 0)) 15), (must_a_r (inB tz 1 (mt - 1)) 22)])) A50 S51 (sub_skip sub_all) sub_all (first_s g52 ([spE fx fz, spE tx tz, (must_a_r (decide (fz < 0)) 15), (must_a_r (inB tz 1 (mt - 1)) 22)]) 4 4 _ (S51.get 0 rfl) rfl (by omega)) Try.call50 rfl rfl (by kernel_rfl) (by kernel_rfl) (by kernel_rfl) rfl (fun ac wc A54 S55 => ?_)
  have T57 := S55.sub (sub_skip sub_all) sub_all
  refine r_take 17 (.int .i64 (firstOf [spE fx fz, spE tx tz, (must_a_r (decide (fz < 0)) 15), (must_a_r (inB tz 1 (mt - 1)) 22)])) A54 T57 (g_assign (by kernel_rfl)) rfl rfl rfl (pf_then pf_body) (by kernel_rfl) (fun ac A58 => ?_)
  refine r_done (by kernel_rfl) ?_
  refine n_then ?_
  refine wp_seq ?_
  refine wp_seq ?_
  refine wp_region_lit ?_
  refine s_one (.int .i64 (firstOf [spE fx fz, spE tx tz, (must_a_r (decide (fz < 0)) 15), (must_a_r (inB tz 1 (mt - 1)) 22)])) A58 S55 (g_move (by kernel_rfl)) rfl (fun ac A59 => ?_)
  refine s_one (.bool (decide (firstOf [spE fx fz, spE tx tz, (must_a_r (decide (fz < 0)) 15), (must_a_r (inB tz 1 (mt - 1)) 22)] ≠ 0))) A59 S55 (g_bin (u := .int .i64 (firstOf [spE fx fz, spE tx tz, (must_a_r (decide (fz < 0)) 15), (must_a_r (inB tz 1 (mt - 1)) 22)])) (k := .int .i64 0) (by kernel_rfl) (by kernel_rfl) (fun _ => by kernel_rfl) b_neq) rfl (fun ac A60 => ?_)
  refine wpList_nil ?_
  refine n_then ?_
  refine c_ifb (b := (decide (firstOf [spE fx fz, spE tx tz, (must_a_r (decide (fz < 0)) 15), (must_a_r (inB tz 1 (mt - 1)) 22)] ≠ 0))) A60 (by kernel_rfl) (fun h61 => ?_) (fun h61 => ?_)
  · have p62 := of_decide_eq_true h61
    refine wp_seq ?_
    refine wp_region_lit ?_
    refine s_one (.agg #[.int .i64 0, .int .i64 0, .int .i64 0, .int .i64 0, .int .i64 0, .int .i64 0]) A60 S55 (g_build (r := []) (by kernel_rfl) (fun _ => by kernel_rfl)) rfl (fun ac A63 => ?_)
    refine s_one (.int .i64 (firstOf [spE fx fz, spE tx tz, (must_a_r (decide (fz < 0)) 15), (must_a_r (inB tz 1 (mt - 1)) 22)])) A63 S55 (g_move (by kernel_rfl)) rfl (fun ac A64 => ?_)
    refine s_store (g := g15) (off := 0) (v := .agg #[.int .i64 0, .int .i64 0, .int .i64 0, .int .i64 0, .int .i64 0, .int .i64 0]) 1 (#[.int .i64 0, .int .i64 0, .int .i64 0, .int .i64 0, .int .i64 0, .int .i64 0]) A64 S55 (by kernel_rfl) (by kernel_rfl) rfl (by kernel_rfl) (fun wc S66 => ?_)
    refine s_one (.int .i64 (firstOf [spE fx fz, spE tx tz, (must_a_r (decide (fz < 0)) 15), (must_a_r (inB tz 1 (mt - 1)) 22)])) A64 S66 (g_assign (by kernel_rfl)) rfl (fun ac A68 => ?_)
    refine wpList_nil ?_
    refine n_then ?_
    refine wp_ret ?_
    refine r_then ?_
    refine fin2 (.agg #[.int .i64 0, .int .i64 0, .int .i64 0, .int .i64 0, .int .i64 0, .int .i64 0]) (.int .i64 (firstOf [spE fx fz, spE tx tz, (must_a_r (decide (fz < 0)) 15), (must_a_r (inB tz 1 (mt - 1)) 22)])) Try.results45 A68 S66 (rv_cell (g := g15) (off := 0) 1 (by kernel_rfl) rfl (by kernel_rfl)) (rv_tmp (by kernel_rfl)) ⟨?_, S66.kp⟩
    have zn : wyE mt fx fz tx tz ≠ 0 := p62
    simp only [zv_n zn]
    rfl
  · have p69 := of_decide_eq_false h61
    have ze0 : firstOf [spE fx fz, spE tx tz, (must_a_r (decide (fz < 0)) 15), (must_a_r (inB tz 1 (mt - 1)) 22)] = 0 := by simpa using h61
    have ze : wyE mt fx fz tx tz = 0 := ze0
    have zz := wyE_0 ze
    refine wp_skip ?_
    refine n_then ?_
    refine wp_seq ?_
    refine wp_region_lit ?_
    refine s_one (.agg #[.int .i64 mw, .int .i64 md, .int .i64 ms, .int .i64 mt]) A60 S55 (g_load (g := g3) (off := 0) 4 (by kernel_rfl) rfl (by kernel_rfl)) rfl (fun ac A70 => ?_)
    refine s_one (.pointer (some ⟨g11, 1, none⟩)) A70 S55 (g_field (u := .pointer (some ⟨g11, 0, none⟩)) (by kernel_rfl) (fun _ => by kernel_rfl)) rfl (fun ac A71 => ?_)
    refine s_one (.int .i64 tz) A71 S55 (g_load (g := g11) (off := 1) 2 (by kernel_rfl) rfl (by kernel_rfl)) rfl (fun ac A72 => ?_)
    have q76 := unf_bd (ms := ms) (mt := mt) (z := tz) (by omega) (by omega) (by omega)
    refine s_call (fs := #[]) (cp := #[]) (r := [(0, .agg #[.int .i64 mw, .int .i64 md, .int .i64 ms, .int .i64 mt]), (0, .int .i64 tz)]) #[.agg #[.int .i64 mw, .int .i64 md, .int .i64 ms, .int .i64 mt], .int .i64 tz] (.int .i64 (unf ms mt tz)) A72 S55 (unfolded_s mw md ms mt tz _ (by omega) (by omega) (by omega)) Try.call56 (by kernel_rfl) (by kernel_rfl) (by kernel_rfl) rfl (fun ac wc A73 S74 => ?_)
    refine s_one (.int .i64 (unf ms mt tz)) A73 S74 (g_assign (by kernel_rfl)) rfl (fun ac A77 => ?_)
    refine wpList_nil ?_
    refine n_then ?_
    refine wp_seq ?_
    refine wp_seq ?_
    refine wp_region_lit ?_
    refine s_one (.int .i64 (unf ms mt tz)) A77 S74 (g_move (by kernel_rfl)) rfl (fun ac A78 => ?_)
    refine s_one (.bool (decide (unf ms mt tz > 100000))) A78 S74 (g_bin (u := .int .i64 (unf ms mt tz)) (k := .int .i64 100000) (by kernel_rfl) (by kernel_rfl) (fun _ => by kernel_rfl) (fun _ => by kernel_rfl)) rfl (fun ac A79 => ?_)
    refine wpList_nil ?_
    refine n_then ?_
    refine c_f (b := (decide (unf ms mt tz > 100000))) A79 (by kernel_rfl) (decide_eq_false (by omega)) ?_
    refine wp_skip ?_
    refine n_then ?_
    refine wp_seq ?_
    refine wp_region_lit ?_
    refine s_one (.pointer (some ⟨g7, 0, none⟩)) A79 S74 (g_field (u := .pointer (some ⟨g7, 0, none⟩)) (by kernel_rfl) (fun _ => by kernel_rfl)) rfl (fun ac A80 => ?_)
    refine s_one (.int .i64 fx) A80 S74 (g_load (g := g7) (off := 0) 3 (by kernel_rfl) rfl (by kernel_rfl)) rfl (fun ac A81 => ?_)
    refine s_one (.pointer (some ⟨g7, 1, none⟩)) A81 S74 (g_field (u := .pointer (some ⟨g7, 0, none⟩)) (by kernel_rfl) (fun _ => by kernel_rfl)) rfl (fun ac A82 => ?_)
    refine s_one (.int .i64 fz) A82 S74 (g_load (g := g7) (off := 1) 3 (by kernel_rfl) rfl (by kernel_rfl)) rfl (fun ac A83 => ?_)
    refine s_one (.int .i64 (-fz)) A83 S74 (g_un (u := .int .i64 fz) (by kernel_rfl) (u_neg (by omega))) rfl (fun ac A84 => ?_)
    refine s_one (.pointer (some ⟨g3, 0, none⟩)) A84 S74 (g_field (u := .pointer (some ⟨g3, 0, none⟩)) (by kernel_rfl) (fun _ => by kernel_rfl)) rfl (fun ac A85 => ?_)
    refine s_one (.int .i64 mw) A85 S74 (g_load (g := g3) (off := 0) 4 (by kernel_rfl) rfl (by kernel_rfl)) rfl (fun ac A86 => ?_)
    refine s_one (.pointer (some ⟨g11, 0, none⟩)) A86 S74 (g_field (u := .pointer (some ⟨g11, 0, none⟩)) (by kernel_rfl) (fun _ => by kernel_rfl)) rfl (fun ac A87 => ?_)
    refine s_one (.int .i64 tx) A87 S74 (g_load (g := g11) (off := 0) 2 (by kernel_rfl) rfl (by kernel_rfl)) rfl (fun ac A88 => ?_)
    refine s_one (.int .i64 (unf ms mt tz)) A88 S74 (g_move (by kernel_rfl)) rfl (fun ac A89 => ?_)
    refine s_one (.pointer (some ⟨g3, 1, none⟩)) A89 S74 (g_field (u := .pointer (some ⟨g3, 0, none⟩)) (by kernel_rfl) (fun _ => by kernel_rfl)) rfl (fun ac A90 => ?_)
    refine s_one (.int .i64 md) A90 S74 (g_load (g := g3) (off := 1) 4 (by kernel_rfl) rfl (by kernel_rfl)) rfl (fun ac A91 => ?_)
    refine s_one (.agg #[.int .i64 fx, .int .i64 (-fz), .int .i64 mw, .int .i64 tx, .int .i64 (unf ms mt tz), .int .i64 md]) A91 S74 (g_build (r := [(0, .int .i64 fx), (1, .int .i64 (-fz)), (2, .int .i64 mw), (3, .int .i64 tx), (4, .int .i64 (unf ms mt tz)), (5, .int .i64 md)]) (by kernel_rfl) (fun _ => by kernel_rfl)) rfl (fun ac A92 => ?_)
    refine s_one (.agg #[.int .i64 fx, .int .i64 (-fz), .int .i64 mw, .int .i64 tx, .int .i64 (unf ms mt tz), .int .i64 md]) A92 S74 (g_build (r := [(0, .agg #[.int .i64 fx, .int .i64 (-fz), .int .i64 mw, .int .i64 tx, .int .i64 (unf ms mt tz), .int .i64 md])]) (by kernel_rfl) (fun _ => by kernel_rfl)) rfl (fun ac A93 => ?_)
    refine s_store (g := g15) (off := 0) (v := .agg #[.int .i64 fx, .int .i64 (-fz), .int .i64 mw, .int .i64 tx, .int .i64 (unf ms mt tz), .int .i64 md]) 1 (#[.int .i64 fx, .int .i64 (-fz), .int .i64 mw, .int .i64 tx, .int .i64 (unf ms mt tz), .int .i64 md]) A93 S74 (by kernel_rfl) (by kernel_rfl) rfl (by kernel_rfl) (fun wc S95 => ?_)
    refine s_one (.int .i64 0) A93 S95 (g_assign (by kernel_rfl)) rfl (fun ac A97 => ?_)
    refine wpList_nil ?_
    refine n_then ?_
    refine wp_ret ?_
    refine fin2 (.agg #[.int .i64 fx, .int .i64 (-fz), .int .i64 mw, .int .i64 tx, .int .i64 (unf ms mt tz), .int .i64 md]) (.int .i64 0) Try.results45 A97 S95 (rv_cell (g := g15) (off := 0) 1 (by kernel_rfl) rfl (by kernel_rfl)) (rv_tmp (by kernel_rfl)) ⟨?_, S95.kp⟩
    simp only [zv_0 ze]
    rw [ze]

set_option maxRecDepth 100000 in
set_option maxHeartbeats 400000 in
theorem open_s (mw md ms mt fx fz tx tz : Int) (w0 : World) :
    Calls Try.prog 35 #[.agg #[.int .i64 mw, .int .i64 md, .int .i64 ms, .int .i64 mt], .agg #[.int .i64 fx, .int .i64 fz], .agg #[.int .i64 tx, .int .i64 tz]] w0 fun e w' => e = .returned (.tuple #[.agg #[.int .i64 (zv (opE mw md ms mt fx fz tx tz) (fx)), .int .i64 (zv (opE mw md ms mt fx fz tx tz) (-fz)), .int .i64 (zv (opE mw md ms mt fx fz tx tz) (mw)), .int .i64 (zv (opE mw md ms mt fx fz tx tz) (tx)), .int .i64 (zv (opE mw md ms mt fx fz tx tz) (unf ms mt tz)), .int .i64 (zv (opE mw md ms mt fx fz tx tz) (md))], .int .i64 (opE mw md ms mt fx fz tx tz)]) ∧ Below w0.heap.size w0 w' := by
  have S0 := St.start w0
  refine enter (n := 21) Try.func35 rfl rfl rfl (fun ac A0 => ?_)
  refine wp_seq ?_
  refine wp_region_lit ?_
  refine s_box (.agg #[.int .i64 mw, .int .i64 md, .int .i64 ms, .int .i64 mt]) A0 S0 (by kernel_rfl) rfl (fun g3 ac wc A1 S2 => ?_)
  replace S2 : St _ (⟨g3, 24, #[.int .i64 mw, .int .i64 md, .int .i64 ms, .int .i64 mt], true⟩ :: _) _ _ := S2
  refine s_box (.agg #[.int .i64 fx, .int .i64 fz]) A1 S2 (by kernel_rfl) rfl (fun g7 ac wc A5 S6 => ?_)
  replace S6 : St _ (⟨g7, 28, #[.int .i64 fx, .int .i64 fz], true⟩ :: _) _ _ := S6
  refine s_box (.agg #[.int .i64 tx, .int .i64 tz]) A5 S6 (by kernel_rfl) rfl (fun g11 ac wc A9 S10 => ?_)
  replace S10 : St _ (⟨g11, 28, #[.int .i64 tx, .int .i64 tz], true⟩ :: _) _ _ := S10
  refine s_alloc (#[.int .i64 0, .int .i64 0, .int .i64 0, .int .i64 0, .int .i64 0, .int .i64 0]) A9 S10 (by kernel_rfl) rfl (fun g15 ac wc A13 S14 => ?_)
  refine s_one (.int .i64 0) A13 S14 (g_assign (by kernel_rfl)) rfl (fun ac A16 => ?_)
  refine wpList_nil ?_
  refine n_then ?_
  refine wp_seq ?_
  refine wp_seq ?_
  refine wp_region_lit ?_
  refine s_one (.agg #[.int .i64 mw, .int .i64 md, .int .i64 ms, .int .i64 mt]) A16 S14 (g_load (g := g3) (off := 0) 3 (by kernel_rfl) rfl (by kernel_rfl)) rfl (fun ac A17 => ?_)
  refine s_call (fs := #[]) (cp := #[]) (r := [(0, .agg #[.int .i64 mw, .int .i64 md, .int .i64 ms, .int .i64 mt])]) #[.agg #[.int .i64 mw, .int .i64 md, .int .i64 ms, .int .i64 mt]] (.int .i64 (mdE mw md ms mt)) A17 S14 (CheckMode_s mw md ms mt _) Try.call43 (by kernel_rfl) (by kernel_rfl) (by kernel_rfl) rfl (fun ac wc A18 S19 => ?_)
  refine s_one (.int .i64 (mdE mw md ms mt)) A18 S19 (g_assign (by kernel_rfl)) rfl (fun ac A21 => ?_)
  refine wpList_nil ?_
  refine n_then ?_
  refine wp_seq ?_
  refine wp_region_lit ?_
  refine s_one (.int .i64 (mdE mw md ms mt)) A21 S19 (g_move (by kernel_rfl)) rfl (fun ac A22 => ?_)
  refine s_one (.bool (decide (mdE mw md ms mt ≠ 0))) A22 S19 (g_bin (u := .int .i64 (mdE mw md ms mt)) (k := .int .i64 0) (by kernel_rfl) (by kernel_rfl) (fun _ => by kernel_rfl) b_neq) rfl (fun ac A23 => ?_)
  refine wpList_nil ?_
  refine n_then ?_
  refine c_ifb (b := (decide (mdE mw md ms mt ≠ 0))) A23 (by kernel_rfl) (fun h24 => ?_) (fun h24 => ?_)
  · have p25 := of_decide_eq_true h24
    refine wp_seq ?_
    refine wp_region_lit ?_
    refine s_one (.agg #[.int .i64 0, .int .i64 0, .int .i64 0, .int .i64 0, .int .i64 0, .int .i64 0]) A23 S19 (g_build (r := []) (by kernel_rfl) (fun _ => by kernel_rfl)) rfl (fun ac A26 => ?_)
    refine s_one (.int .i64 (mdE mw md ms mt)) A26 S19 (g_move (by kernel_rfl)) rfl (fun ac A27 => ?_)
    refine s_store (g := g15) (off := 0) (v := .agg #[.int .i64 0, .int .i64 0, .int .i64 0, .int .i64 0, .int .i64 0, .int .i64 0]) 0 (#[.int .i64 0, .int .i64 0, .int .i64 0, .int .i64 0, .int .i64 0, .int .i64 0]) A27 S19 (by kernel_rfl) (by kernel_rfl) rfl (by kernel_rfl) (fun wc S29 => ?_)
    refine s_one (.int .i64 (mdE mw md ms mt)) A27 S29 (g_assign (by kernel_rfl)) rfl (fun ac A31 => ?_)
    refine wpList_nil ?_
    refine n_then ?_
    refine wp_ret ?_
    refine r_then ?_
    refine fin2 (.agg #[.int .i64 0, .int .i64 0, .int .i64 0, .int .i64 0, .int .i64 0, .int .i64 0]) (.int .i64 (mdE mw md ms mt)) Try.results35 A31 S29 (rv_cell (g := g15) (off := 0) 0 (by kernel_rfl) rfl (by kernel_rfl)) (rv_tmp (by kernel_rfl)) ⟨?_, S29.kp⟩
    rw [opE_n p25]
    simp only [zv_n p25]
  · have p32 := of_decide_eq_false h24
    have ze : mdE mw md ms mt = 0 := by simpa using h24
    have zz := mdE_0 ze
    refine wp_skip ?_
    refine n_then ?_
    refine wp_seq ?_
    refine wp_region_lit ?_
    refine s_one (.agg #[.int .i64 mw, .int .i64 md, .int .i64 ms, .int .i64 mt]) A23 S19 (g_load (g := g3) (off := 0) 3 (by kernel_rfl) rfl (by kernel_rfl)) rfl (fun ac A33 => ?_)
    refine s_one (.agg #[.int .i64 fx, .int .i64 fz]) A33 S19 (g_load (g := g7) (off := 0) 2 (by kernel_rfl) rfl (by kernel_rfl)) rfl (fun ac A34 => ?_)
    refine s_one (.agg #[.int .i64 tx, .int .i64 tz]) A34 S19 (g_load (g := g11) (off := 0) 1 (by kernel_rfl) rfl (by kernel_rfl)) rfl (fun ac A35 => ?_)
    refine s_call (fs := #[]) (cp := #[]) (r := [(0, .agg #[.int .i64 mw, .int .i64 md, .int .i64 ms, .int .i64 mt]), (0, .agg #[.int .i64 fx, .int .i64 fz]), (0, .agg #[.int .i64 tx, .int .i64 tz])]) #[.agg #[.int .i64 mw, .int .i64 md, .int .i64 ms, .int .i64 mt], .agg #[.int .i64 fx, .int .i64 fz], .agg #[.int .i64 tx, .int .i64 tz]] (.tuple #[.agg #[.int .i64 (zv (wyE mt fx fz tx tz) (fx)), .int .i64 (zv (wyE mt fx fz tx tz) (-fz)), .int .i64 (zv (wyE mt fx fz tx tz) (mw)), .int .i64 (zv (wyE mt fx fz tx tz) (tx)), .int .i64 (zv (wyE mt fx fz tx tz) (unf ms mt tz)), .int .i64 (zv (wyE mt fx fz tx tz) (md))], .int .i64 (wyE mt fx fz tx tz)]) A35 S19 (way_s mw md ms mt fx fz tx tz _ (by omega) (by omega)) Try.call45 (by kernel_rfl) (by kernel_rfl) (by kernel_rfl) rfl (fun ac wc A36 S37 => ?_)
    refine s_one (.agg #[.int .i64 (zv (wyE mt fx fz tx tz) (fx)), .int .i64 (zv (wyE mt fx fz tx tz) (-fz)), .int .i64 (zv (wyE mt fx fz tx tz) (mw)), .int .i64 (zv (wyE mt fx fz tx tz) (tx)), .int .i64 (zv (wyE mt fx fz tx tz) (unf ms mt tz)), .int .i64 (zv (wyE mt fx fz tx tz) (md))]) A36 S37 (g_extract (u := .tuple #[.agg #[.int .i64 (zv (wyE mt fx fz tx tz) (fx)), .int .i64 (zv (wyE mt fx fz tx tz) (-fz)), .int .i64 (zv (wyE mt fx fz tx tz) (mw)), .int .i64 (zv (wyE mt fx fz tx tz) (tx)), .int .i64 (zv (wyE mt fx fz tx tz) (unf ms mt tz)), .int .i64 (zv (wyE mt fx fz tx tz) (md))], .int .i64 (wyE mt fx fz tx tz)]) (by kernel_rfl) (fun _ => by kernel_rfl)) rfl (fun ac A39 => ?_)
    refine s_one (.int .i64 (wyE mt fx fz tx tz)) A39 S37 (g_extract (u := .tuple #[.agg #[.int .i64 (zv (wyE mt fx fz tx tz) (fx)), .int .i64 (zv (wyE mt fx fz tx tz) (-fz)), .int .i64 (zv (wyE mt fx fz tx tz) (mw)), .int .i64 (zv (wyE mt fx fz tx tz) (tx)), .int .i64 (zv (wyE mt fx fz tx tz) (unf ms mt tz)), .int .i64 (zv (wyE mt fx fz tx tz) (md))], .int .i64 (wyE mt fx fz tx tz)]) (by kernel_rfl) (fun _ => by kernel_rfl)) rfl (fun ac A40 => ?_)
    refine s_store (g := g15) (off := 0) (v := .agg #[.int .i64 (zv (wyE mt fx fz tx tz) (fx)), .int .i64 (zv (wyE mt fx fz tx tz) (-fz)), .int .i64 (zv (wyE mt fx fz tx tz) (mw)), .int .i64 (zv (wyE mt fx fz tx tz) (tx)), .int .i64 (zv (wyE mt fx fz tx tz) (unf ms mt tz)), .int .i64 (zv (wyE mt fx fz tx tz) (md))]) 0 (#[.int .i64 (zv (wyE mt fx fz tx tz) (fx)), .int .i64 (zv (wyE mt fx fz tx tz) (-fz)), .int .i64 (zv (wyE mt fx fz tx tz) (mw)), .int .i64 (zv (wyE mt fx fz tx tz) (tx)), .int .i64 (zv (wyE mt fx fz tx tz) (unf ms mt tz)), .int .i64 (zv (wyE mt fx fz tx tz) (md))]) A40 S37 (by kernel_rfl) (by kernel_rfl) rfl (by kernel_rfl) (fun wc S42 => ?_)
    refine s_one (.int .i64 (wyE mt fx fz tx tz)) A40 S42 (g_assign (by kernel_rfl)) rfl (fun ac A44 => ?_)
    refine wpList_nil ?_
    refine n_then ?_
    refine wp_ret ?_
    refine fin2 (.agg #[.int .i64 (zv (wyE mt fx fz tx tz) (fx)), .int .i64 (zv (wyE mt fx fz tx tz) (-fz)), .int .i64 (zv (wyE mt fx fz tx tz) (mw)), .int .i64 (zv (wyE mt fx fz tx tz) (tx)), .int .i64 (zv (wyE mt fx fz tx tz) (unf ms mt tz)), .int .i64 (zv (wyE mt fx fz tx tz) (md))]) (.int .i64 (wyE mt fx fz tx tz)) Try.results35 A44 S42 (rv_cell (g := g15) (off := 0) 0 (by kernel_rfl) rfl (by kernel_rfl)) (rv_tmp (by kernel_rfl)) ⟨?_, S42.kp⟩
    rw [opE_y ze]

set_option maxRecDepth 100000 in
set_option maxHeartbeats 400000 in
theorem LeastTime_s (mw md ms mt fx fz tx tz : Int) (w0 : World) :
    Calls Try.prog 18 #[.agg #[.int .i64 mw, .int .i64 md, .int .i64 ms, .int .i64 mt], .agg #[.int .i64 fx, .int .i64 fz], .agg #[.int .i64 tx, .int .i64 tz]] w0 fun e w' => e = .returned (.tuple #[.agg #[.int .i64 (zv (opE mw md ms mt fx fz tx tz) (leLo (wyC mw md ms mt fx fz tx tz))), .int .i64 (zv (opE mw md ms mt fx fz tx tz) (mHi (wyC mw md ms mt fx fz tx tz)))], .int .i64 (opE mw md ms mt fx fz tx tz)]) ∧ Below w0.heap.size w0 w' := by
  have S0 := St.start w0
  refine enter (n := 23) Try.func18 rfl rfl rfl (fun ac A0 => ?_)
  refine wp_seq ?_
  refine wp_region_lit ?_
  refine s_box (.agg #[.int .i64 mw, .int .i64 md, .int .i64 ms, .int .i64 mt]) A0 S0 (by kernel_rfl) rfl (fun g3 ac wc A1 S2 => ?_)
  replace S2 : St _ (⟨g3, 24, #[.int .i64 mw, .int .i64 md, .int .i64 ms, .int .i64 mt], true⟩ :: _) _ _ := S2
  refine s_box (.agg #[.int .i64 fx, .int .i64 fz]) A1 S2 (by kernel_rfl) rfl (fun g7 ac wc A5 S6 => ?_)
  replace S6 : St _ (⟨g7, 28, #[.int .i64 fx, .int .i64 fz], true⟩ :: _) _ _ := S6
  refine s_box (.agg #[.int .i64 tx, .int .i64 tz]) A5 S6 (by kernel_rfl) rfl (fun g11 ac wc A9 S10 => ?_)
  replace S10 : St _ (⟨g11, 28, #[.int .i64 tx, .int .i64 tz], true⟩ :: _) _ _ := S10
  refine s_alloc (#[.int .i64 0, .int .i64 0]) A9 S10 (by kernel_rfl) rfl (fun g15 ac wc A13 S14 => ?_)
  refine s_one (.int .i64 0) A13 S14 (g_assign (by kernel_rfl)) rfl (fun ac A16 => ?_)
  refine wpList_nil ?_
  refine n_then ?_
  refine wp_seq ?_
  refine wp_region_lit ?_
  refine s_one (.agg #[.int .i64 mw, .int .i64 md, .int .i64 ms, .int .i64 mt]) A16 S14 (g_load (g := g3) (off := 0) 3 (by kernel_rfl) rfl (by kernel_rfl)) rfl (fun ac A17 => ?_)
  refine s_one (.agg #[.int .i64 fx, .int .i64 fz]) A17 S14 (g_load (g := g7) (off := 0) 2 (by kernel_rfl) rfl (by kernel_rfl)) rfl (fun ac A18 => ?_)
  refine s_one (.agg #[.int .i64 tx, .int .i64 tz]) A18 S14 (g_load (g := g11) (off := 0) 1 (by kernel_rfl) rfl (by kernel_rfl)) rfl (fun ac A19 => ?_)
  refine s_call (fs := #[]) (cp := #[]) (r := [(0, .agg #[.int .i64 mw, .int .i64 md, .int .i64 ms, .int .i64 mt]), (0, .agg #[.int .i64 fx, .int .i64 fz]), (0, .agg #[.int .i64 tx, .int .i64 tz])]) #[.agg #[.int .i64 mw, .int .i64 md, .int .i64 ms, .int .i64 mt], .agg #[.int .i64 fx, .int .i64 fz], .agg #[.int .i64 tx, .int .i64 tz]] (.tuple #[.agg #[.int .i64 (zv (opE mw md ms mt fx fz tx tz) (fx)), .int .i64 (zv (opE mw md ms mt fx fz tx tz) (-fz)), .int .i64 (zv (opE mw md ms mt fx fz tx tz) (mw)), .int .i64 (zv (opE mw md ms mt fx fz tx tz) (tx)), .int .i64 (zv (opE mw md ms mt fx fz tx tz) (unf ms mt tz)), .int .i64 (zv (opE mw md ms mt fx fz tx tz) (md))], .int .i64 (opE mw md ms mt fx fz tx tz)]) A19 S14 (open_s mw md ms mt fx fz tx tz _) Try.call35 (by kernel_rfl) (by kernel_rfl) (by kernel_rfl) rfl (fun ac wc A20 S21 => ?_)
  refine s_one (.tuple #[.agg #[.int .i64 (zv (opE mw md ms mt fx fz tx tz) (fx)), .int .i64 (zv (opE mw md ms mt fx fz tx tz) (-fz)), .int .i64 (zv (opE mw md ms mt fx fz tx tz) (mw)), .int .i64 (zv (opE mw md ms mt fx fz tx tz) (tx)), .int .i64 (zv (opE mw md ms mt fx fz tx tz) (unf ms mt tz)), .int .i64 (zv (opE mw md ms mt fx fz tx tz) (md))], .int .i64 (opE mw md ms mt fx fz tx tz)]) A20 S21 (g_move (by kernel_rfl)) rfl (fun ac A23 => ?_)
  refine s_one (.agg #[.int .i64 (zv (opE mw md ms mt fx fz tx tz) (fx)), .int .i64 (zv (opE mw md ms mt fx fz tx tz) (-fz)), .int .i64 (zv (opE mw md ms mt fx fz tx tz) (mw)), .int .i64 (zv (opE mw md ms mt fx fz tx tz) (tx)), .int .i64 (zv (opE mw md ms mt fx fz tx tz) (unf ms mt tz)), .int .i64 (zv (opE mw md ms mt fx fz tx tz) (md))]) A23 S21 (g_extract (u := .tuple #[.agg #[.int .i64 (zv (opE mw md ms mt fx fz tx tz) (fx)), .int .i64 (zv (opE mw md ms mt fx fz tx tz) (-fz)), .int .i64 (zv (opE mw md ms mt fx fz tx tz) (mw)), .int .i64 (zv (opE mw md ms mt fx fz tx tz) (tx)), .int .i64 (zv (opE mw md ms mt fx fz tx tz) (unf ms mt tz)), .int .i64 (zv (opE mw md ms mt fx fz tx tz) (md))], .int .i64 (opE mw md ms mt fx fz tx tz)]) (by kernel_rfl) (fun _ => by kernel_rfl)) rfl (fun ac A24 => ?_)
  refine s_one (.int .i64 (opE mw md ms mt fx fz tx tz)) A24 S21 (g_extract (u := .tuple #[.agg #[.int .i64 (zv (opE mw md ms mt fx fz tx tz) (fx)), .int .i64 (zv (opE mw md ms mt fx fz tx tz) (-fz)), .int .i64 (zv (opE mw md ms mt fx fz tx tz) (mw)), .int .i64 (zv (opE mw md ms mt fx fz tx tz) (tx)), .int .i64 (zv (opE mw md ms mt fx fz tx tz) (unf ms mt tz)), .int .i64 (zv (opE mw md ms mt fx fz tx tz) (md))], .int .i64 (opE mw md ms mt fx fz tx tz)]) (by kernel_rfl) (fun _ => by kernel_rfl)) rfl (fun ac A25 => ?_)
  refine s_alloc (#[.int .i64 0, .int .i64 0, .int .i64 0, .int .i64 0, .int .i64 0, .int .i64 0]) A25 S21 (by kernel_rfl) rfl (fun g28 ac wc A26 S27 => ?_)
  refine s_store (g := g28) (off := 0) (v := .agg #[.int .i64 (zv (opE mw md ms mt fx fz tx tz) (fx)), .int .i64 (zv (opE mw md ms mt fx fz tx tz) (-fz)), .int .i64 (zv (opE mw md ms mt fx fz tx tz) (mw)), .int .i64 (zv (opE mw md ms mt fx fz tx tz) (tx)), .int .i64 (zv (opE mw md ms mt fx fz tx tz) (unf ms mt tz)), .int .i64 (zv (opE mw md ms mt fx fz tx tz) (md))]) 0 (#[.int .i64 (zv (opE mw md ms mt fx fz tx tz) (fx)), .int .i64 (zv (opE mw md ms mt fx fz tx tz) (-fz)), .int .i64 (zv (opE mw md ms mt fx fz tx tz) (mw)), .int .i64 (zv (opE mw md ms mt fx fz tx tz) (tx)), .int .i64 (zv (opE mw md ms mt fx fz tx tz) (unf ms mt tz)), .int .i64 (zv (opE mw md ms mt fx fz tx tz) (md))]) A26 S27 (by kernel_rfl) (by kernel_rfl) rfl (by kernel_rfl) (fun wc S30 => ?_)
  refine s_one (.int .i64 (opE mw md ms mt fx fz tx tz)) A26 S30 (g_assign (by kernel_rfl)) rfl (fun ac A32 => ?_)
  refine wpList_nil ?_
  refine n_then ?_
  refine wp_seq ?_
  refine wp_seq ?_
  refine wp_region_lit ?_
  refine s_one (.int .i64 (opE mw md ms mt fx fz tx tz)) A32 S30 (g_move (by kernel_rfl)) rfl (fun ac A33 => ?_)
  refine s_one (.bool (decide (opE mw md ms mt fx fz tx tz ≠ 0))) A33 S30 (g_bin (u := .int .i64 (opE mw md ms mt fx fz tx tz)) (k := .int .i64 0) (by kernel_rfl) (by kernel_rfl) (fun _ => by kernel_rfl) b_neq) rfl (fun ac A34 => ?_)
  refine wpList_nil ?_
  refine n_then ?_
  refine c_ifb (b := (decide (opE mw md ms mt fx fz tx tz ≠ 0))) A34 (by kernel_rfl) (fun h35 => ?_) (fun h35 => ?_)
  · have p36 := of_decide_eq_true h35
    refine wp_seq ?_
    refine wp_region_lit ?_
    refine s_one (.agg #[.int .i64 0, .int .i64 0]) A34 S30 (g_build (r := []) (by kernel_rfl) (fun _ => by kernel_rfl)) rfl (fun ac A37 => ?_)
    refine s_one (.int .i64 (opE mw md ms mt fx fz tx tz)) A37 S30 (g_move (by kernel_rfl)) rfl (fun ac A38 => ?_)
    refine s_store (g := g15) (off := 0) (v := .agg #[.int .i64 0, .int .i64 0]) 1 (#[.int .i64 0, .int .i64 0]) A38 S30 (by kernel_rfl) (by kernel_rfl) rfl (by kernel_rfl) (fun wc S40 => ?_)
    refine s_one (.int .i64 (opE mw md ms mt fx fz tx tz)) A38 S40 (g_assign (by kernel_rfl)) rfl (fun ac A42 => ?_)
    refine wpList_nil ?_
    refine n_then ?_
    refine wp_ret ?_
    refine r_then ?_
    refine fin2 (.agg #[.int .i64 0, .int .i64 0]) (.int .i64 (opE mw md ms mt fx fz tx tz)) Try.results18 A42 S40 (rv_cell (g := g15) (off := 0) 1 (by kernel_rfl) rfl (by kernel_rfl)) (rv_tmp (by kernel_rfl)) ⟨?_, S40.kp⟩
    simp only [zv_n p36]
  · have p43 := of_decide_eq_false h35
    have ze : opE mw md ms mt fx fz tx tz = 0 := by simpa using h35
    have ok := wyC_ok (opE_0 ze).1 (opE_0 ze).2
    refine wp_skip ?_
    refine n_then ?_
    refine wp_seq ?_
    have SX0 := S30
    simp only [zv_0 ze] at SX0
    have SX : St w0 [⟨g28, 77, #[.int .i64 ((wyC mw md ms mt fx fz tx tz).x1), .int .i64 ((wyC mw md ms mt fx fz tx tz).h1), .int .i64 ((wyC mw md ms mt fx fz tx tz).v1), .int .i64 ((wyC mw md ms mt fx fz tx tz).x2), .int .i64 ((wyC mw md ms mt fx fz tx tz).h2), .int .i64 ((wyC mw md ms mt fx fz tx tz).v2)], true⟩, ⟨g15, 40, #[.int .i64 0, .int .i64 0], true⟩, ⟨g11, 28, #[.int .i64 tx, .int .i64 tz], true⟩, ⟨g7, 28, #[.int .i64 fx, .int .i64 fz], true⟩, ⟨g3, 24, #[.int .i64 mw, .int .i64 md, .int .i64 ms, .int .i64 mt], true⟩] [] _ := SX0
    refine wp_region_lit ?_
    refine s_one (.agg #[.int .i64 ((wyC mw md ms mt fx fz tx tz).x1), .int .i64 ((wyC mw md ms mt fx fz tx tz).h1), .int .i64 ((wyC mw md ms mt fx fz tx tz).v1), .int .i64 ((wyC mw md ms mt fx fz tx tz).x2), .int .i64 ((wyC mw md ms mt fx fz tx tz).h2), .int .i64 ((wyC mw md ms mt fx fz tx tz).v2)]) A34 SX (g_load (g := g28) (off := 0) 0 (by kernel_rfl) rfl (by kernel_rfl)) rfl (fun ac A44 => ?_)
    have q48 := le_bd (c := (wyC mw md ms mt fx fz tx tz)) ok
    refine s_call (fs := #[]) (cp := #[]) (r := [(0, .agg #[.int .i64 ((wyC mw md ms mt fx fz tx tz).x1), .int .i64 ((wyC mw md ms mt fx fz tx tz).h1), .int .i64 ((wyC mw md ms mt fx fz tx tz).v1), .int .i64 ((wyC mw md ms mt fx fz tx tz).x2), .int .i64 ((wyC mw md ms mt fx fz tx tz).h2), .int .i64 ((wyC mw md ms mt fx fz tx tz).v2)])]) #[.agg #[.int .i64 ((wyC mw md ms mt fx fz tx tz).x1), .int .i64 ((wyC mw md ms mt fx fz tx tz).h1), .int .i64 ((wyC mw md ms mt fx fz tx tz).v1), .int .i64 ((wyC mw md ms mt fx fz tx tz).x2), .int .i64 ((wyC mw md ms mt fx fz tx tz).h2), .int .i64 ((wyC mw md ms mt fx fz tx tz).v2)]] (.agg #[.int .i64 (leLo (wyC mw md ms mt fx fz tx tz)), .int .i64 (mHi (wyC mw md ms mt fx fz tx tz))]) A44 SX (least_s (wyC mw md ms mt fx fz tx tz) _ ok) Try.call36 (by kernel_rfl) (by kernel_rfl) (by kernel_rfl) rfl (fun ac wc A45 S46 => ?_)
    refine s_store (g := g15) (off := 0) (v := .agg #[.int .i64 (leLo (wyC mw md ms mt fx fz tx tz)), .int .i64 (mHi (wyC mw md ms mt fx fz tx tz))]) 1 (#[.int .i64 (leLo (wyC mw md ms mt fx fz tx tz)), .int .i64 (mHi (wyC mw md ms mt fx fz tx tz))]) A45 S46 (by kernel_rfl) (by kernel_rfl) rfl (by kernel_rfl) (fun wc S50 => ?_)
    refine s_one (.int .i64 0) A45 S50 (g_assign (by kernel_rfl)) rfl (fun ac A52 => ?_)
    refine wpList_nil ?_
    refine n_then ?_
    refine wp_ret ?_
    refine fin2 (.agg #[.int .i64 (leLo (wyC mw md ms mt fx fz tx tz)), .int .i64 (mHi (wyC mw md ms mt fx fz tx tz))]) (.int .i64 0) Try.results18 A52 S50 (rv_cell (g := g15) (off := 0) 1 (by kernel_rfl) rfl (by kernel_rfl)) (rv_tmp (by kernel_rfl)) ⟨?_, S50.kp⟩
    simp only [zv_0 ze]
    rw [ze]

theorem lt_bd (mw md ms mt fx fz tx tz : Int) : 0 ≤ zv (opE mw md ms mt fx fz tx tz) (leLo (wyC mw md ms mt fx fz tx tz)) ∧ zv (opE mw md ms mt fx fz tx tz) (leLo (wyC mw md ms mt fx fz tx tz)) ≤ zv (opE mw md ms mt fx fz tx tz) (mHi (wyC mw md ms mt fx fz tx tz)) ∧ zv (opE mw md ms mt fx fz tx tz) (mHi (wyC mw md ms mt fx fz tx tz)) ≤ 12000000000 := by
  by_cases h : opE mw md ms mt fx fz tx tz = 0
  · rw [zv_0 h, zv_0 h]; exact le_bd (wyC_ok (opE_0 h).1 (opE_0 h).2)
  · rw [zv_n h, zv_n h]; omega

set_option maxRecDepth 100000 in
set_option maxHeartbeats 400000 in
theorem RoundedTime_s (mw md ms mt fx fz tx tz : Int) (w0 : World) :
    Calls Try.prog 31 #[.agg #[.int .i64 mw, .int .i64 md, .int .i64 ms, .int .i64 mt], .agg #[.int .i64 fx, .int .i64 fz], .agg #[.int .i64 tx, .int .i64 tz]] w0 fun e w' => e = .returned (.tuple #[.int .i64 ((zv (opE mw md ms mt fx fz tx tz) (leLo (wyC mw md ms mt fx fz tx tz)) + zv (opE mw md ms mt fx fz tx tz) (mHi (wyC mw md ms mt fx fz tx tz))) / 2), .int .i64 (opE mw md ms mt fx fz tx tz)]) ∧ Below w0.heap.size w0 w' := by
  have S0 := St.start w0
  have q := lt_bd mw md ms mt fx fz tx tz
  refine enter (n := 24) Try.func31 rfl rfl rfl (fun ac A0 => ?_)
  refine wp_seq ?_
  refine wp_region_lit ?_
  refine s_box (.agg #[.int .i64 mw, .int .i64 md, .int .i64 ms, .int .i64 mt]) A0 S0 (by kernel_rfl) rfl (fun g3 ac wc A1 S2 => ?_)
  replace S2 : St _ (⟨g3, 24, #[.int .i64 mw, .int .i64 md, .int .i64 ms, .int .i64 mt], true⟩ :: _) _ _ := S2
  refine s_box (.agg #[.int .i64 fx, .int .i64 fz]) A1 S2 (by kernel_rfl) rfl (fun g7 ac wc A5 S6 => ?_)
  replace S6 : St _ (⟨g7, 28, #[.int .i64 fx, .int .i64 fz], true⟩ :: _) _ _ := S6
  refine s_box (.agg #[.int .i64 tx, .int .i64 tz]) A5 S6 (by kernel_rfl) rfl (fun g11 ac wc A9 S10 => ?_)
  replace S10 : St _ (⟨g11, 28, #[.int .i64 tx, .int .i64 tz], true⟩ :: _) _ _ := S10
  refine s_one (.int .i64 0) A9 S10 (g_assign (by kernel_rfl)) rfl (fun ac A13 => ?_)
  refine s_one (.int .i64 0) A13 S10 (g_assign (by kernel_rfl)) rfl (fun ac A14 => ?_)
  refine wpList_nil ?_
  refine n_then ?_
  refine wp_seq ?_
  refine wp_region_lit ?_
  refine s_one (.agg #[.int .i64 mw, .int .i64 md, .int .i64 ms, .int .i64 mt]) A14 S10 (g_load (g := g3) (off := 0) 2 (by kernel_rfl) rfl (by kernel_rfl)) rfl (fun ac A15 => ?_)
  refine s_one (.agg #[.int .i64 fx, .int .i64 fz]) A15 S10 (g_load (g := g7) (off := 0) 1 (by kernel_rfl) rfl (by kernel_rfl)) rfl (fun ac A16 => ?_)
  refine s_one (.agg #[.int .i64 tx, .int .i64 tz]) A16 S10 (g_load (g := g11) (off := 0) 0 (by kernel_rfl) rfl (by kernel_rfl)) rfl (fun ac A17 => ?_)
  refine s_call (fs := #[]) (cp := #[]) (r := [(0, .agg #[.int .i64 mw, .int .i64 md, .int .i64 ms, .int .i64 mt]), (0, .agg #[.int .i64 fx, .int .i64 fz]), (0, .agg #[.int .i64 tx, .int .i64 tz])]) #[.agg #[.int .i64 mw, .int .i64 md, .int .i64 ms, .int .i64 mt], .agg #[.int .i64 fx, .int .i64 fz], .agg #[.int .i64 tx, .int .i64 tz]] (.tuple #[.agg #[.int .i64 (zv (opE mw md ms mt fx fz tx tz) (leLo (wyC mw md ms mt fx fz tx tz))), .int .i64 (zv (opE mw md ms mt fx fz tx tz) (mHi (wyC mw md ms mt fx fz tx tz)))], .int .i64 (opE mw md ms mt fx fz tx tz)]) A17 S10 (LeastTime_s mw md ms mt fx fz tx tz _) Try.call18 (by kernel_rfl) (by kernel_rfl) (by kernel_rfl) rfl (fun ac wc A18 S19 => ?_)
  refine s_one (.tuple #[.agg #[.int .i64 (zv (opE mw md ms mt fx fz tx tz) (leLo (wyC mw md ms mt fx fz tx tz))), .int .i64 (zv (opE mw md ms mt fx fz tx tz) (mHi (wyC mw md ms mt fx fz tx tz)))], .int .i64 (opE mw md ms mt fx fz tx tz)]) A18 S19 (g_move (by kernel_rfl)) rfl (fun ac A21 => ?_)
  refine s_one (.agg #[.int .i64 (zv (opE mw md ms mt fx fz tx tz) (leLo (wyC mw md ms mt fx fz tx tz))), .int .i64 (zv (opE mw md ms mt fx fz tx tz) (mHi (wyC mw md ms mt fx fz tx tz)))]) A21 S19 (g_extract (u := .tuple #[.agg #[.int .i64 (zv (opE mw md ms mt fx fz tx tz) (leLo (wyC mw md ms mt fx fz tx tz))), .int .i64 (zv (opE mw md ms mt fx fz tx tz) (mHi (wyC mw md ms mt fx fz tx tz)))], .int .i64 (opE mw md ms mt fx fz tx tz)]) (by kernel_rfl) (fun _ => by kernel_rfl)) rfl (fun ac A22 => ?_)
  refine s_one (.int .i64 (opE mw md ms mt fx fz tx tz)) A22 S19 (g_extract (u := .tuple #[.agg #[.int .i64 (zv (opE mw md ms mt fx fz tx tz) (leLo (wyC mw md ms mt fx fz tx tz))), .int .i64 (zv (opE mw md ms mt fx fz tx tz) (mHi (wyC mw md ms mt fx fz tx tz)))], .int .i64 (opE mw md ms mt fx fz tx tz)]) (by kernel_rfl) (fun _ => by kernel_rfl)) rfl (fun ac A23 => ?_)
  refine s_alloc (#[.int .i64 0, .int .i64 0]) A23 S19 (by kernel_rfl) rfl (fun g26 ac wc A24 S25 => ?_)
  refine s_store (g := g26) (off := 0) (v := .agg #[.int .i64 (zv (opE mw md ms mt fx fz tx tz) (leLo (wyC mw md ms mt fx fz tx tz))), .int .i64 (zv (opE mw md ms mt fx fz tx tz) (mHi (wyC mw md ms mt fx fz tx tz)))]) 0 (#[.int .i64 (zv (opE mw md ms mt fx fz tx tz) (leLo (wyC mw md ms mt fx fz tx tz))), .int .i64 (zv (opE mw md ms mt fx fz tx tz) (mHi (wyC mw md ms mt fx fz tx tz)))]) A24 S25 (by kernel_rfl) (by kernel_rfl) rfl (by kernel_rfl) (fun wc S28 => ?_)
  refine s_one (.int .i64 (opE mw md ms mt fx fz tx tz)) A24 S28 (g_assign (by kernel_rfl)) rfl (fun ac A30 => ?_)
  refine wpList_nil ?_
  refine n_then ?_
  refine wp_seq ?_
  refine wp_region_lit ?_
  refine s_one (.pointer (some ⟨g26, 0, none⟩)) A30 S28 (g_field (u := .pointer (some ⟨g26, 0, none⟩)) (by kernel_rfl) (fun _ => by kernel_rfl)) rfl (fun ac A31 => ?_)
  refine s_one (.int .i64 (zv (opE mw md ms mt fx fz tx tz) (leLo (wyC mw md ms mt fx fz tx tz)))) A31 S28 (g_load (g := g26) (off := 0) 0 (by kernel_rfl) rfl (by kernel_rfl)) rfl (fun ac A32 => ?_)
  refine s_one (.pointer (some ⟨g26, 1, none⟩)) A32 S28 (g_field (u := .pointer (some ⟨g26, 0, none⟩)) (by kernel_rfl) (fun _ => by kernel_rfl)) rfl (fun ac A33 => ?_)
  refine s_one (.int .i64 (zv (opE mw md ms mt fx fz tx tz) (mHi (wyC mw md ms mt fx fz tx tz)))) A33 S28 (g_load (g := g26) (off := 1) 0 (by kernel_rfl) rfl (by kernel_rfl)) rfl (fun ac A34 => ?_)
  refine s_one (.int .i64 (zv (opE mw md ms mt fx fz tx tz) (leLo (wyC mw md ms mt fx fz tx tz)) + (zv (opE mw md ms mt fx fz tx tz) (mHi (wyC mw md ms mt fx fz tx tz))))) A34 S28 (g_bin (u := .int .i64 (zv (opE mw md ms mt fx fz tx tz) (leLo (wyC mw md ms mt fx fz tx tz)))) (k := .int .i64 (zv (opE mw md ms mt fx fz tx tz) (mHi (wyC mw md ms mt fx fz tx tz)))) (by kernel_rfl) (by kernel_rfl) (fun _ => by kernel_rfl) (b_add (by omega))) rfl (fun ac A35 => ?_)
  refine s_call (fs := #[]) (cp := #[]) (r := [(0, .int .i64 (zv (opE mw md ms mt fx fz tx tz) (leLo (wyC mw md ms mt fx fz tx tz)) + (zv (opE mw md ms mt fx fz tx tz) (mHi (wyC mw md ms mt fx fz tx tz))))), (0, .int .i64 2)]) #[.int .i64 (zv (opE mw md ms mt fx fz tx tz) (leLo (wyC mw md ms mt fx fz tx tz)) + (zv (opE mw md ms mt fx fz tx tz) (mHi (wyC mw md ms mt fx fz tx tz)))), .int .i64 2] (.int .i64 ((zv (opE mw md ms mt fx fz tx tz) (leLo (wyC mw md ms mt fx fz tx tz)) + (zv (opE mw md ms mt fx fz tx tz) (mHi (wyC mw md ms mt fx fz tx tz)))) / 2)) A35 S28 (down_s (zv (opE mw md ms mt fx fz tx tz) (leLo (wyC mw md ms mt fx fz tx tz)) + (zv (opE mw md ms mt fx fz tx tz) (mHi (wyC mw md ms mt fx fz tx tz)))) 2 _ (by omega) (by omega) (by omega)) Try.call44 (by kernel_rfl) (by kernel_rfl) (by kernel_rfl) rfl (fun ac wc A36 S37 => ?_)
  refine s_one (.int .i64 (opE mw md ms mt fx fz tx tz)) A36 S37 (g_move (by kernel_rfl)) rfl (fun ac A39 => ?_)
  refine s_one (.int .i64 ((zv (opE mw md ms mt fx fz tx tz) (leLo (wyC mw md ms mt fx fz tx tz)) + (zv (opE mw md ms mt fx fz tx tz) (mHi (wyC mw md ms mt fx fz tx tz)))) / 2)) A39 S37 (g_assign (by kernel_rfl)) rfl (fun ac A40 => ?_)
  refine s_one (.int .i64 (opE mw md ms mt fx fz tx tz)) A40 S37 (g_assign (by kernel_rfl)) rfl (fun ac A41 => ?_)
  refine wpList_nil ?_
  refine n_then ?_
  refine wp_ret ?_
  refine fin2 (.int .i64 ((zv (opE mw md ms mt fx fz tx tz) (leLo (wyC mw md ms mt fx fz tx tz)) + (zv (opE mw md ms mt fx fz tx tz) (mHi (wyC mw md ms mt fx fz tx tz)))) / 2)) (.int .i64 (opE mw md ms mt fx fz tx tz)) Try.results31 A41 S37 (rv_tmp (by kernel_rfl)) (rv_tmp (by kernel_rfl)) ⟨?_, S37.kp⟩
  rfl

end Go.Proofs.Ytfeapeblnnmhlaa
