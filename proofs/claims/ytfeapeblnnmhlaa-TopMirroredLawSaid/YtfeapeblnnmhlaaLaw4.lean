/- Arrivals and spreads. -/
import Derived.Test.YtfeapeblnnmhlaaLaw3
namespace Go.Proofs.Ytfeapeblnnmhlaa
open Go.RowKit Go.Cpl Go.Ray1

def obE (el : List Int) (n : Nat) (mw md ms mt ck : Int) (tl : List Int) (m : Nat) (lc : Int) : Int := if firstOf [arE el n mw md ms mt ck, lwE tl m lc] = 0 then (if m = n then 0 else 10) else firstOf [arE el n mw md ms mt ck, lwE tl m lc]
theorem obE_f {el : List Int} {n : Nat} {mw md ms mt ck : Int} {tl : List Int} {m : Nat} {lc : Int} (h : firstOf [arE el n mw md ms mt ck, lwE tl m lc] ≠ 0) : obE el n mw md ms mt ck tl m lc = firstOf [arE el n mw md ms mt ck, lwE tl m lc] := if_neg h
theorem obE_g {el : List Int} {n : Nat} {mw md ms mt ck : Int} {tl : List Int} {m : Nat} {lc : Int} (h : firstOf [arE el n mw md ms mt ck, lwE tl m lc] = 0) (h2 : m ≠ n) : obE el n mw md ms mt ck tl m lc = 10 := (if_pos h).trans (if_neg h2)
theorem obE_0 {el : List Int} {n : Nat} {mw md ms mt ck : Int} {tl : List Int} {m : Nat} {lc : Int} (h : obE el n mw md ms mt ck tl m lc = 0) : firstOf [arE el n mw md ms mt ck, lwE tl m lc] = 0 ∧ m = n := by
  unfold obE at h
  by_cases z : firstOf [arE el n mw md ms mt ck, lwE tl m lc] = 0
  · rw [if_pos z] at h
    by_cases y : m = n
    · exact ⟨z, y⟩
    · rw [if_neg y] at h; exact absurd h (by decide)
  · rw [if_neg z] at h; exact absurd h z
theorem obE_a {el : List Int} {n : Nat} {mw md ms mt ck : Int} {tl : List Int} {m : Nat} {lc : Int} (h : obE el n mw md ms mt ck tl m lc = 0) : arE el n mw md ms mt ck = 0 ∧ lwE tl m lc = 0 ∧ m = n := by
  obtain ⟨h1, h2⟩ := obE_0 h
  obtain ⟨a, b⟩ := fo_zero h1
  rw [fo_last] at b
  exact ⟨a, b, h2⟩
theorem obE_of {el : List Int} {n : Nat} {mw md ms mt ck : Int} {tl : List Int} {m : Nat} {lc : Int} (h1 : arE el n mw md ms mt ck = 0) (h2 : lwE tl m lc = 0) (h3 : m = n) : obE el n mw md ms mt ck tl m lc = 0 := by
  unfold obE
  rw [fo_cons0 h1, fo_last, if_pos h2, if_pos h3]

set_option maxRecDepth 100000 in
set_option maxHeartbeats 400000 in
theorem open_ok (EA : Option Addr) (n ecap : Nat) (el : List Int) (mw md ms mt ck : Int) (TA : Option Addr) (m tcap : Nat) (tl : List Int) (lc : Int) (w0 : World) (hne : el.length = n * 2) (hre : IReads w0 EA el) (hn1 : n ≤ 1000) (hnt : tl.length = m * 1) (hrt : IReads w0 TA tl) (hm1 : m ≤ 1000) (hob : obE el n mw md ms mt ck tl m lc = 0) :
    Calls Try.prog 19 #[.agg #[.slice EA n ecap, .int .i64 mw, .int .i64 md, .int .i64 ms, .int .i64 mt, .int .i64 ck], .agg #[.int .i64 lc, .slice TA m tcap]] w0 fun e w' => e = .returned (.tuple #[.agg #[.slice EA n ecap, .int .i64 mw, .int .i64 md, .int .i64 ms, .int .i64 mt, .int .i64 ck, .int .i64 lc, .slice TA m tcap], .int .i64 0]) ∧ Below w0.heap.size w0 w' := by
  have S0 := St.start w0
  refine enter (n := 28) Try.func19 rfl rfl rfl (fun ac A0 => ?_)
  refine wp_seq ?_
  refine wp_region_lit ?_
  refine s_box (.agg #[.slice EA n ecap, .int .i64 mw, .int .i64 md, .int .i64 ms, .int .i64 mt, .int .i64 ck]) A0 S0 (by kernel_rfl) rfl (fun g3 ac wc A1 S2 => ?_)
  replace S2 : St _ (⟨g3, 26, #[.slice EA n ecap, .int .i64 mw, .int .i64 md, .int .i64 ms, .int .i64 mt, .int .i64 ck], true⟩ :: _) _ _ := S2
  refine s_box (.agg #[.int .i64 lc, .slice TA m tcap]) A1 S2 (by kernel_rfl) rfl (fun g7 ac wc A5 S6 => ?_)
  replace S6 : St _ (⟨g7, 32, #[.int .i64 lc, .slice TA m tcap], true⟩ :: _) _ _ := S6
  refine s_alloc (#[.slice none 0 0, .int .i64 0, .int .i64 0, .int .i64 0, .int .i64 0, .int .i64 0, .int .i64 0, .slice none 0 0]) A5 S6 (by kernel_rfl) rfl (fun g11 ac wc A9 S10 => ?_)
  refine s_one (.int .i64 0) A9 S10 (g_assign (by kernel_rfl)) rfl (fun ac A12 => ?_)
  refine wpList_nil ?_
  refine n_then ?_
  refine wp_seq ?_
  refine wp_seq ?_
  refine r_begin (w0 := w0) (by kernel_rfl) (S10.sub sub_all sub_all) (fun wc T13 B14 => ?_)
  have S15 := S10.kept B14
  refine r_take 0 (.agg #[.slice EA n ecap, .int .i64 mw, .int .i64 md, .int .i64 ms, .int .i64 mt, .int .i64 ck]) A12 T13 (g_load (g := g3) (off := 0) 2 (by kernel_rfl) rfl (by kernel_rfl)) rfl rfl rfl (pf_then (pf_then pf_body)) (by kernel_rfl) (fun ac A16 => ?_)
  refine r_take 2 (.agg #[.int .i64 lc, .slice TA m tcap]) A16 T13 (g_load (g := g7) (off := 0) 1 (by kernel_rfl) rfl (by kernel_rfl)) rfl rfl rfl (pf_then (pf_then pf_body)) (by kernel_rfl) (fun ac A17 => ?_)
  refine r_1 (i := 1) (by kernel_rfl) ?_
  refine rs_call (fs := #[]) (cp := #[]) (r := [(0, .agg #[.slice EA n ecap, .int .i64 mw, .int .i64 md, .int .i64 ms, .int .i64 mt, .int .i64 ck])]) #[.agg #[.slice EA n ecap, .int .i64 mw, .int .i64 md, .int .i64 ms, .int .i64 mt, .int .i64 ck]] (.int .i64 (arE el n mw md ms mt ck)) A17 S15 sub_all sub_all (arrayErr_s EA n ecap el mw md ms mt ck _ (by have hlen := hne; omega) (hre.kept S15.kp) (by omega)) Try.call14 rfl rfl (by kernel_rfl) (by kernel_rfl) (by kernel_rfl) rfl (fun ac wc A18 S19 => ?_)
  have T21 := S19.sub sub_all sub_all
  refine r_1 (i := 3) (by kernel_rfl) ?_
  refine rs_call (fs := #[]) (cp := #[]) (r := [(0, .agg #[.int .i64 lc, .slice TA m tcap])]) #[.agg #[.int .i64 lc, .slice TA m tcap]] (.int .i64 (lwE tl m lc)) A18 S19 sub_all sub_all (lawErr_s TA m tcap tl lc _ (by have hlen := hnt; omega) (hrt.kept S19.kp) (by omega)) Try.call23 rfl rfl (by kernel_rfl) (by kernel_rfl) (by kernel_rfl) rfl (fun ac wc A22 S23 => ?_)
  have T25 := S23.sub sub_all sub_all
  refine r_1 (i := 4) (by kernel_rfl) ?_
  refine rs_bs (e := 33) (r := [(0, .int .i64 (arE el n mw md ms mt ck)), (1, .int .i64 (lwE tl m lc))]) (#[.int .i64 (arE el n mw md ms mt ck), .int .i64 (lwE tl m lc)]) A22 S23 sub_all sub_all (by kernel_rfl) (by kernel_rfl) rfl rfl rfl (fun g28 ac wc A26 S27 => ?_)
  have T29 := S27.sub (sub_skip sub_all) sub_all
  refine r_1 (i := 5) (by kernel_rfl) ?_
  refine rs_call (fs := #[]) (cp := #[]) (r := [(0, .slice (some ⟨g28, 0, none⟩) 2 2)]) #[.slice (some ⟨g28, 0, none⟩) 2 2] (.int .i64 (firstOf [arE el n mw md ms mt ck, lwE tl m lc])) A26 S27 (sub_skip sub_all) sub_all (lfirst_s g28 ([arE el n mw md ms mt ck, lwE tl m lc]) 2 2 _ (S27.get 0 rfl) rfl (by omega)) Try.call22 rfl rfl (by kernel_rfl) (by kernel_rfl) (by kernel_rfl) rfl (fun ac wc A30 S31 => ?_)
  have T33 := S31.sub (sub_skip sub_all) sub_all
  refine r_take 6 (.int .i64 (firstOf [arE el n mw md ms mt ck, lwE tl m lc])) A30 T33 (g_assign (by kernel_rfl)) rfl rfl rfl (pf_then (pf_then pf_body)) (by kernel_rfl) (fun ac A34 => ?_)
  refine r_done (by kernel_rfl) ?_
  refine n_then ?_
  refine wp_seq ?_
  refine wp_region_lit ?_
  refine s_one (.int .i64 (firstOf [arE el n mw md ms mt ck, lwE tl m lc])) A34 S31 (g_move (by kernel_rfl)) rfl (fun ac A35 => ?_)
  refine s_one (.bool (decide (firstOf [arE el n mw md ms mt ck, lwE tl m lc] ≠ 0))) A35 S31 (g_bin (u := .int .i64 (firstOf [arE el n mw md ms mt ck, lwE tl m lc])) (k := .int .i64 0) (by kernel_rfl) (by kernel_rfl) (fun _ => by kernel_rfl) b_neq) rfl (fun ac A36 => ?_)
  refine wpList_nil ?_
  refine n_then ?_
  refine c_f (b := (decide (firstOf [arE el n mw md ms mt ck, lwE tl m lc] ≠ 0))) A36 (by kernel_rfl) (decide_eq_false (fun hh => hh (obE_0 hob).1)) ?_
  refine wp_skip ?_
  refine n_then ?_
  refine wp_seq ?_
  refine wp_seq ?_
  refine wp_region_lit ?_
  refine s_one (.pointer (some ⟨g7, 1, none⟩)) A36 S31 (g_field (u := .pointer (some ⟨g7, 0, none⟩)) (by kernel_rfl) (fun _ => by kernel_rfl)) rfl (fun ac A37 => ?_)
  refine s_one (.slice TA m tcap) A37 S31 (g_load (g := g7) (off := 1) 2 (by kernel_rfl) rfl (by kernel_rfl)) rfl (fun ac A38 => ?_)
  refine s_one (.int .i64 (m : Int)) A38 S31 (g_built (r := [(0, .slice TA m tcap)]) (by kernel_rfl) (fun _ _ _ => by kernel_rfl)) rfl (fun ac A39 => ?_)
  refine s_one (.pointer (some ⟨g3, 0, none⟩)) A39 S31 (g_field (u := .pointer (some ⟨g3, 0, none⟩)) (by kernel_rfl) (fun _ => by kernel_rfl)) rfl (fun ac A40 => ?_)
  refine s_one (.slice EA n ecap) A40 S31 (g_load (g := g3) (off := 0) 3 (by kernel_rfl) rfl (by kernel_rfl)) rfl (fun ac A41 => ?_)
  refine s_one (.int .i64 (n : Int)) A41 S31 (g_built (r := [(0, .slice EA n ecap)]) (by kernel_rfl) (fun _ _ _ => by kernel_rfl)) rfl (fun ac A42 => ?_)
  refine s_one (.bool (decide ((m : Int) ≠ (n : Int)))) A42 S31 (g_bin (u := .int .i64 (m : Int)) (k := .int .i64 (n : Int)) (by kernel_rfl) (by kernel_rfl) (fun _ => by kernel_rfl) b_neq) rfl (fun ac A43 => ?_)
  refine wpList_nil ?_
  refine n_then ?_
  refine c_f (b := (decide ((m : Int) ≠ (n : Int)))) A43 (by kernel_rfl) (decide_eq_false (by have := (obE_0 hob).2; omega)) ?_
  refine wp_skip ?_
  refine n_then ?_
  refine wp_seq ?_
  refine wp_region_lit ?_
  refine s_one (.agg #[.slice EA n ecap, .int .i64 mw, .int .i64 md, .int .i64 ms, .int .i64 mt, .int .i64 ck]) A43 S31 (g_load (g := g3) (off := 0) 3 (by kernel_rfl) rfl (by kernel_rfl)) rfl (fun ac A44 => ?_)
  refine s_one (.agg #[.int .i64 lc, .slice TA m tcap]) A44 S31 (g_load (g := g7) (off := 0) 2 (by kernel_rfl) rfl (by kernel_rfl)) rfl (fun ac A45 => ?_)
  refine s_one (.agg #[.slice EA n ecap, .int .i64 mw, .int .i64 md, .int .i64 ms, .int .i64 mt, .int .i64 ck, .int .i64 lc, .slice TA m tcap]) A45 S31 (g_build (r := [(0, .agg #[.slice EA n ecap, .int .i64 mw, .int .i64 md, .int .i64 ms, .int .i64 mt, .int .i64 ck]), (1, .agg #[.int .i64 lc, .slice TA m tcap])]) (by kernel_rfl) (fun _ => by kernel_rfl)) rfl (fun ac A46 => ?_)
  refine s_store (g := g11) (off := 0) (v := .agg #[.slice EA n ecap, .int .i64 mw, .int .i64 md, .int .i64 ms, .int .i64 mt, .int .i64 ck, .int .i64 lc, .slice TA m tcap]) 1 (#[.slice EA n ecap, .int .i64 mw, .int .i64 md, .int .i64 ms, .int .i64 mt, .int .i64 ck, .int .i64 lc, .slice TA m tcap]) A46 S31 (by kernel_rfl) (by kernel_rfl) rfl (by kernel_rfl) (fun wc S48 => ?_)
  refine s_one (.int .i64 0) A46 S48 (g_assign (by kernel_rfl)) rfl (fun ac A50 => ?_)
  refine wpList_nil ?_
  refine n_then ?_
  refine wp_ret ?_
  refine fin2 (.agg #[.slice EA n ecap, .int .i64 mw, .int .i64 md, .int .i64 ms, .int .i64 mt, .int .i64 ck, .int .i64 lc, .slice TA m tcap]) (.int .i64 0) Try.results19 A50 S48 (rv_cell (g := g11) (off := 0) 1 (by kernel_rfl) rfl (by kernel_rfl)) (rv_tmp (by kernel_rfl)) ⟨?_, S48.kp⟩
  rfl

set_option maxRecDepth 100000 in
set_option maxHeartbeats 400000 in
theorem open_no (EA : Option Addr) (n ecap : Nat) (el : List Int) (mw md ms mt ck : Int) (TA : Option Addr) (m tcap : Nat) (tl : List Int) (lc : Int) (w0 : World) (hne : el.length = n * 2) (hre : IReads w0 EA el) (hn1 : n ≤ 1000) (hnt : tl.length = m * 1) (hrt : IReads w0 TA tl) (hm1 : m ≤ 1000) (hob : obE el n mw md ms mt ck tl m lc ≠ 0) :
    Calls Try.prog 19 #[.agg #[.slice EA n ecap, .int .i64 mw, .int .i64 md, .int .i64 ms, .int .i64 mt, .int .i64 ck], .agg #[.int .i64 lc, .slice TA m tcap]] w0 fun e w' => e = .returned (.tuple #[.agg #[.slice none 0 0, .int .i64 0, .int .i64 0, .int .i64 0, .int .i64 0, .int .i64 0, .int .i64 0, .slice none 0 0], .int .i64 (obE el n mw md ms mt ck tl m lc)]) ∧ Below w0.heap.size w0 w' := by
  have S0 := St.start w0
  refine enter (n := 28) Try.func19 rfl rfl rfl (fun ac A0 => ?_)
  refine wp_seq ?_
  refine wp_region_lit ?_
  refine s_box (.agg #[.slice EA n ecap, .int .i64 mw, .int .i64 md, .int .i64 ms, .int .i64 mt, .int .i64 ck]) A0 S0 (by kernel_rfl) rfl (fun g3 ac wc A1 S2 => ?_)
  replace S2 : St _ (⟨g3, 26, #[.slice EA n ecap, .int .i64 mw, .int .i64 md, .int .i64 ms, .int .i64 mt, .int .i64 ck], true⟩ :: _) _ _ := S2
  refine s_box (.agg #[.int .i64 lc, .slice TA m tcap]) A1 S2 (by kernel_rfl) rfl (fun g7 ac wc A5 S6 => ?_)
  replace S6 : St _ (⟨g7, 32, #[.int .i64 lc, .slice TA m tcap], true⟩ :: _) _ _ := S6
  refine s_alloc (#[.slice none 0 0, .int .i64 0, .int .i64 0, .int .i64 0, .int .i64 0, .int .i64 0, .int .i64 0, .slice none 0 0]) A5 S6 (by kernel_rfl) rfl (fun g11 ac wc A9 S10 => ?_)
  refine s_one (.int .i64 0) A9 S10 (g_assign (by kernel_rfl)) rfl (fun ac A12 => ?_)
  refine wpList_nil ?_
  refine n_then ?_
  refine wp_seq ?_
  refine wp_seq ?_
  refine r_begin (w0 := w0) (by kernel_rfl) (S10.sub sub_all sub_all) (fun wc T13 B14 => ?_)
  have S15 := S10.kept B14
  refine r_take 0 (.agg #[.slice EA n ecap, .int .i64 mw, .int .i64 md, .int .i64 ms, .int .i64 mt, .int .i64 ck]) A12 T13 (g_load (g := g3) (off := 0) 2 (by kernel_rfl) rfl (by kernel_rfl)) rfl rfl rfl (pf_then (pf_then pf_body)) (by kernel_rfl) (fun ac A16 => ?_)
  refine r_take 2 (.agg #[.int .i64 lc, .slice TA m tcap]) A16 T13 (g_load (g := g7) (off := 0) 1 (by kernel_rfl) rfl (by kernel_rfl)) rfl rfl rfl (pf_then (pf_then pf_body)) (by kernel_rfl) (fun ac A17 => ?_)
  refine r_1 (i := 1) (by kernel_rfl) ?_
  refine rs_call (fs := #[]) (cp := #[]) (r := [(0, .agg #[.slice EA n ecap, .int .i64 mw, .int .i64 md, .int .i64 ms, .int .i64 mt, .int .i64 ck])]) #[.agg #[.slice EA n ecap, .int .i64 mw, .int .i64 md, .int .i64 ms, .int .i64 mt, .int .i64 ck]] (.int .i64 (arE el n mw md ms mt ck)) A17 S15 sub_all sub_all (arrayErr_s EA n ecap el mw md ms mt ck _ (by have hlen := hne; omega) (hre.kept S15.kp) (by omega)) Try.call14 rfl rfl (by kernel_rfl) (by kernel_rfl) (by kernel_rfl) rfl (fun ac wc A18 S19 => ?_)
  have T21 := S19.sub sub_all sub_all
  refine r_1 (i := 3) (by kernel_rfl) ?_
  refine rs_call (fs := #[]) (cp := #[]) (r := [(0, .agg #[.int .i64 lc, .slice TA m tcap])]) #[.agg #[.int .i64 lc, .slice TA m tcap]] (.int .i64 (lwE tl m lc)) A18 S19 sub_all sub_all (lawErr_s TA m tcap tl lc _ (by have hlen := hnt; omega) (hrt.kept S19.kp) (by omega)) Try.call23 rfl rfl (by kernel_rfl) (by kernel_rfl) (by kernel_rfl) rfl (fun ac wc A22 S23 => ?_)
  have T25 := S23.sub sub_all sub_all
  refine r_1 (i := 4) (by kernel_rfl) ?_
  refine rs_bs (e := 33) (r := [(0, .int .i64 (arE el n mw md ms mt ck)), (1, .int .i64 (lwE tl m lc))]) (#[.int .i64 (arE el n mw md ms mt ck), .int .i64 (lwE tl m lc)]) A22 S23 sub_all sub_all (by kernel_rfl) (by kernel_rfl) rfl rfl rfl (fun g28 ac wc A26 S27 => ?_)
  have T29 := S27.sub (sub_skip sub_all) sub_all
  refine r_1 (i := 5) (by kernel_rfl) ?_
  refine rs_call (fs := #[]) (cp := #[]) (r := [(0, .slice (some ⟨g28, 0, none⟩) 2 2)]) #[.slice (some ⟨g28, 0, none⟩) 2 2] (.int .i64 (firstOf [arE el n mw md ms mt ck, lwE tl m lc])) A26 S27 (sub_skip sub_all) sub_all (lfirst_s g28 ([arE el n mw md ms mt ck, lwE tl m lc]) 2 2 _ (S27.get 0 rfl) rfl (by omega)) Try.call22 rfl rfl (by kernel_rfl) (by kernel_rfl) (by kernel_rfl) rfl (fun ac wc A30 S31 => ?_)
  have T33 := S31.sub (sub_skip sub_all) sub_all
  refine r_take 6 (.int .i64 (firstOf [arE el n mw md ms mt ck, lwE tl m lc])) A30 T33 (g_assign (by kernel_rfl)) rfl rfl rfl (pf_then (pf_then pf_body)) (by kernel_rfl) (fun ac A34 => ?_)
  refine r_done (by kernel_rfl) ?_
  refine n_then ?_
  refine wp_seq ?_
  refine wp_region_lit ?_
  refine s_one (.int .i64 (firstOf [arE el n mw md ms mt ck, lwE tl m lc])) A34 S31 (g_move (by kernel_rfl)) rfl (fun ac A35 => ?_)
  refine s_one (.bool (decide (firstOf [arE el n mw md ms mt ck, lwE tl m lc] ≠ 0))) A35 S31 (g_bin (u := .int .i64 (firstOf [arE el n mw md ms mt ck, lwE tl m lc])) (k := .int .i64 0) (by kernel_rfl) (by kernel_rfl) (fun _ => by kernel_rfl) b_neq) rfl (fun ac A36 => ?_)
  refine wpList_nil ?_
  refine n_then ?_
  refine c_ifb (b := (decide (firstOf [arE el n mw md ms mt ck, lwE tl m lc] ≠ 0))) A36 (by kernel_rfl) (fun h37 => ?_) (fun h37 => ?_)
  · have p38 := of_decide_eq_true h37
    have er : obE el n mw md ms mt ck tl m lc = _ := obE_f (of_decide_eq_true h37)
    refine wp_seq ?_
    refine wp_region_lit ?_
    refine s_one (.agg #[.slice none 0 0, .int .i64 0, .int .i64 0, .int .i64 0, .int .i64 0, .int .i64 0, .int .i64 0, .slice none 0 0]) A36 S31 (g_build (r := []) (by kernel_rfl) (fun _ => by kernel_rfl)) rfl (fun ac A39 => ?_)
    refine s_one (.int .i64 (firstOf [arE el n mw md ms mt ck, lwE tl m lc])) A39 S31 (g_move (by kernel_rfl)) rfl (fun ac A40 => ?_)
    refine s_store (g := g11) (off := 0) (v := .agg #[.slice none 0 0, .int .i64 0, .int .i64 0, .int .i64 0, .int .i64 0, .int .i64 0, .int .i64 0, .slice none 0 0]) 1 (#[.slice none 0 0, .int .i64 0, .int .i64 0, .int .i64 0, .int .i64 0, .int .i64 0, .int .i64 0, .slice none 0 0]) A40 S31 (by kernel_rfl) (by kernel_rfl) rfl (by kernel_rfl) (fun wc S42 => ?_)
    refine s_one (.int .i64 (firstOf [arE el n mw md ms mt ck, lwE tl m lc])) A40 S42 (g_assign (by kernel_rfl)) rfl (fun ac A44 => ?_)
    refine wpList_nil ?_
    refine n_then ?_
    refine wp_ret ?_
    refine r_then ?_
    refine fin2 (.agg #[.slice none 0 0, .int .i64 0, .int .i64 0, .int .i64 0, .int .i64 0, .int .i64 0, .int .i64 0, .slice none 0 0]) (.int .i64 (firstOf [arE el n mw md ms mt ck, lwE tl m lc])) Try.results19 A44 S42 (rv_cell (g := g11) (off := 0) 1 (by kernel_rfl) rfl (by kernel_rfl)) (rv_tmp (by kernel_rfl)) ⟨?_, S42.kp⟩
    rw [er]
  · have p45 := of_decide_eq_false h37
    have z0 : firstOf [arE el n mw md ms mt ck, lwE tl m lc] = 0 := by simpa using h37
    refine wp_skip ?_
    refine n_then ?_
    refine wp_seq ?_
    refine wp_seq ?_
    refine wp_region_lit ?_
    refine s_one (.pointer (some ⟨g7, 1, none⟩)) A36 S31 (g_field (u := .pointer (some ⟨g7, 0, none⟩)) (by kernel_rfl) (fun _ => by kernel_rfl)) rfl (fun ac A46 => ?_)
    refine s_one (.slice TA m tcap) A46 S31 (g_load (g := g7) (off := 1) 2 (by kernel_rfl) rfl (by kernel_rfl)) rfl (fun ac A47 => ?_)
    refine s_one (.int .i64 (m : Int)) A47 S31 (g_built (r := [(0, .slice TA m tcap)]) (by kernel_rfl) (fun _ _ _ => by kernel_rfl)) rfl (fun ac A48 => ?_)
    refine s_one (.pointer (some ⟨g3, 0, none⟩)) A48 S31 (g_field (u := .pointer (some ⟨g3, 0, none⟩)) (by kernel_rfl) (fun _ => by kernel_rfl)) rfl (fun ac A49 => ?_)
    refine s_one (.slice EA n ecap) A49 S31 (g_load (g := g3) (off := 0) 3 (by kernel_rfl) rfl (by kernel_rfl)) rfl (fun ac A50 => ?_)
    refine s_one (.int .i64 (n : Int)) A50 S31 (g_built (r := [(0, .slice EA n ecap)]) (by kernel_rfl) (fun _ _ _ => by kernel_rfl)) rfl (fun ac A51 => ?_)
    refine s_one (.bool (decide ((m : Int) ≠ (n : Int)))) A51 S31 (g_bin (u := .int .i64 (m : Int)) (k := .int .i64 (n : Int)) (by kernel_rfl) (by kernel_rfl) (fun _ => by kernel_rfl) b_neq) rfl (fun ac A52 => ?_)
    refine wpList_nil ?_
    refine n_then ?_
    refine c_t (b := (decide ((m : Int) ≠ (n : Int)))) A52 (by kernel_rfl) (decide_eq_true (fun hh => hob (by unfold obE; rw [if_pos z0, if_pos (by omega)]))) ?_
    refine wp_seq ?_
    refine wp_region_lit ?_
    refine s_one (.agg #[.slice none 0 0, .int .i64 0, .int .i64 0, .int .i64 0, .int .i64 0, .int .i64 0, .int .i64 0, .slice none 0 0]) A52 S31 (g_build (r := []) (by kernel_rfl) (fun _ => by kernel_rfl)) rfl (fun ac A53 => ?_)
    refine s_store (g := g11) (off := 0) (v := .agg #[.slice none 0 0, .int .i64 0, .int .i64 0, .int .i64 0, .int .i64 0, .int .i64 0, .int .i64 0, .slice none 0 0]) 1 (#[.slice none 0 0, .int .i64 0, .int .i64 0, .int .i64 0, .int .i64 0, .int .i64 0, .int .i64 0, .slice none 0 0]) A53 S31 (by kernel_rfl) (by kernel_rfl) rfl (by kernel_rfl) (fun wc S55 => ?_)
    refine s_one (.int .i64 10) A53 S55 (g_assign (by kernel_rfl)) rfl (fun ac A57 => ?_)
    refine wpList_nil ?_
    refine n_then ?_
    refine wp_ret ?_
    refine r_then ?_
    refine fin2 (.agg #[.slice none 0 0, .int .i64 0, .int .i64 0, .int .i64 0, .int .i64 0, .int .i64 0, .int .i64 0, .slice none 0 0]) (.int .i64 10) Try.results19 A57 S55 (rv_cell (g := g11) (off := 0) 1 (by kernel_rfl) rfl (by kernel_rfl)) (rv_tmp (by kernel_rfl)) ⟨?_, S55.kp⟩
    rw [obE_g z0 (fun hh => hob (by unfold obE; rw [if_pos z0, if_pos hh]))]

/-- The arrivals of those that send. -/
def avF (t A B : Nat → Int) : Nat → List Int
  | 0 => []
  | k + 1 => if t k ≥ 0 then avF t A B k ++ [A k, B k] else avF t A B k
def avN (t : Nat → Int) : Nat → Nat
  | 0 => 0
  | k + 1 => if t k ≥ 0 then avN t k + 1 else avN t k
theorem avF_length (t A B : Nat → Int) : ∀ k, (avF t A B k).length = avN t k * 2
  | 0 => rfl
  | k + 1 => by
    have := avF_length t A B k
    simp only [avF, avN]
    by_cases z : t k ≥ 0
    · rw [if_pos z, if_pos z, List.length_append, this]; simp only [List.length_cons, List.length_nil]; omega
    · rw [if_neg z, if_neg z]; exact this
theorem avN_le (t : Nat → Int) : ∀ k, avN t k ≤ k
  | 0 => Nat.le_refl _
  | k + 1 => by have := avN_le t k; simp only [avN]; split <;> omega
theorem av_y {t A B : Nat → Int} {k : Nat} (h : t k ≥ 0) : avN t k + 1 = avN t (k + 1) ∧ rowI (avF t A B k) ++ [.int .i64 (A k), .int .i64 (B k)] = rowI (avF t A B (k + 1)) := by
  simp only [avF, avN]; rw [if_pos h, if_pos h]; exact ⟨rfl, rowI_app _ [A k, B k]⟩
theorem av_n {t A B : Nat → Int} {k : Nat} (h : ¬ t k ≥ 0) : avN t k = avN t (k + 1) ∧ rowI (avF t A B k) = rowI (avF t A B (k + 1)) := by
  simp only [avF, avN]; rw [if_neg h, if_neg h]; exact ⟨rfl, rfl⟩
/-- Each arrival is one of those that send, and each of those has one. -/
theorem av_of (t A B : Nat → Int) : ∀ k j : Nat, j < avN t k → ∃ i, i < k ∧ t i ≥ 0 ∧ nthI (avF t A B k) (j * 2) = A i ∧ nthI (avF t A B k) (j * 2 + 1) = B i
  | 0, j, h => by simp [avN] at h
  | k + 1, j, h => by
    have hl := avF_length t A B k
    by_cases z : t k ≥ 0
    · simp only [avF, avN] at h ⊢
      rw [if_pos z] at h ⊢
      by_cases e : j = avN t k
      · subst e
        refine ⟨k, by omega, z, ?_, ?_⟩
        · rw [show avN t k * 2 = (avF t A B k).length + 0 by omega, nthI_right (by simp)]; rfl
        · rw [show avN t k * 2 + 1 = (avF t A B k).length + 1 by omega, nthI_right (by simp)]; rfl
      · obtain ⟨i, hi, ti, a, b⟩ := av_of t A B k j (by omega)
        exact ⟨i, by omega, ti, by rw [nthI_left (by omega)]; exact a, by rw [nthI_left (by omega)]; exact b⟩
    · simp only [avF, avN] at h ⊢
      rw [if_neg z] at h ⊢
      obtain ⟨i, hi, ti, a, b⟩ := av_of t A B k j h
      exact ⟨i, by omega, ti, a, b⟩
theorem av_has (t A B : Nat → Int) : ∀ k i : Nat, i < k → t i ≥ 0 → ∃ j, j < avN t k ∧ nthI (avF t A B k) (j * 2) = A i ∧ nthI (avF t A B k) (j * 2 + 1) = B i
  | 0, i, h, _ => by omega
  | k + 1, i, h, ti => by
    have hl := avF_length t A B k
    by_cases z : t k ≥ 0
    · simp only [avF, avN]
      rw [if_pos z, if_pos z]
      by_cases e : i = k
      · subst e
        refine ⟨avN t i, by omega, ?_, ?_⟩
        · rw [show avN t i * 2 = (avF t A B i).length + 0 by omega, nthI_right (by simp)]; rfl
        · rw [show avN t i * 2 + 1 = (avF t A B i).length + 1 by omega, nthI_right (by simp)]; rfl
      · obtain ⟨j, hj, a, b⟩ := av_has t A B k i (by omega) ti
        exact ⟨j, by omega, by rw [nthI_left (by omega)]; exact a, by rw [nthI_left (by omega)]; exact b⟩
    · simp only [avF, avN]
      rw [if_neg z, if_neg z]
      exact av_has t A B k i (by rcases Nat.lt_succ_iff_lt_or_eq.1 h with q | q; exact q; exact absurd (q ▸ ti) z) ti
/-- The least, and the greatest, of some. -/
def mnS (F : Nat → Int) : Nat → Int
  | 0 => F 0
  | k + 1 => mn (mnS F k) (F k)
def mxS (F : Nat → Int) : Nat → Int
  | 0 => F 0
  | k + 1 => mx (mxS F k) (F k)
theorem mnS_le (F : Nat → Int) : ∀ k i : Nat, i < k → mnS F k ≤ F i
  | 0, i, h => by omega
  | k + 1, i, h => by
    simp only [mnS]; rw [mn_eq]
    by_cases e : i = k
    · subst e; omega
    · have := mnS_le F k i (by omega); omega
theorem mxS_ge (F : Nat → Int) : ∀ k i : Nat, i < k → F i ≤ mxS F k
  | 0, i, h => by omega
  | k + 1, i, h => by
    simp only [mxS]; rw [mx_eq]
    by_cases e : i = k
    · subst e; omega
    · have := mxS_ge F k i (by omega); omega
theorem mnS_at (F : Nat → Int) : ∀ k : Nat, ∃ i, (i < k ∨ i = 0) ∧ mnS F k = F i
  | 0 => ⟨0, .inr rfl, rfl⟩
  | k + 1 => by
    obtain ⟨i, hi, e⟩ := mnS_at F k
    simp only [mnS]; rw [mn_eq]
    by_cases z : mnS F k ≤ F k
    · exact ⟨i, by omega, by omega⟩
    · exact ⟨k, by omega, by omega⟩
theorem mxS_at (F : Nat → Int) : ∀ k : Nat, ∃ i, (i < k ∨ i = 0) ∧ mxS F k = F i
  | 0 => ⟨0, .inr rfl, rfl⟩
  | k + 1 => by
    obtain ⟨i, hi, e⟩ := mxS_at F k
    simp only [mxS]; rw [mx_eq]
    by_cases z : F k ≤ mxS F k
    · exact ⟨i, by omega, by omega⟩
    · exact ⟨k, by omega, by omega⟩
def evens (l : List Int) (j : Nat) : Int := nthI l (j * 2)
def odds (l : List Int) (j : Nat) : Int := nthI l (j * 2 + 1)
theorem av_spread {t A B : Nat → Int} {n : Nat} (h : 1 ≤ avN t n) : IsSp n A B (fun i => t i ≥ 0) (mxS (odds (avF t A B n)) (avN t n) - mnS (evens (avF t A B n)) (avN t n)) := by
  constructor
  · intro i hi ti j hj tj
    obtain ⟨p, hp, _, b⟩ := av_has t A B n i hi ti
    obtain ⟨q, hq, a, _⟩ := av_has t A B n j hj tj
    have x := mxS_ge (odds (avF t A B n)) (avN t n) p hp
    have y := mnS_le (evens (avF t A B n)) (avN t n) q hq
    unfold odds at x; unfold evens at y
    unfold odds evens
    omega
  · obtain ⟨p, hp, e⟩ := mxS_at (odds (avF t A B n)) (avN t n)
    obtain ⟨q, hq, e2⟩ := mnS_at (evens (avF t A B n)) (avN t n)
    obtain ⟨i, hi, ti, _, b⟩ := av_of t A B n p (by omega)
    obtain ⟨j, hj, tj, a, _⟩ := av_of t A B n q (by omega)
    refine ⟨i, hi, ti, j, hj, tj, ?_⟩
    rw [e, e2]; unfold odds evens; omega
theorem avN_pos {t : Nat → Int} {n : Nat} (h : 1 ≤ avN t n) : ∃ i, i < n ∧ t i ≥ 0 := by
  obtain ⟨i, hi, ti, _⟩ := av_of t t t n 0 (by omega)
  exact ⟨i, hi, ti⟩
theorem avN_ge {t : Nat → Int} {n i : Nat} (hi : i < n) (h : t i ≥ 0) : 1 ≤ avN t n := by
  obtain ⟨j, hj, _⟩ := av_has t t t n i hi h
  omega
theorem mn_bd {F : Nat → Int} {n : Nat} {B : Int} (hn : 1 ≤ n) (hb : ∀ i, i < n → 0 ≤ F i ∧ F i ≤ B) : ∀ k, k ≤ n → (0 ≤ mnS F k ∧ mnS F k ≤ B) ∧ 0 ≤ mxS F k ∧ mxS F k ≤ B := by
  intro k hk
  obtain ⟨i, hi, e⟩ := mnS_at F k
  obtain ⟨j, hj, e2⟩ := mxS_at F k
  have a := hb i (by omega); have b := hb j (by omega)
  omega
/-- The arrival of an element: its ends. -/
def avA (el tl : List Int) (mw md ms mt lc tx tz : Int) (k : Nat) : Int := zv (opE mw md ms mt (nthI el (k * 2)) (nthI el (k * 2 + 1)) tx tz) (leLo (wyC mw md ms mt (nthI el (k * 2)) (nthI el (k * 2 + 1)) tx tz)) + nthI tl k * lc
def avB (el tl : List Int) (mw md ms mt lc tx tz : Int) (k : Nat) : Int := zv (opE mw md ms mt (nthI el (k * 2)) (nthI el (k * 2 + 1)) tx tz) (mHi (wyC mw md ms mt (nthI el (k * 2)) (nthI el (k * 2 + 1)) tx tz)) + nthI tl k * lc
theorem av_bd {el tl : List Int} {mw md ms mt lc tx tz : Int} {n : Nat} (ht : ∀ i, i < n → tkE tl i = 0) (hc : 1 ≤ lc ∧ lc ≤ 1000000) : ∀ i, i < avN (nthI tl) n * 2 → 0 ≤ nthI (avF (nthI tl) (avA el tl mw md ms mt lc tx tz) (avB el tl mw md ms mt lc tx tz) n) i ∧ nthI (avF (nthI tl) (avA el tl mw md ms mt lc tx tz) (avB el tl mw md ms mt lc tx tz) n) i ≤ 1012000000000 := by
  intro i hi
  obtain ⟨k, hk, tk, a, b⟩ := av_of (nthI tl) (avA el tl mw md ms mt lc tx tz) (avB el tl mw md ms mt lc tx tz) n (i / 2) (by omega)
  have q := lt_bd mw md ms mt (nthI el (k * 2)) (nthI el (k * 2 + 1)) tx tz
  have p := tp_bd (tkE_0 (ht k hk)) hc
  have p0 := Int.mul_nonneg tk (show 0 ≤ lc by omega)
  rcases Nat.mod_two_eq_zero_or_one i with z | z
  · rw [show i = i / 2 * 2 by omega, a]; unfold avA; omega
  · rw [show i = i / 2 * 2 + 1 by omega, b]; unfold avB; omega

set_option maxRecDepth 100000 in
set_option maxHeartbeats 400000 in
theorem arrivals_s (EA : Option Addr) (n ecap : Nat) (el : List Int) (mw md ms mt ck : Int) (TA : Option Addr) (m tcap : Nat) (tl : List Int) (lc : Int) (tx tz : Int) (w0 : World) (hne : el.length = n * 2) (hre : IReads w0 EA el) (hnt : tl.length = m * 1) (hrt : IReads w0 TA tl) (hm1 : m ≤ 1000) (hob : obE el n mw md ms mt ck tl m lc = 0) (hpl : plE mt tx tz = 0) :
    Calls Try.prog 37 #[.agg #[.slice EA n ecap, .int .i64 mw, .int .i64 md, .int .i64 ms, .int .i64 mt, .int .i64 ck, .int .i64 lc, .slice TA m tcap], .agg #[.int .i64 tx, .int .i64 tz]] w0 fun e w' => ∃ v, e = .returned (.tuple #[v, .int .i64 0]) ∧ Below w0.heap.size w0 w' ∧ w'.ownsRow w0.heap.size 40 2 v (avN (nthI tl) m) (rowI (avF (nthI tl) (avA el tl mw md ms mt lc tx tz) (avB el tl mw md ms mt lc tx tz) m)) := by
  have S0 := St.start w0
  have hoa := obE_a hob
  have h0 := ar_0 hoa.1
  have l0 := lw_0 hoa.2.1
  have hmn := hoa.2.2
  refine enter (n := 60) Try.func37 rfl rfl rfl (fun ac A0 => ?_)
  refine wp_seq ?_
  refine wp_region_lit ?_
  refine s_box (.agg #[.slice EA n ecap, .int .i64 mw, .int .i64 md, .int .i64 ms, .int .i64 mt, .int .i64 ck, .int .i64 lc, .slice TA m tcap]) A0 S0 (by kernel_rfl) rfl (fun g3 ac wc A1 S2 => ?_)
  replace S2 : St _ (⟨g3, 56, #[.slice EA n ecap, .int .i64 mw, .int .i64 md, .int .i64 ms, .int .i64 mt, .int .i64 ck, .int .i64 lc, .slice TA m tcap], true⟩ :: _) _ _ := S2
  refine s_box (.agg #[.int .i64 tx, .int .i64 tz]) A1 S2 (by kernel_rfl) rfl (fun g7 ac wc A5 S6 => ?_)
  replace S6 : St _ (⟨g7, 28, #[.int .i64 tx, .int .i64 tz], true⟩ :: _) _ _ := S6
  refine s_one (.slice none 0 0) A5 S6 (g_assign (by kernel_rfl)) rfl (fun ac A9 => ?_)
  refine s_one (.int .i64 0) A9 S6 (g_assign (by kernel_rfl)) rfl (fun ac A10 => ?_)
  refine wpList_nil ?_
  refine n_then ?_
  refine wp_seq ?_
  refine wp_region_lit ?_
  refine s_one (.slice none 0 0) A10 S6 (g_assign (by kernel_rfl)) rfl (fun ac A11 => ?_)
  refine wpList_nil ?_
  refine n_then ?_
  refine wp_seq ?_
  refine wp_seq ?_
  refine wp_region_lit ?_
  refine s_one (.pointer (some ⟨g3, 6, none⟩)) A11 S6 (g_field (u := .pointer (some ⟨g3, 0, none⟩)) (by kernel_rfl) (fun _ => by kernel_rfl)) rfl (fun ac A12 => ?_)
  refine s_one (.pointer (some ⟨g3, 7, none⟩)) A12 S6 (g_field (u := .pointer (some ⟨g3, 6, none⟩)) (by kernel_rfl) (fun _ => by kernel_rfl)) rfl (fun ac A13 => ?_)
  refine s_one (.slice TA m tcap) A13 S6 (g_load (g := g3) (off := 7) 1 (by kernel_rfl) rfl (by kernel_rfl)) rfl (fun ac A14 => ?_)
  refine s_one (.int .i64 (m : Int)) A14 S6 (g_built (r := [(0, .slice TA m tcap)]) (by kernel_rfl) (fun _ _ _ => by kernel_rfl)) rfl (fun ac A15 => ?_)
  refine s_one (.int .i64 0) A15 S6 (g_move (by kernel_rfl)) rfl (fun ac A16 => ?_)
  refine wpList_nil ?_
  refine n_then ?_
  refine wp_block ?_
  have S17 := S6.nilRow 40 2
  refine c_loopN (fun mm ac wc => ∃ (k : Nat) (v : Value), mm = m - k ∧ (k ≤ m) ∧ Fr 60 ac [(0, .agg #[.slice EA n ecap, .int .i64 mw, .int .i64 md, .int .i64 ms, .int .i64 mt, .int .i64 ck, .int .i64 lc, .slice TA m tcap]), (1, .agg #[.int .i64 tx, .int .i64 tz]), (2, .pointer (some ⟨g3, 0, none⟩)), (3, .pointer (some ⟨g7, 0, none⟩)), (12, .pointer (some ⟨g3, 6, none⟩)), (13, .pointer (some ⟨g3, 7, none⟩)), (14, .slice TA m tcap), (15, .int .i64 (m : Int)), (16, .int .i64 (k : Int)), (6, v)] ∧ St w0 [⟨g7, 28, #[.int .i64 tx, .int .i64 tz], true⟩, ⟨g3, 56, #[.slice EA n ecap, .int .i64 mw, .int .i64 md, .int .i64 ms, .int .i64 mt, .int .i64 ck, .int .i64 lc, .slice TA m tcap], true⟩] [⟨v, 40, 2, (avN (nthI tl) k), (rowI (avF (nthI tl) (avA el tl mw md ms mt lc tx tz) (avB el tl mw md ms mt lc tx tz) k))⟩] wc) _ ⟨0, .slice none 0 0, rfl, by omega, (A16.slot (A16.slot (A16.slot (A16.slot (A16.slot (A16.slot (A16.slot (A16.slot (A16.slot (A16.slot A16.nil (v := .slice none 0 0) (by kernel_rfl) (by first | rfl | simp)) (v := .int .i64 0) (by kernel_rfl) (congrArg (Value.int .i64) (by omega))) (v := .int .i64 (m : Int)) (by kernel_rfl) rfl) (v := .slice TA m tcap) (by kernel_rfl) rfl) (v := .pointer (some ⟨g3, 7, none⟩)) (by kernel_rfl) rfl) (v := .pointer (some ⟨g3, 6, none⟩)) (by kernel_rfl) rfl) (v := .pointer (some ⟨g7, 0, none⟩)) (by kernel_rfl) rfl) (v := .pointer (some ⟨g3, 0, none⟩)) (by kernel_rfl) rfl) (v := .agg #[.int .i64 tx, .int .i64 tz]) (by kernel_rfl) rfl) (v := .agg #[.slice EA n ecap, .int .i64 mw, .int .i64 md, .int .i64 ms, .int .i64 mt, .int .i64 ck, .int .i64 lc, .slice TA m tcap]) (by kernel_rfl) rfl), (St.rerow 0 S17 rfl ⟨rfl, rfl⟩).sub sub_all sub_all⟩ ?_
  rintro mm ac wc ⟨k, v, hm20, hk, A18, S19⟩
  have hav := avN_le (nthI tl) k
  refine wp_seq ?_
  refine wp_region_lit ?_
  refine s_one (.bool (decide ((k : Int) < (m : Int)))) A18 S19 (g_bin (u := .int .i64 (k : Int)) (k := .int .i64 (m : Int)) (by kernel_rfl) (by kernel_rfl) (fun _ => by kernel_rfl) (fun _ => by kernel_rfl)) rfl (fun ac A21 => ?_)
  refine wpList_nil ?_
  refine n_then ?_
  refine wp_seq ?_
  refine c_ifb (b := (decide ((k : Int) < (m : Int)))) A21 (by kernel_rfl) (fun h22 => ?_) (fun h22 => ?_)
  · have p23 := of_decide_eq_true h22
    have tk0 := tkE_0 (l0.2.1 k (by omega))
    have tb := tp_bd tk0 l0.2.2
    have ltb := lt_bd mw md ms mt (nthI el (k * 2)) (nthI el (k * 2 + 1)) tx tz
    refine wp_skip ?_
    refine n_then ?_
    refine wp_seq ?_
    refine wp_block ?_
    refine wp_seq ?_
    refine wp_region_lit ?_
    refine s_one (.int .i64 (k : Int)) A21 S19 (g_move (by kernel_rfl)) rfl (fun ac A24 => ?_)
    obtain ⟨ad25, rfl, _⟩ := hrt (k) (by have hlen := hnt; omega)
    refine s_one (.pointer (some (ad25.add k))) A24 S19 (g_index (u := .slice (some ad25) m tcap) (k := .int .i64 (k : Int)) (by kernel_rfl) (by kernel_rfl) (ix_x (e := 3) (bytes := 8) k (by kernel_rfl) (by omega) (by omega))) rfl (fun ac A26 => ?_)
    refine s_one (.int .i64 (nthI tl k)) A26 S19 (g_loadXI (l := tl) (k := k) (by kernel_rfl) hrt (by have hlen := hnt; omega) (by kernel_rfl)) rfl (fun ac A27 => ?_)
    refine s_one (.int .i64 (k : Int)) A27 S19 (g_assign (by kernel_rfl)) rfl (fun ac A28 => ?_)
    refine s_one (.int .i64 (nthI tl k)) A28 S19 (g_assign (by kernel_rfl)) rfl (fun ac A29 => ?_)
    refine wpList_nil ?_
    refine n_then ?_
    refine wp_seq ?_
    refine wp_seq ?_
    refine wp_region_lit ?_
    refine s_one (.int .i64 (nthI tl k)) A29 S19 (g_move (by kernel_rfl)) rfl (fun ac A30 => ?_)
    refine s_call (fs := #[]) (cp := #[]) (r := [(0, .int .i64 (nthI tl k))]) #[.int .i64 (nthI tl k)] (.bool (decide ((nthI tl k) ≥ 0))) A30 S19 (sends_s (nthI tl k) _) Try.call40 (by kernel_rfl) (by kernel_rfl) (by kernel_rfl) rfl (fun ac wc A31 S32 => ?_)
    refine s_one (.bool (!(decide ((nthI tl k) ≥ 0)))) A31 S32 (g_un (u := .bool (decide ((nthI tl k) ≥ 0))) (by kernel_rfl) (fun _ => by kernel_rfl)) rfl (fun ac A34 => ?_)
    refine wpList_nil ?_
    refine n_then ?_
    refine c_ifb (b := (!(decide ((nthI tl k) ≥ 0)))) A34 (by kernel_rfl) (fun h35 => ?_) (fun h35 => ?_)
    · have h36 : decide ((nthI tl k) ≥ 0) = false := by simpa using h35
      have p37 := of_decide_eq_false h36
      refine wp_exit ?_
      refine x_then ?_
      refine x_hit ?_
      refine n_then ?_
      refine wp_region_lit ?_
      refine s_one (.int .i64 ((k : Int) + 1)) A34 S32 (g_bin (u := .int .i64 (k : Int)) (k := .int .i64 1) (by kernel_rfl) (by kernel_rfl) (fun _ => by kernel_rfl) (b_add (by omega))) rfl (fun ac A38 => ?_)
      refine s_one (.int .i64 ((k : Int) + 1)) A38 S32 (g_move (by kernel_rfl)) rfl (fun ac A39 => ?_)
      refine wpList_nil ?_
      refine n_then ?_
      refine ⟨_, ⟨k + 1, v, rfl, by omega, (A39.slot (A39.slot (A39.slot (A39.slot (A39.slot (A39.slot (A39.slot (A39.slot (A39.slot (A39.slot A39.nil (v := v) (by kernel_rfl) rfl) (v := .int .i64 ((k : Int) + 1)) (by kernel_rfl) (congrArg (Value.int .i64) (by omega))) (v := .int .i64 (m : Int)) (by kernel_rfl) rfl) (v := .slice (some ad25) m tcap) (by kernel_rfl) (by first | rfl | simp)) (v := .pointer (some ⟨g3, 7, none⟩)) (by kernel_rfl) rfl) (v := .pointer (some ⟨g3, 6, none⟩)) (by kernel_rfl) rfl) (v := .pointer (some ⟨g7, 0, none⟩)) (by kernel_rfl) rfl) (v := .pointer (some ⟨g3, 0, none⟩)) (by kernel_rfl) rfl) (v := .agg #[.int .i64 tx, .int .i64 tz]) (by kernel_rfl) rfl) (v := .agg #[.slice EA n ecap, .int .i64 mw, .int .i64 md, .int .i64 ms, .int .i64 mt, .int .i64 ck, .int .i64 lc, .slice (some ad25) m tcap]) (by kernel_rfl) (by first | rfl | simp)), (St.rerow 0 (St.recell 1 S32 rfl (by rfl)) rfl (av_n p37)).sub sub_all sub_all⟩, ?_⟩
      omega
    · have h40 : decide ((nthI tl k) ≥ 0) = true := by simpa using h35
      have p41 := of_decide_eq_true h40
      refine wp_skip ?_
      refine n_then ?_
      refine wp_seq ?_
      refine r_begin (w0 := w0) (by kernel_rfl) (S32.sub sub_all sub_all) (fun wc T42 B43 => ?_)
      have S44 := S32.kept B43
      refine r_take 0 (.pointer (some ⟨g3, 0, none⟩)) A34 T42 (g_field (u := .pointer (some ⟨g3, 0, none⟩)) (by kernel_rfl) (fun _ => by kernel_rfl)) rfl rfl rfl (pf_then (pf_block (pf_then (pf_then (pf_block (pf_then pf_body)))))) (by kernel_rfl) (fun ac A45 => ?_)
      refine r_take 1 (.pointer (some ⟨g3, 1, none⟩)) A45 T42 (g_field (u := .pointer (some ⟨g3, 0, none⟩)) (by kernel_rfl) (fun _ => by kernel_rfl)) rfl rfl rfl (pf_then (pf_block (pf_then (pf_then (pf_block (pf_then pf_body)))))) (by kernel_rfl) (fun ac A46 => ?_)
      refine r_take 2 (.agg #[.int .i64 mw, .int .i64 md, .int .i64 ms, .int .i64 mt]) A46 T42 (g_load (g := g3) (off := 1) 1 (by kernel_rfl) rfl (by kernel_rfl)) rfl rfl rfl (pf_then (pf_block (pf_then (pf_then (pf_block (pf_then pf_body)))))) (by kernel_rfl) (fun ac A47 => ?_)
      refine r_take 3 (.pointer (some ⟨g3, 0, none⟩)) A47 T42 (g_field (u := .pointer (some ⟨g3, 0, none⟩)) (by kernel_rfl) (fun _ => by kernel_rfl)) rfl rfl rfl (pf_then (pf_block (pf_then (pf_then (pf_block (pf_then pf_body)))))) (by kernel_rfl) (fun ac A48 => ?_)
      refine r_take 4 (.pointer (some ⟨g3, 0, none⟩)) A48 T42 (g_field (u := .pointer (some ⟨g3, 0, none⟩)) (by kernel_rfl) (fun _ => by kernel_rfl)) rfl rfl rfl (pf_then (pf_block (pf_then (pf_then (pf_block (pf_then pf_body)))))) (by kernel_rfl) (fun ac A49 => ?_)
      refine r_take 5 (.slice EA n ecap) A49 T42 (g_load (g := g3) (off := 0) 1 (by kernel_rfl) rfl (by kernel_rfl)) rfl rfl rfl (pf_then (pf_block (pf_then (pf_then (pf_block (pf_then pf_body)))))) (by kernel_rfl) (fun ac A50 => ?_)
      refine r_take 6 (.int .i64 (k : Int)) A50 T42 (g_move (by kernel_rfl)) rfl rfl rfl (pf_then (pf_block (pf_then (pf_then (pf_block (pf_then pf_body)))))) (by kernel_rfl) (fun ac A51 => ?_)
      obtain ⟨ad52, rfl, _⟩ := hre (k * 2) (by have hlen := hne; omega)
      refine r_take 7 (.pointer (some (ad52.add (k * 2)))) A51 T42 (g_index (u := .slice (some ad52) n ecap) (k := .int .i64 (k : Int)) (by kernel_rfl) (by kernel_rfl) (ix_xs (e := 28) (bytes := 16) k (by kernel_rfl) (by omega) (by omega))) rfl rfl rfl (pf_then (pf_block (pf_then (pf_then (pf_block (pf_then pf_body)))))) (by kernel_rfl) (fun ac A53 => ?_)
      refine r_take 8 (.agg #[.int .i64 (nthI el (k * 2)), .int .i64 (nthI el (k * 2 + 1))]) A53 T42 (g_loadXS (l := el) (k := k * 2) 2 (by kernel_rfl) hre (by have hlen := hne; omega) (by kernel_rfl) (by kernel_rfl)) rfl rfl rfl (pf_then (pf_block (pf_then (pf_then (pf_block (pf_then pf_body)))))) (by kernel_rfl) (fun ac A54 => ?_)
      refine r_take 9 (.agg #[.int .i64 tx, .int .i64 tz]) A54 T42 (g_load (g := g7) (off := 0) 0 (by kernel_rfl) rfl (by kernel_rfl)) rfl rfl rfl (pf_then (pf_block (pf_then (pf_then (pf_block (pf_then pf_body)))))) (by kernel_rfl) (fun ac A55 => ?_)
      refine r_2 (i := 10) (j := 14) (by kernel_rfl) ?_ ?_
      · refine rs_call (fs := #[]) (cp := #[]) (r := [(0, .agg #[.int .i64 mw, .int .i64 md, .int .i64 ms, .int .i64 mt]), (0, .agg #[.int .i64 (nthI el (k * 2)), .int .i64 (nthI el (k * 2 + 1))]), (0, .agg #[.int .i64 tx, .int .i64 tz])]) #[.agg #[.int .i64 mw, .int .i64 md, .int .i64 ms, .int .i64 mt], .agg #[.int .i64 (nthI el (k * 2)), .int .i64 (nthI el (k * 2 + 1))], .agg #[.int .i64 tx, .int .i64 tz]] (.tuple #[.agg #[.int .i64 (zv (opE mw md ms mt (nthI el (k * 2)) (nthI el (k * 2 + 1)) tx tz) (leLo (wyC mw md ms mt (nthI el (k * 2)) (nthI el (k * 2 + 1)) tx tz))), .int .i64 (zv (opE mw md ms mt (nthI el (k * 2)) (nthI el (k * 2 + 1)) tx tz) (mHi (wyC mw md ms mt (nthI el (k * 2)) (nthI el (k * 2 + 1)) tx tz)))], .int .i64 (opE mw md ms mt (nthI el (k * 2)) (nthI el (k * 2 + 1)) tx tz)]) A55 S44 sub_all sub_all (LeastTime_s mw md ms mt (nthI el (k * 2)) (nthI el (k * 2 + 1)) tx tz _) Try.call18 rfl rfl (by kernel_rfl) (by kernel_rfl) (by kernel_rfl) rfl (fun ac wc A56 S57 => ?_)
        have T59 := S57.sub sub_all sub_all
        refine r_take 11 (.tuple #[.agg #[.int .i64 (zv (opE mw md ms mt (nthI el (k * 2)) (nthI el (k * 2 + 1)) tx tz) (leLo (wyC mw md ms mt (nthI el (k * 2)) (nthI el (k * 2 + 1)) tx tz))), .int .i64 (zv (opE mw md ms mt (nthI el (k * 2)) (nthI el (k * 2 + 1)) tx tz) (mHi (wyC mw md ms mt (nthI el (k * 2)) (nthI el (k * 2 + 1)) tx tz)))], .int .i64 (opE mw md ms mt (nthI el (k * 2)) (nthI el (k * 2 + 1)) tx tz)]) A56 T59 (g_move (by kernel_rfl)) rfl rfl rfl (pf_then (pf_block (pf_then (pf_then (pf_block (pf_then pf_body)))))) (by kernel_rfl) (fun ac A60 => ?_)
        refine r_take 12 (.agg #[.int .i64 (zv (opE mw md ms mt (nthI el (k * 2)) (nthI el (k * 2 + 1)) tx tz) (leLo (wyC mw md ms mt (nthI el (k * 2)) (nthI el (k * 2 + 1)) tx tz))), .int .i64 (zv (opE mw md ms mt (nthI el (k * 2)) (nthI el (k * 2 + 1)) tx tz) (mHi (wyC mw md ms mt (nthI el (k * 2)) (nthI el (k * 2 + 1)) tx tz)))]) A60 T59 (g_extract (u := .tuple #[.agg #[.int .i64 (zv (opE mw md ms mt (nthI el (k * 2)) (nthI el (k * 2 + 1)) tx tz) (leLo (wyC mw md ms mt (nthI el (k * 2)) (nthI el (k * 2 + 1)) tx tz))), .int .i64 (zv (opE mw md ms mt (nthI el (k * 2)) (nthI el (k * 2 + 1)) tx tz) (mHi (wyC mw md ms mt (nthI el (k * 2)) (nthI el (k * 2 + 1)) tx tz)))], .int .i64 (opE mw md ms mt (nthI el (k * 2)) (nthI el (k * 2 + 1)) tx tz)]) (by kernel_rfl) (fun _ => by kernel_rfl)) rfl rfl rfl (pf_then (pf_block (pf_then (pf_then (pf_block (pf_then pf_body)))))) (by kernel_rfl) (fun ac A61 => ?_)
        refine r_take 13 (.int .i64 (opE mw md ms mt (nthI el (k * 2)) (nthI el (k * 2 + 1)) tx tz)) A61 T59 (g_extract (u := .tuple #[.agg #[.int .i64 (zv (opE mw md ms mt (nthI el (k * 2)) (nthI el (k * 2 + 1)) tx tz) (leLo (wyC mw md ms mt (nthI el (k * 2)) (nthI el (k * 2 + 1)) tx tz))), .int .i64 (zv (opE mw md ms mt (nthI el (k * 2)) (nthI el (k * 2 + 1)) tx tz) (mHi (wyC mw md ms mt (nthI el (k * 2)) (nthI el (k * 2 + 1)) tx tz)))], .int .i64 (opE mw md ms mt (nthI el (k * 2)) (nthI el (k * 2 + 1)) tx tz)]) (by kernel_rfl) (fun _ => by kernel_rfl)) rfl rfl rfl (pf_then (pf_block (pf_then (pf_then (pf_block (pf_then pf_body)))))) (by kernel_rfl) (fun ac A62 => ?_)
        refine r_1 (i := 14) (by kernel_rfl) ?_
        refine rs_alloc (#[.int .i64 0, .int .i64 0]) A62 S57 sub_all sub_all (by kernel_rfl) rfl rfl rfl (fun g65 ac wc A63 S64 => ?_)
        have T66 := S64.sub (sub_skip sub_all) sub_all
        refine r_1 (i := 15) (by kernel_rfl) ?_
        refine rs_store (g := g65) (off := 0) (v := .agg #[.int .i64 (zv (opE mw md ms mt (nthI el (k * 2)) (nthI el (k * 2 + 1)) tx tz) (leLo (wyC mw md ms mt (nthI el (k * 2)) (nthI el (k * 2 + 1)) tx tz))), .int .i64 (zv (opE mw md ms mt (nthI el (k * 2)) (nthI el (k * 2 + 1)) tx tz) (mHi (wyC mw md ms mt (nthI el (k * 2)) (nthI el (k * 2 + 1)) tx tz)))]) 0 (#[.int .i64 (zv (opE mw md ms mt (nthI el (k * 2)) (nthI el (k * 2 + 1)) tx tz) (leLo (wyC mw md ms mt (nthI el (k * 2)) (nthI el (k * 2 + 1)) tx tz))), .int .i64 (zv (opE mw md ms mt (nthI el (k * 2)) (nthI el (k * 2 + 1)) tx tz) (mHi (wyC mw md ms mt (nthI el (k * 2)) (nthI el (k * 2 + 1)) tx tz)))]) A63 S64 (sub_skip sub_all) sub_all (by kernel_rfl) (by kernel_rfl) rfl (by kernel_rfl) rfl rfl (fun wc S68 => ?_)
        have T70 := S68.sub (sub_skip sub_all) sub_all
        refine r_take 16 (.int .i64 (opE mw md ms mt (nthI el (k * 2)) (nthI el (k * 2 + 1)) tx tz)) A63 T70 (g_assign (by kernel_rfl)) rfl rfl rfl (pf_then (pf_block (pf_then (pf_then (pf_block (pf_then pf_body)))))) (by kernel_rfl) (fun ac A71 => ?_)
        refine r_done (by kernel_rfl) ?_
        refine n_then ?_
        refine wp_seq ?_
        refine wp_seq ?_
        refine wp_region_lit ?_
        refine s_one (.int .i64 (opE mw md ms mt (nthI el (k * 2)) (nthI el (k * 2 + 1)) tx tz)) A71 S68 (g_move (by kernel_rfl)) rfl (fun ac A72 => ?_)
        refine s_one (.bool (decide (opE mw md ms mt (nthI el (k * 2)) (nthI el (k * 2 + 1)) tx tz ≠ 0))) A72 S68 (g_bin (u := .int .i64 (opE mw md ms mt (nthI el (k * 2)) (nthI el (k * 2 + 1)) tx tz)) (k := .int .i64 0) (by kernel_rfl) (by kernel_rfl) (fun _ => by kernel_rfl) b_neq) rfl (fun ac A73 => ?_)
        refine wpList_nil ?_
        refine n_then ?_
        refine c_f (b := (decide (opE mw md ms mt (nthI el (k * 2)) (nthI el (k * 2 + 1)) tx tz ≠ 0))) A73 (by kernel_rfl) (decide_eq_false (fun hh => hh (way_ok h0.2.2.1 (elE_0 (h0.2.1 k (by omega))) hpl))) ?_
        refine wp_skip ?_
        refine n_then ?_
        refine wp_seq ?_
        refine wp_region_lit ?_
        refine s_one (.int .i64 (nthI tl k)) A73 S68 (g_move (by kernel_rfl)) rfl (fun ac A74 => ?_)
        refine s_one (.pointer (some ⟨g3, 6, none⟩)) A74 S68 (g_field (u := .pointer (some ⟨g3, 0, none⟩)) (by kernel_rfl) (fun _ => by kernel_rfl)) rfl (fun ac A75 => ?_)
        refine s_one (.pointer (some ⟨g3, 6, none⟩)) A75 S68 (g_field (u := .pointer (some ⟨g3, 6, none⟩)) (by kernel_rfl) (fun _ => by kernel_rfl)) rfl (fun ac A76 => ?_)
        refine s_one (.int .i64 lc) A76 S68 (g_load (g := g3) (off := 6) 2 (by kernel_rfl) rfl (by kernel_rfl)) rfl (fun ac A77 => ?_)
        refine s_one (.int .i64 ((nthI tl k) * lc)) A77 S68 (g_bin (u := .int .i64 (nthI tl k)) (k := .int .i64 lc) (by kernel_rfl) (by kernel_rfl) (fun _ => by kernel_rfl) (b_mul (by omega))) rfl (fun ac A78 => ?_)
        refine s_one (.int .i64 ((nthI tl k) * lc)) A78 S68 (g_assign (by kernel_rfl)) rfl (fun ac A79 => ?_)
        refine wpList_nil ?_
        refine n_then ?_
        refine wp_region_lit ?_
        refine s_one (v) A79 S68 (g_move (by kernel_rfl)) rfl (fun ac A80 => ?_)
        refine s_one (.pointer (some ⟨g65, 0, none⟩)) A80 S68 (g_field (u := .pointer (some ⟨g65, 0, none⟩)) (by kernel_rfl) (fun _ => by kernel_rfl)) rfl (fun ac A81 => ?_)
        refine s_one (.int .i64 (zv (opE mw md ms mt (nthI el (k * 2)) (nthI el (k * 2 + 1)) tx tz) (leLo (wyC mw md ms mt (nthI el (k * 2)) (nthI el (k * 2 + 1)) tx tz)))) A81 S68 (g_load (g := g65) (off := 0) 0 (by kernel_rfl) rfl (by kernel_rfl)) rfl (fun ac A82 => ?_)
        refine s_one (.int .i64 ((nthI tl k) * lc)) A82 S68 (g_move (by kernel_rfl)) rfl (fun ac A83 => ?_)
        refine s_one (.int .i64 (zv (opE mw md ms mt (nthI el (k * 2)) (nthI el (k * 2 + 1)) tx tz) (leLo (wyC mw md ms mt (nthI el (k * 2)) (nthI el (k * 2 + 1)) tx tz)) + ((nthI tl k) * lc))) A83 S68 (g_bin (u := .int .i64 (zv (opE mw md ms mt (nthI el (k * 2)) (nthI el (k * 2 + 1)) tx tz) (leLo (wyC mw md ms mt (nthI el (k * 2)) (nthI el (k * 2 + 1)) tx tz)))) (k := .int .i64 ((nthI tl k) * lc)) (by kernel_rfl) (by kernel_rfl) (fun _ => by kernel_rfl) (b_add (by omega))) rfl (fun ac A84 => ?_)
        refine s_one (.pointer (some ⟨g65, 1, none⟩)) A84 S68 (g_field (u := .pointer (some ⟨g65, 0, none⟩)) (by kernel_rfl) (fun _ => by kernel_rfl)) rfl (fun ac A85 => ?_)
        refine s_one (.int .i64 (zv (opE mw md ms mt (nthI el (k * 2)) (nthI el (k * 2 + 1)) tx tz) (mHi (wyC mw md ms mt (nthI el (k * 2)) (nthI el (k * 2 + 1)) tx tz)))) A85 S68 (g_load (g := g65) (off := 1) 0 (by kernel_rfl) rfl (by kernel_rfl)) rfl (fun ac A86 => ?_)
        refine s_one (.int .i64 ((nthI tl k) * lc)) A86 S68 (g_move (by kernel_rfl)) rfl (fun ac A87 => ?_)
        refine s_one (.int .i64 (zv (opE mw md ms mt (nthI el (k * 2)) (nthI el (k * 2 + 1)) tx tz) (mHi (wyC mw md ms mt (nthI el (k * 2)) (nthI el (k * 2 + 1)) tx tz)) + ((nthI tl k) * lc))) A87 S68 (g_bin (u := .int .i64 (zv (opE mw md ms mt (nthI el (k * 2)) (nthI el (k * 2 + 1)) tx tz) (mHi (wyC mw md ms mt (nthI el (k * 2)) (nthI el (k * 2 + 1)) tx tz)))) (k := .int .i64 ((nthI tl k) * lc)) (by kernel_rfl) (by kernel_rfl) (fun _ => by kernel_rfl) (b_add (by omega))) rfl (fun ac A88 => ?_)
        refine s_one (.agg #[.int .i64 (zv (opE mw md ms mt (nthI el (k * 2)) (nthI el (k * 2 + 1)) tx tz) (leLo (wyC mw md ms mt (nthI el (k * 2)) (nthI el (k * 2 + 1)) tx tz)) + ((nthI tl k) * lc)), .int .i64 (zv (opE mw md ms mt (nthI el (k * 2)) (nthI el (k * 2 + 1)) tx tz) (mHi (wyC mw md ms mt (nthI el (k * 2)) (nthI el (k * 2 + 1)) tx tz)) + ((nthI tl k) * lc))]) A88 S68 (g_build (r := [(0, .int .i64 (zv (opE mw md ms mt (nthI el (k * 2)) (nthI el (k * 2 + 1)) tx tz) (leLo (wyC mw md ms mt (nthI el (k * 2)) (nthI el (k * 2 + 1)) tx tz)) + ((nthI tl k) * lc))), (1, .int .i64 (zv (opE mw md ms mt (nthI el (k * 2)) (nthI el (k * 2 + 1)) tx tz) (mHi (wyC mw md ms mt (nthI el (k * 2)) (nthI el (k * 2 + 1)) tx tz)) + ((nthI tl k) * lc)))]) (by kernel_rfl) (fun _ => by kernel_rfl)) rfl (fun ac A89 => ?_)
        refine s_bs (e := 40) (r := [(0, .agg #[.int .i64 (zv (opE mw md ms mt (nthI el (k * 2)) (nthI el (k * 2 + 1)) tx tz) (leLo (wyC mw md ms mt (nthI el (k * 2)) (nthI el (k * 2 + 1)) tx tz)) + ((nthI tl k) * lc)), .int .i64 (zv (opE mw md ms mt (nthI el (k * 2)) (nthI el (k * 2 + 1)) tx tz) (mHi (wyC mw md ms mt (nthI el (k * 2)) (nthI el (k * 2 + 1)) tx tz)) + ((nthI tl k) * lc))])]) (#[.int .i64 (zv (opE mw md ms mt (nthI el (k * 2)) (nthI el (k * 2 + 1)) tx tz) (leLo (wyC mw md ms mt (nthI el (k * 2)) (nthI el (k * 2 + 1)) tx tz)) + ((nthI tl k) * lc)), .int .i64 (zv (opE mw md ms mt (nthI el (k * 2)) (nthI el (k * 2 + 1)) tx tz) (mHi (wyC mw md ms mt (nthI el (k * 2)) (nthI el (k * 2 + 1)) tx tz)) + ((nthI tl k) * lc))]) A89 S68 (by kernel_rfl) (by kernel_rfl) rfl (fun g92 ac wc A90 S91 => ?_)
        refine s_append (e := 40) (size := 2) (bytes := 16) (v := v) (g := g92) (m' := 1) (c := 1) 0 0 [.int .i64 (zv (opE mw md ms mt (nthI el (k * 2)) (nthI el (k * 2 + 1)) tx tz) (leLo (wyC mw md ms mt (nthI el (k * 2)) (nthI el (k * 2 + 1)) tx tz)) + ((nthI tl k) * lc)), .int .i64 (zv (opE mw md ms mt (nthI el (k * 2)) (nthI el (k * 2 + 1)) tx tz) (mHi (wyC mw md ms mt (nthI el (k * 2)) (nthI el (k * 2 + 1)) tx tz)) + ((nthI tl k) * lc))] A90 S91 (by kernel_rfl) (by kernel_rfl) (by kernel_rfl) rfl rfl (by kernel_rfl) rfl (by kernel_rfl) (by omega) (by omega) rfl (fun v96 ac wc A93 S94 => ?_)
        refine s_one (v96) A93 S94 (g_assign (by kernel_rfl)) rfl (fun ac A97 => ?_)
        refine wpList_nil ?_
        refine n_block ?_
        refine n_then ?_
        refine wp_region_lit ?_
        refine s_one (.int .i64 ((k : Int) + 1)) A97 S94 (g_bin (u := .int .i64 (k : Int)) (k := .int .i64 1) (by kernel_rfl) (by kernel_rfl) (fun _ => by kernel_rfl) (b_add (by omega))) rfl (fun ac A98 => ?_)
        refine s_one (.int .i64 ((k : Int) + 1)) A98 S94 (g_move (by kernel_rfl)) rfl (fun ac A99 => ?_)
        refine wpList_nil ?_
        refine n_then ?_
        refine ⟨_, ⟨k + 1, v96, rfl, by omega, (A99.slot (A99.slot (A99.slot (A99.slot (A99.slot (A99.slot (A99.slot (A99.slot (A99.slot (A99.slot A99.nil (v := v96) (by kernel_rfl) rfl) (v := .int .i64 ((k : Int) + 1)) (by kernel_rfl) (congrArg (Value.int .i64) (by omega))) (v := .int .i64 (m : Int)) (by kernel_rfl) rfl) (v := .slice (some ad25) m tcap) (by kernel_rfl) (by first | rfl | simp)) (v := .pointer (some ⟨g3, 7, none⟩)) (by kernel_rfl) rfl) (v := .pointer (some ⟨g3, 6, none⟩)) (by kernel_rfl) rfl) (v := .pointer (some ⟨g7, 0, none⟩)) (by kernel_rfl) rfl) (v := .pointer (some ⟨g3, 0, none⟩)) (by kernel_rfl) rfl) (v := .agg #[.int .i64 tx, .int .i64 tz]) (by kernel_rfl) rfl) (v := .agg #[.slice (some ad52) n ecap, .int .i64 mw, .int .i64 md, .int .i64 ms, .int .i64 mt, .int .i64 ck, .int .i64 lc, .slice (some ad25) m tcap]) (by kernel_rfl) (by first | rfl | simp)), (St.rerow 0 (St.recell 3 S94 rfl (by rfl)) rfl (av_y p41)).sub (sub_skip (sub_skip sub_all)) sub_all⟩, ?_⟩
        omega
      · refine rs_alloc (#[.int .i64 0, .int .i64 0]) A55 S44 sub_all sub_all (by kernel_rfl) rfl rfl rfl (fun g102 ac wc A100 S101 => ?_)
        have T103 := S101.sub (sub_skip sub_all) sub_all
        refine r_1 (i := 10) (by kernel_rfl) ?_
        refine rs_call (fs := #[]) (cp := #[]) (r := [(0, .agg #[.int .i64 mw, .int .i64 md, .int .i64 ms, .int .i64 mt]), (0, .agg #[.int .i64 (nthI el (k * 2)), .int .i64 (nthI el (k * 2 + 1))]), (0, .agg #[.int .i64 tx, .int .i64 tz])]) #[.agg #[.int .i64 mw, .int .i64 md, .int .i64 ms, .int .i64 mt], .agg #[.int .i64 (nthI el (k * 2)), .int .i64 (nthI el (k * 2 + 1))], .agg #[.int .i64 tx, .int .i64 tz]] (.tuple #[.agg #[.int .i64 (zv (opE mw md ms mt (nthI el (k * 2)) (nthI el (k * 2 + 1)) tx tz) (leLo (wyC mw md ms mt (nthI el (k * 2)) (nthI el (k * 2 + 1)) tx tz))), .int .i64 (zv (opE mw md ms mt (nthI el (k * 2)) (nthI el (k * 2 + 1)) tx tz) (mHi (wyC mw md ms mt (nthI el (k * 2)) (nthI el (k * 2 + 1)) tx tz)))], .int .i64 (opE mw md ms mt (nthI el (k * 2)) (nthI el (k * 2 + 1)) tx tz)]) A100 S101 (sub_skip sub_all) sub_all (LeastTime_s mw md ms mt (nthI el (k * 2)) (nthI el (k * 2 + 1)) tx tz _) Try.call18 rfl rfl (by kernel_rfl) (by kernel_rfl) (by kernel_rfl) rfl (fun ac wc A104 S105 => ?_)
        have T107 := S105.sub (sub_skip sub_all) sub_all
        refine r_take 11 (.tuple #[.agg #[.int .i64 (zv (opE mw md ms mt (nthI el (k * 2)) (nthI el (k * 2 + 1)) tx tz) (leLo (wyC mw md ms mt (nthI el (k * 2)) (nthI el (k * 2 + 1)) tx tz))), .int .i64 (zv (opE mw md ms mt (nthI el (k * 2)) (nthI el (k * 2 + 1)) tx tz) (mHi (wyC mw md ms mt (nthI el (k * 2)) (nthI el (k * 2 + 1)) tx tz)))], .int .i64 (opE mw md ms mt (nthI el (k * 2)) (nthI el (k * 2 + 1)) tx tz)]) A104 T107 (g_move (by kernel_rfl)) rfl rfl rfl (pf_then (pf_block (pf_then (pf_then (pf_block (pf_then pf_body)))))) (by kernel_rfl) (fun ac A108 => ?_)
        refine r_take 12 (.agg #[.int .i64 (zv (opE mw md ms mt (nthI el (k * 2)) (nthI el (k * 2 + 1)) tx tz) (leLo (wyC mw md ms mt (nthI el (k * 2)) (nthI el (k * 2 + 1)) tx tz))), .int .i64 (zv (opE mw md ms mt (nthI el (k * 2)) (nthI el (k * 2 + 1)) tx tz) (mHi (wyC mw md ms mt (nthI el (k * 2)) (nthI el (k * 2 + 1)) tx tz)))]) A108 T107 (g_extract (u := .tuple #[.agg #[.int .i64 (zv (opE mw md ms mt (nthI el (k * 2)) (nthI el (k * 2 + 1)) tx tz) (leLo (wyC mw md ms mt (nthI el (k * 2)) (nthI el (k * 2 + 1)) tx tz))), .int .i64 (zv (opE mw md ms mt (nthI el (k * 2)) (nthI el (k * 2 + 1)) tx tz) (mHi (wyC mw md ms mt (nthI el (k * 2)) (nthI el (k * 2 + 1)) tx tz)))], .int .i64 (opE mw md ms mt (nthI el (k * 2)) (nthI el (k * 2 + 1)) tx tz)]) (by kernel_rfl) (fun _ => by kernel_rfl)) rfl rfl rfl (pf_then (pf_block (pf_then (pf_then (pf_block (pf_then pf_body)))))) (by kernel_rfl) (fun ac A109 => ?_)
        refine r_take 13 (.int .i64 (opE mw md ms mt (nthI el (k * 2)) (nthI el (k * 2 + 1)) tx tz)) A109 T107 (g_extract (u := .tuple #[.agg #[.int .i64 (zv (opE mw md ms mt (nthI el (k * 2)) (nthI el (k * 2 + 1)) tx tz) (leLo (wyC mw md ms mt (nthI el (k * 2)) (nthI el (k * 2 + 1)) tx tz))), .int .i64 (zv (opE mw md ms mt (nthI el (k * 2)) (nthI el (k * 2 + 1)) tx tz) (mHi (wyC mw md ms mt (nthI el (k * 2)) (nthI el (k * 2 + 1)) tx tz)))], .int .i64 (opE mw md ms mt (nthI el (k * 2)) (nthI el (k * 2 + 1)) tx tz)]) (by kernel_rfl) (fun _ => by kernel_rfl)) rfl rfl rfl (pf_then (pf_block (pf_then (pf_then (pf_block (pf_then pf_body)))))) (by kernel_rfl) (fun ac A110 => ?_)
        refine r_1 (i := 15) (by kernel_rfl) ?_
        refine rs_store (g := g102) (off := 0) (v := .agg #[.int .i64 (zv (opE mw md ms mt (nthI el (k * 2)) (nthI el (k * 2 + 1)) tx tz) (leLo (wyC mw md ms mt (nthI el (k * 2)) (nthI el (k * 2 + 1)) tx tz))), .int .i64 (zv (opE mw md ms mt (nthI el (k * 2)) (nthI el (k * 2 + 1)) tx tz) (mHi (wyC mw md ms mt (nthI el (k * 2)) (nthI el (k * 2 + 1)) tx tz)))]) 0 (#[.int .i64 (zv (opE mw md ms mt (nthI el (k * 2)) (nthI el (k * 2 + 1)) tx tz) (leLo (wyC mw md ms mt (nthI el (k * 2)) (nthI el (k * 2 + 1)) tx tz))), .int .i64 (zv (opE mw md ms mt (nthI el (k * 2)) (nthI el (k * 2 + 1)) tx tz) (mHi (wyC mw md ms mt (nthI el (k * 2)) (nthI el (k * 2 + 1)) tx tz)))]) A110 S105 (sub_skip sub_all) sub_all (by kernel_rfl) (by kernel_rfl) rfl (by kernel_rfl) rfl rfl (fun wc S112 => ?_)
        have T114 := S112.sub (sub_skip sub_all) sub_all
        refine r_take 16 (.int .i64 (opE mw md ms mt (nthI el (k * 2)) (nthI el (k * 2 + 1)) tx tz)) A110 T114 (g_assign (by kernel_rfl)) rfl rfl rfl (pf_then (pf_block (pf_then (pf_then (pf_block (pf_then pf_body)))))) (by kernel_rfl) (fun ac A115 => ?_)
        refine r_done (by kernel_rfl) ?_
        refine n_then ?_
        refine wp_seq ?_
        refine wp_seq ?_
        refine wp_region_lit ?_
        refine s_one (.int .i64 (opE mw md ms mt (nthI el (k * 2)) (nthI el (k * 2 + 1)) tx tz)) A115 S112 (g_move (by kernel_rfl)) rfl (fun ac A116 => ?_)
        refine s_one (.bool (decide (opE mw md ms mt (nthI el (k * 2)) (nthI el (k * 2 + 1)) tx tz ≠ 0))) A116 S112 (g_bin (u := .int .i64 (opE mw md ms mt (nthI el (k * 2)) (nthI el (k * 2 + 1)) tx tz)) (k := .int .i64 0) (by kernel_rfl) (by kernel_rfl) (fun _ => by kernel_rfl) b_neq) rfl (fun ac A117 => ?_)
        refine wpList_nil ?_
        refine n_then ?_
        refine c_f (b := (decide (opE mw md ms mt (nthI el (k * 2)) (nthI el (k * 2 + 1)) tx tz ≠ 0))) A117 (by kernel_rfl) (decide_eq_false (fun hh => hh (way_ok h0.2.2.1 (elE_0 (h0.2.1 k (by omega))) hpl))) ?_
        refine wp_skip ?_
        refine n_then ?_
        refine wp_seq ?_
        refine wp_region_lit ?_
        refine s_one (.int .i64 (nthI tl k)) A117 S112 (g_move (by kernel_rfl)) rfl (fun ac A118 => ?_)
        refine s_one (.pointer (some ⟨g3, 6, none⟩)) A118 S112 (g_field (u := .pointer (some ⟨g3, 0, none⟩)) (by kernel_rfl) (fun _ => by kernel_rfl)) rfl (fun ac A119 => ?_)
        refine s_one (.pointer (some ⟨g3, 6, none⟩)) A119 S112 (g_field (u := .pointer (some ⟨g3, 6, none⟩)) (by kernel_rfl) (fun _ => by kernel_rfl)) rfl (fun ac A120 => ?_)
        refine s_one (.int .i64 lc) A120 S112 (g_load (g := g3) (off := 6) 2 (by kernel_rfl) rfl (by kernel_rfl)) rfl (fun ac A121 => ?_)
        refine s_one (.int .i64 ((nthI tl k) * lc)) A121 S112 (g_bin (u := .int .i64 (nthI tl k)) (k := .int .i64 lc) (by kernel_rfl) (by kernel_rfl) (fun _ => by kernel_rfl) (b_mul (by omega))) rfl (fun ac A122 => ?_)
        refine s_one (.int .i64 ((nthI tl k) * lc)) A122 S112 (g_assign (by kernel_rfl)) rfl (fun ac A123 => ?_)
        refine wpList_nil ?_
        refine n_then ?_
        refine wp_region_lit ?_
        refine s_one (v) A123 S112 (g_move (by kernel_rfl)) rfl (fun ac A124 => ?_)
        refine s_one (.pointer (some ⟨g102, 0, none⟩)) A124 S112 (g_field (u := .pointer (some ⟨g102, 0, none⟩)) (by kernel_rfl) (fun _ => by kernel_rfl)) rfl (fun ac A125 => ?_)
        refine s_one (.int .i64 (zv (opE mw md ms mt (nthI el (k * 2)) (nthI el (k * 2 + 1)) tx tz) (leLo (wyC mw md ms mt (nthI el (k * 2)) (nthI el (k * 2 + 1)) tx tz)))) A125 S112 (g_load (g := g102) (off := 0) 0 (by kernel_rfl) rfl (by kernel_rfl)) rfl (fun ac A126 => ?_)
        refine s_one (.int .i64 ((nthI tl k) * lc)) A126 S112 (g_move (by kernel_rfl)) rfl (fun ac A127 => ?_)
        refine s_one (.int .i64 (zv (opE mw md ms mt (nthI el (k * 2)) (nthI el (k * 2 + 1)) tx tz) (leLo (wyC mw md ms mt (nthI el (k * 2)) (nthI el (k * 2 + 1)) tx tz)) + ((nthI tl k) * lc))) A127 S112 (g_bin (u := .int .i64 (zv (opE mw md ms mt (nthI el (k * 2)) (nthI el (k * 2 + 1)) tx tz) (leLo (wyC mw md ms mt (nthI el (k * 2)) (nthI el (k * 2 + 1)) tx tz)))) (k := .int .i64 ((nthI tl k) * lc)) (by kernel_rfl) (by kernel_rfl) (fun _ => by kernel_rfl) (b_add (by omega))) rfl (fun ac A128 => ?_)
        refine s_one (.pointer (some ⟨g102, 1, none⟩)) A128 S112 (g_field (u := .pointer (some ⟨g102, 0, none⟩)) (by kernel_rfl) (fun _ => by kernel_rfl)) rfl (fun ac A129 => ?_)
        refine s_one (.int .i64 (zv (opE mw md ms mt (nthI el (k * 2)) (nthI el (k * 2 + 1)) tx tz) (mHi (wyC mw md ms mt (nthI el (k * 2)) (nthI el (k * 2 + 1)) tx tz)))) A129 S112 (g_load (g := g102) (off := 1) 0 (by kernel_rfl) rfl (by kernel_rfl)) rfl (fun ac A130 => ?_)
        refine s_one (.int .i64 ((nthI tl k) * lc)) A130 S112 (g_move (by kernel_rfl)) rfl (fun ac A131 => ?_)
        refine s_one (.int .i64 (zv (opE mw md ms mt (nthI el (k * 2)) (nthI el (k * 2 + 1)) tx tz) (mHi (wyC mw md ms mt (nthI el (k * 2)) (nthI el (k * 2 + 1)) tx tz)) + ((nthI tl k) * lc))) A131 S112 (g_bin (u := .int .i64 (zv (opE mw md ms mt (nthI el (k * 2)) (nthI el (k * 2 + 1)) tx tz) (mHi (wyC mw md ms mt (nthI el (k * 2)) (nthI el (k * 2 + 1)) tx tz)))) (k := .int .i64 ((nthI tl k) * lc)) (by kernel_rfl) (by kernel_rfl) (fun _ => by kernel_rfl) (b_add (by omega))) rfl (fun ac A132 => ?_)
        refine s_one (.agg #[.int .i64 (zv (opE mw md ms mt (nthI el (k * 2)) (nthI el (k * 2 + 1)) tx tz) (leLo (wyC mw md ms mt (nthI el (k * 2)) (nthI el (k * 2 + 1)) tx tz)) + ((nthI tl k) * lc)), .int .i64 (zv (opE mw md ms mt (nthI el (k * 2)) (nthI el (k * 2 + 1)) tx tz) (mHi (wyC mw md ms mt (nthI el (k * 2)) (nthI el (k * 2 + 1)) tx tz)) + ((nthI tl k) * lc))]) A132 S112 (g_build (r := [(0, .int .i64 (zv (opE mw md ms mt (nthI el (k * 2)) (nthI el (k * 2 + 1)) tx tz) (leLo (wyC mw md ms mt (nthI el (k * 2)) (nthI el (k * 2 + 1)) tx tz)) + ((nthI tl k) * lc))), (1, .int .i64 (zv (opE mw md ms mt (nthI el (k * 2)) (nthI el (k * 2 + 1)) tx tz) (mHi (wyC mw md ms mt (nthI el (k * 2)) (nthI el (k * 2 + 1)) tx tz)) + ((nthI tl k) * lc)))]) (by kernel_rfl) (fun _ => by kernel_rfl)) rfl (fun ac A133 => ?_)
        refine s_bs (e := 40) (r := [(0, .agg #[.int .i64 (zv (opE mw md ms mt (nthI el (k * 2)) (nthI el (k * 2 + 1)) tx tz) (leLo (wyC mw md ms mt (nthI el (k * 2)) (nthI el (k * 2 + 1)) tx tz)) + ((nthI tl k) * lc)), .int .i64 (zv (opE mw md ms mt (nthI el (k * 2)) (nthI el (k * 2 + 1)) tx tz) (mHi (wyC mw md ms mt (nthI el (k * 2)) (nthI el (k * 2 + 1)) tx tz)) + ((nthI tl k) * lc))])]) (#[.int .i64 (zv (opE mw md ms mt (nthI el (k * 2)) (nthI el (k * 2 + 1)) tx tz) (leLo (wyC mw md ms mt (nthI el (k * 2)) (nthI el (k * 2 + 1)) tx tz)) + ((nthI tl k) * lc)), .int .i64 (zv (opE mw md ms mt (nthI el (k * 2)) (nthI el (k * 2 + 1)) tx tz) (mHi (wyC mw md ms mt (nthI el (k * 2)) (nthI el (k * 2 + 1)) tx tz)) + ((nthI tl k) * lc))]) A133 S112 (by kernel_rfl) (by kernel_rfl) rfl (fun g136 ac wc A134 S135 => ?_)
        refine s_append (e := 40) (size := 2) (bytes := 16) (v := v) (g := g136) (m' := 1) (c := 1) 0 0 [.int .i64 (zv (opE mw md ms mt (nthI el (k * 2)) (nthI el (k * 2 + 1)) tx tz) (leLo (wyC mw md ms mt (nthI el (k * 2)) (nthI el (k * 2 + 1)) tx tz)) + ((nthI tl k) * lc)), .int .i64 (zv (opE mw md ms mt (nthI el (k * 2)) (nthI el (k * 2 + 1)) tx tz) (mHi (wyC mw md ms mt (nthI el (k * 2)) (nthI el (k * 2 + 1)) tx tz)) + ((nthI tl k) * lc))] A134 S135 (by kernel_rfl) (by kernel_rfl) (by kernel_rfl) rfl rfl (by kernel_rfl) rfl (by kernel_rfl) (by omega) (by omega) rfl (fun v140 ac wc A137 S138 => ?_)
        refine s_one (v140) A137 S138 (g_assign (by kernel_rfl)) rfl (fun ac A141 => ?_)
        refine wpList_nil ?_
        refine n_block ?_
        refine n_then ?_
        refine wp_region_lit ?_
        refine s_one (.int .i64 ((k : Int) + 1)) A141 S138 (g_bin (u := .int .i64 (k : Int)) (k := .int .i64 1) (by kernel_rfl) (by kernel_rfl) (fun _ => by kernel_rfl) (b_add (by omega))) rfl (fun ac A142 => ?_)
        refine s_one (.int .i64 ((k : Int) + 1)) A142 S138 (g_move (by kernel_rfl)) rfl (fun ac A143 => ?_)
        refine wpList_nil ?_
        refine n_then ?_
        refine ⟨_, ⟨k + 1, v140, rfl, by omega, (A143.slot (A143.slot (A143.slot (A143.slot (A143.slot (A143.slot (A143.slot (A143.slot (A143.slot (A143.slot A143.nil (v := v140) (by kernel_rfl) rfl) (v := .int .i64 ((k : Int) + 1)) (by kernel_rfl) (congrArg (Value.int .i64) (by omega))) (v := .int .i64 (m : Int)) (by kernel_rfl) rfl) (v := .slice (some ad25) m tcap) (by kernel_rfl) (by first | rfl | simp)) (v := .pointer (some ⟨g3, 7, none⟩)) (by kernel_rfl) rfl) (v := .pointer (some ⟨g3, 6, none⟩)) (by kernel_rfl) rfl) (v := .pointer (some ⟨g7, 0, none⟩)) (by kernel_rfl) rfl) (v := .pointer (some ⟨g3, 0, none⟩)) (by kernel_rfl) rfl) (v := .agg #[.int .i64 tx, .int .i64 tz]) (by kernel_rfl) rfl) (v := .agg #[.slice (some ad52) n ecap, .int .i64 mw, .int .i64 md, .int .i64 ms, .int .i64 mt, .int .i64 ck, .int .i64 lc, .slice (some ad25) m tcap]) (by kernel_rfl) (by first | rfl | simp)), (St.rerow 0 (St.recell 3 S138 rfl (by rfl)) rfl (av_y p41)).sub (sub_skip (sub_skip sub_all)) sub_all⟩, ?_⟩
        omega
  · have p144 := of_decide_eq_false h22
    refine wp_exit ?_
    refine x_then ?_
    refine x_then ?_
    refine x_hit ?_
    refine n_then ?_
    refine wp_seq ?_
    refine wp_region_lit ?_
    refine s_one (v) A21 S19 (g_move (by kernel_rfl)) rfl (fun ac A145 => ?_)
    refine s_one (v) A145 S19 (g_assign (by kernel_rfl)) rfl (fun ac A146 => ?_)
    refine s_one (.int .i64 0) A146 S19 (g_assign (by kernel_rfl)) rfl (fun ac A147 => ?_)
    refine wpList_nil ?_
    refine n_then ?_
    refine wp_ret ?_
    obtain ⟨A148, cap149, rfl⟩ := row_slice (v := v) (m := avN (nthI tl) k) (S19.row 0 rfl)
    refine fin2 (.slice A148 (avN (nthI tl) k) cap149) (.int .i64 0) Try.results37 A147 S19 (rv_tmp (by kernel_rfl)) (rv_tmp (by kernel_rfl)) ?_
    have bw := S19.kp
    have ow := S19.row 0 rfl
    obtain rfl : k = m := by omega
    exact ⟨_, rfl, bw, ow⟩

def spE1 (tl : List Int) (m : Nat) : Int := if avN (nthI tl) m = 0 then 12 else 0
def spLo (l : List Int) (N : Nat) : Int := mx 0 (mxS (evens l) N - mnS (odds l) N)
def spHi (l : List Int) (N : Nat) : Int := mxS (odds l) N - mnS (evens l) N
theorem spE1_n {tl : List Int} {m : Nat} (h : avN (nthI tl) m = 0) : spE1 tl m = 12 := if_pos h
theorem spE1_y {tl : List Int} {m : Nat} (h : avN (nthI tl) m ≠ 0) : spE1 tl m = 0 := if_neg h

set_option maxRecDepth 100000 in
set_option maxHeartbeats 400000 in
theorem bspread_s (EA : Option Addr) (n ecap : Nat) (el : List Int) (mw md ms mt ck : Int) (TA : Option Addr) (m tcap : Nat) (tl : List Int) (lc : Int) (tx tz : Int) (w0 : World) (hne : el.length = n * 2) (hre : IReads w0 EA el) (hnt : tl.length = m * 1) (hrt : IReads w0 TA tl) (hm1 : m ≤ 1000) (hob : obE el n mw md ms mt ck tl m lc = 0) (hpl : plE mt tx tz = 0) :
    Calls Try.prog 20 #[.agg #[.slice EA n ecap, .int .i64 mw, .int .i64 md, .int .i64 ms, .int .i64 mt, .int .i64 ck, .int .i64 lc, .slice TA m tcap], .agg #[.int .i64 tx, .int .i64 tz]] w0 fun e w' => e = .returned (.tuple #[.agg #[.int .i64 (zv (spE1 tl m) (spLo (avF (nthI tl) (avA el tl mw md ms mt lc tx tz) (avB el tl mw md ms mt lc tx tz) m) (avN (nthI tl) m))), .int .i64 (zv (spE1 tl m) (spHi (avF (nthI tl) (avA el tl mw md ms mt lc tx tz) (avB el tl mw md ms mt lc tx tz) m) (avN (nthI tl) m)))], .int .i64 (spE1 tl m)]) ∧ Below w0.heap.size w0 w' := by
  have S0 := St.start w0
  have hoa := obE_a hob
  have h0 := ar_0 hoa.1
  have l0 := lw_0 hoa.2.1
  have hmn := hoa.2.2
  have havm := avN_le (nthI tl) m
  refine enter (n := 75) Try.func20 rfl rfl rfl (fun ac A0 => ?_)
  refine wp_seq ?_
  refine wp_region_lit ?_
  refine s_box (.agg #[.slice EA n ecap, .int .i64 mw, .int .i64 md, .int .i64 ms, .int .i64 mt, .int .i64 ck, .int .i64 lc, .slice TA m tcap]) A0 S0 (by kernel_rfl) rfl (fun g3 ac wc A1 S2 => ?_)
  replace S2 : St _ (⟨g3, 56, #[.slice EA n ecap, .int .i64 mw, .int .i64 md, .int .i64 ms, .int .i64 mt, .int .i64 ck, .int .i64 lc, .slice TA m tcap], true⟩ :: _) _ _ := S2
  refine s_box (.agg #[.int .i64 tx, .int .i64 tz]) A1 S2 (by kernel_rfl) rfl (fun g7 ac wc A5 S6 => ?_)
  replace S6 : St _ (⟨g7, 28, #[.int .i64 tx, .int .i64 tz], true⟩ :: _) _ _ := S6
  refine s_alloc (#[.int .i64 0, .int .i64 0]) A5 S6 (by kernel_rfl) rfl (fun g11 ac wc A9 S10 => ?_)
  refine s_one (.int .i64 0) A9 S10 (g_assign (by kernel_rfl)) rfl (fun ac A12 => ?_)
  refine wpList_nil ?_
  refine n_then ?_
  refine wp_seq ?_
  refine wp_region_lit ?_
  refine s_one (.agg #[.slice EA n ecap, .int .i64 mw, .int .i64 md, .int .i64 ms, .int .i64 mt, .int .i64 ck, .int .i64 lc, .slice TA m tcap]) A12 S10 (g_load (g := g3) (off := 0) 2 (by kernel_rfl) rfl (by kernel_rfl)) rfl (fun ac A13 => ?_)
  refine s_one (.agg #[.int .i64 tx, .int .i64 tz]) A13 S10 (g_load (g := g7) (off := 0) 1 (by kernel_rfl) rfl (by kernel_rfl)) rfl (fun ac A14 => ?_)
  refine s_callRF (fs := #[]) (cp := #[]) (r := [(0, .agg #[.slice EA n ecap, .int .i64 mw, .int .i64 md, .int .i64 ms, .int .i64 mt, .int .i64 ck, .int .i64 lc, .slice TA m tcap]), (0, .agg #[.int .i64 tx, .int .i64 tz])]) (fun v => .tuple #[v, .int .i64 0]) #[.agg #[.slice EA n ecap, .int .i64 mw, .int .i64 md, .int .i64 ms, .int .i64 mt, .int .i64 ck, .int .i64 lc, .slice TA m tcap], .agg #[.int .i64 tx, .int .i64 tz]] A14 S10 (arrivals_s EA n ecap el mw md ms mt ck TA m tcap tl lc tx tz _ (by have hlen := hne; omega) (hre.kept S10.kp) (by have hlen := hnt; omega) (hrt.kept S10.kp) (by omega) hob hpl) Try.call37 (by kernel_rfl) (by kernel_rfl) (by kernel_rfl) rfl (fun v18 ac wc A15 S16 => ?_)
  obtain ⟨hl19, A20, cap21, rfl, hr22⟩ := rowI_reads2 (v := v18) (size := 2) (m := (avN (nthI tl) m)) (l := avF (nthI tl) (avA el tl mw md ms mt lc tx tz) (avB el tl mw md ms mt lc tx tz) m) (S16.row 0 rfl)
  refine s_one (.tuple #[.slice A20 (avN (nthI tl) m) cap21, .int .i64 0]) A15 S16 (g_move (by kernel_rfl)) rfl (fun ac A23 => ?_)
  refine s_one (.slice A20 (avN (nthI tl) m) cap21) A23 S16 (g_extract (u := .tuple #[.slice A20 (avN (nthI tl) m) cap21, .int .i64 0]) (by kernel_rfl) (fun _ => by kernel_rfl)) rfl (fun ac A24 => ?_)
  refine s_one (.int .i64 0) A24 S16 (g_extract (u := .tuple #[.slice A20 (avN (nthI tl) m) cap21, .int .i64 0]) (by kernel_rfl) (fun _ => by kernel_rfl)) rfl (fun ac A25 => ?_)
  refine s_one (.slice A20 (avN (nthI tl) m) cap21) A25 S16 (g_assign (by kernel_rfl)) rfl (fun ac A26 => ?_)
  refine s_one (.int .i64 0) A26 S16 (g_assign (by kernel_rfl)) rfl (fun ac A27 => ?_)
  refine wpList_nil ?_
  refine n_then ?_
  refine wp_seq ?_
  refine wp_block ?_
  refine wp_seq ?_
  refine wp_region_lit ?_
  refine s_one (.int .i64 0) A27 S16 (g_move (by kernel_rfl)) rfl (fun ac A28 => ?_)
  refine s_one (.bool (decide (0 ≠ 0))) A28 S16 (g_bin (u := .int .i64 0) (k := .int .i64 0) (by kernel_rfl) (by kernel_rfl) (fun _ => by kernel_rfl) b_neq) rfl (fun ac A29 => ?_)
  refine s_one (.bool (decide (0 ≠ 0))) A29 S16 (g_assign (by kernel_rfl)) rfl (fun ac A30 => ?_)
  refine wpList_nil ?_
  refine n_then ?_
  refine c_f (b := (decide (0 ≠ 0))) A30 (by kernel_rfl) (by decide) ?_
  refine wp_seq ?_
  refine wp_region_lit ?_
  refine s_one (.slice A20 (avN (nthI tl) m) cap21) A30 S16 (g_move (by kernel_rfl)) rfl (fun ac A31 => ?_)
  refine s_one (.int .i64 ((avN (nthI tl) m) : Int)) A31 S16 (g_built (r := [(0, .slice A20 (avN (nthI tl) m) cap21)]) (by kernel_rfl) (fun _ _ _ => by kernel_rfl)) rfl (fun ac A32 => ?_)
  refine s_one (.bool (decide (((avN (nthI tl) m) : Int) = 0))) A32 S16 (g_bin (u := .int .i64 ((avN (nthI tl) m) : Int)) (k := .int .i64 0) (by kernel_rfl) (by kernel_rfl) (fun _ => by kernel_rfl) b_eql) rfl (fun ac A33 => ?_)
  refine s_one (.bool (decide (((avN (nthI tl) m) : Int) = 0))) A33 S16 (g_assign (by kernel_rfl)) rfl (fun ac A34 => ?_)
  refine wpList_nil ?_
  refine n_then ?_
  refine c_ifb (b := (decide (((avN (nthI tl) m) : Int) = 0))) A34 (by kernel_rfl) (fun h35 => ?_) (fun h35 => ?_)
  · have p36 := of_decide_eq_true h35
    have e1 : spE1 tl m = 12 := spE1_n (by omega)
    have zn : spE1 tl m ≠ 0 := by rw [e1]; decide
    refine wp_seq ?_
    refine wp_region_lit ?_
    refine s_one (.agg #[.int .i64 0, .int .i64 0]) A34 S16 (g_build (r := []) (by kernel_rfl) (fun _ => by kernel_rfl)) rfl (fun ac A37 => ?_)
    refine s_store (g := g11) (off := 0) (v := .agg #[.int .i64 0, .int .i64 0]) 0 (#[.int .i64 0, .int .i64 0]) A37 S16 (by kernel_rfl) (by kernel_rfl) rfl (by kernel_rfl) (fun wc S39 => ?_)
    refine s_one (.int .i64 12) A37 S39 (g_assign (by kernel_rfl)) rfl (fun ac A41 => ?_)
    refine wpList_nil ?_
    refine n_then ?_
    refine wp_ret ?_
    refine r_block ?_
    refine r_then ?_
    refine fin2 (.agg #[.int .i64 0, .int .i64 0]) (.int .i64 12) Try.results20 A41 S39 (rv_cell (g := g11) (off := 0) 0 (by kernel_rfl) rfl (by kernel_rfl)) (rv_tmp (by kernel_rfl)) ⟨?_, S39.kp⟩
    rw [zv_n zn, zv_n zn, e1]
  · have p42 := of_decide_eq_false h35
    have e1 : spE1 tl m = 0 := spE1_y (by omega)
    have hbd := av_bd (el := el) (mw := mw) (md := md) (ms := ms) (mt := mt) (tx := tx) (tz := tz) l0.2.1 l0.2.2
    have hN : 1 ≤ (avN (nthI tl) m) := by omega
    have hev := mn_bd (F := evens (avF (nthI tl) (avA el tl mw md ms mt lc tx tz) (avB el tl mw md ms mt lc tx tz) m)) (n := (avN (nthI tl) m)) (B := 1012000000000) hN (fun i hi => hbd (i * 2) (by omega)) (avN (nthI tl) m) (Nat.le_refl _)
    have hod := mn_bd (F := odds (avF (nthI tl) (avA el tl mw md ms mt lc tx tz) (avB el tl mw md ms mt lc tx tz) m)) (n := (avN (nthI tl) m)) (B := 1012000000000) hN (fun i hi => hbd (i * 2 + 1) (by omega)) (avN (nthI tl) m) (Nat.le_refl _)
    refine wp_skip ?_
    refine n_block ?_
    refine n_then ?_
    refine wp_seq ?_
    refine r_begin (w0 := w0) (by kernel_rfl) (S16.sub sub_all sub_all) (fun wc T43 B44 => ?_)
    have S45 := S16.kept B44
    refine r_take 0 (.slice A20 (avN (nthI tl) m) cap21) A34 T43 (g_move (by kernel_rfl)) rfl rfl rfl (pf_then pf_body) (by kernel_rfl) (fun ac A46 => ?_)
    obtain ⟨ad47, rfl, _⟩ := (row_ir (S45.row 0 rfl)) (0 * 2) (by have hlen := hl19; omega)
    refine r_take 1 (.pointer (some (ad47.add (0 * 2)))) A46 T43 (g_index (u := .slice (some ad47) (avN (nthI tl) m) cap21) (k := .int .i64 0) (by kernel_rfl) (by kernel_rfl) (ix_xs (e := 40) (bytes := 16) 0 (by kernel_rfl) (by omega) (by omega))) rfl rfl rfl (pf_then pf_body) (by kernel_rfl) (fun ac A48 => ?_)
    refine r_take 2 (.agg #[.int .i64 (nthI (avF (nthI tl) (avA el tl mw md ms mt lc tx tz) (avB el tl mw md ms mt lc tx tz) m) (0 * 2)), .int .i64 (nthI (avF (nthI tl) (avA el tl mw md ms mt lc tx tz) (avB el tl mw md ms mt lc tx tz) m) (0 * 2 + 1))]) A48 T43 (g_loadRS (l := avF (nthI tl) (avA el tl mw md ms mt lc tx tz) (avB el tl mw md ms mt lc tx tz) m) (k := 0 * 2) 0 2 (by kernel_rfl) rfl (by have hlen := hl19; omega) (by kernel_rfl) (by kernel_rfl)) rfl rfl rfl (pf_then pf_body) (by kernel_rfl) (fun ac A49 => ?_)
    refine r_take 3 (.slice (some ad47) (avN (nthI tl) m) cap21) A49 T43 (g_move (by kernel_rfl)) rfl rfl rfl (pf_then pf_body) (by kernel_rfl) (fun ac A50 => ?_)
    refine r_take 4 (.pointer (some (ad47.add (0 * 2)))) A50 T43 (g_index (u := .slice (some ad47) (avN (nthI tl) m) cap21) (k := .int .i64 0) (by kernel_rfl) (by kernel_rfl) (ix_xs (e := 40) (bytes := 16) 0 (by kernel_rfl) (by omega) (by omega))) rfl rfl rfl (pf_then pf_body) (by kernel_rfl) (fun ac A51 => ?_)
    refine r_take 5 (.agg #[.int .i64 (nthI (avF (nthI tl) (avA el tl mw md ms mt lc tx tz) (avB el tl mw md ms mt lc tx tz) m) (0 * 2)), .int .i64 (nthI (avF (nthI tl) (avA el tl mw md ms mt lc tx tz) (avB el tl mw md ms mt lc tx tz) m) (0 * 2 + 1))]) A51 T43 (g_loadRS (l := avF (nthI tl) (avA el tl mw md ms mt lc tx tz) (avB el tl mw md ms mt lc tx tz) m) (k := 0 * 2) 0 2 (by kernel_rfl) rfl (by have hlen := hl19; omega) (by kernel_rfl) (by kernel_rfl)) rfl rfl rfl (pf_then pf_body) (by kernel_rfl) (fun ac A52 => ?_)
    refine r_2 (i := 6) (j := 7) (by kernel_rfl) ?_ ?_
    · refine rs_alloc (#[.int .i64 0, .int .i64 0]) A52 S45 sub_all sub_all (by kernel_rfl) rfl rfl rfl (fun g55 ac wc A53 S54 => ?_)
      have T56 := S54.sub (sub_skip sub_all) sub_all
      refine r_1 (i := 7) (by kernel_rfl) ?_
      refine rs_alloc (#[.int .i64 0, .int .i64 0]) A53 S54 (sub_skip sub_all) sub_all (by kernel_rfl) rfl rfl rfl (fun g59 ac wc A57 S58 => ?_)
      have T60 := S58.sub (sub_skip (sub_skip sub_all)) sub_all
      refine r_1 (i := 8) (by kernel_rfl) ?_
      refine rs_store (g := g55) (off := 0) (v := .agg #[.int .i64 (nthI (avF (nthI tl) (avA el tl mw md ms mt lc tx tz) (avB el tl mw md ms mt lc tx tz) m) (0 * 2)), .int .i64 (nthI (avF (nthI tl) (avA el tl mw md ms mt lc tx tz) (avB el tl mw md ms mt lc tx tz) m) (0 * 2 + 1))]) 1 (#[.int .i64 (nthI (avF (nthI tl) (avA el tl mw md ms mt lc tx tz) (avB el tl mw md ms mt lc tx tz) m) (0 * 2)), .int .i64 (nthI (avF (nthI tl) (avA el tl mw md ms mt lc tx tz) (avB el tl mw md ms mt lc tx tz) m) (0 * 2 + 1))]) A57 S58 (sub_skip (sub_skip sub_all)) sub_all (by kernel_rfl) (by kernel_rfl) rfl (by kernel_rfl) rfl rfl (fun wc S62 => ?_)
      have T64 := S62.sub (sub_skip (sub_skip sub_all)) sub_all
      refine r_1 (i := 9) (by kernel_rfl) ?_
      refine rs_store (g := g59) (off := 0) (v := .agg #[.int .i64 (nthI (avF (nthI tl) (avA el tl mw md ms mt lc tx tz) (avB el tl mw md ms mt lc tx tz) m) (0 * 2)), .int .i64 (nthI (avF (nthI tl) (avA el tl mw md ms mt lc tx tz) (avB el tl mw md ms mt lc tx tz) m) (0 * 2 + 1))]) 0 (#[.int .i64 (nthI (avF (nthI tl) (avA el tl mw md ms mt lc tx tz) (avB el tl mw md ms mt lc tx tz) m) (0 * 2)), .int .i64 (nthI (avF (nthI tl) (avA el tl mw md ms mt lc tx tz) (avB el tl mw md ms mt lc tx tz) m) (0 * 2 + 1))]) A57 S62 (sub_skip (sub_skip sub_all)) sub_all (by kernel_rfl) (by kernel_rfl) rfl (by kernel_rfl) rfl rfl (fun wc S66 => ?_)
      have T68 := S66.sub (sub_skip (sub_skip sub_all)) sub_all
      refine r_done (by kernel_rfl) ?_
      refine n_then ?_
      refine wp_seq ?_
      refine wp_seq ?_
      refine wp_region_lit ?_
      refine s_one (.slice (some ad47) (avN (nthI tl) m) cap21) A57 S66 (g_move (by kernel_rfl)) rfl (fun ac A69 => ?_)
      refine s_one (.int .i64 ((avN (nthI tl) m) : Int)) A69 S66 (g_built (r := [(0, .slice (some ad47) (avN (nthI tl) m) cap21)]) (by kernel_rfl) (fun _ _ _ => by kernel_rfl)) rfl (fun ac A70 => ?_)
      refine s_one (.int .i64 0) A70 S66 (g_move (by kernel_rfl)) rfl (fun ac A71 => ?_)
      refine wpList_nil ?_
      refine n_then ?_
      refine wp_block ?_
      refine c_loopN (fun mm ac wc => ∃ (j : Nat), mm = (avN (nthI tl) m) - j ∧ (j ≤ (avN (nthI tl) m)) ∧ Fr 75 ac [(0, .agg #[.slice EA n ecap, .int .i64 mw, .int .i64 md, .int .i64 ms, .int .i64 mt, .int .i64 ck, .int .i64 lc, .slice TA m tcap]), (1, .agg #[.int .i64 tx, .int .i64 tz]), (2, .pointer (some ⟨g3, 0, none⟩)), (3, .pointer (some ⟨g7, 0, none⟩)), (4, .pointer (some ⟨g11, 0, none⟩)), (5, .int .i64 0), (13, .agg #[.slice EA n ecap, .int .i64 mw, .int .i64 md, .int .i64 ms, .int .i64 mt, .int .i64 ck, .int .i64 lc, .slice TA m tcap]), (14, .agg #[.int .i64 tx, .int .i64 tz]), (15, .tuple #[.slice (some ad47) (avN (nthI tl) m) cap21, .int .i64 0]), (12, .tuple #[.slice (some ad47) (avN (nthI tl) m) cap21, .int .i64 0]), (16, .slice (some ad47) (avN (nthI tl) m) cap21), (17, .int .i64 0), (6, .slice (some ad47) (avN (nthI tl) m) cap21), (7, .int .i64 0), (19, .int .i64 0), (20, .bool (decide (0 ≠ 0))), (18, .bool (decide (0 ≠ 0))), (24, .slice (some ad47) (avN (nthI tl) m) cap21), (25, .int .i64 ((avN (nthI tl) m) : Int)), (26, .bool (decide (((avN (nthI tl) m) : Int) = 0))), (23, .bool (decide (((avN (nthI tl) m) : Int) = 0))), (28, .slice (some ad47) (avN (nthI tl) m) cap21), (29, .pointer (some (ad47.add (0 * 2)))), (30, .agg #[.int .i64 (nthI (avF (nthI tl) (avA el tl mw md ms mt lc tx tz) (avB el tl mw md ms mt lc tx tz) m) (0 * 2)), .int .i64 (nthI (avF (nthI tl) (avA el tl mw md ms mt lc tx tz) (avB el tl mw md ms mt lc tx tz) m) (0 * 2 + 1))]), (31, .slice (some ad47) (avN (nthI tl) m) cap21), (32, .pointer (some (ad47.add (0 * 2)))), (33, .agg #[.int .i64 (nthI (avF (nthI tl) (avA el tl mw md ms mt lc tx tz) (avB el tl mw md ms mt lc tx tz) m) (0 * 2)), .int .i64 (nthI (avF (nthI tl) (avA el tl mw md ms mt lc tx tz) (avB el tl mw md ms mt lc tx tz) m) (0 * 2 + 1))]), (8, .pointer (some ⟨g55, 0, none⟩)), (9, .pointer (some ⟨g59, 0, none⟩)), (34, .slice (some ad47) (avN (nthI tl) m) cap21), (35, .int .i64 ((avN (nthI tl) m) : Int)), (36, .int .i64 (j : Int))] ∧ St w0 [⟨g59, 40, #[.int .i64 (mxS (evens (avF (nthI tl) (avA el tl mw md ms mt lc tx tz) (avB el tl mw md ms mt lc tx tz) m)) j), .int .i64 (mnS (odds (avF (nthI tl) (avA el tl mw md ms mt lc tx tz) (avB el tl mw md ms mt lc tx tz) m)) j)], true⟩, ⟨g55, 40, #[.int .i64 (mnS (evens (avF (nthI tl) (avA el tl mw md ms mt lc tx tz) (avB el tl mw md ms mt lc tx tz) m)) j), .int .i64 (mxS (odds (avF (nthI tl) (avA el tl mw md ms mt lc tx tz) (avB el tl mw md ms mt lc tx tz) m)) j)], true⟩, ⟨g11, 40, #[.int .i64 0, .int .i64 0], true⟩, ⟨g7, 28, #[.int .i64 tx, .int .i64 tz], true⟩, ⟨g3, 56, #[.slice EA n ecap, .int .i64 mw, .int .i64 md, .int .i64 ms, .int .i64 mt, .int .i64 ck, .int .i64 lc, .slice TA m tcap], true⟩] [⟨.slice (some ad47) (avN (nthI tl) m) cap21, 40, 2, (avN (nthI tl) m), (rowI (avF (nthI tl) (avA el tl mw md ms mt lc tx tz) (avB el tl mw md ms mt lc tx tz) m))⟩] wc) _ ⟨0, rfl, by omega, (A71.slot (A71.slot (A71.slot (A71.slot (A71.slot (A71.slot (A71.slot (A71.slot (A71.slot (A71.slot (A71.slot (A71.slot (A71.slot (A71.slot (A71.slot (A71.slot (A71.slot (A71.slot (A71.slot (A71.slot (A71.slot (A71.slot (A71.slot (A71.slot (A71.slot (A71.slot (A71.slot (A71.slot (A71.slot (A71.slot (A71.slot (A71.slot A71.nil (v := .int .i64 0) (by kernel_rfl) (congrArg (Value.int .i64) (by omega))) (v := .int .i64 ((avN (nthI tl) m) : Int)) (by kernel_rfl) rfl) (v := .slice (some ad47) (avN (nthI tl) m) cap21) (by kernel_rfl) rfl) (v := .pointer (some ⟨g59, 0, none⟩)) (by kernel_rfl) rfl) (v := .pointer (some ⟨g55, 0, none⟩)) (by kernel_rfl) rfl) (v := .agg #[.int .i64 (nthI (avF (nthI tl) (avA el tl mw md ms mt lc tx tz) (avB el tl mw md ms mt lc tx tz) m) (0 * 2)), .int .i64 (nthI (avF (nthI tl) (avA el tl mw md ms mt lc tx tz) (avB el tl mw md ms mt lc tx tz) m) (0 * 2 + 1))]) (by kernel_rfl) rfl) (v := .pointer (some (ad47.add (0 * 2)))) (by kernel_rfl) rfl) (v := .slice (some ad47) (avN (nthI tl) m) cap21) (by kernel_rfl) rfl) (v := .agg #[.int .i64 (nthI (avF (nthI tl) (avA el tl mw md ms mt lc tx tz) (avB el tl mw md ms mt lc tx tz) m) (0 * 2)), .int .i64 (nthI (avF (nthI tl) (avA el tl mw md ms mt lc tx tz) (avB el tl mw md ms mt lc tx tz) m) (0 * 2 + 1))]) (by kernel_rfl) rfl) (v := .pointer (some (ad47.add (0 * 2)))) (by kernel_rfl) rfl) (v := .slice (some ad47) (avN (nthI tl) m) cap21) (by kernel_rfl) rfl) (v := .bool (decide (((avN (nthI tl) m) : Int) = 0))) (by kernel_rfl) rfl) (v := .bool (decide (((avN (nthI tl) m) : Int) = 0))) (by kernel_rfl) rfl) (v := .int .i64 ((avN (nthI tl) m) : Int)) (by kernel_rfl) rfl) (v := .slice (some ad47) (avN (nthI tl) m) cap21) (by kernel_rfl) rfl) (v := .bool (decide (0 ≠ 0))) (by kernel_rfl) rfl) (v := .bool (decide (0 ≠ 0))) (by kernel_rfl) rfl) (v := .int .i64 0) (by kernel_rfl) rfl) (v := .int .i64 0) (by kernel_rfl) rfl) (v := .slice (some ad47) (avN (nthI tl) m) cap21) (by kernel_rfl) rfl) (v := .int .i64 0) (by kernel_rfl) rfl) (v := .slice (some ad47) (avN (nthI tl) m) cap21) (by kernel_rfl) rfl) (v := .tuple #[.slice (some ad47) (avN (nthI tl) m) cap21, .int .i64 0]) (by kernel_rfl) rfl) (v := .tuple #[.slice (some ad47) (avN (nthI tl) m) cap21, .int .i64 0]) (by kernel_rfl) rfl) (v := .agg #[.int .i64 tx, .int .i64 tz]) (by kernel_rfl) rfl) (v := .agg #[.slice EA n ecap, .int .i64 mw, .int .i64 md, .int .i64 ms, .int .i64 mt, .int .i64 ck, .int .i64 lc, .slice TA m tcap]) (by kernel_rfl) rfl) (v := .int .i64 0) (by kernel_rfl) rfl) (v := .pointer (some ⟨g11, 0, none⟩)) (by kernel_rfl) rfl) (v := .pointer (some ⟨g7, 0, none⟩)) (by kernel_rfl) rfl) (v := .pointer (some ⟨g3, 0, none⟩)) (by kernel_rfl) rfl) (v := .agg #[.int .i64 tx, .int .i64 tz]) (by kernel_rfl) rfl) (v := .agg #[.slice EA n ecap, .int .i64 mw, .int .i64 md, .int .i64 ms, .int .i64 mt, .int .i64 ck, .int .i64 lc, .slice TA m tcap]) (by kernel_rfl) rfl), (St.recell 1 (St.recell 0 S66 rfl rfl) rfl rfl).sub sub_all sub_all⟩ ?_
      rintro mm ac wc ⟨j, hm74, hj, A72, S73⟩
      refine wp_seq ?_
      refine wp_region_lit ?_
      refine s_one (.bool (decide ((j : Int) < ((avN (nthI tl) m) : Int)))) A72 S73 (g_bin (u := .int .i64 (j : Int)) (k := .int .i64 ((avN (nthI tl) m) : Int)) (by kernel_rfl) (by kernel_rfl) (fun _ => by kernel_rfl) (fun _ => by kernel_rfl)) rfl (fun ac A75 => ?_)
      refine wpList_nil ?_
      refine n_then ?_
      refine wp_seq ?_
      refine c_ifb (b := (decide ((j : Int) < ((avN (nthI tl) m) : Int)))) A75 (by kernel_rfl) (fun h76 => ?_) (fun h76 => ?_)
      · have p77 := of_decide_eq_true h76
        refine wp_skip ?_
        refine n_then ?_
        refine wp_seq ?_
        refine wp_block ?_
        refine wp_seq ?_
        refine wp_region_lit ?_
        refine s_one (.pointer (some (ad47.add (j * 2)))) A75 S73 (g_index (u := .slice (some ad47) (avN (nthI tl) m) cap21) (k := .int .i64 (j : Int)) (by kernel_rfl) (by kernel_rfl) (ix_xs (e := 40) (bytes := 16) j (by kernel_rfl) (by omega) (by omega))) rfl (fun ac A78 => ?_)
        refine s_one (.agg #[.int .i64 (nthI (avF (nthI tl) (avA el tl mw md ms mt lc tx tz) (avB el tl mw md ms mt lc tx tz) m) (j * 2)), .int .i64 (nthI (avF (nthI tl) (avA el tl mw md ms mt lc tx tz) (avB el tl mw md ms mt lc tx tz) m) (j * 2 + 1))]) A78 S73 (g_loadRS (l := avF (nthI tl) (avA el tl mw md ms mt lc tx tz) (avB el tl mw md ms mt lc tx tz) m) (k := j * 2) 0 2 (by kernel_rfl) rfl (by have hlen := hl19; omega) (by kernel_rfl) (by kernel_rfl)) rfl (fun ac A79 => ?_)
        refine s_alloc (#[.int .i64 0, .int .i64 0]) A79 S73 (by kernel_rfl) rfl (fun g82 ac wc A80 S81 => ?_)
        refine s_store (g := g82) (off := 0) (v := .agg #[.int .i64 (nthI (avF (nthI tl) (avA el tl mw md ms mt lc tx tz) (avB el tl mw md ms mt lc tx tz) m) (j * 2)), .int .i64 (nthI (avF (nthI tl) (avA el tl mw md ms mt lc tx tz) (avB el tl mw md ms mt lc tx tz) m) (j * 2 + 1))]) 0 (#[.int .i64 (nthI (avF (nthI tl) (avA el tl mw md ms mt lc tx tz) (avB el tl mw md ms mt lc tx tz) m) (j * 2)), .int .i64 (nthI (avF (nthI tl) (avA el tl mw md ms mt lc tx tz) (avB el tl mw md ms mt lc tx tz) m) (j * 2 + 1))]) A80 S81 (by kernel_rfl) (by kernel_rfl) rfl (by kernel_rfl) (fun wc S84 => ?_)
        refine wpList_nil ?_
        refine n_then ?_
        refine wp_seq ?_
        refine wp_region_lit ?_
        refine s_one (.pointer (some ⟨g55, 0, none⟩)) A80 S84 (g_field (u := .pointer (some ⟨g55, 0, none⟩)) (by kernel_rfl) (fun _ => by kernel_rfl)) rfl (fun ac A86 => ?_)
        refine s_one (.int .i64 (mnS (evens (avF (nthI tl) (avA el tl mw md ms mt lc tx tz) (avB el tl mw md ms mt lc tx tz) m)) j)) A86 S84 (g_load (g := g55) (off := 0) 2 (by kernel_rfl) rfl (by kernel_rfl)) rfl (fun ac A87 => ?_)
        refine s_one (.pointer (some ⟨g82, 0, none⟩)) A87 S84 (g_field (u := .pointer (some ⟨g82, 0, none⟩)) (by kernel_rfl) (fun _ => by kernel_rfl)) rfl (fun ac A88 => ?_)
        refine s_one (.int .i64 (nthI (avF (nthI tl) (avA el tl mw md ms mt lc tx tz) (avB el tl mw md ms mt lc tx tz) m) (j * 2))) A88 S84 (g_load (g := g82) (off := 0) 0 (by kernel_rfl) rfl (by kernel_rfl)) rfl (fun ac A89 => ?_)
        refine s_one (.int .i64 (mn (mnS (evens (avF (nthI tl) (avA el tl mw md ms mt lc tx tz) (avB el tl mw md ms mt lc tx tz) m)) j) (nthI (avF (nthI tl) (avA el tl mw md ms mt lc tx tz) (avB el tl mw md ms mt lc tx tz) m) (j * 2)))) A89 S84 (g_built (r := [(0, .int .i64 (mnS (evens (avF (nthI tl) (avA el tl mw md ms mt lc tx tz) (avB el tl mw md ms mt lc tx tz) m)) j)), (0, .int .i64 (nthI (avF (nthI tl) (avA el tl mw md ms mt lc tx tz) (avB el tl mw md ms mt lc tx tz) m) (j * 2)))]) (by kernel_rfl) (fun ty cs w => by show (do let x ← Builtin.min_ _ ty #[.int .i64 (mnS (evens (avF (nthI tl) (avA el tl mw md ms mt lc tx tz) (avB el tl mw md ms mt lc tx tz) m)) j), .int .i64 (nthI (avF (nthI tl) (avA el tl mw md ms mt lc tx tz) (avB el tl mw md ms mt lc tx tz) m) (j * 2))]; pure (Next.value x) : Sem Next).run _ w = _; rw [Sem.run_bind, run_min_mn]; rfl)) rfl (fun ac A90 => ?_)
        refine s_one (.pointer (some ⟨g55, 1, none⟩)) A90 S84 (g_field (u := .pointer (some ⟨g55, 0, none⟩)) (by kernel_rfl) (fun _ => by kernel_rfl)) rfl (fun ac A91 => ?_)
        refine s_one (.int .i64 (mxS (odds (avF (nthI tl) (avA el tl mw md ms mt lc tx tz) (avB el tl mw md ms mt lc tx tz) m)) j)) A91 S84 (g_load (g := g55) (off := 1) 2 (by kernel_rfl) rfl (by kernel_rfl)) rfl (fun ac A92 => ?_)
        refine s_one (.pointer (some ⟨g82, 1, none⟩)) A92 S84 (g_field (u := .pointer (some ⟨g82, 0, none⟩)) (by kernel_rfl) (fun _ => by kernel_rfl)) rfl (fun ac A93 => ?_)
        refine s_one (.int .i64 (nthI (avF (nthI tl) (avA el tl mw md ms mt lc tx tz) (avB el tl mw md ms mt lc tx tz) m) (j * 2 + 1))) A93 S84 (g_load (g := g82) (off := 1) 0 (by kernel_rfl) rfl (by kernel_rfl)) rfl (fun ac A94 => ?_)
        refine s_one (.int .i64 (mx (mxS (odds (avF (nthI tl) (avA el tl mw md ms mt lc tx tz) (avB el tl mw md ms mt lc tx tz) m)) j) (nthI (avF (nthI tl) (avA el tl mw md ms mt lc tx tz) (avB el tl mw md ms mt lc tx tz) m) (j * 2 + 1)))) A94 S84 (g_built (r := [(0, .int .i64 (mxS (odds (avF (nthI tl) (avA el tl mw md ms mt lc tx tz) (avB el tl mw md ms mt lc tx tz) m)) j)), (0, .int .i64 (nthI (avF (nthI tl) (avA el tl mw md ms mt lc tx tz) (avB el tl mw md ms mt lc tx tz) m) (j * 2 + 1)))]) (by kernel_rfl) (fun ty cs w => by show (do let x ← Builtin.max_ _ ty #[.int .i64 (mxS (odds (avF (nthI tl) (avA el tl mw md ms mt lc tx tz) (avB el tl mw md ms mt lc tx tz) m)) j), .int .i64 (nthI (avF (nthI tl) (avA el tl mw md ms mt lc tx tz) (avB el tl mw md ms mt lc tx tz) m) (j * 2 + 1))]; pure (Next.value x) : Sem Next).run _ w = _; rw [Sem.run_bind, run_max_mx]; rfl)) rfl (fun ac A95 => ?_)
        refine s_one (.agg #[.int .i64 (mn (mnS (evens (avF (nthI tl) (avA el tl mw md ms mt lc tx tz) (avB el tl mw md ms mt lc tx tz) m)) j) (nthI (avF (nthI tl) (avA el tl mw md ms mt lc tx tz) (avB el tl mw md ms mt lc tx tz) m) (j * 2))), .int .i64 (mx (mxS (odds (avF (nthI tl) (avA el tl mw md ms mt lc tx tz) (avB el tl mw md ms mt lc tx tz) m)) j) (nthI (avF (nthI tl) (avA el tl mw md ms mt lc tx tz) (avB el tl mw md ms mt lc tx tz) m) (j * 2 + 1)))]) A95 S84 (g_build (r := [(0, .int .i64 (mn (mnS (evens (avF (nthI tl) (avA el tl mw md ms mt lc tx tz) (avB el tl mw md ms mt lc tx tz) m)) j) (nthI (avF (nthI tl) (avA el tl mw md ms mt lc tx tz) (avB el tl mw md ms mt lc tx tz) m) (j * 2)))), (1, .int .i64 (mx (mxS (odds (avF (nthI tl) (avA el tl mw md ms mt lc tx tz) (avB el tl mw md ms mt lc tx tz) m)) j) (nthI (avF (nthI tl) (avA el tl mw md ms mt lc tx tz) (avB el tl mw md ms mt lc tx tz) m) (j * 2 + 1))))]) (by kernel_rfl) (fun _ => by kernel_rfl)) rfl (fun ac A96 => ?_)
        refine s_store (g := g55) (off := 0) (v := .agg #[.int .i64 (mn (mnS (evens (avF (nthI tl) (avA el tl mw md ms mt lc tx tz) (avB el tl mw md ms mt lc tx tz) m)) j) (nthI (avF (nthI tl) (avA el tl mw md ms mt lc tx tz) (avB el tl mw md ms mt lc tx tz) m) (j * 2))), .int .i64 (mx (mxS (odds (avF (nthI tl) (avA el tl mw md ms mt lc tx tz) (avB el tl mw md ms mt lc tx tz) m)) j) (nthI (avF (nthI tl) (avA el tl mw md ms mt lc tx tz) (avB el tl mw md ms mt lc tx tz) m) (j * 2 + 1)))]) 2 (#[.int .i64 (mn (mnS (evens (avF (nthI tl) (avA el tl mw md ms mt lc tx tz) (avB el tl mw md ms mt lc tx tz) m)) j) (nthI (avF (nthI tl) (avA el tl mw md ms mt lc tx tz) (avB el tl mw md ms mt lc tx tz) m) (j * 2))), .int .i64 (mx (mxS (odds (avF (nthI tl) (avA el tl mw md ms mt lc tx tz) (avB el tl mw md ms mt lc tx tz) m)) j) (nthI (avF (nthI tl) (avA el tl mw md ms mt lc tx tz) (avB el tl mw md ms mt lc tx tz) m) (j * 2 + 1)))]) A96 S84 (by kernel_rfl) (by kernel_rfl) rfl (by kernel_rfl) (fun wc S98 => ?_)
        refine wpList_nil ?_
        refine n_then ?_
        refine wp_region_lit ?_
        refine s_one (.pointer (some ⟨g59, 0, none⟩)) A96 S98 (g_field (u := .pointer (some ⟨g59, 0, none⟩)) (by kernel_rfl) (fun _ => by kernel_rfl)) rfl (fun ac A100 => ?_)
        refine s_one (.int .i64 (mxS (evens (avF (nthI tl) (avA el tl mw md ms mt lc tx tz) (avB el tl mw md ms mt lc tx tz) m)) j)) A100 S98 (g_load (g := g59) (off := 0) 1 (by kernel_rfl) rfl (by kernel_rfl)) rfl (fun ac A101 => ?_)
        refine s_one (.pointer (some ⟨g82, 0, none⟩)) A101 S98 (g_field (u := .pointer (some ⟨g82, 0, none⟩)) (by kernel_rfl) (fun _ => by kernel_rfl)) rfl (fun ac A102 => ?_)
        refine s_one (.int .i64 (nthI (avF (nthI tl) (avA el tl mw md ms mt lc tx tz) (avB el tl mw md ms mt lc tx tz) m) (j * 2))) A102 S98 (g_load (g := g82) (off := 0) 0 (by kernel_rfl) rfl (by kernel_rfl)) rfl (fun ac A103 => ?_)
        refine s_one (.int .i64 (mx (mxS (evens (avF (nthI tl) (avA el tl mw md ms mt lc tx tz) (avB el tl mw md ms mt lc tx tz) m)) j) (nthI (avF (nthI tl) (avA el tl mw md ms mt lc tx tz) (avB el tl mw md ms mt lc tx tz) m) (j * 2)))) A103 S98 (g_built (r := [(0, .int .i64 (mxS (evens (avF (nthI tl) (avA el tl mw md ms mt lc tx tz) (avB el tl mw md ms mt lc tx tz) m)) j)), (0, .int .i64 (nthI (avF (nthI tl) (avA el tl mw md ms mt lc tx tz) (avB el tl mw md ms mt lc tx tz) m) (j * 2)))]) (by kernel_rfl) (fun ty cs w => by show (do let x ← Builtin.max_ _ ty #[.int .i64 (mxS (evens (avF (nthI tl) (avA el tl mw md ms mt lc tx tz) (avB el tl mw md ms mt lc tx tz) m)) j), .int .i64 (nthI (avF (nthI tl) (avA el tl mw md ms mt lc tx tz) (avB el tl mw md ms mt lc tx tz) m) (j * 2))]; pure (Next.value x) : Sem Next).run _ w = _; rw [Sem.run_bind, run_max_mx]; rfl)) rfl (fun ac A104 => ?_)
        refine s_one (.pointer (some ⟨g59, 1, none⟩)) A104 S98 (g_field (u := .pointer (some ⟨g59, 0, none⟩)) (by kernel_rfl) (fun _ => by kernel_rfl)) rfl (fun ac A105 => ?_)
        refine s_one (.int .i64 (mnS (odds (avF (nthI tl) (avA el tl mw md ms mt lc tx tz) (avB el tl mw md ms mt lc tx tz) m)) j)) A105 S98 (g_load (g := g59) (off := 1) 1 (by kernel_rfl) rfl (by kernel_rfl)) rfl (fun ac A106 => ?_)
        refine s_one (.pointer (some ⟨g82, 1, none⟩)) A106 S98 (g_field (u := .pointer (some ⟨g82, 0, none⟩)) (by kernel_rfl) (fun _ => by kernel_rfl)) rfl (fun ac A107 => ?_)
        refine s_one (.int .i64 (nthI (avF (nthI tl) (avA el tl mw md ms mt lc tx tz) (avB el tl mw md ms mt lc tx tz) m) (j * 2 + 1))) A107 S98 (g_load (g := g82) (off := 1) 0 (by kernel_rfl) rfl (by kernel_rfl)) rfl (fun ac A108 => ?_)
        refine s_one (.int .i64 (mn (mnS (odds (avF (nthI tl) (avA el tl mw md ms mt lc tx tz) (avB el tl mw md ms mt lc tx tz) m)) j) (nthI (avF (nthI tl) (avA el tl mw md ms mt lc tx tz) (avB el tl mw md ms mt lc tx tz) m) (j * 2 + 1)))) A108 S98 (g_built (r := [(0, .int .i64 (mnS (odds (avF (nthI tl) (avA el tl mw md ms mt lc tx tz) (avB el tl mw md ms mt lc tx tz) m)) j)), (0, .int .i64 (nthI (avF (nthI tl) (avA el tl mw md ms mt lc tx tz) (avB el tl mw md ms mt lc tx tz) m) (j * 2 + 1)))]) (by kernel_rfl) (fun ty cs w => by show (do let x ← Builtin.min_ _ ty #[.int .i64 (mnS (odds (avF (nthI tl) (avA el tl mw md ms mt lc tx tz) (avB el tl mw md ms mt lc tx tz) m)) j), .int .i64 (nthI (avF (nthI tl) (avA el tl mw md ms mt lc tx tz) (avB el tl mw md ms mt lc tx tz) m) (j * 2 + 1))]; pure (Next.value x) : Sem Next).run _ w = _; rw [Sem.run_bind, run_min_mn]; rfl)) rfl (fun ac A109 => ?_)
        refine s_one (.agg #[.int .i64 (mx (mxS (evens (avF (nthI tl) (avA el tl mw md ms mt lc tx tz) (avB el tl mw md ms mt lc tx tz) m)) j) (nthI (avF (nthI tl) (avA el tl mw md ms mt lc tx tz) (avB el tl mw md ms mt lc tx tz) m) (j * 2))), .int .i64 (mn (mnS (odds (avF (nthI tl) (avA el tl mw md ms mt lc tx tz) (avB el tl mw md ms mt lc tx tz) m)) j) (nthI (avF (nthI tl) (avA el tl mw md ms mt lc tx tz) (avB el tl mw md ms mt lc tx tz) m) (j * 2 + 1)))]) A109 S98 (g_build (r := [(0, .int .i64 (mx (mxS (evens (avF (nthI tl) (avA el tl mw md ms mt lc tx tz) (avB el tl mw md ms mt lc tx tz) m)) j) (nthI (avF (nthI tl) (avA el tl mw md ms mt lc tx tz) (avB el tl mw md ms mt lc tx tz) m) (j * 2)))), (1, .int .i64 (mn (mnS (odds (avF (nthI tl) (avA el tl mw md ms mt lc tx tz) (avB el tl mw md ms mt lc tx tz) m)) j) (nthI (avF (nthI tl) (avA el tl mw md ms mt lc tx tz) (avB el tl mw md ms mt lc tx tz) m) (j * 2 + 1))))]) (by kernel_rfl) (fun _ => by kernel_rfl)) rfl (fun ac A110 => ?_)
        refine s_store (g := g59) (off := 0) (v := .agg #[.int .i64 (mx (mxS (evens (avF (nthI tl) (avA el tl mw md ms mt lc tx tz) (avB el tl mw md ms mt lc tx tz) m)) j) (nthI (avF (nthI tl) (avA el tl mw md ms mt lc tx tz) (avB el tl mw md ms mt lc tx tz) m) (j * 2))), .int .i64 (mn (mnS (odds (avF (nthI tl) (avA el tl mw md ms mt lc tx tz) (avB el tl mw md ms mt lc tx tz) m)) j) (nthI (avF (nthI tl) (avA el tl mw md ms mt lc tx tz) (avB el tl mw md ms mt lc tx tz) m) (j * 2 + 1)))]) 1 (#[.int .i64 (mx (mxS (evens (avF (nthI tl) (avA el tl mw md ms mt lc tx tz) (avB el tl mw md ms mt lc tx tz) m)) j) (nthI (avF (nthI tl) (avA el tl mw md ms mt lc tx tz) (avB el tl mw md ms mt lc tx tz) m) (j * 2))), .int .i64 (mn (mnS (odds (avF (nthI tl) (avA el tl mw md ms mt lc tx tz) (avB el tl mw md ms mt lc tx tz) m)) j) (nthI (avF (nthI tl) (avA el tl mw md ms mt lc tx tz) (avB el tl mw md ms mt lc tx tz) m) (j * 2 + 1)))]) A110 S98 (by kernel_rfl) (by kernel_rfl) rfl (by kernel_rfl) (fun wc S112 => ?_)
        refine wpList_nil ?_
        refine n_block ?_
        refine n_then ?_
        refine wp_region_lit ?_
        refine s_one (.int .i64 ((j : Int) + 1)) A110 S112 (g_bin (u := .int .i64 (j : Int)) (k := .int .i64 1) (by kernel_rfl) (by kernel_rfl) (fun _ => by kernel_rfl) (b_add (by omega))) rfl (fun ac A114 => ?_)
        refine s_one (.int .i64 ((j : Int) + 1)) A114 S112 (g_move (by kernel_rfl)) rfl (fun ac A115 => ?_)
        refine wpList_nil ?_
        refine n_then ?_
        refine ⟨_, ⟨j + 1, rfl, by omega, (A115.slot (A115.slot (A115.slot (A115.slot (A115.slot (A115.slot (A115.slot (A115.slot (A115.slot (A115.slot (A115.slot (A115.slot (A115.slot (A115.slot (A115.slot (A115.slot (A115.slot (A115.slot (A115.slot (A115.slot (A115.slot (A115.slot (A115.slot (A115.slot (A115.slot (A115.slot (A115.slot (A115.slot (A115.slot (A115.slot (A115.slot (A115.slot A115.nil (v := .int .i64 ((j : Int) + 1)) (by kernel_rfl) (congrArg (Value.int .i64) (by omega))) (v := .int .i64 ((avN (nthI tl) m) : Int)) (by kernel_rfl) rfl) (v := .slice (some ad47) (avN (nthI tl) m) cap21) (by kernel_rfl) rfl) (v := .pointer (some ⟨g59, 0, none⟩)) (by kernel_rfl) rfl) (v := .pointer (some ⟨g55, 0, none⟩)) (by kernel_rfl) rfl) (v := .agg #[.int .i64 (nthI (avF (nthI tl) (avA el tl mw md ms mt lc tx tz) (avB el tl mw md ms mt lc tx tz) m) (0 * 2)), .int .i64 (nthI (avF (nthI tl) (avA el tl mw md ms mt lc tx tz) (avB el tl mw md ms mt lc tx tz) m) (0 * 2 + 1))]) (by kernel_rfl) rfl) (v := .pointer (some (ad47.add (0 * 2)))) (by kernel_rfl) rfl) (v := .slice (some ad47) (avN (nthI tl) m) cap21) (by kernel_rfl) rfl) (v := .agg #[.int .i64 (nthI (avF (nthI tl) (avA el tl mw md ms mt lc tx tz) (avB el tl mw md ms mt lc tx tz) m) (0 * 2)), .int .i64 (nthI (avF (nthI tl) (avA el tl mw md ms mt lc tx tz) (avB el tl mw md ms mt lc tx tz) m) (0 * 2 + 1))]) (by kernel_rfl) rfl) (v := .pointer (some (ad47.add (0 * 2)))) (by kernel_rfl) rfl) (v := .slice (some ad47) (avN (nthI tl) m) cap21) (by kernel_rfl) rfl) (v := .bool (decide (((avN (nthI tl) m) : Int) = 0))) (by kernel_rfl) rfl) (v := .bool (decide (((avN (nthI tl) m) : Int) = 0))) (by kernel_rfl) rfl) (v := .int .i64 ((avN (nthI tl) m) : Int)) (by kernel_rfl) rfl) (v := .slice (some ad47) (avN (nthI tl) m) cap21) (by kernel_rfl) rfl) (v := .bool (decide (0 ≠ 0))) (by kernel_rfl) rfl) (v := .bool (decide (0 ≠ 0))) (by kernel_rfl) rfl) (v := .int .i64 0) (by kernel_rfl) rfl) (v := .int .i64 0) (by kernel_rfl) rfl) (v := .slice (some ad47) (avN (nthI tl) m) cap21) (by kernel_rfl) rfl) (v := .int .i64 0) (by kernel_rfl) rfl) (v := .slice (some ad47) (avN (nthI tl) m) cap21) (by kernel_rfl) rfl) (v := .tuple #[.slice (some ad47) (avN (nthI tl) m) cap21, .int .i64 0]) (by kernel_rfl) rfl) (v := .tuple #[.slice (some ad47) (avN (nthI tl) m) cap21, .int .i64 0]) (by kernel_rfl) rfl) (v := .agg #[.int .i64 tx, .int .i64 tz]) (by kernel_rfl) rfl) (v := .agg #[.slice EA n ecap, .int .i64 mw, .int .i64 md, .int .i64 ms, .int .i64 mt, .int .i64 ck, .int .i64 lc, .slice TA m tcap]) (by kernel_rfl) rfl) (v := .int .i64 0) (by kernel_rfl) rfl) (v := .pointer (some ⟨g11, 0, none⟩)) (by kernel_rfl) rfl) (v := .pointer (some ⟨g7, 0, none⟩)) (by kernel_rfl) rfl) (v := .pointer (some ⟨g3, 0, none⟩)) (by kernel_rfl) rfl) (v := .agg #[.int .i64 tx, .int .i64 tz]) (by kernel_rfl) rfl) (v := .agg #[.slice EA n ecap, .int .i64 mw, .int .i64 md, .int .i64 ms, .int .i64 mt, .int .i64 ck, .int .i64 lc, .slice TA m tcap]) (by kernel_rfl) rfl), (St.recell 2 (St.recell 1 S112 rfl rfl) rfl rfl).sub (sub_skip sub_all) sub_all⟩, ?_⟩
        omega
      · have p116 := of_decide_eq_false h76
        refine wp_exit ?_
        refine x_then ?_
        refine x_then ?_
        refine x_hit ?_
        refine n_then ?_
        refine wp_seq ?_
        have hje : j = (avN (nthI tl) m) := by omega
        have SJ13 := S73
        rw [hje] at SJ13
        refine wp_region_lit ?_
        refine s_one (.pointer (some ⟨g59, 0, none⟩)) A75 SJ13 (g_field (u := .pointer (some ⟨g59, 0, none⟩)) (by kernel_rfl) (fun _ => by kernel_rfl)) rfl (fun ac A117 => ?_)
        refine s_one (.int .i64 (mxS (evens (avF (nthI tl) (avA el tl mw md ms mt lc tx tz) (avB el tl mw md ms mt lc tx tz) m)) (avN (nthI tl) m))) A117 SJ13 (g_load (g := g59) (off := 0) 0 (by kernel_rfl) rfl (by kernel_rfl)) rfl (fun ac A118 => ?_)
        refine s_one (.pointer (some ⟨g59, 1, none⟩)) A118 SJ13 (g_field (u := .pointer (some ⟨g59, 0, none⟩)) (by kernel_rfl) (fun _ => by kernel_rfl)) rfl (fun ac A119 => ?_)
        refine s_one (.int .i64 (mnS (odds (avF (nthI tl) (avA el tl mw md ms mt lc tx tz) (avB el tl mw md ms mt lc tx tz) m)) (avN (nthI tl) m))) A119 SJ13 (g_load (g := g59) (off := 1) 0 (by kernel_rfl) rfl (by kernel_rfl)) rfl (fun ac A120 => ?_)
        refine s_one (.int .i64 (mxS (evens (avF (nthI tl) (avA el tl mw md ms mt lc tx tz) (avB el tl mw md ms mt lc tx tz) m)) (avN (nthI tl) m) - (mnS (odds (avF (nthI tl) (avA el tl mw md ms mt lc tx tz) (avB el tl mw md ms mt lc tx tz) m)) (avN (nthI tl) m)))) A120 SJ13 (g_bin (u := .int .i64 (mxS (evens (avF (nthI tl) (avA el tl mw md ms mt lc tx tz) (avB el tl mw md ms mt lc tx tz) m)) (avN (nthI tl) m))) (k := .int .i64 (mnS (odds (avF (nthI tl) (avA el tl mw md ms mt lc tx tz) (avB el tl mw md ms mt lc tx tz) m)) (avN (nthI tl) m))) (by kernel_rfl) (by kernel_rfl) (fun _ => by kernel_rfl) (b_sub (by omega))) rfl (fun ac A121 => ?_)
        refine s_one (.int .i64 (mx 0 (mxS (evens (avF (nthI tl) (avA el tl mw md ms mt lc tx tz) (avB el tl mw md ms mt lc tx tz) m)) (avN (nthI tl) m) - (mnS (odds (avF (nthI tl) (avA el tl mw md ms mt lc tx tz) (avB el tl mw md ms mt lc tx tz) m)) (avN (nthI tl) m))))) A121 SJ13 (g_built (r := [(0, .int .i64 0), (0, .int .i64 (mxS (evens (avF (nthI tl) (avA el tl mw md ms mt lc tx tz) (avB el tl mw md ms mt lc tx tz) m)) (avN (nthI tl) m) - (mnS (odds (avF (nthI tl) (avA el tl mw md ms mt lc tx tz) (avB el tl mw md ms mt lc tx tz) m)) (avN (nthI tl) m))))]) (by kernel_rfl) (fun ty cs w => by show (do let x ← Builtin.max_ _ ty #[.int .i64 0, .int .i64 (mxS (evens (avF (nthI tl) (avA el tl mw md ms mt lc tx tz) (avB el tl mw md ms mt lc tx tz) m)) (avN (nthI tl) m) - (mnS (odds (avF (nthI tl) (avA el tl mw md ms mt lc tx tz) (avB el tl mw md ms mt lc tx tz) m)) (avN (nthI tl) m)))]; pure (Next.value x) : Sem Next).run _ w = _; rw [Sem.run_bind, run_max_mx]; rfl)) rfl (fun ac A122 => ?_)
        refine s_one (.pointer (some ⟨g55, 1, none⟩)) A122 SJ13 (g_field (u := .pointer (some ⟨g55, 0, none⟩)) (by kernel_rfl) (fun _ => by kernel_rfl)) rfl (fun ac A123 => ?_)
        refine s_one (.int .i64 (mxS (odds (avF (nthI tl) (avA el tl mw md ms mt lc tx tz) (avB el tl mw md ms mt lc tx tz) m)) (avN (nthI tl) m))) A123 SJ13 (g_load (g := g55) (off := 1) 1 (by kernel_rfl) rfl (by kernel_rfl)) rfl (fun ac A124 => ?_)
        refine s_one (.pointer (some ⟨g55, 0, none⟩)) A124 SJ13 (g_field (u := .pointer (some ⟨g55, 0, none⟩)) (by kernel_rfl) (fun _ => by kernel_rfl)) rfl (fun ac A125 => ?_)
        refine s_one (.int .i64 (mnS (evens (avF (nthI tl) (avA el tl mw md ms mt lc tx tz) (avB el tl mw md ms mt lc tx tz) m)) (avN (nthI tl) m))) A125 SJ13 (g_load (g := g55) (off := 0) 1 (by kernel_rfl) rfl (by kernel_rfl)) rfl (fun ac A126 => ?_)
        refine s_one (.int .i64 (mxS (odds (avF (nthI tl) (avA el tl mw md ms mt lc tx tz) (avB el tl mw md ms mt lc tx tz) m)) (avN (nthI tl) m) - (mnS (evens (avF (nthI tl) (avA el tl mw md ms mt lc tx tz) (avB el tl mw md ms mt lc tx tz) m)) (avN (nthI tl) m)))) A126 SJ13 (g_bin (u := .int .i64 (mxS (odds (avF (nthI tl) (avA el tl mw md ms mt lc tx tz) (avB el tl mw md ms mt lc tx tz) m)) (avN (nthI tl) m))) (k := .int .i64 (mnS (evens (avF (nthI tl) (avA el tl mw md ms mt lc tx tz) (avB el tl mw md ms mt lc tx tz) m)) (avN (nthI tl) m))) (by kernel_rfl) (by kernel_rfl) (fun _ => by kernel_rfl) (b_sub (by omega))) rfl (fun ac A127 => ?_)
        refine s_one (.agg #[.int .i64 (mx 0 (mxS (evens (avF (nthI tl) (avA el tl mw md ms mt lc tx tz) (avB el tl mw md ms mt lc tx tz) m)) (avN (nthI tl) m) - (mnS (odds (avF (nthI tl) (avA el tl mw md ms mt lc tx tz) (avB el tl mw md ms mt lc tx tz) m)) (avN (nthI tl) m)))), .int .i64 (mxS (odds (avF (nthI tl) (avA el tl mw md ms mt lc tx tz) (avB el tl mw md ms mt lc tx tz) m)) (avN (nthI tl) m) - (mnS (evens (avF (nthI tl) (avA el tl mw md ms mt lc tx tz) (avB el tl mw md ms mt lc tx tz) m)) (avN (nthI tl) m)))]) A127 SJ13 (g_build (r := [(0, .int .i64 (mx 0 (mxS (evens (avF (nthI tl) (avA el tl mw md ms mt lc tx tz) (avB el tl mw md ms mt lc tx tz) m)) (avN (nthI tl) m) - (mnS (odds (avF (nthI tl) (avA el tl mw md ms mt lc tx tz) (avB el tl mw md ms mt lc tx tz) m)) (avN (nthI tl) m))))), (1, .int .i64 (mxS (odds (avF (nthI tl) (avA el tl mw md ms mt lc tx tz) (avB el tl mw md ms mt lc tx tz) m)) (avN (nthI tl) m) - (mnS (evens (avF (nthI tl) (avA el tl mw md ms mt lc tx tz) (avB el tl mw md ms mt lc tx tz) m)) (avN (nthI tl) m))))]) (by kernel_rfl) (fun _ => by kernel_rfl)) rfl (fun ac A128 => ?_)
        refine s_store (g := g11) (off := 0) (v := .agg #[.int .i64 (mx 0 (mxS (evens (avF (nthI tl) (avA el tl mw md ms mt lc tx tz) (avB el tl mw md ms mt lc tx tz) m)) (avN (nthI tl) m) - (mnS (odds (avF (nthI tl) (avA el tl mw md ms mt lc tx tz) (avB el tl mw md ms mt lc tx tz) m)) (avN (nthI tl) m)))), .int .i64 (mxS (odds (avF (nthI tl) (avA el tl mw md ms mt lc tx tz) (avB el tl mw md ms mt lc tx tz) m)) (avN (nthI tl) m) - (mnS (evens (avF (nthI tl) (avA el tl mw md ms mt lc tx tz) (avB el tl mw md ms mt lc tx tz) m)) (avN (nthI tl) m)))]) 2 (#[.int .i64 (mx 0 (mxS (evens (avF (nthI tl) (avA el tl mw md ms mt lc tx tz) (avB el tl mw md ms mt lc tx tz) m)) (avN (nthI tl) m) - (mnS (odds (avF (nthI tl) (avA el tl mw md ms mt lc tx tz) (avB el tl mw md ms mt lc tx tz) m)) (avN (nthI tl) m)))), .int .i64 (mxS (odds (avF (nthI tl) (avA el tl mw md ms mt lc tx tz) (avB el tl mw md ms mt lc tx tz) m)) (avN (nthI tl) m) - (mnS (evens (avF (nthI tl) (avA el tl mw md ms mt lc tx tz) (avB el tl mw md ms mt lc tx tz) m)) (avN (nthI tl) m)))]) A128 SJ13 (by kernel_rfl) (by kernel_rfl) rfl (by kernel_rfl) (fun wc S130 => ?_)
        refine s_one (.int .i64 0) A128 S130 (g_assign (by kernel_rfl)) rfl (fun ac A132 => ?_)
        refine wpList_nil ?_
        refine n_then ?_
        refine wp_ret ?_
        refine fin2 (.agg #[.int .i64 (mx 0 (mxS (evens (avF (nthI tl) (avA el tl mw md ms mt lc tx tz) (avB el tl mw md ms mt lc tx tz) m)) (avN (nthI tl) m) - (mnS (odds (avF (nthI tl) (avA el tl mw md ms mt lc tx tz) (avB el tl mw md ms mt lc tx tz) m)) (avN (nthI tl) m)))), .int .i64 (mxS (odds (avF (nthI tl) (avA el tl mw md ms mt lc tx tz) (avB el tl mw md ms mt lc tx tz) m)) (avN (nthI tl) m) - (mnS (evens (avF (nthI tl) (avA el tl mw md ms mt lc tx tz) (avB el tl mw md ms mt lc tx tz) m)) (avN (nthI tl) m)))]) (.int .i64 0) Try.results20 A132 S130 (rv_cell (g := g11) (off := 0) 2 (by kernel_rfl) rfl (by kernel_rfl)) (rv_tmp (by kernel_rfl)) ⟨?_, S130.kp⟩
        rw [zv_0 e1, zv_0 e1, e1]
        rfl
    · refine rs_alloc (#[.int .i64 0, .int .i64 0]) A52 S45 sub_all sub_all (by kernel_rfl) rfl rfl rfl (fun g135 ac wc A133 S134 => ?_)
      have T136 := S134.sub (sub_skip sub_all) sub_all
      refine r_1 (i := 6) (by kernel_rfl) ?_
      refine rs_alloc (#[.int .i64 0, .int .i64 0]) A133 S134 (sub_skip sub_all) sub_all (by kernel_rfl) rfl rfl rfl (fun g139 ac wc A137 S138 => ?_)
      have T140 := S138.sub (sub_skip (sub_skip sub_all)) sub_all
      refine r_1 (i := 8) (by kernel_rfl) ?_
      refine rs_store (g := g139) (off := 0) (v := .agg #[.int .i64 (nthI (avF (nthI tl) (avA el tl mw md ms mt lc tx tz) (avB el tl mw md ms mt lc tx tz) m) (0 * 2)), .int .i64 (nthI (avF (nthI tl) (avA el tl mw md ms mt lc tx tz) (avB el tl mw md ms mt lc tx tz) m) (0 * 2 + 1))]) 0 (#[.int .i64 (nthI (avF (nthI tl) (avA el tl mw md ms mt lc tx tz) (avB el tl mw md ms mt lc tx tz) m) (0 * 2)), .int .i64 (nthI (avF (nthI tl) (avA el tl mw md ms mt lc tx tz) (avB el tl mw md ms mt lc tx tz) m) (0 * 2 + 1))]) A137 S138 (sub_skip (sub_skip sub_all)) sub_all (by kernel_rfl) (by kernel_rfl) rfl (by kernel_rfl) rfl rfl (fun wc S142 => ?_)
      have T144 := S142.sub (sub_skip (sub_skip sub_all)) sub_all
      refine r_1 (i := 9) (by kernel_rfl) ?_
      refine rs_store (g := g135) (off := 0) (v := .agg #[.int .i64 (nthI (avF (nthI tl) (avA el tl mw md ms mt lc tx tz) (avB el tl mw md ms mt lc tx tz) m) (0 * 2)), .int .i64 (nthI (avF (nthI tl) (avA el tl mw md ms mt lc tx tz) (avB el tl mw md ms mt lc tx tz) m) (0 * 2 + 1))]) 1 (#[.int .i64 (nthI (avF (nthI tl) (avA el tl mw md ms mt lc tx tz) (avB el tl mw md ms mt lc tx tz) m) (0 * 2)), .int .i64 (nthI (avF (nthI tl) (avA el tl mw md ms mt lc tx tz) (avB el tl mw md ms mt lc tx tz) m) (0 * 2 + 1))]) A137 S142 (sub_skip (sub_skip sub_all)) sub_all (by kernel_rfl) (by kernel_rfl) rfl (by kernel_rfl) rfl rfl (fun wc S146 => ?_)
      have T148 := S146.sub (sub_skip (sub_skip sub_all)) sub_all
      refine r_done (by kernel_rfl) ?_
      refine n_then ?_
      refine wp_seq ?_
      refine wp_seq ?_
      refine wp_region_lit ?_
      refine s_one (.slice (some ad47) (avN (nthI tl) m) cap21) A137 S146 (g_move (by kernel_rfl)) rfl (fun ac A149 => ?_)
      refine s_one (.int .i64 ((avN (nthI tl) m) : Int)) A149 S146 (g_built (r := [(0, .slice (some ad47) (avN (nthI tl) m) cap21)]) (by kernel_rfl) (fun _ _ _ => by kernel_rfl)) rfl (fun ac A150 => ?_)
      refine s_one (.int .i64 0) A150 S146 (g_move (by kernel_rfl)) rfl (fun ac A151 => ?_)
      refine wpList_nil ?_
      refine n_then ?_
      refine wp_block ?_
      refine c_loopN (fun mm ac wc => ∃ (j : Nat), mm = (avN (nthI tl) m) - j ∧ (j ≤ (avN (nthI tl) m)) ∧ Fr 75 ac [(0, .agg #[.slice EA n ecap, .int .i64 mw, .int .i64 md, .int .i64 ms, .int .i64 mt, .int .i64 ck, .int .i64 lc, .slice TA m tcap]), (1, .agg #[.int .i64 tx, .int .i64 tz]), (2, .pointer (some ⟨g3, 0, none⟩)), (3, .pointer (some ⟨g7, 0, none⟩)), (4, .pointer (some ⟨g11, 0, none⟩)), (5, .int .i64 0), (13, .agg #[.slice EA n ecap, .int .i64 mw, .int .i64 md, .int .i64 ms, .int .i64 mt, .int .i64 ck, .int .i64 lc, .slice TA m tcap]), (14, .agg #[.int .i64 tx, .int .i64 tz]), (15, .tuple #[.slice (some ad47) (avN (nthI tl) m) cap21, .int .i64 0]), (12, .tuple #[.slice (some ad47) (avN (nthI tl) m) cap21, .int .i64 0]), (16, .slice (some ad47) (avN (nthI tl) m) cap21), (17, .int .i64 0), (6, .slice (some ad47) (avN (nthI tl) m) cap21), (7, .int .i64 0), (19, .int .i64 0), (20, .bool (decide (0 ≠ 0))), (18, .bool (decide (0 ≠ 0))), (24, .slice (some ad47) (avN (nthI tl) m) cap21), (25, .int .i64 ((avN (nthI tl) m) : Int)), (26, .bool (decide (((avN (nthI tl) m) : Int) = 0))), (23, .bool (decide (((avN (nthI tl) m) : Int) = 0))), (28, .slice (some ad47) (avN (nthI tl) m) cap21), (29, .pointer (some (ad47.add (0 * 2)))), (30, .agg #[.int .i64 (nthI (avF (nthI tl) (avA el tl mw md ms mt lc tx tz) (avB el tl mw md ms mt lc tx tz) m) (0 * 2)), .int .i64 (nthI (avF (nthI tl) (avA el tl mw md ms mt lc tx tz) (avB el tl mw md ms mt lc tx tz) m) (0 * 2 + 1))]), (31, .slice (some ad47) (avN (nthI tl) m) cap21), (32, .pointer (some (ad47.add (0 * 2)))), (33, .agg #[.int .i64 (nthI (avF (nthI tl) (avA el tl mw md ms mt lc tx tz) (avB el tl mw md ms mt lc tx tz) m) (0 * 2)), .int .i64 (nthI (avF (nthI tl) (avA el tl mw md ms mt lc tx tz) (avB el tl mw md ms mt lc tx tz) m) (0 * 2 + 1))]), (9, .pointer (some ⟨g135, 0, none⟩)), (8, .pointer (some ⟨g139, 0, none⟩)), (34, .slice (some ad47) (avN (nthI tl) m) cap21), (35, .int .i64 ((avN (nthI tl) m) : Int)), (36, .int .i64 (j : Int))] ∧ St w0 [⟨g139, 40, #[.int .i64 (mnS (evens (avF (nthI tl) (avA el tl mw md ms mt lc tx tz) (avB el tl mw md ms mt lc tx tz) m)) j), .int .i64 (mxS (odds (avF (nthI tl) (avA el tl mw md ms mt lc tx tz) (avB el tl mw md ms mt lc tx tz) m)) j)], true⟩, ⟨g135, 40, #[.int .i64 (mxS (evens (avF (nthI tl) (avA el tl mw md ms mt lc tx tz) (avB el tl mw md ms mt lc tx tz) m)) j), .int .i64 (mnS (odds (avF (nthI tl) (avA el tl mw md ms mt lc tx tz) (avB el tl mw md ms mt lc tx tz) m)) j)], true⟩, ⟨g11, 40, #[.int .i64 0, .int .i64 0], true⟩, ⟨g7, 28, #[.int .i64 tx, .int .i64 tz], true⟩, ⟨g3, 56, #[.slice EA n ecap, .int .i64 mw, .int .i64 md, .int .i64 ms, .int .i64 mt, .int .i64 ck, .int .i64 lc, .slice TA m tcap], true⟩] [⟨.slice (some ad47) (avN (nthI tl) m) cap21, 40, 2, (avN (nthI tl) m), (rowI (avF (nthI tl) (avA el tl mw md ms mt lc tx tz) (avB el tl mw md ms mt lc tx tz) m))⟩] wc) _ ⟨0, rfl, by omega, (A151.slot (A151.slot (A151.slot (A151.slot (A151.slot (A151.slot (A151.slot (A151.slot (A151.slot (A151.slot (A151.slot (A151.slot (A151.slot (A151.slot (A151.slot (A151.slot (A151.slot (A151.slot (A151.slot (A151.slot (A151.slot (A151.slot (A151.slot (A151.slot (A151.slot (A151.slot (A151.slot (A151.slot (A151.slot (A151.slot (A151.slot (A151.slot A151.nil (v := .int .i64 0) (by kernel_rfl) (congrArg (Value.int .i64) (by omega))) (v := .int .i64 ((avN (nthI tl) m) : Int)) (by kernel_rfl) rfl) (v := .slice (some ad47) (avN (nthI tl) m) cap21) (by kernel_rfl) rfl) (v := .pointer (some ⟨g139, 0, none⟩)) (by kernel_rfl) rfl) (v := .pointer (some ⟨g135, 0, none⟩)) (by kernel_rfl) rfl) (v := .agg #[.int .i64 (nthI (avF (nthI tl) (avA el tl mw md ms mt lc tx tz) (avB el tl mw md ms mt lc tx tz) m) (0 * 2)), .int .i64 (nthI (avF (nthI tl) (avA el tl mw md ms mt lc tx tz) (avB el tl mw md ms mt lc tx tz) m) (0 * 2 + 1))]) (by kernel_rfl) rfl) (v := .pointer (some (ad47.add (0 * 2)))) (by kernel_rfl) rfl) (v := .slice (some ad47) (avN (nthI tl) m) cap21) (by kernel_rfl) rfl) (v := .agg #[.int .i64 (nthI (avF (nthI tl) (avA el tl mw md ms mt lc tx tz) (avB el tl mw md ms mt lc tx tz) m) (0 * 2)), .int .i64 (nthI (avF (nthI tl) (avA el tl mw md ms mt lc tx tz) (avB el tl mw md ms mt lc tx tz) m) (0 * 2 + 1))]) (by kernel_rfl) rfl) (v := .pointer (some (ad47.add (0 * 2)))) (by kernel_rfl) rfl) (v := .slice (some ad47) (avN (nthI tl) m) cap21) (by kernel_rfl) rfl) (v := .bool (decide (((avN (nthI tl) m) : Int) = 0))) (by kernel_rfl) rfl) (v := .bool (decide (((avN (nthI tl) m) : Int) = 0))) (by kernel_rfl) rfl) (v := .int .i64 ((avN (nthI tl) m) : Int)) (by kernel_rfl) rfl) (v := .slice (some ad47) (avN (nthI tl) m) cap21) (by kernel_rfl) rfl) (v := .bool (decide (0 ≠ 0))) (by kernel_rfl) rfl) (v := .bool (decide (0 ≠ 0))) (by kernel_rfl) rfl) (v := .int .i64 0) (by kernel_rfl) rfl) (v := .int .i64 0) (by kernel_rfl) rfl) (v := .slice (some ad47) (avN (nthI tl) m) cap21) (by kernel_rfl) rfl) (v := .int .i64 0) (by kernel_rfl) rfl) (v := .slice (some ad47) (avN (nthI tl) m) cap21) (by kernel_rfl) rfl) (v := .tuple #[.slice (some ad47) (avN (nthI tl) m) cap21, .int .i64 0]) (by kernel_rfl) rfl) (v := .tuple #[.slice (some ad47) (avN (nthI tl) m) cap21, .int .i64 0]) (by kernel_rfl) rfl) (v := .agg #[.int .i64 tx, .int .i64 tz]) (by kernel_rfl) rfl) (v := .agg #[.slice EA n ecap, .int .i64 mw, .int .i64 md, .int .i64 ms, .int .i64 mt, .int .i64 ck, .int .i64 lc, .slice TA m tcap]) (by kernel_rfl) rfl) (v := .int .i64 0) (by kernel_rfl) rfl) (v := .pointer (some ⟨g11, 0, none⟩)) (by kernel_rfl) rfl) (v := .pointer (some ⟨g7, 0, none⟩)) (by kernel_rfl) rfl) (v := .pointer (some ⟨g3, 0, none⟩)) (by kernel_rfl) rfl) (v := .agg #[.int .i64 tx, .int .i64 tz]) (by kernel_rfl) rfl) (v := .agg #[.slice EA n ecap, .int .i64 mw, .int .i64 md, .int .i64 ms, .int .i64 mt, .int .i64 ck, .int .i64 lc, .slice TA m tcap]) (by kernel_rfl) rfl), (St.recell 1 (St.recell 0 S146 rfl rfl) rfl rfl).sub sub_all sub_all⟩ ?_
      rintro mm ac wc ⟨j, hm154, hj, A152, S153⟩
      refine wp_seq ?_
      refine wp_region_lit ?_
      refine s_one (.bool (decide ((j : Int) < ((avN (nthI tl) m) : Int)))) A152 S153 (g_bin (u := .int .i64 (j : Int)) (k := .int .i64 ((avN (nthI tl) m) : Int)) (by kernel_rfl) (by kernel_rfl) (fun _ => by kernel_rfl) (fun _ => by kernel_rfl)) rfl (fun ac A155 => ?_)
      refine wpList_nil ?_
      refine n_then ?_
      refine wp_seq ?_
      refine c_ifb (b := (decide ((j : Int) < ((avN (nthI tl) m) : Int)))) A155 (by kernel_rfl) (fun h156 => ?_) (fun h156 => ?_)
      · have p157 := of_decide_eq_true h156
        refine wp_skip ?_
        refine n_then ?_
        refine wp_seq ?_
        refine wp_block ?_
        refine wp_seq ?_
        refine wp_region_lit ?_
        refine s_one (.pointer (some (ad47.add (j * 2)))) A155 S153 (g_index (u := .slice (some ad47) (avN (nthI tl) m) cap21) (k := .int .i64 (j : Int)) (by kernel_rfl) (by kernel_rfl) (ix_xs (e := 40) (bytes := 16) j (by kernel_rfl) (by omega) (by omega))) rfl (fun ac A158 => ?_)
        refine s_one (.agg #[.int .i64 (nthI (avF (nthI tl) (avA el tl mw md ms mt lc tx tz) (avB el tl mw md ms mt lc tx tz) m) (j * 2)), .int .i64 (nthI (avF (nthI tl) (avA el tl mw md ms mt lc tx tz) (avB el tl mw md ms mt lc tx tz) m) (j * 2 + 1))]) A158 S153 (g_loadRS (l := avF (nthI tl) (avA el tl mw md ms mt lc tx tz) (avB el tl mw md ms mt lc tx tz) m) (k := j * 2) 0 2 (by kernel_rfl) rfl (by have hlen := hl19; omega) (by kernel_rfl) (by kernel_rfl)) rfl (fun ac A159 => ?_)
        refine s_alloc (#[.int .i64 0, .int .i64 0]) A159 S153 (by kernel_rfl) rfl (fun g162 ac wc A160 S161 => ?_)
        refine s_store (g := g162) (off := 0) (v := .agg #[.int .i64 (nthI (avF (nthI tl) (avA el tl mw md ms mt lc tx tz) (avB el tl mw md ms mt lc tx tz) m) (j * 2)), .int .i64 (nthI (avF (nthI tl) (avA el tl mw md ms mt lc tx tz) (avB el tl mw md ms mt lc tx tz) m) (j * 2 + 1))]) 0 (#[.int .i64 (nthI (avF (nthI tl) (avA el tl mw md ms mt lc tx tz) (avB el tl mw md ms mt lc tx tz) m) (j * 2)), .int .i64 (nthI (avF (nthI tl) (avA el tl mw md ms mt lc tx tz) (avB el tl mw md ms mt lc tx tz) m) (j * 2 + 1))]) A160 S161 (by kernel_rfl) (by kernel_rfl) rfl (by kernel_rfl) (fun wc S164 => ?_)
        refine wpList_nil ?_
        refine n_then ?_
        refine wp_seq ?_
        refine wp_region_lit ?_
        refine s_one (.pointer (some ⟨g139, 0, none⟩)) A160 S164 (g_field (u := .pointer (some ⟨g139, 0, none⟩)) (by kernel_rfl) (fun _ => by kernel_rfl)) rfl (fun ac A166 => ?_)
        refine s_one (.int .i64 (mnS (evens (avF (nthI tl) (avA el tl mw md ms mt lc tx tz) (avB el tl mw md ms mt lc tx tz) m)) j)) A166 S164 (g_load (g := g139) (off := 0) 1 (by kernel_rfl) rfl (by kernel_rfl)) rfl (fun ac A167 => ?_)
        refine s_one (.pointer (some ⟨g162, 0, none⟩)) A167 S164 (g_field (u := .pointer (some ⟨g162, 0, none⟩)) (by kernel_rfl) (fun _ => by kernel_rfl)) rfl (fun ac A168 => ?_)
        refine s_one (.int .i64 (nthI (avF (nthI tl) (avA el tl mw md ms mt lc tx tz) (avB el tl mw md ms mt lc tx tz) m) (j * 2))) A168 S164 (g_load (g := g162) (off := 0) 0 (by kernel_rfl) rfl (by kernel_rfl)) rfl (fun ac A169 => ?_)
        refine s_one (.int .i64 (mn (mnS (evens (avF (nthI tl) (avA el tl mw md ms mt lc tx tz) (avB el tl mw md ms mt lc tx tz) m)) j) (nthI (avF (nthI tl) (avA el tl mw md ms mt lc tx tz) (avB el tl mw md ms mt lc tx tz) m) (j * 2)))) A169 S164 (g_built (r := [(0, .int .i64 (mnS (evens (avF (nthI tl) (avA el tl mw md ms mt lc tx tz) (avB el tl mw md ms mt lc tx tz) m)) j)), (0, .int .i64 (nthI (avF (nthI tl) (avA el tl mw md ms mt lc tx tz) (avB el tl mw md ms mt lc tx tz) m) (j * 2)))]) (by kernel_rfl) (fun ty cs w => by show (do let x ← Builtin.min_ _ ty #[.int .i64 (mnS (evens (avF (nthI tl) (avA el tl mw md ms mt lc tx tz) (avB el tl mw md ms mt lc tx tz) m)) j), .int .i64 (nthI (avF (nthI tl) (avA el tl mw md ms mt lc tx tz) (avB el tl mw md ms mt lc tx tz) m) (j * 2))]; pure (Next.value x) : Sem Next).run _ w = _; rw [Sem.run_bind, run_min_mn]; rfl)) rfl (fun ac A170 => ?_)
        refine s_one (.pointer (some ⟨g139, 1, none⟩)) A170 S164 (g_field (u := .pointer (some ⟨g139, 0, none⟩)) (by kernel_rfl) (fun _ => by kernel_rfl)) rfl (fun ac A171 => ?_)
        refine s_one (.int .i64 (mxS (odds (avF (nthI tl) (avA el tl mw md ms mt lc tx tz) (avB el tl mw md ms mt lc tx tz) m)) j)) A171 S164 (g_load (g := g139) (off := 1) 1 (by kernel_rfl) rfl (by kernel_rfl)) rfl (fun ac A172 => ?_)
        refine s_one (.pointer (some ⟨g162, 1, none⟩)) A172 S164 (g_field (u := .pointer (some ⟨g162, 0, none⟩)) (by kernel_rfl) (fun _ => by kernel_rfl)) rfl (fun ac A173 => ?_)
        refine s_one (.int .i64 (nthI (avF (nthI tl) (avA el tl mw md ms mt lc tx tz) (avB el tl mw md ms mt lc tx tz) m) (j * 2 + 1))) A173 S164 (g_load (g := g162) (off := 1) 0 (by kernel_rfl) rfl (by kernel_rfl)) rfl (fun ac A174 => ?_)
        refine s_one (.int .i64 (mx (mxS (odds (avF (nthI tl) (avA el tl mw md ms mt lc tx tz) (avB el tl mw md ms mt lc tx tz) m)) j) (nthI (avF (nthI tl) (avA el tl mw md ms mt lc tx tz) (avB el tl mw md ms mt lc tx tz) m) (j * 2 + 1)))) A174 S164 (g_built (r := [(0, .int .i64 (mxS (odds (avF (nthI tl) (avA el tl mw md ms mt lc tx tz) (avB el tl mw md ms mt lc tx tz) m)) j)), (0, .int .i64 (nthI (avF (nthI tl) (avA el tl mw md ms mt lc tx tz) (avB el tl mw md ms mt lc tx tz) m) (j * 2 + 1)))]) (by kernel_rfl) (fun ty cs w => by show (do let x ← Builtin.max_ _ ty #[.int .i64 (mxS (odds (avF (nthI tl) (avA el tl mw md ms mt lc tx tz) (avB el tl mw md ms mt lc tx tz) m)) j), .int .i64 (nthI (avF (nthI tl) (avA el tl mw md ms mt lc tx tz) (avB el tl mw md ms mt lc tx tz) m) (j * 2 + 1))]; pure (Next.value x) : Sem Next).run _ w = _; rw [Sem.run_bind, run_max_mx]; rfl)) rfl (fun ac A175 => ?_)
        refine s_one (.agg #[.int .i64 (mn (mnS (evens (avF (nthI tl) (avA el tl mw md ms mt lc tx tz) (avB el tl mw md ms mt lc tx tz) m)) j) (nthI (avF (nthI tl) (avA el tl mw md ms mt lc tx tz) (avB el tl mw md ms mt lc tx tz) m) (j * 2))), .int .i64 (mx (mxS (odds (avF (nthI tl) (avA el tl mw md ms mt lc tx tz) (avB el tl mw md ms mt lc tx tz) m)) j) (nthI (avF (nthI tl) (avA el tl mw md ms mt lc tx tz) (avB el tl mw md ms mt lc tx tz) m) (j * 2 + 1)))]) A175 S164 (g_build (r := [(0, .int .i64 (mn (mnS (evens (avF (nthI tl) (avA el tl mw md ms mt lc tx tz) (avB el tl mw md ms mt lc tx tz) m)) j) (nthI (avF (nthI tl) (avA el tl mw md ms mt lc tx tz) (avB el tl mw md ms mt lc tx tz) m) (j * 2)))), (1, .int .i64 (mx (mxS (odds (avF (nthI tl) (avA el tl mw md ms mt lc tx tz) (avB el tl mw md ms mt lc tx tz) m)) j) (nthI (avF (nthI tl) (avA el tl mw md ms mt lc tx tz) (avB el tl mw md ms mt lc tx tz) m) (j * 2 + 1))))]) (by kernel_rfl) (fun _ => by kernel_rfl)) rfl (fun ac A176 => ?_)
        refine s_store (g := g139) (off := 0) (v := .agg #[.int .i64 (mn (mnS (evens (avF (nthI tl) (avA el tl mw md ms mt lc tx tz) (avB el tl mw md ms mt lc tx tz) m)) j) (nthI (avF (nthI tl) (avA el tl mw md ms mt lc tx tz) (avB el tl mw md ms mt lc tx tz) m) (j * 2))), .int .i64 (mx (mxS (odds (avF (nthI tl) (avA el tl mw md ms mt lc tx tz) (avB el tl mw md ms mt lc tx tz) m)) j) (nthI (avF (nthI tl) (avA el tl mw md ms mt lc tx tz) (avB el tl mw md ms mt lc tx tz) m) (j * 2 + 1)))]) 1 (#[.int .i64 (mn (mnS (evens (avF (nthI tl) (avA el tl mw md ms mt lc tx tz) (avB el tl mw md ms mt lc tx tz) m)) j) (nthI (avF (nthI tl) (avA el tl mw md ms mt lc tx tz) (avB el tl mw md ms mt lc tx tz) m) (j * 2))), .int .i64 (mx (mxS (odds (avF (nthI tl) (avA el tl mw md ms mt lc tx tz) (avB el tl mw md ms mt lc tx tz) m)) j) (nthI (avF (nthI tl) (avA el tl mw md ms mt lc tx tz) (avB el tl mw md ms mt lc tx tz) m) (j * 2 + 1)))]) A176 S164 (by kernel_rfl) (by kernel_rfl) rfl (by kernel_rfl) (fun wc S178 => ?_)
        refine wpList_nil ?_
        refine n_then ?_
        refine wp_region_lit ?_
        refine s_one (.pointer (some ⟨g135, 0, none⟩)) A176 S178 (g_field (u := .pointer (some ⟨g135, 0, none⟩)) (by kernel_rfl) (fun _ => by kernel_rfl)) rfl (fun ac A180 => ?_)
        refine s_one (.int .i64 (mxS (evens (avF (nthI tl) (avA el tl mw md ms mt lc tx tz) (avB el tl mw md ms mt lc tx tz) m)) j)) A180 S178 (g_load (g := g135) (off := 0) 2 (by kernel_rfl) rfl (by kernel_rfl)) rfl (fun ac A181 => ?_)
        refine s_one (.pointer (some ⟨g162, 0, none⟩)) A181 S178 (g_field (u := .pointer (some ⟨g162, 0, none⟩)) (by kernel_rfl) (fun _ => by kernel_rfl)) rfl (fun ac A182 => ?_)
        refine s_one (.int .i64 (nthI (avF (nthI tl) (avA el tl mw md ms mt lc tx tz) (avB el tl mw md ms mt lc tx tz) m) (j * 2))) A182 S178 (g_load (g := g162) (off := 0) 0 (by kernel_rfl) rfl (by kernel_rfl)) rfl (fun ac A183 => ?_)
        refine s_one (.int .i64 (mx (mxS (evens (avF (nthI tl) (avA el tl mw md ms mt lc tx tz) (avB el tl mw md ms mt lc tx tz) m)) j) (nthI (avF (nthI tl) (avA el tl mw md ms mt lc tx tz) (avB el tl mw md ms mt lc tx tz) m) (j * 2)))) A183 S178 (g_built (r := [(0, .int .i64 (mxS (evens (avF (nthI tl) (avA el tl mw md ms mt lc tx tz) (avB el tl mw md ms mt lc tx tz) m)) j)), (0, .int .i64 (nthI (avF (nthI tl) (avA el tl mw md ms mt lc tx tz) (avB el tl mw md ms mt lc tx tz) m) (j * 2)))]) (by kernel_rfl) (fun ty cs w => by show (do let x ← Builtin.max_ _ ty #[.int .i64 (mxS (evens (avF (nthI tl) (avA el tl mw md ms mt lc tx tz) (avB el tl mw md ms mt lc tx tz) m)) j), .int .i64 (nthI (avF (nthI tl) (avA el tl mw md ms mt lc tx tz) (avB el tl mw md ms mt lc tx tz) m) (j * 2))]; pure (Next.value x) : Sem Next).run _ w = _; rw [Sem.run_bind, run_max_mx]; rfl)) rfl (fun ac A184 => ?_)
        refine s_one (.pointer (some ⟨g135, 1, none⟩)) A184 S178 (g_field (u := .pointer (some ⟨g135, 0, none⟩)) (by kernel_rfl) (fun _ => by kernel_rfl)) rfl (fun ac A185 => ?_)
        refine s_one (.int .i64 (mnS (odds (avF (nthI tl) (avA el tl mw md ms mt lc tx tz) (avB el tl mw md ms mt lc tx tz) m)) j)) A185 S178 (g_load (g := g135) (off := 1) 2 (by kernel_rfl) rfl (by kernel_rfl)) rfl (fun ac A186 => ?_)
        refine s_one (.pointer (some ⟨g162, 1, none⟩)) A186 S178 (g_field (u := .pointer (some ⟨g162, 0, none⟩)) (by kernel_rfl) (fun _ => by kernel_rfl)) rfl (fun ac A187 => ?_)
        refine s_one (.int .i64 (nthI (avF (nthI tl) (avA el tl mw md ms mt lc tx tz) (avB el tl mw md ms mt lc tx tz) m) (j * 2 + 1))) A187 S178 (g_load (g := g162) (off := 1) 0 (by kernel_rfl) rfl (by kernel_rfl)) rfl (fun ac A188 => ?_)
        refine s_one (.int .i64 (mn (mnS (odds (avF (nthI tl) (avA el tl mw md ms mt lc tx tz) (avB el tl mw md ms mt lc tx tz) m)) j) (nthI (avF (nthI tl) (avA el tl mw md ms mt lc tx tz) (avB el tl mw md ms mt lc tx tz) m) (j * 2 + 1)))) A188 S178 (g_built (r := [(0, .int .i64 (mnS (odds (avF (nthI tl) (avA el tl mw md ms mt lc tx tz) (avB el tl mw md ms mt lc tx tz) m)) j)), (0, .int .i64 (nthI (avF (nthI tl) (avA el tl mw md ms mt lc tx tz) (avB el tl mw md ms mt lc tx tz) m) (j * 2 + 1)))]) (by kernel_rfl) (fun ty cs w => by show (do let x ← Builtin.min_ _ ty #[.int .i64 (mnS (odds (avF (nthI tl) (avA el tl mw md ms mt lc tx tz) (avB el tl mw md ms mt lc tx tz) m)) j), .int .i64 (nthI (avF (nthI tl) (avA el tl mw md ms mt lc tx tz) (avB el tl mw md ms mt lc tx tz) m) (j * 2 + 1))]; pure (Next.value x) : Sem Next).run _ w = _; rw [Sem.run_bind, run_min_mn]; rfl)) rfl (fun ac A189 => ?_)
        refine s_one (.agg #[.int .i64 (mx (mxS (evens (avF (nthI tl) (avA el tl mw md ms mt lc tx tz) (avB el tl mw md ms mt lc tx tz) m)) j) (nthI (avF (nthI tl) (avA el tl mw md ms mt lc tx tz) (avB el tl mw md ms mt lc tx tz) m) (j * 2))), .int .i64 (mn (mnS (odds (avF (nthI tl) (avA el tl mw md ms mt lc tx tz) (avB el tl mw md ms mt lc tx tz) m)) j) (nthI (avF (nthI tl) (avA el tl mw md ms mt lc tx tz) (avB el tl mw md ms mt lc tx tz) m) (j * 2 + 1)))]) A189 S178 (g_build (r := [(0, .int .i64 (mx (mxS (evens (avF (nthI tl) (avA el tl mw md ms mt lc tx tz) (avB el tl mw md ms mt lc tx tz) m)) j) (nthI (avF (nthI tl) (avA el tl mw md ms mt lc tx tz) (avB el tl mw md ms mt lc tx tz) m) (j * 2)))), (1, .int .i64 (mn (mnS (odds (avF (nthI tl) (avA el tl mw md ms mt lc tx tz) (avB el tl mw md ms mt lc tx tz) m)) j) (nthI (avF (nthI tl) (avA el tl mw md ms mt lc tx tz) (avB el tl mw md ms mt lc tx tz) m) (j * 2 + 1))))]) (by kernel_rfl) (fun _ => by kernel_rfl)) rfl (fun ac A190 => ?_)
        refine s_store (g := g135) (off := 0) (v := .agg #[.int .i64 (mx (mxS (evens (avF (nthI tl) (avA el tl mw md ms mt lc tx tz) (avB el tl mw md ms mt lc tx tz) m)) j) (nthI (avF (nthI tl) (avA el tl mw md ms mt lc tx tz) (avB el tl mw md ms mt lc tx tz) m) (j * 2))), .int .i64 (mn (mnS (odds (avF (nthI tl) (avA el tl mw md ms mt lc tx tz) (avB el tl mw md ms mt lc tx tz) m)) j) (nthI (avF (nthI tl) (avA el tl mw md ms mt lc tx tz) (avB el tl mw md ms mt lc tx tz) m) (j * 2 + 1)))]) 2 (#[.int .i64 (mx (mxS (evens (avF (nthI tl) (avA el tl mw md ms mt lc tx tz) (avB el tl mw md ms mt lc tx tz) m)) j) (nthI (avF (nthI tl) (avA el tl mw md ms mt lc tx tz) (avB el tl mw md ms mt lc tx tz) m) (j * 2))), .int .i64 (mn (mnS (odds (avF (nthI tl) (avA el tl mw md ms mt lc tx tz) (avB el tl mw md ms mt lc tx tz) m)) j) (nthI (avF (nthI tl) (avA el tl mw md ms mt lc tx tz) (avB el tl mw md ms mt lc tx tz) m) (j * 2 + 1)))]) A190 S178 (by kernel_rfl) (by kernel_rfl) rfl (by kernel_rfl) (fun wc S192 => ?_)
        refine wpList_nil ?_
        refine n_block ?_
        refine n_then ?_
        refine wp_region_lit ?_
        refine s_one (.int .i64 ((j : Int) + 1)) A190 S192 (g_bin (u := .int .i64 (j : Int)) (k := .int .i64 1) (by kernel_rfl) (by kernel_rfl) (fun _ => by kernel_rfl) (b_add (by omega))) rfl (fun ac A194 => ?_)
        refine s_one (.int .i64 ((j : Int) + 1)) A194 S192 (g_move (by kernel_rfl)) rfl (fun ac A195 => ?_)
        refine wpList_nil ?_
        refine n_then ?_
        refine ⟨_, ⟨j + 1, rfl, by omega, (A195.slot (A195.slot (A195.slot (A195.slot (A195.slot (A195.slot (A195.slot (A195.slot (A195.slot (A195.slot (A195.slot (A195.slot (A195.slot (A195.slot (A195.slot (A195.slot (A195.slot (A195.slot (A195.slot (A195.slot (A195.slot (A195.slot (A195.slot (A195.slot (A195.slot (A195.slot (A195.slot (A195.slot (A195.slot (A195.slot (A195.slot (A195.slot A195.nil (v := .int .i64 ((j : Int) + 1)) (by kernel_rfl) (congrArg (Value.int .i64) (by omega))) (v := .int .i64 ((avN (nthI tl) m) : Int)) (by kernel_rfl) rfl) (v := .slice (some ad47) (avN (nthI tl) m) cap21) (by kernel_rfl) rfl) (v := .pointer (some ⟨g139, 0, none⟩)) (by kernel_rfl) rfl) (v := .pointer (some ⟨g135, 0, none⟩)) (by kernel_rfl) rfl) (v := .agg #[.int .i64 (nthI (avF (nthI tl) (avA el tl mw md ms mt lc tx tz) (avB el tl mw md ms mt lc tx tz) m) (0 * 2)), .int .i64 (nthI (avF (nthI tl) (avA el tl mw md ms mt lc tx tz) (avB el tl mw md ms mt lc tx tz) m) (0 * 2 + 1))]) (by kernel_rfl) rfl) (v := .pointer (some (ad47.add (0 * 2)))) (by kernel_rfl) rfl) (v := .slice (some ad47) (avN (nthI tl) m) cap21) (by kernel_rfl) rfl) (v := .agg #[.int .i64 (nthI (avF (nthI tl) (avA el tl mw md ms mt lc tx tz) (avB el tl mw md ms mt lc tx tz) m) (0 * 2)), .int .i64 (nthI (avF (nthI tl) (avA el tl mw md ms mt lc tx tz) (avB el tl mw md ms mt lc tx tz) m) (0 * 2 + 1))]) (by kernel_rfl) rfl) (v := .pointer (some (ad47.add (0 * 2)))) (by kernel_rfl) rfl) (v := .slice (some ad47) (avN (nthI tl) m) cap21) (by kernel_rfl) rfl) (v := .bool (decide (((avN (nthI tl) m) : Int) = 0))) (by kernel_rfl) rfl) (v := .bool (decide (((avN (nthI tl) m) : Int) = 0))) (by kernel_rfl) rfl) (v := .int .i64 ((avN (nthI tl) m) : Int)) (by kernel_rfl) rfl) (v := .slice (some ad47) (avN (nthI tl) m) cap21) (by kernel_rfl) rfl) (v := .bool (decide (0 ≠ 0))) (by kernel_rfl) rfl) (v := .bool (decide (0 ≠ 0))) (by kernel_rfl) rfl) (v := .int .i64 0) (by kernel_rfl) rfl) (v := .int .i64 0) (by kernel_rfl) rfl) (v := .slice (some ad47) (avN (nthI tl) m) cap21) (by kernel_rfl) rfl) (v := .int .i64 0) (by kernel_rfl) rfl) (v := .slice (some ad47) (avN (nthI tl) m) cap21) (by kernel_rfl) rfl) (v := .tuple #[.slice (some ad47) (avN (nthI tl) m) cap21, .int .i64 0]) (by kernel_rfl) rfl) (v := .tuple #[.slice (some ad47) (avN (nthI tl) m) cap21, .int .i64 0]) (by kernel_rfl) rfl) (v := .agg #[.int .i64 tx, .int .i64 tz]) (by kernel_rfl) rfl) (v := .agg #[.slice EA n ecap, .int .i64 mw, .int .i64 md, .int .i64 ms, .int .i64 mt, .int .i64 ck, .int .i64 lc, .slice TA m tcap]) (by kernel_rfl) rfl) (v := .int .i64 0) (by kernel_rfl) rfl) (v := .pointer (some ⟨g11, 0, none⟩)) (by kernel_rfl) rfl) (v := .pointer (some ⟨g7, 0, none⟩)) (by kernel_rfl) rfl) (v := .pointer (some ⟨g3, 0, none⟩)) (by kernel_rfl) rfl) (v := .agg #[.int .i64 tx, .int .i64 tz]) (by kernel_rfl) rfl) (v := .agg #[.slice EA n ecap, .int .i64 mw, .int .i64 md, .int .i64 ms, .int .i64 mt, .int .i64 ck, .int .i64 lc, .slice TA m tcap]) (by kernel_rfl) rfl), (St.recell 2 (St.recell 1 S192 rfl rfl) rfl rfl).sub (sub_skip sub_all) sub_all⟩, ?_⟩
        omega
      · have p196 := of_decide_eq_false h156
        refine wp_exit ?_
        refine x_then ?_
        refine x_then ?_
        refine x_hit ?_
        refine n_then ?_
        refine wp_seq ?_
        have hje : j = (avN (nthI tl) m) := by omega
        have SJ13 := S153
        rw [hje] at SJ13
        refine wp_region_lit ?_
        refine s_one (.pointer (some ⟨g135, 0, none⟩)) A155 SJ13 (g_field (u := .pointer (some ⟨g135, 0, none⟩)) (by kernel_rfl) (fun _ => by kernel_rfl)) rfl (fun ac A197 => ?_)
        refine s_one (.int .i64 (mxS (evens (avF (nthI tl) (avA el tl mw md ms mt lc tx tz) (avB el tl mw md ms mt lc tx tz) m)) (avN (nthI tl) m))) A197 SJ13 (g_load (g := g135) (off := 0) 1 (by kernel_rfl) rfl (by kernel_rfl)) rfl (fun ac A198 => ?_)
        refine s_one (.pointer (some ⟨g135, 1, none⟩)) A198 SJ13 (g_field (u := .pointer (some ⟨g135, 0, none⟩)) (by kernel_rfl) (fun _ => by kernel_rfl)) rfl (fun ac A199 => ?_)
        refine s_one (.int .i64 (mnS (odds (avF (nthI tl) (avA el tl mw md ms mt lc tx tz) (avB el tl mw md ms mt lc tx tz) m)) (avN (nthI tl) m))) A199 SJ13 (g_load (g := g135) (off := 1) 1 (by kernel_rfl) rfl (by kernel_rfl)) rfl (fun ac A200 => ?_)
        refine s_one (.int .i64 (mxS (evens (avF (nthI tl) (avA el tl mw md ms mt lc tx tz) (avB el tl mw md ms mt lc tx tz) m)) (avN (nthI tl) m) - (mnS (odds (avF (nthI tl) (avA el tl mw md ms mt lc tx tz) (avB el tl mw md ms mt lc tx tz) m)) (avN (nthI tl) m)))) A200 SJ13 (g_bin (u := .int .i64 (mxS (evens (avF (nthI tl) (avA el tl mw md ms mt lc tx tz) (avB el tl mw md ms mt lc tx tz) m)) (avN (nthI tl) m))) (k := .int .i64 (mnS (odds (avF (nthI tl) (avA el tl mw md ms mt lc tx tz) (avB el tl mw md ms mt lc tx tz) m)) (avN (nthI tl) m))) (by kernel_rfl) (by kernel_rfl) (fun _ => by kernel_rfl) (b_sub (by omega))) rfl (fun ac A201 => ?_)
        refine s_one (.int .i64 (mx 0 (mxS (evens (avF (nthI tl) (avA el tl mw md ms mt lc tx tz) (avB el tl mw md ms mt lc tx tz) m)) (avN (nthI tl) m) - (mnS (odds (avF (nthI tl) (avA el tl mw md ms mt lc tx tz) (avB el tl mw md ms mt lc tx tz) m)) (avN (nthI tl) m))))) A201 SJ13 (g_built (r := [(0, .int .i64 0), (0, .int .i64 (mxS (evens (avF (nthI tl) (avA el tl mw md ms mt lc tx tz) (avB el tl mw md ms mt lc tx tz) m)) (avN (nthI tl) m) - (mnS (odds (avF (nthI tl) (avA el tl mw md ms mt lc tx tz) (avB el tl mw md ms mt lc tx tz) m)) (avN (nthI tl) m))))]) (by kernel_rfl) (fun ty cs w => by show (do let x ← Builtin.max_ _ ty #[.int .i64 0, .int .i64 (mxS (evens (avF (nthI tl) (avA el tl mw md ms mt lc tx tz) (avB el tl mw md ms mt lc tx tz) m)) (avN (nthI tl) m) - (mnS (odds (avF (nthI tl) (avA el tl mw md ms mt lc tx tz) (avB el tl mw md ms mt lc tx tz) m)) (avN (nthI tl) m)))]; pure (Next.value x) : Sem Next).run _ w = _; rw [Sem.run_bind, run_max_mx]; rfl)) rfl (fun ac A202 => ?_)
        refine s_one (.pointer (some ⟨g139, 1, none⟩)) A202 SJ13 (g_field (u := .pointer (some ⟨g139, 0, none⟩)) (by kernel_rfl) (fun _ => by kernel_rfl)) rfl (fun ac A203 => ?_)
        refine s_one (.int .i64 (mxS (odds (avF (nthI tl) (avA el tl mw md ms mt lc tx tz) (avB el tl mw md ms mt lc tx tz) m)) (avN (nthI tl) m))) A203 SJ13 (g_load (g := g139) (off := 1) 0 (by kernel_rfl) rfl (by kernel_rfl)) rfl (fun ac A204 => ?_)
        refine s_one (.pointer (some ⟨g139, 0, none⟩)) A204 SJ13 (g_field (u := .pointer (some ⟨g139, 0, none⟩)) (by kernel_rfl) (fun _ => by kernel_rfl)) rfl (fun ac A205 => ?_)
        refine s_one (.int .i64 (mnS (evens (avF (nthI tl) (avA el tl mw md ms mt lc tx tz) (avB el tl mw md ms mt lc tx tz) m)) (avN (nthI tl) m))) A205 SJ13 (g_load (g := g139) (off := 0) 0 (by kernel_rfl) rfl (by kernel_rfl)) rfl (fun ac A206 => ?_)
        refine s_one (.int .i64 (mxS (odds (avF (nthI tl) (avA el tl mw md ms mt lc tx tz) (avB el tl mw md ms mt lc tx tz) m)) (avN (nthI tl) m) - (mnS (evens (avF (nthI tl) (avA el tl mw md ms mt lc tx tz) (avB el tl mw md ms mt lc tx tz) m)) (avN (nthI tl) m)))) A206 SJ13 (g_bin (u := .int .i64 (mxS (odds (avF (nthI tl) (avA el tl mw md ms mt lc tx tz) (avB el tl mw md ms mt lc tx tz) m)) (avN (nthI tl) m))) (k := .int .i64 (mnS (evens (avF (nthI tl) (avA el tl mw md ms mt lc tx tz) (avB el tl mw md ms mt lc tx tz) m)) (avN (nthI tl) m))) (by kernel_rfl) (by kernel_rfl) (fun _ => by kernel_rfl) (b_sub (by omega))) rfl (fun ac A207 => ?_)
        refine s_one (.agg #[.int .i64 (mx 0 (mxS (evens (avF (nthI tl) (avA el tl mw md ms mt lc tx tz) (avB el tl mw md ms mt lc tx tz) m)) (avN (nthI tl) m) - (mnS (odds (avF (nthI tl) (avA el tl mw md ms mt lc tx tz) (avB el tl mw md ms mt lc tx tz) m)) (avN (nthI tl) m)))), .int .i64 (mxS (odds (avF (nthI tl) (avA el tl mw md ms mt lc tx tz) (avB el tl mw md ms mt lc tx tz) m)) (avN (nthI tl) m) - (mnS (evens (avF (nthI tl) (avA el tl mw md ms mt lc tx tz) (avB el tl mw md ms mt lc tx tz) m)) (avN (nthI tl) m)))]) A207 SJ13 (g_build (r := [(0, .int .i64 (mx 0 (mxS (evens (avF (nthI tl) (avA el tl mw md ms mt lc tx tz) (avB el tl mw md ms mt lc tx tz) m)) (avN (nthI tl) m) - (mnS (odds (avF (nthI tl) (avA el tl mw md ms mt lc tx tz) (avB el tl mw md ms mt lc tx tz) m)) (avN (nthI tl) m))))), (1, .int .i64 (mxS (odds (avF (nthI tl) (avA el tl mw md ms mt lc tx tz) (avB el tl mw md ms mt lc tx tz) m)) (avN (nthI tl) m) - (mnS (evens (avF (nthI tl) (avA el tl mw md ms mt lc tx tz) (avB el tl mw md ms mt lc tx tz) m)) (avN (nthI tl) m))))]) (by kernel_rfl) (fun _ => by kernel_rfl)) rfl (fun ac A208 => ?_)
        refine s_store (g := g11) (off := 0) (v := .agg #[.int .i64 (mx 0 (mxS (evens (avF (nthI tl) (avA el tl mw md ms mt lc tx tz) (avB el tl mw md ms mt lc tx tz) m)) (avN (nthI tl) m) - (mnS (odds (avF (nthI tl) (avA el tl mw md ms mt lc tx tz) (avB el tl mw md ms mt lc tx tz) m)) (avN (nthI tl) m)))), .int .i64 (mxS (odds (avF (nthI tl) (avA el tl mw md ms mt lc tx tz) (avB el tl mw md ms mt lc tx tz) m)) (avN (nthI tl) m) - (mnS (evens (avF (nthI tl) (avA el tl mw md ms mt lc tx tz) (avB el tl mw md ms mt lc tx tz) m)) (avN (nthI tl) m)))]) 2 (#[.int .i64 (mx 0 (mxS (evens (avF (nthI tl) (avA el tl mw md ms mt lc tx tz) (avB el tl mw md ms mt lc tx tz) m)) (avN (nthI tl) m) - (mnS (odds (avF (nthI tl) (avA el tl mw md ms mt lc tx tz) (avB el tl mw md ms mt lc tx tz) m)) (avN (nthI tl) m)))), .int .i64 (mxS (odds (avF (nthI tl) (avA el tl mw md ms mt lc tx tz) (avB el tl mw md ms mt lc tx tz) m)) (avN (nthI tl) m) - (mnS (evens (avF (nthI tl) (avA el tl mw md ms mt lc tx tz) (avB el tl mw md ms mt lc tx tz) m)) (avN (nthI tl) m)))]) A208 SJ13 (by kernel_rfl) (by kernel_rfl) rfl (by kernel_rfl) (fun wc S210 => ?_)
        refine s_one (.int .i64 0) A208 S210 (g_assign (by kernel_rfl)) rfl (fun ac A212 => ?_)
        refine wpList_nil ?_
        refine n_then ?_
        refine wp_ret ?_
        refine fin2 (.agg #[.int .i64 (mx 0 (mxS (evens (avF (nthI tl) (avA el tl mw md ms mt lc tx tz) (avB el tl mw md ms mt lc tx tz) m)) (avN (nthI tl) m) - (mnS (odds (avF (nthI tl) (avA el tl mw md ms mt lc tx tz) (avB el tl mw md ms mt lc tx tz) m)) (avN (nthI tl) m)))), .int .i64 (mxS (odds (avF (nthI tl) (avA el tl mw md ms mt lc tx tz) (avB el tl mw md ms mt lc tx tz) m)) (avN (nthI tl) m) - (mnS (evens (avF (nthI tl) (avA el tl mw md ms mt lc tx tz) (avB el tl mw md ms mt lc tx tz) m)) (avN (nthI tl) m)))]) (.int .i64 0) Try.results20 A212 S210 (rv_cell (g := g11) (off := 0) 2 (by kernel_rfl) rfl (by kernel_rfl)) (rv_tmp (by kernel_rfl)) ⟨?_, S210.kp⟩
        rw [zv_0 e1, zv_0 e1, e1]
        rfl

def sdE (el : List Int) (n : Nat) (mw md ms mt ck : Int) (tl : List Int) (m : Nat) (lc tx tz : Int) : Int := if obE el n mw md ms mt ck tl m lc = 0 then (if plE mt tx tz = 0 then spE1 tl m else plE mt tx tz) else obE el n mw md ms mt ck tl m lc
theorem sdE_o {el : List Int} {n : Nat} {mw md ms mt ck : Int} {tl : List Int} {m : Nat} {lc tx tz : Int} (h : obE el n mw md ms mt ck tl m lc ≠ 0) : sdE el n mw md ms mt ck tl m lc tx tz = obE el n mw md ms mt ck tl m lc := if_neg h
theorem sdE_p {el : List Int} {n : Nat} {mw md ms mt ck : Int} {tl : List Int} {m : Nat} {lc tx tz : Int} (h : obE el n mw md ms mt ck tl m lc = 0) (h2 : plE mt tx tz ≠ 0) : sdE el n mw md ms mt ck tl m lc tx tz = plE mt tx tz := (if_pos h).trans (if_neg h2)
theorem sdE_s {el : List Int} {n : Nat} {mw md ms mt ck : Int} {tl : List Int} {m : Nat} {lc tx tz : Int} (h : obE el n mw md ms mt ck tl m lc = 0) (h2 : plE mt tx tz = 0) : sdE el n mw md ms mt ck tl m lc tx tz = spE1 tl m := (if_pos h).trans (if_pos h2)
theorem sdE_0 {el : List Int} {n : Nat} {mw md ms mt ck : Int} {tl : List Int} {m : Nat} {lc tx tz : Int} (h : sdE el n mw md ms mt ck tl m lc tx tz = 0) : obE el n mw md ms mt ck tl m lc = 0 ∧ plE mt tx tz = 0 ∧ 1 ≤ avN (nthI tl) m := by
  by_cases z : obE el n mw md ms mt ck tl m lc = 0
  · by_cases y : plE mt tx tz = 0
    · rw [sdE_s z y] at h
      refine ⟨z, y, ?_⟩
      by_cases q : avN (nthI tl) m = 0
      · rw [spE1_n q] at h; exact absurd h (by decide)
      · omega
    · rw [sdE_p z y] at h; exact absurd h y
  · rw [sdE_o z] at h; exact absurd h z
theorem sdE_of {el : List Int} {n : Nat} {mw md ms mt ck : Int} {tl : List Int} {m : Nat} {lc tx tz : Int} (h1 : obE el n mw md ms mt ck tl m lc = 0) (h2 : plE mt tx tz = 0) (h3 : 1 ≤ avN (nthI tl) m) : sdE el n mw md ms mt ck tl m lc tx tz = 0 := by
  rw [sdE_s h1 h2]; exact spE1_y (by omega)

set_option maxRecDepth 100000 in
set_option maxHeartbeats 400000 in
theorem Spread_s (EA : Option Addr) (n ecap : Nat) (el : List Int) (mw md ms mt ck : Int) (TA : Option Addr) (m tcap : Nat) (tl : List Int) (lc : Int) (tx tz : Int) (w0 : World) (hne : el.length = n * 2) (hre : IReads w0 EA el) (hn1 : n ≤ 1000) (hnt : tl.length = m * 1) (hrt : IReads w0 TA tl) (hm1 : m ≤ 1000) :
    Calls Try.prog 9 #[.agg #[.slice EA n ecap, .int .i64 mw, .int .i64 md, .int .i64 ms, .int .i64 mt, .int .i64 ck], .agg #[.int .i64 lc, .slice TA m tcap], .agg #[.int .i64 tx, .int .i64 tz]] w0 fun e w' => e = .returned (.tuple #[.agg #[.int .i64 (zv (sdE el n mw md ms mt ck tl m lc tx tz) (spLo (avF (nthI tl) (avA el tl mw md ms mt lc tx tz) (avB el tl mw md ms mt lc tx tz) m) (avN (nthI tl) m))), .int .i64 (zv (sdE el n mw md ms mt ck tl m lc tx tz) (spHi (avF (nthI tl) (avA el tl mw md ms mt lc tx tz) (avB el tl mw md ms mt lc tx tz) m) (avN (nthI tl) m)))], .int .i64 (sdE el n mw md ms mt ck tl m lc tx tz)]) ∧ Below w0.heap.size w0 w' := by
  have S0 := St.start w0
  refine enter (n := 30) Try.func9 rfl rfl rfl (fun ac A0 => ?_)
  refine wp_seq ?_
  refine wp_region_lit ?_
  refine s_box (.agg #[.slice EA n ecap, .int .i64 mw, .int .i64 md, .int .i64 ms, .int .i64 mt, .int .i64 ck]) A0 S0 (by kernel_rfl) rfl (fun g3 ac wc A1 S2 => ?_)
  replace S2 : St _ (⟨g3, 26, #[.slice EA n ecap, .int .i64 mw, .int .i64 md, .int .i64 ms, .int .i64 mt, .int .i64 ck], true⟩ :: _) _ _ := S2
  refine s_box (.agg #[.int .i64 lc, .slice TA m tcap]) A1 S2 (by kernel_rfl) rfl (fun g7 ac wc A5 S6 => ?_)
  replace S6 : St _ (⟨g7, 32, #[.int .i64 lc, .slice TA m tcap], true⟩ :: _) _ _ := S6
  refine s_box (.agg #[.int .i64 tx, .int .i64 tz]) A5 S6 (by kernel_rfl) rfl (fun g11 ac wc A9 S10 => ?_)
  replace S10 : St _ (⟨g11, 28, #[.int .i64 tx, .int .i64 tz], true⟩ :: _) _ _ := S10
  refine s_alloc (#[.int .i64 0, .int .i64 0]) A9 S10 (by kernel_rfl) rfl (fun g15 ac wc A13 S14 => ?_)
  refine s_one (.int .i64 0) A13 S14 (g_assign (by kernel_rfl)) rfl (fun ac A16 => ?_)
  refine wpList_nil ?_
  refine n_then ?_
  refine wp_seq ?_
  refine wp_region_lit ?_
  refine s_one (.agg #[.slice EA n ecap, .int .i64 mw, .int .i64 md, .int .i64 ms, .int .i64 mt, .int .i64 ck]) A16 S14 (g_load (g := g3) (off := 0) 3 (by kernel_rfl) rfl (by kernel_rfl)) rfl (fun ac A17 => ?_)
  refine s_one (.agg #[.int .i64 lc, .slice TA m tcap]) A17 S14 (g_load (g := g7) (off := 0) 2 (by kernel_rfl) rfl (by kernel_rfl)) rfl (fun ac A18 => ?_)
  refine by_bool (decide (obE el n mw md ms mt ck tl m lc = 0)) (fun h22 => ?_) (fun h22 => ?_)
  · have p23 := of_decide_eq_true h22
    have hob := of_decide_eq_true h22
    have hoa := obE_a hob
    have h0 := ar_0 hoa.1
    have zm := mdE_0 h0.2.2.1
    refine s_call (fs := #[]) (cp := #[]) (r := [(0, .agg #[.slice EA n ecap, .int .i64 mw, .int .i64 md, .int .i64 ms, .int .i64 mt, .int .i64 ck]), (0, .agg #[.int .i64 lc, .slice TA m tcap])]) #[.agg #[.slice EA n ecap, .int .i64 mw, .int .i64 md, .int .i64 ms, .int .i64 mt, .int .i64 ck], .agg #[.int .i64 lc, .slice TA m tcap]] (.tuple #[.agg #[.slice EA n ecap, .int .i64 mw, .int .i64 md, .int .i64 ms, .int .i64 mt, .int .i64 ck, .int .i64 lc, .slice TA m tcap], .int .i64 0]) A18 S14 (open_ok EA n ecap el mw md ms mt ck TA m tcap tl lc _ (by have hlen := hne; omega) (hre.kept S14.kp) (by omega) (by have hlen := hnt; omega) (hrt.kept S14.kp) (by omega) (of_decide_eq_true h22)) Try.call19 (by kernel_rfl) (by kernel_rfl) (by kernel_rfl) rfl (fun ac wc A24 S25 => ?_)
    refine s_one (.tuple #[.agg #[.slice EA n ecap, .int .i64 mw, .int .i64 md, .int .i64 ms, .int .i64 mt, .int .i64 ck, .int .i64 lc, .slice TA m tcap], .int .i64 0]) A24 S25 (g_move (by kernel_rfl)) rfl (fun ac A27 => ?_)
    refine s_one (.agg #[.slice EA n ecap, .int .i64 mw, .int .i64 md, .int .i64 ms, .int .i64 mt, .int .i64 ck, .int .i64 lc, .slice TA m tcap]) A27 S25 (g_extract (u := .tuple #[.agg #[.slice EA n ecap, .int .i64 mw, .int .i64 md, .int .i64 ms, .int .i64 mt, .int .i64 ck, .int .i64 lc, .slice TA m tcap], .int .i64 0]) (by kernel_rfl) (fun _ => by kernel_rfl)) rfl (fun ac A28 => ?_)
    refine s_one (.int .i64 0) A28 S25 (g_extract (u := .tuple #[.agg #[.slice EA n ecap, .int .i64 mw, .int .i64 md, .int .i64 ms, .int .i64 mt, .int .i64 ck, .int .i64 lc, .slice TA m tcap], .int .i64 0]) (by kernel_rfl) (fun _ => by kernel_rfl)) rfl (fun ac A29 => ?_)
    refine s_alloc (#[.slice none 0 0, .int .i64 0, .int .i64 0, .int .i64 0, .int .i64 0, .int .i64 0, .int .i64 0, .slice none 0 0]) A29 S25 (by kernel_rfl) rfl (fun g32 ac wc A30 S31 => ?_)
    refine s_store (g := g32) (off := 0) (v := .agg #[.slice EA n ecap, .int .i64 mw, .int .i64 md, .int .i64 ms, .int .i64 mt, .int .i64 ck, .int .i64 lc, .slice TA m tcap]) 0 (#[.slice EA n ecap, .int .i64 mw, .int .i64 md, .int .i64 ms, .int .i64 mt, .int .i64 ck, .int .i64 lc, .slice TA m tcap]) A30 S31 (by kernel_rfl) (by kernel_rfl) rfl (by kernel_rfl) (fun wc S34 => ?_)
    refine s_one (.int .i64 0) A30 S34 (g_assign (by kernel_rfl)) rfl (fun ac A36 => ?_)
    refine wpList_nil ?_
    refine n_then ?_
    refine wp_seq ?_
    refine wp_seq ?_
    refine wp_region_lit ?_
    refine s_one (.int .i64 0) A36 S34 (g_move (by kernel_rfl)) rfl (fun ac A37 => ?_)
    refine s_one (.bool (decide (0 = 0))) A37 S34 (g_bin (u := .int .i64 0) (k := .int .i64 0) (by kernel_rfl) (by kernel_rfl) (fun _ => by kernel_rfl) b_eql) rfl (fun ac A38 => ?_)
    refine wpList_nil ?_
    refine n_then ?_
    refine c_t (b := (decide (0 = 0))) A38 (by kernel_rfl) (by decide) ?_
    refine wp_region_lit ?_
    refine s_one (.agg #[.slice EA n ecap, .int .i64 mw, .int .i64 md, .int .i64 ms, .int .i64 mt, .int .i64 ck]) A38 S34 (g_load (g := g3) (off := 0) 4 (by kernel_rfl) rfl (by kernel_rfl)) rfl (fun ac A39 => ?_)
    refine s_one (.agg #[.int .i64 tx, .int .i64 tz]) A39 S34 (g_load (g := g11) (off := 0) 2 (by kernel_rfl) rfl (by kernel_rfl)) rfl (fun ac A40 => ?_)
    refine s_call (fs := #[]) (cp := #[]) (r := [(0, .agg #[.slice EA n ecap, .int .i64 mw, .int .i64 md, .int .i64 ms, .int .i64 mt, .int .i64 ck]), (0, .agg #[.int .i64 tx, .int .i64 tz])]) #[.agg #[.slice EA n ecap, .int .i64 mw, .int .i64 md, .int .i64 ms, .int .i64 mt, .int .i64 ck], .agg #[.int .i64 tx, .int .i64 tz]] (.int .i64 (plE mt tx tz)) A40 S34 (placeErr_s EA n ecap mw md ms mt ck tx tz _ (by omega)) Try.call15 (by kernel_rfl) (by kernel_rfl) (by kernel_rfl) rfl (fun ac wc A41 S42 => ?_)
    refine s_one (.int .i64 (plE mt tx tz)) A41 S42 (g_assign (by kernel_rfl)) rfl (fun ac A44 => ?_)
    refine wpList_nil ?_
    refine n_then ?_
    refine wp_seq ?_
    refine wp_seq ?_
    refine wp_region_lit ?_
    refine s_one (.int .i64 (plE mt tx tz)) A44 S42 (g_move (by kernel_rfl)) rfl (fun ac A45 => ?_)
    refine s_one (.bool (decide (plE mt tx tz ≠ 0))) A45 S42 (g_bin (u := .int .i64 (plE mt tx tz)) (k := .int .i64 0) (by kernel_rfl) (by kernel_rfl) (fun _ => by kernel_rfl) b_neq) rfl (fun ac A46 => ?_)
    refine wpList_nil ?_
    refine n_then ?_
    refine c_ifb (b := (decide (plE mt tx tz ≠ 0))) A46 (by kernel_rfl) (fun h47 => ?_) (fun h47 => ?_)
    · have p48 := of_decide_eq_true h47
      have er : sdE el n mw md ms mt ck tl m lc tx tz = _ := sdE_p hob (of_decide_eq_true h47)
      have zn : sdE el n mw md ms mt ck tl m lc tx tz ≠ 0 := er ▸ of_decide_eq_true h47
      refine wp_seq ?_
      refine wp_region_lit ?_
      refine s_one (.agg #[.int .i64 0, .int .i64 0]) A46 S42 (g_build (r := []) (by kernel_rfl) (fun _ => by kernel_rfl)) rfl (fun ac A49 => ?_)
      refine s_one (.int .i64 (plE mt tx tz)) A49 S42 (g_move (by kernel_rfl)) rfl (fun ac A50 => ?_)
      refine s_store (g := g15) (off := 0) (v := .agg #[.int .i64 0, .int .i64 0]) 1 (#[.int .i64 0, .int .i64 0]) A50 S42 (by kernel_rfl) (by kernel_rfl) rfl (by kernel_rfl) (fun wc S52 => ?_)
      refine s_one (.int .i64 (plE mt tx tz)) A50 S52 (g_assign (by kernel_rfl)) rfl (fun ac A54 => ?_)
      refine wpList_nil ?_
      refine n_then ?_
      refine wp_ret ?_
      refine r_then ?_
      refine fin2 (.agg #[.int .i64 0, .int .i64 0]) (.int .i64 (plE mt tx tz)) Try.results9 A54 S52 (rv_cell (g := g15) (off := 0) 1 (by kernel_rfl) rfl (by kernel_rfl)) (rv_tmp (by kernel_rfl)) ⟨?_, S52.kp⟩
      rw [zv_n zn, zv_n zn, er]
    · have p55 := of_decide_eq_false h47
      have hpl : plE mt tx tz = 0 := by simpa using h47
      have er : sdE el n mw md ms mt ck tl m lc tx tz = _ := sdE_s hob hpl
      refine wp_skip ?_
      refine n_then ?_
      refine wp_seq ?_
      refine wp_region_lit ?_
      refine s_one (.agg #[.slice EA n ecap, .int .i64 mw, .int .i64 md, .int .i64 ms, .int .i64 mt, .int .i64 ck, .int .i64 lc, .slice TA m tcap]) A46 S42 (g_load (g := g32) (off := 0) 0 (by kernel_rfl) rfl (by kernel_rfl)) rfl (fun ac A56 => ?_)
      refine s_one (.agg #[.int .i64 tx, .int .i64 tz]) A56 S42 (g_load (g := g11) (off := 0) 2 (by kernel_rfl) rfl (by kernel_rfl)) rfl (fun ac A57 => ?_)
      refine s_call (fs := #[]) (cp := #[]) (r := [(0, .agg #[.slice EA n ecap, .int .i64 mw, .int .i64 md, .int .i64 ms, .int .i64 mt, .int .i64 ck, .int .i64 lc, .slice TA m tcap]), (0, .agg #[.int .i64 tx, .int .i64 tz])]) #[.agg #[.slice EA n ecap, .int .i64 mw, .int .i64 md, .int .i64 ms, .int .i64 mt, .int .i64 ck, .int .i64 lc, .slice TA m tcap], .agg #[.int .i64 tx, .int .i64 tz]] (.tuple #[.agg #[.int .i64 (zv (spE1 tl m) (spLo (avF (nthI tl) (avA el tl mw md ms mt lc tx tz) (avB el tl mw md ms mt lc tx tz) m) (avN (nthI tl) m))), .int .i64 (zv (spE1 tl m) (spHi (avF (nthI tl) (avA el tl mw md ms mt lc tx tz) (avB el tl mw md ms mt lc tx tz) m) (avN (nthI tl) m)))], .int .i64 (spE1 tl m)]) A57 S42 (bspread_s EA n ecap el mw md ms mt ck TA m tcap tl lc tx tz _ (by have hlen := hne; omega) (hre.kept S42.kp) (by have hlen := hnt; omega) (hrt.kept S42.kp) (by omega) hob hpl) Try.call20 (by kernel_rfl) (by kernel_rfl) (by kernel_rfl) rfl (fun ac wc A58 S59 => ?_)
      refine s_one (.agg #[.int .i64 (zv (spE1 tl m) (spLo (avF (nthI tl) (avA el tl mw md ms mt lc tx tz) (avB el tl mw md ms mt lc tx tz) m) (avN (nthI tl) m))), .int .i64 (zv (spE1 tl m) (spHi (avF (nthI tl) (avA el tl mw md ms mt lc tx tz) (avB el tl mw md ms mt lc tx tz) m) (avN (nthI tl) m)))]) A58 S59 (g_extract (u := .tuple #[.agg #[.int .i64 (zv (spE1 tl m) (spLo (avF (nthI tl) (avA el tl mw md ms mt lc tx tz) (avB el tl mw md ms mt lc tx tz) m) (avN (nthI tl) m))), .int .i64 (zv (spE1 tl m) (spHi (avF (nthI tl) (avA el tl mw md ms mt lc tx tz) (avB el tl mw md ms mt lc tx tz) m) (avN (nthI tl) m)))], .int .i64 (spE1 tl m)]) (by kernel_rfl) (fun _ => by kernel_rfl)) rfl (fun ac A61 => ?_)
      refine s_one (.int .i64 (spE1 tl m)) A61 S59 (g_extract (u := .tuple #[.agg #[.int .i64 (zv (spE1 tl m) (spLo (avF (nthI tl) (avA el tl mw md ms mt lc tx tz) (avB el tl mw md ms mt lc tx tz) m) (avN (nthI tl) m))), .int .i64 (zv (spE1 tl m) (spHi (avF (nthI tl) (avA el tl mw md ms mt lc tx tz) (avB el tl mw md ms mt lc tx tz) m) (avN (nthI tl) m)))], .int .i64 (spE1 tl m)]) (by kernel_rfl) (fun _ => by kernel_rfl)) rfl (fun ac A62 => ?_)
      refine s_store (g := g15) (off := 0) (v := .agg #[.int .i64 (zv (spE1 tl m) (spLo (avF (nthI tl) (avA el tl mw md ms mt lc tx tz) (avB el tl mw md ms mt lc tx tz) m) (avN (nthI tl) m))), .int .i64 (zv (spE1 tl m) (spHi (avF (nthI tl) (avA el tl mw md ms mt lc tx tz) (avB el tl mw md ms mt lc tx tz) m) (avN (nthI tl) m)))]) 1 (#[.int .i64 (zv (spE1 tl m) (spLo (avF (nthI tl) (avA el tl mw md ms mt lc tx tz) (avB el tl mw md ms mt lc tx tz) m) (avN (nthI tl) m))), .int .i64 (zv (spE1 tl m) (spHi (avF (nthI tl) (avA el tl mw md ms mt lc tx tz) (avB el tl mw md ms mt lc tx tz) m) (avN (nthI tl) m)))]) A62 S59 (by kernel_rfl) (by kernel_rfl) rfl (by kernel_rfl) (fun wc S64 => ?_)
      refine s_one (.int .i64 (spE1 tl m)) A62 S64 (g_assign (by kernel_rfl)) rfl (fun ac A66 => ?_)
      refine wpList_nil ?_
      refine n_then ?_
      refine wp_ret ?_
      refine fin2 (.agg #[.int .i64 (zv (spE1 tl m) (spLo (avF (nthI tl) (avA el tl mw md ms mt lc tx tz) (avB el tl mw md ms mt lc tx tz) m) (avN (nthI tl) m))), .int .i64 (zv (spE1 tl m) (spHi (avF (nthI tl) (avA el tl mw md ms mt lc tx tz) (avB el tl mw md ms mt lc tx tz) m) (avN (nthI tl) m)))]) (.int .i64 (spE1 tl m)) Try.results9 A66 S64 (rv_cell (g := g15) (off := 0) 1 (by kernel_rfl) rfl (by kernel_rfl)) (rv_tmp (by kernel_rfl)) ⟨?_, S64.kp⟩
      rw [er]
  · have p67 := of_decide_eq_false h22
    have hno := of_decide_eq_false h22
    have er : sdE el n mw md ms mt ck tl m lc tx tz = _ := sdE_o hno
    have zn : sdE el n mw md ms mt ck tl m lc tx tz ≠ 0 := er ▸ hno
    refine s_call (fs := #[]) (cp := #[]) (r := [(0, .agg #[.slice EA n ecap, .int .i64 mw, .int .i64 md, .int .i64 ms, .int .i64 mt, .int .i64 ck]), (0, .agg #[.int .i64 lc, .slice TA m tcap])]) #[.agg #[.slice EA n ecap, .int .i64 mw, .int .i64 md, .int .i64 ms, .int .i64 mt, .int .i64 ck], .agg #[.int .i64 lc, .slice TA m tcap]] (.tuple #[.agg #[.slice none 0 0, .int .i64 0, .int .i64 0, .int .i64 0, .int .i64 0, .int .i64 0, .int .i64 0, .slice none 0 0], .int .i64 (obE el n mw md ms mt ck tl m lc)]) A18 S14 (open_no EA n ecap el mw md ms mt ck TA m tcap tl lc _ (by have hlen := hne; omega) (hre.kept S14.kp) (by omega) (by have hlen := hnt; omega) (hrt.kept S14.kp) (by omega) (of_decide_eq_false h22)) Try.call19 (by kernel_rfl) (by kernel_rfl) (by kernel_rfl) rfl (fun ac wc A68 S69 => ?_)
    refine s_one (.tuple #[.agg #[.slice none 0 0, .int .i64 0, .int .i64 0, .int .i64 0, .int .i64 0, .int .i64 0, .int .i64 0, .slice none 0 0], .int .i64 (obE el n mw md ms mt ck tl m lc)]) A68 S69 (g_move (by kernel_rfl)) rfl (fun ac A71 => ?_)
    refine s_one (.agg #[.slice none 0 0, .int .i64 0, .int .i64 0, .int .i64 0, .int .i64 0, .int .i64 0, .int .i64 0, .slice none 0 0]) A71 S69 (g_extract (u := .tuple #[.agg #[.slice none 0 0, .int .i64 0, .int .i64 0, .int .i64 0, .int .i64 0, .int .i64 0, .int .i64 0, .slice none 0 0], .int .i64 (obE el n mw md ms mt ck tl m lc)]) (by kernel_rfl) (fun _ => by kernel_rfl)) rfl (fun ac A72 => ?_)
    refine s_one (.int .i64 (obE el n mw md ms mt ck tl m lc)) A72 S69 (g_extract (u := .tuple #[.agg #[.slice none 0 0, .int .i64 0, .int .i64 0, .int .i64 0, .int .i64 0, .int .i64 0, .int .i64 0, .slice none 0 0], .int .i64 (obE el n mw md ms mt ck tl m lc)]) (by kernel_rfl) (fun _ => by kernel_rfl)) rfl (fun ac A73 => ?_)
    refine s_alloc (#[.slice none 0 0, .int .i64 0, .int .i64 0, .int .i64 0, .int .i64 0, .int .i64 0, .int .i64 0, .slice none 0 0]) A73 S69 (by kernel_rfl) rfl (fun g76 ac wc A74 S75 => ?_)
    refine s_store (g := g76) (off := 0) (v := .agg #[.slice none 0 0, .int .i64 0, .int .i64 0, .int .i64 0, .int .i64 0, .int .i64 0, .int .i64 0, .slice none 0 0]) 0 (#[.slice none 0 0, .int .i64 0, .int .i64 0, .int .i64 0, .int .i64 0, .int .i64 0, .int .i64 0, .slice none 0 0]) A74 S75 (by kernel_rfl) (by kernel_rfl) rfl (by kernel_rfl) (fun wc S78 => ?_)
    refine s_one (.int .i64 (obE el n mw md ms mt ck tl m lc)) A74 S78 (g_assign (by kernel_rfl)) rfl (fun ac A80 => ?_)
    refine wpList_nil ?_
    refine n_then ?_
    refine wp_seq ?_
    refine wp_seq ?_
    refine wp_region_lit ?_
    refine s_one (.int .i64 (obE el n mw md ms mt ck tl m lc)) A80 S78 (g_move (by kernel_rfl)) rfl (fun ac A81 => ?_)
    refine s_one (.bool (decide (obE el n mw md ms mt ck tl m lc = 0))) A81 S78 (g_bin (u := .int .i64 (obE el n mw md ms mt ck tl m lc)) (k := .int .i64 0) (by kernel_rfl) (by kernel_rfl) (fun _ => by kernel_rfl) b_eql) rfl (fun ac A82 => ?_)
    refine wpList_nil ?_
    refine n_then ?_
    refine c_f (b := (decide (obE el n mw md ms mt ck tl m lc = 0))) A82 (by kernel_rfl) h22 ?_
    refine wp_skip ?_
    refine n_then ?_
    refine wp_seq ?_
    refine wp_seq ?_
    refine wp_region_lit ?_
    refine s_one (.int .i64 (obE el n mw md ms mt ck tl m lc)) A82 S78 (g_move (by kernel_rfl)) rfl (fun ac A83 => ?_)
    refine s_one (.bool (decide (obE el n mw md ms mt ck tl m lc ≠ 0))) A83 S78 (g_bin (u := .int .i64 (obE el n mw md ms mt ck tl m lc)) (k := .int .i64 0) (by kernel_rfl) (by kernel_rfl) (fun _ => by kernel_rfl) b_neq) rfl (fun ac A84 => ?_)
    refine wpList_nil ?_
    refine n_then ?_
    refine c_t (b := (decide (obE el n mw md ms mt ck tl m lc ≠ 0))) A84 (by kernel_rfl) (decide_eq_true (by omega)) ?_
    refine wp_seq ?_
    refine wp_region_lit ?_
    refine s_one (.agg #[.int .i64 0, .int .i64 0]) A84 S78 (g_build (r := []) (by kernel_rfl) (fun _ => by kernel_rfl)) rfl (fun ac A85 => ?_)
    refine s_one (.int .i64 (obE el n mw md ms mt ck tl m lc)) A85 S78 (g_move (by kernel_rfl)) rfl (fun ac A86 => ?_)
    refine s_store (g := g15) (off := 0) (v := .agg #[.int .i64 0, .int .i64 0]) 1 (#[.int .i64 0, .int .i64 0]) A86 S78 (by kernel_rfl) (by kernel_rfl) rfl (by kernel_rfl) (fun wc S88 => ?_)
    refine s_one (.int .i64 (obE el n mw md ms mt ck tl m lc)) A86 S88 (g_assign (by kernel_rfl)) rfl (fun ac A90 => ?_)
    refine wpList_nil ?_
    refine n_then ?_
    refine wp_ret ?_
    refine r_then ?_
    refine fin2 (.agg #[.int .i64 0, .int .i64 0]) (.int .i64 (obE el n mw md ms mt ck tl m lc)) Try.results9 A90 S88 (rv_cell (g := g15) (off := 0) 1 (by kernel_rfl) rfl (by kernel_rfl)) (rv_tmp (by kernel_rfl)) ⟨?_, S88.kp⟩
    rw [zv_n zn, zv_n zn, er]

def wdK (el : List Int) (mw md ms mt tx tz : Int) (k : Nat) : Int := zv (opE mw md ms mt (nthI el (k * 2)) (nthI el (k * 2 + 1)) tx tz) (mHi (wyC mw md ms mt (nthI el (k * 2)) (nthI el (k * 2 + 1)) tx tz)) - zv (opE mw md ms mt (nthI el (k * 2)) (nthI el (k * 2 + 1)) tx tz) (leLo (wyC mw md ms mt (nthI el (k * 2)) (nthI el (k * 2 + 1)) tx tz))
def wdF (W : Nat → Int) : Nat → Int
  | 0 => 0
  | k + 1 => mx (wdF W k) (W k)
theorem wdF_ge (W : Nat → Int) : ∀ k i : Nat, i < k → W i ≤ wdF W k
  | 0, i, h => by omega
  | k + 1, i, h => by
    simp only [wdF]; rw [mx_eq]
    by_cases e : i = k
    · subst e; omega
    · have := wdF_ge W k i (by omega); omega
theorem wdF_nn (W : Nat → Int) : ∀ k : Nat, 0 ≤ wdF W k
  | 0 => Int.le_refl _
  | k + 1 => by have := wdF_nn W k; simp only [wdF]; rw [mx_eq]; omega
theorem wdF_bd {W : Nat → Int} {B : Int} (hB : 0 ≤ B) (h : ∀ i, W i ≤ B) : ∀ k : Nat, wdF W k ≤ B
  | 0 => hB
  | k + 1 => by have := wdF_bd hB h k; have := h k; simp only [wdF]; rw [mx_eq]; omega
theorem wdK_bd (el : List Int) (mw md ms mt tx tz : Int) (k : Nat) : 0 ≤ wdK el mw md ms mt tx tz k ∧ wdK el mw md ms mt tx tz k ≤ 12000000000 := by
  have := lt_bd mw md ms mt (nthI el (k * 2)) (nthI el (k * 2 + 1)) tx tz
  unfold wdK; omega

set_option maxRecDepth 100000 in
set_option maxHeartbeats 400000 in
theorem lawWidest_s (EA : Option Addr) (n ecap : Nat) (el : List Int) (mw md ms mt ck : Int) (tx tz : Int) (w0 : World) (hne : el.length = n * 2) (hre : IReads w0 EA el) (hn1 : n ≤ 1000) (har : arE el n mw md ms mt ck = 0) (hpl : plE mt tx tz = 0) :
    Calls Try.prog 8 #[.agg #[.slice EA n ecap, .int .i64 mw, .int .i64 md, .int .i64 ms, .int .i64 mt, .int .i64 ck], .agg #[.int .i64 tx, .int .i64 tz]] w0 fun e w' => e = .returned (.tuple #[.int .i64 (wdF (wdK el mw md ms mt tx tz) n), .bool true]) ∧ Below w0.heap.size w0 w' := by
  have S0 := St.start w0
  have h0 := ar_0 har
  refine enter (n := 46) Try.func8 rfl rfl rfl (fun ac A0 => ?_)
  refine wp_seq ?_
  refine wp_region_lit ?_
  refine s_box (.agg #[.slice EA n ecap, .int .i64 mw, .int .i64 md, .int .i64 ms, .int .i64 mt, .int .i64 ck]) A0 S0 (by kernel_rfl) rfl (fun g3 ac wc A1 S2 => ?_)
  replace S2 : St _ (⟨g3, 26, #[.slice EA n ecap, .int .i64 mw, .int .i64 md, .int .i64 ms, .int .i64 mt, .int .i64 ck], true⟩ :: _) _ _ := S2
  refine s_box (.agg #[.int .i64 tx, .int .i64 tz]) A1 S2 (by kernel_rfl) rfl (fun g7 ac wc A5 S6 => ?_)
  replace S6 : St _ (⟨g7, 28, #[.int .i64 tx, .int .i64 tz], true⟩ :: _) _ _ := S6
  refine s_one (.int .i64 0) A5 S6 (g_assign (by kernel_rfl)) rfl (fun ac A9 => ?_)
  refine s_one (.bool false) A9 S6 (g_assign (by kernel_rfl)) rfl (fun ac A10 => ?_)
  refine wpList_nil ?_
  refine n_then ?_
  refine wp_seq ?_
  refine wp_region_lit ?_
  refine s_one (.int .i64 0) A10 S6 (g_assign (by kernel_rfl)) rfl (fun ac A11 => ?_)
  refine wpList_nil ?_
  refine n_then ?_
  refine wp_seq ?_
  refine wp_seq ?_
  refine wp_region_lit ?_
  refine s_one (.int .i64 0) A11 S6 (g_assign (by kernel_rfl)) rfl (fun ac A12 => ?_)
  refine wpList_nil ?_
  refine n_then ?_
  refine wp_block ?_
  refine c_loopN (fun mm ac wc => ∃ (k : Nat), mm = n - k ∧ (k ≤ n) ∧ Fr 46 ac [(0, .agg #[.slice EA n ecap, .int .i64 mw, .int .i64 md, .int .i64 ms, .int .i64 mt, .int .i64 ck]), (1, .agg #[.int .i64 tx, .int .i64 tz]), (2, .pointer (some ⟨g3, 0, none⟩)), (3, .pointer (some ⟨g7, 0, none⟩)), (7, .int .i64 (k : Int)), (6, .int .i64 (wdF (wdK el mw md ms mt tx tz) k))] ∧ St w0 [⟨g7, 28, #[.int .i64 tx, .int .i64 tz], true⟩, ⟨g3, 26, #[.slice EA n ecap, .int .i64 mw, .int .i64 md, .int .i64 ms, .int .i64 mt, .int .i64 ck], true⟩] [] wc) _ ⟨0, rfl, by omega, (A12.slot (A12.slot (A12.slot (A12.slot (A12.slot (A12.slot A12.nil (v := .int .i64 0) (by kernel_rfl) rfl) (v := .int .i64 0) (by kernel_rfl) (congrArg (Value.int .i64) (by omega))) (v := .pointer (some ⟨g7, 0, none⟩)) (by kernel_rfl) rfl) (v := .pointer (some ⟨g3, 0, none⟩)) (by kernel_rfl) rfl) (v := .agg #[.int .i64 tx, .int .i64 tz]) (by kernel_rfl) rfl) (v := .agg #[.slice EA n ecap, .int .i64 mw, .int .i64 md, .int .i64 ms, .int .i64 mt, .int .i64 ck]) (by kernel_rfl) rfl), S6.sub sub_all sub_all⟩ ?_
  rintro mm ac wc ⟨k, hm15, hk, A13, S14⟩
  have ltb := lt_bd mw md ms mt (nthI el (k * 2)) (nthI el (k * 2 + 1)) tx tz
  refine wp_seq ?_
  refine wp_seq ?_
  refine wp_region_lit ?_
  refine s_one (.int .i64 (k : Int)) A13 S14 (g_move (by kernel_rfl)) rfl (fun ac A16 => ?_)
  refine s_one (.pointer (some ⟨g3, 0, none⟩)) A16 S14 (g_field (u := .pointer (some ⟨g3, 0, none⟩)) (by kernel_rfl) (fun _ => by kernel_rfl)) rfl (fun ac A17 => ?_)
  refine s_one (.slice EA n ecap) A17 S14 (g_load (g := g3) (off := 0) 1 (by kernel_rfl) rfl (by kernel_rfl)) rfl (fun ac A18 => ?_)
  refine s_one (.int .i64 (n : Int)) A18 S14 (g_built (r := [(0, .slice EA n ecap)]) (by kernel_rfl) (fun _ _ _ => by kernel_rfl)) rfl (fun ac A19 => ?_)
  refine s_one (.bool (decide ((k : Int) < (n : Int)))) A19 S14 (g_bin (u := .int .i64 (k : Int)) (k := .int .i64 (n : Int)) (by kernel_rfl) (by kernel_rfl) (fun _ => by kernel_rfl) (fun _ => by kernel_rfl)) rfl (fun ac A20 => ?_)
  refine wpList_nil ?_
  refine n_then ?_
  refine c_ifb (b := (decide ((k : Int) < (n : Int)))) A20 (by kernel_rfl) (fun h21 => ?_) (fun h21 => ?_)
  · have p22 := of_decide_eq_true h21
    refine wp_skip ?_
    refine n_then ?_
    refine wp_seq ?_
    refine wp_block ?_
    refine wp_seq ?_
    refine r_begin (w0 := w0) (by kernel_rfl) (S14.sub sub_all sub_all) (fun wc T23 B24 => ?_)
    have S25 := S14.kept B24
    refine r_take 0 (.pointer (some ⟨g3, 1, none⟩)) A20 T23 (g_field (u := .pointer (some ⟨g3, 0, none⟩)) (by kernel_rfl) (fun _ => by kernel_rfl)) rfl rfl rfl (pf_then (pf_block (pf_then (pf_then (pf_block (pf_then pf_body)))))) (by kernel_rfl) (fun ac A26 => ?_)
    refine r_take 1 (.agg #[.int .i64 mw, .int .i64 md, .int .i64 ms, .int .i64 mt]) A26 T23 (g_load (g := g3) (off := 1) 1 (by kernel_rfl) rfl (by kernel_rfl)) rfl rfl rfl (pf_then (pf_block (pf_then (pf_then (pf_block (pf_then pf_body)))))) (by kernel_rfl) (fun ac A27 => ?_)
    refine r_take 2 (.pointer (some ⟨g3, 0, none⟩)) A27 T23 (g_field (u := .pointer (some ⟨g3, 0, none⟩)) (by kernel_rfl) (fun _ => by kernel_rfl)) rfl rfl rfl (pf_then (pf_block (pf_then (pf_then (pf_block (pf_then pf_body)))))) (by kernel_rfl) (fun ac A28 => ?_)
    refine r_take 3 (.slice EA n ecap) A28 T23 (g_load (g := g3) (off := 0) 1 (by kernel_rfl) rfl (by kernel_rfl)) rfl rfl rfl (pf_then (pf_block (pf_then (pf_then (pf_block (pf_then pf_body)))))) (by kernel_rfl) (fun ac A29 => ?_)
    refine r_take 4 (.int .i64 (k : Int)) A29 T23 (g_move (by kernel_rfl)) rfl rfl rfl (pf_then (pf_block (pf_then (pf_then (pf_block (pf_then pf_body)))))) (by kernel_rfl) (fun ac A30 => ?_)
    obtain ⟨ad31, rfl, _⟩ := hre (k * 2) (by have hlen := hne; omega)
    refine r_take 5 (.pointer (some (ad31.add (k * 2)))) A30 T23 (g_index (u := .slice (some ad31) n ecap) (k := .int .i64 (k : Int)) (by kernel_rfl) (by kernel_rfl) (ix_xs (e := 28) (bytes := 16) k (by kernel_rfl) (by omega) (by omega))) rfl rfl rfl (pf_then (pf_block (pf_then (pf_then (pf_block (pf_then pf_body)))))) (by kernel_rfl) (fun ac A32 => ?_)
    refine r_take 6 (.agg #[.int .i64 (nthI el (k * 2)), .int .i64 (nthI el (k * 2 + 1))]) A32 T23 (g_loadXS (l := el) (k := k * 2) 2 (by kernel_rfl) hre (by have hlen := hne; omega) (by kernel_rfl) (by kernel_rfl)) rfl rfl rfl (pf_then (pf_block (pf_then (pf_then (pf_block (pf_then pf_body)))))) (by kernel_rfl) (fun ac A33 => ?_)
    refine r_take 7 (.agg #[.int .i64 tx, .int .i64 tz]) A33 T23 (g_load (g := g7) (off := 0) 0 (by kernel_rfl) rfl (by kernel_rfl)) rfl rfl rfl (pf_then (pf_block (pf_then (pf_then (pf_block (pf_then pf_body)))))) (by kernel_rfl) (fun ac A34 => ?_)
    refine r_2 (i := 8) (j := 12) (by kernel_rfl) ?_ ?_
    · refine rs_call (fs := #[]) (cp := #[]) (r := [(0, .agg #[.int .i64 mw, .int .i64 md, .int .i64 ms, .int .i64 mt]), (0, .agg #[.int .i64 (nthI el (k * 2)), .int .i64 (nthI el (k * 2 + 1))]), (0, .agg #[.int .i64 tx, .int .i64 tz])]) #[.agg #[.int .i64 mw, .int .i64 md, .int .i64 ms, .int .i64 mt], .agg #[.int .i64 (nthI el (k * 2)), .int .i64 (nthI el (k * 2 + 1))], .agg #[.int .i64 tx, .int .i64 tz]] (.tuple #[.agg #[.int .i64 (zv (opE mw md ms mt (nthI el (k * 2)) (nthI el (k * 2 + 1)) tx tz) (leLo (wyC mw md ms mt (nthI el (k * 2)) (nthI el (k * 2 + 1)) tx tz))), .int .i64 (zv (opE mw md ms mt (nthI el (k * 2)) (nthI el (k * 2 + 1)) tx tz) (mHi (wyC mw md ms mt (nthI el (k * 2)) (nthI el (k * 2 + 1)) tx tz)))], .int .i64 (opE mw md ms mt (nthI el (k * 2)) (nthI el (k * 2 + 1)) tx tz)]) A34 S25 sub_all sub_all (LeastTime_s mw md ms mt (nthI el (k * 2)) (nthI el (k * 2 + 1)) tx tz _) Try.call18 rfl rfl (by kernel_rfl) (by kernel_rfl) (by kernel_rfl) rfl (fun ac wc A35 S36 => ?_)
      have T38 := S36.sub sub_all sub_all
      refine r_take 9 (.tuple #[.agg #[.int .i64 (zv (opE mw md ms mt (nthI el (k * 2)) (nthI el (k * 2 + 1)) tx tz) (leLo (wyC mw md ms mt (nthI el (k * 2)) (nthI el (k * 2 + 1)) tx tz))), .int .i64 (zv (opE mw md ms mt (nthI el (k * 2)) (nthI el (k * 2 + 1)) tx tz) (mHi (wyC mw md ms mt (nthI el (k * 2)) (nthI el (k * 2 + 1)) tx tz)))], .int .i64 (opE mw md ms mt (nthI el (k * 2)) (nthI el (k * 2 + 1)) tx tz)]) A35 T38 (g_move (by kernel_rfl)) rfl rfl rfl (pf_then (pf_block (pf_then (pf_then (pf_block (pf_then pf_body)))))) (by kernel_rfl) (fun ac A39 => ?_)
      refine r_take 10 (.agg #[.int .i64 (zv (opE mw md ms mt (nthI el (k * 2)) (nthI el (k * 2 + 1)) tx tz) (leLo (wyC mw md ms mt (nthI el (k * 2)) (nthI el (k * 2 + 1)) tx tz))), .int .i64 (zv (opE mw md ms mt (nthI el (k * 2)) (nthI el (k * 2 + 1)) tx tz) (mHi (wyC mw md ms mt (nthI el (k * 2)) (nthI el (k * 2 + 1)) tx tz)))]) A39 T38 (g_extract (u := .tuple #[.agg #[.int .i64 (zv (opE mw md ms mt (nthI el (k * 2)) (nthI el (k * 2 + 1)) tx tz) (leLo (wyC mw md ms mt (nthI el (k * 2)) (nthI el (k * 2 + 1)) tx tz))), .int .i64 (zv (opE mw md ms mt (nthI el (k * 2)) (nthI el (k * 2 + 1)) tx tz) (mHi (wyC mw md ms mt (nthI el (k * 2)) (nthI el (k * 2 + 1)) tx tz)))], .int .i64 (opE mw md ms mt (nthI el (k * 2)) (nthI el (k * 2 + 1)) tx tz)]) (by kernel_rfl) (fun _ => by kernel_rfl)) rfl rfl rfl (pf_then (pf_block (pf_then (pf_then (pf_block (pf_then pf_body)))))) (by kernel_rfl) (fun ac A40 => ?_)
      refine r_take 11 (.int .i64 (opE mw md ms mt (nthI el (k * 2)) (nthI el (k * 2 + 1)) tx tz)) A40 T38 (g_extract (u := .tuple #[.agg #[.int .i64 (zv (opE mw md ms mt (nthI el (k * 2)) (nthI el (k * 2 + 1)) tx tz) (leLo (wyC mw md ms mt (nthI el (k * 2)) (nthI el (k * 2 + 1)) tx tz))), .int .i64 (zv (opE mw md ms mt (nthI el (k * 2)) (nthI el (k * 2 + 1)) tx tz) (mHi (wyC mw md ms mt (nthI el (k * 2)) (nthI el (k * 2 + 1)) tx tz)))], .int .i64 (opE mw md ms mt (nthI el (k * 2)) (nthI el (k * 2 + 1)) tx tz)]) (by kernel_rfl) (fun _ => by kernel_rfl)) rfl rfl rfl (pf_then (pf_block (pf_then (pf_then (pf_block (pf_then pf_body)))))) (by kernel_rfl) (fun ac A41 => ?_)
      refine r_1 (i := 12) (by kernel_rfl) ?_
      refine rs_alloc (#[.int .i64 0, .int .i64 0]) A41 S36 sub_all sub_all (by kernel_rfl) rfl rfl rfl (fun g44 ac wc A42 S43 => ?_)
      have T45 := S43.sub (sub_skip sub_all) sub_all
      refine r_1 (i := 13) (by kernel_rfl) ?_
      refine rs_store (g := g44) (off := 0) (v := .agg #[.int .i64 (zv (opE mw md ms mt (nthI el (k * 2)) (nthI el (k * 2 + 1)) tx tz) (leLo (wyC mw md ms mt (nthI el (k * 2)) (nthI el (k * 2 + 1)) tx tz))), .int .i64 (zv (opE mw md ms mt (nthI el (k * 2)) (nthI el (k * 2 + 1)) tx tz) (mHi (wyC mw md ms mt (nthI el (k * 2)) (nthI el (k * 2 + 1)) tx tz)))]) 0 (#[.int .i64 (zv (opE mw md ms mt (nthI el (k * 2)) (nthI el (k * 2 + 1)) tx tz) (leLo (wyC mw md ms mt (nthI el (k * 2)) (nthI el (k * 2 + 1)) tx tz))), .int .i64 (zv (opE mw md ms mt (nthI el (k * 2)) (nthI el (k * 2 + 1)) tx tz) (mHi (wyC mw md ms mt (nthI el (k * 2)) (nthI el (k * 2 + 1)) tx tz)))]) A42 S43 (sub_skip sub_all) sub_all (by kernel_rfl) (by kernel_rfl) rfl (by kernel_rfl) rfl rfl (fun wc S47 => ?_)
      have T49 := S47.sub (sub_skip sub_all) sub_all
      refine r_take 14 (.int .i64 (opE mw md ms mt (nthI el (k * 2)) (nthI el (k * 2 + 1)) tx tz)) A42 T49 (g_assign (by kernel_rfl)) rfl rfl rfl (pf_then (pf_block (pf_then (pf_then (pf_block (pf_then pf_body)))))) (by kernel_rfl) (fun ac A50 => ?_)
      refine r_done (by kernel_rfl) ?_
      refine n_then ?_
      refine wp_seq ?_
      refine wp_seq ?_
      refine wp_region_lit ?_
      refine s_one (.int .i64 (opE mw md ms mt (nthI el (k * 2)) (nthI el (k * 2 + 1)) tx tz)) A50 S47 (g_move (by kernel_rfl)) rfl (fun ac A51 => ?_)
      refine s_one (.bool (decide (opE mw md ms mt (nthI el (k * 2)) (nthI el (k * 2 + 1)) tx tz ≠ 0))) A51 S47 (g_bin (u := .int .i64 (opE mw md ms mt (nthI el (k * 2)) (nthI el (k * 2 + 1)) tx tz)) (k := .int .i64 0) (by kernel_rfl) (by kernel_rfl) (fun _ => by kernel_rfl) b_neq) rfl (fun ac A52 => ?_)
      refine s_one (.bool (decide (opE mw md ms mt (nthI el (k * 2)) (nthI el (k * 2 + 1)) tx tz ≠ 0))) A52 S47 (g_move (by kernel_rfl)) rfl (fun ac A53 => ?_)
      refine s_want (dj := 31) (b := (decide (opE mw md ms mt (nthI el (k * 2)) (nthI el (k * 2 + 1)) tx tz ≠ 0))) A53 (by kernel_rfl) (by kernel_rfl) (decide_eq_false (fun hh => hh (way_ok h0.2.2.1 (elE_0 (h0.2.1 k (by omega))) hpl))) ?_
      refine s_one (.pointer (some ⟨g44, 0, none⟩)) A53 S47 (g_field (u := .pointer (some ⟨g44, 0, none⟩)) (by kernel_rfl) (fun _ => by kernel_rfl)) rfl (fun ac A54 => ?_)
      refine s_want (dj := 31) (b := (decide (opE mw md ms mt (nthI el (k * 2)) (nthI el (k * 2 + 1)) tx tz ≠ 0))) A54 (by kernel_rfl) (by kernel_rfl) (decide_eq_false (fun hh => hh (way_ok h0.2.2.1 (elE_0 (h0.2.1 k (by omega))) hpl))) ?_
      refine s_one (.int .i64 (zv (opE mw md ms mt (nthI el (k * 2)) (nthI el (k * 2 + 1)) tx tz) (leLo (wyC mw md ms mt (nthI el (k * 2)) (nthI el (k * 2 + 1)) tx tz)))) A54 S47 (g_load (g := g44) (off := 0) 0 (by kernel_rfl) rfl (by kernel_rfl)) rfl (fun ac A55 => ?_)
      refine s_want (dj := 31) (b := (decide (opE mw md ms mt (nthI el (k * 2)) (nthI el (k * 2 + 1)) tx tz ≠ 0))) A55 (by kernel_rfl) (by kernel_rfl) (decide_eq_false (fun hh => hh (way_ok h0.2.2.1 (elE_0 (h0.2.1 k (by omega))) hpl))) ?_
      refine s_one (.pointer (some ⟨g44, 1, none⟩)) A55 S47 (g_field (u := .pointer (some ⟨g44, 0, none⟩)) (by kernel_rfl) (fun _ => by kernel_rfl)) rfl (fun ac A56 => ?_)
      refine s_want (dj := 31) (b := (decide (opE mw md ms mt (nthI el (k * 2)) (nthI el (k * 2 + 1)) tx tz ≠ 0))) A56 (by kernel_rfl) (by kernel_rfl) (decide_eq_false (fun hh => hh (way_ok h0.2.2.1 (elE_0 (h0.2.1 k (by omega))) hpl))) ?_
      refine s_one (.int .i64 (zv (opE mw md ms mt (nthI el (k * 2)) (nthI el (k * 2 + 1)) tx tz) (mHi (wyC mw md ms mt (nthI el (k * 2)) (nthI el (k * 2 + 1)) tx tz)))) A56 S47 (g_load (g := g44) (off := 1) 0 (by kernel_rfl) rfl (by kernel_rfl)) rfl (fun ac A57 => ?_)
      refine s_want (dj := 31) (b := (decide (opE mw md ms mt (nthI el (k * 2)) (nthI el (k * 2 + 1)) tx tz ≠ 0))) A57 (by kernel_rfl) (by kernel_rfl) (decide_eq_false (fun hh => hh (way_ok h0.2.2.1 (elE_0 (h0.2.1 k (by omega))) hpl))) ?_
      refine s_one (.bool (decide (zv (opE mw md ms mt (nthI el (k * 2)) (nthI el (k * 2 + 1)) tx tz) (leLo (wyC mw md ms mt (nthI el (k * 2)) (nthI el (k * 2 + 1)) tx tz)) > zv (opE mw md ms mt (nthI el (k * 2)) (nthI el (k * 2 + 1)) tx tz) (mHi (wyC mw md ms mt (nthI el (k * 2)) (nthI el (k * 2 + 1)) tx tz))))) A57 S47 (g_bin (u := .int .i64 (zv (opE mw md ms mt (nthI el (k * 2)) (nthI el (k * 2 + 1)) tx tz) (leLo (wyC mw md ms mt (nthI el (k * 2)) (nthI el (k * 2 + 1)) tx tz)))) (k := .int .i64 (zv (opE mw md ms mt (nthI el (k * 2)) (nthI el (k * 2 + 1)) tx tz) (mHi (wyC mw md ms mt (nthI el (k * 2)) (nthI el (k * 2 + 1)) tx tz)))) (by kernel_rfl) (by kernel_rfl) (fun _ => by kernel_rfl) (fun _ => by kernel_rfl)) rfl (fun ac A58 => ?_)
      refine s_one (.bool (decide (zv (opE mw md ms mt (nthI el (k * 2)) (nthI el (k * 2 + 1)) tx tz) (leLo (wyC mw md ms mt (nthI el (k * 2)) (nthI el (k * 2 + 1)) tx tz)) > zv (opE mw md ms mt (nthI el (k * 2)) (nthI el (k * 2 + 1)) tx tz) (mHi (wyC mw md ms mt (nthI el (k * 2)) (nthI el (k * 2 + 1)) tx tz))))) A58 S47 (g_pick_f (b := (decide (opE mw md ms mt (nthI el (k * 2)) (nthI el (k * 2 + 1)) tx tz ≠ 0))) (by kernel_rfl) (decide_eq_false (fun hh => hh (way_ok h0.2.2.1 (elE_0 (h0.2.1 k (by omega))) hpl))) (by kernel_rfl)) rfl (fun ac A59 => ?_)
      refine wpList_nil ?_
      refine n_then ?_
      refine c_f (b := (decide (zv (opE mw md ms mt (nthI el (k * 2)) (nthI el (k * 2 + 1)) tx tz) (leLo (wyC mw md ms mt (nthI el (k * 2)) (nthI el (k * 2 + 1)) tx tz)) > zv (opE mw md ms mt (nthI el (k * 2)) (nthI el (k * 2 + 1)) tx tz) (mHi (wyC mw md ms mt (nthI el (k * 2)) (nthI el (k * 2 + 1)) tx tz))))) A59 (by kernel_rfl) (decide_eq_false (by omega)) ?_
      refine wp_skip ?_
      refine n_then ?_
      refine wp_region_lit ?_
      refine s_one (.int .i64 (wdF (wdK el mw md ms mt tx tz) k)) A59 S47 (g_move (by kernel_rfl)) rfl (fun ac A60 => ?_)
      refine s_one (.pointer (some ⟨g44, 1, none⟩)) A60 S47 (g_field (u := .pointer (some ⟨g44, 0, none⟩)) (by kernel_rfl) (fun _ => by kernel_rfl)) rfl (fun ac A61 => ?_)
      refine s_one (.int .i64 (zv (opE mw md ms mt (nthI el (k * 2)) (nthI el (k * 2 + 1)) tx tz) (mHi (wyC mw md ms mt (nthI el (k * 2)) (nthI el (k * 2 + 1)) tx tz)))) A61 S47 (g_load (g := g44) (off := 1) 0 (by kernel_rfl) rfl (by kernel_rfl)) rfl (fun ac A62 => ?_)
      refine s_one (.pointer (some ⟨g44, 0, none⟩)) A62 S47 (g_field (u := .pointer (some ⟨g44, 0, none⟩)) (by kernel_rfl) (fun _ => by kernel_rfl)) rfl (fun ac A63 => ?_)
      refine s_one (.int .i64 (zv (opE mw md ms mt (nthI el (k * 2)) (nthI el (k * 2 + 1)) tx tz) (leLo (wyC mw md ms mt (nthI el (k * 2)) (nthI el (k * 2 + 1)) tx tz)))) A63 S47 (g_load (g := g44) (off := 0) 0 (by kernel_rfl) rfl (by kernel_rfl)) rfl (fun ac A64 => ?_)
      refine s_one (.int .i64 (zv (opE mw md ms mt (nthI el (k * 2)) (nthI el (k * 2 + 1)) tx tz) (mHi (wyC mw md ms mt (nthI el (k * 2)) (nthI el (k * 2 + 1)) tx tz)) - (zv (opE mw md ms mt (nthI el (k * 2)) (nthI el (k * 2 + 1)) tx tz) (leLo (wyC mw md ms mt (nthI el (k * 2)) (nthI el (k * 2 + 1)) tx tz))))) A64 S47 (g_bin (u := .int .i64 (zv (opE mw md ms mt (nthI el (k * 2)) (nthI el (k * 2 + 1)) tx tz) (mHi (wyC mw md ms mt (nthI el (k * 2)) (nthI el (k * 2 + 1)) tx tz)))) (k := .int .i64 (zv (opE mw md ms mt (nthI el (k * 2)) (nthI el (k * 2 + 1)) tx tz) (leLo (wyC mw md ms mt (nthI el (k * 2)) (nthI el (k * 2 + 1)) tx tz)))) (by kernel_rfl) (by kernel_rfl) (fun _ => by kernel_rfl) (b_sub (by omega))) rfl (fun ac A65 => ?_)
      refine s_one (.int .i64 (mx (wdF (wdK el mw md ms mt tx tz) k) (zv (opE mw md ms mt (nthI el (k * 2)) (nthI el (k * 2 + 1)) tx tz) (mHi (wyC mw md ms mt (nthI el (k * 2)) (nthI el (k * 2 + 1)) tx tz)) - (zv (opE mw md ms mt (nthI el (k * 2)) (nthI el (k * 2 + 1)) tx tz) (leLo (wyC mw md ms mt (nthI el (k * 2)) (nthI el (k * 2 + 1)) tx tz)))))) A65 S47 (g_built (r := [(0, .int .i64 (wdF (wdK el mw md ms mt tx tz) k)), (0, .int .i64 (zv (opE mw md ms mt (nthI el (k * 2)) (nthI el (k * 2 + 1)) tx tz) (mHi (wyC mw md ms mt (nthI el (k * 2)) (nthI el (k * 2 + 1)) tx tz)) - (zv (opE mw md ms mt (nthI el (k * 2)) (nthI el (k * 2 + 1)) tx tz) (leLo (wyC mw md ms mt (nthI el (k * 2)) (nthI el (k * 2 + 1)) tx tz)))))]) (by kernel_rfl) (fun ty cs w => by show (do let x ← Builtin.max_ _ ty #[.int .i64 (wdF (wdK el mw md ms mt tx tz) k), .int .i64 (zv (opE mw md ms mt (nthI el (k * 2)) (nthI el (k * 2 + 1)) tx tz) (mHi (wyC mw md ms mt (nthI el (k * 2)) (nthI el (k * 2 + 1)) tx tz)) - (zv (opE mw md ms mt (nthI el (k * 2)) (nthI el (k * 2 + 1)) tx tz) (leLo (wyC mw md ms mt (nthI el (k * 2)) (nthI el (k * 2 + 1)) tx tz))))]; pure (Next.value x) : Sem Next).run _ w = _; rw [Sem.run_bind, run_max_mx]; rfl)) rfl (fun ac A66 => ?_)
      refine s_one (.int .i64 (mx (wdF (wdK el mw md ms mt tx tz) k) (zv (opE mw md ms mt (nthI el (k * 2)) (nthI el (k * 2 + 1)) tx tz) (mHi (wyC mw md ms mt (nthI el (k * 2)) (nthI el (k * 2 + 1)) tx tz)) - (zv (opE mw md ms mt (nthI el (k * 2)) (nthI el (k * 2 + 1)) tx tz) (leLo (wyC mw md ms mt (nthI el (k * 2)) (nthI el (k * 2 + 1)) tx tz)))))) A66 S47 (g_assign (by kernel_rfl)) rfl (fun ac A67 => ?_)
      refine wpList_nil ?_
      refine n_block ?_
      refine n_then ?_
      refine wp_region_lit ?_
      refine s_one (.int .i64 (k : Int)) A67 S47 (g_move (by kernel_rfl)) rfl (fun ac A68 => ?_)
      refine s_one (.int .i64 ((k : Int) + 1)) A68 S47 (g_bin (u := .int .i64 (k : Int)) (k := .int .i64 1) (by kernel_rfl) (by kernel_rfl) (fun _ => by kernel_rfl) (b_add (by omega))) rfl (fun ac A69 => ?_)
      refine s_one (.int .i64 ((k : Int) + 1)) A69 S47 (g_assign (by kernel_rfl)) rfl (fun ac A70 => ?_)
      refine wpList_nil ?_
      refine n_then ?_
      refine ⟨_, ⟨k + 1, rfl, by omega, (A70.slot (A70.slot (A70.slot (A70.slot (A70.slot (A70.slot A70.nil (v := .int .i64 (mx (wdF (wdK el mw md ms mt tx tz) k) (zv (opE mw md ms mt (nthI el (k * 2)) (nthI el (k * 2 + 1)) tx tz) (mHi (wyC mw md ms mt (nthI el (k * 2)) (nthI el (k * 2 + 1)) tx tz)) - (zv (opE mw md ms mt (nthI el (k * 2)) (nthI el (k * 2 + 1)) tx tz) (leLo (wyC mw md ms mt (nthI el (k * 2)) (nthI el (k * 2 + 1)) tx tz)))))) (by kernel_rfl) rfl) (v := .int .i64 ((k : Int) + 1)) (by kernel_rfl) (congrArg (Value.int .i64) (by omega))) (v := .pointer (some ⟨g7, 0, none⟩)) (by kernel_rfl) rfl) (v := .pointer (some ⟨g3, 0, none⟩)) (by kernel_rfl) rfl) (v := .agg #[.int .i64 tx, .int .i64 tz]) (by kernel_rfl) rfl) (v := .agg #[.slice (some ad31) n ecap, .int .i64 mw, .int .i64 md, .int .i64 ms, .int .i64 mt, .int .i64 ck]) (by kernel_rfl) (by first | rfl | simp)), (St.recell 2 S47 rfl (by rfl)).sub (sub_skip sub_all) sub_all⟩, ?_⟩
      omega
    · refine rs_alloc (#[.int .i64 0, .int .i64 0]) A34 S25 sub_all sub_all (by kernel_rfl) rfl rfl rfl (fun g73 ac wc A71 S72 => ?_)
      have T74 := S72.sub (sub_skip sub_all) sub_all
      refine r_1 (i := 8) (by kernel_rfl) ?_
      refine rs_call (fs := #[]) (cp := #[]) (r := [(0, .agg #[.int .i64 mw, .int .i64 md, .int .i64 ms, .int .i64 mt]), (0, .agg #[.int .i64 (nthI el (k * 2)), .int .i64 (nthI el (k * 2 + 1))]), (0, .agg #[.int .i64 tx, .int .i64 tz])]) #[.agg #[.int .i64 mw, .int .i64 md, .int .i64 ms, .int .i64 mt], .agg #[.int .i64 (nthI el (k * 2)), .int .i64 (nthI el (k * 2 + 1))], .agg #[.int .i64 tx, .int .i64 tz]] (.tuple #[.agg #[.int .i64 (zv (opE mw md ms mt (nthI el (k * 2)) (nthI el (k * 2 + 1)) tx tz) (leLo (wyC mw md ms mt (nthI el (k * 2)) (nthI el (k * 2 + 1)) tx tz))), .int .i64 (zv (opE mw md ms mt (nthI el (k * 2)) (nthI el (k * 2 + 1)) tx tz) (mHi (wyC mw md ms mt (nthI el (k * 2)) (nthI el (k * 2 + 1)) tx tz)))], .int .i64 (opE mw md ms mt (nthI el (k * 2)) (nthI el (k * 2 + 1)) tx tz)]) A71 S72 (sub_skip sub_all) sub_all (LeastTime_s mw md ms mt (nthI el (k * 2)) (nthI el (k * 2 + 1)) tx tz _) Try.call18 rfl rfl (by kernel_rfl) (by kernel_rfl) (by kernel_rfl) rfl (fun ac wc A75 S76 => ?_)
      have T78 := S76.sub (sub_skip sub_all) sub_all
      refine r_take 9 (.tuple #[.agg #[.int .i64 (zv (opE mw md ms mt (nthI el (k * 2)) (nthI el (k * 2 + 1)) tx tz) (leLo (wyC mw md ms mt (nthI el (k * 2)) (nthI el (k * 2 + 1)) tx tz))), .int .i64 (zv (opE mw md ms mt (nthI el (k * 2)) (nthI el (k * 2 + 1)) tx tz) (mHi (wyC mw md ms mt (nthI el (k * 2)) (nthI el (k * 2 + 1)) tx tz)))], .int .i64 (opE mw md ms mt (nthI el (k * 2)) (nthI el (k * 2 + 1)) tx tz)]) A75 T78 (g_move (by kernel_rfl)) rfl rfl rfl (pf_then (pf_block (pf_then (pf_then (pf_block (pf_then pf_body)))))) (by kernel_rfl) (fun ac A79 => ?_)
      refine r_take 10 (.agg #[.int .i64 (zv (opE mw md ms mt (nthI el (k * 2)) (nthI el (k * 2 + 1)) tx tz) (leLo (wyC mw md ms mt (nthI el (k * 2)) (nthI el (k * 2 + 1)) tx tz))), .int .i64 (zv (opE mw md ms mt (nthI el (k * 2)) (nthI el (k * 2 + 1)) tx tz) (mHi (wyC mw md ms mt (nthI el (k * 2)) (nthI el (k * 2 + 1)) tx tz)))]) A79 T78 (g_extract (u := .tuple #[.agg #[.int .i64 (zv (opE mw md ms mt (nthI el (k * 2)) (nthI el (k * 2 + 1)) tx tz) (leLo (wyC mw md ms mt (nthI el (k * 2)) (nthI el (k * 2 + 1)) tx tz))), .int .i64 (zv (opE mw md ms mt (nthI el (k * 2)) (nthI el (k * 2 + 1)) tx tz) (mHi (wyC mw md ms mt (nthI el (k * 2)) (nthI el (k * 2 + 1)) tx tz)))], .int .i64 (opE mw md ms mt (nthI el (k * 2)) (nthI el (k * 2 + 1)) tx tz)]) (by kernel_rfl) (fun _ => by kernel_rfl)) rfl rfl rfl (pf_then (pf_block (pf_then (pf_then (pf_block (pf_then pf_body)))))) (by kernel_rfl) (fun ac A80 => ?_)
      refine r_take 11 (.int .i64 (opE mw md ms mt (nthI el (k * 2)) (nthI el (k * 2 + 1)) tx tz)) A80 T78 (g_extract (u := .tuple #[.agg #[.int .i64 (zv (opE mw md ms mt (nthI el (k * 2)) (nthI el (k * 2 + 1)) tx tz) (leLo (wyC mw md ms mt (nthI el (k * 2)) (nthI el (k * 2 + 1)) tx tz))), .int .i64 (zv (opE mw md ms mt (nthI el (k * 2)) (nthI el (k * 2 + 1)) tx tz) (mHi (wyC mw md ms mt (nthI el (k * 2)) (nthI el (k * 2 + 1)) tx tz)))], .int .i64 (opE mw md ms mt (nthI el (k * 2)) (nthI el (k * 2 + 1)) tx tz)]) (by kernel_rfl) (fun _ => by kernel_rfl)) rfl rfl rfl (pf_then (pf_block (pf_then (pf_then (pf_block (pf_then pf_body)))))) (by kernel_rfl) (fun ac A81 => ?_)
      refine r_1 (i := 13) (by kernel_rfl) ?_
      refine rs_store (g := g73) (off := 0) (v := .agg #[.int .i64 (zv (opE mw md ms mt (nthI el (k * 2)) (nthI el (k * 2 + 1)) tx tz) (leLo (wyC mw md ms mt (nthI el (k * 2)) (nthI el (k * 2 + 1)) tx tz))), .int .i64 (zv (opE mw md ms mt (nthI el (k * 2)) (nthI el (k * 2 + 1)) tx tz) (mHi (wyC mw md ms mt (nthI el (k * 2)) (nthI el (k * 2 + 1)) tx tz)))]) 0 (#[.int .i64 (zv (opE mw md ms mt (nthI el (k * 2)) (nthI el (k * 2 + 1)) tx tz) (leLo (wyC mw md ms mt (nthI el (k * 2)) (nthI el (k * 2 + 1)) tx tz))), .int .i64 (zv (opE mw md ms mt (nthI el (k * 2)) (nthI el (k * 2 + 1)) tx tz) (mHi (wyC mw md ms mt (nthI el (k * 2)) (nthI el (k * 2 + 1)) tx tz)))]) A81 S76 (sub_skip sub_all) sub_all (by kernel_rfl) (by kernel_rfl) rfl (by kernel_rfl) rfl rfl (fun wc S83 => ?_)
      have T85 := S83.sub (sub_skip sub_all) sub_all
      refine r_take 14 (.int .i64 (opE mw md ms mt (nthI el (k * 2)) (nthI el (k * 2 + 1)) tx tz)) A81 T85 (g_assign (by kernel_rfl)) rfl rfl rfl (pf_then (pf_block (pf_then (pf_then (pf_block (pf_then pf_body)))))) (by kernel_rfl) (fun ac A86 => ?_)
      refine r_done (by kernel_rfl) ?_
      refine n_then ?_
      refine wp_seq ?_
      refine wp_seq ?_
      refine wp_region_lit ?_
      refine s_one (.int .i64 (opE mw md ms mt (nthI el (k * 2)) (nthI el (k * 2 + 1)) tx tz)) A86 S83 (g_move (by kernel_rfl)) rfl (fun ac A87 => ?_)
      refine s_one (.bool (decide (opE mw md ms mt (nthI el (k * 2)) (nthI el (k * 2 + 1)) tx tz ≠ 0))) A87 S83 (g_bin (u := .int .i64 (opE mw md ms mt (nthI el (k * 2)) (nthI el (k * 2 + 1)) tx tz)) (k := .int .i64 0) (by kernel_rfl) (by kernel_rfl) (fun _ => by kernel_rfl) b_neq) rfl (fun ac A88 => ?_)
      refine s_one (.bool (decide (opE mw md ms mt (nthI el (k * 2)) (nthI el (k * 2 + 1)) tx tz ≠ 0))) A88 S83 (g_move (by kernel_rfl)) rfl (fun ac A89 => ?_)
      refine s_want (dj := 31) (b := (decide (opE mw md ms mt (nthI el (k * 2)) (nthI el (k * 2 + 1)) tx tz ≠ 0))) A89 (by kernel_rfl) (by kernel_rfl) (decide_eq_false (fun hh => hh (way_ok h0.2.2.1 (elE_0 (h0.2.1 k (by omega))) hpl))) ?_
      refine s_one (.pointer (some ⟨g73, 0, none⟩)) A89 S83 (g_field (u := .pointer (some ⟨g73, 0, none⟩)) (by kernel_rfl) (fun _ => by kernel_rfl)) rfl (fun ac A90 => ?_)
      refine s_want (dj := 31) (b := (decide (opE mw md ms mt (nthI el (k * 2)) (nthI el (k * 2 + 1)) tx tz ≠ 0))) A90 (by kernel_rfl) (by kernel_rfl) (decide_eq_false (fun hh => hh (way_ok h0.2.2.1 (elE_0 (h0.2.1 k (by omega))) hpl))) ?_
      refine s_one (.int .i64 (zv (opE mw md ms mt (nthI el (k * 2)) (nthI el (k * 2 + 1)) tx tz) (leLo (wyC mw md ms mt (nthI el (k * 2)) (nthI el (k * 2 + 1)) tx tz)))) A90 S83 (g_load (g := g73) (off := 0) 0 (by kernel_rfl) rfl (by kernel_rfl)) rfl (fun ac A91 => ?_)
      refine s_want (dj := 31) (b := (decide (opE mw md ms mt (nthI el (k * 2)) (nthI el (k * 2 + 1)) tx tz ≠ 0))) A91 (by kernel_rfl) (by kernel_rfl) (decide_eq_false (fun hh => hh (way_ok h0.2.2.1 (elE_0 (h0.2.1 k (by omega))) hpl))) ?_
      refine s_one (.pointer (some ⟨g73, 1, none⟩)) A91 S83 (g_field (u := .pointer (some ⟨g73, 0, none⟩)) (by kernel_rfl) (fun _ => by kernel_rfl)) rfl (fun ac A92 => ?_)
      refine s_want (dj := 31) (b := (decide (opE mw md ms mt (nthI el (k * 2)) (nthI el (k * 2 + 1)) tx tz ≠ 0))) A92 (by kernel_rfl) (by kernel_rfl) (decide_eq_false (fun hh => hh (way_ok h0.2.2.1 (elE_0 (h0.2.1 k (by omega))) hpl))) ?_
      refine s_one (.int .i64 (zv (opE mw md ms mt (nthI el (k * 2)) (nthI el (k * 2 + 1)) tx tz) (mHi (wyC mw md ms mt (nthI el (k * 2)) (nthI el (k * 2 + 1)) tx tz)))) A92 S83 (g_load (g := g73) (off := 1) 0 (by kernel_rfl) rfl (by kernel_rfl)) rfl (fun ac A93 => ?_)
      refine s_want (dj := 31) (b := (decide (opE mw md ms mt (nthI el (k * 2)) (nthI el (k * 2 + 1)) tx tz ≠ 0))) A93 (by kernel_rfl) (by kernel_rfl) (decide_eq_false (fun hh => hh (way_ok h0.2.2.1 (elE_0 (h0.2.1 k (by omega))) hpl))) ?_
      refine s_one (.bool (decide (zv (opE mw md ms mt (nthI el (k * 2)) (nthI el (k * 2 + 1)) tx tz) (leLo (wyC mw md ms mt (nthI el (k * 2)) (nthI el (k * 2 + 1)) tx tz)) > zv (opE mw md ms mt (nthI el (k * 2)) (nthI el (k * 2 + 1)) tx tz) (mHi (wyC mw md ms mt (nthI el (k * 2)) (nthI el (k * 2 + 1)) tx tz))))) A93 S83 (g_bin (u := .int .i64 (zv (opE mw md ms mt (nthI el (k * 2)) (nthI el (k * 2 + 1)) tx tz) (leLo (wyC mw md ms mt (nthI el (k * 2)) (nthI el (k * 2 + 1)) tx tz)))) (k := .int .i64 (zv (opE mw md ms mt (nthI el (k * 2)) (nthI el (k * 2 + 1)) tx tz) (mHi (wyC mw md ms mt (nthI el (k * 2)) (nthI el (k * 2 + 1)) tx tz)))) (by kernel_rfl) (by kernel_rfl) (fun _ => by kernel_rfl) (fun _ => by kernel_rfl)) rfl (fun ac A94 => ?_)
      refine s_one (.bool (decide (zv (opE mw md ms mt (nthI el (k * 2)) (nthI el (k * 2 + 1)) tx tz) (leLo (wyC mw md ms mt (nthI el (k * 2)) (nthI el (k * 2 + 1)) tx tz)) > zv (opE mw md ms mt (nthI el (k * 2)) (nthI el (k * 2 + 1)) tx tz) (mHi (wyC mw md ms mt (nthI el (k * 2)) (nthI el (k * 2 + 1)) tx tz))))) A94 S83 (g_pick_f (b := (decide (opE mw md ms mt (nthI el (k * 2)) (nthI el (k * 2 + 1)) tx tz ≠ 0))) (by kernel_rfl) (decide_eq_false (fun hh => hh (way_ok h0.2.2.1 (elE_0 (h0.2.1 k (by omega))) hpl))) (by kernel_rfl)) rfl (fun ac A95 => ?_)
      refine wpList_nil ?_
      refine n_then ?_
      refine c_f (b := (decide (zv (opE mw md ms mt (nthI el (k * 2)) (nthI el (k * 2 + 1)) tx tz) (leLo (wyC mw md ms mt (nthI el (k * 2)) (nthI el (k * 2 + 1)) tx tz)) > zv (opE mw md ms mt (nthI el (k * 2)) (nthI el (k * 2 + 1)) tx tz) (mHi (wyC mw md ms mt (nthI el (k * 2)) (nthI el (k * 2 + 1)) tx tz))))) A95 (by kernel_rfl) (decide_eq_false (by omega)) ?_
      refine wp_skip ?_
      refine n_then ?_
      refine wp_region_lit ?_
      refine s_one (.int .i64 (wdF (wdK el mw md ms mt tx tz) k)) A95 S83 (g_move (by kernel_rfl)) rfl (fun ac A96 => ?_)
      refine s_one (.pointer (some ⟨g73, 1, none⟩)) A96 S83 (g_field (u := .pointer (some ⟨g73, 0, none⟩)) (by kernel_rfl) (fun _ => by kernel_rfl)) rfl (fun ac A97 => ?_)
      refine s_one (.int .i64 (zv (opE mw md ms mt (nthI el (k * 2)) (nthI el (k * 2 + 1)) tx tz) (mHi (wyC mw md ms mt (nthI el (k * 2)) (nthI el (k * 2 + 1)) tx tz)))) A97 S83 (g_load (g := g73) (off := 1) 0 (by kernel_rfl) rfl (by kernel_rfl)) rfl (fun ac A98 => ?_)
      refine s_one (.pointer (some ⟨g73, 0, none⟩)) A98 S83 (g_field (u := .pointer (some ⟨g73, 0, none⟩)) (by kernel_rfl) (fun _ => by kernel_rfl)) rfl (fun ac A99 => ?_)
      refine s_one (.int .i64 (zv (opE mw md ms mt (nthI el (k * 2)) (nthI el (k * 2 + 1)) tx tz) (leLo (wyC mw md ms mt (nthI el (k * 2)) (nthI el (k * 2 + 1)) tx tz)))) A99 S83 (g_load (g := g73) (off := 0) 0 (by kernel_rfl) rfl (by kernel_rfl)) rfl (fun ac A100 => ?_)
      refine s_one (.int .i64 (zv (opE mw md ms mt (nthI el (k * 2)) (nthI el (k * 2 + 1)) tx tz) (mHi (wyC mw md ms mt (nthI el (k * 2)) (nthI el (k * 2 + 1)) tx tz)) - (zv (opE mw md ms mt (nthI el (k * 2)) (nthI el (k * 2 + 1)) tx tz) (leLo (wyC mw md ms mt (nthI el (k * 2)) (nthI el (k * 2 + 1)) tx tz))))) A100 S83 (g_bin (u := .int .i64 (zv (opE mw md ms mt (nthI el (k * 2)) (nthI el (k * 2 + 1)) tx tz) (mHi (wyC mw md ms mt (nthI el (k * 2)) (nthI el (k * 2 + 1)) tx tz)))) (k := .int .i64 (zv (opE mw md ms mt (nthI el (k * 2)) (nthI el (k * 2 + 1)) tx tz) (leLo (wyC mw md ms mt (nthI el (k * 2)) (nthI el (k * 2 + 1)) tx tz)))) (by kernel_rfl) (by kernel_rfl) (fun _ => by kernel_rfl) (b_sub (by omega))) rfl (fun ac A101 => ?_)
      refine s_one (.int .i64 (mx (wdF (wdK el mw md ms mt tx tz) k) (zv (opE mw md ms mt (nthI el (k * 2)) (nthI el (k * 2 + 1)) tx tz) (mHi (wyC mw md ms mt (nthI el (k * 2)) (nthI el (k * 2 + 1)) tx tz)) - (zv (opE mw md ms mt (nthI el (k * 2)) (nthI el (k * 2 + 1)) tx tz) (leLo (wyC mw md ms mt (nthI el (k * 2)) (nthI el (k * 2 + 1)) tx tz)))))) A101 S83 (g_built (r := [(0, .int .i64 (wdF (wdK el mw md ms mt tx tz) k)), (0, .int .i64 (zv (opE mw md ms mt (nthI el (k * 2)) (nthI el (k * 2 + 1)) tx tz) (mHi (wyC mw md ms mt (nthI el (k * 2)) (nthI el (k * 2 + 1)) tx tz)) - (zv (opE mw md ms mt (nthI el (k * 2)) (nthI el (k * 2 + 1)) tx tz) (leLo (wyC mw md ms mt (nthI el (k * 2)) (nthI el (k * 2 + 1)) tx tz)))))]) (by kernel_rfl) (fun ty cs w => by show (do let x ← Builtin.max_ _ ty #[.int .i64 (wdF (wdK el mw md ms mt tx tz) k), .int .i64 (zv (opE mw md ms mt (nthI el (k * 2)) (nthI el (k * 2 + 1)) tx tz) (mHi (wyC mw md ms mt (nthI el (k * 2)) (nthI el (k * 2 + 1)) tx tz)) - (zv (opE mw md ms mt (nthI el (k * 2)) (nthI el (k * 2 + 1)) tx tz) (leLo (wyC mw md ms mt (nthI el (k * 2)) (nthI el (k * 2 + 1)) tx tz))))]; pure (Next.value x) : Sem Next).run _ w = _; rw [Sem.run_bind, run_max_mx]; rfl)) rfl (fun ac A102 => ?_)
      refine s_one (.int .i64 (mx (wdF (wdK el mw md ms mt tx tz) k) (zv (opE mw md ms mt (nthI el (k * 2)) (nthI el (k * 2 + 1)) tx tz) (mHi (wyC mw md ms mt (nthI el (k * 2)) (nthI el (k * 2 + 1)) tx tz)) - (zv (opE mw md ms mt (nthI el (k * 2)) (nthI el (k * 2 + 1)) tx tz) (leLo (wyC mw md ms mt (nthI el (k * 2)) (nthI el (k * 2 + 1)) tx tz)))))) A102 S83 (g_assign (by kernel_rfl)) rfl (fun ac A103 => ?_)
      refine wpList_nil ?_
      refine n_block ?_
      refine n_then ?_
      refine wp_region_lit ?_
      refine s_one (.int .i64 (k : Int)) A103 S83 (g_move (by kernel_rfl)) rfl (fun ac A104 => ?_)
      refine s_one (.int .i64 ((k : Int) + 1)) A104 S83 (g_bin (u := .int .i64 (k : Int)) (k := .int .i64 1) (by kernel_rfl) (by kernel_rfl) (fun _ => by kernel_rfl) (b_add (by omega))) rfl (fun ac A105 => ?_)
      refine s_one (.int .i64 ((k : Int) + 1)) A105 S83 (g_assign (by kernel_rfl)) rfl (fun ac A106 => ?_)
      refine wpList_nil ?_
      refine n_then ?_
      refine ⟨_, ⟨k + 1, rfl, by omega, (A106.slot (A106.slot (A106.slot (A106.slot (A106.slot (A106.slot A106.nil (v := .int .i64 (mx (wdF (wdK el mw md ms mt tx tz) k) (zv (opE mw md ms mt (nthI el (k * 2)) (nthI el (k * 2 + 1)) tx tz) (mHi (wyC mw md ms mt (nthI el (k * 2)) (nthI el (k * 2 + 1)) tx tz)) - (zv (opE mw md ms mt (nthI el (k * 2)) (nthI el (k * 2 + 1)) tx tz) (leLo (wyC mw md ms mt (nthI el (k * 2)) (nthI el (k * 2 + 1)) tx tz)))))) (by kernel_rfl) rfl) (v := .int .i64 ((k : Int) + 1)) (by kernel_rfl) (congrArg (Value.int .i64) (by omega))) (v := .pointer (some ⟨g7, 0, none⟩)) (by kernel_rfl) rfl) (v := .pointer (some ⟨g3, 0, none⟩)) (by kernel_rfl) rfl) (v := .agg #[.int .i64 tx, .int .i64 tz]) (by kernel_rfl) rfl) (v := .agg #[.slice (some ad31) n ecap, .int .i64 mw, .int .i64 md, .int .i64 ms, .int .i64 mt, .int .i64 ck]) (by kernel_rfl) (by first | rfl | simp)), (St.recell 2 S83 rfl (by rfl)).sub (sub_skip sub_all) sub_all⟩, ?_⟩
      omega
  · have p107 := of_decide_eq_false h21
    refine wp_exit ?_
    refine x_then ?_
    refine x_then ?_
    refine x_hit ?_
    refine n_then ?_
    refine wp_seq ?_
    refine wp_region_lit ?_
    refine s_one (.int .i64 (wdF (wdK el mw md ms mt tx tz) k)) A20 S14 (g_move (by kernel_rfl)) rfl (fun ac A108 => ?_)
    refine s_one (.int .i64 (wdF (wdK el mw md ms mt tx tz) k)) A108 S14 (g_assign (by kernel_rfl)) rfl (fun ac A109 => ?_)
    refine s_one (.bool true) A109 S14 (g_assign (by kernel_rfl)) rfl (fun ac A110 => ?_)
    refine wpList_nil ?_
    refine n_then ?_
    refine wp_ret ?_
    refine fin2 (.int .i64 (wdF (wdK el mw md ms mt tx tz) k)) (.bool true) Try.results8 A110 S14 (rv_tmp (by kernel_rfl)) (rv_tmp (by kernel_rfl)) ⟨?_, S14.kp⟩
    obtain rfl : k = n := by omega
    rfl

end Go.Proofs.Ytfeapeblnnmhlaa
