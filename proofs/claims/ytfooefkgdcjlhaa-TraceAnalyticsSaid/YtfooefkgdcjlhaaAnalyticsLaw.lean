/- The walk of TraceAnalytics: it returns true. -/
import Derived.Test.YtfooefkgdcjlhaaEnv
namespace Go.Proofs.Ytfooefkgdcjlhaa
open Go.RowKit Go.Cpl

theorem anRes_right {xs : List Nat} (h : (firstErr xs 0).2 = 0) : anRes xs = partsL (nums xs) := if_pos h
theorem anRes_wrong {xs : List Nat} (h : (firstErr xs 0).2 ≠ 0) : anRes xs = List.replicate 61 (0, 0) := if_neg h
theorem enRes_right {xs : List Nat} (h : (firstErr xs 0).2 = 0) : enRes xs = sqL (nums xs) := if_pos h
theorem enRes_wrong {xs : List Nat} (h : (firstErr xs 0).2 ≠ 0) : enRes xs = List.replicate 61 0 := if_neg h
theorem eq36 (w : World) : (binOp .eql 36 (.agg (cxs (List.replicate 61 (0, 0)))) (.agg (cxs (List.replicate 61 (0, 0))))).run Try.prog w = .ok (.bool true) w := by kernel_rfl

theorem parts_small {xs : List Nat} (h0 : ∀ k, -2047 ≤ nthI (nums xs) k ∧ nthI (nums xs) k ≤ 2047) (k : Nat) : (nthP (partsL (nums xs)) k).1.natAbs < 16777216 ∧ (nthP (partsL (nums xs)) k).2.natAbs < 16777216 := by
  by_cases hk : k < 61
  · rw [partsL_at hk]
    have := reP_bound h0 k
    have := imP_bound h0 k
    simp only
    omega
  · simp [nthP, List.getElem?_eq_none (show (partsL (nums xs)).length ≤ k by rw [partsL_length]; omega)]

set_option maxRecDepth 100000 in
set_option maxHeartbeats 400000 in
theorem TraceAnalytics_s (l : List Int) (A : Option Addr) (cap n : Nat) (w0 : World) (hn : l.length = n) (hr : IReads w0 A l) :
    Calls Try.prog 4 #[.slice A n cap] w0 fun e w' => e = .returned (.bool true) ∧ Below w0.heap.size w0 w' := by
  have S0 := St.start w0
  refine enter (n := 74) Try.func4 rfl rfl rfl (fun ac A0 => ?_)
  refine wp_seq ?_
  refine wp_region_lit ?_
  refine s_one (.bool false) A0 S0 (g_assign (by kernel_rfl)) rfl (fun ac A1 => ?_)
  refine wpList_nil ?_
  refine n_then ?_
  refine wp_seq ?_
  refine wp_seq ?_
  refine wp_region_lit ?_
  refine s_call (fs := #[]) (cp := #[]) (r := []) #[] (.bool true) A1 S0 (awake_any _) Try.call13 (by kernel_rfl) (by kernel_rfl) (by kernel_rfl) rfl (fun ac wc A2 S3 => ?_)
  refine s_one (.bool false) A2 S3 (g_un (u := .bool true) (by kernel_rfl) (fun _ => by kernel_rfl)) rfl (fun ac A5 => ?_)
  refine wpList_nil ?_
  refine n_then ?_
  refine c_f (b := false) A5 (by kernel_rfl) rfl ?_
  refine wp_skip ?_
  refine n_then ?_
  refine wp_seq ?_
  refine wp_seq ?_
  refine wp_region_lit ?_
  refine s_one (.slice A n cap) A5 S3 (g_move (by kernel_rfl)) rfl (fun ac A6 => ?_)
  refine s_one (.int .i64 (n : Int)) A6 S3 (g_built (r := [(0, .slice A n cap)]) (by kernel_rfl) (fun _ _ _ => by kernel_rfl)) rfl (fun ac A7 => ?_)
  refine s_one (.bool (decide ((n : Int) > 64))) A7 S3 (g_bin (u := .int .i64 (n : Int)) (k := .int .i64 64) (by kernel_rfl) (by kernel_rfl) (fun _ => by kernel_rfl) (fun _ => by kernel_rfl)) rfl (fun ac A8 => ?_)
  refine wpList_nil ?_
  refine n_then ?_
  refine c_ifb (b := (decide ((n : Int) > 64))) A8 (by kernel_rfl) (fun h9 => ?_) (fun h9 => ?_)
  · have p10 := of_decide_eq_true h9
    refine wp_seq ?_
    refine wp_region_lit ?_
    refine s_one (.bool true) A8 S3 (g_assign (by kernel_rfl)) rfl (fun ac A11 => ?_)
    refine wpList_nil ?_
    refine n_then ?_
    refine wp_ret ?_
    refine r_then ?_
    refine fin1 (.bool true) Try.results4 A11 S3 (rv_tmp (by kernel_rfl)) ⟨?_, S3.kp⟩
    rfl
  · have p12 := of_decide_eq_false h9
    refine wp_skip ?_
    refine n_then ?_
    refine wp_seq ?_
    refine wp_region_lit ?_
    refine s_one (.slice A n cap) A8 S3 (g_move (by kernel_rfl)) rfl (fun ac A13 => ?_)
    refine s_call (fs := #[]) (cp := #[]) (r := [(0, .slice A n cap)]) #[.slice A n cap] (.agg (trc (mkT (cuts l) n))) A13 S3 (made_s l A cap n _ hn (hr.kept S3.kp) (by omega)) Try.call16 (by kernel_rfl) (by kernel_rfl) (by kernel_rfl) rfl (fun ac wc A14 S15 => ?_)
    refine s_alloc (trc (List.replicate 64 0)) A14 S15 zero26 rfl (fun g19 ac wc A17 S18 => ?_)
    refine s_store (g := g19) (off := 0) (v := .agg (trc (mkT (cuts l) n))) 0 (trc (mkT (cuts l) n)) A17 S18 (by kernel_rfl) (by kernel_rfl) rfl (putVal_whole ((trc_size _).trans List.length_replicate) ((trc_size _).trans (done_length _ _ _ _)) ⟨⟨_, Try.underlying26, rfl⟩, by kernel_rfl⟩ (trc_one _)) (fun wc S21 => ?_)
    refine wpList_nil ?_
    refine n_then ?_
    refine wp_seq ?_
    refine wp_region_lit ?_
    refine s_one (.agg (trc (mkT (cuts l) n))) A17 S21 (g_loadW (g := g19) 0 (by kernel_rfl) rfl ((trc_size _).trans (done_length _ _ _ _)) ⟨⟨_, Try.underlying26, rfl⟩, by kernel_rfl⟩) rfl (fun ac A23 => ?_)
    refine s_call (fs := #[]) (cp := #[]) (r := [(0, .agg (trc (mkT (cuts l) n)))]) #[.agg (trc (mkT (cuts l) n))] (.tuple #[.agg (cxs (anRes (mkT (cuts l) n))), .int .i64 ((firstErr (mkT (cuts l) n) 0).2)]) A23 S21 (Analytic_any (mkT (cuts l) n) _ (done_length _ _ _ _)) Try.call17 (by kernel_rfl) (by kernel_rfl) (by kernel_rfl) rfl (fun ac wc A24 S25 => ?_)
    refine s_one (.tuple #[.agg (cxs (anRes (mkT (cuts l) n))), .int .i64 ((firstErr (mkT (cuts l) n) 0).2)]) A24 S25 (g_move (by kernel_rfl)) rfl (fun ac A27 => ?_)
    refine s_one (.agg (cxs (anRes (mkT (cuts l) n)))) A27 S25 (g_extract (u := .tuple #[.agg (cxs (anRes (mkT (cuts l) n))), .int .i64 ((firstErr (mkT (cuts l) n) 0).2)]) (by kernel_rfl) (fun _ => by kernel_rfl)) rfl (fun ac A28 => ?_)
    refine s_one (.int .i64 ((firstErr (mkT (cuts l) n) 0).2)) A28 S25 (g_extract (u := .tuple #[.agg (cxs (anRes (mkT (cuts l) n))), .int .i64 ((firstErr (mkT (cuts l) n) 0).2)]) (by kernel_rfl) (fun _ => by kernel_rfl)) rfl (fun ac A29 => ?_)
    refine s_alloc (cxs (List.replicate 61 (0, 0))) A29 S25 zero36 rfl (fun g32 ac wc A30 S31 => ?_)
    refine s_store (g := g32) (off := 0) (v := .agg (cxs (anRes (mkT (cuts l) n)))) 0 (cxs (anRes (mkT (cuts l) n))) A30 S31 (by kernel_rfl) (by kernel_rfl) rfl (putVal_whole ((cxs_size _).trans List.length_replicate) ((cxs_size _).trans (anRes_length _)) ⟨⟨_, Try.underlying36, rfl⟩, by kernel_rfl⟩ (cxs_one _)) (fun wc S34 => ?_)
    refine s_one (.int .i64 ((firstErr (mkT (cuts l) n) 0).2)) A30 S34 (g_assign (by kernel_rfl)) rfl (fun ac A36 => ?_)
    refine wpList_nil ?_
    refine n_then ?_
    refine wp_seq ?_
    refine wp_region_lit ?_
    refine s_one (.agg (trc (mkT (cuts l) n))) A36 S34 (g_loadW (g := g19) 1 (by kernel_rfl) rfl ((trc_size _).trans (done_length _ _ _ _)) ⟨⟨_, Try.underlying26, rfl⟩, by kernel_rfl⟩) rfl (fun ac A37 => ?_)
    refine s_call (fs := #[]) (cp := #[]) (r := [(0, .agg (trc (mkT (cuts l) n)))]) #[.agg (trc (mkT (cuts l) n))] (.tuple #[.agg (ints (enRes (mkT (cuts l) n))), .int .i64 ((firstErr (mkT (cuts l) n) 0).2)]) A37 S34 (Envelope_s (mkT (cuts l) n) _ (done_length _ _ _ _)) Try.call18 (by kernel_rfl) (by kernel_rfl) (by kernel_rfl) rfl (fun ac wc A38 S39 => ?_)
    refine s_one (.tuple #[.agg (ints (enRes (mkT (cuts l) n))), .int .i64 ((firstErr (mkT (cuts l) n) 0).2)]) A38 S39 (g_move (by kernel_rfl)) rfl (fun ac A41 => ?_)
    refine s_one (.agg (ints (enRes (mkT (cuts l) n)))) A41 S39 (g_extract (u := .tuple #[.agg (ints (enRes (mkT (cuts l) n))), .int .i64 ((firstErr (mkT (cuts l) n) 0).2)]) (by kernel_rfl) (fun _ => by kernel_rfl)) rfl (fun ac A42 => ?_)
    refine s_one (.int .i64 ((firstErr (mkT (cuts l) n) 0).2)) A42 S39 (g_extract (u := .tuple #[.agg (ints (enRes (mkT (cuts l) n))), .int .i64 ((firstErr (mkT (cuts l) n) 0).2)]) (by kernel_rfl) (fun _ => by kernel_rfl)) rfl (fun ac A43 => ?_)
    refine s_alloc (ints (List.replicate 61 0)) A43 S39 zero61 rfl (fun g46 ac wc A44 S45 => ?_)
    refine s_store (g := g46) (off := 0) (v := .agg (ints (enRes (mkT (cuts l) n)))) 0 (ints (enRes (mkT (cuts l) n))) A44 S45 (by kernel_rfl) (by kernel_rfl) rfl (putVal_whole ((ints_size _).trans List.length_replicate) ((ints_size _).trans (enRes_length _)) ⟨⟨_, Try.underlying39, rfl⟩, by kernel_rfl⟩ (ints_one _)) (fun wc S48 => ?_)
    refine s_one (.int .i64 ((firstErr (mkT (cuts l) n) 0).2)) A44 S48 (g_assign (by kernel_rfl)) rfl (fun ac A50 => ?_)
    refine wpList_nil ?_
    refine n_then ?_
    refine wp_seq ?_
    refine wp_seq ?_
    refine wp_region_lit ?_
    refine s_one (.agg (trc (mkT (cuts l) n))) A50 S48 (g_loadW (g := g19) 2 (by kernel_rfl) rfl ((trc_size _).trans (done_length _ _ _ _)) ⟨⟨_, Try.underlying26, rfl⟩, by kernel_rfl⟩) rfl (fun ac A51 => ?_)
    refine s_call (fs := #[]) (cp := #[]) (r := [(0, .agg (trc (mkT (cuts l) n)))]) #[.agg (trc (mkT (cuts l) n))] (.tuple #[.int .i64 ((firstErr (mkT (cuts l) n) 0).1 : Int), .int .i64 ((firstErr (mkT (cuts l) n) 0).2)]) A51 S48 (refCheckTrace_any (mkT (cuts l) n) _ (done_length _ _ _ _)) Try.call15 (by kernel_rfl) (by kernel_rfl) (by kernel_rfl) rfl (fun ac wc A52 S53 => ?_)
    refine s_one (.tuple #[.int .i64 ((firstErr (mkT (cuts l) n) 0).1 : Int), .int .i64 ((firstErr (mkT (cuts l) n) 0).2)]) A52 S53 (g_move (by kernel_rfl)) rfl (fun ac A55 => ?_)
    refine s_one (.int .i64 ((firstErr (mkT (cuts l) n) 0).1 : Int)) A55 S53 (g_extract (u := .tuple #[.int .i64 ((firstErr (mkT (cuts l) n) 0).1 : Int), .int .i64 ((firstErr (mkT (cuts l) n) 0).2)]) (by kernel_rfl) (fun _ => by kernel_rfl)) rfl (fun ac A56 => ?_)
    refine s_one (.int .i64 ((firstErr (mkT (cuts l) n) 0).2)) A56 S53 (g_extract (u := .tuple #[.int .i64 ((firstErr (mkT (cuts l) n) 0).1 : Int), .int .i64 ((firstErr (mkT (cuts l) n) 0).2)]) (by kernel_rfl) (fun _ => by kernel_rfl)) rfl (fun ac A57 => ?_)
    refine s_one (.int .i64 ((firstErr (mkT (cuts l) n) 0).1 : Int)) A57 S53 (g_assign (by kernel_rfl)) rfl (fun ac A58 => ?_)
    refine s_one (.int .i64 ((firstErr (mkT (cuts l) n) 0).2)) A58 S53 (g_assign (by kernel_rfl)) rfl (fun ac A59 => ?_)
    refine wpList_nil ?_
    refine n_then ?_
    refine wp_seq ?_
    refine wp_region_lit ?_
    refine s_one (.int .i64 ((firstErr (mkT (cuts l) n) 0).2)) A59 S53 (g_move (by kernel_rfl)) rfl (fun ac A60 => ?_)
    refine s_one (.bool (decide ((firstErr (mkT (cuts l) n) 0).2 ≠ 0))) A60 S53 (g_bin (u := .int .i64 ((firstErr (mkT (cuts l) n) 0).2)) (k := .int .i64 0) (by kernel_rfl) (by kernel_rfl) (fun _ => by kernel_rfl) b_neq) rfl (fun ac A61 => ?_)
    refine wpList_nil ?_
    refine n_then ?_
    refine c_ifb (b := (decide ((firstErr (mkT (cuts l) n) 0).2 ≠ 0))) A61 (by kernel_rfl) (fun h62 => ?_) (fun h62 => ?_)
    · have p63 := of_decide_eq_true h62
      refine wp_seq ?_
      refine wp_region_lit ?_
      refine s_one (.int .i64 ((firstErr (mkT (cuts l) n) 0).2)) A61 S53 (g_move (by kernel_rfl)) rfl (fun ac A64 => ?_)
      refine s_one (.int .i64 ((firstErr (mkT (cuts l) n) 0).2)) A64 S53 (g_move (by kernel_rfl)) rfl (fun ac A65 => ?_)
      refine s_one (.bool (decide ((firstErr (mkT (cuts l) n) 0).2 = (firstErr (mkT (cuts l) n) 0).2))) A65 S53 (g_bin (u := .int .i64 ((firstErr (mkT (cuts l) n) 0).2)) (k := .int .i64 ((firstErr (mkT (cuts l) n) 0).2)) (by kernel_rfl) (by kernel_rfl) (fun _ => by kernel_rfl) b_eql) rfl (fun ac A66 => ?_)
      refine s_one (.bool (decide ((firstErr (mkT (cuts l) n) 0).2 = (firstErr (mkT (cuts l) n) 0).2))) A66 S53 (g_move (by kernel_rfl)) rfl (fun ac A67 => ?_)
      refine s_want (dj := 39) (b := (decide ((firstErr (mkT (cuts l) n) 0).2 = (firstErr (mkT (cuts l) n) 0).2))) A67 (by kernel_rfl) (by kernel_rfl) (decide_eq_true rfl) ?_
      refine s_one (.int .i64 ((firstErr (mkT (cuts l) n) 0).2)) A67 S53 (g_move (by kernel_rfl)) rfl (fun ac A68 => ?_)
      refine s_want (dj := 39) (b := (decide ((firstErr (mkT (cuts l) n) 0).2 = (firstErr (mkT (cuts l) n) 0).2))) A68 (by kernel_rfl) (by kernel_rfl) (decide_eq_true rfl) ?_
      refine s_one (.int .i64 ((firstErr (mkT (cuts l) n) 0).2)) A68 S53 (g_move (by kernel_rfl)) rfl (fun ac A69 => ?_)
      refine s_want (dj := 39) (b := (decide ((firstErr (mkT (cuts l) n) 0).2 = (firstErr (mkT (cuts l) n) 0).2))) A69 (by kernel_rfl) (by kernel_rfl) (decide_eq_true rfl) ?_
      refine s_one (.bool (decide ((firstErr (mkT (cuts l) n) 0).2 = (firstErr (mkT (cuts l) n) 0).2))) A69 S53 (g_bin (u := .int .i64 ((firstErr (mkT (cuts l) n) 0).2)) (k := .int .i64 ((firstErr (mkT (cuts l) n) 0).2)) (by kernel_rfl) (by kernel_rfl) (fun _ => by kernel_rfl) b_eql) rfl (fun ac A70 => ?_)
      refine s_one (.bool (decide ((firstErr (mkT (cuts l) n) 0).2 = (firstErr (mkT (cuts l) n) 0).2))) A70 S53 (g_pick_t (b := (decide ((firstErr (mkT (cuts l) n) 0).2 = (firstErr (mkT (cuts l) n) 0).2))) (by kernel_rfl) (decide_eq_true rfl) (by kernel_rfl)) rfl (fun ac A71 => ?_)
      refine s_one (.bool (decide ((firstErr (mkT (cuts l) n) 0).2 = (firstErr (mkT (cuts l) n) 0).2))) A71 S53 (g_move (by kernel_rfl)) rfl (fun ac A72 => ?_)
      refine s_want (dj := 44) (b := (decide ((firstErr (mkT (cuts l) n) 0).2 = (firstErr (mkT (cuts l) n) 0).2))) A72 (by kernel_rfl) (by kernel_rfl) (decide_eq_true rfl) ?_
      refine s_one (.agg (cxs (anRes (mkT (cuts l) n)))) A72 S53 (g_loadW (g := g32) 1 (by kernel_rfl) rfl ((cxs_size _).trans (anRes_length _)) ⟨⟨_, Try.underlying36, rfl⟩, by kernel_rfl⟩) rfl (fun ac A73 => ?_)
      refine s_want (dj := 44) (b := (decide ((firstErr (mkT (cuts l) n) 0).2 = (firstErr (mkT (cuts l) n) 0).2))) A73 (by kernel_rfl) (by kernel_rfl) (decide_eq_true rfl) ?_
      refine s_one (.agg (cxs (List.replicate 61 (0, 0)))) A73 S53 (g_build (r := []) (by kernel_rfl) (fun _ => by kernel_rfl)) rfl (fun ac A74 => ?_)
      refine s_want (dj := 44) (b := (decide ((firstErr (mkT (cuts l) n) 0).2 = (firstErr (mkT (cuts l) n) 0).2))) A74 (by kernel_rfl) (by kernel_rfl) (decide_eq_true rfl) ?_
      refine s_one (.bool true) A74 S53 (g_bin (u := .agg (cxs (anRes (mkT (cuts l) n)))) (k := .agg (cxs (List.replicate 61 (0, 0)))) (by kernel_rfl) (by kernel_rfl) (fun _ => by kernel_rfl) (fun w => by rw [anRes_wrong p63]; exact eq36 w)) rfl (fun ac A75 => ?_)
      refine s_one (.bool true) A75 S53 (g_pick_t (b := (decide ((firstErr (mkT (cuts l) n) 0).2 = (firstErr (mkT (cuts l) n) 0).2))) (by kernel_rfl) (decide_eq_true rfl) (by kernel_rfl)) rfl (fun ac A76 => ?_)
      refine s_one (.bool true) A76 S53 (g_move (by kernel_rfl)) rfl (fun ac A77 => ?_)
      refine s_want (dj := 49) (b := true) A77 (by kernel_rfl) (by kernel_rfl) rfl ?_
      refine s_one (.agg (ints (enRes (mkT (cuts l) n)))) A77 S53 (g_loadW (g := g46) 0 (by kernel_rfl) rfl ((ints_size _).trans (enRes_length _)) ⟨⟨_, Try.underlying39, rfl⟩, by kernel_rfl⟩) rfl (fun ac A78 => ?_)
      refine s_want (dj := 49) (b := true) A78 (by kernel_rfl) (by kernel_rfl) rfl ?_
      refine s_one (.agg (ints (List.replicate 61 0))) A78 S53 (g_build (r := []) (by kernel_rfl) (fun _ => by kernel_rfl)) rfl (fun ac A79 => ?_)
      refine s_want (dj := 49) (b := true) A79 (by kernel_rfl) (by kernel_rfl) rfl ?_
      refine s_one (.bool (decide (enRes (mkT (cuts l) n) = List.replicate 61 0))) A79 S53 (g_bin (u := .agg (ints (enRes (mkT (cuts l) n)))) (k := .agg (ints (List.replicate 61 0))) (by kernel_rfl) (by kernel_rfl) (fun _ => by kernel_rfl) (q_array (n := 61) (enRes (mkT (cuts l) n)) (List.replicate 61 0) (by kernel_rfl) (enRes_length _) List.length_replicate)) rfl (fun ac A80 => ?_)
      refine s_one (.bool (decide (enRes (mkT (cuts l) n) = List.replicate 61 0))) A80 S53 (g_pick_t (b := true) (by kernel_rfl) rfl (by kernel_rfl)) rfl (fun ac A81 => ?_)
      refine s_one (.bool (decide (enRes (mkT (cuts l) n) = List.replicate 61 0))) A81 S53 (g_assign (by kernel_rfl)) rfl (fun ac A82 => ?_)
      refine wpList_nil ?_
      refine n_then ?_
      refine wp_ret ?_
      refine r_then ?_
      refine fin1 (.bool (decide (enRes (mkT (cuts l) n) = List.replicate 61 0))) Try.results4 A82 S53 (rv_tmp (by kernel_rfl)) ⟨?_, S53.kp⟩
      exact congrArg (fun b => Ending.returned (Value.bool b)) (decide_eq_true (enRes_wrong p63))
    · have p83 := of_decide_eq_false h62
      have e0 : (firstErr (mkT (cuts l) n) 0).2 = 0 := by simpa using h62
      have h0 := nums_range (done_length _ _ _ _) (right_of e0)
      refine wp_skip ?_
      refine n_then ?_
      refine wp_seq ?_
      refine r_begin (w0 := w0) (by kernel_rfl) (S53.sub sub_all sub_all) (fun wc T84 B85 => ?_)
      have S86 := S53.kept B85
      refine r_take 0 (.agg (trc (mkT (cuts l) n))) A61 T84 (g_loadW (g := g19) 2 (by kernel_rfl) rfl ((trc_size _).trans (done_length _ _ _ _)) ⟨⟨_, Try.underlying26, rfl⟩, by kernel_rfl⟩) rfl rfl rfl (pf_then pf_body) (by kernel_rfl) (fun ac A87 => ?_)
      refine r_take 2 (.agg (trc (mkT (cuts l) n))) A87 T84 (g_loadW (g := g19) 2 (by kernel_rfl) rfl ((trc_size _).trans (done_length _ _ _ _)) ⟨⟨_, Try.underlying26, rfl⟩, by kernel_rfl⟩) rfl rfl rfl (pf_then pf_body) (by kernel_rfl) (fun ac A88 => ?_)
      refine r_3 (i := 1) (j := 4) (l := 5) (by kernel_rfl) ?_ ?_ ?_
      · refine rs_call (fs := #[]) (cp := #[]) (r := [(0, .agg (trc (mkT (cuts l) n)))]) #[.agg (trc (mkT (cuts l) n))] (.agg (cxs (partsL (nums (mkT (cuts l) n))))) A88 S86 sub_all sub_all (refAnalytic_s (mkT (cuts l) n) _ (done_length _ _ _ _) (right_of e0)) Try.call19 rfl rfl (by kernel_rfl) (by kernel_rfl) (by kernel_rfl) rfl (fun ac wc A89 S90 => ?_)
        have T92 := S90.sub sub_all sub_all
        refine r_3 (i := 3) (j := 4) (l := 5) (by kernel_rfl) ?_ ?_ ?_
        · refine rs_call (fs := #[]) (cp := #[]) (r := [(0, .agg (trc (mkT (cuts l) n)))]) #[.agg (trc (mkT (cuts l) n))] (.agg (ints (sqL (nums (mkT (cuts l) n))))) A89 S90 sub_all sub_all (refEnvelope_s (mkT (cuts l) n) _ (done_length _ _ _ _) (right_of e0)) Try.call20 rfl rfl (by kernel_rfl) (by kernel_rfl) (by kernel_rfl) rfl (fun ac wc A93 S94 => ?_)
          have T96 := S94.sub sub_all sub_all
          refine r_2 (i := 4) (j := 5) (by kernel_rfl) ?_ ?_
          · refine rs_alloc (cxs (List.replicate 61 (0, 0))) A93 S94 sub_all sub_all zero36 rfl rfl rfl (fun g99 ac wc A97 S98 => ?_)
            have T100 := S98.sub (sub_skip sub_all) sub_all
            refine r_1 (i := 5) (by kernel_rfl) ?_
            refine rs_alloc (ints (List.replicate 61 0)) A97 S98 (sub_skip sub_all) sub_all zero61 rfl rfl rfl (fun g103 ac wc A101 S102 => ?_)
            have T104 := S102.sub (sub_skip (sub_skip sub_all)) sub_all
            refine r_1 (i := 6) (by kernel_rfl) ?_
            refine rs_store (g := g99) (off := 0) (v := .agg (cxs (partsL (nums (mkT (cuts l) n))))) 1 (cxs (partsL (nums (mkT (cuts l) n)))) A101 S102 (sub_skip (sub_skip sub_all)) sub_all (by kernel_rfl) (by kernel_rfl) rfl (putVal_whole ((cxs_size _).trans List.length_replicate) ((cxs_size _).trans (partsL_length _)) ⟨⟨_, Try.underlying36, rfl⟩, by kernel_rfl⟩ (cxs_one _)) rfl rfl (fun wc S106 => ?_)
            have T108 := S106.sub (sub_skip (sub_skip sub_all)) sub_all
            refine r_1 (i := 7) (by kernel_rfl) ?_
            refine rs_store (g := g103) (off := 0) (v := .agg (ints (sqL (nums (mkT (cuts l) n))))) 0 (ints (sqL (nums (mkT (cuts l) n)))) A101 S106 (sub_skip (sub_skip sub_all)) sub_all (by kernel_rfl) (by kernel_rfl) rfl (putVal_whole ((ints_size _).trans List.length_replicate) ((ints_size _).trans (sqL_length _)) ⟨⟨_, Try.underlying39, rfl⟩, by kernel_rfl⟩ (ints_one _)) rfl rfl (fun wc S110 => ?_)
            have T112 := S110.sub (sub_skip (sub_skip sub_all)) sub_all
            refine r_done (by kernel_rfl) ?_
            refine n_then ?_
            refine wp_seq ?_
            refine r_begin (w0 := w0) (by kernel_rfl) (S110.sub sub_all sub_all) (fun wc T113 B114 => ?_)
            have S115 := S110.kept B114
            refine r_take 0 (.int .i64 ((firstErr (mkT (cuts l) n) 0).2)) A101 T113 (g_move (by kernel_rfl)) rfl rfl rfl (pf_then pf_body) (by kernel_rfl) (fun ac A116 => ?_)
            refine r_take 1 (.bool (decide ((firstErr (mkT (cuts l) n) 0).2 = 0))) A116 T113 (g_bin (u := .int .i64 ((firstErr (mkT (cuts l) n) 0).2)) (k := .int .i64 0) (by kernel_rfl) (by kernel_rfl) (fun _ => by kernel_rfl) b_eql) rfl rfl rfl (pf_then pf_body) (by kernel_rfl) (fun ac A117 => ?_)
            refine r_take 2 (.bool (decide ((firstErr (mkT (cuts l) n) 0).2 = 0))) A117 T113 (g_move (by kernel_rfl)) rfl rfl rfl (pf_then pf_body) (by kernel_rfl) (fun ac A118 => ?_)
            refine r_take 3 (.slice (some ⟨g32, 0, none⟩) 61 61) A118 T113 (g_slice (u := .pointer (some ⟨g32, 0, none⟩)) (lo' := none) (hi' := none) (mx' := none) (by kernel_rfl) (by kernel_rfl) (by kernel_rfl) (by kernel_rfl) (fun _ => by kernel_rfl)) rfl (want_t (dj := 60) (b := (decide ((firstErr (mkT (cuts l) n) 0).2 = 0))) A118 rfl (by kernel_rfl) (by kernel_rfl) (decide_eq_true (by omega))) rfl (pf_then pf_body) (by kernel_rfl) (fun ac A119 => ?_)
            refine r_take 4 (.slice (some ⟨g99, 0, none⟩) 61 61) A119 T113 (g_slice (u := .pointer (some ⟨g99, 0, none⟩)) (lo' := none) (hi' := none) (mx' := none) (by kernel_rfl) (by kernel_rfl) (by kernel_rfl) (by kernel_rfl) (fun _ => by kernel_rfl)) rfl (want_t (dj := 60) (b := (decide ((firstErr (mkT (cuts l) n) 0).2 = 0))) A119 rfl (by kernel_rfl) (by kernel_rfl) (decide_eq_true (by omega))) rfl (pf_then pf_body) (by kernel_rfl) (fun ac A120 => ?_)
            refine r_1 (i := 5) (by kernel_rfl) ?_
            refine rs_call (fs := #[]) (cp := #[]) (r := [(0, .slice (some ⟨g32, 0, none⟩) 61 61), (0, .slice (some ⟨g99, 0, none⟩) 61 61)]) #[.slice (some ⟨g32, 0, none⟩) 61 61, .slice (some ⟨g99, 0, none⟩) 61 61] (.bool true) A120 S115 sub_all sub_all (drewB (SameSamples_same _ _ _ _ 61 (partsL (nums (mkT (cuts l) n))) _ (partsL_length _) (by omega) (anRes_right (by omega) ▸ CReads.of_blk (S115.get 3 rfl)) (CReads.of_blk (S115.get 1 rfl)) (fun k => parts_small h0 k))) Try.call21 rfl (want_t (dj := 60) (b := (decide ((firstErr (mkT (cuts l) n) 0).2 = 0))) A120 rfl (by kernel_rfl) (by kernel_rfl) (decide_eq_true (by omega))) (by kernel_rfl) (by kernel_rfl) (by kernel_rfl) rfl (fun ac wc A121 S122 => ?_)
            have T124 := S122.sub sub_all sub_all
            refine r_take 6 (.bool true) A121 T124 (g_pick_t (b := (decide ((firstErr (mkT (cuts l) n) 0).2 = 0))) (by kernel_rfl) (decide_eq_true (by omega)) (by kernel_rfl)) rfl rfl rfl (pf_then pf_body) (by kernel_rfl) (fun ac A125 => ?_)
            refine r_take 7 (.bool true) A125 T124 (g_move (by kernel_rfl)) rfl rfl rfl (pf_then pf_body) (by kernel_rfl) (fun ac A126 => ?_)
            refine r_take 8 (.int .i64 ((firstErr (mkT (cuts l) n) 0).2)) A126 T124 (g_move (by kernel_rfl)) rfl (want_t (dj := 65) (b := true) A126 rfl (by kernel_rfl) (by kernel_rfl) rfl) rfl (pf_then pf_body) (by kernel_rfl) (fun ac A127 => ?_)
            refine r_take 9 (.bool (decide ((firstErr (mkT (cuts l) n) 0).2 = 0))) A127 T124 (g_bin (u := .int .i64 ((firstErr (mkT (cuts l) n) 0).2)) (k := .int .i64 0) (by kernel_rfl) (by kernel_rfl) (fun _ => by kernel_rfl) b_eql) rfl (want_t (dj := 65) (b := true) A127 rfl (by kernel_rfl) (by kernel_rfl) rfl) rfl (pf_then pf_body) (by kernel_rfl) (fun ac A128 => ?_)
            refine r_take 10 (.bool (decide ((firstErr (mkT (cuts l) n) 0).2 = 0))) A128 T124 (g_pick_t (b := true) (by kernel_rfl) rfl (by kernel_rfl)) rfl rfl rfl (pf_then pf_body) (by kernel_rfl) (fun ac A129 => ?_)
            refine r_take 11 (.bool (decide ((firstErr (mkT (cuts l) n) 0).2 = 0))) A129 T124 (g_move (by kernel_rfl)) rfl rfl rfl (pf_then pf_body) (by kernel_rfl) (fun ac A130 => ?_)
            refine r_take 12 (.agg (ints (enRes (mkT (cuts l) n)))) A130 T124 (g_loadW (g := g46) 2 (by kernel_rfl) rfl ((ints_size _).trans (enRes_length _)) ⟨⟨_, Try.underlying39, rfl⟩, by kernel_rfl⟩) rfl (want_t (dj := 69) (b := (decide ((firstErr (mkT (cuts l) n) 0).2 = 0))) A130 rfl (by kernel_rfl) (by kernel_rfl) (decide_eq_true (by omega))) rfl (pf_then pf_body) (by kernel_rfl) (fun ac A131 => ?_)
            refine r_take 13 (.agg (ints (sqL (nums (mkT (cuts l) n))))) A131 T124 (g_loadW (g := g103) 0 (by kernel_rfl) rfl ((ints_size _).trans (sqL_length _)) ⟨⟨_, Try.underlying39, rfl⟩, by kernel_rfl⟩) rfl (want_t (dj := 69) (b := (decide ((firstErr (mkT (cuts l) n) 0).2 = 0))) A131 rfl (by kernel_rfl) (by kernel_rfl) (decide_eq_true (by omega))) rfl (pf_then pf_body) (by kernel_rfl) (fun ac A132 => ?_)
            refine r_take 14 (.bool (decide (enRes (mkT (cuts l) n) = sqL (nums (mkT (cuts l) n))))) A132 T124 (g_bin (u := .agg (ints (enRes (mkT (cuts l) n)))) (k := .agg (ints (sqL (nums (mkT (cuts l) n))))) (by kernel_rfl) (by kernel_rfl) (fun _ => by kernel_rfl) (q_array (n := 61) (enRes (mkT (cuts l) n)) (sqL (nums (mkT (cuts l) n))) (by kernel_rfl) (enRes_length _) (sqL_length _))) rfl (want_t (dj := 69) (b := (decide ((firstErr (mkT (cuts l) n) 0).2 = 0))) A132 rfl (by kernel_rfl) (by kernel_rfl) (decide_eq_true (by omega))) rfl (pf_then pf_body) (by kernel_rfl) (fun ac A133 => ?_)
            refine r_take 15 (.bool (decide (enRes (mkT (cuts l) n) = sqL (nums (mkT (cuts l) n))))) A133 T124 (g_pick_t (b := (decide ((firstErr (mkT (cuts l) n) 0).2 = 0))) (by kernel_rfl) (decide_eq_true (by omega)) (by kernel_rfl)) rfl rfl rfl (pf_then pf_body) (by kernel_rfl) (fun ac A134 => ?_)
            refine r_take 16 (.bool (decide (enRes (mkT (cuts l) n) = sqL (nums (mkT (cuts l) n))))) A134 T124 (g_assign (by kernel_rfl)) rfl rfl rfl (pf_then pf_body) (by kernel_rfl) (fun ac A135 => ?_)
            refine r_done (by kernel_rfl) ?_
            refine n_then ?_
            refine wp_ret ?_
            refine fin1 (.bool (decide (enRes (mkT (cuts l) n) = sqL (nums (mkT (cuts l) n))))) Try.results4 A135 S122 (rv_tmp (by kernel_rfl)) ⟨?_, S122.kp⟩
            exact congrArg (fun b => Ending.returned (Value.bool b)) (decide_eq_true (enRes_right (by omega)))
          · refine rs_alloc (ints (List.replicate 61 0)) A93 S94 sub_all sub_all zero61 rfl rfl rfl (fun g138 ac wc A136 S137 => ?_)
            have T139 := S137.sub (sub_skip sub_all) sub_all
            refine r_1 (i := 4) (by kernel_rfl) ?_
            refine rs_alloc (cxs (List.replicate 61 (0, 0))) A136 S137 (sub_skip sub_all) sub_all zero36 rfl rfl rfl (fun g142 ac wc A140 S141 => ?_)
            have T143 := S141.sub (sub_skip (sub_skip sub_all)) sub_all
            refine r_1 (i := 6) (by kernel_rfl) ?_
            refine rs_store (g := g142) (off := 0) (v := .agg (cxs (partsL (nums (mkT (cuts l) n))))) 0 (cxs (partsL (nums (mkT (cuts l) n)))) A140 S141 (sub_skip (sub_skip sub_all)) sub_all (by kernel_rfl) (by kernel_rfl) rfl (putVal_whole ((cxs_size _).trans List.length_replicate) ((cxs_size _).trans (partsL_length _)) ⟨⟨_, Try.underlying36, rfl⟩, by kernel_rfl⟩ (cxs_one _)) rfl rfl (fun wc S145 => ?_)
            have T147 := S145.sub (sub_skip (sub_skip sub_all)) sub_all
            refine r_1 (i := 7) (by kernel_rfl) ?_
            refine rs_store (g := g138) (off := 0) (v := .agg (ints (sqL (nums (mkT (cuts l) n))))) 1 (ints (sqL (nums (mkT (cuts l) n)))) A140 S145 (sub_skip (sub_skip sub_all)) sub_all (by kernel_rfl) (by kernel_rfl) rfl (putVal_whole ((ints_size _).trans List.length_replicate) ((ints_size _).trans (sqL_length _)) ⟨⟨_, Try.underlying39, rfl⟩, by kernel_rfl⟩ (ints_one _)) rfl rfl (fun wc S149 => ?_)
            have T151 := S149.sub (sub_skip (sub_skip sub_all)) sub_all
            refine r_done (by kernel_rfl) ?_
            refine n_then ?_
            refine wp_seq ?_
            refine r_begin (w0 := w0) (by kernel_rfl) (S149.sub sub_all sub_all) (fun wc T152 B153 => ?_)
            have S154 := S149.kept B153
            refine r_take 0 (.int .i64 ((firstErr (mkT (cuts l) n) 0).2)) A140 T152 (g_move (by kernel_rfl)) rfl rfl rfl (pf_then pf_body) (by kernel_rfl) (fun ac A155 => ?_)
            refine r_take 1 (.bool (decide ((firstErr (mkT (cuts l) n) 0).2 = 0))) A155 T152 (g_bin (u := .int .i64 ((firstErr (mkT (cuts l) n) 0).2)) (k := .int .i64 0) (by kernel_rfl) (by kernel_rfl) (fun _ => by kernel_rfl) b_eql) rfl rfl rfl (pf_then pf_body) (by kernel_rfl) (fun ac A156 => ?_)
            refine r_take 2 (.bool (decide ((firstErr (mkT (cuts l) n) 0).2 = 0))) A156 T152 (g_move (by kernel_rfl)) rfl rfl rfl (pf_then pf_body) (by kernel_rfl) (fun ac A157 => ?_)
            refine r_take 3 (.slice (some ⟨g32, 0, none⟩) 61 61) A157 T152 (g_slice (u := .pointer (some ⟨g32, 0, none⟩)) (lo' := none) (hi' := none) (mx' := none) (by kernel_rfl) (by kernel_rfl) (by kernel_rfl) (by kernel_rfl) (fun _ => by kernel_rfl)) rfl (want_t (dj := 60) (b := (decide ((firstErr (mkT (cuts l) n) 0).2 = 0))) A157 rfl (by kernel_rfl) (by kernel_rfl) (decide_eq_true (by omega))) rfl (pf_then pf_body) (by kernel_rfl) (fun ac A158 => ?_)
            refine r_take 4 (.slice (some ⟨g142, 0, none⟩) 61 61) A158 T152 (g_slice (u := .pointer (some ⟨g142, 0, none⟩)) (lo' := none) (hi' := none) (mx' := none) (by kernel_rfl) (by kernel_rfl) (by kernel_rfl) (by kernel_rfl) (fun _ => by kernel_rfl)) rfl (want_t (dj := 60) (b := (decide ((firstErr (mkT (cuts l) n) 0).2 = 0))) A158 rfl (by kernel_rfl) (by kernel_rfl) (decide_eq_true (by omega))) rfl (pf_then pf_body) (by kernel_rfl) (fun ac A159 => ?_)
            refine r_1 (i := 5) (by kernel_rfl) ?_
            refine rs_call (fs := #[]) (cp := #[]) (r := [(0, .slice (some ⟨g32, 0, none⟩) 61 61), (0, .slice (some ⟨g142, 0, none⟩) 61 61)]) #[.slice (some ⟨g32, 0, none⟩) 61 61, .slice (some ⟨g142, 0, none⟩) 61 61] (.bool true) A159 S154 sub_all sub_all (drewB (SameSamples_same _ _ _ _ 61 (partsL (nums (mkT (cuts l) n))) _ (partsL_length _) (by omega) (anRes_right (by omega) ▸ CReads.of_blk (S154.get 3 rfl)) (CReads.of_blk (S154.get 0 rfl)) (fun k => parts_small h0 k))) Try.call21 rfl (want_t (dj := 60) (b := (decide ((firstErr (mkT (cuts l) n) 0).2 = 0))) A159 rfl (by kernel_rfl) (by kernel_rfl) (decide_eq_true (by omega))) (by kernel_rfl) (by kernel_rfl) (by kernel_rfl) rfl (fun ac wc A160 S161 => ?_)
            have T163 := S161.sub sub_all sub_all
            refine r_take 6 (.bool true) A160 T163 (g_pick_t (b := (decide ((firstErr (mkT (cuts l) n) 0).2 = 0))) (by kernel_rfl) (decide_eq_true (by omega)) (by kernel_rfl)) rfl rfl rfl (pf_then pf_body) (by kernel_rfl) (fun ac A164 => ?_)
            refine r_take 7 (.bool true) A164 T163 (g_move (by kernel_rfl)) rfl rfl rfl (pf_then pf_body) (by kernel_rfl) (fun ac A165 => ?_)
            refine r_take 8 (.int .i64 ((firstErr (mkT (cuts l) n) 0).2)) A165 T163 (g_move (by kernel_rfl)) rfl (want_t (dj := 65) (b := true) A165 rfl (by kernel_rfl) (by kernel_rfl) rfl) rfl (pf_then pf_body) (by kernel_rfl) (fun ac A166 => ?_)
            refine r_take 9 (.bool (decide ((firstErr (mkT (cuts l) n) 0).2 = 0))) A166 T163 (g_bin (u := .int .i64 ((firstErr (mkT (cuts l) n) 0).2)) (k := .int .i64 0) (by kernel_rfl) (by kernel_rfl) (fun _ => by kernel_rfl) b_eql) rfl (want_t (dj := 65) (b := true) A166 rfl (by kernel_rfl) (by kernel_rfl) rfl) rfl (pf_then pf_body) (by kernel_rfl) (fun ac A167 => ?_)
            refine r_take 10 (.bool (decide ((firstErr (mkT (cuts l) n) 0).2 = 0))) A167 T163 (g_pick_t (b := true) (by kernel_rfl) rfl (by kernel_rfl)) rfl rfl rfl (pf_then pf_body) (by kernel_rfl) (fun ac A168 => ?_)
            refine r_take 11 (.bool (decide ((firstErr (mkT (cuts l) n) 0).2 = 0))) A168 T163 (g_move (by kernel_rfl)) rfl rfl rfl (pf_then pf_body) (by kernel_rfl) (fun ac A169 => ?_)
            refine r_take 12 (.agg (ints (enRes (mkT (cuts l) n)))) A169 T163 (g_loadW (g := g46) 2 (by kernel_rfl) rfl ((ints_size _).trans (enRes_length _)) ⟨⟨_, Try.underlying39, rfl⟩, by kernel_rfl⟩) rfl (want_t (dj := 69) (b := (decide ((firstErr (mkT (cuts l) n) 0).2 = 0))) A169 rfl (by kernel_rfl) (by kernel_rfl) (decide_eq_true (by omega))) rfl (pf_then pf_body) (by kernel_rfl) (fun ac A170 => ?_)
            refine r_take 13 (.agg (ints (sqL (nums (mkT (cuts l) n))))) A170 T163 (g_loadW (g := g138) 1 (by kernel_rfl) rfl ((ints_size _).trans (sqL_length _)) ⟨⟨_, Try.underlying39, rfl⟩, by kernel_rfl⟩) rfl (want_t (dj := 69) (b := (decide ((firstErr (mkT (cuts l) n) 0).2 = 0))) A170 rfl (by kernel_rfl) (by kernel_rfl) (decide_eq_true (by omega))) rfl (pf_then pf_body) (by kernel_rfl) (fun ac A171 => ?_)
            refine r_take 14 (.bool (decide (enRes (mkT (cuts l) n) = sqL (nums (mkT (cuts l) n))))) A171 T163 (g_bin (u := .agg (ints (enRes (mkT (cuts l) n)))) (k := .agg (ints (sqL (nums (mkT (cuts l) n))))) (by kernel_rfl) (by kernel_rfl) (fun _ => by kernel_rfl) (q_array (n := 61) (enRes (mkT (cuts l) n)) (sqL (nums (mkT (cuts l) n))) (by kernel_rfl) (enRes_length _) (sqL_length _))) rfl (want_t (dj := 69) (b := (decide ((firstErr (mkT (cuts l) n) 0).2 = 0))) A171 rfl (by kernel_rfl) (by kernel_rfl) (decide_eq_true (by omega))) rfl (pf_then pf_body) (by kernel_rfl) (fun ac A172 => ?_)
            refine r_take 15 (.bool (decide (enRes (mkT (cuts l) n) = sqL (nums (mkT (cuts l) n))))) A172 T163 (g_pick_t (b := (decide ((firstErr (mkT (cuts l) n) 0).2 = 0))) (by kernel_rfl) (decide_eq_true (by omega)) (by kernel_rfl)) rfl rfl rfl (pf_then pf_body) (by kernel_rfl) (fun ac A173 => ?_)
            refine r_take 16 (.bool (decide (enRes (mkT (cuts l) n) = sqL (nums (mkT (cuts l) n))))) A173 T163 (g_assign (by kernel_rfl)) rfl rfl rfl (pf_then pf_body) (by kernel_rfl) (fun ac A174 => ?_)
            refine r_done (by kernel_rfl) ?_
            refine n_then ?_
            refine wp_ret ?_
            refine fin1 (.bool (decide (enRes (mkT (cuts l) n) = sqL (nums (mkT (cuts l) n))))) Try.results4 A174 S161 (rv_tmp (by kernel_rfl)) ⟨?_, S161.kp⟩
            exact congrArg (fun b => Ending.returned (Value.bool b)) (decide_eq_true (enRes_right (by omega)))
        · refine rs_alloc (cxs (List.replicate 61 (0, 0))) A89 S90 sub_all sub_all zero36 rfl rfl rfl (fun g177 ac wc A175 S176 => ?_)
          have T178 := S176.sub (sub_skip sub_all) sub_all
          refine r_2 (i := 3) (j := 5) (by kernel_rfl) ?_ ?_
          · refine rs_call (fs := #[]) (cp := #[]) (r := [(0, .agg (trc (mkT (cuts l) n)))]) #[.agg (trc (mkT (cuts l) n))] (.agg (ints (sqL (nums (mkT (cuts l) n))))) A175 S176 (sub_skip sub_all) sub_all (refEnvelope_s (mkT (cuts l) n) _ (done_length _ _ _ _) (right_of e0)) Try.call20 rfl rfl (by kernel_rfl) (by kernel_rfl) (by kernel_rfl) rfl (fun ac wc A179 S180 => ?_)
            have T182 := S180.sub (sub_skip sub_all) sub_all
            refine r_1 (i := 5) (by kernel_rfl) ?_
            refine rs_alloc (ints (List.replicate 61 0)) A179 S180 (sub_skip sub_all) sub_all zero61 rfl rfl rfl (fun g185 ac wc A183 S184 => ?_)
            have T186 := S184.sub (sub_skip (sub_skip sub_all)) sub_all
            refine r_1 (i := 6) (by kernel_rfl) ?_
            refine rs_store (g := g177) (off := 0) (v := .agg (cxs (partsL (nums (mkT (cuts l) n))))) 1 (cxs (partsL (nums (mkT (cuts l) n)))) A183 S184 (sub_skip (sub_skip sub_all)) sub_all (by kernel_rfl) (by kernel_rfl) rfl (putVal_whole ((cxs_size _).trans List.length_replicate) ((cxs_size _).trans (partsL_length _)) ⟨⟨_, Try.underlying36, rfl⟩, by kernel_rfl⟩ (cxs_one _)) rfl rfl (fun wc S188 => ?_)
            have T190 := S188.sub (sub_skip (sub_skip sub_all)) sub_all
            refine r_1 (i := 7) (by kernel_rfl) ?_
            refine rs_store (g := g185) (off := 0) (v := .agg (ints (sqL (nums (mkT (cuts l) n))))) 0 (ints (sqL (nums (mkT (cuts l) n)))) A183 S188 (sub_skip (sub_skip sub_all)) sub_all (by kernel_rfl) (by kernel_rfl) rfl (putVal_whole ((ints_size _).trans List.length_replicate) ((ints_size _).trans (sqL_length _)) ⟨⟨_, Try.underlying39, rfl⟩, by kernel_rfl⟩ (ints_one _)) rfl rfl (fun wc S192 => ?_)
            have T194 := S192.sub (sub_skip (sub_skip sub_all)) sub_all
            refine r_done (by kernel_rfl) ?_
            refine n_then ?_
            refine wp_seq ?_
            refine r_begin (w0 := w0) (by kernel_rfl) (S192.sub sub_all sub_all) (fun wc T195 B196 => ?_)
            have S197 := S192.kept B196
            refine r_take 0 (.int .i64 ((firstErr (mkT (cuts l) n) 0).2)) A183 T195 (g_move (by kernel_rfl)) rfl rfl rfl (pf_then pf_body) (by kernel_rfl) (fun ac A198 => ?_)
            refine r_take 1 (.bool (decide ((firstErr (mkT (cuts l) n) 0).2 = 0))) A198 T195 (g_bin (u := .int .i64 ((firstErr (mkT (cuts l) n) 0).2)) (k := .int .i64 0) (by kernel_rfl) (by kernel_rfl) (fun _ => by kernel_rfl) b_eql) rfl rfl rfl (pf_then pf_body) (by kernel_rfl) (fun ac A199 => ?_)
            refine r_take 2 (.bool (decide ((firstErr (mkT (cuts l) n) 0).2 = 0))) A199 T195 (g_move (by kernel_rfl)) rfl rfl rfl (pf_then pf_body) (by kernel_rfl) (fun ac A200 => ?_)
            refine r_take 3 (.slice (some ⟨g32, 0, none⟩) 61 61) A200 T195 (g_slice (u := .pointer (some ⟨g32, 0, none⟩)) (lo' := none) (hi' := none) (mx' := none) (by kernel_rfl) (by kernel_rfl) (by kernel_rfl) (by kernel_rfl) (fun _ => by kernel_rfl)) rfl (want_t (dj := 60) (b := (decide ((firstErr (mkT (cuts l) n) 0).2 = 0))) A200 rfl (by kernel_rfl) (by kernel_rfl) (decide_eq_true (by omega))) rfl (pf_then pf_body) (by kernel_rfl) (fun ac A201 => ?_)
            refine r_take 4 (.slice (some ⟨g177, 0, none⟩) 61 61) A201 T195 (g_slice (u := .pointer (some ⟨g177, 0, none⟩)) (lo' := none) (hi' := none) (mx' := none) (by kernel_rfl) (by kernel_rfl) (by kernel_rfl) (by kernel_rfl) (fun _ => by kernel_rfl)) rfl (want_t (dj := 60) (b := (decide ((firstErr (mkT (cuts l) n) 0).2 = 0))) A201 rfl (by kernel_rfl) (by kernel_rfl) (decide_eq_true (by omega))) rfl (pf_then pf_body) (by kernel_rfl) (fun ac A202 => ?_)
            refine r_1 (i := 5) (by kernel_rfl) ?_
            refine rs_call (fs := #[]) (cp := #[]) (r := [(0, .slice (some ⟨g32, 0, none⟩) 61 61), (0, .slice (some ⟨g177, 0, none⟩) 61 61)]) #[.slice (some ⟨g32, 0, none⟩) 61 61, .slice (some ⟨g177, 0, none⟩) 61 61] (.bool true) A202 S197 sub_all sub_all (drewB (SameSamples_same _ _ _ _ 61 (partsL (nums (mkT (cuts l) n))) _ (partsL_length _) (by omega) (anRes_right (by omega) ▸ CReads.of_blk (S197.get 3 rfl)) (CReads.of_blk (S197.get 1 rfl)) (fun k => parts_small h0 k))) Try.call21 rfl (want_t (dj := 60) (b := (decide ((firstErr (mkT (cuts l) n) 0).2 = 0))) A202 rfl (by kernel_rfl) (by kernel_rfl) (decide_eq_true (by omega))) (by kernel_rfl) (by kernel_rfl) (by kernel_rfl) rfl (fun ac wc A203 S204 => ?_)
            have T206 := S204.sub sub_all sub_all
            refine r_take 6 (.bool true) A203 T206 (g_pick_t (b := (decide ((firstErr (mkT (cuts l) n) 0).2 = 0))) (by kernel_rfl) (decide_eq_true (by omega)) (by kernel_rfl)) rfl rfl rfl (pf_then pf_body) (by kernel_rfl) (fun ac A207 => ?_)
            refine r_take 7 (.bool true) A207 T206 (g_move (by kernel_rfl)) rfl rfl rfl (pf_then pf_body) (by kernel_rfl) (fun ac A208 => ?_)
            refine r_take 8 (.int .i64 ((firstErr (mkT (cuts l) n) 0).2)) A208 T206 (g_move (by kernel_rfl)) rfl (want_t (dj := 65) (b := true) A208 rfl (by kernel_rfl) (by kernel_rfl) rfl) rfl (pf_then pf_body) (by kernel_rfl) (fun ac A209 => ?_)
            refine r_take 9 (.bool (decide ((firstErr (mkT (cuts l) n) 0).2 = 0))) A209 T206 (g_bin (u := .int .i64 ((firstErr (mkT (cuts l) n) 0).2)) (k := .int .i64 0) (by kernel_rfl) (by kernel_rfl) (fun _ => by kernel_rfl) b_eql) rfl (want_t (dj := 65) (b := true) A209 rfl (by kernel_rfl) (by kernel_rfl) rfl) rfl (pf_then pf_body) (by kernel_rfl) (fun ac A210 => ?_)
            refine r_take 10 (.bool (decide ((firstErr (mkT (cuts l) n) 0).2 = 0))) A210 T206 (g_pick_t (b := true) (by kernel_rfl) rfl (by kernel_rfl)) rfl rfl rfl (pf_then pf_body) (by kernel_rfl) (fun ac A211 => ?_)
            refine r_take 11 (.bool (decide ((firstErr (mkT (cuts l) n) 0).2 = 0))) A211 T206 (g_move (by kernel_rfl)) rfl rfl rfl (pf_then pf_body) (by kernel_rfl) (fun ac A212 => ?_)
            refine r_take 12 (.agg (ints (enRes (mkT (cuts l) n)))) A212 T206 (g_loadW (g := g46) 2 (by kernel_rfl) rfl ((ints_size _).trans (enRes_length _)) ⟨⟨_, Try.underlying39, rfl⟩, by kernel_rfl⟩) rfl (want_t (dj := 69) (b := (decide ((firstErr (mkT (cuts l) n) 0).2 = 0))) A212 rfl (by kernel_rfl) (by kernel_rfl) (decide_eq_true (by omega))) rfl (pf_then pf_body) (by kernel_rfl) (fun ac A213 => ?_)
            refine r_take 13 (.agg (ints (sqL (nums (mkT (cuts l) n))))) A213 T206 (g_loadW (g := g185) 0 (by kernel_rfl) rfl ((ints_size _).trans (sqL_length _)) ⟨⟨_, Try.underlying39, rfl⟩, by kernel_rfl⟩) rfl (want_t (dj := 69) (b := (decide ((firstErr (mkT (cuts l) n) 0).2 = 0))) A213 rfl (by kernel_rfl) (by kernel_rfl) (decide_eq_true (by omega))) rfl (pf_then pf_body) (by kernel_rfl) (fun ac A214 => ?_)
            refine r_take 14 (.bool (decide (enRes (mkT (cuts l) n) = sqL (nums (mkT (cuts l) n))))) A214 T206 (g_bin (u := .agg (ints (enRes (mkT (cuts l) n)))) (k := .agg (ints (sqL (nums (mkT (cuts l) n))))) (by kernel_rfl) (by kernel_rfl) (fun _ => by kernel_rfl) (q_array (n := 61) (enRes (mkT (cuts l) n)) (sqL (nums (mkT (cuts l) n))) (by kernel_rfl) (enRes_length _) (sqL_length _))) rfl (want_t (dj := 69) (b := (decide ((firstErr (mkT (cuts l) n) 0).2 = 0))) A214 rfl (by kernel_rfl) (by kernel_rfl) (decide_eq_true (by omega))) rfl (pf_then pf_body) (by kernel_rfl) (fun ac A215 => ?_)
            refine r_take 15 (.bool (decide (enRes (mkT (cuts l) n) = sqL (nums (mkT (cuts l) n))))) A215 T206 (g_pick_t (b := (decide ((firstErr (mkT (cuts l) n) 0).2 = 0))) (by kernel_rfl) (decide_eq_true (by omega)) (by kernel_rfl)) rfl rfl rfl (pf_then pf_body) (by kernel_rfl) (fun ac A216 => ?_)
            refine r_take 16 (.bool (decide (enRes (mkT (cuts l) n) = sqL (nums (mkT (cuts l) n))))) A216 T206 (g_assign (by kernel_rfl)) rfl rfl rfl (pf_then pf_body) (by kernel_rfl) (fun ac A217 => ?_)
            refine r_done (by kernel_rfl) ?_
            refine n_then ?_
            refine wp_ret ?_
            refine fin1 (.bool (decide (enRes (mkT (cuts l) n) = sqL (nums (mkT (cuts l) n))))) Try.results4 A217 S204 (rv_tmp (by kernel_rfl)) ⟨?_, S204.kp⟩
            exact congrArg (fun b => Ending.returned (Value.bool b)) (decide_eq_true (enRes_right (by omega)))
          · refine rs_alloc (ints (List.replicate 61 0)) A175 S176 (sub_skip sub_all) sub_all zero61 rfl rfl rfl (fun g220 ac wc A218 S219 => ?_)
            have T221 := S219.sub (sub_skip (sub_skip sub_all)) sub_all
            refine r_1 (i := 3) (by kernel_rfl) ?_
            refine rs_call (fs := #[]) (cp := #[]) (r := [(0, .agg (trc (mkT (cuts l) n)))]) #[.agg (trc (mkT (cuts l) n))] (.agg (ints (sqL (nums (mkT (cuts l) n))))) A218 S219 (sub_skip (sub_skip sub_all)) sub_all (refEnvelope_s (mkT (cuts l) n) _ (done_length _ _ _ _) (right_of e0)) Try.call20 rfl rfl (by kernel_rfl) (by kernel_rfl) (by kernel_rfl) rfl (fun ac wc A222 S223 => ?_)
            have T225 := S223.sub (sub_skip (sub_skip sub_all)) sub_all
            refine r_1 (i := 6) (by kernel_rfl) ?_
            refine rs_store (g := g177) (off := 0) (v := .agg (cxs (partsL (nums (mkT (cuts l) n))))) 1 (cxs (partsL (nums (mkT (cuts l) n)))) A222 S223 (sub_skip (sub_skip sub_all)) sub_all (by kernel_rfl) (by kernel_rfl) rfl (putVal_whole ((cxs_size _).trans List.length_replicate) ((cxs_size _).trans (partsL_length _)) ⟨⟨_, Try.underlying36, rfl⟩, by kernel_rfl⟩ (cxs_one _)) rfl rfl (fun wc S227 => ?_)
            have T229 := S227.sub (sub_skip (sub_skip sub_all)) sub_all
            refine r_1 (i := 7) (by kernel_rfl) ?_
            refine rs_store (g := g220) (off := 0) (v := .agg (ints (sqL (nums (mkT (cuts l) n))))) 0 (ints (sqL (nums (mkT (cuts l) n)))) A222 S227 (sub_skip (sub_skip sub_all)) sub_all (by kernel_rfl) (by kernel_rfl) rfl (putVal_whole ((ints_size _).trans List.length_replicate) ((ints_size _).trans (sqL_length _)) ⟨⟨_, Try.underlying39, rfl⟩, by kernel_rfl⟩ (ints_one _)) rfl rfl (fun wc S231 => ?_)
            have T233 := S231.sub (sub_skip (sub_skip sub_all)) sub_all
            refine r_done (by kernel_rfl) ?_
            refine n_then ?_
            refine wp_seq ?_
            refine r_begin (w0 := w0) (by kernel_rfl) (S231.sub sub_all sub_all) (fun wc T234 B235 => ?_)
            have S236 := S231.kept B235
            refine r_take 0 (.int .i64 ((firstErr (mkT (cuts l) n) 0).2)) A222 T234 (g_move (by kernel_rfl)) rfl rfl rfl (pf_then pf_body) (by kernel_rfl) (fun ac A237 => ?_)
            refine r_take 1 (.bool (decide ((firstErr (mkT (cuts l) n) 0).2 = 0))) A237 T234 (g_bin (u := .int .i64 ((firstErr (mkT (cuts l) n) 0).2)) (k := .int .i64 0) (by kernel_rfl) (by kernel_rfl) (fun _ => by kernel_rfl) b_eql) rfl rfl rfl (pf_then pf_body) (by kernel_rfl) (fun ac A238 => ?_)
            refine r_take 2 (.bool (decide ((firstErr (mkT (cuts l) n) 0).2 = 0))) A238 T234 (g_move (by kernel_rfl)) rfl rfl rfl (pf_then pf_body) (by kernel_rfl) (fun ac A239 => ?_)
            refine r_take 3 (.slice (some ⟨g32, 0, none⟩) 61 61) A239 T234 (g_slice (u := .pointer (some ⟨g32, 0, none⟩)) (lo' := none) (hi' := none) (mx' := none) (by kernel_rfl) (by kernel_rfl) (by kernel_rfl) (by kernel_rfl) (fun _ => by kernel_rfl)) rfl (want_t (dj := 60) (b := (decide ((firstErr (mkT (cuts l) n) 0).2 = 0))) A239 rfl (by kernel_rfl) (by kernel_rfl) (decide_eq_true (by omega))) rfl (pf_then pf_body) (by kernel_rfl) (fun ac A240 => ?_)
            refine r_take 4 (.slice (some ⟨g177, 0, none⟩) 61 61) A240 T234 (g_slice (u := .pointer (some ⟨g177, 0, none⟩)) (lo' := none) (hi' := none) (mx' := none) (by kernel_rfl) (by kernel_rfl) (by kernel_rfl) (by kernel_rfl) (fun _ => by kernel_rfl)) rfl (want_t (dj := 60) (b := (decide ((firstErr (mkT (cuts l) n) 0).2 = 0))) A240 rfl (by kernel_rfl) (by kernel_rfl) (decide_eq_true (by omega))) rfl (pf_then pf_body) (by kernel_rfl) (fun ac A241 => ?_)
            refine r_1 (i := 5) (by kernel_rfl) ?_
            refine rs_call (fs := #[]) (cp := #[]) (r := [(0, .slice (some ⟨g32, 0, none⟩) 61 61), (0, .slice (some ⟨g177, 0, none⟩) 61 61)]) #[.slice (some ⟨g32, 0, none⟩) 61 61, .slice (some ⟨g177, 0, none⟩) 61 61] (.bool true) A241 S236 sub_all sub_all (drewB (SameSamples_same _ _ _ _ 61 (partsL (nums (mkT (cuts l) n))) _ (partsL_length _) (by omega) (anRes_right (by omega) ▸ CReads.of_blk (S236.get 3 rfl)) (CReads.of_blk (S236.get 1 rfl)) (fun k => parts_small h0 k))) Try.call21 rfl (want_t (dj := 60) (b := (decide ((firstErr (mkT (cuts l) n) 0).2 = 0))) A241 rfl (by kernel_rfl) (by kernel_rfl) (decide_eq_true (by omega))) (by kernel_rfl) (by kernel_rfl) (by kernel_rfl) rfl (fun ac wc A242 S243 => ?_)
            have T245 := S243.sub sub_all sub_all
            refine r_take 6 (.bool true) A242 T245 (g_pick_t (b := (decide ((firstErr (mkT (cuts l) n) 0).2 = 0))) (by kernel_rfl) (decide_eq_true (by omega)) (by kernel_rfl)) rfl rfl rfl (pf_then pf_body) (by kernel_rfl) (fun ac A246 => ?_)
            refine r_take 7 (.bool true) A246 T245 (g_move (by kernel_rfl)) rfl rfl rfl (pf_then pf_body) (by kernel_rfl) (fun ac A247 => ?_)
            refine r_take 8 (.int .i64 ((firstErr (mkT (cuts l) n) 0).2)) A247 T245 (g_move (by kernel_rfl)) rfl (want_t (dj := 65) (b := true) A247 rfl (by kernel_rfl) (by kernel_rfl) rfl) rfl (pf_then pf_body) (by kernel_rfl) (fun ac A248 => ?_)
            refine r_take 9 (.bool (decide ((firstErr (mkT (cuts l) n) 0).2 = 0))) A248 T245 (g_bin (u := .int .i64 ((firstErr (mkT (cuts l) n) 0).2)) (k := .int .i64 0) (by kernel_rfl) (by kernel_rfl) (fun _ => by kernel_rfl) b_eql) rfl (want_t (dj := 65) (b := true) A248 rfl (by kernel_rfl) (by kernel_rfl) rfl) rfl (pf_then pf_body) (by kernel_rfl) (fun ac A249 => ?_)
            refine r_take 10 (.bool (decide ((firstErr (mkT (cuts l) n) 0).2 = 0))) A249 T245 (g_pick_t (b := true) (by kernel_rfl) rfl (by kernel_rfl)) rfl rfl rfl (pf_then pf_body) (by kernel_rfl) (fun ac A250 => ?_)
            refine r_take 11 (.bool (decide ((firstErr (mkT (cuts l) n) 0).2 = 0))) A250 T245 (g_move (by kernel_rfl)) rfl rfl rfl (pf_then pf_body) (by kernel_rfl) (fun ac A251 => ?_)
            refine r_take 12 (.agg (ints (enRes (mkT (cuts l) n)))) A251 T245 (g_loadW (g := g46) 2 (by kernel_rfl) rfl ((ints_size _).trans (enRes_length _)) ⟨⟨_, Try.underlying39, rfl⟩, by kernel_rfl⟩) rfl (want_t (dj := 69) (b := (decide ((firstErr (mkT (cuts l) n) 0).2 = 0))) A251 rfl (by kernel_rfl) (by kernel_rfl) (decide_eq_true (by omega))) rfl (pf_then pf_body) (by kernel_rfl) (fun ac A252 => ?_)
            refine r_take 13 (.agg (ints (sqL (nums (mkT (cuts l) n))))) A252 T245 (g_loadW (g := g220) 0 (by kernel_rfl) rfl ((ints_size _).trans (sqL_length _)) ⟨⟨_, Try.underlying39, rfl⟩, by kernel_rfl⟩) rfl (want_t (dj := 69) (b := (decide ((firstErr (mkT (cuts l) n) 0).2 = 0))) A252 rfl (by kernel_rfl) (by kernel_rfl) (decide_eq_true (by omega))) rfl (pf_then pf_body) (by kernel_rfl) (fun ac A253 => ?_)
            refine r_take 14 (.bool (decide (enRes (mkT (cuts l) n) = sqL (nums (mkT (cuts l) n))))) A253 T245 (g_bin (u := .agg (ints (enRes (mkT (cuts l) n)))) (k := .agg (ints (sqL (nums (mkT (cuts l) n))))) (by kernel_rfl) (by kernel_rfl) (fun _ => by kernel_rfl) (q_array (n := 61) (enRes (mkT (cuts l) n)) (sqL (nums (mkT (cuts l) n))) (by kernel_rfl) (enRes_length _) (sqL_length _))) rfl (want_t (dj := 69) (b := (decide ((firstErr (mkT (cuts l) n) 0).2 = 0))) A253 rfl (by kernel_rfl) (by kernel_rfl) (decide_eq_true (by omega))) rfl (pf_then pf_body) (by kernel_rfl) (fun ac A254 => ?_)
            refine r_take 15 (.bool (decide (enRes (mkT (cuts l) n) = sqL (nums (mkT (cuts l) n))))) A254 T245 (g_pick_t (b := (decide ((firstErr (mkT (cuts l) n) 0).2 = 0))) (by kernel_rfl) (decide_eq_true (by omega)) (by kernel_rfl)) rfl rfl rfl (pf_then pf_body) (by kernel_rfl) (fun ac A255 => ?_)
            refine r_take 16 (.bool (decide (enRes (mkT (cuts l) n) = sqL (nums (mkT (cuts l) n))))) A255 T245 (g_assign (by kernel_rfl)) rfl rfl rfl (pf_then pf_body) (by kernel_rfl) (fun ac A256 => ?_)
            refine r_done (by kernel_rfl) ?_
            refine n_then ?_
            refine wp_ret ?_
            refine fin1 (.bool (decide (enRes (mkT (cuts l) n) = sqL (nums (mkT (cuts l) n))))) Try.results4 A256 S243 (rv_tmp (by kernel_rfl)) ⟨?_, S243.kp⟩
            exact congrArg (fun b => Ending.returned (Value.bool b)) (decide_eq_true (enRes_right (by omega)))
        · refine rs_alloc (ints (List.replicate 61 0)) A89 S90 sub_all sub_all zero61 rfl rfl rfl (fun g259 ac wc A257 S258 => ?_)
          have T260 := S258.sub (sub_skip sub_all) sub_all
          refine r_2 (i := 3) (j := 4) (by kernel_rfl) ?_ ?_
          · refine rs_call (fs := #[]) (cp := #[]) (r := [(0, .agg (trc (mkT (cuts l) n)))]) #[.agg (trc (mkT (cuts l) n))] (.agg (ints (sqL (nums (mkT (cuts l) n))))) A257 S258 (sub_skip sub_all) sub_all (refEnvelope_s (mkT (cuts l) n) _ (done_length _ _ _ _) (right_of e0)) Try.call20 rfl rfl (by kernel_rfl) (by kernel_rfl) (by kernel_rfl) rfl (fun ac wc A261 S262 => ?_)
            have T264 := S262.sub (sub_skip sub_all) sub_all
            refine r_1 (i := 4) (by kernel_rfl) ?_
            refine rs_alloc (cxs (List.replicate 61 (0, 0))) A261 S262 (sub_skip sub_all) sub_all zero36 rfl rfl rfl (fun g267 ac wc A265 S266 => ?_)
            have T268 := S266.sub (sub_skip (sub_skip sub_all)) sub_all
            refine r_1 (i := 6) (by kernel_rfl) ?_
            refine rs_store (g := g267) (off := 0) (v := .agg (cxs (partsL (nums (mkT (cuts l) n))))) 0 (cxs (partsL (nums (mkT (cuts l) n)))) A265 S266 (sub_skip (sub_skip sub_all)) sub_all (by kernel_rfl) (by kernel_rfl) rfl (putVal_whole ((cxs_size _).trans List.length_replicate) ((cxs_size _).trans (partsL_length _)) ⟨⟨_, Try.underlying36, rfl⟩, by kernel_rfl⟩ (cxs_one _)) rfl rfl (fun wc S270 => ?_)
            have T272 := S270.sub (sub_skip (sub_skip sub_all)) sub_all
            refine r_1 (i := 7) (by kernel_rfl) ?_
            refine rs_store (g := g259) (off := 0) (v := .agg (ints (sqL (nums (mkT (cuts l) n))))) 1 (ints (sqL (nums (mkT (cuts l) n)))) A265 S270 (sub_skip (sub_skip sub_all)) sub_all (by kernel_rfl) (by kernel_rfl) rfl (putVal_whole ((ints_size _).trans List.length_replicate) ((ints_size _).trans (sqL_length _)) ⟨⟨_, Try.underlying39, rfl⟩, by kernel_rfl⟩ (ints_one _)) rfl rfl (fun wc S274 => ?_)
            have T276 := S274.sub (sub_skip (sub_skip sub_all)) sub_all
            refine r_done (by kernel_rfl) ?_
            refine n_then ?_
            refine wp_seq ?_
            refine r_begin (w0 := w0) (by kernel_rfl) (S274.sub sub_all sub_all) (fun wc T277 B278 => ?_)
            have S279 := S274.kept B278
            refine r_take 0 (.int .i64 ((firstErr (mkT (cuts l) n) 0).2)) A265 T277 (g_move (by kernel_rfl)) rfl rfl rfl (pf_then pf_body) (by kernel_rfl) (fun ac A280 => ?_)
            refine r_take 1 (.bool (decide ((firstErr (mkT (cuts l) n) 0).2 = 0))) A280 T277 (g_bin (u := .int .i64 ((firstErr (mkT (cuts l) n) 0).2)) (k := .int .i64 0) (by kernel_rfl) (by kernel_rfl) (fun _ => by kernel_rfl) b_eql) rfl rfl rfl (pf_then pf_body) (by kernel_rfl) (fun ac A281 => ?_)
            refine r_take 2 (.bool (decide ((firstErr (mkT (cuts l) n) 0).2 = 0))) A281 T277 (g_move (by kernel_rfl)) rfl rfl rfl (pf_then pf_body) (by kernel_rfl) (fun ac A282 => ?_)
            refine r_take 3 (.slice (some ⟨g32, 0, none⟩) 61 61) A282 T277 (g_slice (u := .pointer (some ⟨g32, 0, none⟩)) (lo' := none) (hi' := none) (mx' := none) (by kernel_rfl) (by kernel_rfl) (by kernel_rfl) (by kernel_rfl) (fun _ => by kernel_rfl)) rfl (want_t (dj := 60) (b := (decide ((firstErr (mkT (cuts l) n) 0).2 = 0))) A282 rfl (by kernel_rfl) (by kernel_rfl) (decide_eq_true (by omega))) rfl (pf_then pf_body) (by kernel_rfl) (fun ac A283 => ?_)
            refine r_take 4 (.slice (some ⟨g267, 0, none⟩) 61 61) A283 T277 (g_slice (u := .pointer (some ⟨g267, 0, none⟩)) (lo' := none) (hi' := none) (mx' := none) (by kernel_rfl) (by kernel_rfl) (by kernel_rfl) (by kernel_rfl) (fun _ => by kernel_rfl)) rfl (want_t (dj := 60) (b := (decide ((firstErr (mkT (cuts l) n) 0).2 = 0))) A283 rfl (by kernel_rfl) (by kernel_rfl) (decide_eq_true (by omega))) rfl (pf_then pf_body) (by kernel_rfl) (fun ac A284 => ?_)
            refine r_1 (i := 5) (by kernel_rfl) ?_
            refine rs_call (fs := #[]) (cp := #[]) (r := [(0, .slice (some ⟨g32, 0, none⟩) 61 61), (0, .slice (some ⟨g267, 0, none⟩) 61 61)]) #[.slice (some ⟨g32, 0, none⟩) 61 61, .slice (some ⟨g267, 0, none⟩) 61 61] (.bool true) A284 S279 sub_all sub_all (drewB (SameSamples_same _ _ _ _ 61 (partsL (nums (mkT (cuts l) n))) _ (partsL_length _) (by omega) (anRes_right (by omega) ▸ CReads.of_blk (S279.get 3 rfl)) (CReads.of_blk (S279.get 0 rfl)) (fun k => parts_small h0 k))) Try.call21 rfl (want_t (dj := 60) (b := (decide ((firstErr (mkT (cuts l) n) 0).2 = 0))) A284 rfl (by kernel_rfl) (by kernel_rfl) (decide_eq_true (by omega))) (by kernel_rfl) (by kernel_rfl) (by kernel_rfl) rfl (fun ac wc A285 S286 => ?_)
            have T288 := S286.sub sub_all sub_all
            refine r_take 6 (.bool true) A285 T288 (g_pick_t (b := (decide ((firstErr (mkT (cuts l) n) 0).2 = 0))) (by kernel_rfl) (decide_eq_true (by omega)) (by kernel_rfl)) rfl rfl rfl (pf_then pf_body) (by kernel_rfl) (fun ac A289 => ?_)
            refine r_take 7 (.bool true) A289 T288 (g_move (by kernel_rfl)) rfl rfl rfl (pf_then pf_body) (by kernel_rfl) (fun ac A290 => ?_)
            refine r_take 8 (.int .i64 ((firstErr (mkT (cuts l) n) 0).2)) A290 T288 (g_move (by kernel_rfl)) rfl (want_t (dj := 65) (b := true) A290 rfl (by kernel_rfl) (by kernel_rfl) rfl) rfl (pf_then pf_body) (by kernel_rfl) (fun ac A291 => ?_)
            refine r_take 9 (.bool (decide ((firstErr (mkT (cuts l) n) 0).2 = 0))) A291 T288 (g_bin (u := .int .i64 ((firstErr (mkT (cuts l) n) 0).2)) (k := .int .i64 0) (by kernel_rfl) (by kernel_rfl) (fun _ => by kernel_rfl) b_eql) rfl (want_t (dj := 65) (b := true) A291 rfl (by kernel_rfl) (by kernel_rfl) rfl) rfl (pf_then pf_body) (by kernel_rfl) (fun ac A292 => ?_)
            refine r_take 10 (.bool (decide ((firstErr (mkT (cuts l) n) 0).2 = 0))) A292 T288 (g_pick_t (b := true) (by kernel_rfl) rfl (by kernel_rfl)) rfl rfl rfl (pf_then pf_body) (by kernel_rfl) (fun ac A293 => ?_)
            refine r_take 11 (.bool (decide ((firstErr (mkT (cuts l) n) 0).2 = 0))) A293 T288 (g_move (by kernel_rfl)) rfl rfl rfl (pf_then pf_body) (by kernel_rfl) (fun ac A294 => ?_)
            refine r_take 12 (.agg (ints (enRes (mkT (cuts l) n)))) A294 T288 (g_loadW (g := g46) 2 (by kernel_rfl) rfl ((ints_size _).trans (enRes_length _)) ⟨⟨_, Try.underlying39, rfl⟩, by kernel_rfl⟩) rfl (want_t (dj := 69) (b := (decide ((firstErr (mkT (cuts l) n) 0).2 = 0))) A294 rfl (by kernel_rfl) (by kernel_rfl) (decide_eq_true (by omega))) rfl (pf_then pf_body) (by kernel_rfl) (fun ac A295 => ?_)
            refine r_take 13 (.agg (ints (sqL (nums (mkT (cuts l) n))))) A295 T288 (g_loadW (g := g259) 1 (by kernel_rfl) rfl ((ints_size _).trans (sqL_length _)) ⟨⟨_, Try.underlying39, rfl⟩, by kernel_rfl⟩) rfl (want_t (dj := 69) (b := (decide ((firstErr (mkT (cuts l) n) 0).2 = 0))) A295 rfl (by kernel_rfl) (by kernel_rfl) (decide_eq_true (by omega))) rfl (pf_then pf_body) (by kernel_rfl) (fun ac A296 => ?_)
            refine r_take 14 (.bool (decide (enRes (mkT (cuts l) n) = sqL (nums (mkT (cuts l) n))))) A296 T288 (g_bin (u := .agg (ints (enRes (mkT (cuts l) n)))) (k := .agg (ints (sqL (nums (mkT (cuts l) n))))) (by kernel_rfl) (by kernel_rfl) (fun _ => by kernel_rfl) (q_array (n := 61) (enRes (mkT (cuts l) n)) (sqL (nums (mkT (cuts l) n))) (by kernel_rfl) (enRes_length _) (sqL_length _))) rfl (want_t (dj := 69) (b := (decide ((firstErr (mkT (cuts l) n) 0).2 = 0))) A296 rfl (by kernel_rfl) (by kernel_rfl) (decide_eq_true (by omega))) rfl (pf_then pf_body) (by kernel_rfl) (fun ac A297 => ?_)
            refine r_take 15 (.bool (decide (enRes (mkT (cuts l) n) = sqL (nums (mkT (cuts l) n))))) A297 T288 (g_pick_t (b := (decide ((firstErr (mkT (cuts l) n) 0).2 = 0))) (by kernel_rfl) (decide_eq_true (by omega)) (by kernel_rfl)) rfl rfl rfl (pf_then pf_body) (by kernel_rfl) (fun ac A298 => ?_)
            refine r_take 16 (.bool (decide (enRes (mkT (cuts l) n) = sqL (nums (mkT (cuts l) n))))) A298 T288 (g_assign (by kernel_rfl)) rfl rfl rfl (pf_then pf_body) (by kernel_rfl) (fun ac A299 => ?_)
            refine r_done (by kernel_rfl) ?_
            refine n_then ?_
            refine wp_ret ?_
            refine fin1 (.bool (decide (enRes (mkT (cuts l) n) = sqL (nums (mkT (cuts l) n))))) Try.results4 A299 S286 (rv_tmp (by kernel_rfl)) ⟨?_, S286.kp⟩
            exact congrArg (fun b => Ending.returned (Value.bool b)) (decide_eq_true (enRes_right (by omega)))
          · refine rs_alloc (cxs (List.replicate 61 (0, 0))) A257 S258 (sub_skip sub_all) sub_all zero36 rfl rfl rfl (fun g302 ac wc A300 S301 => ?_)
            have T303 := S301.sub (sub_skip (sub_skip sub_all)) sub_all
            refine r_1 (i := 3) (by kernel_rfl) ?_
            refine rs_call (fs := #[]) (cp := #[]) (r := [(0, .agg (trc (mkT (cuts l) n)))]) #[.agg (trc (mkT (cuts l) n))] (.agg (ints (sqL (nums (mkT (cuts l) n))))) A300 S301 (sub_skip (sub_skip sub_all)) sub_all (refEnvelope_s (mkT (cuts l) n) _ (done_length _ _ _ _) (right_of e0)) Try.call20 rfl rfl (by kernel_rfl) (by kernel_rfl) (by kernel_rfl) rfl (fun ac wc A304 S305 => ?_)
            have T307 := S305.sub (sub_skip (sub_skip sub_all)) sub_all
            refine r_1 (i := 6) (by kernel_rfl) ?_
            refine rs_store (g := g302) (off := 0) (v := .agg (cxs (partsL (nums (mkT (cuts l) n))))) 0 (cxs (partsL (nums (mkT (cuts l) n)))) A304 S305 (sub_skip (sub_skip sub_all)) sub_all (by kernel_rfl) (by kernel_rfl) rfl (putVal_whole ((cxs_size _).trans List.length_replicate) ((cxs_size _).trans (partsL_length _)) ⟨⟨_, Try.underlying36, rfl⟩, by kernel_rfl⟩ (cxs_one _)) rfl rfl (fun wc S309 => ?_)
            have T311 := S309.sub (sub_skip (sub_skip sub_all)) sub_all
            refine r_1 (i := 7) (by kernel_rfl) ?_
            refine rs_store (g := g259) (off := 0) (v := .agg (ints (sqL (nums (mkT (cuts l) n))))) 1 (ints (sqL (nums (mkT (cuts l) n)))) A304 S309 (sub_skip (sub_skip sub_all)) sub_all (by kernel_rfl) (by kernel_rfl) rfl (putVal_whole ((ints_size _).trans List.length_replicate) ((ints_size _).trans (sqL_length _)) ⟨⟨_, Try.underlying39, rfl⟩, by kernel_rfl⟩ (ints_one _)) rfl rfl (fun wc S313 => ?_)
            have T315 := S313.sub (sub_skip (sub_skip sub_all)) sub_all
            refine r_done (by kernel_rfl) ?_
            refine n_then ?_
            refine wp_seq ?_
            refine r_begin (w0 := w0) (by kernel_rfl) (S313.sub sub_all sub_all) (fun wc T316 B317 => ?_)
            have S318 := S313.kept B317
            refine r_take 0 (.int .i64 ((firstErr (mkT (cuts l) n) 0).2)) A304 T316 (g_move (by kernel_rfl)) rfl rfl rfl (pf_then pf_body) (by kernel_rfl) (fun ac A319 => ?_)
            refine r_take 1 (.bool (decide ((firstErr (mkT (cuts l) n) 0).2 = 0))) A319 T316 (g_bin (u := .int .i64 ((firstErr (mkT (cuts l) n) 0).2)) (k := .int .i64 0) (by kernel_rfl) (by kernel_rfl) (fun _ => by kernel_rfl) b_eql) rfl rfl rfl (pf_then pf_body) (by kernel_rfl) (fun ac A320 => ?_)
            refine r_take 2 (.bool (decide ((firstErr (mkT (cuts l) n) 0).2 = 0))) A320 T316 (g_move (by kernel_rfl)) rfl rfl rfl (pf_then pf_body) (by kernel_rfl) (fun ac A321 => ?_)
            refine r_take 3 (.slice (some ⟨g32, 0, none⟩) 61 61) A321 T316 (g_slice (u := .pointer (some ⟨g32, 0, none⟩)) (lo' := none) (hi' := none) (mx' := none) (by kernel_rfl) (by kernel_rfl) (by kernel_rfl) (by kernel_rfl) (fun _ => by kernel_rfl)) rfl (want_t (dj := 60) (b := (decide ((firstErr (mkT (cuts l) n) 0).2 = 0))) A321 rfl (by kernel_rfl) (by kernel_rfl) (decide_eq_true (by omega))) rfl (pf_then pf_body) (by kernel_rfl) (fun ac A322 => ?_)
            refine r_take 4 (.slice (some ⟨g302, 0, none⟩) 61 61) A322 T316 (g_slice (u := .pointer (some ⟨g302, 0, none⟩)) (lo' := none) (hi' := none) (mx' := none) (by kernel_rfl) (by kernel_rfl) (by kernel_rfl) (by kernel_rfl) (fun _ => by kernel_rfl)) rfl (want_t (dj := 60) (b := (decide ((firstErr (mkT (cuts l) n) 0).2 = 0))) A322 rfl (by kernel_rfl) (by kernel_rfl) (decide_eq_true (by omega))) rfl (pf_then pf_body) (by kernel_rfl) (fun ac A323 => ?_)
            refine r_1 (i := 5) (by kernel_rfl) ?_
            refine rs_call (fs := #[]) (cp := #[]) (r := [(0, .slice (some ⟨g32, 0, none⟩) 61 61), (0, .slice (some ⟨g302, 0, none⟩) 61 61)]) #[.slice (some ⟨g32, 0, none⟩) 61 61, .slice (some ⟨g302, 0, none⟩) 61 61] (.bool true) A323 S318 sub_all sub_all (drewB (SameSamples_same _ _ _ _ 61 (partsL (nums (mkT (cuts l) n))) _ (partsL_length _) (by omega) (anRes_right (by omega) ▸ CReads.of_blk (S318.get 3 rfl)) (CReads.of_blk (S318.get 0 rfl)) (fun k => parts_small h0 k))) Try.call21 rfl (want_t (dj := 60) (b := (decide ((firstErr (mkT (cuts l) n) 0).2 = 0))) A323 rfl (by kernel_rfl) (by kernel_rfl) (decide_eq_true (by omega))) (by kernel_rfl) (by kernel_rfl) (by kernel_rfl) rfl (fun ac wc A324 S325 => ?_)
            have T327 := S325.sub sub_all sub_all
            refine r_take 6 (.bool true) A324 T327 (g_pick_t (b := (decide ((firstErr (mkT (cuts l) n) 0).2 = 0))) (by kernel_rfl) (decide_eq_true (by omega)) (by kernel_rfl)) rfl rfl rfl (pf_then pf_body) (by kernel_rfl) (fun ac A328 => ?_)
            refine r_take 7 (.bool true) A328 T327 (g_move (by kernel_rfl)) rfl rfl rfl (pf_then pf_body) (by kernel_rfl) (fun ac A329 => ?_)
            refine r_take 8 (.int .i64 ((firstErr (mkT (cuts l) n) 0).2)) A329 T327 (g_move (by kernel_rfl)) rfl (want_t (dj := 65) (b := true) A329 rfl (by kernel_rfl) (by kernel_rfl) rfl) rfl (pf_then pf_body) (by kernel_rfl) (fun ac A330 => ?_)
            refine r_take 9 (.bool (decide ((firstErr (mkT (cuts l) n) 0).2 = 0))) A330 T327 (g_bin (u := .int .i64 ((firstErr (mkT (cuts l) n) 0).2)) (k := .int .i64 0) (by kernel_rfl) (by kernel_rfl) (fun _ => by kernel_rfl) b_eql) rfl (want_t (dj := 65) (b := true) A330 rfl (by kernel_rfl) (by kernel_rfl) rfl) rfl (pf_then pf_body) (by kernel_rfl) (fun ac A331 => ?_)
            refine r_take 10 (.bool (decide ((firstErr (mkT (cuts l) n) 0).2 = 0))) A331 T327 (g_pick_t (b := true) (by kernel_rfl) rfl (by kernel_rfl)) rfl rfl rfl (pf_then pf_body) (by kernel_rfl) (fun ac A332 => ?_)
            refine r_take 11 (.bool (decide ((firstErr (mkT (cuts l) n) 0).2 = 0))) A332 T327 (g_move (by kernel_rfl)) rfl rfl rfl (pf_then pf_body) (by kernel_rfl) (fun ac A333 => ?_)
            refine r_take 12 (.agg (ints (enRes (mkT (cuts l) n)))) A333 T327 (g_loadW (g := g46) 2 (by kernel_rfl) rfl ((ints_size _).trans (enRes_length _)) ⟨⟨_, Try.underlying39, rfl⟩, by kernel_rfl⟩) rfl (want_t (dj := 69) (b := (decide ((firstErr (mkT (cuts l) n) 0).2 = 0))) A333 rfl (by kernel_rfl) (by kernel_rfl) (decide_eq_true (by omega))) rfl (pf_then pf_body) (by kernel_rfl) (fun ac A334 => ?_)
            refine r_take 13 (.agg (ints (sqL (nums (mkT (cuts l) n))))) A334 T327 (g_loadW (g := g259) 1 (by kernel_rfl) rfl ((ints_size _).trans (sqL_length _)) ⟨⟨_, Try.underlying39, rfl⟩, by kernel_rfl⟩) rfl (want_t (dj := 69) (b := (decide ((firstErr (mkT (cuts l) n) 0).2 = 0))) A334 rfl (by kernel_rfl) (by kernel_rfl) (decide_eq_true (by omega))) rfl (pf_then pf_body) (by kernel_rfl) (fun ac A335 => ?_)
            refine r_take 14 (.bool (decide (enRes (mkT (cuts l) n) = sqL (nums (mkT (cuts l) n))))) A335 T327 (g_bin (u := .agg (ints (enRes (mkT (cuts l) n)))) (k := .agg (ints (sqL (nums (mkT (cuts l) n))))) (by kernel_rfl) (by kernel_rfl) (fun _ => by kernel_rfl) (q_array (n := 61) (enRes (mkT (cuts l) n)) (sqL (nums (mkT (cuts l) n))) (by kernel_rfl) (enRes_length _) (sqL_length _))) rfl (want_t (dj := 69) (b := (decide ((firstErr (mkT (cuts l) n) 0).2 = 0))) A335 rfl (by kernel_rfl) (by kernel_rfl) (decide_eq_true (by omega))) rfl (pf_then pf_body) (by kernel_rfl) (fun ac A336 => ?_)
            refine r_take 15 (.bool (decide (enRes (mkT (cuts l) n) = sqL (nums (mkT (cuts l) n))))) A336 T327 (g_pick_t (b := (decide ((firstErr (mkT (cuts l) n) 0).2 = 0))) (by kernel_rfl) (decide_eq_true (by omega)) (by kernel_rfl)) rfl rfl rfl (pf_then pf_body) (by kernel_rfl) (fun ac A337 => ?_)
            refine r_take 16 (.bool (decide (enRes (mkT (cuts l) n) = sqL (nums (mkT (cuts l) n))))) A337 T327 (g_assign (by kernel_rfl)) rfl rfl rfl (pf_then pf_body) (by kernel_rfl) (fun ac A338 => ?_)
            refine r_done (by kernel_rfl) ?_
            refine n_then ?_
            refine wp_ret ?_
            refine fin1 (.bool (decide (enRes (mkT (cuts l) n) = sqL (nums (mkT (cuts l) n))))) Try.results4 A338 S325 (rv_tmp (by kernel_rfl)) ⟨?_, S325.kp⟩
            exact congrArg (fun b => Ending.returned (Value.bool b)) (decide_eq_true (enRes_right (by omega)))
      · refine rs_alloc (cxs (List.replicate 61 (0, 0))) A88 S86 sub_all sub_all zero36 rfl rfl rfl (fun g341 ac wc A339 S340 => ?_)
        have T342 := S340.sub (sub_skip sub_all) sub_all
        refine r_2 (i := 1) (j := 5) (by kernel_rfl) ?_ ?_
        · refine rs_call (fs := #[]) (cp := #[]) (r := [(0, .agg (trc (mkT (cuts l) n)))]) #[.agg (trc (mkT (cuts l) n))] (.agg (cxs (partsL (nums (mkT (cuts l) n))))) A339 S340 (sub_skip sub_all) sub_all (refAnalytic_s (mkT (cuts l) n) _ (done_length _ _ _ _) (right_of e0)) Try.call19 rfl rfl (by kernel_rfl) (by kernel_rfl) (by kernel_rfl) rfl (fun ac wc A343 S344 => ?_)
          have T346 := S344.sub (sub_skip sub_all) sub_all
          refine r_2 (i := 3) (j := 5) (by kernel_rfl) ?_ ?_
          · refine rs_call (fs := #[]) (cp := #[]) (r := [(0, .agg (trc (mkT (cuts l) n)))]) #[.agg (trc (mkT (cuts l) n))] (.agg (ints (sqL (nums (mkT (cuts l) n))))) A343 S344 (sub_skip sub_all) sub_all (refEnvelope_s (mkT (cuts l) n) _ (done_length _ _ _ _) (right_of e0)) Try.call20 rfl rfl (by kernel_rfl) (by kernel_rfl) (by kernel_rfl) rfl (fun ac wc A347 S348 => ?_)
            have T350 := S348.sub (sub_skip sub_all) sub_all
            refine r_1 (i := 5) (by kernel_rfl) ?_
            refine rs_alloc (ints (List.replicate 61 0)) A347 S348 (sub_skip sub_all) sub_all zero61 rfl rfl rfl (fun g353 ac wc A351 S352 => ?_)
            have T354 := S352.sub (sub_skip (sub_skip sub_all)) sub_all
            refine r_1 (i := 6) (by kernel_rfl) ?_
            refine rs_store (g := g341) (off := 0) (v := .agg (cxs (partsL (nums (mkT (cuts l) n))))) 1 (cxs (partsL (nums (mkT (cuts l) n)))) A351 S352 (sub_skip (sub_skip sub_all)) sub_all (by kernel_rfl) (by kernel_rfl) rfl (putVal_whole ((cxs_size _).trans List.length_replicate) ((cxs_size _).trans (partsL_length _)) ⟨⟨_, Try.underlying36, rfl⟩, by kernel_rfl⟩ (cxs_one _)) rfl rfl (fun wc S356 => ?_)
            have T358 := S356.sub (sub_skip (sub_skip sub_all)) sub_all
            refine r_1 (i := 7) (by kernel_rfl) ?_
            refine rs_store (g := g353) (off := 0) (v := .agg (ints (sqL (nums (mkT (cuts l) n))))) 0 (ints (sqL (nums (mkT (cuts l) n)))) A351 S356 (sub_skip (sub_skip sub_all)) sub_all (by kernel_rfl) (by kernel_rfl) rfl (putVal_whole ((ints_size _).trans List.length_replicate) ((ints_size _).trans (sqL_length _)) ⟨⟨_, Try.underlying39, rfl⟩, by kernel_rfl⟩ (ints_one _)) rfl rfl (fun wc S360 => ?_)
            have T362 := S360.sub (sub_skip (sub_skip sub_all)) sub_all
            refine r_done (by kernel_rfl) ?_
            refine n_then ?_
            refine wp_seq ?_
            refine r_begin (w0 := w0) (by kernel_rfl) (S360.sub sub_all sub_all) (fun wc T363 B364 => ?_)
            have S365 := S360.kept B364
            refine r_take 0 (.int .i64 ((firstErr (mkT (cuts l) n) 0).2)) A351 T363 (g_move (by kernel_rfl)) rfl rfl rfl (pf_then pf_body) (by kernel_rfl) (fun ac A366 => ?_)
            refine r_take 1 (.bool (decide ((firstErr (mkT (cuts l) n) 0).2 = 0))) A366 T363 (g_bin (u := .int .i64 ((firstErr (mkT (cuts l) n) 0).2)) (k := .int .i64 0) (by kernel_rfl) (by kernel_rfl) (fun _ => by kernel_rfl) b_eql) rfl rfl rfl (pf_then pf_body) (by kernel_rfl) (fun ac A367 => ?_)
            refine r_take 2 (.bool (decide ((firstErr (mkT (cuts l) n) 0).2 = 0))) A367 T363 (g_move (by kernel_rfl)) rfl rfl rfl (pf_then pf_body) (by kernel_rfl) (fun ac A368 => ?_)
            refine r_take 3 (.slice (some ⟨g32, 0, none⟩) 61 61) A368 T363 (g_slice (u := .pointer (some ⟨g32, 0, none⟩)) (lo' := none) (hi' := none) (mx' := none) (by kernel_rfl) (by kernel_rfl) (by kernel_rfl) (by kernel_rfl) (fun _ => by kernel_rfl)) rfl (want_t (dj := 60) (b := (decide ((firstErr (mkT (cuts l) n) 0).2 = 0))) A368 rfl (by kernel_rfl) (by kernel_rfl) (decide_eq_true (by omega))) rfl (pf_then pf_body) (by kernel_rfl) (fun ac A369 => ?_)
            refine r_take 4 (.slice (some ⟨g341, 0, none⟩) 61 61) A369 T363 (g_slice (u := .pointer (some ⟨g341, 0, none⟩)) (lo' := none) (hi' := none) (mx' := none) (by kernel_rfl) (by kernel_rfl) (by kernel_rfl) (by kernel_rfl) (fun _ => by kernel_rfl)) rfl (want_t (dj := 60) (b := (decide ((firstErr (mkT (cuts l) n) 0).2 = 0))) A369 rfl (by kernel_rfl) (by kernel_rfl) (decide_eq_true (by omega))) rfl (pf_then pf_body) (by kernel_rfl) (fun ac A370 => ?_)
            refine r_1 (i := 5) (by kernel_rfl) ?_
            refine rs_call (fs := #[]) (cp := #[]) (r := [(0, .slice (some ⟨g32, 0, none⟩) 61 61), (0, .slice (some ⟨g341, 0, none⟩) 61 61)]) #[.slice (some ⟨g32, 0, none⟩) 61 61, .slice (some ⟨g341, 0, none⟩) 61 61] (.bool true) A370 S365 sub_all sub_all (drewB (SameSamples_same _ _ _ _ 61 (partsL (nums (mkT (cuts l) n))) _ (partsL_length _) (by omega) (anRes_right (by omega) ▸ CReads.of_blk (S365.get 3 rfl)) (CReads.of_blk (S365.get 1 rfl)) (fun k => parts_small h0 k))) Try.call21 rfl (want_t (dj := 60) (b := (decide ((firstErr (mkT (cuts l) n) 0).2 = 0))) A370 rfl (by kernel_rfl) (by kernel_rfl) (decide_eq_true (by omega))) (by kernel_rfl) (by kernel_rfl) (by kernel_rfl) rfl (fun ac wc A371 S372 => ?_)
            have T374 := S372.sub sub_all sub_all
            refine r_take 6 (.bool true) A371 T374 (g_pick_t (b := (decide ((firstErr (mkT (cuts l) n) 0).2 = 0))) (by kernel_rfl) (decide_eq_true (by omega)) (by kernel_rfl)) rfl rfl rfl (pf_then pf_body) (by kernel_rfl) (fun ac A375 => ?_)
            refine r_take 7 (.bool true) A375 T374 (g_move (by kernel_rfl)) rfl rfl rfl (pf_then pf_body) (by kernel_rfl) (fun ac A376 => ?_)
            refine r_take 8 (.int .i64 ((firstErr (mkT (cuts l) n) 0).2)) A376 T374 (g_move (by kernel_rfl)) rfl (want_t (dj := 65) (b := true) A376 rfl (by kernel_rfl) (by kernel_rfl) rfl) rfl (pf_then pf_body) (by kernel_rfl) (fun ac A377 => ?_)
            refine r_take 9 (.bool (decide ((firstErr (mkT (cuts l) n) 0).2 = 0))) A377 T374 (g_bin (u := .int .i64 ((firstErr (mkT (cuts l) n) 0).2)) (k := .int .i64 0) (by kernel_rfl) (by kernel_rfl) (fun _ => by kernel_rfl) b_eql) rfl (want_t (dj := 65) (b := true) A377 rfl (by kernel_rfl) (by kernel_rfl) rfl) rfl (pf_then pf_body) (by kernel_rfl) (fun ac A378 => ?_)
            refine r_take 10 (.bool (decide ((firstErr (mkT (cuts l) n) 0).2 = 0))) A378 T374 (g_pick_t (b := true) (by kernel_rfl) rfl (by kernel_rfl)) rfl rfl rfl (pf_then pf_body) (by kernel_rfl) (fun ac A379 => ?_)
            refine r_take 11 (.bool (decide ((firstErr (mkT (cuts l) n) 0).2 = 0))) A379 T374 (g_move (by kernel_rfl)) rfl rfl rfl (pf_then pf_body) (by kernel_rfl) (fun ac A380 => ?_)
            refine r_take 12 (.agg (ints (enRes (mkT (cuts l) n)))) A380 T374 (g_loadW (g := g46) 2 (by kernel_rfl) rfl ((ints_size _).trans (enRes_length _)) ⟨⟨_, Try.underlying39, rfl⟩, by kernel_rfl⟩) rfl (want_t (dj := 69) (b := (decide ((firstErr (mkT (cuts l) n) 0).2 = 0))) A380 rfl (by kernel_rfl) (by kernel_rfl) (decide_eq_true (by omega))) rfl (pf_then pf_body) (by kernel_rfl) (fun ac A381 => ?_)
            refine r_take 13 (.agg (ints (sqL (nums (mkT (cuts l) n))))) A381 T374 (g_loadW (g := g353) 0 (by kernel_rfl) rfl ((ints_size _).trans (sqL_length _)) ⟨⟨_, Try.underlying39, rfl⟩, by kernel_rfl⟩) rfl (want_t (dj := 69) (b := (decide ((firstErr (mkT (cuts l) n) 0).2 = 0))) A381 rfl (by kernel_rfl) (by kernel_rfl) (decide_eq_true (by omega))) rfl (pf_then pf_body) (by kernel_rfl) (fun ac A382 => ?_)
            refine r_take 14 (.bool (decide (enRes (mkT (cuts l) n) = sqL (nums (mkT (cuts l) n))))) A382 T374 (g_bin (u := .agg (ints (enRes (mkT (cuts l) n)))) (k := .agg (ints (sqL (nums (mkT (cuts l) n))))) (by kernel_rfl) (by kernel_rfl) (fun _ => by kernel_rfl) (q_array (n := 61) (enRes (mkT (cuts l) n)) (sqL (nums (mkT (cuts l) n))) (by kernel_rfl) (enRes_length _) (sqL_length _))) rfl (want_t (dj := 69) (b := (decide ((firstErr (mkT (cuts l) n) 0).2 = 0))) A382 rfl (by kernel_rfl) (by kernel_rfl) (decide_eq_true (by omega))) rfl (pf_then pf_body) (by kernel_rfl) (fun ac A383 => ?_)
            refine r_take 15 (.bool (decide (enRes (mkT (cuts l) n) = sqL (nums (mkT (cuts l) n))))) A383 T374 (g_pick_t (b := (decide ((firstErr (mkT (cuts l) n) 0).2 = 0))) (by kernel_rfl) (decide_eq_true (by omega)) (by kernel_rfl)) rfl rfl rfl (pf_then pf_body) (by kernel_rfl) (fun ac A384 => ?_)
            refine r_take 16 (.bool (decide (enRes (mkT (cuts l) n) = sqL (nums (mkT (cuts l) n))))) A384 T374 (g_assign (by kernel_rfl)) rfl rfl rfl (pf_then pf_body) (by kernel_rfl) (fun ac A385 => ?_)
            refine r_done (by kernel_rfl) ?_
            refine n_then ?_
            refine wp_ret ?_
            refine fin1 (.bool (decide (enRes (mkT (cuts l) n) = sqL (nums (mkT (cuts l) n))))) Try.results4 A385 S372 (rv_tmp (by kernel_rfl)) ⟨?_, S372.kp⟩
            exact congrArg (fun b => Ending.returned (Value.bool b)) (decide_eq_true (enRes_right (by omega)))
          · refine rs_alloc (ints (List.replicate 61 0)) A343 S344 (sub_skip sub_all) sub_all zero61 rfl rfl rfl (fun g388 ac wc A386 S387 => ?_)
            have T389 := S387.sub (sub_skip (sub_skip sub_all)) sub_all
            refine r_1 (i := 3) (by kernel_rfl) ?_
            refine rs_call (fs := #[]) (cp := #[]) (r := [(0, .agg (trc (mkT (cuts l) n)))]) #[.agg (trc (mkT (cuts l) n))] (.agg (ints (sqL (nums (mkT (cuts l) n))))) A386 S387 (sub_skip (sub_skip sub_all)) sub_all (refEnvelope_s (mkT (cuts l) n) _ (done_length _ _ _ _) (right_of e0)) Try.call20 rfl rfl (by kernel_rfl) (by kernel_rfl) (by kernel_rfl) rfl (fun ac wc A390 S391 => ?_)
            have T393 := S391.sub (sub_skip (sub_skip sub_all)) sub_all
            refine r_1 (i := 6) (by kernel_rfl) ?_
            refine rs_store (g := g341) (off := 0) (v := .agg (cxs (partsL (nums (mkT (cuts l) n))))) 1 (cxs (partsL (nums (mkT (cuts l) n)))) A390 S391 (sub_skip (sub_skip sub_all)) sub_all (by kernel_rfl) (by kernel_rfl) rfl (putVal_whole ((cxs_size _).trans List.length_replicate) ((cxs_size _).trans (partsL_length _)) ⟨⟨_, Try.underlying36, rfl⟩, by kernel_rfl⟩ (cxs_one _)) rfl rfl (fun wc S395 => ?_)
            have T397 := S395.sub (sub_skip (sub_skip sub_all)) sub_all
            refine r_1 (i := 7) (by kernel_rfl) ?_
            refine rs_store (g := g388) (off := 0) (v := .agg (ints (sqL (nums (mkT (cuts l) n))))) 0 (ints (sqL (nums (mkT (cuts l) n)))) A390 S395 (sub_skip (sub_skip sub_all)) sub_all (by kernel_rfl) (by kernel_rfl) rfl (putVal_whole ((ints_size _).trans List.length_replicate) ((ints_size _).trans (sqL_length _)) ⟨⟨_, Try.underlying39, rfl⟩, by kernel_rfl⟩ (ints_one _)) rfl rfl (fun wc S399 => ?_)
            have T401 := S399.sub (sub_skip (sub_skip sub_all)) sub_all
            refine r_done (by kernel_rfl) ?_
            refine n_then ?_
            refine wp_seq ?_
            refine r_begin (w0 := w0) (by kernel_rfl) (S399.sub sub_all sub_all) (fun wc T402 B403 => ?_)
            have S404 := S399.kept B403
            refine r_take 0 (.int .i64 ((firstErr (mkT (cuts l) n) 0).2)) A390 T402 (g_move (by kernel_rfl)) rfl rfl rfl (pf_then pf_body) (by kernel_rfl) (fun ac A405 => ?_)
            refine r_take 1 (.bool (decide ((firstErr (mkT (cuts l) n) 0).2 = 0))) A405 T402 (g_bin (u := .int .i64 ((firstErr (mkT (cuts l) n) 0).2)) (k := .int .i64 0) (by kernel_rfl) (by kernel_rfl) (fun _ => by kernel_rfl) b_eql) rfl rfl rfl (pf_then pf_body) (by kernel_rfl) (fun ac A406 => ?_)
            refine r_take 2 (.bool (decide ((firstErr (mkT (cuts l) n) 0).2 = 0))) A406 T402 (g_move (by kernel_rfl)) rfl rfl rfl (pf_then pf_body) (by kernel_rfl) (fun ac A407 => ?_)
            refine r_take 3 (.slice (some ⟨g32, 0, none⟩) 61 61) A407 T402 (g_slice (u := .pointer (some ⟨g32, 0, none⟩)) (lo' := none) (hi' := none) (mx' := none) (by kernel_rfl) (by kernel_rfl) (by kernel_rfl) (by kernel_rfl) (fun _ => by kernel_rfl)) rfl (want_t (dj := 60) (b := (decide ((firstErr (mkT (cuts l) n) 0).2 = 0))) A407 rfl (by kernel_rfl) (by kernel_rfl) (decide_eq_true (by omega))) rfl (pf_then pf_body) (by kernel_rfl) (fun ac A408 => ?_)
            refine r_take 4 (.slice (some ⟨g341, 0, none⟩) 61 61) A408 T402 (g_slice (u := .pointer (some ⟨g341, 0, none⟩)) (lo' := none) (hi' := none) (mx' := none) (by kernel_rfl) (by kernel_rfl) (by kernel_rfl) (by kernel_rfl) (fun _ => by kernel_rfl)) rfl (want_t (dj := 60) (b := (decide ((firstErr (mkT (cuts l) n) 0).2 = 0))) A408 rfl (by kernel_rfl) (by kernel_rfl) (decide_eq_true (by omega))) rfl (pf_then pf_body) (by kernel_rfl) (fun ac A409 => ?_)
            refine r_1 (i := 5) (by kernel_rfl) ?_
            refine rs_call (fs := #[]) (cp := #[]) (r := [(0, .slice (some ⟨g32, 0, none⟩) 61 61), (0, .slice (some ⟨g341, 0, none⟩) 61 61)]) #[.slice (some ⟨g32, 0, none⟩) 61 61, .slice (some ⟨g341, 0, none⟩) 61 61] (.bool true) A409 S404 sub_all sub_all (drewB (SameSamples_same _ _ _ _ 61 (partsL (nums (mkT (cuts l) n))) _ (partsL_length _) (by omega) (anRes_right (by omega) ▸ CReads.of_blk (S404.get 3 rfl)) (CReads.of_blk (S404.get 1 rfl)) (fun k => parts_small h0 k))) Try.call21 rfl (want_t (dj := 60) (b := (decide ((firstErr (mkT (cuts l) n) 0).2 = 0))) A409 rfl (by kernel_rfl) (by kernel_rfl) (decide_eq_true (by omega))) (by kernel_rfl) (by kernel_rfl) (by kernel_rfl) rfl (fun ac wc A410 S411 => ?_)
            have T413 := S411.sub sub_all sub_all
            refine r_take 6 (.bool true) A410 T413 (g_pick_t (b := (decide ((firstErr (mkT (cuts l) n) 0).2 = 0))) (by kernel_rfl) (decide_eq_true (by omega)) (by kernel_rfl)) rfl rfl rfl (pf_then pf_body) (by kernel_rfl) (fun ac A414 => ?_)
            refine r_take 7 (.bool true) A414 T413 (g_move (by kernel_rfl)) rfl rfl rfl (pf_then pf_body) (by kernel_rfl) (fun ac A415 => ?_)
            refine r_take 8 (.int .i64 ((firstErr (mkT (cuts l) n) 0).2)) A415 T413 (g_move (by kernel_rfl)) rfl (want_t (dj := 65) (b := true) A415 rfl (by kernel_rfl) (by kernel_rfl) rfl) rfl (pf_then pf_body) (by kernel_rfl) (fun ac A416 => ?_)
            refine r_take 9 (.bool (decide ((firstErr (mkT (cuts l) n) 0).2 = 0))) A416 T413 (g_bin (u := .int .i64 ((firstErr (mkT (cuts l) n) 0).2)) (k := .int .i64 0) (by kernel_rfl) (by kernel_rfl) (fun _ => by kernel_rfl) b_eql) rfl (want_t (dj := 65) (b := true) A416 rfl (by kernel_rfl) (by kernel_rfl) rfl) rfl (pf_then pf_body) (by kernel_rfl) (fun ac A417 => ?_)
            refine r_take 10 (.bool (decide ((firstErr (mkT (cuts l) n) 0).2 = 0))) A417 T413 (g_pick_t (b := true) (by kernel_rfl) rfl (by kernel_rfl)) rfl rfl rfl (pf_then pf_body) (by kernel_rfl) (fun ac A418 => ?_)
            refine r_take 11 (.bool (decide ((firstErr (mkT (cuts l) n) 0).2 = 0))) A418 T413 (g_move (by kernel_rfl)) rfl rfl rfl (pf_then pf_body) (by kernel_rfl) (fun ac A419 => ?_)
            refine r_take 12 (.agg (ints (enRes (mkT (cuts l) n)))) A419 T413 (g_loadW (g := g46) 2 (by kernel_rfl) rfl ((ints_size _).trans (enRes_length _)) ⟨⟨_, Try.underlying39, rfl⟩, by kernel_rfl⟩) rfl (want_t (dj := 69) (b := (decide ((firstErr (mkT (cuts l) n) 0).2 = 0))) A419 rfl (by kernel_rfl) (by kernel_rfl) (decide_eq_true (by omega))) rfl (pf_then pf_body) (by kernel_rfl) (fun ac A420 => ?_)
            refine r_take 13 (.agg (ints (sqL (nums (mkT (cuts l) n))))) A420 T413 (g_loadW (g := g388) 0 (by kernel_rfl) rfl ((ints_size _).trans (sqL_length _)) ⟨⟨_, Try.underlying39, rfl⟩, by kernel_rfl⟩) rfl (want_t (dj := 69) (b := (decide ((firstErr (mkT (cuts l) n) 0).2 = 0))) A420 rfl (by kernel_rfl) (by kernel_rfl) (decide_eq_true (by omega))) rfl (pf_then pf_body) (by kernel_rfl) (fun ac A421 => ?_)
            refine r_take 14 (.bool (decide (enRes (mkT (cuts l) n) = sqL (nums (mkT (cuts l) n))))) A421 T413 (g_bin (u := .agg (ints (enRes (mkT (cuts l) n)))) (k := .agg (ints (sqL (nums (mkT (cuts l) n))))) (by kernel_rfl) (by kernel_rfl) (fun _ => by kernel_rfl) (q_array (n := 61) (enRes (mkT (cuts l) n)) (sqL (nums (mkT (cuts l) n))) (by kernel_rfl) (enRes_length _) (sqL_length _))) rfl (want_t (dj := 69) (b := (decide ((firstErr (mkT (cuts l) n) 0).2 = 0))) A421 rfl (by kernel_rfl) (by kernel_rfl) (decide_eq_true (by omega))) rfl (pf_then pf_body) (by kernel_rfl) (fun ac A422 => ?_)
            refine r_take 15 (.bool (decide (enRes (mkT (cuts l) n) = sqL (nums (mkT (cuts l) n))))) A422 T413 (g_pick_t (b := (decide ((firstErr (mkT (cuts l) n) 0).2 = 0))) (by kernel_rfl) (decide_eq_true (by omega)) (by kernel_rfl)) rfl rfl rfl (pf_then pf_body) (by kernel_rfl) (fun ac A423 => ?_)
            refine r_take 16 (.bool (decide (enRes (mkT (cuts l) n) = sqL (nums (mkT (cuts l) n))))) A423 T413 (g_assign (by kernel_rfl)) rfl rfl rfl (pf_then pf_body) (by kernel_rfl) (fun ac A424 => ?_)
            refine r_done (by kernel_rfl) ?_
            refine n_then ?_
            refine wp_ret ?_
            refine fin1 (.bool (decide (enRes (mkT (cuts l) n) = sqL (nums (mkT (cuts l) n))))) Try.results4 A424 S411 (rv_tmp (by kernel_rfl)) ⟨?_, S411.kp⟩
            exact congrArg (fun b => Ending.returned (Value.bool b)) (decide_eq_true (enRes_right (by omega)))
        · refine rs_alloc (ints (List.replicate 61 0)) A339 S340 (sub_skip sub_all) sub_all zero61 rfl rfl rfl (fun g427 ac wc A425 S426 => ?_)
          have T428 := S426.sub (sub_skip (sub_skip sub_all)) sub_all
          refine r_1 (i := 1) (by kernel_rfl) ?_
          refine rs_call (fs := #[]) (cp := #[]) (r := [(0, .agg (trc (mkT (cuts l) n)))]) #[.agg (trc (mkT (cuts l) n))] (.agg (cxs (partsL (nums (mkT (cuts l) n))))) A425 S426 (sub_skip (sub_skip sub_all)) sub_all (refAnalytic_s (mkT (cuts l) n) _ (done_length _ _ _ _) (right_of e0)) Try.call19 rfl rfl (by kernel_rfl) (by kernel_rfl) (by kernel_rfl) rfl (fun ac wc A429 S430 => ?_)
          have T432 := S430.sub (sub_skip (sub_skip sub_all)) sub_all
          refine r_1 (i := 3) (by kernel_rfl) ?_
          refine rs_call (fs := #[]) (cp := #[]) (r := [(0, .agg (trc (mkT (cuts l) n)))]) #[.agg (trc (mkT (cuts l) n))] (.agg (ints (sqL (nums (mkT (cuts l) n))))) A429 S430 (sub_skip (sub_skip sub_all)) sub_all (refEnvelope_s (mkT (cuts l) n) _ (done_length _ _ _ _) (right_of e0)) Try.call20 rfl rfl (by kernel_rfl) (by kernel_rfl) (by kernel_rfl) rfl (fun ac wc A433 S434 => ?_)
          have T436 := S434.sub (sub_skip (sub_skip sub_all)) sub_all
          refine r_1 (i := 6) (by kernel_rfl) ?_
          refine rs_store (g := g341) (off := 0) (v := .agg (cxs (partsL (nums (mkT (cuts l) n))))) 1 (cxs (partsL (nums (mkT (cuts l) n)))) A433 S434 (sub_skip (sub_skip sub_all)) sub_all (by kernel_rfl) (by kernel_rfl) rfl (putVal_whole ((cxs_size _).trans List.length_replicate) ((cxs_size _).trans (partsL_length _)) ⟨⟨_, Try.underlying36, rfl⟩, by kernel_rfl⟩ (cxs_one _)) rfl rfl (fun wc S438 => ?_)
          have T440 := S438.sub (sub_skip (sub_skip sub_all)) sub_all
          refine r_1 (i := 7) (by kernel_rfl) ?_
          refine rs_store (g := g427) (off := 0) (v := .agg (ints (sqL (nums (mkT (cuts l) n))))) 0 (ints (sqL (nums (mkT (cuts l) n)))) A433 S438 (sub_skip (sub_skip sub_all)) sub_all (by kernel_rfl) (by kernel_rfl) rfl (putVal_whole ((ints_size _).trans List.length_replicate) ((ints_size _).trans (sqL_length _)) ⟨⟨_, Try.underlying39, rfl⟩, by kernel_rfl⟩ (ints_one _)) rfl rfl (fun wc S442 => ?_)
          have T444 := S442.sub (sub_skip (sub_skip sub_all)) sub_all
          refine r_done (by kernel_rfl) ?_
          refine n_then ?_
          refine wp_seq ?_
          refine r_begin (w0 := w0) (by kernel_rfl) (S442.sub sub_all sub_all) (fun wc T445 B446 => ?_)
          have S447 := S442.kept B446
          refine r_take 0 (.int .i64 ((firstErr (mkT (cuts l) n) 0).2)) A433 T445 (g_move (by kernel_rfl)) rfl rfl rfl (pf_then pf_body) (by kernel_rfl) (fun ac A448 => ?_)
          refine r_take 1 (.bool (decide ((firstErr (mkT (cuts l) n) 0).2 = 0))) A448 T445 (g_bin (u := .int .i64 ((firstErr (mkT (cuts l) n) 0).2)) (k := .int .i64 0) (by kernel_rfl) (by kernel_rfl) (fun _ => by kernel_rfl) b_eql) rfl rfl rfl (pf_then pf_body) (by kernel_rfl) (fun ac A449 => ?_)
          refine r_take 2 (.bool (decide ((firstErr (mkT (cuts l) n) 0).2 = 0))) A449 T445 (g_move (by kernel_rfl)) rfl rfl rfl (pf_then pf_body) (by kernel_rfl) (fun ac A450 => ?_)
          refine r_take 3 (.slice (some ⟨g32, 0, none⟩) 61 61) A450 T445 (g_slice (u := .pointer (some ⟨g32, 0, none⟩)) (lo' := none) (hi' := none) (mx' := none) (by kernel_rfl) (by kernel_rfl) (by kernel_rfl) (by kernel_rfl) (fun _ => by kernel_rfl)) rfl (want_t (dj := 60) (b := (decide ((firstErr (mkT (cuts l) n) 0).2 = 0))) A450 rfl (by kernel_rfl) (by kernel_rfl) (decide_eq_true (by omega))) rfl (pf_then pf_body) (by kernel_rfl) (fun ac A451 => ?_)
          refine r_take 4 (.slice (some ⟨g341, 0, none⟩) 61 61) A451 T445 (g_slice (u := .pointer (some ⟨g341, 0, none⟩)) (lo' := none) (hi' := none) (mx' := none) (by kernel_rfl) (by kernel_rfl) (by kernel_rfl) (by kernel_rfl) (fun _ => by kernel_rfl)) rfl (want_t (dj := 60) (b := (decide ((firstErr (mkT (cuts l) n) 0).2 = 0))) A451 rfl (by kernel_rfl) (by kernel_rfl) (decide_eq_true (by omega))) rfl (pf_then pf_body) (by kernel_rfl) (fun ac A452 => ?_)
          refine r_1 (i := 5) (by kernel_rfl) ?_
          refine rs_call (fs := #[]) (cp := #[]) (r := [(0, .slice (some ⟨g32, 0, none⟩) 61 61), (0, .slice (some ⟨g341, 0, none⟩) 61 61)]) #[.slice (some ⟨g32, 0, none⟩) 61 61, .slice (some ⟨g341, 0, none⟩) 61 61] (.bool true) A452 S447 sub_all sub_all (drewB (SameSamples_same _ _ _ _ 61 (partsL (nums (mkT (cuts l) n))) _ (partsL_length _) (by omega) (anRes_right (by omega) ▸ CReads.of_blk (S447.get 3 rfl)) (CReads.of_blk (S447.get 1 rfl)) (fun k => parts_small h0 k))) Try.call21 rfl (want_t (dj := 60) (b := (decide ((firstErr (mkT (cuts l) n) 0).2 = 0))) A452 rfl (by kernel_rfl) (by kernel_rfl) (decide_eq_true (by omega))) (by kernel_rfl) (by kernel_rfl) (by kernel_rfl) rfl (fun ac wc A453 S454 => ?_)
          have T456 := S454.sub sub_all sub_all
          refine r_take 6 (.bool true) A453 T456 (g_pick_t (b := (decide ((firstErr (mkT (cuts l) n) 0).2 = 0))) (by kernel_rfl) (decide_eq_true (by omega)) (by kernel_rfl)) rfl rfl rfl (pf_then pf_body) (by kernel_rfl) (fun ac A457 => ?_)
          refine r_take 7 (.bool true) A457 T456 (g_move (by kernel_rfl)) rfl rfl rfl (pf_then pf_body) (by kernel_rfl) (fun ac A458 => ?_)
          refine r_take 8 (.int .i64 ((firstErr (mkT (cuts l) n) 0).2)) A458 T456 (g_move (by kernel_rfl)) rfl (want_t (dj := 65) (b := true) A458 rfl (by kernel_rfl) (by kernel_rfl) rfl) rfl (pf_then pf_body) (by kernel_rfl) (fun ac A459 => ?_)
          refine r_take 9 (.bool (decide ((firstErr (mkT (cuts l) n) 0).2 = 0))) A459 T456 (g_bin (u := .int .i64 ((firstErr (mkT (cuts l) n) 0).2)) (k := .int .i64 0) (by kernel_rfl) (by kernel_rfl) (fun _ => by kernel_rfl) b_eql) rfl (want_t (dj := 65) (b := true) A459 rfl (by kernel_rfl) (by kernel_rfl) rfl) rfl (pf_then pf_body) (by kernel_rfl) (fun ac A460 => ?_)
          refine r_take 10 (.bool (decide ((firstErr (mkT (cuts l) n) 0).2 = 0))) A460 T456 (g_pick_t (b := true) (by kernel_rfl) rfl (by kernel_rfl)) rfl rfl rfl (pf_then pf_body) (by kernel_rfl) (fun ac A461 => ?_)
          refine r_take 11 (.bool (decide ((firstErr (mkT (cuts l) n) 0).2 = 0))) A461 T456 (g_move (by kernel_rfl)) rfl rfl rfl (pf_then pf_body) (by kernel_rfl) (fun ac A462 => ?_)
          refine r_take 12 (.agg (ints (enRes (mkT (cuts l) n)))) A462 T456 (g_loadW (g := g46) 2 (by kernel_rfl) rfl ((ints_size _).trans (enRes_length _)) ⟨⟨_, Try.underlying39, rfl⟩, by kernel_rfl⟩) rfl (want_t (dj := 69) (b := (decide ((firstErr (mkT (cuts l) n) 0).2 = 0))) A462 rfl (by kernel_rfl) (by kernel_rfl) (decide_eq_true (by omega))) rfl (pf_then pf_body) (by kernel_rfl) (fun ac A463 => ?_)
          refine r_take 13 (.agg (ints (sqL (nums (mkT (cuts l) n))))) A463 T456 (g_loadW (g := g427) 0 (by kernel_rfl) rfl ((ints_size _).trans (sqL_length _)) ⟨⟨_, Try.underlying39, rfl⟩, by kernel_rfl⟩) rfl (want_t (dj := 69) (b := (decide ((firstErr (mkT (cuts l) n) 0).2 = 0))) A463 rfl (by kernel_rfl) (by kernel_rfl) (decide_eq_true (by omega))) rfl (pf_then pf_body) (by kernel_rfl) (fun ac A464 => ?_)
          refine r_take 14 (.bool (decide (enRes (mkT (cuts l) n) = sqL (nums (mkT (cuts l) n))))) A464 T456 (g_bin (u := .agg (ints (enRes (mkT (cuts l) n)))) (k := .agg (ints (sqL (nums (mkT (cuts l) n))))) (by kernel_rfl) (by kernel_rfl) (fun _ => by kernel_rfl) (q_array (n := 61) (enRes (mkT (cuts l) n)) (sqL (nums (mkT (cuts l) n))) (by kernel_rfl) (enRes_length _) (sqL_length _))) rfl (want_t (dj := 69) (b := (decide ((firstErr (mkT (cuts l) n) 0).2 = 0))) A464 rfl (by kernel_rfl) (by kernel_rfl) (decide_eq_true (by omega))) rfl (pf_then pf_body) (by kernel_rfl) (fun ac A465 => ?_)
          refine r_take 15 (.bool (decide (enRes (mkT (cuts l) n) = sqL (nums (mkT (cuts l) n))))) A465 T456 (g_pick_t (b := (decide ((firstErr (mkT (cuts l) n) 0).2 = 0))) (by kernel_rfl) (decide_eq_true (by omega)) (by kernel_rfl)) rfl rfl rfl (pf_then pf_body) (by kernel_rfl) (fun ac A466 => ?_)
          refine r_take 16 (.bool (decide (enRes (mkT (cuts l) n) = sqL (nums (mkT (cuts l) n))))) A466 T456 (g_assign (by kernel_rfl)) rfl rfl rfl (pf_then pf_body) (by kernel_rfl) (fun ac A467 => ?_)
          refine r_done (by kernel_rfl) ?_
          refine n_then ?_
          refine wp_ret ?_
          refine fin1 (.bool (decide (enRes (mkT (cuts l) n) = sqL (nums (mkT (cuts l) n))))) Try.results4 A467 S454 (rv_tmp (by kernel_rfl)) ⟨?_, S454.kp⟩
          exact congrArg (fun b => Ending.returned (Value.bool b)) (decide_eq_true (enRes_right (by omega)))
      · refine rs_alloc (ints (List.replicate 61 0)) A88 S86 sub_all sub_all zero61 rfl rfl rfl (fun g470 ac wc A468 S469 => ?_)
        have T471 := S469.sub (sub_skip sub_all) sub_all
        refine r_2 (i := 1) (j := 4) (by kernel_rfl) ?_ ?_
        · refine rs_call (fs := #[]) (cp := #[]) (r := [(0, .agg (trc (mkT (cuts l) n)))]) #[.agg (trc (mkT (cuts l) n))] (.agg (cxs (partsL (nums (mkT (cuts l) n))))) A468 S469 (sub_skip sub_all) sub_all (refAnalytic_s (mkT (cuts l) n) _ (done_length _ _ _ _) (right_of e0)) Try.call19 rfl rfl (by kernel_rfl) (by kernel_rfl) (by kernel_rfl) rfl (fun ac wc A472 S473 => ?_)
          have T475 := S473.sub (sub_skip sub_all) sub_all
          refine r_2 (i := 3) (j := 4) (by kernel_rfl) ?_ ?_
          · refine rs_call (fs := #[]) (cp := #[]) (r := [(0, .agg (trc (mkT (cuts l) n)))]) #[.agg (trc (mkT (cuts l) n))] (.agg (ints (sqL (nums (mkT (cuts l) n))))) A472 S473 (sub_skip sub_all) sub_all (refEnvelope_s (mkT (cuts l) n) _ (done_length _ _ _ _) (right_of e0)) Try.call20 rfl rfl (by kernel_rfl) (by kernel_rfl) (by kernel_rfl) rfl (fun ac wc A476 S477 => ?_)
            have T479 := S477.sub (sub_skip sub_all) sub_all
            refine r_1 (i := 4) (by kernel_rfl) ?_
            refine rs_alloc (cxs (List.replicate 61 (0, 0))) A476 S477 (sub_skip sub_all) sub_all zero36 rfl rfl rfl (fun g482 ac wc A480 S481 => ?_)
            have T483 := S481.sub (sub_skip (sub_skip sub_all)) sub_all
            refine r_1 (i := 6) (by kernel_rfl) ?_
            refine rs_store (g := g482) (off := 0) (v := .agg (cxs (partsL (nums (mkT (cuts l) n))))) 0 (cxs (partsL (nums (mkT (cuts l) n)))) A480 S481 (sub_skip (sub_skip sub_all)) sub_all (by kernel_rfl) (by kernel_rfl) rfl (putVal_whole ((cxs_size _).trans List.length_replicate) ((cxs_size _).trans (partsL_length _)) ⟨⟨_, Try.underlying36, rfl⟩, by kernel_rfl⟩ (cxs_one _)) rfl rfl (fun wc S485 => ?_)
            have T487 := S485.sub (sub_skip (sub_skip sub_all)) sub_all
            refine r_1 (i := 7) (by kernel_rfl) ?_
            refine rs_store (g := g470) (off := 0) (v := .agg (ints (sqL (nums (mkT (cuts l) n))))) 1 (ints (sqL (nums (mkT (cuts l) n)))) A480 S485 (sub_skip (sub_skip sub_all)) sub_all (by kernel_rfl) (by kernel_rfl) rfl (putVal_whole ((ints_size _).trans List.length_replicate) ((ints_size _).trans (sqL_length _)) ⟨⟨_, Try.underlying39, rfl⟩, by kernel_rfl⟩ (ints_one _)) rfl rfl (fun wc S489 => ?_)
            have T491 := S489.sub (sub_skip (sub_skip sub_all)) sub_all
            refine r_done (by kernel_rfl) ?_
            refine n_then ?_
            refine wp_seq ?_
            refine r_begin (w0 := w0) (by kernel_rfl) (S489.sub sub_all sub_all) (fun wc T492 B493 => ?_)
            have S494 := S489.kept B493
            refine r_take 0 (.int .i64 ((firstErr (mkT (cuts l) n) 0).2)) A480 T492 (g_move (by kernel_rfl)) rfl rfl rfl (pf_then pf_body) (by kernel_rfl) (fun ac A495 => ?_)
            refine r_take 1 (.bool (decide ((firstErr (mkT (cuts l) n) 0).2 = 0))) A495 T492 (g_bin (u := .int .i64 ((firstErr (mkT (cuts l) n) 0).2)) (k := .int .i64 0) (by kernel_rfl) (by kernel_rfl) (fun _ => by kernel_rfl) b_eql) rfl rfl rfl (pf_then pf_body) (by kernel_rfl) (fun ac A496 => ?_)
            refine r_take 2 (.bool (decide ((firstErr (mkT (cuts l) n) 0).2 = 0))) A496 T492 (g_move (by kernel_rfl)) rfl rfl rfl (pf_then pf_body) (by kernel_rfl) (fun ac A497 => ?_)
            refine r_take 3 (.slice (some ⟨g32, 0, none⟩) 61 61) A497 T492 (g_slice (u := .pointer (some ⟨g32, 0, none⟩)) (lo' := none) (hi' := none) (mx' := none) (by kernel_rfl) (by kernel_rfl) (by kernel_rfl) (by kernel_rfl) (fun _ => by kernel_rfl)) rfl (want_t (dj := 60) (b := (decide ((firstErr (mkT (cuts l) n) 0).2 = 0))) A497 rfl (by kernel_rfl) (by kernel_rfl) (decide_eq_true (by omega))) rfl (pf_then pf_body) (by kernel_rfl) (fun ac A498 => ?_)
            refine r_take 4 (.slice (some ⟨g482, 0, none⟩) 61 61) A498 T492 (g_slice (u := .pointer (some ⟨g482, 0, none⟩)) (lo' := none) (hi' := none) (mx' := none) (by kernel_rfl) (by kernel_rfl) (by kernel_rfl) (by kernel_rfl) (fun _ => by kernel_rfl)) rfl (want_t (dj := 60) (b := (decide ((firstErr (mkT (cuts l) n) 0).2 = 0))) A498 rfl (by kernel_rfl) (by kernel_rfl) (decide_eq_true (by omega))) rfl (pf_then pf_body) (by kernel_rfl) (fun ac A499 => ?_)
            refine r_1 (i := 5) (by kernel_rfl) ?_
            refine rs_call (fs := #[]) (cp := #[]) (r := [(0, .slice (some ⟨g32, 0, none⟩) 61 61), (0, .slice (some ⟨g482, 0, none⟩) 61 61)]) #[.slice (some ⟨g32, 0, none⟩) 61 61, .slice (some ⟨g482, 0, none⟩) 61 61] (.bool true) A499 S494 sub_all sub_all (drewB (SameSamples_same _ _ _ _ 61 (partsL (nums (mkT (cuts l) n))) _ (partsL_length _) (by omega) (anRes_right (by omega) ▸ CReads.of_blk (S494.get 3 rfl)) (CReads.of_blk (S494.get 0 rfl)) (fun k => parts_small h0 k))) Try.call21 rfl (want_t (dj := 60) (b := (decide ((firstErr (mkT (cuts l) n) 0).2 = 0))) A499 rfl (by kernel_rfl) (by kernel_rfl) (decide_eq_true (by omega))) (by kernel_rfl) (by kernel_rfl) (by kernel_rfl) rfl (fun ac wc A500 S501 => ?_)
            have T503 := S501.sub sub_all sub_all
            refine r_take 6 (.bool true) A500 T503 (g_pick_t (b := (decide ((firstErr (mkT (cuts l) n) 0).2 = 0))) (by kernel_rfl) (decide_eq_true (by omega)) (by kernel_rfl)) rfl rfl rfl (pf_then pf_body) (by kernel_rfl) (fun ac A504 => ?_)
            refine r_take 7 (.bool true) A504 T503 (g_move (by kernel_rfl)) rfl rfl rfl (pf_then pf_body) (by kernel_rfl) (fun ac A505 => ?_)
            refine r_take 8 (.int .i64 ((firstErr (mkT (cuts l) n) 0).2)) A505 T503 (g_move (by kernel_rfl)) rfl (want_t (dj := 65) (b := true) A505 rfl (by kernel_rfl) (by kernel_rfl) rfl) rfl (pf_then pf_body) (by kernel_rfl) (fun ac A506 => ?_)
            refine r_take 9 (.bool (decide ((firstErr (mkT (cuts l) n) 0).2 = 0))) A506 T503 (g_bin (u := .int .i64 ((firstErr (mkT (cuts l) n) 0).2)) (k := .int .i64 0) (by kernel_rfl) (by kernel_rfl) (fun _ => by kernel_rfl) b_eql) rfl (want_t (dj := 65) (b := true) A506 rfl (by kernel_rfl) (by kernel_rfl) rfl) rfl (pf_then pf_body) (by kernel_rfl) (fun ac A507 => ?_)
            refine r_take 10 (.bool (decide ((firstErr (mkT (cuts l) n) 0).2 = 0))) A507 T503 (g_pick_t (b := true) (by kernel_rfl) rfl (by kernel_rfl)) rfl rfl rfl (pf_then pf_body) (by kernel_rfl) (fun ac A508 => ?_)
            refine r_take 11 (.bool (decide ((firstErr (mkT (cuts l) n) 0).2 = 0))) A508 T503 (g_move (by kernel_rfl)) rfl rfl rfl (pf_then pf_body) (by kernel_rfl) (fun ac A509 => ?_)
            refine r_take 12 (.agg (ints (enRes (mkT (cuts l) n)))) A509 T503 (g_loadW (g := g46) 2 (by kernel_rfl) rfl ((ints_size _).trans (enRes_length _)) ⟨⟨_, Try.underlying39, rfl⟩, by kernel_rfl⟩) rfl (want_t (dj := 69) (b := (decide ((firstErr (mkT (cuts l) n) 0).2 = 0))) A509 rfl (by kernel_rfl) (by kernel_rfl) (decide_eq_true (by omega))) rfl (pf_then pf_body) (by kernel_rfl) (fun ac A510 => ?_)
            refine r_take 13 (.agg (ints (sqL (nums (mkT (cuts l) n))))) A510 T503 (g_loadW (g := g470) 1 (by kernel_rfl) rfl ((ints_size _).trans (sqL_length _)) ⟨⟨_, Try.underlying39, rfl⟩, by kernel_rfl⟩) rfl (want_t (dj := 69) (b := (decide ((firstErr (mkT (cuts l) n) 0).2 = 0))) A510 rfl (by kernel_rfl) (by kernel_rfl) (decide_eq_true (by omega))) rfl (pf_then pf_body) (by kernel_rfl) (fun ac A511 => ?_)
            refine r_take 14 (.bool (decide (enRes (mkT (cuts l) n) = sqL (nums (mkT (cuts l) n))))) A511 T503 (g_bin (u := .agg (ints (enRes (mkT (cuts l) n)))) (k := .agg (ints (sqL (nums (mkT (cuts l) n))))) (by kernel_rfl) (by kernel_rfl) (fun _ => by kernel_rfl) (q_array (n := 61) (enRes (mkT (cuts l) n)) (sqL (nums (mkT (cuts l) n))) (by kernel_rfl) (enRes_length _) (sqL_length _))) rfl (want_t (dj := 69) (b := (decide ((firstErr (mkT (cuts l) n) 0).2 = 0))) A511 rfl (by kernel_rfl) (by kernel_rfl) (decide_eq_true (by omega))) rfl (pf_then pf_body) (by kernel_rfl) (fun ac A512 => ?_)
            refine r_take 15 (.bool (decide (enRes (mkT (cuts l) n) = sqL (nums (mkT (cuts l) n))))) A512 T503 (g_pick_t (b := (decide ((firstErr (mkT (cuts l) n) 0).2 = 0))) (by kernel_rfl) (decide_eq_true (by omega)) (by kernel_rfl)) rfl rfl rfl (pf_then pf_body) (by kernel_rfl) (fun ac A513 => ?_)
            refine r_take 16 (.bool (decide (enRes (mkT (cuts l) n) = sqL (nums (mkT (cuts l) n))))) A513 T503 (g_assign (by kernel_rfl)) rfl rfl rfl (pf_then pf_body) (by kernel_rfl) (fun ac A514 => ?_)
            refine r_done (by kernel_rfl) ?_
            refine n_then ?_
            refine wp_ret ?_
            refine fin1 (.bool (decide (enRes (mkT (cuts l) n) = sqL (nums (mkT (cuts l) n))))) Try.results4 A514 S501 (rv_tmp (by kernel_rfl)) ⟨?_, S501.kp⟩
            exact congrArg (fun b => Ending.returned (Value.bool b)) (decide_eq_true (enRes_right (by omega)))
          · refine rs_alloc (cxs (List.replicate 61 (0, 0))) A472 S473 (sub_skip sub_all) sub_all zero36 rfl rfl rfl (fun g517 ac wc A515 S516 => ?_)
            have T518 := S516.sub (sub_skip (sub_skip sub_all)) sub_all
            refine r_1 (i := 3) (by kernel_rfl) ?_
            refine rs_call (fs := #[]) (cp := #[]) (r := [(0, .agg (trc (mkT (cuts l) n)))]) #[.agg (trc (mkT (cuts l) n))] (.agg (ints (sqL (nums (mkT (cuts l) n))))) A515 S516 (sub_skip (sub_skip sub_all)) sub_all (refEnvelope_s (mkT (cuts l) n) _ (done_length _ _ _ _) (right_of e0)) Try.call20 rfl rfl (by kernel_rfl) (by kernel_rfl) (by kernel_rfl) rfl (fun ac wc A519 S520 => ?_)
            have T522 := S520.sub (sub_skip (sub_skip sub_all)) sub_all
            refine r_1 (i := 6) (by kernel_rfl) ?_
            refine rs_store (g := g517) (off := 0) (v := .agg (cxs (partsL (nums (mkT (cuts l) n))))) 0 (cxs (partsL (nums (mkT (cuts l) n)))) A519 S520 (sub_skip (sub_skip sub_all)) sub_all (by kernel_rfl) (by kernel_rfl) rfl (putVal_whole ((cxs_size _).trans List.length_replicate) ((cxs_size _).trans (partsL_length _)) ⟨⟨_, Try.underlying36, rfl⟩, by kernel_rfl⟩ (cxs_one _)) rfl rfl (fun wc S524 => ?_)
            have T526 := S524.sub (sub_skip (sub_skip sub_all)) sub_all
            refine r_1 (i := 7) (by kernel_rfl) ?_
            refine rs_store (g := g470) (off := 0) (v := .agg (ints (sqL (nums (mkT (cuts l) n))))) 1 (ints (sqL (nums (mkT (cuts l) n)))) A519 S524 (sub_skip (sub_skip sub_all)) sub_all (by kernel_rfl) (by kernel_rfl) rfl (putVal_whole ((ints_size _).trans List.length_replicate) ((ints_size _).trans (sqL_length _)) ⟨⟨_, Try.underlying39, rfl⟩, by kernel_rfl⟩ (ints_one _)) rfl rfl (fun wc S528 => ?_)
            have T530 := S528.sub (sub_skip (sub_skip sub_all)) sub_all
            refine r_done (by kernel_rfl) ?_
            refine n_then ?_
            refine wp_seq ?_
            refine r_begin (w0 := w0) (by kernel_rfl) (S528.sub sub_all sub_all) (fun wc T531 B532 => ?_)
            have S533 := S528.kept B532
            refine r_take 0 (.int .i64 ((firstErr (mkT (cuts l) n) 0).2)) A519 T531 (g_move (by kernel_rfl)) rfl rfl rfl (pf_then pf_body) (by kernel_rfl) (fun ac A534 => ?_)
            refine r_take 1 (.bool (decide ((firstErr (mkT (cuts l) n) 0).2 = 0))) A534 T531 (g_bin (u := .int .i64 ((firstErr (mkT (cuts l) n) 0).2)) (k := .int .i64 0) (by kernel_rfl) (by kernel_rfl) (fun _ => by kernel_rfl) b_eql) rfl rfl rfl (pf_then pf_body) (by kernel_rfl) (fun ac A535 => ?_)
            refine r_take 2 (.bool (decide ((firstErr (mkT (cuts l) n) 0).2 = 0))) A535 T531 (g_move (by kernel_rfl)) rfl rfl rfl (pf_then pf_body) (by kernel_rfl) (fun ac A536 => ?_)
            refine r_take 3 (.slice (some ⟨g32, 0, none⟩) 61 61) A536 T531 (g_slice (u := .pointer (some ⟨g32, 0, none⟩)) (lo' := none) (hi' := none) (mx' := none) (by kernel_rfl) (by kernel_rfl) (by kernel_rfl) (by kernel_rfl) (fun _ => by kernel_rfl)) rfl (want_t (dj := 60) (b := (decide ((firstErr (mkT (cuts l) n) 0).2 = 0))) A536 rfl (by kernel_rfl) (by kernel_rfl) (decide_eq_true (by omega))) rfl (pf_then pf_body) (by kernel_rfl) (fun ac A537 => ?_)
            refine r_take 4 (.slice (some ⟨g517, 0, none⟩) 61 61) A537 T531 (g_slice (u := .pointer (some ⟨g517, 0, none⟩)) (lo' := none) (hi' := none) (mx' := none) (by kernel_rfl) (by kernel_rfl) (by kernel_rfl) (by kernel_rfl) (fun _ => by kernel_rfl)) rfl (want_t (dj := 60) (b := (decide ((firstErr (mkT (cuts l) n) 0).2 = 0))) A537 rfl (by kernel_rfl) (by kernel_rfl) (decide_eq_true (by omega))) rfl (pf_then pf_body) (by kernel_rfl) (fun ac A538 => ?_)
            refine r_1 (i := 5) (by kernel_rfl) ?_
            refine rs_call (fs := #[]) (cp := #[]) (r := [(0, .slice (some ⟨g32, 0, none⟩) 61 61), (0, .slice (some ⟨g517, 0, none⟩) 61 61)]) #[.slice (some ⟨g32, 0, none⟩) 61 61, .slice (some ⟨g517, 0, none⟩) 61 61] (.bool true) A538 S533 sub_all sub_all (drewB (SameSamples_same _ _ _ _ 61 (partsL (nums (mkT (cuts l) n))) _ (partsL_length _) (by omega) (anRes_right (by omega) ▸ CReads.of_blk (S533.get 3 rfl)) (CReads.of_blk (S533.get 0 rfl)) (fun k => parts_small h0 k))) Try.call21 rfl (want_t (dj := 60) (b := (decide ((firstErr (mkT (cuts l) n) 0).2 = 0))) A538 rfl (by kernel_rfl) (by kernel_rfl) (decide_eq_true (by omega))) (by kernel_rfl) (by kernel_rfl) (by kernel_rfl) rfl (fun ac wc A539 S540 => ?_)
            have T542 := S540.sub sub_all sub_all
            refine r_take 6 (.bool true) A539 T542 (g_pick_t (b := (decide ((firstErr (mkT (cuts l) n) 0).2 = 0))) (by kernel_rfl) (decide_eq_true (by omega)) (by kernel_rfl)) rfl rfl rfl (pf_then pf_body) (by kernel_rfl) (fun ac A543 => ?_)
            refine r_take 7 (.bool true) A543 T542 (g_move (by kernel_rfl)) rfl rfl rfl (pf_then pf_body) (by kernel_rfl) (fun ac A544 => ?_)
            refine r_take 8 (.int .i64 ((firstErr (mkT (cuts l) n) 0).2)) A544 T542 (g_move (by kernel_rfl)) rfl (want_t (dj := 65) (b := true) A544 rfl (by kernel_rfl) (by kernel_rfl) rfl) rfl (pf_then pf_body) (by kernel_rfl) (fun ac A545 => ?_)
            refine r_take 9 (.bool (decide ((firstErr (mkT (cuts l) n) 0).2 = 0))) A545 T542 (g_bin (u := .int .i64 ((firstErr (mkT (cuts l) n) 0).2)) (k := .int .i64 0) (by kernel_rfl) (by kernel_rfl) (fun _ => by kernel_rfl) b_eql) rfl (want_t (dj := 65) (b := true) A545 rfl (by kernel_rfl) (by kernel_rfl) rfl) rfl (pf_then pf_body) (by kernel_rfl) (fun ac A546 => ?_)
            refine r_take 10 (.bool (decide ((firstErr (mkT (cuts l) n) 0).2 = 0))) A546 T542 (g_pick_t (b := true) (by kernel_rfl) rfl (by kernel_rfl)) rfl rfl rfl (pf_then pf_body) (by kernel_rfl) (fun ac A547 => ?_)
            refine r_take 11 (.bool (decide ((firstErr (mkT (cuts l) n) 0).2 = 0))) A547 T542 (g_move (by kernel_rfl)) rfl rfl rfl (pf_then pf_body) (by kernel_rfl) (fun ac A548 => ?_)
            refine r_take 12 (.agg (ints (enRes (mkT (cuts l) n)))) A548 T542 (g_loadW (g := g46) 2 (by kernel_rfl) rfl ((ints_size _).trans (enRes_length _)) ⟨⟨_, Try.underlying39, rfl⟩, by kernel_rfl⟩) rfl (want_t (dj := 69) (b := (decide ((firstErr (mkT (cuts l) n) 0).2 = 0))) A548 rfl (by kernel_rfl) (by kernel_rfl) (decide_eq_true (by omega))) rfl (pf_then pf_body) (by kernel_rfl) (fun ac A549 => ?_)
            refine r_take 13 (.agg (ints (sqL (nums (mkT (cuts l) n))))) A549 T542 (g_loadW (g := g470) 1 (by kernel_rfl) rfl ((ints_size _).trans (sqL_length _)) ⟨⟨_, Try.underlying39, rfl⟩, by kernel_rfl⟩) rfl (want_t (dj := 69) (b := (decide ((firstErr (mkT (cuts l) n) 0).2 = 0))) A549 rfl (by kernel_rfl) (by kernel_rfl) (decide_eq_true (by omega))) rfl (pf_then pf_body) (by kernel_rfl) (fun ac A550 => ?_)
            refine r_take 14 (.bool (decide (enRes (mkT (cuts l) n) = sqL (nums (mkT (cuts l) n))))) A550 T542 (g_bin (u := .agg (ints (enRes (mkT (cuts l) n)))) (k := .agg (ints (sqL (nums (mkT (cuts l) n))))) (by kernel_rfl) (by kernel_rfl) (fun _ => by kernel_rfl) (q_array (n := 61) (enRes (mkT (cuts l) n)) (sqL (nums (mkT (cuts l) n))) (by kernel_rfl) (enRes_length _) (sqL_length _))) rfl (want_t (dj := 69) (b := (decide ((firstErr (mkT (cuts l) n) 0).2 = 0))) A550 rfl (by kernel_rfl) (by kernel_rfl) (decide_eq_true (by omega))) rfl (pf_then pf_body) (by kernel_rfl) (fun ac A551 => ?_)
            refine r_take 15 (.bool (decide (enRes (mkT (cuts l) n) = sqL (nums (mkT (cuts l) n))))) A551 T542 (g_pick_t (b := (decide ((firstErr (mkT (cuts l) n) 0).2 = 0))) (by kernel_rfl) (decide_eq_true (by omega)) (by kernel_rfl)) rfl rfl rfl (pf_then pf_body) (by kernel_rfl) (fun ac A552 => ?_)
            refine r_take 16 (.bool (decide (enRes (mkT (cuts l) n) = sqL (nums (mkT (cuts l) n))))) A552 T542 (g_assign (by kernel_rfl)) rfl rfl rfl (pf_then pf_body) (by kernel_rfl) (fun ac A553 => ?_)
            refine r_done (by kernel_rfl) ?_
            refine n_then ?_
            refine wp_ret ?_
            refine fin1 (.bool (decide (enRes (mkT (cuts l) n) = sqL (nums (mkT (cuts l) n))))) Try.results4 A553 S540 (rv_tmp (by kernel_rfl)) ⟨?_, S540.kp⟩
            exact congrArg (fun b => Ending.returned (Value.bool b)) (decide_eq_true (enRes_right (by omega)))
        · refine rs_alloc (cxs (List.replicate 61 (0, 0))) A468 S469 (sub_skip sub_all) sub_all zero36 rfl rfl rfl (fun g556 ac wc A554 S555 => ?_)
          have T557 := S555.sub (sub_skip (sub_skip sub_all)) sub_all
          refine r_1 (i := 1) (by kernel_rfl) ?_
          refine rs_call (fs := #[]) (cp := #[]) (r := [(0, .agg (trc (mkT (cuts l) n)))]) #[.agg (trc (mkT (cuts l) n))] (.agg (cxs (partsL (nums (mkT (cuts l) n))))) A554 S555 (sub_skip (sub_skip sub_all)) sub_all (refAnalytic_s (mkT (cuts l) n) _ (done_length _ _ _ _) (right_of e0)) Try.call19 rfl rfl (by kernel_rfl) (by kernel_rfl) (by kernel_rfl) rfl (fun ac wc A558 S559 => ?_)
          have T561 := S559.sub (sub_skip (sub_skip sub_all)) sub_all
          refine r_1 (i := 3) (by kernel_rfl) ?_
          refine rs_call (fs := #[]) (cp := #[]) (r := [(0, .agg (trc (mkT (cuts l) n)))]) #[.agg (trc (mkT (cuts l) n))] (.agg (ints (sqL (nums (mkT (cuts l) n))))) A558 S559 (sub_skip (sub_skip sub_all)) sub_all (refEnvelope_s (mkT (cuts l) n) _ (done_length _ _ _ _) (right_of e0)) Try.call20 rfl rfl (by kernel_rfl) (by kernel_rfl) (by kernel_rfl) rfl (fun ac wc A562 S563 => ?_)
          have T565 := S563.sub (sub_skip (sub_skip sub_all)) sub_all
          refine r_1 (i := 6) (by kernel_rfl) ?_
          refine rs_store (g := g556) (off := 0) (v := .agg (cxs (partsL (nums (mkT (cuts l) n))))) 0 (cxs (partsL (nums (mkT (cuts l) n)))) A562 S563 (sub_skip (sub_skip sub_all)) sub_all (by kernel_rfl) (by kernel_rfl) rfl (putVal_whole ((cxs_size _).trans List.length_replicate) ((cxs_size _).trans (partsL_length _)) ⟨⟨_, Try.underlying36, rfl⟩, by kernel_rfl⟩ (cxs_one _)) rfl rfl (fun wc S567 => ?_)
          have T569 := S567.sub (sub_skip (sub_skip sub_all)) sub_all
          refine r_1 (i := 7) (by kernel_rfl) ?_
          refine rs_store (g := g470) (off := 0) (v := .agg (ints (sqL (nums (mkT (cuts l) n))))) 1 (ints (sqL (nums (mkT (cuts l) n)))) A562 S567 (sub_skip (sub_skip sub_all)) sub_all (by kernel_rfl) (by kernel_rfl) rfl (putVal_whole ((ints_size _).trans List.length_replicate) ((ints_size _).trans (sqL_length _)) ⟨⟨_, Try.underlying39, rfl⟩, by kernel_rfl⟩ (ints_one _)) rfl rfl (fun wc S571 => ?_)
          have T573 := S571.sub (sub_skip (sub_skip sub_all)) sub_all
          refine r_done (by kernel_rfl) ?_
          refine n_then ?_
          refine wp_seq ?_
          refine r_begin (w0 := w0) (by kernel_rfl) (S571.sub sub_all sub_all) (fun wc T574 B575 => ?_)
          have S576 := S571.kept B575
          refine r_take 0 (.int .i64 ((firstErr (mkT (cuts l) n) 0).2)) A562 T574 (g_move (by kernel_rfl)) rfl rfl rfl (pf_then pf_body) (by kernel_rfl) (fun ac A577 => ?_)
          refine r_take 1 (.bool (decide ((firstErr (mkT (cuts l) n) 0).2 = 0))) A577 T574 (g_bin (u := .int .i64 ((firstErr (mkT (cuts l) n) 0).2)) (k := .int .i64 0) (by kernel_rfl) (by kernel_rfl) (fun _ => by kernel_rfl) b_eql) rfl rfl rfl (pf_then pf_body) (by kernel_rfl) (fun ac A578 => ?_)
          refine r_take 2 (.bool (decide ((firstErr (mkT (cuts l) n) 0).2 = 0))) A578 T574 (g_move (by kernel_rfl)) rfl rfl rfl (pf_then pf_body) (by kernel_rfl) (fun ac A579 => ?_)
          refine r_take 3 (.slice (some ⟨g32, 0, none⟩) 61 61) A579 T574 (g_slice (u := .pointer (some ⟨g32, 0, none⟩)) (lo' := none) (hi' := none) (mx' := none) (by kernel_rfl) (by kernel_rfl) (by kernel_rfl) (by kernel_rfl) (fun _ => by kernel_rfl)) rfl (want_t (dj := 60) (b := (decide ((firstErr (mkT (cuts l) n) 0).2 = 0))) A579 rfl (by kernel_rfl) (by kernel_rfl) (decide_eq_true (by omega))) rfl (pf_then pf_body) (by kernel_rfl) (fun ac A580 => ?_)
          refine r_take 4 (.slice (some ⟨g556, 0, none⟩) 61 61) A580 T574 (g_slice (u := .pointer (some ⟨g556, 0, none⟩)) (lo' := none) (hi' := none) (mx' := none) (by kernel_rfl) (by kernel_rfl) (by kernel_rfl) (by kernel_rfl) (fun _ => by kernel_rfl)) rfl (want_t (dj := 60) (b := (decide ((firstErr (mkT (cuts l) n) 0).2 = 0))) A580 rfl (by kernel_rfl) (by kernel_rfl) (decide_eq_true (by omega))) rfl (pf_then pf_body) (by kernel_rfl) (fun ac A581 => ?_)
          refine r_1 (i := 5) (by kernel_rfl) ?_
          refine rs_call (fs := #[]) (cp := #[]) (r := [(0, .slice (some ⟨g32, 0, none⟩) 61 61), (0, .slice (some ⟨g556, 0, none⟩) 61 61)]) #[.slice (some ⟨g32, 0, none⟩) 61 61, .slice (some ⟨g556, 0, none⟩) 61 61] (.bool true) A581 S576 sub_all sub_all (drewB (SameSamples_same _ _ _ _ 61 (partsL (nums (mkT (cuts l) n))) _ (partsL_length _) (by omega) (anRes_right (by omega) ▸ CReads.of_blk (S576.get 3 rfl)) (CReads.of_blk (S576.get 0 rfl)) (fun k => parts_small h0 k))) Try.call21 rfl (want_t (dj := 60) (b := (decide ((firstErr (mkT (cuts l) n) 0).2 = 0))) A581 rfl (by kernel_rfl) (by kernel_rfl) (decide_eq_true (by omega))) (by kernel_rfl) (by kernel_rfl) (by kernel_rfl) rfl (fun ac wc A582 S583 => ?_)
          have T585 := S583.sub sub_all sub_all
          refine r_take 6 (.bool true) A582 T585 (g_pick_t (b := (decide ((firstErr (mkT (cuts l) n) 0).2 = 0))) (by kernel_rfl) (decide_eq_true (by omega)) (by kernel_rfl)) rfl rfl rfl (pf_then pf_body) (by kernel_rfl) (fun ac A586 => ?_)
          refine r_take 7 (.bool true) A586 T585 (g_move (by kernel_rfl)) rfl rfl rfl (pf_then pf_body) (by kernel_rfl) (fun ac A587 => ?_)
          refine r_take 8 (.int .i64 ((firstErr (mkT (cuts l) n) 0).2)) A587 T585 (g_move (by kernel_rfl)) rfl (want_t (dj := 65) (b := true) A587 rfl (by kernel_rfl) (by kernel_rfl) rfl) rfl (pf_then pf_body) (by kernel_rfl) (fun ac A588 => ?_)
          refine r_take 9 (.bool (decide ((firstErr (mkT (cuts l) n) 0).2 = 0))) A588 T585 (g_bin (u := .int .i64 ((firstErr (mkT (cuts l) n) 0).2)) (k := .int .i64 0) (by kernel_rfl) (by kernel_rfl) (fun _ => by kernel_rfl) b_eql) rfl (want_t (dj := 65) (b := true) A588 rfl (by kernel_rfl) (by kernel_rfl) rfl) rfl (pf_then pf_body) (by kernel_rfl) (fun ac A589 => ?_)
          refine r_take 10 (.bool (decide ((firstErr (mkT (cuts l) n) 0).2 = 0))) A589 T585 (g_pick_t (b := true) (by kernel_rfl) rfl (by kernel_rfl)) rfl rfl rfl (pf_then pf_body) (by kernel_rfl) (fun ac A590 => ?_)
          refine r_take 11 (.bool (decide ((firstErr (mkT (cuts l) n) 0).2 = 0))) A590 T585 (g_move (by kernel_rfl)) rfl rfl rfl (pf_then pf_body) (by kernel_rfl) (fun ac A591 => ?_)
          refine r_take 12 (.agg (ints (enRes (mkT (cuts l) n)))) A591 T585 (g_loadW (g := g46) 2 (by kernel_rfl) rfl ((ints_size _).trans (enRes_length _)) ⟨⟨_, Try.underlying39, rfl⟩, by kernel_rfl⟩) rfl (want_t (dj := 69) (b := (decide ((firstErr (mkT (cuts l) n) 0).2 = 0))) A591 rfl (by kernel_rfl) (by kernel_rfl) (decide_eq_true (by omega))) rfl (pf_then pf_body) (by kernel_rfl) (fun ac A592 => ?_)
          refine r_take 13 (.agg (ints (sqL (nums (mkT (cuts l) n))))) A592 T585 (g_loadW (g := g470) 1 (by kernel_rfl) rfl ((ints_size _).trans (sqL_length _)) ⟨⟨_, Try.underlying39, rfl⟩, by kernel_rfl⟩) rfl (want_t (dj := 69) (b := (decide ((firstErr (mkT (cuts l) n) 0).2 = 0))) A592 rfl (by kernel_rfl) (by kernel_rfl) (decide_eq_true (by omega))) rfl (pf_then pf_body) (by kernel_rfl) (fun ac A593 => ?_)
          refine r_take 14 (.bool (decide (enRes (mkT (cuts l) n) = sqL (nums (mkT (cuts l) n))))) A593 T585 (g_bin (u := .agg (ints (enRes (mkT (cuts l) n)))) (k := .agg (ints (sqL (nums (mkT (cuts l) n))))) (by kernel_rfl) (by kernel_rfl) (fun _ => by kernel_rfl) (q_array (n := 61) (enRes (mkT (cuts l) n)) (sqL (nums (mkT (cuts l) n))) (by kernel_rfl) (enRes_length _) (sqL_length _))) rfl (want_t (dj := 69) (b := (decide ((firstErr (mkT (cuts l) n) 0).2 = 0))) A593 rfl (by kernel_rfl) (by kernel_rfl) (decide_eq_true (by omega))) rfl (pf_then pf_body) (by kernel_rfl) (fun ac A594 => ?_)
          refine r_take 15 (.bool (decide (enRes (mkT (cuts l) n) = sqL (nums (mkT (cuts l) n))))) A594 T585 (g_pick_t (b := (decide ((firstErr (mkT (cuts l) n) 0).2 = 0))) (by kernel_rfl) (decide_eq_true (by omega)) (by kernel_rfl)) rfl rfl rfl (pf_then pf_body) (by kernel_rfl) (fun ac A595 => ?_)
          refine r_take 16 (.bool (decide (enRes (mkT (cuts l) n) = sqL (nums (mkT (cuts l) n))))) A595 T585 (g_assign (by kernel_rfl)) rfl rfl rfl (pf_then pf_body) (by kernel_rfl) (fun ac A596 => ?_)
          refine r_done (by kernel_rfl) ?_
          refine n_then ?_
          refine wp_ret ?_
          refine fin1 (.bool (decide (enRes (mkT (cuts l) n) = sqL (nums (mkT (cuts l) n))))) Try.results4 A596 S583 (rv_tmp (by kernel_rfl)) ⟨?_, S583.kp⟩
          exact congrArg (fun b => Ending.returned (Value.bool b)) (decide_eq_true (enRes_right (by omega)))

end Go.Proofs.Ytfooefkgdcjlhaa
