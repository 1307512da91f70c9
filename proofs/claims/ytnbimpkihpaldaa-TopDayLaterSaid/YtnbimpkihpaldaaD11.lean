/- The gain of the example. -/
import Derived.Test.YtnbimpkihpaldaaD10
import Derived.Test.YtnbimpkihpaldaaEq
namespace Go.Proofs.Ytnbimpkihpaldaa
open Go.RowKit Go.Cpl

set_option maxRecDepth 100000 in
set_option maxHeartbeats 400000 in
theorem first_z (g0 : Nat) (l : List Int) (n cap : Nat) (w0 : World) (hb : Blk w0 g0 32 (ints l)) (hl : l.length = n) (hn : n ≤ 1000) (hz : ∀ k, k < n → nthI l k = 0) :
    Calls Try.prog 24 #[.slice (some ⟨g0, 0, none⟩) n cap] w0 fun e w' => e = .returned (.int .i64 0) ∧ Below w0.heap.size w0 w' := by
  have S0 := St.start w0
  have S0 := S0.came hb (by simp)
  refine enter (n := 15) Try.func24 rfl rfl rfl (fun ac A0 => ?_)
  refine wp_seq ?_
  refine wp_region_lit ?_
  refine s_one (.int .i64 0) A0 S0 (g_assign (by kernel_rfl)) rfl (fun ac A1 => ?_)
  refine wpList_nil ?_
  refine n_then ?_
  refine wp_seq ?_
  refine wp_seq ?_
  refine wp_region_lit ?_
  refine s_one (.slice (some ⟨g0, 0, none⟩) n cap) A1 S0 (g_move (by kernel_rfl)) rfl (fun ac A2 => ?_)
  refine s_one (.int .i64 (n : Int)) A2 S0 (g_built (r := [(0, .slice (some ⟨g0, 0, none⟩) n cap)]) (by kernel_rfl) (fun _ _ _ => by kernel_rfl)) rfl (fun ac A3 => ?_)
  refine s_one (.int .i64 0) A3 S0 (g_move (by kernel_rfl)) rfl (fun ac A4 => ?_)
  refine wpList_nil ?_
  refine n_then ?_
  refine wp_block ?_
  refine c_loopN (fun mm ac wc => ∃ (k : Nat), mm = n - k ∧ (k ≤ n) ∧ Fr 15 ac [(0, .slice (some ⟨g0, 0, none⟩) n cap), (5, .slice (some ⟨g0, 0, none⟩) n cap), (6, .int .i64 (n : Int)), (7, .int .i64 (k : Int))] ∧ St w0 [⟨g0, 32, (ints l), false⟩] [] wc) _ ⟨0, rfl, Nat.zero_le _, (A4.slot (A4.slot (A4.slot (A4.slot A4.nil (v := .int .i64 0) (by kernel_rfl) (congrArg (Value.int .i64) (by omega))) (v := .int .i64 (n : Int)) (by kernel_rfl) rfl) (v := .slice (some ⟨g0, 0, none⟩) n cap) (by kernel_rfl) rfl) (v := .slice (some ⟨g0, 0, none⟩) n cap) (by kernel_rfl) rfl), S0.sub sub_all sub_all⟩ ?_
  rintro mm ac wc ⟨k, hm7, hk, A5, S6⟩
  refine wp_seq ?_
  refine wp_region_lit ?_
  refine s_one (.bool (decide ((k : Int) < (n : Int)))) A5 S6 (g_bin (u := .int .i64 (k : Int)) (k := .int .i64 (n : Int)) (by kernel_rfl) (by kernel_rfl) (fun _ => by kernel_rfl) (fun _ => by kernel_rfl)) rfl (fun ac A8 => ?_)
  refine wpList_nil ?_
  refine n_then ?_
  refine wp_seq ?_
  refine c_ifb (b := (decide ((k : Int) < (n : Int)))) A8 (by kernel_rfl) (fun h9 => ?_) (fun h9 => ?_)
  · have p10 := of_decide_eq_true h9
    refine wp_skip ?_
    refine n_then ?_
    refine wp_seq ?_
    refine wp_block ?_
    refine wp_seq ?_
    refine wp_region_lit ?_
    refine s_one (.pointer (some ⟨g0, k, none⟩)) A8 S6 (g_index (u := .slice (some ⟨g0, 0, none⟩) n cap) (k := .int .i64 (k : Int)) (by kernel_rfl) (by kernel_rfl) (ix_sl1 (e := 32) (bytes := 8) k (by kernel_rfl) (by omega) (by omega))) rfl (fun ac A11 => ?_)
    refine s_one (.int .i64 (nthI l k)) A11 S6 (g_load (g := g0) (off := k) 0 (by kernel_rfl) rfl (rv_of (by kernel_rfl) (ints_get (by rw [hl]; omega)))) rfl (fun ac A12 => ?_)
    refine s_one (.int .i64 (nthI l k)) A12 S6 (g_assign (by kernel_rfl)) rfl (fun ac A13 => ?_)
    refine wpList_nil ?_
    refine n_then ?_
    refine wp_seq ?_
    refine wp_region_lit ?_
    refine s_one (.int .i64 (nthI l k)) A13 S6 (g_move (by kernel_rfl)) rfl (fun ac A14 => ?_)
    refine s_one (.bool (decide (nthI l k ≠ 0))) A14 S6 (g_bin (u := .int .i64 (nthI l k)) (k := .int .i64 0) (by kernel_rfl) (by kernel_rfl) (fun _ => by kernel_rfl) b_neq) rfl (fun ac A15 => ?_)
    refine wpList_nil ?_
    refine n_then ?_
    refine c_f (b := (decide (nthI l k ≠ 0))) A15 (by kernel_rfl) (decide_eq_false (fun z => z (hz k (by omega)))) ?_
    refine wp_skip ?_
    refine n_block ?_
    refine n_then ?_
    refine wp_region_lit ?_
    refine s_one (.int .i64 ((k : Int) + 1)) A15 S6 (g_bin (u := .int .i64 (k : Int)) (k := .int .i64 1) (by kernel_rfl) (by kernel_rfl) (fun _ => by kernel_rfl) (b_add (by omega))) rfl (fun ac A16 => ?_)
    refine s_one (.int .i64 ((k : Int) + 1)) A16 S6 (g_move (by kernel_rfl)) rfl (fun ac A17 => ?_)
    refine wpList_nil ?_
    refine n_then ?_
    refine ⟨_, ⟨k + 1, rfl, by omega, (A17.slot (A17.slot (A17.slot (A17.slot A17.nil (v := .int .i64 ((k : Int) + 1)) (by kernel_rfl) (congrArg (Value.int .i64) (by omega))) (v := .int .i64 (n : Int)) (by kernel_rfl) rfl) (v := .slice (some ⟨g0, 0, none⟩) n cap) (by kernel_rfl) rfl) (v := .slice (some ⟨g0, 0, none⟩) n cap) (by kernel_rfl) rfl), S6.sub sub_all sub_all⟩, ?_⟩
    omega
  · have p18 := of_decide_eq_false h9
    refine wp_exit ?_
    refine x_then ?_
    refine x_then ?_
    refine x_hit ?_
    refine n_then ?_
    refine wp_seq ?_
    refine wp_region_lit ?_
    refine s_one (.int .i64 0) A8 S6 (g_assign (by kernel_rfl)) rfl (fun ac A19 => ?_)
    refine wpList_nil ?_
    refine n_then ?_
    refine wp_ret ?_
    refine fin1 (.int .i64 0) Try.results24 A19 S6 (rv_tmp (by kernel_rfl)) ⟨?_, S6.kp⟩
    rfl

set_option maxRecDepth 100000 in
set_option maxHeartbeats 400000 in
theorem ranged_t (b : Bool) (w0 : World) (hb : b = true) :
    Calls Try.prog 39 #[.bool b] w0 fun e w' => e = .returned (.int .i64 0) ∧ Below w0.heap.size w0 w' := by
  have S0 := St.start w0
  refine enter (n := 4) Try.func39 rfl rfl rfl (fun ac A0 => ?_)
  refine wp_seq ?_
  refine wp_region_lit ?_
  refine s_one (.int .i64 0) A0 S0 (g_assign (by kernel_rfl)) rfl (fun ac A1 => ?_)
  refine wpList_nil ?_
  refine n_then ?_
  refine wp_seq ?_
  refine wp_seq ?_
  refine wp_region_lit ?_
  refine s_one (.bool b) A1 S0 (g_move (by kernel_rfl)) rfl (fun ac A2 => ?_)
  refine wpList_nil ?_
  refine n_then ?_
  refine c_t (b := b) A2 (by kernel_rfl) hb ?_
  refine wp_seq ?_
  refine wp_region_lit ?_
  refine s_one (.int .i64 0) A2 S0 (g_assign (by kernel_rfl)) rfl (fun ac A3 => ?_)
  refine wpList_nil ?_
  refine n_then ?_
  refine wp_ret ?_
  refine r_then ?_
  refine fin1 (.int .i64 0) Try.results39 A3 S0 (rv_tmp (by kernel_rfl)) ⟨?_, S0.kp⟩
  rfl

set_option maxRecDepth 100000 in
set_option maxHeartbeats 400000 in
theorem echoErr_t (n : Int) (w0 : World) (h : 1 ≤ n ∧ n ≤ 1000000) :
    Calls Try.prog 25 #[.int .i64 n] w0 fun e w' => e = .returned (.int .i64 0) ∧ Below w0.heap.size w0 w' := by
  have S0 := St.start w0
  refine enter (n := 6) Try.func25 rfl rfl rfl (fun ac A0 => ?_)
  refine wp_seq ?_
  refine wp_region_lit ?_
  refine s_one (.int .i64 0) A0 S0 (g_assign (by kernel_rfl)) rfl (fun ac A1 => ?_)
  refine wpList_nil ?_
  refine n_then ?_
  refine wp_seq ?_
  refine wp_region_lit ?_
  refine s_one (.int .i64 n) A1 S0 (g_move (by kernel_rfl)) rfl (fun ac A2 => ?_)
  refine s_call (fs := #[]) (cp := #[]) (r := [(0, .int .i64 n), (0, .int .i64 1), (0, .int .i64 1000000)]) #[.int .i64 n, .int .i64 1, .int .i64 1000000] (.bool (inB n 1 1000000)) A2 S0 (within_s n 1 1000000 _) Try.call21 (by kernel_rfl) (by kernel_rfl) (by kernel_rfl) rfl (fun ac wc A3 S4 => ?_)
  refine s_call (fs := #[]) (cp := #[]) (r := [(0, .bool (inB n 1 1000000))]) #[.bool (inB n 1 1000000)] (.int .i64 0) A3 S4 (ranged_t (inB n 1 1000000) _ (inB_true.2 h)) Try.call39 (by kernel_rfl) (by kernel_rfl) (by kernel_rfl) rfl (fun ac wc A6 S7 => ?_)
  refine s_one (.int .i64 0) A6 S7 (g_assign (by kernel_rfl)) rfl (fun ac A9 => ?_)
  refine wpList_nil ?_
  refine n_then ?_
  refine wp_ret ?_
  refine fin1 (.int .i64 0) Try.results25 A9 S7 (rv_tmp (by kernel_rfl)) ⟨?_, S7.kp⟩
  rfl

theorem tbl_len : ([1000, 800, 2000, 400] : List Int).length = 2 * 2 := rfl
theorem tab_f {l : List Int} {k : Nat} (h : 0 < k → nthI l ((k - 1) * 2) < nthI l (k * 2)) : (decide ((k : Int) > 0) && decide (nthI l (k * 2) ≤ nthI l ((k - 1) * 2 + 0))) = false := by
  rcases Nat.eq_zero_or_pos k with q | q
  · rw [decide_eq_false (by omega)]; rfl
  · have := h q
    rw [decide_eq_false (p := nthI l (k * 2) ≤ nthI l ((k - 1) * 2 + 0)) (by rw [Nat.add_zero]; omega), Bool.and_false]

set_option maxRecDepth 100000 in
set_option maxHeartbeats 400000 in
theorem CheckTable_t (A : Option Addr) (n cap : Nat) (l : List Int) (w0 : World) (hr : IReads w0 A l) (hl : l.length = n * 2) (hn : 1 ≤ n ∧ n ≤ 20) (hg : ∀ k, k < n → (0 ≤ nthI l (k * 2) ∧ nthI l (k * 2) ≤ 100000) ∧ (1 ≤ nthI l (k * 2 + 1) ∧ nthI l (k * 2 + 1) ≤ 1000000) ∧ (0 < k → nthI l ((k - 1) * 2) < nthI l (k * 2))) :
    Calls Try.prog 35 #[.slice A n cap] w0 fun e w' => e = .returned (.tuple #[.int .i64 0, .int .i64 0]) ∧ Below w0.heap.size w0 w' := by
  have S0 := St.start w0
  refine enter (n := 50) Try.func35 rfl rfl rfl (fun ac A0 => ?_)
  refine wp_seq ?_
  refine wp_region_lit ?_
  refine s_one (.int .i64 0) A0 S0 (g_assign (by kernel_rfl)) rfl (fun ac A1 => ?_)
  refine s_one (.int .i64 0) A1 S0 (g_assign (by kernel_rfl)) rfl (fun ac A2 => ?_)
  refine wpList_nil ?_
  refine n_then ?_
  refine wp_seq ?_
  refine wp_block ?_
  refine wp_seq ?_
  refine wp_region_lit ?_
  refine s_one (.slice A n cap) A2 S0 (g_move (by kernel_rfl)) rfl (fun ac A3 => ?_)
  refine s_one (.int .i64 (n : Int)) A3 S0 (g_built (r := [(0, .slice A n cap)]) (by kernel_rfl) (fun _ _ _ => by kernel_rfl)) rfl (fun ac A4 => ?_)
  refine s_one (.bool (decide ((n : Int) = 0))) A4 S0 (g_bin (u := .int .i64 (n : Int)) (k := .int .i64 0) (by kernel_rfl) (by kernel_rfl) (fun _ => by kernel_rfl) b_eql) rfl (fun ac A5 => ?_)
  refine s_one (.bool (decide ((n : Int) = 0))) A5 S0 (g_assign (by kernel_rfl)) rfl (fun ac A6 => ?_)
  refine wpList_nil ?_
  refine n_then ?_
  refine c_f (b := (decide ((n : Int) = 0))) A6 (by kernel_rfl) (decide_eq_false (by omega)) ?_
  refine wp_seq ?_
  refine wp_region_lit ?_
  refine s_one (.slice A n cap) A6 S0 (g_move (by kernel_rfl)) rfl (fun ac A7 => ?_)
  refine s_one (.int .i64 (n : Int)) A7 S0 (g_built (r := [(0, .slice A n cap)]) (by kernel_rfl) (fun _ _ _ => by kernel_rfl)) rfl (fun ac A8 => ?_)
  refine s_one (.bool (decide ((n : Int) > 20))) A8 S0 (g_bin (u := .int .i64 (n : Int)) (k := .int .i64 20) (by kernel_rfl) (by kernel_rfl) (fun _ => by kernel_rfl) (fun _ => by kernel_rfl)) rfl (fun ac A9 => ?_)
  refine s_one (.bool (decide ((n : Int) > 20))) A9 S0 (g_assign (by kernel_rfl)) rfl (fun ac A10 => ?_)
  refine wpList_nil ?_
  refine n_then ?_
  refine c_f (b := (decide ((n : Int) > 20))) A10 (by kernel_rfl) (decide_eq_false (by omega)) ?_
  refine wp_skip ?_
  refine n_block ?_
  refine n_then ?_
  refine wp_seq ?_
  refine wp_seq ?_
  refine wp_region_lit ?_
  refine s_one (.slice A n cap) A10 S0 (g_move (by kernel_rfl)) rfl (fun ac A11 => ?_)
  refine s_one (.int .i64 (n : Int)) A11 S0 (g_built (r := [(0, .slice A n cap)]) (by kernel_rfl) (fun _ _ _ => by kernel_rfl)) rfl (fun ac A12 => ?_)
  refine s_one (.int .i64 0) A12 S0 (g_move (by kernel_rfl)) rfl (fun ac A13 => ?_)
  refine wpList_nil ?_
  refine n_then ?_
  refine wp_block ?_
  refine c_loopN (fun mm ac wc => ∃ (k : Nat), mm = n - k ∧ (k ≤ n) ∧ Fr 50 ac [(0, .slice A n cap), (8, .slice A n cap), (9, .int .i64 (n : Int)), (10, .bool (decide ((n : Int) = 0))), (7, .bool (decide ((n : Int) = 0))), (12, .slice A n cap), (13, .int .i64 (n : Int)), (14, .bool (decide ((n : Int) > 20))), (11, .bool (decide ((n : Int) > 20))), (15, .slice A n cap), (16, .int .i64 (n : Int)), (17, .int .i64 (k : Int))] ∧ St w0 [] [] wc) _ ⟨0, rfl, Nat.zero_le _, (A13.slot (A13.slot (A13.slot (A13.slot (A13.slot (A13.slot (A13.slot (A13.slot (A13.slot (A13.slot (A13.slot (A13.slot A13.nil (v := .int .i64 0) (by kernel_rfl) (congrArg (Value.int .i64) (by omega))) (v := .int .i64 (n : Int)) (by kernel_rfl) rfl) (v := .slice A n cap) (by kernel_rfl) rfl) (v := .bool (decide ((n : Int) > 20))) (by kernel_rfl) rfl) (v := .bool (decide ((n : Int) > 20))) (by kernel_rfl) rfl) (v := .int .i64 (n : Int)) (by kernel_rfl) rfl) (v := .slice A n cap) (by kernel_rfl) rfl) (v := .bool (decide ((n : Int) = 0))) (by kernel_rfl) rfl) (v := .bool (decide ((n : Int) = 0))) (by kernel_rfl) rfl) (v := .int .i64 (n : Int)) (by kernel_rfl) rfl) (v := .slice A n cap) (by kernel_rfl) rfl) (v := .slice A n cap) (by kernel_rfl) rfl), S0.sub sub_all sub_all⟩ ?_
  rintro mm ac wc ⟨k, hm16, hk, A14, S15⟩
  refine wp_seq ?_
  refine wp_region_lit ?_
  refine s_one (.bool (decide ((k : Int) < (n : Int)))) A14 S15 (g_bin (u := .int .i64 (k : Int)) (k := .int .i64 (n : Int)) (by kernel_rfl) (by kernel_rfl) (fun _ => by kernel_rfl) (fun _ => by kernel_rfl)) rfl (fun ac A17 => ?_)
  refine wpList_nil ?_
  refine n_then ?_
  refine wp_seq ?_
  refine c_ifb (b := (decide ((k : Int) < (n : Int)))) A17 (by kernel_rfl) (fun h18 => ?_) (fun h18 => ?_)
  · have p19 := of_decide_eq_true h18
    refine wp_skip ?_
    refine n_then ?_
    refine wp_seq ?_
    refine wp_block ?_
    refine wp_seq ?_
    refine wp_region_lit ?_
    refine s_one (.int .i64 (k : Int)) A17 S15 (g_move (by kernel_rfl)) rfl (fun ac A20 => ?_)
    obtain ⟨ad21, rfl, _⟩ := hr (k * 2) (by have hlen := hl; omega)
    refine s_one (.pointer (some (ad21.add (k * 2)))) A20 S15 (g_index (u := .slice (some ad21) n cap) (k := .int .i64 (k : Int)) (by kernel_rfl) (by kernel_rfl) (ix_xs (e := 48) (bytes := 16) k (by kernel_rfl) (by omega) (by omega))) rfl (fun ac A22 => ?_)
    refine s_one (.agg #[.int .i64 (nthI l (k * 2)), .int .i64 (nthI l (k * 2 + 1))]) A22 S15 (g_loadXS (l := l) (k := k * 2) 2 (by kernel_rfl) hr (by have hlen := hl; omega) (by kernel_rfl) (by kernel_rfl)) rfl (fun ac A23 => ?_)
    refine s_alloc (#[.int .i64 0, .int .i64 0]) A23 S15 (by kernel_rfl) rfl (fun g26 ac wc A24 S25 => ?_)
    refine s_one (.int .i64 (k : Int)) A24 S25 (g_assign (by kernel_rfl)) rfl (fun ac A27 => ?_)
    refine s_store (g := g26) (off := 0) (v := .agg #[.int .i64 (nthI l (k * 2)), .int .i64 (nthI l (k * 2 + 1))]) 0 (#[.int .i64 (nthI l (k * 2)), .int .i64 (nthI l (k * 2 + 1))]) A27 S25 (by kernel_rfl) (by kernel_rfl) rfl (by kernel_rfl) (fun wc S29 => ?_)
    refine wpList_nil ?_
    refine n_then ?_
    refine wp_seq ?_
    refine wp_seq ?_
    refine r_begin (w0 := w0) (by kernel_rfl) (S29.sub sub_all sub_all) (fun wc T31 B32 => ?_)
    have S33 := S29.kept B32
    refine r_take 0 (.pointer (some ⟨g26, 0, none⟩)) A27 T31 (g_field (u := .pointer (some ⟨g26, 0, none⟩)) (by kernel_rfl) (fun _ => by kernel_rfl)) rfl rfl rfl (pf_then (pf_then (pf_block (pf_then (pf_then (pf_block (pf_then pf_body))))))) (by kernel_rfl) (fun ac A34 => ?_)
    refine r_take 1 (.int .i64 (nthI l (k * 2))) A34 T31 (g_load (g := g26) (off := 0) 0 (by kernel_rfl) rfl (by kernel_rfl)) rfl rfl rfl (pf_then (pf_then (pf_block (pf_then (pf_then (pf_block (pf_then pf_body))))))) (by kernel_rfl) (fun ac A35 => ?_)
    refine r_take 4 (.pointer (some ⟨g26, 1, none⟩)) A35 T31 (g_field (u := .pointer (some ⟨g26, 0, none⟩)) (by kernel_rfl) (fun _ => by kernel_rfl)) rfl rfl rfl (pf_then (pf_then (pf_block (pf_then (pf_then (pf_block (pf_then pf_body))))))) (by kernel_rfl) (fun ac A36 => ?_)
    refine r_take 5 (.int .i64 (nthI l (k * 2 + 1))) A36 T31 (g_load (g := g26) (off := 1) 0 (by kernel_rfl) rfl (by kernel_rfl)) rfl rfl rfl (pf_then (pf_then (pf_block (pf_then (pf_then (pf_block (pf_then pf_body))))))) (by kernel_rfl) (fun ac A37 => ?_)
    refine r_1 (i := 2) (by kernel_rfl) ?_
    refine rs_call (fs := #[]) (cp := #[]) (r := [(0, .int .i64 (nthI l (k * 2))), (0, .int .i64 0), (0, .int .i64 100000)]) #[.int .i64 (nthI l (k * 2)), .int .i64 0, .int .i64 100000] (.bool (inB (nthI l (k * 2)) 0 100000)) A37 S33 sub_all sub_all (within_s (nthI l (k * 2)) 0 100000 _) Try.call21 rfl rfl (by kernel_rfl) (by kernel_rfl) (by kernel_rfl) rfl (fun ac wc A38 S39 => ?_)
    have T41 := S39.sub sub_all sub_all
    refine r_1 (i := 3) (by kernel_rfl) ?_
    refine rs_call (fs := #[]) (cp := #[]) (r := [(0, .bool (inB (nthI l (k * 2)) 0 100000))]) #[.bool (inB (nthI l (k * 2)) 0 100000)] (.int .i64 0) A38 S39 sub_all sub_all (ranged_t (inB (nthI l (k * 2)) 0 100000) _ (inB_true.2 (hg k (by omega)).1)) Try.call39 rfl rfl (by kernel_rfl) (by kernel_rfl) (by kernel_rfl) rfl (fun ac wc A42 S43 => ?_)
    have T45 := S43.sub sub_all sub_all
    refine r_1 (i := 6) (by kernel_rfl) ?_
    refine rs_call (fs := #[]) (cp := #[]) (r := [(0, .int .i64 (nthI l (k * 2 + 1)))]) #[.int .i64 (nthI l (k * 2 + 1))] (.int .i64 0) A42 S43 sub_all sub_all (echoErr_t (nthI l (k * 2 + 1)) _ (hg k (by omega)).2.1) Try.call25 rfl rfl (by kernel_rfl) (by kernel_rfl) (by kernel_rfl) rfl (fun ac wc A46 S47 => ?_)
    have T49 := S47.sub sub_all sub_all
    refine r_1 (i := 7) (by kernel_rfl) ?_
    refine rs_bs (e := 32) (r := [(0, .int .i64 0), (1, .int .i64 0)]) (#[.int .i64 0, .int .i64 0]) A46 S47 sub_all sub_all (by kernel_rfl) (by kernel_rfl) rfl rfl rfl (fun g52 ac wc A50 S51 => ?_)
    have T53 := S51.sub (sub_skip sub_all) sub_all
    refine r_1 (i := 8) (by kernel_rfl) ?_
    refine rs_call (fs := #[]) (cp := #[]) (r := [(0, .slice (some ⟨g52, 0, none⟩) 2 2)]) #[.slice (some ⟨g52, 0, none⟩) 2 2] (.int .i64 0) A50 S51 (sub_skip sub_all) sub_all (first_z g52 ([0, 0]) 2 2 _ (S51.get 0 rfl) rfl (by omega) (fun k _ => by rcases k with _ | _ | k <;> rfl)) Try.call24 rfl rfl (by kernel_rfl) (by kernel_rfl) (by kernel_rfl) rfl (fun ac wc A54 S55 => ?_)
    have T57 := S55.sub (sub_skip sub_all) sub_all
    refine r_take 9 (.int .i64 0) A54 T57 (g_assign (by kernel_rfl)) rfl rfl rfl (pf_then (pf_then (pf_block (pf_then (pf_then (pf_block (pf_then pf_body))))))) (by kernel_rfl) (fun ac A58 => ?_)
    refine r_done (by kernel_rfl) ?_
    refine n_then ?_
    refine wp_seq ?_
    refine wp_region_lit ?_
    refine s_one (.int .i64 0) A58 S55 (g_move (by kernel_rfl)) rfl (fun ac A59 => ?_)
    refine s_one (.bool (decide (0 ≠ 0))) A59 S55 (g_bin (u := .int .i64 0) (k := .int .i64 0) (by kernel_rfl) (by kernel_rfl) (fun _ => by kernel_rfl) b_neq) rfl (fun ac A60 => ?_)
    refine wpList_nil ?_
    refine n_then ?_
    refine c_f (b := (decide (0 ≠ 0))) A60 (by kernel_rfl) (by decide) ?_
    refine wp_skip ?_
    refine n_then ?_
    refine wp_seq ?_
    refine c_cut (fun ac wc => Fr 50 ac [(47, .bool ((decide ((k : Int) > 0)) && (decide (nthI l (k * 2) ≤ nthI l ((k - 1) * 2 + 0))))), (0, .slice (some ad21) n cap), (8, .slice (some ad21) n cap), (9, .int .i64 (n : Int)), (10, .bool (decide ((n : Int) = 0))), (7, .bool (decide ((n : Int) = 0))), (12, .slice (some ad21) n cap), (13, .int .i64 (n : Int)), (14, .bool (decide ((n : Int) > 20))), (11, .bool (decide ((n : Int) > 20))), (15, .slice (some ad21) n cap), (16, .int .i64 (n : Int)), (17, .int .i64 (k : Int)), (18, .bool (decide ((k : Int) < (n : Int)))), (19, .int .i64 (k : Int)), (20, .pointer (some (ad21.add (k * 2)))), (21, .agg #[.int .i64 (nthI l (k * 2)), .int .i64 (nthI l (k * 2 + 1))]), (5, .pointer (some ⟨g26, 0, none⟩)), (4, .int .i64 (k : Int)), (22, .pointer (some ⟨g26, 0, none⟩)), (23, .int .i64 (nthI l (k * 2))), (26, .pointer (some ⟨g26, 1, none⟩)), (27, .int .i64 (nthI l (k * 2 + 1))), (24, .bool (inB (nthI l (k * 2)) 0 100000)), (25, .int .i64 0), (28, .int .i64 0), (29, .slice (some ⟨g52, 0, none⟩) 2 2), (30, .int .i64 0), (6, .int .i64 0), (31, .int .i64 0), (32, .bool (decide (0 ≠ 0)))] ∧ St w0 [⟨g52, 32, #[.int .i64 0, .int .i64 0], true⟩, ⟨g26, 48, #[.int .i64 (nthI l (k * 2)), .int .i64 (nthI l (k * 2 + 1))], true⟩] [] wc) ?_ ?_
    · refine r_begin (w0 := w0) (by kernel_rfl) (S55.sub sub_all sub_all) (fun wc T61 B62 => ?_)
      have S63 := S55.kept B62
      refine r_take 0 (.int .i64 (k : Int)) A60 T61 (g_move (by kernel_rfl)) rfl rfl rfl (pf_then (pf_then (pf_block (pf_then (pf_then (pf_block (pf_then pf_body))))))) (by kernel_rfl) (fun ac A64 => ?_)
      refine r_take 1 (.bool (decide ((k : Int) > 0))) A64 T61 (g_bin (u := .int .i64 (k : Int)) (k := .int .i64 0) (by kernel_rfl) (by kernel_rfl) (fun _ => by kernel_rfl) (fun _ => by kernel_rfl)) rfl rfl rfl (pf_then (pf_then (pf_block (pf_then (pf_then (pf_block (pf_then pf_body))))))) (by kernel_rfl) (fun ac A65 => ?_)
      refine r_take 2 (.bool (decide ((k : Int) > 0))) A65 T61 (g_move (by kernel_rfl)) rfl rfl rfl (pf_then (pf_then (pf_block (pf_then (pf_then (pf_block (pf_then pf_body))))))) (by kernel_rfl) (fun ac A66 => ?_)
      refine by_bool (decide ((k : Int) > 0)) (fun h67 => ?_) (fun h67 => ?_)
      · have p68 := of_decide_eq_true h67
        refine r_take 3 (.pointer (some ⟨g26, 0, none⟩)) A66 T61 (g_field (u := .pointer (some ⟨g26, 0, none⟩)) (by kernel_rfl) (fun _ => by kernel_rfl)) rfl (want_t (dj := 37) (b := (decide ((k : Int) > 0))) A66 rfl (by kernel_rfl) (by kernel_rfl) h67) rfl (pf_then (pf_then (pf_block (pf_then (pf_then (pf_block (pf_then pf_body))))))) (by kernel_rfl) (fun ac A69 => ?_)
        refine r_take 4 (.int .i64 (nthI l (k * 2))) A69 T61 (g_load (g := g26) (off := 0) 1 (by kernel_rfl) rfl (by kernel_rfl)) rfl (want_t (dj := 37) (b := (decide ((k : Int) > 0))) A69 rfl (by kernel_rfl) (by kernel_rfl) h67) rfl (pf_then (pf_then (pf_block (pf_then (pf_then (pf_block (pf_then pf_body))))))) (by kernel_rfl) (fun ac A70 => ?_)
        refine r_take 5 (.slice (some ad21) n cap) A70 T61 (g_move (by kernel_rfl)) rfl (want_t (dj := 37) (b := (decide ((k : Int) > 0))) A70 rfl (by kernel_rfl) (by kernel_rfl) h67) rfl (pf_then (pf_then (pf_block (pf_then (pf_then (pf_block (pf_then pf_body))))))) (by kernel_rfl) (fun ac A71 => ?_)
        refine r_take 6 (.int .i64 (k : Int)) A71 T61 (g_move (by kernel_rfl)) rfl (want_t (dj := 37) (b := (decide ((k : Int) > 0))) A71 rfl (by kernel_rfl) (by kernel_rfl) h67) rfl (pf_then (pf_then (pf_block (pf_then (pf_then (pf_block (pf_then pf_body))))))) (by kernel_rfl) (fun ac A72 => ?_)
        refine r_take 7 (.int .i64 ((k : Int) - 1)) A72 T61 (g_bin (u := .int .i64 (k : Int)) (k := .int .i64 1) (by kernel_rfl) (by kernel_rfl) (fun _ => by kernel_rfl) (b_sub (by omega))) rfl (want_t (dj := 37) (b := (decide ((k : Int) > 0))) A72 rfl (by kernel_rfl) (by kernel_rfl) h67) rfl (pf_then (pf_then (pf_block (pf_then (pf_then (pf_block (pf_then pf_body))))))) (by kernel_rfl) (fun ac A73 => ?_)
        refine r_take 8 (.pointer (some (ad21.add ((k - 1) * 2)))) A73 T61 (g_index (u := .slice (some ad21) n cap) (k := .int .i64 ((k : Int) - 1)) (by kernel_rfl) (by kernel_rfl) (ix_xs (e := 48) (bytes := 16) (k - 1) (by kernel_rfl) (by omega) (by omega))) rfl (want_t (dj := 37) (b := (decide ((k : Int) > 0))) A73 rfl (by kernel_rfl) (by kernel_rfl) h67) rfl (pf_then (pf_then (pf_block (pf_then (pf_then (pf_block (pf_then pf_body))))))) (by kernel_rfl) (fun ac A74 => ?_)
        refine r_take 9 (.pointer (some (ad21.add ((k - 1) * 2 + 0)))) A74 T61 (g_field (u := .pointer (some (ad21.add ((k - 1) * 2)))) (by kernel_rfl) (fld_x (o := 0) (by kernel_rfl))) rfl (want_t (dj := 37) (b := (decide ((k : Int) > 0))) A74 rfl (by kernel_rfl) (by kernel_rfl) h67) rfl (pf_then (pf_then (pf_block (pf_then (pf_then (pf_block (pf_then pf_body))))))) (by kernel_rfl) (fun ac A75 => ?_)
        refine r_take 10 (.int .i64 (nthI l ((k - 1) * 2 + 0))) A75 T61 (g_loadXI (l := l) (k := (k - 1) * 2 + 0) (by kernel_rfl) hr (by have hlen := hl; omega) (by kernel_rfl)) rfl (want_t (dj := 37) (b := (decide ((k : Int) > 0))) A75 rfl (by kernel_rfl) (by kernel_rfl) h67) rfl (pf_then (pf_then (pf_block (pf_then (pf_then (pf_block (pf_then pf_body))))))) (by kernel_rfl) (fun ac A76 => ?_)
        refine r_take 11 (.bool (decide (nthI l (k * 2) ≤ nthI l ((k - 1) * 2 + 0)))) A76 T61 (g_bin (u := .int .i64 (nthI l (k * 2))) (k := .int .i64 (nthI l ((k - 1) * 2 + 0))) (by kernel_rfl) (by kernel_rfl) (fun _ => by kernel_rfl) (fun _ => by kernel_rfl)) rfl (want_t (dj := 37) (b := (decide ((k : Int) > 0))) A76 rfl (by kernel_rfl) (by kernel_rfl) h67) rfl (pf_then (pf_then (pf_block (pf_then (pf_then (pf_block (pf_then pf_body))))))) (by kernel_rfl) (fun ac A77 => ?_)
        refine r_take 12 (.bool (decide (nthI l (k * 2) ≤ nthI l ((k - 1) * 2 + 0)))) A77 T61 (g_pick_t (b := (decide ((k : Int) > 0))) (by kernel_rfl) h67 (by kernel_rfl)) rfl rfl rfl (pf_then (pf_then (pf_block (pf_then (pf_then (pf_block (pf_then pf_body))))))) (by kernel_rfl) (fun ac A78 => ?_)
        refine r_done (by kernel_rfl) ?_
        refine n_then ?_
        exact ⟨(A78.slot (A78.slot (A78.slot (A78.slot (A78.slot (A78.slot (A78.slot (A78.slot (A78.slot (A78.slot (A78.slot (A78.slot (A78.slot (A78.slot (A78.slot (A78.slot (A78.slot (A78.slot (A78.slot (A78.slot (A78.slot (A78.slot (A78.slot (A78.slot (A78.slot (A78.slot (A78.slot (A78.slot (A78.slot (A78.slot (A78.slot A78.nil (v := .bool (decide (0 ≠ 0))) (by kernel_rfl) rfl) (v := .int .i64 0) (by kernel_rfl) rfl) (v := .int .i64 0) (by kernel_rfl) rfl) (v := .int .i64 0) (by kernel_rfl) rfl) (v := .slice (some ⟨g52, 0, none⟩) 2 2) (by kernel_rfl) rfl) (v := .int .i64 0) (by kernel_rfl) rfl) (v := .int .i64 0) (by kernel_rfl) rfl) (v := .bool (inB (nthI l (k * 2)) 0 100000)) (by kernel_rfl) rfl) (v := .int .i64 (nthI l (k * 2 + 1))) (by kernel_rfl) rfl) (v := .pointer (some ⟨g26, 1, none⟩)) (by kernel_rfl) rfl) (v := .int .i64 (nthI l (k * 2))) (by kernel_rfl) rfl) (v := .pointer (some ⟨g26, 0, none⟩)) (by kernel_rfl) rfl) (v := .int .i64 (k : Int)) (by kernel_rfl) rfl) (v := .pointer (some ⟨g26, 0, none⟩)) (by kernel_rfl) rfl) (v := .agg #[.int .i64 (nthI l (k * 2)), .int .i64 (nthI l (k * 2 + 1))]) (by kernel_rfl) rfl) (v := .pointer (some (ad21.add (k * 2)))) (by kernel_rfl) rfl) (v := .int .i64 (k : Int)) (by kernel_rfl) rfl) (v := .bool (decide ((k : Int) < (n : Int)))) (by kernel_rfl) rfl) (v := .int .i64 (k : Int)) (by kernel_rfl) rfl) (v := .int .i64 (n : Int)) (by kernel_rfl) rfl) (v := .slice (some ad21) n cap) (by kernel_rfl) rfl) (v := .bool (decide ((n : Int) > 20))) (by kernel_rfl) rfl) (v := .bool (decide ((n : Int) > 20))) (by kernel_rfl) rfl) (v := .int .i64 (n : Int)) (by kernel_rfl) rfl) (v := .slice (some ad21) n cap) (by kernel_rfl) rfl) (v := .bool (decide ((n : Int) = 0))) (by kernel_rfl) rfl) (v := .bool (decide ((n : Int) = 0))) (by kernel_rfl) rfl) (v := .int .i64 (n : Int)) (by kernel_rfl) rfl) (v := .slice (some ad21) n cap) (by kernel_rfl) rfl) (v := .slice (some ad21) n cap) (by kernel_rfl) rfl) (v := .bool (decide (nthI l (k * 2) ≤ nthI l ((k - 1) * 2 + 0)))) (by kernel_rfl) (congrArg Value.bool (b_and_t h67 (Eq.refl (decide (nthI l (k * 2) ≤ nthI l ((k - 1) * 2 + 0))))).symm)), S63.sub sub_all sub_all⟩
      · have p79 := of_decide_eq_false h67
        refine r_skip 3 A66 T61 rfl (want_f (dj := 37) (b := (decide ((k : Int) > 0))) A66 rfl (by kernel_rfl) (by kernel_rfl) h67) rfl (pf_then (pf_then (pf_block (pf_then (pf_then (pf_block (pf_then pf_body))))))) (by kernel_rfl) (fun ac A80 => ?_)
        refine r_skip 4 A80 T61 rfl (want_f (dj := 37) (b := (decide ((k : Int) > 0))) A80 rfl (by kernel_rfl) (by kernel_rfl) h67) rfl (pf_then (pf_then (pf_block (pf_then (pf_then (pf_block (pf_then pf_body))))))) (by kernel_rfl) (fun ac A81 => ?_)
        refine r_skip 5 A81 T61 rfl (want_f (dj := 37) (b := (decide ((k : Int) > 0))) A81 rfl (by kernel_rfl) (by kernel_rfl) h67) rfl (pf_then (pf_then (pf_block (pf_then (pf_then (pf_block (pf_then pf_body))))))) (by kernel_rfl) (fun ac A82 => ?_)
        refine r_skip 6 A82 T61 rfl (want_f (dj := 37) (b := (decide ((k : Int) > 0))) A82 rfl (by kernel_rfl) (by kernel_rfl) h67) rfl (pf_then (pf_then (pf_block (pf_then (pf_then (pf_block (pf_then pf_body))))))) (by kernel_rfl) (fun ac A83 => ?_)
        refine r_skip 7 A83 T61 rfl (want_f (dj := 37) (b := (decide ((k : Int) > 0))) A83 rfl (by kernel_rfl) (by kernel_rfl) h67) rfl (pf_then (pf_then (pf_block (pf_then (pf_then (pf_block (pf_then pf_body))))))) (by kernel_rfl) (fun ac A84 => ?_)
        refine r_skip 8 A84 T61 rfl (want_f (dj := 37) (b := (decide ((k : Int) > 0))) A84 rfl (by kernel_rfl) (by kernel_rfl) h67) rfl (pf_then (pf_then (pf_block (pf_then (pf_then (pf_block (pf_then pf_body))))))) (by kernel_rfl) (fun ac A85 => ?_)
        refine r_skip 9 A85 T61 rfl (want_f (dj := 37) (b := (decide ((k : Int) > 0))) A85 rfl (by kernel_rfl) (by kernel_rfl) h67) rfl (pf_then (pf_then (pf_block (pf_then (pf_then (pf_block (pf_then pf_body))))))) (by kernel_rfl) (fun ac A86 => ?_)
        refine r_skip 10 A86 T61 rfl (want_f (dj := 37) (b := (decide ((k : Int) > 0))) A86 rfl (by kernel_rfl) (by kernel_rfl) h67) rfl (pf_then (pf_then (pf_block (pf_then (pf_then (pf_block (pf_then pf_body))))))) (by kernel_rfl) (fun ac A87 => ?_)
        refine r_skip 11 A87 T61 rfl (want_f (dj := 37) (b := (decide ((k : Int) > 0))) A87 rfl (by kernel_rfl) (by kernel_rfl) h67) rfl (pf_then (pf_then (pf_block (pf_then (pf_then (pf_block (pf_then pf_body))))))) (by kernel_rfl) (fun ac A88 => ?_)
        refine r_take 12 (.bool false) A88 T61 (g_pick_f (b := (decide ((k : Int) > 0))) (by kernel_rfl) h67 (by kernel_rfl)) rfl rfl rfl (pf_then (pf_then (pf_block (pf_then (pf_then (pf_block (pf_then pf_body))))))) (by kernel_rfl) (fun ac A89 => ?_)
        refine r_done (by kernel_rfl) ?_
        refine n_then ?_
        exact ⟨(A89.slot (A89.slot (A89.slot (A89.slot (A89.slot (A89.slot (A89.slot (A89.slot (A89.slot (A89.slot (A89.slot (A89.slot (A89.slot (A89.slot (A89.slot (A89.slot (A89.slot (A89.slot (A89.slot (A89.slot (A89.slot (A89.slot (A89.slot (A89.slot (A89.slot (A89.slot (A89.slot (A89.slot (A89.slot (A89.slot (A89.slot A89.nil (v := .bool (decide (0 ≠ 0))) (by kernel_rfl) rfl) (v := .int .i64 0) (by kernel_rfl) rfl) (v := .int .i64 0) (by kernel_rfl) rfl) (v := .int .i64 0) (by kernel_rfl) rfl) (v := .slice (some ⟨g52, 0, none⟩) 2 2) (by kernel_rfl) rfl) (v := .int .i64 0) (by kernel_rfl) rfl) (v := .int .i64 0) (by kernel_rfl) rfl) (v := .bool (inB (nthI l (k * 2)) 0 100000)) (by kernel_rfl) rfl) (v := .int .i64 (nthI l (k * 2 + 1))) (by kernel_rfl) rfl) (v := .pointer (some ⟨g26, 1, none⟩)) (by kernel_rfl) rfl) (v := .int .i64 (nthI l (k * 2))) (by kernel_rfl) rfl) (v := .pointer (some ⟨g26, 0, none⟩)) (by kernel_rfl) rfl) (v := .int .i64 (k : Int)) (by kernel_rfl) rfl) (v := .pointer (some ⟨g26, 0, none⟩)) (by kernel_rfl) rfl) (v := .agg #[.int .i64 (nthI l (k * 2)), .int .i64 (nthI l (k * 2 + 1))]) (by kernel_rfl) rfl) (v := .pointer (some (ad21.add (k * 2)))) (by kernel_rfl) rfl) (v := .int .i64 (k : Int)) (by kernel_rfl) rfl) (v := .bool (decide ((k : Int) < (n : Int)))) (by kernel_rfl) rfl) (v := .int .i64 (k : Int)) (by kernel_rfl) rfl) (v := .int .i64 (n : Int)) (by kernel_rfl) rfl) (v := .slice (some ad21) n cap) (by kernel_rfl) rfl) (v := .bool (decide ((n : Int) > 20))) (by kernel_rfl) rfl) (v := .bool (decide ((n : Int) > 20))) (by kernel_rfl) rfl) (v := .int .i64 (n : Int)) (by kernel_rfl) rfl) (v := .slice (some ad21) n cap) (by kernel_rfl) rfl) (v := .bool (decide ((n : Int) = 0))) (by kernel_rfl) rfl) (v := .bool (decide ((n : Int) = 0))) (by kernel_rfl) rfl) (v := .int .i64 (n : Int)) (by kernel_rfl) rfl) (v := .slice (some ad21) n cap) (by kernel_rfl) rfl) (v := .slice (some ad21) n cap) (by kernel_rfl) rfl) (v := .bool false) (by kernel_rfl) (congrArg Value.bool (tab_f (fun h => (hg k (by omega)).2.2 h)).symm)), S63.sub sub_all sub_all⟩
    · rintro ac wc ⟨A90, S91⟩
      refine n_then ?_
      refine c_f (b := ((decide ((k : Int) > 0)) && (decide (nthI l (k * 2) ≤ nthI l ((k - 1) * 2 + 0))))) A90 (by kernel_rfl) (tab_f (fun h => (hg k (by omega)).2.2 h)) ?_
      refine wp_skip ?_
      refine n_block ?_
      refine n_then ?_
      refine wp_region_lit ?_
      refine s_one (.int .i64 ((k : Int) + 1)) A90 S91 (g_bin (u := .int .i64 (k : Int)) (k := .int .i64 1) (by kernel_rfl) (by kernel_rfl) (fun _ => by kernel_rfl) (b_add (by omega))) rfl (fun ac A92 => ?_)
      refine s_one (.int .i64 ((k : Int) + 1)) A92 S91 (g_move (by kernel_rfl)) rfl (fun ac A93 => ?_)
      refine wpList_nil ?_
      refine n_then ?_
      refine ⟨_, ⟨k + 1, rfl, by omega, (A93.slot (A93.slot (A93.slot (A93.slot (A93.slot (A93.slot (A93.slot (A93.slot (A93.slot (A93.slot (A93.slot (A93.slot A93.nil (v := .int .i64 ((k : Int) + 1)) (by kernel_rfl) (congrArg (Value.int .i64) (by omega))) (v := .int .i64 (n : Int)) (by kernel_rfl) rfl) (v := .slice (some ad21) n cap) (by kernel_rfl) (by first | rfl | simp)) (v := .bool (decide ((n : Int) > 20))) (by kernel_rfl) rfl) (v := .bool (decide ((n : Int) > 20))) (by kernel_rfl) rfl) (v := .int .i64 (n : Int)) (by kernel_rfl) rfl) (v := .slice (some ad21) n cap) (by kernel_rfl) (by first | rfl | simp)) (v := .bool (decide ((n : Int) = 0))) (by kernel_rfl) rfl) (v := .bool (decide ((n : Int) = 0))) (by kernel_rfl) rfl) (v := .int .i64 (n : Int)) (by kernel_rfl) rfl) (v := .slice (some ad21) n cap) (by kernel_rfl) (by first | rfl | simp)) (v := .slice (some ad21) n cap) (by kernel_rfl) (by first | rfl | simp)), S91.sub sub_nil sub_all⟩, ?_⟩
      omega
  · have p94 := of_decide_eq_false h18
    refine wp_exit ?_
    refine x_then ?_
    refine x_then ?_
    refine x_hit ?_
    refine n_then ?_
    refine wp_seq ?_
    refine wp_region_lit ?_
    refine s_one (.int .i64 0) A17 S15 (g_assign (by kernel_rfl)) rfl (fun ac A95 => ?_)
    refine s_one (.int .i64 0) A95 S15 (g_assign (by kernel_rfl)) rfl (fun ac A96 => ?_)
    refine wpList_nil ?_
    refine n_then ?_
    refine wp_ret ?_
    refine fin2 (.int .i64 0) (.int .i64 0) Try.results35 A96 S15 (rv_tmp (by kernel_rfl)) (rv_tmp (by kernel_rfl)) ⟨?_, S15.kp⟩
    rfl

set_option maxRecDepth 100000 in
set_option maxHeartbeats 400000 in
theorem deep_s (gs : Nat) (d x y : Int) (w0 : World) (hb : Blk w0 gs 3 #[.int .i64 d]) :
    Calls Try.prog 37 #[.agg #[.int .i64 x, .int .i64 y], .pointer (some ⟨gs, 0, none⟩)] w0 fun e w' => e = .returned (.bool (decide (x ≥ d))) ∧ Below w0.heap.size w0 w' := by
  have S0 := St.start w0
  have S0 := S0.came hb (by simp)
  refine enter (n := 8) Try.func37 rfl rfl rfl (fun ac A0 => ?_)
  refine wp_seq ?_
  refine wp_region_lit ?_
  refine s_box (.agg #[.int .i64 x, .int .i64 y]) A0 S0 (by kernel_rfl) rfl (fun g3 ac wc A1 S2 => ?_)
  replace S2 : St _ (⟨g3, 48, #[.int .i64 x, .int .i64 y], true⟩ :: _) _ _ := S2
  refine s_one (.bool false) A1 S2 (g_assign (by kernel_rfl)) rfl (fun ac A5 => ?_)
  refine wpList_nil ?_
  refine n_then ?_
  refine wp_seq ?_
  refine wp_region_lit ?_
  refine s_one (.pointer (some ⟨g3, 0, none⟩)) A5 S2 (g_field (u := .pointer (some ⟨g3, 0, none⟩)) (by kernel_rfl) (fun _ => by kernel_rfl)) rfl (fun ac A6 => ?_)
  refine s_one (.int .i64 x) A6 S2 (g_load (g := g3) (off := 0) 0 (by kernel_rfl) rfl (by kernel_rfl)) rfl (fun ac A7 => ?_)
  refine s_one (.int .i64 d) A7 S2 (g_load (g := gs) (off := 0) 1 (by kernel_rfl) rfl (by kernel_rfl)) rfl (fun ac A8 => ?_)
  refine s_one (.bool (decide (x ≥ d))) A8 S2 (g_bin (u := .int .i64 x) (k := .int .i64 d) (by kernel_rfl) (by kernel_rfl) (fun _ => by kernel_rfl) (fun _ => by kernel_rfl)) rfl (fun ac A9 => ?_)
  refine s_one (.bool (decide (x ≥ d))) A9 S2 (g_assign (by kernel_rfl)) rfl (fun ac A10 => ?_)
  refine wpList_nil ?_
  refine n_then ?_
  refine wp_ret ?_
  refine fin1 (.bool (decide (x ≥ d))) Try.results37 A10 S2 (rv_tmp (by kernel_rfl)) ⟨?_, S2.kp⟩
  rfl

set_option maxRecDepth 100000 in
set_option maxHeartbeats 400000 in
theorem index_t (A : Option Addr) (n cap : Nat) (l : List Int) (gs : Nat) (d : Int) (j : Nat) (w0 : World) (hr : IReads w0 A l) (hl : l.length = n * 2) (hn : n ≤ 1000) (hb : Blk w0 gs 3 #[.int .i64 d]) (hj : j < n) (h1 : ∀ i, i < j → ¬ nthI l (i * 2) ≥ d) (h2 : nthI l (j * 2) ≥ d) :
    Calls Try.prog 36 #[.slice A n cap, .func (.func 37) #[] #[.pointer (some ⟨gs, 0, none⟩)]] w0 fun e w' => e = .returned (.int .i64 (j : Int)) ∧ Below w0.heap.size w0 w' := by
  have S0 := St.start w0
  have S0 := S0.came hb (by simp)
  refine enter (n := 19) Try.func36 rfl rfl rfl (fun ac A0 => ?_)
  refine wp_seq ?_
  refine wp_region_lit ?_
  refine s_one (.int .i64 0) A0 S0 (g_assign (by kernel_rfl)) rfl (fun ac A1 => ?_)
  refine wpList_nil ?_
  refine n_then ?_
  refine wp_seq ?_
  refine wp_seq ?_
  refine wp_region_lit ?_
  refine s_one (.slice A n cap) A1 S0 (g_move (by kernel_rfl)) rfl (fun ac A2 => ?_)
  refine s_one (.int .i64 (n : Int)) A2 S0 (g_built (r := [(0, .slice A n cap)]) (by kernel_rfl) (fun _ _ _ => by kernel_rfl)) rfl (fun ac A3 => ?_)
  refine s_one (.int .i64 0) A3 S0 (g_move (by kernel_rfl)) rfl (fun ac A4 => ?_)
  refine wpList_nil ?_
  refine n_then ?_
  refine wp_block ?_
  refine c_loopN (fun mm ac wc => ∃ (k : Nat), mm = n - k ∧ (k ≤ j) ∧ Fr 19 ac [(0, .slice A n cap), (1, .func (.func 37) #[] #[.pointer (some ⟨gs, 0, none⟩)]), (6, .slice A n cap), (7, .int .i64 (n : Int)), (8, .int .i64 (k : Int))] ∧ St w0 [⟨gs, 3, #[.int .i64 d], false⟩] [] wc) _ ⟨0, rfl, Nat.zero_le _, (A4.slot (A4.slot (A4.slot (A4.slot (A4.slot A4.nil (v := .int .i64 0) (by kernel_rfl) (congrArg (Value.int .i64) (by omega))) (v := .int .i64 (n : Int)) (by kernel_rfl) rfl) (v := .slice A n cap) (by kernel_rfl) rfl) (v := .func (.func 37) #[] #[.pointer (some ⟨gs, 0, none⟩)]) (by kernel_rfl) rfl) (v := .slice A n cap) (by kernel_rfl) rfl), S0.sub sub_all sub_all⟩ ?_
  rintro mm ac wc ⟨k, hm7, hk, A5, S6⟩
  refine wp_seq ?_
  refine wp_region_lit ?_
  refine s_one (.bool (decide ((k : Int) < (n : Int)))) A5 S6 (g_bin (u := .int .i64 (k : Int)) (k := .int .i64 (n : Int)) (by kernel_rfl) (by kernel_rfl) (fun _ => by kernel_rfl) (fun _ => by kernel_rfl)) rfl (fun ac A8 => ?_)
  refine wpList_nil ?_
  refine n_then ?_
  refine wp_seq ?_
  refine c_ifb (b := (decide ((k : Int) < (n : Int)))) A8 (by kernel_rfl) (fun h9 => ?_) (fun h9 => ?_)
  · have p10 := of_decide_eq_true h9
    refine wp_skip ?_
    refine n_then ?_
    refine wp_seq ?_
    refine wp_block ?_
    refine wp_seq ?_
    refine wp_region_lit ?_
    refine s_one (.int .i64 (k : Int)) A8 S6 (g_move (by kernel_rfl)) rfl (fun ac A11 => ?_)
    refine s_one (.int .i64 (k : Int)) A11 S6 (g_assign (by kernel_rfl)) rfl (fun ac A12 => ?_)
    refine wpList_nil ?_
    refine n_then ?_
    refine wp_seq ?_
    refine wp_region_lit ?_
    refine s_one (.func (.func 37) #[] #[.pointer (some ⟨gs, 0, none⟩)]) A12 S6 (g_move (by kernel_rfl)) rfl (fun ac A13 => ?_)
    refine s_one (.slice A n cap) A13 S6 (g_move (by kernel_rfl)) rfl (fun ac A14 => ?_)
    refine s_one (.int .i64 (k : Int)) A14 S6 (g_move (by kernel_rfl)) rfl (fun ac A15 => ?_)
    obtain ⟨ad16, rfl, _⟩ := hr (k * 2) (by have hlen := hl; omega)
    refine s_one (.pointer (some (ad16.add (k * 2)))) A15 S6 (g_index (u := .slice (some ad16) n cap) (k := .int .i64 (k : Int)) (by kernel_rfl) (by kernel_rfl) (ix_xs (e := 48) (bytes := 16) k (by kernel_rfl) (by omega) (by omega))) rfl (fun ac A17 => ?_)
    refine s_one (.agg #[.int .i64 (nthI l (k * 2)), .int .i64 (nthI l (k * 2 + 1))]) A17 S6 (g_loadXS (l := l) (k := k * 2) 2 (by kernel_rfl) hr (by have hlen := hl; omega) (by kernel_rfl) (by kernel_rfl)) rfl (fun ac A18 => ?_)
    refine s_call (fs := #[]) (cp := #[.pointer (some ⟨gs, 0, none⟩)]) (r := [(0, .agg #[.int .i64 (nthI l (k * 2)), .int .i64 (nthI l (k * 2 + 1))])]) #[.agg #[.int .i64 (nthI l (k * 2)), .int .i64 (nthI l (k * 2 + 1))], .pointer (some ⟨gs, 0, none⟩)] (.bool (decide ((nthI l (k * 2)) ≥ d))) A18 S6 (deep_s gs d (nthI l (k * 2)) (nthI l (k * 2 + 1)) _ (S6.get 0 rfl)) Try.call37 (by kernel_rfl) (by kernel_rfl) (by kernel_rfl) rfl (fun ac wc A19 S20 => ?_)
    refine wpList_nil ?_
    refine n_then ?_
    refine c_ifb (b := (decide ((nthI l (k * 2)) ≥ d))) A19 (by kernel_rfl) (fun h22 => ?_) (fun h22 => ?_)
    · have p23 := of_decide_eq_true h22
      refine wp_seq ?_
      refine wp_region_lit ?_
      refine s_one (.int .i64 (k : Int)) A19 S20 (g_move (by kernel_rfl)) rfl (fun ac A24 => ?_)
      refine s_one (.int .i64 (k : Int)) A24 S20 (g_assign (by kernel_rfl)) rfl (fun ac A25 => ?_)
      refine wpList_nil ?_
      refine n_then ?_
      refine wp_ret ?_
      refine r_block ?_
      refine r_then ?_
      refine r_then ?_
      refine r_block ?_
      refine r_then ?_
      refine fin1 (.int .i64 (k : Int)) Try.results36 A25 S20 (rv_tmp (by kernel_rfl)) ⟨?_, S20.kp⟩
      have ekj : k = j := by rcases Nat.lt_or_ge k j with z | z; exact absurd p23 (h1 k z); omega
      rw [ekj]
    · have p26 := of_decide_eq_false h22
      refine wp_skip ?_
      refine n_block ?_
      refine n_then ?_
      refine wp_region_lit ?_
      refine s_one (.int .i64 ((k : Int) + 1)) A19 S20 (g_bin (u := .int .i64 (k : Int)) (k := .int .i64 1) (by kernel_rfl) (by kernel_rfl) (fun _ => by kernel_rfl) (b_add (by omega))) rfl (fun ac A27 => ?_)
      refine s_one (.int .i64 ((k : Int) + 1)) A27 S20 (g_move (by kernel_rfl)) rfl (fun ac A28 => ?_)
      refine wpList_nil ?_
      refine n_then ?_
      refine ⟨_, ⟨k + 1, rfl, (by have q := h2; rcases Nat.lt_or_ge k j with z | z; omega; obtain rfl : k = j := (by omega); exact absurd h2 p26), (A28.slot (A28.slot (A28.slot (A28.slot (A28.slot A28.nil (v := .int .i64 ((k : Int) + 1)) (by kernel_rfl) (congrArg (Value.int .i64) (by omega))) (v := .int .i64 (n : Int)) (by kernel_rfl) rfl) (v := .slice (some ad16) n cap) (by kernel_rfl) (by first | rfl | simp)) (v := .func (.func 37) #[] #[.pointer (some ⟨gs, 0, none⟩)]) (by kernel_rfl) rfl) (v := .slice (some ad16) n cap) (by kernel_rfl) (by first | rfl | simp)), S20.sub sub_all sub_all⟩, ?_⟩
      omega
  · have p29 := of_decide_eq_false h9
    refine wp_exit ?_
    refine x_then ?_
    refine x_then ?_
    refine x_hit ?_
    refine n_then ?_
    refine wp_seq ?_
    refine wp_region_lit ?_
    refine s_one (.int .i64 (-1)) A8 S6 (g_assign (by kernel_rfl)) rfl (fun ac A30 => ?_)
    refine wpList_nil ?_
    refine n_then ?_
    refine wp_ret ?_
    refine fin1 (.int .i64 (-1)) Try.results36 A30 S6 (rv_tmp (by kernel_rfl)) ⟨?_, S6.kp⟩
    exact absurd hj (by omega)

set_option maxRecDepth 100000 in
set_option maxHeartbeats 400000 in
theorem between_t  (w0 : World) :
    Calls Try.prog 38 #[.agg #[.int .i64 1000, .int .i64 800], .agg #[.int .i64 2000, .int .i64 400], .int .i64 1500] w0 fun e w' => e = .returned (.agg #[.int .i64 600000, .int .i64 1000]) ∧ Below w0.heap.size w0 w' := by
  have S0 := St.start w0
  refine enter (n := 36) Try.func38 rfl rfl rfl (fun ac A0 => ?_)
  refine wp_seq ?_
  refine wp_region_lit ?_
  refine s_box (.agg #[.int .i64 1000, .int .i64 800]) A0 S0 (by kernel_rfl) rfl (fun g3 ac wc A1 S2 => ?_)
  replace S2 : St _ (⟨g3, 48, #[.int .i64 1000, .int .i64 800], true⟩ :: _) _ _ := S2
  refine s_box (.agg #[.int .i64 2000, .int .i64 400]) A1 S2 (by kernel_rfl) rfl (fun g7 ac wc A5 S6 => ?_)
  replace S6 : St _ (⟨g7, 48, #[.int .i64 2000, .int .i64 400], true⟩ :: _) _ _ := S6
  refine s_alloc (#[.int .i64 0, .int .i64 0]) A5 S6 (by kernel_rfl) rfl (fun g11 ac wc A9 S10 => ?_)
  refine wpList_nil ?_
  refine n_then ?_
  refine wp_seq ?_
  refine wp_seq ?_
  refine wp_region_lit ?_
  refine s_one (.agg #[.int .i64 1000, .int .i64 800]) A9 S10 (g_load (g := g3) (off := 0) 2 (by kernel_rfl) rfl (by kernel_rfl)) rfl (fun ac A12 => ?_)
  refine s_one (.agg #[.int .i64 2000, .int .i64 400]) A12 S10 (g_load (g := g7) (off := 0) 1 (by kernel_rfl) rfl (by kernel_rfl)) rfl (fun ac A13 => ?_)
  refine s_one (.bool (decide ([1000, 800] = [2000, 400]))) A13 S10 (g_bin (u := .agg #[.int .i64 1000, .int .i64 800]) (k := .agg #[.int .i64 2000, .int .i64 400]) (by kernel_rfl) (by kernel_rfl) (fun _ => by kernel_rfl) (q_struct (n := 2) [1000, 800] [2000, 400] (by kernel_rfl) rfl rfl)) rfl (fun ac A14 => ?_)
  refine wpList_nil ?_
  refine n_then ?_
  refine c_f (b := (decide ([1000, 800] = [2000, 400]))) A14 (by kernel_rfl) (decide_eq_false (by decide)) ?_
  refine wp_skip ?_
  refine n_then ?_
  refine wp_seq ?_
  refine wp_region_lit ?_
  refine s_one (.pointer (some ⟨g7, 0, none⟩)) A14 S10 (g_field (u := .pointer (some ⟨g7, 0, none⟩)) (by kernel_rfl) (fun _ => by kernel_rfl)) rfl (fun ac A15 => ?_)
  refine s_one (.int .i64 2000) A15 S10 (g_load (g := g7) (off := 0) 1 (by kernel_rfl) rfl (by kernel_rfl)) rfl (fun ac A16 => ?_)
  refine s_one (.pointer (some ⟨g3, 0, none⟩)) A16 S10 (g_field (u := .pointer (some ⟨g3, 0, none⟩)) (by kernel_rfl) (fun _ => by kernel_rfl)) rfl (fun ac A17 => ?_)
  refine s_one (.int .i64 1000) A17 S10 (g_load (g := g3) (off := 0) 2 (by kernel_rfl) rfl (by kernel_rfl)) rfl (fun ac A18 => ?_)
  refine s_one (.int .i64 1000) A18 S10 (g_bin (u := .int .i64 2000) (k := .int .i64 1000) (by kernel_rfl) (by kernel_rfl) (fun _ => by kernel_rfl) (b_sub (by decide))) rfl (fun ac A19 => ?_)
  refine s_one (.int .i64 1000) A19 S10 (g_assign (by kernel_rfl)) rfl (fun ac A20 => ?_)
  refine wpList_nil ?_
  refine n_then ?_
  refine wp_seq ?_
  refine wp_region_lit ?_
  refine s_one (.pointer (some ⟨g3, 1, none⟩)) A20 S10 (g_field (u := .pointer (some ⟨g3, 0, none⟩)) (by kernel_rfl) (fun _ => by kernel_rfl)) rfl (fun ac A21 => ?_)
  refine s_one (.int .i64 800) A21 S10 (g_load (g := g3) (off := 1) 2 (by kernel_rfl) rfl (by kernel_rfl)) rfl (fun ac A22 => ?_)
  refine s_one (.int .i64 1000) A22 S10 (g_move (by kernel_rfl)) rfl (fun ac A23 => ?_)
  refine s_one (.int .i64 800000) A23 S10 (g_bin (u := .int .i64 800) (k := .int .i64 1000) (by kernel_rfl) (by kernel_rfl) (fun _ => by kernel_rfl) (b_mul (by decide))) rfl (fun ac A24 => ?_)
  refine s_one (.pointer (some ⟨g7, 1, none⟩)) A24 S10 (g_field (u := .pointer (some ⟨g7, 0, none⟩)) (by kernel_rfl) (fun _ => by kernel_rfl)) rfl (fun ac A25 => ?_)
  refine s_one (.int .i64 400) A25 S10 (g_load (g := g7) (off := 1) 1 (by kernel_rfl) rfl (by kernel_rfl)) rfl (fun ac A26 => ?_)
  refine s_one (.pointer (some ⟨g3, 1, none⟩)) A26 S10 (g_field (u := .pointer (some ⟨g3, 0, none⟩)) (by kernel_rfl) (fun _ => by kernel_rfl)) rfl (fun ac A27 => ?_)
  refine s_one (.int .i64 800) A27 S10 (g_load (g := g3) (off := 1) 2 (by kernel_rfl) rfl (by kernel_rfl)) rfl (fun ac A28 => ?_)
  refine s_one (.int .i64 (-400)) A28 S10 (g_bin (u := .int .i64 400) (k := .int .i64 800) (by kernel_rfl) (by kernel_rfl) (fun _ => by kernel_rfl) (b_sub (by decide))) rfl (fun ac A29 => ?_)
  refine s_one (.int .i64 1500) A29 S10 (g_move (by kernel_rfl)) rfl (fun ac A30 => ?_)
  refine s_one (.pointer (some ⟨g3, 0, none⟩)) A30 S10 (g_field (u := .pointer (some ⟨g3, 0, none⟩)) (by kernel_rfl) (fun _ => by kernel_rfl)) rfl (fun ac A31 => ?_)
  refine s_one (.int .i64 1000) A31 S10 (g_load (g := g3) (off := 0) 2 (by kernel_rfl) rfl (by kernel_rfl)) rfl (fun ac A32 => ?_)
  refine s_one (.int .i64 500) A32 S10 (g_bin (u := .int .i64 1500) (k := .int .i64 1000) (by kernel_rfl) (by kernel_rfl) (fun _ => by kernel_rfl) (b_sub (by decide))) rfl (fun ac A33 => ?_)
  refine s_one (.int .i64 (-200000)) A33 S10 (g_bin (u := .int .i64 (-400)) (k := .int .i64 500) (by kernel_rfl) (by kernel_rfl) (fun _ => by kernel_rfl) (b_mul (by decide))) rfl (fun ac A34 => ?_)
  refine s_one (.int .i64 600000) A34 S10 (g_bin (u := .int .i64 800000) (k := .int .i64 (-200000)) (by kernel_rfl) (by kernel_rfl) (fun _ => by kernel_rfl) (b_add (by decide))) rfl (fun ac A35 => ?_)
  refine s_one (.int .i64 1000) A35 S10 (g_move (by kernel_rfl)) rfl (fun ac A36 => ?_)
  refine s_one (.agg #[.int .i64 600000, .int .i64 1000]) A36 S10 (g_build (r := [(0, .int .i64 600000), (1, .int .i64 1000)]) (by kernel_rfl) (fun _ => by kernel_rfl)) rfl (fun ac A37 => ?_)
  refine s_store (g := g11) (off := 0) (v := .agg #[.int .i64 600000, .int .i64 1000]) 0 (#[.int .i64 600000, .int .i64 1000]) A37 S10 (by kernel_rfl) (by kernel_rfl) rfl (by kernel_rfl) (fun wc S39 => ?_)
  refine wpList_nil ?_
  refine n_then ?_
  refine wp_ret ?_
  refine fin1 (.agg #[.int .i64 600000, .int .i64 1000]) Try.results38 A37 S39 (rv_cell (g := g11) (off := 0) 0 (by kernel_rfl) rfl (by kernel_rfl)) ⟨?_, S39.kp⟩
  rfl

set_option maxRecDepth 100000 in
set_option maxHeartbeats 400000 in
theorem over_t  (w0 : World) :
    Calls Try.prog 26 #[.agg #[.int .i64 600000, .int .i64 1000], .int .i64 600000] w0 fun e w' => e = .returned (.agg #[.int .i64 600000000, .int .i64 600000]) ∧ Below w0.heap.size w0 w' := by
  have S0 := St.start w0
  refine enter (n := 12) Try.func26 rfl rfl rfl (fun ac A0 => ?_)
  refine wp_seq ?_
  refine wp_region_lit ?_
  refine s_box (.agg #[.int .i64 600000, .int .i64 1000]) A0 S0 (by kernel_rfl) rfl (fun g3 ac wc A1 S2 => ?_)
  replace S2 : St _ (⟨g3, 65, #[.int .i64 600000, .int .i64 1000], true⟩ :: _) _ _ := S2
  refine s_alloc (#[.int .i64 0, .int .i64 0]) A1 S2 (by kernel_rfl) rfl (fun g7 ac wc A5 S6 => ?_)
  refine wpList_nil ?_
  refine n_then ?_
  refine wp_seq ?_
  refine wp_region_lit ?_
  refine s_one (.int .i64 600000) A5 S6 (g_move (by kernel_rfl)) rfl (fun ac A8 => ?_)
  refine s_one (.pointer (some ⟨g3, 1, none⟩)) A8 S6 (g_field (u := .pointer (some ⟨g3, 0, none⟩)) (by kernel_rfl) (fun _ => by kernel_rfl)) rfl (fun ac A9 => ?_)
  refine s_one (.int .i64 1000) A9 S6 (g_load (g := g3) (off := 1) 1 (by kernel_rfl) rfl (by kernel_rfl)) rfl (fun ac A10 => ?_)
  refine s_one (.int .i64 600000000) A10 S6 (g_bin (u := .int .i64 600000) (k := .int .i64 1000) (by kernel_rfl) (by kernel_rfl) (fun _ => by kernel_rfl) (b_mul (by decide))) rfl (fun ac A11 => ?_)
  refine s_one (.pointer (some ⟨g3, 0, none⟩)) A11 S6 (g_field (u := .pointer (some ⟨g3, 0, none⟩)) (by kernel_rfl) (fun _ => by kernel_rfl)) rfl (fun ac A12 => ?_)
  refine s_one (.int .i64 600000) A12 S6 (g_load (g := g3) (off := 0) 1 (by kernel_rfl) rfl (by kernel_rfl)) rfl (fun ac A13 => ?_)
  refine s_one (.agg #[.int .i64 600000000, .int .i64 600000]) A13 S6 (g_build (r := [(0, .int .i64 600000000), (1, .int .i64 600000)]) (by kernel_rfl) (fun _ => by kernel_rfl)) rfl (fun ac A14 => ?_)
  refine s_store (g := g7) (off := 0) (v := .agg #[.int .i64 600000000, .int .i64 600000]) 0 (#[.int .i64 600000000, .int .i64 600000]) A14 S6 (by kernel_rfl) (by kernel_rfl) rfl (by kernel_rfl) (fun wc S16 => ?_)
  refine wpList_nil ?_
  refine n_then ?_
  refine wp_ret ?_
  refine fin1 (.agg #[.int .i64 600000000, .int .i64 600000]) Try.results26 A14 S16 (rv_cell (g := g7) (off := 0) 0 (by kernel_rfl) rfl (by kernel_rfl)) ⟨?_, S16.kp⟩
  rfl

set_option maxRecDepth 100000 in
set_option maxHeartbeats 400000 in
theorem floor_t  (w0 : World) :
    Calls Try.prog 40 #[.int .i64 600000000, .int .i64 600000] w0 fun e w' => e = .returned (.int .i64 1000) ∧ Below w0.heap.size w0 w' := by
  have S0 := St.start w0
  refine enter (n := 16) Try.func40 rfl rfl rfl (fun ac A0 => ?_)
  refine wp_seq ?_
  refine wp_region_lit ?_
  refine s_one (.int .i64 0) A0 S0 (g_assign (by kernel_rfl)) rfl (fun ac A1 => ?_)
  refine wpList_nil ?_
  refine n_then ?_
  refine wp_seq ?_
  refine wp_region_lit ?_
  refine s_one (.int .i64 600000000) A1 S0 (g_move (by kernel_rfl)) rfl (fun ac A2 => ?_)
  refine s_one (.int .i64 600000) A2 S0 (g_move (by kernel_rfl)) rfl (fun ac A3 => ?_)
  refine s_one (.int .i64 1000) A3 S0 (g_bin (u := .int .i64 600000000) (k := .int .i64 600000) (by kernel_rfl) (by kernel_rfl) (fun _ => by kernel_rfl) (b_quo (by omega) (by decide))) rfl (fun ac A4 => ?_)
  refine s_one (.int .i64 1000) A4 S0 (g_assign (by kernel_rfl)) rfl (fun ac A5 => ?_)
  refine wpList_nil ?_
  refine n_then ?_
  refine wp_seq ?_
  refine wp_seq ?_
  refine wp_region_lit ?_
  refine s_one (.int .i64 600000000) A5 S0 (g_move (by kernel_rfl)) rfl (fun ac A6 => ?_)
  refine s_one (.int .i64 600000) A6 S0 (g_move (by kernel_rfl)) rfl (fun ac A7 => ?_)
  refine s_one (.int .i64 0) A7 S0 (g_bin (u := .int .i64 600000000) (k := .int .i64 600000) (by kernel_rfl) (by kernel_rfl) (fun _ => by kernel_rfl) (b_rem (by omega))) rfl (fun ac A8 => ?_)
  refine s_one (.bool (decide (0 < 0))) A8 S0 (g_bin (u := .int .i64 0) (k := .int .i64 0) (by kernel_rfl) (by kernel_rfl) (fun _ => by kernel_rfl) (fun _ => by kernel_rfl)) rfl (fun ac A9 => ?_)
  refine wpList_nil ?_
  refine n_then ?_
  refine c_f (b := (decide (0 < 0))) A9 (by kernel_rfl) (by decide) ?_
  refine wp_skip ?_
  refine n_then ?_
  refine wp_seq ?_
  refine wp_region_lit ?_
  refine s_one (.int .i64 1000) A9 S0 (g_move (by kernel_rfl)) rfl (fun ac A10 => ?_)
  refine s_one (.int .i64 1000) A10 S0 (g_assign (by kernel_rfl)) rfl (fun ac A11 => ?_)
  refine wpList_nil ?_
  refine n_then ?_
  refine wp_ret ?_
  refine fin1 (.int .i64 1000) Try.results40 A11 S0 (rv_tmp (by kernel_rfl)) ⟨?_, S0.kp⟩
  rfl

set_option maxRecDepth 100000 in
set_option maxHeartbeats 400000 in
theorem floor_u  (w0 : World) :
    Calls Try.prog 40 #[.int .i64 (-600000000), .int .i64 600000] w0 fun e w' => e = .returned (.int .i64 (-1000)) ∧ Below w0.heap.size w0 w' := by
  have S0 := St.start w0
  refine enter (n := 16) Try.func40 rfl rfl rfl (fun ac A0 => ?_)
  refine wp_seq ?_
  refine wp_region_lit ?_
  refine s_one (.int .i64 0) A0 S0 (g_assign (by kernel_rfl)) rfl (fun ac A1 => ?_)
  refine wpList_nil ?_
  refine n_then ?_
  refine wp_seq ?_
  refine wp_region_lit ?_
  refine s_one (.int .i64 (-600000000)) A1 S0 (g_move (by kernel_rfl)) rfl (fun ac A2 => ?_)
  refine s_one (.int .i64 600000) A2 S0 (g_move (by kernel_rfl)) rfl (fun ac A3 => ?_)
  refine s_one (.int .i64 (-1000)) A3 S0 (g_bin (u := .int .i64 (-600000000)) (k := .int .i64 600000) (by kernel_rfl) (by kernel_rfl) (fun _ => by kernel_rfl) (b_quo (by omega) (by decide))) rfl (fun ac A4 => ?_)
  refine s_one (.int .i64 (-1000)) A4 S0 (g_assign (by kernel_rfl)) rfl (fun ac A5 => ?_)
  refine wpList_nil ?_
  refine n_then ?_
  refine wp_seq ?_
  refine wp_seq ?_
  refine wp_region_lit ?_
  refine s_one (.int .i64 (-600000000)) A5 S0 (g_move (by kernel_rfl)) rfl (fun ac A6 => ?_)
  refine s_one (.int .i64 600000) A6 S0 (g_move (by kernel_rfl)) rfl (fun ac A7 => ?_)
  refine s_one (.int .i64 0) A7 S0 (g_bin (u := .int .i64 (-600000000)) (k := .int .i64 600000) (by kernel_rfl) (by kernel_rfl) (fun _ => by kernel_rfl) (b_rem (by omega))) rfl (fun ac A8 => ?_)
  refine s_one (.bool (decide (0 < 0))) A8 S0 (g_bin (u := .int .i64 0) (k := .int .i64 0) (by kernel_rfl) (by kernel_rfl) (fun _ => by kernel_rfl) (fun _ => by kernel_rfl)) rfl (fun ac A9 => ?_)
  refine wpList_nil ?_
  refine n_then ?_
  refine c_f (b := (decide (0 < 0))) A9 (by kernel_rfl) (by decide) ?_
  refine wp_skip ?_
  refine n_then ?_
  refine wp_seq ?_
  refine wp_region_lit ?_
  refine s_one (.int .i64 (-1000)) A9 S0 (g_move (by kernel_rfl)) rfl (fun ac A10 => ?_)
  refine s_one (.int .i64 (-1000)) A10 S0 (g_assign (by kernel_rfl)) rfl (fun ac A11 => ?_)
  refine wpList_nil ?_
  refine n_then ?_
  refine wp_ret ?_
  refine fin1 (.int .i64 (-1000)) Try.results40 A11 S0 (rv_tmp (by kernel_rfl)) ⟨?_, S0.kp⟩
  rfl

set_option maxRecDepth 100000 in
set_option maxHeartbeats 400000 in
theorem ceil_t  (w0 : World) :
    Calls Try.prog 41 #[.int .i64 600000000, .int .i64 600000] w0 fun e w' => e = .returned (.int .i64 1000) ∧ Below w0.heap.size w0 w' := by
  have S0 := St.start w0
  refine enter (n := 10) Try.func41 rfl rfl rfl (fun ac A0 => ?_)
  refine wp_seq ?_
  refine wp_region_lit ?_
  refine s_one (.int .i64 0) A0 S0 (g_assign (by kernel_rfl)) rfl (fun ac A1 => ?_)
  refine wpList_nil ?_
  refine n_then ?_
  refine wp_seq ?_
  refine wp_region_lit ?_
  refine s_one (.int .i64 600000000) A1 S0 (g_move (by kernel_rfl)) rfl (fun ac A2 => ?_)
  refine s_one (.int .i64 (-600000000)) A2 S0 (g_un (u := .int .i64 600000000) (by kernel_rfl) (u_neg (by decide))) rfl (fun ac A3 => ?_)
  refine s_one (.int .i64 600000) A3 S0 (g_move (by kernel_rfl)) rfl (fun ac A4 => ?_)
  refine s_call (fs := #[]) (cp := #[]) (r := [(0, .int .i64 (-600000000)), (0, .int .i64 600000)]) #[.int .i64 (-600000000), .int .i64 600000] (.int .i64 (-1000)) A4 S0 (floor_u _) Try.call40 (by kernel_rfl) (by kernel_rfl) (by kernel_rfl) rfl (fun ac wc A5 S6 => ?_)
  refine s_one (.int .i64 1000) A5 S6 (g_un (u := .int .i64 (-1000)) (by kernel_rfl) (u_neg (by decide))) rfl (fun ac A8 => ?_)
  refine s_one (.int .i64 1000) A8 S6 (g_assign (by kernel_rfl)) rfl (fun ac A9 => ?_)
  refine wpList_nil ?_
  refine n_then ?_
  refine wp_ret ?_
  refine fin1 (.int .i64 1000) Try.results41 A9 S6 (rv_tmp (by kernel_rfl)) ⟨?_, S6.kp⟩
  rfl

set_option maxRecDepth 100000 in
set_option maxHeartbeats 400000 in
theorem enclosed_t  (w0 : World) :
    Calls Try.prog 27 #[.agg #[.int .i64 600000000, .int .i64 600000]] w0 fun e w' => e = .returned (.agg #[.int .i64 1000, .int .i64 1000]) ∧ Below w0.heap.size w0 w' := by
  have S0 := St.start w0
  refine enter (n := 14) Try.func27 rfl rfl rfl (fun ac A0 => ?_)
  refine wp_seq ?_
  refine wp_region_lit ?_
  refine s_box (.agg #[.int .i64 600000000, .int .i64 600000]) A0 S0 (by kernel_rfl) rfl (fun g3 ac wc A1 S2 => ?_)
  replace S2 : St _ (⟨g3, 65, #[.int .i64 600000000, .int .i64 600000], true⟩ :: _) _ _ := S2
  refine s_alloc (#[.int .i64 0, .int .i64 0]) A1 S2 (by kernel_rfl) rfl (fun g7 ac wc A5 S6 => ?_)
  refine wpList_nil ?_
  refine n_then ?_
  refine wp_seq ?_
  refine r_begin (w0 := w0) (by kernel_rfl) (S6.sub (sub_skip sub_all) sub_all) (fun wc T8 B9 => ?_)
  have S10 := S6.kept B9
  refine r_take 0 (.pointer (some ⟨g3, 0, none⟩)) A5 T8 (g_field (u := .pointer (some ⟨g3, 0, none⟩)) (by kernel_rfl) (fun _ => by kernel_rfl)) rfl rfl rfl (pf_then pf_body) (by kernel_rfl) (fun ac A11 => ?_)
  refine r_take 1 (.int .i64 600000000) A11 T8 (g_load (g := g3) (off := 0) 0 (by kernel_rfl) rfl (by kernel_rfl)) rfl rfl rfl (pf_then pf_body) (by kernel_rfl) (fun ac A12 => ?_)
  refine r_take 2 (.pointer (some ⟨g3, 1, none⟩)) A12 T8 (g_field (u := .pointer (some ⟨g3, 0, none⟩)) (by kernel_rfl) (fun _ => by kernel_rfl)) rfl rfl rfl (pf_then pf_body) (by kernel_rfl) (fun ac A13 => ?_)
  refine r_take 3 (.int .i64 600000) A13 T8 (g_load (g := g3) (off := 1) 0 (by kernel_rfl) rfl (by kernel_rfl)) rfl rfl rfl (pf_then pf_body) (by kernel_rfl) (fun ac A14 => ?_)
  refine r_take 5 (.pointer (some ⟨g3, 0, none⟩)) A14 T8 (g_field (u := .pointer (some ⟨g3, 0, none⟩)) (by kernel_rfl) (fun _ => by kernel_rfl)) rfl rfl rfl (pf_then pf_body) (by kernel_rfl) (fun ac A15 => ?_)
  refine r_take 6 (.int .i64 600000000) A15 T8 (g_load (g := g3) (off := 0) 0 (by kernel_rfl) rfl (by kernel_rfl)) rfl rfl rfl (pf_then pf_body) (by kernel_rfl) (fun ac A16 => ?_)
  refine r_take 7 (.pointer (some ⟨g3, 1, none⟩)) A16 T8 (g_field (u := .pointer (some ⟨g3, 0, none⟩)) (by kernel_rfl) (fun _ => by kernel_rfl)) rfl rfl rfl (pf_then pf_body) (by kernel_rfl) (fun ac A17 => ?_)
  refine r_take 8 (.int .i64 600000) A17 T8 (g_load (g := g3) (off := 1) 0 (by kernel_rfl) rfl (by kernel_rfl)) rfl rfl rfl (pf_then pf_body) (by kernel_rfl) (fun ac A18 => ?_)
  refine r_1 (i := 4) (by kernel_rfl) ?_
  refine rs_call (fs := #[]) (cp := #[]) (r := [(0, .int .i64 600000000), (0, .int .i64 600000)]) #[.int .i64 600000000, .int .i64 600000] (.int .i64 1000) A18 S10 (sub_skip sub_all) sub_all (floor_t _) Try.call40 rfl rfl (by kernel_rfl) (by kernel_rfl) (by kernel_rfl) rfl (fun ac wc A19 S20 => ?_)
  have T22 := S20.sub (sub_skip sub_all) sub_all
  refine r_1 (i := 9) (by kernel_rfl) ?_
  refine rs_call (fs := #[]) (cp := #[]) (r := [(0, .int .i64 600000000), (0, .int .i64 600000)]) #[.int .i64 600000000, .int .i64 600000] (.int .i64 1000) A19 S20 (sub_skip sub_all) sub_all (ceil_t _) Try.call41 rfl rfl (by kernel_rfl) (by kernel_rfl) (by kernel_rfl) rfl (fun ac wc A23 S24 => ?_)
  have T26 := S24.sub (sub_skip sub_all) sub_all
  refine r_take 10 (.agg #[.int .i64 1000, .int .i64 1000]) A23 T26 (g_build (r := [(0, .int .i64 1000), (1, .int .i64 1000)]) (by kernel_rfl) (fun _ => by kernel_rfl)) rfl rfl rfl (pf_then pf_body) (by kernel_rfl) (fun ac A27 => ?_)
  refine r_1 (i := 11) (by kernel_rfl) ?_
  refine rs_store (g := g7) (off := 0) (v := .agg #[.int .i64 1000, .int .i64 1000]) 0 (#[.int .i64 1000, .int .i64 1000]) A27 S24 (sub_skip sub_all) sub_all (by kernel_rfl) (by kernel_rfl) rfl (by kernel_rfl) rfl rfl (fun wc S29 => ?_)
  have T31 := S29.sub (sub_skip sub_all) sub_all
  refine r_done (by kernel_rfl) ?_
  refine n_then ?_
  refine wp_ret ?_
  refine fin1 (.agg #[.int .i64 1000, .int .i64 1000]) Try.results27 A27 S29 (rv_cell (g := g7) (off := 0) 0 (by kernel_rfl) rfl (by kernel_rfl)) ⟨?_, S29.kp⟩
  rfl

set_option maxRecDepth 100000 in
set_option maxHeartbeats 400000 in
theorem echoAt_t (A : Option Addr) (cap : Nat) (w0 : World) (hr : IReads w0 A [1000, 800, 2000, 400]) :
    Calls Try.prog 23 #[.slice A 2 cap, .int .i64 1500] w0 fun e w' => e = .returned (.tuple #[.agg #[.int .i64 600000, .int .i64 1000], .int .i64 0]) ∧ Below w0.heap.size w0 w' := by
  have S0 := St.start w0
  refine enter (n := 52) Try.func23 rfl rfl rfl (fun ac A0 => ?_)
  refine wp_seq ?_
  refine wp_region_lit ?_
  refine s_box (.int .i64 1500) A0 S0 (by kernel_rfl) rfl (fun g3 ac wc A1 S2 => ?_)
  replace S2 : St _ (⟨g3, 3, #[.int .i64 1500], true⟩ :: _) _ _ := S2
  refine s_alloc (#[.int .i64 0, .int .i64 0]) A1 S2 (by kernel_rfl) rfl (fun g7 ac wc A5 S6 => ?_)
  refine s_one (.int .i64 0) A5 S6 (g_assign (by kernel_rfl)) rfl (fun ac A8 => ?_)
  refine wpList_nil ?_
  refine n_then ?_
  refine wp_seq ?_
  refine wp_seq ?_
  refine wp_region_lit ?_
  refine s_one (.slice A 2 cap) A8 S6 (g_move (by kernel_rfl)) rfl (fun ac A9 => ?_)
  refine s_call (fs := #[]) (cp := #[]) (r := [(0, .slice A 2 cap)]) #[.slice A 2 cap] (.tuple #[.int .i64 0, .int .i64 0]) A9 S6 (CheckTable_t A 2 cap ([1000, 800, 2000, 400]) _ (hr.kept S6.kp) tbl_len (by decide) (by decide)) Try.call35 (by kernel_rfl) (by kernel_rfl) (by kernel_rfl) rfl (fun ac wc A10 S11 => ?_)
  refine s_one (.tuple #[.int .i64 0, .int .i64 0]) A10 S11 (g_move (by kernel_rfl)) rfl (fun ac A13 => ?_)
  refine s_one (.int .i64 0) A13 S11 (g_extract (u := .tuple #[.int .i64 0, .int .i64 0]) (by kernel_rfl) (fun _ => by kernel_rfl)) rfl (fun ac A14 => ?_)
  refine s_one (.int .i64 0) A14 S11 (g_extract (u := .tuple #[.int .i64 0, .int .i64 0]) (by kernel_rfl) (fun _ => by kernel_rfl)) rfl (fun ac A15 => ?_)
  refine s_one (.int .i64 0) A15 S11 (g_assign (by kernel_rfl)) rfl (fun ac A16 => ?_)
  refine s_one (.int .i64 0) A16 S11 (g_assign (by kernel_rfl)) rfl (fun ac A17 => ?_)
  refine wpList_nil ?_
  refine n_then ?_
  refine wp_seq ?_
  refine wp_region_lit ?_
  refine s_one (.int .i64 0) A17 S11 (g_move (by kernel_rfl)) rfl (fun ac A18 => ?_)
  refine s_one (.bool (decide (0 ≠ 0))) A18 S11 (g_bin (u := .int .i64 0) (k := .int .i64 0) (by kernel_rfl) (by kernel_rfl) (fun _ => by kernel_rfl) b_neq) rfl (fun ac A19 => ?_)
  refine wpList_nil ?_
  refine n_then ?_
  refine c_f (b := (decide (0 ≠ 0))) A19 (by kernel_rfl) (by decide) ?_
  refine wp_skip ?_
  refine n_then ?_
  refine wp_seq ?_
  refine wp_seq ?_
  refine wp_region_lit ?_
  refine s_one (.int .i64 1500) A19 S11 (g_load (g := g3) (off := 0) 1 (by kernel_rfl) rfl (by kernel_rfl)) rfl (fun ac A20 => ?_)
  refine s_call (fs := #[]) (cp := #[]) (r := [(0, .int .i64 1500), (0, .int .i64 0), (0, .int .i64 100000)]) #[.int .i64 1500, .int .i64 0, .int .i64 100000] (.bool (inB 1500 0 100000)) A20 S11 (within_s 1500 0 100000 _) Try.call21 (by kernel_rfl) (by kernel_rfl) (by kernel_rfl) rfl (fun ac wc A21 S22 => ?_)
  refine s_one (.bool (!(inB 1500 0 100000))) A21 S22 (g_un (u := .bool (inB 1500 0 100000)) (by kernel_rfl) (fun _ => by kernel_rfl)) rfl (fun ac A24 => ?_)
  refine wpList_nil ?_
  refine n_then ?_
  refine c_f (b := (!(inB 1500 0 100000))) A24 (by kernel_rfl) (b_nt (inB_true.2 (by decide))) ?_
  refine wp_skip ?_
  refine n_then ?_
  refine wp_seq ?_
  refine wp_region_lit ?_
  refine s_one (.slice A 2 cap) A24 S22 (g_move (by kernel_rfl)) rfl (fun ac A25 => ?_)
  refine s_one (.func (.func 37) #[] #[.pointer (some ⟨g3, 0, none⟩)]) A25 S22 (g_func (us := []) (vs := [(0, .pointer (some ⟨g3, 0, none⟩))]) (by kernel_rfl) (by kernel_rfl) (fun _ => by kernel_rfl)) rfl (fun ac A26 => ?_)
  refine s_call (fs := #[]) (cp := #[]) (r := [(0, .slice A 2 cap), (0, .func (.func 37) #[] #[.pointer (some ⟨g3, 0, none⟩)])]) #[.slice A 2 cap, .func (.func 37) #[] #[.pointer (some ⟨g3, 0, none⟩)]] (.int .i64 1) A26 S22 (index_t A 2 cap ([1000, 800, 2000, 400]) g3 1500 1 _ (hr.kept S22.kp) tbl_len (by omega) (S22.get 1 rfl) (by omega) (fun i hi => by obtain rfl : i = 0 := (by omega); decide) (by decide)) Try.call36 (by kernel_rfl) (by kernel_rfl) (by kernel_rfl) rfl (fun ac wc A27 S28 => ?_)
  refine s_one (.int .i64 1) A27 S28 (g_assign (by kernel_rfl)) rfl (fun ac A30 => ?_)
  refine wpList_nil ?_
  refine n_then ?_
  refine wp_seq ?_
  refine wp_seq ?_
  refine r_begin (w0 := w0) (by kernel_rfl) (S28.sub sub_all sub_all) (fun wc T31 B32 => ?_)
  have S33 := S28.kept B32
  refine r_take 0 (.int .i64 1) A30 T31 (g_move (by kernel_rfl)) rfl rfl rfl (pf_then (pf_then pf_body)) (by kernel_rfl) (fun ac A34 => ?_)
  refine r_take 1 (.bool (decide (1 < 0))) A34 T31 (g_bin (u := .int .i64 1) (k := .int .i64 0) (by kernel_rfl) (by kernel_rfl) (fun _ => by kernel_rfl) (fun _ => by kernel_rfl)) rfl rfl rfl (pf_then (pf_then pf_body)) (by kernel_rfl) (fun ac A35 => ?_)
  refine r_take 2 (.bool (decide (1 < 0))) A35 T31 (g_move (by kernel_rfl)) rfl rfl rfl (pf_then (pf_then pf_body)) (by kernel_rfl) (fun ac A36 => ?_)
  refine r_take 3 (.int .i64 1) A36 T31 (g_move (by kernel_rfl)) rfl (want_t (dj := 27) (b := (decide (1 < 0))) A36 rfl (by kernel_rfl) (by kernel_rfl) (by decide)) rfl (pf_then (pf_then pf_body)) (by kernel_rfl) (fun ac A37 => ?_)
  refine r_take 4 (.bool (decide (1 = 0))) A37 T31 (g_bin (u := .int .i64 1) (k := .int .i64 0) (by kernel_rfl) (by kernel_rfl) (fun _ => by kernel_rfl) b_eql) rfl (want_t (dj := 27) (b := (decide (1 < 0))) A37 rfl (by kernel_rfl) (by kernel_rfl) (by decide)) rfl (pf_then (pf_then pf_body)) (by kernel_rfl) (fun ac A38 => ?_)
  refine r_take 5 (.bool (decide (1 = 0))) A38 T31 (g_move (by kernel_rfl)) rfl (want_t (dj := 27) (b := (decide (1 < 0))) A38 rfl (by kernel_rfl) (by kernel_rfl) (by decide)) rfl (pf_then (pf_then pf_body)) (by kernel_rfl) (fun ac A39 => ?_)
  refine r_skip 6 A39 T31 rfl (want_f (dj := 30) (b := (decide (1 = 0))) A39 rfl (by kernel_rfl) (by kernel_rfl) (by decide)) rfl (pf_then (pf_then pf_body)) (by kernel_rfl) (fun ac A40 => ?_)
  refine r_skip 7 A40 T31 rfl (want_f (dj := 30) (b := (decide (1 = 0))) A40 rfl (by kernel_rfl) (by kernel_rfl) (by decide)) rfl (pf_then (pf_then pf_body)) (by kernel_rfl) (fun ac A41 => ?_)
  refine r_skip 8 A41 T31 rfl (want_f (dj := 30) (b := (decide (1 = 0))) A41 rfl (by kernel_rfl) (by kernel_rfl) (by decide)) rfl (pf_then (pf_then pf_body)) (by kernel_rfl) (fun ac A42 => ?_)
  refine r_skip 9 A42 T31 rfl (want_f (dj := 30) (b := (decide (1 = 0))) A42 rfl (by kernel_rfl) (by kernel_rfl) (by decide)) rfl (pf_then (pf_then pf_body)) (by kernel_rfl) (fun ac A43 => ?_)
  refine r_skip 10 A43 T31 rfl (want_f (dj := 30) (b := (decide (1 = 0))) A43 rfl (by kernel_rfl) (by kernel_rfl) (by decide)) rfl (pf_then (pf_then pf_body)) (by kernel_rfl) (fun ac A44 => ?_)
  refine r_skip 11 A44 T31 rfl (want_f (dj := 30) (b := (decide (1 = 0))) A44 rfl (by kernel_rfl) (by kernel_rfl) (by decide)) rfl (pf_then (pf_then pf_body)) (by kernel_rfl) (fun ac A45 => ?_)
  refine r_take 12 (.bool false) A45 T31 (g_pick_f (b := (decide (1 = 0))) (by kernel_rfl) (by decide) (by kernel_rfl)) rfl (want_t (dj := 27) (b := (decide (1 < 0))) A45 rfl (by kernel_rfl) (by kernel_rfl) (by decide)) rfl (pf_then (pf_then pf_body)) (by kernel_rfl) (fun ac A46 => ?_)
  refine r_take 13 (.bool false) A46 T31 (g_pick_f (b := (decide (1 < 0))) (by kernel_rfl) (by decide) (by kernel_rfl)) rfl rfl rfl (pf_then (pf_then pf_body)) (by kernel_rfl) (fun ac A47 => ?_)
  refine r_done (by kernel_rfl) ?_
  refine n_then ?_
  refine c_f (b := false) A47 (by kernel_rfl) rfl ?_
  refine wp_skip ?_
  refine n_then ?_
  refine wp_seq ?_
  refine r_begin (w0 := w0) (by kernel_rfl) (S33.sub (sub_skip sub_all) sub_all) (fun wc T48 B49 => ?_)
  have S50 := S33.kept B49
  refine r_take 0 (.slice A 2 cap) A47 T48 (g_move (by kernel_rfl)) rfl rfl rfl (pf_then pf_body) (by kernel_rfl) (fun ac A51 => ?_)
  refine r_take 1 (.int .i64 1) A51 T48 (g_move (by kernel_rfl)) rfl rfl rfl (pf_then pf_body) (by kernel_rfl) (fun ac A52 => ?_)
  refine r_take 2 (.int .i64 0) A52 T48 (g_bin (u := .int .i64 1) (k := .int .i64 1) (by kernel_rfl) (by kernel_rfl) (fun _ => by kernel_rfl) (b_sub (by decide))) rfl rfl rfl (pf_then pf_body) (by kernel_rfl) (fun ac A53 => ?_)
  refine r_take 3 (.int .i64 0) A53 T48 (g_built (r := [(0, .int .i64 0), (0, .int .i64 0)]) (by kernel_rfl) (fun ty cs w => by show (do let x ← Builtin.max_ _ ty #[.int .i64 0, .int .i64 0]; pure (Next.value x) : Sem Next).run _ w = _; rw [Sem.run_bind, run_max_mx]; rfl)) rfl rfl rfl (pf_then pf_body) (by kernel_rfl) (fun ac A54 => ?_)
  obtain ⟨ad55, rfl, _⟩ := hr (0 * 2) (by have hlen := tbl_len; omega)
  refine r_take 4 (.pointer (some (ad55.add (0 * 2)))) A54 T48 (g_index (u := .slice (some ad55) 2 cap) (k := .int .i64 0) (by kernel_rfl) (by kernel_rfl) (ix_xs (e := 48) (bytes := 16) 0 (by kernel_rfl) (by omega) (by omega))) rfl rfl rfl (pf_then pf_body) (by kernel_rfl) (fun ac A56 => ?_)
  refine r_take 5 (.agg #[.int .i64 (nthI ([1000, 800, 2000, 400]) (0 * 2)), .int .i64 (nthI ([1000, 800, 2000, 400]) (0 * 2 + 1))]) A56 T48 (g_loadXS (l := [1000, 800, 2000, 400]) (k := 0 * 2) 2 (by kernel_rfl) hr (by have hlen := tbl_len; omega) (by kernel_rfl) (by kernel_rfl)) rfl rfl rfl (pf_then pf_body) (by kernel_rfl) (fun ac A57 => ?_)
  refine r_take 6 (.slice (some ad55) 2 cap) A57 T48 (g_move (by kernel_rfl)) rfl rfl rfl (pf_then pf_body) (by kernel_rfl) (fun ac A58 => ?_)
  refine r_take 7 (.int .i64 1) A58 T48 (g_move (by kernel_rfl)) rfl rfl rfl (pf_then pf_body) (by kernel_rfl) (fun ac A59 => ?_)
  refine r_take 8 (.pointer (some (ad55.add (1 * 2)))) A59 T48 (g_index (u := .slice (some ad55) 2 cap) (k := .int .i64 1) (by kernel_rfl) (by kernel_rfl) (ix_xs (e := 48) (bytes := 16) 1 (by kernel_rfl) (by omega) (by omega))) rfl rfl rfl (pf_then pf_body) (by kernel_rfl) (fun ac A60 => ?_)
  refine r_take 9 (.agg #[.int .i64 (nthI ([1000, 800, 2000, 400]) (1 * 2)), .int .i64 (nthI ([1000, 800, 2000, 400]) (1 * 2 + 1))]) A60 T48 (g_loadXS (l := [1000, 800, 2000, 400]) (k := 1 * 2) 2 (by kernel_rfl) hr (by have hlen := tbl_len; omega) (by kernel_rfl) (by kernel_rfl)) rfl rfl rfl (pf_then pf_body) (by kernel_rfl) (fun ac A61 => ?_)
  refine r_take 10 (.int .i64 1500) A61 T48 (g_load (g := g3) (off := 0) 0 (by kernel_rfl) rfl (by kernel_rfl)) rfl rfl rfl (pf_then pf_body) (by kernel_rfl) (fun ac A62 => ?_)
  refine r_1 (i := 11) (by kernel_rfl) ?_
  refine rs_call (fs := #[]) (cp := #[]) (r := [(0, .agg #[.int .i64 (nthI ([1000, 800, 2000, 400]) (0 * 2)), .int .i64 (nthI ([1000, 800, 2000, 400]) (0 * 2 + 1))]), (0, .agg #[.int .i64 (nthI ([1000, 800, 2000, 400]) (1 * 2)), .int .i64 (nthI ([1000, 800, 2000, 400]) (1 * 2 + 1))]), (0, .int .i64 1500)]) #[.agg #[.int .i64 (nthI ([1000, 800, 2000, 400]) (0 * 2)), .int .i64 (nthI ([1000, 800, 2000, 400]) (0 * 2 + 1))], .agg #[.int .i64 (nthI ([1000, 800, 2000, 400]) (1 * 2)), .int .i64 (nthI ([1000, 800, 2000, 400]) (1 * 2 + 1))], .int .i64 1500] (.agg #[.int .i64 600000, .int .i64 1000]) A62 S50 (sub_skip sub_all) sub_all (between_t _) Try.call38 rfl rfl (by kernel_rfl) (by kernel_rfl) (by kernel_rfl) rfl (fun ac wc A63 S64 => ?_)
  have T66 := S64.sub (sub_skip sub_all) sub_all
  refine r_1 (i := 12) (by kernel_rfl) ?_
  refine rs_store (g := g7) (off := 0) (v := .agg #[.int .i64 600000, .int .i64 1000]) 0 (#[.int .i64 600000, .int .i64 1000]) A63 S64 (sub_skip sub_all) sub_all (by kernel_rfl) (by kernel_rfl) rfl (by kernel_rfl) rfl rfl (fun wc S68 => ?_)
  have T70 := S68.sub (sub_skip sub_all) sub_all
  refine r_take 13 (.int .i64 0) A63 T70 (g_assign (by kernel_rfl)) rfl rfl rfl (pf_then pf_body) (by kernel_rfl) (fun ac A71 => ?_)
  refine r_done (by kernel_rfl) ?_
  refine n_then ?_
  refine wp_ret ?_
  refine fin2 (.agg #[.int .i64 600000, .int .i64 1000]) (.int .i64 0) Try.results23 A71 S68 (rv_cell (g := g7) (off := 0) 0 (by kernel_rfl) rfl (by kernel_rfl)) (rv_tmp (by kernel_rfl)) ⟨?_, S68.kp⟩
  rfl

set_option maxRecDepth 100000 in
set_option maxHeartbeats 400000 in
theorem GainAt_t (A : Option Addr) (cap : Nat) (w0 : World) (hr : IReads w0 A [1000, 800, 2000, 400]) :
    Calls Try.prog 14 #[.slice A 2 cap, .int .i64 1500, .int .i64 600] w0 fun e w' => e = .returned (.tuple #[.agg #[.int .i64 1000, .int .i64 1000], .int .i64 0]) ∧ Below w0.heap.size w0 w' := by
  have S0 := St.start w0
  refine enter (n := 30) Try.func14 rfl rfl rfl (fun ac A0 => ?_)
  refine wp_seq ?_
  refine wp_region_lit ?_
  refine s_alloc (#[.int .i64 0, .int .i64 0]) A0 S0 (by kernel_rfl) rfl (fun g3 ac wc A1 S2 => ?_)
  refine s_one (.int .i64 0) A1 S2 (g_assign (by kernel_rfl)) rfl (fun ac A4 => ?_)
  refine wpList_nil ?_
  refine n_then ?_
  refine wp_seq ?_
  refine wp_region_lit ?_
  refine s_one (.slice A 2 cap) A4 S2 (g_move (by kernel_rfl)) rfl (fun ac A5 => ?_)
  refine s_one (.int .i64 1500) A5 S2 (g_move (by kernel_rfl)) rfl (fun ac A6 => ?_)
  refine s_call (fs := #[]) (cp := #[]) (r := [(0, .slice A 2 cap), (0, .int .i64 1500)]) #[.slice A 2 cap, .int .i64 1500] (.tuple #[.agg #[.int .i64 600000, .int .i64 1000], .int .i64 0]) A6 S2 (echoAt_t A cap _ (hr.kept S2.kp)) Try.call23 (by kernel_rfl) (by kernel_rfl) (by kernel_rfl) rfl (fun ac wc A7 S8 => ?_)
  refine s_one (.tuple #[.agg #[.int .i64 600000, .int .i64 1000], .int .i64 0]) A7 S8 (g_move (by kernel_rfl)) rfl (fun ac A10 => ?_)
  refine s_one (.agg #[.int .i64 600000, .int .i64 1000]) A10 S8 (g_extract (u := .tuple #[.agg #[.int .i64 600000, .int .i64 1000], .int .i64 0]) (by kernel_rfl) (fun _ => by kernel_rfl)) rfl (fun ac A11 => ?_)
  refine s_one (.int .i64 0) A11 S8 (g_extract (u := .tuple #[.agg #[.int .i64 600000, .int .i64 1000], .int .i64 0]) (by kernel_rfl) (fun _ => by kernel_rfl)) rfl (fun ac A12 => ?_)
  refine s_alloc (#[.int .i64 0, .int .i64 0]) A12 S8 (by kernel_rfl) rfl (fun g15 ac wc A13 S14 => ?_)
  refine s_store (g := g15) (off := 0) (v := .agg #[.int .i64 600000, .int .i64 1000]) 0 (#[.int .i64 600000, .int .i64 1000]) A13 S14 (by kernel_rfl) (by kernel_rfl) rfl (by kernel_rfl) (fun wc S17 => ?_)
  refine s_one (.int .i64 0) A13 S17 (g_assign (by kernel_rfl)) rfl (fun ac A19 => ?_)
  refine wpList_nil ?_
  refine n_then ?_
  refine wp_seq ?_
  refine wp_seq ?_
  refine wp_region_lit ?_
  refine s_one (.int .i64 0) A19 S17 (g_move (by kernel_rfl)) rfl (fun ac A20 => ?_)
  refine s_one (.int .i64 600) A20 S17 (g_move (by kernel_rfl)) rfl (fun ac A21 => ?_)
  refine s_call (fs := #[]) (cp := #[]) (r := [(0, .int .i64 600)]) #[.int .i64 600] (.int .i64 0) A21 S17 (echoErr_t 600 _ (by decide)) Try.call25 (by kernel_rfl) (by kernel_rfl) (by kernel_rfl) rfl (fun ac wc A22 S23 => ?_)
  refine s_bs (e := 32) (r := [(0, .int .i64 0), (1, .int .i64 0)]) (#[.int .i64 0, .int .i64 0]) A22 S23 (by kernel_rfl) (by kernel_rfl) rfl (fun g27 ac wc A25 S26 => ?_)
  refine s_call (fs := #[]) (cp := #[]) (r := [(0, .slice (some ⟨g27, 0, none⟩) 2 2)]) #[.slice (some ⟨g27, 0, none⟩) 2 2] (.int .i64 0) A25 S26 (first_z g27 ([0, 0]) 2 2 _ (S26.get 0 rfl) rfl (by omega) (fun k _ => by rcases k with _ | _ | k <;> rfl)) Try.call24 (by kernel_rfl) (by kernel_rfl) (by kernel_rfl) rfl (fun ac wc A28 S29 => ?_)
  refine s_one (.int .i64 0) A28 S29 (g_assign (by kernel_rfl)) rfl (fun ac A31 => ?_)
  refine wpList_nil ?_
  refine n_then ?_
  refine wp_seq ?_
  refine wp_region_lit ?_
  refine s_one (.int .i64 0) A31 S29 (g_move (by kernel_rfl)) rfl (fun ac A32 => ?_)
  refine s_one (.bool (decide (0 ≠ 0))) A32 S29 (g_bin (u := .int .i64 0) (k := .int .i64 0) (by kernel_rfl) (by kernel_rfl) (fun _ => by kernel_rfl) b_neq) rfl (fun ac A33 => ?_)
  refine wpList_nil ?_
  refine n_then ?_
  refine c_f (b := (decide (0 ≠ 0))) A33 (by kernel_rfl) (by decide) ?_
  refine wp_skip ?_
  refine n_then ?_
  refine wp_seq ?_
  refine wp_region_lit ?_
  refine s_one (.agg #[.int .i64 600000, .int .i64 1000]) A33 S29 (g_load (g := g15) (off := 0) 1 (by kernel_rfl) rfl (by kernel_rfl)) rfl (fun ac A34 => ?_)
  refine s_one (.int .i64 600) A34 S29 (g_move (by kernel_rfl)) rfl (fun ac A35 => ?_)
  refine s_one (.int .i64 600000) A35 S29 (g_bin (u := .int .i64 1000) (k := .int .i64 600) (by kernel_rfl) (by kernel_rfl) (fun _ => by kernel_rfl) (b_mul (by decide))) rfl (fun ac A36 => ?_)
  refine s_call (fs := #[]) (cp := #[]) (r := [(0, .agg #[.int .i64 600000, .int .i64 1000]), (0, .int .i64 600000)]) #[.agg #[.int .i64 600000, .int .i64 1000], .int .i64 600000] (.agg #[.int .i64 600000000, .int .i64 600000]) A36 S29 (over_t _) Try.call26 (by kernel_rfl) (by kernel_rfl) (by kernel_rfl) rfl (fun ac wc A37 S38 => ?_)
  refine s_call (fs := #[]) (cp := #[]) (r := [(0, .agg #[.int .i64 600000000, .int .i64 600000])]) #[.agg #[.int .i64 600000000, .int .i64 600000]] (.agg #[.int .i64 1000, .int .i64 1000]) A37 S38 (enclosed_t _) Try.call27 (by kernel_rfl) (by kernel_rfl) (by kernel_rfl) rfl (fun ac wc A40 S41 => ?_)
  refine s_store (g := g3) (off := 0) (v := .agg #[.int .i64 1000, .int .i64 1000]) 2 (#[.int .i64 1000, .int .i64 1000]) A40 S41 (by kernel_rfl) (by kernel_rfl) rfl (by kernel_rfl) (fun wc S44 => ?_)
  refine s_one (.int .i64 0) A40 S44 (g_assign (by kernel_rfl)) rfl (fun ac A46 => ?_)
  refine wpList_nil ?_
  refine n_then ?_
  refine wp_ret ?_
  refine fin2 (.agg #[.int .i64 1000, .int .i64 1000]) (.int .i64 0) Try.results14 A46 S44 (rv_cell (g := g3) (off := 0) 2 (by kernel_rfl) rfl (by kernel_rfl)) (rv_tmp (by kernel_rfl)) ⟨?_, S44.kp⟩
  rfl

end Go.Proofs.Ytnbimpkihpaldaa
