/- Arrays, laws and places of chapter 2. -/
import Derived.Test.YtfeapeblnnmhlaaRay6
import Derived.Test.YtfeapeblnnmhlaaFlat3
import Derived.Test.YtfeapeblnnmhlaaSpread
namespace Go.Proofs.Ytfeapeblnnmhlaa
open Go.RowKit Go.Cpl Go.Ray1

set_option maxRecDepth 100000 in
set_option maxHeartbeats 400000 in
theorem lwithin_s (n lo hi : Int) (w0 : World) :
    Calls Try.prog 30 #[.int .i64 n, .int .i64 lo, .int .i64 hi] w0 fun e w' => e = .returned (.bool (inB n lo hi)) ∧ Below w0.heap.size w0 w' := by
  have S0 := St.start w0
  refine enter (n := 15) Try.func30 rfl rfl rfl (fun ac A0 => ?_)
  refine wp_seq ?_
  refine wp_region_lit ?_
  refine s_one (.bool false) A0 S0 (g_assign (by kernel_rfl)) rfl (fun ac A1 => ?_)
  refine wpList_nil ?_
  refine n_then ?_
  refine wp_seq ?_
  refine c_cut (fun ac wc => Fr 15 ac [(6, .bool ((decide (lo ≤ n)) && (decide (n ≤ hi)))), (0, .int .i64 n), (1, .int .i64 lo), (2, .int .i64 hi)] ∧ St w0 [] [] wc) ?_ ?_
  · refine wp_region_lit ?_
    refine s_one (.int .i64 lo) A1 S0 (g_move (by kernel_rfl)) rfl (fun ac A2 => ?_)
    refine s_one (.int .i64 n) A2 S0 (g_move (by kernel_rfl)) rfl (fun ac A3 => ?_)
    refine s_one (.bool (decide (lo ≤ n))) A3 S0 (g_bin (u := .int .i64 lo) (k := .int .i64 n) (by kernel_rfl) (by kernel_rfl) (fun _ => by kernel_rfl) (fun _ => by kernel_rfl)) rfl (fun ac A4 => ?_)
    refine s_one (.bool (decide (lo ≤ n))) A4 S0 (g_move (by kernel_rfl)) rfl (fun ac A5 => ?_)
    refine by_bool (decide (lo ≤ n)) (fun h6 => ?_) (fun h6 => ?_)
    · have p7 := of_decide_eq_true h6
      refine s_want (dj := 10) (b := (decide (lo ≤ n))) A5 (by kernel_rfl) (by kernel_rfl) h6 ?_
      refine s_one (.int .i64 n) A5 S0 (g_move (by kernel_rfl)) rfl (fun ac A8 => ?_)
      refine s_want (dj := 10) (b := (decide (lo ≤ n))) A8 (by kernel_rfl) (by kernel_rfl) h6 ?_
      refine s_one (.int .i64 hi) A8 S0 (g_move (by kernel_rfl)) rfl (fun ac A9 => ?_)
      refine s_want (dj := 10) (b := (decide (lo ≤ n))) A9 (by kernel_rfl) (by kernel_rfl) h6 ?_
      refine s_one (.bool (decide (n ≤ hi))) A9 S0 (g_bin (u := .int .i64 n) (k := .int .i64 hi) (by kernel_rfl) (by kernel_rfl) (fun _ => by kernel_rfl) (fun _ => by kernel_rfl)) rfl (fun ac A10 => ?_)
      refine s_one (.bool (decide (n ≤ hi))) A10 S0 (g_pick_t (b := (decide (lo ≤ n))) (by kernel_rfl) h6 (by kernel_rfl)) rfl (fun ac A11 => ?_)
      refine s_one (.bool (decide (n ≤ hi))) A11 S0 (g_assign (by kernel_rfl)) rfl (fun ac A12 => ?_)
      refine wpList_nil ?_
      refine n_then ?_
      exact ⟨(A12.slot (A12.slot (A12.slot (A12.slot A12.nil (v := .int .i64 hi) (by kernel_rfl) rfl) (v := .int .i64 lo) (by kernel_rfl) rfl) (v := .int .i64 n) (by kernel_rfl) rfl) (v := .bool (decide (n ≤ hi))) (by kernel_rfl) (congrArg Value.bool (b_and_t h6 (Eq.refl (decide (n ≤ hi)))).symm)), S0.sub sub_all sub_all⟩
    · have p13 := of_decide_eq_false h6
      refine s_not (dj := 10) (b := (decide (lo ≤ n))) A5 (by kernel_rfl) (by kernel_rfl) h6 rfl (fun ac A14 => ?_)
      refine s_not (dj := 10) (b := (decide (lo ≤ n))) A14 (by kernel_rfl) (by kernel_rfl) h6 rfl (fun ac A15 => ?_)
      refine s_not (dj := 10) (b := (decide (lo ≤ n))) A15 (by kernel_rfl) (by kernel_rfl) h6 rfl (fun ac A16 => ?_)
      refine s_one (.bool false) A16 S0 (g_pick_f (b := (decide (lo ≤ n))) (by kernel_rfl) h6 (by kernel_rfl)) rfl (fun ac A17 => ?_)
      refine s_one (.bool false) A17 S0 (g_assign (by kernel_rfl)) rfl (fun ac A18 => ?_)
      refine wpList_nil ?_
      refine n_then ?_
      exact ⟨(A18.slot (A18.slot (A18.slot (A18.slot A18.nil (v := .int .i64 hi) (by kernel_rfl) rfl) (v := .int .i64 lo) (by kernel_rfl) rfl) (v := .int .i64 n) (by kernel_rfl) rfl) (v := .bool false) (by kernel_rfl) (congrArg Value.bool (b_af1 h6).symm)), S0.sub sub_all sub_all⟩
  · rintro ac wc ⟨A19, S20⟩
    refine n_then ?_
    refine wp_ret ?_
    refine fin1 (.bool ((decide (lo ≤ n)) && (decide (n ≤ hi)))) Try.results30 A19 S20 (rv_tmp (by kernel_rfl)) ⟨?_, S20.kp⟩
    rfl

set_option maxRecDepth 100000 in
set_option maxHeartbeats 400000 in
theorem lsmall_s (n m : Int) (w0 : World) (h0 : 0 ≤ m) (h1 : m ≤ 1000000000000) :
    Calls Try.prog 29 #[.int .i64 n, .int .i64 m] w0 fun e w' => e = .returned (.bool (inB n (-m) m)) ∧ Below w0.heap.size w0 w' := by
  have S0 := St.start w0
  refine enter (n := 10) Try.func29 rfl rfl rfl (fun ac A0 => ?_)
  refine wp_seq ?_
  refine wp_region_lit ?_
  refine s_one (.bool false) A0 S0 (g_assign (by kernel_rfl)) rfl (fun ac A1 => ?_)
  refine wpList_nil ?_
  refine n_then ?_
  refine wp_seq ?_
  refine wp_region_lit ?_
  refine s_one (.int .i64 n) A1 S0 (g_move (by kernel_rfl)) rfl (fun ac A2 => ?_)
  refine s_one (.int .i64 m) A2 S0 (g_move (by kernel_rfl)) rfl (fun ac A3 => ?_)
  refine s_one (.int .i64 (-m)) A3 S0 (g_un (u := .int .i64 m) (by kernel_rfl) (u_neg (by omega))) rfl (fun ac A4 => ?_)
  refine s_one (.int .i64 m) A4 S0 (g_move (by kernel_rfl)) rfl (fun ac A5 => ?_)
  refine s_call (fs := #[]) (cp := #[]) (r := [(0, .int .i64 n), (0, .int .i64 (-m)), (0, .int .i64 m)]) #[.int .i64 n, .int .i64 (-m), .int .i64 m] (.bool (inB n (-m) m)) A5 S0 (lwithin_s n (-m) m _) Try.call30 (by kernel_rfl) (by kernel_rfl) (by kernel_rfl) rfl (fun ac wc A6 S7 => ?_)
  refine s_one (.bool (inB n (-m) m)) A6 S7 (g_assign (by kernel_rfl)) rfl (fun ac A9 => ?_)
  refine wpList_nil ?_
  refine n_then ?_
  refine wp_ret ?_
  refine fin1 (.bool (inB n (-m) m)) Try.results29 A9 S7 (rv_tmp (by kernel_rfl)) ⟨?_, S7.kp⟩
  rfl

set_option maxRecDepth 100000 in
set_option maxHeartbeats 400000 in
theorem sends_s (n : Int) (w0 : World) :
    Calls Try.prog 40 #[.int .i64 n] w0 fun e w' => e = .returned (.bool (decide (n ≥ 0))) ∧ Below w0.heap.size w0 w' := by
  have S0 := St.start w0
  refine enter (n := 5) Try.func40 rfl rfl rfl (fun ac A0 => ?_)
  refine wp_seq ?_
  refine wp_region_lit ?_
  refine s_one (.bool false) A0 S0 (g_assign (by kernel_rfl)) rfl (fun ac A1 => ?_)
  refine wpList_nil ?_
  refine n_then ?_
  refine wp_seq ?_
  refine wp_region_lit ?_
  refine s_one (.int .i64 n) A1 S0 (g_move (by kernel_rfl)) rfl (fun ac A2 => ?_)
  refine s_one (.bool (decide (n ≥ 0))) A2 S0 (g_bin (u := .int .i64 n) (k := .int .i64 0) (by kernel_rfl) (by kernel_rfl) (fun _ => by kernel_rfl) (fun _ => by kernel_rfl)) rfl (fun ac A3 => ?_)
  refine s_one (.bool (decide (n ≥ 0))) A3 S0 (g_assign (by kernel_rfl)) rfl (fun ac A4 => ?_)
  refine wpList_nil ?_
  refine n_then ?_
  refine wp_ret ?_
  refine fin1 (.bool (decide (n ≥ 0))) Try.results40 A4 S0 (rv_tmp (by kernel_rfl)) ⟨?_, S0.kp⟩
  rfl

set_option maxRecDepth 100000 in
set_option maxHeartbeats 400000 in
theorem lfloor_s (n d : Int) (w0 : World) (h0 : 1 ≤ d) (h1 : -9223372036854775808 ≤ n) (h2 : n ≤ 9223372036854775807) :
    Calls Try.prog 41 #[.int .i64 n, .int .i64 d] w0 fun e w' => e = .returned (.int .i64 (n / d)) ∧ Below w0.heap.size w0 w' := by
  have S0 := St.start w0
  refine enter (n := 16) Try.func41 rfl rfl rfl (fun ac A0 => ?_)
  refine wp_seq ?_
  refine wp_region_lit ?_
  refine s_one (.int .i64 0) A0 S0 (g_assign (by kernel_rfl)) rfl (fun ac A1 => ?_)
  refine wpList_nil ?_
  refine n_then ?_
  refine wp_seq ?_
  refine wp_region_lit ?_
  refine s_one (.int .i64 n) A1 S0 (g_move (by kernel_rfl)) rfl (fun ac A2 => ?_)
  refine s_one (.int .i64 d) A2 S0 (g_move (by kernel_rfl)) rfl (fun ac A3 => ?_)
  refine s_one (.int .i64 ((n).tdiv d)) A3 S0 (g_bin (u := .int .i64 n) (k := .int .i64 d) (by kernel_rfl) (by kernel_rfl) (fun _ => by kernel_rfl) (b_quo (by omega) (td_bd h0 h1 h2))) rfl (fun ac A4 => ?_)
  refine s_one (.int .i64 ((n).tdiv d)) A4 S0 (g_assign (by kernel_rfl)) rfl (fun ac A5 => ?_)
  refine wpList_nil ?_
  refine n_then ?_
  refine wp_seq ?_
  refine wp_seq ?_
  refine wp_region_lit ?_
  refine s_one (.int .i64 n) A5 S0 (g_move (by kernel_rfl)) rfl (fun ac A6 => ?_)
  refine s_one (.int .i64 d) A6 S0 (g_move (by kernel_rfl)) rfl (fun ac A7 => ?_)
  refine s_one (.int .i64 ((n).tmod d)) A7 S0 (g_bin (u := .int .i64 n) (k := .int .i64 d) (by kernel_rfl) (by kernel_rfl) (fun _ => by kernel_rfl) (b_rem (by omega))) rfl (fun ac A8 => ?_)
  refine s_one (.bool (decide ((n).tmod d < 0))) A8 S0 (g_bin (u := .int .i64 ((n).tmod d)) (k := .int .i64 0) (by kernel_rfl) (by kernel_rfl) (fun _ => by kernel_rfl) (fun _ => by kernel_rfl)) rfl (fun ac A9 => ?_)
  refine wpList_nil ?_
  refine n_then ?_
  refine c_ifb (b := (decide ((n).tmod d < 0))) A9 (by kernel_rfl) (fun h10 => ?_) (fun h10 => ?_)
  · have p11 := of_decide_eq_true h10
    refine wp_region_lit ?_
    refine s_one (.int .i64 ((n).tdiv d)) A9 S0 (g_move (by kernel_rfl)) rfl (fun ac A12 => ?_)
    refine s_one (.int .i64 ((n).tdiv d - 1)) A12 S0 (g_bin (u := .int .i64 ((n).tdiv d)) (k := .int .i64 1) (by kernel_rfl) (by kernel_rfl) (fun _ => by kernel_rfl) (b_sub (by have q := td_bd h0 h1 h2; have q2 := td_bd2 h0 h1 h2 (by assumption); omega))) rfl (fun ac A13 => ?_)
    refine s_one (.int .i64 ((n).tdiv d - 1)) A13 S0 (g_assign (by kernel_rfl)) rfl (fun ac A14 => ?_)
    refine wpList_nil ?_
    refine n_then ?_
    refine wp_seq ?_
    refine wp_region_lit ?_
    refine s_one (.int .i64 ((n).tdiv d - 1)) A14 S0 (g_move (by kernel_rfl)) rfl (fun ac A15 => ?_)
    refine s_one (.int .i64 ((n).tdiv d - 1)) A15 S0 (g_assign (by kernel_rfl)) rfl (fun ac A16 => ?_)
    refine wpList_nil ?_
    refine n_then ?_
    refine wp_ret ?_
    refine fin1 (.int .i64 ((n).tdiv d - 1)) Try.results41 A16 S0 (rv_tmp (by kernel_rfl)) ⟨?_, S0.kp⟩
    rw [fl_y h0 p11]
  · have p17 := of_decide_eq_false h10
    refine wp_skip ?_
    refine n_then ?_
    refine wp_seq ?_
    refine wp_region_lit ?_
    refine s_one (.int .i64 ((n).tdiv d)) A9 S0 (g_move (by kernel_rfl)) rfl (fun ac A18 => ?_)
    refine s_one (.int .i64 ((n).tdiv d)) A18 S0 (g_assign (by kernel_rfl)) rfl (fun ac A19 => ?_)
    refine wpList_nil ?_
    refine n_then ?_
    refine wp_ret ?_
    refine fin1 (.int .i64 ((n).tdiv d)) Try.results41 A19 S0 (rv_tmp (by kernel_rfl)) ⟨?_, S0.kp⟩
    rw [fl_n h0 p17]

set_option maxRecDepth 100000 in
set_option maxHeartbeats 400000 in
theorem rounded_s (n c : Int) (w0 : World) (h0 : 1 ≤ c) (h1 : c ≤ 1000000000000) (h2 : -1000000000000000 ≤ n) (h3 : n ≤ 1000000000000000) :
    Calls Try.prog 27 #[.int .i64 n, .int .i64 c] w0 fun e w' => e = .returned (.int .i64 (rnd n c)) ∧ Below w0.heap.size w0 w' := by
  have S0 := St.start w0
  refine enter (n := 12) Try.func27 rfl rfl rfl (fun ac A0 => ?_)
  refine wp_seq ?_
  refine wp_region_lit ?_
  refine s_one (.int .i64 0) A0 S0 (g_assign (by kernel_rfl)) rfl (fun ac A1 => ?_)
  refine wpList_nil ?_
  refine n_then ?_
  refine wp_seq ?_
  refine wp_region_lit ?_
  refine s_one (.int .i64 n) A1 S0 (g_move (by kernel_rfl)) rfl (fun ac A2 => ?_)
  refine s_one (.int .i64 (2 * n)) A2 S0 (g_bin (u := .int .i64 2) (k := .int .i64 n) (by kernel_rfl) (by kernel_rfl) (fun _ => by kernel_rfl) (b_mul (by omega))) rfl (fun ac A3 => ?_)
  refine s_one (.int .i64 c) A3 S0 (g_move (by kernel_rfl)) rfl (fun ac A4 => ?_)
  refine s_one (.int .i64 (2 * n + c)) A4 S0 (g_bin (u := .int .i64 (2 * n)) (k := .int .i64 c) (by kernel_rfl) (by kernel_rfl) (fun _ => by kernel_rfl) (b_add (by omega))) rfl (fun ac A5 => ?_)
  refine s_one (.int .i64 c) A5 S0 (g_move (by kernel_rfl)) rfl (fun ac A6 => ?_)
  refine s_one (.int .i64 (2 * c)) A6 S0 (g_bin (u := .int .i64 2) (k := .int .i64 c) (by kernel_rfl) (by kernel_rfl) (fun _ => by kernel_rfl) (b_mul (by omega))) rfl (fun ac A7 => ?_)
  refine s_call (fs := #[]) (cp := #[]) (r := [(0, .int .i64 (2 * n + c)), (0, .int .i64 (2 * c))]) #[.int .i64 (2 * n + c), .int .i64 (2 * c)] (.int .i64 ((2 * n + c) / (2 * c))) A7 S0 (lfloor_s (2 * n + c) (2 * c) _ (by omega) (by omega) (by omega)) Try.call41 (by kernel_rfl) (by kernel_rfl) (by kernel_rfl) rfl (fun ac wc A8 S9 => ?_)
  refine s_one (.int .i64 ((2 * n + c) / (2 * c))) A8 S9 (g_assign (by kernel_rfl)) rfl (fun ac A11 => ?_)
  refine wpList_nil ?_
  refine n_then ?_
  refine wp_ret ?_
  refine fin1 (.int .i64 ((2 * n + c) / (2 * c))) Try.results27 A11 S9 (rv_tmp (by kernel_rfl)) ⟨?_, S9.kp⟩
  rfl

def clk_a_r (ck : Int) : Int := bif !(inB ck 1 1000000) then 2 else 0

set_option maxRecDepth 100000 in
set_option maxHeartbeats 400000 in
theorem clk_a (ck : Int) (w0 : World) :
    Calls Try.prog 24 #[.int .i64 ck] w0 fun e w' => e = .returned (.int .i64 (clk_a_r ck)) ∧ Below w0.heap.size w0 w' := by
  have S0 := St.start w0
  refine enter (n := 6) Try.func24 rfl rfl rfl (fun ac A0 => ?_)
  refine wp_seq ?_
  refine wp_region_lit ?_
  refine s_one (.int .i64 0) A0 S0 (g_assign (by kernel_rfl)) rfl (fun ac A1 => ?_)
  refine wpList_nil ?_
  refine n_then ?_
  refine wp_seq ?_
  refine wp_seq ?_
  refine wp_region_lit ?_
  refine s_one (.int .i64 ck) A1 S0 (g_move (by kernel_rfl)) rfl (fun ac A2 => ?_)
  refine s_call (fs := #[]) (cp := #[]) (r := [(0, .int .i64 ck), (0, .int .i64 1), (0, .int .i64 1000000)]) #[.int .i64 ck, .int .i64 1, .int .i64 1000000] (.bool (inB ck 1 1000000)) A2 S0 (lwithin_s ck 1 1000000 _) Try.call30 (by kernel_rfl) (by kernel_rfl) (by kernel_rfl) rfl (fun ac wc A3 S4 => ?_)
  refine s_one (.bool (!(inB ck 1 1000000))) A3 S4 (g_un (u := .bool (inB ck 1 1000000)) (by kernel_rfl) (fun _ => by kernel_rfl)) rfl (fun ac A6 => ?_)
  refine wpList_nil ?_
  refine n_then ?_
  refine c_ifb (b := (!(inB ck 1 1000000))) A6 (by kernel_rfl) (fun h7 => ?_) (fun h7 => ?_)
  · have h8 : inB ck 1 1000000 = false := by simpa using h7
    refine wp_seq ?_
    refine wp_region_lit ?_
    refine s_one (.int .i64 2) A6 S4 (g_assign (by kernel_rfl)) rfl (fun ac A9 => ?_)
    refine wpList_nil ?_
    refine n_then ?_
    refine wp_ret ?_
    refine r_then ?_
    refine fin1 (.int .i64 2) Try.results24 A9 S4 (rv_tmp (by kernel_rfl)) ⟨?_, S4.kp⟩
    have e : clk_a_r ck = 2 := by unfold clk_a_r; exact ((bif_t h7).trans rfl)
    rw [e]
  · have h10 : inB ck 1 1000000 = true := by simpa using h7
    refine wp_skip ?_
    refine n_then ?_
    refine wp_seq ?_
    refine wp_region_lit ?_
    refine s_one (.int .i64 0) A6 S4 (g_assign (by kernel_rfl)) rfl (fun ac A11 => ?_)
    refine wpList_nil ?_
    refine n_then ?_
    refine wp_ret ?_
    refine fin1 (.int .i64 0) Try.results24 A11 S4 (rv_tmp (by kernel_rfl)) ⟨?_, S4.kp⟩
    have e : clk_a_r ck = 0 := by unfold clk_a_r; exact ((bif_f h7).trans rfl)
    rw [e]

def cnt_a_r (n : Int) : Int := if n = 0 then 10 else (if n > 16 then 8 else 0)

set_option maxRecDepth 100000 in
set_option maxHeartbeats 400000 in
theorem cnt_a (n : Int) (w0 : World) :
    Calls Try.prog 42 #[.int .i64 n] w0 fun e w' => e = .returned (.int .i64 (cnt_a_r n)) ∧ Below w0.heap.size w0 w' := by
  have S0 := St.start w0
  refine enter (n := 9) Try.func42 rfl rfl rfl (fun ac A0 => ?_)
  refine wp_seq ?_
  refine wp_region_lit ?_
  refine s_one (.int .i64 0) A0 S0 (g_assign (by kernel_rfl)) rfl (fun ac A1 => ?_)
  refine wpList_nil ?_
  refine n_then ?_
  refine wp_seq ?_
  refine wp_block ?_
  refine wp_seq ?_
  refine wp_region_lit ?_
  refine s_one (.int .i64 n) A1 S0 (g_move (by kernel_rfl)) rfl (fun ac A2 => ?_)
  refine s_one (.bool (decide (n = 0))) A2 S0 (g_bin (u := .int .i64 n) (k := .int .i64 0) (by kernel_rfl) (by kernel_rfl) (fun _ => by kernel_rfl) b_eql) rfl (fun ac A3 => ?_)
  refine s_one (.bool (decide (n = 0))) A3 S0 (g_assign (by kernel_rfl)) rfl (fun ac A4 => ?_)
  refine wpList_nil ?_
  refine n_then ?_
  refine c_ifb (b := (decide (n = 0))) A4 (by kernel_rfl) (fun h5 => ?_) (fun h5 => ?_)
  · have p6 := of_decide_eq_true h5
    refine wp_seq ?_
    refine wp_region_lit ?_
    refine s_one (.int .i64 10) A4 S0 (g_assign (by kernel_rfl)) rfl (fun ac A7 => ?_)
    refine wpList_nil ?_
    refine n_then ?_
    refine wp_ret ?_
    refine r_block ?_
    refine r_then ?_
    refine fin1 (.int .i64 10) Try.results42 A7 S0 (rv_tmp (by kernel_rfl)) ⟨?_, S0.kp⟩
    have e : cnt_a_r n = 10 := by unfold cnt_a_r; exact ((if_pos (of_decide_eq_true h5)).trans rfl)
    rw [e]
  · have p8 := of_decide_eq_false h5
    refine wp_seq ?_
    refine wp_region_lit ?_
    refine s_one (.int .i64 n) A4 S0 (g_move (by kernel_rfl)) rfl (fun ac A9 => ?_)
    refine s_one (.bool (decide (n > 16))) A9 S0 (g_bin (u := .int .i64 n) (k := .int .i64 16) (by kernel_rfl) (by kernel_rfl) (fun _ => by kernel_rfl) (fun _ => by kernel_rfl)) rfl (fun ac A10 => ?_)
    refine s_one (.bool (decide (n > 16))) A10 S0 (g_assign (by kernel_rfl)) rfl (fun ac A11 => ?_)
    refine wpList_nil ?_
    refine n_then ?_
    refine c_ifb (b := (decide (n > 16))) A11 (by kernel_rfl) (fun h12 => ?_) (fun h12 => ?_)
    · have p13 := of_decide_eq_true h12
      refine wp_seq ?_
      refine wp_region_lit ?_
      refine s_one (.int .i64 8) A11 S0 (g_assign (by kernel_rfl)) rfl (fun ac A14 => ?_)
      refine wpList_nil ?_
      refine n_then ?_
      refine wp_ret ?_
      refine r_block ?_
      refine r_then ?_
      refine fin1 (.int .i64 8) Try.results42 A14 S0 (rv_tmp (by kernel_rfl)) ⟨?_, S0.kp⟩
      have e : cnt_a_r n = 8 := by unfold cnt_a_r; exact ((if_neg (of_decide_eq_false h5)).trans ((if_pos (of_decide_eq_true h12)).trans rfl))
      rw [e]
    · have p15 := of_decide_eq_false h12
      refine wp_skip ?_
      refine n_block ?_
      refine n_then ?_
      refine wp_seq ?_
      refine wp_region_lit ?_
      refine s_one (.int .i64 0) A11 S0 (g_assign (by kernel_rfl)) rfl (fun ac A16 => ?_)
      refine wpList_nil ?_
      refine n_then ?_
      refine wp_ret ?_
      refine fin1 (.int .i64 0) Try.results42 A16 S0 (rv_tmp (by kernel_rfl)) ⟨?_, S0.kp⟩
      have e : cnt_a_r n = 0 := by unfold cnt_a_r; exact ((if_neg (of_decide_eq_false h5)).trans ((if_neg (of_decide_eq_false h12)).trans rfl))
      rw [e]

/-- The first error of some, and its number. -/
def feT (E : Nat → Int) : Nat → Int
  | 0 => 0
  | k + 1 => if feT E k = 0 then E k else feT E k
def feI (E : Nat → Int) : Nat → Int
  | 0 => 0
  | k + 1 => if feT E k = 0 then (if E k = 0 then 0 else (k : Int)) else feI E k
theorem feT_0 {E : Nat → Int} : ∀ {k : Nat}, (∀ i, i < k → E i = 0) → feT E k = 0 ∧ feI E k = 0
  | 0, _ => ⟨rfl, rfl⟩
  | k + 1, h => by
    have q := feT_0 (E := E) (k := k) fun i hi => h i (by omega)
    have z := h k (by omega)
    simp only [feT, feI]; rw [if_pos q.1, if_pos q.1, if_pos z]; exact ⟨z, rfl⟩
theorem feT_at {E : Nat → Int} : ∀ {n k : Nat}, (∀ i, i < k → E i = 0) → E k ≠ 0 → k < n → feT E n = E k ∧ feI E n = (k : Int)
  | 0, _, _, _, h => by omega
  | n + 1, k, h0, hk, h => by
    simp only [feT, feI]
    by_cases e : k = n
    · subst e; rw [if_pos (feT_0 h0).1, if_pos (feT_0 h0).1, if_neg hk]; exact ⟨rfl, rfl⟩
    · have := feT_at (n := n) h0 hk (by omega)
      rw [this.1, if_neg hk, if_neg hk]; exact ⟨rfl, this.2⟩
theorem feT_all {E : Nat → Int} : ∀ {n : Nat}, feT E n = 0 → ∀ i, i < n → E i = 0
  | 0, _, i, hi => by omega
  | n + 1, h, i, hi => by
    simp only [feT] at h
    by_cases z : feT E n = 0
    · rw [if_pos z] at h
      by_cases e : i = n
      · subst e; exact h
      · exact feT_all z i (by omega)
    · rw [if_neg z] at h; exact absurd h z
theorem all_step {E : Nat → Int} {k : Nat} (h : ∀ i, i < k → E i = 0) (hk : E k = 0) : ∀ i, i < k + 1 → E i = 0 := by
  intro i hi
  by_cases e : i = k
  · subst e; exact hk
  · exact h i (by omega)
theorem clk_0 {c : Int} (h : clk_a_r c = 0) : 1 ≤ c ∧ c ≤ 1000000 := by
  cases q : inB c 1 1000000 with
  | true => exact inB_true.1 q
  | false => unfold clk_a_r at h; rw [q] at h; simp at h
theorem cnt_0 {n : Int} (h : cnt_a_r n = 0) : n ≠ 0 ∧ ¬ n > 16 := by
  unfold cnt_a_r at h
  by_cases z : n = 0
  · rw [if_pos z] at h; simp at h
  · rw [if_neg z] at h
    by_cases y : n > 16
    · rw [if_pos y] at h; simp at h
    · exact ⟨z, y⟩
/-- The error of an element. -/
def elE (el : List Int) (k : Nat) : Int := bif !(inB (nthI el (k * 2)) (-100000) 100000) || !(inB (nthI el (k * 2 + 1)) (-100000) 100000) then 2 else if nthI el (k * 2 + 1) ≥ 0 then 15 else 0
theorem elE_0 {el : List Int} {k : Nat} (h : elE el k = 0) : (-100000 ≤ nthI el (k * 2) ∧ nthI el (k * 2) ≤ 100000) ∧ (-100000 ≤ nthI el (k * 2 + 1) ∧ nthI el (k * 2 + 1) ≤ 100000) ∧ nthI el (k * 2 + 1) < 0 := by
  unfold elE at h
  cases q : (!(inB (nthI el (k * 2)) (-100000) 100000) || !(inB (nthI el (k * 2 + 1)) (-100000) 100000)) with
  | true => rw [q] at h; simp at h
  | false =>
    rw [q] at h
    simp only [cond_false] at h
    rw [Bool.or_eq_false_iff, Bool.not_eq_false', Bool.not_eq_false', inB_true, inB_true] at q
    by_cases z : nthI el (k * 2 + 1) ≥ 0
    · rw [if_pos z] at h; simp at h
    · exact ⟨q.1, q.2, by omega⟩
def arE (el : List Int) (n : Nat) (mw md ms mt ck : Int) : Int := if cnt_a_r (n : Int) = 0 then (if feT (elE el) n = 0 then firstOf [mdE mw md ms mt, clk_a_r ck] else feT (elE el) n) else cnt_a_r (n : Int)
def arI (el : List Int) (n : Nat) : Int := if cnt_a_r (n : Int) = 0 then feI (elE el) n else 0
theorem ar_1 {el : List Int} {n : Nat} {mw md ms mt ck : Int} (h : cnt_a_r (n : Int) ≠ 0) : arE el n mw md ms mt ck = cnt_a_r (n : Int) ∧ arI el n = 0 := ⟨if_neg h, if_neg h⟩
theorem ar_2 {el : List Int} {n k : Nat} {mw md ms mt ck e : Int} (h : cnt_a_r (n : Int) = 0) (ha : ∀ i, i < k → elE el i = 0) (hk : elE el k = e) (he : e ≠ 0) (hn : k < n) : arE el n mw md ms mt ck = e ∧ arI el n = (k : Int) := by
  subst hk
  have q := feT_at ha he hn
  unfold arE arI
  rw [if_pos h, if_pos h, q.1, if_neg he]; exact ⟨rfl, q.2⟩
theorem ar_3 {el : List Int} {n : Nat} {mw md ms mt ck : Int} (h : cnt_a_r (n : Int) = 0) (ha : ∀ i, i < n → elE el i = 0) : arE el n mw md ms mt ck = firstOf [mdE mw md ms mt, clk_a_r ck] ∧ arI el n = 0 := by
  have q := feT_0 ha
  unfold arE arI
  rw [if_pos h, if_pos h, if_pos q.1]; exact ⟨rfl, q.2⟩
theorem ar_0 {el : List Int} {n : Nat} {mw md ms mt ck : Int} (h : arE el n mw md ms mt ck = 0) : (1 ≤ n ∧ n ≤ 16) ∧ (∀ i, i < n → elE el i = 0) ∧ mdE mw md ms mt = 0 ∧ 1 ≤ ck ∧ ck ≤ 1000000 := by
  unfold arE at h
  by_cases z : cnt_a_r (n : Int) = 0
  · rw [if_pos z] at h
    by_cases y : feT (elE el) n = 0
    · rw [if_pos y] at h
      obtain ⟨h1, h2⟩ := fo_zero h
      rw [fo_last] at h2
      have := cnt_0 z
      exact ⟨by omega, feT_all y, h1, clk_0 h2⟩
    · rw [if_neg y] at h; exact absurd h y
  · rw [if_neg z] at h; exact absurd h z
def tkE (tl : List Int) (k : Nat) : Int := bif inB (nthI tl k) (-1) 1000000 then 0 else 2
theorem tkE_0 {tl : List Int} {k : Nat} (h : tkE tl k = 0) : -1 ≤ nthI tl k ∧ nthI tl k ≤ 1000000 := by
  unfold tkE at h
  cases q : inB (nthI tl k) (-1) 1000000 with
  | true => exact inB_true.1 q
  | false => rw [q] at h; simp at h
def lwE (tl : List Int) (m : Nat) (lc : Int) : Int := if firstOf [clk_a_r lc, cnt_a_r (m : Int)] = 0 then feT (tkE tl) m else firstOf [clk_a_r lc, cnt_a_r (m : Int)]
def lwI (tl : List Int) (m : Nat) (lc : Int) : Int := if firstOf [clk_a_r lc, cnt_a_r (m : Int)] = 0 then feI (tkE tl) m else 0
theorem lw_1 {tl : List Int} {m : Nat} {lc : Int} (h : firstOf [clk_a_r lc, cnt_a_r (m : Int)] ≠ 0) : lwE tl m lc = firstOf [clk_a_r lc, cnt_a_r (m : Int)] ∧ lwI tl m lc = 0 := ⟨if_neg h, if_neg h⟩
theorem lw_2 {tl : List Int} {m k : Nat} {lc : Int} (h : firstOf [clk_a_r lc, cnt_a_r (m : Int)] = 0) (ha : ∀ i, i < k → tkE tl i = 0) (hk : tkE tl k = 2) (hn : k < m) : lwE tl m lc = 2 ∧ lwI tl m lc = (k : Int) := by
  have q := feT_at ha (by rw [hk]; decide) hn
  unfold lwE lwI
  rw [if_pos h, if_pos h, q.1, q.2, hk]; exact ⟨rfl, rfl⟩
theorem lw_3 {tl : List Int} {m : Nat} {lc : Int} (h : firstOf [clk_a_r lc, cnt_a_r (m : Int)] = 0) (ha : ∀ i, i < m → tkE tl i = 0) : lwE tl m lc = 0 ∧ lwI tl m lc = 0 := by
  have q := feT_0 ha
  unfold lwE lwI
  rw [if_pos h, if_pos h]; exact q
theorem lw_0 {tl : List Int} {m : Nat} {lc : Int} (h : lwE tl m lc = 0) : (1 ≤ m ∧ m ≤ 16) ∧ (∀ i, i < m → tkE tl i = 0) ∧ 1 ≤ lc ∧ lc ≤ 1000000 := by
  unfold lwE at h
  by_cases z : firstOf [clk_a_r lc, cnt_a_r (m : Int)] = 0
  · rw [if_pos z] at h
    obtain ⟨h1, h2⟩ := fo_zero z
    rw [fo_last] at h2
    have := cnt_0 h2
    exact ⟨by omega, feT_all h, clk_0 h1⟩
  · rw [if_neg z] at h; exact absurd h z

set_option maxRecDepth 100000 in
set_option maxHeartbeats 400000 in
theorem lfirst_s (g0 : Nat) (l : List Int) (n cap : Nat) (w0 : World) (hb : Blk w0 g0 33 (ints l)) (hl : l.length = n) (hn : n ≤ 1000) :
    Calls Try.prog 22 #[.slice (some ⟨g0, 0, none⟩) n cap] w0 fun e w' => e = .returned (.int .i64 (firstOf l)) ∧ Below w0.heap.size w0 w' := by
  have S0 := St.start w0
  have S0 := S0.came hb (by simp)
  refine enter (n := 15) Try.func22 rfl rfl rfl (fun ac A0 => ?_)
  refine wp_seq ?_
  refine wp_region_lit ?_
  refine s_one (.int .i64 0) A0 S0 (g_assign (by kernel_rfl)) rfl (fun ac A1 => ?_)
  refine wpList_nil ?_
  refine n_then ?_
  refine wp_seq ?_
  refine wp_seq ?_
  refine wp_region_lit ?_
  refine s_one (.slice (some ⟨g0, 0, none⟩) n cap) A1 S0 (g_move (by kernel_rfl)) rfl (fun ac A2 => ?_)
  refine s_one (.int .i64 (n : Int)) A2 S0 (g_built (r := [(0, .slice (some ⟨g0, 0, none⟩) n cap)]) (by kernel_rfl) (fun _ _ _ => by kernel_rfl)) rfl (fun ac A3 => ?_)
  refine s_one (.int .i64 0) A3 S0 (g_move (by kernel_rfl)) rfl (fun ac A4 => ?_)
  refine wpList_nil ?_
  refine n_then ?_
  refine wp_block ?_
  refine c_loopN (fun mm ac wc => ∃ (k : Nat), mm = n - k ∧ (k ≤ n) ∧ (firstOf l = firstOf (l.drop k)) ∧ Fr 15 ac [(0, .slice (some ⟨g0, 0, none⟩) n cap), (5, .slice (some ⟨g0, 0, none⟩) n cap), (6, .int .i64 (n : Int)), (7, .int .i64 (k : Int))] ∧ St w0 [⟨g0, 33, (ints l), false⟩] [] wc) _ ⟨0, rfl, (by omega), rfl, (A4.slot (A4.slot (A4.slot (A4.slot A4.nil (v := .int .i64 0) (by kernel_rfl) (congrArg (Value.int .i64) (by omega))) (v := .int .i64 (n : Int)) (by kernel_rfl) rfl) (v := .slice (some ⟨g0, 0, none⟩) n cap) (by kernel_rfl) rfl) (v := .slice (some ⟨g0, 0, none⟩) n cap) (by kernel_rfl) rfl), S0.sub sub_all sub_all⟩ ?_
  rintro mm ac wc ⟨k, hm7, hk, hf, A5, S6⟩
  refine wp_seq ?_
  refine wp_region_lit ?_
  refine s_one (.bool (decide ((k : Int) < (n : Int)))) A5 S6 (g_bin (u := .int .i64 (k : Int)) (k := .int .i64 (n : Int)) (by kernel_rfl) (by kernel_rfl) (fun _ => by kernel_rfl) (fun _ => by kernel_rfl)) rfl (fun ac A8 => ?_)
  refine wpList_nil ?_
  refine n_then ?_
  refine wp_seq ?_
  refine c_ifb (b := (decide ((k : Int) < (n : Int)))) A8 (by kernel_rfl) (fun h9 => ?_) (fun h9 => ?_)
  · have p10 := of_decide_eq_true h9
    refine wp_skip ?_
    refine n_then ?_
    refine wp_seq ?_
    refine wp_block ?_
    refine wp_seq ?_
    refine wp_region_lit ?_
    refine s_one (.pointer (some ⟨g0, k, none⟩)) A8 S6 (g_index (u := .slice (some ⟨g0, 0, none⟩) n cap) (k := .int .i64 (k : Int)) (by kernel_rfl) (by kernel_rfl) (ix_sl1 (e := 33) (bytes := 8) k (by kernel_rfl) (by omega) (by omega))) rfl (fun ac A11 => ?_)
    refine s_one (.int .i64 (nthI l k)) A11 S6 (g_load (g := g0) (off := k) 0 (by kernel_rfl) rfl (rv_of (by kernel_rfl) (ints_get (by rw [hl]; omega)))) rfl (fun ac A12 => ?_)
    refine s_one (.int .i64 (nthI l k)) A12 S6 (g_assign (by kernel_rfl)) rfl (fun ac A13 => ?_)
    refine wpList_nil ?_
    refine n_then ?_
    refine wp_seq ?_
    refine wp_region_lit ?_
    refine s_one (.int .i64 (nthI l k)) A13 S6 (g_move (by kernel_rfl)) rfl (fun ac A14 => ?_)
    refine s_one (.bool (decide (nthI l k ≠ 0))) A14 S6 (g_bin (u := .int .i64 (nthI l k)) (k := .int .i64 0) (by kernel_rfl) (by kernel_rfl) (fun _ => by kernel_rfl) b_neq) rfl (fun ac A15 => ?_)
    refine wpList_nil ?_
    refine n_then ?_
    refine c_ifb (b := (decide (nthI l k ≠ 0))) A15 (by kernel_rfl) (fun h16 => ?_) (fun h16 => ?_)
    · have p17 := of_decide_eq_true h16
      refine wp_seq ?_
      refine wp_region_lit ?_
      refine s_one (.int .i64 (nthI l k)) A15 S6 (g_move (by kernel_rfl)) rfl (fun ac A18 => ?_)
      refine s_one (.int .i64 (nthI l k)) A18 S6 (g_assign (by kernel_rfl)) rfl (fun ac A19 => ?_)
      refine wpList_nil ?_
      refine n_then ?_
      refine wp_ret ?_
      refine r_block ?_
      refine r_then ?_
      refine r_then ?_
      refine r_block ?_
      refine r_then ?_
      refine fin1 (.int .i64 (nthI l k)) Try.results22 A19 S6 (rv_tmp (by kernel_rfl)) ⟨?_, S6.kp⟩
      rw [first_y (by omega) hf p17]
    · have p20 := of_decide_eq_false h16
      refine wp_skip ?_
      refine n_block ?_
      refine n_then ?_
      refine wp_region_lit ?_
      refine s_one (.int .i64 ((k : Int) + 1)) A15 S6 (g_bin (u := .int .i64 (k : Int)) (k := .int .i64 1) (by kernel_rfl) (by kernel_rfl) (fun _ => by kernel_rfl) (b_add (by omega))) rfl (fun ac A21 => ?_)
      refine s_one (.int .i64 ((k : Int) + 1)) A21 S6 (g_move (by kernel_rfl)) rfl (fun ac A22 => ?_)
      refine wpList_nil ?_
      refine n_then ?_
      refine ⟨_, ⟨k + 1, rfl, (by omega), (first_n (by omega) hf (by omega)), (A22.slot (A22.slot (A22.slot (A22.slot A22.nil (v := .int .i64 ((k : Int) + 1)) (by kernel_rfl) (congrArg (Value.int .i64) (by omega))) (v := .int .i64 (n : Int)) (by kernel_rfl) rfl) (v := .slice (some ⟨g0, 0, none⟩) n cap) (by kernel_rfl) rfl) (v := .slice (some ⟨g0, 0, none⟩) n cap) (by kernel_rfl) rfl), S6.sub sub_all sub_all⟩, ?_⟩
      omega
  · have p23 := of_decide_eq_false h9
    refine wp_exit ?_
    refine x_then ?_
    refine x_then ?_
    refine x_hit ?_
    refine n_then ?_
    refine wp_seq ?_
    refine wp_region_lit ?_
    refine s_one (.int .i64 0) A8 S6 (g_assign (by kernel_rfl)) rfl (fun ac A24 => ?_)
    refine wpList_nil ?_
    refine n_then ?_
    refine wp_ret ?_
    refine fin1 (.int .i64 0) Try.results22 A24 S6 (rv_tmp (by kernel_rfl)) ⟨?_, S6.kp⟩
    rw [hf, List.drop_of_length_le (by omega)]
    rfl

set_option maxRecDepth 100000 in
set_option maxHeartbeats 400000 in
theorem CheckArray_s (EA : Option Addr) (n ecap : Nat) (el : List Int) (mw md ms mt ck : Int) (w0 : World) (hne : el.length = n * 2) (hre : IReads w0 EA el) (hn1 : n ≤ 1000) :
    Calls Try.prog 28 #[.agg #[.slice EA n ecap, .int .i64 mw, .int .i64 md, .int .i64 ms, .int .i64 mt, .int .i64 ck]] w0 fun e w' => e = .returned (.tuple #[.int .i64 (arI el n), .int .i64 (arE el n mw md ms mt ck)]) ∧ Below w0.heap.size w0 w' := by
  have S0 := St.start w0
  refine enter (n := 48) Try.func28 rfl rfl rfl (fun ac A0 => ?_)
  refine wp_seq ?_
  refine wp_region_lit ?_
  refine s_box (.agg #[.slice EA n ecap, .int .i64 mw, .int .i64 md, .int .i64 ms, .int .i64 mt, .int .i64 ck]) A0 S0 (by kernel_rfl) rfl (fun g3 ac wc A1 S2 => ?_)
  replace S2 : St _ (⟨g3, 26, #[.slice EA n ecap, .int .i64 mw, .int .i64 md, .int .i64 ms, .int .i64 mt, .int .i64 ck], true⟩ :: _) _ _ := S2
  refine s_one (.int .i64 0) A1 S2 (g_assign (by kernel_rfl)) rfl (fun ac A5 => ?_)
  refine s_one (.int .i64 0) A5 S2 (g_assign (by kernel_rfl)) rfl (fun ac A6 => ?_)
  refine wpList_nil ?_
  refine n_then ?_
  refine wp_seq ?_
  refine wp_seq ?_
  refine wp_region_lit ?_
  refine s_one (.pointer (some ⟨g3, 0, none⟩)) A6 S2 (g_field (u := .pointer (some ⟨g3, 0, none⟩)) (by kernel_rfl) (fun _ => by kernel_rfl)) rfl (fun ac A7 => ?_)
  refine s_one (.slice EA n ecap) A7 S2 (g_load (g := g3) (off := 0) 0 (by kernel_rfl) rfl (by kernel_rfl)) rfl (fun ac A8 => ?_)
  refine s_one (.int .i64 (n : Int)) A8 S2 (g_built (r := [(0, .slice EA n ecap)]) (by kernel_rfl) (fun _ _ _ => by kernel_rfl)) rfl (fun ac A9 => ?_)
  refine s_call (fs := #[]) (cp := #[]) (r := [(0, .int .i64 (n : Int))]) #[.int .i64 (n : Int)] (.int .i64 (cnt_a_r (n : Int))) A9 S2 (cnt_a (n : Int) _) Try.call42 (by kernel_rfl) (by kernel_rfl) (by kernel_rfl) rfl (fun ac wc A10 S11 => ?_)
  refine s_one (.int .i64 (cnt_a_r (n : Int))) A10 S11 (g_assign (by kernel_rfl)) rfl (fun ac A13 => ?_)
  refine wpList_nil ?_
  refine n_then ?_
  refine wp_seq ?_
  refine wp_region_lit ?_
  refine s_one (.int .i64 (cnt_a_r (n : Int))) A13 S11 (g_move (by kernel_rfl)) rfl (fun ac A14 => ?_)
  refine s_one (.bool (decide ((cnt_a_r (n : Int)) ≠ 0))) A14 S11 (g_bin (u := .int .i64 (cnt_a_r (n : Int))) (k := .int .i64 0) (by kernel_rfl) (by kernel_rfl) (fun _ => by kernel_rfl) b_neq) rfl (fun ac A15 => ?_)
  refine wpList_nil ?_
  refine n_then ?_
  refine c_ifb (b := (decide ((cnt_a_r (n : Int)) ≠ 0))) A15 (by kernel_rfl) (fun h16 => ?_) (fun h16 => ?_)
  · have p17 := of_decide_eq_true h16
    have hc : cnt_a_r (n : Int) ≠ 0 := of_decide_eq_true h16
    refine wp_seq ?_
    refine wp_region_lit ?_
    refine s_one (.int .i64 (cnt_a_r (n : Int))) A15 S11 (g_move (by kernel_rfl)) rfl (fun ac A18 => ?_)
    refine s_one (.int .i64 0) A18 S11 (g_assign (by kernel_rfl)) rfl (fun ac A19 => ?_)
    refine s_one (.int .i64 (cnt_a_r (n : Int))) A19 S11 (g_assign (by kernel_rfl)) rfl (fun ac A20 => ?_)
    refine wpList_nil ?_
    refine n_then ?_
    refine wp_ret ?_
    refine r_then ?_
    refine fin2 (.int .i64 0) (.int .i64 (cnt_a_r (n : Int))) Try.results28 A20 S11 (rv_tmp (by kernel_rfl)) (rv_tmp (by kernel_rfl)) ⟨?_, S11.kp⟩
    rw [(ar_1 (el := el) hc).1, (ar_1 (el := el) (mw := mw) (md := md) (ms := ms) (mt := mt) (ck := ck) hc).2]
  · have p21 := of_decide_eq_false h16
    have hc : cnt_a_r (n : Int) = 0 := by simpa using h16
    refine wp_skip ?_
    refine n_then ?_
    refine wp_seq ?_
    refine wp_seq ?_
    refine wp_region_lit ?_
    refine s_one (.pointer (some ⟨g3, 0, none⟩)) A15 S11 (g_field (u := .pointer (some ⟨g3, 0, none⟩)) (by kernel_rfl) (fun _ => by kernel_rfl)) rfl (fun ac A22 => ?_)
    refine s_one (.slice EA n ecap) A22 S11 (g_load (g := g3) (off := 0) 0 (by kernel_rfl) rfl (by kernel_rfl)) rfl (fun ac A23 => ?_)
    refine s_one (.int .i64 (n : Int)) A23 S11 (g_built (r := [(0, .slice EA n ecap)]) (by kernel_rfl) (fun _ _ _ => by kernel_rfl)) rfl (fun ac A24 => ?_)
    refine s_one (.int .i64 0) A24 S11 (g_move (by kernel_rfl)) rfl (fun ac A25 => ?_)
    refine wpList_nil ?_
    refine n_then ?_
    refine wp_block ?_
    refine c_loopN (fun mm ac wc => ∃ (k : Nat), mm = n - k ∧ (k ≤ n) ∧ (∀ i, i < k → elE el i = 0) ∧ Fr 48 ac [(0, .agg #[.slice EA n ecap, .int .i64 mw, .int .i64 md, .int .i64 ms, .int .i64 mt, .int .i64 ck]), (1, .pointer (some ⟨g3, 0, none⟩)), (7, .pointer (some ⟨g3, 0, none⟩)), (8, .slice EA n ecap), (9, .int .i64 (n : Int)), (10, .int .i64 (cnt_a_r (n : Int))), (4, .int .i64 (cnt_a_r (n : Int))), (11, .int .i64 (cnt_a_r (n : Int))), (12, .bool (decide ((cnt_a_r (n : Int)) ≠ 0))), (14, .pointer (some ⟨g3, 0, none⟩)), (15, .slice EA n ecap), (16, .int .i64 (n : Int)), (17, .int .i64 (k : Int))] ∧ St w0 [⟨g3, 26, #[.slice EA n ecap, .int .i64 mw, .int .i64 md, .int .i64 ms, .int .i64 mt, .int .i64 ck], true⟩] [] wc) _ ⟨0, rfl, (by omega), (fun i hi => absurd hi (by omega)), (A25.slot (A25.slot (A25.slot (A25.slot (A25.slot (A25.slot (A25.slot (A25.slot (A25.slot (A25.slot (A25.slot (A25.slot (A25.slot A25.nil (v := .int .i64 0) (by kernel_rfl) (congrArg (Value.int .i64) (by omega))) (v := .int .i64 (n : Int)) (by kernel_rfl) rfl) (v := .slice EA n ecap) (by kernel_rfl) rfl) (v := .pointer (some ⟨g3, 0, none⟩)) (by kernel_rfl) rfl) (v := .bool (decide ((cnt_a_r (n : Int)) ≠ 0))) (by kernel_rfl) rfl) (v := .int .i64 (cnt_a_r (n : Int))) (by kernel_rfl) rfl) (v := .int .i64 (cnt_a_r (n : Int))) (by kernel_rfl) rfl) (v := .int .i64 (cnt_a_r (n : Int))) (by kernel_rfl) rfl) (v := .int .i64 (n : Int)) (by kernel_rfl) rfl) (v := .slice EA n ecap) (by kernel_rfl) rfl) (v := .pointer (some ⟨g3, 0, none⟩)) (by kernel_rfl) rfl) (v := .pointer (some ⟨g3, 0, none⟩)) (by kernel_rfl) rfl) (v := .agg #[.slice EA n ecap, .int .i64 mw, .int .i64 md, .int .i64 ms, .int .i64 mt, .int .i64 ck]) (by kernel_rfl) rfl), S11.sub sub_all sub_all⟩ ?_
    rintro mm ac wc ⟨k, hm28, hk, ha, A26, S27⟩
    refine wp_seq ?_
    refine wp_region_lit ?_
    refine s_one (.bool (decide ((k : Int) < (n : Int)))) A26 S27 (g_bin (u := .int .i64 (k : Int)) (k := .int .i64 (n : Int)) (by kernel_rfl) (by kernel_rfl) (fun _ => by kernel_rfl) (fun _ => by kernel_rfl)) rfl (fun ac A29 => ?_)
    refine wpList_nil ?_
    refine n_then ?_
    refine wp_seq ?_
    refine c_ifb (b := (decide ((k : Int) < (n : Int)))) A29 (by kernel_rfl) (fun h30 => ?_) (fun h30 => ?_)
    · have p31 := of_decide_eq_true h30
      refine wp_skip ?_
      refine n_then ?_
      refine wp_seq ?_
      refine wp_block ?_
      refine wp_seq ?_
      refine wp_region_lit ?_
      refine s_one (.int .i64 (k : Int)) A29 S27 (g_move (by kernel_rfl)) rfl (fun ac A32 => ?_)
      obtain ⟨ad33, rfl, _⟩ := hre (k * 2) (by have hlen := hne; omega)
      refine s_one (.pointer (some (ad33.add (k * 2)))) A32 S27 (g_index (u := .slice (some ad33) n ecap) (k := .int .i64 (k : Int)) (by kernel_rfl) (by kernel_rfl) (ix_xs (e := 28) (bytes := 16) k (by kernel_rfl) (by omega) (by omega))) rfl (fun ac A34 => ?_)
      refine s_one (.agg #[.int .i64 (nthI el (k * 2)), .int .i64 (nthI el (k * 2 + 1))]) A34 S27 (g_loadXS (l := el) (k := k * 2) 2 (by kernel_rfl) hre (by have hlen := hne; omega) (by kernel_rfl) (by kernel_rfl)) rfl (fun ac A35 => ?_)
      refine s_alloc (#[.int .i64 0, .int .i64 0]) A35 S27 (by kernel_rfl) rfl (fun g38 ac wc A36 S37 => ?_)
      refine s_one (.int .i64 (k : Int)) A36 S37 (g_assign (by kernel_rfl)) rfl (fun ac A39 => ?_)
      refine s_store (g := g38) (off := 0) (v := .agg #[.int .i64 (nthI el (k * 2)), .int .i64 (nthI el (k * 2 + 1))]) 0 (#[.int .i64 (nthI el (k * 2)), .int .i64 (nthI el (k * 2 + 1))]) A39 S37 (by kernel_rfl) (by kernel_rfl) rfl (by kernel_rfl) (fun wc S41 => ?_)
      refine wpList_nil ?_
      refine n_then ?_
      refine wp_block ?_
      refine wp_seq ?_
      refine c_cut (fun ac wc => Fr 48 ac [(22, .bool ((!(inB (nthI el (k * 2)) (-100000) 100000)) || (!(inB (nthI el (k * 2 + 1)) (-100000) 100000)))), (0, .agg #[.slice (some ad33) n ecap, .int .i64 mw, .int .i64 md, .int .i64 ms, .int .i64 mt, .int .i64 ck]), (1, .pointer (some ⟨g3, 0, none⟩)), (7, .pointer (some ⟨g3, 0, none⟩)), (8, .slice (some ad33) n ecap), (9, .int .i64 (n : Int)), (10, .int .i64 (cnt_a_r (n : Int))), (4, .int .i64 (cnt_a_r (n : Int))), (11, .int .i64 (cnt_a_r (n : Int))), (12, .bool (decide ((cnt_a_r (n : Int)) ≠ 0))), (14, .pointer (some ⟨g3, 0, none⟩)), (15, .slice (some ad33) n ecap), (16, .int .i64 (n : Int)), (17, .int .i64 (k : Int)), (18, .bool (decide ((k : Int) < (n : Int)))), (19, .int .i64 (k : Int)), (20, .pointer (some (ad33.add (k * 2)))), (21, .agg #[.int .i64 (nthI el (k * 2)), .int .i64 (nthI el (k * 2 + 1))]), (6, .pointer (some ⟨g38, 0, none⟩)), (5, .int .i64 (k : Int))] ∧ St w0 [⟨g38, 28, #[.int .i64 (nthI el (k * 2)), .int .i64 (nthI el (k * 2 + 1))], true⟩, ⟨g3, 26, #[.slice (some ad33) n ecap, .int .i64 mw, .int .i64 md, .int .i64 ms, .int .i64 mt, .int .i64 ck], true⟩] [] wc) ?_ ?_
      · refine wp_region_lit ?_
        refine s_one (.pointer (some ⟨g38, 0, none⟩)) A39 S41 (g_field (u := .pointer (some ⟨g38, 0, none⟩)) (by kernel_rfl) (fun _ => by kernel_rfl)) rfl (fun ac A43 => ?_)
        refine s_one (.int .i64 (nthI el (k * 2))) A43 S41 (g_load (g := g38) (off := 0) 0 (by kernel_rfl) rfl (by kernel_rfl)) rfl (fun ac A44 => ?_)
        refine s_call (fs := #[]) (cp := #[]) (r := [(0, .int .i64 (nthI el (k * 2))), (0, .int .i64 100000)]) #[.int .i64 (nthI el (k * 2)), .int .i64 100000] (.bool (inB (nthI el (k * 2)) (-100000) 100000)) A44 S41 (lsmall_s (nthI el (k * 2)) 100000 _ (by omega) (by omega)) Try.call29 (by kernel_rfl) (by kernel_rfl) (by kernel_rfl) rfl (fun ac wc A45 S46 => ?_)
        refine s_one (.bool (!(inB (nthI el (k * 2)) (-100000) 100000))) A45 S46 (g_un (u := .bool (inB (nthI el (k * 2)) (-100000) 100000)) (by kernel_rfl) (fun _ => by kernel_rfl)) rfl (fun ac A48 => ?_)
        refine s_one (.bool (!(inB (nthI el (k * 2)) (-100000) 100000))) A48 S46 (g_move (by kernel_rfl)) rfl (fun ac A49 => ?_)
        refine by_bool (!(inB (nthI el (k * 2)) (-100000) 100000)) (fun h50 => ?_) (fun h50 => ?_)
        · have h51 : inB (nthI el (k * 2)) (-100000) 100000 = false := by simpa using h50
          refine s_not (dj := 27) (b := (!(inB (nthI el (k * 2)) (-100000) 100000))) A49 (by kernel_rfl) (by kernel_rfl) h50 rfl (fun ac A52 => ?_)
          refine s_not (dj := 27) (b := (!(inB (nthI el (k * 2)) (-100000) 100000))) A52 (by kernel_rfl) (by kernel_rfl) h50 rfl (fun ac A53 => ?_)
          refine s_not (dj := 27) (b := (!(inB (nthI el (k * 2)) (-100000) 100000))) A53 (by kernel_rfl) (by kernel_rfl) h50 rfl (fun ac A54 => ?_)
          refine s_not (dj := 27) (b := (!(inB (nthI el (k * 2)) (-100000) 100000))) A54 (by kernel_rfl) (by kernel_rfl) h50 rfl (fun ac A55 => ?_)
          refine s_one (.bool true) A55 S46 (g_pick_t (b := (!(inB (nthI el (k * 2)) (-100000) 100000))) (by kernel_rfl) h50 (by kernel_rfl)) rfl (fun ac A56 => ?_)
          refine s_one (.bool true) A56 S46 (g_assign (by kernel_rfl)) rfl (fun ac A57 => ?_)
          refine wpList_nil ?_
          refine n_then ?_
          exact ⟨(A57.slot (A57.slot (A57.slot (A57.slot (A57.slot (A57.slot (A57.slot (A57.slot (A57.slot (A57.slot (A57.slot (A57.slot (A57.slot (A57.slot (A57.slot (A57.slot (A57.slot (A57.slot (A57.slot (A57.slot A57.nil (v := .int .i64 (k : Int)) (by kernel_rfl) rfl) (v := .pointer (some ⟨g38, 0, none⟩)) (by kernel_rfl) rfl) (v := .agg #[.int .i64 (nthI el (k * 2)), .int .i64 (nthI el (k * 2 + 1))]) (by kernel_rfl) rfl) (v := .pointer (some (ad33.add (k * 2)))) (by kernel_rfl) rfl) (v := .int .i64 (k : Int)) (by kernel_rfl) rfl) (v := .bool (decide ((k : Int) < (n : Int)))) (by kernel_rfl) rfl) (v := .int .i64 (k : Int)) (by kernel_rfl) rfl) (v := .int .i64 (n : Int)) (by kernel_rfl) rfl) (v := .slice (some ad33) n ecap) (by kernel_rfl) rfl) (v := .pointer (some ⟨g3, 0, none⟩)) (by kernel_rfl) rfl) (v := .bool (decide ((cnt_a_r (n : Int)) ≠ 0))) (by kernel_rfl) rfl) (v := .int .i64 (cnt_a_r (n : Int))) (by kernel_rfl) rfl) (v := .int .i64 (cnt_a_r (n : Int))) (by kernel_rfl) rfl) (v := .int .i64 (cnt_a_r (n : Int))) (by kernel_rfl) rfl) (v := .int .i64 (n : Int)) (by kernel_rfl) rfl) (v := .slice (some ad33) n ecap) (by kernel_rfl) rfl) (v := .pointer (some ⟨g3, 0, none⟩)) (by kernel_rfl) rfl) (v := .pointer (some ⟨g3, 0, none⟩)) (by kernel_rfl) rfl) (v := .agg #[.slice (some ad33) n ecap, .int .i64 mw, .int .i64 md, .int .i64 ms, .int .i64 mt, .int .i64 ck]) (by kernel_rfl) rfl) (v := .bool true) (by kernel_rfl) (congrArg Value.bool (b_ot1 h50).symm)), S46.sub sub_all sub_all⟩
        · have h58 : inB (nthI el (k * 2)) (-100000) 100000 = true := by simpa using h50
          refine s_want (dj := 27) (b := (!(inB (nthI el (k * 2)) (-100000) 100000))) A49 (by kernel_rfl) (by kernel_rfl) h50 ?_
          refine s_one (.pointer (some ⟨g38, 1, none⟩)) A49 S46 (g_field (u := .pointer (some ⟨g38, 0, none⟩)) (by kernel_rfl) (fun _ => by kernel_rfl)) rfl (fun ac A59 => ?_)
          refine s_want (dj := 27) (b := (!(inB (nthI el (k * 2)) (-100000) 100000))) A59 (by kernel_rfl) (by kernel_rfl) h50 ?_
          refine s_one (.int .i64 (nthI el (k * 2 + 1))) A59 S46 (g_load (g := g38) (off := 1) 0 (by kernel_rfl) rfl (by kernel_rfl)) rfl (fun ac A60 => ?_)
          refine s_want (dj := 27) (b := (!(inB (nthI el (k * 2)) (-100000) 100000))) A60 (by kernel_rfl) (by kernel_rfl) h50 ?_
          refine s_call (fs := #[]) (cp := #[]) (r := [(0, .int .i64 (nthI el (k * 2 + 1))), (0, .int .i64 100000)]) #[.int .i64 (nthI el (k * 2 + 1)), .int .i64 100000] (.bool (inB (nthI el (k * 2 + 1)) (-100000) 100000)) A60 S46 (lsmall_s (nthI el (k * 2 + 1)) 100000 _ (by omega) (by omega)) Try.call29 (by kernel_rfl) (by kernel_rfl) (by kernel_rfl) rfl (fun ac wc A61 S62 => ?_)
          refine s_want (dj := 27) (b := (!(inB (nthI el (k * 2)) (-100000) 100000))) A61 (by kernel_rfl) (by kernel_rfl) h50 ?_
          refine s_one (.bool (!(inB (nthI el (k * 2 + 1)) (-100000) 100000))) A61 S62 (g_un (u := .bool (inB (nthI el (k * 2 + 1)) (-100000) 100000)) (by kernel_rfl) (fun _ => by kernel_rfl)) rfl (fun ac A64 => ?_)
          refine s_one (.bool (!(inB (nthI el (k * 2 + 1)) (-100000) 100000))) A64 S62 (g_pick_f (b := (!(inB (nthI el (k * 2)) (-100000) 100000))) (by kernel_rfl) h50 (by kernel_rfl)) rfl (fun ac A65 => ?_)
          refine s_one (.bool (!(inB (nthI el (k * 2 + 1)) (-100000) 100000))) A65 S62 (g_assign (by kernel_rfl)) rfl (fun ac A66 => ?_)
          refine wpList_nil ?_
          refine n_then ?_
          exact ⟨(A66.slot (A66.slot (A66.slot (A66.slot (A66.slot (A66.slot (A66.slot (A66.slot (A66.slot (A66.slot (A66.slot (A66.slot (A66.slot (A66.slot (A66.slot (A66.slot (A66.slot (A66.slot (A66.slot (A66.slot A66.nil (v := .int .i64 (k : Int)) (by kernel_rfl) rfl) (v := .pointer (some ⟨g38, 0, none⟩)) (by kernel_rfl) rfl) (v := .agg #[.int .i64 (nthI el (k * 2)), .int .i64 (nthI el (k * 2 + 1))]) (by kernel_rfl) rfl) (v := .pointer (some (ad33.add (k * 2)))) (by kernel_rfl) rfl) (v := .int .i64 (k : Int)) (by kernel_rfl) rfl) (v := .bool (decide ((k : Int) < (n : Int)))) (by kernel_rfl) rfl) (v := .int .i64 (k : Int)) (by kernel_rfl) rfl) (v := .int .i64 (n : Int)) (by kernel_rfl) rfl) (v := .slice (some ad33) n ecap) (by kernel_rfl) rfl) (v := .pointer (some ⟨g3, 0, none⟩)) (by kernel_rfl) rfl) (v := .bool (decide ((cnt_a_r (n : Int)) ≠ 0))) (by kernel_rfl) rfl) (v := .int .i64 (cnt_a_r (n : Int))) (by kernel_rfl) rfl) (v := .int .i64 (cnt_a_r (n : Int))) (by kernel_rfl) rfl) (v := .int .i64 (cnt_a_r (n : Int))) (by kernel_rfl) rfl) (v := .int .i64 (n : Int)) (by kernel_rfl) rfl) (v := .slice (some ad33) n ecap) (by kernel_rfl) rfl) (v := .pointer (some ⟨g3, 0, none⟩)) (by kernel_rfl) rfl) (v := .pointer (some ⟨g3, 0, none⟩)) (by kernel_rfl) rfl) (v := .agg #[.slice (some ad33) n ecap, .int .i64 mw, .int .i64 md, .int .i64 ms, .int .i64 mt, .int .i64 ck]) (by kernel_rfl) rfl) (v := .bool (!(inB (nthI el (k * 2 + 1)) (-100000) 100000))) (by kernel_rfl) (congrArg Value.bool (b_or_f h50 (Eq.refl (!(inB (nthI el (k * 2 + 1)) (-100000) 100000)))).symm)), S62.sub sub_all sub_all⟩
      · rintro ac wc ⟨A67, S68⟩
        refine n_then ?_
        refine c_ifb (b := ((!(inB (nthI el (k * 2)) (-100000) 100000)) || (!(inB (nthI el (k * 2 + 1)) (-100000) 100000)))) A67 (by kernel_rfl) (fun h69 => ?_) (fun h69 => ?_)
        · have hz : elE el k = 2 := by unfold elE; rw [show ((!(inB (nthI el (k * 2)) (-100000) 100000)) || (!(inB (nthI el (k * 2 + 1)) (-100000) 100000))) = true from h69]; rfl
          refine wp_seq ?_
          refine wp_region_lit ?_
          refine s_one (.int .i64 (k : Int)) A67 S68 (g_move (by kernel_rfl)) rfl (fun ac A70 => ?_)
          refine s_one (.int .i64 (k : Int)) A70 S68 (g_assign (by kernel_rfl)) rfl (fun ac A71 => ?_)
          refine s_one (.int .i64 2) A71 S68 (g_assign (by kernel_rfl)) rfl (fun ac A72 => ?_)
          refine wpList_nil ?_
          refine n_then ?_
          refine wp_ret ?_
          refine r_block ?_
          refine r_block ?_
          refine r_then ?_
          refine r_then ?_
          refine r_block ?_
          refine r_then ?_
          refine fin2 (.int .i64 (k : Int)) (.int .i64 2) Try.results28 A72 S68 (rv_tmp (by kernel_rfl)) (rv_tmp (by kernel_rfl)) ⟨?_, S68.kp⟩
          have q3 := ar_2 (mw := mw) (md := md) (ms := ms) (mt := mt) (ck := ck) hc ha hz (by decide) (show k < n by omega)
          rw [q3.1, q3.2]
        · have h73 := (Bool.or_eq_false_iff.1 h69).1
          have h74 : inB (nthI el (k * 2)) (-100000) 100000 = true := by simpa using h73
          have h75 := (Bool.or_eq_false_iff.1 h69).2
          have h76 : inB (nthI el (k * 2 + 1)) (-100000) 100000 = true := by simpa using h75
          have hq := h69
          refine wp_seq ?_
          refine wp_region_lit ?_
          refine s_one (.pointer (some ⟨g38, 1, none⟩)) A67 S68 (g_field (u := .pointer (some ⟨g38, 0, none⟩)) (by kernel_rfl) (fun _ => by kernel_rfl)) rfl (fun ac A77 => ?_)
          refine s_one (.int .i64 (nthI el (k * 2 + 1))) A77 S68 (g_load (g := g38) (off := 1) 0 (by kernel_rfl) rfl (by kernel_rfl)) rfl (fun ac A78 => ?_)
          refine s_one (.bool (decide (nthI el (k * 2 + 1) ≥ 0))) A78 S68 (g_bin (u := .int .i64 (nthI el (k * 2 + 1))) (k := .int .i64 0) (by kernel_rfl) (by kernel_rfl) (fun _ => by kernel_rfl) (fun _ => by kernel_rfl)) rfl (fun ac A79 => ?_)
          refine s_one (.bool (decide (nthI el (k * 2 + 1) ≥ 0))) A79 S68 (g_assign (by kernel_rfl)) rfl (fun ac A80 => ?_)
          refine wpList_nil ?_
          refine n_then ?_
          refine c_ifb (b := (decide (nthI el (k * 2 + 1) ≥ 0))) A80 (by kernel_rfl) (fun h81 => ?_) (fun h81 => ?_)
          · have p82 := of_decide_eq_true h81
            have hz : elE el k = 15 := by unfold elE; rw [hq, cond_false, if_pos (of_decide_eq_true h81)]
            refine wp_seq ?_
            refine wp_region_lit ?_
            refine s_one (.int .i64 (k : Int)) A80 S68 (g_move (by kernel_rfl)) rfl (fun ac A83 => ?_)
            refine s_one (.int .i64 (k : Int)) A83 S68 (g_assign (by kernel_rfl)) rfl (fun ac A84 => ?_)
            refine s_one (.int .i64 15) A84 S68 (g_assign (by kernel_rfl)) rfl (fun ac A85 => ?_)
            refine wpList_nil ?_
            refine n_then ?_
            refine wp_ret ?_
            refine r_block ?_
            refine r_block ?_
            refine r_then ?_
            refine r_then ?_
            refine r_block ?_
            refine r_then ?_
            refine fin2 (.int .i64 (k : Int)) (.int .i64 15) Try.results28 A85 S68 (rv_tmp (by kernel_rfl)) (rv_tmp (by kernel_rfl)) ⟨?_, S68.kp⟩
            have q3 := ar_2 (mw := mw) (md := md) (ms := ms) (mt := mt) (ck := ck) hc ha hz (by decide) (show k < n by omega)
            rw [q3.1, q3.2]
          · have p86 := of_decide_eq_false h81
            have hz : elE el k = 0 := by unfold elE; rw [hq, cond_false, if_neg (of_decide_eq_false h81)]
            refine wp_skip ?_
            refine n_block ?_
            refine n_block ?_
            refine n_then ?_
            refine wp_region_lit ?_
            refine s_one (.int .i64 ((k : Int) + 1)) A80 S68 (g_bin (u := .int .i64 (k : Int)) (k := .int .i64 1) (by kernel_rfl) (by kernel_rfl) (fun _ => by kernel_rfl) (b_add (by omega))) rfl (fun ac A87 => ?_)
            refine s_one (.int .i64 ((k : Int) + 1)) A87 S68 (g_move (by kernel_rfl)) rfl (fun ac A88 => ?_)
            refine wpList_nil ?_
            refine n_then ?_
            refine ⟨_, ⟨k + 1, rfl, (by omega), (all_step ha hz), (A88.slot (A88.slot (A88.slot (A88.slot (A88.slot (A88.slot (A88.slot (A88.slot (A88.slot (A88.slot (A88.slot (A88.slot (A88.slot A88.nil (v := .int .i64 ((k : Int) + 1)) (by kernel_rfl) (congrArg (Value.int .i64) (by omega))) (v := .int .i64 (n : Int)) (by kernel_rfl) rfl) (v := .slice (some ad33) n ecap) (by kernel_rfl) (by first | rfl | simp)) (v := .pointer (some ⟨g3, 0, none⟩)) (by kernel_rfl) rfl) (v := .bool (decide ((cnt_a_r (n : Int)) ≠ 0))) (by kernel_rfl) rfl) (v := .int .i64 (cnt_a_r (n : Int))) (by kernel_rfl) rfl) (v := .int .i64 (cnt_a_r (n : Int))) (by kernel_rfl) rfl) (v := .int .i64 (cnt_a_r (n : Int))) (by kernel_rfl) rfl) (v := .int .i64 (n : Int)) (by kernel_rfl) rfl) (v := .slice (some ad33) n ecap) (by kernel_rfl) (by first | rfl | simp)) (v := .pointer (some ⟨g3, 0, none⟩)) (by kernel_rfl) rfl) (v := .pointer (some ⟨g3, 0, none⟩)) (by kernel_rfl) rfl) (v := .agg #[.slice (some ad33) n ecap, .int .i64 mw, .int .i64 md, .int .i64 ms, .int .i64 mt, .int .i64 ck]) (by kernel_rfl) (by first | rfl | simp)), (St.recell 1 S68 rfl (by rfl)).sub (sub_skip sub_all) sub_all⟩, ?_⟩
            omega
    · have p89 := of_decide_eq_false h30
      refine wp_exit ?_
      refine x_then ?_
      refine x_then ?_
      refine x_hit ?_
      refine n_then ?_
      refine wp_seq ?_
      refine r_begin (w0 := w0) (by kernel_rfl) (S27.sub sub_all sub_all) (fun wc T90 B91 => ?_)
      have S92 := S27.kept B91
      refine r_take 0 (.pointer (some ⟨g3, 1, none⟩)) A29 T90 (g_field (u := .pointer (some ⟨g3, 0, none⟩)) (by kernel_rfl) (fun _ => by kernel_rfl)) rfl rfl rfl (pf_then pf_body) (by kernel_rfl) (fun ac A93 => ?_)
      refine r_take 1 (.agg #[.int .i64 mw, .int .i64 md, .int .i64 ms, .int .i64 mt]) A93 T90 (g_load (g := g3) (off := 1) 0 (by kernel_rfl) rfl (by kernel_rfl)) rfl rfl rfl (pf_then pf_body) (by kernel_rfl) (fun ac A94 => ?_)
      refine r_take 3 (.pointer (some ⟨g3, 5, none⟩)) A94 T90 (g_field (u := .pointer (some ⟨g3, 0, none⟩)) (by kernel_rfl) (fun _ => by kernel_rfl)) rfl rfl rfl (pf_then pf_body) (by kernel_rfl) (fun ac A95 => ?_)
      refine r_take 4 (.int .i64 ck) A95 T90 (g_load (g := g3) (off := 5) 0 (by kernel_rfl) rfl (by kernel_rfl)) rfl rfl rfl (pf_then pf_body) (by kernel_rfl) (fun ac A96 => ?_)
      refine r_1 (i := 2) (by kernel_rfl) ?_
      refine rs_call (fs := #[]) (cp := #[]) (r := [(0, .agg #[.int .i64 mw, .int .i64 md, .int .i64 ms, .int .i64 mt])]) #[.agg #[.int .i64 mw, .int .i64 md, .int .i64 ms, .int .i64 mt]] (.int .i64 (mdE mw md ms mt)) A96 S92 sub_all sub_all (CheckMode_s mw md ms mt _) Try.call43 rfl rfl (by kernel_rfl) (by kernel_rfl) (by kernel_rfl) rfl (fun ac wc A97 S98 => ?_)
      have T100 := S98.sub sub_all sub_all
      refine r_1 (i := 5) (by kernel_rfl) ?_
      refine rs_call (fs := #[]) (cp := #[]) (r := [(0, .int .i64 ck)]) #[.int .i64 ck] (.int .i64 (clk_a_r ck)) A97 S98 sub_all sub_all (clk_a ck _) Try.call24 rfl rfl (by kernel_rfl) (by kernel_rfl) (by kernel_rfl) rfl (fun ac wc A101 S102 => ?_)
      have T104 := S102.sub sub_all sub_all
      refine r_1 (i := 6) (by kernel_rfl) ?_
      refine rs_bs (e := 33) (r := [(0, .int .i64 (mdE mw md ms mt)), (1, .int .i64 (clk_a_r ck))]) (#[.int .i64 (mdE mw md ms mt), .int .i64 (clk_a_r ck)]) A101 S102 sub_all sub_all (by kernel_rfl) (by kernel_rfl) rfl rfl rfl (fun g107 ac wc A105 S106 => ?_)
      have T108 := S106.sub (sub_skip sub_all) sub_all
      refine r_1 (i := 7) (by kernel_rfl) ?_
      refine rs_call (fs := #[]) (cp := #[]) (r := [(0, .slice (some ⟨g107, 0, none⟩) 2 2)]) #[.slice (some ⟨g107, 0, none⟩) 2 2] (.int .i64 (firstOf [mdE mw md ms mt, (clk_a_r ck)])) A105 S106 (sub_skip sub_all) sub_all (lfirst_s g107 ([mdE mw md ms mt, (clk_a_r ck)]) 2 2 _ (S106.get 0 rfl) rfl (by omega)) Try.call22 rfl rfl (by kernel_rfl) (by kernel_rfl) (by kernel_rfl) rfl (fun ac wc A109 S110 => ?_)
      have T112 := S110.sub (sub_skip sub_all) sub_all
      refine r_take 8 (.int .i64 0) A109 T112 (g_assign (by kernel_rfl)) rfl rfl rfl (pf_then pf_body) (by kernel_rfl) (fun ac A113 => ?_)
      refine r_take 9 (.int .i64 (firstOf [mdE mw md ms mt, (clk_a_r ck)])) A113 T112 (g_assign (by kernel_rfl)) rfl rfl rfl (pf_then pf_body) (by kernel_rfl) (fun ac A114 => ?_)
      refine r_done (by kernel_rfl) ?_
      refine n_then ?_
      refine wp_ret ?_
      refine fin2 (.int .i64 0) (.int .i64 (firstOf [mdE mw md ms mt, (clk_a_r ck)])) Try.results28 A114 S110 (rv_tmp (by kernel_rfl)) (rv_tmp (by kernel_rfl)) ⟨?_, S110.kp⟩
      obtain rfl : k = n := by omega
      have q3 := ar_3 (mw := mw) (md := md) (ms := ms) (mt := mt) (ck := ck) hc ha
      rw [q3.1, q3.2]

set_option maxRecDepth 100000 in
set_option maxHeartbeats 400000 in
theorem arrayErr_s (EA : Option Addr) (n ecap : Nat) (el : List Int) (mw md ms mt ck : Int) (w0 : World) (hne : el.length = n * 2) (hre : IReads w0 EA el) (hn1 : n ≤ 1000) :
    Calls Try.prog 14 #[.agg #[.slice EA n ecap, .int .i64 mw, .int .i64 md, .int .i64 ms, .int .i64 mt, .int .i64 ck]] w0 fun e w' => e = .returned (.int .i64 (arE el n mw md ms mt ck)) ∧ Below w0.heap.size w0 w' := by
  have S0 := St.start w0
  refine enter (n := 11) Try.func14 rfl rfl rfl (fun ac A0 => ?_)
  refine wp_seq ?_
  refine wp_region_lit ?_
  refine s_box (.agg #[.slice EA n ecap, .int .i64 mw, .int .i64 md, .int .i64 ms, .int .i64 mt, .int .i64 ck]) A0 S0 (by kernel_rfl) rfl (fun g3 ac wc A1 S2 => ?_)
  replace S2 : St _ (⟨g3, 26, #[.slice EA n ecap, .int .i64 mw, .int .i64 md, .int .i64 ms, .int .i64 mt, .int .i64 ck], true⟩ :: _) _ _ := S2
  refine s_one (.int .i64 0) A1 S2 (g_assign (by kernel_rfl)) rfl (fun ac A5 => ?_)
  refine wpList_nil ?_
  refine n_then ?_
  refine wp_seq ?_
  refine wp_region_lit ?_
  refine s_one (.agg #[.slice EA n ecap, .int .i64 mw, .int .i64 md, .int .i64 ms, .int .i64 mt, .int .i64 ck]) A5 S2 (g_load (g := g3) (off := 0) 0 (by kernel_rfl) rfl (by kernel_rfl)) rfl (fun ac A6 => ?_)
  refine s_call (fs := #[]) (cp := #[]) (r := [(0, .agg #[.slice EA n ecap, .int .i64 mw, .int .i64 md, .int .i64 ms, .int .i64 mt, .int .i64 ck])]) #[.agg #[.slice EA n ecap, .int .i64 mw, .int .i64 md, .int .i64 ms, .int .i64 mt, .int .i64 ck]] (.tuple #[.int .i64 (arI el n), .int .i64 (arE el n mw md ms mt ck)]) A6 S2 (CheckArray_s EA n ecap el mw md ms mt ck _ (by have hlen := hne; omega) (hre.kept S2.kp) (by omega)) Try.call28 (by kernel_rfl) (by kernel_rfl) (by kernel_rfl) rfl (fun ac wc A7 S8 => ?_)
  refine s_one (.tuple #[.int .i64 (arI el n), .int .i64 (arE el n mw md ms mt ck)]) A7 S8 (g_move (by kernel_rfl)) rfl (fun ac A10 => ?_)
  refine s_one (.int .i64 (arI el n)) A10 S8 (g_extract (u := .tuple #[.int .i64 (arI el n), .int .i64 (arE el n mw md ms mt ck)]) (by kernel_rfl) (fun _ => by kernel_rfl)) rfl (fun ac A11 => ?_)
  refine s_one (.int .i64 (arE el n mw md ms mt ck)) A11 S8 (g_extract (u := .tuple #[.int .i64 (arI el n), .int .i64 (arE el n mw md ms mt ck)]) (by kernel_rfl) (fun _ => by kernel_rfl)) rfl (fun ac A12 => ?_)
  refine s_one (.int .i64 (arI el n)) A12 S8 (g_assign (by kernel_rfl)) rfl (fun ac A13 => ?_)
  refine s_one (.int .i64 (arE el n mw md ms mt ck)) A13 S8 (g_assign (by kernel_rfl)) rfl (fun ac A14 => ?_)
  refine wpList_nil ?_
  refine n_then ?_
  refine wp_seq ?_
  refine wp_region_lit ?_
  refine s_one (.int .i64 (arE el n mw md ms mt ck)) A14 S8 (g_move (by kernel_rfl)) rfl (fun ac A15 => ?_)
  refine s_one (.int .i64 (arE el n mw md ms mt ck)) A15 S8 (g_assign (by kernel_rfl)) rfl (fun ac A16 => ?_)
  refine wpList_nil ?_
  refine n_then ?_
  refine wp_ret ?_
  refine fin1 (.int .i64 (arE el n mw md ms mt ck)) Try.results14 A16 S8 (rv_tmp (by kernel_rfl)) ⟨?_, S8.kp⟩
  rfl

set_option maxRecDepth 100000 in
set_option maxHeartbeats 400000 in
theorem CheckLaw_s (TA : Option Addr) (m tcap : Nat) (tl : List Int) (lc : Int) (w0 : World) (hnt : tl.length = m * 1) (hrt : IReads w0 TA tl) (hm1 : m ≤ 1000) :
    Calls Try.prog 38 #[.agg #[.int .i64 lc, .slice TA m tcap]] w0 fun e w' => e = .returned (.tuple #[.int .i64 (lwI tl m lc), .int .i64 (lwE tl m lc)]) ∧ Below w0.heap.size w0 w' := by
  have S0 := St.start w0
  refine enter (n := 32) Try.func38 rfl rfl rfl (fun ac A0 => ?_)
  refine wp_seq ?_
  refine wp_region_lit ?_
  refine s_box (.agg #[.int .i64 lc, .slice TA m tcap]) A0 S0 (by kernel_rfl) rfl (fun g3 ac wc A1 S2 => ?_)
  replace S2 : St _ (⟨g3, 32, #[.int .i64 lc, .slice TA m tcap], true⟩ :: _) _ _ := S2
  refine s_one (.int .i64 0) A1 S2 (g_assign (by kernel_rfl)) rfl (fun ac A5 => ?_)
  refine s_one (.int .i64 0) A5 S2 (g_assign (by kernel_rfl)) rfl (fun ac A6 => ?_)
  refine wpList_nil ?_
  refine n_then ?_
  refine wp_seq ?_
  refine wp_seq ?_
  refine r_begin (w0 := w0) (by kernel_rfl) (S2.sub sub_all sub_all) (fun wc T7 B8 => ?_)
  have S9 := S2.kept B8
  refine r_take 0 (.pointer (some ⟨g3, 0, none⟩)) A6 T7 (g_field (u := .pointer (some ⟨g3, 0, none⟩)) (by kernel_rfl) (fun _ => by kernel_rfl)) rfl rfl rfl (pf_then (pf_then pf_body)) (by kernel_rfl) (fun ac A10 => ?_)
  refine r_take 1 (.int .i64 lc) A10 T7 (g_load (g := g3) (off := 0) 0 (by kernel_rfl) rfl (by kernel_rfl)) rfl rfl rfl (pf_then (pf_then pf_body)) (by kernel_rfl) (fun ac A11 => ?_)
  refine r_take 3 (.pointer (some ⟨g3, 1, none⟩)) A11 T7 (g_field (u := .pointer (some ⟨g3, 0, none⟩)) (by kernel_rfl) (fun _ => by kernel_rfl)) rfl rfl rfl (pf_then (pf_then pf_body)) (by kernel_rfl) (fun ac A12 => ?_)
  refine r_take 4 (.slice TA m tcap) A12 T7 (g_load (g := g3) (off := 1) 0 (by kernel_rfl) rfl (by kernel_rfl)) rfl rfl rfl (pf_then (pf_then pf_body)) (by kernel_rfl) (fun ac A13 => ?_)
  refine r_take 5 (.int .i64 (m : Int)) A13 T7 (g_built (r := [(0, .slice TA m tcap)]) (by kernel_rfl) (fun _ _ _ => by kernel_rfl)) rfl rfl rfl (pf_then (pf_then pf_body)) (by kernel_rfl) (fun ac A14 => ?_)
  refine r_1 (i := 2) (by kernel_rfl) ?_
  refine rs_call (fs := #[]) (cp := #[]) (r := [(0, .int .i64 lc)]) #[.int .i64 lc] (.int .i64 (clk_a_r lc)) A14 S9 sub_all sub_all (clk_a lc _) Try.call24 rfl rfl (by kernel_rfl) (by kernel_rfl) (by kernel_rfl) rfl (fun ac wc A15 S16 => ?_)
  have T18 := S16.sub sub_all sub_all
  refine r_1 (i := 6) (by kernel_rfl) ?_
  refine rs_call (fs := #[]) (cp := #[]) (r := [(0, .int .i64 (m : Int))]) #[.int .i64 (m : Int)] (.int .i64 (cnt_a_r (m : Int))) A15 S16 sub_all sub_all (cnt_a (m : Int) _) Try.call42 rfl rfl (by kernel_rfl) (by kernel_rfl) (by kernel_rfl) rfl (fun ac wc A19 S20 => ?_)
  have T22 := S20.sub sub_all sub_all
  refine r_1 (i := 7) (by kernel_rfl) ?_
  refine rs_bs (e := 33) (r := [(0, .int .i64 (clk_a_r lc)), (1, .int .i64 (cnt_a_r (m : Int)))]) (#[.int .i64 (clk_a_r lc), .int .i64 (cnt_a_r (m : Int))]) A19 S20 sub_all sub_all (by kernel_rfl) (by kernel_rfl) rfl rfl rfl (fun g25 ac wc A23 S24 => ?_)
  have T26 := S24.sub (sub_skip sub_all) sub_all
  refine r_1 (i := 8) (by kernel_rfl) ?_
  refine rs_call (fs := #[]) (cp := #[]) (r := [(0, .slice (some ⟨g25, 0, none⟩) 2 2)]) #[.slice (some ⟨g25, 0, none⟩) 2 2] (.int .i64 (firstOf [(clk_a_r lc), (cnt_a_r (m : Int))])) A23 S24 (sub_skip sub_all) sub_all (lfirst_s g25 ([(clk_a_r lc), (cnt_a_r (m : Int))]) 2 2 _ (S24.get 0 rfl) rfl (by omega)) Try.call22 rfl rfl (by kernel_rfl) (by kernel_rfl) (by kernel_rfl) rfl (fun ac wc A27 S28 => ?_)
  have T30 := S28.sub (sub_skip sub_all) sub_all
  refine r_take 9 (.int .i64 (firstOf [(clk_a_r lc), (cnt_a_r (m : Int))])) A27 T30 (g_assign (by kernel_rfl)) rfl rfl rfl (pf_then (pf_then pf_body)) (by kernel_rfl) (fun ac A31 => ?_)
  refine r_done (by kernel_rfl) ?_
  refine n_then ?_
  refine wp_seq ?_
  refine wp_region_lit ?_
  refine s_one (.int .i64 (firstOf [(clk_a_r lc), (cnt_a_r (m : Int))])) A31 S28 (g_move (by kernel_rfl)) rfl (fun ac A32 => ?_)
  refine s_one (.bool (decide (firstOf [(clk_a_r lc), (cnt_a_r (m : Int))] ≠ 0))) A32 S28 (g_bin (u := .int .i64 (firstOf [(clk_a_r lc), (cnt_a_r (m : Int))])) (k := .int .i64 0) (by kernel_rfl) (by kernel_rfl) (fun _ => by kernel_rfl) b_neq) rfl (fun ac A33 => ?_)
  refine wpList_nil ?_
  refine n_then ?_
  refine c_ifb (b := (decide (firstOf [(clk_a_r lc), (cnt_a_r (m : Int))] ≠ 0))) A33 (by kernel_rfl) (fun h34 => ?_) (fun h34 => ?_)
  · have p35 := of_decide_eq_true h34
    have hc : firstOf [clk_a_r lc, cnt_a_r (m : Int)] ≠ 0 := of_decide_eq_true h34
    refine wp_seq ?_
    refine wp_region_lit ?_
    refine s_one (.int .i64 (firstOf [(clk_a_r lc), (cnt_a_r (m : Int))])) A33 S28 (g_move (by kernel_rfl)) rfl (fun ac A36 => ?_)
    refine s_one (.int .i64 0) A36 S28 (g_assign (by kernel_rfl)) rfl (fun ac A37 => ?_)
    refine s_one (.int .i64 (firstOf [(clk_a_r lc), (cnt_a_r (m : Int))])) A37 S28 (g_assign (by kernel_rfl)) rfl (fun ac A38 => ?_)
    refine wpList_nil ?_
    refine n_then ?_
    refine wp_ret ?_
    refine r_then ?_
    refine fin2 (.int .i64 0) (.int .i64 (firstOf [(clk_a_r lc), (cnt_a_r (m : Int))])) Try.results38 A38 S28 (rv_tmp (by kernel_rfl)) (rv_tmp (by kernel_rfl)) ⟨?_, S28.kp⟩
    rw [(lw_1 (tl := tl) hc).1, (lw_1 (tl := tl) hc).2]
  · have p39 := of_decide_eq_false h34
    have hc0 : firstOf [(clk_a_r lc), (cnt_a_r (m : Int))] = 0 := by simpa using h34
    have hc : firstOf [clk_a_r lc, cnt_a_r (m : Int)] = 0 := hc0
    refine wp_skip ?_
    refine n_then ?_
    refine wp_seq ?_
    refine wp_seq ?_
    refine wp_region_lit ?_
    refine s_one (.pointer (some ⟨g3, 1, none⟩)) A33 S28 (g_field (u := .pointer (some ⟨g3, 0, none⟩)) (by kernel_rfl) (fun _ => by kernel_rfl)) rfl (fun ac A40 => ?_)
    refine s_one (.slice TA m tcap) A40 S28 (g_load (g := g3) (off := 1) 1 (by kernel_rfl) rfl (by kernel_rfl)) rfl (fun ac A41 => ?_)
    refine s_one (.int .i64 (m : Int)) A41 S28 (g_built (r := [(0, .slice TA m tcap)]) (by kernel_rfl) (fun _ _ _ => by kernel_rfl)) rfl (fun ac A42 => ?_)
    refine s_one (.int .i64 0) A42 S28 (g_move (by kernel_rfl)) rfl (fun ac A43 => ?_)
    refine wpList_nil ?_
    refine n_then ?_
    refine wp_block ?_
    refine c_loopN (fun mm ac wc => ∃ (k : Nat), mm = m - k ∧ (k ≤ m) ∧ (∀ i, i < k → tkE tl i = 0) ∧ Fr 32 ac [(0, .agg #[.int .i64 lc, .slice TA m tcap]), (1, .pointer (some ⟨g3, 0, none⟩)), (7, .pointer (some ⟨g3, 0, none⟩)), (8, .int .i64 lc), (10, .pointer (some ⟨g3, 1, none⟩)), (11, .slice TA m tcap), (12, .int .i64 (m : Int)), (9, .int .i64 (clk_a_r lc)), (13, .int .i64 (cnt_a_r (m : Int))), (14, .slice (some ⟨g25, 0, none⟩) 2 2), (15, .int .i64 (firstOf [(clk_a_r lc), (cnt_a_r (m : Int))])), (4, .int .i64 (firstOf [(clk_a_r lc), (cnt_a_r (m : Int))])), (16, .int .i64 (firstOf [(clk_a_r lc), (cnt_a_r (m : Int))])), (17, .bool (decide (firstOf [(clk_a_r lc), (cnt_a_r (m : Int))] ≠ 0))), (19, .pointer (some ⟨g3, 1, none⟩)), (20, .slice TA m tcap), (21, .int .i64 (m : Int)), (22, .int .i64 (k : Int))] ∧ St w0 [⟨g25, 33, #[.int .i64 (clk_a_r lc), .int .i64 (cnt_a_r (m : Int))], true⟩, ⟨g3, 32, #[.int .i64 lc, .slice TA m tcap], true⟩] [] wc) _ ⟨0, rfl, (by omega), (fun i hi => absurd hi (by omega)), (A43.slot (A43.slot (A43.slot (A43.slot (A43.slot (A43.slot (A43.slot (A43.slot (A43.slot (A43.slot (A43.slot (A43.slot (A43.slot (A43.slot (A43.slot (A43.slot (A43.slot (A43.slot A43.nil (v := .int .i64 0) (by kernel_rfl) (congrArg (Value.int .i64) (by omega))) (v := .int .i64 (m : Int)) (by kernel_rfl) rfl) (v := .slice TA m tcap) (by kernel_rfl) rfl) (v := .pointer (some ⟨g3, 1, none⟩)) (by kernel_rfl) rfl) (v := .bool (decide (firstOf [(clk_a_r lc), (cnt_a_r (m : Int))] ≠ 0))) (by kernel_rfl) rfl) (v := .int .i64 (firstOf [(clk_a_r lc), (cnt_a_r (m : Int))])) (by kernel_rfl) rfl) (v := .int .i64 (firstOf [(clk_a_r lc), (cnt_a_r (m : Int))])) (by kernel_rfl) rfl) (v := .int .i64 (firstOf [(clk_a_r lc), (cnt_a_r (m : Int))])) (by kernel_rfl) rfl) (v := .slice (some ⟨g25, 0, none⟩) 2 2) (by kernel_rfl) rfl) (v := .int .i64 (cnt_a_r (m : Int))) (by kernel_rfl) rfl) (v := .int .i64 (clk_a_r lc)) (by kernel_rfl) rfl) (v := .int .i64 (m : Int)) (by kernel_rfl) rfl) (v := .slice TA m tcap) (by kernel_rfl) rfl) (v := .pointer (some ⟨g3, 1, none⟩)) (by kernel_rfl) rfl) (v := .int .i64 lc) (by kernel_rfl) rfl) (v := .pointer (some ⟨g3, 0, none⟩)) (by kernel_rfl) rfl) (v := .pointer (some ⟨g3, 0, none⟩)) (by kernel_rfl) rfl) (v := .agg #[.int .i64 lc, .slice TA m tcap]) (by kernel_rfl) rfl), S28.sub sub_all sub_all⟩ ?_
    rintro mm ac wc ⟨k, hm46, hk, ha, A44, S45⟩
    refine wp_seq ?_
    refine wp_region_lit ?_
    refine s_one (.bool (decide ((k : Int) < (m : Int)))) A44 S45 (g_bin (u := .int .i64 (k : Int)) (k := .int .i64 (m : Int)) (by kernel_rfl) (by kernel_rfl) (fun _ => by kernel_rfl) (fun _ => by kernel_rfl)) rfl (fun ac A47 => ?_)
    refine wpList_nil ?_
    refine n_then ?_
    refine wp_seq ?_
    refine c_ifb (b := (decide ((k : Int) < (m : Int)))) A47 (by kernel_rfl) (fun h48 => ?_) (fun h48 => ?_)
    · have p49 := of_decide_eq_true h48
      refine wp_skip ?_
      refine n_then ?_
      refine wp_seq ?_
      refine wp_block ?_
      refine wp_seq ?_
      refine wp_region_lit ?_
      refine s_one (.int .i64 (k : Int)) A47 S45 (g_move (by kernel_rfl)) rfl (fun ac A50 => ?_)
      obtain ⟨ad51, rfl, _⟩ := hrt (k) (by have hlen := hnt; omega)
      refine s_one (.pointer (some (ad51.add k))) A50 S45 (g_index (u := .slice (some ad51) m tcap) (k := .int .i64 (k : Int)) (by kernel_rfl) (by kernel_rfl) (ix_x (e := 3) (bytes := 8) k (by kernel_rfl) (by omega) (by omega))) rfl (fun ac A52 => ?_)
      refine s_one (.int .i64 (nthI tl k)) A52 S45 (g_loadXI (l := tl) (k := k) (by kernel_rfl) hrt (by have hlen := hnt; omega) (by kernel_rfl)) rfl (fun ac A53 => ?_)
      refine s_one (.int .i64 (k : Int)) A53 S45 (g_assign (by kernel_rfl)) rfl (fun ac A54 => ?_)
      refine s_one (.int .i64 (nthI tl k)) A54 S45 (g_assign (by kernel_rfl)) rfl (fun ac A55 => ?_)
      refine wpList_nil ?_
      refine n_then ?_
      refine wp_seq ?_
      refine wp_region_lit ?_
      refine s_one (.int .i64 (nthI tl k)) A55 S45 (g_move (by kernel_rfl)) rfl (fun ac A56 => ?_)
      refine s_call (fs := #[]) (cp := #[]) (r := [(0, .int .i64 (nthI tl k)), (0, .int .i64 (-1)), (0, .int .i64 1000000)]) #[.int .i64 (nthI tl k), .int .i64 (-1), .int .i64 1000000] (.bool (inB (nthI tl k) (-1) 1000000)) A56 S45 (lwithin_s (nthI tl k) (-1) 1000000 _) Try.call30 (by kernel_rfl) (by kernel_rfl) (by kernel_rfl) rfl (fun ac wc A57 S58 => ?_)
      refine s_one (.bool (!(inB (nthI tl k) (-1) 1000000))) A57 S58 (g_un (u := .bool (inB (nthI tl k) (-1) 1000000)) (by kernel_rfl) (fun _ => by kernel_rfl)) rfl (fun ac A60 => ?_)
      refine wpList_nil ?_
      refine n_then ?_
      refine c_ifb (b := (!(inB (nthI tl k) (-1) 1000000))) A60 (by kernel_rfl) (fun h61 => ?_) (fun h61 => ?_)
      · have h62 : inB (nthI tl k) (-1) 1000000 = false := by simpa using h61
        have hz : tkE tl k = 2 := by unfold tkE; rw [h62]; rfl
        refine wp_seq ?_
        refine wp_region_lit ?_
        refine s_one (.int .i64 (k : Int)) A60 S58 (g_move (by kernel_rfl)) rfl (fun ac A63 => ?_)
        refine s_one (.int .i64 (k : Int)) A63 S58 (g_assign (by kernel_rfl)) rfl (fun ac A64 => ?_)
        refine s_one (.int .i64 2) A64 S58 (g_assign (by kernel_rfl)) rfl (fun ac A65 => ?_)
        refine wpList_nil ?_
        refine n_then ?_
        refine wp_ret ?_
        refine r_block ?_
        refine r_then ?_
        refine r_then ?_
        refine r_block ?_
        refine r_then ?_
        refine fin2 (.int .i64 (k : Int)) (.int .i64 2) Try.results38 A65 S58 (rv_tmp (by kernel_rfl)) (rv_tmp (by kernel_rfl)) ⟨?_, S58.kp⟩
        have q3 := lw_2 hc ha hz (show k < m by omega)
        rw [q3.1, q3.2]
      · have h66 : inB (nthI tl k) (-1) 1000000 = true := by simpa using h61
        have hz : tkE tl k = 0 := by unfold tkE; rw [h66]; rfl
        refine wp_skip ?_
        refine n_block ?_
        refine n_then ?_
        refine wp_region_lit ?_
        refine s_one (.int .i64 ((k : Int) + 1)) A60 S58 (g_bin (u := .int .i64 (k : Int)) (k := .int .i64 1) (by kernel_rfl) (by kernel_rfl) (fun _ => by kernel_rfl) (b_add (by omega))) rfl (fun ac A67 => ?_)
        refine s_one (.int .i64 ((k : Int) + 1)) A67 S58 (g_move (by kernel_rfl)) rfl (fun ac A68 => ?_)
        refine wpList_nil ?_
        refine n_then ?_
        refine ⟨_, ⟨k + 1, rfl, (by omega), (all_step ha hz), (A68.slot (A68.slot (A68.slot (A68.slot (A68.slot (A68.slot (A68.slot (A68.slot (A68.slot (A68.slot (A68.slot (A68.slot (A68.slot (A68.slot (A68.slot (A68.slot (A68.slot (A68.slot A68.nil (v := .int .i64 ((k : Int) + 1)) (by kernel_rfl) (congrArg (Value.int .i64) (by omega))) (v := .int .i64 (m : Int)) (by kernel_rfl) rfl) (v := .slice (some ad51) m tcap) (by kernel_rfl) (by first | rfl | simp)) (v := .pointer (some ⟨g3, 1, none⟩)) (by kernel_rfl) rfl) (v := .bool (decide (firstOf [(clk_a_r lc), (cnt_a_r (m : Int))] ≠ 0))) (by kernel_rfl) rfl) (v := .int .i64 (firstOf [(clk_a_r lc), (cnt_a_r (m : Int))])) (by kernel_rfl) rfl) (v := .int .i64 (firstOf [(clk_a_r lc), (cnt_a_r (m : Int))])) (by kernel_rfl) rfl) (v := .int .i64 (firstOf [(clk_a_r lc), (cnt_a_r (m : Int))])) (by kernel_rfl) rfl) (v := .slice (some ⟨g25, 0, none⟩) 2 2) (by kernel_rfl) rfl) (v := .int .i64 (cnt_a_r (m : Int))) (by kernel_rfl) rfl) (v := .int .i64 (clk_a_r lc)) (by kernel_rfl) rfl) (v := .int .i64 (m : Int)) (by kernel_rfl) rfl) (v := .slice (some ad51) m tcap) (by kernel_rfl) (by first | rfl | simp)) (v := .pointer (some ⟨g3, 1, none⟩)) (by kernel_rfl) rfl) (v := .int .i64 lc) (by kernel_rfl) rfl) (v := .pointer (some ⟨g3, 0, none⟩)) (by kernel_rfl) rfl) (v := .pointer (some ⟨g3, 0, none⟩)) (by kernel_rfl) rfl) (v := .agg #[.int .i64 lc, .slice (some ad51) m tcap]) (by kernel_rfl) (by first | rfl | simp)), (St.recell 1 S58 rfl (by rfl)).sub sub_all sub_all⟩, ?_⟩
        omega
    · have p69 := of_decide_eq_false h48
      refine wp_exit ?_
      refine x_then ?_
      refine x_then ?_
      refine x_hit ?_
      refine n_then ?_
      refine wp_seq ?_
      refine wp_region_lit ?_
      refine s_one (.int .i64 0) A47 S45 (g_assign (by kernel_rfl)) rfl (fun ac A70 => ?_)
      refine s_one (.int .i64 0) A70 S45 (g_assign (by kernel_rfl)) rfl (fun ac A71 => ?_)
      refine wpList_nil ?_
      refine n_then ?_
      refine wp_ret ?_
      refine fin2 (.int .i64 0) (.int .i64 0) Try.results38 A71 S45 (rv_tmp (by kernel_rfl)) (rv_tmp (by kernel_rfl)) ⟨?_, S45.kp⟩
      obtain rfl : k = m := by omega
      rw [(lw_3 hc ha).1, (lw_3 hc ha).2]

set_option maxRecDepth 100000 in
set_option maxHeartbeats 400000 in
theorem lawErr_s (TA : Option Addr) (m tcap : Nat) (tl : List Int) (lc : Int) (w0 : World) (hnt : tl.length = m * 1) (hrt : IReads w0 TA tl) (hm1 : m ≤ 1000) :
    Calls Try.prog 23 #[.agg #[.int .i64 lc, .slice TA m tcap]] w0 fun e w' => e = .returned (.int .i64 (lwE tl m lc)) ∧ Below w0.heap.size w0 w' := by
  have S0 := St.start w0
  refine enter (n := 11) Try.func23 rfl rfl rfl (fun ac A0 => ?_)
  refine wp_seq ?_
  refine wp_region_lit ?_
  refine s_box (.agg #[.int .i64 lc, .slice TA m tcap]) A0 S0 (by kernel_rfl) rfl (fun g3 ac wc A1 S2 => ?_)
  replace S2 : St _ (⟨g3, 32, #[.int .i64 lc, .slice TA m tcap], true⟩ :: _) _ _ := S2
  refine s_one (.int .i64 0) A1 S2 (g_assign (by kernel_rfl)) rfl (fun ac A5 => ?_)
  refine wpList_nil ?_
  refine n_then ?_
  refine wp_seq ?_
  refine wp_region_lit ?_
  refine s_one (.agg #[.int .i64 lc, .slice TA m tcap]) A5 S2 (g_load (g := g3) (off := 0) 0 (by kernel_rfl) rfl (by kernel_rfl)) rfl (fun ac A6 => ?_)
  refine s_call (fs := #[]) (cp := #[]) (r := [(0, .agg #[.int .i64 lc, .slice TA m tcap])]) #[.agg #[.int .i64 lc, .slice TA m tcap]] (.tuple #[.int .i64 (lwI tl m lc), .int .i64 (lwE tl m lc)]) A6 S2 (CheckLaw_s TA m tcap tl lc _ (by have hlen := hnt; omega) (hrt.kept S2.kp) (by omega)) Try.call38 (by kernel_rfl) (by kernel_rfl) (by kernel_rfl) rfl (fun ac wc A7 S8 => ?_)
  refine s_one (.tuple #[.int .i64 (lwI tl m lc), .int .i64 (lwE tl m lc)]) A7 S8 (g_move (by kernel_rfl)) rfl (fun ac A10 => ?_)
  refine s_one (.int .i64 (lwI tl m lc)) A10 S8 (g_extract (u := .tuple #[.int .i64 (lwI tl m lc), .int .i64 (lwE tl m lc)]) (by kernel_rfl) (fun _ => by kernel_rfl)) rfl (fun ac A11 => ?_)
  refine s_one (.int .i64 (lwE tl m lc)) A11 S8 (g_extract (u := .tuple #[.int .i64 (lwI tl m lc), .int .i64 (lwE tl m lc)]) (by kernel_rfl) (fun _ => by kernel_rfl)) rfl (fun ac A12 => ?_)
  refine s_one (.int .i64 (lwI tl m lc)) A12 S8 (g_assign (by kernel_rfl)) rfl (fun ac A13 => ?_)
  refine s_one (.int .i64 (lwE tl m lc)) A13 S8 (g_assign (by kernel_rfl)) rfl (fun ac A14 => ?_)
  refine wpList_nil ?_
  refine n_then ?_
  refine wp_seq ?_
  refine wp_region_lit ?_
  refine s_one (.int .i64 (lwE tl m lc)) A14 S8 (g_move (by kernel_rfl)) rfl (fun ac A15 => ?_)
  refine s_one (.int .i64 (lwE tl m lc)) A15 S8 (g_assign (by kernel_rfl)) rfl (fun ac A16 => ?_)
  refine wpList_nil ?_
  refine n_then ?_
  refine wp_ret ?_
  refine fin1 (.int .i64 (lwE tl m lc)) Try.results23 A16 S8 (rv_tmp (by kernel_rfl)) ⟨?_, S8.kp⟩
  rfl

def plE (mt tx tz : Int) : Int := bif !(inB tx (-100000) 100000) || !(inB tz (-100000) 100000) then 2 else bif inB tz 1 (mt - 1) then 0 else 22
theorem plE_0 {mt tx tz : Int} (h : plE mt tx tz = 0) : (-100000 ≤ tx ∧ tx ≤ 100000) ∧ (-100000 ≤ tz ∧ tz ≤ 100000) ∧ 1 ≤ tz ∧ tz ≤ mt - 1 := by
  unfold plE at h
  cases q : (!(inB tx (-100000) 100000) || !(inB tz (-100000) 100000)) with
  | true => rw [q] at h; simp at h
  | false =>
    rw [q] at h
    rw [Bool.or_eq_false_iff, Bool.not_eq_false', Bool.not_eq_false', inB_true, inB_true] at q
    cases z : inB tz 1 (mt - 1) with
    | true => exact ⟨q.1, q.2, inB_true.1 z⟩
    | false => rw [z] at h; simp at h
theorem way_ok {mw md ms mt fx fz tx tz : Int} (h1 : mdE mw md ms mt = 0) (h2 : (-100000 ≤ fx ∧ fx ≤ 100000) ∧ (-100000 ≤ fz ∧ fz ≤ 100000) ∧ fz < 0) (h3 : plE mt tx tz = 0) : opE mw md ms mt fx fz tx tz = 0 := by
  have q := plE_0 h3
  rw [opE_y h1]
  unfold wyE
  rw [fo_cons0 (spE_y (inB_true.2 h2.1) (inB_true.2 h2.2.1)), fo_cons0 (spE_y (inB_true.2 q.1) (inB_true.2 q.2.1)), decide_eq_true h2.2.2, inB_true.2 q.2.2]
  rfl

set_option maxRecDepth 100000 in
set_option maxHeartbeats 400000 in
theorem placeErr_s (EA : Option Addr) (n ecap : Nat) (mw md ms mt ck tx tz : Int) (w0 : World) (hmt : 2 ≤ mt ∧ mt ≤ 20000) :
    Calls Try.prog 15 #[.agg #[.slice EA n ecap, .int .i64 mw, .int .i64 md, .int .i64 ms, .int .i64 mt, .int .i64 ck], .agg #[.int .i64 tx, .int .i64 tz]] w0 fun e w' => e = .returned (.int .i64 (plE mt tx tz)) ∧ Below w0.heap.size w0 w' := by
  have S0 := St.start w0
  refine enter (n := 25) Try.func15 rfl rfl rfl (fun ac A0 => ?_)
  refine wp_seq ?_
  refine wp_region_lit ?_
  refine s_box (.agg #[.slice EA n ecap, .int .i64 mw, .int .i64 md, .int .i64 ms, .int .i64 mt, .int .i64 ck]) A0 S0 (by kernel_rfl) rfl (fun g3 ac wc A1 S2 => ?_)
  replace S2 : St _ (⟨g3, 26, #[.slice EA n ecap, .int .i64 mw, .int .i64 md, .int .i64 ms, .int .i64 mt, .int .i64 ck], true⟩ :: _) _ _ := S2
  refine s_box (.agg #[.int .i64 tx, .int .i64 tz]) A1 S2 (by kernel_rfl) rfl (fun g7 ac wc A5 S6 => ?_)
  replace S6 : St _ (⟨g7, 28, #[.int .i64 tx, .int .i64 tz], true⟩ :: _) _ _ := S6
  refine s_one (.int .i64 0) A5 S6 (g_assign (by kernel_rfl)) rfl (fun ac A9 => ?_)
  refine wpList_nil ?_
  refine n_then ?_
  refine wp_seq ?_
  refine wp_block ?_
  refine wp_seq ?_
  refine c_cut (fun ac wc => Fr 25 ac [(5, .bool ((!(inB tx (-100000) 100000)) || (!(inB tz (-100000) 100000)))), (0, .agg #[.slice EA n ecap, .int .i64 mw, .int .i64 md, .int .i64 ms, .int .i64 mt, .int .i64 ck]), (1, .agg #[.int .i64 tx, .int .i64 tz]), (2, .pointer (some ⟨g3, 0, none⟩)), (3, .pointer (some ⟨g7, 0, none⟩)), (4, .int .i64 0)] ∧ St w0 [⟨g7, 28, #[.int .i64 tx, .int .i64 tz], true⟩, ⟨g3, 26, #[.slice EA n ecap, .int .i64 mw, .int .i64 md, .int .i64 ms, .int .i64 mt, .int .i64 ck], true⟩] [] wc) ?_ ?_
  · refine wp_region_lit ?_
    refine s_one (.pointer (some ⟨g7, 0, none⟩)) A9 S6 (g_field (u := .pointer (some ⟨g7, 0, none⟩)) (by kernel_rfl) (fun _ => by kernel_rfl)) rfl (fun ac A10 => ?_)
    refine s_one (.int .i64 tx) A10 S6 (g_load (g := g7) (off := 0) 0 (by kernel_rfl) rfl (by kernel_rfl)) rfl (fun ac A11 => ?_)
    refine s_call (fs := #[]) (cp := #[]) (r := [(0, .int .i64 tx), (0, .int .i64 100000)]) #[.int .i64 tx, .int .i64 100000] (.bool (inB tx (-100000) 100000)) A11 S6 (lsmall_s tx 100000 _ (by omega) (by omega)) Try.call29 (by kernel_rfl) (by kernel_rfl) (by kernel_rfl) rfl (fun ac wc A12 S13 => ?_)
    refine s_one (.bool (!(inB tx (-100000) 100000))) A12 S13 (g_un (u := .bool (inB tx (-100000) 100000)) (by kernel_rfl) (fun _ => by kernel_rfl)) rfl (fun ac A15 => ?_)
    refine s_one (.bool (!(inB tx (-100000) 100000))) A15 S13 (g_move (by kernel_rfl)) rfl (fun ac A16 => ?_)
    refine by_bool (!(inB tx (-100000) 100000)) (fun h17 => ?_) (fun h17 => ?_)
    · have h18 : inB tx (-100000) 100000 = false := by simpa using h17
      refine s_not (dj := 10) (b := (!(inB tx (-100000) 100000))) A16 (by kernel_rfl) (by kernel_rfl) h17 rfl (fun ac A19 => ?_)
      refine s_not (dj := 10) (b := (!(inB tx (-100000) 100000))) A19 (by kernel_rfl) (by kernel_rfl) h17 rfl (fun ac A20 => ?_)
      refine s_not (dj := 10) (b := (!(inB tx (-100000) 100000))) A20 (by kernel_rfl) (by kernel_rfl) h17 rfl (fun ac A21 => ?_)
      refine s_not (dj := 10) (b := (!(inB tx (-100000) 100000))) A21 (by kernel_rfl) (by kernel_rfl) h17 rfl (fun ac A22 => ?_)
      refine s_one (.bool true) A22 S13 (g_pick_t (b := (!(inB tx (-100000) 100000))) (by kernel_rfl) h17 (by kernel_rfl)) rfl (fun ac A23 => ?_)
      refine s_one (.bool true) A23 S13 (g_assign (by kernel_rfl)) rfl (fun ac A24 => ?_)
      refine wpList_nil ?_
      refine n_then ?_
      exact ⟨(A24.slot (A24.slot (A24.slot (A24.slot (A24.slot (A24.slot A24.nil (v := .int .i64 0) (by kernel_rfl) rfl) (v := .pointer (some ⟨g7, 0, none⟩)) (by kernel_rfl) rfl) (v := .pointer (some ⟨g3, 0, none⟩)) (by kernel_rfl) rfl) (v := .agg #[.int .i64 tx, .int .i64 tz]) (by kernel_rfl) rfl) (v := .agg #[.slice EA n ecap, .int .i64 mw, .int .i64 md, .int .i64 ms, .int .i64 mt, .int .i64 ck]) (by kernel_rfl) rfl) (v := .bool true) (by kernel_rfl) (congrArg Value.bool (b_ot1 h17).symm)), S13.sub sub_all sub_all⟩
    · have h25 : inB tx (-100000) 100000 = true := by simpa using h17
      refine s_want (dj := 10) (b := (!(inB tx (-100000) 100000))) A16 (by kernel_rfl) (by kernel_rfl) h17 ?_
      refine s_one (.pointer (some ⟨g7, 1, none⟩)) A16 S13 (g_field (u := .pointer (some ⟨g7, 0, none⟩)) (by kernel_rfl) (fun _ => by kernel_rfl)) rfl (fun ac A26 => ?_)
      refine s_want (dj := 10) (b := (!(inB tx (-100000) 100000))) A26 (by kernel_rfl) (by kernel_rfl) h17 ?_
      refine s_one (.int .i64 tz) A26 S13 (g_load (g := g7) (off := 1) 0 (by kernel_rfl) rfl (by kernel_rfl)) rfl (fun ac A27 => ?_)
      refine s_want (dj := 10) (b := (!(inB tx (-100000) 100000))) A27 (by kernel_rfl) (by kernel_rfl) h17 ?_
      refine s_call (fs := #[]) (cp := #[]) (r := [(0, .int .i64 tz), (0, .int .i64 100000)]) #[.int .i64 tz, .int .i64 100000] (.bool (inB tz (-100000) 100000)) A27 S13 (lsmall_s tz 100000 _ (by omega) (by omega)) Try.call29 (by kernel_rfl) (by kernel_rfl) (by kernel_rfl) rfl (fun ac wc A28 S29 => ?_)
      refine s_want (dj := 10) (b := (!(inB tx (-100000) 100000))) A28 (by kernel_rfl) (by kernel_rfl) h17 ?_
      refine s_one (.bool (!(inB tz (-100000) 100000))) A28 S29 (g_un (u := .bool (inB tz (-100000) 100000)) (by kernel_rfl) (fun _ => by kernel_rfl)) rfl (fun ac A31 => ?_)
      refine s_one (.bool (!(inB tz (-100000) 100000))) A31 S29 (g_pick_f (b := (!(inB tx (-100000) 100000))) (by kernel_rfl) h17 (by kernel_rfl)) rfl (fun ac A32 => ?_)
      refine s_one (.bool (!(inB tz (-100000) 100000))) A32 S29 (g_assign (by kernel_rfl)) rfl (fun ac A33 => ?_)
      refine wpList_nil ?_
      refine n_then ?_
      exact ⟨(A33.slot (A33.slot (A33.slot (A33.slot (A33.slot (A33.slot A33.nil (v := .int .i64 0) (by kernel_rfl) rfl) (v := .pointer (some ⟨g7, 0, none⟩)) (by kernel_rfl) rfl) (v := .pointer (some ⟨g3, 0, none⟩)) (by kernel_rfl) rfl) (v := .agg #[.int .i64 tx, .int .i64 tz]) (by kernel_rfl) rfl) (v := .agg #[.slice EA n ecap, .int .i64 mw, .int .i64 md, .int .i64 ms, .int .i64 mt, .int .i64 ck]) (by kernel_rfl) rfl) (v := .bool (!(inB tz (-100000) 100000))) (by kernel_rfl) (congrArg Value.bool (b_or_f h17 (Eq.refl (!(inB tz (-100000) 100000)))).symm)), S29.sub sub_all sub_all⟩
  · rintro ac wc ⟨A34, S35⟩
    refine n_then ?_
    refine c_ifb (b := ((!(inB tx (-100000) 100000)) || (!(inB tz (-100000) 100000)))) A34 (by kernel_rfl) (fun h36 => ?_) (fun h36 => ?_)
    · refine wp_seq ?_
      refine wp_region_lit ?_
      refine s_one (.int .i64 2) A34 S35 (g_assign (by kernel_rfl)) rfl (fun ac A37 => ?_)
      refine wpList_nil ?_
      refine n_then ?_
      refine wp_ret ?_
      refine r_block ?_
      refine r_then ?_
      refine fin1 (.int .i64 2) Try.results15 A37 S35 (rv_tmp (by kernel_rfl)) ⟨?_, S35.kp⟩
      have e : plE mt tx tz = 2 := by unfold plE; rw [h36]; rfl
      rw [e]
    · have h38 := (Bool.or_eq_false_iff.1 h36).1
      have h39 : inB tx (-100000) 100000 = true := by simpa using h38
      have h40 := (Bool.or_eq_false_iff.1 h36).2
      have h41 : inB tz (-100000) 100000 = true := by simpa using h40
      refine wp_seq ?_
      refine wp_region_lit ?_
      refine s_one (.pointer (some ⟨g7, 1, none⟩)) A34 S35 (g_field (u := .pointer (some ⟨g7, 0, none⟩)) (by kernel_rfl) (fun _ => by kernel_rfl)) rfl (fun ac A42 => ?_)
      refine s_one (.int .i64 tz) A42 S35 (g_load (g := g7) (off := 1) 0 (by kernel_rfl) rfl (by kernel_rfl)) rfl (fun ac A43 => ?_)
      refine s_one (.pointer (some ⟨g3, 1, none⟩)) A43 S35 (g_field (u := .pointer (some ⟨g3, 0, none⟩)) (by kernel_rfl) (fun _ => by kernel_rfl)) rfl (fun ac A44 => ?_)
      refine s_one (.pointer (some ⟨g3, 4, none⟩)) A44 S35 (g_field (u := .pointer (some ⟨g3, 1, none⟩)) (by kernel_rfl) (fun _ => by kernel_rfl)) rfl (fun ac A45 => ?_)
      refine s_one (.int .i64 mt) A45 S35 (g_load (g := g3) (off := 4) 1 (by kernel_rfl) rfl (by kernel_rfl)) rfl (fun ac A46 => ?_)
      refine s_one (.int .i64 (mt - 1)) A46 S35 (g_bin (u := .int .i64 mt) (k := .int .i64 1) (by kernel_rfl) (by kernel_rfl) (fun _ => by kernel_rfl) (b_sub (by omega))) rfl (fun ac A47 => ?_)
      refine s_call (fs := #[]) (cp := #[]) (r := [(0, .int .i64 tz), (0, .int .i64 1), (0, .int .i64 (mt - 1))]) #[.int .i64 tz, .int .i64 1, .int .i64 (mt - 1)] (.bool (inB tz 1 (mt - 1))) A47 S35 (lwithin_s tz 1 (mt - 1) _) Try.call30 (by kernel_rfl) (by kernel_rfl) (by kernel_rfl) rfl (fun ac wc A48 S49 => ?_)
      refine s_one (.bool (!(inB tz 1 (mt - 1)))) A48 S49 (g_un (u := .bool (inB tz 1 (mt - 1))) (by kernel_rfl) (fun _ => by kernel_rfl)) rfl (fun ac A51 => ?_)
      refine s_one (.bool (!(inB tz 1 (mt - 1)))) A51 S49 (g_assign (by kernel_rfl)) rfl (fun ac A52 => ?_)
      refine wpList_nil ?_
      refine n_then ?_
      refine c_ifb (b := (!(inB tz 1 (mt - 1)))) A52 (by kernel_rfl) (fun h53 => ?_) (fun h53 => ?_)
      · have h54 : inB tz 1 (mt - 1) = false := by simpa using h53
        refine wp_seq ?_
        refine wp_region_lit ?_
        refine s_one (.int .i64 22) A52 S49 (g_assign (by kernel_rfl)) rfl (fun ac A55 => ?_)
        refine wpList_nil ?_
        refine n_then ?_
        refine wp_ret ?_
        refine r_block ?_
        refine r_then ?_
        refine fin1 (.int .i64 22) Try.results15 A55 S49 (rv_tmp (by kernel_rfl)) ⟨?_, S49.kp⟩
        have e : plE mt tx tz = 22 := by unfold plE; rw [h36, h54]; rfl
        rw [e]
      · have h56 : inB tz 1 (mt - 1) = true := by simpa using h53
        refine wp_skip ?_
        refine n_block ?_
        refine n_then ?_
        refine wp_seq ?_
        refine wp_region_lit ?_
        refine s_one (.int .i64 0) A52 S49 (g_assign (by kernel_rfl)) rfl (fun ac A57 => ?_)
        refine wpList_nil ?_
        refine n_then ?_
        refine wp_ret ?_
        refine fin1 (.int .i64 0) Try.results15 A57 S49 (rv_tmp (by kernel_rfl)) ⟨?_, S49.kp⟩
        have e : plE mt tx tz = 0 := by unfold plE; rw [h36, h56]; rfl
        rw [e]

end Go.Proofs.Ytfeapeblnnmhlaa
