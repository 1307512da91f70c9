/- Small functions of chapter 1. -/
import Derived.Test.YtfeapeblnnmhlaaRay
import Derived.Test.YtfeapeblnnmhlaaU64
import Derived.Test.YtfeapeblnnmhlaaProg
import Derived.Test.YtfeapeblnnmhlaaEq
import Derived.Test.YtfeapeblnnmhlaaEqU
namespace Go.Proofs.Ytfeapeblnnmhlaa
open Go.RowKit Go.Cpl Go.Ray1

set_option maxRecDepth 100000 in
set_option maxHeartbeats 400000 in
theorem within_s (n lo hi : Int) (w0 : World) :
    Calls Try.prog 53 #[.int .i64 n, .int .i64 lo, .int .i64 hi] w0 fun e w' => e = .returned (.bool (inB n lo hi)) ∧ Below w0.heap.size w0 w' := by
  have S0 := St.start w0
  refine enter (n := 15) Try.func53 rfl rfl rfl (fun ac A0 => ?_)
  refine wp_seq ?_
  refine wp_region_lit ?_
  refine s_one (.bool false) A0 S0 (g_assign (by kernel_rfl)) rfl (fun ac A1 => ?_)
  refine wpList_nil ?_
  refine n_then ?_
  refine wp_seq ?_
  refine c_cut (fun ac wc => Fr 15 ac [(6, .bool ((decide (lo ≤ n)) && (decide (n ≤ hi)))), (0, .int .i64 n), (1, .int .i64 lo), (2, .int .i64 hi)] ∧ St w0 [] [] wc) ?_ ?_
  · refine wp_region_lit ?_
    refine s_one (.int .i64 lo) A1 S0 (g_move (by kernel_rfl)) rfl (fun ac A2 => ?_)
    refine s_one (.int .i64 n) A2 S0 (g_move (by kernel_rfl)) rfl (fun ac A3 => ?_)
    refine s_one (.bool (decide (lo ≤ n))) A3 S0 (g_bin (u := .int .i64 lo) (k := .int .i64 n) (by kernel_rfl) (by kernel_rfl) (fun _ => by kernel_rfl) (fun _ => by kernel_rfl)) rfl (fun ac A4 => ?_)
    refine s_one (.bool (decide (lo ≤ n))) A4 S0 (g_move (by kernel_rfl)) rfl (fun ac A5 => ?_)
    refine by_bool (decide (lo ≤ n)) (fun h6 => ?_) (fun h6 => ?_)
    · have p7 := of_decide_eq_true h6
      refine s_want (dj := 10) (b := (decide (lo ≤ n))) A5 (by kernel_rfl) (by kernel_rfl) h6 ?_
      refine s_one (.int .i64 n) A5 S0 (g_move (by kernel_rfl)) rfl (fun ac A8 => ?_)
      refine s_want (dj := 10) (b := (decide (lo ≤ n))) A8 (by kernel_rfl) (by kernel_rfl) h6 ?_
      refine s_one (.int .i64 hi) A8 S0 (g_move (by kernel_rfl)) rfl (fun ac A9 => ?_)
      refine s_want (dj := 10) (b := (decide (lo ≤ n))) A9 (by kernel_rfl) (by kernel_rfl) h6 ?_
      refine s_one (.bool (decide (n ≤ hi))) A9 S0 (g_bin (u := .int .i64 n) (k := .int .i64 hi) (by kernel_rfl) (by kernel_rfl) (fun _ => by kernel_rfl) (fun _ => by kernel_rfl)) rfl (fun ac A10 => ?_)
      refine s_one (.bool (decide (n ≤ hi))) A10 S0 (g_pick_t (b := (decide (lo ≤ n))) (by kernel_rfl) h6 (by kernel_rfl)) rfl (fun ac A11 => ?_)
      refine s_one (.bool (decide (n ≤ hi))) A11 S0 (g_assign (by kernel_rfl)) rfl (fun ac A12 => ?_)
      refine wpList_nil ?_
      refine n_then ?_
      exact ⟨(A12.slot (A12.slot (A12.slot (A12.slot A12.nil (v := .int .i64 hi) (by kernel_rfl) rfl) (v := .int .i64 lo) (by kernel_rfl) rfl) (v := .int .i64 n) (by kernel_rfl) rfl) (v := .bool (decide (n ≤ hi))) (by kernel_rfl) (congrArg Value.bool (b_and_t h6 (Eq.refl (decide (n ≤ hi)))).symm)), S0.sub sub_all sub_all⟩
    · have p13 := of_decide_eq_false h6
      refine s_not (dj := 10) (b := (decide (lo ≤ n))) A5 (by kernel_rfl) (by kernel_rfl) h6 rfl (fun ac A14 => ?_)
      refine s_not (dj := 10) (b := (decide (lo ≤ n))) A14 (by kernel_rfl) (by kernel_rfl) h6 rfl (fun ac A15 => ?_)
      refine s_not (dj := 10) (b := (decide (lo ≤ n))) A15 (by kernel_rfl) (by kernel_rfl) h6 rfl (fun ac A16 => ?_)
      refine s_one (.bool false) A16 S0 (g_pick_f (b := (decide (lo ≤ n))) (by kernel_rfl) h6 (by kernel_rfl)) rfl (fun ac A17 => ?_)
      refine s_one (.bool false) A17 S0 (g_assign (by kernel_rfl)) rfl (fun ac A18 => ?_)
      refine wpList_nil ?_
      refine n_then ?_
      exact ⟨(A18.slot (A18.slot (A18.slot (A18.slot A18.nil (v := .int .i64 hi) (by kernel_rfl) rfl) (v := .int .i64 lo) (by kernel_rfl) rfl) (v := .int .i64 n) (by kernel_rfl) rfl) (v := .bool false) (by kernel_rfl) (congrArg Value.bool (b_af1 h6).symm)), S0.sub sub_all sub_all⟩
  · rintro ac wc ⟨A19, S20⟩
    refine n_then ?_
    refine wp_ret ?_
    refine fin1 (.bool ((decide (lo ≤ n)) && (decide (n ≤ hi)))) Try.results53 A19 S20 (rv_tmp (by kernel_rfl)) ⟨?_, S20.kp⟩
    rfl

set_option maxRecDepth 100000 in
set_option maxHeartbeats 400000 in
theorem small_s (n m : Int) (w0 : World) (h0 : 0 ≤ m) (h1 : m ≤ 1000000000000) :
    Calls Try.prog 64 #[.int .i64 n, .int .i64 m] w0 fun e w' => e = .returned (.bool (inB n (-m) m)) ∧ Below w0.heap.size w0 w' := by
  have S0 := St.start w0
  refine enter (n := 10) Try.func64 rfl rfl rfl (fun ac A0 => ?_)
  refine wp_seq ?_
  refine wp_region_lit ?_
  refine s_one (.bool false) A0 S0 (g_assign (by kernel_rfl)) rfl (fun ac A1 => ?_)
  refine wpList_nil ?_
  refine n_then ?_
  refine wp_seq ?_
  refine wp_region_lit ?_
  refine s_one (.int .i64 n) A1 S0 (g_move (by kernel_rfl)) rfl (fun ac A2 => ?_)
  refine s_one (.int .i64 m) A2 S0 (g_move (by kernel_rfl)) rfl (fun ac A3 => ?_)
  refine s_one (.int .i64 (-m)) A3 S0 (g_un (u := .int .i64 m) (by kernel_rfl) (u_neg (by omega))) rfl (fun ac A4 => ?_)
  refine s_one (.int .i64 m) A4 S0 (g_move (by kernel_rfl)) rfl (fun ac A5 => ?_)
  refine s_call (fs := #[]) (cp := #[]) (r := [(0, .int .i64 n), (0, .int .i64 (-m)), (0, .int .i64 m)]) #[.int .i64 n, .int .i64 (-m), .int .i64 m] (.bool (inB n (-m) m)) A5 S0 (within_s n (-m) m _) Try.call53 (by kernel_rfl) (by kernel_rfl) (by kernel_rfl) rfl (fun ac wc A6 S7 => ?_)
  refine s_one (.bool (inB n (-m) m)) A6 S7 (g_assign (by kernel_rfl)) rfl (fun ac A9 => ?_)
  refine wpList_nil ?_
  refine n_then ?_
  refine wp_ret ?_
  refine fin1 (.bool (inB n (-m) m)) Try.results64 A9 S7 (rv_tmp (by kernel_rfl)) ⟨?_, S7.kp⟩
  rfl

theorem fl_y {n d : Int} (hd : 1 ≤ d) (h : n.tmod d < 0) : n.tdiv d - 1 = n / d := by
  have hn : n < 0 := by
    by_cases z : n < 0
    · exact z
    · have := Int.tmod_nonneg (a := n) d (by omega); omega
  rw [ediv_of_neg hn hd, if_pos h]
theorem fl_n {n d : Int} (hd : 1 ≤ d) (h : ¬ n.tmod d < 0) : n.tdiv d = n / d := by
  by_cases z : n < 0
  · rw [ediv_of_neg z hd, if_neg h]
  · exact Int.tdiv_eq_ediv_of_nonneg (by omega)
theorem td_bd {n d : Int} (hd : 1 ≤ d) (h0 : -9223372036854775808 ≤ n) (h1 : n ≤ 9223372036854775807) : -9223372036854775808 ≤ n.tdiv d ∧ n.tdiv d ≤ 9223372036854775807 := by
  have := Int.natAbs_tdiv_le_natAbs n d
  by_cases z : 0 ≤ n
  · have := Int.tdiv_nonneg (a := n) (b := d) z (by omega); omega
  · have := Int.tdiv_nonneg (a := -n) (b := d) (by omega) (by omega); rw [Int.neg_tdiv] at this; omega
theorem td_bd2 {n d : Int} (hd : 1 ≤ d) (h0 : -9223372036854775808 ≤ n) (h1 : n ≤ 9223372036854775807) (hm : n.tmod d < 0) : -9223372036854775808 ≤ n.tdiv d - 1 := by
  rw [fl_y hd hm]
  have hn : n < 0 := by
    by_cases z : n < 0
    · exact z
    · have := Int.tmod_nonneg (a := n) d (by omega); omega
  have := Int.ediv_le_ediv (a := -9223372036854775808 * d) (b := n) (c := d) (by omega) (by have := Int.mul_le_mul_of_nonneg_left hd (show (0 : Int) ≤ 9223372036854775808 by omega); omega)
  rw [Int.mul_ediv_cancel _ (by omega)] at this
  exact this
theorem ed_bd {n d m : Int} (hd : 1 ≤ d) (hm : 0 ≤ m) (h0 : -m ≤ n) (h1 : n ≤ m) : -m ≤ n / d ∧ n / d ≤ m := by
  constructor
  · apply (Int.le_ediv_iff_mul_le (by omega)).2
    have := Int.mul_le_mul_of_nonneg_left hd hm
    rw [Int.neg_mul]
    omega
  · have : n / d < m + 1 := by
      apply (Int.ediv_lt_iff_lt_mul (by omega)).2
      have := Int.mul_le_mul_of_nonneg_left hd (show 0 ≤ m + 1 by omega)
      omega
    omega

set_option maxRecDepth 100000 in
set_option maxHeartbeats 400000 in
theorem down_s (n d : Int) (w0 : World) (h0 : 1 ≤ d) (h1 : -9223372036854775808 ≤ n) (h2 : n ≤ 9223372036854775807) :
    Calls Try.prog 44 #[.int .i64 n, .int .i64 d] w0 fun e w' => e = .returned (.int .i64 (n / d)) ∧ Below w0.heap.size w0 w' := by
  have S0 := St.start w0
  refine enter (n := 16) Try.func44 rfl rfl rfl (fun ac A0 => ?_)
  refine wp_seq ?_
  refine wp_region_lit ?_
  refine s_one (.int .i64 0) A0 S0 (g_assign (by kernel_rfl)) rfl (fun ac A1 => ?_)
  refine wpList_nil ?_
  refine n_then ?_
  refine wp_seq ?_
  refine wp_region_lit ?_
  refine s_one (.int .i64 n) A1 S0 (g_move (by kernel_rfl)) rfl (fun ac A2 => ?_)
  refine s_one (.int .i64 d) A2 S0 (g_move (by kernel_rfl)) rfl (fun ac A3 => ?_)
  refine s_one (.int .i64 ((n).tdiv d)) A3 S0 (g_bin (u := .int .i64 n) (k := .int .i64 d) (by kernel_rfl) (by kernel_rfl) (fun _ => by kernel_rfl) (b_quo (by omega) (td_bd h0 h1 h2))) rfl (fun ac A4 => ?_)
  refine s_one (.int .i64 ((n).tdiv d)) A4 S0 (g_assign (by kernel_rfl)) rfl (fun ac A5 => ?_)
  refine wpList_nil ?_
  refine n_then ?_
  refine wp_seq ?_
  refine wp_seq ?_
  refine wp_region_lit ?_
  refine s_one (.int .i64 n) A5 S0 (g_move (by kernel_rfl)) rfl (fun ac A6 => ?_)
  refine s_one (.int .i64 d) A6 S0 (g_move (by kernel_rfl)) rfl (fun ac A7 => ?_)
  refine s_one (.int .i64 ((n).tmod d)) A7 S0 (g_bin (u := .int .i64 n) (k := .int .i64 d) (by kernel_rfl) (by kernel_rfl) (fun _ => by kernel_rfl) (b_rem (by omega))) rfl (fun ac A8 => ?_)
  refine s_one (.bool (decide ((n).tmod d < 0))) A8 S0 (g_bin (u := .int .i64 ((n).tmod d)) (k := .int .i64 0) (by kernel_rfl) (by kernel_rfl) (fun _ => by kernel_rfl) (fun _ => by kernel_rfl)) rfl (fun ac A9 => ?_)
  refine wpList_nil ?_
  refine n_then ?_
  refine c_ifb (b := (decide ((n).tmod d < 0))) A9 (by kernel_rfl) (fun h10 => ?_) (fun h10 => ?_)
  · have p11 := of_decide_eq_true h10
    refine wp_region_lit ?_
    refine s_one (.int .i64 ((n).tdiv d)) A9 S0 (g_move (by kernel_rfl)) rfl (fun ac A12 => ?_)
    refine s_one (.int .i64 ((n).tdiv d - 1)) A12 S0 (g_bin (u := .int .i64 ((n).tdiv d)) (k := .int .i64 1) (by kernel_rfl) (by kernel_rfl) (fun _ => by kernel_rfl) (b_sub (by have q := td_bd h0 h1 h2; have q2 := td_bd2 h0 h1 h2 (by assumption); omega))) rfl (fun ac A13 => ?_)
    refine s_one (.int .i64 ((n).tdiv d - 1)) A13 S0 (g_assign (by kernel_rfl)) rfl (fun ac A14 => ?_)
    refine wpList_nil ?_
    refine n_then ?_
    refine wp_seq ?_
    refine wp_region_lit ?_
    refine s_one (.int .i64 ((n).tdiv d - 1)) A14 S0 (g_move (by kernel_rfl)) rfl (fun ac A15 => ?_)
    refine s_one (.int .i64 ((n).tdiv d - 1)) A15 S0 (g_assign (by kernel_rfl)) rfl (fun ac A16 => ?_)
    refine wpList_nil ?_
    refine n_then ?_
    refine wp_ret ?_
    refine fin1 (.int .i64 ((n).tdiv d - 1)) Try.results44 A16 S0 (rv_tmp (by kernel_rfl)) ⟨?_, S0.kp⟩
    rw [fl_y h0 p11]
  · have p17 := of_decide_eq_false h10
    refine wp_skip ?_
    refine n_then ?_
    refine wp_seq ?_
    refine wp_region_lit ?_
    refine s_one (.int .i64 ((n).tdiv d)) A9 S0 (g_move (by kernel_rfl)) rfl (fun ac A18 => ?_)
    refine s_one (.int .i64 ((n).tdiv d)) A18 S0 (g_assign (by kernel_rfl)) rfl (fun ac A19 => ?_)
    refine wpList_nil ?_
    refine n_then ?_
    refine wp_ret ?_
    refine fin1 (.int .i64 ((n).tdiv d)) Try.results44 A19 S0 (rv_tmp (by kernel_rfl)) ⟨?_, S0.kp⟩
    rw [fl_n h0 p17]

set_option maxRecDepth 100000 in
set_option maxHeartbeats 400000 in
theorem up_s (n d : Int) (w0 : World) (h0 : 1 ≤ d) (h1 : -9223372036854775807 ≤ n) (h2 : n ≤ 9223372036854775807) :
    Calls Try.prog 49 #[.int .i64 n, .int .i64 d] w0 fun e w' => e = .returned (.int .i64 (upD n d)) ∧ Below w0.heap.size w0 w' := by
  have S0 := St.start w0
  have q := ed_bd (n := -n) (d := d) (m := 9223372036854775807) h0 (by omega) (by omega) (by omega)
  refine enter (n := 10) Try.func49 rfl rfl rfl (fun ac A0 => ?_)
  refine wp_seq ?_
  refine wp_region_lit ?_
  refine s_one (.int .i64 0) A0 S0 (g_assign (by kernel_rfl)) rfl (fun ac A1 => ?_)
  refine wpList_nil ?_
  refine n_then ?_
  refine wp_seq ?_
  refine wp_region_lit ?_
  refine s_one (.int .i64 n) A1 S0 (g_move (by kernel_rfl)) rfl (fun ac A2 => ?_)
  refine s_one (.int .i64 (-n)) A2 S0 (g_un (u := .int .i64 n) (by kernel_rfl) (u_neg (by omega))) rfl (fun ac A3 => ?_)
  refine s_one (.int .i64 d) A3 S0 (g_move (by kernel_rfl)) rfl (fun ac A4 => ?_)
  refine s_call (fs := #[]) (cp := #[]) (r := [(0, .int .i64 (-n)), (0, .int .i64 d)]) #[.int .i64 (-n), .int .i64 d] (.int .i64 ((-n) / d)) A4 S0 (down_s (-n) d _ (by omega) (by omega) (by omega)) Try.call44 (by kernel_rfl) (by kernel_rfl) (by kernel_rfl) rfl (fun ac wc A5 S6 => ?_)
  refine s_one (.int .i64 (-((-n) / d))) A5 S6 (g_un (u := .int .i64 ((-n) / d)) (by kernel_rfl) (u_neg (by omega))) rfl (fun ac A8 => ?_)
  refine s_one (.int .i64 (-((-n) / d))) A8 S6 (g_assign (by kernel_rfl)) rfl (fun ac A9 => ?_)
  refine wpList_nil ?_
  refine n_then ?_
  refine wp_ret ?_
  refine fin1 (.int .i64 (-((-n) / d))) Try.results49 A9 S6 (rv_tmp (by kernel_rfl)) ⟨?_, S6.kp⟩
  rfl

def must_a_r (ok : Bool) (er : Int) : Int := bif ok then 0 else er

set_option maxRecDepth 100000 in
set_option maxHeartbeats 400000 in
theorem must_a (ok : Bool) (er : Int) (w0 : World) :
    Calls Try.prog 52 #[.bool ok, .int .i64 er] w0 fun e w' => e = .returned (.int .i64 (must_a_r ok er)) ∧ Below w0.heap.size w0 w' := by
  have S0 := St.start w0
  refine enter (n := 7) Try.func52 rfl rfl rfl (fun ac A0 => ?_)
  refine wp_seq ?_
  refine wp_region_lit ?_
  refine s_one (.int .i64 0) A0 S0 (g_assign (by kernel_rfl)) rfl (fun ac A1 => ?_)
  refine wpList_nil ?_
  refine n_then ?_
  refine wp_seq ?_
  refine wp_seq ?_
  refine wp_region_lit ?_
  refine s_one (.bool ok) A1 S0 (g_move (by kernel_rfl)) rfl (fun ac A2 => ?_)
  refine wpList_nil ?_
  refine n_then ?_
  refine c_ifb (b := ok) A2 (by kernel_rfl) (fun h3 => ?_) (fun h3 => ?_)
  · refine wp_seq ?_
    refine wp_region_lit ?_
    refine s_one (.int .i64 0) A2 S0 (g_assign (by kernel_rfl)) rfl (fun ac A4 => ?_)
    refine wpList_nil ?_
    refine n_then ?_
    refine wp_ret ?_
    refine r_then ?_
    refine fin1 (.int .i64 0) Try.results52 A4 S0 (rv_tmp (by kernel_rfl)) ⟨?_, S0.kp⟩
    have e : must_a_r ok er = 0 := by unfold must_a_r; exact ((bif_t h3).trans rfl)
    rw [e]
  · refine wp_skip ?_
    refine n_then ?_
    refine wp_seq ?_
    refine wp_region_lit ?_
    refine s_one (.int .i64 er) A2 S0 (g_move (by kernel_rfl)) rfl (fun ac A5 => ?_)
    refine s_one (.int .i64 er) A5 S0 (g_assign (by kernel_rfl)) rfl (fun ac A6 => ?_)
    refine wpList_nil ?_
    refine n_then ?_
    refine wp_ret ?_
    refine fin1 (.int .i64 er) Try.results52 A6 S0 (rv_tmp (by kernel_rfl)) ⟨?_, S0.kp⟩
    have e : must_a_r ok er = er := by unfold must_a_r; exact ((bif_f h3).trans rfl)
    rw [e]

theorem first_n {l : List Int} {k : Nat} (h : k < l.length) (hf : firstOf l = firstOf (l.drop k)) (h0 : nthI l k = 0) : firstOf l = firstOf (l.drop (k + 1)) := by
  rw [hf, firstOf_step l k h, if_pos h0]
theorem first_y {l : List Int} {k : Nat} (h : k < l.length) (hf : firstOf l = firstOf (l.drop k)) (h0 : nthI l k ≠ 0) : firstOf l = nthI l k := by
  rw [hf, firstOf_step l k h, if_neg h0]

set_option maxRecDepth 100000 in
set_option maxHeartbeats 400000 in
theorem first_s (g0 : Nat) (l : List Int) (n cap : Nat) (w0 : World) (hb : Blk w0 g0 33 (ints l)) (hl : l.length = n) (hn : n ≤ 1000) :
    Calls Try.prog 50 #[.slice (some ⟨g0, 0, none⟩) n cap] w0 fun e w' => e = .returned (.int .i64 (firstOf l)) ∧ Below w0.heap.size w0 w' := by
  have S0 := St.start w0
  have S0 := S0.came hb (by simp)
  refine enter (n := 15) Try.func50 rfl rfl rfl (fun ac A0 => ?_)
  refine wp_seq ?_
  refine wp_region_lit ?_
  refine s_one (.int .i64 0) A0 S0 (g_assign (by kernel_rfl)) rfl (fun ac A1 => ?_)
  refine wpList_nil ?_
  refine n_then ?_
  refine wp_seq ?_
  refine wp_seq ?_
  refine wp_region_lit ?_
  refine s_one (.slice (some ⟨g0, 0, none⟩) n cap) A1 S0 (g_move (by kernel_rfl)) rfl (fun ac A2 => ?_)
  refine s_one (.int .i64 (n : Int)) A2 S0 (g_built (r := [(0, .slice (some ⟨g0, 0, none⟩) n cap)]) (by kernel_rfl) (fun _ _ _ => by kernel_rfl)) rfl (fun ac A3 => ?_)
  refine s_one (.int .i64 0) A3 S0 (g_move (by kernel_rfl)) rfl (fun ac A4 => ?_)
  refine wpList_nil ?_
  refine n_then ?_
  refine wp_block ?_
  refine c_loopN (fun mm ac wc => ∃ (k : Nat), mm = n - k ∧ (k ≤ n) ∧ (firstOf l = firstOf (l.drop k)) ∧ Fr 15 ac [(0, .slice (some ⟨g0, 0, none⟩) n cap), (5, .slice (some ⟨g0, 0, none⟩) n cap), (6, .int .i64 (n : Int)), (7, .int .i64 (k : Int))] ∧ St w0 [⟨g0, 33, (ints l), false⟩] [] wc) _ ⟨0, rfl, (by omega), rfl, (A4.slot (A4.slot (A4.slot (A4.slot A4.nil (v := .int .i64 0) (by kernel_rfl) (congrArg (Value.int .i64) (by omega))) (v := .int .i64 (n : Int)) (by kernel_rfl) rfl) (v := .slice (some ⟨g0, 0, none⟩) n cap) (by kernel_rfl) rfl) (v := .slice (some ⟨g0, 0, none⟩) n cap) (by kernel_rfl) rfl), S0.sub sub_all sub_all⟩ ?_
  rintro mm ac wc ⟨k, hm7, hk, hf, A5, S6⟩
  refine wp_seq ?_
  refine wp_region_lit ?_
  refine s_one (.bool (decide ((k : Int) < (n : Int)))) A5 S6 (g_bin (u := .int .i64 (k : Int)) (k := .int .i64 (n : Int)) (by kernel_rfl) (by kernel_rfl) (fun _ => by kernel_rfl) (fun _ => by kernel_rfl)) rfl (fun ac A8 => ?_)
  refine wpList_nil ?_
  refine n_then ?_
  refine wp_seq ?_
  refine c_ifb (b := (decide ((k : Int) < (n : Int)))) A8 (by kernel_rfl) (fun h9 => ?_) (fun h9 => ?_)
  · have p10 := of_decide_eq_true h9
    refine wp_skip ?_
    refine n_then ?_
    refine wp_seq ?_
    refine wp_block ?_
    refine wp_seq ?_
    refine wp_region_lit ?_
    refine s_one (.pointer (some ⟨g0, k, none⟩)) A8 S6 (g_index (u := .slice (some ⟨g0, 0, none⟩) n cap) (k := .int .i64 (k : Int)) (by kernel_rfl) (by kernel_rfl) (ix_sl1 (e := 33) (bytes := 8) k (by kernel_rfl) (by omega) (by omega))) rfl (fun ac A11 => ?_)
    refine s_one (.int .i64 (nthI l k)) A11 S6 (g_load (g := g0) (off := k) 0 (by kernel_rfl) rfl (rv_of (by kernel_rfl) (ints_get (by rw [hl]; omega)))) rfl (fun ac A12 => ?_)
    refine s_one (.int .i64 (nthI l k)) A12 S6 (g_assign (by kernel_rfl)) rfl (fun ac A13 => ?_)
    refine wpList_nil ?_
    refine n_then ?_
    refine wp_seq ?_
    refine wp_region_lit ?_
    refine s_one (.int .i64 (nthI l k)) A13 S6 (g_move (by kernel_rfl)) rfl (fun ac A14 => ?_)
    refine s_one (.bool (decide (nthI l k ≠ 0))) A14 S6 (g_bin (u := .int .i64 (nthI l k)) (k := .int .i64 0) (by kernel_rfl) (by kernel_rfl) (fun _ => by kernel_rfl) b_neq) rfl (fun ac A15 => ?_)
    refine wpList_nil ?_
    refine n_then ?_
    refine c_ifb (b := (decide (nthI l k ≠ 0))) A15 (by kernel_rfl) (fun h16 => ?_) (fun h16 => ?_)
    · have p17 := of_decide_eq_true h16
      refine wp_seq ?_
      refine wp_region_lit ?_
      refine s_one (.int .i64 (nthI l k)) A15 S6 (g_move (by kernel_rfl)) rfl (fun ac A18 => ?_)
      refine s_one (.int .i64 (nthI l k)) A18 S6 (g_assign (by kernel_rfl)) rfl (fun ac A19 => ?_)
      refine wpList_nil ?_
      refine n_then ?_
      refine wp_ret ?_
      refine r_block ?_
      refine r_then ?_
      refine r_then ?_
      refine r_block ?_
      refine r_then ?_
      refine fin1 (.int .i64 (nthI l k)) Try.results50 A19 S6 (rv_tmp (by kernel_rfl)) ⟨?_, S6.kp⟩
      rw [first_y (by omega) hf p17]
    · have p20 := of_decide_eq_false h16
      refine wp_skip ?_
      refine n_block ?_
      refine n_then ?_
      refine wp_region_lit ?_
      refine s_one (.int .i64 ((k : Int) + 1)) A15 S6 (g_bin (u := .int .i64 (k : Int)) (k := .int .i64 1) (by kernel_rfl) (by kernel_rfl) (fun _ => by kernel_rfl) (b_add (by omega))) rfl (fun ac A21 => ?_)
      refine s_one (.int .i64 ((k : Int) + 1)) A21 S6 (g_move (by kernel_rfl)) rfl (fun ac A22 => ?_)
      refine wpList_nil ?_
      refine n_then ?_
      refine ⟨_, ⟨k + 1, rfl, (by omega), (first_n (by omega) hf (by omega)), (A22.slot (A22.slot (A22.slot (A22.slot A22.nil (v := .int .i64 ((k : Int) + 1)) (by kernel_rfl) (congrArg (Value.int .i64) (by omega))) (v := .int .i64 (n : Int)) (by kernel_rfl) rfl) (v := .slice (some ⟨g0, 0, none⟩) n cap) (by kernel_rfl) rfl) (v := .slice (some ⟨g0, 0, none⟩) n cap) (by kernel_rfl) rfl), S6.sub sub_all sub_all⟩, ?_⟩
      omega
  · have p23 := of_decide_eq_false h9
    refine wp_exit ?_
    refine x_then ?_
    refine x_then ?_
    refine x_hit ?_
    refine n_then ?_
    refine wp_seq ?_
    refine wp_region_lit ?_
    refine s_one (.int .i64 0) A8 S6 (g_assign (by kernel_rfl)) rfl (fun ac A24 => ?_)
    refine wpList_nil ?_
    refine n_then ?_
    refine wp_ret ?_
    refine fin1 (.int .i64 0) Try.results50 A24 S6 (rv_tmp (by kernel_rfl)) ⟨?_, S6.kp⟩
    rw [hf, List.drop_of_length_le (by omega)]
    rfl

set_option maxRecDepth 100000 in
set_option maxHeartbeats 400000 in
theorem root1_s (r n : Int) (g0 : Nat) (w0 : World) (hb : Blk w0 g0 3 #[.int .i64 n]) (h0 : 0 ≤ r) (h1 : r ≤ 2147483648) :
    Calls Try.prog 69 #[.int .i64 r, .pointer (some ⟨g0, 0, none⟩)] w0 fun e w' => e = .returned (.bool (decide (r * r > n))) ∧ Below w0.heap.size w0 w' := by
  have S0 := St.start w0
  have S0 := S0.came hb (by simp)
  have q := sq_b (a := r) (b := 2147483648) (by omega)
  have q2 := sq_nn r
  refine enter (n := 9) Try.func69 rfl rfl rfl (fun ac A0 => ?_)
  refine wp_seq ?_
  refine wp_region_lit ?_
  refine s_one (.bool false) A0 S0 (g_assign (by kernel_rfl)) rfl (fun ac A1 => ?_)
  refine wpList_nil ?_
  refine n_then ?_
  refine wp_seq ?_
  refine wp_region_lit ?_
  refine s_one (.int .i64 r) A1 S0 (g_move (by kernel_rfl)) rfl (fun ac A2 => ?_)
  refine s_one (.int .i64 r) A2 S0 (g_move (by kernel_rfl)) rfl (fun ac A3 => ?_)
  refine s_one (.int .i64 (r * r)) A3 S0 (g_bin (u := .int .i64 r) (k := .int .i64 r) (by kernel_rfl) (by kernel_rfl) (fun _ => by kernel_rfl) (b_mul (by omega))) rfl (fun ac A4 => ?_)
  refine s_one (.int .i64 n) A4 S0 (g_load (g := g0) (off := 0) 0 (by kernel_rfl) rfl (by kernel_rfl)) rfl (fun ac A5 => ?_)
  refine s_one (.bool (decide (r * r > n))) A5 S0 (g_bin (u := .int .i64 (r * r)) (k := .int .i64 n) (by kernel_rfl) (by kernel_rfl) (fun _ => by kernel_rfl) (fun _ => by kernel_rfl)) rfl (fun ac A6 => ?_)
  refine s_one (.bool (decide (r * r > n))) A6 S0 (g_assign (by kernel_rfl)) rfl (fun ac A7 => ?_)
  refine wpList_nil ?_
  refine n_then ?_
  refine wp_ret ?_
  refine fin1 (.bool (decide (r * r > n))) Try.results69 A7 S0 (rv_tmp (by kernel_rfl)) ⟨?_, S0.kp⟩
  rfl

theorem rt_of {n i : Int} (h0 : 0 ≤ n) (h1 : n ≤ 100000000000000000) (hi : 0 ≤ i) (a : i = 0 ∨ (i - 1) * (i - 1) ≤ n) (b : i = 2147483648 ∨ i * i > n) : i = rt n + 1 := by
  have hr : IsRoot n (i - 1) := by
    rcases a with rfl | a
    · rcases b with b | b <;> omega
    · refine ⟨?_, a, ?_⟩
      · by_cases z : i = 0
        · subst z; rcases b with b | b <;> omega
        · omega
      · rcases b with rfl | b
        · omega
        · rw [show i - 1 + 1 = i by omega]; exact b
  rw [rt_eq hr]; omega
theorem src_y {n h : Int} (hh : ¬ h * h > n) : h + 1 = 0 ∨ (h + 1 - 1) * (h + 1 - 1) ≤ n := by rw [show h + 1 - 1 = h by omega]; omega

set_option maxRecDepth 100000 in
set_option maxHeartbeats 400000 in
theorem SearchR_s (n : Int) (g0 : Nat) (w0 : World) (hb : Blk w0 g0 3 #[.int .i64 n]) (h0 : 0 ≤ n) (h1 : n ≤ 100000000000000000) :
    Calls Try.prog 58 #[.int .i64 2147483648, .func (.func 69) #[] #[.pointer (some ⟨g0, 0, none⟩)]] w0 fun e w' => e = .returned (.int .i64 (rt n + 1)) ∧ Below w0.heap.size w0 w' := by
  have S0 := St.start w0
  have S0 := S0.came hb (by simp)
  refine enter (n := 26) Try.func58 rfl rfl rfl (fun ac A0 => ?_)
  refine wp_seq ?_
  refine wp_region_lit ?_
  refine s_one (.int .i64 0) A0 S0 (g_assign (by kernel_rfl)) rfl (fun ac A1 => ?_)
  refine wpList_nil ?_
  refine n_then ?_
  refine wp_seq ?_
  refine wp_region_lit ?_
  refine s_one (.int .i64 2147483648) A1 S0 (g_move (by kernel_rfl)) rfl (fun ac A2 => ?_)
  refine s_one (.int .i64 0) A2 S0 (g_assign (by kernel_rfl)) rfl (fun ac A3 => ?_)
  refine s_one (.int .i64 2147483648) A3 S0 (g_assign (by kernel_rfl)) rfl (fun ac A4 => ?_)
  refine wpList_nil ?_
  refine n_then ?_
  refine wp_seq ?_
  refine wp_block ?_
  refine c_loopN (fun mm ac wc => ∃ (i : Int) (j : Int), mm = (j - i).toNat ∧ (0 ≤ i ∧ i ≤ j) ∧ (j ≤ 2147483648) ∧ (i = 0 ∨ (i - 1) * (i - 1) ≤ n) ∧ (j = 2147483648 ∨ j * j > n) ∧ Fr 26 ac [(0, .int .i64 2147483648), (1, .func (.func 69) #[] #[.pointer (some ⟨g0, 0, none⟩)]), (4, .int .i64 0), (8, .int .i64 2147483648), (5, .int .i64 i), (6, .int .i64 j)] ∧ St w0 [⟨g0, 3, #[.int .i64 n], false⟩] [] wc) _ ⟨0, 2147483648, rfl, (by omega), (by omega), (.inl rfl), (.inl rfl), (A4.slot (A4.slot (A4.slot (A4.slot (A4.slot (A4.slot A4.nil (v := .int .i64 2147483648) (by kernel_rfl) (congrArg (Value.int .i64) (by omega))) (v := .int .i64 0) (by kernel_rfl) (congrArg (Value.int .i64) (by omega))) (v := .int .i64 2147483648) (by kernel_rfl) rfl) (v := .int .i64 0) (by kernel_rfl) rfl) (v := .func (.func 69) #[] #[.pointer (some ⟨g0, 0, none⟩)]) (by kernel_rfl) rfl) (v := .int .i64 2147483648) (by kernel_rfl) rfl), S0.sub sub_all sub_all⟩ ?_
  rintro mm ac wc ⟨i, j, hm7, h3, h4, ha, hc, A5, S6⟩
  refine wp_seq ?_
  refine wp_seq ?_
  refine wp_region_lit ?_
  refine s_one (.int .i64 i) A5 S6 (g_move (by kernel_rfl)) rfl (fun ac A8 => ?_)
  refine s_one (.int .i64 j) A8 S6 (g_move (by kernel_rfl)) rfl (fun ac A9 => ?_)
  refine s_one (.bool (decide (i < j))) A9 S6 (g_bin (u := .int .i64 i) (k := .int .i64 j) (by kernel_rfl) (by kernel_rfl) (fun _ => by kernel_rfl) (fun _ => by kernel_rfl)) rfl (fun ac A10 => ?_)
  refine wpList_nil ?_
  refine n_then ?_
  refine c_ifb (b := (decide (i < j))) A10 (by kernel_rfl) (fun h11 => ?_) (fun h11 => ?_)
  · have p12 := of_decide_eq_true h11
    refine wp_skip ?_
    refine n_then ?_
    refine wp_block ?_
    refine wp_seq ?_
    refine wp_region_lit ?_
    refine s_one (.int .i64 i) A10 S6 (g_move (by kernel_rfl)) rfl (fun ac A13 => ?_)
    refine s_one (.int .i64 j) A13 S6 (g_move (by kernel_rfl)) rfl (fun ac A14 => ?_)
    refine s_one (.int .i64 (i + j)) A14 S6 (g_bin (u := .int .i64 i) (k := .int .i64 j) (by kernel_rfl) (by kernel_rfl) (fun _ => by kernel_rfl) (b_add (by omega))) rfl (fun ac A15 => ?_)
    refine s_one (.int .u64 (i + j)) A15 S6 (g_conv (u := .int .i64 (i + j)) (by kernel_rfl) (cv_iu (by kernel_rfl) (by kernel_rfl) (by kernel_rfl) (by omega))) rfl (fun ac A16 => ?_)
    refine s_one (.int .u64 ((i + j) / 2)) A16 S6 (g_bin (u := .int .u64 (i + j)) (k := .int .u64 1) (by kernel_rfl) (by kernel_rfl) (fun _ => by kernel_rfl) u_shr1) rfl (fun ac A17 => ?_)
    refine s_one (.int .i64 ((i + j) / 2)) A17 S6 (g_conv (u := .int .u64 ((i + j) / 2)) (by kernel_rfl) (cv_ui (by kernel_rfl) (by kernel_rfl) (by kernel_rfl) (by omega))) rfl (fun ac A18 => ?_)
    refine s_one (.int .i64 ((i + j) / 2)) A18 S6 (g_assign (by kernel_rfl)) rfl (fun ac A19 => ?_)
    refine wpList_nil ?_
    refine n_then ?_
    refine wp_seq ?_
    refine wp_region_lit ?_
    refine s_one (.func (.func 69) #[] #[.pointer (some ⟨g0, 0, none⟩)]) A19 S6 (g_move (by kernel_rfl)) rfl (fun ac A20 => ?_)
    refine s_one (.int .i64 ((i + j) / 2)) A20 S6 (g_move (by kernel_rfl)) rfl (fun ac A21 => ?_)
    refine s_call (fs := #[]) (cp := #[.pointer (some ⟨g0, 0, none⟩)]) (r := [(0, .int .i64 ((i + j) / 2))]) #[.int .i64 ((i + j) / 2), .pointer (some ⟨g0, 0, none⟩)] (.bool (decide (((i + j) / 2) * ((i + j) / 2) > n))) A21 S6 (root1_s ((i + j) / 2) n g0 _ (S6.get 0 rfl) (by omega) (by omega)) Try.call69 (by kernel_rfl) (by kernel_rfl) (by kernel_rfl) rfl (fun ac wc A22 S23 => ?_)
    refine s_one (.bool (!(decide (((i + j) / 2) * ((i + j) / 2) > n)))) A22 S23 (g_un (u := .bool (decide (((i + j) / 2) * ((i + j) / 2) > n))) (by kernel_rfl) (fun _ => by kernel_rfl)) rfl (fun ac A25 => ?_)
    refine wpList_nil ?_
    refine n_then ?_
    refine c_ifb (b := (!(decide (((i + j) / 2) * ((i + j) / 2) > n)))) A25 (by kernel_rfl) (fun h26 => ?_) (fun h26 => ?_)
    · have h27 : decide (((i + j) / 2) * ((i + j) / 2) > n) = false := by simpa using h26
      have p28 := of_decide_eq_false h27
      refine wp_region_lit ?_
      refine s_one (.int .i64 ((i + j) / 2)) A25 S23 (g_move (by kernel_rfl)) rfl (fun ac A29 => ?_)
      refine s_one (.int .i64 ((i + j) / 2 + 1)) A29 S23 (g_bin (u := .int .i64 ((i + j) / 2)) (k := .int .i64 1) (by kernel_rfl) (by kernel_rfl) (fun _ => by kernel_rfl) (b_add (by omega))) rfl (fun ac A30 => ?_)
      refine s_one (.int .i64 ((i + j) / 2 + 1)) A30 S23 (g_assign (by kernel_rfl)) rfl (fun ac A31 => ?_)
      refine wpList_nil ?_
      refine n_block ?_
      refine n_then ?_
      refine ⟨_, ⟨(i + j) / 2 + 1, j, rfl, (by omega), (by omega), (src_y p28), hc, (A31.slot (A31.slot (A31.slot (A31.slot (A31.slot (A31.slot A31.nil (v := .int .i64 j) (by kernel_rfl) rfl) (v := .int .i64 ((i + j) / 2 + 1)) (by kernel_rfl) rfl) (v := .int .i64 2147483648) (by kernel_rfl) rfl) (v := .int .i64 0) (by kernel_rfl) rfl) (v := .func (.func 69) #[] #[.pointer (some ⟨g0, 0, none⟩)]) (by kernel_rfl) rfl) (v := .int .i64 2147483648) (by kernel_rfl) rfl), S23.sub sub_all sub_all⟩, ?_⟩
      omega
    · have h32 : decide (((i + j) / 2) * ((i + j) / 2) > n) = true := by simpa using h26
      have p33 := of_decide_eq_true h32
      refine wp_region_lit ?_
      refine s_one (.int .i64 ((i + j) / 2)) A25 S23 (g_move (by kernel_rfl)) rfl (fun ac A34 => ?_)
      refine s_one (.int .i64 ((i + j) / 2)) A34 S23 (g_assign (by kernel_rfl)) rfl (fun ac A35 => ?_)
      refine wpList_nil ?_
      refine n_block ?_
      refine n_then ?_
      refine ⟨_, ⟨i, (i + j) / 2, rfl, (by omega), (by omega), ha, (.inr p33), (A35.slot (A35.slot (A35.slot (A35.slot (A35.slot (A35.slot A35.nil (v := .int .i64 ((i + j) / 2)) (by kernel_rfl) rfl) (v := .int .i64 i) (by kernel_rfl) rfl) (v := .int .i64 2147483648) (by kernel_rfl) rfl) (v := .int .i64 0) (by kernel_rfl) rfl) (v := .func (.func 69) #[] #[.pointer (some ⟨g0, 0, none⟩)]) (by kernel_rfl) rfl) (v := .int .i64 2147483648) (by kernel_rfl) rfl), S23.sub sub_all sub_all⟩, ?_⟩
      omega
  · have p36 := of_decide_eq_false h11
    refine wp_exit ?_
    refine x_then ?_
    refine x_then ?_
    refine x_hit ?_
    refine n_then ?_
    refine wp_seq ?_
    refine wp_region_lit ?_
    refine s_one (.int .i64 i) A10 S6 (g_move (by kernel_rfl)) rfl (fun ac A37 => ?_)
    refine s_one (.int .i64 i) A37 S6 (g_assign (by kernel_rfl)) rfl (fun ac A38 => ?_)
    refine wpList_nil ?_
    refine n_then ?_
    refine wp_ret ?_
    refine fin1 (.int .i64 i) Try.results58 A38 S6 (rv_tmp (by kernel_rfl)) ⟨?_, S6.kp⟩
    obtain rfl : j = i := by omega
    rw [← rt_of h0 h1 h3.1 ha hc]

set_option maxRecDepth 100000 in
set_option maxHeartbeats 400000 in
theorem root_s (n : Int) (w0 : World) (h0 : 0 ≤ n) (h1 : n ≤ 100000000000000000) :
    Calls Try.prog 67 #[.int .i64 n] w0 fun e w' => e = .returned (.int .i64 (rt n)) ∧ Below w0.heap.size w0 w' := by
  have S0 := St.start w0
  have q := rt_nn h0
  have q2 := rt_bd (b := 1000000000) h0 (by omega) (by omega)
  refine enter (n := 6) Try.func67 rfl rfl rfl (fun ac A0 => ?_)
  refine wp_seq ?_
  refine wp_region_lit ?_
  refine s_box (.int .i64 n) A0 S0 (by kernel_rfl) rfl (fun g3 ac wc A1 S2 => ?_)
  replace S2 : St _ (⟨g3, 3, #[.int .i64 n], true⟩ :: _) _ _ := S2
  refine s_one (.int .i64 0) A1 S2 (g_assign (by kernel_rfl)) rfl (fun ac A5 => ?_)
  refine wpList_nil ?_
  refine n_then ?_
  refine wp_seq ?_
  refine wp_region_lit ?_
  refine s_one (.func (.func 69) #[] #[.pointer (some ⟨g3, 0, none⟩)]) A5 S2 (g_func (us := []) (vs := [(0, .pointer (some ⟨g3, 0, none⟩))]) (by kernel_rfl) (by kernel_rfl) (fun _ => by kernel_rfl)) rfl (fun ac A6 => ?_)
  refine s_call (fs := #[]) (cp := #[]) (r := [(0, .int .i64 2147483648), (0, .func (.func 69) #[] #[.pointer (some ⟨g3, 0, none⟩)])]) #[.int .i64 2147483648, .func (.func 69) #[] #[.pointer (some ⟨g3, 0, none⟩)]] (.int .i64 (rt n + 1)) A6 S2 (SearchR_s n g3 _ (S2.get 0 rfl) h0 h1) Try.call58 (by kernel_rfl) (by kernel_rfl) (by kernel_rfl) rfl (fun ac wc A7 S8 => ?_)
  refine s_one (.int .i64 (rt n + 1 - 1)) A7 S8 (g_bin (u := .int .i64 (rt n + 1)) (k := .int .i64 1) (by kernel_rfl) (by kernel_rfl) (fun _ => by kernel_rfl) (b_sub (by omega))) rfl (fun ac A10 => ?_)
  refine s_one (.int .i64 (rt n + 1 - 1)) A10 S8 (g_assign (by kernel_rfl)) rfl (fun ac A11 => ?_)
  refine wpList_nil ?_
  refine n_then ?_
  refine wp_ret ?_
  refine fin1 (.int .i64 (rt n + 1 - 1)) Try.results67 A11 S8 (rv_tmp (by kernel_rfl)) ⟨?_, S8.kp⟩
  rw [show rt n + 1 - 1 = rt n by omega]

def pw (k : Nat) : Int := if k = 0 then 0 else 2 ^ (k - 1)
theorem pw_half (k : Nat) : (pw (k + 1)).tdiv 2 = pw k := by
  unfold pw
  rw [if_neg (by omega), Nat.add_sub_cancel]
  match k with
  | 0 => rfl
  | k + 1 => rw [if_neg (by omega), Nat.add_sub_cancel, Int.pow_succ, Int.mul_tdiv_cancel _ (by omega)]
theorem pw_bd {k : Nat} (h : k ≤ 31) : 0 ≤ pw k ∧ pw k ≤ 1073741824 := by
  unfold pw
  split
  · omega
  · have h1 : (0 : Int) < 2 ^ (k - 1) := Int.pow_pos (by omega)
    have h2 : (2 : Nat) ^ (k - 1) ≤ 2 ^ 30 := Nat.pow_le_pow_right (by omega) (by omega)
    have h3 : ((2 ^ (k - 1) : Nat) : Int) = (2 : Int) ^ (k - 1) := by rw [Int.natCast_pow]; rfl
    omega
theorem pw_pos {k : Nat} (h : pw k > 0) : ∃ j, k = j + 1 := by
  match k with
  | 0 => simp [pw] at h
  | j + 1 => exact ⟨j, rfl⟩
theorem pw_two (k : Nat) : (2 : Int) ^ (k + 1) = pw (k + 1) + 2 ^ k := by
  unfold pw
  rw [if_neg (by omega), Nat.add_sub_cancel, Int.pow_succ]
  omega
theorem two_pos (k : Nat) : (0 : Int) < 2 ^ k := Int.pow_pos (by omega)
theorem rt_end {n r : Int} {k : Nat} (h0 : 0 ≤ r) (h1 : r * r ≤ n) (h2 : n < (r + 2 ^ k) * (r + 2 ^ k)) (hk : ¬ pw k > 0) : r = rt n := by
  have e : k = 0 := by
    match k with
    | 0 => rfl
    | k + 1 => have := two_pos k; have := pw_two k; unfold pw at *; rw [if_neg (by omega), Nat.add_sub_cancel] at *; omega
  subst e
  rw [rt_eq ⟨h0, h1, by simpa using h2⟩]

theorem pw_2 (k : Nat) : k = 0 ∨ (2 : Int) ^ k = 2 * pw k := by
  match k with
  | 0 => exact .inl rfl
  | k + 1 => right; unfold pw; rw [if_neg (by omega), Nat.add_sub_cancel, Int.pow_succ]; omega
theorem root_n {n r : Int} {k : Nat} (h : ¬ (r + pw (k + 1)) * (r + pw (k + 1)) ≤ n) : n < (r + 2 ^ k) * (r + 2 ^ k) := by
  have : pw (k + 1) = 2 ^ k := by unfold pw; rw [if_neg (by omega), Nat.add_sub_cancel]
  rw [this] at h; omega

end Go.Proofs.Ytfeapeblnnmhlaa
