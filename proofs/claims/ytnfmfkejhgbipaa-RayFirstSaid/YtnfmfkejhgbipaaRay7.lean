/- Fractions of chapter 1; awake. -/
import Derived.Test.YtnfmfkejhgbipaaRay6
namespace Go.Proofs.Ytnfmfkejhgbipaa
open Go.RowKit Go.Cpl Go.Ray1

/-- Euclid's way, with the code's remainders. -/
def euc (a b : Int) : Int := if _h : b = 0 then a else euc b (a.tmod b)
termination_by b.natAbs
decreasing_by
  have := Int.natAbs_tmod a b
  have := Nat.mod_lt a.natAbs (Int.natAbs_pos.2 _h)
  omega
theorem euc_zero (a : Int) : euc a 0 = a := by rw [euc, dif_pos rfl]
theorem euc_step {a b : Int} (h : b ≠ 0) : euc a b = euc b (a.tmod b) := by rw [euc, dif_neg h]
theorem rem_less {a b : Int} (h : b ≠ 0) : (a.tmod b).natAbs < b.natAbs := by
  have := Int.natAbs_tmod a b
  have := Nat.mod_lt a.natAbs (Int.natAbs_pos.2 h)
  omega
theorem euc_le : ∀ (n : Nat) (a b : Int), b.natAbs ≤ n → b ≠ 0 → (euc a b).natAbs ≤ b.natAbs ∧ euc a b ≠ 0
  | 0, a, b, h, h0 => by omega
  | n + 1, a, b, h, h0 => by
    rw [euc_step h0]
    have := rem_less (a := a) h0
    by_cases e : a.tmod b = 0
    · rw [e, euc_zero]; omega
    · have := euc_le n b (a.tmod b) (by omega) e; omega
def gcdE (p q : Int) : Int := mx (euc p q) (-euc p q)
theorem gcdE_bd {p q : Int} (h : 1 ≤ q) : 1 ≤ gcdE p q ∧ gcdE p q ≤ q := by
  have := euc_le q.natAbs p q (Nat.le_refl _) (by omega)
  unfold gcdE; rw [mx_eq]; omega

set_option maxRecDepth 100000 in
set_option maxHeartbeats 400000 in
theorem divisor_s (p q : Int) (w0 : World) (h1 : 1 ≤ q) (h2 : q ≤ 9223372036854775807) :
    Calls Try.prog 123 #[.int .i64 p, .int .i64 q] w0 fun e w' => e = .returned (.int .i64 (gcdE p q)) ∧ Below w0.heap.size w0 w' := by
  have S0 := St.start w0
  refine enter (n := 13) Try.func123 rfl rfl rfl (fun ac A0 => ?_)
  refine wp_seq ?_
  refine wp_region_lit ?_
  refine s_one (.int .i64 0) A0 S0 (g_assign (by kernel_rfl)) rfl (fun ac A1 => ?_)
  refine wpList_nil ?_
  refine n_then ?_
  refine wp_seq ?_
  refine wp_block ?_
  refine c_loopN (fun mm ac wc => ∃ (a : Int) (b : Int), mm = b.natAbs ∧ (euc a b = euc p q) ∧ Fr 13 ac [(4, .int .i64 0), (0, .int .i64 a), (1, .int .i64 b)] ∧ St w0 [] [] wc) _ ⟨p, q, rfl, rfl, (A1.slot (A1.slot (A1.slot A1.nil (v := .int .i64 q) (by kernel_rfl) (congrArg (Value.int .i64) (by omega))) (v := .int .i64 p) (by kernel_rfl) (congrArg (Value.int .i64) (by omega))) (v := .int .i64 0) (by kernel_rfl) rfl), S0.sub sub_all sub_all⟩ ?_
  rintro mm ac wc ⟨a, b, hm4, he, A2, S3⟩
  refine wp_seq ?_
  refine wp_seq ?_
  refine wp_region_lit ?_
  refine s_one (.int .i64 b) A2 S3 (g_move (by kernel_rfl)) rfl (fun ac A5 => ?_)
  refine s_one (.bool (decide (b ≠ 0))) A5 S3 (g_bin (u := .int .i64 b) (k := .int .i64 0) (by kernel_rfl) (by kernel_rfl) (fun _ => by kernel_rfl) b_neq) rfl (fun ac A6 => ?_)
  refine wpList_nil ?_
  refine n_then ?_
  refine c_ifb (b := (decide (b ≠ 0))) A6 (by kernel_rfl) (fun h7 => ?_) (fun h7 => ?_)
  · have p8 := of_decide_eq_true h7
    refine wp_skip ?_
    refine n_then ?_
    refine wp_block ?_
    refine r_begin (w0 := w0) (by kernel_rfl) (S3.sub sub_all sub_all) (fun wc T9 B10 => ?_)
    have S11 := S3.kept B10
    refine r_take 0 (.int .i64 b) A6 T9 (g_move (by kernel_rfl)) rfl rfl rfl (pf_block (pf_then (pf_block (pf_then pf_body)))) (by kernel_rfl) (fun ac A12 => ?_)
    refine r_take 1 (.int .i64 a) A12 T9 (g_move (by kernel_rfl)) rfl rfl rfl (pf_block (pf_then (pf_block (pf_then pf_body)))) (by kernel_rfl) (fun ac A13 => ?_)
    refine r_take 2 (.int .i64 b) A13 T9 (g_move (by kernel_rfl)) rfl rfl rfl (pf_block (pf_then (pf_block (pf_then pf_body)))) (by kernel_rfl) (fun ac A14 => ?_)
    refine r_take 3 (.int .i64 ((a).tmod b)) A14 T9 (g_bin (u := .int .i64 a) (k := .int .i64 b) (by kernel_rfl) (by kernel_rfl) (fun _ => by kernel_rfl) (b_rem (by omega))) rfl rfl rfl (pf_block (pf_then (pf_block (pf_then pf_body)))) (by kernel_rfl) (fun ac A15 => ?_)
    refine r_take 4 (.int .i64 b) A15 T9 (g_assign (by kernel_rfl)) rfl rfl rfl (pf_block (pf_then (pf_block (pf_then pf_body)))) (by kernel_rfl) (fun ac A16 => ?_)
    refine r_take 5 (.int .i64 ((a).tmod b)) A16 T9 (g_assign (by kernel_rfl)) rfl rfl rfl (pf_block (pf_then (pf_block (pf_then pf_body)))) (by kernel_rfl) (fun ac A17 => ?_)
    refine r_done (by kernel_rfl) ?_
    refine n_block ?_
    refine n_then ?_
    refine ⟨_, ⟨b, a.tmod b, rfl, (by rw [← he, euc_step (a := a) (by assumption)]), (A17.slot (A17.slot (A17.slot A17.nil (v := .int .i64 ((a).tmod b)) (by kernel_rfl) (congrArg (Value.int .i64) (by omega))) (v := .int .i64 b) (by kernel_rfl) rfl) (v := .int .i64 0) (by kernel_rfl) rfl), S11.sub sub_all sub_all⟩, ?_⟩
    have := rem_less (a := a) (b := b) (by assumption); omega
  · have p18 := of_decide_eq_false h7
    refine wp_exit ?_
    refine x_then ?_
    refine x_then ?_
    refine x_hit ?_
    refine n_then ?_
    refine wp_seq ?_
    obtain rfl : b = 0 := by omega
    rw [euc_zero] at he
    subst he
    have hE := euc_le q.natAbs p q (Nat.le_refl _) (by omega)
    refine wp_region_lit ?_
    refine s_one (.int .i64 (euc p q)) A6 S3 (g_move (by kernel_rfl)) rfl (fun ac A19 => ?_)
    refine s_call (fs := #[]) (cp := #[]) (r := [(0, .int .i64 (euc p q))]) #[.int .i64 (euc p q)] (.int .i64 (mx (euc p q) (-(euc p q)))) A19 S3 (size_s (euc p q) _ (by omega) (by omega)) Try.call109 (by kernel_rfl) (by kernel_rfl) (by kernel_rfl) rfl (fun ac wc A20 S21 => ?_)
    refine s_one (.int .i64 (mx (euc p q) (-(euc p q)))) A20 S21 (g_assign (by kernel_rfl)) rfl (fun ac A23 => ?_)
    refine wpList_nil ?_
    refine n_then ?_
    refine wp_ret ?_
    refine fin1 (.int .i64 (mx (euc p q) (-(euc p q)))) Try.results123 A23 S21 (rv_tmp (by kernel_rfl)) ⟨?_, S21.kp⟩
    rfl

set_option maxRecDepth 100000 in
set_option maxHeartbeats 400000 in
theorem Gcd_s (p q : Int) (w0 : World) (h1 : 1 ≤ q) (h2 : q ≤ 9223372036854775807) :
    Calls Try.prog 127 #[.int .i64 p, .int .i64 q] w0 fun e w' => e = .returned (.int .i64 (gcdE p q)) ∧ Below w0.heap.size w0 w' := by
  have S0 := St.start w0
  refine enter (n := 13) Try.func127 rfl rfl rfl (fun ac A0 => ?_)
  refine wp_seq ?_
  refine wp_region_lit ?_
  refine s_one (.int .i64 0) A0 S0 (g_assign (by kernel_rfl)) rfl (fun ac A1 => ?_)
  refine wpList_nil ?_
  refine n_then ?_
  refine wp_seq ?_
  refine wp_block ?_
  refine c_loopN (fun mm ac wc => ∃ (a : Int) (b : Int), mm = b.natAbs ∧ (euc a b = euc p q) ∧ Fr 13 ac [(4, .int .i64 0), (0, .int .i64 a), (1, .int .i64 b)] ∧ St w0 [] [] wc) _ ⟨p, q, rfl, rfl, (A1.slot (A1.slot (A1.slot A1.nil (v := .int .i64 q) (by kernel_rfl) (congrArg (Value.int .i64) (by omega))) (v := .int .i64 p) (by kernel_rfl) (congrArg (Value.int .i64) (by omega))) (v := .int .i64 0) (by kernel_rfl) rfl), S0.sub sub_all sub_all⟩ ?_
  rintro mm ac wc ⟨a, b, hm4, he, A2, S3⟩
  refine wp_seq ?_
  refine wp_seq ?_
  refine wp_region_lit ?_
  refine s_one (.int .i64 b) A2 S3 (g_move (by kernel_rfl)) rfl (fun ac A5 => ?_)
  refine s_one (.bool (decide (b ≠ 0))) A5 S3 (g_bin (u := .int .i64 b) (k := .int .i64 0) (by kernel_rfl) (by kernel_rfl) (fun _ => by kernel_rfl) b_neq) rfl (fun ac A6 => ?_)
  refine wpList_nil ?_
  refine n_then ?_
  refine c_ifb (b := (decide (b ≠ 0))) A6 (by kernel_rfl) (fun h7 => ?_) (fun h7 => ?_)
  · have p8 := of_decide_eq_true h7
    refine wp_skip ?_
    refine n_then ?_
    refine wp_block ?_
    refine r_begin (w0 := w0) (by kernel_rfl) (S3.sub sub_all sub_all) (fun wc T9 B10 => ?_)
    have S11 := S3.kept B10
    refine r_take 0 (.int .i64 b) A6 T9 (g_move (by kernel_rfl)) rfl rfl rfl (pf_block (pf_then (pf_block (pf_then pf_body)))) (by kernel_rfl) (fun ac A12 => ?_)
    refine r_take 1 (.int .i64 a) A12 T9 (g_move (by kernel_rfl)) rfl rfl rfl (pf_block (pf_then (pf_block (pf_then pf_body)))) (by kernel_rfl) (fun ac A13 => ?_)
    refine r_take 2 (.int .i64 b) A13 T9 (g_move (by kernel_rfl)) rfl rfl rfl (pf_block (pf_then (pf_block (pf_then pf_body)))) (by kernel_rfl) (fun ac A14 => ?_)
    refine r_take 3 (.int .i64 ((a).tmod b)) A14 T9 (g_bin (u := .int .i64 a) (k := .int .i64 b) (by kernel_rfl) (by kernel_rfl) (fun _ => by kernel_rfl) (b_rem (by omega))) rfl rfl rfl (pf_block (pf_then (pf_block (pf_then pf_body)))) (by kernel_rfl) (fun ac A15 => ?_)
    refine r_take 4 (.int .i64 b) A15 T9 (g_assign (by kernel_rfl)) rfl rfl rfl (pf_block (pf_then (pf_block (pf_then pf_body)))) (by kernel_rfl) (fun ac A16 => ?_)
    refine r_take 5 (.int .i64 ((a).tmod b)) A16 T9 (g_assign (by kernel_rfl)) rfl rfl rfl (pf_block (pf_then (pf_block (pf_then pf_body)))) (by kernel_rfl) (fun ac A17 => ?_)
    refine r_done (by kernel_rfl) ?_
    refine n_block ?_
    refine n_then ?_
    refine ⟨_, ⟨b, a.tmod b, rfl, (by rw [← he, euc_step (a := a) (by assumption)]), (A17.slot (A17.slot (A17.slot A17.nil (v := .int .i64 ((a).tmod b)) (by kernel_rfl) (congrArg (Value.int .i64) (by omega))) (v := .int .i64 b) (by kernel_rfl) rfl) (v := .int .i64 0) (by kernel_rfl) rfl), S11.sub sub_all sub_all⟩, ?_⟩
    have := rem_less (a := a) (b := b) (by assumption); omega
  · have p18 := of_decide_eq_false h7
    refine wp_exit ?_
    refine x_then ?_
    refine x_then ?_
    refine x_hit ?_
    refine n_then ?_
    refine wp_seq ?_
    obtain rfl : b = 0 := by omega
    rw [euc_zero] at he
    subst he
    have hE := euc_le q.natAbs p q (Nat.le_refl _) (by omega)
    refine wp_region_lit ?_
    refine s_one (.int .i64 (euc p q)) A6 S3 (g_move (by kernel_rfl)) rfl (fun ac A19 => ?_)
    refine s_call (fs := #[]) (cp := #[]) (r := [(0, .int .i64 (euc p q))]) #[.int .i64 (euc p q)] (.int .i64 (mx (euc p q) (-(euc p q)))) A19 S3 (Size_s (euc p q) _ (by omega) (by omega)) Try.call112 (by kernel_rfl) (by kernel_rfl) (by kernel_rfl) rfl (fun ac wc A20 S21 => ?_)
    refine s_one (.int .i64 (mx (euc p q) (-(euc p q)))) A20 S21 (g_assign (by kernel_rfl)) rfl (fun ac A23 => ?_)
    refine wpList_nil ?_
    refine n_then ?_
    refine wp_ret ?_
    refine fin1 (.int .i64 (mx (euc p q) (-(euc p q)))) Try.results127 A23 S21 (rv_tmp (by kernel_rfl)) ⟨?_, S21.kp⟩
    rfl

set_option maxRecDepth 100000 in
set_option maxHeartbeats 400000 in
theorem lowest_s (p q : Int) (w0 : World) (h0 : -9223372036854775807 ≤ p) (h1 : p ≤ 9223372036854775807) (h2 : 1 ≤ q) (h3 : q ≤ 9223372036854775807) :
    Calls Try.prog 100 #[.int .i64 p, .int .i64 q] w0 fun e w' => e = .returned (.agg #[.int .i64 ((p).tdiv (gcdE p q)), .int .i64 ((q).tdiv (gcdE p q))]) ∧ Below w0.heap.size w0 w' := by
  have S0 := St.start w0
  refine enter (n := 16) Try.func100 rfl rfl rfl (fun ac A0 => ?_)
  refine wp_seq ?_
  refine wp_region_lit ?_
  refine s_alloc (#[.int .i64 0, .int .i64 0]) A0 S0 (by kernel_rfl) rfl (fun g3 ac wc A1 S2 => ?_)
  refine wpList_nil ?_
  refine n_then ?_
  refine wp_seq ?_
  refine wp_region_lit ?_
  refine s_one (.int .i64 p) A1 S2 (g_move (by kernel_rfl)) rfl (fun ac A4 => ?_)
  refine s_one (.int .i64 q) A4 S2 (g_move (by kernel_rfl)) rfl (fun ac A5 => ?_)
  have q9 := gcdE_bd (p := p) (q := q) (by omega)
  refine s_call (fs := #[]) (cp := #[]) (r := [(0, .int .i64 p), (0, .int .i64 q)]) #[.int .i64 p, .int .i64 q] (.int .i64 (gcdE p q)) A5 S2 (divisor_s p q _ (by omega) (by omega)) Try.call123 (by kernel_rfl) (by kernel_rfl) (by kernel_rfl) rfl (fun ac wc A6 S7 => ?_)
  refine s_one (.int .i64 (gcdE p q)) A6 S7 (g_assign (by kernel_rfl)) rfl (fun ac A10 => ?_)
  refine wpList_nil ?_
  refine n_then ?_
  refine wp_seq ?_
  refine r_begin (w0 := w0) (by kernel_rfl) (S7.sub sub_nil sub_all) (fun wc T11 B12 => ?_)
  have S13 := S7.kept B12
  refine r_take 0 (.int .i64 p) A10 T11 (g_move (by kernel_rfl)) rfl rfl rfl (pf_then pf_body) (by kernel_rfl) (fun ac A14 => ?_)
  refine r_take 1 (.int .i64 (gcdE p q)) A14 T11 (g_move (by kernel_rfl)) rfl rfl rfl (pf_then pf_body) (by kernel_rfl) (fun ac A15 => ?_)
  refine r_take 2 (.int .i64 ((p).tdiv (gcdE p q))) A15 T11 (g_bin (u := .int .i64 p) (k := .int .i64 (gcdE p q)) (by kernel_rfl) (by kernel_rfl) (fun _ => by kernel_rfl) (b_quo (by omega) (td_bd (by omega) (by omega) (by omega)))) rfl rfl rfl (pf_then pf_body) (by kernel_rfl) (fun ac A16 => ?_)
  refine r_take 3 (.int .i64 q) A16 T11 (g_move (by kernel_rfl)) rfl rfl rfl (pf_then pf_body) (by kernel_rfl) (fun ac A17 => ?_)
  refine r_take 4 (.int .i64 (gcdE p q)) A17 T11 (g_move (by kernel_rfl)) rfl rfl rfl (pf_then pf_body) (by kernel_rfl) (fun ac A18 => ?_)
  refine r_take 5 (.int .i64 ((q).tdiv (gcdE p q))) A18 T11 (g_bin (u := .int .i64 q) (k := .int .i64 (gcdE p q)) (by kernel_rfl) (by kernel_rfl) (fun _ => by kernel_rfl) (b_quo (by omega) (td_bd (by omega) (by omega) (by omega)))) rfl rfl rfl (pf_then pf_body) (by kernel_rfl) (fun ac A19 => ?_)
  refine r_take 6 (.agg #[.int .i64 ((p).tdiv (gcdE p q)), .int .i64 ((q).tdiv (gcdE p q))]) A19 T11 (g_build (r := [(0, .int .i64 ((p).tdiv (gcdE p q))), (1, .int .i64 ((q).tdiv (gcdE p q)))]) (by kernel_rfl) (fun _ => by kernel_rfl)) rfl rfl rfl (pf_then pf_body) (by kernel_rfl) (fun ac A20 => ?_)
  refine r_1 (i := 7) (by kernel_rfl) ?_
  refine rs_store (g := g3) (off := 0) (v := .agg #[.int .i64 ((p).tdiv (gcdE p q)), .int .i64 ((q).tdiv (gcdE p q))]) 0 (#[.int .i64 ((p).tdiv (gcdE p q)), .int .i64 ((q).tdiv (gcdE p q))]) A20 S13 sub_nil sub_all (by kernel_rfl) (by kernel_rfl) rfl (by kernel_rfl) rfl rfl (fun wc S22 => ?_)
  have T24 := S22.sub sub_nil sub_all
  refine r_done (by kernel_rfl) ?_
  refine n_then ?_
  refine wp_ret ?_
  refine fin1 (.agg #[.int .i64 ((p).tdiv (gcdE p q)), .int .i64 ((q).tdiv (gcdE p q))]) Try.results100 A20 S22 (rv_cell (g := g3) (off := 0) 0 (by kernel_rfl) rfl (by kernel_rfl)) ⟨?_, S22.kp⟩
  rfl

set_option maxRecDepth 100000 in
set_option maxHeartbeats 400000 in
theorem Lowest_s (p q : Int) (w0 : World) (h0 : -9223372036854775807 ≤ p) (h1 : p ≤ 9223372036854775807) (h2 : 1 ≤ q) (h3 : q ≤ 9223372036854775807) :
    Calls Try.prog 113 #[.int .i64 p, .int .i64 q] w0 fun e w' => e = .returned (.agg #[.int .i64 ((p).tdiv (gcdE p q)), .int .i64 ((q).tdiv (gcdE p q))]) ∧ Below w0.heap.size w0 w' := by
  have S0 := St.start w0
  refine enter (n := 20) Try.func113 rfl rfl rfl (fun ac A0 => ?_)
  refine wp_seq ?_
  refine wp_region_lit ?_
  refine s_alloc (#[.int .i64 0, .int .i64 0]) A0 S0 (by kernel_rfl) rfl (fun g3 ac wc A1 S2 => ?_)
  refine wpList_nil ?_
  refine n_then ?_
  refine wp_seq ?_
  refine wp_region_lit ?_
  refine s_one (.int .i64 p) A1 S2 (g_move (by kernel_rfl)) rfl (fun ac A4 => ?_)
  refine s_one (.int .i64 q) A4 S2 (g_move (by kernel_rfl)) rfl (fun ac A5 => ?_)
  have q9 := gcdE_bd (p := p) (q := q) (by omega)
  refine s_call (fs := #[]) (cp := #[]) (r := [(0, .int .i64 p), (0, .int .i64 q)]) #[.int .i64 p, .int .i64 q] (.int .i64 (gcdE p q)) A5 S2 (Gcd_s p q _ (by omega) (by omega)) Try.call127 (by kernel_rfl) (by kernel_rfl) (by kernel_rfl) rfl (fun ac wc A6 S7 => ?_)
  refine s_one (.int .i64 (gcdE p q)) A6 S7 (g_assign (by kernel_rfl)) rfl (fun ac A10 => ?_)
  refine wpList_nil ?_
  refine n_then ?_
  refine wp_seq ?_
  refine wp_seq ?_
  refine wp_region_lit ?_
  refine s_one (.int .i64 q) A10 S7 (g_move (by kernel_rfl)) rfl (fun ac A11 => ?_)
  refine s_one (.bool (decide (q < 0))) A11 S7 (g_bin (u := .int .i64 q) (k := .int .i64 0) (by kernel_rfl) (by kernel_rfl) (fun _ => by kernel_rfl) (fun _ => by kernel_rfl)) rfl (fun ac A12 => ?_)
  refine wpList_nil ?_
  refine n_then ?_
  refine c_f (b := (decide (q < 0))) A12 (by kernel_rfl) (decide_eq_false (by omega)) ?_
  refine wp_skip ?_
  refine n_then ?_
  refine wp_seq ?_
  refine r_begin (w0 := w0) (by kernel_rfl) (S7.sub sub_nil sub_all) (fun wc T13 B14 => ?_)
  have S15 := S7.kept B14
  refine r_take 0 (.int .i64 p) A12 T13 (g_move (by kernel_rfl)) rfl rfl rfl (pf_then pf_body) (by kernel_rfl) (fun ac A16 => ?_)
  refine r_take 1 (.int .i64 (gcdE p q)) A16 T13 (g_move (by kernel_rfl)) rfl rfl rfl (pf_then pf_body) (by kernel_rfl) (fun ac A17 => ?_)
  refine r_take 2 (.int .i64 ((p).tdiv (gcdE p q))) A17 T13 (g_bin (u := .int .i64 p) (k := .int .i64 (gcdE p q)) (by kernel_rfl) (by kernel_rfl) (fun _ => by kernel_rfl) (b_quo (by omega) (td_bd (by omega) (by omega) (by omega)))) rfl rfl rfl (pf_then pf_body) (by kernel_rfl) (fun ac A18 => ?_)
  refine r_take 3 (.int .i64 q) A18 T13 (g_move (by kernel_rfl)) rfl rfl rfl (pf_then pf_body) (by kernel_rfl) (fun ac A19 => ?_)
  refine r_take 4 (.int .i64 (gcdE p q)) A19 T13 (g_move (by kernel_rfl)) rfl rfl rfl (pf_then pf_body) (by kernel_rfl) (fun ac A20 => ?_)
  refine r_take 5 (.int .i64 ((q).tdiv (gcdE p q))) A20 T13 (g_bin (u := .int .i64 q) (k := .int .i64 (gcdE p q)) (by kernel_rfl) (by kernel_rfl) (fun _ => by kernel_rfl) (b_quo (by omega) (td_bd (by omega) (by omega) (by omega)))) rfl rfl rfl (pf_then pf_body) (by kernel_rfl) (fun ac A21 => ?_)
  refine r_take 6 (.agg #[.int .i64 ((p).tdiv (gcdE p q)), .int .i64 ((q).tdiv (gcdE p q))]) A21 T13 (g_build (r := [(0, .int .i64 ((p).tdiv (gcdE p q))), (1, .int .i64 ((q).tdiv (gcdE p q)))]) (by kernel_rfl) (fun _ => by kernel_rfl)) rfl rfl rfl (pf_then pf_body) (by kernel_rfl) (fun ac A22 => ?_)
  refine r_1 (i := 7) (by kernel_rfl) ?_
  refine rs_store (g := g3) (off := 0) (v := .agg #[.int .i64 ((p).tdiv (gcdE p q)), .int .i64 ((q).tdiv (gcdE p q))]) 0 (#[.int .i64 ((p).tdiv (gcdE p q)), .int .i64 ((q).tdiv (gcdE p q))]) A22 S15 sub_nil sub_all (by kernel_rfl) (by kernel_rfl) rfl (by kernel_rfl) rfl rfl (fun wc S24 => ?_)
  have T26 := S24.sub sub_nil sub_all
  refine r_done (by kernel_rfl) ?_
  refine n_then ?_
  refine wp_ret ?_
  refine fin1 (.agg #[.int .i64 ((p).tdiv (gcdE p q)), .int .i64 ((q).tdiv (gcdE p q))]) Try.results113 A22 S24 (rv_cell (g := g3) (off := 0) 0 (by kernel_rfl) rfl (by kernel_rfl)) ⟨?_, S24.kp⟩
  rfl

def csE (a b : Int) : Int := firstOf [veE a, veE b, must_a_r (decide (a < b)) 12]
theorem csE_0 {a b : Int} (h : csE a b = 0) : (500 ≤ a ∧ a ≤ 10000) ∧ (500 ≤ b ∧ b ≤ 10000) ∧ a < b := by
  obtain ⟨h1, h⟩ := fo_zero h
  obtain ⟨h2, h⟩ := fo_zero h
  rw [fo_last] at h
  exact ⟨veE_0 h1, veE_0 h2, of_decide_eq_true (must_0 (by decide) h)⟩

set_option maxRecDepth 100000 in
set_option maxHeartbeats 400000 in
theorem CriticalSquare_s (a b : Int) (w0 : World) :
    Calls Try.prog 67 #[.int .i64 a, .int .i64 b] w0 fun e w' => e = .returned (.tuple #[.agg #[.int .i64 (zv (csE a b) ((a * a).tdiv (gcdE (a * a) (b * b)))), .int .i64 (zv (csE a b) ((b * b).tdiv (gcdE (a * a) (b * b))))], .int .i64 (csE a b)]) ∧ Below w0.heap.size w0 w' := by
  have S0 := St.start w0
  refine enter (n := 28) Try.func67 rfl rfl rfl (fun ac A0 => ?_)
  refine wp_seq ?_
  refine wp_region_lit ?_
  refine s_alloc (#[.int .i64 0, .int .i64 0]) A0 S0 (by kernel_rfl) rfl (fun g3 ac wc A1 S2 => ?_)
  refine s_one (.int .i64 0) A1 S2 (g_assign (by kernel_rfl)) rfl (fun ac A4 => ?_)
  refine wpList_nil ?_
  refine n_then ?_
  refine wp_seq ?_
  refine wp_seq ?_
  refine wp_region_lit ?_
  refine s_one (.int .i64 a) A4 S2 (g_move (by kernel_rfl)) rfl (fun ac A5 => ?_)
  refine s_call (fs := #[]) (cp := #[]) (r := [(0, .int .i64 a)]) #[.int .i64 a] (.int .i64 (veE a)) A5 S2 (speedErr_s a _) Try.call85 (by kernel_rfl) (by kernel_rfl) (by kernel_rfl) rfl (fun ac wc A6 S7 => ?_)
  refine s_one (.int .i64 b) A6 S7 (g_move (by kernel_rfl)) rfl (fun ac A9 => ?_)
  refine s_call (fs := #[]) (cp := #[]) (r := [(0, .int .i64 b)]) #[.int .i64 b] (.int .i64 (veE b)) A9 S7 (speedErr_s b _) Try.call85 (by kernel_rfl) (by kernel_rfl) (by kernel_rfl) rfl (fun ac wc A10 S11 => ?_)
  refine s_one (.int .i64 a) A10 S11 (g_move (by kernel_rfl)) rfl (fun ac A13 => ?_)
  refine s_one (.int .i64 b) A13 S11 (g_move (by kernel_rfl)) rfl (fun ac A14 => ?_)
  refine s_one (.bool (decide (a < b))) A14 S11 (g_bin (u := .int .i64 a) (k := .int .i64 b) (by kernel_rfl) (by kernel_rfl) (fun _ => by kernel_rfl) (fun _ => by kernel_rfl)) rfl (fun ac A15 => ?_)
  refine s_call (fs := #[]) (cp := #[]) (r := [(0, .bool (decide (a < b))), (0, .int .i64 12)]) #[.bool (decide (a < b)), .int .i64 12] (.int .i64 (must_a_r (decide (a < b)) 12)) A15 S11 (must_a (decide (a < b)) 12 _) Try.call88 (by kernel_rfl) (by kernel_rfl) (by kernel_rfl) rfl (fun ac wc A16 S17 => ?_)
  refine s_bs (e := 25) (r := [(0, .int .i64 (veE a)), (1, .int .i64 (veE b)), (2, .int .i64 (must_a_r (decide (a < b)) 12))]) (#[.int .i64 (veE a), .int .i64 (veE b), .int .i64 (must_a_r (decide (a < b)) 12)]) A16 S17 (by kernel_rfl) (by kernel_rfl) rfl (fun g21 ac wc A19 S20 => ?_)
  refine s_call (fs := #[]) (cp := #[]) (r := [(0, .slice (some ⟨g21, 0, none⟩) 3 3)]) #[.slice (some ⟨g21, 0, none⟩) 3 3] (.int .i64 (firstOf [veE a, veE b, (must_a_r (decide (a < b)) 12)])) A19 S20 (first_s g21 ([veE a, veE b, (must_a_r (decide (a < b)) 12)]) 3 3 _ (S20.get 0 rfl) rfl (by omega)) Try.call83 (by kernel_rfl) (by kernel_rfl) (by kernel_rfl) rfl (fun ac wc A22 S23 => ?_)
  refine s_one (.int .i64 (firstOf [veE a, veE b, (must_a_r (decide (a < b)) 12)])) A22 S23 (g_assign (by kernel_rfl)) rfl (fun ac A25 => ?_)
  refine wpList_nil ?_
  refine n_then ?_
  refine wp_seq ?_
  refine wp_region_lit ?_
  refine s_one (.int .i64 (firstOf [veE a, veE b, (must_a_r (decide (a < b)) 12)])) A25 S23 (g_move (by kernel_rfl)) rfl (fun ac A26 => ?_)
  refine s_one (.bool (decide (firstOf [veE a, veE b, (must_a_r (decide (a < b)) 12)] ≠ 0))) A26 S23 (g_bin (u := .int .i64 (firstOf [veE a, veE b, (must_a_r (decide (a < b)) 12)])) (k := .int .i64 0) (by kernel_rfl) (by kernel_rfl) (fun _ => by kernel_rfl) b_neq) rfl (fun ac A27 => ?_)
  refine wpList_nil ?_
  refine n_then ?_
  refine c_ifb (b := (decide (firstOf [veE a, veE b, (must_a_r (decide (a < b)) 12)] ≠ 0))) A27 (by kernel_rfl) (fun h28 => ?_) (fun h28 => ?_)
  · have p29 := of_decide_eq_true h28
    refine wp_seq ?_
    refine wp_region_lit ?_
    refine s_one (.agg #[.int .i64 0, .int .i64 0]) A27 S23 (g_build (r := []) (by kernel_rfl) (fun _ => by kernel_rfl)) rfl (fun ac A30 => ?_)
    refine s_one (.int .i64 (firstOf [veE a, veE b, (must_a_r (decide (a < b)) 12)])) A30 S23 (g_move (by kernel_rfl)) rfl (fun ac A31 => ?_)
    refine s_store (g := g3) (off := 0) (v := .agg #[.int .i64 0, .int .i64 0]) 1 (#[.int .i64 0, .int .i64 0]) A31 S23 (by kernel_rfl) (by kernel_rfl) rfl (by kernel_rfl) (fun wc S33 => ?_)
    refine s_one (.int .i64 (firstOf [veE a, veE b, (must_a_r (decide (a < b)) 12)])) A31 S33 (g_assign (by kernel_rfl)) rfl (fun ac A35 => ?_)
    refine wpList_nil ?_
    refine n_then ?_
    refine wp_ret ?_
    refine r_then ?_
    refine fin2 (.agg #[.int .i64 0, .int .i64 0]) (.int .i64 (firstOf [veE a, veE b, (must_a_r (decide (a < b)) 12)])) Try.results67 A35 S33 (rv_cell (g := g3) (off := 0) 1 (by kernel_rfl) rfl (by kernel_rfl)) (rv_tmp (by kernel_rfl)) ⟨?_, S33.kp⟩
    have zn : csE a b ≠ 0 := p29
    simp only [zv_n zn]
    rfl
  · have p36 := of_decide_eq_false h28
    have ze0 : firstOf [veE a, veE b, (must_a_r (decide (a < b)) 12)] = 0 := by simpa using h28
    have ze : csE a b = 0 := ze0
    have zz := csE_0 ze
    have s1 := sq_b (a := a) (b := 10000) (by omega)
    have s2 := sq_b (a := b) (b := 10000) (by omega)
    have s3 := sq_le (a := 1) (b := a) (by omega) (by omega)
    have s4 := sq_le (a := 1) (b := b) (by omega) (by omega)
    refine wp_skip ?_
    refine n_then ?_
    refine wp_seq ?_
    refine wp_region_lit ?_
    refine s_one (.int .i64 a) A27 S23 (g_move (by kernel_rfl)) rfl (fun ac A37 => ?_)
    refine s_one (.int .i64 a) A37 S23 (g_move (by kernel_rfl)) rfl (fun ac A38 => ?_)
    refine s_one (.int .i64 (a * a)) A38 S23 (g_bin (u := .int .i64 a) (k := .int .i64 a) (by kernel_rfl) (by kernel_rfl) (fun _ => by kernel_rfl) (b_mul (by omega))) rfl (fun ac A39 => ?_)
    refine s_one (.int .i64 b) A39 S23 (g_move (by kernel_rfl)) rfl (fun ac A40 => ?_)
    refine s_one (.int .i64 b) A40 S23 (g_move (by kernel_rfl)) rfl (fun ac A41 => ?_)
    refine s_one (.int .i64 (b * b)) A41 S23 (g_bin (u := .int .i64 b) (k := .int .i64 b) (by kernel_rfl) (by kernel_rfl) (fun _ => by kernel_rfl) (b_mul (by omega))) rfl (fun ac A42 => ?_)
    refine s_call (fs := #[]) (cp := #[]) (r := [(0, .int .i64 (a * a)), (0, .int .i64 (b * b))]) #[.int .i64 (a * a), .int .i64 (b * b)] (.agg #[.int .i64 (Int.tdiv (a * a) (gcdE (a * a) (b * b))), .int .i64 (Int.tdiv (b * b) (gcdE (a * a) (b * b)))]) A42 S23 (lowest_s (a * a) (b * b) _ (by omega) (by omega) (by omega) (by omega)) Try.call100 (by kernel_rfl) (by kernel_rfl) (by kernel_rfl) rfl (fun ac wc A43 S44 => ?_)
    refine s_store (g := g3) (off := 0) (v := .agg #[.int .i64 (Int.tdiv (a * a) (gcdE (a * a) (b * b))), .int .i64 (Int.tdiv (b * b) (gcdE (a * a) (b * b)))]) 1 (#[.int .i64 (Int.tdiv (a * a) (gcdE (a * a) (b * b))), .int .i64 (Int.tdiv (b * b) (gcdE (a * a) (b * b)))]) A43 S44 (by kernel_rfl) (by kernel_rfl) rfl (by kernel_rfl) (fun wc S47 => ?_)
    refine s_one (.int .i64 0) A43 S47 (g_assign (by kernel_rfl)) rfl (fun ac A49 => ?_)
    refine wpList_nil ?_
    refine n_then ?_
    refine wp_ret ?_
    refine fin2 (.agg #[.int .i64 (Int.tdiv (a * a) (gcdE (a * a) (b * b))), .int .i64 (Int.tdiv (b * b) (gcdE (a * a) (b * b)))]) (.int .i64 0) Try.results67 A49 S47 (rv_cell (g := g3) (off := 0) 1 (by kernel_rfl) rfl (by kernel_rfl)) (rv_tmp (by kernel_rfl)) ⟨?_, S47.kp⟩
    simp only [zv_0 ze]
    rw [ze]

set_option maxRecDepth 100000 in
set_option maxHeartbeats 400000 in
theorem Middle_s  (w0 : World) :
    Calls Try.prog 75 #[] w0 fun e w' => e = .returned (.agg #[.int .i64 0, .int .i64 300, .int .i64 2500, .int .i64 800, .int .i64 300, .int .i64 2500]) ∧ Below w0.heap.size w0 w' := by
  have S0 := St.start w0
  refine enter (n := 2) Try.func75 rfl rfl rfl (fun ac A0 => ?_)
  refine wp_seq ?_
  refine wp_region_lit ?_
  refine s_alloc (#[.int .i64 0, .int .i64 0, .int .i64 0, .int .i64 0, .int .i64 0, .int .i64 0]) A0 S0 (by kernel_rfl) rfl (fun g3 ac wc A1 S2 => ?_)
  refine wpList_nil ?_
  refine n_then ?_
  refine wp_seq ?_
  refine wp_region_lit ?_
  refine s_one (.agg #[.int .i64 0, .int .i64 300, .int .i64 2500, .int .i64 800, .int .i64 300, .int .i64 2500]) A1 S2 (g_build (r := [(0, .int .i64 0), (1, .int .i64 300), (2, .int .i64 2500), (3, .int .i64 800), (4, .int .i64 300), (5, .int .i64 2500)]) (by kernel_rfl) (fun _ => by kernel_rfl)) rfl (fun ac A4 => ?_)
  refine s_store (g := g3) (off := 0) (v := .agg #[.int .i64 0, .int .i64 300, .int .i64 2500, .int .i64 800, .int .i64 300, .int .i64 2500]) 0 (#[.int .i64 0, .int .i64 300, .int .i64 2500, .int .i64 800, .int .i64 300, .int .i64 2500]) A4 S2 (by kernel_rfl) (by kernel_rfl) rfl (by kernel_rfl) (fun wc S6 => ?_)
  refine wpList_nil ?_
  refine n_then ?_
  refine wp_ret ?_
  refine fin1 (.agg #[.int .i64 0, .int .i64 300, .int .i64 2500, .int .i64 800, .int .i64 300, .int .i64 2500]) Try.results75 A4 S6 (rv_cell (g := g3) (off := 0) 0 (by kernel_rfl) rfl (by kernel_rfl)) ⟨?_, S6.kp⟩
  rfl

set_option maxRecDepth 100000 in
set_option maxHeartbeats 400000 in
theorem Plate_s  (w0 : World) :
    Calls Try.prog 76 #[] w0 fun e w' => e = .returned (.agg #[.int .i64 2500, .int .i64 5000, .int .i64 1, .int .i64 1000]) ∧ Below w0.heap.size w0 w' := by
  have S0 := St.start w0
  refine enter (n := 2) Try.func76 rfl rfl rfl (fun ac A0 => ?_)
  refine wp_seq ?_
  refine wp_region_lit ?_
  refine s_alloc (#[.int .i64 0, .int .i64 0, .int .i64 0, .int .i64 0]) A0 S0 (by kernel_rfl) rfl (fun g3 ac wc A1 S2 => ?_)
  refine wpList_nil ?_
  refine n_then ?_
  refine wp_seq ?_
  refine wp_region_lit ?_
  refine s_one (.agg #[.int .i64 2500, .int .i64 5000, .int .i64 1, .int .i64 1000]) A1 S2 (g_build (r := [(0, .int .i64 2500), (1, .int .i64 5000), (2, .int .i64 1), (3, .int .i64 1000)]) (by kernel_rfl) (fun _ => by kernel_rfl)) rfl (fun ac A4 => ?_)
  refine s_store (g := g3) (off := 0) (v := .agg #[.int .i64 2500, .int .i64 5000, .int .i64 1, .int .i64 1000]) 0 (#[.int .i64 2500, .int .i64 5000, .int .i64 1, .int .i64 1000]) A4 S2 (by kernel_rfl) (by kernel_rfl) rfl (by kernel_rfl) (fun wc S6 => ?_)
  refine wpList_nil ?_
  refine n_then ?_
  refine wp_ret ?_
  refine fin1 (.agg #[.int .i64 2500, .int .i64 5000, .int .i64 1, .int .i64 1000]) Try.results76 A4 S6 (rv_cell (g := g3) (off := 0) 0 (by kernel_rfl) rfl (by kernel_rfl)) ⟨?_, S6.kp⟩
  rfl

def cMid : Cr := ⟨0, 300, 2500, 800, 300, 2500⟩
theorem mid_ok : cMid.Ok := ⟨by decide, by decide, by decide, by decide, by decide, by decide⟩
theorem mid_crs : crs cMid = 400 := crs_eq mid_ok ⟨by decide, by decide, by decide, fun _ => by decide⟩
theorem lenL_v {x z r : Int} (h : IsRoot (lenN x z) r) : lenL x z = r := rt_eq h
theorem lenU_v {x z r : Int} (h : IsRoot (lenN x z) r) : lenU x z = if r * r < lenN x z then r + 1 else r := by unfold lenU rtU; rw [rt_eq h]
theorem r400 : IsRoot (lenN 400 300) 500000 := ⟨by decide, by decide, by decide⟩
theorem r401 : IsRoot (lenN 401 300) 500800 := ⟨by decide, by decide, by decide⟩
theorem r399 : IsRoot (lenN 399 300) 499200 := ⟨by decide, by decide, by decide⟩
theorem r300 : IsRoot (lenN 0 300) 300000 := ⟨by decide, by decide, by decide⟩
theorem r1600 : IsRoot (lenN 0 1600) 1600000 := ⟨by decide, by decide, by decide⟩
theorem mid_lo : leLo cMid = 3999972 := by
  have a : timLo cMid 400 = 4000000 := by
    show tLo (lenL 400 300) 2500 + tLo (lenL 400 300) 2500 = 4000000
    rw [lenL_v r400]; decide
  have b : timLo cMid 401 = 4000000 := by
    show tLo (lenL 401 300) 2500 + tLo (lenL 399 300) 2500 = 4000000
    rw [lenL_v r401, lenL_v r399]; decide
  unfold leLo mLo
  rw [mid_crs, if_pos (by decide), a, show (400 : Int) + 1 = 401 from rfl, b]
  decide
theorem mid_hi : mHi cMid = 4000000 := by
  have a : timHi cMid 400 = 4000000 := by
    show tHi (lenU 400 300) 2500 + tHi (lenU 400 300) 2500 = 4000000
    rw [lenU_v r400]; decide
  have b : timHi cMid 401 = 4000008 := by
    show tHi (lenU 401 300) 2500 + tHi (lenU 399 300) 2500 = 4000008
    rw [lenU_v r401, lenU_v r399]; decide
  unfold mHi
  rw [mid_crs, if_pos (by decide), a, show (400 : Int) + 1 = 401 from rfl, b]
  decide
theorem pla_E : opE 2500 5000 1 1000 0 (-300) 0 400 = 0 := by decide
def cPla : Cr := ⟨0, 300, 2500, 0, 1600, 5000⟩
theorem pla_C : wyC 2500 5000 1 1000 0 (-300) 0 400 = cPla := by
  unfold wyC cPla; congr 1
theorem pla_ok : cPla.Ok := ⟨by decide, by decide, by decide, by decide, by decide, by decide⟩
theorem pla_crs : crs cPla = 0 := crs_eq pla_ok ⟨by decide, by decide, by decide, fun h => absurd h (by decide)⟩
theorem pla_lo : leLo cPla = 4399984 := by
  have a : timLo cPla 0 = 4400000 := by
    show tLo (lenL 0 300) 2500 + tLo (lenL 0 1600) 5000 = 4400000
    rw [lenL_v r300, lenL_v r1600]; decide
  unfold leLo mLo
  rw [pla_crs, if_neg (by decide), a]
  decide
theorem pla_hi : mHi cPla = 4400000 := by
  have a : timHi cPla 0 = 4400000 := by
    show tHi (lenU 0 300) 2500 + tHi (lenU 0 1600) 5000 = 4400000
    rw [lenU_v r300, lenU_v r1600]; decide
  unfold mHi
  rw [pla_crs, if_neg (by decide), a]
theorem cs_g : gcdE (2500 * 2500) (5000 * 5000) = 6250000 := by
  unfold gcdE
  rw [euc_step (by decide), show Int.tmod (2500 * 2500) (5000 * 5000) = 6250000 from rfl, euc_step (by decide), show Int.tmod (5000 * 5000) 6250000 = 0 from rfl, euc_zero]
  decide
theorem midE : crE ⟨0, 300, 2500, 800, 300, 2500⟩ = 0 := crE_of mid_ok
theorem pair2 {a b c d : Int} (h1 : a = c) (h2 : b = d) : [a, b] = [c, d] := by rw [h1, h2]
theorem csE_v : csE 2500 5000 = 0 := by decide

set_option maxRecDepth 100000 in
set_option maxHeartbeats 400000 in
theorem awake_s  (w0 : World) :
    Calls Try.prog 19 #[] w0 fun e w' => e = .returned (.bool true) ∧ Below w0.heap.size w0 w' := by
  have S0 := St.start w0
  refine enter (n := 62) Try.func19 rfl rfl rfl (fun ac A0 => ?_)
  refine wp_seq ?_
  refine wp_region_lit ?_
  refine s_one (.bool false) A0 S0 (g_assign (by kernel_rfl)) rfl (fun ac A1 => ?_)
  refine wpList_nil ?_
  refine n_then ?_
  refine wp_seq ?_
  refine wp_region_lit ?_
  refine s_call (fs := #[]) (cp := #[]) (r := []) #[] (.agg #[.int .i64 0, .int .i64 300, .int .i64 2500, .int .i64 800, .int .i64 300, .int .i64 2500]) A1 S0 (Middle_s _) Try.call75 (by kernel_rfl) (by kernel_rfl) (by kernel_rfl) rfl (fun ac wc A2 S3 => ?_)
  refine s_call (fs := #[]) (cp := #[]) (r := [(0, .agg #[.int .i64 0, .int .i64 300, .int .i64 2500, .int .i64 800, .int .i64 300, .int .i64 2500])]) #[.agg #[.int .i64 0, .int .i64 300, .int .i64 2500, .int .i64 800, .int .i64 300, .int .i64 2500]] (.tuple #[.int .i64 (zv (crE ⟨0, 300, 2500, 800, 300, 2500⟩) (crs ⟨0, 300, 2500, 800, 300, 2500⟩)), .int .i64 (crE ⟨0, 300, 2500, 800, 300, 2500⟩)]) A2 S3 (Crossing_s ⟨0, 300, 2500, 800, 300, 2500⟩ _) Try.call20 (by kernel_rfl) (by kernel_rfl) (by kernel_rfl) rfl (fun ac wc A5 S6 => ?_)
  refine s_one (.tuple #[.int .i64 (zv (crE ⟨0, 300, 2500, 800, 300, 2500⟩) (crs ⟨0, 300, 2500, 800, 300, 2500⟩)), .int .i64 (crE ⟨0, 300, 2500, 800, 300, 2500⟩)]) A5 S6 (g_move (by kernel_rfl)) rfl (fun ac A8 => ?_)
  refine s_one (.int .i64 (zv (crE ⟨0, 300, 2500, 800, 300, 2500⟩) (crs ⟨0, 300, 2500, 800, 300, 2500⟩))) A8 S6 (g_extract (u := .tuple #[.int .i64 (zv (crE ⟨0, 300, 2500, 800, 300, 2500⟩) (crs ⟨0, 300, 2500, 800, 300, 2500⟩)), .int .i64 (crE ⟨0, 300, 2500, 800, 300, 2500⟩)]) (by kernel_rfl) (fun _ => by kernel_rfl)) rfl (fun ac A9 => ?_)
  refine s_one (.int .i64 (crE ⟨0, 300, 2500, 800, 300, 2500⟩)) A9 S6 (g_extract (u := .tuple #[.int .i64 (zv (crE ⟨0, 300, 2500, 800, 300, 2500⟩) (crs ⟨0, 300, 2500, 800, 300, 2500⟩)), .int .i64 (crE ⟨0, 300, 2500, 800, 300, 2500⟩)]) (by kernel_rfl) (fun _ => by kernel_rfl)) rfl (fun ac A10 => ?_)
  refine s_one (.int .i64 (zv (crE ⟨0, 300, 2500, 800, 300, 2500⟩) (crs ⟨0, 300, 2500, 800, 300, 2500⟩))) A10 S6 (g_assign (by kernel_rfl)) rfl (fun ac A11 => ?_)
  refine s_one (.int .i64 (crE ⟨0, 300, 2500, 800, 300, 2500⟩)) A11 S6 (g_assign (by kernel_rfl)) rfl (fun ac A12 => ?_)
  refine wpList_nil ?_
  refine n_then ?_
  refine wp_seq ?_
  refine wp_region_lit ?_
  refine s_call (fs := #[]) (cp := #[]) (r := []) #[] (.agg #[.int .i64 0, .int .i64 300, .int .i64 2500, .int .i64 800, .int .i64 300, .int .i64 2500]) A12 S6 (Middle_s _) Try.call75 (by kernel_rfl) (by kernel_rfl) (by kernel_rfl) rfl (fun ac wc A13 S14 => ?_)
  refine s_call (fs := #[]) (cp := #[]) (r := [(0, .agg #[.int .i64 0, .int .i64 300, .int .i64 2500, .int .i64 800, .int .i64 300, .int .i64 2500])]) #[.agg #[.int .i64 0, .int .i64 300, .int .i64 2500, .int .i64 800, .int .i64 300, .int .i64 2500]] (.tuple #[.agg #[.int .i64 (zv (crE ⟨0, 300, 2500, 800, 300, 2500⟩) (leLo ⟨0, 300, 2500, 800, 300, 2500⟩)), .int .i64 (zv (crE ⟨0, 300, 2500, 800, 300, 2500⟩) (mHi ⟨0, 300, 2500, 800, 300, 2500⟩))], .int .i64 (crE ⟨0, 300, 2500, 800, 300, 2500⟩)]) A13 S14 (Least_s ⟨0, 300, 2500, 800, 300, 2500⟩ _) Try.call21 (by kernel_rfl) (by kernel_rfl) (by kernel_rfl) rfl (fun ac wc A16 S17 => ?_)
  refine s_one (.tuple #[.agg #[.int .i64 (zv (crE ⟨0, 300, 2500, 800, 300, 2500⟩) (leLo ⟨0, 300, 2500, 800, 300, 2500⟩)), .int .i64 (zv (crE ⟨0, 300, 2500, 800, 300, 2500⟩) (mHi ⟨0, 300, 2500, 800, 300, 2500⟩))], .int .i64 (crE ⟨0, 300, 2500, 800, 300, 2500⟩)]) A16 S17 (g_move (by kernel_rfl)) rfl (fun ac A19 => ?_)
  refine s_one (.agg #[.int .i64 (zv (crE ⟨0, 300, 2500, 800, 300, 2500⟩) (leLo ⟨0, 300, 2500, 800, 300, 2500⟩)), .int .i64 (zv (crE ⟨0, 300, 2500, 800, 300, 2500⟩) (mHi ⟨0, 300, 2500, 800, 300, 2500⟩))]) A19 S17 (g_extract (u := .tuple #[.agg #[.int .i64 (zv (crE ⟨0, 300, 2500, 800, 300, 2500⟩) (leLo ⟨0, 300, 2500, 800, 300, 2500⟩)), .int .i64 (zv (crE ⟨0, 300, 2500, 800, 300, 2500⟩) (mHi ⟨0, 300, 2500, 800, 300, 2500⟩))], .int .i64 (crE ⟨0, 300, 2500, 800, 300, 2500⟩)]) (by kernel_rfl) (fun _ => by kernel_rfl)) rfl (fun ac A20 => ?_)
  refine s_one (.int .i64 (crE ⟨0, 300, 2500, 800, 300, 2500⟩)) A20 S17 (g_extract (u := .tuple #[.agg #[.int .i64 (zv (crE ⟨0, 300, 2500, 800, 300, 2500⟩) (leLo ⟨0, 300, 2500, 800, 300, 2500⟩)), .int .i64 (zv (crE ⟨0, 300, 2500, 800, 300, 2500⟩) (mHi ⟨0, 300, 2500, 800, 300, 2500⟩))], .int .i64 (crE ⟨0, 300, 2500, 800, 300, 2500⟩)]) (by kernel_rfl) (fun _ => by kernel_rfl)) rfl (fun ac A21 => ?_)
  refine s_alloc (#[.int .i64 0, .int .i64 0]) A21 S17 (by kernel_rfl) rfl (fun g24 ac wc A22 S23 => ?_)
  refine s_store (g := g24) (off := 0) (v := .agg #[.int .i64 (zv (crE ⟨0, 300, 2500, 800, 300, 2500⟩) (leLo ⟨0, 300, 2500, 800, 300, 2500⟩)), .int .i64 (zv (crE ⟨0, 300, 2500, 800, 300, 2500⟩) (mHi ⟨0, 300, 2500, 800, 300, 2500⟩))]) 0 (#[.int .i64 (zv (crE ⟨0, 300, 2500, 800, 300, 2500⟩) (leLo ⟨0, 300, 2500, 800, 300, 2500⟩)), .int .i64 (zv (crE ⟨0, 300, 2500, 800, 300, 2500⟩) (mHi ⟨0, 300, 2500, 800, 300, 2500⟩))]) A22 S23 (by kernel_rfl) (by kernel_rfl) rfl (by kernel_rfl) (fun wc S26 => ?_)
  refine s_one (.int .i64 (crE ⟨0, 300, 2500, 800, 300, 2500⟩)) A22 S26 (g_assign (by kernel_rfl)) rfl (fun ac A28 => ?_)
  refine wpList_nil ?_
  refine n_then ?_
  refine wp_seq ?_
  refine wp_region_lit ?_
  refine s_call (fs := #[]) (cp := #[]) (r := []) #[] (.agg #[.int .i64 2500, .int .i64 5000, .int .i64 1, .int .i64 1000]) A28 S26 (Plate_s _) Try.call76 (by kernel_rfl) (by kernel_rfl) (by kernel_rfl) rfl (fun ac wc A29 S30 => ?_)
  refine s_one (.agg #[.int .i64 0, .int .i64 (-300)]) A29 S30 (g_build (r := [(1, .int .i64 (-300))]) (by kernel_rfl) (fun _ => by kernel_rfl)) rfl (fun ac A32 => ?_)
  refine s_one (.agg #[.int .i64 0, .int .i64 400]) A32 S30 (g_build (r := [(1, .int .i64 400)]) (by kernel_rfl) (fun _ => by kernel_rfl)) rfl (fun ac A33 => ?_)
  refine s_call (fs := #[]) (cp := #[]) (r := [(0, .agg #[.int .i64 2500, .int .i64 5000, .int .i64 1, .int .i64 1000]), (0, .agg #[.int .i64 0, .int .i64 (-300)]), (0, .agg #[.int .i64 0, .int .i64 400])]) #[.agg #[.int .i64 2500, .int .i64 5000, .int .i64 1, .int .i64 1000], .agg #[.int .i64 0, .int .i64 (-300)], .agg #[.int .i64 0, .int .i64 400]] (.tuple #[.int .i64 ((zv (opE 2500 5000 1 1000 0 (-300) 0 400) (leLo (wyC 2500 5000 1 1000 0 (-300) 0 400)) + zv (opE 2500 5000 1 1000 0 (-300) 0 400) (mHi (wyC 2500 5000 1 1000 0 (-300) 0 400))) / 2), .int .i64 (opE 2500 5000 1 1000 0 (-300) 0 400)]) A33 S30 (RoundedTime_s 2500 5000 1 1000 0 (-300) 0 400 _) Try.call48 (by kernel_rfl) (by kernel_rfl) (by kernel_rfl) rfl (fun ac wc A34 S35 => ?_)
  refine s_one (.tuple #[.int .i64 ((zv (opE 2500 5000 1 1000 0 (-300) 0 400) (leLo (wyC 2500 5000 1 1000 0 (-300) 0 400)) + zv (opE 2500 5000 1 1000 0 (-300) 0 400) (mHi (wyC 2500 5000 1 1000 0 (-300) 0 400))) / 2), .int .i64 (opE 2500 5000 1 1000 0 (-300) 0 400)]) A34 S35 (g_move (by kernel_rfl)) rfl (fun ac A37 => ?_)
  refine s_one (.int .i64 ((zv (opE 2500 5000 1 1000 0 (-300) 0 400) (leLo (wyC 2500 5000 1 1000 0 (-300) 0 400)) + zv (opE 2500 5000 1 1000 0 (-300) 0 400) (mHi (wyC 2500 5000 1 1000 0 (-300) 0 400))) / 2)) A37 S35 (g_extract (u := .tuple #[.int .i64 ((zv (opE 2500 5000 1 1000 0 (-300) 0 400) (leLo (wyC 2500 5000 1 1000 0 (-300) 0 400)) + zv (opE 2500 5000 1 1000 0 (-300) 0 400) (mHi (wyC 2500 5000 1 1000 0 (-300) 0 400))) / 2), .int .i64 (opE 2500 5000 1 1000 0 (-300) 0 400)]) (by kernel_rfl) (fun _ => by kernel_rfl)) rfl (fun ac A38 => ?_)
  refine s_one (.int .i64 (opE 2500 5000 1 1000 0 (-300) 0 400)) A38 S35 (g_extract (u := .tuple #[.int .i64 ((zv (opE 2500 5000 1 1000 0 (-300) 0 400) (leLo (wyC 2500 5000 1 1000 0 (-300) 0 400)) + zv (opE 2500 5000 1 1000 0 (-300) 0 400) (mHi (wyC 2500 5000 1 1000 0 (-300) 0 400))) / 2), .int .i64 (opE 2500 5000 1 1000 0 (-300) 0 400)]) (by kernel_rfl) (fun _ => by kernel_rfl)) rfl (fun ac A39 => ?_)
  refine s_one (.int .i64 ((zv (opE 2500 5000 1 1000 0 (-300) 0 400) (leLo (wyC 2500 5000 1 1000 0 (-300) 0 400)) + zv (opE 2500 5000 1 1000 0 (-300) 0 400) (mHi (wyC 2500 5000 1 1000 0 (-300) 0 400))) / 2)) A39 S35 (g_assign (by kernel_rfl)) rfl (fun ac A40 => ?_)
  refine s_one (.int .i64 (opE 2500 5000 1 1000 0 (-300) 0 400)) A40 S35 (g_assign (by kernel_rfl)) rfl (fun ac A41 => ?_)
  refine wpList_nil ?_
  refine n_then ?_
  refine wp_seq ?_
  refine wp_region_lit ?_
  refine s_call (fs := #[]) (cp := #[]) (r := [(0, .int .i64 2500), (0, .int .i64 5000)]) #[.int .i64 2500, .int .i64 5000] (.tuple #[.agg #[.int .i64 (zv (csE 2500 5000) (Int.tdiv (2500 * 2500) (gcdE (2500 * 2500) (5000 * 5000)))), .int .i64 (zv (csE 2500 5000) (Int.tdiv (5000 * 5000) (gcdE (2500 * 2500) (5000 * 5000))))], .int .i64 (csE 2500 5000)]) A41 S35 (CriticalSquare_s 2500 5000 _) Try.call67 (by kernel_rfl) (by kernel_rfl) (by kernel_rfl) rfl (fun ac wc A42 S43 => ?_)
  refine s_one (.tuple #[.agg #[.int .i64 (zv (csE 2500 5000) (Int.tdiv (2500 * 2500) (gcdE (2500 * 2500) (5000 * 5000)))), .int .i64 (zv (csE 2500 5000) (Int.tdiv (5000 * 5000) (gcdE (2500 * 2500) (5000 * 5000))))], .int .i64 (csE 2500 5000)]) A42 S43 (g_move (by kernel_rfl)) rfl (fun ac A45 => ?_)
  refine s_one (.agg #[.int .i64 (zv (csE 2500 5000) (Int.tdiv (2500 * 2500) (gcdE (2500 * 2500) (5000 * 5000)))), .int .i64 (zv (csE 2500 5000) (Int.tdiv (5000 * 5000) (gcdE (2500 * 2500) (5000 * 5000))))]) A45 S43 (g_extract (u := .tuple #[.agg #[.int .i64 (zv (csE 2500 5000) (Int.tdiv (2500 * 2500) (gcdE (2500 * 2500) (5000 * 5000)))), .int .i64 (zv (csE 2500 5000) (Int.tdiv (5000 * 5000) (gcdE (2500 * 2500) (5000 * 5000))))], .int .i64 (csE 2500 5000)]) (by kernel_rfl) (fun _ => by kernel_rfl)) rfl (fun ac A46 => ?_)
  refine s_one (.int .i64 (csE 2500 5000)) A46 S43 (g_extract (u := .tuple #[.agg #[.int .i64 (zv (csE 2500 5000) (Int.tdiv (2500 * 2500) (gcdE (2500 * 2500) (5000 * 5000)))), .int .i64 (zv (csE 2500 5000) (Int.tdiv (5000 * 5000) (gcdE (2500 * 2500) (5000 * 5000))))], .int .i64 (csE 2500 5000)]) (by kernel_rfl) (fun _ => by kernel_rfl)) rfl (fun ac A47 => ?_)
  refine s_alloc (#[.int .i64 0, .int .i64 0]) A47 S43 (by kernel_rfl) rfl (fun g50 ac wc A48 S49 => ?_)
  refine s_store (g := g50) (off := 0) (v := .agg #[.int .i64 (zv (csE 2500 5000) (Int.tdiv (2500 * 2500) (gcdE (2500 * 2500) (5000 * 5000)))), .int .i64 (zv (csE 2500 5000) (Int.tdiv (5000 * 5000) (gcdE (2500 * 2500) (5000 * 5000))))]) 0 (#[.int .i64 (zv (csE 2500 5000) (Int.tdiv (2500 * 2500) (gcdE (2500 * 2500) (5000 * 5000)))), .int .i64 (zv (csE 2500 5000) (Int.tdiv (5000 * 5000) (gcdE (2500 * 2500) (5000 * 5000))))]) A48 S49 (by kernel_rfl) (by kernel_rfl) rfl (by kernel_rfl) (fun wc S52 => ?_)
  refine s_one (.int .i64 (csE 2500 5000)) A48 S52 (g_assign (by kernel_rfl)) rfl (fun ac A54 => ?_)
  refine wpList_nil ?_
  refine n_then ?_
  refine wp_seq ?_
  refine wp_region_lit ?_
  refine s_one (.int .i64 (crE ⟨0, 300, 2500, 800, 300, 2500⟩)) A54 S52 (g_move (by kernel_rfl)) rfl (fun ac A55 => ?_)
  refine s_one (.bool (decide (crE ⟨0, 300, 2500, 800, 300, 2500⟩ = 0))) A55 S52 (g_bin (u := .int .i64 (crE ⟨0, 300, 2500, 800, 300, 2500⟩)) (k := .int .i64 0) (by kernel_rfl) (by kernel_rfl) (fun _ => by kernel_rfl) b_eql) rfl (fun ac A56 => ?_)
  refine s_one (.bool (decide (crE ⟨0, 300, 2500, 800, 300, 2500⟩ = 0))) A56 S52 (g_move (by kernel_rfl)) rfl (fun ac A57 => ?_)
  refine s_want (dj := 32) (b := (decide (crE ⟨0, 300, 2500, 800, 300, 2500⟩ = 0))) A57 (by kernel_rfl) (by kernel_rfl) (decide_eq_true (by exact midE)) ?_
  refine s_one (.int .i64 (zv (crE ⟨0, 300, 2500, 800, 300, 2500⟩) (crs ⟨0, 300, 2500, 800, 300, 2500⟩))) A57 S52 (g_move (by kernel_rfl)) rfl (fun ac A58 => ?_)
  refine s_want (dj := 32) (b := (decide (crE ⟨0, 300, 2500, 800, 300, 2500⟩ = 0))) A58 (by kernel_rfl) (by kernel_rfl) (decide_eq_true (by exact midE)) ?_
  refine s_one (.bool (decide (zv (crE ⟨0, 300, 2500, 800, 300, 2500⟩) (crs ⟨0, 300, 2500, 800, 300, 2500⟩) = 400))) A58 S52 (g_bin (u := .int .i64 (zv (crE ⟨0, 300, 2500, 800, 300, 2500⟩) (crs ⟨0, 300, 2500, 800, 300, 2500⟩))) (k := .int .i64 400) (by kernel_rfl) (by kernel_rfl) (fun _ => by kernel_rfl) b_eql) rfl (fun ac A59 => ?_)
  refine s_one (.bool (decide (zv (crE ⟨0, 300, 2500, 800, 300, 2500⟩) (crs ⟨0, 300, 2500, 800, 300, 2500⟩) = 400))) A59 S52 (g_pick_t (b := (decide (crE ⟨0, 300, 2500, 800, 300, 2500⟩ = 0))) (by kernel_rfl) (decide_eq_true (by exact midE)) (by kernel_rfl)) rfl (fun ac A60 => ?_)
  refine s_one (.bool (decide (zv (crE ⟨0, 300, 2500, 800, 300, 2500⟩) (crs ⟨0, 300, 2500, 800, 300, 2500⟩) = 400))) A60 S52 (g_move (by kernel_rfl)) rfl (fun ac A61 => ?_)
  refine s_want (dj := 36) (b := (decide (zv (crE ⟨0, 300, 2500, 800, 300, 2500⟩) (crs ⟨0, 300, 2500, 800, 300, 2500⟩) = 400))) A61 (by kernel_rfl) (by kernel_rfl) (decide_eq_true (by rw [zv_0 midE]; exact mid_crs)) ?_
  refine s_one (.int .i64 (crE ⟨0, 300, 2500, 800, 300, 2500⟩)) A61 S52 (g_move (by kernel_rfl)) rfl (fun ac A62 => ?_)
  refine s_want (dj := 36) (b := (decide (zv (crE ⟨0, 300, 2500, 800, 300, 2500⟩) (crs ⟨0, 300, 2500, 800, 300, 2500⟩) = 400))) A62 (by kernel_rfl) (by kernel_rfl) (decide_eq_true (by rw [zv_0 midE]; exact mid_crs)) ?_
  refine s_one (.bool (decide (crE ⟨0, 300, 2500, 800, 300, 2500⟩ = 0))) A62 S52 (g_bin (u := .int .i64 (crE ⟨0, 300, 2500, 800, 300, 2500⟩)) (k := .int .i64 0) (by kernel_rfl) (by kernel_rfl) (fun _ => by kernel_rfl) b_eql) rfl (fun ac A63 => ?_)
  refine s_one (.bool (decide (crE ⟨0, 300, 2500, 800, 300, 2500⟩ = 0))) A63 S52 (g_pick_t (b := (decide (zv (crE ⟨0, 300, 2500, 800, 300, 2500⟩) (crs ⟨0, 300, 2500, 800, 300, 2500⟩) = 400))) (by kernel_rfl) (decide_eq_true (by rw [zv_0 midE]; exact mid_crs)) (by kernel_rfl)) rfl (fun ac A64 => ?_)
  refine s_one (.bool (decide (crE ⟨0, 300, 2500, 800, 300, 2500⟩ = 0))) A64 S52 (g_move (by kernel_rfl)) rfl (fun ac A65 => ?_)
  refine s_want (dj := 40) (b := (decide (crE ⟨0, 300, 2500, 800, 300, 2500⟩ = 0))) A65 (by kernel_rfl) (by kernel_rfl) (decide_eq_true (by exact midE)) ?_
  refine s_one (.agg #[.int .i64 (zv (crE ⟨0, 300, 2500, 800, 300, 2500⟩) (leLo ⟨0, 300, 2500, 800, 300, 2500⟩)), .int .i64 (zv (crE ⟨0, 300, 2500, 800, 300, 2500⟩) (mHi ⟨0, 300, 2500, 800, 300, 2500⟩))]) A65 S52 (g_load (g := g24) (off := 0) 1 (by kernel_rfl) rfl (by kernel_rfl)) rfl (fun ac A66 => ?_)
  refine s_want (dj := 40) (b := (decide (crE ⟨0, 300, 2500, 800, 300, 2500⟩ = 0))) A66 (by kernel_rfl) (by kernel_rfl) (decide_eq_true (by exact midE)) ?_
  refine s_one (.agg #[.int .i64 3999972, .int .i64 4000000]) A66 S52 (g_build (r := [(0, .int .i64 3999972), (1, .int .i64 4000000)]) (by kernel_rfl) (fun _ => by kernel_rfl)) rfl (fun ac A67 => ?_)
  refine s_want (dj := 40) (b := (decide (crE ⟨0, 300, 2500, 800, 300, 2500⟩ = 0))) A67 (by kernel_rfl) (by kernel_rfl) (decide_eq_true (by exact midE)) ?_
  refine s_one (.bool (decide ([zv (crE ⟨0, 300, 2500, 800, 300, 2500⟩) (leLo ⟨0, 300, 2500, 800, 300, 2500⟩), zv (crE ⟨0, 300, 2500, 800, 300, 2500⟩) (mHi ⟨0, 300, 2500, 800, 300, 2500⟩)] = [3999972, 4000000]))) A67 S52 (g_bin (u := .agg #[.int .i64 (zv (crE ⟨0, 300, 2500, 800, 300, 2500⟩) (leLo ⟨0, 300, 2500, 800, 300, 2500⟩)), .int .i64 (zv (crE ⟨0, 300, 2500, 800, 300, 2500⟩) (mHi ⟨0, 300, 2500, 800, 300, 2500⟩))]) (k := .agg #[.int .i64 3999972, .int .i64 4000000]) (by kernel_rfl) (by kernel_rfl) (fun _ => by kernel_rfl) (q_struct (n := 2) [zv (crE ⟨0, 300, 2500, 800, 300, 2500⟩) (leLo ⟨0, 300, 2500, 800, 300, 2500⟩), zv (crE ⟨0, 300, 2500, 800, 300, 2500⟩) (mHi ⟨0, 300, 2500, 800, 300, 2500⟩)] [3999972, 4000000] (by kernel_rfl) rfl rfl)) rfl (fun ac A68 => ?_)
  refine s_one (.bool (decide ([zv (crE ⟨0, 300, 2500, 800, 300, 2500⟩) (leLo ⟨0, 300, 2500, 800, 300, 2500⟩), zv (crE ⟨0, 300, 2500, 800, 300, 2500⟩) (mHi ⟨0, 300, 2500, 800, 300, 2500⟩)] = [3999972, 4000000]))) A68 S52 (g_pick_t (b := (decide (crE ⟨0, 300, 2500, 800, 300, 2500⟩ = 0))) (by kernel_rfl) (decide_eq_true (by exact midE)) (by kernel_rfl)) rfl (fun ac A69 => ?_)
  refine s_one (.bool (decide ([zv (crE ⟨0, 300, 2500, 800, 300, 2500⟩) (leLo ⟨0, 300, 2500, 800, 300, 2500⟩), zv (crE ⟨0, 300, 2500, 800, 300, 2500⟩) (mHi ⟨0, 300, 2500, 800, 300, 2500⟩)] = [3999972, 4000000]))) A69 S52 (g_move (by kernel_rfl)) rfl (fun ac A70 => ?_)
  refine s_want (dj := 45) (b := (decide ([zv (crE ⟨0, 300, 2500, 800, 300, 2500⟩) (leLo ⟨0, 300, 2500, 800, 300, 2500⟩), zv (crE ⟨0, 300, 2500, 800, 300, 2500⟩) (mHi ⟨0, 300, 2500, 800, 300, 2500⟩)] = [3999972, 4000000]))) A70 (by kernel_rfl) (by kernel_rfl) (decide_eq_true (by rw [zv_0 midE, zv_0 midE]; exact pair2 mid_lo mid_hi)) ?_
  refine s_one (.int .i64 (opE 2500 5000 1 1000 0 (-300) 0 400)) A70 S52 (g_move (by kernel_rfl)) rfl (fun ac A71 => ?_)
  refine s_want (dj := 45) (b := (decide ([zv (crE ⟨0, 300, 2500, 800, 300, 2500⟩) (leLo ⟨0, 300, 2500, 800, 300, 2500⟩), zv (crE ⟨0, 300, 2500, 800, 300, 2500⟩) (mHi ⟨0, 300, 2500, 800, 300, 2500⟩)] = [3999972, 4000000]))) A71 (by kernel_rfl) (by kernel_rfl) (decide_eq_true (by rw [zv_0 midE, zv_0 midE]; exact pair2 mid_lo mid_hi)) ?_
  refine s_one (.bool (decide (opE 2500 5000 1 1000 0 (-300) 0 400 = 0))) A71 S52 (g_bin (u := .int .i64 (opE 2500 5000 1 1000 0 (-300) 0 400)) (k := .int .i64 0) (by kernel_rfl) (by kernel_rfl) (fun _ => by kernel_rfl) b_eql) rfl (fun ac A72 => ?_)
  refine s_one (.bool (decide (opE 2500 5000 1 1000 0 (-300) 0 400 = 0))) A72 S52 (g_pick_t (b := (decide ([zv (crE ⟨0, 300, 2500, 800, 300, 2500⟩) (leLo ⟨0, 300, 2500, 800, 300, 2500⟩), zv (crE ⟨0, 300, 2500, 800, 300, 2500⟩) (mHi ⟨0, 300, 2500, 800, 300, 2500⟩)] = [3999972, 4000000]))) (by kernel_rfl) (decide_eq_true (by rw [zv_0 midE, zv_0 midE]; exact pair2 mid_lo mid_hi)) (by kernel_rfl)) rfl (fun ac A73 => ?_)
  refine s_one (.bool (decide (opE 2500 5000 1 1000 0 (-300) 0 400 = 0))) A73 S52 (g_move (by kernel_rfl)) rfl (fun ac A74 => ?_)
  refine s_want (dj := 49) (b := (decide (opE 2500 5000 1 1000 0 (-300) 0 400 = 0))) A74 (by kernel_rfl) (by kernel_rfl) (decide_eq_true (by exact pla_E)) ?_
  refine s_one (.int .i64 ((zv (opE 2500 5000 1 1000 0 (-300) 0 400) (leLo (wyC 2500 5000 1 1000 0 (-300) 0 400)) + zv (opE 2500 5000 1 1000 0 (-300) 0 400) (mHi (wyC 2500 5000 1 1000 0 (-300) 0 400))) / 2)) A74 S52 (g_move (by kernel_rfl)) rfl (fun ac A75 => ?_)
  refine s_want (dj := 49) (b := (decide (opE 2500 5000 1 1000 0 (-300) 0 400 = 0))) A75 (by kernel_rfl) (by kernel_rfl) (decide_eq_true (by exact pla_E)) ?_
  refine s_one (.bool (decide ((zv (opE 2500 5000 1 1000 0 (-300) 0 400) (leLo (wyC 2500 5000 1 1000 0 (-300) 0 400)) + zv (opE 2500 5000 1 1000 0 (-300) 0 400) (mHi (wyC 2500 5000 1 1000 0 (-300) 0 400))) / 2 = 4399992))) A75 S52 (g_bin (u := .int .i64 ((zv (opE 2500 5000 1 1000 0 (-300) 0 400) (leLo (wyC 2500 5000 1 1000 0 (-300) 0 400)) + zv (opE 2500 5000 1 1000 0 (-300) 0 400) (mHi (wyC 2500 5000 1 1000 0 (-300) 0 400))) / 2)) (k := .int .i64 4399992) (by kernel_rfl) (by kernel_rfl) (fun _ => by kernel_rfl) b_eql) rfl (fun ac A76 => ?_)
  refine s_one (.bool (decide ((zv (opE 2500 5000 1 1000 0 (-300) 0 400) (leLo (wyC 2500 5000 1 1000 0 (-300) 0 400)) + zv (opE 2500 5000 1 1000 0 (-300) 0 400) (mHi (wyC 2500 5000 1 1000 0 (-300) 0 400))) / 2 = 4399992))) A76 S52 (g_pick_t (b := (decide (opE 2500 5000 1 1000 0 (-300) 0 400 = 0))) (by kernel_rfl) (decide_eq_true (by exact pla_E)) (by kernel_rfl)) rfl (fun ac A77 => ?_)
  refine s_one (.bool (decide ((zv (opE 2500 5000 1 1000 0 (-300) 0 400) (leLo (wyC 2500 5000 1 1000 0 (-300) 0 400)) + zv (opE 2500 5000 1 1000 0 (-300) 0 400) (mHi (wyC 2500 5000 1 1000 0 (-300) 0 400))) / 2 = 4399992))) A77 S52 (g_move (by kernel_rfl)) rfl (fun ac A78 => ?_)
  refine s_want (dj := 53) (b := (decide ((zv (opE 2500 5000 1 1000 0 (-300) 0 400) (leLo (wyC 2500 5000 1 1000 0 (-300) 0 400)) + zv (opE 2500 5000 1 1000 0 (-300) 0 400) (mHi (wyC 2500 5000 1 1000 0 (-300) 0 400))) / 2 = 4399992))) A78 (by kernel_rfl) (by kernel_rfl) (decide_eq_true (by rw [pla_C, zv_0 pla_E, zv_0 pla_E, pla_lo, pla_hi]; rfl)) ?_
  refine s_one (.int .i64 (csE 2500 5000)) A78 S52 (g_move (by kernel_rfl)) rfl (fun ac A79 => ?_)
  refine s_want (dj := 53) (b := (decide ((zv (opE 2500 5000 1 1000 0 (-300) 0 400) (leLo (wyC 2500 5000 1 1000 0 (-300) 0 400)) + zv (opE 2500 5000 1 1000 0 (-300) 0 400) (mHi (wyC 2500 5000 1 1000 0 (-300) 0 400))) / 2 = 4399992))) A79 (by kernel_rfl) (by kernel_rfl) (decide_eq_true (by rw [pla_C, zv_0 pla_E, zv_0 pla_E, pla_lo, pla_hi]; rfl)) ?_
  refine s_one (.bool (decide (csE 2500 5000 = 0))) A79 S52 (g_bin (u := .int .i64 (csE 2500 5000)) (k := .int .i64 0) (by kernel_rfl) (by kernel_rfl) (fun _ => by kernel_rfl) b_eql) rfl (fun ac A80 => ?_)
  refine s_one (.bool (decide (csE 2500 5000 = 0))) A80 S52 (g_pick_t (b := (decide ((zv (opE 2500 5000 1 1000 0 (-300) 0 400) (leLo (wyC 2500 5000 1 1000 0 (-300) 0 400)) + zv (opE 2500 5000 1 1000 0 (-300) 0 400) (mHi (wyC 2500 5000 1 1000 0 (-300) 0 400))) / 2 = 4399992))) (by kernel_rfl) (decide_eq_true (by rw [pla_C, zv_0 pla_E, zv_0 pla_E, pla_lo, pla_hi]; rfl)) (by kernel_rfl)) rfl (fun ac A81 => ?_)
  refine s_one (.bool (decide (csE 2500 5000 = 0))) A81 S52 (g_move (by kernel_rfl)) rfl (fun ac A82 => ?_)
  refine s_want (dj := 57) (b := (decide (csE 2500 5000 = 0))) A82 (by kernel_rfl) (by kernel_rfl) (decide_eq_true (by exact csE_v)) ?_
  refine s_one (.agg #[.int .i64 (zv (csE 2500 5000) (Int.tdiv (2500 * 2500) (gcdE (2500 * 2500) (5000 * 5000)))), .int .i64 (zv (csE 2500 5000) (Int.tdiv (5000 * 5000) (gcdE (2500 * 2500) (5000 * 5000))))]) A82 S52 (g_load (g := g50) (off := 0) 0 (by kernel_rfl) rfl (by kernel_rfl)) rfl (fun ac A83 => ?_)
  refine s_want (dj := 57) (b := (decide (csE 2500 5000 = 0))) A83 (by kernel_rfl) (by kernel_rfl) (decide_eq_true (by exact csE_v)) ?_
  refine s_one (.agg #[.int .i64 1, .int .i64 4]) A83 S52 (g_build (r := [(0, .int .i64 1), (1, .int .i64 4)]) (by kernel_rfl) (fun _ => by kernel_rfl)) rfl (fun ac A84 => ?_)
  refine s_want (dj := 57) (b := (decide (csE 2500 5000 = 0))) A84 (by kernel_rfl) (by kernel_rfl) (decide_eq_true (by exact csE_v)) ?_
  refine s_one (.bool (decide ([zv (csE 2500 5000) (Int.tdiv (2500 * 2500) (gcdE (2500 * 2500) (5000 * 5000))), zv (csE 2500 5000) (Int.tdiv (5000 * 5000) (gcdE (2500 * 2500) (5000 * 5000)))] = [1, 4]))) A84 S52 (g_bin (u := .agg #[.int .i64 (zv (csE 2500 5000) (Int.tdiv (2500 * 2500) (gcdE (2500 * 2500) (5000 * 5000)))), .int .i64 (zv (csE 2500 5000) (Int.tdiv (5000 * 5000) (gcdE (2500 * 2500) (5000 * 5000))))]) (k := .agg #[.int .i64 1, .int .i64 4]) (by kernel_rfl) (by kernel_rfl) (fun _ => by kernel_rfl) (q_struct (n := 2) [zv (csE 2500 5000) (Int.tdiv (2500 * 2500) (gcdE (2500 * 2500) (5000 * 5000))), zv (csE 2500 5000) (Int.tdiv (5000 * 5000) (gcdE (2500 * 2500) (5000 * 5000)))] [1, 4] (by kernel_rfl) rfl rfl)) rfl (fun ac A85 => ?_)
  refine s_one (.bool (decide ([zv (csE 2500 5000) (Int.tdiv (2500 * 2500) (gcdE (2500 * 2500) (5000 * 5000))), zv (csE 2500 5000) (Int.tdiv (5000 * 5000) (gcdE (2500 * 2500) (5000 * 5000)))] = [1, 4]))) A85 S52 (g_pick_t (b := (decide (csE 2500 5000 = 0))) (by kernel_rfl) (decide_eq_true (by exact csE_v)) (by kernel_rfl)) rfl (fun ac A86 => ?_)
  refine s_one (.bool (decide ([zv (csE 2500 5000) (Int.tdiv (2500 * 2500) (gcdE (2500 * 2500) (5000 * 5000))), zv (csE 2500 5000) (Int.tdiv (5000 * 5000) (gcdE (2500 * 2500) (5000 * 5000)))] = [1, 4]))) A86 S52 (g_assign (by kernel_rfl)) rfl (fun ac A87 => ?_)
  refine wpList_nil ?_
  refine n_then ?_
  refine wp_ret ?_
  refine fin1 (.bool (decide ([zv (csE 2500 5000) (Int.tdiv (2500 * 2500) (gcdE (2500 * 2500) (5000 * 5000))), zv (csE 2500 5000) (Int.tdiv (5000 * 5000) (gcdE (2500 * 2500) (5000 * 5000)))] = [1, 4]))) Try.results19 A87 S52 (rv_tmp (by kernel_rfl)) ⟨?_, S52.kp⟩
  exact congrArg (fun b => Ending.returned (Value.bool b)) (decide_eq_true (by rw [zv_0 csE_v, zv_0 csE_v, cs_g]; rfl))

end Go.Proofs.Ytnfmfkejhgbipaa
