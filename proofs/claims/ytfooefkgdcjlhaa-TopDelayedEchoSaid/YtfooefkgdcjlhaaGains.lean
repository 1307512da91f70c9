/- Gains: the code and the reference. -/
import Derived.Test.YtfooefkgdcjlhaaSums2
import Derived.Test.YtfooefkgdcjlhaaTimes2
import Derived.Test.YtfooefkgdcjlhaaMkT
namespace Go.Proofs.Ytfooefkgdcjlhaa
open Go.RowKit Go.Cpl

/-- Euclid's way, with the code's remainders. -/
def euc (a b : Int) : Int := if _h : b = 0 then a else euc b (a.tmod b)
termination_by b.natAbs
decreasing_by
  have := Int.natAbs_tmod a b
  have := Nat.mod_lt a.natAbs (Int.natAbs_pos.2 _h)
  omega
theorem euc_zero (a : Int) : euc a 0 = a := by rw [euc, dif_pos rfl]
theorem euc_step {a b : Int} (h : b ≠ 0) : euc a b = euc b (a.tmod b) := by rw [euc, dif_neg h]
theorem rem_less {a b : Int} (h : b ≠ 0) : (a.tmod b).natAbs < b.natAbs := by
  have := Int.natAbs_tmod a b
  have := Nat.mod_lt a.natAbs (Int.natAbs_pos.2 h)
  omega
theorem euc_le : ∀ (n : Nat) (a b : Int), b.natAbs ≤ n → b ≠ 0 → (euc a b).natAbs ≤ b.natAbs
  | 0, a, b, h, h0 => by omega
  | n + 1, a, b, h, h0 => by
    rw [euc_step h0]
    have := rem_less (a := a) h0
    by_cases e : a.tmod b = 0
    · rw [e, euc_zero]; omega
    · have := euc_le n b (a.tmod b) (by omega) e; omega
def isLow (p q : Int) : Bool := decide (q > 0) && (decide (euc p q = 1) || decide (euc p q = -1))

set_option maxRecDepth 100000 in
set_option maxHeartbeats 400000 in
theorem isLowest_s (p q : Int) (w0 : World) :
    Calls Try.prog 74 #[.agg #[.int .i64 p, .int .i64 q]] w0 fun e w' => e = .returned (.bool (isLow p q)) ∧ Below w0.heap.size w0 w' := by
  have S0 := St.start w0
  refine enter (n := 26) Try.func74 rfl rfl rfl (fun ac A0 => ?_)
  refine wp_seq ?_
  refine wp_region_lit ?_
  refine s_box (.agg #[.int .i64 p, .int .i64 q]) A0 S0 (by kernel_rfl) rfl (fun g3 ac wc A1 S2 => ?_)
  replace S2 : St _ (⟨g3, 81, #[.int .i64 p, .int .i64 q], true⟩ :: _) _ _ := S2
  refine s_one (.bool false) A1 S2 (g_assign (by kernel_rfl)) rfl (fun ac A5 => ?_)
  refine wpList_nil ?_
  refine n_then ?_
  refine wp_seq ?_
  refine r_begin (w0 := w0) (by kernel_rfl) (S2.sub sub_all sub_all) (fun wc T6 B7 => ?_)
  have S8 := S2.kept B7
  refine r_take 0 (.pointer (some ⟨g3, 0, none⟩)) A5 T6 (g_field (u := .pointer (some ⟨g3, 0, none⟩)) (by kernel_rfl) (fun _ => by kernel_rfl)) rfl rfl rfl (pf_then pf_body) (by kernel_rfl) (fun ac A9 => ?_)
  refine r_take 1 (.int .i64 p) A9 T6 (g_load (g := g3) (off := 0) 0 (by kernel_rfl) rfl (by kernel_rfl)) rfl rfl rfl (pf_then pf_body) (by kernel_rfl) (fun ac A10 => ?_)
  refine r_take 2 (.pointer (some ⟨g3, 1, none⟩)) A10 T6 (g_field (u := .pointer (some ⟨g3, 0, none⟩)) (by kernel_rfl) (fun _ => by kernel_rfl)) rfl rfl rfl (pf_then pf_body) (by kernel_rfl) (fun ac A11 => ?_)
  refine r_take 3 (.int .i64 q) A11 T6 (g_load (g := g3) (off := 1) 0 (by kernel_rfl) rfl (by kernel_rfl)) rfl rfl rfl (pf_then pf_body) (by kernel_rfl) (fun ac A12 => ?_)
  refine r_take 4 (.int .i64 p) A12 T6 (g_assign (by kernel_rfl)) rfl rfl rfl (pf_then pf_body) (by kernel_rfl) (fun ac A13 => ?_)
  refine r_take 5 (.int .i64 q) A13 T6 (g_assign (by kernel_rfl)) rfl rfl rfl (pf_then pf_body) (by kernel_rfl) (fun ac A14 => ?_)
  refine r_done (by kernel_rfl) ?_
  refine n_then ?_
  refine wp_seq ?_
  refine wp_block ?_
  refine c_loopN (fun mm ac wc => ∃ (a : Int) (b : Int), mm = b.natAbs ∧ (euc a b = euc p q) ∧ Fr 26 ac [(0, .agg #[.int .i64 p, .int .i64 q]), (1, .pointer (some ⟨g3, 0, none⟩)), (2, .bool false), (5, .pointer (some ⟨g3, 0, none⟩)), (6, .int .i64 p), (7, .pointer (some ⟨g3, 1, none⟩)), (8, .int .i64 q), (3, .int .i64 a), (4, .int .i64 b)] ∧ St w0 [⟨g3, 81, #[.int .i64 p, .int .i64 q], true⟩] [] wc) _ ⟨p, q, rfl, rfl, (A14.slot (A14.slot (A14.slot (A14.slot (A14.slot (A14.slot (A14.slot (A14.slot (A14.slot A14.nil (v := .int .i64 q) (by kernel_rfl) (congrArg (Value.int .i64) (by omega))) (v := .int .i64 p) (by kernel_rfl) (congrArg (Value.int .i64) (by omega))) (v := .int .i64 q) (by kernel_rfl) rfl) (v := .pointer (some ⟨g3, 1, none⟩)) (by kernel_rfl) rfl) (v := .int .i64 p) (by kernel_rfl) rfl) (v := .pointer (some ⟨g3, 0, none⟩)) (by kernel_rfl) rfl) (v := .bool false) (by kernel_rfl) rfl) (v := .pointer (some ⟨g3, 0, none⟩)) (by kernel_rfl) rfl) (v := .agg #[.int .i64 p, .int .i64 q]) (by kernel_rfl) rfl), S8.sub sub_all sub_all⟩ ?_
  rintro mm ac wc ⟨a, b, hm17, he, A15, S16⟩
  refine wp_seq ?_
  refine wp_seq ?_
  refine wp_region_lit ?_
  refine s_one (.int .i64 b) A15 S16 (g_move (by kernel_rfl)) rfl (fun ac A18 => ?_)
  refine s_one (.bool (decide (b ≠ 0))) A18 S16 (g_bin (u := .int .i64 b) (k := .int .i64 0) (by kernel_rfl) (by kernel_rfl) (fun _ => by kernel_rfl) b_neq) rfl (fun ac A19 => ?_)
  refine wpList_nil ?_
  refine n_then ?_
  refine c_ifb (b := (decide (b ≠ 0))) A19 (by kernel_rfl) (fun h20 => ?_) (fun h20 => ?_)
  · have p21 := of_decide_eq_true h20
    refine wp_skip ?_
    refine n_then ?_
    refine wp_block ?_
    refine r_begin (w0 := w0) (by kernel_rfl) (S16.sub sub_all sub_all) (fun wc T22 B23 => ?_)
    have S24 := S16.kept B23
    refine r_take 0 (.int .i64 b) A19 T22 (g_move (by kernel_rfl)) rfl rfl rfl (pf_block (pf_then (pf_block (pf_then pf_body)))) (by kernel_rfl) (fun ac A25 => ?_)
    refine r_take 1 (.int .i64 a) A25 T22 (g_move (by kernel_rfl)) rfl rfl rfl (pf_block (pf_then (pf_block (pf_then pf_body)))) (by kernel_rfl) (fun ac A26 => ?_)
    refine r_take 2 (.int .i64 b) A26 T22 (g_move (by kernel_rfl)) rfl rfl rfl (pf_block (pf_then (pf_block (pf_then pf_body)))) (by kernel_rfl) (fun ac A27 => ?_)
    refine r_take 3 (.int .i64 ((a).tmod b)) A27 T22 (g_bin (u := .int .i64 a) (k := .int .i64 b) (by kernel_rfl) (by kernel_rfl) (fun _ => by kernel_rfl) (b_rem (by omega))) rfl rfl rfl (pf_block (pf_then (pf_block (pf_then pf_body)))) (by kernel_rfl) (fun ac A28 => ?_)
    refine r_take 4 (.int .i64 b) A28 T22 (g_assign (by kernel_rfl)) rfl rfl rfl (pf_block (pf_then (pf_block (pf_then pf_body)))) (by kernel_rfl) (fun ac A29 => ?_)
    refine r_take 5 (.int .i64 ((a).tmod b)) A29 T22 (g_assign (by kernel_rfl)) rfl rfl rfl (pf_block (pf_then (pf_block (pf_then pf_body)))) (by kernel_rfl) (fun ac A30 => ?_)
    refine r_done (by kernel_rfl) ?_
    refine n_block ?_
    refine n_then ?_
    refine ⟨_, ⟨b, a.tmod b, rfl, (by rw [← he, euc_step (a := a) (by assumption)]), (A30.slot (A30.slot (A30.slot (A30.slot (A30.slot (A30.slot (A30.slot (A30.slot (A30.slot A30.nil (v := .int .i64 ((a).tmod b)) (by kernel_rfl) (congrArg (Value.int .i64) (by omega))) (v := .int .i64 b) (by kernel_rfl) rfl) (v := .int .i64 q) (by kernel_rfl) rfl) (v := .pointer (some ⟨g3, 1, none⟩)) (by kernel_rfl) rfl) (v := .int .i64 p) (by kernel_rfl) rfl) (v := .pointer (some ⟨g3, 0, none⟩)) (by kernel_rfl) rfl) (v := .bool false) (by kernel_rfl) rfl) (v := .pointer (some ⟨g3, 0, none⟩)) (by kernel_rfl) rfl) (v := .agg #[.int .i64 p, .int .i64 q]) (by kernel_rfl) rfl), S24.sub sub_all sub_all⟩, ?_⟩
    have := rem_less (a := a) (b := b) (by assumption); omega
  · have p31 := of_decide_eq_false h20
    refine wp_exit ?_
    refine x_then ?_
    refine x_then ?_
    refine x_hit ?_
    refine n_then ?_
    refine wp_seq ?_
    refine c_cut (fun ac wc => Fr 26 ac [(2, .bool ((decide (q > 0)) && ((decide (a = 1)) || (decide (a = (-1)))))), (0, .agg #[.int .i64 p, .int .i64 q]), (1, .pointer (some ⟨g3, 0, none⟩)), (5, .pointer (some ⟨g3, 0, none⟩)), (6, .int .i64 p), (7, .pointer (some ⟨g3, 1, none⟩)), (8, .int .i64 q), (3, .int .i64 a), (4, .int .i64 b), (9, .int .i64 b), (10, .bool (decide (b ≠ 0)))] ∧ St w0 [⟨g3, 81, #[.int .i64 p, .int .i64 q], true⟩] [] wc) ?_ ?_
    · refine wp_region_lit ?_
      refine s_one (.pointer (some ⟨g3, 1, none⟩)) A19 S16 (g_field (u := .pointer (some ⟨g3, 0, none⟩)) (by kernel_rfl) (fun _ => by kernel_rfl)) rfl (fun ac A32 => ?_)
      refine s_one (.int .i64 q) A32 S16 (g_load (g := g3) (off := 1) 0 (by kernel_rfl) rfl (by kernel_rfl)) rfl (fun ac A33 => ?_)
      refine s_one (.bool (decide (q > 0))) A33 S16 (g_bin (u := .int .i64 q) (k := .int .i64 0) (by kernel_rfl) (by kernel_rfl) (fun _ => by kernel_rfl) (fun _ => by kernel_rfl)) rfl (fun ac A34 => ?_)
      refine s_one (.bool (decide (q > 0))) A34 S16 (g_move (by kernel_rfl)) rfl (fun ac A35 => ?_)
      refine by_bool (decide (q > 0)) (fun h36 => ?_) (fun h36 => ?_)
      · have p37 := of_decide_eq_true h36
        refine s_want (dj := 18) (b := (decide (q > 0))) A35 (by kernel_rfl) (by kernel_rfl) h36 ?_
        refine s_one (.int .i64 a) A35 S16 (g_move (by kernel_rfl)) rfl (fun ac A38 => ?_)
        refine s_want (dj := 18) (b := (decide (q > 0))) A38 (by kernel_rfl) (by kernel_rfl) h36 ?_
        refine s_one (.bool (decide (a = 1))) A38 S16 (g_bin (u := .int .i64 a) (k := .int .i64 1) (by kernel_rfl) (by kernel_rfl) (fun _ => by kernel_rfl) b_eql) rfl (fun ac A39 => ?_)
        refine s_want (dj := 18) (b := (decide (q > 0))) A39 (by kernel_rfl) (by kernel_rfl) h36 ?_
        refine s_one (.bool (decide (a = 1))) A39 S16 (g_move (by kernel_rfl)) rfl (fun ac A40 => ?_)
        refine by_bool (decide (a = 1)) (fun h41 => ?_) (fun h41 => ?_)
        · have p42 := of_decide_eq_true h41
          refine s_not (dj := 21) (b := (decide (a = 1))) A40 (by kernel_rfl) (by kernel_rfl) h41 rfl (fun ac A43 => ?_)
          refine s_not (dj := 21) (b := (decide (a = 1))) A43 (by kernel_rfl) (by kernel_rfl) h41 rfl (fun ac A44 => ?_)
          refine s_want (dj := 18) (b := (decide (q > 0))) A44 (by kernel_rfl) (by kernel_rfl) h36 ?_
          refine s_one (.bool true) A44 S16 (g_pick_t (b := (decide (a = 1))) (by kernel_rfl) h41 (by kernel_rfl)) rfl (fun ac A45 => ?_)
          refine s_one (.bool true) A45 S16 (g_pick_t (b := (decide (q > 0))) (by kernel_rfl) h36 (by kernel_rfl)) rfl (fun ac A46 => ?_)
          refine s_one (.bool true) A46 S16 (g_assign (by kernel_rfl)) rfl (fun ac A47 => ?_)
          refine wpList_nil ?_
          refine n_then ?_
          exact ⟨(A47.slot (A47.slot (A47.slot (A47.slot (A47.slot (A47.slot (A47.slot (A47.slot (A47.slot (A47.slot (A47.slot A47.nil (v := .bool (decide (b ≠ 0))) (by kernel_rfl) rfl) (v := .int .i64 b) (by kernel_rfl) rfl) (v := .int .i64 b) (by kernel_rfl) rfl) (v := .int .i64 a) (by kernel_rfl) rfl) (v := .int .i64 q) (by kernel_rfl) rfl) (v := .pointer (some ⟨g3, 1, none⟩)) (by kernel_rfl) rfl) (v := .int .i64 p) (by kernel_rfl) rfl) (v := .pointer (some ⟨g3, 0, none⟩)) (by kernel_rfl) rfl) (v := .pointer (some ⟨g3, 0, none⟩)) (by kernel_rfl) rfl) (v := .agg #[.int .i64 p, .int .i64 q]) (by kernel_rfl) rfl) (v := .bool true) (by kernel_rfl) (congrArg Value.bool (b_at h36 (b_ot1 h41)).symm)), S16.sub sub_all sub_all⟩
        · have p48 := of_decide_eq_false h41
          refine s_want (dj := 21) (b := (decide (a = 1))) A40 (by kernel_rfl) (by kernel_rfl) h41 ?_
          refine s_one (.int .i64 a) A40 S16 (g_move (by kernel_rfl)) rfl (fun ac A49 => ?_)
          refine s_want (dj := 21) (b := (decide (a = 1))) A49 (by kernel_rfl) (by kernel_rfl) h41 ?_
          refine s_one (.bool (decide (a = (-1)))) A49 S16 (g_bin (u := .int .i64 a) (k := .int .i64 (-1)) (by kernel_rfl) (by kernel_rfl) (fun _ => by kernel_rfl) b_eql) rfl (fun ac A50 => ?_)
          refine s_want (dj := 18) (b := (decide (q > 0))) A50 (by kernel_rfl) (by kernel_rfl) h36 ?_
          refine s_one (.bool (decide (a = (-1)))) A50 S16 (g_pick_f (b := (decide (a = 1))) (by kernel_rfl) h41 (by kernel_rfl)) rfl (fun ac A51 => ?_)
          refine s_one (.bool (decide (a = (-1)))) A51 S16 (g_pick_t (b := (decide (q > 0))) (by kernel_rfl) h36 (by kernel_rfl)) rfl (fun ac A52 => ?_)
          refine s_one (.bool (decide (a = (-1)))) A52 S16 (g_assign (by kernel_rfl)) rfl (fun ac A53 => ?_)
          refine wpList_nil ?_
          refine n_then ?_
          exact ⟨(A53.slot (A53.slot (A53.slot (A53.slot (A53.slot (A53.slot (A53.slot (A53.slot (A53.slot (A53.slot (A53.slot A53.nil (v := .bool (decide (b ≠ 0))) (by kernel_rfl) rfl) (v := .int .i64 b) (by kernel_rfl) rfl) (v := .int .i64 b) (by kernel_rfl) rfl) (v := .int .i64 a) (by kernel_rfl) rfl) (v := .int .i64 q) (by kernel_rfl) rfl) (v := .pointer (some ⟨g3, 1, none⟩)) (by kernel_rfl) rfl) (v := .int .i64 p) (by kernel_rfl) rfl) (v := .pointer (some ⟨g3, 0, none⟩)) (by kernel_rfl) rfl) (v := .pointer (some ⟨g3, 0, none⟩)) (by kernel_rfl) rfl) (v := .agg #[.int .i64 p, .int .i64 q]) (by kernel_rfl) rfl) (v := .bool (decide (a = (-1)))) (by kernel_rfl) (congrArg Value.bool (b_and_t h36 (b_or_f h41 (Eq.refl (decide (a = (-1)))))).symm)), S16.sub sub_all sub_all⟩
      · have p54 := of_decide_eq_false h36
        refine s_not (dj := 18) (b := (decide (q > 0))) A35 (by kernel_rfl) (by kernel_rfl) h36 rfl (fun ac A55 => ?_)
        refine s_not (dj := 18) (b := (decide (q > 0))) A55 (by kernel_rfl) (by kernel_rfl) h36 rfl (fun ac A56 => ?_)
        refine s_not (dj := 18) (b := (decide (q > 0))) A56 (by kernel_rfl) (by kernel_rfl) h36 rfl (fun ac A57 => ?_)
        refine s_notU (dj := 21) A57 (by kernel_rfl) (by kernel_rfl) rfl (fun ac A58 => ?_)
        refine s_notU (dj := 21) A58 (by kernel_rfl) (by kernel_rfl) rfl (fun ac A59 => ?_)
        refine s_not (dj := 18) (b := (decide (q > 0))) A59 (by kernel_rfl) (by kernel_rfl) h36 rfl (fun ac A60 => ?_)
        refine s_one (.bool false) A60 S16 (g_pick_f (b := (decide (q > 0))) (by kernel_rfl) h36 (by kernel_rfl)) rfl (fun ac A61 => ?_)
        refine s_one (.bool false) A61 S16 (g_assign (by kernel_rfl)) rfl (fun ac A62 => ?_)
        refine wpList_nil ?_
        refine n_then ?_
        exact ⟨(A62.slot (A62.slot (A62.slot (A62.slot (A62.slot (A62.slot (A62.slot (A62.slot (A62.slot (A62.slot (A62.slot A62.nil (v := .bool (decide (b ≠ 0))) (by kernel_rfl) rfl) (v := .int .i64 b) (by kernel_rfl) rfl) (v := .int .i64 b) (by kernel_rfl) rfl) (v := .int .i64 a) (by kernel_rfl) rfl) (v := .int .i64 q) (by kernel_rfl) rfl) (v := .pointer (some ⟨g3, 1, none⟩)) (by kernel_rfl) rfl) (v := .int .i64 p) (by kernel_rfl) rfl) (v := .pointer (some ⟨g3, 0, none⟩)) (by kernel_rfl) rfl) (v := .pointer (some ⟨g3, 0, none⟩)) (by kernel_rfl) rfl) (v := .agg #[.int .i64 p, .int .i64 q]) (by kernel_rfl) rfl) (v := .bool false) (by kernel_rfl) (congrArg Value.bool (b_af1 h36).symm)), S16.sub sub_all sub_all⟩
    · rintro ac wc ⟨A63, S64⟩
      refine n_then ?_
      refine wp_ret ?_
      refine fin1 (.bool ((decide (q > 0)) && ((decide (a = 1)) || (decide (a = (-1)))))) Try.results74 A63 S64 (rv_tmp (by kernel_rfl)) ⟨?_, S64.kp⟩
      obtain rfl : b = 0 := by omega
      rw [euc_zero] at he
      subst he
      rfl

def Size_w_r (n : Int) : Int := mx n (-n)

set_option maxRecDepth 100000 in
set_option maxHeartbeats 400000 in
theorem Size_w (n : Int) (w0 : World) (h0 : -9223372036854775807 ≤ n) (h1 : n ≤ 9223372036854775807) :
    Calls Try.prog 78 #[.int .i64 n] w0 fun e w' => e = .returned (.int .i64 (Size_w_r n)) ∧ Below w0.heap.size w0 w' := by
  have S0 := St.start w0
  refine enter (n := 7) Try.func78 rfl rfl rfl (fun ac A0 => ?_)
  refine wp_seq ?_
  refine wp_region_lit ?_
  refine s_one (.int .i64 0) A0 S0 (g_assign (by kernel_rfl)) rfl (fun ac A1 => ?_)
  refine wpList_nil ?_
  refine n_then ?_
  refine wp_seq ?_
  refine wp_region_lit ?_
  refine s_one (.int .i64 n) A1 S0 (g_move (by kernel_rfl)) rfl (fun ac A2 => ?_)
  refine s_one (.int .i64 n) A2 S0 (g_move (by kernel_rfl)) rfl (fun ac A3 => ?_)
  refine s_one (.int .i64 (-n)) A3 S0 (g_un (u := .int .i64 n) (by kernel_rfl) (u_neg (by omega))) rfl (fun ac A4 => ?_)
  refine s_one (.int .i64 (mx n (-n))) A4 S0 (g_built (r := [(0, .int .i64 n), (0, .int .i64 (-n))]) (by kernel_rfl) (fun ty cs w => by show (do let x ← Builtin.max_ _ ty #[.int .i64 n, .int .i64 (-n)]; pure (Next.value x) : Sem Next).run _ w = _; rw [Sem.run_bind, run_max_mx]; rfl)) rfl (fun ac A5 => ?_)
  refine s_one (.int .i64 (mx n (-n))) A5 S0 (g_assign (by kernel_rfl)) rfl (fun ac A6 => ?_)
  refine wpList_nil ?_
  refine n_then ?_
  refine wp_ret ?_
  refine fin1 (.int .i64 (mx n (-n))) Try.results78 A6 S0 (rv_tmp (by kernel_rfl)) ⟨?_, S0.kp⟩
  have e : Size_w_r n = (mx n (-n)) := by unfold Size_w_r; exact rfl
  rw [e]

def gcdE (p q : Int) : Int := Size_w_r (euc p q)

set_option maxRecDepth 100000 in
set_option maxHeartbeats 400000 in
theorem Gcd_s (p q : Int) (w0 : World) (h1 : 1 ≤ q) (h2 : q ≤ 9223372036854775807) :
    Calls Try.prog 83 #[.int .i64 p, .int .i64 q] w0 fun e w' => e = .returned (.int .i64 (gcdE p q)) ∧ Below w0.heap.size w0 w' := by
  have S0 := St.start w0
  refine enter (n := 13) Try.func83 rfl rfl rfl (fun ac A0 => ?_)
  refine wp_seq ?_
  refine wp_region_lit ?_
  refine s_one (.int .i64 0) A0 S0 (g_assign (by kernel_rfl)) rfl (fun ac A1 => ?_)
  refine wpList_nil ?_
  refine n_then ?_
  refine wp_seq ?_
  refine wp_block ?_
  refine c_loopN (fun mm ac wc => ∃ (a : Int) (b : Int), mm = b.natAbs ∧ (euc a b = euc p q) ∧ Fr 13 ac [(4, .int .i64 0), (0, .int .i64 a), (1, .int .i64 b)] ∧ St w0 [] [] wc) _ ⟨p, q, rfl, rfl, (A1.slot (A1.slot (A1.slot A1.nil (v := .int .i64 q) (by kernel_rfl) (congrArg (Value.int .i64) (by omega))) (v := .int .i64 p) (by kernel_rfl) (congrArg (Value.int .i64) (by omega))) (v := .int .i64 0) (by kernel_rfl) rfl), S0.sub sub_all sub_all⟩ ?_
  rintro mm ac wc ⟨a, b, hm4, he, A2, S3⟩
  refine wp_seq ?_
  refine wp_seq ?_
  refine wp_region_lit ?_
  refine s_one (.int .i64 b) A2 S3 (g_move (by kernel_rfl)) rfl (fun ac A5 => ?_)
  refine s_one (.bool (decide (b ≠ 0))) A5 S3 (g_bin (u := .int .i64 b) (k := .int .i64 0) (by kernel_rfl) (by kernel_rfl) (fun _ => by kernel_rfl) b_neq) rfl (fun ac A6 => ?_)
  refine wpList_nil ?_
  refine n_then ?_
  refine c_ifb (b := (decide (b ≠ 0))) A6 (by kernel_rfl) (fun h7 => ?_) (fun h7 => ?_)
  · have p8 := of_decide_eq_true h7
    refine wp_skip ?_
    refine n_then ?_
    refine wp_block ?_
    refine r_begin (w0 := w0) (by kernel_rfl) (S3.sub sub_all sub_all) (fun wc T9 B10 => ?_)
    have S11 := S3.kept B10
    refine r_take 0 (.int .i64 b) A6 T9 (g_move (by kernel_rfl)) rfl rfl rfl (pf_block (pf_then (pf_block (pf_then pf_body)))) (by kernel_rfl) (fun ac A12 => ?_)
    refine r_take 1 (.int .i64 a) A12 T9 (g_move (by kernel_rfl)) rfl rfl rfl (pf_block (pf_then (pf_block (pf_then pf_body)))) (by kernel_rfl) (fun ac A13 => ?_)
    refine r_take 2 (.int .i64 b) A13 T9 (g_move (by kernel_rfl)) rfl rfl rfl (pf_block (pf_then (pf_block (pf_then pf_body)))) (by kernel_rfl) (fun ac A14 => ?_)
    refine r_take 3 (.int .i64 ((a).tmod b)) A14 T9 (g_bin (u := .int .i64 a) (k := .int .i64 b) (by kernel_rfl) (by kernel_rfl) (fun _ => by kernel_rfl) (b_rem (by omega))) rfl rfl rfl (pf_block (pf_then (pf_block (pf_then pf_body)))) (by kernel_rfl) (fun ac A15 => ?_)
    refine r_take 4 (.int .i64 b) A15 T9 (g_assign (by kernel_rfl)) rfl rfl rfl (pf_block (pf_then (pf_block (pf_then pf_body)))) (by kernel_rfl) (fun ac A16 => ?_)
    refine r_take 5 (.int .i64 ((a).tmod b)) A16 T9 (g_assign (by kernel_rfl)) rfl rfl rfl (pf_block (pf_then (pf_block (pf_then pf_body)))) (by kernel_rfl) (fun ac A17 => ?_)
    refine r_done (by kernel_rfl) ?_
    refine n_block ?_
    refine n_then ?_
    refine ⟨_, ⟨b, a.tmod b, rfl, (by rw [← he, euc_step (a := a) (by assumption)]), (A17.slot (A17.slot (A17.slot A17.nil (v := .int .i64 ((a).tmod b)) (by kernel_rfl) (congrArg (Value.int .i64) (by omega))) (v := .int .i64 b) (by kernel_rfl) rfl) (v := .int .i64 0) (by kernel_rfl) rfl), S11.sub sub_all sub_all⟩, ?_⟩
    have := rem_less (a := a) (b := b) (by assumption); omega
  · have p18 := of_decide_eq_false h7
    refine wp_exit ?_
    refine x_then ?_
    refine x_then ?_
    refine x_hit ?_
    refine n_then ?_
    refine wp_seq ?_
    obtain rfl : b = 0 := by omega
    rw [euc_zero] at he
    subst he
    have hE := euc_le q.natAbs p q (Nat.le_refl _) (by omega)
    refine wp_region_lit ?_
    refine s_one (.int .i64 (euc p q)) A6 S3 (g_move (by kernel_rfl)) rfl (fun ac A19 => ?_)
    refine s_call (fs := #[]) (cp := #[]) (r := [(0, .int .i64 (euc p q))]) #[.int .i64 (euc p q)] (.int .i64 (Size_w_r (euc p q))) A19 S3 (Size_w (euc p q) _ (by omega) (by omega)) Try.call78 (by kernel_rfl) (by kernel_rfl) (by kernel_rfl) rfl (fun ac wc A20 S21 => ?_)
    refine s_one (.int .i64 (Size_w_r (euc p q))) A20 S21 (g_assign (by kernel_rfl)) rfl (fun ac A23 => ?_)
    refine wpList_nil ?_
    refine n_then ?_
    refine wp_ret ?_
    refine fin1 (.int .i64 (Size_w_r (euc p q))) Try.results83 A23 S21 (rv_tmp (by kernel_rfl)) ⟨?_, S21.kp⟩
    rfl

theorem isLow_eq (p q : Int) : (decide (q > 0) && decide (gcdE p q = 1)) = isLow p q := by
  unfold isLow gcdE Size_w_r
  rw [mx_eq]
  by_cases h : euc p q = 1
  · rw [h]; simp; omega
  · by_cases h2 : euc p q = -1
    · rw [h2]; simp; omega
    · have : ¬ max (euc p q) (-euc p q) = 1 := by omega
      simp [h, h2, this]

set_option maxRecDepth 100000 in
set_option maxHeartbeats 400000 in
theorem IsLowest_s (p q : Int) (w0 : World) (h2 : q ≤ 9223372036854775807) :
    Calls Try.prog 75 #[.agg #[.int .i64 p, .int .i64 q]] w0 fun e w' => e = .returned (.bool (isLow p q)) ∧ Below w0.heap.size w0 w' := by
  have S0 := St.start w0
  refine enter (n := 14) Try.func75 rfl rfl rfl (fun ac A0 => ?_)
  refine wp_seq ?_
  refine wp_region_lit ?_
  refine s_box (.agg #[.int .i64 p, .int .i64 q]) A0 S0 (by kernel_rfl) rfl (fun g3 ac wc A1 S2 => ?_)
  replace S2 : St _ (⟨g3, 81, #[.int .i64 p, .int .i64 q], true⟩ :: _) _ _ := S2
  refine s_one (.bool false) A1 S2 (g_assign (by kernel_rfl)) rfl (fun ac A5 => ?_)
  refine wpList_nil ?_
  refine n_then ?_
  refine wp_seq ?_
  refine c_cut (fun ac wc => Fr 14 ac [(2, .bool ((decide (q > 0)) && (decide (gcdE p q = 1)))), (0, .agg #[.int .i64 p, .int .i64 q]), (1, .pointer (some ⟨g3, 0, none⟩))] ∧ St w0 [⟨g3, 81, #[.int .i64 p, .int .i64 q], true⟩] [] wc) ?_ ?_
  · refine wp_region_lit ?_
    refine s_one (.pointer (some ⟨g3, 1, none⟩)) A5 S2 (g_field (u := .pointer (some ⟨g3, 0, none⟩)) (by kernel_rfl) (fun _ => by kernel_rfl)) rfl (fun ac A6 => ?_)
    refine s_one (.int .i64 q) A6 S2 (g_load (g := g3) (off := 1) 0 (by kernel_rfl) rfl (by kernel_rfl)) rfl (fun ac A7 => ?_)
    refine s_one (.bool (decide (q > 0))) A7 S2 (g_bin (u := .int .i64 q) (k := .int .i64 0) (by kernel_rfl) (by kernel_rfl) (fun _ => by kernel_rfl) (fun _ => by kernel_rfl)) rfl (fun ac A8 => ?_)
    refine s_one (.bool (decide (q > 0))) A8 S2 (g_move (by kernel_rfl)) rfl (fun ac A9 => ?_)
    refine by_bool (decide (q > 0)) (fun h10 => ?_) (fun h10 => ?_)
    · have p11 := of_decide_eq_true h10
      refine s_want (dj := 6) (b := (decide (q > 0))) A9 (by kernel_rfl) (by kernel_rfl) h10 ?_
      refine s_one (.pointer (some ⟨g3, 0, none⟩)) A9 S2 (g_field (u := .pointer (some ⟨g3, 0, none⟩)) (by kernel_rfl) (fun _ => by kernel_rfl)) rfl (fun ac A12 => ?_)
      refine s_want (dj := 6) (b := (decide (q > 0))) A12 (by kernel_rfl) (by kernel_rfl) h10 ?_
      refine s_one (.int .i64 p) A12 S2 (g_load (g := g3) (off := 0) 0 (by kernel_rfl) rfl (by kernel_rfl)) rfl (fun ac A13 => ?_)
      refine s_want (dj := 6) (b := (decide (q > 0))) A13 (by kernel_rfl) (by kernel_rfl) h10 ?_
      refine s_one (.pointer (some ⟨g3, 1, none⟩)) A13 S2 (g_field (u := .pointer (some ⟨g3, 0, none⟩)) (by kernel_rfl) (fun _ => by kernel_rfl)) rfl (fun ac A14 => ?_)
      refine s_want (dj := 6) (b := (decide (q > 0))) A14 (by kernel_rfl) (by kernel_rfl) h10 ?_
      refine s_one (.int .i64 q) A14 S2 (g_load (g := g3) (off := 1) 0 (by kernel_rfl) rfl (by kernel_rfl)) rfl (fun ac A15 => ?_)
      refine s_want (dj := 6) (b := (decide (q > 0))) A15 (by kernel_rfl) (by kernel_rfl) h10 ?_
      refine s_call (fs := #[]) (cp := #[]) (r := [(0, .int .i64 p), (0, .int .i64 q)]) #[.int .i64 p, .int .i64 q] (.int .i64 (gcdE p q)) A15 S2 (Gcd_s p q _ (by omega) (by omega)) Try.call83 (by kernel_rfl) (by kernel_rfl) (by kernel_rfl) rfl (fun ac wc A16 S17 => ?_)
      refine s_want (dj := 6) (b := (decide (q > 0))) A16 (by kernel_rfl) (by kernel_rfl) h10 ?_
      refine s_one (.bool (decide (gcdE p q = 1))) A16 S17 (g_bin (u := .int .i64 (gcdE p q)) (k := .int .i64 1) (by kernel_rfl) (by kernel_rfl) (fun _ => by kernel_rfl) b_eql) rfl (fun ac A19 => ?_)
      refine s_one (.bool (decide (gcdE p q = 1))) A19 S17 (g_pick_t (b := (decide (q > 0))) (by kernel_rfl) h10 (by kernel_rfl)) rfl (fun ac A20 => ?_)
      refine s_one (.bool (decide (gcdE p q = 1))) A20 S17 (g_assign (by kernel_rfl)) rfl (fun ac A21 => ?_)
      refine wpList_nil ?_
      refine n_then ?_
      exact ⟨(A21.slot (A21.slot (A21.slot A21.nil (v := .pointer (some ⟨g3, 0, none⟩)) (by kernel_rfl) rfl) (v := .agg #[.int .i64 p, .int .i64 q]) (by kernel_rfl) rfl) (v := .bool (decide (gcdE p q = 1))) (by kernel_rfl) (congrArg Value.bool (b_and_t h10 (Eq.refl (decide (gcdE p q = 1)))).symm)), S17.sub sub_all sub_all⟩
    · have p22 := of_decide_eq_false h10
      refine s_not (dj := 6) (b := (decide (q > 0))) A9 (by kernel_rfl) (by kernel_rfl) h10 rfl (fun ac A23 => ?_)
      refine s_not (dj := 6) (b := (decide (q > 0))) A23 (by kernel_rfl) (by kernel_rfl) h10 rfl (fun ac A24 => ?_)
      refine s_not (dj := 6) (b := (decide (q > 0))) A24 (by kernel_rfl) (by kernel_rfl) h10 rfl (fun ac A25 => ?_)
      refine s_not (dj := 6) (b := (decide (q > 0))) A25 (by kernel_rfl) (by kernel_rfl) h10 rfl (fun ac A26 => ?_)
      refine s_not (dj := 6) (b := (decide (q > 0))) A26 (by kernel_rfl) (by kernel_rfl) h10 rfl (fun ac A27 => ?_)
      refine s_not (dj := 6) (b := (decide (q > 0))) A27 (by kernel_rfl) (by kernel_rfl) h10 rfl (fun ac A28 => ?_)
      refine s_one (.bool false) A28 S2 (g_pick_f (b := (decide (q > 0))) (by kernel_rfl) h10 (by kernel_rfl)) rfl (fun ac A29 => ?_)
      refine s_one (.bool false) A29 S2 (g_assign (by kernel_rfl)) rfl (fun ac A30 => ?_)
      refine wpList_nil ?_
      refine n_then ?_
      exact ⟨(A30.slot (A30.slot (A30.slot A30.nil (v := .pointer (some ⟨g3, 0, none⟩)) (by kernel_rfl) rfl) (v := .agg #[.int .i64 p, .int .i64 q]) (by kernel_rfl) rfl) (v := .bool false) (by kernel_rfl) (congrArg Value.bool (b_af1 h10).symm)), S2.sub sub_all sub_all⟩
  · rintro ac wc ⟨A31, S32⟩
    refine n_then ?_
    refine wp_ret ?_
    refine fin1 (.bool ((decide (q > 0)) && (decide (gcdE p q = 1)))) Try.results75 A31 S32 (rv_tmp (by kernel_rfl)) ⟨?_, S32.kp⟩
    rw [← isLow_eq]

set_option maxRecDepth 100000 in
set_option maxHeartbeats 400000 in
theorem Whole_s (n : Int) (w0 : World) :
    Calls Try.prog 44 #[.int .i64 n] w0 fun e w' => e = .returned (.agg #[.int .i64 n, .int .i64 1]) ∧ Below w0.heap.size w0 w' := by
  have S0 := St.start w0
  refine enter (n := 5) Try.func44 rfl rfl rfl (fun ac A0 => ?_)
  refine wp_seq ?_
  refine wp_region_lit ?_
  refine s_alloc (#[.int .i64 0, .int .i64 0]) A0 S0 (by kernel_rfl) rfl (fun g3 ac wc A1 S2 => ?_)
  refine wpList_nil ?_
  refine n_then ?_
  refine wp_seq ?_
  refine wp_region_lit ?_
  refine s_one (.int .i64 n) A1 S2 (g_move (by kernel_rfl)) rfl (fun ac A4 => ?_)
  refine s_one (.agg #[.int .i64 n, .int .i64 1]) A4 S2 (g_build (r := [(0, .int .i64 n), (1, .int .i64 1)]) (by kernel_rfl) (fun _ => by kernel_rfl)) rfl (fun ac A5 => ?_)
  refine s_store (g := g3) (off := 0) (v := .agg #[.int .i64 n, .int .i64 1]) 0 (#[.int .i64 n, .int .i64 1]) A5 S2 (by kernel_rfl) (by kernel_rfl) rfl (by kernel_rfl) (fun wc S7 => ?_)
  refine wpList_nil ?_
  refine n_then ?_
  refine wp_ret ?_
  refine fin1 (.agg #[.int .i64 n, .int .i64 1]) Try.results44 A5 S7 (rv_cell (g := g3) (off := 0) 0 (by kernel_rfl) rfl (by kernel_rfl)) ⟨?_, S7.kp⟩
  rfl

def refGainErr_a_r (p : Int) (q : Int) : Int := bif !(isLow p q) then 3 else (bif (!(inB p 0 1000)) || (decide (q > 1000)) then 2 else 0)

set_option maxRecDepth 100000 in
set_option maxHeartbeats 400000 in
theorem refGainErr_a (p : Int) (q : Int) (w0 : World) (h2 : q ≤ 9223372036854775807) :
    Calls Try.prog 41 #[.agg #[.int .i64 p, .int .i64 q]] w0 fun e w' => e = .returned (.int .i64 (refGainErr_a_r p q)) ∧ Below w0.heap.size w0 w' := by
  have S0 := St.start w0
  refine enter (n := 15) Try.func41 rfl rfl rfl (fun ac A0 => ?_)
  refine wp_seq ?_
  refine wp_region_lit ?_
  refine s_box (.agg #[.int .i64 p, .int .i64 q]) A0 S0 (by kernel_rfl) rfl (fun g3 ac wc A1 S2 => ?_)
  replace S2 : St _ (⟨g3, 81, #[.int .i64 p, .int .i64 q], true⟩ :: _) _ _ := S2
  refine s_one (.int .i64 0) A1 S2 (g_assign (by kernel_rfl)) rfl (fun ac A5 => ?_)
  refine wpList_nil ?_
  refine n_then ?_
  refine wp_seq ?_
  refine wp_seq ?_
  refine wp_region_lit ?_
  refine s_one (.agg #[.int .i64 p, .int .i64 q]) A5 S2 (g_load (g := g3) (off := 0) 0 (by kernel_rfl) rfl (by kernel_rfl)) rfl (fun ac A6 => ?_)
  refine s_call (fs := #[]) (cp := #[]) (r := [(0, .agg #[.int .i64 p, .int .i64 q])]) #[.agg #[.int .i64 p, .int .i64 q]] (.bool (isLow p q)) A6 S2 (IsLowest_s p q _ (by omega)) Try.call75 (by kernel_rfl) (by kernel_rfl) (by kernel_rfl) rfl (fun ac wc A7 S8 => ?_)
  refine s_one (.bool (!(isLow p q))) A7 S8 (g_un (u := .bool (isLow p q)) (by kernel_rfl) (fun _ => by kernel_rfl)) rfl (fun ac A10 => ?_)
  refine wpList_nil ?_
  refine n_then ?_
  refine c_ifb (b := (!(isLow p q))) A10 (by kernel_rfl) (fun h11 => ?_) (fun h11 => ?_)
  · have h12 : isLow p q = false := by simpa using h11
    refine wp_seq ?_
    refine wp_region_lit ?_
    refine s_one (.int .i64 3) A10 S8 (g_assign (by kernel_rfl)) rfl (fun ac A13 => ?_)
    refine wpList_nil ?_
    refine n_then ?_
    refine wp_ret ?_
    refine r_then ?_
    refine fin1 (.int .i64 3) Try.results41 A13 S8 (rv_tmp (by kernel_rfl)) ⟨?_, S8.kp⟩
    have e : refGainErr_a_r p q = 3 := by unfold refGainErr_a_r; exact ((bif_t h11).trans rfl)
    rw [e]
  · have h14 : isLow p q = true := by simpa using h11
    refine wp_skip ?_
    refine n_then ?_
    refine wp_seq ?_
    refine wp_seq ?_
    refine c_cut (fun ac wc => Fr 15 ac [(14, .bool ((!(inB p 0 1000)) || (decide (q > 1000)))), (0, .agg #[.int .i64 p, .int .i64 q]), (1, .pointer (some ⟨g3, 0, none⟩)), (2, .int .i64 0), (3, .agg #[.int .i64 p, .int .i64 q]), (4, .bool (isLow p q)), (5, .bool (!(isLow p q)))] ∧ St w0 [⟨g3, 81, #[.int .i64 p, .int .i64 q], true⟩] [] wc) ?_ ?_
    · refine wp_region_lit ?_
      refine s_one (.pointer (some ⟨g3, 0, none⟩)) A10 S8 (g_field (u := .pointer (some ⟨g3, 0, none⟩)) (by kernel_rfl) (fun _ => by kernel_rfl)) rfl (fun ac A15 => ?_)
      refine s_one (.int .i64 p) A15 S8 (g_load (g := g3) (off := 0) 0 (by kernel_rfl) rfl (by kernel_rfl)) rfl (fun ac A16 => ?_)
      refine s_call (fs := #[]) (cp := #[]) (r := [(0, .int .i64 p), (0, .int .i64 0), (0, .int .i64 1000)]) #[.int .i64 p, .int .i64 0, .int .i64 1000] (.bool (inB p 0 1000)) A16 S8 (sameB (Within_any p 0 1000 _)) Try.call22 (by kernel_rfl) (by kernel_rfl) (by kernel_rfl) rfl (fun ac wc A17 S18 => ?_)
      refine s_one (.bool (!(inB p 0 1000))) A17 S18 (g_un (u := .bool (inB p 0 1000)) (by kernel_rfl) (fun _ => by kernel_rfl)) rfl (fun ac A20 => ?_)
      refine s_one (.bool (!(inB p 0 1000))) A20 S18 (g_move (by kernel_rfl)) rfl (fun ac A21 => ?_)
      refine by_bool (!(inB p 0 1000)) (fun h22 => ?_) (fun h22 => ?_)
      · have h23 : inB p 0 1000 = false := by simpa using h22
        refine s_not (dj := 10) (b := (!(inB p 0 1000))) A21 (by kernel_rfl) (by kernel_rfl) h22 rfl (fun ac A24 => ?_)
        refine s_not (dj := 10) (b := (!(inB p 0 1000))) A24 (by kernel_rfl) (by kernel_rfl) h22 rfl (fun ac A25 => ?_)
        refine s_not (dj := 10) (b := (!(inB p 0 1000))) A25 (by kernel_rfl) (by kernel_rfl) h22 rfl (fun ac A26 => ?_)
        refine s_one (.bool true) A26 S18 (g_pick_t (b := (!(inB p 0 1000))) (by kernel_rfl) h22 (by kernel_rfl)) rfl (fun ac A27 => ?_)
        refine wpList_nil ?_
        refine n_then ?_
        exact ⟨(A27.slot (A27.slot (A27.slot (A27.slot (A27.slot (A27.slot (A27.slot A27.nil (v := .bool (!(isLow p q))) (by kernel_rfl) rfl) (v := .bool (isLow p q)) (by kernel_rfl) rfl) (v := .agg #[.int .i64 p, .int .i64 q]) (by kernel_rfl) rfl) (v := .int .i64 0) (by kernel_rfl) rfl) (v := .pointer (some ⟨g3, 0, none⟩)) (by kernel_rfl) rfl) (v := .agg #[.int .i64 p, .int .i64 q]) (by kernel_rfl) rfl) (v := .bool true) (by kernel_rfl) (congrArg Value.bool (b_ot1 h22).symm)), S18.sub sub_all sub_all⟩
      · have h28 : inB p 0 1000 = true := by simpa using h22
        refine s_want (dj := 10) (b := (!(inB p 0 1000))) A21 (by kernel_rfl) (by kernel_rfl) h22 ?_
        refine s_one (.pointer (some ⟨g3, 1, none⟩)) A21 S18 (g_field (u := .pointer (some ⟨g3, 0, none⟩)) (by kernel_rfl) (fun _ => by kernel_rfl)) rfl (fun ac A29 => ?_)
        refine s_want (dj := 10) (b := (!(inB p 0 1000))) A29 (by kernel_rfl) (by kernel_rfl) h22 ?_
        refine s_one (.int .i64 q) A29 S18 (g_load (g := g3) (off := 1) 0 (by kernel_rfl) rfl (by kernel_rfl)) rfl (fun ac A30 => ?_)
        refine s_want (dj := 10) (b := (!(inB p 0 1000))) A30 (by kernel_rfl) (by kernel_rfl) h22 ?_
        refine s_one (.bool (decide (q > 1000))) A30 S18 (g_bin (u := .int .i64 q) (k := .int .i64 1000) (by kernel_rfl) (by kernel_rfl) (fun _ => by kernel_rfl) (fun _ => by kernel_rfl)) rfl (fun ac A31 => ?_)
        refine s_one (.bool (decide (q > 1000))) A31 S18 (g_pick_f (b := (!(inB p 0 1000))) (by kernel_rfl) h22 (by kernel_rfl)) rfl (fun ac A32 => ?_)
        refine wpList_nil ?_
        refine n_then ?_
        exact ⟨(A32.slot (A32.slot (A32.slot (A32.slot (A32.slot (A32.slot (A32.slot A32.nil (v := .bool (!(isLow p q))) (by kernel_rfl) rfl) (v := .bool (isLow p q)) (by kernel_rfl) rfl) (v := .agg #[.int .i64 p, .int .i64 q]) (by kernel_rfl) rfl) (v := .int .i64 0) (by kernel_rfl) rfl) (v := .pointer (some ⟨g3, 0, none⟩)) (by kernel_rfl) rfl) (v := .agg #[.int .i64 p, .int .i64 q]) (by kernel_rfl) rfl) (v := .bool (decide (q > 1000))) (by kernel_rfl) (congrArg Value.bool (b_or_f h22 (Eq.refl (decide (q > 1000)))).symm)), S18.sub sub_all sub_all⟩
    · rintro ac wc ⟨A33, S34⟩
      refine n_then ?_
      refine c_ifb (b := ((!(inB p 0 1000)) || (decide (q > 1000)))) A33 (by kernel_rfl) (fun h35 => ?_) (fun h35 => ?_)
      · refine wp_seq ?_
        refine wp_region_lit ?_
        refine s_one (.int .i64 2) A33 S34 (g_assign (by kernel_rfl)) rfl (fun ac A36 => ?_)
        refine wpList_nil ?_
        refine n_then ?_
        refine wp_ret ?_
        refine r_then ?_
        refine fin1 (.int .i64 2) Try.results41 A36 S34 (rv_tmp (by kernel_rfl)) ⟨?_, S34.kp⟩
        have e : refGainErr_a_r p q = 2 := by unfold refGainErr_a_r; exact ((bif_f h11).trans ((bif_t h35).trans rfl))
        rw [e]
      · have h37 := (Bool.or_eq_false_iff.1 h35).1
        have h38 : inB p 0 1000 = true := by simpa using h37
        have h39 := (Bool.or_eq_false_iff.1 h35).2
        have p40 := of_decide_eq_false h39
        refine wp_skip ?_
        refine n_then ?_
        refine wp_seq ?_
        refine wp_region_lit ?_
        refine s_one (.int .i64 0) A33 S34 (g_assign (by kernel_rfl)) rfl (fun ac A41 => ?_)
        refine wpList_nil ?_
        refine n_then ?_
        refine wp_ret ?_
        refine fin1 (.int .i64 0) Try.results41 A41 S34 (rv_tmp (by kernel_rfl)) ⟨?_, S34.kp⟩
        have e : refGainErr_a_r p q = 0 := by unfold refGainErr_a_r; exact ((bif_f h11).trans ((bif_f h35).trans rfl))
        rw [e]

def gnN (x : List Int) (p q : Int) (i : Nat) : Int := rounded_a_r (nthI x i * p) q
def gnF (x : List Int) (p q : Int) (i : Nat) : Int := mx (-2047) (mn (gnN x p q i) 2047)
def gnL (x : List Int) (p q : Int) : List Int := (List.range 64).map (gnF x p q)
theorem gnL_length (x : List Int) (p q : Int) : (gnL x p q).length = 64 := by simp [gnL]
/-- How many of the first k are cut. -/
def gnC (x : List Int) (p q : Int) : Nat → Int
  | 0 => 0
  | k + 1 => gnC x p q k + (if gnF x p q k ≠ gnN x p q k then 1 else 0)
theorem gnC_bd (x : List Int) (p q : Int) : ∀ k : Nat, 0 ≤ gnC x p q k ∧ gnC x p q k ≤ (k : Int)
  | 0 => by simp [gnC]
  | k + 1 => by have := gnC_bd x p q k; simp only [gnC]; split <;> omega
theorem gnC_y {x : List Int} {p q : Int} {k : Nat} (h : gnF x p q k ≠ gnN x p q k) : gnC x p q k + 1 = gnC x p q (k + 1) := by simp only [gnC]; rw [if_pos h]
theorem gnC_n {x : List Int} {p q : Int} {k : Nat} (h : ¬ gnF x p q k ≠ gnN x p q k) : gnC x p q k = gnC x p q (k + 1) := by simp only [gnC]; rw [if_neg h]; omega
theorem gn_ref (x : List Int) (p q : Int) (k : Nat) : mx (-2047) (mn 2047 (refRounded_a_r (nthI x k * p) q)) = gnF x p q k := by
  unfold gnF gnN rounded_a_r refRounded_a_r; rw [mn_eq, mn_eq, Int.min_comm]
theorem mul_bd2 {x y : Int} (hx : -2047 ≤ x ∧ x ≤ 2047) (h0 : 0 ≤ y) (h1 : y ≤ 1000) : -2047000 ≤ x * y ∧ x * y ≤ 2047000 := by
  have a1 := Int.mul_le_mul_of_nonneg_right hx.2 h0
  have a2 := Int.mul_le_mul_of_nonneg_right hx.1 h0
  omega
def gnRes (xs : List Nat) (p q : Int) : List Nat × Int × Int :=
  if (firstErr xs 0).2 ≠ 0 then (zT, 0, (firstErr xs 0).2) else if isLow p q = true then
    (if inB p 0 1000 = true ∧ q ≤ 1000 then (mkT (gnL (nums xs) p q) 64, gnC (nums xs) p q 64, 0) else (zT, 0, 2)) else (zT, 0, 3)
theorem gnRes_length (xs : List Nat) (p q : Int) : (gnRes xs p q).1.length = 64 := by
  unfold gnRes; split
  · exact zT_length
  · split
    · split
      · exact mkT_length _ _
      · exact zT_length
    · exact zT_length
theorem isLow_pos {p q : Int} (h : isLow p q = true) : 0 < q := by unfold isLow at h; simp at h; exact h.1

set_option maxRecDepth 100000 in
set_option maxHeartbeats 400000 in
theorem Gained_s (xs : List Nat) (p q : Int) (w0 : World) (hl : xs.length = 64) :
    Calls Try.prog 40 #[.agg (trc xs), .agg #[.int .i64 p, .int .i64 q]] w0 fun e w' => e = .returned (.tuple #[.agg (trc (gnRes xs p q).1), .int .i64 (gnRes xs p q).2.1, .int .i64 (gnRes xs p q).2.2]) ∧ Below w0.heap.size w0 w' := by
  have S0 := St.start w0
  refine enter (n := 64) Try.func40 rfl rfl rfl (fun ac A0 => ?_)
  refine wp_seq ?_
  refine wp_region_lit ?_
  refine s_box (.agg (trc xs)) A0 S0 (by kernel_rfl) rfl (fun g3 ac wc A1 S2 => ?_)
  replace S2 : St _ (⟨g3, 26, (trc xs), true⟩ :: _) _ _ := S2
  refine s_box (.agg #[.int .i64 p, .int .i64 q]) A1 S2 (by kernel_rfl) rfl (fun g7 ac wc A5 S6 => ?_)
  replace S6 : St _ (⟨g7, 81, #[.int .i64 p, .int .i64 q], true⟩ :: _) _ _ := S6
  refine s_alloc (trc zT) A5 S6 zero26 rfl (fun g11 ac wc A9 S10 => ?_)
  refine s_one (.int .i64 0) A9 S10 (g_assign (by kernel_rfl)) rfl (fun ac A12 => ?_)
  refine s_one (.int .i64 0) A12 S10 (g_assign (by kernel_rfl)) rfl (fun ac A13 => ?_)
  refine wpList_nil ?_
  refine n_then ?_
  refine wp_seq ?_
  refine wp_seq ?_
  refine wp_region_lit ?_
  refine s_one (.agg (trc xs)) A13 S10 (g_loadW (g := g3) 2 (by kernel_rfl) rfl ((trc_size _).trans hl) ⟨⟨_, Try.underlying26, rfl⟩, by kernel_rfl⟩) rfl (fun ac A14 => ?_)
  refine s_call (fs := #[]) (cp := #[]) (r := [(0, .agg (trc xs))]) #[.agg (trc xs)] (.int .i64 ((firstErr xs 0).2)) A14 S10 (traceErr_any xs _ hl) Try.call54 (by kernel_rfl) (by kernel_rfl) (by kernel_rfl) rfl (fun ac wc A15 S16 => ?_)
  refine s_one (.int .i64 ((firstErr xs 0).2)) A15 S16 (g_assign (by kernel_rfl)) rfl (fun ac A18 => ?_)
  refine wpList_nil ?_
  refine n_then ?_
  refine wp_block ?_
  refine wp_seq ?_
  refine wp_region_lit ?_
  refine s_one (.int .i64 ((firstErr xs 0).2)) A18 S16 (g_move (by kernel_rfl)) rfl (fun ac A19 => ?_)
  refine s_one (.bool (decide ((firstErr xs 0).2 ≠ 0))) A19 S16 (g_bin (u := .int .i64 ((firstErr xs 0).2)) (k := .int .i64 0) (by kernel_rfl) (by kernel_rfl) (fun _ => by kernel_rfl) b_neq) rfl (fun ac A20 => ?_)
  refine s_one (.bool (decide ((firstErr xs 0).2 ≠ 0))) A20 S16 (g_assign (by kernel_rfl)) rfl (fun ac A21 => ?_)
  refine wpList_nil ?_
  refine n_then ?_
  refine c_ifb (b := (decide ((firstErr xs 0).2 ≠ 0))) A21 (by kernel_rfl) (fun h22 => ?_) (fun h22 => ?_)
  · have p23 := of_decide_eq_true h22
    refine wp_seq ?_
    refine wp_region_lit ?_
    refine s_one (.agg (trc zT)) A21 S16 (g_build (r := []) (by kernel_rfl) (fun _ => by kernel_rfl)) rfl (fun ac A24 => ?_)
    refine s_one (.int .i64 ((firstErr xs 0).2)) A24 S16 (g_move (by kernel_rfl)) rfl (fun ac A25 => ?_)
    refine s_store (g := g11) (off := 0) (v := .agg (trc zT)) 0 (trc zT) A25 S16 (by kernel_rfl) (by kernel_rfl) rfl (putVal_whole ((trc_size _).trans zT_length) ((trc_size _).trans zT_length) ⟨⟨_, Try.underlying26, rfl⟩, by kernel_rfl⟩ (trc_one _)) (fun wc S27 => ?_)
    refine s_one (.int .i64 0) A25 S27 (g_assign (by kernel_rfl)) rfl (fun ac A29 => ?_)
    refine s_one (.int .i64 ((firstErr xs 0).2)) A29 S27 (g_assign (by kernel_rfl)) rfl (fun ac A30 => ?_)
    refine wpList_nil ?_
    refine n_then ?_
    refine wp_ret ?_
    refine r_block ?_
    refine r_then ?_
    refine fin3 (.agg (trc zT)) (.int .i64 0) (.int .i64 ((firstErr xs 0).2)) Try.results40 A30 S27 (rv_cell (g := g11) (off := 0) 0 (by kernel_rfl) rfl (rowVal_whole ((trc_size _).trans zT_length) ⟨⟨_, Try.underlying26, rfl⟩, by kernel_rfl⟩)) (rv_tmp (by kernel_rfl)) (rv_tmp (by kernel_rfl)) ⟨?_, S27.kp⟩
    unfold gnRes
    rw [if_pos p23]
  · have p31 := of_decide_eq_false h22
    have e0 : (firstErr xs 0).2 = 0 := by simpa using h22
    have sx : Small (nums xs) := nums_range hl (right_of e0)
    refine wp_seq ?_
    refine wp_region_lit ?_
    refine s_one (.agg #[.int .i64 p, .int .i64 q]) A21 S16 (g_load (g := g7) (off := 0) 1 (by kernel_rfl) rfl (by kernel_rfl)) rfl (fun ac A32 => ?_)
    refine s_call (fs := #[]) (cp := #[]) (r := [(0, .agg #[.int .i64 p, .int .i64 q])]) #[.agg #[.int .i64 p, .int .i64 q]] (.bool (isLow p q)) A32 S16 (isLowest_s p q _) Try.call74 (by kernel_rfl) (by kernel_rfl) (by kernel_rfl) rfl (fun ac wc A33 S34 => ?_)
    refine s_one (.bool (!(isLow p q))) A33 S34 (g_un (u := .bool (isLow p q)) (by kernel_rfl) (fun _ => by kernel_rfl)) rfl (fun ac A36 => ?_)
    refine s_one (.bool (!(isLow p q))) A36 S34 (g_assign (by kernel_rfl)) rfl (fun ac A37 => ?_)
    refine wpList_nil ?_
    refine n_then ?_
    refine c_ifb (b := (!(isLow p q))) A37 (by kernel_rfl) (fun h38 => ?_) (fun h38 => ?_)
    · have h39 : isLow p q = false := by simpa using h38
      refine wp_seq ?_
      refine wp_region_lit ?_
      refine s_one (.agg (trc zT)) A37 S34 (g_build (r := []) (by kernel_rfl) (fun _ => by kernel_rfl)) rfl (fun ac A40 => ?_)
      refine s_store (g := g11) (off := 0) (v := .agg (trc zT)) 0 (trc zT) A40 S34 (by kernel_rfl) (by kernel_rfl) rfl (putVal_whole ((trc_size _).trans zT_length) ((trc_size _).trans zT_length) ⟨⟨_, Try.underlying26, rfl⟩, by kernel_rfl⟩ (trc_one _)) (fun wc S42 => ?_)
      refine s_one (.int .i64 0) A40 S42 (g_assign (by kernel_rfl)) rfl (fun ac A44 => ?_)
      refine s_one (.int .i64 3) A44 S42 (g_assign (by kernel_rfl)) rfl (fun ac A45 => ?_)
      refine wpList_nil ?_
      refine n_then ?_
      refine wp_ret ?_
      refine r_block ?_
      refine r_then ?_
      refine fin3 (.agg (trc zT)) (.int .i64 0) (.int .i64 3) Try.results40 A45 S42 (rv_cell (g := g11) (off := 0) 0 (by kernel_rfl) rfl (rowVal_whole ((trc_size _).trans zT_length) ⟨⟨_, Try.underlying26, rfl⟩, by kernel_rfl⟩)) (rv_tmp (by kernel_rfl)) (rv_tmp (by kernel_rfl)) ⟨?_, S42.kp⟩
      unfold gnRes
      rw [if_neg p31]
      rw [if_neg (by rw [h39]; simp)]
    · have h46 : isLow p q = true := by simpa using h38
      have hq := isLow_pos h46
      refine wp_seq ?_
      refine c_cut (fun ac wc => Fr 64 ac [(24, .bool ((!(inB p 0 1000)) || (decide (q > 1000)))), (0, .agg (trc xs)), (1, .agg #[.int .i64 p, .int .i64 q]), (2, .pointer (some ⟨g3, 0, none⟩)), (3, .pointer (some ⟨g7, 0, none⟩)), (4, .pointer (some ⟨g11, 0, none⟩)), (5, .int .i64 0), (6, .int .i64 0), (12, .agg (trc xs)), (13, .int .i64 ((firstErr xs 0).2)), (7, .int .i64 ((firstErr xs 0).2)), (15, .int .i64 ((firstErr xs 0).2)), (16, .bool (decide ((firstErr xs 0).2 ≠ 0))), (14, .bool (decide ((firstErr xs 0).2 ≠ 0))), (20, .agg #[.int .i64 p, .int .i64 q]), (21, .bool (isLow p q)), (22, .bool (!(isLow p q))), (19, .bool (!(isLow p q)))] ∧ St w0 [⟨g11, 26, (trc zT), true⟩, ⟨g7, 81, #[.int .i64 p, .int .i64 q], true⟩, ⟨g3, 26, (trc xs), true⟩] [] wc) ?_ ?_
      · refine wp_region_lit ?_
        refine s_one (.pointer (some ⟨g7, 0, none⟩)) A37 S34 (g_field (u := .pointer (some ⟨g7, 0, none⟩)) (by kernel_rfl) (fun _ => by kernel_rfl)) rfl (fun ac A47 => ?_)
        refine s_one (.int .i64 p) A47 S34 (g_load (g := g7) (off := 0) 1 (by kernel_rfl) rfl (by kernel_rfl)) rfl (fun ac A48 => ?_)
        refine s_call (fs := #[]) (cp := #[]) (r := [(0, .int .i64 p), (0, .int .i64 0), (0, .int .i64 1000)]) #[.int .i64 p, .int .i64 0, .int .i64 1000] (.bool (inB p 0 1000)) A48 S34 (sameB (within_any p 0 1000 _)) Try.call62 (by kernel_rfl) (by kernel_rfl) (by kernel_rfl) rfl (fun ac wc A49 S50 => ?_)
        refine s_one (.bool (!(inB p 0 1000))) A49 S50 (g_un (u := .bool (inB p 0 1000)) (by kernel_rfl) (fun _ => by kernel_rfl)) rfl (fun ac A52 => ?_)
        refine s_one (.bool (!(inB p 0 1000))) A52 S50 (g_move (by kernel_rfl)) rfl (fun ac A53 => ?_)
        refine by_bool (!(inB p 0 1000)) (fun h54 => ?_) (fun h54 => ?_)
        · have h55 : inB p 0 1000 = false := by simpa using h54
          refine s_not (dj := 29) (b := (!(inB p 0 1000))) A53 (by kernel_rfl) (by kernel_rfl) h54 rfl (fun ac A56 => ?_)
          refine s_not (dj := 29) (b := (!(inB p 0 1000))) A56 (by kernel_rfl) (by kernel_rfl) h54 rfl (fun ac A57 => ?_)
          refine s_not (dj := 29) (b := (!(inB p 0 1000))) A57 (by kernel_rfl) (by kernel_rfl) h54 rfl (fun ac A58 => ?_)
          refine s_one (.bool true) A58 S50 (g_pick_t (b := (!(inB p 0 1000))) (by kernel_rfl) h54 (by kernel_rfl)) rfl (fun ac A59 => ?_)
          refine s_one (.bool true) A59 S50 (g_assign (by kernel_rfl)) rfl (fun ac A60 => ?_)
          refine wpList_nil ?_
          refine n_then ?_
          exact ⟨(A60.slot (A60.slot (A60.slot (A60.slot (A60.slot (A60.slot (A60.slot (A60.slot (A60.slot (A60.slot (A60.slot (A60.slot (A60.slot (A60.slot (A60.slot (A60.slot (A60.slot (A60.slot A60.nil (v := .bool (!(isLow p q))) (by kernel_rfl) rfl) (v := .bool (!(isLow p q))) (by kernel_rfl) rfl) (v := .bool (isLow p q)) (by kernel_rfl) rfl) (v := .agg #[.int .i64 p, .int .i64 q]) (by kernel_rfl) rfl) (v := .bool (decide ((firstErr xs 0).2 ≠ 0))) (by kernel_rfl) rfl) (v := .bool (decide ((firstErr xs 0).2 ≠ 0))) (by kernel_rfl) rfl) (v := .int .i64 ((firstErr xs 0).2)) (by kernel_rfl) rfl) (v := .int .i64 ((firstErr xs 0).2)) (by kernel_rfl) rfl) (v := .int .i64 ((firstErr xs 0).2)) (by kernel_rfl) rfl) (v := .agg (trc xs)) (by kernel_rfl) rfl) (v := .int .i64 0) (by kernel_rfl) rfl) (v := .int .i64 0) (by kernel_rfl) rfl) (v := .pointer (some ⟨g11, 0, none⟩)) (by kernel_rfl) rfl) (v := .pointer (some ⟨g7, 0, none⟩)) (by kernel_rfl) rfl) (v := .pointer (some ⟨g3, 0, none⟩)) (by kernel_rfl) rfl) (v := .agg #[.int .i64 p, .int .i64 q]) (by kernel_rfl) rfl) (v := .agg (trc xs)) (by kernel_rfl) rfl) (v := .bool true) (by kernel_rfl) (congrArg Value.bool (b_ot1 h54).symm)), S50.sub sub_all sub_all⟩
        · have h61 : inB p 0 1000 = true := by simpa using h54
          have hp := inB_true.1 h61
          refine s_want (dj := 29) (b := (!(inB p 0 1000))) A53 (by kernel_rfl) (by kernel_rfl) h54 ?_
          refine s_one (.pointer (some ⟨g7, 1, none⟩)) A53 S50 (g_field (u := .pointer (some ⟨g7, 0, none⟩)) (by kernel_rfl) (fun _ => by kernel_rfl)) rfl (fun ac A62 => ?_)
          refine s_want (dj := 29) (b := (!(inB p 0 1000))) A62 (by kernel_rfl) (by kernel_rfl) h54 ?_
          refine s_one (.int .i64 q) A62 S50 (g_load (g := g7) (off := 1) 1 (by kernel_rfl) rfl (by kernel_rfl)) rfl (fun ac A63 => ?_)
          refine s_want (dj := 29) (b := (!(inB p 0 1000))) A63 (by kernel_rfl) (by kernel_rfl) h54 ?_
          refine s_one (.bool (decide (q > 1000))) A63 S50 (g_bin (u := .int .i64 q) (k := .int .i64 1000) (by kernel_rfl) (by kernel_rfl) (fun _ => by kernel_rfl) (fun _ => by kernel_rfl)) rfl (fun ac A64 => ?_)
          refine s_one (.bool (decide (q > 1000))) A64 S50 (g_pick_f (b := (!(inB p 0 1000))) (by kernel_rfl) h54 (by kernel_rfl)) rfl (fun ac A65 => ?_)
          refine s_one (.bool (decide (q > 1000))) A65 S50 (g_assign (by kernel_rfl)) rfl (fun ac A66 => ?_)
          refine wpList_nil ?_
          refine n_then ?_
          exact ⟨(A66.slot (A66.slot (A66.slot (A66.slot (A66.slot (A66.slot (A66.slot (A66.slot (A66.slot (A66.slot (A66.slot (A66.slot (A66.slot (A66.slot (A66.slot (A66.slot (A66.slot (A66.slot A66.nil (v := .bool (!(isLow p q))) (by kernel_rfl) rfl) (v := .bool (!(isLow p q))) (by kernel_rfl) rfl) (v := .bool (isLow p q)) (by kernel_rfl) rfl) (v := .agg #[.int .i64 p, .int .i64 q]) (by kernel_rfl) rfl) (v := .bool (decide ((firstErr xs 0).2 ≠ 0))) (by kernel_rfl) rfl) (v := .bool (decide ((firstErr xs 0).2 ≠ 0))) (by kernel_rfl) rfl) (v := .int .i64 ((firstErr xs 0).2)) (by kernel_rfl) rfl) (v := .int .i64 ((firstErr xs 0).2)) (by kernel_rfl) rfl) (v := .int .i64 ((firstErr xs 0).2)) (by kernel_rfl) rfl) (v := .agg (trc xs)) (by kernel_rfl) rfl) (v := .int .i64 0) (by kernel_rfl) rfl) (v := .int .i64 0) (by kernel_rfl) rfl) (v := .pointer (some ⟨g11, 0, none⟩)) (by kernel_rfl) rfl) (v := .pointer (some ⟨g7, 0, none⟩)) (by kernel_rfl) rfl) (v := .pointer (some ⟨g3, 0, none⟩)) (by kernel_rfl) rfl) (v := .agg #[.int .i64 p, .int .i64 q]) (by kernel_rfl) rfl) (v := .agg (trc xs)) (by kernel_rfl) rfl) (v := .bool (decide (q > 1000))) (by kernel_rfl) (congrArg Value.bool (b_or_f h54 (Eq.refl (decide (q > 1000)))).symm)), S50.sub sub_all sub_all⟩
      · rintro ac wc ⟨A67, S68⟩
        refine n_then ?_
        refine c_ifb (b := ((!(inB p 0 1000)) || (decide (q > 1000)))) A67 (by kernel_rfl) (fun h69 => ?_) (fun h69 => ?_)
        · refine wp_seq ?_
          refine wp_region_lit ?_
          refine s_one (.agg (trc zT)) A67 S68 (g_build (r := []) (by kernel_rfl) (fun _ => by kernel_rfl)) rfl (fun ac A70 => ?_)
          refine s_store (g := g11) (off := 0) (v := .agg (trc zT)) 0 (trc zT) A70 S68 (by kernel_rfl) (by kernel_rfl) rfl (putVal_whole ((trc_size _).trans zT_length) ((trc_size _).trans zT_length) ⟨⟨_, Try.underlying26, rfl⟩, by kernel_rfl⟩ (trc_one _)) (fun wc S72 => ?_)
          refine s_one (.int .i64 0) A70 S72 (g_assign (by kernel_rfl)) rfl (fun ac A74 => ?_)
          refine s_one (.int .i64 2) A74 S72 (g_assign (by kernel_rfl)) rfl (fun ac A75 => ?_)
          refine wpList_nil ?_
          refine n_then ?_
          refine wp_ret ?_
          refine r_block ?_
          refine r_then ?_
          refine fin3 (.agg (trc zT)) (.int .i64 0) (.int .i64 2) Try.results40 A75 S72 (rv_cell (g := g11) (off := 0) 0 (by kernel_rfl) rfl (rowVal_whole ((trc_size _).trans zT_length) ⟨⟨_, Try.underlying26, rfl⟩, by kernel_rfl⟩)) (rv_tmp (by kernel_rfl)) (rv_tmp (by kernel_rfl)) ⟨?_, S72.kp⟩
          unfold gnRes
          rw [if_neg p31]
          rw [if_pos h46]
          rw [if_neg (fun z => by have y := h69; rw [z.1] at y; simp at y; omega)]
        · have h76 := (Bool.or_eq_false_iff.1 h69).1
          have h77 : inB p 0 1000 = true := by simpa using h76
          have hp := inB_true.1 h77
          have h78 := (Bool.or_eq_false_iff.1 h69).2
          have p79 := of_decide_eq_false h78
          refine wp_skip ?_
          refine n_block ?_
          refine n_then ?_
          refine wp_seq ?_
          refine wp_region_lit ?_
          refine s_call (fs := #[]) (cp := #[]) (r := [(0, .pointer (some ⟨g3, 0, none⟩))]) #[.pointer (some ⟨g3, 0, none⟩)] (.agg (ints (nums xs))) A67 S68 (numbersOf_any g3 xs _ hl (S68.get 2 rfl) (right_of e0)) Try.call55 (by kernel_rfl) (by kernel_rfl) (by kernel_rfl) rfl (fun ac wc A80 S81 => ?_)
          refine s_alloc (ints (List.replicate 64 0)) A80 S81 zero159 rfl (fun g85 ac wc A83 S84 => ?_)
          refine s_store (g := g85) (off := 0) (v := .agg (ints (nums xs))) 0 (ints (nums xs)) A83 S84 (by kernel_rfl) (by kernel_rfl) rfl (putVal_whole ((ints_size _).trans List.length_replicate) ((ints_size _).trans (nums_length _)) ⟨⟨_, Try.underlying100, rfl⟩, by kernel_rfl⟩ (ints_one _)) (fun wc S87 => ?_)
          refine s_one (.int .i64 0) A83 S87 (g_assign (by kernel_rfl)) rfl (fun ac A89 => ?_)
          refine wpList_nil ?_
          refine n_then ?_
          refine wp_seq ?_
          refine wp_seq ?_
          refine wp_region_lit ?_
          refine s_one (.int .i64 0) A89 S87 (g_move (by kernel_rfl)) rfl (fun ac A90 => ?_)
          refine wpList_nil ?_
          refine n_then ?_
          refine wp_block ?_
          refine c_loopN (fun mm ac wc => ∃ (k : Nat), mm = 64 - k ∧ (k ≤ 64) ∧ Fr 64 ac [(0, .agg (trc xs)), (1, .agg #[.int .i64 p, .int .i64 q]), (2, .pointer (some ⟨g3, 0, none⟩)), (3, .pointer (some ⟨g7, 0, none⟩)), (4, .pointer (some ⟨g11, 0, none⟩)), (5, .int .i64 0), (6, .int .i64 0), (12, .agg (trc xs)), (13, .int .i64 ((firstErr xs 0).2)), (7, .int .i64 ((firstErr xs 0).2)), (15, .int .i64 ((firstErr xs 0).2)), (16, .bool (decide ((firstErr xs 0).2 ≠ 0))), (14, .bool (decide ((firstErr xs 0).2 ≠ 0))), (20, .agg #[.int .i64 p, .int .i64 q]), (21, .bool (isLow p q)), (22, .bool (!(isLow p q))), (19, .bool (!(isLow p q))), (24, .bool ((!(inB p 0 1000)) || (decide (q > 1000)))), (35, .agg (ints (nums xs))), (8, .pointer (some ⟨g85, 0, none⟩)), (36, .int .i64 (k : Int)), (9, .int .i64 (gnC (nums xs) p q k))] ∧ St w0 [⟨g85, 100, (ints (mixL (gnF (nums xs) p q) (nthI (nums xs)) 64 k)), true⟩, ⟨g11, 26, (trc zT), true⟩, ⟨g7, 81, #[.int .i64 p, .int .i64 q], true⟩, ⟨g3, 26, (trc xs), true⟩] [] wc) _ ⟨0, rfl, by omega, (A90.slot (A90.slot (A90.slot (A90.slot (A90.slot (A90.slot (A90.slot (A90.slot (A90.slot (A90.slot (A90.slot (A90.slot (A90.slot (A90.slot (A90.slot (A90.slot (A90.slot (A90.slot (A90.slot (A90.slot (A90.slot (A90.slot A90.nil (v := .int .i64 0) (by kernel_rfl) rfl) (v := .int .i64 0) (by kernel_rfl) (congrArg (Value.int .i64) (by omega))) (v := .pointer (some ⟨g85, 0, none⟩)) (by kernel_rfl) rfl) (v := .agg (ints (nums xs))) (by kernel_rfl) rfl) (v := .bool ((!(inB p 0 1000)) || (decide (q > 1000)))) (by kernel_rfl) rfl) (v := .bool (!(isLow p q))) (by kernel_rfl) rfl) (v := .bool (!(isLow p q))) (by kernel_rfl) rfl) (v := .bool (isLow p q)) (by kernel_rfl) rfl) (v := .agg #[.int .i64 p, .int .i64 q]) (by kernel_rfl) rfl) (v := .bool (decide ((firstErr xs 0).2 ≠ 0))) (by kernel_rfl) rfl) (v := .bool (decide ((firstErr xs 0).2 ≠ 0))) (by kernel_rfl) rfl) (v := .int .i64 ((firstErr xs 0).2)) (by kernel_rfl) rfl) (v := .int .i64 ((firstErr xs 0).2)) (by kernel_rfl) rfl) (v := .int .i64 ((firstErr xs 0).2)) (by kernel_rfl) rfl) (v := .agg (trc xs)) (by kernel_rfl) rfl) (v := .int .i64 0) (by kernel_rfl) rfl) (v := .int .i64 0) (by kernel_rfl) rfl) (v := .pointer (some ⟨g11, 0, none⟩)) (by kernel_rfl) rfl) (v := .pointer (some ⟨g7, 0, none⟩)) (by kernel_rfl) rfl) (v := .pointer (some ⟨g3, 0, none⟩)) (by kernel_rfl) rfl) (v := .agg #[.int .i64 p, .int .i64 q]) (by kernel_rfl) rfl) (v := .agg (trc xs)) (by kernel_rfl) rfl), (St.recell 0 S87 rfl (congrArg ints (mixL_zero (nums_length _) _))).sub sub_all sub_all⟩ ?_
          rintro mm ac wc ⟨k, hm93, hk, A91, S92⟩
          have b1 := mul_bd2 (sx k) hp.1 hp.2
          have b2 := gnC_bd (nums xs) p q k
          refine wp_seq ?_
          refine wp_region_lit ?_
          refine s_one (.bool (decide ((k : Int) < 64))) A91 S92 (g_bin (u := .int .i64 (k : Int)) (k := .int .i64 64) (by kernel_rfl) (by kernel_rfl) (fun _ => by kernel_rfl) (fun _ => by kernel_rfl)) rfl (fun ac A94 => ?_)
          refine wpList_nil ?_
          refine n_then ?_
          refine wp_seq ?_
          refine c_ifb (b := (decide ((k : Int) < 64))) A94 (by kernel_rfl) (fun h95 => ?_) (fun h95 => ?_)
          · have p96 := of_decide_eq_true h95
            refine wp_skip ?_
            refine n_then ?_
            refine wp_seq ?_
            refine wp_block ?_
            refine wp_seq ?_
            refine wp_region_lit ?_
            refine s_one (.int .i64 (k : Int)) A94 S92 (g_move (by kernel_rfl)) rfl (fun ac A97 => ?_)
            refine s_one (.int .i64 (k : Int)) A97 S92 (g_assign (by kernel_rfl)) rfl (fun ac A98 => ?_)
            refine wpList_nil ?_
            refine n_then ?_
            refine wp_seq ?_
            refine r_begin (w0 := w0) (by kernel_rfl) (S92.sub sub_all sub_all) (fun wc T99 B100 => ?_)
            have S101 := S92.kept B100
            refine r_take 0 (.int .i64 (k : Int)) A98 T99 (g_move (by kernel_rfl)) rfl rfl rfl (pf_then (pf_block (pf_then (pf_then (pf_block (pf_then pf_body)))))) (by kernel_rfl) (fun ac A102 => ?_)
            refine r_take 1 (.pointer (some ⟨g85, k, none⟩)) A102 T99 (g_index (u := .pointer (some ⟨g85, 0, none⟩)) (k := .int .i64 (k : Int)) (by kernel_rfl) (by kernel_rfl) (ix_arr1 k (len := 64) (by kernel_rfl) (by omega) (by omega))) rfl rfl rfl (pf_then (pf_block (pf_then (pf_then (pf_block (pf_then pf_body)))))) (by kernel_rfl) (fun ac A103 => ?_)
            refine r_take 2 (.int .i64 (nthI (nums xs) k)) A103 T99 (g_load (g := g85) (off := k) 0 (by kernel_rfl) rfl (rv_nice (rv_of (by kernel_rfl) (ints_get (by rw [(mixL_length _ _ _ _)]; omega))) ((mixL_at (by omega)).trans (if_neg (Nat.lt_irrefl _))))) rfl rfl rfl (pf_then (pf_block (pf_then (pf_then (pf_block (pf_then pf_body)))))) (by kernel_rfl) (fun ac A104 => ?_)
            refine r_take 3 (.pointer (some ⟨g7, 0, none⟩)) A104 T99 (g_field (u := .pointer (some ⟨g7, 0, none⟩)) (by kernel_rfl) (fun _ => by kernel_rfl)) rfl rfl rfl (pf_then (pf_block (pf_then (pf_then (pf_block (pf_then pf_body)))))) (by kernel_rfl) (fun ac A105 => ?_)
            refine r_take 4 (.int .i64 p) A105 T99 (g_load (g := g7) (off := 0) 2 (by kernel_rfl) rfl (by kernel_rfl)) rfl rfl rfl (pf_then (pf_block (pf_then (pf_then (pf_block (pf_then pf_body)))))) (by kernel_rfl) (fun ac A106 => ?_)
            refine r_take 5 (.int .i64 ((nthI (nums xs) k) * p)) A106 T99 (g_bin (u := .int .i64 (nthI (nums xs) k)) (k := .int .i64 p) (by kernel_rfl) (by kernel_rfl) (fun _ => by kernel_rfl) (b_mul (by omega))) rfl rfl rfl (pf_then (pf_block (pf_then (pf_then (pf_block (pf_then pf_body)))))) (by kernel_rfl) (fun ac A107 => ?_)
            refine r_take 6 (.pointer (some ⟨g7, 1, none⟩)) A107 T99 (g_field (u := .pointer (some ⟨g7, 0, none⟩)) (by kernel_rfl) (fun _ => by kernel_rfl)) rfl rfl rfl (pf_then (pf_block (pf_then (pf_then (pf_block (pf_then pf_body)))))) (by kernel_rfl) (fun ac A108 => ?_)
            refine r_take 7 (.int .i64 q) A108 T99 (g_load (g := g7) (off := 1) 2 (by kernel_rfl) rfl (by kernel_rfl)) rfl rfl rfl (pf_then (pf_block (pf_then (pf_then (pf_block (pf_then pf_body)))))) (by kernel_rfl) (fun ac A109 => ?_)
            refine r_1 (i := 8) (by kernel_rfl) ?_
            refine rs_call (fs := #[]) (cp := #[]) (r := [(0, .int .i64 ((nthI (nums xs) k) * p)), (0, .int .i64 q)]) #[.int .i64 ((nthI (nums xs) k) * p), .int .i64 q] (.int .i64 (rounded_a_r ((nthI (nums xs) k) * p) q)) A109 S101 sub_all sub_all (rounded_a ((nthI (nums xs) k) * p) q _ (by omega) (by omega) (by omega) (by omega)) Try.call69 rfl rfl (by kernel_rfl) (by kernel_rfl) (by kernel_rfl) rfl (fun ac wc A110 S111 => ?_)
            have T113 := S111.sub sub_all sub_all
            refine r_take 9 (.int .i64 (rounded_a_r ((nthI (nums xs) k) * p) q)) A110 T113 (g_assign (by kernel_rfl)) rfl rfl rfl (pf_then (pf_block (pf_then (pf_then (pf_block (pf_then pf_body)))))) (by kernel_rfl) (fun ac A114 => ?_)
            refine r_done (by kernel_rfl) ?_
            refine n_then ?_
            refine wp_seq ?_
            refine wp_region_lit ?_
            refine s_one (.int .i64 (k : Int)) A114 S111 (g_move (by kernel_rfl)) rfl (fun ac A115 => ?_)
            refine s_one (.int .i64 (rounded_a_r ((nthI (nums xs) k) * p) q)) A115 S111 (g_move (by kernel_rfl)) rfl (fun ac A116 => ?_)
            refine s_one (.int .i64 (mn (rounded_a_r ((nthI (nums xs) k) * p) q) 2047)) A116 S111 (g_built (r := [(0, .int .i64 (rounded_a_r ((nthI (nums xs) k) * p) q)), (0, .int .i64 2047)]) (by kernel_rfl) (fun ty cs w => by show (do let x ← Builtin.min_ _ ty #[.int .i64 (rounded_a_r ((nthI (nums xs) k) * p) q), .int .i64 2047]; pure (Next.value x) : Sem Next).run _ w = _; rw [Sem.run_bind, run_min_mn]; rfl)) rfl (fun ac A117 => ?_)
            refine s_one (.int .i64 (mx (-2047) (mn (rounded_a_r ((nthI (nums xs) k) * p) q) 2047))) A117 S111 (g_built (r := [(0, .int .i64 (-2047)), (0, .int .i64 (mn (rounded_a_r ((nthI (nums xs) k) * p) q) 2047))]) (by kernel_rfl) (fun ty cs w => by show (do let x ← Builtin.max_ _ ty #[.int .i64 (-2047), .int .i64 (mn (rounded_a_r ((nthI (nums xs) k) * p) q) 2047)]; pure (Next.value x) : Sem Next).run _ w = _; rw [Sem.run_bind, run_max_mx]; rfl)) rfl (fun ac A118 => ?_)
            refine s_one (.pointer (some ⟨g85, k, none⟩)) A118 S111 (g_index (u := .pointer (some ⟨g85, 0, none⟩)) (k := .int .i64 (k : Int)) (by kernel_rfl) (by kernel_rfl) (ix_arr1 k (len := 64) (by kernel_rfl) (by omega) (by omega))) rfl (fun ac A119 => ?_)
            refine s_store (g := g85) (off := k) (v := .int .i64 (mx (-2047) (mn (rounded_a_r ((nthI (nums xs) k) * p) q) 2047))) 0 (ints ((mixL (gnF (nums xs) p q) (nthI (nums xs)) 64 k).set k (mx (-2047) (mn (rounded_a_r ((nthI (nums xs) k) * p) q) 2047)))) A119 S111 (by kernel_rfl) (by kernel_rfl) rfl ((pv_of (by kernel_rfl) rfl (by rw [ints_size, (mixL_length _ _ _ _)]; omega)).trans (congrArg some (ints_set (mixL (gnF (nums xs) p q) (nthI (nums xs)) 64 k) k (mx (-2047) (mn (rounded_a_r ((nthI (nums xs) k) * p) q) 2047))))) (fun wc S121 => ?_)
            refine wpList_nil ?_
            refine n_then ?_
            refine wp_seq ?_
            refine wp_region_lit ?_
            refine s_one (.int .i64 (k : Int)) A119 S121 (g_move (by kernel_rfl)) rfl (fun ac A123 => ?_)
            refine s_one (.pointer (some ⟨g85, k, none⟩)) A123 S121 (g_index (u := .pointer (some ⟨g85, 0, none⟩)) (k := .int .i64 (k : Int)) (by kernel_rfl) (by kernel_rfl) (ix_arr1 k (len := 64) (by kernel_rfl) (by omega) (by omega))) rfl (fun ac A124 => ?_)
            refine s_one (.int .i64 (mx (-2047) (mn (rounded_a_r ((nthI (nums xs) k) * p) q) 2047))) A124 S121 (g_load (g := g85) (off := k) 0 (by kernel_rfl) rfl (rv_nice (rv_of (by kernel_rfl) (ints_get (by rw [(List.length_set.trans (mixL_length _ _ _ _))]; omega))) (nthI_set (by rw [mixL_length]; omega)))) rfl (fun ac A125 => ?_)
            refine s_one (.int .i64 (rounded_a_r ((nthI (nums xs) k) * p) q)) A125 S121 (g_move (by kernel_rfl)) rfl (fun ac A126 => ?_)
            refine s_one (.bool (decide (mx (-2047) (mn (rounded_a_r ((nthI (nums xs) k) * p) q) 2047) ≠ (rounded_a_r ((nthI (nums xs) k) * p) q)))) A126 S121 (g_bin (u := .int .i64 (mx (-2047) (mn (rounded_a_r ((nthI (nums xs) k) * p) q) 2047))) (k := .int .i64 (rounded_a_r ((nthI (nums xs) k) * p) q)) (by kernel_rfl) (by kernel_rfl) (fun _ => by kernel_rfl) b_neq) rfl (fun ac A127 => ?_)
            refine wpList_nil ?_
            refine n_then ?_
            refine c_ifb (b := (decide (mx (-2047) (mn (rounded_a_r ((nthI (nums xs) k) * p) q) 2047) ≠ (rounded_a_r ((nthI (nums xs) k) * p) q)))) A127 (by kernel_rfl) (fun h128 => ?_) (fun h128 => ?_)
            · have p129 := of_decide_eq_true h128
              refine wp_region_lit ?_
              refine s_one (.int .i64 (gnC (nums xs) p q k)) A127 S121 (g_move (by kernel_rfl)) rfl (fun ac A130 => ?_)
              refine s_one (.int .i64 (gnC (nums xs) p q k + 1)) A130 S121 (g_bin (u := .int .i64 (gnC (nums xs) p q k)) (k := .int .i64 1) (by kernel_rfl) (by kernel_rfl) (fun _ => by kernel_rfl) (b_add (by omega))) rfl (fun ac A131 => ?_)
              refine s_one (.int .i64 (gnC (nums xs) p q k + 1)) A131 S121 (g_assign (by kernel_rfl)) rfl (fun ac A132 => ?_)
              refine wpList_nil ?_
              refine n_block ?_
              refine n_then ?_
              refine wp_region_lit ?_
              refine s_one (.int .i64 ((k : Int) + 1)) A132 S121 (g_bin (u := .int .i64 (k : Int)) (k := .int .i64 1) (by kernel_rfl) (by kernel_rfl) (fun _ => by kernel_rfl) (b_add (by omega))) rfl (fun ac A133 => ?_)
              refine s_one (.int .i64 ((k : Int) + 1)) A133 S121 (g_move (by kernel_rfl)) rfl (fun ac A134 => ?_)
              refine wpList_nil ?_
              refine n_then ?_
              refine ⟨_, ⟨k + 1, rfl, by omega, (A134.slot (A134.slot (A134.slot (A134.slot (A134.slot (A134.slot (A134.slot (A134.slot (A134.slot (A134.slot (A134.slot (A134.slot (A134.slot (A134.slot (A134.slot (A134.slot (A134.slot (A134.slot (A134.slot (A134.slot (A134.slot (A134.slot A134.nil (v := .int .i64 (gnC (nums xs) p q k + 1)) (by kernel_rfl) (congrArg (Value.int .i64) (gnC_y p129))) (v := .int .i64 ((k : Int) + 1)) (by kernel_rfl) (congrArg (Value.int .i64) (by omega))) (v := .pointer (some ⟨g85, 0, none⟩)) (by kernel_rfl) rfl) (v := .agg (ints (nums xs))) (by kernel_rfl) rfl) (v := .bool ((!(inB p 0 1000)) || (decide (q > 1000)))) (by kernel_rfl) rfl) (v := .bool (!(isLow p q))) (by kernel_rfl) rfl) (v := .bool (!(isLow p q))) (by kernel_rfl) rfl) (v := .bool (isLow p q)) (by kernel_rfl) rfl) (v := .agg #[.int .i64 p, .int .i64 q]) (by kernel_rfl) rfl) (v := .bool (decide ((firstErr xs 0).2 ≠ 0))) (by kernel_rfl) rfl) (v := .bool (decide ((firstErr xs 0).2 ≠ 0))) (by kernel_rfl) rfl) (v := .int .i64 ((firstErr xs 0).2)) (by kernel_rfl) rfl) (v := .int .i64 ((firstErr xs 0).2)) (by kernel_rfl) rfl) (v := .int .i64 ((firstErr xs 0).2)) (by kernel_rfl) rfl) (v := .agg (trc xs)) (by kernel_rfl) rfl) (v := .int .i64 0) (by kernel_rfl) rfl) (v := .int .i64 0) (by kernel_rfl) rfl) (v := .pointer (some ⟨g11, 0, none⟩)) (by kernel_rfl) rfl) (v := .pointer (some ⟨g7, 0, none⟩)) (by kernel_rfl) rfl) (v := .pointer (some ⟨g3, 0, none⟩)) (by kernel_rfl) rfl) (v := .agg #[.int .i64 p, .int .i64 q]) (by kernel_rfl) rfl) (v := .agg (trc xs)) (by kernel_rfl) rfl), (St.recell 0 S121 rfl (congrArg ints (mixL_set _ _ _ _))).sub sub_all sub_all⟩, ?_⟩
              omega
            · have p135 := of_decide_eq_false h128
              refine wp_skip ?_
              refine n_block ?_
              refine n_then ?_
              refine wp_region_lit ?_
              refine s_one (.int .i64 ((k : Int) + 1)) A127 S121 (g_bin (u := .int .i64 (k : Int)) (k := .int .i64 1) (by kernel_rfl) (by kernel_rfl) (fun _ => by kernel_rfl) (b_add (by omega))) rfl (fun ac A136 => ?_)
              refine s_one (.int .i64 ((k : Int) + 1)) A136 S121 (g_move (by kernel_rfl)) rfl (fun ac A137 => ?_)
              refine wpList_nil ?_
              refine n_then ?_
              refine ⟨_, ⟨k + 1, rfl, by omega, (A137.slot (A137.slot (A137.slot (A137.slot (A137.slot (A137.slot (A137.slot (A137.slot (A137.slot (A137.slot (A137.slot (A137.slot (A137.slot (A137.slot (A137.slot (A137.slot (A137.slot (A137.slot (A137.slot (A137.slot (A137.slot (A137.slot A137.nil (v := .int .i64 (gnC (nums xs) p q k)) (by kernel_rfl) (congrArg (Value.int .i64) (gnC_n p135))) (v := .int .i64 ((k : Int) + 1)) (by kernel_rfl) (congrArg (Value.int .i64) (by omega))) (v := .pointer (some ⟨g85, 0, none⟩)) (by kernel_rfl) rfl) (v := .agg (ints (nums xs))) (by kernel_rfl) rfl) (v := .bool ((!(inB p 0 1000)) || (decide (q > 1000)))) (by kernel_rfl) rfl) (v := .bool (!(isLow p q))) (by kernel_rfl) rfl) (v := .bool (!(isLow p q))) (by kernel_rfl) rfl) (v := .bool (isLow p q)) (by kernel_rfl) rfl) (v := .agg #[.int .i64 p, .int .i64 q]) (by kernel_rfl) rfl) (v := .bool (decide ((firstErr xs 0).2 ≠ 0))) (by kernel_rfl) rfl) (v := .bool (decide ((firstErr xs 0).2 ≠ 0))) (by kernel_rfl) rfl) (v := .int .i64 ((firstErr xs 0).2)) (by kernel_rfl) rfl) (v := .int .i64 ((firstErr xs 0).2)) (by kernel_rfl) rfl) (v := .int .i64 ((firstErr xs 0).2)) (by kernel_rfl) rfl) (v := .agg (trc xs)) (by kernel_rfl) rfl) (v := .int .i64 0) (by kernel_rfl) rfl) (v := .int .i64 0) (by kernel_rfl) rfl) (v := .pointer (some ⟨g11, 0, none⟩)) (by kernel_rfl) rfl) (v := .pointer (some ⟨g7, 0, none⟩)) (by kernel_rfl) rfl) (v := .pointer (some ⟨g3, 0, none⟩)) (by kernel_rfl) rfl) (v := .agg #[.int .i64 p, .int .i64 q]) (by kernel_rfl) rfl) (v := .agg (trc xs)) (by kernel_rfl) rfl), (St.recell 0 S121 rfl (congrArg ints (mixL_set _ _ _ _))).sub sub_all sub_all⟩, ?_⟩
              omega
          · have p138 := of_decide_eq_false h95
            refine wp_exit ?_
            refine x_then ?_
            refine x_then ?_
            refine x_hit ?_
            refine n_then ?_
            refine wp_seq ?_
            obtain rfl : k = 64 := by omega
            rw [mixL_all] at S92
            replace S92 : St w0 [⟨g85, 100, (ints (gnL (nums xs) p q)), true⟩, ⟨g11, 26, (trc zT), true⟩, ⟨g7, 81, #[.int .i64 p, .int .i64 q], true⟩, ⟨g3, 26, (trc xs), true⟩] [] _ := S92
            refine wp_region_lit ?_
            refine s_one (.agg (ints (gnL (nums xs) p q))) A94 S92 (g_loadW (g := g85) 0 (by kernel_rfl) rfl ((ints_size _).trans (gnL_length _ _ _)) ⟨⟨_, Try.underlying100, rfl⟩, by kernel_rfl⟩) rfl (fun ac A139 => ?_)
            refine s_call (fs := #[]) (cp := #[]) (r := [(0, .agg (ints (gnL (nums xs) p q)))]) #[.agg (ints (gnL (nums xs) p q))] (.agg (trc (mkT (gnL (nums xs) p q) 64))) A139 S92 (traceOf_s (gnL (nums xs) p q) _ (gnL_length _ _ _)) Try.call67 (by kernel_rfl) (by kernel_rfl) (by kernel_rfl) rfl (fun ac wc A140 S141 => ?_)
            refine s_one (.int .i64 (gnC (nums xs) p q 64)) A140 S141 (g_move (by kernel_rfl)) rfl (fun ac A143 => ?_)
            refine s_store (g := g11) (off := 0) (v := .agg (trc (mkT (gnL (nums xs) p q) 64))) 1 (trc (mkT (gnL (nums xs) p q) 64)) A143 S141 (by kernel_rfl) (by kernel_rfl) rfl (putVal_whole ((trc_size _).trans zT_length) ((trc_size _).trans (done_length _ _ _ _)) ⟨⟨_, Try.underlying26, rfl⟩, by kernel_rfl⟩ (trc_one _)) (fun wc S145 => ?_)
            refine s_one (.int .i64 (gnC (nums xs) p q 64)) A143 S145 (g_assign (by kernel_rfl)) rfl (fun ac A147 => ?_)
            refine s_one (.int .i64 0) A147 S145 (g_assign (by kernel_rfl)) rfl (fun ac A148 => ?_)
            refine wpList_nil ?_
            refine n_then ?_
            refine wp_ret ?_
            refine fin3 (.agg (trc (mkT (gnL (nums xs) p q) 64))) (.int .i64 (gnC (nums xs) p q 64)) (.int .i64 0) Try.results40 A148 S145 (rv_cell (g := g11) (off := 0) 1 (by kernel_rfl) rfl (rowVal_whole ((trc_size _).trans (done_length _ _ _ _)) ⟨⟨_, Try.underlying26, rfl⟩, by kernel_rfl⟩)) (rv_tmp (by kernel_rfl)) (rv_tmp (by kernel_rfl)) ⟨?_, S145.kp⟩
            unfold gnRes
            rw [if_neg p31]
            rw [if_pos h46]
            rw [if_pos ⟨h77, by omega⟩]

set_option maxRecDepth 100000 in
set_option maxHeartbeats 400000 in
theorem refGained_s (xs : List Nat) (p q : Int) (w0 : World) (hl : xs.length = 64) (h0 : Right xs) (hp0 : 0 ≤ p) (hp1 : p ≤ 1000) (hq0 : 1 ≤ q) (hq1 : q ≤ 1000) :
    Calls Try.prog 42 #[.agg (trc xs), .agg #[.int .i64 p, .int .i64 q]] w0 fun e w' => e = .returned (.tuple #[.agg (trc (mkT (gnL (nums xs) p q) 64)), .int .i64 (gnC (nums xs) p q 64)]) ∧ Below w0.heap.size w0 w' := by
  have S0 := St.start w0
  have sx : Small (nums xs) := nums_range hl h0
  refine enter (n := 45) Try.func42 rfl rfl rfl (fun ac A0 => ?_)
  refine wp_seq ?_
  refine wp_region_lit ?_
  refine s_box (.agg (trc xs)) A0 S0 (by kernel_rfl) rfl (fun g3 ac wc A1 S2 => ?_)
  replace S2 : St _ (⟨g3, 26, (trc xs), true⟩ :: _) _ _ := S2
  refine s_box (.agg #[.int .i64 p, .int .i64 q]) A1 S2 (by kernel_rfl) rfl (fun g7 ac wc A5 S6 => ?_)
  replace S6 : St _ (⟨g7, 81, #[.int .i64 p, .int .i64 q], true⟩ :: _) _ _ := S6
  refine s_alloc (trc zT) A5 S6 zero26 rfl (fun g11 ac wc A9 S10 => ?_)
  refine s_one (.int .i64 0) A9 S10 (g_assign (by kernel_rfl)) rfl (fun ac A12 => ?_)
  refine wpList_nil ?_
  refine n_then ?_
  refine wp_seq ?_
  refine wp_region_lit ?_
  refine s_one (.agg (trc xs)) A12 S10 (g_loadW (g := g3) 2 (by kernel_rfl) rfl ((trc_size _).trans hl) ⟨⟨_, Try.underlying26, rfl⟩, by kernel_rfl⟩) rfl (fun ac A13 => ?_)
  refine s_callR (fs := #[]) (cp := #[]) (r := [(0, .agg (trc xs))]) #[.agg (trc xs)] A13 S10 (Ints_s xs _ hl h0) Try.call64 (by kernel_rfl) (by kernel_rfl) (by kernel_rfl) rfl (fun v17 ac wc A14 S15 => ?_)
  obtain ⟨g18, cap19, cur20, rfl, hc21, hs22, ht23, S24⟩ := S15.openRow (by omega)
  refine s_one (.slice (some ⟨g18, 0, none⟩) 64 cap19) A14 S24 (g_assign (by kernel_rfl)) rfl (fun ac A25 => ?_)
  refine s_one (.int .i64 0) A25 S24 (g_assign (by kernel_rfl)) rfl (fun ac A26 => ?_)
  refine wpList_nil ?_
  refine n_then ?_
  refine wp_seq ?_
  refine wp_seq ?_
  refine wp_region_lit ?_
  refine s_one (.int .i64 0) A26 S24 (g_assign (by kernel_rfl)) rfl (fun ac A27 => ?_)
  refine wpList_nil ?_
  refine n_then ?_
  refine wp_block ?_
  refine c_loopN (fun mm ac wc => ∃ (k : Nat) (c2 : Array Value), mm = 64 - k ∧ (k ≤ 64) ∧ (c2.toList.take (64 * 1) = rowI (mixL (gnF (nums xs) p q) (nthI (nums xs)) 64 k)) ∧ (64 ≤ c2.size) ∧ Fr 45 ac [(0, .agg (trc xs)), (1, .agg #[.int .i64 p, .int .i64 q]), (2, .pointer (some ⟨g3, 0, none⟩)), (3, .pointer (some ⟨g7, 0, none⟩)), (4, .pointer (some ⟨g11, 0, none⟩)), (5, .int .i64 0), (10, .agg (trc xs)), (11, .slice (some ⟨g18, 0, none⟩) 64 cap19), (6, .slice (some ⟨g18, 0, none⟩) 64 cap19), (8, .int .i64 (k : Int)), (7, .int .i64 (gnC (nums xs) p q k))] ∧ St w0 [⟨g18, 3, c2, true⟩, ⟨g11, 26, (trc zT), true⟩, ⟨g7, 81, #[.int .i64 p, .int .i64 q], true⟩, ⟨g3, 26, (trc xs), true⟩] [] wc) _ ⟨0, cur20, rfl, (by omega), (by rw [← mixL_zero (nums_length _)]; exact ht23), (show 64 ≤ cur20.size by rw [hs22]; omega), (A27.slot (A27.slot (A27.slot (A27.slot (A27.slot (A27.slot (A27.slot (A27.slot (A27.slot (A27.slot (A27.slot A27.nil (v := .int .i64 0) (by kernel_rfl) rfl) (v := .int .i64 0) (by kernel_rfl) (congrArg (Value.int .i64) (by omega))) (v := .slice (some ⟨g18, 0, none⟩) 64 cap19) (by kernel_rfl) rfl) (v := .slice (some ⟨g18, 0, none⟩) 64 cap19) (by kernel_rfl) rfl) (v := .agg (trc xs)) (by kernel_rfl) rfl) (v := .int .i64 0) (by kernel_rfl) rfl) (v := .pointer (some ⟨g11, 0, none⟩)) (by kernel_rfl) rfl) (v := .pointer (some ⟨g7, 0, none⟩)) (by kernel_rfl) rfl) (v := .pointer (some ⟨g3, 0, none⟩)) (by kernel_rfl) rfl) (v := .agg #[.int .i64 p, .int .i64 q]) (by kernel_rfl) rfl) (v := .agg (trc xs)) (by kernel_rfl) rfl), (St.recell 0 S24 rfl (by rfl)).sub sub_all sub_all⟩ ?_
  rintro mm ac wc ⟨k, c2, hm30, hk, ht2, hs2, A28, S29⟩
  have b1 := mul_bd2 (sx k) hp0 hp1
  have b2 := gnC_bd (nums xs) p q k
  refine wp_seq ?_
  refine wp_seq ?_
  refine wp_region_lit ?_
  refine s_one (.int .i64 (k : Int)) A28 S29 (g_move (by kernel_rfl)) rfl (fun ac A31 => ?_)
  refine s_one (.slice (some ⟨g18, 0, none⟩) 64 cap19) A31 S29 (g_move (by kernel_rfl)) rfl (fun ac A32 => ?_)
  refine s_one (.int .i64 64) A32 S29 (g_built (r := [(0, .slice (some ⟨g18, 0, none⟩) 64 cap19)]) (by kernel_rfl) (fun _ _ _ => by kernel_rfl)) rfl (fun ac A33 => ?_)
  refine s_one (.bool (decide ((k : Int) < 64))) A33 S29 (g_bin (u := .int .i64 (k : Int)) (k := .int .i64 64) (by kernel_rfl) (by kernel_rfl) (fun _ => by kernel_rfl) (fun _ => by kernel_rfl)) rfl (fun ac A34 => ?_)
  refine wpList_nil ?_
  refine n_then ?_
  refine c_ifb (b := (decide ((k : Int) < 64))) A34 (by kernel_rfl) (fun h35 => ?_) (fun h35 => ?_)
  · have p36 := of_decide_eq_true h35
    refine wp_skip ?_
    refine n_then ?_
    refine wp_seq ?_
    refine wp_block ?_
    refine wp_seq ?_
    refine r_begin (w0 := w0) (by kernel_rfl) (S29.sub sub_all sub_all) (fun wc T37 B38 => ?_)
    have S39 := S29.kept B38
    refine r_take 0 (.slice (some ⟨g18, 0, none⟩) 64 cap19) A34 T37 (g_move (by kernel_rfl)) rfl rfl rfl (pf_then (pf_block (pf_then (pf_then (pf_block (pf_then pf_body)))))) (by kernel_rfl) (fun ac A40 => ?_)
    refine r_take 1 (.int .i64 (k : Int)) A40 T37 (g_move (by kernel_rfl)) rfl rfl rfl (pf_then (pf_block (pf_then (pf_then (pf_block (pf_then pf_body)))))) (by kernel_rfl) (fun ac A41 => ?_)
    refine r_take 2 (.pointer (some ⟨g18, k, none⟩)) A41 T37 (g_index (u := .slice (some ⟨g18, 0, none⟩) 64 cap19) (k := .int .i64 (k : Int)) (by kernel_rfl) (by kernel_rfl) (ix_sl1 (e := 3) (bytes := 8) k (by kernel_rfl) (by omega) (by omega))) rfl rfl rfl (pf_then (pf_block (pf_then (pf_then (pf_block (pf_then pf_body)))))) (by kernel_rfl) (fun ac A42 => ?_)
    refine r_take 3 (.int .i64 (nthI (nums xs) k)) A42 T37 (g_load (g := g18) (off := k) 0 (by kernel_rfl) rfl (rv_nice (rv_of (by kernel_rfl) (cur_get ht2 (rowI_get (by rw [(mixL_length _ _ _ _)]; omega)))) ((mixL_at (by omega)).trans (if_neg (Nat.lt_irrefl _))))) rfl rfl rfl (pf_then (pf_block (pf_then (pf_then (pf_block (pf_then pf_body)))))) (by kernel_rfl) (fun ac A43 => ?_)
    refine r_take 4 (.pointer (some ⟨g7, 0, none⟩)) A43 T37 (g_field (u := .pointer (some ⟨g7, 0, none⟩)) (by kernel_rfl) (fun _ => by kernel_rfl)) rfl rfl rfl (pf_then (pf_block (pf_then (pf_then (pf_block (pf_then pf_body)))))) (by kernel_rfl) (fun ac A44 => ?_)
    refine r_take 5 (.int .i64 p) A44 T37 (g_load (g := g7) (off := 0) 2 (by kernel_rfl) rfl (by kernel_rfl)) rfl rfl rfl (pf_then (pf_block (pf_then (pf_then (pf_block (pf_then pf_body)))))) (by kernel_rfl) (fun ac A45 => ?_)
    refine r_take 6 (.int .i64 ((nthI (nums xs) k) * p)) A45 T37 (g_bin (u := .int .i64 (nthI (nums xs) k)) (k := .int .i64 p) (by kernel_rfl) (by kernel_rfl) (fun _ => by kernel_rfl) (b_mul (by omega))) rfl rfl rfl (pf_then (pf_block (pf_then (pf_then (pf_block (pf_then pf_body)))))) (by kernel_rfl) (fun ac A46 => ?_)
    refine r_take 7 (.pointer (some ⟨g7, 1, none⟩)) A46 T37 (g_field (u := .pointer (some ⟨g7, 0, none⟩)) (by kernel_rfl) (fun _ => by kernel_rfl)) rfl rfl rfl (pf_then (pf_block (pf_then (pf_then (pf_block (pf_then pf_body)))))) (by kernel_rfl) (fun ac A47 => ?_)
    refine r_take 8 (.int .i64 q) A47 T37 (g_load (g := g7) (off := 1) 2 (by kernel_rfl) rfl (by kernel_rfl)) rfl rfl rfl (pf_then (pf_block (pf_then (pf_then (pf_block (pf_then pf_body)))))) (by kernel_rfl) (fun ac A48 => ?_)
    refine r_1 (i := 9) (by kernel_rfl) ?_
    refine rs_call (fs := #[]) (cp := #[]) (r := [(0, .int .i64 ((nthI (nums xs) k) * p)), (0, .int .i64 q)]) #[.int .i64 ((nthI (nums xs) k) * p), .int .i64 q] (.int .i64 (refRounded_a_r ((nthI (nums xs) k) * p) q)) A48 S39 sub_all sub_all (refRounded_a ((nthI (nums xs) k) * p) q _ (by omega) (by omega) (by omega) (by omega)) Try.call71 rfl rfl (by kernel_rfl) (by kernel_rfl) (by kernel_rfl) rfl (fun ac wc A49 S50 => ?_)
    have T52 := S50.sub sub_all sub_all
    refine r_take 10 (.int .i64 (refRounded_a_r ((nthI (nums xs) k) * p) q)) A49 T52 (g_assign (by kernel_rfl)) rfl rfl rfl (pf_then (pf_block (pf_then (pf_then (pf_block (pf_then pf_body)))))) (by kernel_rfl) (fun ac A53 => ?_)
    refine r_done (by kernel_rfl) ?_
    refine n_then ?_
    refine wp_seq ?_
    refine wp_region_lit ?_
    refine s_one (.slice (some ⟨g18, 0, none⟩) 64 cap19) A53 S50 (g_move (by kernel_rfl)) rfl (fun ac A54 => ?_)
    refine s_one (.int .i64 (k : Int)) A54 S50 (g_move (by kernel_rfl)) rfl (fun ac A55 => ?_)
    refine s_one (.int .i64 (refRounded_a_r ((nthI (nums xs) k) * p) q)) A55 S50 (g_move (by kernel_rfl)) rfl (fun ac A56 => ?_)
    refine s_one (.int .i64 (mn 2047 (refRounded_a_r ((nthI (nums xs) k) * p) q))) A56 S50 (g_built (r := [(0, .int .i64 2047), (0, .int .i64 (refRounded_a_r ((nthI (nums xs) k) * p) q))]) (by kernel_rfl) (fun ty cs w => by show (do let x ← Builtin.min_ _ ty #[.int .i64 2047, .int .i64 (refRounded_a_r ((nthI (nums xs) k) * p) q)]; pure (Next.value x) : Sem Next).run _ w = _; rw [Sem.run_bind, run_min_mn]; rfl)) rfl (fun ac A57 => ?_)
    refine s_one (.int .i64 (mx (-2047) (mn 2047 (refRounded_a_r ((nthI (nums xs) k) * p) q)))) A57 S50 (g_built (r := [(0, .int .i64 (-2047)), (0, .int .i64 (mn 2047 (refRounded_a_r ((nthI (nums xs) k) * p) q)))]) (by kernel_rfl) (fun ty cs w => by show (do let x ← Builtin.max_ _ ty #[.int .i64 (-2047), .int .i64 (mn 2047 (refRounded_a_r ((nthI (nums xs) k) * p) q))]; pure (Next.value x) : Sem Next).run _ w = _; rw [Sem.run_bind, run_max_mx]; rfl)) rfl (fun ac A58 => ?_)
    refine s_one (.pointer (some ⟨g18, k, none⟩)) A58 S50 (g_index (u := .slice (some ⟨g18, 0, none⟩) 64 cap19) (k := .int .i64 (k : Int)) (by kernel_rfl) (by kernel_rfl) (ix_sl1 (e := 3) (bytes := 8) k (by kernel_rfl) (by omega) (by omega))) rfl (fun ac A59 => ?_)
    refine s_store (g := g18) (off := k) (v := .int .i64 (mx (-2047) (mn 2047 (refRounded_a_r ((nthI (nums xs) k) * p) q)))) 0 (c2.setIfInBounds k (.int .i64 (mx (-2047) (mn 2047 (refRounded_a_r ((nthI (nums xs) k) * p) q))))) A59 S50 (by kernel_rfl) (by kernel_rfl) rfl (pv_of (by kernel_rfl) rfl (by have := hs2; omega)) (fun wc S61 => ?_)
    refine wpList_nil ?_
    refine n_then ?_
    refine wp_seq ?_
    refine wp_region_lit ?_
    refine s_one (.slice (some ⟨g18, 0, none⟩) 64 cap19) A59 S61 (g_move (by kernel_rfl)) rfl (fun ac A63 => ?_)
    refine s_one (.int .i64 (k : Int)) A63 S61 (g_move (by kernel_rfl)) rfl (fun ac A64 => ?_)
    refine s_one (.pointer (some ⟨g18, k, none⟩)) A64 S61 (g_index (u := .slice (some ⟨g18, 0, none⟩) 64 cap19) (k := .int .i64 (k : Int)) (by kernel_rfl) (by kernel_rfl) (ix_sl1 (e := 3) (bytes := 8) k (by kernel_rfl) (by omega) (by omega))) rfl (fun ac A65 => ?_)
    refine s_one (.int .i64 (mx (-2047) (mn 2047 (refRounded_a_r ((nthI (nums xs) k) * p) q)))) A65 S61 (g_load (g := g18) (off := k) 0 (by kernel_rfl) rfl (rv_nice (rv_of (by kernel_rfl) (cur_get (cur_set ht2 k (mx (-2047) (mn 2047 (refRounded_a_r ((nthI (nums xs) k) * p) q)))) (rowI_get (by rw [(List.length_set.trans (mixL_length _ _ _ _))]; omega)))) (nthI_set (by rw [mixL_length]; omega)))) rfl (fun ac A66 => ?_)
    refine s_one (.int .i64 (refRounded_a_r ((nthI (nums xs) k) * p) q)) A66 S61 (g_move (by kernel_rfl)) rfl (fun ac A67 => ?_)
    refine s_one (.bool (decide (mx (-2047) (mn 2047 (refRounded_a_r ((nthI (nums xs) k) * p) q)) ≠ (refRounded_a_r ((nthI (nums xs) k) * p) q)))) A67 S61 (g_bin (u := .int .i64 (mx (-2047) (mn 2047 (refRounded_a_r ((nthI (nums xs) k) * p) q)))) (k := .int .i64 (refRounded_a_r ((nthI (nums xs) k) * p) q)) (by kernel_rfl) (by kernel_rfl) (fun _ => by kernel_rfl) b_neq) rfl (fun ac A68 => ?_)
    refine wpList_nil ?_
    refine n_then ?_
    refine c_ifb (b := (decide (mx (-2047) (mn 2047 (refRounded_a_r ((nthI (nums xs) k) * p) q)) ≠ (refRounded_a_r ((nthI (nums xs) k) * p) q)))) A68 (by kernel_rfl) (fun h69 => ?_) (fun h69 => ?_)
    · have p70 := of_decide_eq_true h69
      refine wp_region_lit ?_
      refine s_one (.int .i64 (gnC (nums xs) p q k)) A68 S61 (g_move (by kernel_rfl)) rfl (fun ac A71 => ?_)
      refine s_one (.int .i64 (gnC (nums xs) p q k + 1)) A71 S61 (g_bin (u := .int .i64 (gnC (nums xs) p q k)) (k := .int .i64 1) (by kernel_rfl) (by kernel_rfl) (fun _ => by kernel_rfl) (b_add (by omega))) rfl (fun ac A72 => ?_)
      refine s_one (.int .i64 (gnC (nums xs) p q k + 1)) A72 S61 (g_assign (by kernel_rfl)) rfl (fun ac A73 => ?_)
      refine wpList_nil ?_
      refine n_block ?_
      refine n_then ?_
      refine wp_region_lit ?_
      refine s_one (.int .i64 (k : Int)) A73 S61 (g_move (by kernel_rfl)) rfl (fun ac A74 => ?_)
      refine s_one (.int .i64 ((k : Int) + 1)) A74 S61 (g_bin (u := .int .i64 (k : Int)) (k := .int .i64 1) (by kernel_rfl) (by kernel_rfl) (fun _ => by kernel_rfl) (b_add (by omega))) rfl (fun ac A75 => ?_)
      refine s_one (.int .i64 ((k : Int) + 1)) A75 S61 (g_assign (by kernel_rfl)) rfl (fun ac A76 => ?_)
      refine wpList_nil ?_
      refine n_then ?_
      refine ⟨_, ⟨k + 1, (c2.setIfInBounds k (.int .i64 (mx (-2047) (mn 2047 (refRounded_a_r ((nthI (nums xs) k) * p) q))))), rfl, (by omega), (((cur_set ht2 k (mx (-2047) (mn 2047 (refRounded_a_r ((nthI (nums xs) k) * p) q))))).trans (congrArg rowI (by rw [gn_ref, mixL_set]))), (by rw [Array.size_setIfInBounds]; exact hs2), (A76.slot (A76.slot (A76.slot (A76.slot (A76.slot (A76.slot (A76.slot (A76.slot (A76.slot (A76.slot (A76.slot A76.nil (v := .int .i64 (gnC (nums xs) p q k + 1)) (by kernel_rfl) (congrArg (Value.int .i64) (gnC_y (by have z := p70; rw [gn_ref] at z; exact z)))) (v := .int .i64 ((k : Int) + 1)) (by kernel_rfl) (congrArg (Value.int .i64) (by omega))) (v := .slice (some ⟨g18, 0, none⟩) 64 cap19) (by kernel_rfl) rfl) (v := .slice (some ⟨g18, 0, none⟩) 64 cap19) (by kernel_rfl) rfl) (v := .agg (trc xs)) (by kernel_rfl) rfl) (v := .int .i64 0) (by kernel_rfl) rfl) (v := .pointer (some ⟨g11, 0, none⟩)) (by kernel_rfl) rfl) (v := .pointer (some ⟨g7, 0, none⟩)) (by kernel_rfl) rfl) (v := .pointer (some ⟨g3, 0, none⟩)) (by kernel_rfl) rfl) (v := .agg #[.int .i64 p, .int .i64 q]) (by kernel_rfl) rfl) (v := .agg (trc xs)) (by kernel_rfl) rfl), S61.sub sub_all sub_all⟩, ?_⟩
      omega
    · have p77 := of_decide_eq_false h69
      refine wp_skip ?_
      refine n_block ?_
      refine n_then ?_
      refine wp_region_lit ?_
      refine s_one (.int .i64 (k : Int)) A68 S61 (g_move (by kernel_rfl)) rfl (fun ac A78 => ?_)
      refine s_one (.int .i64 ((k : Int) + 1)) A78 S61 (g_bin (u := .int .i64 (k : Int)) (k := .int .i64 1) (by kernel_rfl) (by kernel_rfl) (fun _ => by kernel_rfl) (b_add (by omega))) rfl (fun ac A79 => ?_)
      refine s_one (.int .i64 ((k : Int) + 1)) A79 S61 (g_assign (by kernel_rfl)) rfl (fun ac A80 => ?_)
      refine wpList_nil ?_
      refine n_then ?_
      refine ⟨_, ⟨k + 1, (c2.setIfInBounds k (.int .i64 (mx (-2047) (mn 2047 (refRounded_a_r ((nthI (nums xs) k) * p) q))))), rfl, (by omega), (((cur_set ht2 k (mx (-2047) (mn 2047 (refRounded_a_r ((nthI (nums xs) k) * p) q))))).trans (congrArg rowI (by rw [gn_ref, mixL_set]))), (by rw [Array.size_setIfInBounds]; exact hs2), (A80.slot (A80.slot (A80.slot (A80.slot (A80.slot (A80.slot (A80.slot (A80.slot (A80.slot (A80.slot (A80.slot A80.nil (v := .int .i64 (gnC (nums xs) p q k)) (by kernel_rfl) (congrArg (Value.int .i64) (gnC_n (by have z := p77; rw [gn_ref] at z; exact z)))) (v := .int .i64 ((k : Int) + 1)) (by kernel_rfl) (congrArg (Value.int .i64) (by omega))) (v := .slice (some ⟨g18, 0, none⟩) 64 cap19) (by kernel_rfl) rfl) (v := .slice (some ⟨g18, 0, none⟩) 64 cap19) (by kernel_rfl) rfl) (v := .agg (trc xs)) (by kernel_rfl) rfl) (v := .int .i64 0) (by kernel_rfl) rfl) (v := .pointer (some ⟨g11, 0, none⟩)) (by kernel_rfl) rfl) (v := .pointer (some ⟨g7, 0, none⟩)) (by kernel_rfl) rfl) (v := .pointer (some ⟨g3, 0, none⟩)) (by kernel_rfl) rfl) (v := .agg #[.int .i64 p, .int .i64 q]) (by kernel_rfl) rfl) (v := .agg (trc xs)) (by kernel_rfl) rfl), S61.sub sub_all sub_all⟩, ?_⟩
      omega
  · have p81 := of_decide_eq_false h35
    refine wp_exit ?_
    refine x_then ?_
    refine x_then ?_
    refine x_hit ?_
    refine n_then ?_
    refine wp_seq ?_
    refine wp_region_lit ?_
    refine s_one (.slice (some ⟨g18, 0, none⟩) 64 cap19) A34 S29 (g_move (by kernel_rfl)) rfl (fun ac A82 => ?_)
    refine s_call (fs := #[]) (cp := #[]) (r := [(0, .slice (some ⟨g18, 0, none⟩) 64 cap19)]) #[.slice (some ⟨g18, 0, none⟩) 64 cap19] (.agg (trc (mkT (mixL (gnF (nums xs) p q) (nthI (nums xs)) 64 k) 64))) A82 S29 (Trace_s (mixL (gnF (nums xs) p q) (nthI (nums xs)) 64 k) (some ⟨g18, 0, none⟩) cap19 64 _ (mixL_length _ _ _ _) (cur_reads (S29.get 0 rfl) ht2) (by omega)) Try.call47 (by kernel_rfl) (by kernel_rfl) (by kernel_rfl) rfl (fun ac wc A83 S84 => ?_)
    refine s_one (.int .i64 (gnC (nums xs) p q k)) A83 S84 (g_move (by kernel_rfl)) rfl (fun ac A86 => ?_)
    refine s_store (g := g11) (off := 0) (v := .agg (trc (mkT (mixL (gnF (nums xs) p q) (nthI (nums xs)) 64 k) 64))) 1 (trc (mkT (mixL (gnF (nums xs) p q) (nthI (nums xs)) 64 k) 64)) A86 S84 (by kernel_rfl) (by kernel_rfl) rfl (putVal_whole ((trc_size _).trans zT_length) ((trc_size _).trans (done_length _ _ _ _)) ⟨⟨_, Try.underlying26, rfl⟩, by kernel_rfl⟩ (trc_one _)) (fun wc S88 => ?_)
    refine s_one (.int .i64 (gnC (nums xs) p q k)) A86 S88 (g_assign (by kernel_rfl)) rfl (fun ac A90 => ?_)
    refine wpList_nil ?_
    refine n_then ?_
    refine wp_ret ?_
    refine fin2 (.agg (trc (mkT (mixL (gnF (nums xs) p q) (nthI (nums xs)) 64 k) 64))) (.int .i64 (gnC (nums xs) p q k)) Try.results42 A90 S88 (rv_cell (g := g11) (off := 0) 1 (by kernel_rfl) rfl (rowVal_whole ((trc_size _).trans (done_length _ _ _ _)) ⟨⟨_, Try.underlying26, rfl⟩, by kernel_rfl⟩)) (rv_tmp (by kernel_rfl)) ⟨?_, S88.kp⟩
    obtain rfl : k = 64 := by omega
    rw [mixL_all]; rfl

end Go.Proofs.Ytfooefkgdcjlhaa
