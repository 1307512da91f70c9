/- Copies. -/
import Derived.Test.YtnbimpkihpaldaaD9
import Derived.Test.YtnbimpkihpaldaaSp4
namespace Go.Proofs.Ytnbimpkihpaldaa
open Go.RowKit Go.Cpl

set_option maxRecDepth 100000 in
set_option maxHeartbeats 400000 in
theorem CopyInts_s (A : Option Addr) (n cap : Nat) (l : List Int) (w0 : World) (hr : IReads w0 A l) (hl : l.length = n * 1) (hn : n ≤ 1000000) :
    Calls Try.prog 19 #[.slice A n cap] w0 fun e w' => ∃ v, e = .returned (v) ∧ Below w0.heap.size w0 w' ∧ w'.ownsRow w0.heap.size 3 1 v n (rowI l) := by
  have S0 := St.start w0
  refine enter (n := 6) Try.func19 rfl rfl rfl (fun ac A0 => ?_)
  refine wp_seq ?_
  refine wp_region_lit ?_
  refine s_one (.slice none 0 0) A0 S0 (g_assign (by kernel_rfl)) rfl (fun ac A1 => ?_)
  refine wpList_nil ?_
  refine n_then ?_
  refine wp_seq ?_
  refine wp_region_lit ?_
  refine s_bs (e := 3) (r := []) (#[]) A1 S0 (by kernel_rfl) (by kernel_rfl) rfl (fun g4 ac wc A2 S3 => ?_)
  refine s_one (.slice A n cap) A2 S3 (g_move (by kernel_rfl)) rfl (fun ac A5 => ?_)
  have S6 : St w0 [] [⟨.slice (some ⟨g4, 0, none⟩) 0 0, 3, 1, 0, []⟩] _ := St.toRow S3 0 rfl rfl (by decide)
  refine s_appendX (e := 3) (size := 1) (bytes := 8) (v := .slice (some ⟨g4, 0, none⟩) 0 0) (m' := n) (c := cap) (l := l) 0 A5 S6 (by kernel_rfl) (by kernel_rfl) (by kernel_rfl) rfl (hr.kept S6.kp) (by have hlen := hl; omega) (by omega) (by omega) rfl (fun v9 ac wc A7 S8 => ?_)
  have S10 : St w0 [] [⟨v9, 3, 1, n, (rowI l)⟩] _ := St.rerow 0 S8 rfl ⟨Nat.zero_add _, List.nil_append _⟩
  refine s_one (v9) A7 S10 (g_assign (by kernel_rfl)) rfl (fun ac A11 => ?_)
  refine wpList_nil ?_
  refine n_then ?_
  refine wp_ret ?_
  refine finR 0 (v9) Try.results19 A11 S10 (by kernel_rfl) rfl (fun w2 bw ow => ?_)
  exact ⟨_, rfl, bw, ow⟩

set_option maxRecDepth 100000 in
set_option maxHeartbeats 400000 in
theorem CopyEvents_s (A : Option Addr) (n cap : Nat) (l : List Int) (w0 : World) (hr : IReads w0 A l) (hl : l.length = n * 3) (hn : n ≤ 1000000) :
    Calls Try.prog 9 #[.slice A n cap] w0 fun e w' => ∃ v, e = .returned (v) ∧ Below w0.heap.size w0 w' ∧ w'.ownsRow w0.heap.size 30 3 v n (rowI l) := by
  have S0 := St.start w0
  refine enter (n := 6) Try.func9 rfl rfl rfl (fun ac A0 => ?_)
  refine wp_seq ?_
  refine wp_region_lit ?_
  refine s_one (.slice none 0 0) A0 S0 (g_assign (by kernel_rfl)) rfl (fun ac A1 => ?_)
  refine wpList_nil ?_
  refine n_then ?_
  refine wp_seq ?_
  refine wp_region_lit ?_
  refine s_bs (e := 30) (r := []) (#[]) A1 S0 (by kernel_rfl) (by kernel_rfl) rfl (fun g4 ac wc A2 S3 => ?_)
  refine s_one (.slice A n cap) A2 S3 (g_move (by kernel_rfl)) rfl (fun ac A5 => ?_)
  have S6 : St w0 [] [⟨.slice (some ⟨g4, 0, none⟩) 0 0, 30, 3, 0, []⟩] _ := St.toRow S3 0 rfl rfl (by decide)
  refine s_appendX (e := 30) (size := 3) (bytes := 24) (v := .slice (some ⟨g4, 0, none⟩) 0 0) (m' := n) (c := cap) (l := l) 0 A5 S6 (by kernel_rfl) (by kernel_rfl) (by kernel_rfl) rfl (hr.kept S6.kp) (by have hlen := hl; omega) (by omega) (by omega) rfl (fun v9 ac wc A7 S8 => ?_)
  have S10 : St w0 [] [⟨v9, 30, 3, n, (rowI l)⟩] _ := St.rerow 0 S8 rfl ⟨Nat.zero_add _, List.nil_append _⟩
  refine s_one (v9) A7 S10 (g_assign (by kernel_rfl)) rfl (fun ac A11 => ?_)
  refine wpList_nil ?_
  refine n_then ?_
  refine wp_ret ?_
  refine finR 0 (v9) Try.results9 A11 S10 (by kernel_rfl) rfl (fun w2 bw ow => ?_)
  exact ⟨_, rfl, bw, ow⟩

set_option maxRecDepth 100000 in
set_option maxHeartbeats 400000 in
theorem Bools_s (A : Option Addr) (n c1 : Nat) (B : Option Addr) (c2 : Nat) (f h : Nat → Bool) (w0 : World) (hr : VReads w0 A (bX n f)) (hs : VReads w0 B (bX n h)) (hn : n ≤ 1000) (heq : ∀ k, k < n → f k = h k) :
    Calls Try.prog 10 #[.slice A n c1, .slice B n c2] w0 fun e w' => e = .returned (.bool true) ∧ Below w0.heap.size w0 w' := by
  have S0 := St.start w0
  refine enter (n := 26) Try.func10 rfl rfl rfl (fun ac A0 => ?_)
  refine wp_seq ?_
  refine wp_region_lit ?_
  refine s_one (.bool false) A0 S0 (g_assign (by kernel_rfl)) rfl (fun ac A1 => ?_)
  refine wpList_nil ?_
  refine n_then ?_
  refine wp_seq ?_
  refine wp_seq ?_
  refine wp_region_lit ?_
  refine s_one (.slice A n c1) A1 S0 (g_move (by kernel_rfl)) rfl (fun ac A2 => ?_)
  refine s_one (.int .i64 (n : Int)) A2 S0 (g_built (r := [(0, .slice A n c1)]) (by kernel_rfl) (fun _ _ _ => by kernel_rfl)) rfl (fun ac A3 => ?_)
  refine s_one (.slice B n c2) A3 S0 (g_move (by kernel_rfl)) rfl (fun ac A4 => ?_)
  refine s_one (.int .i64 (n : Int)) A4 S0 (g_built (r := [(0, .slice B n c2)]) (by kernel_rfl) (fun _ _ _ => by kernel_rfl)) rfl (fun ac A5 => ?_)
  refine s_one (.bool (decide ((n : Int) ≠ (n : Int)))) A5 S0 (g_bin (u := .int .i64 (n : Int)) (k := .int .i64 (n : Int)) (by kernel_rfl) (by kernel_rfl) (fun _ => by kernel_rfl) b_neq) rfl (fun ac A6 => ?_)
  refine wpList_nil ?_
  refine n_then ?_
  refine c_f (b := (decide ((n : Int) ≠ (n : Int)))) A6 (by kernel_rfl) (decide_eq_false (fun h => h rfl)) ?_
  refine wp_skip ?_
  refine n_then ?_
  refine wp_seq ?_
  refine wp_seq ?_
  refine wp_region_lit ?_
  refine s_one (.int .i64 0) A6 S0 (g_assign (by kernel_rfl)) rfl (fun ac A7 => ?_)
  refine wpList_nil ?_
  refine n_then ?_
  refine wp_block ?_
  refine c_loopN (fun mm ac wc => ∃ (k : Nat), mm = n - k ∧ (k ≤ n) ∧ Fr 26 ac [(0, .slice A n c1), (1, .slice B n c2), (6, .slice A n c1), (7, .int .i64 (n : Int)), (8, .slice B n c2), (9, .int .i64 (n : Int)), (10, .bool (decide ((n : Int) ≠ (n : Int)))), (5, .int .i64 (k : Int))] ∧ St w0 [] [] wc) _ ⟨0, rfl, Nat.zero_le _, (A7.slot (A7.slot (A7.slot (A7.slot (A7.slot (A7.slot (A7.slot (A7.slot A7.nil (v := .int .i64 0) (by kernel_rfl) (congrArg (Value.int .i64) (by omega))) (v := .bool (decide ((n : Int) ≠ (n : Int)))) (by kernel_rfl) rfl) (v := .int .i64 (n : Int)) (by kernel_rfl) rfl) (v := .slice B n c2) (by kernel_rfl) rfl) (v := .int .i64 (n : Int)) (by kernel_rfl) rfl) (v := .slice A n c1) (by kernel_rfl) rfl) (v := .slice B n c2) (by kernel_rfl) rfl) (v := .slice A n c1) (by kernel_rfl) rfl), S0.sub sub_all sub_all⟩ ?_
  rintro mm ac wc ⟨k, hm10, hk, A8, S9⟩
  have hq := heq k
  refine wp_seq ?_
  refine wp_seq ?_
  refine wp_region_lit ?_
  refine s_one (.int .i64 (k : Int)) A8 S9 (g_move (by kernel_rfl)) rfl (fun ac A11 => ?_)
  refine s_one (.slice A n c1) A11 S9 (g_move (by kernel_rfl)) rfl (fun ac A12 => ?_)
  refine s_one (.int .i64 (n : Int)) A12 S9 (g_built (r := [(0, .slice A n c1)]) (by kernel_rfl) (fun _ _ _ => by kernel_rfl)) rfl (fun ac A13 => ?_)
  refine s_one (.bool (decide ((k : Int) < (n : Int)))) A13 S9 (g_bin (u := .int .i64 (k : Int)) (k := .int .i64 (n : Int)) (by kernel_rfl) (by kernel_rfl) (fun _ => by kernel_rfl) (fun _ => by kernel_rfl)) rfl (fun ac A14 => ?_)
  refine wpList_nil ?_
  refine n_then ?_
  refine c_ifb (b := (decide ((k : Int) < (n : Int)))) A14 (by kernel_rfl) (fun h15 => ?_) (fun h15 => ?_)
  · have p16 := of_decide_eq_true h15
    refine wp_skip ?_
    refine n_then ?_
    refine wp_seq ?_
    refine wp_block ?_
    refine wp_seq ?_
    refine r_begin (w0 := w0) (by kernel_rfl) (S9.sub sub_all sub_all) (fun wc T17 B18 => ?_)
    have S19 := S9.kept B18
    refine r_take 0 (.slice A n c1) A14 T17 (g_move (by kernel_rfl)) rfl rfl rfl (pf_then (pf_block (pf_then (pf_then (pf_block (pf_then pf_body)))))) (by kernel_rfl) (fun ac A20 => ?_)
    refine r_take 1 (.int .i64 (k : Int)) A20 T17 (g_move (by kernel_rfl)) rfl rfl rfl (pf_then (pf_block (pf_then (pf_then (pf_block (pf_then pf_body)))))) (by kernel_rfl) (fun ac A21 => ?_)
    obtain ⟨ad22, he23, hc24⟩ := hr k _ (bX_get (by omega))
    refine r_take 2 (.pointer (some (ad22.add k))) A21 T17 (g_index (u := .slice A n c1) (k := .int .i64 (k : Int)) (by kernel_rfl) (by kernel_rfl) (ix_xA1 (e := 4) (bytes := 1) k (by kernel_rfl) (by omega) (by omega) he23)) rfl rfl rfl (pf_then (pf_block (pf_then (pf_then (pf_block (pf_then pf_body)))))) (by kernel_rfl) (fun ac A25 => ?_)
    refine r_take 3 (.bool (f k)) A25 T17 (g_loadX (ad := ad22.add k) (by kernel_rfl) hc24 (by kernel_rfl)) rfl rfl rfl (pf_then (pf_block (pf_then (pf_then (pf_block (pf_then pf_body)))))) (by kernel_rfl) (fun ac A26 => ?_)
    refine r_take 4 (.slice B n c2) A26 T17 (g_move (by kernel_rfl)) rfl rfl rfl (pf_then (pf_block (pf_then (pf_then (pf_block (pf_then pf_body)))))) (by kernel_rfl) (fun ac A27 => ?_)
    refine r_take 5 (.int .i64 (k : Int)) A27 T17 (g_move (by kernel_rfl)) rfl rfl rfl (pf_then (pf_block (pf_then (pf_then (pf_block (pf_then pf_body)))))) (by kernel_rfl) (fun ac A28 => ?_)
    obtain ⟨ad29, he30, hc31⟩ := hs k _ (bX_get (by omega))
    refine r_take 6 (.pointer (some (ad29.add k))) A28 T17 (g_index (u := .slice B n c2) (k := .int .i64 (k : Int)) (by kernel_rfl) (by kernel_rfl) (ix_xA1 (e := 4) (bytes := 1) k (by kernel_rfl) (by omega) (by omega) he30)) rfl rfl rfl (pf_then (pf_block (pf_then (pf_then (pf_block (pf_then pf_body)))))) (by kernel_rfl) (fun ac A32 => ?_)
    refine r_take 7 (.bool (h k)) A32 T17 (g_loadX (ad := ad29.add k) (by kernel_rfl) hc31 (by kernel_rfl)) rfl rfl rfl (pf_then (pf_block (pf_then (pf_then (pf_block (pf_then pf_body)))))) (by kernel_rfl) (fun ac A33 => ?_)
    refine r_take 8 (.bool (decide ((f k) ≠ (h k)))) A33 T17 (g_bin (u := .bool (f k)) (k := .bool (h k)) (by kernel_rfl) (by kernel_rfl) (fun _ => by kernel_rfl) (q_boolN Try.underlying4)) rfl rfl rfl (pf_then (pf_block (pf_then (pf_then (pf_block (pf_then pf_body)))))) (by kernel_rfl) (fun ac A34 => ?_)
    refine r_done (by kernel_rfl) ?_
    refine n_then ?_
    refine c_f (b := (decide ((f k) ≠ (h k)))) A34 (by kernel_rfl) (decide_eq_false (fun z => z (heq k (by omega)))) ?_
    refine wp_skip ?_
    refine n_block ?_
    refine n_then ?_
    refine wp_region_lit ?_
    refine s_one (.int .i64 (k : Int)) A34 S19 (g_move (by kernel_rfl)) rfl (fun ac A35 => ?_)
    refine s_one (.int .i64 ((k : Int) + 1)) A35 S19 (g_bin (u := .int .i64 (k : Int)) (k := .int .i64 1) (by kernel_rfl) (by kernel_rfl) (fun _ => by kernel_rfl) (b_add (by omega))) rfl (fun ac A36 => ?_)
    refine s_one (.int .i64 ((k : Int) + 1)) A36 S19 (g_assign (by kernel_rfl)) rfl (fun ac A37 => ?_)
    refine wpList_nil ?_
    refine n_then ?_
    refine ⟨_, ⟨k + 1, rfl, by omega, (A37.slot (A37.slot (A37.slot (A37.slot (A37.slot (A37.slot (A37.slot (A37.slot A37.nil (v := .int .i64 ((k : Int) + 1)) (by kernel_rfl) (congrArg (Value.int .i64) (by omega))) (v := .bool (decide ((n : Int) ≠ (n : Int)))) (by kernel_rfl) rfl) (v := .int .i64 (n : Int)) (by kernel_rfl) rfl) (v := .slice B n c2) (by kernel_rfl) rfl) (v := .int .i64 (n : Int)) (by kernel_rfl) rfl) (v := .slice A n c1) (by kernel_rfl) rfl) (v := .slice B n c2) (by kernel_rfl) rfl) (v := .slice A n c1) (by kernel_rfl) rfl), S19.sub sub_all sub_all⟩, ?_⟩
    omega
  · have p38 := of_decide_eq_false h15
    refine wp_exit ?_
    refine x_then ?_
    refine x_then ?_
    refine x_hit ?_
    refine n_then ?_
    refine wp_seq ?_
    refine wp_region_lit ?_
    refine s_one (.bool true) A14 S9 (g_assign (by kernel_rfl)) rfl (fun ac A39 => ?_)
    refine wpList_nil ?_
    refine n_then ?_
    refine wp_ret ?_
    refine fin1 (.bool true) Try.results10 A39 S9 (rv_tmp (by kernel_rfl)) ⟨?_, S9.kp⟩
    rfl

set_option maxRecDepth 100000 in
set_option maxHeartbeats 400000 in
theorem CopySteps_s (A : Option Addr) (cap : Nat) (ss : List Sp) (w0 : World) (hr : SpReads w0 A ss) (gs : GoodS ss) :
    Calls Try.prog 8 #[.slice A ss.length cap] w0 fun e w' => ∃ u : Nat × {c : Nat // ss.length ≤ c} × {vs : List Value // vs.length = ss.length}, e = .returned (.slice (some ⟨u.1, 0, none⟩) ss.length u.2.1.1) ∧ St w0 [] (⟨.slice (some ⟨u.1, 0, none⟩) ss.length u.2.1.1, 59, 4, ss.length, (spX ss ss.length (vI u.2.2.1))⟩ :: (inR 3 ss u.2.2.1)) w' := by
  have S0 := St.start w0
  have hfw := gs.few
  obtain ⟨f0, hf1, hf2⟩ := sp_vreads hr
  refine enter (n := 25) Try.func8 rfl rfl rfl (fun ac A0 => ?_)
  refine wp_seq ?_
  refine wp_region_lit ?_
  refine s_one (.slice none 0 0) A0 S0 (g_assign (by kernel_rfl)) rfl (fun ac A1 => ?_)
  refine wpList_nil ?_
  refine n_then ?_
  refine wp_seq ?_
  refine wp_region_lit ?_
  refine s_bs (e := 59) (r := []) (#[]) A1 S0 (by kernel_rfl) (by kernel_rfl) rfl (fun g4 ac wc A2 S3 => ?_)
  refine s_one (.slice A ss.length cap) A2 S3 (g_move (by kernel_rfl)) rfl (fun ac A5 => ?_)
  have S9 : St w0 [] [⟨.slice (some ⟨g4, 0, none⟩) 0 0, 59, 4, 0, []⟩] _ := St.toRow (n := 0) S3 0 rfl rfl (by decide)
  refine s_appV (e := 59) (size := 4) (bytes := 56) (c := cap) 0 (spX ss ss.length (f0)) A5 S9 (by kernel_rfl) (by kernel_rfl) (by kernel_rfl) rfl (hf2.kept S9.kp) (by rw [spX_length]) (by rw [spX_length]; omega) (spX_one hf1) (by omega) (by omega) rfl (fun v10 ac wc A6 S7 => ?_)
  have S11 : St w0 [] [⟨v10, 59, 4, ss.length, (spX ss ss.length (f0))⟩] _ := St.rerow 0 S7 rfl ⟨Nat.zero_add _, List.nil_append _⟩
  obtain ⟨g12, cp13, rfl, hcp⟩ := row_someC (v := v10) (m := ss.length) (S11.row 0 rfl) (by omega)
  refine s_one (.slice (some (⟨g12, 0, none⟩)) ss.length cp13) A6 S11 (g_assign (by kernel_rfl)) rfl (fun ac A14 => ?_)
  refine wpList_nil ?_
  refine n_then ?_
  refine wp_seq ?_
  refine wp_seq ?_
  refine wp_region_lit ?_
  refine s_one (.int .i64 0) A14 S11 (g_assign (by kernel_rfl)) rfl (fun ac A15 => ?_)
  refine wpList_nil ?_
  refine n_then ?_
  refine wp_block ?_
  refine c_loopN (fun mm ac wc => ∃ (vs : List Value), mm = ss.length - vs.length ∧ (vs.length ≤ ss.length) ∧ Fr 25 ac [(0, .slice A ss.length cap), (2, .slice none 0 0), (5, .slice (some ⟨g4, 0, none⟩) 0 0), (6, .slice A ss.length cap), (7, .slice (some (⟨g12, 0, none⟩)) ss.length cp13), (3, .slice (some (⟨g12, 0, none⟩)) ss.length cp13), (4, .int .i64 (vs.length : Int))] ∧ St w0 [] (⟨.slice (some (⟨g12, 0, none⟩)) ss.length cp13, 59, 4, ss.length, (spX ss ss.length (spF vs f0))⟩ :: (inR 3 ss vs)) wc) _ ⟨[], rfl, Nat.zero_le _, (A15.slot (A15.slot (A15.slot (A15.slot (A15.slot (A15.slot (A15.slot A15.nil (v := .int .i64 0) (by kernel_rfl) rfl) (v := .slice (some (⟨g12, 0, none⟩)) ss.length cp13) (by kernel_rfl) rfl) (v := .slice (some (⟨g12, 0, none⟩)) ss.length cp13) (by kernel_rfl) rfl) (v := .slice A ss.length cap) (by kernel_rfl) rfl) (v := .slice (some ⟨g4, 0, none⟩) 0 0) (by kernel_rfl) rfl) (v := .slice none 0 0) (by kernel_rfl) rfl) (v := .slice A ss.length cap) (by kernel_rfl) rfl), (St.rerow 0 S11 rfl ⟨rfl, congrArg (spX ss ss.length) (spF_nil f0).symm⟩).sub sub_all sub_all⟩ ?_
  rintro mm ac wc ⟨vs, hm18, hk, A16, S17⟩
  refine wp_seq ?_
  refine wp_seq ?_
  refine wp_region_lit ?_
  refine s_one (.int .i64 (vs.length : Int)) A16 S17 (g_move (by kernel_rfl)) rfl (fun ac A19 => ?_)
  refine s_one (.slice (some (⟨g12, 0, none⟩)) ss.length cp13) A19 S17 (g_move (by kernel_rfl)) rfl (fun ac A20 => ?_)
  refine s_one (.int .i64 (ss.length : Int)) A20 S17 (g_built (r := [(0, .slice (some (⟨g12, 0, none⟩)) ss.length cp13)]) (by kernel_rfl) (fun _ _ _ => by kernel_rfl)) rfl (fun ac A21 => ?_)
  refine s_one (.bool (decide ((vs.length : Int) < (ss.length : Int)))) A21 S17 (g_bin (u := .int .i64 (vs.length : Int)) (k := .int .i64 (ss.length : Int)) (by kernel_rfl) (by kernel_rfl) (fun _ => by kernel_rfl) (fun _ => by kernel_rfl)) rfl (fun ac A22 => ?_)
  refine wpList_nil ?_
  refine n_then ?_
  refine c_ifb (b := (decide ((vs.length : Int) < (ss.length : Int)))) A22 (by kernel_rfl) (fun h23 => ?_) (fun h23 => ?_)
  · have p24 := of_decide_eq_true h23
    refine wp_skip ?_
    refine n_then ?_
    refine wp_seq ?_
    refine wp_block ?_
    have hsh := gs.short (show vs.length < ss.length by omega)
    refine wp_region_lit ?_
    refine s_one (.slice (some (⟨g12, 0, none⟩)) ss.length cp13) A22 S17 (g_move (by kernel_rfl)) rfl (fun ac A25 => ?_)
    refine s_one (.int .i64 (vs.length : Int)) A25 S17 (g_move (by kernel_rfl)) rfl (fun ac A26 => ?_)
    refine s_one (.slice A ss.length cap) A26 S17 (g_move (by kernel_rfl)) rfl (fun ac A27 => ?_)
    refine s_one (.int .i64 (vs.length : Int)) A27 S17 (g_move (by kernel_rfl)) rfl (fun ac A28 => ?_)
    obtain ⟨ad29, B30, c31, he32, hs33⟩ := hr vs.length (by omega)
    have hm34 := hs33.hm
    have hm35 := hs33.hn
    refine s_one (.pointer (some (ad29.add (vs.length * 4)))) A28 S17 (g_index (u := .slice A ss.length cap) (k := .int .i64 (vs.length : Int)) (by kernel_rfl) (by kernel_rfl) (ix_xsB (e := 59) (size := 4) (bytes := 56) vs.length (by kernel_rfl) (by omega) (by omega) he32)) rfl (fun ac A36 => ?_)
    refine s_one (.pointer (some (ad29.add (vs.length * 4 + 3)))) A36 S17 (g_field (u := .pointer (some (ad29.add (vs.length * 4)))) (by kernel_rfl) (fld_x (x := vs.length * 4) (o := 3) (by kernel_rfl))) rfl (fun ac A37 => ?_)
    refine s_one (.slice B30 ((spK ss vs.length).ne.length) c31) A37 S17 (g_loadX (ad := ad29.add (vs.length * 4 + 3)) (by kernel_rfl) (sp_cell (j := 3) hs33 rfl rfl) (by kernel_rfl)) rfl (fun ac A38 => ?_)
    refine s_callR (fs := #[]) (cp := #[]) (r := [(0, .slice B30 ((spK ss vs.length).ne.length) c31)]) #[.slice B30 ((spK ss vs.length).ne.length) c31] A38 S17 (CopyInts_s B30 ((spK ss vs.length).ne.length) c31 ((spK ss vs.length).ne) _ (hs33.rd.kept S17.kp) (show (spK ss vs.length).ne.length = (spK ss vs.length).ne.length * 1 by omega) (by omega)) Try.call19 (by kernel_rfl) (by kernel_rfl) (by kernel_rfl) rfl (fun v42 ac wc A39 S40 => ?_)
    refine s_one (.pointer (some ((Addr.mk g12 0 none).add (vs.length * 4)))) A39 S40 (g_index (u := .slice (some (⟨g12, 0, none⟩)) ss.length cp13) (k := .int .i64 (vs.length : Int)) (by kernel_rfl) (by kernel_rfl) (ix_xs (e := 59) (size := 4) (bytes := 56) vs.length (by kernel_rfl) (by omega) (by omega))) rfl (fun ac A43 => ?_)
    refine s_one (.pointer (some ((Addr.mk g12 0 none).add (vs.length * 4 + 3)))) A43 S40 (g_field (u := .pointer (some ((Addr.mk g12 0 none).add (vs.length * 4)))) (by kernel_rfl) (fld_x (x := vs.length * 4) (o := 3) (by kernel_rfl))) rfl (fun ac A44 => ?_)
    obtain ⟨A45, cap46, rfl⟩ := row_slice (v := v42) (m := (spK ss vs.length).ne.length) (S40.row 0 rfl)
    refine s_storeR (ad := ⟨g12, 0, none⟩) (off := vs.length * 4 + 3) (u := .slice A45 ((spK ss vs.length).ne.length) cap46) 1 1 [.slice A45 ((spK ss vs.length).ne.length) cap46] (spX ss ss.length (setV (spF vs f0) vs.length (.slice A45 ((spK ss vs.length).ne.length) cap46))) A44 S40 (by kernel_rfl) (by kernel_rfl) rfl rfl rfl (by kernel_rfl) rfl (by rw [spX_length]; omega) (spX_put _ (by omega)) (fun wc S47 => ?_)
    refine wpList_nil ?_
    refine n_block ?_
    refine n_then ?_
    refine wp_region_lit ?_
    refine s_one (.int .i64 (vs.length : Int)) A44 S47 (g_move (by kernel_rfl)) rfl (fun ac A48 => ?_)
    refine s_one (.int .i64 ((vs.length : Int) + 1)) A48 S47 (g_bin (u := .int .i64 (vs.length : Int)) (k := .int .i64 1) (by kernel_rfl) (by kernel_rfl) (fun _ => by kernel_rfl) (b_add (by omega))) rfl (fun ac A49 => ?_)
    refine s_one (.int .i64 ((vs.length : Int) + 1)) A49 S47 (g_assign (by kernel_rfl)) rfl (fun ac A50 => ?_)
    refine wpList_nil ?_
    refine n_then ?_
    have SP : St w0 [] (⟨.slice (some (⟨g12, 0, none⟩)) ss.length cp13, 59, 4, ss.length, (spX ss ss.length (setV (spF vs f0) vs.length (.slice A45 ((spK ss vs.length).ne.length) cap46)))⟩ :: (inR 3 ss ((Value.slice A45 ((spK ss vs.length).ne.length) cap46) :: vs))) _ := St.permM S47 (List.Perm.swap _ _ _)
    have SQ : St w0 [] (⟨.slice (some (⟨g12, 0, none⟩)) ss.length cp13, 59, 4, ss.length, (spX ss ss.length (spF ((Value.slice A45 ((spK ss vs.length).ne.length) cap46) :: vs) f0))⟩ :: (inR 3 ss ((Value.slice A45 ((spK ss vs.length).ne.length) cap46) :: vs))) _ := St.rerow 0 SP rfl ⟨rfl, congrArg (spX ss ss.length) (spF_snoc _ _ _)⟩
    have ha : ((Value.slice A45 ((spK ss vs.length).ne.length) cap46) :: vs).length = vs.length + 1 := rfl
    refine ⟨_, ⟨((Value.slice A45 ((spK ss vs.length).ne.length) cap46) :: vs), rfl, by omega, (A50.slot (A50.slot (A50.slot (A50.slot (A50.slot (A50.slot (A50.slot A50.nil (v := .int .i64 ((vs.length : Int) + 1)) (by kernel_rfl) (congrArg (Value.int .i64) (by rw [ha]; omega))) (v := .slice (some (⟨g12, 0, none⟩)) ss.length cp13) (by kernel_rfl) rfl) (v := .slice (some (⟨g12, 0, none⟩)) ss.length cp13) (by kernel_rfl) rfl) (v := .slice A ss.length cap) (by kernel_rfl) rfl) (v := .slice (some ⟨g4, 0, none⟩) 0 0) (by kernel_rfl) rfl) (v := .slice none 0 0) (by kernel_rfl) rfl) (v := .slice A ss.length cap) (by kernel_rfl) rfl), SQ.sub sub_all sub_all⟩, ?_⟩
    omega
  · have p51 := of_decide_eq_false h23
    refine wp_exit ?_
    refine x_then ?_
    refine x_then ?_
    refine x_hit ?_
    refine n_then ?_
    refine wp_seq ?_
    refine wp_region_lit ?_
    refine s_one (.slice (some (⟨g12, 0, none⟩)) ss.length cp13) A22 S17 (g_move (by kernel_rfl)) rfl (fun ac A52 => ?_)
    refine s_one (.slice (some (⟨g12, 0, none⟩)) ss.length cp13) A52 S17 (g_assign (by kernel_rfl)) rfl (fun ac A53 => ?_)
    refine wpList_nil ?_
    refine n_then ?_
    refine wp_ret ?_
    have hl : vs.length = ss.length := by omega
    have S9 : St w0 [] (⟨.slice (some (⟨g12, 0, none⟩)) ss.length cp13, 59, 4, ss.length, (spX ss ss.length (vI vs))⟩ :: (inR 3 ss vs)) _ := St.rerow 0 (S17.sub sub_all sub_all) rfl ⟨rfl, spF_all hl⟩
    refine fin1 (.slice (some (⟨g12, 0, none⟩)) ss.length cp13) Try.results8 A53 S9 (rv_tmp (by kernel_rfl)) ⟨(g12, ⟨cp13, hcp⟩, ⟨vs, hl⟩), rfl, S9⟩

end Go.Proofs.Ytnbimpkihpaldaa
