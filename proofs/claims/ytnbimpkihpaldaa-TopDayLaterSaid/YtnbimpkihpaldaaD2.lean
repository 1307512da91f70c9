/- Right steps. -/
import Derived.Test.YtnbimpkihpaldaaD1
namespace Go.Proofs.Ytnbimpkihpaldaa
open Go.RowKit Go.Cpl

theorem nthI_mem {l : List Int} {k : Nat} (h : k < l.length) : nthI l k ∈ l := by
  rw [nthI_eq h]; exact List.getElem_mem h
theorem incr_f {l : List Int} {k : Nat} (h : ∀ k, 0 < k → k < l.length → nthI l (k - 1) < nthI l k) (hk : k < l.length) : (decide ((k : Int) > 0) && decide (nthI l k ≤ nthI l (k - 1))) = false := by
  rcases Nat.eq_zero_or_pos k with q | q
  · rw [decide_eq_false (by omega)]; rfl
  · have := h k q hk
    rw [decide_eq_false (p := nthI l k ≤ nthI l (k - 1)) (by omega), Bool.and_false]

set_option maxRecDepth 100000 in
set_option maxHeartbeats 400000 in
theorem isQ_s (gs : Nat) (q : List UInt8) (la wa : Int) (v : Value) (q1 : List UInt8) (l1 w1 : Int) (v1 : Value) (w0 : World) (hb : Blk w0 gs 59 #[.string ⟨q.toArray⟩, .int .i64 la, .int .i64 wa, v]) :
    Calls Try.prog 46 #[.agg #[.string ⟨q1.toArray⟩, .int .i64 l1, .int .i64 w1, v1], .pointer (some ⟨gs, 0, none⟩)] w0 fun e w' => e = .returned (.bool (decide (q1 = q))) ∧ Below w0.heap.size w0 w' := by
  have S0 := St.start w0
  have S0 := S0.came hb (by simp)
  refine enter (n := 9) Try.func46 rfl rfl rfl (fun ac A0 => ?_)
  refine wp_seq ?_
  refine wp_region_lit ?_
  refine s_box (.agg #[.string ⟨q1.toArray⟩, .int .i64 l1, .int .i64 w1, v1]) A0 S0 (by kernel_rfl) rfl (fun g3 ac wc A1 S2 => ?_)
  replace S2 : St _ (⟨g3, 59, #[.string ⟨q1.toArray⟩, .int .i64 l1, .int .i64 w1, v1], true⟩ :: _) _ _ := S2
  refine s_one (.bool false) A1 S2 (g_assign (by kernel_rfl)) rfl (fun ac A5 => ?_)
  refine wpList_nil ?_
  refine n_then ?_
  refine wp_seq ?_
  refine wp_region_lit ?_
  refine s_one (.pointer (some ⟨g3, 0, none⟩)) A5 S2 (g_field (u := .pointer (some ⟨g3, 0, none⟩)) (by kernel_rfl) (fun _ => by kernel_rfl)) rfl (fun ac A6 => ?_)
  refine s_one (.string ⟨q1.toArray⟩) A6 S2 (g_load (g := g3) (off := 0) 0 (by kernel_rfl) rfl (by kernel_rfl)) rfl (fun ac A7 => ?_)
  refine s_one (.pointer (some ⟨gs, 0, none⟩)) A7 S2 (g_field (u := .pointer (some ⟨gs, 0, none⟩)) (by kernel_rfl) (fun _ => by kernel_rfl)) rfl (fun ac A8 => ?_)
  refine s_one (.string ⟨q.toArray⟩) A8 S2 (g_load (g := gs) (off := 0) 1 (by kernel_rfl) rfl (by kernel_rfl)) rfl (fun ac A9 => ?_)
  refine s_one (.bool (decide (q1 = q))) A9 S2 (g_bin (u := .string ⟨q1.toArray⟩) (k := .string ⟨q.toArray⟩) (by kernel_rfl) (by kernel_rfl) (fun _ => by kernel_rfl) (q_str (l := q1) (m := q))) rfl (fun ac A10 => ?_)
  refine s_one (.bool (decide (q1 = q))) A10 S2 (g_assign (by kernel_rfl)) rfl (fun ac A11 => ?_)
  refine wpList_nil ?_
  refine n_then ?_
  refine wp_ret ?_
  refine fin1 (.bool (decide (q1 = q))) Try.results46 A11 S2 (rv_tmp (by kernel_rfl)) ⟨?_, S2.kp⟩
  rfl

set_option maxRecDepth 100000 in
set_option maxHeartbeats 400000 in
theorem indexQ_s (A : Option Addr) (n cap : Nat) (ss : List Sp) (gs : Nat) (q : List UInt8) (la wa : Int) (v : Value) (w0 : World) (hr : SpReads w0 A ss) (hn : n ≤ ss.length) (hn2 : n ≤ 1000) (hb : Blk w0 gs 59 #[.string ⟨q.toArray⟩, .int .i64 la, .int .i64 wa, v]) (hd : ∀ j, j < n → (spK ss j).nm ≠ q) :
    Calls Try.prog 51 #[.slice A n cap, .func (.func 46) #[] #[.pointer (some ⟨gs, 0, none⟩)]] w0 fun e w' => e = .returned (.int .i64 (-1)) ∧ Below w0.heap.size w0 w' := by
  have S0 := St.start w0
  have S0 := S0.came hb (by simp)
  refine enter (n := 19) Try.func51 rfl rfl rfl (fun ac A0 => ?_)
  refine wp_seq ?_
  refine wp_region_lit ?_
  refine s_one (.int .i64 0) A0 S0 (g_assign (by kernel_rfl)) rfl (fun ac A1 => ?_)
  refine wpList_nil ?_
  refine n_then ?_
  refine wp_seq ?_
  refine wp_seq ?_
  refine wp_region_lit ?_
  refine s_one (.slice A n cap) A1 S0 (g_move (by kernel_rfl)) rfl (fun ac A2 => ?_)
  refine s_one (.int .i64 (n : Int)) A2 S0 (g_built (r := [(0, .slice A n cap)]) (by kernel_rfl) (fun _ _ _ => by kernel_rfl)) rfl (fun ac A3 => ?_)
  refine s_one (.int .i64 0) A3 S0 (g_move (by kernel_rfl)) rfl (fun ac A4 => ?_)
  refine wpList_nil ?_
  refine n_then ?_
  refine wp_block ?_
  refine c_loopN (fun mm ac wc => ∃ (k : Nat), mm = n - k ∧ (k ≤ n) ∧ Fr 19 ac [(0, .slice A n cap), (1, .func (.func 46) #[] #[.pointer (some ⟨gs, 0, none⟩)]), (6, .slice A n cap), (7, .int .i64 (n : Int)), (8, .int .i64 (k : Int))] ∧ St w0 [⟨gs, 59, #[.string ⟨q.toArray⟩, .int .i64 la, .int .i64 wa, v], false⟩] [] wc) _ ⟨0, rfl, Nat.zero_le _, (A4.slot (A4.slot (A4.slot (A4.slot (A4.slot A4.nil (v := .int .i64 0) (by kernel_rfl) (congrArg (Value.int .i64) (by omega))) (v := .int .i64 (n : Int)) (by kernel_rfl) rfl) (v := .slice A n cap) (by kernel_rfl) rfl) (v := .func (.func 46) #[] #[.pointer (some ⟨gs, 0, none⟩)]) (by kernel_rfl) rfl) (v := .slice A n cap) (by kernel_rfl) rfl), S0.sub sub_all sub_all⟩ ?_
  rintro mm ac wc ⟨k, hm7, hk, A5, S6⟩
  refine wp_seq ?_
  refine wp_region_lit ?_
  refine s_one (.bool (decide ((k : Int) < (n : Int)))) A5 S6 (g_bin (u := .int .i64 (k : Int)) (k := .int .i64 (n : Int)) (by kernel_rfl) (by kernel_rfl) (fun _ => by kernel_rfl) (fun _ => by kernel_rfl)) rfl (fun ac A8 => ?_)
  refine wpList_nil ?_
  refine n_then ?_
  refine wp_seq ?_
  refine c_ifb (b := (decide ((k : Int) < (n : Int)))) A8 (by kernel_rfl) (fun h9 => ?_) (fun h9 => ?_)
  · have p10 := of_decide_eq_true h9
    refine wp_skip ?_
    refine n_then ?_
    refine wp_seq ?_
    refine wp_block ?_
    refine wp_seq ?_
    refine wp_region_lit ?_
    refine s_one (.int .i64 (k : Int)) A8 S6 (g_move (by kernel_rfl)) rfl (fun ac A11 => ?_)
    refine s_one (.int .i64 (k : Int)) A11 S6 (g_assign (by kernel_rfl)) rfl (fun ac A12 => ?_)
    refine wpList_nil ?_
    refine n_then ?_
    refine wp_seq ?_
    refine wp_region_lit ?_
    refine s_one (.func (.func 46) #[] #[.pointer (some ⟨gs, 0, none⟩)]) A12 S6 (g_move (by kernel_rfl)) rfl (fun ac A13 => ?_)
    refine s_one (.slice A n cap) A13 S6 (g_move (by kernel_rfl)) rfl (fun ac A14 => ?_)
    refine s_one (.int .i64 (k : Int)) A14 S6 (g_move (by kernel_rfl)) rfl (fun ac A15 => ?_)
    obtain ⟨ad16, B17, c18, he19, hs20⟩ := hr k (by omega)
    have hm21 := hs20.hm
    have hm22 := hs20.hn
    refine s_one (.pointer (some (ad16.add (k * 4)))) A15 S6 (g_index (u := .slice A n cap) (k := .int .i64 (k : Int)) (by kernel_rfl) (by kernel_rfl) (ix_xsB (e := 59) (size := 4) (bytes := 56) k (by kernel_rfl) (by omega) (by omega) he19)) rfl (fun ac A23 => ?_)
    refine s_one (.agg #[.string ⟨((spK ss k).nm).toArray⟩, .int .i64 ((spK ss k).la), .int .i64 ((spK ss k).wa), .slice B17 ((spK ss k).ne.length) c18]) A23 S6 (g_loadXV (p := ad16.add (k * 4)) (X := spC (spK ss k) B17 c18) (by kernel_rfl) hs20.cell (by kernel_rfl) rfl) rfl (fun ac A24 => ?_)
    refine s_call (fs := #[]) (cp := #[.pointer (some ⟨gs, 0, none⟩)]) (r := [(0, .agg #[.string ⟨((spK ss k).nm).toArray⟩, .int .i64 ((spK ss k).la), .int .i64 ((spK ss k).wa), .slice B17 ((spK ss k).ne.length) c18])]) #[.agg #[.string ⟨((spK ss k).nm).toArray⟩, .int .i64 ((spK ss k).la), .int .i64 ((spK ss k).wa), .slice B17 ((spK ss k).ne.length) c18], .pointer (some ⟨gs, 0, none⟩)] (.bool (decide ((spK ss k).nm = q))) A24 S6 (isQ_s gs q la wa (v) ((spK ss k).nm) ((spK ss k).la) ((spK ss k).wa) (.slice B17 ((spK ss k).ne.length) c18) _ (S6.get 0 rfl)) Try.call46 (by kernel_rfl) (by kernel_rfl) (by kernel_rfl) rfl (fun ac wc A25 S26 => ?_)
    refine wpList_nil ?_
    refine n_then ?_
    refine c_f (b := (decide ((spK ss k).nm = q))) A25 (by kernel_rfl) (decide_eq_false (hd k (by omega))) ?_
    refine wp_skip ?_
    refine n_block ?_
    refine n_then ?_
    refine wp_region_lit ?_
    refine s_one (.int .i64 ((k : Int) + 1)) A25 S26 (g_bin (u := .int .i64 (k : Int)) (k := .int .i64 1) (by kernel_rfl) (by kernel_rfl) (fun _ => by kernel_rfl) (b_add (by omega))) rfl (fun ac A28 => ?_)
    refine s_one (.int .i64 ((k : Int) + 1)) A28 S26 (g_move (by kernel_rfl)) rfl (fun ac A29 => ?_)
    refine wpList_nil ?_
    refine n_then ?_
    refine ⟨_, ⟨k + 1, rfl, by omega, (A29.slot (A29.slot (A29.slot (A29.slot (A29.slot A29.nil (v := .int .i64 ((k : Int) + 1)) (by kernel_rfl) (congrArg (Value.int .i64) (by omega))) (v := .int .i64 (n : Int)) (by kernel_rfl) rfl) (v := .slice A n cap) (by kernel_rfl) rfl) (v := .func (.func 46) #[] #[.pointer (some ⟨gs, 0, none⟩)]) (by kernel_rfl) rfl) (v := .slice A n cap) (by kernel_rfl) rfl), S26.sub sub_all sub_all⟩, ?_⟩
    omega
  · have p30 := of_decide_eq_false h9
    refine wp_exit ?_
    refine x_then ?_
    refine x_then ?_
    refine x_hit ?_
    refine n_then ?_
    refine wp_seq ?_
    refine wp_region_lit ?_
    refine s_one (.int .i64 (-1)) A8 S6 (g_assign (by kernel_rfl)) rfl (fun ac A31 => ?_)
    refine wpList_nil ?_
    refine n_then ?_
    refine wp_ret ?_
    refine fin1 (.int .i64 (-1)) Try.results51 A31 S6 (rv_tmp (by kernel_rfl)) ⟨?_, S6.kp⟩
    rfl

set_option maxRecDepth 100000 in
set_option maxHeartbeats 400000 in
theorem hasQ_s (A : Option Addr) (n cap : Nat) (ss : List Sp) (gs : Nat) (q : List UInt8) (la wa : Int) (v : Value) (w0 : World) (hr : SpReads w0 A ss) (hn : n ≤ ss.length) (hn2 : n ≤ 1000) (hb : Blk w0 gs 59 #[.string ⟨q.toArray⟩, .int .i64 la, .int .i64 wa, v]) (hd : ∀ j, j < n → (spK ss j).nm ≠ q) :
    Calls Try.prog 45 #[.slice A n cap, .func (.func 46) #[] #[.pointer (some ⟨gs, 0, none⟩)]] w0 fun e w' => e = .returned (.bool false) ∧ Below w0.heap.size w0 w' := by
  have S0 := St.start w0
  have S0 := S0.came hb (by simp)
  refine enter (n := 9) Try.func45 rfl rfl rfl (fun ac A0 => ?_)
  refine wp_seq ?_
  refine wp_region_lit ?_
  refine s_one (.bool false) A0 S0 (g_assign (by kernel_rfl)) rfl (fun ac A1 => ?_)
  refine wpList_nil ?_
  refine n_then ?_
  refine wp_seq ?_
  refine wp_region_lit ?_
  refine s_one (.slice A n cap) A1 S0 (g_move (by kernel_rfl)) rfl (fun ac A2 => ?_)
  refine s_one (.func (.func 46) #[] #[.pointer (some ⟨gs, 0, none⟩)]) A2 S0 (g_move (by kernel_rfl)) rfl (fun ac A3 => ?_)
  refine s_call (fs := #[]) (cp := #[]) (r := [(0, .slice A n cap), (0, .func (.func 46) #[] #[.pointer (some ⟨gs, 0, none⟩)])]) #[.slice A n cap, .func (.func 46) #[] #[.pointer (some ⟨gs, 0, none⟩)]] (.int .i64 (-1)) A3 S0 (indexQ_s A n cap ss gs q la wa (v) _ (hr.kept S0.kp) (by omega) (by omega) (S0.get 0 rfl) hd) Try.call51 (by kernel_rfl) (by kernel_rfl) (by kernel_rfl) rfl (fun ac wc A4 S5 => ?_)
  refine s_one (.bool (decide ((-1) ≥ 0))) A4 S5 (g_bin (u := .int .i64 (-1)) (k := .int .i64 0) (by kernel_rfl) (by kernel_rfl) (fun _ => by kernel_rfl) (fun _ => by kernel_rfl)) rfl (fun ac A7 => ?_)
  refine s_one (.bool (decide ((-1) ≥ 0))) A7 S5 (g_assign (by kernel_rfl)) rfl (fun ac A8 => ?_)
  refine wpList_nil ?_
  refine n_then ?_
  refine wp_ret ?_
  refine fin1 (.bool (decide ((-1) ≥ 0))) Try.results45 A8 S5 (rv_tmp (by kernel_rfl)) ⟨?_, S5.kp⟩
  rfl

set_option maxRecDepth 100000 in
set_option maxHeartbeats 400000 in
theorem CheckSteps_s (A : Option Addr) (cap : Nat) (ss : List Sp) (w0 : World) (hr : SpReads w0 A ss) (hcp : ss.length ≤ cap) (gs : GoodS ss) :
    Calls Try.prog 30 #[.slice A ss.length cap] w0 fun e w' => e = .returned (.tuple #[.int .i64 0, .int .i64 0]) ∧ Below w0.heap.size w0 w' := by
  have S0 := St.start w0
  have hfw := gs.few
  refine enter (n := 79) Try.func30 rfl rfl rfl (fun ac A0 => ?_)
  refine wp_seq ?_
  refine wp_region_lit ?_
  refine s_one (.int .i64 0) A0 S0 (g_assign (by kernel_rfl)) rfl (fun ac A1 => ?_)
  refine s_one (.int .i64 0) A1 S0 (g_assign (by kernel_rfl)) rfl (fun ac A2 => ?_)
  refine wpList_nil ?_
  refine n_then ?_
  refine wp_seq ?_
  refine wp_block ?_
  refine wp_seq ?_
  refine wp_region_lit ?_
  refine s_one (.slice A ss.length cap) A2 S0 (g_move (by kernel_rfl)) rfl (fun ac A3 => ?_)
  refine s_one (.int .i64 (ss.length : Int)) A3 S0 (g_built (r := [(0, .slice A ss.length cap)]) (by kernel_rfl) (fun _ _ _ => by kernel_rfl)) rfl (fun ac A4 => ?_)
  refine s_one (.bool (decide ((ss.length : Int) = 0))) A4 S0 (g_bin (u := .int .i64 (ss.length : Int)) (k := .int .i64 0) (by kernel_rfl) (by kernel_rfl) (fun _ => by kernel_rfl) b_eql) rfl (fun ac A5 => ?_)
  refine s_one (.bool (decide ((ss.length : Int) = 0))) A5 S0 (g_assign (by kernel_rfl)) rfl (fun ac A6 => ?_)
  refine wpList_nil ?_
  refine n_then ?_
  refine c_f (b := (decide ((ss.length : Int) = 0))) A6 (by kernel_rfl) (decide_eq_false (by omega)) ?_
  refine wp_seq ?_
  refine wp_region_lit ?_
  refine s_one (.slice A ss.length cap) A6 S0 (g_move (by kernel_rfl)) rfl (fun ac A7 => ?_)
  refine s_one (.int .i64 (ss.length : Int)) A7 S0 (g_built (r := [(0, .slice A ss.length cap)]) (by kernel_rfl) (fun _ _ _ => by kernel_rfl)) rfl (fun ac A8 => ?_)
  refine s_one (.bool (decide ((ss.length : Int) > 10))) A8 S0 (g_bin (u := .int .i64 (ss.length : Int)) (k := .int .i64 10) (by kernel_rfl) (by kernel_rfl) (fun _ => by kernel_rfl) (fun _ => by kernel_rfl)) rfl (fun ac A9 => ?_)
  refine s_one (.bool (decide ((ss.length : Int) > 10))) A9 S0 (g_assign (by kernel_rfl)) rfl (fun ac A10 => ?_)
  refine wpList_nil ?_
  refine n_then ?_
  refine c_f (b := (decide ((ss.length : Int) > 10))) A10 (by kernel_rfl) (decide_eq_false (by omega)) ?_
  refine wp_skip ?_
  refine n_block ?_
  refine n_then ?_
  refine wp_seq ?_
  refine wp_seq ?_
  refine wp_region_lit ?_
  refine s_one (.slice A ss.length cap) A10 S0 (g_move (by kernel_rfl)) rfl (fun ac A11 => ?_)
  refine s_one (.int .i64 (ss.length : Int)) A11 S0 (g_built (r := [(0, .slice A ss.length cap)]) (by kernel_rfl) (fun _ _ _ => by kernel_rfl)) rfl (fun ac A12 => ?_)
  refine s_one (.int .i64 0) A12 S0 (g_move (by kernel_rfl)) rfl (fun ac A13 => ?_)
  refine wpList_nil ?_
  refine n_then ?_
  refine wp_block ?_
  refine c_loopN (fun mm ac wc => ∃ (i : Nat), mm = ss.length - i ∧ (i ≤ ss.length) ∧ Fr 79 ac [(0, .slice A ss.length cap), (9, .slice A ss.length cap), (10, .int .i64 (ss.length : Int)), (11, .bool (decide ((ss.length : Int) = 0))), (8, .bool (decide ((ss.length : Int) = 0))), (13, .slice A ss.length cap), (14, .int .i64 (ss.length : Int)), (15, .bool (decide ((ss.length : Int) > 10))), (12, .bool (decide ((ss.length : Int) > 10))), (16, .slice A ss.length cap), (17, .int .i64 (ss.length : Int)), (18, .int .i64 (i : Int))] ∧ St w0 [] [] wc) _ ⟨0, rfl, Nat.zero_le _, (A13.slot (A13.slot (A13.slot (A13.slot (A13.slot (A13.slot (A13.slot (A13.slot (A13.slot (A13.slot (A13.slot (A13.slot A13.nil (v := .int .i64 0) (by kernel_rfl) (congrArg (Value.int .i64) (by omega))) (v := .int .i64 (ss.length : Int)) (by kernel_rfl) rfl) (v := .slice A ss.length cap) (by kernel_rfl) rfl) (v := .bool (decide ((ss.length : Int) > 10))) (by kernel_rfl) rfl) (v := .bool (decide ((ss.length : Int) > 10))) (by kernel_rfl) rfl) (v := .int .i64 (ss.length : Int)) (by kernel_rfl) rfl) (v := .slice A ss.length cap) (by kernel_rfl) rfl) (v := .bool (decide ((ss.length : Int) = 0))) (by kernel_rfl) rfl) (v := .bool (decide ((ss.length : Int) = 0))) (by kernel_rfl) rfl) (v := .int .i64 (ss.length : Int)) (by kernel_rfl) rfl) (v := .slice A ss.length cap) (by kernel_rfl) rfl) (v := .slice A ss.length cap) (by kernel_rfl) rfl), S0.sub sub_all sub_all⟩ ?_
  rintro mm ac wc ⟨i, hm16, hi, A14, S15⟩
  refine wp_seq ?_
  refine wp_region_lit ?_
  refine s_one (.bool (decide ((i : Int) < (ss.length : Int)))) A14 S15 (g_bin (u := .int .i64 (i : Int)) (k := .int .i64 (ss.length : Int)) (by kernel_rfl) (by kernel_rfl) (fun _ => by kernel_rfl) (fun _ => by kernel_rfl)) rfl (fun ac A17 => ?_)
  refine wpList_nil ?_
  refine n_then ?_
  refine wp_seq ?_
  refine c_ifb (b := (decide ((i : Int) < (ss.length : Int)))) A17 (by kernel_rfl) (fun h18 => ?_) (fun h18 => ?_)
  · have p19 := of_decide_eq_true h18
    refine wp_skip ?_
    refine n_then ?_
    refine wp_seq ?_
    refine wp_block ?_
    refine wp_seq ?_
    refine wp_region_lit ?_
    refine s_one (.int .i64 (i : Int)) A17 S15 (g_move (by kernel_rfl)) rfl (fun ac A20 => ?_)
    obtain ⟨ad21, B22, c23, he24, hs25⟩ := hr i (by omega)
    have hm26 := hs25.hm
    have hm27 := hs25.hn
    refine s_one (.pointer (some (ad21.add (i * 4)))) A20 S15 (g_index (u := .slice A ss.length cap) (k := .int .i64 (i : Int)) (by kernel_rfl) (by kernel_rfl) (ix_xsB (e := 59) (size := 4) (bytes := 56) i (by kernel_rfl) (by omega) (by omega) he24)) rfl (fun ac A28 => ?_)
    refine s_one (.agg #[.string ⟨((spK ss i).nm).toArray⟩, .int .i64 ((spK ss i).la), .int .i64 ((spK ss i).wa), .slice B22 ((spK ss i).ne.length) c23]) A28 S15 (g_loadXV (p := ad21.add (i * 4)) (X := spC (spK ss i) B22 c23) (by kernel_rfl) hs25.cell (by kernel_rfl) rfl) rfl (fun ac A29 => ?_)
    refine s_alloc (#[.string ⟨#[]⟩, .int .i64 0, .int .i64 0, .slice none 0 0]) A29 S15 (by kernel_rfl) rfl (fun g32 ac wc A30 S31 => ?_)
    refine s_one (.int .i64 (i : Int)) A30 S31 (g_assign (by kernel_rfl)) rfl (fun ac A33 => ?_)
    refine s_store (g := g32) (off := 0) (v := .agg #[.string ⟨((spK ss i).nm).toArray⟩, .int .i64 ((spK ss i).la), .int .i64 ((spK ss i).wa), .slice B22 ((spK ss i).ne.length) c23]) 0 (#[.string ⟨((spK ss i).nm).toArray⟩, .int .i64 ((spK ss i).la), .int .i64 ((spK ss i).wa), .slice B22 ((spK ss i).ne.length) c23]) A33 S31 (by kernel_rfl) (by kernel_rfl) rfl (by kernel_rfl) (fun wc S35 => ?_)
    refine wpList_nil ?_
    refine n_then ?_
    refine wp_seq ?_
    refine wp_block ?_
    refine wp_seq ?_
    refine wp_region_lit ?_
    refine s_one (.pointer (some ⟨g32, 0, none⟩)) A33 S35 (g_field (u := .pointer (some ⟨g32, 0, none⟩)) (by kernel_rfl) (fun _ => by kernel_rfl)) rfl (fun ac A37 => ?_)
    refine s_one (.string ⟨((spK ss i).nm).toArray⟩) A37 S35 (g_load (g := g32) (off := 0) 0 (by kernel_rfl) rfl (by kernel_rfl)) rfl (fun ac A38 => ?_)
    refine s_call (fs := #[]) (cp := #[]) (r := [(0, .string ⟨((spK ss i).nm).toArray⟩)]) #[.string ⟨((spK ss i).nm).toArray⟩] (.bool (nameB ((spK ss i).nm))) A38 S35 (isName_s ((spK ss i).nm) _ (by omega)) Try.call44 (by kernel_rfl) (by kernel_rfl) (by kernel_rfl) rfl (fun ac wc A39 S40 => ?_)
    refine s_one (.bool (!(nameB ((spK ss i).nm)))) A39 S40 (g_un (u := .bool (nameB ((spK ss i).nm))) (by kernel_rfl) (fun _ => by kernel_rfl)) rfl (fun ac A42 => ?_)
    refine s_one (.bool (!(nameB ((spK ss i).nm)))) A42 S40 (g_assign (by kernel_rfl)) rfl (fun ac A43 => ?_)
    refine wpList_nil ?_
    refine n_then ?_
    refine c_f (b := (!(nameB ((spK ss i).nm)))) A43 (by kernel_rfl) (b_nt (gs.names i (by omega))) ?_
    refine wp_seq ?_
    refine wp_region_lit ?_
    refine s_one (.slice A ss.length cap) A43 S40 (g_move (by kernel_rfl)) rfl (fun ac A44 => ?_)
    refine s_one (.int .i64 (i : Int)) A44 S40 (g_move (by kernel_rfl)) rfl (fun ac A45 => ?_)
    refine s_one (.slice A i cap) A45 S40 (g_slice (u := .slice A ss.length cap) (lo' := none) (hi' := (some (.int .i64 (i : Int)))) (mx' := none) (by kernel_rfl) (by kernel_rfl) (by kernel_rfl) (by kernel_rfl) (sl_hx (e := 59) (size := 4) (b := 56) (i := i) (by kernel_rfl) (by omega) (by omega))) rfl (fun ac A46 => ?_)
    refine s_one (.func (.func 46) #[] #[.pointer (some ⟨g32, 0, none⟩)]) A46 S40 (g_func (us := []) (vs := [(0, .pointer (some ⟨g32, 0, none⟩))]) (by kernel_rfl) (by kernel_rfl) (fun _ => by kernel_rfl)) rfl (fun ac A47 => ?_)
    refine s_call (fs := #[]) (cp := #[]) (r := [(0, .slice A i cap), (0, .func (.func 46) #[] #[.pointer (some ⟨g32, 0, none⟩)])]) #[.slice A i cap, .func (.func 46) #[] #[.pointer (some ⟨g32, 0, none⟩)]] (.bool false) A47 S40 (hasQ_s A i cap ss g32 ((spK ss i).nm) ((spK ss i).la) ((spK ss i).wa) (.slice B22 ((spK ss i).ne.length) c23) _ (hr.kept S40.kp) (by omega) (by omega) (S40.get 0 rfl) (fun j hj => gs.dist i j hj (by omega))) Try.call45 (by kernel_rfl) (by kernel_rfl) (by kernel_rfl) rfl (fun ac wc A48 S49 => ?_)
    refine s_one (.bool false) A48 S49 (g_assign (by kernel_rfl)) rfl (fun ac A51 => ?_)
    refine wpList_nil ?_
    refine n_then ?_
    refine c_f (b := false) A51 (by kernel_rfl) rfl ?_
    refine wp_seq ?_
    refine wp_region_lit ?_
    refine s_one (.pointer (some ⟨g32, 1, none⟩)) A51 S49 (g_field (u := .pointer (some ⟨g32, 0, none⟩)) (by kernel_rfl) (fun _ => by kernel_rfl)) rfl (fun ac A52 => ?_)
    refine s_one (.int .i64 ((spK ss i).la)) A52 S49 (g_load (g := g32) (off := 1) 0 (by kernel_rfl) rfl (by kernel_rfl)) rfl (fun ac A53 => ?_)
    refine s_call (fs := #[]) (cp := #[]) (r := [(0, .int .i64 ((spK ss i).la)), (0, .int .i64 1), (0, .int .i64 1000000)]) #[.int .i64 ((spK ss i).la), .int .i64 1, .int .i64 1000000] (.bool (inB ((spK ss i).la) 1 1000000)) A53 S49 (within_s ((spK ss i).la) 1 1000000 _) Try.call21 (by kernel_rfl) (by kernel_rfl) (by kernel_rfl) rfl (fun ac wc A54 S55 => ?_)
    refine s_one (.bool (!(inB ((spK ss i).la) 1 1000000))) A54 S55 (g_un (u := .bool (inB ((spK ss i).la) 1 1000000)) (by kernel_rfl) (fun _ => by kernel_rfl)) rfl (fun ac A57 => ?_)
    refine s_one (.bool (!(inB ((spK ss i).la) 1 1000000))) A57 S55 (g_move (by kernel_rfl)) rfl (fun ac A58 => ?_)
    refine s_want (dj := 41) (b := (!(inB ((spK ss i).la) 1 1000000))) A58 (by kernel_rfl) (by kernel_rfl) (b_nt (inB_true.2 (gs.lasts i (by omega)))) ?_
    refine s_one (.pointer (some ⟨g32, 2, none⟩)) A58 S55 (g_field (u := .pointer (some ⟨g32, 0, none⟩)) (by kernel_rfl) (fun _ => by kernel_rfl)) rfl (fun ac A59 => ?_)
    refine s_want (dj := 41) (b := (!(inB ((spK ss i).la) 1 1000000))) A59 (by kernel_rfl) (by kernel_rfl) (b_nt (inB_true.2 (gs.lasts i (by omega)))) ?_
    refine s_one (.int .i64 ((spK ss i).wa)) A59 S55 (g_load (g := g32) (off := 2) 0 (by kernel_rfl) rfl (by kernel_rfl)) rfl (fun ac A60 => ?_)
    refine s_want (dj := 41) (b := (!(inB ((spK ss i).la) 1 1000000))) A60 (by kernel_rfl) (by kernel_rfl) (b_nt (inB_true.2 (gs.lasts i (by omega)))) ?_
    refine s_call (fs := #[]) (cp := #[]) (r := [(0, .int .i64 ((spK ss i).wa)), (0, .int .i64 0), (0, .int .i64 2000)]) #[.int .i64 ((spK ss i).wa), .int .i64 0, .int .i64 2000] (.bool (inB ((spK ss i).wa) 0 2000)) A60 S55 (within_s ((spK ss i).wa) 0 2000 _) Try.call21 (by kernel_rfl) (by kernel_rfl) (by kernel_rfl) rfl (fun ac wc A61 S62 => ?_)
    refine s_want (dj := 41) (b := (!(inB ((spK ss i).la) 1 1000000))) A61 (by kernel_rfl) (by kernel_rfl) (b_nt (inB_true.2 (gs.lasts i (by omega)))) ?_
    refine s_one (.bool (!(inB ((spK ss i).wa) 0 2000))) A61 S62 (g_un (u := .bool (inB ((spK ss i).wa) 0 2000)) (by kernel_rfl) (fun _ => by kernel_rfl)) rfl (fun ac A64 => ?_)
    refine s_one (.bool (!(inB ((spK ss i).wa) 0 2000))) A64 S62 (g_pick_f (b := (!(inB ((spK ss i).la) 1 1000000))) (by kernel_rfl) (b_nt (inB_true.2 (gs.lasts i (by omega)))) (by kernel_rfl)) rfl (fun ac A65 => ?_)
    refine s_one (.bool (!(inB ((spK ss i).wa) 0 2000))) A65 S62 (g_assign (by kernel_rfl)) rfl (fun ac A66 => ?_)
    refine wpList_nil ?_
    refine n_then ?_
    refine c_f (b := (!(inB ((spK ss i).wa) 0 2000))) A66 (by kernel_rfl) (b_nt (inB_true.2 (gs.warm i (by omega)))) ?_
    refine wp_skip ?_
    refine n_block ?_
    refine n_then ?_
    refine wp_seq ?_
    refine wp_region_lit ?_
    refine s_one (.pointer (some ⟨g32, 3, none⟩)) A66 S62 (g_field (u := .pointer (some ⟨g32, 0, none⟩)) (by kernel_rfl) (fun _ => by kernel_rfl)) rfl (fun ac A67 => ?_)
    refine s_one (.slice B22 ((spK ss i).ne.length) c23) A67 S62 (g_load (g := g32) (off := 3) 0 (by kernel_rfl) rfl (by kernel_rfl)) rfl (fun ac A68 => ?_)
    refine s_one (.int .i64 ((spK ss i).ne.length : Int)) A68 S62 (g_built (r := [(0, .slice B22 ((spK ss i).ne.length) c23)]) (by kernel_rfl) (fun _ _ _ => by kernel_rfl)) rfl (fun ac A69 => ?_)
    refine s_one (.int .i64 0) A69 S62 (g_move (by kernel_rfl)) rfl (fun ac A70 => ?_)
    refine wpList_nil ?_
    refine n_then ?_
    refine wp_block ?_
    refine c_loopN (fun mm ac wc => ∃ (k : Nat), mm = (spK ss i).ne.length - k ∧ (k ≤ (spK ss i).ne.length) ∧ Fr 79 ac [(0, .slice A ss.length cap), (9, .slice A ss.length cap), (10, .int .i64 (ss.length : Int)), (11, .bool (decide ((ss.length : Int) = 0))), (8, .bool (decide ((ss.length : Int) = 0))), (13, .slice A ss.length cap), (14, .int .i64 (ss.length : Int)), (15, .bool (decide ((ss.length : Int) > 10))), (12, .bool (decide ((ss.length : Int) > 10))), (16, .slice A ss.length cap), (17, .int .i64 (ss.length : Int)), (18, .int .i64 (i : Int)), (19, .bool (decide ((i : Int) < (ss.length : Int)))), (20, .int .i64 (i : Int)), (21, .pointer (some (ad21.add (i * 4)))), (22, .agg #[.string ⟨((spK ss i).nm).toArray⟩, .int .i64 ((spK ss i).la), .int .i64 ((spK ss i).wa), .slice B22 ((spK ss i).ne.length) c23]), (5, .pointer (some ⟨g32, 0, none⟩)), (4, .int .i64 (i : Int)), (24, .pointer (some ⟨g32, 0, none⟩)), (25, .string ⟨((spK ss i).nm).toArray⟩), (26, .bool (nameB ((spK ss i).nm))), (27, .bool (!(nameB ((spK ss i).nm)))), (23, .bool (!(nameB ((spK ss i).nm)))), (30, .slice A ss.length cap), (31, .int .i64 (i : Int)), (32, .slice A i cap), (33, .func (.func 46) #[] #[.pointer (some ⟨g32, 0, none⟩)]), (34, .bool false), (29, .bool false), (37, .pointer (some ⟨g32, 1, none⟩)), (38, .int .i64 ((spK ss i).la)), (39, .bool (inB ((spK ss i).la) 1 1000000)), (40, .bool (!(inB ((spK ss i).la) 1 1000000))), (41, .bool (!(inB ((spK ss i).la) 1 1000000))), (42, .pointer (some ⟨g32, 2, none⟩)), (43, .int .i64 ((spK ss i).wa)), (44, .bool (inB ((spK ss i).wa) 0 2000)), (45, .bool (!(inB ((spK ss i).wa) 0 2000))), (46, .bool (!(inB ((spK ss i).wa) 0 2000))), (36, .bool (!(inB ((spK ss i).wa) 0 2000))), (48, .pointer (some ⟨g32, 3, none⟩)), (49, .slice B22 ((spK ss i).ne.length) c23), (50, .int .i64 ((spK ss i).ne.length : Int)), (51, .int .i64 (k : Int))] ∧ St w0 [⟨g32, 59, #[.string ⟨((spK ss i).nm).toArray⟩, .int .i64 ((spK ss i).la), .int .i64 ((spK ss i).wa), .slice B22 ((spK ss i).ne.length) c23], true⟩] [] wc) _ ⟨0, rfl, Nat.zero_le _, (A70.slot (A70.slot (A70.slot (A70.slot (A70.slot (A70.slot (A70.slot (A70.slot (A70.slot (A70.slot (A70.slot (A70.slot (A70.slot (A70.slot (A70.slot (A70.slot (A70.slot (A70.slot (A70.slot (A70.slot (A70.slot (A70.slot (A70.slot (A70.slot (A70.slot (A70.slot (A70.slot (A70.slot (A70.slot (A70.slot (A70.slot (A70.slot (A70.slot (A70.slot (A70.slot (A70.slot (A70.slot (A70.slot (A70.slot (A70.slot (A70.slot (A70.slot (A70.slot (A70.slot A70.nil (v := .int .i64 0) (by kernel_rfl) (congrArg (Value.int .i64) (by omega))) (v := .int .i64 ((spK ss i).ne.length : Int)) (by kernel_rfl) rfl) (v := .slice B22 ((spK ss i).ne.length) c23) (by kernel_rfl) rfl) (v := .pointer (some ⟨g32, 3, none⟩)) (by kernel_rfl) rfl) (v := .bool (!(inB ((spK ss i).wa) 0 2000))) (by kernel_rfl) rfl) (v := .bool (!(inB ((spK ss i).wa) 0 2000))) (by kernel_rfl) rfl) (v := .bool (!(inB ((spK ss i).wa) 0 2000))) (by kernel_rfl) rfl) (v := .bool (inB ((spK ss i).wa) 0 2000)) (by kernel_rfl) rfl) (v := .int .i64 ((spK ss i).wa)) (by kernel_rfl) rfl) (v := .pointer (some ⟨g32, 2, none⟩)) (by kernel_rfl) rfl) (v := .bool (!(inB ((spK ss i).la) 1 1000000))) (by kernel_rfl) rfl) (v := .bool (!(inB ((spK ss i).la) 1 1000000))) (by kernel_rfl) rfl) (v := .bool (inB ((spK ss i).la) 1 1000000)) (by kernel_rfl) rfl) (v := .int .i64 ((spK ss i).la)) (by kernel_rfl) rfl) (v := .pointer (some ⟨g32, 1, none⟩)) (by kernel_rfl) rfl) (v := .bool false) (by kernel_rfl) rfl) (v := .bool false) (by kernel_rfl) rfl) (v := .func (.func 46) #[] #[.pointer (some ⟨g32, 0, none⟩)]) (by kernel_rfl) rfl) (v := .slice A i cap) (by kernel_rfl) rfl) (v := .int .i64 (i : Int)) (by kernel_rfl) rfl) (v := .slice A ss.length cap) (by kernel_rfl) rfl) (v := .bool (!(nameB ((spK ss i).nm)))) (by kernel_rfl) rfl) (v := .bool (!(nameB ((spK ss i).nm)))) (by kernel_rfl) rfl) (v := .bool (nameB ((spK ss i).nm))) (by kernel_rfl) rfl) (v := .string ⟨((spK ss i).nm).toArray⟩) (by kernel_rfl) rfl) (v := .pointer (some ⟨g32, 0, none⟩)) (by kernel_rfl) rfl) (v := .int .i64 (i : Int)) (by kernel_rfl) rfl) (v := .pointer (some ⟨g32, 0, none⟩)) (by kernel_rfl) rfl) (v := .agg #[.string ⟨((spK ss i).nm).toArray⟩, .int .i64 ((spK ss i).la), .int .i64 ((spK ss i).wa), .slice B22 ((spK ss i).ne.length) c23]) (by kernel_rfl) rfl) (v := .pointer (some (ad21.add (i * 4)))) (by kernel_rfl) rfl) (v := .int .i64 (i : Int)) (by kernel_rfl) rfl) (v := .bool (decide ((i : Int) < (ss.length : Int)))) (by kernel_rfl) rfl) (v := .int .i64 (i : Int)) (by kernel_rfl) rfl) (v := .int .i64 (ss.length : Int)) (by kernel_rfl) rfl) (v := .slice A ss.length cap) (by kernel_rfl) rfl) (v := .bool (decide ((ss.length : Int) > 10))) (by kernel_rfl) rfl) (v := .bool (decide ((ss.length : Int) > 10))) (by kernel_rfl) rfl) (v := .int .i64 (ss.length : Int)) (by kernel_rfl) rfl) (v := .slice A ss.length cap) (by kernel_rfl) rfl) (v := .bool (decide ((ss.length : Int) = 0))) (by kernel_rfl) rfl) (v := .bool (decide ((ss.length : Int) = 0))) (by kernel_rfl) rfl) (v := .int .i64 (ss.length : Int)) (by kernel_rfl) rfl) (v := .slice A ss.length cap) (by kernel_rfl) rfl) (v := .slice A ss.length cap) (by kernel_rfl) rfl), S62.sub sub_all sub_all⟩ ?_
    rintro mm ac wc ⟨k, hm73, hk, A71, S72⟩
    refine wp_seq ?_
    refine wp_region_lit ?_
    refine s_one (.bool (decide ((k : Int) < ((spK ss i).ne.length : Int)))) A71 S72 (g_bin (u := .int .i64 (k : Int)) (k := .int .i64 ((spK ss i).ne.length : Int)) (by kernel_rfl) (by kernel_rfl) (fun _ => by kernel_rfl) (fun _ => by kernel_rfl)) rfl (fun ac A74 => ?_)
    refine wpList_nil ?_
    refine n_then ?_
    refine wp_seq ?_
    refine c_ifb (b := (decide ((k : Int) < ((spK ss i).ne.length : Int)))) A74 (by kernel_rfl) (fun h75 => ?_) (fun h75 => ?_)
    · have p76 := of_decide_eq_true h75
      refine wp_skip ?_
      refine n_then ?_
      refine wp_seq ?_
      refine wp_block ?_
      refine wp_seq ?_
      refine wp_region_lit ?_
      refine s_one (.int .i64 (k : Int)) A74 S72 (g_move (by kernel_rfl)) rfl (fun ac A77 => ?_)
      obtain ⟨ad78, rfl, _⟩ := hs25.rd (k) (by have hlen := (show (spK ss i).ne.length = (spK ss i).ne.length * 1 by omega); omega)
      refine s_one (.pointer (some (ad78.add k))) A77 S72 (g_index (u := .slice (some ad78) ((spK ss i).ne.length) c23) (k := .int .i64 (k : Int)) (by kernel_rfl) (by kernel_rfl) (ix_x (e := 3) (bytes := 8) k (by kernel_rfl) (by omega) (by omega))) rfl (fun ac A79 => ?_)
      refine s_one (.int .i64 (nthI ((spK ss i).ne) k)) A79 S72 (g_loadXI (l := (spK ss i).ne) (k := k) (by kernel_rfl) hs25.rd (by have hlen := (show (spK ss i).ne.length = (spK ss i).ne.length * 1 by omega); omega) (by kernel_rfl)) rfl (fun ac A80 => ?_)
      refine s_one (.int .i64 (k : Int)) A80 S72 (g_assign (by kernel_rfl)) rfl (fun ac A81 => ?_)
      refine s_one (.int .i64 (nthI ((spK ss i).ne) k)) A81 S72 (g_assign (by kernel_rfl)) rfl (fun ac A82 => ?_)
      refine wpList_nil ?_
      refine n_then ?_
      refine wp_block ?_
      refine wp_seq ?_
      refine wp_region_lit ?_
      refine s_one (.int .i64 (nthI ((spK ss i).ne) k)) A82 S72 (g_move (by kernel_rfl)) rfl (fun ac A83 => ?_)
      refine s_one (.int .i64 (i : Int)) A83 S72 (g_move (by kernel_rfl)) rfl (fun ac A84 => ?_)
      refine s_one (.int .i64 ((i : Int) - 1)) A84 S72 (g_bin (u := .int .i64 (i : Int)) (k := .int .i64 1) (by kernel_rfl) (by kernel_rfl) (fun _ => by kernel_rfl) (b_sub (by omega))) rfl (fun ac A85 => ?_)
      refine s_call (fs := #[]) (cp := #[]) (r := [(0, .int .i64 (nthI ((spK ss i).ne) k)), (0, .int .i64 0), (0, .int .i64 ((i : Int) - 1))]) #[.int .i64 (nthI ((spK ss i).ne) k), .int .i64 0, .int .i64 ((i : Int) - 1)] (.bool (inB (nthI ((spK ss i).ne) k) 0 ((i : Int) - 1))) A85 S72 (within_s (nthI ((spK ss i).ne) k) 0 ((i : Int) - 1) _) Try.call21 (by kernel_rfl) (by kernel_rfl) (by kernel_rfl) rfl (fun ac wc A86 S87 => ?_)
      refine s_one (.bool (!(inB (nthI ((spK ss i).ne) k) 0 ((i : Int) - 1)))) A86 S87 (g_un (u := .bool (inB (nthI ((spK ss i).ne) k) 0 ((i : Int) - 1))) (by kernel_rfl) (fun _ => by kernel_rfl)) rfl (fun ac A89 => ?_)
      refine s_one (.bool (!(inB (nthI ((spK ss i).ne) k) 0 ((i : Int) - 1)))) A89 S87 (g_assign (by kernel_rfl)) rfl (fun ac A90 => ?_)
      refine wpList_nil ?_
      refine n_then ?_
      refine c_f (b := (!(inB (nthI ((spK ss i).ne) k) 0 ((i : Int) - 1)))) A90 (by kernel_rfl) (b_nt (inB_true.2 (by have := gs.ahead i (by omega) _ (nthI_mem (show k < (spK ss i).ne.length by omega)); omega))) ?_
      refine wp_seq ?_
      refine c_cut (fun ac wc => Fr 79 ac [(63, .bool ((decide ((k : Int) > 0)) && (decide (nthI ((spK ss i).ne) k ≤ nthI ((spK ss i).ne) (k - 1))))), (0, .slice A ss.length cap), (9, .slice A ss.length cap), (10, .int .i64 (ss.length : Int)), (11, .bool (decide ((ss.length : Int) = 0))), (8, .bool (decide ((ss.length : Int) = 0))), (13, .slice A ss.length cap), (14, .int .i64 (ss.length : Int)), (15, .bool (decide ((ss.length : Int) > 10))), (12, .bool (decide ((ss.length : Int) > 10))), (16, .slice A ss.length cap), (17, .int .i64 (ss.length : Int)), (18, .int .i64 (i : Int)), (19, .bool (decide ((i : Int) < (ss.length : Int)))), (20, .int .i64 (i : Int)), (21, .pointer (some (ad21.add (i * 4)))), (22, .agg #[.string ⟨((spK ss i).nm).toArray⟩, .int .i64 ((spK ss i).la), .int .i64 ((spK ss i).wa), .slice (some ad78) ((spK ss i).ne.length) c23]), (5, .pointer (some ⟨g32, 0, none⟩)), (4, .int .i64 (i : Int)), (24, .pointer (some ⟨g32, 0, none⟩)), (25, .string ⟨((spK ss i).nm).toArray⟩), (26, .bool (nameB ((spK ss i).nm))), (27, .bool (!(nameB ((spK ss i).nm)))), (23, .bool (!(nameB ((spK ss i).nm)))), (30, .slice A ss.length cap), (31, .int .i64 (i : Int)), (32, .slice A i cap), (33, .func (.func 46) #[] #[.pointer (some ⟨g32, 0, none⟩)]), (34, .bool false), (29, .bool false), (37, .pointer (some ⟨g32, 1, none⟩)), (38, .int .i64 ((spK ss i).la)), (39, .bool (inB ((spK ss i).la) 1 1000000)), (40, .bool (!(inB ((spK ss i).la) 1 1000000))), (41, .bool (!(inB ((spK ss i).la) 1 1000000))), (42, .pointer (some ⟨g32, 2, none⟩)), (43, .int .i64 ((spK ss i).wa)), (44, .bool (inB ((spK ss i).wa) 0 2000)), (45, .bool (!(inB ((spK ss i).wa) 0 2000))), (46, .bool (!(inB ((spK ss i).wa) 0 2000))), (36, .bool (!(inB ((spK ss i).wa) 0 2000))), (48, .pointer (some ⟨g32, 3, none⟩)), (49, .slice (some ad78) ((spK ss i).ne.length) c23), (50, .int .i64 ((spK ss i).ne.length : Int)), (51, .int .i64 (k : Int)), (52, .bool (decide ((k : Int) < ((spK ss i).ne.length : Int)))), (53, .int .i64 (k : Int)), (54, .pointer (some (ad78.add k))), (55, .int .i64 (nthI ((spK ss i).ne) k)), (6, .int .i64 (k : Int)), (7, .int .i64 (nthI ((spK ss i).ne) k)), (57, .int .i64 (nthI ((spK ss i).ne) k)), (58, .int .i64 (i : Int)), (59, .int .i64 ((i : Int) - 1)), (60, .bool (inB (nthI ((spK ss i).ne) k) 0 ((i : Int) - 1))), (61, .bool (!(inB (nthI ((spK ss i).ne) k) 0 ((i : Int) - 1)))), (56, .bool (!(inB (nthI ((spK ss i).ne) k) 0 ((i : Int) - 1))))] ∧ St w0 [⟨g32, 59, #[.string ⟨((spK ss i).nm).toArray⟩, .int .i64 ((spK ss i).la), .int .i64 ((spK ss i).wa), .slice (some ad78) ((spK ss i).ne.length) c23], true⟩] [] wc) ?_ ?_
      · refine wp_region_lit ?_
        refine s_one (.int .i64 (k : Int)) A90 S87 (g_move (by kernel_rfl)) rfl (fun ac A91 => ?_)
        refine s_one (.bool (decide ((k : Int) > 0))) A91 S87 (g_bin (u := .int .i64 (k : Int)) (k := .int .i64 0) (by kernel_rfl) (by kernel_rfl) (fun _ => by kernel_rfl) (fun _ => by kernel_rfl)) rfl (fun ac A92 => ?_)
        refine s_one (.bool (decide ((k : Int) > 0))) A92 S87 (g_move (by kernel_rfl)) rfl (fun ac A93 => ?_)
        refine by_bool (decide ((k : Int) > 0)) (fun h94 => ?_) (fun h94 => ?_)
        · have p95 := of_decide_eq_true h94
          refine s_want (dj := 66) (b := (decide ((k : Int) > 0))) A93 (by kernel_rfl) (by kernel_rfl) h94 ?_
          refine s_one (.int .i64 (nthI ((spK ss i).ne) k)) A93 S87 (g_move (by kernel_rfl)) rfl (fun ac A96 => ?_)
          refine s_want (dj := 66) (b := (decide ((k : Int) > 0))) A96 (by kernel_rfl) (by kernel_rfl) h94 ?_
          refine s_one (.pointer (some ⟨g32, 3, none⟩)) A96 S87 (g_field (u := .pointer (some ⟨g32, 0, none⟩)) (by kernel_rfl) (fun _ => by kernel_rfl)) rfl (fun ac A97 => ?_)
          refine s_want (dj := 66) (b := (decide ((k : Int) > 0))) A97 (by kernel_rfl) (by kernel_rfl) h94 ?_
          refine s_one (.slice (some ad78) ((spK ss i).ne.length) c23) A97 S87 (g_load (g := g32) (off := 3) 0 (by kernel_rfl) rfl (by kernel_rfl)) rfl (fun ac A98 => ?_)
          refine s_want (dj := 66) (b := (decide ((k : Int) > 0))) A98 (by kernel_rfl) (by kernel_rfl) h94 ?_
          refine s_one (.int .i64 (k : Int)) A98 S87 (g_move (by kernel_rfl)) rfl (fun ac A99 => ?_)
          refine s_want (dj := 66) (b := (decide ((k : Int) > 0))) A99 (by kernel_rfl) (by kernel_rfl) h94 ?_
          refine s_one (.int .i64 ((k : Int) - 1)) A99 S87 (g_bin (u := .int .i64 (k : Int)) (k := .int .i64 1) (by kernel_rfl) (by kernel_rfl) (fun _ => by kernel_rfl) (b_sub (by omega))) rfl (fun ac A100 => ?_)
          refine s_want (dj := 66) (b := (decide ((k : Int) > 0))) A100 (by kernel_rfl) (by kernel_rfl) h94 ?_
          refine s_one (.pointer (some (ad78.add (k - 1)))) A100 S87 (g_index (u := .slice (some ad78) ((spK ss i).ne.length) c23) (k := .int .i64 ((k : Int) - 1)) (by kernel_rfl) (by kernel_rfl) (ix_x (e := 3) (bytes := 8) (k - 1) (by kernel_rfl) (by omega) (by omega))) rfl (fun ac A101 => ?_)
          refine s_want (dj := 66) (b := (decide ((k : Int) > 0))) A101 (by kernel_rfl) (by kernel_rfl) h94 ?_
          refine s_one (.int .i64 (nthI ((spK ss i).ne) (k - 1))) A101 S87 (g_loadXI (l := (spK ss i).ne) (k := k - 1) (by kernel_rfl) hs25.rd (by have hlen := (show (spK ss i).ne.length = (spK ss i).ne.length * 1 by omega); omega) (by kernel_rfl)) rfl (fun ac A102 => ?_)
          refine s_want (dj := 66) (b := (decide ((k : Int) > 0))) A102 (by kernel_rfl) (by kernel_rfl) h94 ?_
          refine s_one (.bool (decide (nthI ((spK ss i).ne) k ≤ nthI ((spK ss i).ne) (k - 1)))) A102 S87 (g_bin (u := .int .i64 (nthI ((spK ss i).ne) k)) (k := .int .i64 (nthI ((spK ss i).ne) (k - 1))) (by kernel_rfl) (by kernel_rfl) (fun _ => by kernel_rfl) (fun _ => by kernel_rfl)) rfl (fun ac A103 => ?_)
          refine s_one (.bool (decide (nthI ((spK ss i).ne) k ≤ nthI ((spK ss i).ne) (k - 1)))) A103 S87 (g_pick_t (b := (decide ((k : Int) > 0))) (by kernel_rfl) h94 (by kernel_rfl)) rfl (fun ac A104 => ?_)
          refine s_one (.bool (decide (nthI ((spK ss i).ne) k ≤ nthI ((spK ss i).ne) (k - 1)))) A104 S87 (g_assign (by kernel_rfl)) rfl (fun ac A105 => ?_)
          refine wpList_nil ?_
          refine n_then ?_
          exact ⟨(A105.slot (A105.slot (A105.slot (A105.slot (A105.slot (A105.slot (A105.slot (A105.slot (A105.slot (A105.slot (A105.slot (A105.slot (A105.slot (A105.slot (A105.slot (A105.slot (A105.slot (A105.slot (A105.slot (A105.slot (A105.slot (A105.slot (A105.slot (A105.slot (A105.slot (A105.slot (A105.slot (A105.slot (A105.slot (A105.slot (A105.slot (A105.slot (A105.slot (A105.slot (A105.slot (A105.slot (A105.slot (A105.slot (A105.slot (A105.slot (A105.slot (A105.slot (A105.slot (A105.slot (A105.slot (A105.slot (A105.slot (A105.slot (A105.slot (A105.slot (A105.slot (A105.slot (A105.slot (A105.slot (A105.slot (A105.slot (A105.slot A105.nil (v := .bool (!(inB (nthI ((spK ss i).ne) k) 0 ((i : Int) - 1)))) (by kernel_rfl) rfl) (v := .bool (!(inB (nthI ((spK ss i).ne) k) 0 ((i : Int) - 1)))) (by kernel_rfl) rfl) (v := .bool (inB (nthI ((spK ss i).ne) k) 0 ((i : Int) - 1))) (by kernel_rfl) rfl) (v := .int .i64 ((i : Int) - 1)) (by kernel_rfl) rfl) (v := .int .i64 (i : Int)) (by kernel_rfl) rfl) (v := .int .i64 (nthI ((spK ss i).ne) k)) (by kernel_rfl) rfl) (v := .int .i64 (nthI ((spK ss i).ne) k)) (by kernel_rfl) rfl) (v := .int .i64 (k : Int)) (by kernel_rfl) rfl) (v := .int .i64 (nthI ((spK ss i).ne) k)) (by kernel_rfl) rfl) (v := .pointer (some (ad78.add k))) (by kernel_rfl) rfl) (v := .int .i64 (k : Int)) (by kernel_rfl) rfl) (v := .bool (decide ((k : Int) < ((spK ss i).ne.length : Int)))) (by kernel_rfl) rfl) (v := .int .i64 (k : Int)) (by kernel_rfl) rfl) (v := .int .i64 ((spK ss i).ne.length : Int)) (by kernel_rfl) rfl) (v := .slice (some ad78) ((spK ss i).ne.length) c23) (by kernel_rfl) rfl) (v := .pointer (some ⟨g32, 3, none⟩)) (by kernel_rfl) rfl) (v := .bool (!(inB ((spK ss i).wa) 0 2000))) (by kernel_rfl) rfl) (v := .bool (!(inB ((spK ss i).wa) 0 2000))) (by kernel_rfl) rfl) (v := .bool (!(inB ((spK ss i).wa) 0 2000))) (by kernel_rfl) rfl) (v := .bool (inB ((spK ss i).wa) 0 2000)) (by kernel_rfl) rfl) (v := .int .i64 ((spK ss i).wa)) (by kernel_rfl) rfl) (v := .pointer (some ⟨g32, 2, none⟩)) (by kernel_rfl) rfl) (v := .bool (!(inB ((spK ss i).la) 1 1000000))) (by kernel_rfl) rfl) (v := .bool (!(inB ((spK ss i).la) 1 1000000))) (by kernel_rfl) rfl) (v := .bool (inB ((spK ss i).la) 1 1000000)) (by kernel_rfl) rfl) (v := .int .i64 ((spK ss i).la)) (by kernel_rfl) rfl) (v := .pointer (some ⟨g32, 1, none⟩)) (by kernel_rfl) rfl) (v := .bool false) (by kernel_rfl) rfl) (v := .bool false) (by kernel_rfl) rfl) (v := .func (.func 46) #[] #[.pointer (some ⟨g32, 0, none⟩)]) (by kernel_rfl) rfl) (v := .slice A i cap) (by kernel_rfl) rfl) (v := .int .i64 (i : Int)) (by kernel_rfl) rfl) (v := .slice A ss.length cap) (by kernel_rfl) rfl) (v := .bool (!(nameB ((spK ss i).nm)))) (by kernel_rfl) rfl) (v := .bool (!(nameB ((spK ss i).nm)))) (by kernel_rfl) rfl) (v := .bool (nameB ((spK ss i).nm))) (by kernel_rfl) rfl) (v := .string ⟨((spK ss i).nm).toArray⟩) (by kernel_rfl) rfl) (v := .pointer (some ⟨g32, 0, none⟩)) (by kernel_rfl) rfl) (v := .int .i64 (i : Int)) (by kernel_rfl) rfl) (v := .pointer (some ⟨g32, 0, none⟩)) (by kernel_rfl) rfl) (v := .agg #[.string ⟨((spK ss i).nm).toArray⟩, .int .i64 ((spK ss i).la), .int .i64 ((spK ss i).wa), .slice (some ad78) ((spK ss i).ne.length) c23]) (by kernel_rfl) rfl) (v := .pointer (some (ad21.add (i * 4)))) (by kernel_rfl) rfl) (v := .int .i64 (i : Int)) (by kernel_rfl) rfl) (v := .bool (decide ((i : Int) < (ss.length : Int)))) (by kernel_rfl) rfl) (v := .int .i64 (i : Int)) (by kernel_rfl) rfl) (v := .int .i64 (ss.length : Int)) (by kernel_rfl) rfl) (v := .slice A ss.length cap) (by kernel_rfl) rfl) (v := .bool (decide ((ss.length : Int) > 10))) (by kernel_rfl) rfl) (v := .bool (decide ((ss.length : Int) > 10))) (by kernel_rfl) rfl) (v := .int .i64 (ss.length : Int)) (by kernel_rfl) rfl) (v := .slice A ss.length cap) (by kernel_rfl) rfl) (v := .bool (decide ((ss.length : Int) = 0))) (by kernel_rfl) rfl) (v := .bool (decide ((ss.length : Int) = 0))) (by kernel_rfl) rfl) (v := .int .i64 (ss.length : Int)) (by kernel_rfl) rfl) (v := .slice A ss.length cap) (by kernel_rfl) rfl) (v := .slice A ss.length cap) (by kernel_rfl) rfl) (v := .bool (decide (nthI ((spK ss i).ne) k ≤ nthI ((spK ss i).ne) (k - 1)))) (by kernel_rfl) (congrArg Value.bool (b_and_t h94 (Eq.refl (decide (nthI ((spK ss i).ne) k ≤ nthI ((spK ss i).ne) (k - 1))))).symm)), S87.sub sub_all sub_all⟩
        · have p106 := of_decide_eq_false h94
          refine s_not (dj := 66) (b := (decide ((k : Int) > 0))) A93 (by kernel_rfl) (by kernel_rfl) h94 rfl (fun ac A107 => ?_)
          refine s_not (dj := 66) (b := (decide ((k : Int) > 0))) A107 (by kernel_rfl) (by kernel_rfl) h94 rfl (fun ac A108 => ?_)
          refine s_not (dj := 66) (b := (decide ((k : Int) > 0))) A108 (by kernel_rfl) (by kernel_rfl) h94 rfl (fun ac A109 => ?_)
          refine s_not (dj := 66) (b := (decide ((k : Int) > 0))) A109 (by kernel_rfl) (by kernel_rfl) h94 rfl (fun ac A110 => ?_)
          refine s_not (dj := 66) (b := (decide ((k : Int) > 0))) A110 (by kernel_rfl) (by kernel_rfl) h94 rfl (fun ac A111 => ?_)
          refine s_not (dj := 66) (b := (decide ((k : Int) > 0))) A111 (by kernel_rfl) (by kernel_rfl) h94 rfl (fun ac A112 => ?_)
          refine s_not (dj := 66) (b := (decide ((k : Int) > 0))) A112 (by kernel_rfl) (by kernel_rfl) h94 rfl (fun ac A113 => ?_)
          refine s_not (dj := 66) (b := (decide ((k : Int) > 0))) A113 (by kernel_rfl) (by kernel_rfl) h94 rfl (fun ac A114 => ?_)
          refine s_one (.bool false) A114 S87 (g_pick_f (b := (decide ((k : Int) > 0))) (by kernel_rfl) h94 (by kernel_rfl)) rfl (fun ac A115 => ?_)
          refine s_one (.bool false) A115 S87 (g_assign (by kernel_rfl)) rfl (fun ac A116 => ?_)
          refine wpList_nil ?_
          refine n_then ?_
          exact ⟨(A116.slot (A116.slot (A116.slot (A116.slot (A116.slot (A116.slot (A116.slot (A116.slot (A116.slot (A116.slot (A116.slot (A116.slot (A116.slot (A116.slot (A116.slot (A116.slot (A116.slot (A116.slot (A116.slot (A116.slot (A116.slot (A116.slot (A116.slot (A116.slot (A116.slot (A116.slot (A116.slot (A116.slot (A116.slot (A116.slot (A116.slot (A116.slot (A116.slot (A116.slot (A116.slot (A116.slot (A116.slot (A116.slot (A116.slot (A116.slot (A116.slot (A116.slot (A116.slot (A116.slot (A116.slot (A116.slot (A116.slot (A116.slot (A116.slot (A116.slot (A116.slot (A116.slot (A116.slot (A116.slot (A116.slot (A116.slot (A116.slot A116.nil (v := .bool (!(inB (nthI ((spK ss i).ne) k) 0 ((i : Int) - 1)))) (by kernel_rfl) rfl) (v := .bool (!(inB (nthI ((spK ss i).ne) k) 0 ((i : Int) - 1)))) (by kernel_rfl) rfl) (v := .bool (inB (nthI ((spK ss i).ne) k) 0 ((i : Int) - 1))) (by kernel_rfl) rfl) (v := .int .i64 ((i : Int) - 1)) (by kernel_rfl) rfl) (v := .int .i64 (i : Int)) (by kernel_rfl) rfl) (v := .int .i64 (nthI ((spK ss i).ne) k)) (by kernel_rfl) rfl) (v := .int .i64 (nthI ((spK ss i).ne) k)) (by kernel_rfl) rfl) (v := .int .i64 (k : Int)) (by kernel_rfl) rfl) (v := .int .i64 (nthI ((spK ss i).ne) k)) (by kernel_rfl) rfl) (v := .pointer (some (ad78.add k))) (by kernel_rfl) rfl) (v := .int .i64 (k : Int)) (by kernel_rfl) rfl) (v := .bool (decide ((k : Int) < ((spK ss i).ne.length : Int)))) (by kernel_rfl) rfl) (v := .int .i64 (k : Int)) (by kernel_rfl) rfl) (v := .int .i64 ((spK ss i).ne.length : Int)) (by kernel_rfl) rfl) (v := .slice (some ad78) ((spK ss i).ne.length) c23) (by kernel_rfl) rfl) (v := .pointer (some ⟨g32, 3, none⟩)) (by kernel_rfl) rfl) (v := .bool (!(inB ((spK ss i).wa) 0 2000))) (by kernel_rfl) rfl) (v := .bool (!(inB ((spK ss i).wa) 0 2000))) (by kernel_rfl) rfl) (v := .bool (!(inB ((spK ss i).wa) 0 2000))) (by kernel_rfl) rfl) (v := .bool (inB ((spK ss i).wa) 0 2000)) (by kernel_rfl) rfl) (v := .int .i64 ((spK ss i).wa)) (by kernel_rfl) rfl) (v := .pointer (some ⟨g32, 2, none⟩)) (by kernel_rfl) rfl) (v := .bool (!(inB ((spK ss i).la) 1 1000000))) (by kernel_rfl) rfl) (v := .bool (!(inB ((spK ss i).la) 1 1000000))) (by kernel_rfl) rfl) (v := .bool (inB ((spK ss i).la) 1 1000000)) (by kernel_rfl) rfl) (v := .int .i64 ((spK ss i).la)) (by kernel_rfl) rfl) (v := .pointer (some ⟨g32, 1, none⟩)) (by kernel_rfl) rfl) (v := .bool false) (by kernel_rfl) rfl) (v := .bool false) (by kernel_rfl) rfl) (v := .func (.func 46) #[] #[.pointer (some ⟨g32, 0, none⟩)]) (by kernel_rfl) rfl) (v := .slice A i cap) (by kernel_rfl) rfl) (v := .int .i64 (i : Int)) (by kernel_rfl) rfl) (v := .slice A ss.length cap) (by kernel_rfl) rfl) (v := .bool (!(nameB ((spK ss i).nm)))) (by kernel_rfl) rfl) (v := .bool (!(nameB ((spK ss i).nm)))) (by kernel_rfl) rfl) (v := .bool (nameB ((spK ss i).nm))) (by kernel_rfl) rfl) (v := .string ⟨((spK ss i).nm).toArray⟩) (by kernel_rfl) rfl) (v := .pointer (some ⟨g32, 0, none⟩)) (by kernel_rfl) rfl) (v := .int .i64 (i : Int)) (by kernel_rfl) rfl) (v := .pointer (some ⟨g32, 0, none⟩)) (by kernel_rfl) rfl) (v := .agg #[.string ⟨((spK ss i).nm).toArray⟩, .int .i64 ((spK ss i).la), .int .i64 ((spK ss i).wa), .slice (some ad78) ((spK ss i).ne.length) c23]) (by kernel_rfl) rfl) (v := .pointer (some (ad21.add (i * 4)))) (by kernel_rfl) rfl) (v := .int .i64 (i : Int)) (by kernel_rfl) rfl) (v := .bool (decide ((i : Int) < (ss.length : Int)))) (by kernel_rfl) rfl) (v := .int .i64 (i : Int)) (by kernel_rfl) rfl) (v := .int .i64 (ss.length : Int)) (by kernel_rfl) rfl) (v := .slice A ss.length cap) (by kernel_rfl) rfl) (v := .bool (decide ((ss.length : Int) > 10))) (by kernel_rfl) rfl) (v := .bool (decide ((ss.length : Int) > 10))) (by kernel_rfl) rfl) (v := .int .i64 (ss.length : Int)) (by kernel_rfl) rfl) (v := .slice A ss.length cap) (by kernel_rfl) rfl) (v := .bool (decide ((ss.length : Int) = 0))) (by kernel_rfl) rfl) (v := .bool (decide ((ss.length : Int) = 0))) (by kernel_rfl) rfl) (v := .int .i64 (ss.length : Int)) (by kernel_rfl) rfl) (v := .slice A ss.length cap) (by kernel_rfl) rfl) (v := .slice A ss.length cap) (by kernel_rfl) rfl) (v := .bool false) (by kernel_rfl) (congrArg Value.bool (incr_f (gs.incr i (by omega)) (by omega)).symm)), S87.sub sub_all sub_all⟩
      · rintro ac wc ⟨A117, S118⟩
        refine n_then ?_
        refine c_f (b := ((decide ((k : Int) > 0)) && (decide (nthI ((spK ss i).ne) k ≤ nthI ((spK ss i).ne) (k - 1))))) A117 (by kernel_rfl) (incr_f (gs.incr i (by omega)) (by omega)) ?_
        refine wp_skip ?_
        refine n_block ?_
        refine n_block ?_
        refine n_then ?_
        refine wp_region_lit ?_
        refine s_one (.int .i64 ((k : Int) + 1)) A117 S118 (g_bin (u := .int .i64 (k : Int)) (k := .int .i64 1) (by kernel_rfl) (by kernel_rfl) (fun _ => by kernel_rfl) (b_add (by omega))) rfl (fun ac A119 => ?_)
        refine s_one (.int .i64 ((k : Int) + 1)) A119 S118 (g_move (by kernel_rfl)) rfl (fun ac A120 => ?_)
        refine wpList_nil ?_
        refine n_then ?_
        refine ⟨_, ⟨k + 1, rfl, by omega, (A120.slot (A120.slot (A120.slot (A120.slot (A120.slot (A120.slot (A120.slot (A120.slot (A120.slot (A120.slot (A120.slot (A120.slot (A120.slot (A120.slot (A120.slot (A120.slot (A120.slot (A120.slot (A120.slot (A120.slot (A120.slot (A120.slot (A120.slot (A120.slot (A120.slot (A120.slot (A120.slot (A120.slot (A120.slot (A120.slot (A120.slot (A120.slot (A120.slot (A120.slot (A120.slot (A120.slot (A120.slot (A120.slot (A120.slot (A120.slot (A120.slot (A120.slot (A120.slot (A120.slot A120.nil (v := .int .i64 ((k : Int) + 1)) (by kernel_rfl) (congrArg (Value.int .i64) (by omega))) (v := .int .i64 ((spK ss i).ne.length : Int)) (by kernel_rfl) rfl) (v := .slice (some ad78) ((spK ss i).ne.length) c23) (by kernel_rfl) (by first | rfl | simp)) (v := .pointer (some ⟨g32, 3, none⟩)) (by kernel_rfl) rfl) (v := .bool (!(inB ((spK ss i).wa) 0 2000))) (by kernel_rfl) rfl) (v := .bool (!(inB ((spK ss i).wa) 0 2000))) (by kernel_rfl) rfl) (v := .bool (!(inB ((spK ss i).wa) 0 2000))) (by kernel_rfl) rfl) (v := .bool (inB ((spK ss i).wa) 0 2000)) (by kernel_rfl) rfl) (v := .int .i64 ((spK ss i).wa)) (by kernel_rfl) rfl) (v := .pointer (some ⟨g32, 2, none⟩)) (by kernel_rfl) rfl) (v := .bool (!(inB ((spK ss i).la) 1 1000000))) (by kernel_rfl) rfl) (v := .bool (!(inB ((spK ss i).la) 1 1000000))) (by kernel_rfl) rfl) (v := .bool (inB ((spK ss i).la) 1 1000000)) (by kernel_rfl) rfl) (v := .int .i64 ((spK ss i).la)) (by kernel_rfl) rfl) (v := .pointer (some ⟨g32, 1, none⟩)) (by kernel_rfl) rfl) (v := .bool false) (by kernel_rfl) rfl) (v := .bool false) (by kernel_rfl) rfl) (v := .func (.func 46) #[] #[.pointer (some ⟨g32, 0, none⟩)]) (by kernel_rfl) rfl) (v := .slice A i cap) (by kernel_rfl) rfl) (v := .int .i64 (i : Int)) (by kernel_rfl) rfl) (v := .slice A ss.length cap) (by kernel_rfl) rfl) (v := .bool (!(nameB ((spK ss i).nm)))) (by kernel_rfl) rfl) (v := .bool (!(nameB ((spK ss i).nm)))) (by kernel_rfl) rfl) (v := .bool (nameB ((spK ss i).nm))) (by kernel_rfl) rfl) (v := .string ⟨((spK ss i).nm).toArray⟩) (by kernel_rfl) rfl) (v := .pointer (some ⟨g32, 0, none⟩)) (by kernel_rfl) rfl) (v := .int .i64 (i : Int)) (by kernel_rfl) rfl) (v := .pointer (some ⟨g32, 0, none⟩)) (by kernel_rfl) rfl) (v := .agg #[.string ⟨((spK ss i).nm).toArray⟩, .int .i64 ((spK ss i).la), .int .i64 ((spK ss i).wa), .slice (some ad78) ((spK ss i).ne.length) c23]) (by kernel_rfl) (by first | rfl | simp)) (v := .pointer (some (ad21.add (i * 4)))) (by kernel_rfl) rfl) (v := .int .i64 (i : Int)) (by kernel_rfl) rfl) (v := .bool (decide ((i : Int) < (ss.length : Int)))) (by kernel_rfl) rfl) (v := .int .i64 (i : Int)) (by kernel_rfl) rfl) (v := .int .i64 (ss.length : Int)) (by kernel_rfl) rfl) (v := .slice A ss.length cap) (by kernel_rfl) rfl) (v := .bool (decide ((ss.length : Int) > 10))) (by kernel_rfl) rfl) (v := .bool (decide ((ss.length : Int) > 10))) (by kernel_rfl) rfl) (v := .int .i64 (ss.length : Int)) (by kernel_rfl) rfl) (v := .slice A ss.length cap) (by kernel_rfl) rfl) (v := .bool (decide ((ss.length : Int) = 0))) (by kernel_rfl) rfl) (v := .bool (decide ((ss.length : Int) = 0))) (by kernel_rfl) rfl) (v := .int .i64 (ss.length : Int)) (by kernel_rfl) rfl) (v := .slice A ss.length cap) (by kernel_rfl) rfl) (v := .slice A ss.length cap) (by kernel_rfl) rfl), (St.recell 0 S118 rfl (by rfl)).sub sub_all sub_all⟩, ?_⟩
        omega
    · have p121 := of_decide_eq_false h75
      refine wp_exit ?_
      refine x_then ?_
      refine x_then ?_
      refine x_hit ?_
      refine n_block ?_
      refine n_then ?_
      refine wp_region_lit ?_
      refine s_one (.int .i64 ((i : Int) + 1)) A74 S72 (g_bin (u := .int .i64 (i : Int)) (k := .int .i64 1) (by kernel_rfl) (by kernel_rfl) (fun _ => by kernel_rfl) (b_add (by omega))) rfl (fun ac A122 => ?_)
      refine s_one (.int .i64 ((i : Int) + 1)) A122 S72 (g_move (by kernel_rfl)) rfl (fun ac A123 => ?_)
      refine wpList_nil ?_
      refine n_then ?_
      refine ⟨_, ⟨i + 1, rfl, by omega, (A123.slot (A123.slot (A123.slot (A123.slot (A123.slot (A123.slot (A123.slot (A123.slot (A123.slot (A123.slot (A123.slot (A123.slot A123.nil (v := .int .i64 ((i : Int) + 1)) (by kernel_rfl) (congrArg (Value.int .i64) (by omega))) (v := .int .i64 (ss.length : Int)) (by kernel_rfl) rfl) (v := .slice A ss.length cap) (by kernel_rfl) rfl) (v := .bool (decide ((ss.length : Int) > 10))) (by kernel_rfl) rfl) (v := .bool (decide ((ss.length : Int) > 10))) (by kernel_rfl) rfl) (v := .int .i64 (ss.length : Int)) (by kernel_rfl) rfl) (v := .slice A ss.length cap) (by kernel_rfl) rfl) (v := .bool (decide ((ss.length : Int) = 0))) (by kernel_rfl) rfl) (v := .bool (decide ((ss.length : Int) = 0))) (by kernel_rfl) rfl) (v := .int .i64 (ss.length : Int)) (by kernel_rfl) rfl) (v := .slice A ss.length cap) (by kernel_rfl) rfl) (v := .slice A ss.length cap) (by kernel_rfl) rfl), S72.sub sub_nil sub_all⟩, ?_⟩
      omega
  · have p124 := of_decide_eq_false h18
    refine wp_exit ?_
    refine x_then ?_
    refine x_then ?_
    refine x_hit ?_
    refine n_then ?_
    refine wp_seq ?_
    refine wp_region_lit ?_
    refine s_one (.int .i64 0) A17 S15 (g_assign (by kernel_rfl)) rfl (fun ac A125 => ?_)
    refine s_one (.int .i64 0) A125 S15 (g_assign (by kernel_rfl)) rfl (fun ac A126 => ?_)
    refine wpList_nil ?_
    refine n_then ?_
    refine wp_ret ?_
    refine fin2 (.int .i64 0) (.int .i64 0) Try.results30 A126 S15 (rv_tmp (by kernel_rfl)) (rv_tmp (by kernel_rfl)) ⟨?_, S15.kp⟩
    rfl

end Go.Proofs.Ytnbimpkihpaldaa
