/- Elements of matrices: the reference. -/
import Derived.Test.YtcijkniijomcjaaMx12
namespace Go.Proofs.Ytcijkniijomcjaa
open Go.RowKit Go.Cpl

theorem pair_words {xs : List Nat} {n f r : Nat} (h : (f * n + r) * 64 + 64 ≤ xs.length) : mkT (nums (cutF xs (toI (n : Int) (f : Int) (r : Int)) 64)) 64 = fw (cutN (mi xs) ((f * n + r) * 64) 64) := by
  rw [toI_nat, nums_cut h, mkT_fw (cutN_length _ _ _)]

set_option maxRecDepth 100000 in
set_option maxHeartbeats 400000 in
theorem most_s (ys : List Nat) (w0 : World) (hy : ys.length = 64) (hRy : Right ys) :
    Calls Try.prog 88 #[.agg (trc ys)] w0 fun e w' => e = .returned (.int .i64 (gr (nums ys) 0 64)) ∧ Below w0.heap.size w0 w' := by
  have S0 := St.start w0
  have HB := nums_range hy hRy
  refine enter (n := 22) Try.func88 rfl rfl rfl (fun ac A0 => ?_)
  refine wp_seq ?_
  refine wp_region_lit ?_
  refine s_box (.agg (trc ys)) A0 S0 (by kernel_rfl) rfl (fun g3 ac wc A1 S2 => ?_)
  replace S2 : St _ (⟨g3, 38, (trc ys), true⟩ :: _) _ _ := S2
  refine s_one (.int .i64 0) A1 S2 (g_assign (by kernel_rfl)) rfl (fun ac A5 => ?_)
  refine wpList_nil ?_
  refine n_then ?_
  refine wp_seq ?_
  refine wp_region_lit ?_
  refine s_one (.int .i64 0) A5 S2 (g_assign (by kernel_rfl)) rfl (fun ac A6 => ?_)
  refine wpList_nil ?_
  refine n_then ?_
  refine wp_seq ?_
  refine wp_region_lit ?_
  refine s_one (.agg (trc ys)) A6 S2 (g_loadW (g := g3) 0 (by kernel_rfl) rfl ((trc_size _).trans hy) ⟨⟨_, Try.underlying38, rfl⟩, by kernel_rfl⟩) rfl (fun ac A7 => ?_)
  refine s_callR (fs := #[]) (cp := #[]) (r := [(0, .agg (trc ys))]) #[.agg (trc ys)] A7 S2 (Ints_s ys _ hy hRy) Try.call90 (by kernel_rfl) (by kernel_rfl) (by kernel_rfl) rfl (fun v11 ac wc A8 S9 => ?_)
  obtain ⟨g12, cap13, cur14, rfl, hc15, hs16, ht17, S18⟩ := S9.openRow (by omega)
  refine s_one (.slice (some ⟨g12, 0, none⟩) 64 cap13) A8 S18 (g_assign (by kernel_rfl)) rfl (fun ac A19 => ?_)
  refine wpList_nil ?_
  refine n_then ?_
  refine wp_seq ?_
  refine wp_seq ?_
  refine wp_region_lit ?_
  refine s_one (.int .i64 0) A19 S18 (g_assign (by kernel_rfl)) rfl (fun ac A20 => ?_)
  refine wpList_nil ?_
  refine n_then ?_
  refine wp_block ?_
  refine c_loopN (fun mm ac wc => ∃ (k : Nat), mm = 64 - k ∧ (k ≤ 64) ∧ Fr 22 ac [(0, .agg (trc ys)), (1, .pointer (some ⟨g3, 0, none⟩)), (2, .int .i64 0), (6, .agg (trc ys)), (7, .slice (some ⟨g12, 0, none⟩) 64 cap13), (4, .slice (some ⟨g12, 0, none⟩) 64 cap13), (5, .int .i64 (k : Int)), (3, .int .i64 (gr (nums ys) 0 k))] ∧ St w0 [⟨g12, 3, cur14, true⟩, ⟨g3, 38, (trc ys), true⟩] [] wc) _ ⟨0, rfl, by omega, (A20.slot (A20.slot (A20.slot (A20.slot (A20.slot (A20.slot (A20.slot (A20.slot A20.nil (v := .int .i64 0) (by kernel_rfl) rfl) (v := .int .i64 0) (by kernel_rfl) (congrArg (Value.int .i64) (by omega))) (v := .slice (some ⟨g12, 0, none⟩) 64 cap13) (by kernel_rfl) rfl) (v := .slice (some ⟨g12, 0, none⟩) 64 cap13) (by kernel_rfl) rfl) (v := .agg (trc ys)) (by kernel_rfl) rfl) (v := .int .i64 0) (by kernel_rfl) rfl) (v := .pointer (some ⟨g3, 0, none⟩)) (by kernel_rfl) rfl) (v := .agg (trc ys)) (by kernel_rfl) rfl), S18.sub sub_all sub_all⟩ ?_
  rintro mm ac wc ⟨k, hm23, hk, A21, S22⟩
  have hb := HB k
  refine wp_seq ?_
  refine wp_seq ?_
  refine wp_region_lit ?_
  refine s_one (.int .i64 (k : Int)) A21 S22 (g_move (by kernel_rfl)) rfl (fun ac A24 => ?_)
  refine s_one (.slice (some ⟨g12, 0, none⟩) 64 cap13) A24 S22 (g_move (by kernel_rfl)) rfl (fun ac A25 => ?_)
  refine s_one (.int .i64 64) A25 S22 (g_built (r := [(0, .slice (some ⟨g12, 0, none⟩) 64 cap13)]) (by kernel_rfl) (fun _ _ _ => by kernel_rfl)) rfl (fun ac A26 => ?_)
  refine s_one (.bool (decide ((k : Int) < 64))) A26 S22 (g_bin (u := .int .i64 (k : Int)) (k := .int .i64 64) (by kernel_rfl) (by kernel_rfl) (fun _ => by kernel_rfl) (fun _ => by kernel_rfl)) rfl (fun ac A27 => ?_)
  refine wpList_nil ?_
  refine n_then ?_
  refine c_ifb (b := (decide ((k : Int) < 64))) A27 (by kernel_rfl) (fun h28 => ?_) (fun h28 => ?_)
  · have p29 := of_decide_eq_true h28
    refine wp_skip ?_
    refine n_then ?_
    refine wp_seq ?_
    refine wp_block ?_
    refine wp_region_lit ?_
    refine s_one (.int .i64 (gr (nums ys) 0 k)) A27 S22 (g_move (by kernel_rfl)) rfl (fun ac A30 => ?_)
    refine s_one (.slice (some ⟨g12, 0, none⟩) 64 cap13) A30 S22 (g_move (by kernel_rfl)) rfl (fun ac A31 => ?_)
    refine s_one (.int .i64 (k : Int)) A31 S22 (g_move (by kernel_rfl)) rfl (fun ac A32 => ?_)
    refine s_one (.pointer (some ⟨g12, k, none⟩)) A32 S22 (g_index (u := .slice (some ⟨g12, 0, none⟩) 64 cap13) (k := .int .i64 (k : Int)) (by kernel_rfl) (by kernel_rfl) (ix_sl1 (e := 3) (bytes := 8) k (by kernel_rfl) (by omega) (by omega))) rfl (fun ac A33 => ?_)
    refine s_one (.int .i64 (nthI (nums ys) k)) A33 S22 (g_load (g := g12) (off := k) 0 (by kernel_rfl) rfl (rv_of (by kernel_rfl) (cur_get ht17 (rowI_get (by rw [nums_length _]; omega))))) rfl (fun ac A34 => ?_)
    refine s_call (fs := #[]) (cp := #[]) (r := [(0, .int .i64 (nthI (nums ys) k))]) #[.int .i64 (nthI (nums ys) k)] (.int .i64 (mx (nthI (nums ys) k) (-(nthI (nums ys) k)))) A34 S22 (baseSize_s (nthI (nums ys) k) _ (by omega)) Try.call91 (by kernel_rfl) (by kernel_rfl) (by kernel_rfl) rfl (fun ac wc A35 S36 => ?_)
    refine s_one (.int .i64 (mx (gr (nums ys) 0 k) (mx (nthI (nums ys) k) (-(nthI (nums ys) k))))) A35 S36 (g_built (r := [(0, .int .i64 (gr (nums ys) 0 k)), (0, .int .i64 (mx (nthI (nums ys) k) (-(nthI (nums ys) k))))]) (by kernel_rfl) (fun ty cs w => by show (do let x ← Builtin.max_ _ ty #[.int .i64 (gr (nums ys) 0 k), .int .i64 (mx (nthI (nums ys) k) (-(nthI (nums ys) k)))]; pure (Next.value x) : Sem Next).run _ w = _; rw [Sem.run_bind, run_max_mx]; rfl)) rfl (fun ac A38 => ?_)
    refine s_one (.int .i64 (mx (gr (nums ys) 0 k) (mx (nthI (nums ys) k) (-(nthI (nums ys) k))))) A38 S36 (g_assign (by kernel_rfl)) rfl (fun ac A39 => ?_)
    refine wpList_nil ?_
    refine n_block ?_
    refine n_then ?_
    refine wp_region_lit ?_
    refine s_one (.int .i64 (k : Int)) A39 S36 (g_move (by kernel_rfl)) rfl (fun ac A40 => ?_)
    refine s_one (.int .i64 ((k : Int) + 1)) A40 S36 (g_bin (u := .int .i64 (k : Int)) (k := .int .i64 1) (by kernel_rfl) (by kernel_rfl) (fun _ => by kernel_rfl) (b_add (by omega))) rfl (fun ac A41 => ?_)
    refine s_one (.int .i64 ((k : Int) + 1)) A41 S36 (g_assign (by kernel_rfl)) rfl (fun ac A42 => ?_)
    refine wpList_nil ?_
    refine n_then ?_
    refine ⟨_, ⟨k + 1, rfl, by omega, (A42.slot (A42.slot (A42.slot (A42.slot (A42.slot (A42.slot (A42.slot (A42.slot A42.nil (v := .int .i64 (mx (gr (nums ys) 0 k) (mx (nthI (nums ys) k) (-(nthI (nums ys) k))))) (by kernel_rfl) (congrArg (Value.int .i64) (by simp only [gr, Nat.zero_add]))) (v := .int .i64 ((k : Int) + 1)) (by kernel_rfl) (congrArg (Value.int .i64) (by omega))) (v := .slice (some ⟨g12, 0, none⟩) 64 cap13) (by kernel_rfl) rfl) (v := .slice (some ⟨g12, 0, none⟩) 64 cap13) (by kernel_rfl) rfl) (v := .agg (trc ys)) (by kernel_rfl) rfl) (v := .int .i64 0) (by kernel_rfl) rfl) (v := .pointer (some ⟨g3, 0, none⟩)) (by kernel_rfl) rfl) (v := .agg (trc ys)) (by kernel_rfl) rfl), S36.sub sub_all sub_all⟩, ?_⟩
    omega
  · have p43 := of_decide_eq_false h28
    refine wp_exit ?_
    refine x_then ?_
    refine x_then ?_
    refine x_hit ?_
    refine n_then ?_
    refine wp_seq ?_
    refine wp_region_lit ?_
    refine s_one (.int .i64 (gr (nums ys) 0 k)) A27 S22 (g_move (by kernel_rfl)) rfl (fun ac A44 => ?_)
    refine s_one (.int .i64 (gr (nums ys) 0 k)) A44 S22 (g_assign (by kernel_rfl)) rfl (fun ac A45 => ?_)
    refine wpList_nil ?_
    refine n_then ?_
    refine wp_ret ?_
    refine fin1 (.int .i64 (gr (nums ys) 0 k)) Try.results88 A45 S22 (rv_tmp (by kernel_rfl)) ⟨?_, S22.kp⟩
    obtain rfl : k = 64 := by omega
    rfl

theorem most_at (xs : List Nat) (n f r : Nat) (w : World) (hR : Right xs) (h : (f * n + r) * 64 + 64 ≤ xs.length) : Calls Try.prog 88 #[.agg (trc (mkT (nums (cutF xs (toI (n : Int) (f : Int) (r : Int)) 64)) 64))] w fun e w' => e = .returned (.int .i64 (gr (mi xs) ((f * n + r) * 64) 64)) ∧ Below w.heap.size w w' := by
  have e1 := nums_pair hR h
  have e2 := pair_words h
  have hRy : Right (mkT (nums (cutF xs (toI (n : Int) (f : Int) (r : Int)) 64)) 64) := by
    rw [e2]; exact right_of (firstErr_fw (cutN_range (mi_range hR) _ _))
  have := most_s _ w (done_length _ _ _ _) hRy
  rw [show gr (mi xs) ((f * n + r) * 64) 64 = gr (nums (mkT (nums (cutF xs (toI (n : Int) (f : Int) (r : Int)) 64)) 64)) 0 64 by rw [e1, gr_cut (Nat.le_refl _)]]
  exact this

set_option maxRecDepth 100000 in
set_option maxHeartbeats 400000 in
theorem refSaturated_ok (ne n cap : Nat) (A : Option Addr) (xs : List Nat) (w0 : World) (hn : xs.length = n) (hr : FReads w0 A xs) (hm : n ≤ 1000) (h1 : 1 ≤ ne) (hne : n = ne * ne * 64) (h0 : (mxC (ne : Int) xs).2 = 0) :
    Calls Try.prog 38 #[.agg #[.int .i64 (ne : Int), .slice A n cap]] w0 fun e w' => ∃ v, e = .returned (v) ∧ Below w0.heap.size w0 w' ∧ w'.ownsRow w0.heap.size 26 2 v ((((pairsOf ne).filter (satB (mi xs) ne))).length) (rowI (flP (((pairsOf ne)).filter (satB (mi xs) ne)))) := by
  have S0 := St.start w0
  have hR : Right xs := right_of (mxC_0 h0).2.2
  have hpos : 0 < ne * ne := Nat.mul_pos h1 h1
  have hne3 : ne ≤ 3 := by rcases Nat.lt_or_ge 3 ne with q | q; have := Nat.mul_le_mul q q; omega; exact q
  have hee : ne * ne ≤ 15 := by omega
  refine enter (n := 32) Try.func38 rfl rfl rfl (fun ac A0 => ?_)
  refine wp_seq ?_
  refine wp_region_lit ?_
  refine s_box (.agg #[.int .i64 (ne : Int), .slice A n cap]) A0 S0 (by kernel_rfl) rfl (fun g3 ac wc A1 S2 => ?_)
  replace S2 : St _ (⟨g3, 30, #[.int .i64 (ne : Int), .slice A n cap], true⟩ :: _) _ _ := S2
  refine s_one (.slice none 0 0) A1 S2 (g_assign (by kernel_rfl)) rfl (fun ac A5 => ?_)
  refine wpList_nil ?_
  refine n_then ?_
  refine wp_seq ?_
  refine wp_region_lit ?_
  refine s_one (.slice none 0 0) A5 S2 (g_assign (by kernel_rfl)) rfl (fun ac A6 => ?_)
  refine wpList_nil ?_
  refine n_then ?_
  refine wp_seq ?_
  refine wp_seq ?_
  refine wp_region_lit ?_
  refine s_one (.int .i64 0) A6 S2 (g_assign (by kernel_rfl)) rfl (fun ac A7 => ?_)
  refine wpList_nil ?_
  refine n_then ?_
  refine wp_block ?_
  have S8 := S2.nilRow 26 2
  refine c_loopN (fun mm ac wc => ∃ (i : Nat) (v : Value), mm = ne - i ∧ (i ≤ ne) ∧ Fr 32 ac [(0, .agg #[.int .i64 (ne : Int), .slice A n cap]), (1, .pointer (some ⟨g3, 0, none⟩)), (2, .slice none 0 0), (4, .int .i64 (i : Int)), (3, v)] ∧ St w0 [⟨g3, 30, #[.int .i64 (ne : Int), .slice A n cap], true⟩] [⟨v, 26, 2, (((((preP ne i 0)).filter (satB (mi xs) ne))).length), (rowI (flP (((preP ne i 0)).filter (satB (mi xs) ne))))⟩] wc) _ ⟨0, .slice none 0 0, rfl, Nat.zero_le _, (A7.slot (A7.slot (A7.slot (A7.slot (A7.slot A7.nil (v := .slice none 0 0) (by kernel_rfl) (by first | rfl | simp)) (v := .int .i64 0) (by kernel_rfl) (congrArg (Value.int .i64) (by omega))) (v := .slice none 0 0) (by kernel_rfl) rfl) (v := .pointer (some ⟨g3, 0, none⟩)) (by kernel_rfl) rfl) (v := .agg #[.int .i64 (ne : Int), .slice A n cap]) (by kernel_rfl) rfl), (St.rerow 0 S8 rfl ⟨rfl, rfl⟩).sub sub_all sub_all⟩ ?_
  rintro mm ac wc ⟨i, v, hm11, hi, A9, S10⟩
  refine wp_seq ?_
  refine wp_seq ?_
  refine wp_region_lit ?_
  refine s_one (.int .i64 (i : Int)) A9 S10 (g_move (by kernel_rfl)) rfl (fun ac A12 => ?_)
  refine s_one (.pointer (some ⟨g3, 0, none⟩)) A12 S10 (g_field (u := .pointer (some ⟨g3, 0, none⟩)) (by kernel_rfl) (fun _ => by kernel_rfl)) rfl (fun ac A13 => ?_)
  refine s_one (.int .i64 (ne : Int)) A13 S10 (g_load (g := g3) (off := 0) 0 (by kernel_rfl) rfl (by kernel_rfl)) rfl (fun ac A14 => ?_)
  refine s_one (.bool (decide ((i : Int) < (ne : Int)))) A14 S10 (g_bin (u := .int .i64 (i : Int)) (k := .int .i64 (ne : Int)) (by kernel_rfl) (by kernel_rfl) (fun _ => by kernel_rfl) (fun _ => by kernel_rfl)) rfl (fun ac A15 => ?_)
  refine wpList_nil ?_
  refine n_then ?_
  refine c_ifb (b := (decide ((i : Int) < (ne : Int)))) A15 (by kernel_rfl) (fun h16 => ?_) (fun h16 => ?_)
  · have p17 := of_decide_eq_true h16
    refine wp_skip ?_
    refine n_then ?_
    refine wp_seq ?_
    refine wp_block ?_
    refine wp_seq ?_
    refine wp_region_lit ?_
    refine s_one (.int .i64 0) A15 S10 (g_assign (by kernel_rfl)) rfl (fun ac A18 => ?_)
    refine wpList_nil ?_
    refine n_then ?_
    refine wp_block ?_
    refine c_loopN (fun mm ac wc => ∃ (j : Nat) (v2 : Value), mm = ne - j ∧ (j ≤ ne) ∧ Fr 32 ac [(0, .agg #[.int .i64 (ne : Int), .slice A n cap]), (1, .pointer (some ⟨g3, 0, none⟩)), (2, .slice none 0 0), (4, .int .i64 (i : Int)), (6, .int .i64 (i : Int)), (7, .pointer (some ⟨g3, 0, none⟩)), (8, .int .i64 (ne : Int)), (9, .bool (decide ((i : Int) < (ne : Int)))), (5, .int .i64 (j : Int)), (3, v2)] ∧ St w0 [⟨g3, 30, #[.int .i64 (ne : Int), .slice A n cap], true⟩] [⟨v2, 26, 2, (((((preP ne i j)).filter (satB (mi xs) ne))).length), (rowI (flP (((preP ne i j)).filter (satB (mi xs) ne))))⟩] wc) _ ⟨0, v, rfl, Nat.zero_le _, (A18.slot (A18.slot (A18.slot (A18.slot (A18.slot (A18.slot (A18.slot (A18.slot (A18.slot (A18.slot A18.nil (v := v) (by kernel_rfl) (by first | rfl | simp)) (v := .int .i64 0) (by kernel_rfl) (congrArg (Value.int .i64) (by omega))) (v := .bool (decide ((i : Int) < (ne : Int)))) (by kernel_rfl) rfl) (v := .int .i64 (ne : Int)) (by kernel_rfl) rfl) (v := .pointer (some ⟨g3, 0, none⟩)) (by kernel_rfl) rfl) (v := .int .i64 (i : Int)) (by kernel_rfl) rfl) (v := .int .i64 (i : Int)) (by kernel_rfl) rfl) (v := .slice none 0 0) (by kernel_rfl) rfl) (v := .pointer (some ⟨g3, 0, none⟩)) (by kernel_rfl) rfl) (v := .agg #[.int .i64 (ne : Int), .slice A n cap]) (by kernel_rfl) rfl), (St.rerow 0 S10 rfl ⟨rfl, rfl⟩).sub sub_all sub_all⟩ ?_
    rintro mm ac wc ⟨j, v2, hm21, hj, A19, S20⟩
    have hsl := sel_len (B := satB (mi xs) ne) (preP ne i j)
    rw [preP_length] at hsl
    have hin := Nat.mul_le_mul_right ne (show i + 1 ≤ ne by omega)
    rw [Nat.succ_mul] at hin
    refine wp_seq ?_
    refine wp_seq ?_
    refine wp_region_lit ?_
    refine s_one (.int .i64 (j : Int)) A19 S20 (g_move (by kernel_rfl)) rfl (fun ac A22 => ?_)
    refine s_one (.pointer (some ⟨g3, 0, none⟩)) A22 S20 (g_field (u := .pointer (some ⟨g3, 0, none⟩)) (by kernel_rfl) (fun _ => by kernel_rfl)) rfl (fun ac A23 => ?_)
    refine s_one (.int .i64 (ne : Int)) A23 S20 (g_load (g := g3) (off := 0) 0 (by kernel_rfl) rfl (by kernel_rfl)) rfl (fun ac A24 => ?_)
    refine s_one (.bool (decide ((j : Int) < (ne : Int)))) A24 S20 (g_bin (u := .int .i64 (j : Int)) (k := .int .i64 (ne : Int)) (by kernel_rfl) (by kernel_rfl) (fun _ => by kernel_rfl) (fun _ => by kernel_rfl)) rfl (fun ac A25 => ?_)
    refine wpList_nil ?_
    refine n_then ?_
    refine c_ifb (b := (decide ((j : Int) < (ne : Int)))) A25 (by kernel_rfl) (fun h26 => ?_) (fun h26 => ?_)
    · have p27 := of_decide_eq_true h26
      refine wp_skip ?_
      refine n_then ?_
      refine wp_seq ?_
      refine wp_block ?_
      refine wp_seq ?_
      refine wp_region_lit ?_
      refine s_one (.agg #[.int .i64 (ne : Int), .slice A n cap]) A25 S20 (g_load (g := g3) (off := 0) 0 (by kernel_rfl) rfl (by kernel_rfl)) rfl (fun ac A28 => ?_)
      refine s_one (.int .i64 (i : Int)) A28 S20 (g_move (by kernel_rfl)) rfl (fun ac A29 => ?_)
      refine s_one (.int .i64 (j : Int)) A29 S20 (g_move (by kernel_rfl)) rfl (fun ac A30 => ?_)
      refine s_one (.agg #[.int .i64 (i : Int), .int .i64 (j : Int)]) A30 S20 (g_build (r := [(0, .int .i64 (i : Int)), (1, .int .i64 (j : Int))]) (by kernel_rfl) (fun _ => by kernel_rfl)) rfl (fun ac A31 => ?_)
      refine s_call (fs := #[]) (cp := #[]) (r := [(0, .agg #[.int .i64 (ne : Int), .slice A n cap]), (0, .agg #[.int .i64 (i : Int), .int .i64 (j : Int)])]) #[.agg #[.int .i64 (ne : Int), .slice A n cap], .agg #[.int .i64 (i : Int), .int .i64 (j : Int)]] (.agg (trc (mkT (nums (cutF xs (toI (ne : Int) (i : Int) (j : Int)) 64)) 64))) A31 S20 (refTraceOf_s (ne : Int) A n cap xs (i : Int) (j : Int) _ hn (hr.kept S20.kp) (by omega) (fo2_0 h0 (pairE_nat (by omega) (by omega) (by omega)))) Try.call20 (by kernel_rfl) (by kernel_rfl) (by kernel_rfl) rfl (fun ac wc A32 S33 => ?_)
      refine s_call (fs := #[]) (cp := #[]) (r := [(0, .agg (trc (mkT (nums (cutF xs (toI (ne : Int) (i : Int) (j : Int)) 64)) 64)))]) #[.agg (trc (mkT (nums (cutF xs (toI (ne : Int) (i : Int) (j : Int)) 64)) 64))] (.int .i64 (gr (mi xs) ((i * ne + j) * 64) 64)) A32 S33 (most_at xs ne i j _ hR (by have hlen := hn; have hpl := pair_lt (n := ne) (f := i) (r := j) (by omega) (by omega); omega)) Try.call88 (by kernel_rfl) (by kernel_rfl) (by kernel_rfl) rfl (fun ac wc A35 S36 => ?_)
      refine s_one (.bool (decide (gr (mi xs) ((i * ne + j) * 64) 64 = 2047))) A35 S36 (g_bin (u := .int .i64 (gr (mi xs) ((i * ne + j) * 64) 64)) (k := .int .i64 2047) (by kernel_rfl) (by kernel_rfl) (fun _ => by kernel_rfl) b_eql) rfl (fun ac A38 => ?_)
      refine wpList_nil ?_
      refine n_then ?_
      refine c_ifb (b := (decide (gr (mi xs) ((i * ne + j) * 64) 64 = 2047))) A38 (by kernel_rfl) (fun h39 => ?_) (fun h39 => ?_)
      · have p40 := of_decide_eq_true h39
        refine wp_region_lit ?_
        refine s_one (v2) A38 S36 (g_move (by kernel_rfl)) rfl (fun ac A41 => ?_)
        refine s_one (.int .i64 (i : Int)) A41 S36 (g_move (by kernel_rfl)) rfl (fun ac A42 => ?_)
        refine s_one (.int .i64 (j : Int)) A42 S36 (g_move (by kernel_rfl)) rfl (fun ac A43 => ?_)
        refine s_one (.agg #[.int .i64 (i : Int), .int .i64 (j : Int)]) A43 S36 (g_build (r := [(0, .int .i64 (i : Int)), (1, .int .i64 (j : Int))]) (by kernel_rfl) (fun _ => by kernel_rfl)) rfl (fun ac A44 => ?_)
        refine s_bs (e := 26) (r := [(0, .agg #[.int .i64 (i : Int), .int .i64 (j : Int)])]) (#[.int .i64 (i : Int), .int .i64 (j : Int)]) A44 S36 (by kernel_rfl) (by kernel_rfl) rfl (fun g47 ac wc A45 S46 => ?_)
        refine s_append (e := 26) (size := 2) (bytes := 16) (v := v2) (g := g47) (m' := 1) (c := 1) 0 0 [.int .i64 (i : Int), .int .i64 (j : Int)] A45 S46 (by kernel_rfl) (by kernel_rfl) (by kernel_rfl) rfl rfl (by kernel_rfl) rfl (by kernel_rfl) (by omega) (by omega) rfl (fun v51 ac wc A48 S49 => ?_)
        refine s_one (v51) A48 S49 (g_assign (by kernel_rfl)) rfl (fun ac A52 => ?_)
        refine wpList_nil ?_
        refine n_block ?_
        refine n_then ?_
        refine wp_region_lit ?_
        refine s_one (.int .i64 (j : Int)) A52 S49 (g_move (by kernel_rfl)) rfl (fun ac A53 => ?_)
        refine s_one (.int .i64 ((j : Int) + 1)) A53 S49 (g_bin (u := .int .i64 (j : Int)) (k := .int .i64 1) (by kernel_rfl) (by kernel_rfl) (fun _ => by kernel_rfl) (b_add (by omega))) rfl (fun ac A54 => ?_)
        refine s_one (.int .i64 ((j : Int) + 1)) A54 S49 (g_assign (by kernel_rfl)) rfl (fun ac A55 => ?_)
        refine wpList_nil ?_
        refine n_then ?_
        refine ⟨_, ⟨j + 1, v51, rfl, by omega, (A55.slot (A55.slot (A55.slot (A55.slot (A55.slot (A55.slot (A55.slot (A55.slot (A55.slot (A55.slot A55.nil (v := v51) (by kernel_rfl) rfl) (v := .int .i64 ((j : Int) + 1)) (by kernel_rfl) (congrArg (Value.int .i64) (by omega))) (v := .bool (decide ((i : Int) < (ne : Int)))) (by kernel_rfl) rfl) (v := .int .i64 (ne : Int)) (by kernel_rfl) rfl) (v := .pointer (some ⟨g3, 0, none⟩)) (by kernel_rfl) rfl) (v := .int .i64 (i : Int)) (by kernel_rfl) rfl) (v := .int .i64 (i : Int)) (by kernel_rfl) rfl) (v := .slice none 0 0) (by kernel_rfl) rfl) (v := .pointer (some ⟨g3, 0, none⟩)) (by kernel_rfl) rfl) (v := .agg #[.int .i64 (ne : Int), .slice A n cap]) (by kernel_rfl) rfl), (St.rerow 0 S49 rfl ⟨by rw [← preP_succ, sel_y (show satB (mi xs) ne (i, j) = true from decide_eq_true p40), List.length_append]; rfl, by rw [← preP_succ, sel_y (show satB (mi xs) ne (i, j) = true from decide_eq_true p40)]; exact flP_snoc _ _ _⟩).sub (sub_skip sub_all) sub_all⟩, ?_⟩
        omega
      · have p56 := of_decide_eq_false h39
        refine wp_skip ?_
        refine n_block ?_
        refine n_then ?_
        refine wp_region_lit ?_
        refine s_one (.int .i64 (j : Int)) A38 S36 (g_move (by kernel_rfl)) rfl (fun ac A57 => ?_)
        refine s_one (.int .i64 ((j : Int) + 1)) A57 S36 (g_bin (u := .int .i64 (j : Int)) (k := .int .i64 1) (by kernel_rfl) (by kernel_rfl) (fun _ => by kernel_rfl) (b_add (by omega))) rfl (fun ac A58 => ?_)
        refine s_one (.int .i64 ((j : Int) + 1)) A58 S36 (g_assign (by kernel_rfl)) rfl (fun ac A59 => ?_)
        refine wpList_nil ?_
        refine n_then ?_
        refine ⟨_, ⟨j + 1, v2, rfl, by omega, (A59.slot (A59.slot (A59.slot (A59.slot (A59.slot (A59.slot (A59.slot (A59.slot (A59.slot (A59.slot A59.nil (v := v2) (by kernel_rfl) rfl) (v := .int .i64 ((j : Int) + 1)) (by kernel_rfl) (congrArg (Value.int .i64) (by omega))) (v := .bool (decide ((i : Int) < (ne : Int)))) (by kernel_rfl) rfl) (v := .int .i64 (ne : Int)) (by kernel_rfl) rfl) (v := .pointer (some ⟨g3, 0, none⟩)) (by kernel_rfl) rfl) (v := .int .i64 (i : Int)) (by kernel_rfl) rfl) (v := .int .i64 (i : Int)) (by kernel_rfl) rfl) (v := .slice none 0 0) (by kernel_rfl) rfl) (v := .pointer (some ⟨g3, 0, none⟩)) (by kernel_rfl) rfl) (v := .agg #[.int .i64 (ne : Int), .slice A n cap]) (by kernel_rfl) rfl), (St.rerow 0 S36 rfl ⟨by rw [← preP_succ, sel_n (show satB (mi xs) ne (i, j) = false from decide_eq_false p56)], by rw [← preP_succ, sel_n (show satB (mi xs) ne (i, j) = false from decide_eq_false p56)]⟩).sub sub_all sub_all⟩, ?_⟩
        omega
    · have p60 := of_decide_eq_false h26
      refine wp_exit ?_
      refine x_then ?_
      refine x_then ?_
      refine x_hit ?_
      refine n_block ?_
      refine n_then ?_
      refine wp_region_lit ?_
      refine s_one (.int .i64 (i : Int)) A25 S20 (g_move (by kernel_rfl)) rfl (fun ac A61 => ?_)
      refine s_one (.int .i64 ((i : Int) + 1)) A61 S20 (g_bin (u := .int .i64 (i : Int)) (k := .int .i64 1) (by kernel_rfl) (by kernel_rfl) (fun _ => by kernel_rfl) (b_add (by omega))) rfl (fun ac A62 => ?_)
      refine s_one (.int .i64 ((i : Int) + 1)) A62 S20 (g_assign (by kernel_rfl)) rfl (fun ac A63 => ?_)
      refine wpList_nil ?_
      refine n_then ?_
      have ej : j = ne := by omega
      refine ⟨_, ⟨i + 1, v2, rfl, by omega, (A63.slot (A63.slot (A63.slot (A63.slot (A63.slot A63.nil (v := v2) (by kernel_rfl) rfl) (v := .int .i64 ((i : Int) + 1)) (by kernel_rfl) (congrArg (Value.int .i64) (by omega))) (v := .slice none 0 0) (by kernel_rfl) rfl) (v := .pointer (some ⟨g3, 0, none⟩)) (by kernel_rfl) rfl) (v := .agg #[.int .i64 (ne : Int), .slice A n cap]) (by kernel_rfl) rfl), (St.rerow 0 S20 rfl ⟨by rw [ej, preP_row], by rw [ej, preP_row]⟩).sub sub_all sub_all⟩, ?_⟩
      omega
  · have p64 := of_decide_eq_false h16
    refine wp_exit ?_
    refine x_then ?_
    refine x_then ?_
    refine x_hit ?_
    refine n_then ?_
    refine wp_seq ?_
    refine wp_region_lit ?_
    refine s_one (v) A15 S10 (g_move (by kernel_rfl)) rfl (fun ac A65 => ?_)
    refine s_one (v) A65 S10 (g_assign (by kernel_rfl)) rfl (fun ac A66 => ?_)
    refine wpList_nil ?_
    refine n_then ?_
    refine wp_ret ?_
    have ei : i = ne := by omega
    have SR : St w0 [⟨g3, 30, #[.int .i64 (ne : Int), .slice A n cap], true⟩] [⟨v, 26, 2, ((((pairsOf ne).filter (satB (mi xs) ne))).length), (rowI (flP (((pairsOf ne)).filter (satB (mi xs) ne))))⟩] _ := St.rerow 0 S10 rfl ⟨by rw [ei]; rfl, by rw [ei]; rfl⟩
    obtain ⟨A67, cap68, rfl⟩ := row_slice (v := v) (m := (((pairsOf ne).filter (satB (mi xs) ne))).length) (SR.row 0 rfl)
    refine fin1 (.slice A67 ((((pairsOf ne).filter (satB (mi xs) ne))).length) cap68) Try.results38 A66 SR (rv_tmp (by kernel_rfl)) ?_
    have bw := SR.kp
    have ow := SR.row 0 rfl
    exact ⟨_, rfl, bw, ow⟩

/-- Lists of bools. -/
def bls (l : List Bool) : Array Value := (l.map Value.bool).toArray
def nthB (l : List Bool) (k : Nat) : Bool := l.getD k false
theorem nthB_eq {l : List Bool} {k : Nat} (h : k < l.length) : nthB l k = l[k] := by simp [nthB, List.getD_eq_getElem?_getD, List.getElem?_eq_getElem h]
theorem bls_size (l : List Bool) : (bls l).size = l.length := by simp [bls]
theorem bls_get {l : List Bool} {k : Nat} (h : k < l.length) : (bls l)[k]? = some (.bool (nthB l k)) := by simp [bls, nthB_eq h, h]
theorem bls_set (l : List Bool) (k : Nat) (v : Bool) : (bls l).setIfInBounds k (.bool v) = bls (l.set k v) := by simp [bls]
theorem bls_one (l : List Bool) : (bls l).all (·.oneCell') = true := by simp [bls, Value.oneCell']
section
variable {P : Program} {ops : Array Oper} {Q : Exit → Act → World → Prop} {n : Sz} {a : Act} {w : World} {w0 : Base} {F : Fm} {L : List Bk} {M : List Rw} {rest : List Oper}
theorem s_makeB {d : Nat} {lo co : Operand} {t ty : TypeId} {pos : String} {aft : Array Edge} {e : TypeId} {bytes : Nat} (N : Nat) {x y : Int} (hA : Fr n a F) (hS : St w0 L M w) (ht : sliceOf P t = some e) (hinfo : (P.info? e).map (fun i => (i.zero, i.size, i.bytes)) = some (some (.bool false), 1, bytes))
    (hx : evO F lo = some (.int .i64 x)) (hy : evO F co = some (.int .i64 y)) (ex : x = (N : Int)) (ey : y = (N : Int)) (hb : bytes * N ≤ 281474976710656) (h63 : N ≤ 9223372036854775807) (hd : Nat.blt d n = true)
    (k : ∀ g a' w', Fr n a' ((d, .slice (some ⟨g, 0, none⟩) N N) :: F) → St w0 (⟨g, e, bls (List.replicate N false), true⟩ :: L) M w' → wpList P ops Q rest a' w') : wpList P ops Q (⟨some d, .makeSlice t lo co, ty, pos, aft, none⟩ :: rest) a w := by
  refine wpList_plain rfl fun K hK => ?_
  subst ex; subst ey
  have hrun := run_make_row' (P := P) t e (.bool false) bytes (sliceOf_spec ht) hinfo rfl .i64 .i64 N hb h63 w
  have ec : madeCells #[Value.bool false] N = bls (List.replicate N false) := by
    apply Array.ext
    · simp [size_madeCells, bls]
    · intro i h1 h2
      simp [madeCells, bls, Nat.mod_one]
  rw [ec] at hrun
  have hn := hS.new (Nat.le_refl _) (Blk.new w e (bls (List.replicate N false))) ((Below.refl _ _).alloc (Nat.le_refl _) _)
  have h' := k w.heap.size _ _ (hA.put (blt_lt hd) (.slice (some ⟨w.heap.size, 0, none⟩) N N)) hn
  unfold Oper.wp execOp
  simp only [Sem.run_bind, Sem.run_pure, Result.andThen_ok, hA.ev hx, hA.ev hy, hrun]
  exact hK _ _ h'
end
/-- Which elements are alive, by so many pairs. -/
def bigB (l : List Int) (n : Nat) (lv : Int) (p : Nat × Nat) : Bool := decide (gr l ((p.1 * n + p.2) * 64) 64 > lv)
def alv (l : List Int) (n : Nat) (lv : Int) (ps : List (Nat × Nat)) : List Bool := (List.range n).map fun e => ps.any fun p => bigB l n lv p && (p.1 == e || p.2 == e)
theorem alv_length (l : List Int) (n : Nat) (lv : Int) (ps : List (Nat × Nat)) : (alv l n lv ps).length = n := by simp [alv]
theorem alv_nil (l : List Int) (n : Nat) (lv : Int) : alv l n lv [] = List.replicate n false := by
  apply List.ext_getElem
  · simp [alv]
  · intro i h1 h2; simp [alv]
theorem alv_y {l : List Int} {n : Nat} {lv : Int} {ps : List (Nat × Nat)} {f r : Nat} (h : bigB l n lv (f, r) = true) : ((alv l n lv ps).set f true).set r true = alv l n lv (ps ++ [(f, r)]) := by
  apply List.ext_getElem
  · simp [alv]
  · intro i h1 h2
    have hi : i < n := by simpa [alv] using h2
    rw [List.getElem_set, List.getElem_set]
    simp only [alv, List.getElem_map, List.getElem_range, List.any_append, List.any_cons, List.any_nil, Bool.or_false, h, Bool.true_and]
    by_cases e1 : r = i
    · simp [e1]
    · by_cases e2 : f = i
      · simp [e1, e2]
      · simp [e1, e2]
theorem alv_n {l : List Int} {n : Nat} {lv : Int} {ps : List (Nat × Nat)} {f r : Nat} (h : bigB l n lv (f, r) = false) : alv l n lv ps = alv l n lv (ps ++ [(f, r)]) := by simp [alv, h]
/-- The elements that are not. -/
def deads (bs : List Bool) (k : Nat) : List Int := ((List.range k).filter fun e => !nthB bs e).map fun (e : Nat) => (e : Int)
theorem deads_len (bs : List Bool) (k : Nat) : (deads bs k).length ≤ k := by
  unfold deads
  rw [List.length_map]
  have := List.length_filter_le (fun e => !nthB bs e) (List.range k)
  simpa using this
theorem deads_y {bs : List Bool} {k : Nat} (h : nthB bs k = true) : deads bs (k + 1) = deads bs k := by simp [deads, List.range_succ, h]
theorem deads_n {bs : List Bool} {k : Nat} (h : nthB bs k = false) : deads bs (k + 1) = deads bs k ++ [(k : Int)] := by simp [deads, List.range_succ, h]
theorem rowI_one_snoc (l : List Int) (x : Int) : rowI l ++ [.int .i64 x] = rowI (l ++ [x]) := by simp [rowI]

set_option maxRecDepth 100000 in
set_option maxHeartbeats 400000 in
theorem DeadElements_err (el : Int) (A : Option Addr) (n cap : Nat) (xs : List Nat) (lv : Int) (w0 : World) (hn : xs.length = n) (hr : FReads w0 A xs) (hm : n ≤ 1000) (h0 : (mxC el xs).2 ≠ 0) :
    Calls Try.prog 35 #[.agg #[.int .i64 el, .slice A n cap], .int .i64 lv] w0 fun e w' => e = .returned (.tuple #[.slice none 0 0, .int .i64 (mxC el xs).2]) ∧ Below w0.heap.size w0 w' := by
  have S0 := St.start w0
  refine enterM (n := 62) Try.func35 rfl rfl rfl (fun ac A0 => ?_)
  refine wp_seq ?_
  refine wp_region_lit ?_
  refine s_box (.agg #[.int .i64 el, .slice A n cap]) A0 S0 (by kernel_rfl) rfl (fun g3 ac wc A1 S2 => ?_)
  replace S2 : St _ (⟨g3, 30, #[.int .i64 el, .slice A n cap], true⟩ :: _) _ _ := S2
  refine s_box (.int .i64 lv) A1 S2 (by kernel_rfl) rfl (fun g7 ac wc A5 S6 => ?_)
  replace S6 : St _ (⟨g7, 3, #[.int .i64 lv], true⟩ :: _) _ _ := S6
  refine s_one (.slice none 0 0) A5 S6 (g_assign (by kernel_rfl)) rfl (fun ac A9 => ?_)
  refine s_one (.int .i64 0) A9 S6 (g_assign (by kernel_rfl)) rfl (fun ac A10 => ?_)
  refine wpList_nil ?_
  refine n_then ?_
  refine wp_seq ?_
  refine wp_region_lit ?_
  refine s_one (.agg #[.int .i64 el, .slice A n cap]) A10 S6 (g_load (g := g3) (off := 0) 1 (by kernel_rfl) rfl (by kernel_rfl)) rfl (fun ac A11 => ?_)
  refine s_call (fs := #[]) (cp := #[]) (r := [(0, .agg #[.int .i64 el, .slice A n cap])]) #[.agg #[.int .i64 el, .slice A n cap]] (.tuple #[.pointer none, .int .i64 ((mxC el xs).2)]) A11 S6 (open_err el A n cap xs _ hn (hr.kept S6.kp) (by omega) h0) Try.call72 (by kernel_rfl) (by kernel_rfl) (by kernel_rfl) rfl (fun ac wc A12 S13 => ?_)
  refine s_one (.tuple #[.pointer none, .int .i64 ((mxC el xs).2)]) A12 S13 (g_move (by kernel_rfl)) rfl (fun ac A15 => ?_)
  refine s_one (.pointer none) A15 S13 (g_extract (u := .tuple #[.pointer none, .int .i64 ((mxC el xs).2)]) (by kernel_rfl) (fun _ => by kernel_rfl)) rfl (fun ac A16 => ?_)
  refine s_one (.int .i64 ((mxC el xs).2)) A16 S13 (g_extract (u := .tuple #[.pointer none, .int .i64 ((mxC el xs).2)]) (by kernel_rfl) (fun _ => by kernel_rfl)) rfl (fun ac A17 => ?_)
  refine s_alloc (#[.pointer none]) A17 S13 (by kernel_rfl) rfl (fun g20 ac wc A18 S19 => ?_)
  refine s_store (g := g20) (off := 0) (v := .pointer none) 0 (#[.pointer none]) A18 S19 (by kernel_rfl) (by kernel_rfl) rfl (by kernel_rfl) (fun wc S22 => ?_)
  refine s_one (.int .i64 ((mxC el xs).2)) A18 S22 (g_assign (by kernel_rfl)) rfl (fun ac A24 => ?_)
  refine wpList_nil ?_
  refine n_then ?_
  refine wp_seq ?_
  refine wp_block ?_
  refine wp_seq ?_
  refine wp_region_lit ?_
  refine s_one (.int .i64 ((mxC el xs).2)) A24 S22 (g_move (by kernel_rfl)) rfl (fun ac A25 => ?_)
  refine s_one (.bool (decide ((mxC el xs).2 ≠ 0))) A25 S22 (g_bin (u := .int .i64 ((mxC el xs).2)) (k := .int .i64 0) (by kernel_rfl) (by kernel_rfl) (fun _ => by kernel_rfl) b_neq) rfl (fun ac A26 => ?_)
  refine s_one (.bool (decide ((mxC el xs).2 ≠ 0))) A26 S22 (g_assign (by kernel_rfl)) rfl (fun ac A27 => ?_)
  refine wpList_nil ?_
  refine n_then ?_
  refine c_t (b := (decide ((mxC el xs).2 ≠ 0))) A27 (by kernel_rfl) (decide_eq_true h0) ?_
  refine wp_seq ?_
  refine wp_region_lit ?_
  refine s_one (.int .i64 ((mxC el xs).2)) A27 S22 (g_move (by kernel_rfl)) rfl (fun ac A28 => ?_)
  refine s_one (.slice none 0 0) A28 S22 (g_assign (by kernel_rfl)) rfl (fun ac A29 => ?_)
  refine s_one (.int .i64 ((mxC el xs).2)) A29 S22 (g_assign (by kernel_rfl)) rfl (fun ac A30 => ?_)
  refine wpList_nil ?_
  refine n_then ?_
  refine wp_ret ?_
  refine r_block ?_
  refine r_then ?_
  refine m_ret0 A30 ?_
  refine fin2 (.slice none 0 0) (.int .i64 ((mxC el xs).2)) Try.results35 A30 S22 (rv_tmp (by kernel_rfl)) (rv_tmp (by kernel_rfl)) ⟨?_, S22.kp⟩
  rfl

set_option maxRecDepth 100000 in
set_option maxHeartbeats 400000 in
theorem DeadElements_lv (ne n cap : Nat) (ad : Addr) (xs : List Nat) (lv : Int) (w0 : World) (hn : xs.length = n) (hr : FReads w0 (some ad) xs) (hm : n ≤ 1000) (hcp : n ≤ cap) (h1 : 1 ≤ ne) (hne : n = ne * ne * 64) (h0 : (mxC (ne : Int) xs).2 = 0) (hlv : inB lv 0 2047 = false) :
    Calls Try.prog 35 #[.agg #[.int .i64 (ne : Int), .slice (some ad) n cap], .int .i64 lv] w0 fun e w' => e = .returned (.tuple #[.slice none 0 0, .int .i64 2]) ∧ Below w0.heap.size w0 w' := by
  have S0 := St.start w0
  have hR : Right xs := right_of (mxC_0 h0).2.2
  have hpos : 0 < ne * ne := Nat.mul_pos h1 h1
  have hml : (mi xs).length = ne * ne * 64 := by rw [mi_length, hn, hne]
  have hne3 : ne ≤ 3 := by rcases Nat.lt_or_ge 3 ne with q | q; have := Nat.mul_le_mul q q; omega; exact q
  have hee : ne * ne ≤ 15 := by omega
  refine enterM (n := 62) Try.func35 rfl rfl rfl (fun ac A0 => ?_)
  refine wp_seq ?_
  refine wp_region_lit ?_
  refine s_box (.agg #[.int .i64 (ne : Int), .slice (some ad) n cap]) A0 S0 (by kernel_rfl) rfl (fun g3 ac wc A1 S2 => ?_)
  replace S2 : St _ (⟨g3, 30, #[.int .i64 (ne : Int), .slice (some ad) n cap], true⟩ :: _) _ _ := S2
  refine s_box (.int .i64 lv) A1 S2 (by kernel_rfl) rfl (fun g7 ac wc A5 S6 => ?_)
  replace S6 : St _ (⟨g7, 3, #[.int .i64 lv], true⟩ :: _) _ _ := S6
  refine s_one (.slice none 0 0) A5 S6 (g_assign (by kernel_rfl)) rfl (fun ac A9 => ?_)
  refine s_one (.int .i64 0) A9 S6 (g_assign (by kernel_rfl)) rfl (fun ac A10 => ?_)
  refine wpList_nil ?_
  refine n_then ?_
  refine wp_seq ?_
  refine wp_region_lit ?_
  refine s_one (.agg #[.int .i64 (ne : Int), .slice (some ad) n cap]) A10 S6 (g_load (g := g3) (off := 0) 1 (by kernel_rfl) rfl (by kernel_rfl)) rfl (fun ac A11 => ?_)
  refine s_callSt (T := Nat × Nat × Nat) (fs := #[]) (cp := #[]) (r := [(0, .agg #[.int .i64 (ne : Int), .slice (some ad) n cap])]) #[.agg #[.int .i64 (ne : Int), .slice (some ad) n cap]] (fun u => .tuple #[.pointer (some ⟨u.1, 0, none⟩), .int .i64 0]) (fun u => [⟨u.1, 137, #[.int .i64 (ne : Int), .slice (some (Addr.mk u.2.1 0 none)) (ne * ne) u.2.2], true⟩]) (fun u => [⟨.slice (some (Addr.mk u.2.1 0 none)) (ne * ne) u.2.2, 123, 64, (ne * ne), (rowI (mi xs))⟩]) A11 S6 (open_ok ne n cap ad xs _ hn (hr.kept S6.kp) hm hcp h1 hne h0) (fun u x hx => by simp only [List.mem_cons, List.not_mem_nil, or_false] at hx; subst hx; rfl) Try.call72 (by kernel_rfl) (by kernel_rfl) (by kernel_rfl) rfl (fun u18 ac wc A12 S13 => ?_)
  obtain ⟨gm15, gr16, cp17⟩ := u18
  replace S13 : St w0 [⟨gm15, 137, #[.int .i64 (ne : Int), .slice (some (Addr.mk gr16 0 none)) (ne * ne) cp17], true⟩, ⟨g7, 3, #[.int .i64 lv], true⟩, ⟨g3, 30, #[.int .i64 (ne : Int), .slice (some ad) n cap], true⟩] [⟨.slice (some (Addr.mk gr16 0 none)) (ne * ne) cp17, 123, 64, (ne * ne), (rowI (mi xs))⟩] _ := S13
  refine s_one (.tuple #[.pointer (some ⟨gm15, 0, none⟩), .int .i64 0]) A12 S13 (g_move (by kernel_rfl)) rfl (fun ac A19 => ?_)
  refine s_one (.pointer (some ⟨gm15, 0, none⟩)) A19 S13 (g_extract (u := .tuple #[.pointer (some ⟨gm15, 0, none⟩), .int .i64 0]) (by kernel_rfl) (fun _ => by kernel_rfl)) rfl (fun ac A20 => ?_)
  refine s_one (.int .i64 0) A20 S13 (g_extract (u := .tuple #[.pointer (some ⟨gm15, 0, none⟩), .int .i64 0]) (by kernel_rfl) (fun _ => by kernel_rfl)) rfl (fun ac A21 => ?_)
  refine s_alloc (#[.pointer none]) A21 S13 (by kernel_rfl) rfl (fun g24 ac wc A22 S23 => ?_)
  refine s_store (g := g24) (off := 0) (v := .pointer (some ⟨gm15, 0, none⟩)) 0 (#[.pointer (some ⟨gm15, 0, none⟩)]) A22 S23 (by kernel_rfl) (by kernel_rfl) rfl (by kernel_rfl) (fun wc S26 => ?_)
  refine s_one (.int .i64 0) A22 S26 (g_assign (by kernel_rfl)) rfl (fun ac A28 => ?_)
  refine wpList_nil ?_
  refine n_then ?_
  refine wp_seq ?_
  refine wp_block ?_
  refine wp_seq ?_
  refine wp_region_lit ?_
  refine s_one (.int .i64 0) A28 S26 (g_move (by kernel_rfl)) rfl (fun ac A29 => ?_)
  refine s_one (.bool (decide (0 ≠ 0))) A29 S26 (g_bin (u := .int .i64 0) (k := .int .i64 0) (by kernel_rfl) (by kernel_rfl) (fun _ => by kernel_rfl) b_neq) rfl (fun ac A30 => ?_)
  refine s_one (.bool (decide (0 ≠ 0))) A30 S26 (g_assign (by kernel_rfl)) rfl (fun ac A31 => ?_)
  refine wpList_nil ?_
  refine n_then ?_
  refine c_f (b := (decide (0 ≠ 0))) A31 (by kernel_rfl) (by decide) ?_
  refine wp_seq ?_
  refine wp_region_lit ?_
  refine s_one (.int .i64 lv) A31 S26 (g_load (g := g7) (off := 0) 2 (by kernel_rfl) rfl (by kernel_rfl)) rfl (fun ac A32 => ?_)
  refine s_call (fs := #[]) (cp := #[]) (r := [(0, .int .i64 lv), (0, .int .i64 0), (0, .int .i64 2047)]) #[.int .i64 lv, .int .i64 0, .int .i64 2047] (.bool (inB lv 0 2047)) A32 S26 (sameB (within_any lv 0 2047 _)) Try.call60 (by kernel_rfl) (by kernel_rfl) (by kernel_rfl) rfl (fun ac wc A33 S34 => ?_)
  refine s_one (.bool (!(inB lv 0 2047))) A33 S34 (g_un (u := .bool (inB lv 0 2047)) (by kernel_rfl) (fun _ => by kernel_rfl)) rfl (fun ac A36 => ?_)
  refine s_one (.bool (!(inB lv 0 2047))) A36 S34 (g_assign (by kernel_rfl)) rfl (fun ac A37 => ?_)
  refine wpList_nil ?_
  refine n_then ?_
  refine c_t (b := (!(inB lv 0 2047))) A37 (by kernel_rfl) (b_nf hlv) ?_
  refine wp_seq ?_
  refine wp_region_lit ?_
  refine s_one (.slice none 0 0) A37 S34 (g_assign (by kernel_rfl)) rfl (fun ac A38 => ?_)
  refine s_one (.int .i64 2) A38 S34 (g_assign (by kernel_rfl)) rfl (fun ac A39 => ?_)
  refine wpList_nil ?_
  refine n_then ?_
  refine wp_ret ?_
  refine r_block ?_
  refine r_then ?_
  refine m_ret0 A39 ?_
  refine fin2 (.slice none 0 0) (.int .i64 2) Try.results35 A39 S34 (rv_tmp (by kernel_rfl)) (rv_tmp (by kernel_rfl)) ⟨?_, S34.kp⟩
  rfl

set_option maxRecDepth 100000 in
set_option maxHeartbeats 400000 in
theorem DeadElements_ok (ne n cap : Nat) (ad : Addr) (xs : List Nat) (lv : Int) (w0 : World) (hn : xs.length = n) (hr : FReads w0 (some ad) xs) (hm : n ≤ 1000) (hcp : n ≤ cap) (h1 : 1 ≤ ne) (hne : n = ne * ne * 64) (h0 : (mxC (ne : Int) xs).2 = 0) (hlv : inB lv 0 2047 = true) :
    Calls Try.prog 35 #[.agg #[.int .i64 (ne : Int), .slice (some ad) n cap], .int .i64 lv] w0 fun e w' => ∃ v, e = .returned (.tuple #[v, .int .i64 0]) ∧ Below w0.heap.size w0 w' ∧ w'.ownsRow w0.heap.size 3 1 v ((deads (alv (mi xs) ne lv (pairsOf ne)) ne).length) (rowI (deads (alv (mi xs) ne lv (pairsOf ne)) ne)) := by
  have S0 := St.start w0
  have hR : Right xs := right_of (mxC_0 h0).2.2
  have hpos : 0 < ne * ne := Nat.mul_pos h1 h1
  have hml : (mi xs).length = ne * ne * 64 := by rw [mi_length, hn, hne]
  have hne3 : ne ≤ 3 := by rcases Nat.lt_or_ge 3 ne with q | q; have := Nat.mul_le_mul q q; omega; exact q
  have hee : ne * ne ≤ 15 := by omega
  refine enterM (n := 62) Try.func35 rfl rfl rfl (fun ac A0 => ?_)
  refine wp_seq ?_
  refine wp_region_lit ?_
  refine s_box (.agg #[.int .i64 (ne : Int), .slice (some ad) n cap]) A0 S0 (by kernel_rfl) rfl (fun g3 ac wc A1 S2 => ?_)
  replace S2 : St _ (⟨g3, 30, #[.int .i64 (ne : Int), .slice (some ad) n cap], true⟩ :: _) _ _ := S2
  refine s_box (.int .i64 lv) A1 S2 (by kernel_rfl) rfl (fun g7 ac wc A5 S6 => ?_)
  replace S6 : St _ (⟨g7, 3, #[.int .i64 lv], true⟩ :: _) _ _ := S6
  refine s_one (.slice none 0 0) A5 S6 (g_assign (by kernel_rfl)) rfl (fun ac A9 => ?_)
  refine s_one (.int .i64 0) A9 S6 (g_assign (by kernel_rfl)) rfl (fun ac A10 => ?_)
  refine wpList_nil ?_
  refine n_then ?_
  refine wp_seq ?_
  refine wp_region_lit ?_
  refine s_one (.agg #[.int .i64 (ne : Int), .slice (some ad) n cap]) A10 S6 (g_load (g := g3) (off := 0) 1 (by kernel_rfl) rfl (by kernel_rfl)) rfl (fun ac A11 => ?_)
  refine s_callSt (T := Nat × Nat × Nat) (fs := #[]) (cp := #[]) (r := [(0, .agg #[.int .i64 (ne : Int), .slice (some ad) n cap])]) #[.agg #[.int .i64 (ne : Int), .slice (some ad) n cap]] (fun u => .tuple #[.pointer (some ⟨u.1, 0, none⟩), .int .i64 0]) (fun u => [⟨u.1, 137, #[.int .i64 (ne : Int), .slice (some (Addr.mk u.2.1 0 none)) (ne * ne) u.2.2], true⟩]) (fun u => [⟨.slice (some (Addr.mk u.2.1 0 none)) (ne * ne) u.2.2, 123, 64, (ne * ne), (rowI (mi xs))⟩]) A11 S6 (open_ok ne n cap ad xs _ hn (hr.kept S6.kp) hm hcp h1 hne h0) (fun u x hx => by simp only [List.mem_cons, List.not_mem_nil, or_false] at hx; subst hx; rfl) Try.call72 (by kernel_rfl) (by kernel_rfl) (by kernel_rfl) rfl (fun u18 ac wc A12 S13 => ?_)
  obtain ⟨gm15, gr16, cp17⟩ := u18
  replace S13 : St w0 [⟨gm15, 137, #[.int .i64 (ne : Int), .slice (some (Addr.mk gr16 0 none)) (ne * ne) cp17], true⟩, ⟨g7, 3, #[.int .i64 lv], true⟩, ⟨g3, 30, #[.int .i64 (ne : Int), .slice (some ad) n cap], true⟩] [⟨.slice (some (Addr.mk gr16 0 none)) (ne * ne) cp17, 123, 64, (ne * ne), (rowI (mi xs))⟩] _ := S13
  refine s_one (.tuple #[.pointer (some ⟨gm15, 0, none⟩), .int .i64 0]) A12 S13 (g_move (by kernel_rfl)) rfl (fun ac A19 => ?_)
  refine s_one (.pointer (some ⟨gm15, 0, none⟩)) A19 S13 (g_extract (u := .tuple #[.pointer (some ⟨gm15, 0, none⟩), .int .i64 0]) (by kernel_rfl) (fun _ => by kernel_rfl)) rfl (fun ac A20 => ?_)
  refine s_one (.int .i64 0) A20 S13 (g_extract (u := .tuple #[.pointer (some ⟨gm15, 0, none⟩), .int .i64 0]) (by kernel_rfl) (fun _ => by kernel_rfl)) rfl (fun ac A21 => ?_)
  refine s_alloc (#[.pointer none]) A21 S13 (by kernel_rfl) rfl (fun g24 ac wc A22 S23 => ?_)
  refine s_store (g := g24) (off := 0) (v := .pointer (some ⟨gm15, 0, none⟩)) 0 (#[.pointer (some ⟨gm15, 0, none⟩)]) A22 S23 (by kernel_rfl) (by kernel_rfl) rfl (by kernel_rfl) (fun wc S26 => ?_)
  refine s_one (.int .i64 0) A22 S26 (g_assign (by kernel_rfl)) rfl (fun ac A28 => ?_)
  refine wpList_nil ?_
  refine n_then ?_
  refine wp_seq ?_
  refine wp_block ?_
  refine wp_seq ?_
  refine wp_region_lit ?_
  refine s_one (.int .i64 0) A28 S26 (g_move (by kernel_rfl)) rfl (fun ac A29 => ?_)
  refine s_one (.bool (decide (0 ≠ 0))) A29 S26 (g_bin (u := .int .i64 0) (k := .int .i64 0) (by kernel_rfl) (by kernel_rfl) (fun _ => by kernel_rfl) b_neq) rfl (fun ac A30 => ?_)
  refine s_one (.bool (decide (0 ≠ 0))) A30 S26 (g_assign (by kernel_rfl)) rfl (fun ac A31 => ?_)
  refine wpList_nil ?_
  refine n_then ?_
  refine c_f (b := (decide (0 ≠ 0))) A31 (by kernel_rfl) (by decide) ?_
  refine wp_seq ?_
  refine wp_region_lit ?_
  refine s_one (.int .i64 lv) A31 S26 (g_load (g := g7) (off := 0) 2 (by kernel_rfl) rfl (by kernel_rfl)) rfl (fun ac A32 => ?_)
  refine s_call (fs := #[]) (cp := #[]) (r := [(0, .int .i64 lv), (0, .int .i64 0), (0, .int .i64 2047)]) #[.int .i64 lv, .int .i64 0, .int .i64 2047] (.bool (inB lv 0 2047)) A32 S26 (sameB (within_any lv 0 2047 _)) Try.call60 (by kernel_rfl) (by kernel_rfl) (by kernel_rfl) rfl (fun ac wc A33 S34 => ?_)
  refine s_one (.bool (!(inB lv 0 2047))) A33 S34 (g_un (u := .bool (inB lv 0 2047)) (by kernel_rfl) (fun _ => by kernel_rfl)) rfl (fun ac A36 => ?_)
  refine s_one (.bool (!(inB lv 0 2047))) A36 S34 (g_assign (by kernel_rfl)) rfl (fun ac A37 => ?_)
  refine wpList_nil ?_
  refine n_then ?_
  refine c_f (b := (!(inB lv 0 2047))) A37 (by kernel_rfl) (b_nt hlv) ?_
  refine wp_skip ?_
  refine n_block ?_
  refine n_then ?_
  refine wp_seq ?_
  refine wp_region_lit ?_
  refine s_one (.pointer (some ⟨g3, 0, none⟩)) A37 S34 (g_field (u := .pointer (some ⟨g3, 0, none⟩)) (by kernel_rfl) (fun _ => by kernel_rfl)) rfl (fun ac A38 => ?_)
  refine s_one (.int .i64 (ne : Int)) A38 S34 (g_load (g := g3) (off := 0) 3 (by kernel_rfl) rfl (by kernel_rfl)) rfl (fun ac A39 => ?_)
  refine s_makeB (e := 4) (bytes := 1) ne A39 S34 (by kernel_rfl) (by kernel_rfl) (by kernel_rfl) (by kernel_rfl) rfl rfl (by omega) (by omega) rfl (fun g42 ac wc A40 S41 => ?_)
  refine s_alloc (#[.slice none 0 0]) A40 S41 (by kernel_rfl) rfl (fun g45 ac wc A43 S44 => ?_)
  refine s_store (g := g45) (off := 0) (v := .slice (some ⟨g42, 0, none⟩) ne ne) 0 (#[.slice (some ⟨g42, 0, none⟩) ne ne]) A43 S44 (by kernel_rfl) (by kernel_rfl) rfl (by kernel_rfl) (fun wc S47 => ?_)
  refine wpList_nil ?_
  refine n_then ?_
  refine wp_seq ?_
  refine wp_seq ?_
  refine wp_region_lit ?_
  refine s_one (.pointer (some ⟨gm15, 0, none⟩)) A43 S47 (g_load (g := g24) (off := 0) 2 (by kernel_rfl) rfl (by kernel_rfl)) rfl (fun ac A49 => ?_)
  refine s_one (.func (.func 86) #[.pointer (some ⟨gm15, 0, none⟩)] #[]) A49 S47 (g_func (us := [(0, .pointer (some ⟨gm15, 0, none⟩))]) (vs := []) (by kernel_rfl) (by kernel_rfl) (fun _ => by kernel_rfl)) rfl (fun ac A50 => ?_)
  refine wpList_nil ?_
  refine n_then ?_
  refine wp_block ?_
  refine c_range (α := Nat × Nat) (gf := 86) (fs := #[.pointer (some ⟨gm15, 0, none⟩)]) (lb := #[]) (encs := fun x => #[.int .i64 (x.1 : Int), .int .i64 (x.2 : Int)]) (G := [⟨gm15, 137, #[.int .i64 (ne : Int), .slice (some (Addr.mk gr16 0 none)) (ne * ne) cp17], true⟩]) (xs := pairsOf ne) A50 S47 (by kernel_rfl) Try.call86 (List.forall_mem_cons.2 ⟨S47.get 3 rfl, (List.forall_mem_nil _)⟩) (all_seq gm15 ne (.slice (some (Addr.mk gr16 0 none)) (ne * ne) cp17) true (by omega)) (fun _ => rfl) (fun x => [(32, .int .i64 (x.1 : Int)), (33, .int .i64 (x.2 : Int))]) (fun _ => (by first | rfl | simp)) (fun _ => (List.forall_mem_cons.2 ⟨(show 32 < 62 by decide), (List.forall_mem_cons.2 ⟨(show 33 < 62 by decide), (List.forall_mem_nil _)⟩)⟩)) (fun pre W => St w0 [⟨g45, 147, #[.slice (some ⟨g42, 0, none⟩) ne ne], true⟩, ⟨g42, 4, (bls (alv (mi xs) ne lv pre)), true⟩, ⟨g24, 130, #[.pointer (some ⟨gm15, 0, none⟩)], true⟩, ⟨gm15, 137, #[.int .i64 (ne : Int), .slice (some (Addr.mk gr16 0 none)) (ne * ne) cp17], true⟩, ⟨g7, 3, #[.int .i64 lv], true⟩, ⟨g3, 30, #[.int .i64 (ne : Int), .slice (some ad) n cap], true⟩] [⟨.slice (some (Addr.mk gr16 0 none)) (ne * ne) cp17, 123, 64, (ne * ne), (rowI (mi xs))⟩] W) (fun _ _ => False) ?_ ?_ ?_ ?_ (fun x => [(9, .int .i64 (x.1 : Int)), (10, .int .i64 (x.2 : Int)), (32, .int .i64 (x.1 : Int)), (33, .int .i64 (x.2 : Int)), (0, .agg #[.int .i64 (ne : Int), .slice (some ad) n cap]), (1, .int .i64 lv), (2, .pointer (some ⟨g3, 0, none⟩)), (3, .pointer (some ⟨g7, 0, none⟩)), (4, .slice none 0 0), (5, .int .i64 0), (15, .agg #[.int .i64 (ne : Int), .slice (some ad) n cap]), (16, .tuple #[.pointer (some ⟨gm15, 0, none⟩), .int .i64 0]), (14, .tuple #[.pointer (some ⟨gm15, 0, none⟩), .int .i64 0]), (17, .pointer (some ⟨gm15, 0, none⟩)), (18, .int .i64 0), (6, .pointer (some ⟨g24, 0, none⟩)), (7, .int .i64 0), (20, .int .i64 0), (21, .bool (decide (0 ≠ 0))), (19, .bool (decide (0 ≠ 0))), (24, .int .i64 lv), (25, .bool (inB lv 0 2047)), (26, .bool (!(inB lv 0 2047))), (23, .bool (!(inB lv 0 2047))), (27, .pointer (some ⟨g3, 0, none⟩)), (28, .int .i64 (ne : Int)), (29, .slice (some ⟨g42, 0, none⟩) ne ne), (8, .pointer (some ⟨g45, 0, none⟩)), (30, .pointer (some ⟨gm15, 0, none⟩)), (31, .func (.func 86) #[.pointer (some ⟨gm15, 0, none⟩)] #[])]) ?_ ?_ ?_ ?_
  · intro pre W W' row hS hg hr
    exact St.round hS hg hr
  · intro pre W W' hS hb
    exact hS.kept hb
  · exact fun _ _ _ _ h _ _ => h
  · exact (St.recell 1 S47 rfl (congrArg bls (alv_nil _ _ _).symm)).sub sub_all sub_all
  · intro l x a' WA K HA HK
    have SA := St.start WA
    replace HA : Fr 62 a' [(33, .int .i64 (x.2 : Int)), (32, .int .i64 (x.1 : Int)), (0, .agg #[.int .i64 (ne : Int), .slice (some ad) n cap]), (1, .int .i64 lv), (2, .pointer (some ⟨g3, 0, none⟩)), (3, .pointer (some ⟨g7, 0, none⟩)), (4, .slice none 0 0), (5, .int .i64 0), (15, .agg #[.int .i64 (ne : Int), .slice (some ad) n cap]), (16, .tuple #[.pointer (some ⟨gm15, 0, none⟩), .int .i64 0]), (14, .tuple #[.pointer (some ⟨gm15, 0, none⟩), .int .i64 0]), (17, .pointer (some ⟨gm15, 0, none⟩)), (18, .int .i64 0), (6, .pointer (some ⟨g24, 0, none⟩)), (7, .int .i64 0), (20, .int .i64 0), (21, .bool (decide (0 ≠ 0))), (19, .bool (decide (0 ≠ 0))), (24, .int .i64 lv), (25, .bool (inB lv 0 2047)), (26, .bool (!(inB lv 0 2047))), (23, .bool (!(inB lv 0 2047))), (27, .pointer (some ⟨g3, 0, none⟩)), (28, .int .i64 (ne : Int)), (29, .slice (some ⟨g42, 0, none⟩) ne ne), (8, .pointer (some ⟨g45, 0, none⟩)), (30, .pointer (some ⟨gm15, 0, none⟩)), (31, .func (.func 86) #[.pointer (some ⟨gm15, 0, none⟩)] #[])] := (HA.slot (HA.slot (HA.slot (HA.slot (HA.slot (HA.slot (HA.slot (HA.slot (HA.slot (HA.slot (HA.slot (HA.slot (HA.slot (HA.slot (HA.slot (HA.slot (HA.slot (HA.slot (HA.slot (HA.slot (HA.slot (HA.slot (HA.slot (HA.slot (HA.slot (HA.slot (HA.slot (HA.slot HA.nil (v := .func (.func 86) #[.pointer (some ⟨gm15, 0, none⟩)] #[]) (by kernel_rfl) rfl) (v := .pointer (some ⟨gm15, 0, none⟩)) (by kernel_rfl) rfl) (v := .pointer (some ⟨g45, 0, none⟩)) (by kernel_rfl) rfl) (v := .slice (some ⟨g42, 0, none⟩) ne ne) (by kernel_rfl) rfl) (v := .int .i64 (ne : Int)) (by kernel_rfl) rfl) (v := .pointer (some ⟨g3, 0, none⟩)) (by kernel_rfl) rfl) (v := .bool (!(inB lv 0 2047))) (by kernel_rfl) rfl) (v := .bool (!(inB lv 0 2047))) (by kernel_rfl) rfl) (v := .bool (inB lv 0 2047)) (by kernel_rfl) rfl) (v := .int .i64 lv) (by kernel_rfl) rfl) (v := .bool (decide (0 ≠ 0))) (by kernel_rfl) rfl) (v := .bool (decide (0 ≠ 0))) (by kernel_rfl) rfl) (v := .int .i64 0) (by kernel_rfl) rfl) (v := .int .i64 0) (by kernel_rfl) rfl) (v := .pointer (some ⟨g24, 0, none⟩)) (by kernel_rfl) rfl) (v := .int .i64 0) (by kernel_rfl) rfl) (v := .pointer (some ⟨gm15, 0, none⟩)) (by kernel_rfl) rfl) (v := .tuple #[.pointer (some ⟨gm15, 0, none⟩), .int .i64 0]) (by kernel_rfl) rfl) (v := .tuple #[.pointer (some ⟨gm15, 0, none⟩), .int .i64 0]) (by kernel_rfl) rfl) (v := .agg #[.int .i64 (ne : Int), .slice (some ad) n cap]) (by kernel_rfl) rfl) (v := .int .i64 0) (by kernel_rfl) rfl) (v := .slice none 0 0) (by kernel_rfl) rfl) (v := .pointer (some ⟨g7, 0, none⟩)) (by kernel_rfl) rfl) (v := .pointer (some ⟨g3, 0, none⟩)) (by kernel_rfl) rfl) (v := .int .i64 lv) (by kernel_rfl) rfl) (v := .agg #[.int .i64 (ne : Int), .slice (some ad) n cap]) (by kernel_rfl) rfl) (v := .int .i64 (x.1 : Int)) (by kernel_rfl) rfl) (v := .int .i64 (x.2 : Int)) (by kernel_rfl) rfl)
    refine wpIn_seq ?_
    refine i_region (noOut_then noOut_assign) (by kernel_rfl) ?_
    refine s_one (.int .i64 (x.1 : Int)) HA SA (g_assign (by kernel_rfl)) rfl (fun ac A51 => ?_)
    refine wpList_nil ?_
    refine n_then ?_
    refine i_region noOut_assign (by kernel_rfl) ?_
    refine s_one (.int .i64 (x.2 : Int)) A51 SA (g_assign (by kernel_rfl)) rfl (fun ac A52 => ?_)
    refine wpList_nil ?_
    refine n_then ?_
    exact HK _ (A52.slot (A52.slot (A52.slot (A52.slot (A52.slot (A52.slot (A52.slot (A52.slot (A52.slot (A52.slot (A52.slot (A52.slot (A52.slot (A52.slot (A52.slot (A52.slot (A52.slot (A52.slot (A52.slot (A52.slot (A52.slot (A52.slot (A52.slot (A52.slot (A52.slot (A52.slot (A52.slot (A52.slot (A52.slot (A52.slot A52.nil (v := .func (.func 86) #[.pointer (some ⟨gm15, 0, none⟩)] #[]) (by kernel_rfl) rfl) (v := .pointer (some ⟨gm15, 0, none⟩)) (by kernel_rfl) rfl) (v := .pointer (some ⟨g45, 0, none⟩)) (by kernel_rfl) rfl) (v := .slice (some ⟨g42, 0, none⟩) ne ne) (by kernel_rfl) rfl) (v := .int .i64 (ne : Int)) (by kernel_rfl) rfl) (v := .pointer (some ⟨g3, 0, none⟩)) (by kernel_rfl) rfl) (v := .bool (!(inB lv 0 2047))) (by kernel_rfl) rfl) (v := .bool (!(inB lv 0 2047))) (by kernel_rfl) rfl) (v := .bool (inB lv 0 2047)) (by kernel_rfl) rfl) (v := .int .i64 lv) (by kernel_rfl) rfl) (v := .bool (decide (0 ≠ 0))) (by kernel_rfl) rfl) (v := .bool (decide (0 ≠ 0))) (by kernel_rfl) rfl) (v := .int .i64 0) (by kernel_rfl) rfl) (v := .int .i64 0) (by kernel_rfl) rfl) (v := .pointer (some ⟨g24, 0, none⟩)) (by kernel_rfl) rfl) (v := .int .i64 0) (by kernel_rfl) rfl) (v := .pointer (some ⟨gm15, 0, none⟩)) (by kernel_rfl) rfl) (v := .tuple #[.pointer (some ⟨gm15, 0, none⟩), .int .i64 0]) (by kernel_rfl) rfl) (v := .tuple #[.pointer (some ⟨gm15, 0, none⟩), .int .i64 0]) (by kernel_rfl) rfl) (v := .agg #[.int .i64 (ne : Int), .slice (some ad) n cap]) (by kernel_rfl) rfl) (v := .int .i64 0) (by kernel_rfl) rfl) (v := .slice none 0 0) (by kernel_rfl) rfl) (v := .pointer (some ⟨g7, 0, none⟩)) (by kernel_rfl) rfl) (v := .pointer (some ⟨g3, 0, none⟩)) (by kernel_rfl) rfl) (v := .int .i64 lv) (by kernel_rfl) rfl) (v := .agg #[.int .i64 (ne : Int), .slice (some ad) n cap]) (by kernel_rfl) rfl) (v := .int .i64 (x.2 : Int)) (by kernel_rfl) rfl) (v := .int .i64 (x.1 : Int)) (by kernel_rfl) rfl) (v := .int .i64 (x.2 : Int)) (by kernel_rfl) rfl) (v := .int .i64 (x.1 : Int)) (by kernel_rfl) rfl)
  · intro l pre x rest a' WB53 hx hS HA
    have SB54 := St.begin hS
    obtain ⟨hx1, hx2, hx3⟩ := pairs_next hx
    have hxk : x.1 * ne + x.2 < ne * ne := pair_lt hx1 hx2
    have hxr : x.2 * ne + x.1 < ne * ne := pair_lt hx2 hx1
    refine wpIn_block ?_
    refine wpIn_seq ?_
    refine i_begin (w0 := ⟨w0, WB53⟩) (by kernel_rfl) (noOut_then (noOut_block noOut_body)) (by kernel_rfl) (SB54.sub (sub_keep (sub_skip sub_all)) sub_all) (fun wc T55 B56 => ?_)
    have S57 := SB54.kept B56
    refine r_take 0 (.pointer (some ⟨gm15, 0, none⟩)) HA T55 (g_load (g := g24) (off := 0) 1 (by kernel_rfl) rfl (by kernel_rfl)) rfl rfl rfl (pf_then (pf_block pf_round)) (by kernel_rfl) (fun ac A58 => ?_)
    refine r_take 1 (.int .i64 (x.1 : Int)) A58 T55 (g_move (by kernel_rfl)) rfl rfl rfl (pf_then (pf_block pf_round)) (by kernel_rfl) (fun ac A59 => ?_)
    refine r_take 2 (.int .i64 (x.2 : Int)) A59 T55 (g_move (by kernel_rfl)) rfl rfl rfl (pf_then (pf_block pf_round)) (by kernel_rfl) (fun ac A60 => ?_)
    refine r_take 5 (.int .i64 lv) A60 T55 (g_load (g := g7) (off := 0) 3 (by kernel_rfl) rfl (by kernel_rfl)) rfl rfl rfl (pf_then (pf_block pf_round)) (by kernel_rfl) (fun ac A61 => ?_)
    refine r_1 (i := 3) (by kernel_rfl) ?_
    refine rs_call (fs := #[]) (cp := #[]) (r := [(0, .pointer (some ⟨gm15, 0, none⟩)), (0, .int .i64 (x.1 : Int)), (0, .int .i64 (x.2 : Int))]) #[.pointer (some ⟨gm15, 0, none⟩), .int .i64 (x.1 : Int), .int .i64 (x.2 : Int)] (.pointer (some ((Addr.mk gr16 0 none).add ((x.1 * ne + x.2) * 64)))) A61 S57 (sub_keep (sub_skip sub_all)) sub_all (mat_at gm15 ne (ne * ne) cp17 x.1 x.2 (Addr.mk gr16 0 none) (mi xs) _ (S57.get 3 rfl) (by have hlen := hml; omega) hxk (by omega)) Try.call73 rfl rfl (by kernel_rfl) (by kernel_rfl) (by kernel_rfl) rfl (fun ac wc A62 S63 => ?_)
    have T65 := S63.sub (sub_keep (sub_skip sub_all)) sub_all
    refine r_1 (i := 4) (by kernel_rfl) ?_
    refine rs_call (fs := #[]) (cp := #[]) (r := [(0, .pointer (some ((Addr.mk gr16 0 none).add ((x.1 * ne + x.2) * 64))))]) #[.pointer (some ((Addr.mk gr16 0 none).add ((x.1 * ne + x.2) * 64)))] (.int .i64 (gr (mi xs) ((x.1 * ne + x.2) * 64) 64)) A62 S63 (sub_keep (sub_skip sub_all)) sub_all (greatest_s (Addr.mk gr16 0 none) (mi xs) ((x.1 * ne + x.2) * 64) _ (row_ir (S63.row 0 rfl)) (by have hlen := hml; omega) (mi_range hR)) Try.call87 rfl rfl (by kernel_rfl) (by kernel_rfl) (by kernel_rfl) rfl (fun ac wc A66 S67 => ?_)
    have T69 := S67.sub (sub_keep (sub_skip sub_all)) sub_all
    refine r_take 6 (.bool (decide (gr (mi xs) ((x.1 * ne + x.2) * 64) 64 > lv))) A66 T69 (g_bin (u := .int .i64 (gr (mi xs) ((x.1 * ne + x.2) * 64) 64)) (k := .int .i64 lv) (by kernel_rfl) (by kernel_rfl) (fun _ => by kernel_rfl) (fun _ => by kernel_rfl)) rfl rfl rfl (pf_then (pf_block pf_round)) (by kernel_rfl) (fun ac A70 => ?_)
    refine r_done (by kernel_rfl) ?_
    refine n_then ?_
    refine i_ifb (b := (decide (gr (mi xs) ((x.1 * ne + x.2) * 64) 64 > lv))) A70 (by kernel_rfl) (fun h71 => ?_) (fun h71 => ?_)
    · have p72 := of_decide_eq_true h71
      refine i_begin (w0 := ⟨w0, WB53⟩) (by kernel_rfl) (noOut_block noOut_body) (by kernel_rfl) (S67.sub (sub_keep (sub_skip sub_all)) sub_all) (fun wc T73 B74 => ?_)
      have S75 := S67.kept B74
      refine r_take 0 (.slice (some ⟨g42, 0, none⟩) ne ne) A70 T73 (g_load (g := g45) (off := 0) 0 (by kernel_rfl) rfl (by kernel_rfl)) rfl rfl rfl (pf_block pf_round) (by kernel_rfl) (fun ac A76 => ?_)
      refine r_take 1 (.int .i64 (x.1 : Int)) A76 T73 (g_move (by kernel_rfl)) rfl rfl rfl (pf_block pf_round) (by kernel_rfl) (fun ac A77 => ?_)
      refine r_take 2 (.slice (some ⟨g42, 0, none⟩) ne ne) A77 T73 (g_load (g := g45) (off := 0) 0 (by kernel_rfl) rfl (by kernel_rfl)) rfl rfl rfl (pf_block pf_round) (by kernel_rfl) (fun ac A78 => ?_)
      refine r_take 3 (.int .i64 (x.2 : Int)) A78 T73 (g_move (by kernel_rfl)) rfl rfl rfl (pf_block pf_round) (by kernel_rfl) (fun ac A79 => ?_)
      refine r_take 4 (.pointer (some ⟨g42, x.1, none⟩)) A79 T73 (g_index (u := .slice (some ⟨g42, 0, none⟩) ne ne) (k := .int .i64 (x.1 : Int)) (by kernel_rfl) (by kernel_rfl) (ix_sl1 (e := 4) (bytes := 1) x.1 (by kernel_rfl) (by omega) (by omega))) rfl rfl rfl (pf_block pf_round) (by kernel_rfl) (fun ac A80 => ?_)
      refine r_1 (i := 5) (by kernel_rfl) ?_
      refine rs_store (g := g42) (off := x.1) (v := .bool true) 1 (bls ((alv (mi xs) ne lv pre).set x.1 true)) A80 S75 (sub_keep (sub_skip sub_all)) sub_all (by kernel_rfl) (by kernel_rfl) rfl ((pv_of (by kernel_rfl) rfl (by rw [bls_size, (alv_length _ _ _ _)]; omega)).trans (congrArg some (bls_set (alv (mi xs) ne lv pre) x.1 true))) rfl rfl (fun wc S82 => ?_)
      have T84 := S82.sub (sub_keep (sub_skip sub_all)) sub_all
      refine r_take 6 (.pointer (some ⟨g42, x.2, none⟩)) A80 T84 (g_index (u := .slice (some ⟨g42, 0, none⟩) ne ne) (k := .int .i64 (x.2 : Int)) (by kernel_rfl) (by kernel_rfl) (ix_sl1 (e := 4) (bytes := 1) x.2 (by kernel_rfl) (by omega) (by omega))) rfl rfl rfl (pf_block pf_round) (by kernel_rfl) (fun ac A85 => ?_)
      refine r_1 (i := 7) (by kernel_rfl) ?_
      refine rs_store (g := g42) (off := x.2) (v := .bool true) 1 (bls (((alv (mi xs) ne lv pre).set x.1 true).set x.2 true)) A85 S82 (sub_keep (sub_skip sub_all)) sub_all (by kernel_rfl) (by kernel_rfl) rfl ((pv_of (by kernel_rfl) rfl (by rw [bls_size, (List.length_set.trans (alv_length _ _ _ _))]; omega)).trans (congrArg some (bls_set ((alv (mi xs) ne lv pre).set x.1 true) x.2 true))) rfl rfl (fun wc S87 => ?_)
      have T89 := S87.sub (sub_keep (sub_skip sub_all)) sub_all
      refine r_done (by kernel_rfl) ?_
      refine n_block ?_
      refine r_end (w0 := w0) S87 (KpG.cons (S87.get 3 rfl) KpG.nil) (fun SE => ?_)
      exact (St.recell 1 SE rfl (congrArg bls (alv_y (show bigB (mi xs) ne lv (x.1, x.2) = true from decide_eq_true p72)))).sub sub_all sub_all
    · have p90 := of_decide_eq_false h71
      refine wpIn_skip ?_
      refine n_block ?_
      refine r_end (w0 := w0) S67 (KpG.cons (S67.get 3 rfl) KpG.nil) (fun SE => ?_)
      exact (St.recell 1 SE rfl (congrArg bls (alv_n (show bigB (mi xs) ne lv (x.1, x.2) = false from decide_eq_false p90)))).sub sub_all sub_all
  · intro D91 a' WD92 hD93 hS hK94 HA95
    have SD96 := St.begin hS
    refine n_block ?_
    refine n_then ?_
    refine wp_seq ?_
    refine wp_region_lit ?_
    refine s_one (.slice none 0 0) HA95 SD96 (g_assign (by kernel_rfl)) rfl (fun ac A97 => ?_)
    refine wpList_nil ?_
    refine n_then ?_
    refine wp_seq ?_
    refine wp_seq ?_
    refine wp_region_lit ?_
    refine s_one (.slice (some ⟨g42, 0, none⟩) ne ne) A97 SD96 (g_load (g := g45) (off := 0) 0 (by kernel_rfl) rfl (by kernel_rfl)) rfl (fun ac A98 => ?_)
    refine s_one (.int .i64 (ne : Int)) A98 SD96 (g_built (r := [(0, .slice (some ⟨g42, 0, none⟩) ne ne)]) (by kernel_rfl) (fun _ _ _ => by kernel_rfl)) rfl (fun ac A99 => ?_)
    refine s_one (.int .i64 0) A99 SD96 (g_move (by kernel_rfl)) rfl (fun ac A100 => ?_)
    refine wpList_nil ?_
    refine n_then ?_
    refine wp_block ?_
    have S101 := SD96.nilRow 3 1
    refine c_loopN (fun mm ac wc => ∃ (k : Nat) (v : Value), mm = ne - k ∧ (k ≤ ne) ∧ Fr ⟨62, [coll D91]⟩ ac [(0, .agg #[.int .i64 (ne : Int), .slice (some ad) n cap]), (1, .int .i64 lv), (2, .pointer (some ⟨g3, 0, none⟩)), (3, .pointer (some ⟨g7, 0, none⟩)), (4, .slice none 0 0), (5, .int .i64 0), (15, .agg #[.int .i64 (ne : Int), .slice (some ad) n cap]), (16, .tuple #[.pointer (some ⟨gm15, 0, none⟩), .int .i64 0]), (14, .tuple #[.pointer (some ⟨gm15, 0, none⟩), .int .i64 0]), (17, .pointer (some ⟨gm15, 0, none⟩)), (18, .int .i64 0), (6, .pointer (some ⟨g24, 0, none⟩)), (7, .int .i64 0), (20, .int .i64 0), (21, .bool (decide (0 ≠ 0))), (19, .bool (decide (0 ≠ 0))), (24, .int .i64 lv), (25, .bool (inB lv 0 2047)), (26, .bool (!(inB lv 0 2047))), (23, .bool (!(inB lv 0 2047))), (27, .pointer (some ⟨g3, 0, none⟩)), (28, .int .i64 (ne : Int)), (29, .slice (some ⟨g42, 0, none⟩) ne ne), (8, .pointer (some ⟨g45, 0, none⟩)), (30, .pointer (some ⟨gm15, 0, none⟩)), (31, .func (.func 86) #[.pointer (some ⟨gm15, 0, none⟩)] #[]), (47, .slice (some ⟨g42, 0, none⟩) ne ne), (48, .int .i64 (ne : Int)), (49, .int .i64 (k : Int)), (11, v)] ∧ St ⟨w0, WD92⟩ [⟨g45, 147, #[.slice (some ⟨g42, 0, none⟩) ne ne], true⟩, ⟨g42, 4, (bls (alv (mi xs) ne lv (pairsOf ne))), true⟩, ⟨g24, 130, #[.pointer (some ⟨gm15, 0, none⟩)], true⟩, ⟨gm15, 137, #[.int .i64 (ne : Int), .slice (some (Addr.mk gr16 0 none)) (ne * ne) cp17], true⟩, ⟨g7, 3, #[.int .i64 lv], true⟩, ⟨g3, 30, #[.int .i64 (ne : Int), .slice (some ad) n cap], true⟩] [⟨v, 3, 1, ((deads (alv (mi xs) ne lv (pairsOf ne)) k).length), (rowI (deads (alv (mi xs) ne lv (pairsOf ne)) k))⟩, ⟨.slice (some (Addr.mk gr16 0 none)) (ne * ne) cp17, 123, 64, (ne * ne), (rowI (mi xs))⟩] wc) _ ⟨0, .slice none 0 0, rfl, Nat.zero_le _, (A100.slot (A100.slot (A100.slot (A100.slot (A100.slot (A100.slot (A100.slot (A100.slot (A100.slot (A100.slot (A100.slot (A100.slot (A100.slot (A100.slot (A100.slot (A100.slot (A100.slot (A100.slot (A100.slot (A100.slot (A100.slot (A100.slot (A100.slot (A100.slot (A100.slot (A100.slot (A100.slot (A100.slot (A100.slot (A100.slot A100.nil (v := .slice none 0 0) (by kernel_rfl) (by first | rfl | simp)) (v := .int .i64 0) (by kernel_rfl) (congrArg (Value.int .i64) (by omega))) (v := .int .i64 (ne : Int)) (by kernel_rfl) rfl) (v := .slice (some ⟨g42, 0, none⟩) ne ne) (by kernel_rfl) rfl) (v := .func (.func 86) #[.pointer (some ⟨gm15, 0, none⟩)] #[]) (by kernel_rfl) rfl) (v := .pointer (some ⟨gm15, 0, none⟩)) (by kernel_rfl) rfl) (v := .pointer (some ⟨g45, 0, none⟩)) (by kernel_rfl) rfl) (v := .slice (some ⟨g42, 0, none⟩) ne ne) (by kernel_rfl) rfl) (v := .int .i64 (ne : Int)) (by kernel_rfl) rfl) (v := .pointer (some ⟨g3, 0, none⟩)) (by kernel_rfl) rfl) (v := .bool (!(inB lv 0 2047))) (by kernel_rfl) rfl) (v := .bool (!(inB lv 0 2047))) (by kernel_rfl) rfl) (v := .bool (inB lv 0 2047)) (by kernel_rfl) rfl) (v := .int .i64 lv) (by kernel_rfl) rfl) (v := .bool (decide (0 ≠ 0))) (by kernel_rfl) rfl) (v := .bool (decide (0 ≠ 0))) (by kernel_rfl) rfl) (v := .int .i64 0) (by kernel_rfl) rfl) (v := .int .i64 0) (by kernel_rfl) rfl) (v := .pointer (some ⟨g24, 0, none⟩)) (by kernel_rfl) rfl) (v := .int .i64 0) (by kernel_rfl) rfl) (v := .pointer (some ⟨gm15, 0, none⟩)) (by kernel_rfl) rfl) (v := .tuple #[.pointer (some ⟨gm15, 0, none⟩), .int .i64 0]) (by kernel_rfl) rfl) (v := .tuple #[.pointer (some ⟨gm15, 0, none⟩), .int .i64 0]) (by kernel_rfl) rfl) (v := .agg #[.int .i64 (ne : Int), .slice (some ad) n cap]) (by kernel_rfl) rfl) (v := .int .i64 0) (by kernel_rfl) rfl) (v := .slice none 0 0) (by kernel_rfl) rfl) (v := .pointer (some ⟨g7, 0, none⟩)) (by kernel_rfl) rfl) (v := .pointer (some ⟨g3, 0, none⟩)) (by kernel_rfl) rfl) (v := .int .i64 lv) (by kernel_rfl) rfl) (v := .agg #[.int .i64 (ne : Int), .slice (some ad) n cap]) (by kernel_rfl) rfl), (St.rerow 0 S101 rfl ⟨rfl, rfl⟩).sub sub_all sub_all⟩ ?_
    rintro mm ac wc ⟨k, v, hm104, hk, A102, S103⟩
    have hdl := deads_len (alv (mi xs) ne lv (pairsOf ne)) k
    refine wp_seq ?_
    refine wp_region_lit ?_
    refine s_one (.bool (decide ((k : Int) < (ne : Int)))) A102 S103 (g_bin (u := .int .i64 (k : Int)) (k := .int .i64 (ne : Int)) (by kernel_rfl) (by kernel_rfl) (fun _ => by kernel_rfl) (fun _ => by kernel_rfl)) rfl (fun ac A105 => ?_)
    refine wpList_nil ?_
    refine n_then ?_
    refine wp_seq ?_
    refine c_ifb (b := (decide ((k : Int) < (ne : Int)))) A105 (by kernel_rfl) (fun h106 => ?_) (fun h106 => ?_)
    · have p107 := of_decide_eq_true h106
      refine wp_skip ?_
      refine n_then ?_
      refine wp_seq ?_
      refine wp_block ?_
      refine wp_seq ?_
      refine wp_region_lit ?_
      refine s_one (.int .i64 (k : Int)) A105 S103 (g_move (by kernel_rfl)) rfl (fun ac A108 => ?_)
      refine s_one (.pointer (some ⟨g42, k, none⟩)) A108 S103 (g_index (u := .slice (some ⟨g42, 0, none⟩) ne ne) (k := .int .i64 (k : Int)) (by kernel_rfl) (by kernel_rfl) (ix_sl1 (e := 4) (bytes := 1) k (by kernel_rfl) (by omega) (by omega))) rfl (fun ac A109 => ?_)
      refine s_one (.bool (nthB (alv (mi xs) ne lv (pairsOf ne)) k)) A109 S103 (g_load (g := g42) (off := k) 1 (by kernel_rfl) rfl (rv_of (by kernel_rfl) (bls_get (by rw [(alv_length _ _ _ _)]; omega)))) rfl (fun ac A110 => ?_)
      refine s_one (.int .i64 (k : Int)) A110 S103 (g_assign (by kernel_rfl)) rfl (fun ac A111 => ?_)
      refine s_one (.bool (nthB (alv (mi xs) ne lv (pairsOf ne)) k)) A111 S103 (g_assign (by kernel_rfl)) rfl (fun ac A112 => ?_)
      refine wpList_nil ?_
      refine n_then ?_
      refine wp_seq ?_
      refine wp_region_lit ?_
      refine s_one (.bool (nthB (alv (mi xs) ne lv (pairsOf ne)) k)) A112 S103 (g_move (by kernel_rfl)) rfl (fun ac A113 => ?_)
      refine s_one (.bool (!(nthB (alv (mi xs) ne lv (pairsOf ne)) k))) A113 S103 (g_un (u := .bool (nthB (alv (mi xs) ne lv (pairsOf ne)) k)) (by kernel_rfl) (fun _ => by kernel_rfl)) rfl (fun ac A114 => ?_)
      refine wpList_nil ?_
      refine n_then ?_
      refine c_ifb (b := (!(nthB (alv (mi xs) ne lv (pairsOf ne)) k))) A114 (by kernel_rfl) (fun h115 => ?_) (fun h115 => ?_)
      · have h116 : nthB (alv (mi xs) ne lv (pairsOf ne)) k = false := by simpa using h115
        refine wp_region_lit ?_
        refine s_one (v) A114 S103 (g_move (by kernel_rfl)) rfl (fun ac A117 => ?_)
        refine s_one (.int .i64 (k : Int)) A117 S103 (g_move (by kernel_rfl)) rfl (fun ac A118 => ?_)
        refine s_bs (e := 3) (r := [(0, .int .i64 (k : Int))]) (#[.int .i64 (k : Int)]) A118 S103 (by kernel_rfl) (by kernel_rfl) rfl (fun g121 ac wc A119 S120 => ?_)
        refine s_append (e := 3) (size := 1) (bytes := 8) (v := v) (g := g121) (m' := 1) (c := 1) 0 0 [.int .i64 (k : Int)] A119 S120 (by kernel_rfl) (by kernel_rfl) (by kernel_rfl) rfl rfl (by kernel_rfl) rfl (by kernel_rfl) (by omega) (by omega) rfl (fun v125 ac wc A122 S123 => ?_)
        refine s_one (v125) A122 S123 (g_assign (by kernel_rfl)) rfl (fun ac A126 => ?_)
        refine wpList_nil ?_
        refine n_block ?_
        refine n_then ?_
        refine wp_region_lit ?_
        refine s_one (.int .i64 ((k : Int) + 1)) A126 S123 (g_bin (u := .int .i64 (k : Int)) (k := .int .i64 1) (by kernel_rfl) (by kernel_rfl) (fun _ => by kernel_rfl) (b_add (by omega))) rfl (fun ac A127 => ?_)
        refine s_one (.int .i64 ((k : Int) + 1)) A127 S123 (g_move (by kernel_rfl)) rfl (fun ac A128 => ?_)
        refine wpList_nil ?_
        refine n_then ?_
        refine ⟨_, ⟨k + 1, v125, rfl, by omega, (A128.slot (A128.slot (A128.slot (A128.slot (A128.slot (A128.slot (A128.slot (A128.slot (A128.slot (A128.slot (A128.slot (A128.slot (A128.slot (A128.slot (A128.slot (A128.slot (A128.slot (A128.slot (A128.slot (A128.slot (A128.slot (A128.slot (A128.slot (A128.slot (A128.slot (A128.slot (A128.slot (A128.slot (A128.slot (A128.slot A128.nil (v := v125) (by kernel_rfl) rfl) (v := .int .i64 ((k : Int) + 1)) (by kernel_rfl) (congrArg (Value.int .i64) (by omega))) (v := .int .i64 (ne : Int)) (by kernel_rfl) rfl) (v := .slice (some ⟨g42, 0, none⟩) ne ne) (by kernel_rfl) rfl) (v := .func (.func 86) #[.pointer (some ⟨gm15, 0, none⟩)] #[]) (by kernel_rfl) rfl) (v := .pointer (some ⟨gm15, 0, none⟩)) (by kernel_rfl) rfl) (v := .pointer (some ⟨g45, 0, none⟩)) (by kernel_rfl) rfl) (v := .slice (some ⟨g42, 0, none⟩) ne ne) (by kernel_rfl) rfl) (v := .int .i64 (ne : Int)) (by kernel_rfl) rfl) (v := .pointer (some ⟨g3, 0, none⟩)) (by kernel_rfl) rfl) (v := .bool (!(inB lv 0 2047))) (by kernel_rfl) rfl) (v := .bool (!(inB lv 0 2047))) (by kernel_rfl) rfl) (v := .bool (inB lv 0 2047)) (by kernel_rfl) rfl) (v := .int .i64 lv) (by kernel_rfl) rfl) (v := .bool (decide (0 ≠ 0))) (by kernel_rfl) rfl) (v := .bool (decide (0 ≠ 0))) (by kernel_rfl) rfl) (v := .int .i64 0) (by kernel_rfl) rfl) (v := .int .i64 0) (by kernel_rfl) rfl) (v := .pointer (some ⟨g24, 0, none⟩)) (by kernel_rfl) rfl) (v := .int .i64 0) (by kernel_rfl) rfl) (v := .pointer (some ⟨gm15, 0, none⟩)) (by kernel_rfl) rfl) (v := .tuple #[.pointer (some ⟨gm15, 0, none⟩), .int .i64 0]) (by kernel_rfl) rfl) (v := .tuple #[.pointer (some ⟨gm15, 0, none⟩), .int .i64 0]) (by kernel_rfl) rfl) (v := .agg #[.int .i64 (ne : Int), .slice (some ad) n cap]) (by kernel_rfl) rfl) (v := .int .i64 0) (by kernel_rfl) rfl) (v := .slice none 0 0) (by kernel_rfl) rfl) (v := .pointer (some ⟨g7, 0, none⟩)) (by kernel_rfl) rfl) (v := .pointer (some ⟨g3, 0, none⟩)) (by kernel_rfl) rfl) (v := .int .i64 lv) (by kernel_rfl) rfl) (v := .agg #[.int .i64 (ne : Int), .slice (some ad) n cap]) (by kernel_rfl) rfl), (St.rerow 0 S123 rfl ⟨by rw [deads_n h116, List.length_append]; rfl, by rw [deads_n h116]; exact rowI_one_snoc _ _⟩).sub (sub_skip sub_all) sub_all⟩, ?_⟩
        omega
      · have h129 : nthB (alv (mi xs) ne lv (pairsOf ne)) k = true := by simpa using h115
        refine wp_skip ?_
        refine n_block ?_
        refine n_then ?_
        refine wp_region_lit ?_
        refine s_one (.int .i64 ((k : Int) + 1)) A114 S103 (g_bin (u := .int .i64 (k : Int)) (k := .int .i64 1) (by kernel_rfl) (by kernel_rfl) (fun _ => by kernel_rfl) (b_add (by omega))) rfl (fun ac A130 => ?_)
        refine s_one (.int .i64 ((k : Int) + 1)) A130 S103 (g_move (by kernel_rfl)) rfl (fun ac A131 => ?_)
        refine wpList_nil ?_
        refine n_then ?_
        refine ⟨_, ⟨k + 1, v, rfl, by omega, (A131.slot (A131.slot (A131.slot (A131.slot (A131.slot (A131.slot (A131.slot (A131.slot (A131.slot (A131.slot (A131.slot (A131.slot (A131.slot (A131.slot (A131.slot (A131.slot (A131.slot (A131.slot (A131.slot (A131.slot (A131.slot (A131.slot (A131.slot (A131.slot (A131.slot (A131.slot (A131.slot (A131.slot (A131.slot (A131.slot A131.nil (v := v) (by kernel_rfl) rfl) (v := .int .i64 ((k : Int) + 1)) (by kernel_rfl) (congrArg (Value.int .i64) (by omega))) (v := .int .i64 (ne : Int)) (by kernel_rfl) rfl) (v := .slice (some ⟨g42, 0, none⟩) ne ne) (by kernel_rfl) rfl) (v := .func (.func 86) #[.pointer (some ⟨gm15, 0, none⟩)] #[]) (by kernel_rfl) rfl) (v := .pointer (some ⟨gm15, 0, none⟩)) (by kernel_rfl) rfl) (v := .pointer (some ⟨g45, 0, none⟩)) (by kernel_rfl) rfl) (v := .slice (some ⟨g42, 0, none⟩) ne ne) (by kernel_rfl) rfl) (v := .int .i64 (ne : Int)) (by kernel_rfl) rfl) (v := .pointer (some ⟨g3, 0, none⟩)) (by kernel_rfl) rfl) (v := .bool (!(inB lv 0 2047))) (by kernel_rfl) rfl) (v := .bool (!(inB lv 0 2047))) (by kernel_rfl) rfl) (v := .bool (inB lv 0 2047)) (by kernel_rfl) rfl) (v := .int .i64 lv) (by kernel_rfl) rfl) (v := .bool (decide (0 ≠ 0))) (by kernel_rfl) rfl) (v := .bool (decide (0 ≠ 0))) (by kernel_rfl) rfl) (v := .int .i64 0) (by kernel_rfl) rfl) (v := .int .i64 0) (by kernel_rfl) rfl) (v := .pointer (some ⟨g24, 0, none⟩)) (by kernel_rfl) rfl) (v := .int .i64 0) (by kernel_rfl) rfl) (v := .pointer (some ⟨gm15, 0, none⟩)) (by kernel_rfl) rfl) (v := .tuple #[.pointer (some ⟨gm15, 0, none⟩), .int .i64 0]) (by kernel_rfl) rfl) (v := .tuple #[.pointer (some ⟨gm15, 0, none⟩), .int .i64 0]) (by kernel_rfl) rfl) (v := .agg #[.int .i64 (ne : Int), .slice (some ad) n cap]) (by kernel_rfl) rfl) (v := .int .i64 0) (by kernel_rfl) rfl) (v := .slice none 0 0) (by kernel_rfl) rfl) (v := .pointer (some ⟨g7, 0, none⟩)) (by kernel_rfl) rfl) (v := .pointer (some ⟨g3, 0, none⟩)) (by kernel_rfl) rfl) (v := .int .i64 lv) (by kernel_rfl) rfl) (v := .agg #[.int .i64 (ne : Int), .slice (some ad) n cap]) (by kernel_rfl) rfl), (St.rerow 0 S103 rfl ⟨by rw [deads_y h129], by rw [deads_y h129]⟩).sub sub_all sub_all⟩, ?_⟩
        omega
    · have p132 := of_decide_eq_false h106
      refine wp_exit ?_
      refine x_then ?_
      refine x_then ?_
      refine x_hit ?_
      refine n_then ?_
      refine wp_seq ?_
      refine wp_region_lit ?_
      refine s_one (v) A105 S103 (g_move (by kernel_rfl)) rfl (fun ac A133 => ?_)
      refine s_one (v) A133 S103 (g_assign (by kernel_rfl)) rfl (fun ac A134 => ?_)
      refine s_one (.int .i64 0) A134 S103 (g_assign (by kernel_rfl)) rfl (fun ac A135 => ?_)
      refine wpList_nil ?_
      refine n_then ?_
      refine wp_ret ?_
      refine m_ret (w0 := w0) A135 S103 hK94 hD93 (fun ac wc A136 S137 => ?_)
      have ek : k = ne := by omega
      have SR : St w0 [⟨g45, 147, #[.slice (some ⟨g42, 0, none⟩) ne ne], true⟩, ⟨g42, 4, (bls (alv (mi xs) ne lv (pairsOf ne))), true⟩, ⟨g24, 130, #[.pointer (some ⟨gm15, 0, none⟩)], true⟩, ⟨gm15, 137, #[.int .i64 (ne : Int), .slice (some (Addr.mk gr16 0 none)) (ne * ne) cp17], true⟩, ⟨g7, 3, #[.int .i64 lv], true⟩, ⟨g3, 30, #[.int .i64 (ne : Int), .slice (some ad) n cap], true⟩] [⟨v, 3, 1, ((deads (alv (mi xs) ne lv (pairsOf ne)) ne).length), (rowI (deads (alv (mi xs) ne lv (pairsOf ne)) ne))⟩, ⟨.slice (some (Addr.mk gr16 0 none)) (ne * ne) cp17, 123, 64, (ne * ne), (rowI (mi xs))⟩] _ := St.rerow 0 S137 rfl ⟨by rw [ek], by rw [ek]⟩
      obtain ⟨A138, cap139, rfl⟩ := row_slice (v := v) (m := (deads (alv (mi xs) ne lv (pairsOf ne)) ne).length) (SR.row 0 rfl)
      refine fin2 (.slice A138 ((deads (alv (mi xs) ne lv (pairsOf ne)) ne).length) cap139) (.int .i64 0) Try.results35 A136 SR (rv_tmp (by kernel_rfl)) (rv_tmp (by kernel_rfl)) ?_
      have bw := SR.kp
      have ow := SR.row 0 rfl
      exact ⟨_, rfl, bw, ow⟩
  · exact fun _ _ _ _ _ h => h.elim

end Go.Proofs.Ytcijkniijomcjaa
