/- What is kept, as the reference says it. -/
import Derived.Test.YtnbimpkihpaldaaD6
import Derived.Test.YtnbimpkihpaldaaLa
namespace Go.Proofs.Ytnbimpkihpaldaa
open Go.RowKit Go.Cpl

set_option maxRecDepth 100000 in
set_option maxHeartbeats 400000 in
theorem last_s (EA : Option Addr) (en ec : Nat) (el : List Int) (s : Int) (w0 : World) (hre : IReads w0 EA el) (hel : el.length = en * 3) (hen : en ≤ 1000) :
    Calls Try.prog 43 #[.slice EA en ec, .int .i64 s] w0 fun e w' => e = .returned (.int .i64 (laE el s en)) ∧ Below w0.heap.size w0 w' := by
  have S0 := St.start w0
  refine enter (n := 21) Try.func43 rfl rfl rfl (fun ac A0 => ?_)
  refine wp_seq ?_
  refine wp_region_lit ?_
  refine s_one (.int .i64 0) A0 S0 (g_assign (by kernel_rfl)) rfl (fun ac A1 => ?_)
  refine wpList_nil ?_
  refine n_then ?_
  refine wp_seq ?_
  refine wp_seq ?_
  refine wp_region_lit ?_
  refine s_one (.slice EA en ec) A1 S0 (g_move (by kernel_rfl)) rfl (fun ac A2 => ?_)
  refine s_one (.int .i64 (en : Int)) A2 S0 (g_built (r := [(0, .slice EA en ec)]) (by kernel_rfl) (fun _ _ _ => by kernel_rfl)) rfl (fun ac A3 => ?_)
  refine s_one (.int .i64 ((en : Int) - 1)) A3 S0 (g_bin (u := .int .i64 (en : Int)) (k := .int .i64 1) (by kernel_rfl) (by kernel_rfl) (fun _ => by kernel_rfl) (b_sub (by omega))) rfl (fun ac A4 => ?_)
  refine s_one (.int .i64 ((en : Int) - 1)) A4 S0 (g_assign (by kernel_rfl)) rfl (fun ac A5 => ?_)
  refine wpList_nil ?_
  refine n_then ?_
  refine wp_block ?_
  refine c_loopN (fun mm ac wc => ∃ (j : Nat), mm = j ∧ (j ≤ en) ∧ (laE el s en = laE el s j) ∧ Fr 21 ac [(0, .slice EA en ec), (1, .int .i64 s), (6, .slice EA en ec), (7, .int .i64 (en : Int)), (8, .int .i64 ((en : Int) - 1)), (5, .int .i64 ((j : Int) - 1))] ∧ St w0 [] [] wc) _ ⟨en, rfl, Nat.le_refl _, rfl, (A5.slot (A5.slot (A5.slot (A5.slot (A5.slot (A5.slot A5.nil (v := .int .i64 ((en : Int) - 1)) (by kernel_rfl) rfl) (v := .int .i64 ((en : Int) - 1)) (by kernel_rfl) rfl) (v := .int .i64 (en : Int)) (by kernel_rfl) rfl) (v := .slice EA en ec) (by kernel_rfl) rfl) (v := .int .i64 s) (by kernel_rfl) rfl) (v := .slice EA en ec) (by kernel_rfl) rfl), S0.sub sub_all sub_all⟩ ?_
  rintro mm ac wc ⟨j, hm8, hj, hla, A6, S7⟩
  refine wp_seq ?_
  refine wp_seq ?_
  refine wp_region_lit ?_
  refine s_one (.int .i64 ((j : Int) - 1)) A6 S7 (g_move (by kernel_rfl)) rfl (fun ac A9 => ?_)
  refine s_one (.bool (decide ((j : Int) - 1 ≥ 0))) A9 S7 (g_bin (u := .int .i64 ((j : Int) - 1)) (k := .int .i64 0) (by kernel_rfl) (by kernel_rfl) (fun _ => by kernel_rfl) (fun _ => by kernel_rfl)) rfl (fun ac A10 => ?_)
  refine wpList_nil ?_
  refine n_then ?_
  refine c_ifb (b := (decide ((j : Int) - 1 ≥ 0))) A10 (by kernel_rfl) (fun h11 => ?_) (fun h11 => ?_)
  · have p12 := of_decide_eq_true h11
    refine wp_skip ?_
    refine n_then ?_
    refine wp_seq ?_
    refine wp_block ?_
    refine wp_seq ?_
    refine wp_region_lit ?_
    refine s_one (.slice EA en ec) A10 S7 (g_move (by kernel_rfl)) rfl (fun ac A13 => ?_)
    refine s_one (.int .i64 ((j : Int) - 1)) A13 S7 (g_move (by kernel_rfl)) rfl (fun ac A14 => ?_)
    obtain ⟨ad15, rfl, _⟩ := hre ((j - 1) * 3) (by have hlen := hel; omega)
    refine s_one (.pointer (some (ad15.add ((j - 1) * 3)))) A14 S7 (g_index (u := .slice (some ad15) en ec) (k := .int .i64 ((j : Int) - 1)) (by kernel_rfl) (by kernel_rfl) (ix_xs (e := 30) (bytes := 24) (j - 1) (by kernel_rfl) (by omega) (by omega))) rfl (fun ac A16 => ?_)
    refine s_one (.pointer (some (ad15.add ((j - 1) * 3 + 1)))) A16 S7 (g_field (u := .pointer (some (ad15.add ((j - 1) * 3)))) (by kernel_rfl) (fld_x (o := 1) (by kernel_rfl))) rfl (fun ac A17 => ?_)
    refine s_one (.int .i64 (nthI el ((j - 1) * 3 + 1))) A17 S7 (g_loadXI (l := el) (k := (j - 1) * 3 + 1) (by kernel_rfl) hre (by have hlen := hel; omega) (by kernel_rfl)) rfl (fun ac A18 => ?_)
    refine s_one (.int .i64 s) A18 S7 (g_move (by kernel_rfl)) rfl (fun ac A19 => ?_)
    refine s_one (.bool (decide (nthI el ((j - 1) * 3 + 1) = s))) A19 S7 (g_bin (u := .int .i64 (nthI el ((j - 1) * 3 + 1))) (k := .int .i64 s) (by kernel_rfl) (by kernel_rfl) (fun _ => by kernel_rfl) b_eql) rfl (fun ac A20 => ?_)
    refine wpList_nil ?_
    refine n_then ?_
    refine c_ifb (b := (decide (nthI el ((j - 1) * 3 + 1) = s))) A20 (by kernel_rfl) (fun h21 => ?_) (fun h21 => ?_)
    · have p22 := of_decide_eq_true h21
      refine wp_seq ?_
      refine wp_region_lit ?_
      refine s_one (.int .i64 ((j : Int) - 1)) A20 S7 (g_move (by kernel_rfl)) rfl (fun ac A23 => ?_)
      refine s_one (.int .i64 ((j : Int) - 1)) A23 S7 (g_assign (by kernel_rfl)) rfl (fun ac A24 => ?_)
      refine wpList_nil ?_
      refine n_then ?_
      refine wp_ret ?_
      refine r_block ?_
      refine r_then ?_
      refine r_then ?_
      refine r_block ?_
      refine r_then ?_
      refine fin1 (.int .i64 ((j : Int) - 1)) Try.results43 A24 S7 (rv_tmp (by kernel_rfl)) ⟨?_, S7.kp⟩
      rw [hla, laE_y (by omega) p22]
    · have p25 := of_decide_eq_false h21
      refine wp_skip ?_
      refine n_block ?_
      refine n_then ?_
      refine wp_region_lit ?_
      refine s_one (.int .i64 ((j : Int) - 1)) A20 S7 (g_move (by kernel_rfl)) rfl (fun ac A26 => ?_)
      refine s_one (.int .i64 ((j : Int) - 1 - 1)) A26 S7 (g_bin (u := .int .i64 ((j : Int) - 1)) (k := .int .i64 1) (by kernel_rfl) (by kernel_rfl) (fun _ => by kernel_rfl) (b_sub (by omega))) rfl (fun ac A27 => ?_)
      refine s_one (.int .i64 ((j : Int) - 1 - 1)) A27 S7 (g_assign (by kernel_rfl)) rfl (fun ac A28 => ?_)
      refine wpList_nil ?_
      refine n_then ?_
      refine ⟨_, ⟨j - 1, rfl, by omega, hla.trans (laE_n (by omega) p25), (A28.slot (A28.slot (A28.slot (A28.slot (A28.slot (A28.slot A28.nil (v := .int .i64 ((j : Int) - 1 - 1)) (by kernel_rfl) (congrArg (Value.int .i64) (by omega))) (v := .int .i64 ((en : Int) - 1)) (by kernel_rfl) rfl) (v := .int .i64 (en : Int)) (by kernel_rfl) rfl) (v := .slice (some ad15) en ec) (by kernel_rfl) (by first | rfl | simp)) (v := .int .i64 s) (by kernel_rfl) rfl) (v := .slice (some ad15) en ec) (by kernel_rfl) (by first | rfl | simp)), S7.sub sub_all sub_all⟩, ?_⟩
      omega
  · have p29 := of_decide_eq_false h11
    refine wp_exit ?_
    refine x_then ?_
    refine x_then ?_
    refine x_hit ?_
    refine n_then ?_
    refine wp_seq ?_
    refine wp_region_lit ?_
    refine s_one (.int .i64 (-1)) A10 S7 (g_assign (by kernel_rfl)) rfl (fun ac A30 => ?_)
    refine wpList_nil ?_
    refine n_then ?_
    refine wp_ret ?_
    refine fin1 (.int .i64 (-1)) Try.results43 A30 S7 (rv_tmp (by kernel_rfl)) ⟨?_, S7.kp⟩
    obtain rfl : j = 0 := by omega
    rw [hla]; rfl

set_option maxRecDepth 100000 in
set_option maxHeartbeats 400000 in
theorem Kept_s (A : Option Addr) (cap : Nat) (ss : List Sp) (EA : Option Addr) (en ec : Nat) (el : List Int) (i : Nat) (w0 : World) (hi : i < ss.length) (hr : SpReads w0 A ss) (hre : IReads w0 EA el) (hel : el.length = en * 3) (hen : en ≤ 61) (bd : ∀ k, k < en → (0 ≤ nthI el (k * 3) ∧ nthI el (k * 3) ≤ 100000000) ∧ -2000 ≤ nthI el (k * 3 + 2) ∧ nthI el (k * 3 + 2) ≤ 2000) :
    Calls Try.prog 42 #[.slice A ss.length cap, .slice EA en ec, .int .i64 (i : Int)] w0 fun e w' => e = .returned (.bool (bk ss el i en).kp) ∧ Below w0.heap.size w0 w' := by
  have S0 := St.start w0
  have hlr := laE_range el (i : Int) en
  refine enter (n := 53) Try.func42 rfl rfl rfl (fun ac A0 => ?_)
  refine wp_seq ?_
  refine wp_region_lit ?_
  refine s_one (.bool false) A0 S0 (g_assign (by kernel_rfl)) rfl (fun ac A1 => ?_)
  refine wpList_nil ?_
  refine n_then ?_
  refine wp_seq ?_
  refine wp_region_lit ?_
  refine s_one (.slice EA en ec) A1 S0 (g_move (by kernel_rfl)) rfl (fun ac A2 => ?_)
  refine s_one (.int .i64 (i : Int)) A2 S0 (g_move (by kernel_rfl)) rfl (fun ac A3 => ?_)
  refine s_call (fs := #[]) (cp := #[]) (r := [(0, .slice EA en ec), (0, .int .i64 (i : Int))]) #[.slice EA en ec, .int .i64 (i : Int)] (.int .i64 (laE el (i : Int) en)) A3 S0 (last_s EA en ec el (i : Int) _ (hre.kept S0.kp) hel (by omega)) Try.call43 (by kernel_rfl) (by kernel_rfl) (by kernel_rfl) rfl (fun ac wc A4 S5 => ?_)
  refine s_one (.int .i64 (laE el (i : Int) en)) A4 S5 (g_assign (by kernel_rfl)) rfl (fun ac A7 => ?_)
  refine wpList_nil ?_
  refine n_then ?_
  refine wp_seq ?_
  refine wp_seq ?_
  refine wp_region_lit ?_
  refine s_one (.int .i64 (laE el (i : Int) en)) A7 S5 (g_move (by kernel_rfl)) rfl (fun ac A8 => ?_)
  refine s_one (.bool (decide (laE el (i : Int) en < 0))) A8 S5 (g_bin (u := .int .i64 (laE el (i : Int) en)) (k := .int .i64 0) (by kernel_rfl) (by kernel_rfl) (fun _ => by kernel_rfl) (fun _ => by kernel_rfl)) rfl (fun ac A9 => ?_)
  refine wpList_nil ?_
  refine n_then ?_
  refine c_ifb (b := (decide (laE el (i : Int) en < 0))) A9 (by kernel_rfl) (fun h10 => ?_) (fun h10 => ?_)
  · have p11 := of_decide_eq_true h10
    refine wp_seq ?_
    refine wp_region_lit ?_
    refine s_one (.bool false) A9 S5 (g_assign (by kernel_rfl)) rfl (fun ac A12 => ?_)
    refine wpList_nil ?_
    refine n_then ?_
    refine wp_ret ?_
    refine r_then ?_
    refine fin1 (.bool false) Try.results42 A12 S5 (rv_tmp (by kernel_rfl)) ⟨?_, S5.kp⟩
    rw [kp_none (by omega)]
  · have p13 := of_decide_eq_false h10
    refine wp_skip ?_
    refine n_then ?_
    refine wp_seq ?_
    refine wp_seq ?_
    refine wp_region_lit ?_
    refine s_one (.int .i64 (laE el (i : Int) en)) A9 S5 (g_move (by kernel_rfl)) rfl (fun ac A14 => ?_)
    refine s_one (.int .i64 (laE el (i : Int) en + 1)) A14 S5 (g_bin (u := .int .i64 (laE el (i : Int) en)) (k := .int .i64 1) (by kernel_rfl) (by kernel_rfl) (fun _ => by kernel_rfl) (b_add (by omega))) rfl (fun ac A15 => ?_)
    refine s_one (.int .i64 (laE el (i : Int) en + 1)) A15 S5 (g_assign (by kernel_rfl)) rfl (fun ac A16 => ?_)
    refine wpList_nil ?_
    refine n_then ?_
    refine wp_block ?_
    refine c_loopN (fun mm ac wc => ∃ (k : Nat), mm = en - k ∧ ((laE el (i : Int) en).toNat < k ∧ k ≤ en) ∧ (bk ss el i k = ⟨true, true, nthI el ((laE el (i : Int) en).toNat * 3), nthI el ((laE el (i : Int) en).toNat * 3 + 2)⟩) ∧ Fr 53 ac [(0, .slice A ss.length cap), (1, .slice EA en ec), (2, .int .i64 (i : Int)), (9, .slice EA en ec), (10, .int .i64 (i : Int)), (11, .int .i64 (laE el (i : Int) en)), (7, .int .i64 (laE el (i : Int) en)), (12, .int .i64 (laE el (i : Int) en)), (13, .bool (decide (laE el (i : Int) en < 0))), (14, .int .i64 (laE el (i : Int) en)), (15, .int .i64 (laE el (i : Int) en + 1)), (8, .int .i64 (k : Int))] ∧ St w0 [] [] wc) _ ⟨(laE el (i : Int) en).toNat + 1, rfl, ⟨by omega, by omega⟩, bk_at (n := en) (by omega), (A16.slot (A16.slot (A16.slot (A16.slot (A16.slot (A16.slot (A16.slot (A16.slot (A16.slot (A16.slot (A16.slot (A16.slot A16.nil (v := .int .i64 (laE el (i : Int) en + 1)) (by kernel_rfl) (congrArg (Value.int .i64) (by omega))) (v := .int .i64 (laE el (i : Int) en + 1)) (by kernel_rfl) rfl) (v := .int .i64 (laE el (i : Int) en)) (by kernel_rfl) rfl) (v := .bool (decide (laE el (i : Int) en < 0))) (by kernel_rfl) rfl) (v := .int .i64 (laE el (i : Int) en)) (by kernel_rfl) rfl) (v := .int .i64 (laE el (i : Int) en)) (by kernel_rfl) rfl) (v := .int .i64 (laE el (i : Int) en)) (by kernel_rfl) rfl) (v := .int .i64 (i : Int)) (by kernel_rfl) rfl) (v := .slice EA en ec) (by kernel_rfl) rfl) (v := .int .i64 (i : Int)) (by kernel_rfl) rfl) (v := .slice EA en ec) (by kernel_rfl) rfl) (v := .slice A ss.length cap) (by kernel_rfl) rfl), S5.sub sub_all sub_all⟩ ?_
    rintro mm ac wc ⟨k, hm19, hk, hb, A17, S18⟩
    have hw9 := bd k
    have hw8 := bd (laE el (i : Int) en).toNat (by omega)
    refine wp_seq ?_
    refine wp_seq ?_
    refine wp_region_lit ?_
    refine s_one (.int .i64 (k : Int)) A17 S18 (g_move (by kernel_rfl)) rfl (fun ac A20 => ?_)
    refine s_one (.slice EA en ec) A20 S18 (g_move (by kernel_rfl)) rfl (fun ac A21 => ?_)
    refine s_one (.int .i64 (en : Int)) A21 S18 (g_built (r := [(0, .slice EA en ec)]) (by kernel_rfl) (fun _ _ _ => by kernel_rfl)) rfl (fun ac A22 => ?_)
    refine s_one (.bool (decide ((k : Int) < (en : Int)))) A22 S18 (g_bin (u := .int .i64 (k : Int)) (k := .int .i64 (en : Int)) (by kernel_rfl) (by kernel_rfl) (fun _ => by kernel_rfl) (fun _ => by kernel_rfl)) rfl (fun ac A23 => ?_)
    refine wpList_nil ?_
    refine n_then ?_
    refine c_ifb (b := (decide ((k : Int) < (en : Int)))) A23 (by kernel_rfl) (fun h24 => ?_) (fun h24 => ?_)
    · have p25 := of_decide_eq_true h24
      refine wp_skip ?_
      refine n_then ?_
      refine wp_seq ?_
      refine wp_block ?_
      refine wp_seq ?_
      refine c_cut (fun ac wc => Fr 53 ac [(52, .bool ((decide (abI (nthI el (k * 3 + 2) - (nthI el (((laE el (i : Int) en).toNat) * 3 + 2))) > (spK ss i).wa)) || (((spK ss i).ne).contains (nthI el (k * 3 + 1))))), (0, .slice A ss.length cap), (1, .slice EA en ec), (2, .int .i64 (i : Int)), (9, .slice EA en ec), (10, .int .i64 (i : Int)), (11, .int .i64 (laE el (i : Int) en)), (7, .int .i64 (laE el (i : Int) en)), (12, .int .i64 (laE el (i : Int) en)), (13, .bool (decide (laE el (i : Int) en < 0))), (14, .int .i64 (laE el (i : Int) en)), (15, .int .i64 (laE el (i : Int) en + 1)), (8, .int .i64 (k : Int)), (16, .int .i64 (k : Int)), (17, .slice EA en ec), (18, .int .i64 (en : Int)), (19, .bool (decide ((k : Int) < (en : Int))))] ∧ St w0 [] [] wc) ?_ ?_
      · refine r_begin (w0 := w0) (by kernel_rfl) (S18.sub sub_all sub_all) (fun wc T26 B27 => ?_)
        have S28 := S18.kept B27
        refine r_take 0 (.slice EA en ec) A23 T26 (g_move (by kernel_rfl)) rfl rfl rfl (pf_then (pf_then (pf_block (pf_then (pf_then (pf_block (pf_then pf_body))))))) (by kernel_rfl) (fun ac A29 => ?_)
        refine r_take 1 (.int .i64 (k : Int)) A29 T26 (g_move (by kernel_rfl)) rfl rfl rfl (pf_then (pf_then (pf_block (pf_then (pf_then (pf_block (pf_then pf_body))))))) (by kernel_rfl) (fun ac A30 => ?_)
        obtain ⟨ad31, rfl, _⟩ := hre (k * 3) (by have hlen := hel; omega)
        refine r_take 2 (.pointer (some (ad31.add (k * 3)))) A30 T26 (g_index (u := .slice (some ad31) en ec) (k := .int .i64 (k : Int)) (by kernel_rfl) (by kernel_rfl) (ix_xs (e := 30) (bytes := 24) k (by kernel_rfl) (by omega) (by omega))) rfl rfl rfl (pf_then (pf_then (pf_block (pf_then (pf_then (pf_block (pf_then pf_body))))))) (by kernel_rfl) (fun ac A32 => ?_)
        refine r_take 3 (.pointer (some (ad31.add (k * 3 + 2)))) A32 T26 (g_field (u := .pointer (some (ad31.add (k * 3)))) (by kernel_rfl) (fld_x (o := 2) (by kernel_rfl))) rfl rfl rfl (pf_then (pf_then (pf_block (pf_then (pf_then (pf_block (pf_then pf_body))))))) (by kernel_rfl) (fun ac A33 => ?_)
        refine r_take 4 (.int .i64 (nthI el (k * 3 + 2))) A33 T26 (g_loadXI (l := el) (k := k * 3 + 2) (by kernel_rfl) hre (by have hlen := hel; omega) (by kernel_rfl)) rfl rfl rfl (pf_then (pf_then (pf_block (pf_then (pf_then (pf_block (pf_then pf_body))))))) (by kernel_rfl) (fun ac A34 => ?_)
        refine r_take 5 (.slice (some ad31) en ec) A34 T26 (g_move (by kernel_rfl)) rfl rfl rfl (pf_then (pf_then (pf_block (pf_then (pf_then (pf_block (pf_then pf_body))))))) (by kernel_rfl) (fun ac A35 => ?_)
        refine r_take 6 (.int .i64 (laE el (i : Int) en)) A35 T26 (g_move (by kernel_rfl)) rfl rfl rfl (pf_then (pf_then (pf_block (pf_then (pf_then (pf_block (pf_then pf_body))))))) (by kernel_rfl) (fun ac A36 => ?_)
        refine r_take 7 (.pointer (some (ad31.add (((laE el (i : Int) en).toNat) * 3)))) A36 T26 (g_index (u := .slice (some ad31) en ec) (k := .int .i64 (laE el (i : Int) en)) (by kernel_rfl) (by kernel_rfl) (ix_xs (e := 30) (bytes := 24) ((laE el (i : Int) en).toNat) (by kernel_rfl) (by omega) (by omega))) rfl rfl rfl (pf_then (pf_then (pf_block (pf_then (pf_then (pf_block (pf_then pf_body))))))) (by kernel_rfl) (fun ac A37 => ?_)
        refine r_take 8 (.pointer (some (ad31.add (((laE el (i : Int) en).toNat) * 3 + 2)))) A37 T26 (g_field (u := .pointer (some (ad31.add (((laE el (i : Int) en).toNat) * 3)))) (by kernel_rfl) (fld_x (o := 2) (by kernel_rfl))) rfl rfl rfl (pf_then (pf_then (pf_block (pf_then (pf_then (pf_block (pf_then pf_body))))))) (by kernel_rfl) (fun ac A38 => ?_)
        refine r_take 9 (.int .i64 (nthI el (((laE el (i : Int) en).toNat) * 3 + 2))) A38 T26 (g_loadXI (l := el) (k := ((laE el (i : Int) en).toNat) * 3 + 2) (by kernel_rfl) hre (by have hlen := hel; omega) (by kernel_rfl)) rfl rfl rfl (pf_then (pf_then (pf_block (pf_then (pf_then (pf_block (pf_then pf_body))))))) (by kernel_rfl) (fun ac A39 => ?_)
        refine r_take 10 (.int .i64 (nthI el (k * 3 + 2) - (nthI el (((laE el (i : Int) en).toNat) * 3 + 2)))) A39 T26 (g_bin (u := .int .i64 (nthI el (k * 3 + 2))) (k := .int .i64 (nthI el (((laE el (i : Int) en).toNat) * 3 + 2))) (by kernel_rfl) (by kernel_rfl) (fun _ => by kernel_rfl) (b_sub (by omega))) rfl rfl rfl (pf_then (pf_then (pf_block (pf_then (pf_then (pf_block (pf_then pf_body))))))) (by kernel_rfl) (fun ac A40 => ?_)
        refine r_take 12 (.slice A ss.length cap) A40 T26 (g_move (by kernel_rfl)) rfl rfl rfl (pf_then (pf_then (pf_block (pf_then (pf_then (pf_block (pf_then pf_body))))))) (by kernel_rfl) (fun ac A41 => ?_)
        refine r_take 13 (.int .i64 (i : Int)) A41 T26 (g_move (by kernel_rfl)) rfl rfl rfl (pf_then (pf_then (pf_block (pf_then (pf_then (pf_block (pf_then pf_body))))))) (by kernel_rfl) (fun ac A42 => ?_)
        obtain ⟨ad43, B44, c45, he46, hs47⟩ := hr i (by omega)
        have hm48 := hs47.hm
        have hm49 := hs47.hn
        refine r_take 14 (.pointer (some (ad43.add (i * 4)))) A42 T26 (g_index (u := .slice A ss.length cap) (k := .int .i64 (i : Int)) (by kernel_rfl) (by kernel_rfl) (ix_xsB (e := 59) (size := 4) (bytes := 56) i (by kernel_rfl) (by omega) (by omega) he46)) rfl rfl rfl (pf_then (pf_then (pf_block (pf_then (pf_then (pf_block (pf_then pf_body))))))) (by kernel_rfl) (fun ac A50 => ?_)
        refine r_take 15 (.pointer (some (ad43.add (i * 4 + 2)))) A50 T26 (g_field (u := .pointer (some (ad43.add (i * 4)))) (by kernel_rfl) (fld_x (x := i * 4) (o := 2) (by kernel_rfl))) rfl rfl rfl (pf_then (pf_then (pf_block (pf_then (pf_then (pf_block (pf_then pf_body))))))) (by kernel_rfl) (fun ac A51 => ?_)
        refine r_take 16 (.int .i64 ((spK ss i).wa)) A51 T26 (g_loadX (ad := ad43.add (i * 4 + 2)) (by kernel_rfl) (sp_cell (j := 2) hs47 rfl rfl) (by kernel_rfl)) rfl rfl rfl (pf_then (pf_then (pf_block (pf_then (pf_then (pf_block (pf_then pf_body))))))) (by kernel_rfl) (fun ac A52 => ?_)
        refine r_1 (i := 11) (by kernel_rfl) ?_
        refine rs_call (fs := #[]) (cp := #[]) (r := [(0, .int .i64 (nthI el (k * 3 + 2) - (nthI el (((laE el (i : Int) en).toNat) * 3 + 2))))]) #[.int .i64 (nthI el (k * 3 + 2) - (nthI el (((laE el (i : Int) en).toNat) * 3 + 2)))] (.int .i64 (abI (nthI el (k * 3 + 2) - (nthI el (((laE el (i : Int) en).toNat) * 3 + 2))))) A52 S28 sub_all sub_all (Size_s (nthI el (k * 3 + 2) - (nthI el (((laE el (i : Int) en).toNat) * 3 + 2))) _ (by omega)) Try.call49 rfl rfl (by kernel_rfl) (by kernel_rfl) (by kernel_rfl) rfl (fun ac wc A53 S54 => ?_)
        have T56 := S54.sub sub_all sub_all
        refine r_take 17 (.bool (decide (abI (nthI el (k * 3 + 2) - (nthI el (((laE el (i : Int) en).toNat) * 3 + 2))) > (spK ss i).wa))) A53 T56 (g_bin (u := .int .i64 (abI (nthI el (k * 3 + 2) - (nthI el (((laE el (i : Int) en).toNat) * 3 + 2))))) (k := .int .i64 ((spK ss i).wa)) (by kernel_rfl) (by kernel_rfl) (fun _ => by kernel_rfl) (fun _ => by kernel_rfl)) rfl rfl rfl (pf_then (pf_then (pf_block (pf_then (pf_then (pf_block (pf_then pf_body))))))) (by kernel_rfl) (fun ac A57 => ?_)
        refine r_take 18 (.bool (decide (abI (nthI el (k * 3 + 2) - (nthI el (((laE el (i : Int) en).toNat) * 3 + 2))) > (spK ss i).wa))) A57 T56 (g_move (by kernel_rfl)) rfl rfl rfl (pf_then (pf_then (pf_block (pf_then (pf_then (pf_block (pf_then pf_body))))))) (by kernel_rfl) (fun ac A58 => ?_)
        refine by_bool (decide (abI (nthI el (k * 3 + 2) - (nthI el (((laE el (i : Int) en).toNat) * 3 + 2))) > (spK ss i).wa)) (fun h59 => ?_) (fun h59 => ?_)
        · have p60 := of_decide_eq_true h59
          refine r_skip 19 A58 T56 rfl (want_f (dj := 40) (b := (decide (abI (nthI el (k * 3 + 2) - (nthI el (((laE el (i : Int) en).toNat) * 3 + 2))) > (spK ss i).wa))) A58 rfl (by kernel_rfl) (by kernel_rfl) h59) rfl (pf_then (pf_then (pf_block (pf_then (pf_then (pf_block (pf_then pf_body))))))) (by kernel_rfl) (fun ac A61 => ?_)
          refine r_skip 20 A61 T56 rfl (want_f (dj := 40) (b := (decide (abI (nthI el (k * 3 + 2) - (nthI el (((laE el (i : Int) en).toNat) * 3 + 2))) > (spK ss i).wa))) A61 rfl (by kernel_rfl) (by kernel_rfl) h59) rfl (pf_then (pf_then (pf_block (pf_then (pf_then (pf_block (pf_then pf_body))))))) (by kernel_rfl) (fun ac A62 => ?_)
          refine r_skip 21 A62 T56 rfl (want_f (dj := 40) (b := (decide (abI (nthI el (k * 3 + 2) - (nthI el (((laE el (i : Int) en).toNat) * 3 + 2))) > (spK ss i).wa))) A62 rfl (by kernel_rfl) (by kernel_rfl) h59) rfl (pf_then (pf_then (pf_block (pf_then (pf_then (pf_block (pf_then pf_body))))))) (by kernel_rfl) (fun ac A63 => ?_)
          refine r_skip 22 A63 T56 rfl (want_f (dj := 40) (b := (decide (abI (nthI el (k * 3 + 2) - (nthI el (((laE el (i : Int) en).toNat) * 3 + 2))) > (spK ss i).wa))) A63 rfl (by kernel_rfl) (by kernel_rfl) h59) rfl (pf_then (pf_then (pf_block (pf_then (pf_then (pf_block (pf_then pf_body))))))) (by kernel_rfl) (fun ac A64 => ?_)
          refine r_skip 23 A64 T56 rfl (want_f (dj := 40) (b := (decide (abI (nthI el (k * 3 + 2) - (nthI el (((laE el (i : Int) en).toNat) * 3 + 2))) > (spK ss i).wa))) A64 rfl (by kernel_rfl) (by kernel_rfl) h59) rfl (pf_then (pf_then (pf_block (pf_then (pf_then (pf_block (pf_then pf_body))))))) (by kernel_rfl) (fun ac A65 => ?_)
          refine r_skip 24 A65 T56 rfl (want_f (dj := 40) (b := (decide (abI (nthI el (k * 3 + 2) - (nthI el (((laE el (i : Int) en).toNat) * 3 + 2))) > (spK ss i).wa))) A65 rfl (by kernel_rfl) (by kernel_rfl) h59) rfl (pf_then (pf_then (pf_block (pf_then (pf_then (pf_block (pf_then pf_body))))))) (by kernel_rfl) (fun ac A66 => ?_)
          refine r_skip 25 A66 T56 rfl (want_f (dj := 40) (b := (decide (abI (nthI el (k * 3 + 2) - (nthI el (((laE el (i : Int) en).toNat) * 3 + 2))) > (spK ss i).wa))) A66 rfl (by kernel_rfl) (by kernel_rfl) h59) rfl (pf_then (pf_then (pf_block (pf_then (pf_then (pf_block (pf_then pf_body))))))) (by kernel_rfl) (fun ac A67 => ?_)
          refine r_skip 26 A67 T56 rfl (want_f (dj := 40) (b := (decide (abI (nthI el (k * 3 + 2) - (nthI el (((laE el (i : Int) en).toNat) * 3 + 2))) > (spK ss i).wa))) A67 rfl (by kernel_rfl) (by kernel_rfl) h59) rfl (pf_then (pf_then (pf_block (pf_then (pf_then (pf_block (pf_then pf_body))))))) (by kernel_rfl) (fun ac A68 => ?_)
          refine r_skip 27 A68 T56 rfl (want_f (dj := 40) (b := (decide (abI (nthI el (k * 3 + 2) - (nthI el (((laE el (i : Int) en).toNat) * 3 + 2))) > (spK ss i).wa))) A68 rfl (by kernel_rfl) (by kernel_rfl) h59) rfl (pf_then (pf_then (pf_block (pf_then (pf_then (pf_block (pf_then pf_body))))))) (by kernel_rfl) (fun ac A69 => ?_)
          refine r_skip 28 A69 T56 rfl (want_f (dj := 40) (b := (decide (abI (nthI el (k * 3 + 2) - (nthI el (((laE el (i : Int) en).toNat) * 3 + 2))) > (spK ss i).wa))) A69 rfl (by kernel_rfl) (by kernel_rfl) h59) rfl (pf_then (pf_then (pf_block (pf_then (pf_then (pf_block (pf_then pf_body))))))) (by kernel_rfl) (fun ac A70 => ?_)
          refine r_skip 29 A70 T56 rfl (want_f (dj := 40) (b := (decide (abI (nthI el (k * 3 + 2) - (nthI el (((laE el (i : Int) en).toNat) * 3 + 2))) > (spK ss i).wa))) A70 rfl (by kernel_rfl) (by kernel_rfl) h59) rfl (pf_then (pf_then (pf_block (pf_then (pf_then (pf_block (pf_then pf_body))))))) (by kernel_rfl) (fun ac A71 => ?_)
          refine r_take 30 (.bool true) A71 T56 (g_pick_t (b := (decide (abI (nthI el (k * 3 + 2) - (nthI el (((laE el (i : Int) en).toNat) * 3 + 2))) > (spK ss i).wa))) (by kernel_rfl) h59 (by kernel_rfl)) rfl rfl rfl (pf_then (pf_then (pf_block (pf_then (pf_then (pf_block (pf_then pf_body))))))) (by kernel_rfl) (fun ac A72 => ?_)
          refine r_done (by kernel_rfl) ?_
          refine n_then ?_
          exact ⟨(A72.slot (A72.slot (A72.slot (A72.slot (A72.slot (A72.slot (A72.slot (A72.slot (A72.slot (A72.slot (A72.slot (A72.slot (A72.slot (A72.slot (A72.slot (A72.slot (A72.slot A72.nil (v := .bool (decide ((k : Int) < (en : Int)))) (by kernel_rfl) rfl) (v := .int .i64 (en : Int)) (by kernel_rfl) rfl) (v := .slice (some ad31) en ec) (by kernel_rfl) rfl) (v := .int .i64 (k : Int)) (by kernel_rfl) rfl) (v := .int .i64 (k : Int)) (by kernel_rfl) rfl) (v := .int .i64 (laE el (i : Int) en + 1)) (by kernel_rfl) rfl) (v := .int .i64 (laE el (i : Int) en)) (by kernel_rfl) rfl) (v := .bool (decide (laE el (i : Int) en < 0))) (by kernel_rfl) rfl) (v := .int .i64 (laE el (i : Int) en)) (by kernel_rfl) rfl) (v := .int .i64 (laE el (i : Int) en)) (by kernel_rfl) rfl) (v := .int .i64 (laE el (i : Int) en)) (by kernel_rfl) rfl) (v := .int .i64 (i : Int)) (by kernel_rfl) rfl) (v := .slice (some ad31) en ec) (by kernel_rfl) rfl) (v := .int .i64 (i : Int)) (by kernel_rfl) rfl) (v := .slice (some ad31) en ec) (by kernel_rfl) rfl) (v := .slice A ss.length cap) (by kernel_rfl) rfl) (v := .bool true) (by kernel_rfl) (congrArg Value.bool (b_ot1 h59).symm)), S54.sub sub_all sub_all⟩
        · have p73 := of_decide_eq_false h59
          refine r_take 19 (.slice A ss.length cap) A58 T56 (g_move (by kernel_rfl)) rfl (want_t (dj := 40) (b := (decide (abI (nthI el (k * 3 + 2) - (nthI el (((laE el (i : Int) en).toNat) * 3 + 2))) > (spK ss i).wa))) A58 rfl (by kernel_rfl) (by kernel_rfl) h59) rfl (pf_then (pf_then (pf_block (pf_then (pf_then (pf_block (pf_then pf_body))))))) (by kernel_rfl) (fun ac A74 => ?_)
          refine r_take 20 (.int .i64 (i : Int)) A74 T56 (g_move (by kernel_rfl)) rfl (want_t (dj := 40) (b := (decide (abI (nthI el (k * 3 + 2) - (nthI el (((laE el (i : Int) en).toNat) * 3 + 2))) > (spK ss i).wa))) A74 rfl (by kernel_rfl) (by kernel_rfl) h59) rfl (pf_then (pf_then (pf_block (pf_then (pf_then (pf_block (pf_then pf_body))))))) (by kernel_rfl) (fun ac A75 => ?_)
          obtain ⟨ad76, B77, c78, he79, hs80⟩ := hr i (by omega)
          have hm81 := hs80.hm
          have hm82 := hs80.hn
          refine r_take 21 (.pointer (some (ad76.add (i * 4)))) A75 T56 (g_index (u := .slice A ss.length cap) (k := .int .i64 (i : Int)) (by kernel_rfl) (by kernel_rfl) (ix_xsB (e := 59) (size := 4) (bytes := 56) i (by kernel_rfl) (by omega) (by omega) he79)) rfl (want_t (dj := 40) (b := (decide (abI (nthI el (k * 3 + 2) - (nthI el (((laE el (i : Int) en).toNat) * 3 + 2))) > (spK ss i).wa))) A75 rfl (by kernel_rfl) (by kernel_rfl) h59) rfl (pf_then (pf_then (pf_block (pf_then (pf_then (pf_block (pf_then pf_body))))))) (by kernel_rfl) (fun ac A83 => ?_)
          refine r_take 22 (.pointer (some (ad76.add (i * 4 + 3)))) A83 T56 (g_field (u := .pointer (some (ad76.add (i * 4)))) (by kernel_rfl) (fld_x (x := i * 4) (o := 3) (by kernel_rfl))) rfl (want_t (dj := 40) (b := (decide (abI (nthI el (k * 3 + 2) - (nthI el (((laE el (i : Int) en).toNat) * 3 + 2))) > (spK ss i).wa))) A83 rfl (by kernel_rfl) (by kernel_rfl) h59) rfl (pf_then (pf_then (pf_block (pf_then (pf_then (pf_block (pf_then pf_body))))))) (by kernel_rfl) (fun ac A84 => ?_)
          refine r_take 23 (.slice B77 ((spK ss i).ne.length) c78) A84 T56 (g_loadX (ad := ad76.add (i * 4 + 3)) (by kernel_rfl) (sp_cell (j := 3) hs80 rfl rfl) (by kernel_rfl)) rfl (want_t (dj := 40) (b := (decide (abI (nthI el (k * 3 + 2) - (nthI el (((laE el (i : Int) en).toNat) * 3 + 2))) > (spK ss i).wa))) A84 rfl (by kernel_rfl) (by kernel_rfl) h59) rfl (pf_then (pf_then (pf_block (pf_then (pf_then (pf_block (pf_then pf_body))))))) (by kernel_rfl) (fun ac A85 => ?_)
          refine r_take 24 (.slice (some ad31) en ec) A85 T56 (g_move (by kernel_rfl)) rfl (want_t (dj := 40) (b := (decide (abI (nthI el (k * 3 + 2) - (nthI el (((laE el (i : Int) en).toNat) * 3 + 2))) > (spK ss i).wa))) A85 rfl (by kernel_rfl) (by kernel_rfl) h59) rfl (pf_then (pf_then (pf_block (pf_then (pf_then (pf_block (pf_then pf_body))))))) (by kernel_rfl) (fun ac A86 => ?_)
          refine r_take 25 (.int .i64 (k : Int)) A86 T56 (g_move (by kernel_rfl)) rfl (want_t (dj := 40) (b := (decide (abI (nthI el (k * 3 + 2) - (nthI el (((laE el (i : Int) en).toNat) * 3 + 2))) > (spK ss i).wa))) A86 rfl (by kernel_rfl) (by kernel_rfl) h59) rfl (pf_then (pf_then (pf_block (pf_then (pf_then (pf_block (pf_then pf_body))))))) (by kernel_rfl) (fun ac A87 => ?_)
          refine r_take 26 (.pointer (some (ad31.add (k * 3)))) A87 T56 (g_index (u := .slice (some ad31) en ec) (k := .int .i64 (k : Int)) (by kernel_rfl) (by kernel_rfl) (ix_xs (e := 30) (bytes := 24) k (by kernel_rfl) (by omega) (by omega))) rfl (want_t (dj := 40) (b := (decide (abI (nthI el (k * 3 + 2) - (nthI el (((laE el (i : Int) en).toNat) * 3 + 2))) > (spK ss i).wa))) A87 rfl (by kernel_rfl) (by kernel_rfl) h59) rfl (pf_then (pf_then (pf_block (pf_then (pf_then (pf_block (pf_then pf_body))))))) (by kernel_rfl) (fun ac A88 => ?_)
          refine r_take 27 (.pointer (some (ad31.add (k * 3 + 1)))) A88 T56 (g_field (u := .pointer (some (ad31.add (k * 3)))) (by kernel_rfl) (fld_x (o := 1) (by kernel_rfl))) rfl (want_t (dj := 40) (b := (decide (abI (nthI el (k * 3 + 2) - (nthI el (((laE el (i : Int) en).toNat) * 3 + 2))) > (spK ss i).wa))) A88 rfl (by kernel_rfl) (by kernel_rfl) h59) rfl (pf_then (pf_then (pf_block (pf_then (pf_then (pf_block (pf_then pf_body))))))) (by kernel_rfl) (fun ac A89 => ?_)
          refine r_take 28 (.int .i64 (nthI el (k * 3 + 1))) A89 T56 (g_loadXI (l := el) (k := k * 3 + 1) (by kernel_rfl) hre (by have hlen := hel; omega) (by kernel_rfl)) rfl (want_t (dj := 40) (b := (decide (abI (nthI el (k * 3 + 2) - (nthI el (((laE el (i : Int) en).toNat) * 3 + 2))) > (spK ss i).wa))) A89 rfl (by kernel_rfl) (by kernel_rfl) h59) rfl (pf_then (pf_then (pf_block (pf_then (pf_then (pf_block (pf_then pf_body))))))) (by kernel_rfl) (fun ac A90 => ?_)
          refine r_1 (i := 29) (by kernel_rfl) ?_
          refine rs_call (fs := #[]) (cp := #[]) (r := [(0, .slice B77 ((spK ss i).ne.length) c78), (0, .int .i64 (nthI el (k * 3 + 1)))]) #[.slice B77 ((spK ss i).ne.length) c78, .int .i64 (nthI el (k * 3 + 1))] (.bool (((spK ss i).ne).contains (nthI el (k * 3 + 1)))) A90 S54 sub_all sub_all (Has_s B77 ((spK ss i).ne.length) c78 ((spK ss i).ne) (nthI el (k * 3 + 1)) _ (hs80.rd.kept S54.kp) (show (spK ss i).ne.length = (spK ss i).ne.length * 1 by omega) (by omega)) Try.call50 rfl (want_t (dj := 40) (b := (decide (abI (nthI el (k * 3 + 2) - (nthI el (((laE el (i : Int) en).toNat) * 3 + 2))) > (spK ss i).wa))) A90 rfl (by kernel_rfl) (by kernel_rfl) h59) (by kernel_rfl) (by kernel_rfl) (by kernel_rfl) rfl (fun ac wc A91 S92 => ?_)
          have T94 := S92.sub sub_all sub_all
          refine r_take 30 (.bool (((spK ss i).ne).contains (nthI el (k * 3 + 1)))) A91 T94 (g_pick_f (b := (decide (abI (nthI el (k * 3 + 2) - (nthI el (((laE el (i : Int) en).toNat) * 3 + 2))) > (spK ss i).wa))) (by kernel_rfl) h59 (by kernel_rfl)) rfl rfl rfl (pf_then (pf_then (pf_block (pf_then (pf_then (pf_block (pf_then pf_body))))))) (by kernel_rfl) (fun ac A95 => ?_)
          refine r_done (by kernel_rfl) ?_
          refine n_then ?_
          exact ⟨(A95.slot (A95.slot (A95.slot (A95.slot (A95.slot (A95.slot (A95.slot (A95.slot (A95.slot (A95.slot (A95.slot (A95.slot (A95.slot (A95.slot (A95.slot (A95.slot (A95.slot A95.nil (v := .bool (decide ((k : Int) < (en : Int)))) (by kernel_rfl) rfl) (v := .int .i64 (en : Int)) (by kernel_rfl) rfl) (v := .slice (some ad31) en ec) (by kernel_rfl) rfl) (v := .int .i64 (k : Int)) (by kernel_rfl) rfl) (v := .int .i64 (k : Int)) (by kernel_rfl) rfl) (v := .int .i64 (laE el (i : Int) en + 1)) (by kernel_rfl) rfl) (v := .int .i64 (laE el (i : Int) en)) (by kernel_rfl) rfl) (v := .bool (decide (laE el (i : Int) en < 0))) (by kernel_rfl) rfl) (v := .int .i64 (laE el (i : Int) en)) (by kernel_rfl) rfl) (v := .int .i64 (laE el (i : Int) en)) (by kernel_rfl) rfl) (v := .int .i64 (laE el (i : Int) en)) (by kernel_rfl) rfl) (v := .int .i64 (i : Int)) (by kernel_rfl) rfl) (v := .slice (some ad31) en ec) (by kernel_rfl) rfl) (v := .int .i64 (i : Int)) (by kernel_rfl) rfl) (v := .slice (some ad31) en ec) (by kernel_rfl) rfl) (v := .slice A ss.length cap) (by kernel_rfl) rfl) (v := .bool (((spK ss i).ne).contains (nthI el (k * 3 + 1)))) (by kernel_rfl) (congrArg Value.bool (b_or_f h59 (Eq.refl (((spK ss i).ne).contains (nthI el (k * 3 + 1))))).symm)), S92.sub sub_all sub_all⟩
      · rintro ac wc ⟨A96, S97⟩
        refine n_then ?_
        refine c_ifb (b := ((decide (abI (nthI el (k * 3 + 2) - (nthI el (((laE el (i : Int) en).toNat) * 3 + 2))) > (spK ss i).wa)) || (((spK ss i).ne).contains (nthI el (k * 3 + 1))))) A96 (by kernel_rfl) (fun h98 => ?_) (fun h98 => ?_)
        · refine wp_seq ?_
          refine wp_region_lit ?_
          refine s_one (.bool false) A96 S97 (g_assign (by kernel_rfl)) rfl (fun ac A99 => ?_)
          refine wpList_nil ?_
          refine n_then ?_
          refine wp_ret ?_
          refine r_block ?_
          refine r_then ?_
          refine r_then ?_
          refine r_block ?_
          refine r_then ?_
          refine fin1 (.bool false) Try.results42 A99 S97 (rv_tmp (by kernel_rfl)) ⟨?_, S97.kp⟩
          rw [kp_cut (n := en) (a := (laE el (i : Int) en).toNat) (by omega) (by omega) (by omega) hb h98]
        · have h100 := (Bool.or_eq_false_iff.1 h98).1
          have p101 := of_decide_eq_false h100
          have h102 := (Bool.or_eq_false_iff.1 h98).2
          refine wp_skip ?_
          refine n_block ?_
          refine n_then ?_
          refine wp_region_lit ?_
          refine s_one (.int .i64 (k : Int)) A96 S97 (g_move (by kernel_rfl)) rfl (fun ac A103 => ?_)
          refine s_one (.int .i64 ((k : Int) + 1)) A103 S97 (g_bin (u := .int .i64 (k : Int)) (k := .int .i64 1) (by kernel_rfl) (by kernel_rfl) (fun _ => by kernel_rfl) (b_add (by omega))) rfl (fun ac A104 => ?_)
          refine s_one (.int .i64 ((k : Int) + 1)) A104 S97 (g_assign (by kernel_rfl)) rfl (fun ac A105 => ?_)
          refine wpList_nil ?_
          refine n_then ?_
          refine ⟨_, ⟨k + 1, rfl, ⟨by omega, by omega⟩, kp_step (n := en) (a := (laE el (i : Int) en).toNat) (by omega) (by omega) (by omega) hb h98, (A105.slot (A105.slot (A105.slot (A105.slot (A105.slot (A105.slot (A105.slot (A105.slot (A105.slot (A105.slot (A105.slot (A105.slot A105.nil (v := .int .i64 ((k : Int) + 1)) (by kernel_rfl) (congrArg (Value.int .i64) (by omega))) (v := .int .i64 (laE el (i : Int) en + 1)) (by kernel_rfl) rfl) (v := .int .i64 (laE el (i : Int) en)) (by kernel_rfl) rfl) (v := .bool (decide (laE el (i : Int) en < 0))) (by kernel_rfl) rfl) (v := .int .i64 (laE el (i : Int) en)) (by kernel_rfl) rfl) (v := .int .i64 (laE el (i : Int) en)) (by kernel_rfl) rfl) (v := .int .i64 (laE el (i : Int) en)) (by kernel_rfl) rfl) (v := .int .i64 (i : Int)) (by kernel_rfl) rfl) (v := .slice EA en ec) (by kernel_rfl) rfl) (v := .int .i64 (i : Int)) (by kernel_rfl) rfl) (v := .slice EA en ec) (by kernel_rfl) rfl) (v := .slice A ss.length cap) (by kernel_rfl) rfl), S97.sub sub_all sub_all⟩, ?_⟩
          omega
    · have p106 := of_decide_eq_false h24
      refine wp_exit ?_
      refine x_then ?_
      refine x_then ?_
      refine x_hit ?_
      refine n_then ?_
      refine wp_seq ?_
      refine wp_region_lit ?_
      refine s_one (.bool true) A23 S18 (g_assign (by kernel_rfl)) rfl (fun ac A107 => ?_)
      refine wpList_nil ?_
      refine n_then ?_
      refine wp_ret ?_
      refine fin1 (.bool true) Try.results42 A107 S18 (rv_tmp (by kernel_rfl)) ⟨?_, S18.kp⟩
      obtain rfl : k = en := by omega
      rw [hb]

end Go.Proofs.Ytnbimpkihpaldaa
