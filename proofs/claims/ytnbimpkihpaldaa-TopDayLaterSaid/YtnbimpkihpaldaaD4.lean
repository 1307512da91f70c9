/- What becomes of steps. -/
import Derived.Test.YtnbimpkihpaldaaD3
namespace Go.Proofs.Ytnbimpkihpaldaa
open Go.RowKit Go.Cpl

set_option maxRecDepth 100000 in
set_option maxHeartbeats 400000 in
theorem Clone_s (ad : Addr) (n lc : Nat) (f : Nat → Ls) (w0 : World) (hl : VReads w0 (some ad) (lsX n f)) (h0 : 0 < n) (hn : n ≤ 1000) :
    Calls Try.prog 33 #[.slice (some ad) n lc] w0 fun e w' => ∃ v, e = .returned (v) ∧ Below w0.heap.size w0 w' ∧ w'.ownsRow w0.heap.size 79 4 v n (lsX n f) := by
  have S0 := St.start w0
  refine enter (n := 8) Try.func33 rfl rfl rfl (fun ac A0 => ?_)
  refine wp_seq ?_
  refine wp_region_lit ?_
  refine s_one (.slice none 0 0) A0 S0 (g_assign (by kernel_rfl)) rfl (fun ac A1 => ?_)
  refine wpList_nil ?_
  refine n_then ?_
  refine wp_seq ?_
  refine wp_seq ?_
  refine wp_region_lit ?_
  refine s_one (.slice (some ad) n lc) A1 S0 (g_move (by kernel_rfl)) rfl (fun ac A2 => ?_)
  refine s_one (.bool false) A2 S0 (g_bin (u := .slice (some ad) n lc) (k := .slice none 0 0) (by kernel_rfl) (by kernel_rfl) (fun _ => by kernel_rfl) (q_slnil Try.underlying76)) rfl (fun ac A3 => ?_)
  refine wpList_nil ?_
  refine n_then ?_
  refine c_f (b := false) A3 (by kernel_rfl) rfl ?_
  refine wp_skip ?_
  refine n_then ?_
  refine wp_seq ?_
  refine wp_region_lit ?_
  refine s_bs (e := 79) (r := []) (#[]) A3 S0 (by kernel_rfl) (by kernel_rfl) rfl (fun g6 ac wc A4 S5 => ?_)
  refine s_one (.slice (some ad) n lc) A4 S5 (g_move (by kernel_rfl)) rfl (fun ac A7 => ?_)
  have S11 : St w0 [] [⟨.slice (some ⟨g6, 0, none⟩) 0 0, 79, 4, 0, []⟩] _ := St.toRow (n := 0) S5 0 rfl rfl (by decide)
  refine s_appV (e := 79) (size := 4) (bytes := 24) (c := lc) 0 (lsX n f) A7 S11 (by kernel_rfl) (by kernel_rfl) (by kernel_rfl) rfl (VReads.kept hl S11.kp) (by rw [lsX_length]) (by rw [lsX_length]; omega) (lsX_one _ _) (by omega) (by omega) rfl (fun v12 ac wc A8 S9 => ?_)
  have S13 : St w0 [] [⟨v12, 79, 4, n, (lsX n f)⟩] _ := St.rerow 0 S9 rfl ⟨Nat.zero_add _, List.nil_append _⟩
  refine s_one (v12) A8 S13 (g_assign (by kernel_rfl)) rfl (fun ac A14 => ?_)
  refine wpList_nil ?_
  refine n_then ?_
  refine wp_ret ?_
  refine fin1 (v12) Try.results33 A14 S13 (rv_tmp (by kernel_rfl)) ⟨_, rfl, S13.kp, S13.row 0 rfl⟩

set_option maxRecDepth 100000 in
set_option maxHeartbeats 400000 in
theorem add_s (b : Base) (L : List Bk) (M : List Rw) (gb : Nat) (A : Option Addr) (cap : Nat) (ss : List Sp) (ad : Addr) (lc : Nat) (f : Nat → Ls) (mi st wa : Int) (w0 : World) (S9 : St b (⟨gb, 81, #[.slice A ss.length cap, .slice (some ad) ss.length lc], true⟩ :: L) (⟨.slice (some ad) ss.length lc, 79, 4, ss.length, (lsX ss.length f)⟩ :: M) w0) (hr : SpReads b.w A ss) (hq : (ss.length ≤ 1000 ∧ -1000000 ≤ wa ∧ wa ≤ 1000000) ∧ ∀ k, -1000000 ≤ (f k).wa ∧ (f k).wa ≤ 1000000) :
    Calls Try.prog 34 #[.pointer (some ⟨gb, 0, none⟩), .agg #[.int .i64 mi, .int .i64 st, .int .i64 wa]] w0 fun e w' => ∃ v', e = .returned v' ∧ St b (⟨gb, 81, #[.slice A ss.length cap, .slice (some ad) ss.length lc], true⟩ :: L) (⟨.slice (some ad) ss.length lc, 79, 4, ss.length, (lsX ss.length (addF ss f mi st wa ss.length))⟩ :: M) w' := by
  have S0 := S9
  obtain ⟨hn, hb⟩ := hq
  refine enter (n := 67) Try.func34 rfl rfl rfl (fun ac A0 => ?_)
  refine wp_seq ?_
  refine wp_region_lit ?_
  refine s_box (.agg #[.int .i64 mi, .int .i64 st, .int .i64 wa]) A0 S0 (by kernel_rfl) rfl (fun g3 ac wc A1 S2 => ?_)
  replace S2 : St _ (⟨g3, 30, #[.int .i64 mi, .int .i64 st, .int .i64 wa], true⟩ :: _) _ _ := S2
  refine wpList_nil ?_
  refine n_then ?_
  refine wp_seq ?_
  refine wp_region_lit ?_
  refine s_one (.pointer (some ⟨gb, 0, none⟩)) A1 S2 (g_move (by kernel_rfl)) rfl (fun ac A5 => ?_)
  refine s_one (.pointer (some ⟨gb, 0, none⟩)) A5 S2 (g_nil (by kernel_rfl)) rfl (fun ac A6 => ?_)
  refine s_one (.pointer (some ⟨gb, 1, none⟩)) A6 S2 (g_field (u := .pointer (some ⟨gb, 0, none⟩)) (by kernel_rfl) (fun _ => by kernel_rfl)) rfl (fun ac A7 => ?_)
  refine s_one (.slice (some ad) ss.length lc) A7 S2 (g_load (g := gb) (off := 1) 1 (by kernel_rfl) rfl (by kernel_rfl)) rfl (fun ac A8 => ?_)
  refine s_one (.int .i64 (ss.length : Int)) A8 S2 (g_built (r := [(0, .slice (some ad) ss.length lc)]) (by kernel_rfl) (fun _ _ _ => by kernel_rfl)) rfl (fun ac A9 => ?_)
  refine s_one (.int .i64 0) A9 S2 (g_move (by kernel_rfl)) rfl (fun ac A10 => ?_)
  refine wpList_nil ?_
  refine n_then ?_
  refine wp_block ?_
  refine c_loopN (fun mm ac wc => ∃ (k : Nat), mm = ss.length - k ∧ (k ≤ ss.length) ∧ Fr 67 ac [(0, .pointer (some ⟨gb, 0, none⟩)), (1, .agg #[.int .i64 mi, .int .i64 st, .int .i64 wa]), (3, .pointer (some ⟨g3, 0, none⟩)), (6, .pointer (some ⟨gb, 0, none⟩)), (7, .pointer (some ⟨gb, 0, none⟩)), (8, .pointer (some ⟨gb, 1, none⟩)), (9, .slice (some ad) ss.length lc), (10, .int .i64 (ss.length : Int)), (11, .int .i64 (k : Int))] ∧ St b (⟨g3, 30, #[.int .i64 mi, .int .i64 st, .int .i64 wa], true⟩ :: (⟨gb, 81, #[.slice A ss.length cap, .slice (some ad) ss.length lc], true⟩ :: L)) (⟨.slice (some ad) ss.length lc, 79, 4, ss.length, (lsX ss.length (addF ss f mi st wa k))⟩ :: M) wc) _ ⟨0, rfl, Nat.zero_le _, (A10.slot (A10.slot (A10.slot (A10.slot (A10.slot (A10.slot (A10.slot (A10.slot (A10.slot A10.nil (v := .int .i64 0) (by kernel_rfl) (congrArg (Value.int .i64) (by omega))) (v := .int .i64 (ss.length : Int)) (by kernel_rfl) rfl) (v := .slice (some ad) ss.length lc) (by kernel_rfl) rfl) (v := .pointer (some ⟨gb, 1, none⟩)) (by kernel_rfl) rfl) (v := .pointer (some ⟨gb, 0, none⟩)) (by kernel_rfl) rfl) (v := .pointer (some ⟨gb, 0, none⟩)) (by kernel_rfl) rfl) (v := .pointer (some ⟨g3, 0, none⟩)) (by kernel_rfl) rfl) (v := .agg #[.int .i64 mi, .int .i64 st, .int .i64 wa]) (by kernel_rfl) rfl) (v := .pointer (some ⟨gb, 0, none⟩)) (by kernel_rfl) rfl), (St.rerow 0 S2 rfl ⟨rfl, congrArg (lsX ss.length) (addF_zero _ _ _ _ _).symm⟩).sub sub_all sub_all⟩ ?_
  rintro mm ac wc ⟨k, hm13, hk, A11, S12⟩
  have hbk := hb k
  refine wp_seq ?_
  refine wp_region_lit ?_
  refine s_one (.bool (decide ((k : Int) < (ss.length : Int)))) A11 S12 (g_bin (u := .int .i64 (k : Int)) (k := .int .i64 (ss.length : Int)) (by kernel_rfl) (by kernel_rfl) (fun _ => by kernel_rfl) (fun _ => by kernel_rfl)) rfl (fun ac A14 => ?_)
  refine wpList_nil ?_
  refine n_then ?_
  refine wp_seq ?_
  refine c_ifb (b := (decide ((k : Int) < (ss.length : Int)))) A14 (by kernel_rfl) (fun h15 => ?_) (fun h15 => ?_)
  · have p16 := of_decide_eq_true h15
    refine wp_skip ?_
    refine n_then ?_
    refine wp_seq ?_
    refine wp_block ?_
    refine wp_seq ?_
    refine wp_region_lit ?_
    refine s_one (.int .i64 (k : Int)) A14 S12 (g_move (by kernel_rfl)) rfl (fun ac A17 => ?_)
    refine s_one (.int .i64 (k : Int)) A17 S12 (g_assign (by kernel_rfl)) rfl (fun ac A18 => ?_)
    refine wpList_nil ?_
    refine n_then ?_
    refine wp_seq ?_
    refine wp_region_lit ?_
    refine s_one (.pointer (some ⟨gb, 0, none⟩)) A18 S12 (g_move (by kernel_rfl)) rfl (fun ac A19 => ?_)
    refine s_one (.pointer (some ⟨gb, 0, none⟩)) A19 S12 (g_nil (by kernel_rfl)) rfl (fun ac A20 => ?_)
    refine s_one (.pointer (some ⟨gb, 1, none⟩)) A20 S12 (g_field (u := .pointer (some ⟨gb, 0, none⟩)) (by kernel_rfl) (fun _ => by kernel_rfl)) rfl (fun ac A21 => ?_)
    refine s_one (.slice (some ad) ss.length lc) A21 S12 (g_load (g := gb) (off := 1) 1 (by kernel_rfl) rfl (by kernel_rfl)) rfl (fun ac A22 => ?_)
    refine s_one (.int .i64 (k : Int)) A22 S12 (g_move (by kernel_rfl)) rfl (fun ac A23 => ?_)
    refine s_one (.pointer (some (ad.add (k * 4)))) A23 S12 (g_index (u := .slice (some ad) ss.length lc) (k := .int .i64 (k : Int)) (by kernel_rfl) (by kernel_rfl) (ix_xs (e := 79) (size := 4) (bytes := 24) k (by kernel_rfl) (by omega) (by omega))) rfl (fun ac A24 => ?_)
    refine s_one (.pointer (some (ad.add (k * 4)))) A24 S12 (g_assign (by kernel_rfl)) rfl (fun ac A25 => ?_)
    refine wpList_nil ?_
    refine n_then ?_
    refine wp_block ?_
    refine wp_seq ?_
    refine wp_region_lit ?_
    refine s_one (.int .i64 (k : Int)) A25 S12 (g_move (by kernel_rfl)) rfl (fun ac A26 => ?_)
    refine s_one (.pointer (some ⟨g3, 1, none⟩)) A26 S12 (g_field (u := .pointer (some ⟨g3, 0, none⟩)) (by kernel_rfl) (fun _ => by kernel_rfl)) rfl (fun ac A27 => ?_)
    refine s_one (.int .i64 st) A27 S12 (g_load (g := g3) (off := 1) 0 (by kernel_rfl) rfl (by kernel_rfl)) rfl (fun ac A28 => ?_)
    refine s_one (.bool (decide ((k : Int) = st))) A28 S12 (g_bin (u := .int .i64 (k : Int)) (k := .int .i64 st) (by kernel_rfl) (by kernel_rfl) (fun _ => by kernel_rfl) b_eql) rfl (fun ac A29 => ?_)
    refine s_one (.bool (decide ((k : Int) = st))) A29 S12 (g_assign (by kernel_rfl)) rfl (fun ac A30 => ?_)
    refine wpList_nil ?_
    refine n_then ?_
    refine c_ifb (b := (decide ((k : Int) = st))) A30 (by kernel_rfl) (fun h31 => ?_) (fun h31 => ?_)
    · have p32 := of_decide_eq_true h31
      refine wp_region_lit ?_
      refine s_one (.pointer (some (ad.add (k * 4)))) A30 S12 (g_move (by kernel_rfl)) rfl (fun ac A33 => ?_)
      refine s_one (.pointer (some ⟨g3, 0, none⟩)) A33 S12 (g_field (u := .pointer (some ⟨g3, 0, none⟩)) (by kernel_rfl) (fun _ => by kernel_rfl)) rfl (fun ac A34 => ?_)
      refine s_one (.int .i64 mi) A34 S12 (g_load (g := g3) (off := 0) 0 (by kernel_rfl) rfl (by kernel_rfl)) rfl (fun ac A35 => ?_)
      refine s_one (.pointer (some ⟨g3, 2, none⟩)) A35 S12 (g_field (u := .pointer (some ⟨g3, 0, none⟩)) (by kernel_rfl) (fun _ => by kernel_rfl)) rfl (fun ac A36 => ?_)
      refine s_one (.int .i64 wa) A36 S12 (g_load (g := g3) (off := 2) 0 (by kernel_rfl) rfl (by kernel_rfl)) rfl (fun ac A37 => ?_)
      refine s_one (.agg #[.bool true, .bool true, .int .i64 mi, .int .i64 wa]) A37 S12 (g_build (r := [(0, .bool true), (1, .bool true), (2, .int .i64 mi), (3, .int .i64 wa)]) (by kernel_rfl) (fun _ => by kernel_rfl)) rfl (fun ac A38 => ?_)
      refine s_one (.pointer (some (ad.add (k * 4)))) A38 S12 (g_nil (by kernel_rfl)) rfl (fun ac A39 => ?_)
      refine s_storeR (ad := ad) (off := k * 4) (u := .agg #[.bool true, .bool true, .int .i64 mi, .int .i64 wa]) 0 4 [.bool true, .bool true, .int .i64 mi, .int .i64 wa] (lsX ss.length (setF (addF ss f mi st wa k) k ⟨true, true, mi, wa⟩)) A39 S12 (by kernel_rfl) (by kernel_rfl) rfl rfl rfl (by kernel_rfl) rfl (by rw [lsX_length]; omega) (lsX_put ⟨true, true, mi, wa⟩ (by omega)) (fun wc S40 => ?_)
      refine wpList_nil ?_
      refine n_block ?_
      refine n_block ?_
      refine n_then ?_
      refine wp_region_lit ?_
      refine s_one (.int .i64 ((k : Int) + 1)) A39 S40 (g_bin (u := .int .i64 (k : Int)) (k := .int .i64 1) (by kernel_rfl) (by kernel_rfl) (fun _ => by kernel_rfl) (b_add (by omega))) rfl (fun ac A41 => ?_)
      refine s_one (.int .i64 ((k : Int) + 1)) A41 S40 (g_move (by kernel_rfl)) rfl (fun ac A42 => ?_)
      refine wpList_nil ?_
      refine n_then ?_
      refine ⟨_, ⟨k + 1, rfl, by omega, (A42.slot (A42.slot (A42.slot (A42.slot (A42.slot (A42.slot (A42.slot (A42.slot (A42.slot A42.nil (v := .int .i64 ((k : Int) + 1)) (by kernel_rfl) (congrArg (Value.int .i64) (by omega))) (v := .int .i64 (ss.length : Int)) (by kernel_rfl) rfl) (v := .slice (some ad) ss.length lc) (by kernel_rfl) rfl) (v := .pointer (some ⟨gb, 1, none⟩)) (by kernel_rfl) rfl) (v := .pointer (some ⟨gb, 0, none⟩)) (by kernel_rfl) rfl) (v := .pointer (some ⟨gb, 0, none⟩)) (by kernel_rfl) rfl) (v := .pointer (some ⟨g3, 0, none⟩)) (by kernel_rfl) rfl) (v := .agg #[.int .i64 mi, .int .i64 st, .int .i64 wa]) (by kernel_rfl) rfl) (v := .pointer (some ⟨gb, 0, none⟩)) (by kernel_rfl) rfl), (St.rerow 0 S40 rfl ⟨rfl, congrArg (lsX ss.length) (addF_y p32)⟩).sub sub_all sub_all⟩, ?_⟩
      omega
    · have p43 := of_decide_eq_false h31
      refine wp_seq ?_
      refine c_cut (fun ac wc => Fr 67 ac [(32, .bool ((decide (abI (wa - ((f k).wa)) > (spK ss k).wa)) || (((spK ss k).ne).contains st))), (0, .pointer (some ⟨gb, 0, none⟩)), (1, .agg #[.int .i64 mi, .int .i64 st, .int .i64 wa]), (3, .pointer (some ⟨g3, 0, none⟩)), (6, .pointer (some ⟨gb, 0, none⟩)), (7, .pointer (some ⟨gb, 0, none⟩)), (8, .pointer (some ⟨gb, 1, none⟩)), (9, .slice (some ad) ss.length lc), (10, .int .i64 (ss.length : Int)), (11, .int .i64 (k : Int)), (12, .bool (decide ((k : Int) < (ss.length : Int)))), (13, .int .i64 (k : Int)), (4, .int .i64 (k : Int)), (14, .pointer (some ⟨gb, 0, none⟩)), (15, .pointer (some ⟨gb, 0, none⟩)), (16, .pointer (some ⟨gb, 1, none⟩)), (17, .slice (some ad) ss.length lc), (18, .int .i64 (k : Int)), (19, .pointer (some (ad.add (k * 4)))), (5, .pointer (some (ad.add (k * 4)))), (21, .int .i64 (k : Int)), (22, .pointer (some ⟨g3, 1, none⟩)), (23, .int .i64 st), (24, .bool (decide ((k : Int) = st))), (20, .bool (decide ((k : Int) = st)))] ∧ St b (⟨g3, 30, #[.int .i64 mi, .int .i64 st, .int .i64 wa], true⟩ :: (⟨gb, 81, #[.slice A ss.length cap, .slice (some ad) ss.length lc], true⟩ :: L)) (⟨.slice (some ad) ss.length lc, 79, 4, ss.length, (lsX ss.length (addF ss f mi st wa k))⟩ :: M) wc) ?_ ?_
      · refine r_begin (w0 := b) (by kernel_rfl) (S12.sub sub_all sub_nil) (fun wc T44 B45 => ?_)
        have S46 := S12.kept B45
        refine r_take 0 (.pointer (some ⟨g3, 2, none⟩)) A30 T44 (g_field (u := .pointer (some ⟨g3, 0, none⟩)) (by kernel_rfl) (fun _ => by kernel_rfl)) rfl rfl rfl (pf_then (pf_then (pf_block (pf_block (pf_then (pf_then (pf_block pf_body))))))) (by kernel_rfl) (fun ac A47 => ?_)
        refine r_take 1 (.int .i64 wa) A47 T44 (g_load (g := g3) (off := 2) 0 (by kernel_rfl) rfl (by kernel_rfl)) rfl rfl rfl (pf_then (pf_then (pf_block (pf_block (pf_then (pf_then (pf_block pf_body))))))) (by kernel_rfl) (fun ac A48 => ?_)
        refine r_take 2 (.pointer (some (ad.add (k * 4)))) A48 T44 (g_move (by kernel_rfl)) rfl rfl rfl (pf_then (pf_then (pf_block (pf_block (pf_then (pf_then (pf_block pf_body))))))) (by kernel_rfl) (fun ac A49 => ?_)
        refine r_take 3 (.pointer (some (ad.add (k * 4)))) A49 T44 (g_nil (by kernel_rfl)) rfl rfl rfl (pf_then (pf_then (pf_block (pf_block (pf_then (pf_then (pf_block pf_body))))))) (by kernel_rfl) (fun ac A50 => ?_)
        refine r_take 4 (.pointer (some (ad.add (k * 4 + 3)))) A50 T44 (g_field (u := .pointer (some (ad.add (k * 4)))) (by kernel_rfl) (fld_x (x := k * 4) (o := 3) (by kernel_rfl))) rfl rfl rfl (pf_then (pf_then (pf_block (pf_block (pf_then (pf_then (pf_block pf_body))))))) (by kernel_rfl) (fun ac A51 => ?_)
        refine r_take 8 (.pointer (some ⟨gb, 0, none⟩)) A51 T44 (g_move (by kernel_rfl)) rfl rfl rfl (pf_then (pf_then (pf_block (pf_block (pf_then (pf_then (pf_block pf_body))))))) (by kernel_rfl) (fun ac A52 => ?_)
        refine r_take 9 (.pointer (some ⟨gb, 0, none⟩)) A52 T44 (g_nil (by kernel_rfl)) rfl rfl rfl (pf_then (pf_then (pf_block (pf_block (pf_then (pf_then (pf_block pf_body))))))) (by kernel_rfl) (fun ac A53 => ?_)
        refine r_take 10 (.pointer (some ⟨gb, 0, none⟩)) A53 T44 (g_field (u := .pointer (some ⟨gb, 0, none⟩)) (by kernel_rfl) (fun _ => by kernel_rfl)) rfl rfl rfl (pf_then (pf_then (pf_block (pf_block (pf_then (pf_then (pf_block pf_body))))))) (by kernel_rfl) (fun ac A54 => ?_)
        refine r_take 11 (.slice A ss.length cap) A54 T44 (g_load (g := gb) (off := 0) 1 (by kernel_rfl) rfl (by kernel_rfl)) rfl rfl rfl (pf_then (pf_then (pf_block (pf_block (pf_then (pf_then (pf_block pf_body))))))) (by kernel_rfl) (fun ac A55 => ?_)
        refine r_take 12 (.int .i64 (k : Int)) A55 T44 (g_move (by kernel_rfl)) rfl rfl rfl (pf_then (pf_then (pf_block (pf_block (pf_then (pf_then (pf_block pf_body))))))) (by kernel_rfl) (fun ac A56 => ?_)
        obtain ⟨ad57, B58, c59, he60, hs61⟩ := hr k (by omega)
        have hm62 := hs61.hm
        have hm63 := hs61.hn
        refine r_take 13 (.pointer (some (ad57.add (k * 4)))) A56 T44 (g_index (u := .slice A ss.length cap) (k := .int .i64 (k : Int)) (by kernel_rfl) (by kernel_rfl) (ix_xsB (e := 59) (size := 4) (bytes := 56) k (by kernel_rfl) (by omega) (by omega) he60)) rfl rfl rfl (pf_then (pf_then (pf_block (pf_block (pf_then (pf_then (pf_block pf_body))))))) (by kernel_rfl) (fun ac A64 => ?_)
        refine r_take 14 (.pointer (some (ad57.add (k * 4 + 2)))) A64 T44 (g_field (u := .pointer (some (ad57.add (k * 4)))) (by kernel_rfl) (fld_x (x := k * 4) (o := 2) (by kernel_rfl))) rfl rfl rfl (pf_then (pf_then (pf_block (pf_block (pf_then (pf_then (pf_block pf_body))))))) (by kernel_rfl) (fun ac A65 => ?_)
        refine r_take 15 (.int .i64 ((spK ss k).wa)) A65 T44 (g_loadX (ad := ad57.add (k * 4 + 2)) (by kernel_rfl) (sp_cell (j := 2) hs61 rfl rfl) (by kernel_rfl)) rfl rfl rfl (pf_then (pf_then (pf_block (pf_block (pf_then (pf_then (pf_block pf_body))))))) (by kernel_rfl) (fun ac A66 => ?_)
        refine r_1 (i := 5) (by kernel_rfl) ?_
        refine rs_gives (.int .i64 ((f k).wa)) A66 S46 sub_all sub_nil (g_loadR1 (ad := ad) (off := k * 4 + 3) 0 (by kernel_rfl) rfl ((lsX_getE (b := (addF ss f mi st wa k)) (x := (f k)) (k := k) (by omega) (addF_at _ _ _ _ _ _)) 3 _ rfl) (by kernel_rfl)) rfl rfl rfl (fun ac A67 => ?_)
        refine r_take 6 (.int .i64 (wa - ((f k).wa))) A67 T44 (g_bin (u := .int .i64 wa) (k := .int .i64 ((f k).wa)) (by kernel_rfl) (by kernel_rfl) (fun _ => by kernel_rfl) (b_sub (by omega))) rfl rfl rfl (pf_then (pf_then (pf_block (pf_block (pf_then (pf_then (pf_block pf_body))))))) (by kernel_rfl) (fun ac A71 => ?_)
        refine r_1 (i := 7) (by kernel_rfl) ?_
        refine rs_call (fs := #[]) (cp := #[]) (r := [(0, .int .i64 (wa - ((f k).wa)))]) #[.int .i64 (wa - ((f k).wa))] (.int .i64 (abI (wa - ((f k).wa)))) A71 S46 sub_all sub_nil (size_s (wa - ((f k).wa)) _ (by omega)) Try.call47 rfl rfl (by kernel_rfl) (by kernel_rfl) (by kernel_rfl) rfl (fun ac wc A72 S73 => ?_)
        have T75 := S73.sub sub_all sub_nil
        refine r_take 16 (.bool (decide (abI (wa - ((f k).wa)) > (spK ss k).wa))) A72 T75 (g_bin (u := .int .i64 (abI (wa - ((f k).wa)))) (k := .int .i64 ((spK ss k).wa)) (by kernel_rfl) (by kernel_rfl) (fun _ => by kernel_rfl) (fun _ => by kernel_rfl)) rfl rfl rfl (pf_then (pf_then (pf_block (pf_block (pf_then (pf_then (pf_block pf_body))))))) (by kernel_rfl) (fun ac A76 => ?_)
        refine r_take 17 (.bool (decide (abI (wa - ((f k).wa)) > (spK ss k).wa))) A76 T75 (g_move (by kernel_rfl)) rfl rfl rfl (pf_then (pf_then (pf_block (pf_block (pf_then (pf_then (pf_block pf_body))))))) (by kernel_rfl) (fun ac A77 => ?_)
        refine by_bool (decide (abI (wa - ((f k).wa)) > (spK ss k).wa)) (fun h78 => ?_) (fun h78 => ?_)
        · have p79 := of_decide_eq_true h78
          refine r_skip 18 A77 T75 rfl (want_f (dj := 50) (b := (decide (abI (wa - ((f k).wa)) > (spK ss k).wa))) A77 rfl (by kernel_rfl) (by kernel_rfl) h78) rfl (pf_then (pf_then (pf_block (pf_block (pf_then (pf_then (pf_block pf_body))))))) (by kernel_rfl) (fun ac A80 => ?_)
          refine r_skip 19 A80 T75 rfl (want_f (dj := 50) (b := (decide (abI (wa - ((f k).wa)) > (spK ss k).wa))) A80 rfl (by kernel_rfl) (by kernel_rfl) h78) rfl (pf_then (pf_then (pf_block (pf_block (pf_then (pf_then (pf_block pf_body))))))) (by kernel_rfl) (fun ac A81 => ?_)
          refine r_skip 20 A81 T75 rfl (want_f (dj := 50) (b := (decide (abI (wa - ((f k).wa)) > (spK ss k).wa))) A81 rfl (by kernel_rfl) (by kernel_rfl) h78) rfl (pf_then (pf_then (pf_block (pf_block (pf_then (pf_then (pf_block pf_body))))))) (by kernel_rfl) (fun ac A82 => ?_)
          refine r_skip 21 A82 T75 rfl (want_f (dj := 50) (b := (decide (abI (wa - ((f k).wa)) > (spK ss k).wa))) A82 rfl (by kernel_rfl) (by kernel_rfl) h78) rfl (pf_then (pf_then (pf_block (pf_block (pf_then (pf_then (pf_block pf_body))))))) (by kernel_rfl) (fun ac A83 => ?_)
          refine r_skip 22 A83 T75 rfl (want_f (dj := 50) (b := (decide (abI (wa - ((f k).wa)) > (spK ss k).wa))) A83 rfl (by kernel_rfl) (by kernel_rfl) h78) rfl (pf_then (pf_then (pf_block (pf_block (pf_then (pf_then (pf_block pf_body))))))) (by kernel_rfl) (fun ac A84 => ?_)
          refine r_skip 23 A84 T75 rfl (want_f (dj := 50) (b := (decide (abI (wa - ((f k).wa)) > (spK ss k).wa))) A84 rfl (by kernel_rfl) (by kernel_rfl) h78) rfl (pf_then (pf_then (pf_block (pf_block (pf_then (pf_then (pf_block pf_body))))))) (by kernel_rfl) (fun ac A85 => ?_)
          refine r_skip 24 A85 T75 rfl (want_f (dj := 50) (b := (decide (abI (wa - ((f k).wa)) > (spK ss k).wa))) A85 rfl (by kernel_rfl) (by kernel_rfl) h78) rfl (pf_then (pf_then (pf_block (pf_block (pf_then (pf_then (pf_block pf_body))))))) (by kernel_rfl) (fun ac A86 => ?_)
          refine r_skip 25 A86 T75 rfl (want_f (dj := 50) (b := (decide (abI (wa - ((f k).wa)) > (spK ss k).wa))) A86 rfl (by kernel_rfl) (by kernel_rfl) h78) rfl (pf_then (pf_then (pf_block (pf_block (pf_then (pf_then (pf_block pf_body))))))) (by kernel_rfl) (fun ac A87 => ?_)
          refine r_skip 26 A87 T75 rfl (want_f (dj := 50) (b := (decide (abI (wa - ((f k).wa)) > (spK ss k).wa))) A87 rfl (by kernel_rfl) (by kernel_rfl) h78) rfl (pf_then (pf_then (pf_block (pf_block (pf_then (pf_then (pf_block pf_body))))))) (by kernel_rfl) (fun ac A88 => ?_)
          refine r_skip 27 A88 T75 rfl (want_f (dj := 50) (b := (decide (abI (wa - ((f k).wa)) > (spK ss k).wa))) A88 rfl (by kernel_rfl) (by kernel_rfl) h78) rfl (pf_then (pf_then (pf_block (pf_block (pf_then (pf_then (pf_block pf_body))))))) (by kernel_rfl) (fun ac A89 => ?_)
          refine r_skip 28 A89 T75 rfl (want_f (dj := 50) (b := (decide (abI (wa - ((f k).wa)) > (spK ss k).wa))) A89 rfl (by kernel_rfl) (by kernel_rfl) h78) rfl (pf_then (pf_then (pf_block (pf_block (pf_then (pf_then (pf_block pf_body))))))) (by kernel_rfl) (fun ac A90 => ?_)
          refine r_take 29 (.bool true) A90 T75 (g_pick_t (b := (decide (abI (wa - ((f k).wa)) > (spK ss k).wa))) (by kernel_rfl) h78 (by kernel_rfl)) rfl rfl rfl (pf_then (pf_then (pf_block (pf_block (pf_then (pf_then (pf_block pf_body))))))) (by kernel_rfl) (fun ac A91 => ?_)
          refine r_take 30 (.bool true) A91 T75 (g_assign (by kernel_rfl)) rfl rfl rfl (pf_then (pf_then (pf_block (pf_block (pf_then (pf_then (pf_block pf_body))))))) (by kernel_rfl) (fun ac A92 => ?_)
          refine r_done (by kernel_rfl) ?_
          refine n_then ?_
          exact ⟨(A92.slot (A92.slot (A92.slot (A92.slot (A92.slot (A92.slot (A92.slot (A92.slot (A92.slot (A92.slot (A92.slot (A92.slot (A92.slot (A92.slot (A92.slot (A92.slot (A92.slot (A92.slot (A92.slot (A92.slot (A92.slot (A92.slot (A92.slot (A92.slot (A92.slot A92.nil (v := .bool (decide ((k : Int) = st))) (by kernel_rfl) rfl) (v := .bool (decide ((k : Int) = st))) (by kernel_rfl) rfl) (v := .int .i64 st) (by kernel_rfl) rfl) (v := .pointer (some ⟨g3, 1, none⟩)) (by kernel_rfl) rfl) (v := .int .i64 (k : Int)) (by kernel_rfl) rfl) (v := .pointer (some (ad.add (k * 4)))) (by kernel_rfl) rfl) (v := .pointer (some (ad.add (k * 4)))) (by kernel_rfl) rfl) (v := .int .i64 (k : Int)) (by kernel_rfl) rfl) (v := .slice (some ad) ss.length lc) (by kernel_rfl) rfl) (v := .pointer (some ⟨gb, 1, none⟩)) (by kernel_rfl) rfl) (v := .pointer (some ⟨gb, 0, none⟩)) (by kernel_rfl) rfl) (v := .pointer (some ⟨gb, 0, none⟩)) (by kernel_rfl) rfl) (v := .int .i64 (k : Int)) (by kernel_rfl) rfl) (v := .int .i64 (k : Int)) (by kernel_rfl) rfl) (v := .bool (decide ((k : Int) < (ss.length : Int)))) (by kernel_rfl) rfl) (v := .int .i64 (k : Int)) (by kernel_rfl) rfl) (v := .int .i64 (ss.length : Int)) (by kernel_rfl) rfl) (v := .slice (some ad) ss.length lc) (by kernel_rfl) rfl) (v := .pointer (some ⟨gb, 1, none⟩)) (by kernel_rfl) rfl) (v := .pointer (some ⟨gb, 0, none⟩)) (by kernel_rfl) rfl) (v := .pointer (some ⟨gb, 0, none⟩)) (by kernel_rfl) rfl) (v := .pointer (some ⟨g3, 0, none⟩)) (by kernel_rfl) rfl) (v := .agg #[.int .i64 mi, .int .i64 st, .int .i64 wa]) (by kernel_rfl) rfl) (v := .pointer (some ⟨gb, 0, none⟩)) (by kernel_rfl) rfl) (v := .bool true) (by kernel_rfl) (congrArg Value.bool (b_ot1 h78).symm)), S73.sub sub_all sub_all⟩
        · have p93 := of_decide_eq_false h78
          refine r_take 18 (.pointer (some ⟨gb, 0, none⟩)) A77 T75 (g_move (by kernel_rfl)) rfl (want_t (dj := 50) (b := (decide (abI (wa - ((f k).wa)) > (spK ss k).wa))) A77 rfl (by kernel_rfl) (by kernel_rfl) h78) rfl (pf_then (pf_then (pf_block (pf_block (pf_then (pf_then (pf_block pf_body))))))) (by kernel_rfl) (fun ac A94 => ?_)
          refine r_take 19 (.pointer (some ⟨gb, 0, none⟩)) A94 T75 (g_nil (by kernel_rfl)) rfl (want_t (dj := 50) (b := (decide (abI (wa - ((f k).wa)) > (spK ss k).wa))) A94 rfl (by kernel_rfl) (by kernel_rfl) h78) rfl (pf_then (pf_then (pf_block (pf_block (pf_then (pf_then (pf_block pf_body))))))) (by kernel_rfl) (fun ac A95 => ?_)
          refine r_take 20 (.pointer (some ⟨gb, 0, none⟩)) A95 T75 (g_field (u := .pointer (some ⟨gb, 0, none⟩)) (by kernel_rfl) (fun _ => by kernel_rfl)) rfl (want_t (dj := 50) (b := (decide (abI (wa - ((f k).wa)) > (spK ss k).wa))) A95 rfl (by kernel_rfl) (by kernel_rfl) h78) rfl (pf_then (pf_then (pf_block (pf_block (pf_then (pf_then (pf_block pf_body))))))) (by kernel_rfl) (fun ac A96 => ?_)
          refine r_take 21 (.slice A ss.length cap) A96 T75 (g_load (g := gb) (off := 0) 1 (by kernel_rfl) rfl (by kernel_rfl)) rfl (want_t (dj := 50) (b := (decide (abI (wa - ((f k).wa)) > (spK ss k).wa))) A96 rfl (by kernel_rfl) (by kernel_rfl) h78) rfl (pf_then (pf_then (pf_block (pf_block (pf_then (pf_then (pf_block pf_body))))))) (by kernel_rfl) (fun ac A97 => ?_)
          refine r_take 22 (.int .i64 (k : Int)) A97 T75 (g_move (by kernel_rfl)) rfl (want_t (dj := 50) (b := (decide (abI (wa - ((f k).wa)) > (spK ss k).wa))) A97 rfl (by kernel_rfl) (by kernel_rfl) h78) rfl (pf_then (pf_then (pf_block (pf_block (pf_then (pf_then (pf_block pf_body))))))) (by kernel_rfl) (fun ac A98 => ?_)
          obtain ⟨ad99, B100, c101, he102, hs103⟩ := hr k (by omega)
          have hm104 := hs103.hm
          have hm105 := hs103.hn
          refine r_take 23 (.pointer (some (ad99.add (k * 4)))) A98 T75 (g_index (u := .slice A ss.length cap) (k := .int .i64 (k : Int)) (by kernel_rfl) (by kernel_rfl) (ix_xsB (e := 59) (size := 4) (bytes := 56) k (by kernel_rfl) (by omega) (by omega) he102)) rfl (want_t (dj := 50) (b := (decide (abI (wa - ((f k).wa)) > (spK ss k).wa))) A98 rfl (by kernel_rfl) (by kernel_rfl) h78) rfl (pf_then (pf_then (pf_block (pf_block (pf_then (pf_then (pf_block pf_body))))))) (by kernel_rfl) (fun ac A106 => ?_)
          refine r_take 24 (.pointer (some (ad99.add (k * 4 + 3)))) A106 T75 (g_field (u := .pointer (some (ad99.add (k * 4)))) (by kernel_rfl) (fld_x (x := k * 4) (o := 3) (by kernel_rfl))) rfl (want_t (dj := 50) (b := (decide (abI (wa - ((f k).wa)) > (spK ss k).wa))) A106 rfl (by kernel_rfl) (by kernel_rfl) h78) rfl (pf_then (pf_then (pf_block (pf_block (pf_then (pf_then (pf_block pf_body))))))) (by kernel_rfl) (fun ac A107 => ?_)
          refine r_take 25 (.slice B100 ((spK ss k).ne.length) c101) A107 T75 (g_loadX (ad := ad99.add (k * 4 + 3)) (by kernel_rfl) (sp_cell (j := 3) hs103 rfl rfl) (by kernel_rfl)) rfl (want_t (dj := 50) (b := (decide (abI (wa - ((f k).wa)) > (spK ss k).wa))) A107 rfl (by kernel_rfl) (by kernel_rfl) h78) rfl (pf_then (pf_then (pf_block (pf_block (pf_then (pf_then (pf_block pf_body))))))) (by kernel_rfl) (fun ac A108 => ?_)
          refine r_take 26 (.pointer (some ⟨g3, 1, none⟩)) A108 T75 (g_field (u := .pointer (some ⟨g3, 0, none⟩)) (by kernel_rfl) (fun _ => by kernel_rfl)) rfl (want_t (dj := 50) (b := (decide (abI (wa - ((f k).wa)) > (spK ss k).wa))) A108 rfl (by kernel_rfl) (by kernel_rfl) h78) rfl (pf_then (pf_then (pf_block (pf_block (pf_then (pf_then (pf_block pf_body))))))) (by kernel_rfl) (fun ac A109 => ?_)
          refine r_take 27 (.int .i64 st) A109 T75 (g_load (g := g3) (off := 1) 0 (by kernel_rfl) rfl (by kernel_rfl)) rfl (want_t (dj := 50) (b := (decide (abI (wa - ((f k).wa)) > (spK ss k).wa))) A109 rfl (by kernel_rfl) (by kernel_rfl) h78) rfl (pf_then (pf_then (pf_block (pf_block (pf_then (pf_then (pf_block pf_body))))))) (by kernel_rfl) (fun ac A110 => ?_)
          refine r_1 (i := 28) (by kernel_rfl) ?_
          refine rs_call (fs := #[]) (cp := #[]) (r := [(0, .slice B100 ((spK ss k).ne.length) c101), (0, .int .i64 st)]) #[.slice B100 ((spK ss k).ne.length) c101, .int .i64 st] (.bool (((spK ss k).ne).contains st)) A110 S73 sub_all sub_nil (Contains_s B100 ((spK ss k).ne.length) c101 ((spK ss k).ne) st _ (hs103.rd.kept S73.kp) (show (spK ss k).ne.length = (spK ss k).ne.length * 1 by omega) (by omega)) Try.call48 rfl (want_t (dj := 50) (b := (decide (abI (wa - ((f k).wa)) > (spK ss k).wa))) A110 rfl (by kernel_rfl) (by kernel_rfl) h78) (by kernel_rfl) (by kernel_rfl) (by kernel_rfl) rfl (fun ac wc A111 S112 => ?_)
          have T114 := S112.sub sub_all sub_nil
          refine r_take 29 (.bool (((spK ss k).ne).contains st)) A111 T114 (g_pick_f (b := (decide (abI (wa - ((f k).wa)) > (spK ss k).wa))) (by kernel_rfl) h78 (by kernel_rfl)) rfl rfl rfl (pf_then (pf_then (pf_block (pf_block (pf_then (pf_then (pf_block pf_body))))))) (by kernel_rfl) (fun ac A115 => ?_)
          refine r_take 30 (.bool (((spK ss k).ne).contains st)) A115 T114 (g_assign (by kernel_rfl)) rfl rfl rfl (pf_then (pf_then (pf_block (pf_block (pf_then (pf_then (pf_block pf_body))))))) (by kernel_rfl) (fun ac A116 => ?_)
          refine r_done (by kernel_rfl) ?_
          refine n_then ?_
          exact ⟨(A116.slot (A116.slot (A116.slot (A116.slot (A116.slot (A116.slot (A116.slot (A116.slot (A116.slot (A116.slot (A116.slot (A116.slot (A116.slot (A116.slot (A116.slot (A116.slot (A116.slot (A116.slot (A116.slot (A116.slot (A116.slot (A116.slot (A116.slot (A116.slot (A116.slot A116.nil (v := .bool (decide ((k : Int) = st))) (by kernel_rfl) rfl) (v := .bool (decide ((k : Int) = st))) (by kernel_rfl) rfl) (v := .int .i64 st) (by kernel_rfl) rfl) (v := .pointer (some ⟨g3, 1, none⟩)) (by kernel_rfl) rfl) (v := .int .i64 (k : Int)) (by kernel_rfl) rfl) (v := .pointer (some (ad.add (k * 4)))) (by kernel_rfl) rfl) (v := .pointer (some (ad.add (k * 4)))) (by kernel_rfl) rfl) (v := .int .i64 (k : Int)) (by kernel_rfl) rfl) (v := .slice (some ad) ss.length lc) (by kernel_rfl) rfl) (v := .pointer (some ⟨gb, 1, none⟩)) (by kernel_rfl) rfl) (v := .pointer (some ⟨gb, 0, none⟩)) (by kernel_rfl) rfl) (v := .pointer (some ⟨gb, 0, none⟩)) (by kernel_rfl) rfl) (v := .int .i64 (k : Int)) (by kernel_rfl) rfl) (v := .int .i64 (k : Int)) (by kernel_rfl) rfl) (v := .bool (decide ((k : Int) < (ss.length : Int)))) (by kernel_rfl) rfl) (v := .int .i64 (k : Int)) (by kernel_rfl) rfl) (v := .int .i64 (ss.length : Int)) (by kernel_rfl) rfl) (v := .slice (some ad) ss.length lc) (by kernel_rfl) rfl) (v := .pointer (some ⟨gb, 1, none⟩)) (by kernel_rfl) rfl) (v := .pointer (some ⟨gb, 0, none⟩)) (by kernel_rfl) rfl) (v := .pointer (some ⟨gb, 0, none⟩)) (by kernel_rfl) rfl) (v := .pointer (some ⟨g3, 0, none⟩)) (by kernel_rfl) rfl) (v := .agg #[.int .i64 mi, .int .i64 st, .int .i64 wa]) (by kernel_rfl) rfl) (v := .pointer (some ⟨gb, 0, none⟩)) (by kernel_rfl) rfl) (v := .bool (((spK ss k).ne).contains st)) (by kernel_rfl) (congrArg Value.bool (b_or_f h78 (Eq.refl (((spK ss k).ne).contains st))).symm)), S112.sub sub_all sub_all⟩
      · rintro ac wc ⟨A117, S118⟩
        refine n_then ?_
        refine c_ifb (b := ((decide (abI (wa - ((f k).wa)) > (spK ss k).wa)) || (((spK ss k).ne).contains st))) A117 (by kernel_rfl) (fun h119 => ?_) (fun h119 => ?_)
        · refine wp_region_lit ?_
          refine s_one (.pointer (some (ad.add (k * 4)))) A117 S118 (g_move (by kernel_rfl)) rfl (fun ac A120 => ?_)
          refine s_one (.pointer (some (ad.add (k * 4)))) A120 S118 (g_nil (by kernel_rfl)) rfl (fun ac A121 => ?_)
          refine s_one (.pointer (some (ad.add (k * 4 + 1)))) A121 S118 (g_field (u := .pointer (some (ad.add (k * 4)))) (by kernel_rfl) (fld_x (x := k * 4) (o := 1) (by kernel_rfl))) rfl (fun ac A122 => ?_)
          refine s_storeR (ad := ad) (off := k * 4 + 1) (u := .bool false) 0 1 [.bool false] (lsX ss.length (setF (addF ss f mi st wa k) k ⟨(addF ss f mi st wa k k).dn, false, (addF ss f mi st wa k k).mi, (addF ss f mi st wa k k).wa⟩)) A122 S118 (by kernel_rfl) (by kernel_rfl) rfl rfl rfl (by kernel_rfl) rfl (by rw [lsX_length]; omega) (lsX_kp false (by omega)) (fun wc S123 => ?_)
          refine wpList_nil ?_
          refine n_block ?_
          refine n_block ?_
          refine n_then ?_
          refine wp_region_lit ?_
          refine s_one (.int .i64 ((k : Int) + 1)) A122 S123 (g_bin (u := .int .i64 (k : Int)) (k := .int .i64 1) (by kernel_rfl) (by kernel_rfl) (fun _ => by kernel_rfl) (b_add (by omega))) rfl (fun ac A124 => ?_)
          refine s_one (.int .i64 ((k : Int) + 1)) A124 S123 (g_move (by kernel_rfl)) rfl (fun ac A125 => ?_)
          refine wpList_nil ?_
          refine n_then ?_
          refine ⟨_, ⟨k + 1, rfl, by omega, (A125.slot (A125.slot (A125.slot (A125.slot (A125.slot (A125.slot (A125.slot (A125.slot (A125.slot A125.nil (v := .int .i64 ((k : Int) + 1)) (by kernel_rfl) (congrArg (Value.int .i64) (by omega))) (v := .int .i64 (ss.length : Int)) (by kernel_rfl) rfl) (v := .slice (some ad) ss.length lc) (by kernel_rfl) rfl) (v := .pointer (some ⟨gb, 1, none⟩)) (by kernel_rfl) rfl) (v := .pointer (some ⟨gb, 0, none⟩)) (by kernel_rfl) rfl) (v := .pointer (some ⟨gb, 0, none⟩)) (by kernel_rfl) rfl) (v := .pointer (some ⟨g3, 0, none⟩)) (by kernel_rfl) rfl) (v := .agg #[.int .i64 mi, .int .i64 st, .int .i64 wa]) (by kernel_rfl) rfl) (v := .pointer (some ⟨gb, 0, none⟩)) (by kernel_rfl) rfl), (St.rerow 0 S123 rfl ⟨rfl, congrArg (lsX ss.length) (addF_k2 p43 h119)⟩).sub sub_all sub_all⟩, ?_⟩
          omega
        · have h126 := (Bool.or_eq_false_iff.1 h119).1
          have p127 := of_decide_eq_false h126
          have h128 := (Bool.or_eq_false_iff.1 h119).2
          refine wp_skip ?_
          refine n_block ?_
          refine n_block ?_
          refine n_then ?_
          refine wp_region_lit ?_
          refine s_one (.int .i64 ((k : Int) + 1)) A117 S118 (g_bin (u := .int .i64 (k : Int)) (k := .int .i64 1) (by kernel_rfl) (by kernel_rfl) (fun _ => by kernel_rfl) (b_add (by omega))) rfl (fun ac A129 => ?_)
          refine s_one (.int .i64 ((k : Int) + 1)) A129 S118 (g_move (by kernel_rfl)) rfl (fun ac A130 => ?_)
          refine wpList_nil ?_
          refine n_then ?_
          refine ⟨_, ⟨k + 1, rfl, by omega, (A130.slot (A130.slot (A130.slot (A130.slot (A130.slot (A130.slot (A130.slot (A130.slot (A130.slot A130.nil (v := .int .i64 ((k : Int) + 1)) (by kernel_rfl) (congrArg (Value.int .i64) (by omega))) (v := .int .i64 (ss.length : Int)) (by kernel_rfl) rfl) (v := .slice (some ad) ss.length lc) (by kernel_rfl) rfl) (v := .pointer (some ⟨gb, 1, none⟩)) (by kernel_rfl) rfl) (v := .pointer (some ⟨gb, 0, none⟩)) (by kernel_rfl) rfl) (v := .pointer (some ⟨gb, 0, none⟩)) (by kernel_rfl) rfl) (v := .pointer (some ⟨g3, 0, none⟩)) (by kernel_rfl) rfl) (v := .agg #[.int .i64 mi, .int .i64 st, .int .i64 wa]) (by kernel_rfl) rfl) (v := .pointer (some ⟨gb, 0, none⟩)) (by kernel_rfl) rfl), (St.rerow 0 S118 rfl ⟨rfl, congrArg (lsX ss.length) (addF_n p43 h119)⟩).sub sub_all sub_all⟩, ?_⟩
          omega
  · have p131 := of_decide_eq_false h15
    refine wp_exit ?_
    refine x_then ?_
    refine x_then ?_
    refine x_hit ?_
    have ek : k = ss.length := by omega
    have q9 : St b (⟨gb, 81, #[.slice A ss.length cap, .slice (some ad) ss.length lc], true⟩ :: L) (⟨.slice (some ad) ss.length lc, 79, 4, ss.length, (lsX ss.length (addF ss f mi st wa k))⟩ :: M) _ := S12.sub (sub_skip sub_all) sub_all
    rw [ek] at q9
    exact it_end A14 Try.results34 ⟨_, rfl, q9⟩

set_option maxRecDepth 100000 in
set_option maxHeartbeats 400000 in
theorem until_step (gb : Nat) (A : Option Addr) (cap : Nat) (ss : List Sp) (ad : Addr) (lc : Nat) (f : Nat → Ls) (i : Nat) (w0 : World) (hi : i < ss.length) (hb : Blk w0 gb 81 #[.slice A ss.length cap, .slice (some ad) ss.length lc]) (hl : VReads w0 (some ad) (lsX ss.length f)) (hr : SpReads w0 A ss) (gs : GoodS ss) (hmi : ∀ j, -1000000000 ≤ (f j).mi ∧ (f j).mi ≤ 1000000000) (ih : ∀ (j : Nat), j < i → ∀ (x : Int) (w : World), x = (j : Int) → Blk w gb 81 #[.slice A ss.length cap, .slice (some ad) ss.length lc] → VReads w (some ad) (lsX ss.length f) → SpReads w A ss → Calls Try.prog 22 #[.pointer (some ⟨gb, 0, none⟩), .int .i64 x] w fun e w' => e = .returned (.tuple #[.int .i64 (uV ss f j).1, .bool (uV ss f j).2]) ∧ Below w.heap.size w w') :
    Calls Try.prog 22 #[.pointer (some ⟨gb, 0, none⟩), .int .i64 (i : Int)] w0 fun e w' => e = .returned (.tuple #[.int .i64 (uV ss f i).1, .bool (uV ss f i).2]) ∧ Below w0.heap.size w0 w' := by
  have S0 := St.start w0
  have S0 := S0.came hb (by simp)
  have hfw := gs.few
  have hla := gs.lasts i hi
  have hm9 := hmi i
  refine enter (n := 66) Try.func22 rfl rfl rfl (fun ac A0 => ?_)
  refine wp_seq ?_
  refine wp_region_lit ?_
  refine s_one (.int .i64 0) A0 S0 (g_assign (by kernel_rfl)) rfl (fun ac A1 => ?_)
  refine s_one (.bool false) A1 S0 (g_assign (by kernel_rfl)) rfl (fun ac A2 => ?_)
  refine wpList_nil ?_
  refine n_then ?_
  refine wp_seq ?_
  refine wp_region_lit ?_
  refine s_one (.pointer (some ⟨gb, 0, none⟩)) A2 S0 (g_move (by kernel_rfl)) rfl (fun ac A3 => ?_)
  refine s_one (.pointer (some ⟨gb, 0, none⟩)) A3 S0 (g_nil (by kernel_rfl)) rfl (fun ac A4 => ?_)
  refine s_one (.pointer (some ⟨gb, 1, none⟩)) A4 S0 (g_field (u := .pointer (some ⟨gb, 0, none⟩)) (by kernel_rfl) (fun _ => by kernel_rfl)) rfl (fun ac A5 => ?_)
  refine s_one (.slice (some ad) ss.length lc) A5 S0 (g_load (g := gb) (off := 1) 0 (by kernel_rfl) rfl (by kernel_rfl)) rfl (fun ac A6 => ?_)
  refine s_one (.int .i64 (i : Int)) A6 S0 (g_move (by kernel_rfl)) rfl (fun ac A7 => ?_)
  refine s_one (.pointer (some (ad.add (i * 4)))) A7 S0 (g_index (u := .slice (some ad) ss.length lc) (k := .int .i64 (i : Int)) (by kernel_rfl) (by kernel_rfl) (ix_xs (e := 79) (size := 4) (bytes := 24) i (by kernel_rfl) (by omega) (by omega))) rfl (fun ac A8 => ?_)
  refine s_one (.agg #[.bool ((f i).dn), .bool ((f i).kp), .int .i64 ((f i).mi), .int .i64 ((f i).wa)]) A8 S0 (g_loadXV (p := ad.add (i * 4)) (X := lsC (f i)) (by kernel_rfl) (ls_cells hl (lsX_getE (b := f) (x := (f i)) (k := i) (by omega) rfl)) (by kernel_rfl) rfl) rfl (fun ac A9 => ?_)
  refine s_alloc (#[.bool false, .bool false, .int .i64 0, .int .i64 0]) A9 S0 (by kernel_rfl) rfl (fun g12 ac wc A10 S11 => ?_)
  refine s_store (g := g12) (off := 0) (v := .agg #[.bool ((f i).dn), .bool ((f i).kp), .int .i64 ((f i).mi), .int .i64 ((f i).wa)]) 0 (#[.bool ((f i).dn), .bool ((f i).kp), .int .i64 ((f i).mi), .int .i64 ((f i).wa)]) A10 S11 (by kernel_rfl) (by kernel_rfl) rfl (by kernel_rfl) (fun wc S14 => ?_)
  refine wpList_nil ?_
  refine n_then ?_
  refine wp_seq ?_
  refine c_cut (fun ac wc => Fr 66 ac [(8, .bool (((f i).dn) && ((f i).kp))), (7, .int .i64 ((f i).mi + ((spK ss i).la))), (0, .pointer (some ⟨gb, 0, none⟩)), (1, .int .i64 (i : Int)), (4, .int .i64 0), (5, .bool false), (13, .pointer (some ⟨gb, 0, none⟩)), (14, .pointer (some ⟨gb, 0, none⟩)), (15, .pointer (some ⟨gb, 1, none⟩)), (16, .slice (some ad) ss.length lc), (17, .int .i64 (i : Int)), (18, .pointer (some (ad.add (i * 4)))), (19, .agg #[.bool ((f i).dn), .bool ((f i).kp), .int .i64 ((f i).mi), .int .i64 ((f i).wa)]), (6, .pointer (some ⟨g12, 0, none⟩))] ∧ St w0 [⟨g12, 79, #[.bool ((f i).dn), .bool ((f i).kp), .int .i64 ((f i).mi), .int .i64 ((f i).wa)], true⟩, ⟨gb, 81, #[.slice A ss.length cap, .slice (some ad) ss.length lc], false⟩] [] wc) ?_ ?_
  · refine r_begin (w0 := w0) (by kernel_rfl) (S14.sub sub_all sub_all) (fun wc T16 B17 => ?_)
    have S18 := S14.kept B17
    refine r_take 0 (.pointer (some ⟨g12, 2, none⟩)) A10 T16 (g_field (u := .pointer (some ⟨g12, 0, none⟩)) (by kernel_rfl) (fun _ => by kernel_rfl)) rfl rfl rfl (pf_then (pf_then pf_body)) (by kernel_rfl) (fun ac A19 => ?_)
    refine r_take 1 (.int .i64 ((f i).mi)) A19 T16 (g_load (g := g12) (off := 2) 0 (by kernel_rfl) rfl (by kernel_rfl)) rfl rfl rfl (pf_then (pf_then pf_body)) (by kernel_rfl) (fun ac A20 => ?_)
    refine r_take 2 (.pointer (some ⟨gb, 0, none⟩)) A20 T16 (g_move (by kernel_rfl)) rfl rfl rfl (pf_then (pf_then pf_body)) (by kernel_rfl) (fun ac A21 => ?_)
    refine r_take 3 (.pointer (some ⟨gb, 0, none⟩)) A21 T16 (g_nil (by kernel_rfl)) rfl rfl rfl (pf_then (pf_then pf_body)) (by kernel_rfl) (fun ac A22 => ?_)
    refine r_take 4 (.pointer (some ⟨gb, 0, none⟩)) A22 T16 (g_field (u := .pointer (some ⟨gb, 0, none⟩)) (by kernel_rfl) (fun _ => by kernel_rfl)) rfl rfl rfl (pf_then (pf_then pf_body)) (by kernel_rfl) (fun ac A23 => ?_)
    refine r_take 5 (.slice A ss.length cap) A23 T16 (g_load (g := gb) (off := 0) 1 (by kernel_rfl) rfl (by kernel_rfl)) rfl rfl rfl (pf_then (pf_then pf_body)) (by kernel_rfl) (fun ac A24 => ?_)
    refine r_take 6 (.int .i64 (i : Int)) A24 T16 (g_move (by kernel_rfl)) rfl rfl rfl (pf_then (pf_then pf_body)) (by kernel_rfl) (fun ac A25 => ?_)
    obtain ⟨ad26, B27, c28, he29, hs30⟩ := hr i (by omega)
    have hm31 := hs30.hm
    have hm32 := hs30.hn
    refine r_take 7 (.pointer (some (ad26.add (i * 4)))) A25 T16 (g_index (u := .slice A ss.length cap) (k := .int .i64 (i : Int)) (by kernel_rfl) (by kernel_rfl) (ix_xsB (e := 59) (size := 4) (bytes := 56) i (by kernel_rfl) (by omega) (by omega) he29)) rfl rfl rfl (pf_then (pf_then pf_body)) (by kernel_rfl) (fun ac A33 => ?_)
    refine r_take 8 (.pointer (some (ad26.add (i * 4 + 1)))) A33 T16 (g_field (u := .pointer (some (ad26.add (i * 4)))) (by kernel_rfl) (fld_x (x := i * 4) (o := 1) (by kernel_rfl))) rfl rfl rfl (pf_then (pf_then pf_body)) (by kernel_rfl) (fun ac A34 => ?_)
    refine r_take 9 (.int .i64 ((spK ss i).la)) A34 T16 (g_loadX (ad := ad26.add (i * 4 + 1)) (by kernel_rfl) (sp_cell (j := 1) hs30 rfl rfl) (by kernel_rfl)) rfl rfl rfl (pf_then (pf_then pf_body)) (by kernel_rfl) (fun ac A35 => ?_)
    refine r_take 10 (.int .i64 ((f i).mi + ((spK ss i).la))) A35 T16 (g_bin (u := .int .i64 ((f i).mi)) (k := .int .i64 ((spK ss i).la)) (by kernel_rfl) (by kernel_rfl) (fun _ => by kernel_rfl) (b_add (by omega))) rfl rfl rfl (pf_then (pf_then pf_body)) (by kernel_rfl) (fun ac A36 => ?_)
    refine r_take 11 (.pointer (some ⟨g12, 0, none⟩)) A36 T16 (g_field (u := .pointer (some ⟨g12, 0, none⟩)) (by kernel_rfl) (fun _ => by kernel_rfl)) rfl rfl rfl (pf_then (pf_then pf_body)) (by kernel_rfl) (fun ac A37 => ?_)
    refine r_take 12 (.bool ((f i).dn)) A37 T16 (g_load (g := g12) (off := 0) 0 (by kernel_rfl) rfl (by kernel_rfl)) rfl rfl rfl (pf_then (pf_then pf_body)) (by kernel_rfl) (fun ac A38 => ?_)
    refine r_take 13 (.bool ((f i).dn)) A38 T16 (g_move (by kernel_rfl)) rfl rfl rfl (pf_then (pf_then pf_body)) (by kernel_rfl) (fun ac A39 => ?_)
    refine by_bool ((f i).dn) (fun h40 => ?_) (fun h40 => ?_)
    · refine r_take 14 (.pointer (some ⟨g12, 1, none⟩)) A39 T16 (g_field (u := .pointer (some ⟨g12, 0, none⟩)) (by kernel_rfl) (fun _ => by kernel_rfl)) rfl (want_t (dj := 33) (b := ((f i).dn)) A39 rfl (by kernel_rfl) (by kernel_rfl) h40) rfl (pf_then (pf_then pf_body)) (by kernel_rfl) (fun ac A41 => ?_)
      refine r_take 15 (.bool ((f i).kp)) A41 T16 (g_load (g := g12) (off := 1) 0 (by kernel_rfl) rfl (by kernel_rfl)) rfl (want_t (dj := 33) (b := ((f i).dn)) A41 rfl (by kernel_rfl) (by kernel_rfl) h40) rfl (pf_then (pf_then pf_body)) (by kernel_rfl) (fun ac A42 => ?_)
      refine r_take 16 (.bool ((f i).kp)) A42 T16 (g_pick_t (b := ((f i).dn)) (by kernel_rfl) h40 (by kernel_rfl)) rfl rfl rfl (pf_then (pf_then pf_body)) (by kernel_rfl) (fun ac A43 => ?_)
      refine r_take 17 (.int .i64 ((f i).mi + ((spK ss i).la))) A43 T16 (g_assign (by kernel_rfl)) rfl rfl rfl (pf_then (pf_then pf_body)) (by kernel_rfl) (fun ac A44 => ?_)
      refine r_take 18 (.bool ((f i).kp)) A44 T16 (g_assign (by kernel_rfl)) rfl rfl rfl (pf_then (pf_then pf_body)) (by kernel_rfl) (fun ac A45 => ?_)
      refine r_done (by kernel_rfl) ?_
      refine n_then ?_
      exact ⟨(A45.slot (A45.slot (A45.slot (A45.slot (A45.slot (A45.slot (A45.slot (A45.slot (A45.slot (A45.slot (A45.slot (A45.slot (A45.slot (A45.slot A45.nil (v := .pointer (some ⟨g12, 0, none⟩)) (by kernel_rfl) rfl) (v := .agg #[.bool ((f i).dn), .bool ((f i).kp), .int .i64 ((f i).mi), .int .i64 ((f i).wa)]) (by kernel_rfl) rfl) (v := .pointer (some (ad.add (i * 4)))) (by kernel_rfl) rfl) (v := .int .i64 (i : Int)) (by kernel_rfl) rfl) (v := .slice (some ad) ss.length lc) (by kernel_rfl) rfl) (v := .pointer (some ⟨gb, 1, none⟩)) (by kernel_rfl) rfl) (v := .pointer (some ⟨gb, 0, none⟩)) (by kernel_rfl) rfl) (v := .pointer (some ⟨gb, 0, none⟩)) (by kernel_rfl) rfl) (v := .bool false) (by kernel_rfl) rfl) (v := .int .i64 0) (by kernel_rfl) rfl) (v := .int .i64 (i : Int)) (by kernel_rfl) rfl) (v := .pointer (some ⟨gb, 0, none⟩)) (by kernel_rfl) rfl) (v := .int .i64 ((f i).mi + ((spK ss i).la))) (by kernel_rfl) rfl) (v := .bool ((f i).kp)) (by kernel_rfl) (congrArg Value.bool (b_and_t h40 (Eq.refl ((f i).kp))).symm)), S18.sub sub_all sub_all⟩
    · refine r_skip 14 A39 T16 rfl (want_f (dj := 33) (b := ((f i).dn)) A39 rfl (by kernel_rfl) (by kernel_rfl) h40) rfl (pf_then (pf_then pf_body)) (by kernel_rfl) (fun ac A46 => ?_)
      refine r_skip 15 A46 T16 rfl (want_f (dj := 33) (b := ((f i).dn)) A46 rfl (by kernel_rfl) (by kernel_rfl) h40) rfl (pf_then (pf_then pf_body)) (by kernel_rfl) (fun ac A47 => ?_)
      refine r_take 16 (.bool false) A47 T16 (g_pick_f (b := ((f i).dn)) (by kernel_rfl) h40 (by kernel_rfl)) rfl rfl rfl (pf_then (pf_then pf_body)) (by kernel_rfl) (fun ac A48 => ?_)
      refine r_take 17 (.int .i64 ((f i).mi + ((spK ss i).la))) A48 T16 (g_assign (by kernel_rfl)) rfl rfl rfl (pf_then (pf_then pf_body)) (by kernel_rfl) (fun ac A49 => ?_)
      refine r_take 18 (.bool false) A49 T16 (g_assign (by kernel_rfl)) rfl rfl rfl (pf_then (pf_then pf_body)) (by kernel_rfl) (fun ac A50 => ?_)
      refine r_done (by kernel_rfl) ?_
      refine n_then ?_
      exact ⟨(A50.slot (A50.slot (A50.slot (A50.slot (A50.slot (A50.slot (A50.slot (A50.slot (A50.slot (A50.slot (A50.slot (A50.slot (A50.slot (A50.slot A50.nil (v := .pointer (some ⟨g12, 0, none⟩)) (by kernel_rfl) rfl) (v := .agg #[.bool ((f i).dn), .bool ((f i).kp), .int .i64 ((f i).mi), .int .i64 ((f i).wa)]) (by kernel_rfl) rfl) (v := .pointer (some (ad.add (i * 4)))) (by kernel_rfl) rfl) (v := .int .i64 (i : Int)) (by kernel_rfl) rfl) (v := .slice (some ad) ss.length lc) (by kernel_rfl) rfl) (v := .pointer (some ⟨gb, 1, none⟩)) (by kernel_rfl) rfl) (v := .pointer (some ⟨gb, 0, none⟩)) (by kernel_rfl) rfl) (v := .pointer (some ⟨gb, 0, none⟩)) (by kernel_rfl) rfl) (v := .bool false) (by kernel_rfl) rfl) (v := .int .i64 0) (by kernel_rfl) rfl) (v := .int .i64 (i : Int)) (by kernel_rfl) rfl) (v := .pointer (some ⟨gb, 0, none⟩)) (by kernel_rfl) rfl) (v := .int .i64 ((f i).mi + ((spK ss i).la))) (by kernel_rfl) rfl) (v := .bool false) (by kernel_rfl) (congrArg Value.bool (b_af1 h40).symm)), S18.sub sub_all sub_all⟩
  · rintro ac wc ⟨A51, S52⟩
    refine n_then ?_
    refine wp_seq ?_
    refine wp_seq ?_
    refine wp_region_lit ?_
    refine s_one (.pointer (some ⟨gb, 0, none⟩)) A51 S52 (g_move (by kernel_rfl)) rfl (fun ac A53 => ?_)
    refine s_one (.pointer (some ⟨gb, 0, none⟩)) A53 S52 (g_nil (by kernel_rfl)) rfl (fun ac A54 => ?_)
    refine s_one (.pointer (some ⟨gb, 0, none⟩)) A54 S52 (g_field (u := .pointer (some ⟨gb, 0, none⟩)) (by kernel_rfl) (fun _ => by kernel_rfl)) rfl (fun ac A55 => ?_)
    refine s_one (.slice A ss.length cap) A55 S52 (g_load (g := gb) (off := 0) 1 (by kernel_rfl) rfl (by kernel_rfl)) rfl (fun ac A56 => ?_)
    refine s_one (.int .i64 (i : Int)) A56 S52 (g_move (by kernel_rfl)) rfl (fun ac A57 => ?_)
    obtain ⟨ad58, B59, c60, he61, hs62⟩ := hr i (by omega)
    have hm63 := hs62.hm
    have hm64 := hs62.hn
    refine s_one (.pointer (some (ad58.add (i * 4)))) A57 S52 (g_index (u := .slice A ss.length cap) (k := .int .i64 (i : Int)) (by kernel_rfl) (by kernel_rfl) (ix_xsB (e := 59) (size := 4) (bytes := 56) i (by kernel_rfl) (by omega) (by omega) he61)) rfl (fun ac A65 => ?_)
    refine s_one (.pointer (some (ad58.add (i * 4 + 3)))) A65 S52 (g_field (u := .pointer (some (ad58.add (i * 4)))) (by kernel_rfl) (fld_x (x := i * 4) (o := 3) (by kernel_rfl))) rfl (fun ac A66 => ?_)
    refine s_one (.slice B59 ((spK ss i).ne.length) c60) A66 S52 (g_loadX (ad := ad58.add (i * 4 + 3)) (by kernel_rfl) (sp_cell (j := 3) hs62 rfl rfl) (by kernel_rfl)) rfl (fun ac A67 => ?_)
    refine s_one (.int .i64 ((spK ss i).ne.length : Int)) A67 S52 (g_built (r := [(0, .slice B59 ((spK ss i).ne.length) c60)]) (by kernel_rfl) (fun _ _ _ => by kernel_rfl)) rfl (fun ac A68 => ?_)
    refine s_one (.int .i64 0) A68 S52 (g_move (by kernel_rfl)) rfl (fun ac A69 => ?_)
    refine wpList_nil ?_
    refine n_then ?_
    refine wp_block ?_
    refine c_loopN (fun mm ac wc => ∃ (k : Nat), mm = (spK ss i).ne.length - k ∧ (k ≤ (spK ss i).ne.length) ∧ Fr 66 ac [(0, .pointer (some ⟨gb, 0, none⟩)), (1, .int .i64 (i : Int)), (4, .int .i64 0), (5, .bool false), (13, .pointer (some ⟨gb, 0, none⟩)), (14, .pointer (some ⟨gb, 0, none⟩)), (15, .pointer (some ⟨gb, 1, none⟩)), (16, .slice (some ad) ss.length lc), (17, .int .i64 (i : Int)), (18, .pointer (some (ad.add (i * 4)))), (19, .agg #[.bool ((f i).dn), .bool ((f i).kp), .int .i64 ((f i).mi), .int .i64 ((f i).wa)]), (6, .pointer (some ⟨g12, 0, none⟩)), (37, .pointer (some ⟨gb, 0, none⟩)), (38, .pointer (some ⟨gb, 0, none⟩)), (39, .pointer (some ⟨gb, 0, none⟩)), (40, .slice A ss.length cap), (41, .int .i64 (i : Int)), (42, .pointer (some (ad58.add (i * 4)))), (43, .pointer (some (ad58.add (i * 4 + 3)))), (44, .slice B59 ((spK ss i).ne.length) c60), (45, .int .i64 ((spK ss i).ne.length : Int)), (46, .int .i64 (k : Int)), (7, .int .i64 ((uF (fun n => uV ss f n.toNat) ((f i).mi + (spK ss i).la, (f i).dn && (f i).kp) ((spK ss i).ne.take k)).1)), (8, .bool ((uF (fun n => uV ss f n.toNat) ((f i).mi + (spK ss i).la, (f i).dn && (f i).kp) ((spK ss i).ne.take k)).2))] ∧ St w0 [⟨g12, 79, #[.bool ((f i).dn), .bool ((f i).kp), .int .i64 ((f i).mi), .int .i64 ((f i).wa)], true⟩, ⟨gb, 81, #[.slice A ss.length cap, .slice (some ad) ss.length lc], false⟩] [] wc) _ ⟨0, rfl, Nat.zero_le _, (A69.slot (A69.slot (A69.slot (A69.slot (A69.slot (A69.slot (A69.slot (A69.slot (A69.slot (A69.slot (A69.slot (A69.slot (A69.slot (A69.slot (A69.slot (A69.slot (A69.slot (A69.slot (A69.slot (A69.slot (A69.slot (A69.slot (A69.slot (A69.slot A69.nil (v := .bool (((f i).dn) && ((f i).kp))) (by kernel_rfl) rfl) (v := .int .i64 ((f i).mi + ((spK ss i).la))) (by kernel_rfl) rfl) (v := .int .i64 0) (by kernel_rfl) (congrArg (Value.int .i64) (by omega))) (v := .int .i64 ((spK ss i).ne.length : Int)) (by kernel_rfl) rfl) (v := .slice B59 ((spK ss i).ne.length) c60) (by kernel_rfl) rfl) (v := .pointer (some (ad58.add (i * 4 + 3)))) (by kernel_rfl) rfl) (v := .pointer (some (ad58.add (i * 4)))) (by kernel_rfl) rfl) (v := .int .i64 (i : Int)) (by kernel_rfl) rfl) (v := .slice A ss.length cap) (by kernel_rfl) rfl) (v := .pointer (some ⟨gb, 0, none⟩)) (by kernel_rfl) rfl) (v := .pointer (some ⟨gb, 0, none⟩)) (by kernel_rfl) rfl) (v := .pointer (some ⟨gb, 0, none⟩)) (by kernel_rfl) rfl) (v := .pointer (some ⟨g12, 0, none⟩)) (by kernel_rfl) rfl) (v := .agg #[.bool ((f i).dn), .bool ((f i).kp), .int .i64 ((f i).mi), .int .i64 ((f i).wa)]) (by kernel_rfl) rfl) (v := .pointer (some (ad.add (i * 4)))) (by kernel_rfl) rfl) (v := .int .i64 (i : Int)) (by kernel_rfl) rfl) (v := .slice (some ad) ss.length lc) (by kernel_rfl) rfl) (v := .pointer (some ⟨gb, 1, none⟩)) (by kernel_rfl) rfl) (v := .pointer (some ⟨gb, 0, none⟩)) (by kernel_rfl) rfl) (v := .pointer (some ⟨gb, 0, none⟩)) (by kernel_rfl) rfl) (v := .bool false) (by kernel_rfl) rfl) (v := .int .i64 0) (by kernel_rfl) rfl) (v := .int .i64 (i : Int)) (by kernel_rfl) rfl) (v := .pointer (some ⟨gb, 0, none⟩)) (by kernel_rfl) rfl), S52.sub sub_all sub_all⟩ ?_
    rintro mm ac wc ⟨k, hm72, hk, A70, S71⟩
    refine wp_seq ?_
    refine wp_region_lit ?_
    refine s_one (.bool (decide ((k : Int) < ((spK ss i).ne.length : Int)))) A70 S71 (g_bin (u := .int .i64 (k : Int)) (k := .int .i64 ((spK ss i).ne.length : Int)) (by kernel_rfl) (by kernel_rfl) (fun _ => by kernel_rfl) (fun _ => by kernel_rfl)) rfl (fun ac A73 => ?_)
    refine wpList_nil ?_
    refine n_then ?_
    refine wp_seq ?_
    refine c_ifb (b := (decide ((k : Int) < ((spK ss i).ne.length : Int)))) A73 (by kernel_rfl) (fun h74 => ?_) (fun h74 => ?_)
    · have p75 := of_decide_eq_true h74
      refine wp_skip ?_
      refine n_then ?_
      refine wp_seq ?_
      refine wp_block ?_
      refine wp_seq ?_
      refine wp_region_lit ?_
      obtain ⟨ad76, rfl, _⟩ := hs62.rd (k) (by have hlen := (show (spK ss i).ne.length = (spK ss i).ne.length * 1 by omega); omega)
      refine s_one (.pointer (some (ad76.add k))) A73 S71 (g_index (u := .slice (some ad76) ((spK ss i).ne.length) c60) (k := .int .i64 (k : Int)) (by kernel_rfl) (by kernel_rfl) (ix_x (e := 3) (bytes := 8) k (by kernel_rfl) (by omega) (by omega))) rfl (fun ac A77 => ?_)
      refine s_one (.int .i64 (nthI ((spK ss i).ne) k)) A77 S71 (g_loadXI (l := (spK ss i).ne) (k := k) (by kernel_rfl) hs62.rd (by have hlen := (show (spK ss i).ne.length = (spK ss i).ne.length * 1 by omega); omega) (by kernel_rfl)) rfl (fun ac A78 => ?_)
      refine s_one (.int .i64 (nthI ((spK ss i).ne) k)) A78 S71 (g_assign (by kernel_rfl)) rfl (fun ac A79 => ?_)
      refine wpList_nil ?_
      refine n_then ?_
      refine wp_seq ?_
      have hnm := gs.ahead i hi _ (nthI_mem (show k < (spK ss i).ne.length by omega))
      refine wp_region_lit ?_
      refine s_one (.pointer (some ⟨gb, 0, none⟩)) A79 S71 (g_move (by kernel_rfl)) rfl (fun ac A80 => ?_)
      refine s_one (.int .i64 (nthI ((spK ss i).ne) k)) A80 S71 (g_move (by kernel_rfl)) rfl (fun ac A81 => ?_)
      refine s_call (fs := #[]) (cp := #[]) (r := [(0, .pointer (some ⟨gb, 0, none⟩)), (0, .int .i64 (nthI ((spK ss i).ne) k))]) #[.pointer (some ⟨gb, 0, none⟩), .int .i64 (nthI ((spK ss i).ne) k)] (.tuple #[.int .i64 ((uV ss f ((nthI ((spK ss i).ne) k).toNat)).1), .bool ((uV ss f ((nthI ((spK ss i).ne) k).toNat)).2)]) A81 S71 (ih ((nthI ((spK ss i).ne) k).toNat) (by omega) _ _ (by omega) (S71.get 1 rfl) (VReads.kept hl S71.kp) (hr.kept S71.kp)) Try.call22 (by kernel_rfl) (by kernel_rfl) (by kernel_rfl) rfl (fun ac wc A82 S83 => ?_)
      refine s_one (.tuple #[.int .i64 ((uV ss f ((nthI ((spK ss i).ne) k).toNat)).1), .bool ((uV ss f ((nthI ((spK ss i).ne) k).toNat)).2)]) A82 S83 (g_move (by kernel_rfl)) rfl (fun ac A85 => ?_)
      refine s_one (.int .i64 ((uV ss f ((nthI ((spK ss i).ne) k).toNat)).1)) A85 S83 (g_extract (u := .tuple #[.int .i64 ((uV ss f ((nthI ((spK ss i).ne) k).toNat)).1), .bool ((uV ss f ((nthI ((spK ss i).ne) k).toNat)).2)]) (by kernel_rfl) (fun _ => by kernel_rfl)) rfl (fun ac A86 => ?_)
      refine s_one (.bool ((uV ss f ((nthI ((spK ss i).ne) k).toNat)).2)) A86 S83 (g_extract (u := .tuple #[.int .i64 ((uV ss f ((nthI ((spK ss i).ne) k).toNat)).1), .bool ((uV ss f ((nthI ((spK ss i).ne) k).toNat)).2)]) (by kernel_rfl) (fun _ => by kernel_rfl)) rfl (fun ac A87 => ?_)
      refine s_one (.int .i64 ((uV ss f ((nthI ((spK ss i).ne) k).toNat)).1)) A87 S83 (g_assign (by kernel_rfl)) rfl (fun ac A88 => ?_)
      refine s_one (.bool ((uV ss f ((nthI ((spK ss i).ne) k).toNat)).2)) A88 S83 (g_assign (by kernel_rfl)) rfl (fun ac A89 => ?_)
      refine wpList_nil ?_
      refine n_then ?_
      refine c_cut (fun ac wc => Fr 66 ac [(8, .bool (((uF (fun n => uV ss f n.toNat) ((f i).mi + (spK ss i).la, (f i).dn && (f i).kp) ((spK ss i).ne.take k)).2) && ((uV ss f ((nthI ((spK ss i).ne) k).toNat)).2))), (7, .int .i64 (mn ((uF (fun n => uV ss f n.toNat) ((f i).mi + (spK ss i).la, (f i).dn && (f i).kp) ((spK ss i).ne.take k)).1) ((uV ss f ((nthI ((spK ss i).ne) k).toNat)).1))), (0, .pointer (some ⟨gb, 0, none⟩)), (1, .int .i64 (i : Int)), (4, .int .i64 0), (5, .bool false), (13, .pointer (some ⟨gb, 0, none⟩)), (14, .pointer (some ⟨gb, 0, none⟩)), (15, .pointer (some ⟨gb, 1, none⟩)), (16, .slice (some ad) ss.length lc), (17, .int .i64 (i : Int)), (18, .pointer (some (ad.add (i * 4)))), (19, .agg #[.bool ((f i).dn), .bool ((f i).kp), .int .i64 ((f i).mi), .int .i64 ((f i).wa)]), (6, .pointer (some ⟨g12, 0, none⟩)), (37, .pointer (some ⟨gb, 0, none⟩)), (38, .pointer (some ⟨gb, 0, none⟩)), (39, .pointer (some ⟨gb, 0, none⟩)), (40, .slice A ss.length cap), (41, .int .i64 (i : Int)), (42, .pointer (some (ad58.add (i * 4)))), (43, .pointer (some (ad58.add (i * 4 + 3)))), (44, .slice (some ad76) ((spK ss i).ne.length) c60), (45, .int .i64 ((spK ss i).ne.length : Int)), (46, .int .i64 (k : Int)), (47, .bool (decide ((k : Int) < ((spK ss i).ne.length : Int)))), (48, .pointer (some (ad76.add k))), (49, .int .i64 (nthI ((spK ss i).ne) k)), (10, .int .i64 (nthI ((spK ss i).ne) k)), (51, .pointer (some ⟨gb, 0, none⟩)), (52, .int .i64 (nthI ((spK ss i).ne) k)), (53, .tuple #[.int .i64 ((uV ss f ((nthI ((spK ss i).ne) k).toNat)).1), .bool ((uV ss f ((nthI ((spK ss i).ne) k).toNat)).2)]), (50, .tuple #[.int .i64 ((uV ss f ((nthI ((spK ss i).ne) k).toNat)).1), .bool ((uV ss f ((nthI ((spK ss i).ne) k).toNat)).2)]), (54, .int .i64 ((uV ss f ((nthI ((spK ss i).ne) k).toNat)).1)), (55, .bool ((uV ss f ((nthI ((spK ss i).ne) k).toNat)).2)), (11, .int .i64 ((uV ss f ((nthI ((spK ss i).ne) k).toNat)).1)), (12, .bool ((uV ss f ((nthI ((spK ss i).ne) k).toNat)).2))] ∧ St w0 [⟨g12, 79, #[.bool ((f i).dn), .bool ((f i).kp), .int .i64 ((f i).mi), .int .i64 ((f i).wa)], true⟩, ⟨gb, 81, #[.slice A ss.length cap, .slice (some ad) ss.length lc], false⟩] [] wc) ?_ ?_
      · refine wp_region_lit ?_
        refine s_one (.int .i64 ((uF (fun n => uV ss f n.toNat) ((f i).mi + (spK ss i).la, (f i).dn && (f i).kp) ((spK ss i).ne.take k)).1)) A89 S83 (g_move (by kernel_rfl)) rfl (fun ac A90 => ?_)
        refine s_one (.int .i64 ((uV ss f ((nthI ((spK ss i).ne) k).toNat)).1)) A90 S83 (g_move (by kernel_rfl)) rfl (fun ac A91 => ?_)
        refine s_one (.int .i64 (mn ((uF (fun n => uV ss f n.toNat) ((f i).mi + (spK ss i).la, (f i).dn && (f i).kp) ((spK ss i).ne.take k)).1) ((uV ss f ((nthI ((spK ss i).ne) k).toNat)).1))) A91 S83 (g_built (r := [(0, .int .i64 ((uF (fun n => uV ss f n.toNat) ((f i).mi + (spK ss i).la, (f i).dn && (f i).kp) ((spK ss i).ne.take k)).1)), (0, .int .i64 ((uV ss f ((nthI ((spK ss i).ne) k).toNat)).1))]) (by kernel_rfl) (fun ty cs w => by show (do let x ← Builtin.min_ _ ty #[.int .i64 ((uF (fun n => uV ss f n.toNat) ((f i).mi + (spK ss i).la, (f i).dn && (f i).kp) ((spK ss i).ne.take k)).1), .int .i64 ((uV ss f ((nthI ((spK ss i).ne) k).toNat)).1)]; pure (Next.value x) : Sem Next).run _ w = _; rw [Sem.run_bind, run_min_mn]; rfl)) rfl (fun ac A92 => ?_)
        refine s_one (.bool ((uF (fun n => uV ss f n.toNat) ((f i).mi + (spK ss i).la, (f i).dn && (f i).kp) ((spK ss i).ne.take k)).2)) A92 S83 (g_move (by kernel_rfl)) rfl (fun ac A93 => ?_)
        refine s_one (.bool ((uF (fun n => uV ss f n.toNat) ((f i).mi + (spK ss i).la, (f i).dn && (f i).kp) ((spK ss i).ne.take k)).2)) A93 S83 (g_move (by kernel_rfl)) rfl (fun ac A94 => ?_)
        refine by_bool ((uF (fun n => uV ss f n.toNat) ((f i).mi + (spK ss i).la, (f i).dn && (f i).kp) ((spK ss i).ne.take k)).2) (fun h95 => ?_) (fun h95 => ?_)
        · refine s_want (dj := 60) (b := ((uF (fun n => uV ss f n.toNat) ((f i).mi + (spK ss i).la, (f i).dn && (f i).kp) ((spK ss i).ne.take k)).2)) A94 (by kernel_rfl) (by kernel_rfl) h95 ?_
          refine s_one (.bool ((uV ss f ((nthI ((spK ss i).ne) k).toNat)).2)) A94 S83 (g_move (by kernel_rfl)) rfl (fun ac A96 => ?_)
          refine s_one (.bool ((uV ss f ((nthI ((spK ss i).ne) k).toNat)).2)) A96 S83 (g_pick_t (b := ((uF (fun n => uV ss f n.toNat) ((f i).mi + (spK ss i).la, (f i).dn && (f i).kp) ((spK ss i).ne.take k)).2)) (by kernel_rfl) h95 (by kernel_rfl)) rfl (fun ac A97 => ?_)
          refine s_one (.int .i64 (mn ((uF (fun n => uV ss f n.toNat) ((f i).mi + (spK ss i).la, (f i).dn && (f i).kp) ((spK ss i).ne.take k)).1) ((uV ss f ((nthI ((spK ss i).ne) k).toNat)).1))) A97 S83 (g_assign (by kernel_rfl)) rfl (fun ac A98 => ?_)
          refine s_one (.bool ((uV ss f ((nthI ((spK ss i).ne) k).toNat)).2)) A98 S83 (g_assign (by kernel_rfl)) rfl (fun ac A99 => ?_)
          refine wpList_nil ?_
          refine n_then ?_
          exact ⟨(A99.slot (A99.slot (A99.slot (A99.slot (A99.slot (A99.slot (A99.slot (A99.slot (A99.slot (A99.slot (A99.slot (A99.slot (A99.slot (A99.slot (A99.slot (A99.slot (A99.slot (A99.slot (A99.slot (A99.slot (A99.slot (A99.slot (A99.slot (A99.slot (A99.slot (A99.slot (A99.slot (A99.slot (A99.slot (A99.slot (A99.slot (A99.slot (A99.slot (A99.slot (A99.slot (A99.slot A99.nil (v := .bool ((uV ss f ((nthI ((spK ss i).ne) k).toNat)).2)) (by kernel_rfl) rfl) (v := .int .i64 ((uV ss f ((nthI ((spK ss i).ne) k).toNat)).1)) (by kernel_rfl) rfl) (v := .bool ((uV ss f ((nthI ((spK ss i).ne) k).toNat)).2)) (by kernel_rfl) rfl) (v := .int .i64 ((uV ss f ((nthI ((spK ss i).ne) k).toNat)).1)) (by kernel_rfl) rfl) (v := .tuple #[.int .i64 ((uV ss f ((nthI ((spK ss i).ne) k).toNat)).1), .bool ((uV ss f ((nthI ((spK ss i).ne) k).toNat)).2)]) (by kernel_rfl) rfl) (v := .tuple #[.int .i64 ((uV ss f ((nthI ((spK ss i).ne) k).toNat)).1), .bool ((uV ss f ((nthI ((spK ss i).ne) k).toNat)).2)]) (by kernel_rfl) rfl) (v := .int .i64 (nthI ((spK ss i).ne) k)) (by kernel_rfl) rfl) (v := .pointer (some ⟨gb, 0, none⟩)) (by kernel_rfl) rfl) (v := .int .i64 (nthI ((spK ss i).ne) k)) (by kernel_rfl) rfl) (v := .int .i64 (nthI ((spK ss i).ne) k)) (by kernel_rfl) rfl) (v := .pointer (some (ad76.add k))) (by kernel_rfl) rfl) (v := .bool (decide ((k : Int) < ((spK ss i).ne.length : Int)))) (by kernel_rfl) rfl) (v := .int .i64 (k : Int)) (by kernel_rfl) rfl) (v := .int .i64 ((spK ss i).ne.length : Int)) (by kernel_rfl) rfl) (v := .slice (some ad76) ((spK ss i).ne.length) c60) (by kernel_rfl) rfl) (v := .pointer (some (ad58.add (i * 4 + 3)))) (by kernel_rfl) rfl) (v := .pointer (some (ad58.add (i * 4)))) (by kernel_rfl) rfl) (v := .int .i64 (i : Int)) (by kernel_rfl) rfl) (v := .slice A ss.length cap) (by kernel_rfl) rfl) (v := .pointer (some ⟨gb, 0, none⟩)) (by kernel_rfl) rfl) (v := .pointer (some ⟨gb, 0, none⟩)) (by kernel_rfl) rfl) (v := .pointer (some ⟨gb, 0, none⟩)) (by kernel_rfl) rfl) (v := .pointer (some ⟨g12, 0, none⟩)) (by kernel_rfl) rfl) (v := .agg #[.bool ((f i).dn), .bool ((f i).kp), .int .i64 ((f i).mi), .int .i64 ((f i).wa)]) (by kernel_rfl) rfl) (v := .pointer (some (ad.add (i * 4)))) (by kernel_rfl) rfl) (v := .int .i64 (i : Int)) (by kernel_rfl) rfl) (v := .slice (some ad) ss.length lc) (by kernel_rfl) rfl) (v := .pointer (some ⟨gb, 1, none⟩)) (by kernel_rfl) rfl) (v := .pointer (some ⟨gb, 0, none⟩)) (by kernel_rfl) rfl) (v := .pointer (some ⟨gb, 0, none⟩)) (by kernel_rfl) rfl) (v := .bool false) (by kernel_rfl) rfl) (v := .int .i64 0) (by kernel_rfl) rfl) (v := .int .i64 (i : Int)) (by kernel_rfl) rfl) (v := .pointer (some ⟨gb, 0, none⟩)) (by kernel_rfl) rfl) (v := .int .i64 (mn ((uF (fun n => uV ss f n.toNat) ((f i).mi + (spK ss i).la, (f i).dn && (f i).kp) ((spK ss i).ne.take k)).1) ((uV ss f ((nthI ((spK ss i).ne) k).toNat)).1))) (by kernel_rfl) rfl) (v := .bool ((uV ss f ((nthI ((spK ss i).ne) k).toNat)).2)) (by kernel_rfl) (congrArg Value.bool (b_and_t h95 (Eq.refl ((uV ss f ((nthI ((spK ss i).ne) k).toNat)).2))).symm)), S83.sub sub_all sub_all⟩
        · refine s_not (dj := 60) (b := ((uF (fun n => uV ss f n.toNat) ((f i).mi + (spK ss i).la, (f i).dn && (f i).kp) ((spK ss i).ne.take k)).2)) A94 (by kernel_rfl) (by kernel_rfl) h95 rfl (fun ac A100 => ?_)
          refine s_one (.bool false) A100 S83 (g_pick_f (b := ((uF (fun n => uV ss f n.toNat) ((f i).mi + (spK ss i).la, (f i).dn && (f i).kp) ((spK ss i).ne.take k)).2)) (by kernel_rfl) h95 (by kernel_rfl)) rfl (fun ac A101 => ?_)
          refine s_one (.int .i64 (mn ((uF (fun n => uV ss f n.toNat) ((f i).mi + (spK ss i).la, (f i).dn && (f i).kp) ((spK ss i).ne.take k)).1) ((uV ss f ((nthI ((spK ss i).ne) k).toNat)).1))) A101 S83 (g_assign (by kernel_rfl)) rfl (fun ac A102 => ?_)
          refine s_one (.bool false) A102 S83 (g_assign (by kernel_rfl)) rfl (fun ac A103 => ?_)
          refine wpList_nil ?_
          refine n_then ?_
          exact ⟨(A103.slot (A103.slot (A103.slot (A103.slot (A103.slot (A103.slot (A103.slot (A103.slot (A103.slot (A103.slot (A103.slot (A103.slot (A103.slot (A103.slot (A103.slot (A103.slot (A103.slot (A103.slot (A103.slot (A103.slot (A103.slot (A103.slot (A103.slot (A103.slot (A103.slot (A103.slot (A103.slot (A103.slot (A103.slot (A103.slot (A103.slot (A103.slot (A103.slot (A103.slot (A103.slot (A103.slot A103.nil (v := .bool ((uV ss f ((nthI ((spK ss i).ne) k).toNat)).2)) (by kernel_rfl) rfl) (v := .int .i64 ((uV ss f ((nthI ((spK ss i).ne) k).toNat)).1)) (by kernel_rfl) rfl) (v := .bool ((uV ss f ((nthI ((spK ss i).ne) k).toNat)).2)) (by kernel_rfl) rfl) (v := .int .i64 ((uV ss f ((nthI ((spK ss i).ne) k).toNat)).1)) (by kernel_rfl) rfl) (v := .tuple #[.int .i64 ((uV ss f ((nthI ((spK ss i).ne) k).toNat)).1), .bool ((uV ss f ((nthI ((spK ss i).ne) k).toNat)).2)]) (by kernel_rfl) rfl) (v := .tuple #[.int .i64 ((uV ss f ((nthI ((spK ss i).ne) k).toNat)).1), .bool ((uV ss f ((nthI ((spK ss i).ne) k).toNat)).2)]) (by kernel_rfl) rfl) (v := .int .i64 (nthI ((spK ss i).ne) k)) (by kernel_rfl) rfl) (v := .pointer (some ⟨gb, 0, none⟩)) (by kernel_rfl) rfl) (v := .int .i64 (nthI ((spK ss i).ne) k)) (by kernel_rfl) rfl) (v := .int .i64 (nthI ((spK ss i).ne) k)) (by kernel_rfl) rfl) (v := .pointer (some (ad76.add k))) (by kernel_rfl) rfl) (v := .bool (decide ((k : Int) < ((spK ss i).ne.length : Int)))) (by kernel_rfl) rfl) (v := .int .i64 (k : Int)) (by kernel_rfl) rfl) (v := .int .i64 ((spK ss i).ne.length : Int)) (by kernel_rfl) rfl) (v := .slice (some ad76) ((spK ss i).ne.length) c60) (by kernel_rfl) rfl) (v := .pointer (some (ad58.add (i * 4 + 3)))) (by kernel_rfl) rfl) (v := .pointer (some (ad58.add (i * 4)))) (by kernel_rfl) rfl) (v := .int .i64 (i : Int)) (by kernel_rfl) rfl) (v := .slice A ss.length cap) (by kernel_rfl) rfl) (v := .pointer (some ⟨gb, 0, none⟩)) (by kernel_rfl) rfl) (v := .pointer (some ⟨gb, 0, none⟩)) (by kernel_rfl) rfl) (v := .pointer (some ⟨gb, 0, none⟩)) (by kernel_rfl) rfl) (v := .pointer (some ⟨g12, 0, none⟩)) (by kernel_rfl) rfl) (v := .agg #[.bool ((f i).dn), .bool ((f i).kp), .int .i64 ((f i).mi), .int .i64 ((f i).wa)]) (by kernel_rfl) rfl) (v := .pointer (some (ad.add (i * 4)))) (by kernel_rfl) rfl) (v := .int .i64 (i : Int)) (by kernel_rfl) rfl) (v := .slice (some ad) ss.length lc) (by kernel_rfl) rfl) (v := .pointer (some ⟨gb, 1, none⟩)) (by kernel_rfl) rfl) (v := .pointer (some ⟨gb, 0, none⟩)) (by kernel_rfl) rfl) (v := .pointer (some ⟨gb, 0, none⟩)) (by kernel_rfl) rfl) (v := .bool false) (by kernel_rfl) rfl) (v := .int .i64 0) (by kernel_rfl) rfl) (v := .int .i64 (i : Int)) (by kernel_rfl) rfl) (v := .pointer (some ⟨gb, 0, none⟩)) (by kernel_rfl) rfl) (v := .int .i64 (mn ((uF (fun n => uV ss f n.toNat) ((f i).mi + (spK ss i).la, (f i).dn && (f i).kp) ((spK ss i).ne.take k)).1) ((uV ss f ((nthI ((spK ss i).ne) k).toNat)).1))) (by kernel_rfl) rfl) (v := .bool false) (by kernel_rfl) (congrArg Value.bool (b_af1 h95).symm)), S83.sub sub_all sub_all⟩
      · rintro ac wc ⟨A104, S105⟩
        refine n_block ?_
        refine n_then ?_
        refine wp_region_lit ?_
        refine s_one (.int .i64 ((k : Int) + 1)) A104 S105 (g_bin (u := .int .i64 (k : Int)) (k := .int .i64 1) (by kernel_rfl) (by kernel_rfl) (fun _ => by kernel_rfl) (b_add (by omega))) rfl (fun ac A106 => ?_)
        refine s_one (.int .i64 ((k : Int) + 1)) A106 S105 (g_move (by kernel_rfl)) rfl (fun ac A107 => ?_)
        refine wpList_nil ?_
        refine n_then ?_
        refine ⟨_, ⟨k + 1, rfl, by omega, (A107.slot (A107.slot (A107.slot (A107.slot (A107.slot (A107.slot (A107.slot (A107.slot (A107.slot (A107.slot (A107.slot (A107.slot (A107.slot (A107.slot (A107.slot (A107.slot (A107.slot (A107.slot (A107.slot (A107.slot (A107.slot (A107.slot (A107.slot (A107.slot A107.nil (v := .bool (((uF (fun n => uV ss f n.toNat) ((f i).mi + (spK ss i).la, (f i).dn && (f i).kp) ((spK ss i).ne.take k)).2) && ((uV ss f ((nthI ((spK ss i).ne) k).toNat)).2))) (by kernel_rfl) (congrArg Value.bool (by rw [take_snocI (show k < (spK ss i).ne.length by omega), uF_snoc]))) (v := .int .i64 (mn ((uF (fun n => uV ss f n.toNat) ((f i).mi + (spK ss i).la, (f i).dn && (f i).kp) ((spK ss i).ne.take k)).1) ((uV ss f ((nthI ((spK ss i).ne) k).toNat)).1))) (by kernel_rfl) (congrArg (Value.int .i64) (by rw [take_snocI (show k < (spK ss i).ne.length by omega), uF_snoc]))) (v := .int .i64 ((k : Int) + 1)) (by kernel_rfl) (congrArg (Value.int .i64) (by omega))) (v := .int .i64 ((spK ss i).ne.length : Int)) (by kernel_rfl) rfl) (v := .slice (some ad76) ((spK ss i).ne.length) c60) (by kernel_rfl) (by first | rfl | simp)) (v := .pointer (some (ad58.add (i * 4 + 3)))) (by kernel_rfl) rfl) (v := .pointer (some (ad58.add (i * 4)))) (by kernel_rfl) rfl) (v := .int .i64 (i : Int)) (by kernel_rfl) rfl) (v := .slice A ss.length cap) (by kernel_rfl) rfl) (v := .pointer (some ⟨gb, 0, none⟩)) (by kernel_rfl) rfl) (v := .pointer (some ⟨gb, 0, none⟩)) (by kernel_rfl) rfl) (v := .pointer (some ⟨gb, 0, none⟩)) (by kernel_rfl) rfl) (v := .pointer (some ⟨g12, 0, none⟩)) (by kernel_rfl) rfl) (v := .agg #[.bool ((f i).dn), .bool ((f i).kp), .int .i64 ((f i).mi), .int .i64 ((f i).wa)]) (by kernel_rfl) rfl) (v := .pointer (some (ad.add (i * 4)))) (by kernel_rfl) rfl) (v := .int .i64 (i : Int)) (by kernel_rfl) rfl) (v := .slice (some ad) ss.length lc) (by kernel_rfl) rfl) (v := .pointer (some ⟨gb, 1, none⟩)) (by kernel_rfl) rfl) (v := .pointer (some ⟨gb, 0, none⟩)) (by kernel_rfl) rfl) (v := .pointer (some ⟨gb, 0, none⟩)) (by kernel_rfl) rfl) (v := .bool false) (by kernel_rfl) rfl) (v := .int .i64 0) (by kernel_rfl) rfl) (v := .int .i64 (i : Int)) (by kernel_rfl) rfl) (v := .pointer (some ⟨gb, 0, none⟩)) (by kernel_rfl) rfl), S105.sub sub_all sub_all⟩, ?_⟩
        omega
    · have p108 := of_decide_eq_false h74
      refine wp_exit ?_
      refine x_then ?_
      refine x_then ?_
      refine x_hit ?_
      refine n_then ?_
      refine wp_seq ?_
      refine wp_region_lit ?_
      refine s_one (.int .i64 ((uF (fun n => uV ss f n.toNat) ((f i).mi + (spK ss i).la, (f i).dn && (f i).kp) ((spK ss i).ne.take k)).1)) A73 S71 (g_move (by kernel_rfl)) rfl (fun ac A109 => ?_)
      refine s_one (.bool ((uF (fun n => uV ss f n.toNat) ((f i).mi + (spK ss i).la, (f i).dn && (f i).kp) ((spK ss i).ne.take k)).2)) A109 S71 (g_move (by kernel_rfl)) rfl (fun ac A110 => ?_)
      refine s_one (.int .i64 ((uF (fun n => uV ss f n.toNat) ((f i).mi + (spK ss i).la, (f i).dn && (f i).kp) ((spK ss i).ne.take k)).1)) A110 S71 (g_assign (by kernel_rfl)) rfl (fun ac A111 => ?_)
      refine s_one (.bool ((uF (fun n => uV ss f n.toNat) ((f i).mi + (spK ss i).la, (f i).dn && (f i).kp) ((spK ss i).ne.take k)).2)) A111 S71 (g_assign (by kernel_rfl)) rfl (fun ac A112 => ?_)
      refine wpList_nil ?_
      refine n_then ?_
      refine wp_ret ?_
      refine fin2 (.int .i64 ((uF (fun n => uV ss f n.toNat) ((f i).mi + (spK ss i).la, (f i).dn && (f i).kp) ((spK ss i).ne.take k)).1)) (.bool ((uF (fun n => uV ss f n.toNat) ((f i).mi + (spK ss i).la, (f i).dn && (f i).kp) ((spK ss i).ne.take k)).2)) Try.results22 A112 S71 (rv_tmp (by kernel_rfl)) (rv_tmp (by kernel_rfl)) ⟨?_, S71.kp⟩
      have ek : (spK ss i).ne.take k = (spK ss i).ne := List.take_of_length_le (by omega)
      rw [uV_eq gs.ahead hi, ek]

theorem until_x (gb : Nat) (A : Option Addr) (cap : Nat) (ss : List Sp) (ad : Addr) (lc : Nat) (f : Nat → Ls) (i : Nat) (x : Int) (w : World) (hx : x = (i : Int)) (hi : i < ss.length) (hb : Blk w gb 81 #[.slice A ss.length cap, .slice (some ad) ss.length lc]) (hl : VReads w (some ad) (lsX ss.length f)) (hr : SpReads w A ss) (gs : GoodS ss) (hmi : ∀ j, -1000000000 ≤ (f j).mi ∧ (f j).mi ≤ 1000000000) : Calls Try.prog 22 #[.pointer (some ⟨gb, 0, none⟩), .int .i64 x] w fun e w' => e = .returned (.tuple #[.int .i64 (uV ss f i).1, .bool (uV ss f i).2]) ∧ Below w.heap.size w w' := by
  induction i using Nat.strongRecOn generalizing x w with
  | _ i ih =>
    subst hx
    exact until_step gb A cap ss ad lc f i w hi hb hl hr gs hmi fun j hj x w hx hb hl hr => ih j hj x w hx (by omega) hb hl hr

set_option maxRecDepth 100000 in
set_option maxHeartbeats 400000 in
theorem valid_s (gb : Nat) (A : Option Addr) (cap : Nat) (ss : List Sp) (ad : Addr) (lc : Nat) (f : Nat → Ls) (i : Nat) (m : Int) (w0 : World) (hi : i < ss.length) (hb : Blk w0 gb 81 #[.slice A ss.length cap, .slice (some ad) ss.length lc]) (hl : VReads w0 (some ad) (lsX ss.length f)) (hr : SpReads w0 A ss) (gs : GoodS ss) (hmi : ∀ j, -1000000000 ≤ (f j).mi ∧ (f j).mi ≤ 1000000000) :
    Calls Try.prog 18 #[.pointer (some ⟨gb, 0, none⟩), .int .i64 (i : Int), .int .i64 m] w0 fun e w' => e = .returned (.bool (vd ss f m i)) ∧ Below w0.heap.size w0 w' := by
  have S0 := St.start w0
  have S0 := S0.came hb (by simp)
  refine enter (n := 21) Try.func18 rfl rfl rfl (fun ac A0 => ?_)
  refine wp_seq ?_
  refine wp_region_lit ?_
  refine s_one (.bool false) A0 S0 (g_assign (by kernel_rfl)) rfl (fun ac A1 => ?_)
  refine wpList_nil ?_
  refine n_then ?_
  refine wp_seq ?_
  refine wp_region_lit ?_
  refine s_one (.pointer (some ⟨gb, 0, none⟩)) A1 S0 (g_move (by kernel_rfl)) rfl (fun ac A2 => ?_)
  refine s_one (.int .i64 (i : Int)) A2 S0 (g_move (by kernel_rfl)) rfl (fun ac A3 => ?_)
  refine s_call (fs := #[]) (cp := #[]) (r := [(0, .pointer (some ⟨gb, 0, none⟩)), (0, .int .i64 (i : Int))]) #[.pointer (some ⟨gb, 0, none⟩), .int .i64 (i : Int)] (.tuple #[.int .i64 ((uV ss f i).1), .bool ((uV ss f i).2)]) A3 S0 (until_x gb A cap ss ad lc f i (i : Int) _ (by omega) (by omega) (S0.get 0 rfl) (VReads.kept hl S0.kp) (hr.kept S0.kp) gs hmi) Try.call22 (by kernel_rfl) (by kernel_rfl) (by kernel_rfl) rfl (fun ac wc A4 S5 => ?_)
  refine s_one (.tuple #[.int .i64 ((uV ss f i).1), .bool ((uV ss f i).2)]) A4 S5 (g_move (by kernel_rfl)) rfl (fun ac A7 => ?_)
  refine s_one (.int .i64 ((uV ss f i).1)) A7 S5 (g_extract (u := .tuple #[.int .i64 ((uV ss f i).1), .bool ((uV ss f i).2)]) (by kernel_rfl) (fun _ => by kernel_rfl)) rfl (fun ac A8 => ?_)
  refine s_one (.bool ((uV ss f i).2)) A8 S5 (g_extract (u := .tuple #[.int .i64 ((uV ss f i).1), .bool ((uV ss f i).2)]) (by kernel_rfl) (fun _ => by kernel_rfl)) rfl (fun ac A9 => ?_)
  refine s_one (.int .i64 ((uV ss f i).1)) A9 S5 (g_assign (by kernel_rfl)) rfl (fun ac A10 => ?_)
  refine s_one (.bool ((uV ss f i).2)) A10 S5 (g_assign (by kernel_rfl)) rfl (fun ac A11 => ?_)
  refine wpList_nil ?_
  refine n_then ?_
  refine wp_seq ?_
  refine c_cut (fun ac wc => Fr 21 ac [(6, .bool (((uV ss f i).2) && (decide (m ≤ (uV ss f i).1)))), (0, .pointer (some ⟨gb, 0, none⟩)), (1, .int .i64 (i : Int)), (2, .int .i64 m), (10, .pointer (some ⟨gb, 0, none⟩)), (11, .int .i64 (i : Int)), (12, .tuple #[.int .i64 ((uV ss f i).1), .bool ((uV ss f i).2)]), (9, .tuple #[.int .i64 ((uV ss f i).1), .bool ((uV ss f i).2)]), (13, .int .i64 ((uV ss f i).1)), (14, .bool ((uV ss f i).2)), (7, .int .i64 ((uV ss f i).1)), (8, .bool ((uV ss f i).2))] ∧ St w0 [⟨gb, 81, #[.slice A ss.length cap, .slice (some ad) ss.length lc], false⟩] [] wc) ?_ ?_
  · refine wp_region_lit ?_
    refine s_one (.bool ((uV ss f i).2)) A11 S5 (g_move (by kernel_rfl)) rfl (fun ac A12 => ?_)
    refine s_one (.bool ((uV ss f i).2)) A12 S5 (g_move (by kernel_rfl)) rfl (fun ac A13 => ?_)
    refine by_bool ((uV ss f i).2) (fun h14 => ?_) (fun h14 => ?_)
    · refine s_want (dj := 16) (b := ((uV ss f i).2)) A13 (by kernel_rfl) (by kernel_rfl) h14 ?_
      refine s_one (.int .i64 m) A13 S5 (g_move (by kernel_rfl)) rfl (fun ac A15 => ?_)
      refine s_want (dj := 16) (b := ((uV ss f i).2)) A15 (by kernel_rfl) (by kernel_rfl) h14 ?_
      refine s_one (.int .i64 ((uV ss f i).1)) A15 S5 (g_move (by kernel_rfl)) rfl (fun ac A16 => ?_)
      refine s_want (dj := 16) (b := ((uV ss f i).2)) A16 (by kernel_rfl) (by kernel_rfl) h14 ?_
      refine s_one (.bool (decide (m ≤ (uV ss f i).1))) A16 S5 (g_bin (u := .int .i64 m) (k := .int .i64 ((uV ss f i).1)) (by kernel_rfl) (by kernel_rfl) (fun _ => by kernel_rfl) (fun _ => by kernel_rfl)) rfl (fun ac A17 => ?_)
      refine s_one (.bool (decide (m ≤ (uV ss f i).1))) A17 S5 (g_pick_t (b := ((uV ss f i).2)) (by kernel_rfl) h14 (by kernel_rfl)) rfl (fun ac A18 => ?_)
      refine s_one (.bool (decide (m ≤ (uV ss f i).1))) A18 S5 (g_assign (by kernel_rfl)) rfl (fun ac A19 => ?_)
      refine wpList_nil ?_
      refine n_then ?_
      exact ⟨(A19.slot (A19.slot (A19.slot (A19.slot (A19.slot (A19.slot (A19.slot (A19.slot (A19.slot (A19.slot (A19.slot (A19.slot A19.nil (v := .bool ((uV ss f i).2)) (by kernel_rfl) rfl) (v := .int .i64 ((uV ss f i).1)) (by kernel_rfl) rfl) (v := .bool ((uV ss f i).2)) (by kernel_rfl) rfl) (v := .int .i64 ((uV ss f i).1)) (by kernel_rfl) rfl) (v := .tuple #[.int .i64 ((uV ss f i).1), .bool ((uV ss f i).2)]) (by kernel_rfl) rfl) (v := .tuple #[.int .i64 ((uV ss f i).1), .bool ((uV ss f i).2)]) (by kernel_rfl) rfl) (v := .int .i64 (i : Int)) (by kernel_rfl) rfl) (v := .pointer (some ⟨gb, 0, none⟩)) (by kernel_rfl) rfl) (v := .int .i64 m) (by kernel_rfl) rfl) (v := .int .i64 (i : Int)) (by kernel_rfl) rfl) (v := .pointer (some ⟨gb, 0, none⟩)) (by kernel_rfl) rfl) (v := .bool (decide (m ≤ (uV ss f i).1))) (by kernel_rfl) (congrArg Value.bool (b_and_t h14 (Eq.refl (decide (m ≤ (uV ss f i).1)))).symm)), S5.sub sub_all sub_all⟩
    · refine s_not (dj := 16) (b := ((uV ss f i).2)) A13 (by kernel_rfl) (by kernel_rfl) h14 rfl (fun ac A20 => ?_)
      refine s_not (dj := 16) (b := ((uV ss f i).2)) A20 (by kernel_rfl) (by kernel_rfl) h14 rfl (fun ac A21 => ?_)
      refine s_not (dj := 16) (b := ((uV ss f i).2)) A21 (by kernel_rfl) (by kernel_rfl) h14 rfl (fun ac A22 => ?_)
      refine s_one (.bool false) A22 S5 (g_pick_f (b := ((uV ss f i).2)) (by kernel_rfl) h14 (by kernel_rfl)) rfl (fun ac A23 => ?_)
      refine s_one (.bool false) A23 S5 (g_assign (by kernel_rfl)) rfl (fun ac A24 => ?_)
      refine wpList_nil ?_
      refine n_then ?_
      exact ⟨(A24.slot (A24.slot (A24.slot (A24.slot (A24.slot (A24.slot (A24.slot (A24.slot (A24.slot (A24.slot (A24.slot (A24.slot A24.nil (v := .bool ((uV ss f i).2)) (by kernel_rfl) rfl) (v := .int .i64 ((uV ss f i).1)) (by kernel_rfl) rfl) (v := .bool ((uV ss f i).2)) (by kernel_rfl) rfl) (v := .int .i64 ((uV ss f i).1)) (by kernel_rfl) rfl) (v := .tuple #[.int .i64 ((uV ss f i).1), .bool ((uV ss f i).2)]) (by kernel_rfl) rfl) (v := .tuple #[.int .i64 ((uV ss f i).1), .bool ((uV ss f i).2)]) (by kernel_rfl) rfl) (v := .int .i64 (i : Int)) (by kernel_rfl) rfl) (v := .pointer (some ⟨gb, 0, none⟩)) (by kernel_rfl) rfl) (v := .int .i64 m) (by kernel_rfl) rfl) (v := .int .i64 (i : Int)) (by kernel_rfl) rfl) (v := .pointer (some ⟨gb, 0, none⟩)) (by kernel_rfl) rfl) (v := .bool false) (by kernel_rfl) (congrArg Value.bool (b_af1 h14).symm)), S5.sub sub_all sub_all⟩
  · rintro ac wc ⟨A25, S26⟩
    refine n_then ?_
    refine wp_ret ?_
    refine fin1 (.bool (((uV ss f i).2) && (decide (m ≤ (uV ss f i).1)))) Try.results18 A25 S26 (rv_tmp (by kernel_rfl)) ⟨?_, S26.kp⟩
    rfl

theorem valid_x (gb : Nat) (A : Option Addr) (cap : Nat) (ss : List Sp) (ad : Addr) (lc : Nat) (f : Nat → Ls) (i : Nat) (x m : Int) (w : World) (hx : x = (i : Int)) (hi : i < ss.length) (hb : Blk w gb 81 #[.slice A ss.length cap, .slice (some ad) ss.length lc]) (hl : VReads w (some ad) (lsX ss.length f)) (hr : SpReads w A ss) (gs : GoodS ss) (hmi : ∀ j, -1000000000 ≤ (f j).mi ∧ (f j).mi ≤ 1000000000) : Calls Try.prog 18 #[.pointer (some ⟨gb, 0, none⟩), .int .i64 x, .int .i64 m] w fun e w' => e = .returned (.bool (vd ss f m i)) ∧ Below w.heap.size w w' := by
  subst hx
  exact valid_s gb A cap ss ad lc f i m w hi hb hl hr gs hmi

end Go.Proofs.Ytnbimpkihpaldaa
