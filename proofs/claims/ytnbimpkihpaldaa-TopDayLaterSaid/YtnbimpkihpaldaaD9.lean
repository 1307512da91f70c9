/- Right events, as the reference says it. -/
import Derived.Test.YtnbimpkihpaldaaD8
import Derived.Test.YtnbimpkihpaldaaSp3
namespace Go.Proofs.Ytnbimpkihpaldaa
open Go.RowKit Go.Cpl

set_option maxRecDepth 100000 in
set_option maxHeartbeats 400000 in
theorem eventErr_s (A : Option Addr) (cap : Nat) (ss : List Sp) (EA : Option Addr) (en ec : Nat) (el : List Int) (mi st wa : Int) (w0 : World) (hr : SpReads w0 A ss) (hre : IReads w0 EA el) (hel : el.length = en * 3) (hen : en ≤ 60) (gs : GoodS ss) (ge : ∀ k, k < en → GoodE ss el k) :
    Calls Try.prog 16 #[.slice A ss.length cap, .slice EA en ec, .agg #[.int .i64 mi, .int .i64 st, .int .i64 wa]] w0 fun e w' => ∃ u : {x : Int // x = 0 → GoodE ss (el ++ [mi, st, wa]) en}, e = .returned (.int .i64 u.1) ∧ St w0 [] [] w' := by
  have S0 := St.start w0
  have hfw := gs.few
  refine enter (n := 81) Try.func16 rfl rfl rfl (fun ac A0 => ?_)
  refine wp_seq ?_
  refine wp_region_lit ?_
  refine s_box (.agg #[.int .i64 mi, .int .i64 st, .int .i64 wa]) A0 S0 (by kernel_rfl) rfl (fun g3 ac wc A1 S2 => ?_)
  replace S2 : St _ (⟨g3, 30, #[.int .i64 mi, .int .i64 st, .int .i64 wa], true⟩ :: _) _ _ := S2
  refine s_one (.int .i64 0) A1 S2 (g_assign (by kernel_rfl)) rfl (fun ac A5 => ?_)
  refine wpList_nil ?_
  refine n_then ?_
  refine wp_seq ?_
  refine wp_seq ?_
  refine wp_region_lit ?_
  refine s_one (.pointer (some ⟨g3, 0, none⟩)) A5 S2 (g_field (u := .pointer (some ⟨g3, 0, none⟩)) (by kernel_rfl) (fun _ => by kernel_rfl)) rfl (fun ac A6 => ?_)
  refine s_one (.int .i64 mi) A6 S2 (g_load (g := g3) (off := 0) 0 (by kernel_rfl) rfl (by kernel_rfl)) rfl (fun ac A7 => ?_)
  refine s_call (fs := #[]) (cp := #[]) (r := [(0, .int .i64 mi), (0, .int .i64 0), (0, .int .i64 100000000)]) #[.int .i64 mi, .int .i64 0, .int .i64 100000000] (.bool (inB mi 0 100000000)) A7 S2 (Within_s mi 0 100000000 _) Try.call5 (by kernel_rfl) (by kernel_rfl) (by kernel_rfl) rfl (fun ac wc A8 S9 => ?_)
  refine s_one (.bool (!(inB mi 0 100000000))) A8 S9 (g_un (u := .bool (inB mi 0 100000000)) (by kernel_rfl) (fun _ => by kernel_rfl)) rfl (fun ac A11 => ?_)
  refine wpList_nil ?_
  refine n_then ?_
  refine c_ifb (b := (!(inB mi 0 100000000))) A11 (by kernel_rfl) (fun h12 => ?_) (fun h12 => ?_)
  · have h13 : inB mi 0 100000000 = false := by simpa using h12
    refine wp_seq ?_
    refine wp_region_lit ?_
    refine s_one (.int .i64 2) A11 S9 (g_assign (by kernel_rfl)) rfl (fun ac A14 => ?_)
    refine wpList_nil ?_
    refine n_then ?_
    refine wp_ret ?_
    refine r_then ?_
    refine fin1 (.int .i64 2) Try.results16 A14 S9 (rv_tmp (by kernel_rfl)) ⟨⟨2, fun h => absurd (show (2 : Int) = 0 from h) (by decide)⟩, rfl, S9.sub sub_nil sub_all⟩
  · have h15 : inB mi 0 100000000 = true := by simpa using h12
    refine wp_skip ?_
    refine n_then ?_
    refine wp_seq ?_
    refine wp_seq ?_
    refine wp_region_lit ?_
    refine s_one (.pointer (some ⟨g3, 1, none⟩)) A11 S9 (g_field (u := .pointer (some ⟨g3, 0, none⟩)) (by kernel_rfl) (fun _ => by kernel_rfl)) rfl (fun ac A16 => ?_)
    refine s_one (.int .i64 st) A16 S9 (g_load (g := g3) (off := 1) 0 (by kernel_rfl) rfl (by kernel_rfl)) rfl (fun ac A17 => ?_)
    refine s_one (.slice A ss.length cap) A17 S9 (g_move (by kernel_rfl)) rfl (fun ac A18 => ?_)
    refine s_one (.int .i64 (ss.length : Int)) A18 S9 (g_built (r := [(0, .slice A ss.length cap)]) (by kernel_rfl) (fun _ _ _ => by kernel_rfl)) rfl (fun ac A19 => ?_)
    refine s_one (.int .i64 ((ss.length : Int) - 1)) A19 S9 (g_bin (u := .int .i64 (ss.length : Int)) (k := .int .i64 1) (by kernel_rfl) (by kernel_rfl) (fun _ => by kernel_rfl) (b_sub (by omega))) rfl (fun ac A20 => ?_)
    refine s_call (fs := #[]) (cp := #[]) (r := [(0, .int .i64 st), (0, .int .i64 (-1)), (0, .int .i64 ((ss.length : Int) - 1))]) #[.int .i64 st, .int .i64 (-1), .int .i64 ((ss.length : Int) - 1)] (.bool (inB st (-1) ((ss.length : Int) - 1))) A20 S9 (Within_s st (-1) ((ss.length : Int) - 1) _) Try.call5 (by kernel_rfl) (by kernel_rfl) (by kernel_rfl) rfl (fun ac wc A21 S22 => ?_)
    refine s_one (.bool (!(inB st (-1) ((ss.length : Int) - 1)))) A21 S22 (g_un (u := .bool (inB st (-1) ((ss.length : Int) - 1))) (by kernel_rfl) (fun _ => by kernel_rfl)) rfl (fun ac A24 => ?_)
    refine wpList_nil ?_
    refine n_then ?_
    refine c_ifb (b := (!(inB st (-1) ((ss.length : Int) - 1)))) A24 (by kernel_rfl) (fun h25 => ?_) (fun h25 => ?_)
    · have h26 : inB st (-1) ((ss.length : Int) - 1) = false := by simpa using h25
      refine wp_seq ?_
      refine wp_region_lit ?_
      refine s_one (.int .i64 6) A24 S22 (g_assign (by kernel_rfl)) rfl (fun ac A27 => ?_)
      refine wpList_nil ?_
      refine n_then ?_
      refine wp_ret ?_
      refine r_then ?_
      refine fin1 (.int .i64 6) Try.results16 A27 S22 (rv_tmp (by kernel_rfl)) ⟨⟨6, fun h => absurd (show (6 : Int) = 0 from h) (by decide)⟩, rfl, S22.sub sub_nil sub_all⟩
    · have h28 : inB st (-1) ((ss.length : Int) - 1) = true := by simpa using h25
      refine wp_skip ?_
      refine n_then ?_
      refine wp_seq ?_
      refine wp_seq ?_
      refine wp_region_lit ?_
      refine s_one (.pointer (some ⟨g3, 2, none⟩)) A24 S22 (g_field (u := .pointer (some ⟨g3, 0, none⟩)) (by kernel_rfl) (fun _ => by kernel_rfl)) rfl (fun ac A29 => ?_)
      refine s_one (.int .i64 wa) A29 S22 (g_load (g := g3) (off := 2) 0 (by kernel_rfl) rfl (by kernel_rfl)) rfl (fun ac A30 => ?_)
      refine s_call (fs := #[]) (cp := #[]) (r := [(0, .int .i64 wa), (0, .int .i64 (-2000)), (0, .int .i64 2000)]) #[.int .i64 wa, .int .i64 (-2000), .int .i64 2000] (.bool (inB wa (-2000) 2000)) A30 S22 (Within_s wa (-2000) 2000 _) Try.call5 (by kernel_rfl) (by kernel_rfl) (by kernel_rfl) rfl (fun ac wc A31 S32 => ?_)
      refine s_one (.bool (!(inB wa (-2000) 2000))) A31 S32 (g_un (u := .bool (inB wa (-2000) 2000)) (by kernel_rfl) (fun _ => by kernel_rfl)) rfl (fun ac A34 => ?_)
      refine wpList_nil ?_
      refine n_then ?_
      refine c_ifb (b := (!(inB wa (-2000) 2000))) A34 (by kernel_rfl) (fun h35 => ?_) (fun h35 => ?_)
      · have h36 : inB wa (-2000) 2000 = false := by simpa using h35
        refine wp_seq ?_
        refine wp_region_lit ?_
        refine s_one (.int .i64 2) A34 S32 (g_assign (by kernel_rfl)) rfl (fun ac A37 => ?_)
        refine wpList_nil ?_
        refine n_then ?_
        refine wp_ret ?_
        refine r_then ?_
        refine fin1 (.int .i64 2) Try.results16 A37 S32 (rv_tmp (by kernel_rfl)) ⟨⟨2, fun h => absurd (show (2 : Int) = 0 from h) (by decide)⟩, rfl, S32.sub sub_nil sub_all⟩
      · have h38 : inB wa (-2000) 2000 = true := by simpa using h35
        refine wp_skip ?_
        refine n_then ?_
        refine wp_seq ?_
        refine wp_seq ?_
        refine wp_region_lit ?_
        refine s_one (.slice EA en ec) A34 S32 (g_move (by kernel_rfl)) rfl (fun ac A39 => ?_)
        refine s_one (.int .i64 (en : Int)) A39 S32 (g_built (r := [(0, .slice EA en ec)]) (by kernel_rfl) (fun _ _ _ => by kernel_rfl)) rfl (fun ac A40 => ?_)
        refine s_one (.int .i64 (en : Int)) A40 S32 (g_assign (by kernel_rfl)) rfl (fun ac A41 => ?_)
        refine wpList_nil ?_
        refine n_then ?_
        refine wp_seq ?_
        refine c_cut (fun ac wc => Fr 81 ac [(39, .bool ((decide ((en : Int) > 0)) && (decide (mi < nthI el ((en - 1) * 3 + 0))))), (0, .slice A ss.length cap), (1, .slice EA en ec), (2, .agg #[.int .i64 mi, .int .i64 st, .int .i64 wa]), (5, .pointer (some ⟨g3, 0, none⟩)), (6, .int .i64 0), (10, .pointer (some ⟨g3, 0, none⟩)), (11, .int .i64 mi), (12, .bool (inB mi 0 100000000)), (13, .bool (!(inB mi 0 100000000))), (14, .pointer (some ⟨g3, 1, none⟩)), (15, .int .i64 st), (16, .slice A ss.length cap), (17, .int .i64 (ss.length : Int)), (18, .int .i64 ((ss.length : Int) - 1)), (19, .bool (inB st (-1) ((ss.length : Int) - 1))), (20, .bool (!(inB st (-1) ((ss.length : Int) - 1)))), (21, .pointer (some ⟨g3, 2, none⟩)), (22, .int .i64 wa), (23, .bool (inB wa (-2000) 2000)), (24, .bool (!(inB wa (-2000) 2000))), (25, .slice EA en ec), (26, .int .i64 (en : Int)), (7, .int .i64 (en : Int))] ∧ St w0 [⟨g3, 30, #[.int .i64 mi, .int .i64 st, .int .i64 wa], true⟩] [] wc) ?_ ?_
        · refine r_begin (w0 := w0) (by kernel_rfl) (S32.sub sub_all sub_all) (fun wc T42 B43 => ?_)
          have S44 := S32.kept B43
          refine r_take 0 (.int .i64 (en : Int)) A41 T42 (g_move (by kernel_rfl)) rfl rfl rfl (pf_then (pf_then (pf_then pf_body))) (by kernel_rfl) (fun ac A45 => ?_)
          refine r_take 1 (.bool (decide ((en : Int) > 0))) A45 T42 (g_bin (u := .int .i64 (en : Int)) (k := .int .i64 0) (by kernel_rfl) (by kernel_rfl) (fun _ => by kernel_rfl) (fun _ => by kernel_rfl)) rfl rfl rfl (pf_then (pf_then (pf_then pf_body))) (by kernel_rfl) (fun ac A46 => ?_)
          refine r_take 2 (.bool (decide ((en : Int) > 0))) A46 T42 (g_move (by kernel_rfl)) rfl rfl rfl (pf_then (pf_then (pf_then pf_body))) (by kernel_rfl) (fun ac A47 => ?_)
          refine by_bool (decide ((en : Int) > 0)) (fun h48 => ?_) (fun h48 => ?_)
          · have p49 := of_decide_eq_true h48
            refine r_take 3 (.pointer (some ⟨g3, 0, none⟩)) A47 T42 (g_field (u := .pointer (some ⟨g3, 0, none⟩)) (by kernel_rfl) (fun _ => by kernel_rfl)) rfl (want_t (dj := 29) (b := (decide ((en : Int) > 0))) A47 rfl (by kernel_rfl) (by kernel_rfl) h48) rfl (pf_then (pf_then (pf_then pf_body))) (by kernel_rfl) (fun ac A50 => ?_)
            refine r_take 4 (.int .i64 mi) A50 T42 (g_load (g := g3) (off := 0) 0 (by kernel_rfl) rfl (by kernel_rfl)) rfl (want_t (dj := 29) (b := (decide ((en : Int) > 0))) A50 rfl (by kernel_rfl) (by kernel_rfl) h48) rfl (pf_then (pf_then (pf_then pf_body))) (by kernel_rfl) (fun ac A51 => ?_)
            refine r_take 5 (.slice EA en ec) A51 T42 (g_move (by kernel_rfl)) rfl (want_t (dj := 29) (b := (decide ((en : Int) > 0))) A51 rfl (by kernel_rfl) (by kernel_rfl) h48) rfl (pf_then (pf_then (pf_then pf_body))) (by kernel_rfl) (fun ac A52 => ?_)
            refine r_take 6 (.int .i64 (en : Int)) A52 T42 (g_move (by kernel_rfl)) rfl (want_t (dj := 29) (b := (decide ((en : Int) > 0))) A52 rfl (by kernel_rfl) (by kernel_rfl) h48) rfl (pf_then (pf_then (pf_then pf_body))) (by kernel_rfl) (fun ac A53 => ?_)
            refine r_take 7 (.int .i64 ((en : Int) - 1)) A53 T42 (g_bin (u := .int .i64 (en : Int)) (k := .int .i64 1) (by kernel_rfl) (by kernel_rfl) (fun _ => by kernel_rfl) (b_sub (by omega))) rfl (want_t (dj := 29) (b := (decide ((en : Int) > 0))) A53 rfl (by kernel_rfl) (by kernel_rfl) h48) rfl (pf_then (pf_then (pf_then pf_body))) (by kernel_rfl) (fun ac A54 => ?_)
            obtain ⟨ad55, rfl, _⟩ := hre ((en - 1) * 3) (by have hlen := hel; omega)
            refine r_take 8 (.pointer (some (ad55.add ((en - 1) * 3)))) A54 T42 (g_index (u := .slice (some ad55) en ec) (k := .int .i64 ((en : Int) - 1)) (by kernel_rfl) (by kernel_rfl) (ix_xs (e := 30) (bytes := 24) (en - 1) (by kernel_rfl) (by omega) (by omega))) rfl (want_t (dj := 29) (b := (decide ((en : Int) > 0))) A54 rfl (by kernel_rfl) (by kernel_rfl) h48) rfl (pf_then (pf_then (pf_then pf_body))) (by kernel_rfl) (fun ac A56 => ?_)
            refine r_take 9 (.pointer (some (ad55.add ((en - 1) * 3 + 0)))) A56 T42 (g_field (u := .pointer (some (ad55.add ((en - 1) * 3)))) (by kernel_rfl) (fld_x (o := 0) (by kernel_rfl))) rfl (want_t (dj := 29) (b := (decide ((en : Int) > 0))) A56 rfl (by kernel_rfl) (by kernel_rfl) h48) rfl (pf_then (pf_then (pf_then pf_body))) (by kernel_rfl) (fun ac A57 => ?_)
            refine r_take 10 (.int .i64 (nthI el ((en - 1) * 3 + 0))) A57 T42 (g_loadXI (l := el) (k := (en - 1) * 3 + 0) (by kernel_rfl) hre (by have hlen := hel; omega) (by kernel_rfl)) rfl (want_t (dj := 29) (b := (decide ((en : Int) > 0))) A57 rfl (by kernel_rfl) (by kernel_rfl) h48) rfl (pf_then (pf_then (pf_then pf_body))) (by kernel_rfl) (fun ac A58 => ?_)
            refine r_take 11 (.bool (decide (mi < nthI el ((en - 1) * 3 + 0)))) A58 T42 (g_bin (u := .int .i64 mi) (k := .int .i64 (nthI el ((en - 1) * 3 + 0))) (by kernel_rfl) (by kernel_rfl) (fun _ => by kernel_rfl) (fun _ => by kernel_rfl)) rfl (want_t (dj := 29) (b := (decide ((en : Int) > 0))) A58 rfl (by kernel_rfl) (by kernel_rfl) h48) rfl (pf_then (pf_then (pf_then pf_body))) (by kernel_rfl) (fun ac A59 => ?_)
            refine r_take 12 (.bool (decide (mi < nthI el ((en - 1) * 3 + 0)))) A59 T42 (g_pick_t (b := (decide ((en : Int) > 0))) (by kernel_rfl) h48 (by kernel_rfl)) rfl rfl rfl (pf_then (pf_then (pf_then pf_body))) (by kernel_rfl) (fun ac A60 => ?_)
            refine r_done (by kernel_rfl) ?_
            refine n_then ?_
            exact ⟨(A60.slot (A60.slot (A60.slot (A60.slot (A60.slot (A60.slot (A60.slot (A60.slot (A60.slot (A60.slot (A60.slot (A60.slot (A60.slot (A60.slot (A60.slot (A60.slot (A60.slot (A60.slot (A60.slot (A60.slot (A60.slot (A60.slot (A60.slot (A60.slot A60.nil (v := .int .i64 (en : Int)) (by kernel_rfl) rfl) (v := .int .i64 (en : Int)) (by kernel_rfl) rfl) (v := .slice (some ad55) en ec) (by kernel_rfl) rfl) (v := .bool (!(inB wa (-2000) 2000))) (by kernel_rfl) rfl) (v := .bool (inB wa (-2000) 2000)) (by kernel_rfl) rfl) (v := .int .i64 wa) (by kernel_rfl) rfl) (v := .pointer (some ⟨g3, 2, none⟩)) (by kernel_rfl) rfl) (v := .bool (!(inB st (-1) ((ss.length : Int) - 1)))) (by kernel_rfl) rfl) (v := .bool (inB st (-1) ((ss.length : Int) - 1))) (by kernel_rfl) rfl) (v := .int .i64 ((ss.length : Int) - 1)) (by kernel_rfl) rfl) (v := .int .i64 (ss.length : Int)) (by kernel_rfl) rfl) (v := .slice A ss.length cap) (by kernel_rfl) rfl) (v := .int .i64 st) (by kernel_rfl) rfl) (v := .pointer (some ⟨g3, 1, none⟩)) (by kernel_rfl) rfl) (v := .bool (!(inB mi 0 100000000))) (by kernel_rfl) rfl) (v := .bool (inB mi 0 100000000)) (by kernel_rfl) rfl) (v := .int .i64 mi) (by kernel_rfl) rfl) (v := .pointer (some ⟨g3, 0, none⟩)) (by kernel_rfl) rfl) (v := .int .i64 0) (by kernel_rfl) rfl) (v := .pointer (some ⟨g3, 0, none⟩)) (by kernel_rfl) rfl) (v := .agg #[.int .i64 mi, .int .i64 st, .int .i64 wa]) (by kernel_rfl) rfl) (v := .slice (some ad55) en ec) (by kernel_rfl) rfl) (v := .slice A ss.length cap) (by kernel_rfl) rfl) (v := .bool (decide (mi < nthI el ((en - 1) * 3 + 0)))) (by kernel_rfl) (congrArg Value.bool (b_and_t h48 (Eq.refl (decide (mi < nthI el ((en - 1) * 3 + 0))))).symm)), S44.sub sub_all sub_all⟩
          · have p61 := of_decide_eq_false h48
            refine r_skip 3 A47 T42 rfl (want_f (dj := 29) (b := (decide ((en : Int) > 0))) A47 rfl (by kernel_rfl) (by kernel_rfl) h48) rfl (pf_then (pf_then (pf_then pf_body))) (by kernel_rfl) (fun ac A62 => ?_)
            refine r_skip 4 A62 T42 rfl (want_f (dj := 29) (b := (decide ((en : Int) > 0))) A62 rfl (by kernel_rfl) (by kernel_rfl) h48) rfl (pf_then (pf_then (pf_then pf_body))) (by kernel_rfl) (fun ac A63 => ?_)
            refine r_skip 5 A63 T42 rfl (want_f (dj := 29) (b := (decide ((en : Int) > 0))) A63 rfl (by kernel_rfl) (by kernel_rfl) h48) rfl (pf_then (pf_then (pf_then pf_body))) (by kernel_rfl) (fun ac A64 => ?_)
            refine r_skip 6 A64 T42 rfl (want_f (dj := 29) (b := (decide ((en : Int) > 0))) A64 rfl (by kernel_rfl) (by kernel_rfl) h48) rfl (pf_then (pf_then (pf_then pf_body))) (by kernel_rfl) (fun ac A65 => ?_)
            refine r_skip 7 A65 T42 rfl (want_f (dj := 29) (b := (decide ((en : Int) > 0))) A65 rfl (by kernel_rfl) (by kernel_rfl) h48) rfl (pf_then (pf_then (pf_then pf_body))) (by kernel_rfl) (fun ac A66 => ?_)
            refine r_skip 8 A66 T42 rfl (want_f (dj := 29) (b := (decide ((en : Int) > 0))) A66 rfl (by kernel_rfl) (by kernel_rfl) h48) rfl (pf_then (pf_then (pf_then pf_body))) (by kernel_rfl) (fun ac A67 => ?_)
            refine r_skip 9 A67 T42 rfl (want_f (dj := 29) (b := (decide ((en : Int) > 0))) A67 rfl (by kernel_rfl) (by kernel_rfl) h48) rfl (pf_then (pf_then (pf_then pf_body))) (by kernel_rfl) (fun ac A68 => ?_)
            refine r_skip 10 A68 T42 rfl (want_f (dj := 29) (b := (decide ((en : Int) > 0))) A68 rfl (by kernel_rfl) (by kernel_rfl) h48) rfl (pf_then (pf_then (pf_then pf_body))) (by kernel_rfl) (fun ac A69 => ?_)
            refine r_skip 11 A69 T42 rfl (want_f (dj := 29) (b := (decide ((en : Int) > 0))) A69 rfl (by kernel_rfl) (by kernel_rfl) h48) rfl (pf_then (pf_then (pf_then pf_body))) (by kernel_rfl) (fun ac A70 => ?_)
            refine r_take 12 (.bool false) A70 T42 (g_pick_f (b := (decide ((en : Int) > 0))) (by kernel_rfl) h48 (by kernel_rfl)) rfl rfl rfl (pf_then (pf_then (pf_then pf_body))) (by kernel_rfl) (fun ac A71 => ?_)
            refine r_done (by kernel_rfl) ?_
            refine n_then ?_
            exact ⟨(A71.slot (A71.slot (A71.slot (A71.slot (A71.slot (A71.slot (A71.slot (A71.slot (A71.slot (A71.slot (A71.slot (A71.slot (A71.slot (A71.slot (A71.slot (A71.slot (A71.slot (A71.slot (A71.slot (A71.slot (A71.slot (A71.slot (A71.slot (A71.slot A71.nil (v := .int .i64 (en : Int)) (by kernel_rfl) rfl) (v := .int .i64 (en : Int)) (by kernel_rfl) rfl) (v := .slice EA en ec) (by kernel_rfl) rfl) (v := .bool (!(inB wa (-2000) 2000))) (by kernel_rfl) rfl) (v := .bool (inB wa (-2000) 2000)) (by kernel_rfl) rfl) (v := .int .i64 wa) (by kernel_rfl) rfl) (v := .pointer (some ⟨g3, 2, none⟩)) (by kernel_rfl) rfl) (v := .bool (!(inB st (-1) ((ss.length : Int) - 1)))) (by kernel_rfl) rfl) (v := .bool (inB st (-1) ((ss.length : Int) - 1))) (by kernel_rfl) rfl) (v := .int .i64 ((ss.length : Int) - 1)) (by kernel_rfl) rfl) (v := .int .i64 (ss.length : Int)) (by kernel_rfl) rfl) (v := .slice A ss.length cap) (by kernel_rfl) rfl) (v := .int .i64 st) (by kernel_rfl) rfl) (v := .pointer (some ⟨g3, 1, none⟩)) (by kernel_rfl) rfl) (v := .bool (!(inB mi 0 100000000))) (by kernel_rfl) rfl) (v := .bool (inB mi 0 100000000)) (by kernel_rfl) rfl) (v := .int .i64 mi) (by kernel_rfl) rfl) (v := .pointer (some ⟨g3, 0, none⟩)) (by kernel_rfl) rfl) (v := .int .i64 0) (by kernel_rfl) rfl) (v := .pointer (some ⟨g3, 0, none⟩)) (by kernel_rfl) rfl) (v := .agg #[.int .i64 mi, .int .i64 st, .int .i64 wa]) (by kernel_rfl) rfl) (v := .slice EA en ec) (by kernel_rfl) rfl) (v := .slice A ss.length cap) (by kernel_rfl) rfl) (v := .bool false) (by kernel_rfl) (congrArg Value.bool (b_af1 h48).symm)), S44.sub sub_all sub_all⟩
        · rintro ac wc ⟨A72, S73⟩
          refine n_then ?_
          refine c_ifb (b := ((decide ((en : Int) > 0)) && (decide (mi < nthI el ((en - 1) * 3 + 0))))) A72 (by kernel_rfl) (fun h74 => ?_) (fun h74 => ?_)
          · have h75 := (Bool.and_eq_true_iff.1 h74).1
            have p76 := of_decide_eq_true h75
            have h77 := (Bool.and_eq_true_iff.1 h74).2
            have p78 := of_decide_eq_true h77
            refine wp_seq ?_
            refine wp_region_lit ?_
            refine s_one (.int .i64 9) A72 S73 (g_assign (by kernel_rfl)) rfl (fun ac A79 => ?_)
            refine wpList_nil ?_
            refine n_then ?_
            refine wp_ret ?_
            refine r_then ?_
            refine fin1 (.int .i64 9) Try.results16 A79 S73 (rv_tmp (by kernel_rfl)) ⟨⟨9, fun h => absurd (show (9 : Int) = 0 from h) (by decide)⟩, rfl, S73.sub sub_nil sub_all⟩
          · refine wp_skip ?_
            refine n_then ?_
            refine wp_seq ?_
            refine wp_seq ?_
            refine wp_region_lit ?_
            refine s_one (.pointer (some ⟨g3, 1, none⟩)) A72 S73 (g_field (u := .pointer (some ⟨g3, 0, none⟩)) (by kernel_rfl) (fun _ => by kernel_rfl)) rfl (fun ac A80 => ?_)
            refine s_one (.int .i64 st) A80 S73 (g_load (g := g3) (off := 1) 0 (by kernel_rfl) rfl (by kernel_rfl)) rfl (fun ac A81 => ?_)
            refine s_one (.bool (decide (st < 0))) A81 S73 (g_bin (u := .int .i64 st) (k := .int .i64 0) (by kernel_rfl) (by kernel_rfl) (fun _ => by kernel_rfl) (fun _ => by kernel_rfl)) rfl (fun ac A82 => ?_)
            refine wpList_nil ?_
            refine n_then ?_
            refine c_ifb (b := (decide (st < 0))) A82 (by kernel_rfl) (fun h83 => ?_) (fun h83 => ?_)
            · have p84 := of_decide_eq_true h83
              refine wp_seq ?_
              have hmi := inB_true.1 (nb_t h12)
              have hst := inB_true.1 (nb_t h25)
              have hwa := inB_true.1 (nb_t h35)
              refine wp_region_lit ?_
              refine s_one (.int .i64 0) A82 S73 (g_assign (by kernel_rfl)) rfl (fun ac A85 => ?_)
              refine wpList_nil ?_
              refine n_then ?_
              refine wp_ret ?_
              refine r_then ?_
              refine fin1 (.int .i64 0) Try.results16 A85 S73 (rv_tmp (by kernel_rfl)) ⟨⟨0, fun _ => goodE_of hel hmi hst hwa h74 (fun hs => absurd (show st = -1 by omega) hs)⟩, rfl, S73.sub sub_nil sub_all⟩
            · have p86 := of_decide_eq_false h83
              refine wp_skip ?_
              refine n_then ?_
              refine wp_seq ?_
              have hmi := inB_true.1 (nb_t h12)
              have hst := inB_true.1 (nb_t h25)
              have hwa := inB_true.1 (nb_t h35)
              refine r_begin (w0 := w0) (by kernel_rfl) (S73.sub sub_all sub_all) (fun wc T87 B88 => ?_)
              have S89 := S73.kept B88
              refine r_take 0 (.slice A ss.length cap) A82 T87 (g_move (by kernel_rfl)) rfl rfl rfl (pf_then pf_body) (by kernel_rfl) (fun ac A90 => ?_)
              refine r_take 2 (.slice EA en ec) A90 T87 (g_move (by kernel_rfl)) rfl rfl rfl (pf_then pf_body) (by kernel_rfl) (fun ac A91 => ?_)
              refine r_take 4 (.pointer (some ⟨g3, 0, none⟩)) A91 T87 (g_field (u := .pointer (some ⟨g3, 0, none⟩)) (by kernel_rfl) (fun _ => by kernel_rfl)) rfl rfl rfl (pf_then pf_body) (by kernel_rfl) (fun ac A92 => ?_)
              refine r_take 5 (.int .i64 mi) A92 T87 (g_load (g := g3) (off := 0) 0 (by kernel_rfl) rfl (by kernel_rfl)) rfl rfl rfl (pf_then pf_body) (by kernel_rfl) (fun ac A93 => ?_)
              refine r_take 6 (.pointer (some ⟨g3, 2, none⟩)) A93 T87 (g_field (u := .pointer (some ⟨g3, 0, none⟩)) (by kernel_rfl) (fun _ => by kernel_rfl)) rfl rfl rfl (pf_then pf_body) (by kernel_rfl) (fun ac A94 => ?_)
              refine r_take 7 (.int .i64 wa) A94 T87 (g_load (g := g3) (off := 2) 0 (by kernel_rfl) rfl (by kernel_rfl)) rfl rfl rfl (pf_then pf_body) (by kernel_rfl) (fun ac A95 => ?_)
              refine r_take 8 (.agg #[.int .i64 mi, .int .i64 (-1), .int .i64 wa]) A95 T87 (g_build (r := [(0, .int .i64 mi), (1, .int .i64 (-1)), (2, .int .i64 wa)]) (by kernel_rfl) (fun _ => by kernel_rfl)) rfl rfl rfl (pf_then pf_body) (by kernel_rfl) (fun ac A96 => ?_)
              refine r_take 11 (.pointer (some ⟨g3, 0, none⟩)) A96 T87 (g_field (u := .pointer (some ⟨g3, 0, none⟩)) (by kernel_rfl) (fun _ => by kernel_rfl)) rfl rfl rfl (pf_then pf_body) (by kernel_rfl) (fun ac A97 => ?_)
              refine r_take 12 (.int .i64 mi) A97 T87 (g_load (g := g3) (off := 0) 0 (by kernel_rfl) rfl (by kernel_rfl)) rfl rfl rfl (pf_then pf_body) (by kernel_rfl) (fun ac A98 => ?_)
              refine r_2 (i := 1) (j := 9) (by kernel_rfl) ?_ ?_
              · refine rs_bs (e := 30) (r := []) (#[]) A98 S89 sub_all sub_all (by kernel_rfl) (by kernel_rfl) rfl rfl rfl (fun g101 ac wc A99 S100 => ?_)
                have T102 := S100.sub (sub_skip sub_all) sub_all
                refine r_2 (i := 3) (j := 9) (by kernel_rfl) ?_ ?_
                · have S103 : St w0 [⟨g3, 30, #[.int .i64 mi, .int .i64 st, .int .i64 wa], true⟩] [⟨.slice (some ⟨g101, 0, none⟩) 0 0, 30, 3, 0, []⟩] _ := St.toRow S100 0 rfl rfl (by decide)
                  refine rs_appendX (e := 30) (size := 3) (bytes := 24) (v := .slice (some ⟨g101, 0, none⟩) 0 0) (m' := en) (c := ec) (l := el) 0 A99 S103 sub_all (fun _ => sub_nil) (by kernel_rfl) (by kernel_rfl) (by kernel_rfl) rfl (hre.kept S103.kp) (by have hlen := hel; omega) (by omega) (by omega) rfl rfl rfl (fun v107 ac wc A104 S105 => ?_)
                  have S108 : St w0 [⟨g3, 30, #[.int .i64 mi, .int .i64 st, .int .i64 wa], true⟩] [⟨v107, 30, 3, en, (rowI el)⟩] _ := St.rerow 0 S105 rfl ⟨Nat.zero_add _, List.nil_append _⟩
                  have T106 := S108.sub sub_all sub_nil
                  refine r_1 (i := 9) (by kernel_rfl) ?_
                  refine rs_bs (e := 30) (r := [(0, .agg #[.int .i64 mi, .int .i64 (-1), .int .i64 wa])]) (#[.int .i64 mi, .int .i64 (-1), .int .i64 wa]) A104 S108 sub_all sub_nil (by kernel_rfl) (by kernel_rfl) rfl rfl rfl (fun g111 ac wc A109 S110 => ?_)
                  have T112 := S110.sub (sub_skip sub_all) sub_nil
                  refine r_1 (i := 10) (by kernel_rfl) ?_
                  refine rs_append (e := 30) (size := 3) (bytes := 24) (v := v107) (g := g111) (m' := 1) (c := 1) 0 0 [.int .i64 mi, .int .i64 (-1), .int .i64 wa] A109 S110 (sub_skip sub_all) (fun _ => sub_nil) (by kernel_rfl) (by kernel_rfl) (by kernel_rfl) rfl rfl (by kernel_rfl) rfl (by kernel_rfl) (by omega) (by omega) rfl rfl rfl (fun v117 ac wc A113 S114 => ?_)
                  have T116 := S114.sub (sub_skip sub_all) sub_nil
                  have S118 : St w0 [⟨g111, 30, #[.int .i64 mi, .int .i64 (-1), .int .i64 wa], true⟩, ⟨g3, 30, #[.int .i64 mi, .int .i64 st, .int .i64 wa], true⟩] [⟨v117, 30, 3, (en + 1), (rowI (el ++ [mi, (-1), wa]))⟩] _ := St.rerow 0 S114 rfl ⟨rfl, rowI_3 _ _ _ _⟩
                  refine r_1 (i := 13) (by kernel_rfl) ?_
                  obtain ⟨hl123, A124, cap125, rfl, hr126⟩ := rowI_reads2 (v := v117) (size := 3) (m := en + 1) (l := el ++ [mi, (-1), wa]) (S118.row 0 rfl)
                  refine rs_callR (fs := #[]) (cp := #[]) (r := [(0, .slice A ss.length cap), (0, .slice A124 (en + 1) cap125), (0, .int .i64 mi)]) #[.slice A ss.length cap, .slice A124 (en + 1) cap125, .int .i64 mi] A113 S118 (sub_skip sub_all) sub_nil (RValidAt_s A cap ss A124 (en + 1) cap125 (el ++ [mi, (-1), wa]) mi _ (hr.kept S118.kp) (row_ir (S118.row 0 rfl)) hl123 (by omega) (ev_bd hel ge hmi hwa) gs) Try.call29 rfl rfl (by kernel_rfl) (by kernel_rfl) (by kernel_rfl) rfl (fun v127 ac wc A119 S120 => ?_)
                  obtain ⟨g128, cap129, rfl⟩ := row_some (v := v127) (m := ss.length) (S120.row 0 rfl) (by omega)
                  have T122 := S120.sub (sub_skip sub_all) sub_nil
                  refine r_take 14 (.slice (some ⟨g128, 0, none⟩) ss.length cap129) A119 T122 (g_assign (by kernel_rfl)) rfl rfl rfl (pf_then pf_body) (by kernel_rfl) (fun ac A130 => ?_)
                  refine r_done (by kernel_rfl) ?_
                  refine n_then ?_
                  refine wp_seq ?_
                  refine wp_seq ?_
                  refine wp_region_lit ?_
                  refine s_one (.int .i64 0) A130 S120 (g_assign (by kernel_rfl)) rfl (fun ac A131 => ?_)
                  refine wpList_nil ?_
                  refine n_then ?_
                  refine wp_block ?_
                  refine c_loopN (fun mm ac wc => ∃ (q : Nat), mm = (spK ss (st).toNat).ne.length - q ∧ (q ≤ (spK ss (st).toNat).ne.length) ∧ (∀ j, j < q → vd ss (bkF ss (el ++ [mi, -1, wa]) (en + 1)) mi (nthI (spK ss (st).toNat).ne j).toNat = true) ∧ Fr 81 ac [(0, .slice A ss.length cap), (1, .slice EA en ec), (2, .agg #[.int .i64 mi, .int .i64 st, .int .i64 wa]), (5, .pointer (some ⟨g3, 0, none⟩)), (10, .pointer (some ⟨g3, 0, none⟩)), (11, .int .i64 mi), (12, .bool (inB mi 0 100000000)), (13, .bool (!(inB mi 0 100000000))), (14, .pointer (some ⟨g3, 1, none⟩)), (15, .int .i64 st), (16, .slice A ss.length cap), (17, .int .i64 (ss.length : Int)), (18, .int .i64 ((ss.length : Int) - 1)), (19, .bool (inB st (-1) ((ss.length : Int) - 1))), (20, .bool (!(inB st (-1) ((ss.length : Int) - 1)))), (21, .pointer (some ⟨g3, 2, none⟩)), (22, .int .i64 wa), (23, .bool (inB wa (-2000) 2000)), (24, .bool (!(inB wa (-2000) 2000))), (25, .slice EA en ec), (26, .int .i64 (en : Int)), (7, .int .i64 (en : Int)), (39, .bool ((decide ((en : Int) > 0)) && (decide (mi < nthI el ((en - 1) * 3 + 0))))), (40, .pointer (some ⟨g3, 1, none⟩)), (41, .int .i64 st), (42, .bool (decide (st < 0))), (43, .slice A ss.length cap), (45, .slice EA en ec), (47, .pointer (some ⟨g3, 0, none⟩)), (48, .int .i64 mi), (49, .pointer (some ⟨g3, 2, none⟩)), (50, .int .i64 wa), (51, .agg #[.int .i64 mi, .int .i64 (-1), .int .i64 wa]), (54, .pointer (some ⟨g3, 0, none⟩)), (55, .int .i64 mi), (44, .slice (some ⟨g101, 0, none⟩) 0 0), (46, v107), (52, .slice (some ⟨g111, 0, none⟩) 1 1), (53, .slice A124 (en + 1) cap125), (56, .slice (some ⟨g128, 0, none⟩) ss.length cap129), (8, .slice (some ⟨g128, 0, none⟩) ss.length cap129), (9, .int .i64 (q : Int))] ∧ St w0 [⟨g111, 30, #[.int .i64 mi, .int .i64 (-1), .int .i64 wa], true⟩, ⟨g3, 30, #[.int .i64 mi, .int .i64 st, .int .i64 wa], true⟩] [⟨.slice (some ⟨g128, 0, none⟩) ss.length cap129, 4, 1, ss.length, (bX ss.length (vd ss (bkF ss (el ++ [mi, (-1), wa]) (en + 1)) mi))⟩] wc) _ ⟨0, rfl, Nat.zero_le _, fun j hj => absurd hj (Nat.not_lt_zero j), (A131.slot (A131.slot (A131.slot (A131.slot (A131.slot (A131.slot (A131.slot (A131.slot (A131.slot (A131.slot (A131.slot (A131.slot (A131.slot (A131.slot (A131.slot (A131.slot (A131.slot (A131.slot (A131.slot (A131.slot (A131.slot (A131.slot (A131.slot (A131.slot (A131.slot (A131.slot (A131.slot (A131.slot (A131.slot (A131.slot (A131.slot (A131.slot (A131.slot (A131.slot (A131.slot (A131.slot (A131.slot (A131.slot (A131.slot (A131.slot (A131.slot (A131.slot A131.nil (v := .int .i64 0) (by kernel_rfl) (congrArg (Value.int .i64) (by omega))) (v := .slice (some ⟨g128, 0, none⟩) ss.length cap129) (by kernel_rfl) rfl) (v := .slice (some ⟨g128, 0, none⟩) ss.length cap129) (by kernel_rfl) rfl) (v := .slice A124 (en + 1) cap125) (by kernel_rfl) rfl) (v := .slice (some ⟨g111, 0, none⟩) 1 1) (by kernel_rfl) rfl) (v := v107) (by kernel_rfl) rfl) (v := .slice (some ⟨g101, 0, none⟩) 0 0) (by kernel_rfl) rfl) (v := .int .i64 mi) (by kernel_rfl) rfl) (v := .pointer (some ⟨g3, 0, none⟩)) (by kernel_rfl) rfl) (v := .agg #[.int .i64 mi, .int .i64 (-1), .int .i64 wa]) (by kernel_rfl) rfl) (v := .int .i64 wa) (by kernel_rfl) rfl) (v := .pointer (some ⟨g3, 2, none⟩)) (by kernel_rfl) rfl) (v := .int .i64 mi) (by kernel_rfl) rfl) (v := .pointer (some ⟨g3, 0, none⟩)) (by kernel_rfl) rfl) (v := .slice EA en ec) (by kernel_rfl) rfl) (v := .slice A ss.length cap) (by kernel_rfl) rfl) (v := .bool (decide (st < 0))) (by kernel_rfl) rfl) (v := .int .i64 st) (by kernel_rfl) rfl) (v := .pointer (some ⟨g3, 1, none⟩)) (by kernel_rfl) rfl) (v := .bool ((decide ((en : Int) > 0)) && (decide (mi < nthI el ((en - 1) * 3 + 0))))) (by kernel_rfl) rfl) (v := .int .i64 (en : Int)) (by kernel_rfl) rfl) (v := .int .i64 (en : Int)) (by kernel_rfl) rfl) (v := .slice EA en ec) (by kernel_rfl) rfl) (v := .bool (!(inB wa (-2000) 2000))) (by kernel_rfl) rfl) (v := .bool (inB wa (-2000) 2000)) (by kernel_rfl) rfl) (v := .int .i64 wa) (by kernel_rfl) rfl) (v := .pointer (some ⟨g3, 2, none⟩)) (by kernel_rfl) rfl) (v := .bool (!(inB st (-1) ((ss.length : Int) - 1)))) (by kernel_rfl) rfl) (v := .bool (inB st (-1) ((ss.length : Int) - 1))) (by kernel_rfl) rfl) (v := .int .i64 ((ss.length : Int) - 1)) (by kernel_rfl) rfl) (v := .int .i64 (ss.length : Int)) (by kernel_rfl) rfl) (v := .slice A ss.length cap) (by kernel_rfl) rfl) (v := .int .i64 st) (by kernel_rfl) rfl) (v := .pointer (some ⟨g3, 1, none⟩)) (by kernel_rfl) rfl) (v := .bool (!(inB mi 0 100000000))) (by kernel_rfl) rfl) (v := .bool (inB mi 0 100000000)) (by kernel_rfl) rfl) (v := .int .i64 mi) (by kernel_rfl) rfl) (v := .pointer (some ⟨g3, 0, none⟩)) (by kernel_rfl) rfl) (v := .pointer (some ⟨g3, 0, none⟩)) (by kernel_rfl) rfl) (v := .agg #[.int .i64 mi, .int .i64 st, .int .i64 wa]) (by kernel_rfl) rfl) (v := .slice EA en ec) (by kernel_rfl) rfl) (v := .slice A ss.length cap) (by kernel_rfl) rfl), S120.sub sub_all (sub_keep sub_nil)⟩ ?_
                  rintro mm ac wc ⟨q, hm134, hq, hv, A132, S133⟩
                  refine wp_seq ?_
                  refine wp_seq ?_
                  refine wp_region_lit ?_
                  refine s_one (.int .i64 (q : Int)) A132 S133 (g_move (by kernel_rfl)) rfl (fun ac A135 => ?_)
                  refine s_one (.slice A ss.length cap) A135 S133 (g_move (by kernel_rfl)) rfl (fun ac A136 => ?_)
                  refine s_one (.pointer (some ⟨g3, 1, none⟩)) A136 S133 (g_field (u := .pointer (some ⟨g3, 0, none⟩)) (by kernel_rfl) (fun _ => by kernel_rfl)) rfl (fun ac A137 => ?_)
                  refine s_one (.int .i64 st) A137 S133 (g_load (g := g3) (off := 1) 1 (by kernel_rfl) rfl (by kernel_rfl)) rfl (fun ac A138 => ?_)
                  obtain ⟨ad139, B140, c141, he142, hs143⟩ := hr ((st).toNat) (by omega)
                  have hm144 := hs143.hm
                  have hm145 := hs143.hn
                  refine s_one (.pointer (some (ad139.add (((st).toNat) * 4)))) A138 S133 (g_index (u := .slice A ss.length cap) (k := .int .i64 st) (by kernel_rfl) (by kernel_rfl) (ix_xsB (e := 59) (size := 4) (bytes := 56) ((st).toNat) (by kernel_rfl) (by omega) (by omega) he142)) rfl (fun ac A146 => ?_)
                  refine s_one (.pointer (some (ad139.add (((st).toNat) * 4 + 3)))) A146 S133 (g_field (u := .pointer (some (ad139.add (((st).toNat) * 4)))) (by kernel_rfl) (fld_x (x := ((st).toNat) * 4) (o := 3) (by kernel_rfl))) rfl (fun ac A147 => ?_)
                  refine s_one (.slice B140 ((spK ss ((st).toNat)).ne.length) c141) A147 S133 (g_loadX (ad := ad139.add (((st).toNat) * 4 + 3)) (by kernel_rfl) (sp_cell (j := 3) hs143 rfl rfl) (by kernel_rfl)) rfl (fun ac A148 => ?_)
                  refine s_one (.int .i64 ((spK ss ((st).toNat)).ne.length : Int)) A148 S133 (g_built (r := [(0, .slice B140 ((spK ss ((st).toNat)).ne.length) c141)]) (by kernel_rfl) (fun _ _ _ => by kernel_rfl)) rfl (fun ac A149 => ?_)
                  refine s_one (.bool (decide ((q : Int) < ((spK ss ((st).toNat)).ne.length : Int)))) A149 S133 (g_bin (u := .int .i64 (q : Int)) (k := .int .i64 ((spK ss ((st).toNat)).ne.length : Int)) (by kernel_rfl) (by kernel_rfl) (fun _ => by kernel_rfl) (fun _ => by kernel_rfl)) rfl (fun ac A150 => ?_)
                  refine wpList_nil ?_
                  refine n_then ?_
                  refine c_ifb (b := (decide ((q : Int) < ((spK ss ((st).toNat)).ne.length : Int)))) A150 (by kernel_rfl) (fun h151 => ?_) (fun h151 => ?_)
                  · have p152 := of_decide_eq_true h151
                    refine wp_skip ?_
                    refine n_then ?_
                    refine wp_seq ?_
                    refine wp_block ?_
                    refine wp_seq ?_
                    have hnm := gs.ahead (st).toNat (by omega) _ (nthI_mem (show q < (spK ss (st).toNat).ne.length by omega))
                    refine wp_region_lit ?_
                    refine s_one (.slice (some ⟨g128, 0, none⟩) ss.length cap129) A150 S133 (g_move (by kernel_rfl)) rfl (fun ac A153 => ?_)
                    refine s_one (.slice A ss.length cap) A153 S133 (g_move (by kernel_rfl)) rfl (fun ac A154 => ?_)
                    refine s_one (.pointer (some ⟨g3, 1, none⟩)) A154 S133 (g_field (u := .pointer (some ⟨g3, 0, none⟩)) (by kernel_rfl) (fun _ => by kernel_rfl)) rfl (fun ac A155 => ?_)
                    refine s_one (.int .i64 st) A155 S133 (g_load (g := g3) (off := 1) 1 (by kernel_rfl) rfl (by kernel_rfl)) rfl (fun ac A156 => ?_)
                    obtain ⟨ad157, B158, c159, he160, hs161⟩ := hr ((st).toNat) (by omega)
                    have hm162 := hs161.hm
                    have hm163 := hs161.hn
                    refine s_one (.pointer (some (ad157.add (((st).toNat) * 4)))) A156 S133 (g_index (u := .slice A ss.length cap) (k := .int .i64 st) (by kernel_rfl) (by kernel_rfl) (ix_xsB (e := 59) (size := 4) (bytes := 56) ((st).toNat) (by kernel_rfl) (by omega) (by omega) he160)) rfl (fun ac A164 => ?_)
                    refine s_one (.pointer (some (ad157.add (((st).toNat) * 4 + 3)))) A164 S133 (g_field (u := .pointer (some (ad157.add (((st).toNat) * 4)))) (by kernel_rfl) (fld_x (x := ((st).toNat) * 4) (o := 3) (by kernel_rfl))) rfl (fun ac A165 => ?_)
                    refine s_one (.slice B158 ((spK ss ((st).toNat)).ne.length) c159) A165 S133 (g_loadX (ad := ad157.add (((st).toNat) * 4 + 3)) (by kernel_rfl) (sp_cell (j := 3) hs161 rfl rfl) (by kernel_rfl)) rfl (fun ac A166 => ?_)
                    refine s_one (.int .i64 (q : Int)) A166 S133 (g_move (by kernel_rfl)) rfl (fun ac A167 => ?_)
                    obtain ⟨ad168, rfl, _⟩ := hs161.rd (q) (by have hlen := (show (spK ss ((st).toNat)).ne.length = (spK ss ((st).toNat)).ne.length * 1 by omega); omega)
                    refine s_one (.pointer (some (ad168.add q))) A167 S133 (g_index (u := .slice (some ad168) ((spK ss ((st).toNat)).ne.length) c159) (k := .int .i64 (q : Int)) (by kernel_rfl) (by kernel_rfl) (ix_x (e := 3) (bytes := 8) q (by kernel_rfl) (by omega) (by omega))) rfl (fun ac A169 => ?_)
                    refine s_one (.int .i64 (nthI ((spK ss ((st).toNat)).ne) q)) A169 S133 (g_loadXI (l := (spK ss ((st).toNat)).ne) (k := q) (by kernel_rfl) hs161.rd (by have hlen := (show (spK ss ((st).toNat)).ne.length = (spK ss ((st).toNat)).ne.length * 1 by omega); omega) (by kernel_rfl)) rfl (fun ac A170 => ?_)
                    refine s_one (.pointer (some ((Addr.mk g128 0 none).add ((nthI ((spK ss ((st).toNat)).ne) q).toNat)))) A170 S133 (g_index (u := .slice (some ⟨g128, 0, none⟩) ss.length cap129) (k := .int .i64 (nthI ((spK ss ((st).toNat)).ne) q)) (by kernel_rfl) (by kernel_rfl) (ix_x (e := 4) (bytes := 1) ((nthI ((spK ss ((st).toNat)).ne) q).toNat) (by kernel_rfl) (by omega) (by omega))) rfl (fun ac A171 => ?_)
                    refine s_one (.bool (vd ss (bkF ss (el ++ [mi, (-1), wa]) (en + 1)) mi ((nthI ((spK ss ((st).toNat)).ne) q).toNat))) A171 S133 (g_loadR1 (ad := ⟨g128, 0, none⟩) (off := ((nthI ((spK ss ((st).toNat)).ne) q).toNat)) (v := .bool (vd ss (bkF ss (el ++ [mi, (-1), wa]) (en + 1)) mi ((nthI ((spK ss ((st).toNat)).ne) q).toNat))) 0 (by kernel_rfl) rfl (bX_getE (by omega) rfl) (by kernel_rfl)) rfl (fun ac A172 => ?_)
                    refine s_one (.bool (!(vd ss (bkF ss (el ++ [mi, (-1), wa]) (en + 1)) mi ((nthI ((spK ss ((st).toNat)).ne) q).toNat)))) A172 S133 (g_un (u := .bool (vd ss (bkF ss (el ++ [mi, (-1), wa]) (en + 1)) mi ((nthI ((spK ss ((st).toNat)).ne) q).toNat))) (by kernel_rfl) (fun _ => by kernel_rfl)) rfl (fun ac A173 => ?_)
                    refine wpList_nil ?_
                    refine n_then ?_
                    refine c_ifb (b := (!(vd ss (bkF ss (el ++ [mi, (-1), wa]) (en + 1)) mi ((nthI ((spK ss ((st).toNat)).ne) q).toNat)))) A173 (by kernel_rfl) (fun h174 => ?_) (fun h174 => ?_)
                    · have h175 : vd ss (bkF ss (el ++ [mi, (-1), wa]) (en + 1)) mi ((nthI ((spK ss ((st).toNat)).ne) q).toNat) = false := by simpa using h174
                      refine wp_seq ?_
                      refine wp_region_lit ?_
                      refine s_one (.int .i64 20) A173 S133 (g_assign (by kernel_rfl)) rfl (fun ac A176 => ?_)
                      refine wpList_nil ?_
                      refine n_then ?_
                      refine wp_ret ?_
                      refine r_block ?_
                      refine r_then ?_
                      refine r_then ?_
                      refine r_block ?_
                      refine r_then ?_
                      refine fin1 (.int .i64 20) Try.results16 A176 S133 (rv_tmp (by kernel_rfl)) ⟨⟨20, fun h => absurd (show (20 : Int) = 0 from h) (by decide)⟩, rfl, S133.sub sub_nil sub_nil⟩
                    · have h177 : vd ss (bkF ss (el ++ [mi, (-1), wa]) (en + 1)) mi ((nthI ((spK ss ((st).toNat)).ne) q).toNat) = true := by simpa using h174
                      refine wp_skip ?_
                      refine n_block ?_
                      refine n_then ?_
                      refine wp_region_lit ?_
                      refine s_one (.int .i64 (q : Int)) A173 S133 (g_move (by kernel_rfl)) rfl (fun ac A178 => ?_)
                      refine s_one (.int .i64 ((q : Int) + 1)) A178 S133 (g_bin (u := .int .i64 (q : Int)) (k := .int .i64 1) (by kernel_rfl) (by kernel_rfl) (fun _ => by kernel_rfl) (b_add (by omega))) rfl (fun ac A179 => ?_)
                      refine s_one (.int .i64 ((q : Int) + 1)) A179 S133 (g_assign (by kernel_rfl)) rfl (fun ac A180 => ?_)
                      refine wpList_nil ?_
                      refine n_then ?_
                      refine ⟨_, ⟨q + 1, rfl, by omega, lt_snoc hv (nb_t h174), (A180.slot (A180.slot (A180.slot (A180.slot (A180.slot (A180.slot (A180.slot (A180.slot (A180.slot (A180.slot (A180.slot (A180.slot (A180.slot (A180.slot (A180.slot (A180.slot (A180.slot (A180.slot (A180.slot (A180.slot (A180.slot (A180.slot (A180.slot (A180.slot (A180.slot (A180.slot (A180.slot (A180.slot (A180.slot (A180.slot (A180.slot (A180.slot (A180.slot (A180.slot (A180.slot (A180.slot (A180.slot (A180.slot (A180.slot (A180.slot (A180.slot (A180.slot A180.nil (v := .int .i64 ((q : Int) + 1)) (by kernel_rfl) (congrArg (Value.int .i64) (by omega))) (v := .slice (some ⟨g128, 0, none⟩) ss.length cap129) (by kernel_rfl) rfl) (v := .slice (some ⟨g128, 0, none⟩) ss.length cap129) (by kernel_rfl) rfl) (v := .slice A124 (en + 1) cap125) (by kernel_rfl) rfl) (v := .slice (some ⟨g111, 0, none⟩) 1 1) (by kernel_rfl) rfl) (v := v107) (by kernel_rfl) rfl) (v := .slice (some ⟨g101, 0, none⟩) 0 0) (by kernel_rfl) rfl) (v := .int .i64 mi) (by kernel_rfl) rfl) (v := .pointer (some ⟨g3, 0, none⟩)) (by kernel_rfl) rfl) (v := .agg #[.int .i64 mi, .int .i64 (-1), .int .i64 wa]) (by kernel_rfl) rfl) (v := .int .i64 wa) (by kernel_rfl) rfl) (v := .pointer (some ⟨g3, 2, none⟩)) (by kernel_rfl) rfl) (v := .int .i64 mi) (by kernel_rfl) rfl) (v := .pointer (some ⟨g3, 0, none⟩)) (by kernel_rfl) rfl) (v := .slice EA en ec) (by kernel_rfl) rfl) (v := .slice A ss.length cap) (by kernel_rfl) rfl) (v := .bool (decide (st < 0))) (by kernel_rfl) rfl) (v := .int .i64 st) (by kernel_rfl) rfl) (v := .pointer (some ⟨g3, 1, none⟩)) (by kernel_rfl) rfl) (v := .bool ((decide ((en : Int) > 0)) && (decide (mi < nthI el ((en - 1) * 3 + 0))))) (by kernel_rfl) rfl) (v := .int .i64 (en : Int)) (by kernel_rfl) rfl) (v := .int .i64 (en : Int)) (by kernel_rfl) rfl) (v := .slice EA en ec) (by kernel_rfl) rfl) (v := .bool (!(inB wa (-2000) 2000))) (by kernel_rfl) rfl) (v := .bool (inB wa (-2000) 2000)) (by kernel_rfl) rfl) (v := .int .i64 wa) (by kernel_rfl) rfl) (v := .pointer (some ⟨g3, 2, none⟩)) (by kernel_rfl) rfl) (v := .bool (!(inB st (-1) ((ss.length : Int) - 1)))) (by kernel_rfl) rfl) (v := .bool (inB st (-1) ((ss.length : Int) - 1))) (by kernel_rfl) rfl) (v := .int .i64 ((ss.length : Int) - 1)) (by kernel_rfl) rfl) (v := .int .i64 (ss.length : Int)) (by kernel_rfl) rfl) (v := .slice A ss.length cap) (by kernel_rfl) rfl) (v := .int .i64 st) (by kernel_rfl) rfl) (v := .pointer (some ⟨g3, 1, none⟩)) (by kernel_rfl) rfl) (v := .bool (!(inB mi 0 100000000))) (by kernel_rfl) rfl) (v := .bool (inB mi 0 100000000)) (by kernel_rfl) rfl) (v := .int .i64 mi) (by kernel_rfl) rfl) (v := .pointer (some ⟨g3, 0, none⟩)) (by kernel_rfl) rfl) (v := .pointer (some ⟨g3, 0, none⟩)) (by kernel_rfl) rfl) (v := .agg #[.int .i64 mi, .int .i64 st, .int .i64 wa]) (by kernel_rfl) rfl) (v := .slice EA en ec) (by kernel_rfl) rfl) (v := .slice A ss.length cap) (by kernel_rfl) rfl), S133.sub sub_all sub_all⟩, ?_⟩
                      omega
                  · have p181 := of_decide_eq_false h151
                    refine wp_exit ?_
                    refine x_then ?_
                    refine x_then ?_
                    refine x_hit ?_
                    refine n_then ?_
                    refine wp_seq ?_
                    refine wp_region_lit ?_
                    refine s_one (.int .i64 0) A150 S133 (g_assign (by kernel_rfl)) rfl (fun ac A182 => ?_)
                    refine wpList_nil ?_
                    refine n_then ?_
                    refine wp_ret ?_
                    refine fin1 (.int .i64 0) Try.results16 A182 S133 (rv_tmp (by kernel_rfl)) ⟨⟨0, fun _ => goodE_of hel hmi hst hwa h74 (fun _ j hj => hv j (by omega))⟩, rfl, S133.sub sub_nil sub_nil⟩
                · refine rs_bs (e := 30) (r := [(0, .agg #[.int .i64 mi, .int .i64 (-1), .int .i64 wa])]) (#[.int .i64 mi, .int .i64 (-1), .int .i64 wa]) A99 S100 (sub_skip sub_all) sub_all (by kernel_rfl) (by kernel_rfl) rfl rfl rfl (fun g185 ac wc A183 S184 => ?_)
                  have T186 := S184.sub (sub_skip (sub_skip sub_all)) sub_all
                  refine r_1 (i := 3) (by kernel_rfl) ?_
                  have S187 : St w0 [⟨g185, 30, #[.int .i64 mi, .int .i64 (-1), .int .i64 wa], true⟩, ⟨g3, 30, #[.int .i64 mi, .int .i64 st, .int .i64 wa], true⟩] [⟨.slice (some ⟨g101, 0, none⟩) 0 0, 30, 3, 0, []⟩] _ := St.toRow S184 1 rfl rfl (by decide)
                  refine rs_appendX (e := 30) (size := 3) (bytes := 24) (v := .slice (some ⟨g101, 0, none⟩) 0 0) (m' := en) (c := ec) (l := el) 0 A183 S187 (sub_skip sub_all) (fun _ => sub_nil) (by kernel_rfl) (by kernel_rfl) (by kernel_rfl) rfl (hre.kept S187.kp) (by have hlen := hel; omega) (by omega) (by omega) rfl rfl rfl (fun v191 ac wc A188 S189 => ?_)
                  have S192 : St w0 [⟨g185, 30, #[.int .i64 mi, .int .i64 (-1), .int .i64 wa], true⟩, ⟨g3, 30, #[.int .i64 mi, .int .i64 st, .int .i64 wa], true⟩] [⟨v191, 30, 3, en, (rowI el)⟩] _ := St.rerow 0 S189 rfl ⟨Nat.zero_add _, List.nil_append _⟩
                  have T190 := S192.sub (sub_skip sub_all) sub_nil
                  refine r_1 (i := 10) (by kernel_rfl) ?_
                  refine rs_append (e := 30) (size := 3) (bytes := 24) (v := v191) (g := g185) (m' := 1) (c := 1) 0 0 [.int .i64 mi, .int .i64 (-1), .int .i64 wa] A188 S192 (sub_skip sub_all) (fun _ => sub_nil) (by kernel_rfl) (by kernel_rfl) (by kernel_rfl) rfl rfl (by kernel_rfl) rfl (by kernel_rfl) (by omega) (by omega) rfl rfl rfl (fun v197 ac wc A193 S194 => ?_)
                  have T196 := S194.sub (sub_skip sub_all) sub_nil
                  have S198 : St w0 [⟨g185, 30, #[.int .i64 mi, .int .i64 (-1), .int .i64 wa], true⟩, ⟨g3, 30, #[.int .i64 mi, .int .i64 st, .int .i64 wa], true⟩] [⟨v197, 30, 3, (en + 1), (rowI (el ++ [mi, (-1), wa]))⟩] _ := St.rerow 0 S194 rfl ⟨rfl, rowI_3 _ _ _ _⟩
                  refine r_1 (i := 13) (by kernel_rfl) ?_
                  obtain ⟨hl203, A204, cap205, rfl, hr206⟩ := rowI_reads2 (v := v197) (size := 3) (m := en + 1) (l := el ++ [mi, (-1), wa]) (S198.row 0 rfl)
                  refine rs_callR (fs := #[]) (cp := #[]) (r := [(0, .slice A ss.length cap), (0, .slice A204 (en + 1) cap205), (0, .int .i64 mi)]) #[.slice A ss.length cap, .slice A204 (en + 1) cap205, .int .i64 mi] A193 S198 (sub_skip sub_all) sub_nil (RValidAt_s A cap ss A204 (en + 1) cap205 (el ++ [mi, (-1), wa]) mi _ (hr.kept S198.kp) (row_ir (S198.row 0 rfl)) hl203 (by omega) (ev_bd hel ge hmi hwa) gs) Try.call29 rfl rfl (by kernel_rfl) (by kernel_rfl) (by kernel_rfl) rfl (fun v207 ac wc A199 S200 => ?_)
                  obtain ⟨g208, cap209, rfl⟩ := row_some (v := v207) (m := ss.length) (S200.row 0 rfl) (by omega)
                  have T202 := S200.sub (sub_skip sub_all) sub_nil
                  refine r_take 14 (.slice (some ⟨g208, 0, none⟩) ss.length cap209) A199 T202 (g_assign (by kernel_rfl)) rfl rfl rfl (pf_then pf_body) (by kernel_rfl) (fun ac A210 => ?_)
                  refine r_done (by kernel_rfl) ?_
                  refine n_then ?_
                  refine wp_seq ?_
                  refine wp_seq ?_
                  refine wp_region_lit ?_
                  refine s_one (.int .i64 0) A210 S200 (g_assign (by kernel_rfl)) rfl (fun ac A211 => ?_)
                  refine wpList_nil ?_
                  refine n_then ?_
                  refine wp_block ?_
                  refine c_loopN (fun mm ac wc => ∃ (q : Nat), mm = (spK ss (st).toNat).ne.length - q ∧ (q ≤ (spK ss (st).toNat).ne.length) ∧ (∀ j, j < q → vd ss (bkF ss (el ++ [mi, -1, wa]) (en + 1)) mi (nthI (spK ss (st).toNat).ne j).toNat = true) ∧ Fr 81 ac [(0, .slice A ss.length cap), (1, .slice EA en ec), (2, .agg #[.int .i64 mi, .int .i64 st, .int .i64 wa]), (5, .pointer (some ⟨g3, 0, none⟩)), (10, .pointer (some ⟨g3, 0, none⟩)), (11, .int .i64 mi), (12, .bool (inB mi 0 100000000)), (13, .bool (!(inB mi 0 100000000))), (14, .pointer (some ⟨g3, 1, none⟩)), (15, .int .i64 st), (16, .slice A ss.length cap), (17, .int .i64 (ss.length : Int)), (18, .int .i64 ((ss.length : Int) - 1)), (19, .bool (inB st (-1) ((ss.length : Int) - 1))), (20, .bool (!(inB st (-1) ((ss.length : Int) - 1)))), (21, .pointer (some ⟨g3, 2, none⟩)), (22, .int .i64 wa), (23, .bool (inB wa (-2000) 2000)), (24, .bool (!(inB wa (-2000) 2000))), (25, .slice EA en ec), (26, .int .i64 (en : Int)), (7, .int .i64 (en : Int)), (39, .bool ((decide ((en : Int) > 0)) && (decide (mi < nthI el ((en - 1) * 3 + 0))))), (40, .pointer (some ⟨g3, 1, none⟩)), (41, .int .i64 st), (42, .bool (decide (st < 0))), (43, .slice A ss.length cap), (45, .slice EA en ec), (47, .pointer (some ⟨g3, 0, none⟩)), (48, .int .i64 mi), (49, .pointer (some ⟨g3, 2, none⟩)), (50, .int .i64 wa), (51, .agg #[.int .i64 mi, .int .i64 (-1), .int .i64 wa]), (54, .pointer (some ⟨g3, 0, none⟩)), (55, .int .i64 mi), (44, .slice (some ⟨g101, 0, none⟩) 0 0), (52, .slice (some ⟨g185, 0, none⟩) 1 1), (46, v191), (53, .slice A204 (en + 1) cap205), (56, .slice (some ⟨g208, 0, none⟩) ss.length cap209), (8, .slice (some ⟨g208, 0, none⟩) ss.length cap209), (9, .int .i64 (q : Int))] ∧ St w0 [⟨g185, 30, #[.int .i64 mi, .int .i64 (-1), .int .i64 wa], true⟩, ⟨g3, 30, #[.int .i64 mi, .int .i64 st, .int .i64 wa], true⟩] [⟨.slice (some ⟨g208, 0, none⟩) ss.length cap209, 4, 1, ss.length, (bX ss.length (vd ss (bkF ss (el ++ [mi, (-1), wa]) (en + 1)) mi))⟩] wc) _ ⟨0, rfl, Nat.zero_le _, fun j hj => absurd hj (Nat.not_lt_zero j), (A211.slot (A211.slot (A211.slot (A211.slot (A211.slot (A211.slot (A211.slot (A211.slot (A211.slot (A211.slot (A211.slot (A211.slot (A211.slot (A211.slot (A211.slot (A211.slot (A211.slot (A211.slot (A211.slot (A211.slot (A211.slot (A211.slot (A211.slot (A211.slot (A211.slot (A211.slot (A211.slot (A211.slot (A211.slot (A211.slot (A211.slot (A211.slot (A211.slot (A211.slot (A211.slot (A211.slot (A211.slot (A211.slot (A211.slot (A211.slot (A211.slot (A211.slot A211.nil (v := .int .i64 0) (by kernel_rfl) (congrArg (Value.int .i64) (by omega))) (v := .slice (some ⟨g208, 0, none⟩) ss.length cap209) (by kernel_rfl) rfl) (v := .slice (some ⟨g208, 0, none⟩) ss.length cap209) (by kernel_rfl) rfl) (v := .slice A204 (en + 1) cap205) (by kernel_rfl) rfl) (v := v191) (by kernel_rfl) rfl) (v := .slice (some ⟨g185, 0, none⟩) 1 1) (by kernel_rfl) rfl) (v := .slice (some ⟨g101, 0, none⟩) 0 0) (by kernel_rfl) rfl) (v := .int .i64 mi) (by kernel_rfl) rfl) (v := .pointer (some ⟨g3, 0, none⟩)) (by kernel_rfl) rfl) (v := .agg #[.int .i64 mi, .int .i64 (-1), .int .i64 wa]) (by kernel_rfl) rfl) (v := .int .i64 wa) (by kernel_rfl) rfl) (v := .pointer (some ⟨g3, 2, none⟩)) (by kernel_rfl) rfl) (v := .int .i64 mi) (by kernel_rfl) rfl) (v := .pointer (some ⟨g3, 0, none⟩)) (by kernel_rfl) rfl) (v := .slice EA en ec) (by kernel_rfl) rfl) (v := .slice A ss.length cap) (by kernel_rfl) rfl) (v := .bool (decide (st < 0))) (by kernel_rfl) rfl) (v := .int .i64 st) (by kernel_rfl) rfl) (v := .pointer (some ⟨g3, 1, none⟩)) (by kernel_rfl) rfl) (v := .bool ((decide ((en : Int) > 0)) && (decide (mi < nthI el ((en - 1) * 3 + 0))))) (by kernel_rfl) rfl) (v := .int .i64 (en : Int)) (by kernel_rfl) rfl) (v := .int .i64 (en : Int)) (by kernel_rfl) rfl) (v := .slice EA en ec) (by kernel_rfl) rfl) (v := .bool (!(inB wa (-2000) 2000))) (by kernel_rfl) rfl) (v := .bool (inB wa (-2000) 2000)) (by kernel_rfl) rfl) (v := .int .i64 wa) (by kernel_rfl) rfl) (v := .pointer (some ⟨g3, 2, none⟩)) (by kernel_rfl) rfl) (v := .bool (!(inB st (-1) ((ss.length : Int) - 1)))) (by kernel_rfl) rfl) (v := .bool (inB st (-1) ((ss.length : Int) - 1))) (by kernel_rfl) rfl) (v := .int .i64 ((ss.length : Int) - 1)) (by kernel_rfl) rfl) (v := .int .i64 (ss.length : Int)) (by kernel_rfl) rfl) (v := .slice A ss.length cap) (by kernel_rfl) rfl) (v := .int .i64 st) (by kernel_rfl) rfl) (v := .pointer (some ⟨g3, 1, none⟩)) (by kernel_rfl) rfl) (v := .bool (!(inB mi 0 100000000))) (by kernel_rfl) rfl) (v := .bool (inB mi 0 100000000)) (by kernel_rfl) rfl) (v := .int .i64 mi) (by kernel_rfl) rfl) (v := .pointer (some ⟨g3, 0, none⟩)) (by kernel_rfl) rfl) (v := .pointer (some ⟨g3, 0, none⟩)) (by kernel_rfl) rfl) (v := .agg #[.int .i64 mi, .int .i64 st, .int .i64 wa]) (by kernel_rfl) rfl) (v := .slice EA en ec) (by kernel_rfl) rfl) (v := .slice A ss.length cap) (by kernel_rfl) rfl), S200.sub sub_all (sub_keep sub_nil)⟩ ?_
                  rintro mm ac wc ⟨q, hm214, hq, hv, A212, S213⟩
                  refine wp_seq ?_
                  refine wp_seq ?_
                  refine wp_region_lit ?_
                  refine s_one (.int .i64 (q : Int)) A212 S213 (g_move (by kernel_rfl)) rfl (fun ac A215 => ?_)
                  refine s_one (.slice A ss.length cap) A215 S213 (g_move (by kernel_rfl)) rfl (fun ac A216 => ?_)
                  refine s_one (.pointer (some ⟨g3, 1, none⟩)) A216 S213 (g_field (u := .pointer (some ⟨g3, 0, none⟩)) (by kernel_rfl) (fun _ => by kernel_rfl)) rfl (fun ac A217 => ?_)
                  refine s_one (.int .i64 st) A217 S213 (g_load (g := g3) (off := 1) 1 (by kernel_rfl) rfl (by kernel_rfl)) rfl (fun ac A218 => ?_)
                  obtain ⟨ad219, B220, c221, he222, hs223⟩ := hr ((st).toNat) (by omega)
                  have hm224 := hs223.hm
                  have hm225 := hs223.hn
                  refine s_one (.pointer (some (ad219.add (((st).toNat) * 4)))) A218 S213 (g_index (u := .slice A ss.length cap) (k := .int .i64 st) (by kernel_rfl) (by kernel_rfl) (ix_xsB (e := 59) (size := 4) (bytes := 56) ((st).toNat) (by kernel_rfl) (by omega) (by omega) he222)) rfl (fun ac A226 => ?_)
                  refine s_one (.pointer (some (ad219.add (((st).toNat) * 4 + 3)))) A226 S213 (g_field (u := .pointer (some (ad219.add (((st).toNat) * 4)))) (by kernel_rfl) (fld_x (x := ((st).toNat) * 4) (o := 3) (by kernel_rfl))) rfl (fun ac A227 => ?_)
                  refine s_one (.slice B220 ((spK ss ((st).toNat)).ne.length) c221) A227 S213 (g_loadX (ad := ad219.add (((st).toNat) * 4 + 3)) (by kernel_rfl) (sp_cell (j := 3) hs223 rfl rfl) (by kernel_rfl)) rfl (fun ac A228 => ?_)
                  refine s_one (.int .i64 ((spK ss ((st).toNat)).ne.length : Int)) A228 S213 (g_built (r := [(0, .slice B220 ((spK ss ((st).toNat)).ne.length) c221)]) (by kernel_rfl) (fun _ _ _ => by kernel_rfl)) rfl (fun ac A229 => ?_)
                  refine s_one (.bool (decide ((q : Int) < ((spK ss ((st).toNat)).ne.length : Int)))) A229 S213 (g_bin (u := .int .i64 (q : Int)) (k := .int .i64 ((spK ss ((st).toNat)).ne.length : Int)) (by kernel_rfl) (by kernel_rfl) (fun _ => by kernel_rfl) (fun _ => by kernel_rfl)) rfl (fun ac A230 => ?_)
                  refine wpList_nil ?_
                  refine n_then ?_
                  refine c_ifb (b := (decide ((q : Int) < ((spK ss ((st).toNat)).ne.length : Int)))) A230 (by kernel_rfl) (fun h231 => ?_) (fun h231 => ?_)
                  · have p232 := of_decide_eq_true h231
                    refine wp_skip ?_
                    refine n_then ?_
                    refine wp_seq ?_
                    refine wp_block ?_
                    refine wp_seq ?_
                    have hnm := gs.ahead (st).toNat (by omega) _ (nthI_mem (show q < (spK ss (st).toNat).ne.length by omega))
                    refine wp_region_lit ?_
                    refine s_one (.slice (some ⟨g208, 0, none⟩) ss.length cap209) A230 S213 (g_move (by kernel_rfl)) rfl (fun ac A233 => ?_)
                    refine s_one (.slice A ss.length cap) A233 S213 (g_move (by kernel_rfl)) rfl (fun ac A234 => ?_)
                    refine s_one (.pointer (some ⟨g3, 1, none⟩)) A234 S213 (g_field (u := .pointer (some ⟨g3, 0, none⟩)) (by kernel_rfl) (fun _ => by kernel_rfl)) rfl (fun ac A235 => ?_)
                    refine s_one (.int .i64 st) A235 S213 (g_load (g := g3) (off := 1) 1 (by kernel_rfl) rfl (by kernel_rfl)) rfl (fun ac A236 => ?_)
                    obtain ⟨ad237, B238, c239, he240, hs241⟩ := hr ((st).toNat) (by omega)
                    have hm242 := hs241.hm
                    have hm243 := hs241.hn
                    refine s_one (.pointer (some (ad237.add (((st).toNat) * 4)))) A236 S213 (g_index (u := .slice A ss.length cap) (k := .int .i64 st) (by kernel_rfl) (by kernel_rfl) (ix_xsB (e := 59) (size := 4) (bytes := 56) ((st).toNat) (by kernel_rfl) (by omega) (by omega) he240)) rfl (fun ac A244 => ?_)
                    refine s_one (.pointer (some (ad237.add (((st).toNat) * 4 + 3)))) A244 S213 (g_field (u := .pointer (some (ad237.add (((st).toNat) * 4)))) (by kernel_rfl) (fld_x (x := ((st).toNat) * 4) (o := 3) (by kernel_rfl))) rfl (fun ac A245 => ?_)
                    refine s_one (.slice B238 ((spK ss ((st).toNat)).ne.length) c239) A245 S213 (g_loadX (ad := ad237.add (((st).toNat) * 4 + 3)) (by kernel_rfl) (sp_cell (j := 3) hs241 rfl rfl) (by kernel_rfl)) rfl (fun ac A246 => ?_)
                    refine s_one (.int .i64 (q : Int)) A246 S213 (g_move (by kernel_rfl)) rfl (fun ac A247 => ?_)
                    obtain ⟨ad248, rfl, _⟩ := hs241.rd (q) (by have hlen := (show (spK ss ((st).toNat)).ne.length = (spK ss ((st).toNat)).ne.length * 1 by omega); omega)
                    refine s_one (.pointer (some (ad248.add q))) A247 S213 (g_index (u := .slice (some ad248) ((spK ss ((st).toNat)).ne.length) c239) (k := .int .i64 (q : Int)) (by kernel_rfl) (by kernel_rfl) (ix_x (e := 3) (bytes := 8) q (by kernel_rfl) (by omega) (by omega))) rfl (fun ac A249 => ?_)
                    refine s_one (.int .i64 (nthI ((spK ss ((st).toNat)).ne) q)) A249 S213 (g_loadXI (l := (spK ss ((st).toNat)).ne) (k := q) (by kernel_rfl) hs241.rd (by have hlen := (show (spK ss ((st).toNat)).ne.length = (spK ss ((st).toNat)).ne.length * 1 by omega); omega) (by kernel_rfl)) rfl (fun ac A250 => ?_)
                    refine s_one (.pointer (some ((Addr.mk g208 0 none).add ((nthI ((spK ss ((st).toNat)).ne) q).toNat)))) A250 S213 (g_index (u := .slice (some ⟨g208, 0, none⟩) ss.length cap209) (k := .int .i64 (nthI ((spK ss ((st).toNat)).ne) q)) (by kernel_rfl) (by kernel_rfl) (ix_x (e := 4) (bytes := 1) ((nthI ((spK ss ((st).toNat)).ne) q).toNat) (by kernel_rfl) (by omega) (by omega))) rfl (fun ac A251 => ?_)
                    refine s_one (.bool (vd ss (bkF ss (el ++ [mi, (-1), wa]) (en + 1)) mi ((nthI ((spK ss ((st).toNat)).ne) q).toNat))) A251 S213 (g_loadR1 (ad := ⟨g208, 0, none⟩) (off := ((nthI ((spK ss ((st).toNat)).ne) q).toNat)) (v := .bool (vd ss (bkF ss (el ++ [mi, (-1), wa]) (en + 1)) mi ((nthI ((spK ss ((st).toNat)).ne) q).toNat))) 0 (by kernel_rfl) rfl (bX_getE (by omega) rfl) (by kernel_rfl)) rfl (fun ac A252 => ?_)
                    refine s_one (.bool (!(vd ss (bkF ss (el ++ [mi, (-1), wa]) (en + 1)) mi ((nthI ((spK ss ((st).toNat)).ne) q).toNat)))) A252 S213 (g_un (u := .bool (vd ss (bkF ss (el ++ [mi, (-1), wa]) (en + 1)) mi ((nthI ((spK ss ((st).toNat)).ne) q).toNat))) (by kernel_rfl) (fun _ => by kernel_rfl)) rfl (fun ac A253 => ?_)
                    refine wpList_nil ?_
                    refine n_then ?_
                    refine c_ifb (b := (!(vd ss (bkF ss (el ++ [mi, (-1), wa]) (en + 1)) mi ((nthI ((spK ss ((st).toNat)).ne) q).toNat)))) A253 (by kernel_rfl) (fun h254 => ?_) (fun h254 => ?_)
                    · have h255 : vd ss (bkF ss (el ++ [mi, (-1), wa]) (en + 1)) mi ((nthI ((spK ss ((st).toNat)).ne) q).toNat) = false := by simpa using h254
                      refine wp_seq ?_
                      refine wp_region_lit ?_
                      refine s_one (.int .i64 20) A253 S213 (g_assign (by kernel_rfl)) rfl (fun ac A256 => ?_)
                      refine wpList_nil ?_
                      refine n_then ?_
                      refine wp_ret ?_
                      refine r_block ?_
                      refine r_then ?_
                      refine r_then ?_
                      refine r_block ?_
                      refine r_then ?_
                      refine fin1 (.int .i64 20) Try.results16 A256 S213 (rv_tmp (by kernel_rfl)) ⟨⟨20, fun h => absurd (show (20 : Int) = 0 from h) (by decide)⟩, rfl, S213.sub sub_nil sub_nil⟩
                    · have h257 : vd ss (bkF ss (el ++ [mi, (-1), wa]) (en + 1)) mi ((nthI ((spK ss ((st).toNat)).ne) q).toNat) = true := by simpa using h254
                      refine wp_skip ?_
                      refine n_block ?_
                      refine n_then ?_
                      refine wp_region_lit ?_
                      refine s_one (.int .i64 (q : Int)) A253 S213 (g_move (by kernel_rfl)) rfl (fun ac A258 => ?_)
                      refine s_one (.int .i64 ((q : Int) + 1)) A258 S213 (g_bin (u := .int .i64 (q : Int)) (k := .int .i64 1) (by kernel_rfl) (by kernel_rfl) (fun _ => by kernel_rfl) (b_add (by omega))) rfl (fun ac A259 => ?_)
                      refine s_one (.int .i64 ((q : Int) + 1)) A259 S213 (g_assign (by kernel_rfl)) rfl (fun ac A260 => ?_)
                      refine wpList_nil ?_
                      refine n_then ?_
                      refine ⟨_, ⟨q + 1, rfl, by omega, lt_snoc hv (nb_t h254), (A260.slot (A260.slot (A260.slot (A260.slot (A260.slot (A260.slot (A260.slot (A260.slot (A260.slot (A260.slot (A260.slot (A260.slot (A260.slot (A260.slot (A260.slot (A260.slot (A260.slot (A260.slot (A260.slot (A260.slot (A260.slot (A260.slot (A260.slot (A260.slot (A260.slot (A260.slot (A260.slot (A260.slot (A260.slot (A260.slot (A260.slot (A260.slot (A260.slot (A260.slot (A260.slot (A260.slot (A260.slot (A260.slot (A260.slot (A260.slot (A260.slot (A260.slot A260.nil (v := .int .i64 ((q : Int) + 1)) (by kernel_rfl) (congrArg (Value.int .i64) (by omega))) (v := .slice (some ⟨g208, 0, none⟩) ss.length cap209) (by kernel_rfl) rfl) (v := .slice (some ⟨g208, 0, none⟩) ss.length cap209) (by kernel_rfl) rfl) (v := .slice A204 (en + 1) cap205) (by kernel_rfl) rfl) (v := v191) (by kernel_rfl) rfl) (v := .slice (some ⟨g185, 0, none⟩) 1 1) (by kernel_rfl) rfl) (v := .slice (some ⟨g101, 0, none⟩) 0 0) (by kernel_rfl) rfl) (v := .int .i64 mi) (by kernel_rfl) rfl) (v := .pointer (some ⟨g3, 0, none⟩)) (by kernel_rfl) rfl) (v := .agg #[.int .i64 mi, .int .i64 (-1), .int .i64 wa]) (by kernel_rfl) rfl) (v := .int .i64 wa) (by kernel_rfl) rfl) (v := .pointer (some ⟨g3, 2, none⟩)) (by kernel_rfl) rfl) (v := .int .i64 mi) (by kernel_rfl) rfl) (v := .pointer (some ⟨g3, 0, none⟩)) (by kernel_rfl) rfl) (v := .slice EA en ec) (by kernel_rfl) rfl) (v := .slice A ss.length cap) (by kernel_rfl) rfl) (v := .bool (decide (st < 0))) (by kernel_rfl) rfl) (v := .int .i64 st) (by kernel_rfl) rfl) (v := .pointer (some ⟨g3, 1, none⟩)) (by kernel_rfl) rfl) (v := .bool ((decide ((en : Int) > 0)) && (decide (mi < nthI el ((en - 1) * 3 + 0))))) (by kernel_rfl) rfl) (v := .int .i64 (en : Int)) (by kernel_rfl) rfl) (v := .int .i64 (en : Int)) (by kernel_rfl) rfl) (v := .slice EA en ec) (by kernel_rfl) rfl) (v := .bool (!(inB wa (-2000) 2000))) (by kernel_rfl) rfl) (v := .bool (inB wa (-2000) 2000)) (by kernel_rfl) rfl) (v := .int .i64 wa) (by kernel_rfl) rfl) (v := .pointer (some ⟨g3, 2, none⟩)) (by kernel_rfl) rfl) (v := .bool (!(inB st (-1) ((ss.length : Int) - 1)))) (by kernel_rfl) rfl) (v := .bool (inB st (-1) ((ss.length : Int) - 1))) (by kernel_rfl) rfl) (v := .int .i64 ((ss.length : Int) - 1)) (by kernel_rfl) rfl) (v := .int .i64 (ss.length : Int)) (by kernel_rfl) rfl) (v := .slice A ss.length cap) (by kernel_rfl) rfl) (v := .int .i64 st) (by kernel_rfl) rfl) (v := .pointer (some ⟨g3, 1, none⟩)) (by kernel_rfl) rfl) (v := .bool (!(inB mi 0 100000000))) (by kernel_rfl) rfl) (v := .bool (inB mi 0 100000000)) (by kernel_rfl) rfl) (v := .int .i64 mi) (by kernel_rfl) rfl) (v := .pointer (some ⟨g3, 0, none⟩)) (by kernel_rfl) rfl) (v := .pointer (some ⟨g3, 0, none⟩)) (by kernel_rfl) rfl) (v := .agg #[.int .i64 mi, .int .i64 st, .int .i64 wa]) (by kernel_rfl) rfl) (v := .slice EA en ec) (by kernel_rfl) rfl) (v := .slice A ss.length cap) (by kernel_rfl) rfl), S213.sub sub_all sub_all⟩, ?_⟩
                      omega
                  · have p261 := of_decide_eq_false h231
                    refine wp_exit ?_
                    refine x_then ?_
                    refine x_then ?_
                    refine x_hit ?_
                    refine n_then ?_
                    refine wp_seq ?_
                    refine wp_region_lit ?_
                    refine s_one (.int .i64 0) A230 S213 (g_assign (by kernel_rfl)) rfl (fun ac A262 => ?_)
                    refine wpList_nil ?_
                    refine n_then ?_
                    refine wp_ret ?_
                    refine fin1 (.int .i64 0) Try.results16 A262 S213 (rv_tmp (by kernel_rfl)) ⟨⟨0, fun _ => goodE_of hel hmi hst hwa h74 (fun _ j hj => hv j (by omega))⟩, rfl, S213.sub sub_nil sub_nil⟩
              · refine rs_bs (e := 30) (r := [(0, .agg #[.int .i64 mi, .int .i64 (-1), .int .i64 wa])]) (#[.int .i64 mi, .int .i64 (-1), .int .i64 wa]) A98 S89 sub_all sub_all (by kernel_rfl) (by kernel_rfl) rfl rfl rfl (fun g265 ac wc A263 S264 => ?_)
                have T266 := S264.sub (sub_skip sub_all) sub_all
                refine r_1 (i := 1) (by kernel_rfl) ?_
                refine rs_bs (e := 30) (r := []) (#[]) A263 S264 (sub_skip sub_all) sub_all (by kernel_rfl) (by kernel_rfl) rfl rfl rfl (fun g269 ac wc A267 S268 => ?_)
                have T270 := S268.sub (sub_skip (sub_skip sub_all)) sub_all
                refine r_1 (i := 3) (by kernel_rfl) ?_
                have S271 : St w0 [⟨g265, 30, #[.int .i64 mi, .int .i64 (-1), .int .i64 wa], true⟩, ⟨g3, 30, #[.int .i64 mi, .int .i64 st, .int .i64 wa], true⟩] [⟨.slice (some ⟨g269, 0, none⟩) 0 0, 30, 3, 0, []⟩] _ := St.toRow S268 0 rfl rfl (by decide)
                refine rs_appendX (e := 30) (size := 3) (bytes := 24) (v := .slice (some ⟨g269, 0, none⟩) 0 0) (m' := en) (c := ec) (l := el) 0 A267 S271 (sub_skip sub_all) (fun _ => sub_nil) (by kernel_rfl) (by kernel_rfl) (by kernel_rfl) rfl (hre.kept S271.kp) (by have hlen := hel; omega) (by omega) (by omega) rfl rfl rfl (fun v275 ac wc A272 S273 => ?_)
                have S276 : St w0 [⟨g265, 30, #[.int .i64 mi, .int .i64 (-1), .int .i64 wa], true⟩, ⟨g3, 30, #[.int .i64 mi, .int .i64 st, .int .i64 wa], true⟩] [⟨v275, 30, 3, en, (rowI el)⟩] _ := St.rerow 0 S273 rfl ⟨Nat.zero_add _, List.nil_append _⟩
                have T274 := S276.sub (sub_skip sub_all) sub_nil
                refine r_1 (i := 10) (by kernel_rfl) ?_
                refine rs_append (e := 30) (size := 3) (bytes := 24) (v := v275) (g := g265) (m' := 1) (c := 1) 0 0 [.int .i64 mi, .int .i64 (-1), .int .i64 wa] A272 S276 (sub_skip sub_all) (fun _ => sub_nil) (by kernel_rfl) (by kernel_rfl) (by kernel_rfl) rfl rfl (by kernel_rfl) rfl (by kernel_rfl) (by omega) (by omega) rfl rfl rfl (fun v281 ac wc A277 S278 => ?_)
                have T280 := S278.sub (sub_skip sub_all) sub_nil
                have S282 : St w0 [⟨g265, 30, #[.int .i64 mi, .int .i64 (-1), .int .i64 wa], true⟩, ⟨g3, 30, #[.int .i64 mi, .int .i64 st, .int .i64 wa], true⟩] [⟨v281, 30, 3, (en + 1), (rowI (el ++ [mi, (-1), wa]))⟩] _ := St.rerow 0 S278 rfl ⟨rfl, rowI_3 _ _ _ _⟩
                refine r_1 (i := 13) (by kernel_rfl) ?_
                obtain ⟨hl287, A288, cap289, rfl, hr290⟩ := rowI_reads2 (v := v281) (size := 3) (m := en + 1) (l := el ++ [mi, (-1), wa]) (S282.row 0 rfl)
                refine rs_callR (fs := #[]) (cp := #[]) (r := [(0, .slice A ss.length cap), (0, .slice A288 (en + 1) cap289), (0, .int .i64 mi)]) #[.slice A ss.length cap, .slice A288 (en + 1) cap289, .int .i64 mi] A277 S282 (sub_skip sub_all) sub_nil (RValidAt_s A cap ss A288 (en + 1) cap289 (el ++ [mi, (-1), wa]) mi _ (hr.kept S282.kp) (row_ir (S282.row 0 rfl)) hl287 (by omega) (ev_bd hel ge hmi hwa) gs) Try.call29 rfl rfl (by kernel_rfl) (by kernel_rfl) (by kernel_rfl) rfl (fun v291 ac wc A283 S284 => ?_)
                obtain ⟨g292, cap293, rfl⟩ := row_some (v := v291) (m := ss.length) (S284.row 0 rfl) (by omega)
                have T286 := S284.sub (sub_skip sub_all) sub_nil
                refine r_take 14 (.slice (some ⟨g292, 0, none⟩) ss.length cap293) A283 T286 (g_assign (by kernel_rfl)) rfl rfl rfl (pf_then pf_body) (by kernel_rfl) (fun ac A294 => ?_)
                refine r_done (by kernel_rfl) ?_
                refine n_then ?_
                refine wp_seq ?_
                refine wp_seq ?_
                refine wp_region_lit ?_
                refine s_one (.int .i64 0) A294 S284 (g_assign (by kernel_rfl)) rfl (fun ac A295 => ?_)
                refine wpList_nil ?_
                refine n_then ?_
                refine wp_block ?_
                refine c_loopN (fun mm ac wc => ∃ (q : Nat), mm = (spK ss (st).toNat).ne.length - q ∧ (q ≤ (spK ss (st).toNat).ne.length) ∧ (∀ j, j < q → vd ss (bkF ss (el ++ [mi, -1, wa]) (en + 1)) mi (nthI (spK ss (st).toNat).ne j).toNat = true) ∧ Fr 81 ac [(0, .slice A ss.length cap), (1, .slice EA en ec), (2, .agg #[.int .i64 mi, .int .i64 st, .int .i64 wa]), (5, .pointer (some ⟨g3, 0, none⟩)), (10, .pointer (some ⟨g3, 0, none⟩)), (11, .int .i64 mi), (12, .bool (inB mi 0 100000000)), (13, .bool (!(inB mi 0 100000000))), (14, .pointer (some ⟨g3, 1, none⟩)), (15, .int .i64 st), (16, .slice A ss.length cap), (17, .int .i64 (ss.length : Int)), (18, .int .i64 ((ss.length : Int) - 1)), (19, .bool (inB st (-1) ((ss.length : Int) - 1))), (20, .bool (!(inB st (-1) ((ss.length : Int) - 1)))), (21, .pointer (some ⟨g3, 2, none⟩)), (22, .int .i64 wa), (23, .bool (inB wa (-2000) 2000)), (24, .bool (!(inB wa (-2000) 2000))), (25, .slice EA en ec), (26, .int .i64 (en : Int)), (7, .int .i64 (en : Int)), (39, .bool ((decide ((en : Int) > 0)) && (decide (mi < nthI el ((en - 1) * 3 + 0))))), (40, .pointer (some ⟨g3, 1, none⟩)), (41, .int .i64 st), (42, .bool (decide (st < 0))), (43, .slice A ss.length cap), (45, .slice EA en ec), (47, .pointer (some ⟨g3, 0, none⟩)), (48, .int .i64 mi), (49, .pointer (some ⟨g3, 2, none⟩)), (50, .int .i64 wa), (51, .agg #[.int .i64 mi, .int .i64 (-1), .int .i64 wa]), (54, .pointer (some ⟨g3, 0, none⟩)), (55, .int .i64 mi), (52, .slice (some ⟨g265, 0, none⟩) 1 1), (44, .slice (some ⟨g269, 0, none⟩) 0 0), (46, v275), (53, .slice A288 (en + 1) cap289), (56, .slice (some ⟨g292, 0, none⟩) ss.length cap293), (8, .slice (some ⟨g292, 0, none⟩) ss.length cap293), (9, .int .i64 (q : Int))] ∧ St w0 [⟨g265, 30, #[.int .i64 mi, .int .i64 (-1), .int .i64 wa], true⟩, ⟨g3, 30, #[.int .i64 mi, .int .i64 st, .int .i64 wa], true⟩] [⟨.slice (some ⟨g292, 0, none⟩) ss.length cap293, 4, 1, ss.length, (bX ss.length (vd ss (bkF ss (el ++ [mi, (-1), wa]) (en + 1)) mi))⟩] wc) _ ⟨0, rfl, Nat.zero_le _, fun j hj => absurd hj (Nat.not_lt_zero j), (A295.slot (A295.slot (A295.slot (A295.slot (A295.slot (A295.slot (A295.slot (A295.slot (A295.slot (A295.slot (A295.slot (A295.slot (A295.slot (A295.slot (A295.slot (A295.slot (A295.slot (A295.slot (A295.slot (A295.slot (A295.slot (A295.slot (A295.slot (A295.slot (A295.slot (A295.slot (A295.slot (A295.slot (A295.slot (A295.slot (A295.slot (A295.slot (A295.slot (A295.slot (A295.slot (A295.slot (A295.slot (A295.slot (A295.slot (A295.slot (A295.slot (A295.slot A295.nil (v := .int .i64 0) (by kernel_rfl) (congrArg (Value.int .i64) (by omega))) (v := .slice (some ⟨g292, 0, none⟩) ss.length cap293) (by kernel_rfl) rfl) (v := .slice (some ⟨g292, 0, none⟩) ss.length cap293) (by kernel_rfl) rfl) (v := .slice A288 (en + 1) cap289) (by kernel_rfl) rfl) (v := v275) (by kernel_rfl) rfl) (v := .slice (some ⟨g269, 0, none⟩) 0 0) (by kernel_rfl) rfl) (v := .slice (some ⟨g265, 0, none⟩) 1 1) (by kernel_rfl) rfl) (v := .int .i64 mi) (by kernel_rfl) rfl) (v := .pointer (some ⟨g3, 0, none⟩)) (by kernel_rfl) rfl) (v := .agg #[.int .i64 mi, .int .i64 (-1), .int .i64 wa]) (by kernel_rfl) rfl) (v := .int .i64 wa) (by kernel_rfl) rfl) (v := .pointer (some ⟨g3, 2, none⟩)) (by kernel_rfl) rfl) (v := .int .i64 mi) (by kernel_rfl) rfl) (v := .pointer (some ⟨g3, 0, none⟩)) (by kernel_rfl) rfl) (v := .slice EA en ec) (by kernel_rfl) rfl) (v := .slice A ss.length cap) (by kernel_rfl) rfl) (v := .bool (decide (st < 0))) (by kernel_rfl) rfl) (v := .int .i64 st) (by kernel_rfl) rfl) (v := .pointer (some ⟨g3, 1, none⟩)) (by kernel_rfl) rfl) (v := .bool ((decide ((en : Int) > 0)) && (decide (mi < nthI el ((en - 1) * 3 + 0))))) (by kernel_rfl) rfl) (v := .int .i64 (en : Int)) (by kernel_rfl) rfl) (v := .int .i64 (en : Int)) (by kernel_rfl) rfl) (v := .slice EA en ec) (by kernel_rfl) rfl) (v := .bool (!(inB wa (-2000) 2000))) (by kernel_rfl) rfl) (v := .bool (inB wa (-2000) 2000)) (by kernel_rfl) rfl) (v := .int .i64 wa) (by kernel_rfl) rfl) (v := .pointer (some ⟨g3, 2, none⟩)) (by kernel_rfl) rfl) (v := .bool (!(inB st (-1) ((ss.length : Int) - 1)))) (by kernel_rfl) rfl) (v := .bool (inB st (-1) ((ss.length : Int) - 1))) (by kernel_rfl) rfl) (v := .int .i64 ((ss.length : Int) - 1)) (by kernel_rfl) rfl) (v := .int .i64 (ss.length : Int)) (by kernel_rfl) rfl) (v := .slice A ss.length cap) (by kernel_rfl) rfl) (v := .int .i64 st) (by kernel_rfl) rfl) (v := .pointer (some ⟨g3, 1, none⟩)) (by kernel_rfl) rfl) (v := .bool (!(inB mi 0 100000000))) (by kernel_rfl) rfl) (v := .bool (inB mi 0 100000000)) (by kernel_rfl) rfl) (v := .int .i64 mi) (by kernel_rfl) rfl) (v := .pointer (some ⟨g3, 0, none⟩)) (by kernel_rfl) rfl) (v := .pointer (some ⟨g3, 0, none⟩)) (by kernel_rfl) rfl) (v := .agg #[.int .i64 mi, .int .i64 st, .int .i64 wa]) (by kernel_rfl) rfl) (v := .slice EA en ec) (by kernel_rfl) rfl) (v := .slice A ss.length cap) (by kernel_rfl) rfl), S284.sub sub_all (sub_keep sub_nil)⟩ ?_
                rintro mm ac wc ⟨q, hm298, hq, hv, A296, S297⟩
                refine wp_seq ?_
                refine wp_seq ?_
                refine wp_region_lit ?_
                refine s_one (.int .i64 (q : Int)) A296 S297 (g_move (by kernel_rfl)) rfl (fun ac A299 => ?_)
                refine s_one (.slice A ss.length cap) A299 S297 (g_move (by kernel_rfl)) rfl (fun ac A300 => ?_)
                refine s_one (.pointer (some ⟨g3, 1, none⟩)) A300 S297 (g_field (u := .pointer (some ⟨g3, 0, none⟩)) (by kernel_rfl) (fun _ => by kernel_rfl)) rfl (fun ac A301 => ?_)
                refine s_one (.int .i64 st) A301 S297 (g_load (g := g3) (off := 1) 1 (by kernel_rfl) rfl (by kernel_rfl)) rfl (fun ac A302 => ?_)
                obtain ⟨ad303, B304, c305, he306, hs307⟩ := hr ((st).toNat) (by omega)
                have hm308 := hs307.hm
                have hm309 := hs307.hn
                refine s_one (.pointer (some (ad303.add (((st).toNat) * 4)))) A302 S297 (g_index (u := .slice A ss.length cap) (k := .int .i64 st) (by kernel_rfl) (by kernel_rfl) (ix_xsB (e := 59) (size := 4) (bytes := 56) ((st).toNat) (by kernel_rfl) (by omega) (by omega) he306)) rfl (fun ac A310 => ?_)
                refine s_one (.pointer (some (ad303.add (((st).toNat) * 4 + 3)))) A310 S297 (g_field (u := .pointer (some (ad303.add (((st).toNat) * 4)))) (by kernel_rfl) (fld_x (x := ((st).toNat) * 4) (o := 3) (by kernel_rfl))) rfl (fun ac A311 => ?_)
                refine s_one (.slice B304 ((spK ss ((st).toNat)).ne.length) c305) A311 S297 (g_loadX (ad := ad303.add (((st).toNat) * 4 + 3)) (by kernel_rfl) (sp_cell (j := 3) hs307 rfl rfl) (by kernel_rfl)) rfl (fun ac A312 => ?_)
                refine s_one (.int .i64 ((spK ss ((st).toNat)).ne.length : Int)) A312 S297 (g_built (r := [(0, .slice B304 ((spK ss ((st).toNat)).ne.length) c305)]) (by kernel_rfl) (fun _ _ _ => by kernel_rfl)) rfl (fun ac A313 => ?_)
                refine s_one (.bool (decide ((q : Int) < ((spK ss ((st).toNat)).ne.length : Int)))) A313 S297 (g_bin (u := .int .i64 (q : Int)) (k := .int .i64 ((spK ss ((st).toNat)).ne.length : Int)) (by kernel_rfl) (by kernel_rfl) (fun _ => by kernel_rfl) (fun _ => by kernel_rfl)) rfl (fun ac A314 => ?_)
                refine wpList_nil ?_
                refine n_then ?_
                refine c_ifb (b := (decide ((q : Int) < ((spK ss ((st).toNat)).ne.length : Int)))) A314 (by kernel_rfl) (fun h315 => ?_) (fun h315 => ?_)
                · have p316 := of_decide_eq_true h315
                  refine wp_skip ?_
                  refine n_then ?_
                  refine wp_seq ?_
                  refine wp_block ?_
                  refine wp_seq ?_
                  have hnm := gs.ahead (st).toNat (by omega) _ (nthI_mem (show q < (spK ss (st).toNat).ne.length by omega))
                  refine wp_region_lit ?_
                  refine s_one (.slice (some ⟨g292, 0, none⟩) ss.length cap293) A314 S297 (g_move (by kernel_rfl)) rfl (fun ac A317 => ?_)
                  refine s_one (.slice A ss.length cap) A317 S297 (g_move (by kernel_rfl)) rfl (fun ac A318 => ?_)
                  refine s_one (.pointer (some ⟨g3, 1, none⟩)) A318 S297 (g_field (u := .pointer (some ⟨g3, 0, none⟩)) (by kernel_rfl) (fun _ => by kernel_rfl)) rfl (fun ac A319 => ?_)
                  refine s_one (.int .i64 st) A319 S297 (g_load (g := g3) (off := 1) 1 (by kernel_rfl) rfl (by kernel_rfl)) rfl (fun ac A320 => ?_)
                  obtain ⟨ad321, B322, c323, he324, hs325⟩ := hr ((st).toNat) (by omega)
                  have hm326 := hs325.hm
                  have hm327 := hs325.hn
                  refine s_one (.pointer (some (ad321.add (((st).toNat) * 4)))) A320 S297 (g_index (u := .slice A ss.length cap) (k := .int .i64 st) (by kernel_rfl) (by kernel_rfl) (ix_xsB (e := 59) (size := 4) (bytes := 56) ((st).toNat) (by kernel_rfl) (by omega) (by omega) he324)) rfl (fun ac A328 => ?_)
                  refine s_one (.pointer (some (ad321.add (((st).toNat) * 4 + 3)))) A328 S297 (g_field (u := .pointer (some (ad321.add (((st).toNat) * 4)))) (by kernel_rfl) (fld_x (x := ((st).toNat) * 4) (o := 3) (by kernel_rfl))) rfl (fun ac A329 => ?_)
                  refine s_one (.slice B322 ((spK ss ((st).toNat)).ne.length) c323) A329 S297 (g_loadX (ad := ad321.add (((st).toNat) * 4 + 3)) (by kernel_rfl) (sp_cell (j := 3) hs325 rfl rfl) (by kernel_rfl)) rfl (fun ac A330 => ?_)
                  refine s_one (.int .i64 (q : Int)) A330 S297 (g_move (by kernel_rfl)) rfl (fun ac A331 => ?_)
                  obtain ⟨ad332, rfl, _⟩ := hs325.rd (q) (by have hlen := (show (spK ss ((st).toNat)).ne.length = (spK ss ((st).toNat)).ne.length * 1 by omega); omega)
                  refine s_one (.pointer (some (ad332.add q))) A331 S297 (g_index (u := .slice (some ad332) ((spK ss ((st).toNat)).ne.length) c323) (k := .int .i64 (q : Int)) (by kernel_rfl) (by kernel_rfl) (ix_x (e := 3) (bytes := 8) q (by kernel_rfl) (by omega) (by omega))) rfl (fun ac A333 => ?_)
                  refine s_one (.int .i64 (nthI ((spK ss ((st).toNat)).ne) q)) A333 S297 (g_loadXI (l := (spK ss ((st).toNat)).ne) (k := q) (by kernel_rfl) hs325.rd (by have hlen := (show (spK ss ((st).toNat)).ne.length = (spK ss ((st).toNat)).ne.length * 1 by omega); omega) (by kernel_rfl)) rfl (fun ac A334 => ?_)
                  refine s_one (.pointer (some ((Addr.mk g292 0 none).add ((nthI ((spK ss ((st).toNat)).ne) q).toNat)))) A334 S297 (g_index (u := .slice (some ⟨g292, 0, none⟩) ss.length cap293) (k := .int .i64 (nthI ((spK ss ((st).toNat)).ne) q)) (by kernel_rfl) (by kernel_rfl) (ix_x (e := 4) (bytes := 1) ((nthI ((spK ss ((st).toNat)).ne) q).toNat) (by kernel_rfl) (by omega) (by omega))) rfl (fun ac A335 => ?_)
                  refine s_one (.bool (vd ss (bkF ss (el ++ [mi, (-1), wa]) (en + 1)) mi ((nthI ((spK ss ((st).toNat)).ne) q).toNat))) A335 S297 (g_loadR1 (ad := ⟨g292, 0, none⟩) (off := ((nthI ((spK ss ((st).toNat)).ne) q).toNat)) (v := .bool (vd ss (bkF ss (el ++ [mi, (-1), wa]) (en + 1)) mi ((nthI ((spK ss ((st).toNat)).ne) q).toNat))) 0 (by kernel_rfl) rfl (bX_getE (by omega) rfl) (by kernel_rfl)) rfl (fun ac A336 => ?_)
                  refine s_one (.bool (!(vd ss (bkF ss (el ++ [mi, (-1), wa]) (en + 1)) mi ((nthI ((spK ss ((st).toNat)).ne) q).toNat)))) A336 S297 (g_un (u := .bool (vd ss (bkF ss (el ++ [mi, (-1), wa]) (en + 1)) mi ((nthI ((spK ss ((st).toNat)).ne) q).toNat))) (by kernel_rfl) (fun _ => by kernel_rfl)) rfl (fun ac A337 => ?_)
                  refine wpList_nil ?_
                  refine n_then ?_
                  refine c_ifb (b := (!(vd ss (bkF ss (el ++ [mi, (-1), wa]) (en + 1)) mi ((nthI ((spK ss ((st).toNat)).ne) q).toNat)))) A337 (by kernel_rfl) (fun h338 => ?_) (fun h338 => ?_)
                  · have h339 : vd ss (bkF ss (el ++ [mi, (-1), wa]) (en + 1)) mi ((nthI ((spK ss ((st).toNat)).ne) q).toNat) = false := by simpa using h338
                    refine wp_seq ?_
                    refine wp_region_lit ?_
                    refine s_one (.int .i64 20) A337 S297 (g_assign (by kernel_rfl)) rfl (fun ac A340 => ?_)
                    refine wpList_nil ?_
                    refine n_then ?_
                    refine wp_ret ?_
                    refine r_block ?_
                    refine r_then ?_
                    refine r_then ?_
                    refine r_block ?_
                    refine r_then ?_
                    refine fin1 (.int .i64 20) Try.results16 A340 S297 (rv_tmp (by kernel_rfl)) ⟨⟨20, fun h => absurd (show (20 : Int) = 0 from h) (by decide)⟩, rfl, S297.sub sub_nil sub_nil⟩
                  · have h341 : vd ss (bkF ss (el ++ [mi, (-1), wa]) (en + 1)) mi ((nthI ((spK ss ((st).toNat)).ne) q).toNat) = true := by simpa using h338
                    refine wp_skip ?_
                    refine n_block ?_
                    refine n_then ?_
                    refine wp_region_lit ?_
                    refine s_one (.int .i64 (q : Int)) A337 S297 (g_move (by kernel_rfl)) rfl (fun ac A342 => ?_)
                    refine s_one (.int .i64 ((q : Int) + 1)) A342 S297 (g_bin (u := .int .i64 (q : Int)) (k := .int .i64 1) (by kernel_rfl) (by kernel_rfl) (fun _ => by kernel_rfl) (b_add (by omega))) rfl (fun ac A343 => ?_)
                    refine s_one (.int .i64 ((q : Int) + 1)) A343 S297 (g_assign (by kernel_rfl)) rfl (fun ac A344 => ?_)
                    refine wpList_nil ?_
                    refine n_then ?_
                    refine ⟨_, ⟨q + 1, rfl, by omega, lt_snoc hv (nb_t h338), (A344.slot (A344.slot (A344.slot (A344.slot (A344.slot (A344.slot (A344.slot (A344.slot (A344.slot (A344.slot (A344.slot (A344.slot (A344.slot (A344.slot (A344.slot (A344.slot (A344.slot (A344.slot (A344.slot (A344.slot (A344.slot (A344.slot (A344.slot (A344.slot (A344.slot (A344.slot (A344.slot (A344.slot (A344.slot (A344.slot (A344.slot (A344.slot (A344.slot (A344.slot (A344.slot (A344.slot (A344.slot (A344.slot (A344.slot (A344.slot (A344.slot (A344.slot A344.nil (v := .int .i64 ((q : Int) + 1)) (by kernel_rfl) (congrArg (Value.int .i64) (by omega))) (v := .slice (some ⟨g292, 0, none⟩) ss.length cap293) (by kernel_rfl) rfl) (v := .slice (some ⟨g292, 0, none⟩) ss.length cap293) (by kernel_rfl) rfl) (v := .slice A288 (en + 1) cap289) (by kernel_rfl) rfl) (v := v275) (by kernel_rfl) rfl) (v := .slice (some ⟨g269, 0, none⟩) 0 0) (by kernel_rfl) rfl) (v := .slice (some ⟨g265, 0, none⟩) 1 1) (by kernel_rfl) rfl) (v := .int .i64 mi) (by kernel_rfl) rfl) (v := .pointer (some ⟨g3, 0, none⟩)) (by kernel_rfl) rfl) (v := .agg #[.int .i64 mi, .int .i64 (-1), .int .i64 wa]) (by kernel_rfl) rfl) (v := .int .i64 wa) (by kernel_rfl) rfl) (v := .pointer (some ⟨g3, 2, none⟩)) (by kernel_rfl) rfl) (v := .int .i64 mi) (by kernel_rfl) rfl) (v := .pointer (some ⟨g3, 0, none⟩)) (by kernel_rfl) rfl) (v := .slice EA en ec) (by kernel_rfl) rfl) (v := .slice A ss.length cap) (by kernel_rfl) rfl) (v := .bool (decide (st < 0))) (by kernel_rfl) rfl) (v := .int .i64 st) (by kernel_rfl) rfl) (v := .pointer (some ⟨g3, 1, none⟩)) (by kernel_rfl) rfl) (v := .bool ((decide ((en : Int) > 0)) && (decide (mi < nthI el ((en - 1) * 3 + 0))))) (by kernel_rfl) rfl) (v := .int .i64 (en : Int)) (by kernel_rfl) rfl) (v := .int .i64 (en : Int)) (by kernel_rfl) rfl) (v := .slice EA en ec) (by kernel_rfl) rfl) (v := .bool (!(inB wa (-2000) 2000))) (by kernel_rfl) rfl) (v := .bool (inB wa (-2000) 2000)) (by kernel_rfl) rfl) (v := .int .i64 wa) (by kernel_rfl) rfl) (v := .pointer (some ⟨g3, 2, none⟩)) (by kernel_rfl) rfl) (v := .bool (!(inB st (-1) ((ss.length : Int) - 1)))) (by kernel_rfl) rfl) (v := .bool (inB st (-1) ((ss.length : Int) - 1))) (by kernel_rfl) rfl) (v := .int .i64 ((ss.length : Int) - 1)) (by kernel_rfl) rfl) (v := .int .i64 (ss.length : Int)) (by kernel_rfl) rfl) (v := .slice A ss.length cap) (by kernel_rfl) rfl) (v := .int .i64 st) (by kernel_rfl) rfl) (v := .pointer (some ⟨g3, 1, none⟩)) (by kernel_rfl) rfl) (v := .bool (!(inB mi 0 100000000))) (by kernel_rfl) rfl) (v := .bool (inB mi 0 100000000)) (by kernel_rfl) rfl) (v := .int .i64 mi) (by kernel_rfl) rfl) (v := .pointer (some ⟨g3, 0, none⟩)) (by kernel_rfl) rfl) (v := .pointer (some ⟨g3, 0, none⟩)) (by kernel_rfl) rfl) (v := .agg #[.int .i64 mi, .int .i64 st, .int .i64 wa]) (by kernel_rfl) rfl) (v := .slice EA en ec) (by kernel_rfl) rfl) (v := .slice A ss.length cap) (by kernel_rfl) rfl), S297.sub sub_all sub_all⟩, ?_⟩
                    omega
                · have p345 := of_decide_eq_false h315
                  refine wp_exit ?_
                  refine x_then ?_
                  refine x_then ?_
                  refine x_hit ?_
                  refine n_then ?_
                  refine wp_seq ?_
                  refine wp_region_lit ?_
                  refine s_one (.int .i64 0) A314 S297 (g_assign (by kernel_rfl)) rfl (fun ac A346 => ?_)
                  refine wpList_nil ?_
                  refine n_then ?_
                  refine wp_ret ?_
                  refine fin1 (.int .i64 0) Try.results16 A346 S297 (rv_tmp (by kernel_rfl)) ⟨⟨0, fun _ => goodE_of hel hmi hst hwa h74 (fun _ j hj => hv j (by omega))⟩, rfl, S297.sub sub_nil sub_nil⟩

set_option maxRecDepth 100000 in
set_option maxHeartbeats 400000 in
theorem RCheckEvents_s (A : Option Addr) (cap : Nat) (ss : List Sp) (EA : Option Addr) (en ec : Nat) (el : List Int) (w0 : World) (hr : SpReads w0 A ss) (hre : IReads w0 EA el) (hel : el.length = en * 3) (hec : en ≤ ec) :
    Calls Try.prog 6 #[.slice A ss.length cap, .slice EA en ec] w0 fun e w' => ∃ u : {x : Int × Int // x.2 = 0 → GoodS ss ∧ en ≤ 60 ∧ ∀ k, k < en → GoodE ss el k}, e = .returned (.tuple #[.int .i64 u.1.1, .int .i64 u.1.2]) ∧ St w0 [] [] w' := by
  have S0 := St.start w0
  refine enter (n := 40) Try.func6 rfl rfl rfl (fun ac A0 => ?_)
  refine wp_seq ?_
  refine wp_region_lit ?_
  refine s_one (.int .i64 0) A0 S0 (g_assign (by kernel_rfl)) rfl (fun ac A1 => ?_)
  refine s_one (.int .i64 0) A1 S0 (g_assign (by kernel_rfl)) rfl (fun ac A2 => ?_)
  refine wpList_nil ?_
  refine n_then ?_
  refine wp_seq ?_
  refine wp_seq ?_
  refine wp_region_lit ?_
  refine s_one (.slice A ss.length cap) A2 S0 (g_move (by kernel_rfl)) rfl (fun ac A3 => ?_)
  refine s_callSt (T := {x : Int × Int // x.2 = 0 → GoodS ss}) (fs := #[]) (cp := #[]) (r := [(0, .slice A ss.length cap)]) #[.slice A ss.length cap] (fun u => .tuple #[.int .i64 u.1.1, .int .i64 u.1.2]) (fun u => []) (fun u => []) A3 S0 (RCheckSteps_s A cap ss _ (hr.kept S0.kp)) (fun u x hx => by cases hx) Try.call15 (by kernel_rfl) (by kernel_rfl) (by kernel_rfl) rfl (fun u8 ac wc A4 S5 => ?_)
  replace S5 : St w0 [] [] _ := S5
  have hx : u8.1.2 = 0 → GoodS ss := u8.2
  refine s_one (.tuple #[.int .i64 u8.1.1, .int .i64 u8.1.2]) A4 S5 (g_move (by kernel_rfl)) rfl (fun ac A9 => ?_)
  refine s_one (.int .i64 u8.1.1) A9 S5 (g_extract (u := .tuple #[.int .i64 u8.1.1, .int .i64 u8.1.2]) (by kernel_rfl) (fun _ => by kernel_rfl)) rfl (fun ac A10 => ?_)
  refine s_one (.int .i64 u8.1.2) A10 S5 (g_extract (u := .tuple #[.int .i64 u8.1.1, .int .i64 u8.1.2]) (by kernel_rfl) (fun _ => by kernel_rfl)) rfl (fun ac A11 => ?_)
  refine s_one (.int .i64 u8.1.1) A11 S5 (g_assign (by kernel_rfl)) rfl (fun ac A12 => ?_)
  refine s_one (.int .i64 u8.1.2) A12 S5 (g_assign (by kernel_rfl)) rfl (fun ac A13 => ?_)
  refine wpList_nil ?_
  refine n_then ?_
  refine wp_seq ?_
  refine wp_region_lit ?_
  refine s_one (.int .i64 u8.1.2) A13 S5 (g_move (by kernel_rfl)) rfl (fun ac A14 => ?_)
  refine s_one (.bool (decide (u8.1.2 ≠ 0))) A14 S5 (g_bin (u := .int .i64 u8.1.2) (k := .int .i64 0) (by kernel_rfl) (by kernel_rfl) (fun _ => by kernel_rfl) b_neq) rfl (fun ac A15 => ?_)
  refine wpList_nil ?_
  refine n_then ?_
  refine c_ifb (b := (decide (u8.1.2 ≠ 0))) A15 (by kernel_rfl) (fun h16 => ?_) (fun h16 => ?_)
  · have p17 := of_decide_eq_true h16
    refine wp_seq ?_
    refine wp_region_lit ?_
    refine s_one (.int .i64 u8.1.2) A15 S5 (g_move (by kernel_rfl)) rfl (fun ac A18 => ?_)
    refine s_one (.int .i64 0) A18 S5 (g_assign (by kernel_rfl)) rfl (fun ac A19 => ?_)
    refine s_one (.int .i64 u8.1.2) A19 S5 (g_assign (by kernel_rfl)) rfl (fun ac A20 => ?_)
    refine wpList_nil ?_
    refine n_then ?_
    refine wp_ret ?_
    refine r_then ?_
    refine fin2 (.int .i64 0) (.int .i64 u8.1.2) Try.results6 A20 S5 (rv_tmp (by kernel_rfl)) (rv_tmp (by kernel_rfl)) ⟨⟨(0, u8.1.2), fun h => absurd (show (u8.1.2 : Int) = 0 from h) (by omega)⟩, rfl, S5.sub sub_all sub_all⟩
  · have p21 := of_decide_eq_false h16
    refine wp_skip ?_
    refine n_then ?_
    refine wp_seq ?_
    refine wp_seq ?_
    have gs := hx (by omega)
    refine wp_region_lit ?_
    refine s_one (.slice EA en ec) A15 S5 (g_move (by kernel_rfl)) rfl (fun ac A22 => ?_)
    refine s_one (.int .i64 (en : Int)) A22 S5 (g_built (r := [(0, .slice EA en ec)]) (by kernel_rfl) (fun _ _ _ => by kernel_rfl)) rfl (fun ac A23 => ?_)
    refine s_one (.bool (decide ((en : Int) > 60))) A23 S5 (g_bin (u := .int .i64 (en : Int)) (k := .int .i64 60) (by kernel_rfl) (by kernel_rfl) (fun _ => by kernel_rfl) (fun _ => by kernel_rfl)) rfl (fun ac A24 => ?_)
    refine wpList_nil ?_
    refine n_then ?_
    refine c_ifb (b := (decide ((en : Int) > 60))) A24 (by kernel_rfl) (fun h25 => ?_) (fun h25 => ?_)
    · have p26 := of_decide_eq_true h25
      refine wp_seq ?_
      refine wp_region_lit ?_
      refine s_one (.int .i64 0) A24 S5 (g_assign (by kernel_rfl)) rfl (fun ac A27 => ?_)
      refine s_one (.int .i64 8) A27 S5 (g_assign (by kernel_rfl)) rfl (fun ac A28 => ?_)
      refine wpList_nil ?_
      refine n_then ?_
      refine wp_ret ?_
      refine r_then ?_
      refine fin2 (.int .i64 0) (.int .i64 8) Try.results6 A28 S5 (rv_tmp (by kernel_rfl)) (rv_tmp (by kernel_rfl)) ⟨⟨(0, 8), fun h => absurd (show (8 : Int) = 0 from h) (by decide)⟩, rfl, S5.sub sub_all sub_all⟩
    · have p29 := of_decide_eq_false h25
      refine wp_skip ?_
      refine n_then ?_
      refine wp_seq ?_
      refine wp_seq ?_
      refine wp_region_lit ?_
      refine s_one (.int .i64 0) A24 S5 (g_assign (by kernel_rfl)) rfl (fun ac A30 => ?_)
      refine wpList_nil ?_
      refine n_then ?_
      refine wp_block ?_
      refine c_loopN (fun mm ac wc => ∃ (i : Nat), mm = en - i ∧ (i ≤ en) ∧ (∀ j, j < i → GoodE ss el j) ∧ Fr 40 ac [(0, .slice A ss.length cap), (1, .slice EA en ec), (11, .slice A ss.length cap), (12, .tuple #[.int .i64 u8.1.1, .int .i64 u8.1.2]), (10, .tuple #[.int .i64 u8.1.1, .int .i64 u8.1.2]), (13, .int .i64 u8.1.1), (14, .int .i64 u8.1.2), (6, .int .i64 u8.1.1), (7, .int .i64 u8.1.2), (15, .int .i64 u8.1.2), (16, .bool (decide (u8.1.2 ≠ 0))), (18, .slice EA en ec), (19, .int .i64 (en : Int)), (20, .bool (decide ((en : Int) > 60))), (8, .int .i64 (i : Int))] ∧ St w0 [] [] wc) _ ⟨0, rfl, Nat.zero_le _, fun j hj => absurd hj (Nat.not_lt_zero j), (A30.slot (A30.slot (A30.slot (A30.slot (A30.slot (A30.slot (A30.slot (A30.slot (A30.slot (A30.slot (A30.slot (A30.slot (A30.slot (A30.slot (A30.slot A30.nil (v := .int .i64 0) (by kernel_rfl) (congrArg (Value.int .i64) (by omega))) (v := .bool (decide ((en : Int) > 60))) (by kernel_rfl) rfl) (v := .int .i64 (en : Int)) (by kernel_rfl) rfl) (v := .slice EA en ec) (by kernel_rfl) rfl) (v := .bool (decide (u8.1.2 ≠ 0))) (by kernel_rfl) rfl) (v := .int .i64 u8.1.2) (by kernel_rfl) rfl) (v := .int .i64 u8.1.2) (by kernel_rfl) rfl) (v := .int .i64 u8.1.1) (by kernel_rfl) rfl) (v := .int .i64 u8.1.2) (by kernel_rfl) rfl) (v := .int .i64 u8.1.1) (by kernel_rfl) rfl) (v := .tuple #[.int .i64 u8.1.1, .int .i64 u8.1.2]) (by kernel_rfl) rfl) (v := .tuple #[.int .i64 u8.1.1, .int .i64 u8.1.2]) (by kernel_rfl) rfl) (v := .slice A ss.length cap) (by kernel_rfl) rfl) (v := .slice EA en ec) (by kernel_rfl) rfl) (v := .slice A ss.length cap) (by kernel_rfl) rfl), S5.sub sub_all sub_all⟩ ?_
      rintro mm ac wc ⟨i, hm33, hi, hge, A31, S32⟩
      refine wp_seq ?_
      refine wp_seq ?_
      refine wp_region_lit ?_
      refine s_one (.int .i64 (i : Int)) A31 S32 (g_move (by kernel_rfl)) rfl (fun ac A34 => ?_)
      refine s_one (.slice EA en ec) A34 S32 (g_move (by kernel_rfl)) rfl (fun ac A35 => ?_)
      refine s_one (.int .i64 (en : Int)) A35 S32 (g_built (r := [(0, .slice EA en ec)]) (by kernel_rfl) (fun _ _ _ => by kernel_rfl)) rfl (fun ac A36 => ?_)
      refine s_one (.bool (decide ((i : Int) < (en : Int)))) A36 S32 (g_bin (u := .int .i64 (i : Int)) (k := .int .i64 (en : Int)) (by kernel_rfl) (by kernel_rfl) (fun _ => by kernel_rfl) (fun _ => by kernel_rfl)) rfl (fun ac A37 => ?_)
      refine wpList_nil ?_
      refine n_then ?_
      refine c_ifb (b := (decide ((i : Int) < (en : Int)))) A37 (by kernel_rfl) (fun h38 => ?_) (fun h38 => ?_)
      · have p39 := of_decide_eq_true h38
        refine wp_skip ?_
        refine n_then ?_
        refine wp_seq ?_
        refine wp_block ?_
        refine wp_seq ?_
        refine r_begin (w0 := w0) (by kernel_rfl) (S32.sub sub_all sub_all) (fun wc T40 B41 => ?_)
        have S42 := S32.kept B41
        refine r_take 0 (.slice A ss.length cap) A37 T40 (g_move (by kernel_rfl)) rfl rfl rfl (pf_then (pf_block (pf_then (pf_then (pf_block (pf_then pf_body)))))) (by kernel_rfl) (fun ac A43 => ?_)
        refine r_take 1 (.slice EA en ec) A43 T40 (g_move (by kernel_rfl)) rfl rfl rfl (pf_then (pf_block (pf_then (pf_then (pf_block (pf_then pf_body)))))) (by kernel_rfl) (fun ac A44 => ?_)
        refine r_take 2 (.int .i64 (i : Int)) A44 T40 (g_move (by kernel_rfl)) rfl rfl rfl (pf_then (pf_block (pf_then (pf_then (pf_block (pf_then pf_body)))))) (by kernel_rfl) (fun ac A45 => ?_)
        refine r_take 3 (.slice EA i ec) A45 T40 (g_slice (u := .slice EA en ec) (lo' := none) (hi' := (some (.int .i64 (i : Int)))) (mx' := none) (by kernel_rfl) (by kernel_rfl) (by kernel_rfl) (by kernel_rfl) (sl_hx (e := 30) (size := 3) (b := 24) (i := i) (by kernel_rfl) (by omega) (by omega))) rfl rfl rfl (pf_then (pf_block (pf_then (pf_then (pf_block (pf_then pf_body)))))) (by kernel_rfl) (fun ac A46 => ?_)
        refine r_take 4 (.slice EA en ec) A46 T40 (g_move (by kernel_rfl)) rfl rfl rfl (pf_then (pf_block (pf_then (pf_then (pf_block (pf_then pf_body)))))) (by kernel_rfl) (fun ac A47 => ?_)
        refine r_take 5 (.int .i64 (i : Int)) A47 T40 (g_move (by kernel_rfl)) rfl rfl rfl (pf_then (pf_block (pf_then (pf_then (pf_block (pf_then pf_body)))))) (by kernel_rfl) (fun ac A48 => ?_)
        obtain ⟨ad49, rfl, _⟩ := hre (i * 3) (by have hlen := hel; omega)
        refine r_take 6 (.pointer (some (ad49.add (i * 3)))) A48 T40 (g_index (u := .slice (some ad49) en ec) (k := .int .i64 (i : Int)) (by kernel_rfl) (by kernel_rfl) (ix_xs (e := 30) (bytes := 24) i (by kernel_rfl) (by omega) (by omega))) rfl rfl rfl (pf_then (pf_block (pf_then (pf_then (pf_block (pf_then pf_body)))))) (by kernel_rfl) (fun ac A50 => ?_)
        refine r_take 7 (.agg #[.int .i64 (nthI el (i * 3)), .int .i64 (nthI el (i * 3 + 1)), .int .i64 (nthI el (i * 3 + 2))]) A50 T40 (g_loadXS (l := el) (k := i * 3) 3 (by kernel_rfl) hre (by have hlen := hel; omega) (by kernel_rfl) (by kernel_rfl)) rfl rfl rfl (pf_then (pf_block (pf_then (pf_then (pf_block (pf_then pf_body)))))) (by kernel_rfl) (fun ac A51 => ?_)
        refine r_1 (i := 8) (by kernel_rfl) ?_
        refine rs_callSt (T := {x : Int // x = 0 → GoodE ss ((el.take (i * 3)) ++ [nthI el (i * 3), nthI el (i * 3 + 1), nthI el (i * 3 + 2)]) i}) (fs := #[]) (cp := #[]) (r := [(0, .slice A ss.length cap), (0, .slice (some ad49) i ec), (0, .agg #[.int .i64 (nthI el (i * 3)), .int .i64 (nthI el (i * 3 + 1)), .int .i64 (nthI el (i * 3 + 2))])]) #[.slice A ss.length cap, .slice (some ad49) i ec, .agg #[.int .i64 (nthI el (i * 3)), .int .i64 (nthI el (i * 3 + 1)), .int .i64 (nthI el (i * 3 + 2))]] (fun u => .int .i64 u.1) (fun u => []) (fun u => []) A51 S42 sub_all sub_all (eventErr_s A cap ss (some ad49) i ec (el.take (i * 3)) (nthI el (i * 3)) (nthI el (i * 3 + 1)) (nthI el (i * 3 + 2)) _ (hr.kept S42.kp) ((ir_take hre _).kept S42.kp) (show (el.take (i * 3)).length = i * 3 by rw [List.length_take]; omega) (by omega) gs (ge_take hge)) (fun u x hx => by cases hx) Try.call16 rfl rfl (by kernel_rfl) (by kernel_rfl) (by kernel_rfl) rfl (fun u57 ac wc A52 S53 => ?_)
        replace S53 : St w0 [] [] _ := S53
        have hxe : u57.1 = 0 → GoodE ss ((el.take (i * 3)) ++ [nthI el (i * 3), nthI el (i * 3 + 1), nthI el (i * 3 + 2)]) i := u57.2
        have T55 := S53.sub sub_all sub_all
        refine r_take 9 (.int .i64 u57.1) A52 T55 (g_assign (by kernel_rfl)) rfl rfl rfl (pf_then (pf_block (pf_then (pf_then (pf_block (pf_then pf_body)))))) (by kernel_rfl) (fun ac A58 => ?_)
        refine r_done (by kernel_rfl) ?_
        refine n_then ?_
        refine wp_seq ?_
        refine wp_region_lit ?_
        refine s_one (.int .i64 u57.1) A58 S53 (g_move (by kernel_rfl)) rfl (fun ac A59 => ?_)
        refine s_one (.bool (decide (u57.1 ≠ 0))) A59 S53 (g_bin (u := .int .i64 u57.1) (k := .int .i64 0) (by kernel_rfl) (by kernel_rfl) (fun _ => by kernel_rfl) b_neq) rfl (fun ac A60 => ?_)
        refine wpList_nil ?_
        refine n_then ?_
        refine c_ifb (b := (decide (u57.1 ≠ 0))) A60 (by kernel_rfl) (fun h61 => ?_) (fun h61 => ?_)
        · have p62 := of_decide_eq_true h61
          refine wp_seq ?_
          refine wp_region_lit ?_
          refine s_one (.int .i64 (i : Int)) A60 S53 (g_move (by kernel_rfl)) rfl (fun ac A63 => ?_)
          refine s_one (.int .i64 u57.1) A63 S53 (g_move (by kernel_rfl)) rfl (fun ac A64 => ?_)
          refine s_one (.int .i64 (i : Int)) A64 S53 (g_assign (by kernel_rfl)) rfl (fun ac A65 => ?_)
          refine s_one (.int .i64 u57.1) A65 S53 (g_assign (by kernel_rfl)) rfl (fun ac A66 => ?_)
          refine wpList_nil ?_
          refine n_then ?_
          refine wp_ret ?_
          refine r_block ?_
          refine r_then ?_
          refine r_then ?_
          refine r_block ?_
          refine r_then ?_
          refine fin2 (.int .i64 (i : Int)) (.int .i64 u57.1) Try.results6 A66 S53 (rv_tmp (by kernel_rfl)) (rv_tmp (by kernel_rfl)) ⟨⟨((i : Int), u57.1), fun h => absurd (show (u57.1 : Int) = 0 from h) (by omega)⟩, rfl, S53.sub sub_all sub_all⟩
        · have p67 := of_decide_eq_false h61
          refine wp_skip ?_
          refine n_block ?_
          refine n_then ?_
          refine wp_region_lit ?_
          refine s_one (.int .i64 (i : Int)) A60 S53 (g_move (by kernel_rfl)) rfl (fun ac A68 => ?_)
          refine s_one (.int .i64 ((i : Int) + 1)) A68 S53 (g_bin (u := .int .i64 (i : Int)) (k := .int .i64 1) (by kernel_rfl) (by kernel_rfl) (fun _ => by kernel_rfl) (b_add (by omega))) rfl (fun ac A69 => ?_)
          refine s_one (.int .i64 ((i : Int) + 1)) A69 S53 (g_assign (by kernel_rfl)) rfl (fun ac A70 => ?_)
          refine wpList_nil ?_
          refine n_then ?_
          refine ⟨_, ⟨i + 1, rfl, by omega, lt_snoc hge (ge_snoc hel (by omega) (hxe (by omega))), (A70.slot (A70.slot (A70.slot (A70.slot (A70.slot (A70.slot (A70.slot (A70.slot (A70.slot (A70.slot (A70.slot (A70.slot (A70.slot (A70.slot (A70.slot A70.nil (v := .int .i64 ((i : Int) + 1)) (by kernel_rfl) (congrArg (Value.int .i64) (by omega))) (v := .bool (decide ((en : Int) > 60))) (by kernel_rfl) rfl) (v := .int .i64 (en : Int)) (by kernel_rfl) rfl) (v := .slice (some ad49) en ec) (by kernel_rfl) (by first | rfl | simp)) (v := .bool (decide (u8.1.2 ≠ 0))) (by kernel_rfl) rfl) (v := .int .i64 u8.1.2) (by kernel_rfl) rfl) (v := .int .i64 u8.1.2) (by kernel_rfl) rfl) (v := .int .i64 u8.1.1) (by kernel_rfl) rfl) (v := .int .i64 u8.1.2) (by kernel_rfl) rfl) (v := .int .i64 u8.1.1) (by kernel_rfl) rfl) (v := .tuple #[.int .i64 u8.1.1, .int .i64 u8.1.2]) (by kernel_rfl) rfl) (v := .tuple #[.int .i64 u8.1.1, .int .i64 u8.1.2]) (by kernel_rfl) rfl) (v := .slice A ss.length cap) (by kernel_rfl) rfl) (v := .slice (some ad49) en ec) (by kernel_rfl) (by first | rfl | simp)) (v := .slice A ss.length cap) (by kernel_rfl) rfl), S53.sub sub_all sub_all⟩, ?_⟩
          omega
      · have p71 := of_decide_eq_false h38
        refine wp_exit ?_
        refine x_then ?_
        refine x_then ?_
        refine x_hit ?_
        refine n_then ?_
        refine wp_seq ?_
        refine wp_region_lit ?_
        refine s_one (.int .i64 0) A37 S32 (g_assign (by kernel_rfl)) rfl (fun ac A72 => ?_)
        refine s_one (.int .i64 0) A72 S32 (g_assign (by kernel_rfl)) rfl (fun ac A73 => ?_)
        refine wpList_nil ?_
        refine n_then ?_
        refine wp_ret ?_
        refine fin2 (.int .i64 0) (.int .i64 0) Try.results6 A73 S32 (rv_tmp (by kernel_rfl)) (rv_tmp (by kernel_rfl)) ⟨⟨(0, 0), fun _ => ⟨gs, by omega, fun k hk => hge k (by omega)⟩⟩, rfl, S32.sub sub_all sub_all⟩

end Go.Proofs.Ytnbimpkihpaldaa
