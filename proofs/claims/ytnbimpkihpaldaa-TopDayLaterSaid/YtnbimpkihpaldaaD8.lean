/- Right steps, and what is valid, as the reference says it. -/
import Derived.Test.YtnbimpkihpaldaaD7
namespace Go.Proofs.Ytnbimpkihpaldaa
open Go.RowKit Go.Cpl

set_option maxRecDepth 100000 in
set_option maxHeartbeats 400000 in
theorem RCheckSteps_s (A : Option Addr) (cap : Nat) (ss : List Sp) (w0 : World) (hr : SpReads w0 A ss) :
    Calls Try.prog 15 #[.slice A ss.length cap] w0 fun e w' => ∃ u : {x : Int × Int // x.2 = 0 → GoodS ss}, e = .returned (.tuple #[.int .i64 u.1.1, .int .i64 u.1.2]) ∧ St w0 [] [] w' := by
  have S0 := St.start w0
  refine enter (n := 107) Try.func15 rfl rfl rfl (fun ac A0 => ?_)
  refine wp_seq ?_
  refine wp_region_lit ?_
  refine s_one (.int .i64 0) A0 S0 (g_assign (by kernel_rfl)) rfl (fun ac A1 => ?_)
  refine s_one (.int .i64 0) A1 S0 (g_assign (by kernel_rfl)) rfl (fun ac A2 => ?_)
  refine wpList_nil ?_
  refine n_then ?_
  refine wp_seq ?_
  refine wp_seq ?_
  refine wp_region_lit ?_
  refine s_one (.slice A ss.length cap) A2 S0 (g_move (by kernel_rfl)) rfl (fun ac A3 => ?_)
  refine s_one (.int .i64 (ss.length : Int)) A3 S0 (g_built (r := [(0, .slice A ss.length cap)]) (by kernel_rfl) (fun _ _ _ => by kernel_rfl)) rfl (fun ac A4 => ?_)
  refine s_one (.bool (decide ((ss.length : Int) = 0))) A4 S0 (g_bin (u := .int .i64 (ss.length : Int)) (k := .int .i64 0) (by kernel_rfl) (by kernel_rfl) (fun _ => by kernel_rfl) b_eql) rfl (fun ac A5 => ?_)
  refine wpList_nil ?_
  refine n_then ?_
  refine c_ifb (b := (decide ((ss.length : Int) = 0))) A5 (by kernel_rfl) (fun h6 => ?_) (fun h6 => ?_)
  · have p7 := of_decide_eq_true h6
    refine wp_seq ?_
    refine wp_region_lit ?_
    refine s_one (.int .i64 0) A5 S0 (g_assign (by kernel_rfl)) rfl (fun ac A8 => ?_)
    refine s_one (.int .i64 10) A8 S0 (g_assign (by kernel_rfl)) rfl (fun ac A9 => ?_)
    refine wpList_nil ?_
    refine n_then ?_
    refine wp_ret ?_
    refine r_then ?_
    refine fin2 (.int .i64 0) (.int .i64 10) Try.results15 A9 S0 (rv_tmp (by kernel_rfl)) (rv_tmp (by kernel_rfl)) ⟨⟨(0, 10), fun h => absurd (show (10 : Int) = 0 from h) (by decide)⟩, rfl, S0.sub sub_all sub_all⟩
  · have p10 := of_decide_eq_false h6
    refine wp_skip ?_
    refine n_then ?_
    refine wp_seq ?_
    refine wp_seq ?_
    refine wp_region_lit ?_
    refine s_one (.slice A ss.length cap) A5 S0 (g_move (by kernel_rfl)) rfl (fun ac A11 => ?_)
    refine s_one (.int .i64 (ss.length : Int)) A11 S0 (g_built (r := [(0, .slice A ss.length cap)]) (by kernel_rfl) (fun _ _ _ => by kernel_rfl)) rfl (fun ac A12 => ?_)
    refine s_one (.bool (decide ((ss.length : Int) > 10))) A12 S0 (g_bin (u := .int .i64 (ss.length : Int)) (k := .int .i64 10) (by kernel_rfl) (by kernel_rfl) (fun _ => by kernel_rfl) (fun _ => by kernel_rfl)) rfl (fun ac A13 => ?_)
    refine wpList_nil ?_
    refine n_then ?_
    refine c_ifb (b := (decide ((ss.length : Int) > 10))) A13 (by kernel_rfl) (fun h14 => ?_) (fun h14 => ?_)
    · have p15 := of_decide_eq_true h14
      refine wp_seq ?_
      refine wp_region_lit ?_
      refine s_one (.int .i64 0) A13 S0 (g_assign (by kernel_rfl)) rfl (fun ac A16 => ?_)
      refine s_one (.int .i64 8) A16 S0 (g_assign (by kernel_rfl)) rfl (fun ac A17 => ?_)
      refine wpList_nil ?_
      refine n_then ?_
      refine wp_ret ?_
      refine r_then ?_
      refine fin2 (.int .i64 0) (.int .i64 8) Try.results15 A17 S0 (rv_tmp (by kernel_rfl)) (rv_tmp (by kernel_rfl)) ⟨⟨(0, 8), fun h => absurd (show (8 : Int) = 0 from h) (by decide)⟩, rfl, S0.sub sub_all sub_all⟩
    · have p18 := of_decide_eq_false h14
      refine wp_skip ?_
      refine n_then ?_
      refine wp_seq ?_
      refine wp_seq ?_
      refine wp_region_lit ?_
      refine s_one (.int .i64 0) A13 S0 (g_assign (by kernel_rfl)) rfl (fun ac A19 => ?_)
      refine wpList_nil ?_
      refine n_then ?_
      refine wp_block ?_
      refine c_loopN (fun mm ac wc => ∃ (i : Nat), mm = ss.length - i ∧ (i ≤ ss.length) ∧ (GoodP ss i) ∧ Fr 107 ac [(0, .slice A ss.length cap), (7, .slice A ss.length cap), (8, .int .i64 (ss.length : Int)), (9, .bool (decide ((ss.length : Int) = 0))), (10, .slice A ss.length cap), (11, .int .i64 (ss.length : Int)), (12, .bool (decide ((ss.length : Int) > 10))), (4, .int .i64 (i : Int))] ∧ St w0 [] [] wc) _ ⟨0, rfl, Nat.zero_le _, GoodP.zero ss, (A19.slot (A19.slot (A19.slot (A19.slot (A19.slot (A19.slot (A19.slot (A19.slot A19.nil (v := .int .i64 0) (by kernel_rfl) (congrArg (Value.int .i64) (by omega))) (v := .bool (decide ((ss.length : Int) > 10))) (by kernel_rfl) rfl) (v := .int .i64 (ss.length : Int)) (by kernel_rfl) rfl) (v := .slice A ss.length cap) (by kernel_rfl) rfl) (v := .bool (decide ((ss.length : Int) = 0))) (by kernel_rfl) rfl) (v := .int .i64 (ss.length : Int)) (by kernel_rfl) rfl) (v := .slice A ss.length cap) (by kernel_rfl) rfl) (v := .slice A ss.length cap) (by kernel_rfl) rfl), S0.sub sub_all sub_all⟩ ?_
      rintro mm ac wc ⟨i, hm22, hi, hg, A20, S21⟩
      refine wp_seq ?_
      refine wp_seq ?_
      refine wp_region_lit ?_
      refine s_one (.int .i64 (i : Int)) A20 S21 (g_move (by kernel_rfl)) rfl (fun ac A23 => ?_)
      refine s_one (.slice A ss.length cap) A23 S21 (g_move (by kernel_rfl)) rfl (fun ac A24 => ?_)
      refine s_one (.int .i64 (ss.length : Int)) A24 S21 (g_built (r := [(0, .slice A ss.length cap)]) (by kernel_rfl) (fun _ _ _ => by kernel_rfl)) rfl (fun ac A25 => ?_)
      refine s_one (.bool (decide ((i : Int) < (ss.length : Int)))) A25 S21 (g_bin (u := .int .i64 (i : Int)) (k := .int .i64 (ss.length : Int)) (by kernel_rfl) (by kernel_rfl) (fun _ => by kernel_rfl) (fun _ => by kernel_rfl)) rfl (fun ac A26 => ?_)
      refine wpList_nil ?_
      refine n_then ?_
      refine c_ifb (b := (decide ((i : Int) < (ss.length : Int)))) A26 (by kernel_rfl) (fun h27 => ?_) (fun h27 => ?_)
      · have p28 := of_decide_eq_true h27
        refine wp_skip ?_
        refine n_then ?_
        refine wp_seq ?_
        refine wp_block ?_
        refine wp_seq ?_
        refine wp_seq ?_
        refine wp_region_lit ?_
        refine s_one (.slice A ss.length cap) A26 S21 (g_move (by kernel_rfl)) rfl (fun ac A29 => ?_)
        refine s_one (.int .i64 (i : Int)) A29 S21 (g_move (by kernel_rfl)) rfl (fun ac A30 => ?_)
        obtain ⟨ad31, B32, c33, he34, hs35⟩ := hr i (by omega)
        have hm36 := hs35.hm
        have hm37 := hs35.hn
        refine s_one (.pointer (some (ad31.add (i * 4)))) A30 S21 (g_index (u := .slice A ss.length cap) (k := .int .i64 (i : Int)) (by kernel_rfl) (by kernel_rfl) (ix_xsB (e := 59) (size := 4) (bytes := 56) i (by kernel_rfl) (by omega) (by omega) he34)) rfl (fun ac A38 => ?_)
        refine s_one (.pointer (some (ad31.add (i * 4 + 0)))) A38 S21 (g_field (u := .pointer (some (ad31.add (i * 4)))) (by kernel_rfl) (fld_x (x := i * 4) (o := 0) (by kernel_rfl))) rfl (fun ac A39 => ?_)
        refine s_one (.string ⟨((spK ss i).nm).toArray⟩) A39 S21 (g_loadX (ad := ad31.add (i * 4 + 0)) (by kernel_rfl) (sp_cell (j := 0) hs35 rfl rfl) (by kernel_rfl)) rfl (fun ac A40 => ?_)
        refine s_call (fs := #[]) (cp := #[]) (r := [(0, .string ⟨((spK ss i).nm).toArray⟩)]) #[.string ⟨((spK ss i).nm).toArray⟩] (.bool (nameB ((spK ss i).nm))) A40 S21 (IsName_s ((spK ss i).nm) _ (by omega)) Try.call28 (by kernel_rfl) (by kernel_rfl) (by kernel_rfl) rfl (fun ac wc A41 S42 => ?_)
        refine s_one (.bool (!(nameB ((spK ss i).nm)))) A41 S42 (g_un (u := .bool (nameB ((spK ss i).nm))) (by kernel_rfl) (fun _ => by kernel_rfl)) rfl (fun ac A44 => ?_)
        refine wpList_nil ?_
        refine n_then ?_
        refine c_ifb (b := (!(nameB ((spK ss i).nm)))) A44 (by kernel_rfl) (fun h45 => ?_) (fun h45 => ?_)
        · have h46 : nameB ((spK ss i).nm) = false := by simpa using h45
          refine wp_seq ?_
          refine wp_region_lit ?_
          refine s_one (.int .i64 (i : Int)) A44 S42 (g_move (by kernel_rfl)) rfl (fun ac A47 => ?_)
          refine s_one (.int .i64 (i : Int)) A47 S42 (g_assign (by kernel_rfl)) rfl (fun ac A48 => ?_)
          refine s_one (.int .i64 4) A48 S42 (g_assign (by kernel_rfl)) rfl (fun ac A49 => ?_)
          refine wpList_nil ?_
          refine n_then ?_
          refine wp_ret ?_
          refine r_then ?_
          refine r_block ?_
          refine r_then ?_
          refine r_then ?_
          refine r_block ?_
          refine r_then ?_
          refine fin2 (.int .i64 (i : Int)) (.int .i64 4) Try.results15 A49 S42 (rv_tmp (by kernel_rfl)) (rv_tmp (by kernel_rfl)) ⟨⟨((i : Int), 4), fun h => absurd (show (4 : Int) = 0 from h) (by decide)⟩, rfl, S42.sub sub_all sub_all⟩
        · have h50 : nameB ((spK ss i).nm) = true := by simpa using h45
          refine wp_skip ?_
          refine n_then ?_
          refine wp_seq ?_
          refine wp_seq ?_
          refine wp_region_lit ?_
          refine s_one (.int .i64 0) A44 S42 (g_assign (by kernel_rfl)) rfl (fun ac A51 => ?_)
          refine wpList_nil ?_
          refine n_then ?_
          refine wp_block ?_
          refine c_loopN (fun mm ac wc => ∃ (k : Nat), mm = i - k ∧ (k ≤ i) ∧ (∀ j, j < k → (spK ss j).nm ≠ (spK ss i).nm) ∧ Fr 107 ac [(0, .slice A ss.length cap), (7, .slice A ss.length cap), (8, .int .i64 (ss.length : Int)), (9, .bool (decide ((ss.length : Int) = 0))), (10, .slice A ss.length cap), (11, .int .i64 (ss.length : Int)), (12, .bool (decide ((ss.length : Int) > 10))), (4, .int .i64 (i : Int)), (13, .int .i64 (i : Int)), (14, .slice A ss.length cap), (15, .int .i64 (ss.length : Int)), (16, .bool (decide ((i : Int) < (ss.length : Int)))), (19, .slice A ss.length cap), (20, .int .i64 (i : Int)), (21, .pointer (some (ad31.add (i * 4)))), (22, .pointer (some (ad31.add (i * 4 + 0)))), (23, .string ⟨((spK ss i).nm).toArray⟩), (24, .bool (nameB ((spK ss i).nm))), (25, .bool (!(nameB ((spK ss i).nm)))), (5, .int .i64 (k : Int))] ∧ St w0 [] [] wc) _ ⟨0, rfl, Nat.zero_le _, fun j hj => absurd hj (Nat.not_lt_zero j), (A51.slot (A51.slot (A51.slot (A51.slot (A51.slot (A51.slot (A51.slot (A51.slot (A51.slot (A51.slot (A51.slot (A51.slot (A51.slot (A51.slot (A51.slot (A51.slot (A51.slot (A51.slot (A51.slot (A51.slot A51.nil (v := .int .i64 0) (by kernel_rfl) (congrArg (Value.int .i64) (by omega))) (v := .bool (!(nameB ((spK ss i).nm)))) (by kernel_rfl) rfl) (v := .bool (nameB ((spK ss i).nm))) (by kernel_rfl) rfl) (v := .string ⟨((spK ss i).nm).toArray⟩) (by kernel_rfl) rfl) (v := .pointer (some (ad31.add (i * 4 + 0)))) (by kernel_rfl) rfl) (v := .pointer (some (ad31.add (i * 4)))) (by kernel_rfl) rfl) (v := .int .i64 (i : Int)) (by kernel_rfl) rfl) (v := .slice A ss.length cap) (by kernel_rfl) rfl) (v := .bool (decide ((i : Int) < (ss.length : Int)))) (by kernel_rfl) rfl) (v := .int .i64 (ss.length : Int)) (by kernel_rfl) rfl) (v := .slice A ss.length cap) (by kernel_rfl) rfl) (v := .int .i64 (i : Int)) (by kernel_rfl) rfl) (v := .int .i64 (i : Int)) (by kernel_rfl) rfl) (v := .bool (decide ((ss.length : Int) > 10))) (by kernel_rfl) rfl) (v := .int .i64 (ss.length : Int)) (by kernel_rfl) rfl) (v := .slice A ss.length cap) (by kernel_rfl) rfl) (v := .bool (decide ((ss.length : Int) = 0))) (by kernel_rfl) rfl) (v := .int .i64 (ss.length : Int)) (by kernel_rfl) rfl) (v := .slice A ss.length cap) (by kernel_rfl) rfl) (v := .slice A ss.length cap) (by kernel_rfl) rfl), S42.sub sub_all sub_all⟩ ?_
          rintro mm ac wc ⟨k, hm54, hk, hd, A52, S53⟩
          refine wp_seq ?_
          refine wp_seq ?_
          refine wp_region_lit ?_
          refine s_one (.int .i64 (k : Int)) A52 S53 (g_move (by kernel_rfl)) rfl (fun ac A55 => ?_)
          refine s_one (.int .i64 (i : Int)) A55 S53 (g_move (by kernel_rfl)) rfl (fun ac A56 => ?_)
          refine s_one (.bool (decide ((k : Int) < (i : Int)))) A56 S53 (g_bin (u := .int .i64 (k : Int)) (k := .int .i64 (i : Int)) (by kernel_rfl) (by kernel_rfl) (fun _ => by kernel_rfl) (fun _ => by kernel_rfl)) rfl (fun ac A57 => ?_)
          refine wpList_nil ?_
          refine n_then ?_
          refine c_ifb (b := (decide ((k : Int) < (i : Int)))) A57 (by kernel_rfl) (fun h58 => ?_) (fun h58 => ?_)
          · have p59 := of_decide_eq_true h58
            refine wp_skip ?_
            refine n_then ?_
            refine wp_seq ?_
            refine wp_block ?_
            refine wp_seq ?_
            refine r_begin (w0 := w0) (by kernel_rfl) (S53.sub sub_all sub_all) (fun wc T60 B61 => ?_)
            have S62 := S53.kept B61
            refine r_take 0 (.slice A ss.length cap) A57 T60 (g_move (by kernel_rfl)) rfl rfl rfl (pf_then (pf_block (pf_then (pf_then (pf_block (pf_then (pf_block (pf_then (pf_then (pf_block (pf_then pf_body))))))))))) (by kernel_rfl) (fun ac A63 => ?_)
            refine r_take 1 (.int .i64 (k : Int)) A63 T60 (g_move (by kernel_rfl)) rfl rfl rfl (pf_then (pf_block (pf_then (pf_then (pf_block (pf_then (pf_block (pf_then (pf_then (pf_block (pf_then pf_body))))))))))) (by kernel_rfl) (fun ac A64 => ?_)
            obtain ⟨ad65, B66, c67, he68, hs69⟩ := hr k (by omega)
            have hm70 := hs69.hm
            have hm71 := hs69.hn
            refine r_take 2 (.pointer (some (ad65.add (k * 4)))) A64 T60 (g_index (u := .slice A ss.length cap) (k := .int .i64 (k : Int)) (by kernel_rfl) (by kernel_rfl) (ix_xsB (e := 59) (size := 4) (bytes := 56) k (by kernel_rfl) (by omega) (by omega) he68)) rfl rfl rfl (pf_then (pf_block (pf_then (pf_then (pf_block (pf_then (pf_block (pf_then (pf_then (pf_block (pf_then pf_body))))))))))) (by kernel_rfl) (fun ac A72 => ?_)
            refine r_take 3 (.pointer (some (ad65.add (k * 4 + 0)))) A72 T60 (g_field (u := .pointer (some (ad65.add (k * 4)))) (by kernel_rfl) (fld_x (x := k * 4) (o := 0) (by kernel_rfl))) rfl rfl rfl (pf_then (pf_block (pf_then (pf_then (pf_block (pf_then (pf_block (pf_then (pf_then (pf_block (pf_then pf_body))))))))))) (by kernel_rfl) (fun ac A73 => ?_)
            refine r_take 4 (.string ⟨((spK ss k).nm).toArray⟩) A73 T60 (g_loadX (ad := ad65.add (k * 4 + 0)) (by kernel_rfl) (sp_cell (j := 0) hs69 rfl rfl) (by kernel_rfl)) rfl rfl rfl (pf_then (pf_block (pf_then (pf_then (pf_block (pf_then (pf_block (pf_then (pf_then (pf_block (pf_then pf_body))))))))))) (by kernel_rfl) (fun ac A74 => ?_)
            refine r_take 5 (.slice A ss.length cap) A74 T60 (g_move (by kernel_rfl)) rfl rfl rfl (pf_then (pf_block (pf_then (pf_then (pf_block (pf_then (pf_block (pf_then (pf_then (pf_block (pf_then pf_body))))))))))) (by kernel_rfl) (fun ac A75 => ?_)
            refine r_take 6 (.int .i64 (i : Int)) A75 T60 (g_move (by kernel_rfl)) rfl rfl rfl (pf_then (pf_block (pf_then (pf_then (pf_block (pf_then (pf_block (pf_then (pf_then (pf_block (pf_then pf_body))))))))))) (by kernel_rfl) (fun ac A76 => ?_)
            obtain ⟨ad77, B78, c79, he80, hs81⟩ := hr i (by omega)
            have hm82 := hs81.hm
            have hm83 := hs81.hn
            refine r_take 7 (.pointer (some (ad77.add (i * 4)))) A76 T60 (g_index (u := .slice A ss.length cap) (k := .int .i64 (i : Int)) (by kernel_rfl) (by kernel_rfl) (ix_xsB (e := 59) (size := 4) (bytes := 56) i (by kernel_rfl) (by omega) (by omega) he80)) rfl rfl rfl (pf_then (pf_block (pf_then (pf_then (pf_block (pf_then (pf_block (pf_then (pf_then (pf_block (pf_then pf_body))))))))))) (by kernel_rfl) (fun ac A84 => ?_)
            refine r_take 8 (.pointer (some (ad77.add (i * 4 + 0)))) A84 T60 (g_field (u := .pointer (some (ad77.add (i * 4)))) (by kernel_rfl) (fld_x (x := i * 4) (o := 0) (by kernel_rfl))) rfl rfl rfl (pf_then (pf_block (pf_then (pf_then (pf_block (pf_then (pf_block (pf_then (pf_then (pf_block (pf_then pf_body))))))))))) (by kernel_rfl) (fun ac A85 => ?_)
            refine r_take 9 (.string ⟨((spK ss i).nm).toArray⟩) A85 T60 (g_loadX (ad := ad77.add (i * 4 + 0)) (by kernel_rfl) (sp_cell (j := 0) hs81 rfl rfl) (by kernel_rfl)) rfl rfl rfl (pf_then (pf_block (pf_then (pf_then (pf_block (pf_then (pf_block (pf_then (pf_then (pf_block (pf_then pf_body))))))))))) (by kernel_rfl) (fun ac A86 => ?_)
            refine r_take 10 (.bool (decide ((spK ss k).nm = (spK ss i).nm))) A86 T60 (g_bin (u := .string ⟨((spK ss k).nm).toArray⟩) (k := .string ⟨((spK ss i).nm).toArray⟩) (by kernel_rfl) (by kernel_rfl) (fun _ => by kernel_rfl) (q_str (l := (spK ss k).nm) (m := (spK ss i).nm))) rfl rfl rfl (pf_then (pf_block (pf_then (pf_then (pf_block (pf_then (pf_block (pf_then (pf_then (pf_block (pf_then pf_body))))))))))) (by kernel_rfl) (fun ac A87 => ?_)
            refine r_done (by kernel_rfl) ?_
            refine n_then ?_
            refine c_ifb (b := (decide ((spK ss k).nm = (spK ss i).nm))) A87 (by kernel_rfl) (fun h88 => ?_) (fun h88 => ?_)
            · have p89 := of_decide_eq_true h88
              refine wp_seq ?_
              refine wp_region_lit ?_
              refine s_one (.int .i64 (i : Int)) A87 S62 (g_move (by kernel_rfl)) rfl (fun ac A90 => ?_)
              refine s_one (.int .i64 (i : Int)) A90 S62 (g_assign (by kernel_rfl)) rfl (fun ac A91 => ?_)
              refine s_one (.int .i64 5) A91 S62 (g_assign (by kernel_rfl)) rfl (fun ac A92 => ?_)
              refine wpList_nil ?_
              refine n_then ?_
              refine wp_ret ?_
              refine r_block ?_
              refine r_then ?_
              refine r_then ?_
              refine r_block ?_
              refine r_then ?_
              refine r_block ?_
              refine r_then ?_
              refine r_then ?_
              refine r_block ?_
              refine r_then ?_
              refine fin2 (.int .i64 (i : Int)) (.int .i64 5) Try.results15 A92 S62 (rv_tmp (by kernel_rfl)) (rv_tmp (by kernel_rfl)) ⟨⟨((i : Int), 5), fun h => absurd (show (5 : Int) = 0 from h) (by decide)⟩, rfl, S62.sub sub_all sub_all⟩
            · have p93 := of_decide_eq_false h88
              refine wp_skip ?_
              refine n_block ?_
              refine n_then ?_
              refine wp_region_lit ?_
              refine s_one (.int .i64 (k : Int)) A87 S62 (g_move (by kernel_rfl)) rfl (fun ac A94 => ?_)
              refine s_one (.int .i64 ((k : Int) + 1)) A94 S62 (g_bin (u := .int .i64 (k : Int)) (k := .int .i64 1) (by kernel_rfl) (by kernel_rfl) (fun _ => by kernel_rfl) (b_add (by omega))) rfl (fun ac A95 => ?_)
              refine s_one (.int .i64 ((k : Int) + 1)) A95 S62 (g_assign (by kernel_rfl)) rfl (fun ac A96 => ?_)
              refine wpList_nil ?_
              refine n_then ?_
              refine ⟨_, ⟨k + 1, rfl, by omega, lt_snoc hd p93, (A96.slot (A96.slot (A96.slot (A96.slot (A96.slot (A96.slot (A96.slot (A96.slot (A96.slot (A96.slot (A96.slot (A96.slot (A96.slot (A96.slot (A96.slot (A96.slot (A96.slot (A96.slot (A96.slot (A96.slot A96.nil (v := .int .i64 ((k : Int) + 1)) (by kernel_rfl) (congrArg (Value.int .i64) (by omega))) (v := .bool (!(nameB ((spK ss i).nm)))) (by kernel_rfl) rfl) (v := .bool (nameB ((spK ss i).nm))) (by kernel_rfl) rfl) (v := .string ⟨((spK ss i).nm).toArray⟩) (by kernel_rfl) rfl) (v := .pointer (some (ad31.add (i * 4 + 0)))) (by kernel_rfl) rfl) (v := .pointer (some (ad31.add (i * 4)))) (by kernel_rfl) rfl) (v := .int .i64 (i : Int)) (by kernel_rfl) rfl) (v := .slice A ss.length cap) (by kernel_rfl) rfl) (v := .bool (decide ((i : Int) < (ss.length : Int)))) (by kernel_rfl) rfl) (v := .int .i64 (ss.length : Int)) (by kernel_rfl) rfl) (v := .slice A ss.length cap) (by kernel_rfl) rfl) (v := .int .i64 (i : Int)) (by kernel_rfl) rfl) (v := .int .i64 (i : Int)) (by kernel_rfl) rfl) (v := .bool (decide ((ss.length : Int) > 10))) (by kernel_rfl) rfl) (v := .int .i64 (ss.length : Int)) (by kernel_rfl) rfl) (v := .slice A ss.length cap) (by kernel_rfl) rfl) (v := .bool (decide ((ss.length : Int) = 0))) (by kernel_rfl) rfl) (v := .int .i64 (ss.length : Int)) (by kernel_rfl) rfl) (v := .slice A ss.length cap) (by kernel_rfl) rfl) (v := .slice A ss.length cap) (by kernel_rfl) rfl), S62.sub sub_all sub_all⟩, ?_⟩
              omega
          · have p97 := of_decide_eq_false h58
            refine wp_exit ?_
            refine x_then ?_
            refine x_then ?_
            refine x_hit ?_
            refine n_then ?_
            refine wp_seq ?_
            refine wp_seq ?_
            refine c_cut (fun ac wc => Fr 107 ac [(59, .bool ((!(inB ((spK ss i).la) 1 1000000)) || (!(inB ((spK ss i).wa) 0 2000)))), (0, .slice A ss.length cap), (7, .slice A ss.length cap), (8, .int .i64 (ss.length : Int)), (9, .bool (decide ((ss.length : Int) = 0))), (10, .slice A ss.length cap), (11, .int .i64 (ss.length : Int)), (12, .bool (decide ((ss.length : Int) > 10))), (4, .int .i64 (i : Int)), (13, .int .i64 (i : Int)), (14, .slice A ss.length cap), (15, .int .i64 (ss.length : Int)), (16, .bool (decide ((i : Int) < (ss.length : Int)))), (19, .slice A ss.length cap), (20, .int .i64 (i : Int)), (21, .pointer (some (ad31.add (i * 4)))), (22, .pointer (some (ad31.add (i * 4 + 0)))), (23, .string ⟨((spK ss i).nm).toArray⟩), (24, .bool (nameB ((spK ss i).nm))), (25, .bool (!(nameB ((spK ss i).nm)))), (5, .int .i64 (k : Int)), (27, .int .i64 (k : Int)), (28, .int .i64 (i : Int)), (29, .bool (decide ((k : Int) < (i : Int))))] ∧ St w0 [] [] wc) ?_ ?_
            · refine wp_region_lit ?_
              refine s_one (.slice A ss.length cap) A57 S53 (g_move (by kernel_rfl)) rfl (fun ac A98 => ?_)
              refine s_one (.int .i64 (i : Int)) A98 S53 (g_move (by kernel_rfl)) rfl (fun ac A99 => ?_)
              obtain ⟨ad100, B101, c102, he103, hs104⟩ := hr i (by omega)
              have hm105 := hs104.hm
              have hm106 := hs104.hn
              refine s_one (.pointer (some (ad100.add (i * 4)))) A99 S53 (g_index (u := .slice A ss.length cap) (k := .int .i64 (i : Int)) (by kernel_rfl) (by kernel_rfl) (ix_xsB (e := 59) (size := 4) (bytes := 56) i (by kernel_rfl) (by omega) (by omega) he103)) rfl (fun ac A107 => ?_)
              refine s_one (.pointer (some (ad100.add (i * 4 + 1)))) A107 S53 (g_field (u := .pointer (some (ad100.add (i * 4)))) (by kernel_rfl) (fld_x (x := i * 4) (o := 1) (by kernel_rfl))) rfl (fun ac A108 => ?_)
              refine s_one (.int .i64 ((spK ss i).la)) A108 S53 (g_loadX (ad := ad100.add (i * 4 + 1)) (by kernel_rfl) (sp_cell (j := 1) hs104 rfl rfl) (by kernel_rfl)) rfl (fun ac A109 => ?_)
              refine s_call (fs := #[]) (cp := #[]) (r := [(0, .int .i64 ((spK ss i).la)), (0, .int .i64 1), (0, .int .i64 1000000)]) #[.int .i64 ((spK ss i).la), .int .i64 1, .int .i64 1000000] (.bool (inB ((spK ss i).la) 1 1000000)) A109 S53 (Within_s ((spK ss i).la) 1 1000000 _) Try.call5 (by kernel_rfl) (by kernel_rfl) (by kernel_rfl) rfl (fun ac wc A110 S111 => ?_)
              refine s_one (.bool (!(inB ((spK ss i).la) 1 1000000))) A110 S111 (g_un (u := .bool (inB ((spK ss i).la) 1 1000000)) (by kernel_rfl) (fun _ => by kernel_rfl)) rfl (fun ac A113 => ?_)
              refine s_one (.bool (!(inB ((spK ss i).la) 1 1000000))) A113 S111 (g_move (by kernel_rfl)) rfl (fun ac A114 => ?_)
              refine by_bool (!(inB ((spK ss i).la) 1 1000000)) (fun h115 => ?_) (fun h115 => ?_)
              · have h116 : inB ((spK ss i).la) 1 1000000 = false := by simpa using h115
                refine s_not (dj := 51) (b := (!(inB ((spK ss i).la) 1 1000000))) A114 (by kernel_rfl) (by kernel_rfl) h115 rfl (fun ac A117 => ?_)
                refine s_not (dj := 51) (b := (!(inB ((spK ss i).la) 1 1000000))) A117 (by kernel_rfl) (by kernel_rfl) h115 rfl (fun ac A118 => ?_)
                refine s_not (dj := 51) (b := (!(inB ((spK ss i).la) 1 1000000))) A118 (by kernel_rfl) (by kernel_rfl) h115 rfl (fun ac A119 => ?_)
                refine s_not (dj := 51) (b := (!(inB ((spK ss i).la) 1 1000000))) A119 (by kernel_rfl) (by kernel_rfl) h115 rfl (fun ac A120 => ?_)
                refine s_not (dj := 51) (b := (!(inB ((spK ss i).la) 1 1000000))) A120 (by kernel_rfl) (by kernel_rfl) h115 rfl (fun ac A121 => ?_)
                refine s_not (dj := 51) (b := (!(inB ((spK ss i).la) 1 1000000))) A121 (by kernel_rfl) (by kernel_rfl) h115 rfl (fun ac A122 => ?_)
                refine s_not (dj := 51) (b := (!(inB ((spK ss i).la) 1 1000000))) A122 (by kernel_rfl) (by kernel_rfl) h115 rfl (fun ac A123 => ?_)
                refine s_one (.bool true) A123 S111 (g_pick_t (b := (!(inB ((spK ss i).la) 1 1000000))) (by kernel_rfl) h115 (by kernel_rfl)) rfl (fun ac A124 => ?_)
                refine wpList_nil ?_
                refine n_then ?_
                exact ⟨(A124.slot (A124.slot (A124.slot (A124.slot (A124.slot (A124.slot (A124.slot (A124.slot (A124.slot (A124.slot (A124.slot (A124.slot (A124.slot (A124.slot (A124.slot (A124.slot (A124.slot (A124.slot (A124.slot (A124.slot (A124.slot (A124.slot (A124.slot (A124.slot A124.nil (v := .bool (decide ((k : Int) < (i : Int)))) (by kernel_rfl) rfl) (v := .int .i64 (i : Int)) (by kernel_rfl) rfl) (v := .int .i64 (k : Int)) (by kernel_rfl) rfl) (v := .int .i64 (k : Int)) (by kernel_rfl) rfl) (v := .bool (!(nameB ((spK ss i).nm)))) (by kernel_rfl) rfl) (v := .bool (nameB ((spK ss i).nm))) (by kernel_rfl) rfl) (v := .string ⟨((spK ss i).nm).toArray⟩) (by kernel_rfl) rfl) (v := .pointer (some (ad31.add (i * 4 + 0)))) (by kernel_rfl) rfl) (v := .pointer (some (ad31.add (i * 4)))) (by kernel_rfl) rfl) (v := .int .i64 (i : Int)) (by kernel_rfl) rfl) (v := .slice A ss.length cap) (by kernel_rfl) rfl) (v := .bool (decide ((i : Int) < (ss.length : Int)))) (by kernel_rfl) rfl) (v := .int .i64 (ss.length : Int)) (by kernel_rfl) rfl) (v := .slice A ss.length cap) (by kernel_rfl) rfl) (v := .int .i64 (i : Int)) (by kernel_rfl) rfl) (v := .int .i64 (i : Int)) (by kernel_rfl) rfl) (v := .bool (decide ((ss.length : Int) > 10))) (by kernel_rfl) rfl) (v := .int .i64 (ss.length : Int)) (by kernel_rfl) rfl) (v := .slice A ss.length cap) (by kernel_rfl) rfl) (v := .bool (decide ((ss.length : Int) = 0))) (by kernel_rfl) rfl) (v := .int .i64 (ss.length : Int)) (by kernel_rfl) rfl) (v := .slice A ss.length cap) (by kernel_rfl) rfl) (v := .slice A ss.length cap) (by kernel_rfl) rfl) (v := .bool true) (by kernel_rfl) (congrArg Value.bool (b_ot1 h115).symm)), S111.sub sub_all sub_all⟩
              · have h125 : inB ((spK ss i).la) 1 1000000 = true := by simpa using h115
                refine s_want (dj := 51) (b := (!(inB ((spK ss i).la) 1 1000000))) A114 (by kernel_rfl) (by kernel_rfl) h115 ?_
                refine s_one (.slice A ss.length cap) A114 S111 (g_move (by kernel_rfl)) rfl (fun ac A126 => ?_)
                refine s_want (dj := 51) (b := (!(inB ((spK ss i).la) 1 1000000))) A126 (by kernel_rfl) (by kernel_rfl) h115 ?_
                refine s_one (.int .i64 (i : Int)) A126 S111 (g_move (by kernel_rfl)) rfl (fun ac A127 => ?_)
                refine s_want (dj := 51) (b := (!(inB ((spK ss i).la) 1 1000000))) A127 (by kernel_rfl) (by kernel_rfl) h115 ?_
                obtain ⟨ad128, B129, c130, he131, hs132⟩ := hr i (by omega)
                have hm133 := hs132.hm
                have hm134 := hs132.hn
                refine s_one (.pointer (some (ad128.add (i * 4)))) A127 S111 (g_index (u := .slice A ss.length cap) (k := .int .i64 (i : Int)) (by kernel_rfl) (by kernel_rfl) (ix_xsB (e := 59) (size := 4) (bytes := 56) i (by kernel_rfl) (by omega) (by omega) he131)) rfl (fun ac A135 => ?_)
                refine s_want (dj := 51) (b := (!(inB ((spK ss i).la) 1 1000000))) A135 (by kernel_rfl) (by kernel_rfl) h115 ?_
                refine s_one (.pointer (some (ad128.add (i * 4 + 2)))) A135 S111 (g_field (u := .pointer (some (ad128.add (i * 4)))) (by kernel_rfl) (fld_x (x := i * 4) (o := 2) (by kernel_rfl))) rfl (fun ac A136 => ?_)
                refine s_want (dj := 51) (b := (!(inB ((spK ss i).la) 1 1000000))) A136 (by kernel_rfl) (by kernel_rfl) h115 ?_
                refine s_one (.int .i64 ((spK ss i).wa)) A136 S111 (g_loadX (ad := ad128.add (i * 4 + 2)) (by kernel_rfl) (sp_cell (j := 2) hs132 rfl rfl) (by kernel_rfl)) rfl (fun ac A137 => ?_)
                refine s_want (dj := 51) (b := (!(inB ((spK ss i).la) 1 1000000))) A137 (by kernel_rfl) (by kernel_rfl) h115 ?_
                refine s_call (fs := #[]) (cp := #[]) (r := [(0, .int .i64 ((spK ss i).wa)), (0, .int .i64 0), (0, .int .i64 2000)]) #[.int .i64 ((spK ss i).wa), .int .i64 0, .int .i64 2000] (.bool (inB ((spK ss i).wa) 0 2000)) A137 S111 (Within_s ((spK ss i).wa) 0 2000 _) Try.call5 (by kernel_rfl) (by kernel_rfl) (by kernel_rfl) rfl (fun ac wc A138 S139 => ?_)
                refine s_want (dj := 51) (b := (!(inB ((spK ss i).la) 1 1000000))) A138 (by kernel_rfl) (by kernel_rfl) h115 ?_
                refine s_one (.bool (!(inB ((spK ss i).wa) 0 2000))) A138 S139 (g_un (u := .bool (inB ((spK ss i).wa) 0 2000)) (by kernel_rfl) (fun _ => by kernel_rfl)) rfl (fun ac A141 => ?_)
                refine s_one (.bool (!(inB ((spK ss i).wa) 0 2000))) A141 S139 (g_pick_f (b := (!(inB ((spK ss i).la) 1 1000000))) (by kernel_rfl) h115 (by kernel_rfl)) rfl (fun ac A142 => ?_)
                refine wpList_nil ?_
                refine n_then ?_
                exact ⟨(A142.slot (A142.slot (A142.slot (A142.slot (A142.slot (A142.slot (A142.slot (A142.slot (A142.slot (A142.slot (A142.slot (A142.slot (A142.slot (A142.slot (A142.slot (A142.slot (A142.slot (A142.slot (A142.slot (A142.slot (A142.slot (A142.slot (A142.slot (A142.slot A142.nil (v := .bool (decide ((k : Int) < (i : Int)))) (by kernel_rfl) rfl) (v := .int .i64 (i : Int)) (by kernel_rfl) rfl) (v := .int .i64 (k : Int)) (by kernel_rfl) rfl) (v := .int .i64 (k : Int)) (by kernel_rfl) rfl) (v := .bool (!(nameB ((spK ss i).nm)))) (by kernel_rfl) rfl) (v := .bool (nameB ((spK ss i).nm))) (by kernel_rfl) rfl) (v := .string ⟨((spK ss i).nm).toArray⟩) (by kernel_rfl) rfl) (v := .pointer (some (ad31.add (i * 4 + 0)))) (by kernel_rfl) rfl) (v := .pointer (some (ad31.add (i * 4)))) (by kernel_rfl) rfl) (v := .int .i64 (i : Int)) (by kernel_rfl) rfl) (v := .slice A ss.length cap) (by kernel_rfl) rfl) (v := .bool (decide ((i : Int) < (ss.length : Int)))) (by kernel_rfl) rfl) (v := .int .i64 (ss.length : Int)) (by kernel_rfl) rfl) (v := .slice A ss.length cap) (by kernel_rfl) rfl) (v := .int .i64 (i : Int)) (by kernel_rfl) rfl) (v := .int .i64 (i : Int)) (by kernel_rfl) rfl) (v := .bool (decide ((ss.length : Int) > 10))) (by kernel_rfl) rfl) (v := .int .i64 (ss.length : Int)) (by kernel_rfl) rfl) (v := .slice A ss.length cap) (by kernel_rfl) rfl) (v := .bool (decide ((ss.length : Int) = 0))) (by kernel_rfl) rfl) (v := .int .i64 (ss.length : Int)) (by kernel_rfl) rfl) (v := .slice A ss.length cap) (by kernel_rfl) rfl) (v := .slice A ss.length cap) (by kernel_rfl) rfl) (v := .bool (!(inB ((spK ss i).wa) 0 2000))) (by kernel_rfl) (congrArg Value.bool (b_or_f h115 (Eq.refl (!(inB ((spK ss i).wa) 0 2000)))).symm)), S139.sub sub_all sub_all⟩
            · rintro ac wc ⟨A143, S144⟩
              refine n_then ?_
              refine c_ifb (b := ((!(inB ((spK ss i).la) 1 1000000)) || (!(inB ((spK ss i).wa) 0 2000)))) A143 (by kernel_rfl) (fun h145 => ?_) (fun h145 => ?_)
              · refine wp_seq ?_
                refine wp_region_lit ?_
                refine s_one (.int .i64 (i : Int)) A143 S144 (g_move (by kernel_rfl)) rfl (fun ac A146 => ?_)
                refine s_one (.int .i64 (i : Int)) A146 S144 (g_assign (by kernel_rfl)) rfl (fun ac A147 => ?_)
                refine s_one (.int .i64 2) A147 S144 (g_assign (by kernel_rfl)) rfl (fun ac A148 => ?_)
                refine wpList_nil ?_
                refine n_then ?_
                refine wp_ret ?_
                refine r_then ?_
                refine r_block ?_
                refine r_then ?_
                refine r_then ?_
                refine r_block ?_
                refine r_then ?_
                refine fin2 (.int .i64 (i : Int)) (.int .i64 2) Try.results15 A148 S144 (rv_tmp (by kernel_rfl)) (rv_tmp (by kernel_rfl)) ⟨⟨((i : Int), 2), fun h => absurd (show (2 : Int) = 0 from h) (by decide)⟩, rfl, S144.sub sub_all sub_all⟩
              · have h149 := (Bool.or_eq_false_iff.1 h145).1
                have h150 : inB ((spK ss i).la) 1 1000000 = true := by simpa using h149
                have h151 := (Bool.or_eq_false_iff.1 h145).2
                have h152 : inB ((spK ss i).wa) 0 2000 = true := by simpa using h151
                refine wp_skip ?_
                refine n_then ?_
                refine wp_seq ?_
                refine wp_region_lit ?_
                refine s_one (.int .i64 0) A143 S144 (g_assign (by kernel_rfl)) rfl (fun ac A153 => ?_)
                refine wpList_nil ?_
                refine n_then ?_
                refine wp_block ?_
                refine c_loopN (fun mm ac wc => ∃ (q : Nat), mm = (spK ss i).ne.length - q ∧ (q ≤ (spK ss i).ne.length) ∧ (∀ j, j < q → 0 ≤ nthI (spK ss i).ne j ∧ nthI (spK ss i).ne j ≤ (i : Int) - 1) ∧ (∀ j, 0 < j → j < q → nthI (spK ss i).ne (j - 1) < nthI (spK ss i).ne j) ∧ Fr 107 ac [(0, .slice A ss.length cap), (7, .slice A ss.length cap), (8, .int .i64 (ss.length : Int)), (9, .bool (decide ((ss.length : Int) = 0))), (10, .slice A ss.length cap), (11, .int .i64 (ss.length : Int)), (12, .bool (decide ((ss.length : Int) > 10))), (4, .int .i64 (i : Int)), (13, .int .i64 (i : Int)), (14, .slice A ss.length cap), (15, .int .i64 (ss.length : Int)), (16, .bool (decide ((i : Int) < (ss.length : Int)))), (19, .slice A ss.length cap), (20, .int .i64 (i : Int)), (21, .pointer (some (ad31.add (i * 4)))), (22, .pointer (some (ad31.add (i * 4 + 0)))), (23, .string ⟨((spK ss i).nm).toArray⟩), (24, .bool (nameB ((spK ss i).nm))), (25, .bool (!(nameB ((spK ss i).nm)))), (5, .int .i64 (k : Int)), (27, .int .i64 (k : Int)), (28, .int .i64 (i : Int)), (29, .bool (decide ((k : Int) < (i : Int)))), (59, .bool ((!(inB ((spK ss i).la) 1 1000000)) || (!(inB ((spK ss i).wa) 0 2000)))), (6, .int .i64 (q : Int))] ∧ St w0 [] [] wc) _ ⟨0, rfl, Nat.zero_le _, fun j hj => absurd hj (Nat.not_lt_zero j), fun j _ hj => absurd hj (Nat.not_lt_zero j), (A153.slot (A153.slot (A153.slot (A153.slot (A153.slot (A153.slot (A153.slot (A153.slot (A153.slot (A153.slot (A153.slot (A153.slot (A153.slot (A153.slot (A153.slot (A153.slot (A153.slot (A153.slot (A153.slot (A153.slot (A153.slot (A153.slot (A153.slot (A153.slot (A153.slot A153.nil (v := .int .i64 0) (by kernel_rfl) (congrArg (Value.int .i64) (by omega))) (v := .bool ((!(inB ((spK ss i).la) 1 1000000)) || (!(inB ((spK ss i).wa) 0 2000)))) (by kernel_rfl) rfl) (v := .bool (decide ((k : Int) < (i : Int)))) (by kernel_rfl) rfl) (v := .int .i64 (i : Int)) (by kernel_rfl) rfl) (v := .int .i64 (k : Int)) (by kernel_rfl) rfl) (v := .int .i64 (k : Int)) (by kernel_rfl) rfl) (v := .bool (!(nameB ((spK ss i).nm)))) (by kernel_rfl) rfl) (v := .bool (nameB ((spK ss i).nm))) (by kernel_rfl) rfl) (v := .string ⟨((spK ss i).nm).toArray⟩) (by kernel_rfl) rfl) (v := .pointer (some (ad31.add (i * 4 + 0)))) (by kernel_rfl) rfl) (v := .pointer (some (ad31.add (i * 4)))) (by kernel_rfl) rfl) (v := .int .i64 (i : Int)) (by kernel_rfl) rfl) (v := .slice A ss.length cap) (by kernel_rfl) rfl) (v := .bool (decide ((i : Int) < (ss.length : Int)))) (by kernel_rfl) rfl) (v := .int .i64 (ss.length : Int)) (by kernel_rfl) rfl) (v := .slice A ss.length cap) (by kernel_rfl) rfl) (v := .int .i64 (i : Int)) (by kernel_rfl) rfl) (v := .int .i64 (i : Int)) (by kernel_rfl) rfl) (v := .bool (decide ((ss.length : Int) > 10))) (by kernel_rfl) rfl) (v := .int .i64 (ss.length : Int)) (by kernel_rfl) rfl) (v := .slice A ss.length cap) (by kernel_rfl) rfl) (v := .bool (decide ((ss.length : Int) = 0))) (by kernel_rfl) rfl) (v := .int .i64 (ss.length : Int)) (by kernel_rfl) rfl) (v := .slice A ss.length cap) (by kernel_rfl) rfl) (v := .slice A ss.length cap) (by kernel_rfl) rfl), S144.sub sub_all sub_all⟩ ?_
                rintro mm ac wc ⟨q, hm156, hq, hn, ho, A154, S155⟩
                refine wp_seq ?_
                refine wp_seq ?_
                refine wp_region_lit ?_
                refine s_one (.int .i64 (q : Int)) A154 S155 (g_move (by kernel_rfl)) rfl (fun ac A157 => ?_)
                refine s_one (.slice A ss.length cap) A157 S155 (g_move (by kernel_rfl)) rfl (fun ac A158 => ?_)
                refine s_one (.int .i64 (i : Int)) A158 S155 (g_move (by kernel_rfl)) rfl (fun ac A159 => ?_)
                obtain ⟨ad160, B161, c162, he163, hs164⟩ := hr i (by omega)
                have hm165 := hs164.hm
                have hm166 := hs164.hn
                refine s_one (.pointer (some (ad160.add (i * 4)))) A159 S155 (g_index (u := .slice A ss.length cap) (k := .int .i64 (i : Int)) (by kernel_rfl) (by kernel_rfl) (ix_xsB (e := 59) (size := 4) (bytes := 56) i (by kernel_rfl) (by omega) (by omega) he163)) rfl (fun ac A167 => ?_)
                refine s_one (.pointer (some (ad160.add (i * 4 + 3)))) A167 S155 (g_field (u := .pointer (some (ad160.add (i * 4)))) (by kernel_rfl) (fld_x (x := i * 4) (o := 3) (by kernel_rfl))) rfl (fun ac A168 => ?_)
                refine s_one (.slice B161 ((spK ss i).ne.length) c162) A168 S155 (g_loadX (ad := ad160.add (i * 4 + 3)) (by kernel_rfl) (sp_cell (j := 3) hs164 rfl rfl) (by kernel_rfl)) rfl (fun ac A169 => ?_)
                refine s_one (.int .i64 ((spK ss i).ne.length : Int)) A169 S155 (g_built (r := [(0, .slice B161 ((spK ss i).ne.length) c162)]) (by kernel_rfl) (fun _ _ _ => by kernel_rfl)) rfl (fun ac A170 => ?_)
                refine s_one (.bool (decide ((q : Int) < ((spK ss i).ne.length : Int)))) A170 S155 (g_bin (u := .int .i64 (q : Int)) (k := .int .i64 ((spK ss i).ne.length : Int)) (by kernel_rfl) (by kernel_rfl) (fun _ => by kernel_rfl) (fun _ => by kernel_rfl)) rfl (fun ac A171 => ?_)
                refine wpList_nil ?_
                refine n_then ?_
                refine c_ifb (b := (decide ((q : Int) < ((spK ss i).ne.length : Int)))) A171 (by kernel_rfl) (fun h172 => ?_) (fun h172 => ?_)
                · have p173 := of_decide_eq_true h172
                  refine wp_skip ?_
                  refine n_then ?_
                  refine wp_seq ?_
                  refine wp_block ?_
                  refine wp_seq ?_
                  refine wp_seq ?_
                  refine wp_region_lit ?_
                  refine s_one (.slice A ss.length cap) A171 S155 (g_move (by kernel_rfl)) rfl (fun ac A174 => ?_)
                  refine s_one (.int .i64 (i : Int)) A174 S155 (g_move (by kernel_rfl)) rfl (fun ac A175 => ?_)
                  obtain ⟨ad176, B177, c178, he179, hs180⟩ := hr i (by omega)
                  have hm181 := hs180.hm
                  have hm182 := hs180.hn
                  refine s_one (.pointer (some (ad176.add (i * 4)))) A175 S155 (g_index (u := .slice A ss.length cap) (k := .int .i64 (i : Int)) (by kernel_rfl) (by kernel_rfl) (ix_xsB (e := 59) (size := 4) (bytes := 56) i (by kernel_rfl) (by omega) (by omega) he179)) rfl (fun ac A183 => ?_)
                  refine s_one (.pointer (some (ad176.add (i * 4 + 3)))) A183 S155 (g_field (u := .pointer (some (ad176.add (i * 4)))) (by kernel_rfl) (fld_x (x := i * 4) (o := 3) (by kernel_rfl))) rfl (fun ac A184 => ?_)
                  refine s_one (.slice B177 ((spK ss i).ne.length) c178) A184 S155 (g_loadX (ad := ad176.add (i * 4 + 3)) (by kernel_rfl) (sp_cell (j := 3) hs180 rfl rfl) (by kernel_rfl)) rfl (fun ac A185 => ?_)
                  refine s_one (.int .i64 (q : Int)) A185 S155 (g_move (by kernel_rfl)) rfl (fun ac A186 => ?_)
                  obtain ⟨ad187, rfl, _⟩ := hs180.rd (q) (by have hlen := (show (spK ss i).ne.length = (spK ss i).ne.length * 1 by omega); omega)
                  refine s_one (.pointer (some (ad187.add q))) A186 S155 (g_index (u := .slice (some ad187) ((spK ss i).ne.length) c178) (k := .int .i64 (q : Int)) (by kernel_rfl) (by kernel_rfl) (ix_x (e := 3) (bytes := 8) q (by kernel_rfl) (by omega) (by omega))) rfl (fun ac A188 => ?_)
                  refine s_one (.int .i64 (nthI ((spK ss i).ne) q)) A188 S155 (g_loadXI (l := (spK ss i).ne) (k := q) (by kernel_rfl) hs180.rd (by have hlen := (show (spK ss i).ne.length = (spK ss i).ne.length * 1 by omega); omega) (by kernel_rfl)) rfl (fun ac A189 => ?_)
                  refine s_one (.int .i64 (i : Int)) A189 S155 (g_move (by kernel_rfl)) rfl (fun ac A190 => ?_)
                  refine s_one (.int .i64 ((i : Int) - 1)) A190 S155 (g_bin (u := .int .i64 (i : Int)) (k := .int .i64 1) (by kernel_rfl) (by kernel_rfl) (fun _ => by kernel_rfl) (b_sub (by omega))) rfl (fun ac A191 => ?_)
                  refine s_call (fs := #[]) (cp := #[]) (r := [(0, .int .i64 (nthI ((spK ss i).ne) q)), (0, .int .i64 0), (0, .int .i64 ((i : Int) - 1))]) #[.int .i64 (nthI ((spK ss i).ne) q), .int .i64 0, .int .i64 ((i : Int) - 1)] (.bool (inB (nthI ((spK ss i).ne) q) 0 ((i : Int) - 1))) A191 S155 (Within_s (nthI ((spK ss i).ne) q) 0 ((i : Int) - 1) _) Try.call5 (by kernel_rfl) (by kernel_rfl) (by kernel_rfl) rfl (fun ac wc A192 S193 => ?_)
                  refine s_one (.bool (!(inB (nthI ((spK ss i).ne) q) 0 ((i : Int) - 1)))) A192 S193 (g_un (u := .bool (inB (nthI ((spK ss i).ne) q) 0 ((i : Int) - 1))) (by kernel_rfl) (fun _ => by kernel_rfl)) rfl (fun ac A195 => ?_)
                  refine wpList_nil ?_
                  refine n_then ?_
                  refine c_ifb (b := (!(inB (nthI ((spK ss i).ne) q) 0 ((i : Int) - 1)))) A195 (by kernel_rfl) (fun h196 => ?_) (fun h196 => ?_)
                  · have h197 : inB (nthI ((spK ss i).ne) q) 0 ((i : Int) - 1) = false := by simpa using h196
                    refine wp_seq ?_
                    refine wp_region_lit ?_
                    refine s_one (.int .i64 (i : Int)) A195 S193 (g_move (by kernel_rfl)) rfl (fun ac A198 => ?_)
                    refine s_one (.int .i64 (i : Int)) A198 S193 (g_assign (by kernel_rfl)) rfl (fun ac A199 => ?_)
                    refine s_one (.int .i64 6) A199 S193 (g_assign (by kernel_rfl)) rfl (fun ac A200 => ?_)
                    refine wpList_nil ?_
                    refine n_then ?_
                    refine wp_ret ?_
                    refine r_then ?_
                    refine r_block ?_
                    refine r_then ?_
                    refine r_then ?_
                    refine r_block ?_
                    refine r_block ?_
                    refine r_then ?_
                    refine r_then ?_
                    refine r_block ?_
                    refine r_then ?_
                    refine fin2 (.int .i64 (i : Int)) (.int .i64 6) Try.results15 A200 S193 (rv_tmp (by kernel_rfl)) (rv_tmp (by kernel_rfl)) ⟨⟨((i : Int), 6), fun h => absurd (show (6 : Int) = 0 from h) (by decide)⟩, rfl, S193.sub sub_all sub_all⟩
                  · have h201 : inB (nthI ((spK ss i).ne) q) 0 ((i : Int) - 1) = true := by simpa using h196
                    refine wp_skip ?_
                    refine n_then ?_
                    refine wp_seq ?_
                    refine c_cut (fun ac wc => Fr 107 ac [(105, .bool ((decide ((q : Int) > 0)) && (decide (nthI ((spK ss i).ne) q ≤ nthI ((spK ss i).ne) (q - 1))))), (0, .slice A ss.length cap), (7, .slice A ss.length cap), (8, .int .i64 (ss.length : Int)), (9, .bool (decide ((ss.length : Int) = 0))), (10, .slice A ss.length cap), (11, .int .i64 (ss.length : Int)), (12, .bool (decide ((ss.length : Int) > 10))), (4, .int .i64 (i : Int)), (13, .int .i64 (i : Int)), (14, .slice A ss.length cap), (15, .int .i64 (ss.length : Int)), (16, .bool (decide ((i : Int) < (ss.length : Int)))), (19, .slice A ss.length cap), (20, .int .i64 (i : Int)), (21, .pointer (some (ad31.add (i * 4)))), (22, .pointer (some (ad31.add (i * 4 + 0)))), (23, .string ⟨((spK ss i).nm).toArray⟩), (24, .bool (nameB ((spK ss i).nm))), (25, .bool (!(nameB ((spK ss i).nm)))), (5, .int .i64 (k : Int)), (27, .int .i64 (k : Int)), (28, .int .i64 (i : Int)), (29, .bool (decide ((k : Int) < (i : Int)))), (59, .bool ((!(inB ((spK ss i).la) 1 1000000)) || (!(inB ((spK ss i).wa) 0 2000)))), (6, .int .i64 (q : Int)), (61, .int .i64 (q : Int)), (62, .slice A ss.length cap), (63, .int .i64 (i : Int)), (64, .pointer (some (ad160.add (i * 4)))), (65, .pointer (some (ad160.add (i * 4 + 3)))), (66, .slice B161 ((spK ss i).ne.length) c162), (67, .int .i64 ((spK ss i).ne.length : Int)), (68, .bool (decide ((q : Int) < ((spK ss i).ne.length : Int)))), (71, .slice A ss.length cap), (72, .int .i64 (i : Int)), (73, .pointer (some (ad176.add (i * 4)))), (74, .pointer (some (ad176.add (i * 4 + 3)))), (75, .slice (some ad187) ((spK ss i).ne.length) c178), (76, .int .i64 (q : Int)), (77, .pointer (some (ad187.add q))), (78, .int .i64 (nthI ((spK ss i).ne) q)), (79, .int .i64 (i : Int)), (80, .int .i64 ((i : Int) - 1)), (81, .bool (inB (nthI ((spK ss i).ne) q) 0 ((i : Int) - 1))), (82, .bool (!(inB (nthI ((spK ss i).ne) q) 0 ((i : Int) - 1))))] ∧ St w0 [] [] wc) ?_ ?_
                    · refine r_begin (w0 := w0) (by kernel_rfl) (S193.sub sub_all sub_all) (fun wc T202 B203 => ?_)
                      have S204 := S193.kept B203
                      refine r_take 0 (.int .i64 (q : Int)) A195 T202 (g_move (by kernel_rfl)) rfl rfl rfl (pf_then (pf_then (pf_block (pf_then (pf_then (pf_block (pf_block (pf_then (pf_then (pf_block (pf_then pf_body))))))))))) (by kernel_rfl) (fun ac A205 => ?_)
                      refine r_take 1 (.bool (decide ((q : Int) > 0))) A205 T202 (g_bin (u := .int .i64 (q : Int)) (k := .int .i64 0) (by kernel_rfl) (by kernel_rfl) (fun _ => by kernel_rfl) (fun _ => by kernel_rfl)) rfl rfl rfl (pf_then (pf_then (pf_block (pf_then (pf_then (pf_block (pf_block (pf_then (pf_then (pf_block (pf_then pf_body))))))))))) (by kernel_rfl) (fun ac A206 => ?_)
                      refine r_take 2 (.bool (decide ((q : Int) > 0))) A206 T202 (g_move (by kernel_rfl)) rfl rfl rfl (pf_then (pf_then (pf_block (pf_then (pf_then (pf_block (pf_block (pf_then (pf_then (pf_block (pf_then pf_body))))))))))) (by kernel_rfl) (fun ac A207 => ?_)
                      refine by_bool (decide ((q : Int) > 0)) (fun h208 => ?_) (fun h208 => ?_)
                      · have p209 := of_decide_eq_true h208
                        refine r_take 3 (.slice A ss.length cap) A207 T202 (g_move (by kernel_rfl)) rfl (want_t (dj := 86) (b := (decide ((q : Int) > 0))) A207 rfl (by kernel_rfl) (by kernel_rfl) h208) rfl (pf_then (pf_then (pf_block (pf_then (pf_then (pf_block (pf_block (pf_then (pf_then (pf_block (pf_then pf_body))))))))))) (by kernel_rfl) (fun ac A210 => ?_)
                        refine r_take 4 (.int .i64 (i : Int)) A210 T202 (g_move (by kernel_rfl)) rfl (want_t (dj := 86) (b := (decide ((q : Int) > 0))) A210 rfl (by kernel_rfl) (by kernel_rfl) h208) rfl (pf_then (pf_then (pf_block (pf_then (pf_then (pf_block (pf_block (pf_then (pf_then (pf_block (pf_then pf_body))))))))))) (by kernel_rfl) (fun ac A211 => ?_)
                        obtain ⟨ad212, B213, c214, he215, hs216⟩ := hr i (by omega)
                        have hm217 := hs216.hm
                        have hm218 := hs216.hn
                        refine r_take 5 (.pointer (some (ad212.add (i * 4)))) A211 T202 (g_index (u := .slice A ss.length cap) (k := .int .i64 (i : Int)) (by kernel_rfl) (by kernel_rfl) (ix_xsB (e := 59) (size := 4) (bytes := 56) i (by kernel_rfl) (by omega) (by omega) he215)) rfl (want_t (dj := 86) (b := (decide ((q : Int) > 0))) A211 rfl (by kernel_rfl) (by kernel_rfl) h208) rfl (pf_then (pf_then (pf_block (pf_then (pf_then (pf_block (pf_block (pf_then (pf_then (pf_block (pf_then pf_body))))))))))) (by kernel_rfl) (fun ac A219 => ?_)
                        refine r_take 6 (.pointer (some (ad212.add (i * 4 + 3)))) A219 T202 (g_field (u := .pointer (some (ad212.add (i * 4)))) (by kernel_rfl) (fld_x (x := i * 4) (o := 3) (by kernel_rfl))) rfl (want_t (dj := 86) (b := (decide ((q : Int) > 0))) A219 rfl (by kernel_rfl) (by kernel_rfl) h208) rfl (pf_then (pf_then (pf_block (pf_then (pf_then (pf_block (pf_block (pf_then (pf_then (pf_block (pf_then pf_body))))))))))) (by kernel_rfl) (fun ac A220 => ?_)
                        refine r_take 7 (.slice B213 ((spK ss i).ne.length) c214) A220 T202 (g_loadX (ad := ad212.add (i * 4 + 3)) (by kernel_rfl) (sp_cell (j := 3) hs216 rfl rfl) (by kernel_rfl)) rfl (want_t (dj := 86) (b := (decide ((q : Int) > 0))) A220 rfl (by kernel_rfl) (by kernel_rfl) h208) rfl (pf_then (pf_then (pf_block (pf_then (pf_then (pf_block (pf_block (pf_then (pf_then (pf_block (pf_then pf_body))))))))))) (by kernel_rfl) (fun ac A221 => ?_)
                        refine r_take 8 (.int .i64 (q : Int)) A221 T202 (g_move (by kernel_rfl)) rfl (want_t (dj := 86) (b := (decide ((q : Int) > 0))) A221 rfl (by kernel_rfl) (by kernel_rfl) h208) rfl (pf_then (pf_then (pf_block (pf_then (pf_then (pf_block (pf_block (pf_then (pf_then (pf_block (pf_then pf_body))))))))))) (by kernel_rfl) (fun ac A222 => ?_)
                        obtain ⟨ad223, rfl, _⟩ := hs216.rd (q) (by have hlen := (show (spK ss i).ne.length = (spK ss i).ne.length * 1 by omega); omega)
                        refine r_take 9 (.pointer (some (ad223.add q))) A222 T202 (g_index (u := .slice (some ad223) ((spK ss i).ne.length) c214) (k := .int .i64 (q : Int)) (by kernel_rfl) (by kernel_rfl) (ix_x (e := 3) (bytes := 8) q (by kernel_rfl) (by omega) (by omega))) rfl (want_t (dj := 86) (b := (decide ((q : Int) > 0))) A222 rfl (by kernel_rfl) (by kernel_rfl) h208) rfl (pf_then (pf_then (pf_block (pf_then (pf_then (pf_block (pf_block (pf_then (pf_then (pf_block (pf_then pf_body))))))))))) (by kernel_rfl) (fun ac A224 => ?_)
                        refine r_take 10 (.int .i64 (nthI ((spK ss i).ne) q)) A224 T202 (g_loadXI (l := (spK ss i).ne) (k := q) (by kernel_rfl) hs216.rd (by have hlen := (show (spK ss i).ne.length = (spK ss i).ne.length * 1 by omega); omega) (by kernel_rfl)) rfl (want_t (dj := 86) (b := (decide ((q : Int) > 0))) A224 rfl (by kernel_rfl) (by kernel_rfl) h208) rfl (pf_then (pf_then (pf_block (pf_then (pf_then (pf_block (pf_block (pf_then (pf_then (pf_block (pf_then pf_body))))))))))) (by kernel_rfl) (fun ac A225 => ?_)
                        refine r_take 11 (.slice A ss.length cap) A225 T202 (g_move (by kernel_rfl)) rfl (want_t (dj := 86) (b := (decide ((q : Int) > 0))) A225 rfl (by kernel_rfl) (by kernel_rfl) h208) rfl (pf_then (pf_then (pf_block (pf_then (pf_then (pf_block (pf_block (pf_then (pf_then (pf_block (pf_then pf_body))))))))))) (by kernel_rfl) (fun ac A226 => ?_)
                        refine r_take 12 (.int .i64 (i : Int)) A226 T202 (g_move (by kernel_rfl)) rfl (want_t (dj := 86) (b := (decide ((q : Int) > 0))) A226 rfl (by kernel_rfl) (by kernel_rfl) h208) rfl (pf_then (pf_then (pf_block (pf_then (pf_then (pf_block (pf_block (pf_then (pf_then (pf_block (pf_then pf_body))))))))))) (by kernel_rfl) (fun ac A227 => ?_)
                        obtain ⟨ad228, B229, c230, he231, hs232⟩ := hr i (by omega)
                        have hm233 := hs232.hm
                        have hm234 := hs232.hn
                        refine r_take 13 (.pointer (some (ad228.add (i * 4)))) A227 T202 (g_index (u := .slice A ss.length cap) (k := .int .i64 (i : Int)) (by kernel_rfl) (by kernel_rfl) (ix_xsB (e := 59) (size := 4) (bytes := 56) i (by kernel_rfl) (by omega) (by omega) he231)) rfl (want_t (dj := 86) (b := (decide ((q : Int) > 0))) A227 rfl (by kernel_rfl) (by kernel_rfl) h208) rfl (pf_then (pf_then (pf_block (pf_then (pf_then (pf_block (pf_block (pf_then (pf_then (pf_block (pf_then pf_body))))))))))) (by kernel_rfl) (fun ac A235 => ?_)
                        refine r_take 14 (.pointer (some (ad228.add (i * 4 + 3)))) A235 T202 (g_field (u := .pointer (some (ad228.add (i * 4)))) (by kernel_rfl) (fld_x (x := i * 4) (o := 3) (by kernel_rfl))) rfl (want_t (dj := 86) (b := (decide ((q : Int) > 0))) A235 rfl (by kernel_rfl) (by kernel_rfl) h208) rfl (pf_then (pf_then (pf_block (pf_then (pf_then (pf_block (pf_block (pf_then (pf_then (pf_block (pf_then pf_body))))))))))) (by kernel_rfl) (fun ac A236 => ?_)
                        refine r_take 15 (.slice B229 ((spK ss i).ne.length) c230) A236 T202 (g_loadX (ad := ad228.add (i * 4 + 3)) (by kernel_rfl) (sp_cell (j := 3) hs232 rfl rfl) (by kernel_rfl)) rfl (want_t (dj := 86) (b := (decide ((q : Int) > 0))) A236 rfl (by kernel_rfl) (by kernel_rfl) h208) rfl (pf_then (pf_then (pf_block (pf_then (pf_then (pf_block (pf_block (pf_then (pf_then (pf_block (pf_then pf_body))))))))))) (by kernel_rfl) (fun ac A237 => ?_)
                        refine r_take 16 (.int .i64 (q : Int)) A237 T202 (g_move (by kernel_rfl)) rfl (want_t (dj := 86) (b := (decide ((q : Int) > 0))) A237 rfl (by kernel_rfl) (by kernel_rfl) h208) rfl (pf_then (pf_then (pf_block (pf_then (pf_then (pf_block (pf_block (pf_then (pf_then (pf_block (pf_then pf_body))))))))))) (by kernel_rfl) (fun ac A238 => ?_)
                        refine r_take 17 (.int .i64 ((q : Int) - 1)) A238 T202 (g_bin (u := .int .i64 (q : Int)) (k := .int .i64 1) (by kernel_rfl) (by kernel_rfl) (fun _ => by kernel_rfl) (b_sub (by omega))) rfl (want_t (dj := 86) (b := (decide ((q : Int) > 0))) A238 rfl (by kernel_rfl) (by kernel_rfl) h208) rfl (pf_then (pf_then (pf_block (pf_then (pf_then (pf_block (pf_block (pf_then (pf_then (pf_block (pf_then pf_body))))))))))) (by kernel_rfl) (fun ac A239 => ?_)
                        obtain ⟨ad240, rfl, _⟩ := hs232.rd (q - 1) (by have hlen := (show (spK ss i).ne.length = (spK ss i).ne.length * 1 by omega); omega)
                        refine r_take 18 (.pointer (some (ad240.add (q - 1)))) A239 T202 (g_index (u := .slice (some ad240) ((spK ss i).ne.length) c230) (k := .int .i64 ((q : Int) - 1)) (by kernel_rfl) (by kernel_rfl) (ix_x (e := 3) (bytes := 8) (q - 1) (by kernel_rfl) (by omega) (by omega))) rfl (want_t (dj := 86) (b := (decide ((q : Int) > 0))) A239 rfl (by kernel_rfl) (by kernel_rfl) h208) rfl (pf_then (pf_then (pf_block (pf_then (pf_then (pf_block (pf_block (pf_then (pf_then (pf_block (pf_then pf_body))))))))))) (by kernel_rfl) (fun ac A241 => ?_)
                        refine r_take 19 (.int .i64 (nthI ((spK ss i).ne) (q - 1))) A241 T202 (g_loadXI (l := (spK ss i).ne) (k := q - 1) (by kernel_rfl) hs232.rd (by have hlen := (show (spK ss i).ne.length = (spK ss i).ne.length * 1 by omega); omega) (by kernel_rfl)) rfl (want_t (dj := 86) (b := (decide ((q : Int) > 0))) A241 rfl (by kernel_rfl) (by kernel_rfl) h208) rfl (pf_then (pf_then (pf_block (pf_then (pf_then (pf_block (pf_block (pf_then (pf_then (pf_block (pf_then pf_body))))))))))) (by kernel_rfl) (fun ac A242 => ?_)
                        refine r_take 20 (.bool (decide (nthI ((spK ss i).ne) q ≤ nthI ((spK ss i).ne) (q - 1)))) A242 T202 (g_bin (u := .int .i64 (nthI ((spK ss i).ne) q)) (k := .int .i64 (nthI ((spK ss i).ne) (q - 1))) (by kernel_rfl) (by kernel_rfl) (fun _ => by kernel_rfl) (fun _ => by kernel_rfl)) rfl (want_t (dj := 86) (b := (decide ((q : Int) > 0))) A242 rfl (by kernel_rfl) (by kernel_rfl) h208) rfl (pf_then (pf_then (pf_block (pf_then (pf_then (pf_block (pf_block (pf_then (pf_then (pf_block (pf_then pf_body))))))))))) (by kernel_rfl) (fun ac A243 => ?_)
                        refine r_take 21 (.bool (decide (nthI ((spK ss i).ne) q ≤ nthI ((spK ss i).ne) (q - 1)))) A243 T202 (g_pick_t (b := (decide ((q : Int) > 0))) (by kernel_rfl) h208 (by kernel_rfl)) rfl rfl rfl (pf_then (pf_then (pf_block (pf_then (pf_then (pf_block (pf_block (pf_then (pf_then (pf_block (pf_then pf_body))))))))))) (by kernel_rfl) (fun ac A244 => ?_)
                        refine r_done (by kernel_rfl) ?_
                        refine n_then ?_
                        exact ⟨(A244.slot (A244.slot (A244.slot (A244.slot (A244.slot (A244.slot (A244.slot (A244.slot (A244.slot (A244.slot (A244.slot (A244.slot (A244.slot (A244.slot (A244.slot (A244.slot (A244.slot (A244.slot (A244.slot (A244.slot (A244.slot (A244.slot (A244.slot (A244.slot (A244.slot (A244.slot (A244.slot (A244.slot (A244.slot (A244.slot (A244.slot (A244.slot (A244.slot (A244.slot (A244.slot (A244.slot (A244.slot (A244.slot (A244.slot (A244.slot (A244.slot (A244.slot (A244.slot (A244.slot (A244.slot (A244.slot A244.nil (v := .bool (!(inB (nthI ((spK ss i).ne) q) 0 ((i : Int) - 1)))) (by kernel_rfl) rfl) (v := .bool (inB (nthI ((spK ss i).ne) q) 0 ((i : Int) - 1))) (by kernel_rfl) rfl) (v := .int .i64 ((i : Int) - 1)) (by kernel_rfl) rfl) (v := .int .i64 (i : Int)) (by kernel_rfl) rfl) (v := .int .i64 (nthI ((spK ss i).ne) q)) (by kernel_rfl) rfl) (v := .pointer (some (ad187.add q))) (by kernel_rfl) rfl) (v := .int .i64 (q : Int)) (by kernel_rfl) rfl) (v := .slice (some ad187) ((spK ss i).ne.length) c178) (by kernel_rfl) rfl) (v := .pointer (some (ad176.add (i * 4 + 3)))) (by kernel_rfl) rfl) (v := .pointer (some (ad176.add (i * 4)))) (by kernel_rfl) rfl) (v := .int .i64 (i : Int)) (by kernel_rfl) rfl) (v := .slice A ss.length cap) (by kernel_rfl) rfl) (v := .bool (decide ((q : Int) < ((spK ss i).ne.length : Int)))) (by kernel_rfl) rfl) (v := .int .i64 ((spK ss i).ne.length : Int)) (by kernel_rfl) rfl) (v := .slice B161 ((spK ss i).ne.length) c162) (by kernel_rfl) rfl) (v := .pointer (some (ad160.add (i * 4 + 3)))) (by kernel_rfl) rfl) (v := .pointer (some (ad160.add (i * 4)))) (by kernel_rfl) rfl) (v := .int .i64 (i : Int)) (by kernel_rfl) rfl) (v := .slice A ss.length cap) (by kernel_rfl) rfl) (v := .int .i64 (q : Int)) (by kernel_rfl) rfl) (v := .int .i64 (q : Int)) (by kernel_rfl) rfl) (v := .bool ((!(inB ((spK ss i).la) 1 1000000)) || (!(inB ((spK ss i).wa) 0 2000)))) (by kernel_rfl) rfl) (v := .bool (decide ((k : Int) < (i : Int)))) (by kernel_rfl) rfl) (v := .int .i64 (i : Int)) (by kernel_rfl) rfl) (v := .int .i64 (k : Int)) (by kernel_rfl) rfl) (v := .int .i64 (k : Int)) (by kernel_rfl) rfl) (v := .bool (!(nameB ((spK ss i).nm)))) (by kernel_rfl) rfl) (v := .bool (nameB ((spK ss i).nm))) (by kernel_rfl) rfl) (v := .string ⟨((spK ss i).nm).toArray⟩) (by kernel_rfl) rfl) (v := .pointer (some (ad31.add (i * 4 + 0)))) (by kernel_rfl) rfl) (v := .pointer (some (ad31.add (i * 4)))) (by kernel_rfl) rfl) (v := .int .i64 (i : Int)) (by kernel_rfl) rfl) (v := .slice A ss.length cap) (by kernel_rfl) rfl) (v := .bool (decide ((i : Int) < (ss.length : Int)))) (by kernel_rfl) rfl) (v := .int .i64 (ss.length : Int)) (by kernel_rfl) rfl) (v := .slice A ss.length cap) (by kernel_rfl) rfl) (v := .int .i64 (i : Int)) (by kernel_rfl) rfl) (v := .int .i64 (i : Int)) (by kernel_rfl) rfl) (v := .bool (decide ((ss.length : Int) > 10))) (by kernel_rfl) rfl) (v := .int .i64 (ss.length : Int)) (by kernel_rfl) rfl) (v := .slice A ss.length cap) (by kernel_rfl) rfl) (v := .bool (decide ((ss.length : Int) = 0))) (by kernel_rfl) rfl) (v := .int .i64 (ss.length : Int)) (by kernel_rfl) rfl) (v := .slice A ss.length cap) (by kernel_rfl) rfl) (v := .slice A ss.length cap) (by kernel_rfl) rfl) (v := .bool (decide (nthI ((spK ss i).ne) q ≤ nthI ((spK ss i).ne) (q - 1)))) (by kernel_rfl) (congrArg Value.bool (b_and_t h208 (Eq.refl (decide (nthI ((spK ss i).ne) q ≤ nthI ((spK ss i).ne) (q - 1))))).symm)), S204.sub sub_all sub_all⟩
                      · have p245 := of_decide_eq_false h208
                        refine r_skip 3 A207 T202 rfl (want_f (dj := 86) (b := (decide ((q : Int) > 0))) A207 rfl (by kernel_rfl) (by kernel_rfl) h208) rfl (pf_then (pf_then (pf_block (pf_then (pf_then (pf_block (pf_block (pf_then (pf_then (pf_block (pf_then pf_body))))))))))) (by kernel_rfl) (fun ac A246 => ?_)
                        refine r_skip 4 A246 T202 rfl (want_f (dj := 86) (b := (decide ((q : Int) > 0))) A246 rfl (by kernel_rfl) (by kernel_rfl) h208) rfl (pf_then (pf_then (pf_block (pf_then (pf_then (pf_block (pf_block (pf_then (pf_then (pf_block (pf_then pf_body))))))))))) (by kernel_rfl) (fun ac A247 => ?_)
                        refine r_skip 5 A247 T202 rfl (want_f (dj := 86) (b := (decide ((q : Int) > 0))) A247 rfl (by kernel_rfl) (by kernel_rfl) h208) rfl (pf_then (pf_then (pf_block (pf_then (pf_then (pf_block (pf_block (pf_then (pf_then (pf_block (pf_then pf_body))))))))))) (by kernel_rfl) (fun ac A248 => ?_)
                        refine r_skip 6 A248 T202 rfl (want_f (dj := 86) (b := (decide ((q : Int) > 0))) A248 rfl (by kernel_rfl) (by kernel_rfl) h208) rfl (pf_then (pf_then (pf_block (pf_then (pf_then (pf_block (pf_block (pf_then (pf_then (pf_block (pf_then pf_body))))))))))) (by kernel_rfl) (fun ac A249 => ?_)
                        refine r_skip 7 A249 T202 rfl (want_f (dj := 86) (b := (decide ((q : Int) > 0))) A249 rfl (by kernel_rfl) (by kernel_rfl) h208) rfl (pf_then (pf_then (pf_block (pf_then (pf_then (pf_block (pf_block (pf_then (pf_then (pf_block (pf_then pf_body))))))))))) (by kernel_rfl) (fun ac A250 => ?_)
                        refine r_skip 8 A250 T202 rfl (want_f (dj := 86) (b := (decide ((q : Int) > 0))) A250 rfl (by kernel_rfl) (by kernel_rfl) h208) rfl (pf_then (pf_then (pf_block (pf_then (pf_then (pf_block (pf_block (pf_then (pf_then (pf_block (pf_then pf_body))))))))))) (by kernel_rfl) (fun ac A251 => ?_)
                        refine r_skip 9 A251 T202 rfl (want_f (dj := 86) (b := (decide ((q : Int) > 0))) A251 rfl (by kernel_rfl) (by kernel_rfl) h208) rfl (pf_then (pf_then (pf_block (pf_then (pf_then (pf_block (pf_block (pf_then (pf_then (pf_block (pf_then pf_body))))))))))) (by kernel_rfl) (fun ac A252 => ?_)
                        refine r_skip 10 A252 T202 rfl (want_f (dj := 86) (b := (decide ((q : Int) > 0))) A252 rfl (by kernel_rfl) (by kernel_rfl) h208) rfl (pf_then (pf_then (pf_block (pf_then (pf_then (pf_block (pf_block (pf_then (pf_then (pf_block (pf_then pf_body))))))))))) (by kernel_rfl) (fun ac A253 => ?_)
                        refine r_skip 11 A253 T202 rfl (want_f (dj := 86) (b := (decide ((q : Int) > 0))) A253 rfl (by kernel_rfl) (by kernel_rfl) h208) rfl (pf_then (pf_then (pf_block (pf_then (pf_then (pf_block (pf_block (pf_then (pf_then (pf_block (pf_then pf_body))))))))))) (by kernel_rfl) (fun ac A254 => ?_)
                        refine r_skip 12 A254 T202 rfl (want_f (dj := 86) (b := (decide ((q : Int) > 0))) A254 rfl (by kernel_rfl) (by kernel_rfl) h208) rfl (pf_then (pf_then (pf_block (pf_then (pf_then (pf_block (pf_block (pf_then (pf_then (pf_block (pf_then pf_body))))))))))) (by kernel_rfl) (fun ac A255 => ?_)
                        refine r_skip 13 A255 T202 rfl (want_f (dj := 86) (b := (decide ((q : Int) > 0))) A255 rfl (by kernel_rfl) (by kernel_rfl) h208) rfl (pf_then (pf_then (pf_block (pf_then (pf_then (pf_block (pf_block (pf_then (pf_then (pf_block (pf_then pf_body))))))))))) (by kernel_rfl) (fun ac A256 => ?_)
                        refine r_skip 14 A256 T202 rfl (want_f (dj := 86) (b := (decide ((q : Int) > 0))) A256 rfl (by kernel_rfl) (by kernel_rfl) h208) rfl (pf_then (pf_then (pf_block (pf_then (pf_then (pf_block (pf_block (pf_then (pf_then (pf_block (pf_then pf_body))))))))))) (by kernel_rfl) (fun ac A257 => ?_)
                        refine r_skip 15 A257 T202 rfl (want_f (dj := 86) (b := (decide ((q : Int) > 0))) A257 rfl (by kernel_rfl) (by kernel_rfl) h208) rfl (pf_then (pf_then (pf_block (pf_then (pf_then (pf_block (pf_block (pf_then (pf_then (pf_block (pf_then pf_body))))))))))) (by kernel_rfl) (fun ac A258 => ?_)
                        refine r_skip 16 A258 T202 rfl (want_f (dj := 86) (b := (decide ((q : Int) > 0))) A258 rfl (by kernel_rfl) (by kernel_rfl) h208) rfl (pf_then (pf_then (pf_block (pf_then (pf_then (pf_block (pf_block (pf_then (pf_then (pf_block (pf_then pf_body))))))))))) (by kernel_rfl) (fun ac A259 => ?_)
                        refine r_skip 17 A259 T202 rfl (want_f (dj := 86) (b := (decide ((q : Int) > 0))) A259 rfl (by kernel_rfl) (by kernel_rfl) h208) rfl (pf_then (pf_then (pf_block (pf_then (pf_then (pf_block (pf_block (pf_then (pf_then (pf_block (pf_then pf_body))))))))))) (by kernel_rfl) (fun ac A260 => ?_)
                        refine r_skip 18 A260 T202 rfl (want_f (dj := 86) (b := (decide ((q : Int) > 0))) A260 rfl (by kernel_rfl) (by kernel_rfl) h208) rfl (pf_then (pf_then (pf_block (pf_then (pf_then (pf_block (pf_block (pf_then (pf_then (pf_block (pf_then pf_body))))))))))) (by kernel_rfl) (fun ac A261 => ?_)
                        refine r_skip 19 A261 T202 rfl (want_f (dj := 86) (b := (decide ((q : Int) > 0))) A261 rfl (by kernel_rfl) (by kernel_rfl) h208) rfl (pf_then (pf_then (pf_block (pf_then (pf_then (pf_block (pf_block (pf_then (pf_then (pf_block (pf_then pf_body))))))))))) (by kernel_rfl) (fun ac A262 => ?_)
                        refine r_skip 20 A262 T202 rfl (want_f (dj := 86) (b := (decide ((q : Int) > 0))) A262 rfl (by kernel_rfl) (by kernel_rfl) h208) rfl (pf_then (pf_then (pf_block (pf_then (pf_then (pf_block (pf_block (pf_then (pf_then (pf_block (pf_then pf_body))))))))))) (by kernel_rfl) (fun ac A263 => ?_)
                        refine r_take 21 (.bool false) A263 T202 (g_pick_f (b := (decide ((q : Int) > 0))) (by kernel_rfl) h208 (by kernel_rfl)) rfl rfl rfl (pf_then (pf_then (pf_block (pf_then (pf_then (pf_block (pf_block (pf_then (pf_then (pf_block (pf_then pf_body))))))))))) (by kernel_rfl) (fun ac A264 => ?_)
                        refine r_done (by kernel_rfl) ?_
                        refine n_then ?_
                        exact ⟨(A264.slot (A264.slot (A264.slot (A264.slot (A264.slot (A264.slot (A264.slot (A264.slot (A264.slot (A264.slot (A264.slot (A264.slot (A264.slot (A264.slot (A264.slot (A264.slot (A264.slot (A264.slot (A264.slot (A264.slot (A264.slot (A264.slot (A264.slot (A264.slot (A264.slot (A264.slot (A264.slot (A264.slot (A264.slot (A264.slot (A264.slot (A264.slot (A264.slot (A264.slot (A264.slot (A264.slot (A264.slot (A264.slot (A264.slot (A264.slot (A264.slot (A264.slot (A264.slot (A264.slot (A264.slot (A264.slot A264.nil (v := .bool (!(inB (nthI ((spK ss i).ne) q) 0 ((i : Int) - 1)))) (by kernel_rfl) rfl) (v := .bool (inB (nthI ((spK ss i).ne) q) 0 ((i : Int) - 1))) (by kernel_rfl) rfl) (v := .int .i64 ((i : Int) - 1)) (by kernel_rfl) rfl) (v := .int .i64 (i : Int)) (by kernel_rfl) rfl) (v := .int .i64 (nthI ((spK ss i).ne) q)) (by kernel_rfl) rfl) (v := .pointer (some (ad187.add q))) (by kernel_rfl) rfl) (v := .int .i64 (q : Int)) (by kernel_rfl) rfl) (v := .slice (some ad187) ((spK ss i).ne.length) c178) (by kernel_rfl) rfl) (v := .pointer (some (ad176.add (i * 4 + 3)))) (by kernel_rfl) rfl) (v := .pointer (some (ad176.add (i * 4)))) (by kernel_rfl) rfl) (v := .int .i64 (i : Int)) (by kernel_rfl) rfl) (v := .slice A ss.length cap) (by kernel_rfl) rfl) (v := .bool (decide ((q : Int) < ((spK ss i).ne.length : Int)))) (by kernel_rfl) rfl) (v := .int .i64 ((spK ss i).ne.length : Int)) (by kernel_rfl) rfl) (v := .slice B161 ((spK ss i).ne.length) c162) (by kernel_rfl) rfl) (v := .pointer (some (ad160.add (i * 4 + 3)))) (by kernel_rfl) rfl) (v := .pointer (some (ad160.add (i * 4)))) (by kernel_rfl) rfl) (v := .int .i64 (i : Int)) (by kernel_rfl) rfl) (v := .slice A ss.length cap) (by kernel_rfl) rfl) (v := .int .i64 (q : Int)) (by kernel_rfl) rfl) (v := .int .i64 (q : Int)) (by kernel_rfl) rfl) (v := .bool ((!(inB ((spK ss i).la) 1 1000000)) || (!(inB ((spK ss i).wa) 0 2000)))) (by kernel_rfl) rfl) (v := .bool (decide ((k : Int) < (i : Int)))) (by kernel_rfl) rfl) (v := .int .i64 (i : Int)) (by kernel_rfl) rfl) (v := .int .i64 (k : Int)) (by kernel_rfl) rfl) (v := .int .i64 (k : Int)) (by kernel_rfl) rfl) (v := .bool (!(nameB ((spK ss i).nm)))) (by kernel_rfl) rfl) (v := .bool (nameB ((spK ss i).nm))) (by kernel_rfl) rfl) (v := .string ⟨((spK ss i).nm).toArray⟩) (by kernel_rfl) rfl) (v := .pointer (some (ad31.add (i * 4 + 0)))) (by kernel_rfl) rfl) (v := .pointer (some (ad31.add (i * 4)))) (by kernel_rfl) rfl) (v := .int .i64 (i : Int)) (by kernel_rfl) rfl) (v := .slice A ss.length cap) (by kernel_rfl) rfl) (v := .bool (decide ((i : Int) < (ss.length : Int)))) (by kernel_rfl) rfl) (v := .int .i64 (ss.length : Int)) (by kernel_rfl) rfl) (v := .slice A ss.length cap) (by kernel_rfl) rfl) (v := .int .i64 (i : Int)) (by kernel_rfl) rfl) (v := .int .i64 (i : Int)) (by kernel_rfl) rfl) (v := .bool (decide ((ss.length : Int) > 10))) (by kernel_rfl) rfl) (v := .int .i64 (ss.length : Int)) (by kernel_rfl) rfl) (v := .slice A ss.length cap) (by kernel_rfl) rfl) (v := .bool (decide ((ss.length : Int) = 0))) (by kernel_rfl) rfl) (v := .int .i64 (ss.length : Int)) (by kernel_rfl) rfl) (v := .slice A ss.length cap) (by kernel_rfl) rfl) (v := .slice A ss.length cap) (by kernel_rfl) rfl) (v := .bool false) (by kernel_rfl) (congrArg Value.bool (b_af1 h208).symm)), S204.sub sub_all sub_all⟩
                    · rintro ac wc ⟨A265, S266⟩
                      refine n_then ?_
                      refine c_ifb (b := ((decide ((q : Int) > 0)) && (decide (nthI ((spK ss i).ne) q ≤ nthI ((spK ss i).ne) (q - 1))))) A265 (by kernel_rfl) (fun h267 => ?_) (fun h267 => ?_)
                      · have h268 := (Bool.and_eq_true_iff.1 h267).1
                        have p269 := of_decide_eq_true h268
                        have h270 := (Bool.and_eq_true_iff.1 h267).2
                        have p271 := of_decide_eq_true h270
                        refine wp_seq ?_
                        refine wp_region_lit ?_
                        refine s_one (.int .i64 (i : Int)) A265 S266 (g_move (by kernel_rfl)) rfl (fun ac A272 => ?_)
                        refine s_one (.int .i64 (i : Int)) A272 S266 (g_assign (by kernel_rfl)) rfl (fun ac A273 => ?_)
                        refine s_one (.int .i64 9) A273 S266 (g_assign (by kernel_rfl)) rfl (fun ac A274 => ?_)
                        refine wpList_nil ?_
                        refine n_then ?_
                        refine wp_ret ?_
                        refine r_block ?_
                        refine r_then ?_
                        refine r_then ?_
                        refine r_block ?_
                        refine r_block ?_
                        refine r_then ?_
                        refine r_then ?_
                        refine r_block ?_
                        refine r_then ?_
                        refine fin2 (.int .i64 (i : Int)) (.int .i64 9) Try.results15 A274 S266 (rv_tmp (by kernel_rfl)) (rv_tmp (by kernel_rfl)) ⟨⟨((i : Int), 9), fun h => absurd (show (9 : Int) = 0 from h) (by decide)⟩, rfl, S266.sub sub_all sub_all⟩
                      · refine wp_skip ?_
                        refine n_block ?_
                        refine n_then ?_
                        refine wp_region_lit ?_
                        refine s_one (.int .i64 (q : Int)) A265 S266 (g_move (by kernel_rfl)) rfl (fun ac A275 => ?_)
                        refine s_one (.int .i64 ((q : Int) + 1)) A275 S266 (g_bin (u := .int .i64 (q : Int)) (k := .int .i64 1) (by kernel_rfl) (by kernel_rfl) (fun _ => by kernel_rfl) (b_add (by omega))) rfl (fun ac A276 => ?_)
                        refine s_one (.int .i64 ((q : Int) + 1)) A276 S266 (g_assign (by kernel_rfl)) rfl (fun ac A277 => ?_)
                        refine wpList_nil ?_
                        refine n_then ?_
                        refine ⟨_, ⟨q + 1, rfl, by omega, lt_snoc hn (inB_true.1 (nb_t h196)), fun j h1 h2 => lt_snoc (p := fun j => 0 < j → nthI (spK ss i).ne (j - 1) < nthI (spK ss i).ne j) (fun j hj h0 => ho j h0 hj) (fun h0 => need_lt h267 h0) j h2 h1, (A277.slot (A277.slot (A277.slot (A277.slot (A277.slot (A277.slot (A277.slot (A277.slot (A277.slot (A277.slot (A277.slot (A277.slot (A277.slot (A277.slot (A277.slot (A277.slot (A277.slot (A277.slot (A277.slot (A277.slot (A277.slot (A277.slot (A277.slot (A277.slot (A277.slot A277.nil (v := .int .i64 ((q : Int) + 1)) (by kernel_rfl) (congrArg (Value.int .i64) (by omega))) (v := .bool ((!(inB ((spK ss i).la) 1 1000000)) || (!(inB ((spK ss i).wa) 0 2000)))) (by kernel_rfl) rfl) (v := .bool (decide ((k : Int) < (i : Int)))) (by kernel_rfl) rfl) (v := .int .i64 (i : Int)) (by kernel_rfl) rfl) (v := .int .i64 (k : Int)) (by kernel_rfl) rfl) (v := .int .i64 (k : Int)) (by kernel_rfl) rfl) (v := .bool (!(nameB ((spK ss i).nm)))) (by kernel_rfl) rfl) (v := .bool (nameB ((spK ss i).nm))) (by kernel_rfl) rfl) (v := .string ⟨((spK ss i).nm).toArray⟩) (by kernel_rfl) rfl) (v := .pointer (some (ad31.add (i * 4 + 0)))) (by kernel_rfl) rfl) (v := .pointer (some (ad31.add (i * 4)))) (by kernel_rfl) rfl) (v := .int .i64 (i : Int)) (by kernel_rfl) rfl) (v := .slice A ss.length cap) (by kernel_rfl) rfl) (v := .bool (decide ((i : Int) < (ss.length : Int)))) (by kernel_rfl) rfl) (v := .int .i64 (ss.length : Int)) (by kernel_rfl) rfl) (v := .slice A ss.length cap) (by kernel_rfl) rfl) (v := .int .i64 (i : Int)) (by kernel_rfl) rfl) (v := .int .i64 (i : Int)) (by kernel_rfl) rfl) (v := .bool (decide ((ss.length : Int) > 10))) (by kernel_rfl) rfl) (v := .int .i64 (ss.length : Int)) (by kernel_rfl) rfl) (v := .slice A ss.length cap) (by kernel_rfl) rfl) (v := .bool (decide ((ss.length : Int) = 0))) (by kernel_rfl) rfl) (v := .int .i64 (ss.length : Int)) (by kernel_rfl) rfl) (v := .slice A ss.length cap) (by kernel_rfl) rfl) (v := .slice A ss.length cap) (by kernel_rfl) rfl), S266.sub sub_all sub_all⟩, ?_⟩
                        omega
                · have p278 := of_decide_eq_false h172
                  refine wp_exit ?_
                  refine x_then ?_
                  refine x_then ?_
                  refine x_hit ?_
                  refine n_block ?_
                  refine n_then ?_
                  refine wp_region_lit ?_
                  refine s_one (.int .i64 (i : Int)) A171 S155 (g_move (by kernel_rfl)) rfl (fun ac A279 => ?_)
                  refine s_one (.int .i64 ((i : Int) + 1)) A279 S155 (g_bin (u := .int .i64 (i : Int)) (k := .int .i64 1) (by kernel_rfl) (by kernel_rfl) (fun _ => by kernel_rfl) (b_add (by omega))) rfl (fun ac A280 => ?_)
                  refine s_one (.int .i64 ((i : Int) + 1)) A280 S155 (g_assign (by kernel_rfl)) rfl (fun ac A281 => ?_)
                  refine wpList_nil ?_
                  refine n_then ?_
                  refine ⟨_, ⟨i + 1, rfl, by omega, hg.snoc (nb_t h45) (fun j hj => hd j (by omega)) (fun j h1 h2 => ho j h1 (by omega)) (fun j hj => hn j (by omega)) (inB_true.1 (nor_t h145).1) (inB_true.1 (nor_t h145).2), (A281.slot (A281.slot (A281.slot (A281.slot (A281.slot (A281.slot (A281.slot (A281.slot A281.nil (v := .int .i64 ((i : Int) + 1)) (by kernel_rfl) (congrArg (Value.int .i64) (by omega))) (v := .bool (decide ((ss.length : Int) > 10))) (by kernel_rfl) rfl) (v := .int .i64 (ss.length : Int)) (by kernel_rfl) rfl) (v := .slice A ss.length cap) (by kernel_rfl) rfl) (v := .bool (decide ((ss.length : Int) = 0))) (by kernel_rfl) rfl) (v := .int .i64 (ss.length : Int)) (by kernel_rfl) rfl) (v := .slice A ss.length cap) (by kernel_rfl) rfl) (v := .slice A ss.length cap) (by kernel_rfl) rfl), S155.sub sub_all sub_all⟩, ?_⟩
                  omega
      · have p282 := of_decide_eq_false h27
        refine wp_exit ?_
        refine x_then ?_
        refine x_then ?_
        refine x_hit ?_
        refine n_then ?_
        refine wp_seq ?_
        refine wp_region_lit ?_
        refine s_one (.int .i64 0) A26 S21 (g_assign (by kernel_rfl)) rfl (fun ac A283 => ?_)
        refine s_one (.int .i64 0) A283 S21 (g_assign (by kernel_rfl)) rfl (fun ac A284 => ?_)
        refine wpList_nil ?_
        refine n_then ?_
        refine wp_ret ?_
        refine fin2 (.int .i64 0) (.int .i64 0) Try.results15 A284 S21 (rv_tmp (by kernel_rfl)) (rv_tmp (by kernel_rfl)) ⟨⟨(0, 0), fun _ => GoodP.all (by rw [show ss.length = i by omega]; exact hg) (by omega)⟩, rfl, S21.sub sub_all sub_all⟩

set_option maxRecDepth 100000 in
set_option maxHeartbeats 400000 in
theorem RValidAt_s (A : Option Addr) (cap : Nat) (ss : List Sp) (EA : Option Addr) (en ec : Nat) (el : List Int) (m : Int) (w0 : World) (hr : SpReads w0 A ss) (hre : IReads w0 EA el) (hel : el.length = en * 3) (hen : en ≤ 61) (bd : ∀ k, k < en → (0 ≤ nthI el (k * 3) ∧ nthI el (k * 3) ≤ 100000000) ∧ -2000 ≤ nthI el (k * 3 + 2) ∧ nthI el (k * 3 + 2) ≤ 2000) (gs : GoodS ss) :
    Calls Try.prog 29 #[.slice A ss.length cap, .slice EA en ec, .int .i64 m] w0 fun e w' => ∃ v, e = .returned (v) ∧ Below w0.heap.size w0 w' ∧ w'.ownsRow w0.heap.size 4 1 v ss.length (bX ss.length (vd ss (bkF ss el en) m)) := by
  have S0 := St.start w0
  have hfw := gs.few
  refine enter (n := 74) Try.func29 rfl rfl rfl (fun ac A0 => ?_)
  refine wp_seq ?_
  refine wp_region_lit ?_
  refine s_one (.slice none 0 0) A0 S0 (g_assign (by kernel_rfl)) rfl (fun ac A1 => ?_)
  refine wpList_nil ?_
  refine n_then ?_
  refine wp_seq ?_
  refine wp_region_lit ?_
  refine s_one (.slice A ss.length cap) A1 S0 (g_move (by kernel_rfl)) rfl (fun ac A2 => ?_)
  refine s_one (.int .i64 (ss.length : Int)) A2 S0 (g_built (r := [(0, .slice A ss.length cap)]) (by kernel_rfl) (fun _ _ _ => by kernel_rfl)) rfl (fun ac A3 => ?_)
  refine s_makeRow (e := 4) (size := 1) (bytes := 1) (ss.length) #[.bool false] (bX ss.length (fun _ => false)) A3 S0 (by kernel_rfl) (by kernel_rfl) (by kernel_rfl) (by kernel_rfl) rfl rfl (by omega) (by omega) (made_b ss.length) rfl (fun g6 ac wc A4 S5 => ?_)
  refine s_one (.slice (some ⟨g6, 0, none⟩) ss.length ss.length) A4 S5 (g_assign (by kernel_rfl)) rfl (fun ac A7 => ?_)
  refine wpList_nil ?_
  refine n_then ?_
  refine wp_seq ?_
  refine wp_seq ?_
  refine wp_region_lit ?_
  refine s_one (.int .i64 0) A7 S5 (g_assign (by kernel_rfl)) rfl (fun ac A8 => ?_)
  refine wpList_nil ?_
  refine n_then ?_
  refine wp_block ?_
  refine c_loopN (fun mm ac wc => ∃ (i : Nat), mm = ss.length - i ∧ (i ≤ ss.length) ∧ Fr 74 ac [(0, .slice A ss.length cap), (1, .slice EA en ec), (2, .int .i64 m), (6, .slice none 0 0), (10, .slice A ss.length cap), (11, .int .i64 (ss.length : Int)), (12, .slice (some ⟨g6, 0, none⟩) ss.length ss.length), (7, .slice (some ⟨g6, 0, none⟩) ss.length ss.length), (8, .int .i64 (i : Int))] ∧ St w0 [] [⟨.slice (some ⟨g6, 0, none⟩) ss.length ss.length, 4, 1, ss.length, (bX ss.length (vaF ss (bkF ss el en) m i))⟩] wc) _ ⟨0, rfl, Nat.zero_le _, (A8.slot (A8.slot (A8.slot (A8.slot (A8.slot (A8.slot (A8.slot (A8.slot (A8.slot A8.nil (v := .int .i64 0) (by kernel_rfl) (congrArg (Value.int .i64) (by omega))) (v := .slice (some ⟨g6, 0, none⟩) ss.length ss.length) (by kernel_rfl) rfl) (v := .slice (some ⟨g6, 0, none⟩) ss.length ss.length) (by kernel_rfl) rfl) (v := .int .i64 (ss.length : Int)) (by kernel_rfl) rfl) (v := .slice A ss.length cap) (by kernel_rfl) rfl) (v := .slice none 0 0) (by kernel_rfl) rfl) (v := .int .i64 m) (by kernel_rfl) rfl) (v := .slice EA en ec) (by kernel_rfl) rfl) (v := .slice A ss.length cap) (by kernel_rfl) rfl), (St.rerow 0 S5 rfl ⟨rfl, rfl⟩).sub sub_all sub_all⟩ ?_
  rintro mm ac wc ⟨i, hm11, hi, A9, S10⟩
  have hlr := laE_range el (i : Int) en
  refine wp_seq ?_
  refine wp_seq ?_
  refine wp_region_lit ?_
  refine s_one (.int .i64 (i : Int)) A9 S10 (g_move (by kernel_rfl)) rfl (fun ac A12 => ?_)
  refine s_one (.slice A ss.length cap) A12 S10 (g_move (by kernel_rfl)) rfl (fun ac A13 => ?_)
  refine s_one (.int .i64 (ss.length : Int)) A13 S10 (g_built (r := [(0, .slice A ss.length cap)]) (by kernel_rfl) (fun _ _ _ => by kernel_rfl)) rfl (fun ac A14 => ?_)
  refine s_one (.bool (decide ((i : Int) < (ss.length : Int)))) A14 S10 (g_bin (u := .int .i64 (i : Int)) (k := .int .i64 (ss.length : Int)) (by kernel_rfl) (by kernel_rfl) (fun _ => by kernel_rfl) (fun _ => by kernel_rfl)) rfl (fun ac A15 => ?_)
  refine wpList_nil ?_
  refine n_then ?_
  refine c_ifb (b := (decide ((i : Int) < (ss.length : Int)))) A15 (by kernel_rfl) (fun h16 => ?_) (fun h16 => ?_)
  · have p17 := of_decide_eq_true h16
    refine wp_skip ?_
    refine n_then ?_
    refine wp_seq ?_
    refine wp_block ?_
    refine wp_seq ?_
    have hls := gs.lasts i (by omega)
    refine r_begin (w0 := w0) (by kernel_rfl) (S10.sub sub_all sub_nil) (fun wc T18 B19 => ?_)
    have S20 := S10.kept B19
    refine r_take 0 (.slice (some ⟨g6, 0, none⟩) ss.length ss.length) A15 T18 (g_move (by kernel_rfl)) rfl rfl rfl (pf_then (pf_block (pf_then (pf_then (pf_block (pf_then pf_body)))))) (by kernel_rfl) (fun ac A21 => ?_)
    refine r_take 1 (.int .i64 (i : Int)) A21 T18 (g_move (by kernel_rfl)) rfl rfl rfl (pf_then (pf_block (pf_then (pf_then (pf_block (pf_then pf_body)))))) (by kernel_rfl) (fun ac A22 => ?_)
    refine r_take 2 (.slice A ss.length cap) A22 T18 (g_move (by kernel_rfl)) rfl rfl rfl (pf_then (pf_block (pf_then (pf_then (pf_block (pf_then pf_body)))))) (by kernel_rfl) (fun ac A23 => ?_)
    refine r_take 3 (.slice EA en ec) A23 T18 (g_move (by kernel_rfl)) rfl rfl rfl (pf_then (pf_block (pf_then (pf_then (pf_block (pf_then pf_body)))))) (by kernel_rfl) (fun ac A24 => ?_)
    refine r_take 4 (.int .i64 (i : Int)) A24 T18 (g_move (by kernel_rfl)) rfl rfl rfl (pf_then (pf_block (pf_then (pf_then (pf_block (pf_then pf_body)))))) (by kernel_rfl) (fun ac A25 => ?_)
    refine r_1 (i := 5) (by kernel_rfl) ?_
    refine rs_call (fs := #[]) (cp := #[]) (r := [(0, .slice A ss.length cap), (0, .slice EA en ec), (0, .int .i64 (i : Int))]) #[.slice A ss.length cap, .slice EA en ec, .int .i64 (i : Int)] (.bool ((bk ss el i en).kp)) A25 S20 sub_all sub_nil (Kept_s A cap ss EA en ec el i _ (by omega) (hr.kept S20.kp) (hre.kept S20.kp) hel (by omega) bd) Try.call42 rfl rfl (by kernel_rfl) (by kernel_rfl) (by kernel_rfl) rfl (fun ac wc A26 S27 => ?_)
    have T29 := S27.sub sub_all sub_nil
    refine r_take 6 (.bool ((bk ss el i en).kp)) A26 T29 (g_move (by kernel_rfl)) rfl rfl rfl (pf_then (pf_block (pf_then (pf_then (pf_block (pf_then pf_body)))))) (by kernel_rfl) (fun ac A30 => ?_)
    refine by_bool ((bk ss el i en).kp) (fun h31 => ?_) (fun h31 => ?_)
    · have hla := kp_la h31
      have hw8 := bd (laE el (i : Int) en).toNat (by omega)
      have hw7 : 0 ≤ nthI el ((laE el (i : Int) en).toNat * 3 + 0) ∧ nthI el ((laE el (i : Int) en).toNat * 3 + 0) ≤ 100000000 := hw8.1
      refine r_take 7 (.int .i64 m) A30 T29 (g_move (by kernel_rfl)) rfl (want_t (dj := 25) (b := ((bk ss el i en).kp)) A30 rfl (by kernel_rfl) (by kernel_rfl) h31) rfl (pf_then (pf_block (pf_then (pf_then (pf_block (pf_then pf_body)))))) (by kernel_rfl) (fun ac A32 => ?_)
      refine r_take 8 (.slice EA en ec) A32 T29 (g_move (by kernel_rfl)) rfl (want_t (dj := 25) (b := ((bk ss el i en).kp)) A32 rfl (by kernel_rfl) (by kernel_rfl) h31) rfl (pf_then (pf_block (pf_then (pf_then (pf_block (pf_then pf_body)))))) (by kernel_rfl) (fun ac A33 => ?_)
      refine r_take 9 (.slice EA en ec) A33 T29 (g_move (by kernel_rfl)) rfl (want_t (dj := 25) (b := ((bk ss el i en).kp)) A33 rfl (by kernel_rfl) (by kernel_rfl) h31) rfl (pf_then (pf_block (pf_then (pf_then (pf_block (pf_then pf_body)))))) (by kernel_rfl) (fun ac A34 => ?_)
      refine r_take 10 (.int .i64 (i : Int)) A34 T29 (g_move (by kernel_rfl)) rfl (want_t (dj := 25) (b := ((bk ss el i en).kp)) A34 rfl (by kernel_rfl) (by kernel_rfl) h31) rfl (pf_then (pf_block (pf_then (pf_then (pf_block (pf_then pf_body)))))) (by kernel_rfl) (fun ac A35 => ?_)
      refine r_take 15 (.slice A ss.length cap) A35 T29 (g_move (by kernel_rfl)) rfl (want_t (dj := 25) (b := ((bk ss el i en).kp)) A35 rfl (by kernel_rfl) (by kernel_rfl) h31) rfl (pf_then (pf_block (pf_then (pf_then (pf_block (pf_then pf_body)))))) (by kernel_rfl) (fun ac A36 => ?_)
      refine r_take 16 (.int .i64 (i : Int)) A36 T29 (g_move (by kernel_rfl)) rfl (want_t (dj := 25) (b := ((bk ss el i en).kp)) A36 rfl (by kernel_rfl) (by kernel_rfl) h31) rfl (pf_then (pf_block (pf_then (pf_then (pf_block (pf_then pf_body)))))) (by kernel_rfl) (fun ac A37 => ?_)
      obtain ⟨ad38, B39, c40, he41, hs42⟩ := hr i (by omega)
      have hm43 := hs42.hm
      have hm44 := hs42.hn
      refine r_take 17 (.pointer (some (ad38.add (i * 4)))) A37 T29 (g_index (u := .slice A ss.length cap) (k := .int .i64 (i : Int)) (by kernel_rfl) (by kernel_rfl) (ix_xsB (e := 59) (size := 4) (bytes := 56) i (by kernel_rfl) (by omega) (by omega) he41)) rfl (want_t (dj := 25) (b := ((bk ss el i en).kp)) A37 rfl (by kernel_rfl) (by kernel_rfl) h31) rfl (pf_then (pf_block (pf_then (pf_then (pf_block (pf_then pf_body)))))) (by kernel_rfl) (fun ac A45 => ?_)
      refine r_take 18 (.pointer (some (ad38.add (i * 4 + 1)))) A45 T29 (g_field (u := .pointer (some (ad38.add (i * 4)))) (by kernel_rfl) (fld_x (x := i * 4) (o := 1) (by kernel_rfl))) rfl (want_t (dj := 25) (b := ((bk ss el i en).kp)) A45 rfl (by kernel_rfl) (by kernel_rfl) h31) rfl (pf_then (pf_block (pf_then (pf_then (pf_block (pf_then pf_body)))))) (by kernel_rfl) (fun ac A46 => ?_)
      refine r_take 19 (.int .i64 ((spK ss i).la)) A46 T29 (g_loadX (ad := ad38.add (i * 4 + 1)) (by kernel_rfl) (sp_cell (j := 1) hs42 rfl rfl) (by kernel_rfl)) rfl (want_t (dj := 25) (b := ((bk ss el i en).kp)) A46 rfl (by kernel_rfl) (by kernel_rfl) h31) rfl (pf_then (pf_block (pf_then (pf_then (pf_block (pf_then pf_body)))))) (by kernel_rfl) (fun ac A47 => ?_)
      refine r_1 (i := 11) (by kernel_rfl) ?_
      refine rs_call (fs := #[]) (cp := #[]) (r := [(0, .slice EA en ec), (0, .int .i64 (i : Int))]) #[.slice EA en ec, .int .i64 (i : Int)] (.int .i64 (laE el (i : Int) en)) A47 S27 sub_all sub_nil (last_s EA en ec el (i : Int) _ (hre.kept S27.kp) hel (by omega)) Try.call43 rfl (want_t (dj := 25) (b := ((bk ss el i en).kp)) A47 rfl (by kernel_rfl) (by kernel_rfl) h31) (by kernel_rfl) (by kernel_rfl) (by kernel_rfl) rfl (fun ac wc A48 S49 => ?_)
      have T51 := S49.sub sub_all sub_nil
      obtain ⟨ad52, rfl, _⟩ := hre (((laE el (i : Int) en).toNat) * 3) (by have hlen := hel; omega)
      refine r_take 12 (.pointer (some (ad52.add (((laE el (i : Int) en).toNat) * 3)))) A48 T51 (g_index (u := .slice (some ad52) en ec) (k := .int .i64 (laE el (i : Int) en)) (by kernel_rfl) (by kernel_rfl) (ix_xs (e := 30) (bytes := 24) ((laE el (i : Int) en).toNat) (by kernel_rfl) (by omega) (by omega))) rfl (want_t (dj := 25) (b := ((bk ss el i en).kp)) A48 rfl (by kernel_rfl) (by kernel_rfl) h31) rfl (pf_then (pf_block (pf_then (pf_then (pf_block (pf_then pf_body)))))) (by kernel_rfl) (fun ac A53 => ?_)
      refine r_take 13 (.pointer (some (ad52.add (((laE el (i : Int) en).toNat) * 3 + 0)))) A53 T51 (g_field (u := .pointer (some (ad52.add (((laE el (i : Int) en).toNat) * 3)))) (by kernel_rfl) (fld_x (o := 0) (by kernel_rfl))) rfl (want_t (dj := 25) (b := ((bk ss el i en).kp)) A53 rfl (by kernel_rfl) (by kernel_rfl) h31) rfl (pf_then (pf_block (pf_then (pf_then (pf_block (pf_then pf_body)))))) (by kernel_rfl) (fun ac A54 => ?_)
      refine r_take 14 (.int .i64 (nthI el (((laE el (i : Int) en).toNat) * 3 + 0))) A54 T51 (g_loadXI (l := el) (k := ((laE el (i : Int) en).toNat) * 3 + 0) (by kernel_rfl) hre (by have hlen := hel; omega) (by kernel_rfl)) rfl (want_t (dj := 25) (b := ((bk ss el i en).kp)) A54 rfl (by kernel_rfl) (by kernel_rfl) h31) rfl (pf_then (pf_block (pf_then (pf_then (pf_block (pf_then pf_body)))))) (by kernel_rfl) (fun ac A55 => ?_)
      refine r_take 20 (.int .i64 (nthI el (((laE el (i : Int) en).toNat) * 3 + 0) + ((spK ss i).la))) A55 T51 (g_bin (u := .int .i64 (nthI el (((laE el (i : Int) en).toNat) * 3 + 0))) (k := .int .i64 ((spK ss i).la)) (by kernel_rfl) (by kernel_rfl) (fun _ => by kernel_rfl) (b_add (by omega))) rfl (want_t (dj := 25) (b := ((bk ss el i en).kp)) A55 rfl (by kernel_rfl) (by kernel_rfl) h31) rfl (pf_then (pf_block (pf_then (pf_then (pf_block (pf_then pf_body)))))) (by kernel_rfl) (fun ac A56 => ?_)
      refine r_take 21 (.bool (decide (m ≤ nthI el (((laE el (i : Int) en).toNat) * 3 + 0) + ((spK ss i).la)))) A56 T51 (g_bin (u := .int .i64 m) (k := .int .i64 (nthI el (((laE el (i : Int) en).toNat) * 3 + 0) + ((spK ss i).la))) (by kernel_rfl) (by kernel_rfl) (fun _ => by kernel_rfl) (fun _ => by kernel_rfl)) rfl (want_t (dj := 25) (b := ((bk ss el i en).kp)) A56 rfl (by kernel_rfl) (by kernel_rfl) h31) rfl (pf_then (pf_block (pf_then (pf_then (pf_block (pf_then pf_body)))))) (by kernel_rfl) (fun ac A57 => ?_)
      refine r_take 22 (.bool (decide (m ≤ nthI el (((laE el (i : Int) en).toNat) * 3 + 0) + ((spK ss i).la)))) A57 T51 (g_pick_t (b := ((bk ss el i en).kp)) (by kernel_rfl) h31 (by kernel_rfl)) rfl rfl rfl (pf_then (pf_block (pf_then (pf_then (pf_block (pf_then pf_body)))))) (by kernel_rfl) (fun ac A58 => ?_)
      refine r_take 23 (.pointer (some ((Addr.mk g6 0 none).add i))) A58 T51 (g_index (u := .slice (some ⟨g6, 0, none⟩) ss.length ss.length) (k := .int .i64 (i : Int)) (by kernel_rfl) (by kernel_rfl) (ix_x (e := 4) (bytes := 1) i (by kernel_rfl) (by omega) (by omega))) rfl rfl rfl (pf_then (pf_block (pf_then (pf_then (pf_block (pf_then pf_body)))))) (by kernel_rfl) (fun ac A59 => ?_)
      refine r_1 (i := 24) (by kernel_rfl) ?_
      refine rs_storeR (ad := ⟨g6, 0, none⟩) (off := i) (u := .bool (decide (m ≤ nthI el (((laE el (i : Int) en).toNat) * 3 + 0) + ((spK ss i).la)))) 0 1 [.bool (decide (m ≤ nthI el (((laE el (i : Int) en).toNat) * 3 + 0) + ((spK ss i).la)))] (bX ss.length (setB (vaF ss (bkF ss el en) m i) i (decide (m ≤ nthI el (((laE el (i : Int) en).toNat) * 3 + 0) + ((spK ss i).la))))) A59 S49 sub_all (fun _ => sub_nil) (by kernel_rfl) (by kernel_rfl) rfl rfl rfl (by kernel_rfl) rfl (by rw [bX_length]; omega) (bX_put (decide (m ≤ nthI el (((laE el (i : Int) en).toNat) * 3 + 0) + ((spK ss i).la))) (by omega)) rfl rfl (fun wc S60 => ?_)
      have T61 := S60.sub sub_all sub_nil
      refine r_done (by kernel_rfl) ?_
      refine n_then ?_
      refine wp_seq ?_
      refine wp_region_lit ?_
      refine s_one (.int .i64 0) A59 S60 (g_assign (by kernel_rfl)) rfl (fun ac A62 => ?_)
      refine wpList_nil ?_
      refine n_then ?_
      refine wp_block ?_
      refine c_loopN (fun mm ac wc => ∃ (k : Nat), mm = (spK ss i).ne.length - k ∧ (k ≤ (spK ss i).ne.length) ∧ Fr 74 ac [(0, .slice A ss.length cap), (1, .slice (some ad52) en ec), (2, .int .i64 m), (6, .slice none 0 0), (10, .slice A ss.length cap), (11, .int .i64 (ss.length : Int)), (12, .slice (some ⟨g6, 0, none⟩) ss.length ss.length), (7, .slice (some ⟨g6, 0, none⟩) ss.length ss.length), (8, .int .i64 (i : Int)), (13, .int .i64 (i : Int)), (14, .slice A ss.length cap), (15, .int .i64 (ss.length : Int)), (16, .bool (decide ((i : Int) < (ss.length : Int)))), (19, .slice (some ⟨g6, 0, none⟩) ss.length ss.length), (20, .int .i64 (i : Int)), (21, .slice A ss.length cap), (22, .slice (some ad52) en ec), (23, .int .i64 (i : Int)), (24, .bool ((bk ss el i en).kp)), (25, .bool ((bk ss el i en).kp)), (26, .int .i64 m), (27, .slice (some ad52) en ec), (28, .slice (some ad52) en ec), (29, .int .i64 (i : Int)), (34, .slice A ss.length cap), (35, .int .i64 (i : Int)), (36, .pointer (some (ad38.add (i * 4)))), (37, .pointer (some (ad38.add (i * 4 + 1)))), (38, .int .i64 ((spK ss i).la)), (30, .int .i64 (laE el (i : Int) en)), (31, .pointer (some (ad52.add (((laE el (i : Int) en).toNat) * 3)))), (32, .pointer (some (ad52.add (((laE el (i : Int) en).toNat) * 3 + 0)))), (33, .int .i64 (nthI el (((laE el (i : Int) en).toNat) * 3 + 0))), (39, .int .i64 (nthI el (((laE el (i : Int) en).toNat) * 3 + 0) + ((spK ss i).la))), (40, .bool (decide (m ≤ nthI el (((laE el (i : Int) en).toNat) * 3 + 0) + ((spK ss i).la)))), (41, .bool (decide (m ≤ nthI el (((laE el (i : Int) en).toNat) * 3 + 0) + ((spK ss i).la)))), (42, .pointer (some ((Addr.mk g6 0 none).add i))), (9, .int .i64 (k : Int))] ∧ St w0 [] [⟨.slice (some ⟨g6, 0, none⟩) ss.length ss.length, 4, 1, ss.length, (bX ss.length (vaG ss (bkF ss el en) m i k))⟩] wc) _ ⟨0, rfl, Nat.zero_le _, (A62.slot (A62.slot (A62.slot (A62.slot (A62.slot (A62.slot (A62.slot (A62.slot (A62.slot (A62.slot (A62.slot (A62.slot (A62.slot (A62.slot (A62.slot (A62.slot (A62.slot (A62.slot (A62.slot (A62.slot (A62.slot (A62.slot (A62.slot (A62.slot (A62.slot (A62.slot (A62.slot (A62.slot (A62.slot (A62.slot (A62.slot (A62.slot (A62.slot (A62.slot (A62.slot (A62.slot (A62.slot (A62.slot A62.nil (v := .int .i64 0) (by kernel_rfl) (congrArg (Value.int .i64) (by omega))) (v := .pointer (some ((Addr.mk g6 0 none).add i))) (by kernel_rfl) rfl) (v := .bool (decide (m ≤ nthI el (((laE el (i : Int) en).toNat) * 3 + 0) + ((spK ss i).la)))) (by kernel_rfl) rfl) (v := .bool (decide (m ≤ nthI el (((laE el (i : Int) en).toNat) * 3 + 0) + ((spK ss i).la)))) (by kernel_rfl) rfl) (v := .int .i64 (nthI el (((laE el (i : Int) en).toNat) * 3 + 0) + ((spK ss i).la))) (by kernel_rfl) rfl) (v := .int .i64 (nthI el (((laE el (i : Int) en).toNat) * 3 + 0))) (by kernel_rfl) rfl) (v := .pointer (some (ad52.add (((laE el (i : Int) en).toNat) * 3 + 0)))) (by kernel_rfl) rfl) (v := .pointer (some (ad52.add (((laE el (i : Int) en).toNat) * 3)))) (by kernel_rfl) rfl) (v := .int .i64 (laE el (i : Int) en)) (by kernel_rfl) rfl) (v := .int .i64 ((spK ss i).la)) (by kernel_rfl) rfl) (v := .pointer (some (ad38.add (i * 4 + 1)))) (by kernel_rfl) rfl) (v := .pointer (some (ad38.add (i * 4)))) (by kernel_rfl) rfl) (v := .int .i64 (i : Int)) (by kernel_rfl) rfl) (v := .slice A ss.length cap) (by kernel_rfl) rfl) (v := .int .i64 (i : Int)) (by kernel_rfl) rfl) (v := .slice (some ad52) en ec) (by kernel_rfl) rfl) (v := .slice (some ad52) en ec) (by kernel_rfl) rfl) (v := .int .i64 m) (by kernel_rfl) rfl) (v := .bool ((bk ss el i en).kp)) (by kernel_rfl) rfl) (v := .bool ((bk ss el i en).kp)) (by kernel_rfl) rfl) (v := .int .i64 (i : Int)) (by kernel_rfl) rfl) (v := .slice (some ad52) en ec) (by kernel_rfl) rfl) (v := .slice A ss.length cap) (by kernel_rfl) rfl) (v := .int .i64 (i : Int)) (by kernel_rfl) rfl) (v := .slice (some ⟨g6, 0, none⟩) ss.length ss.length) (by kernel_rfl) rfl) (v := .bool (decide ((i : Int) < (ss.length : Int)))) (by kernel_rfl) rfl) (v := .int .i64 (ss.length : Int)) (by kernel_rfl) rfl) (v := .slice A ss.length cap) (by kernel_rfl) rfl) (v := .int .i64 (i : Int)) (by kernel_rfl) rfl) (v := .int .i64 (i : Int)) (by kernel_rfl) rfl) (v := .slice (some ⟨g6, 0, none⟩) ss.length ss.length) (by kernel_rfl) rfl) (v := .slice (some ⟨g6, 0, none⟩) ss.length ss.length) (by kernel_rfl) rfl) (v := .int .i64 (ss.length : Int)) (by kernel_rfl) rfl) (v := .slice A ss.length cap) (by kernel_rfl) rfl) (v := .slice none 0 0) (by kernel_rfl) rfl) (v := .int .i64 m) (by kernel_rfl) rfl) (v := .slice (some ad52) en ec) (by kernel_rfl) rfl) (v := .slice A ss.length cap) (by kernel_rfl) rfl), (St.rerow 0 S60 rfl ⟨rfl, congrArg (bX ss.length) (vaG_zero (va_t h31 (show _ = (((laE el (i : Int) en).toNat : Nat) : Int) by omega) rfl))⟩).sub sub_all sub_all⟩ ?_
      rintro mm ac wc ⟨k, hm65, hk, A63, S64⟩
      refine wp_seq ?_
      refine wp_seq ?_
      refine wp_region_lit ?_
      refine s_one (.int .i64 (k : Int)) A63 S64 (g_move (by kernel_rfl)) rfl (fun ac A66 => ?_)
      refine s_one (.slice A ss.length cap) A66 S64 (g_move (by kernel_rfl)) rfl (fun ac A67 => ?_)
      refine s_one (.int .i64 (i : Int)) A67 S64 (g_move (by kernel_rfl)) rfl (fun ac A68 => ?_)
      obtain ⟨ad69, B70, c71, he72, hs73⟩ := hr i (by omega)
      have hm74 := hs73.hm
      have hm75 := hs73.hn
      refine s_one (.pointer (some (ad69.add (i * 4)))) A68 S64 (g_index (u := .slice A ss.length cap) (k := .int .i64 (i : Int)) (by kernel_rfl) (by kernel_rfl) (ix_xsB (e := 59) (size := 4) (bytes := 56) i (by kernel_rfl) (by omega) (by omega) he72)) rfl (fun ac A76 => ?_)
      refine s_one (.pointer (some (ad69.add (i * 4 + 3)))) A76 S64 (g_field (u := .pointer (some (ad69.add (i * 4)))) (by kernel_rfl) (fld_x (x := i * 4) (o := 3) (by kernel_rfl))) rfl (fun ac A77 => ?_)
      refine s_one (.slice B70 ((spK ss i).ne.length) c71) A77 S64 (g_loadX (ad := ad69.add (i * 4 + 3)) (by kernel_rfl) (sp_cell (j := 3) hs73 rfl rfl) (by kernel_rfl)) rfl (fun ac A78 => ?_)
      refine s_one (.int .i64 ((spK ss i).ne.length : Int)) A78 S64 (g_built (r := [(0, .slice B70 ((spK ss i).ne.length) c71)]) (by kernel_rfl) (fun _ _ _ => by kernel_rfl)) rfl (fun ac A79 => ?_)
      refine s_one (.bool (decide ((k : Int) < ((spK ss i).ne.length : Int)))) A79 S64 (g_bin (u := .int .i64 (k : Int)) (k := .int .i64 ((spK ss i).ne.length : Int)) (by kernel_rfl) (by kernel_rfl) (fun _ => by kernel_rfl) (fun _ => by kernel_rfl)) rfl (fun ac A80 => ?_)
      refine wpList_nil ?_
      refine n_then ?_
      refine c_ifb (b := (decide ((k : Int) < ((spK ss i).ne.length : Int)))) A80 (by kernel_rfl) (fun h81 => ?_) (fun h81 => ?_)
      · have p82 := of_decide_eq_true h81
        refine wp_skip ?_
        refine n_then ?_
        refine wp_seq ?_
        refine wp_block ?_
        have hnm := gs.ahead i (by omega) _ (nthI_mem (show k < (spK ss i).ne.length by omega))
        refine wp_region_lit ?_
        refine s_one (.slice (some ⟨g6, 0, none⟩) ss.length ss.length) A80 S64 (g_move (by kernel_rfl)) rfl (fun ac A83 => ?_)
        refine s_one (.int .i64 (i : Int)) A83 S64 (g_move (by kernel_rfl)) rfl (fun ac A84 => ?_)
        refine s_one (.slice (some ⟨g6, 0, none⟩) ss.length ss.length) A84 S64 (g_move (by kernel_rfl)) rfl (fun ac A85 => ?_)
        refine s_one (.int .i64 (i : Int)) A85 S64 (g_move (by kernel_rfl)) rfl (fun ac A86 => ?_)
        refine s_one (.pointer (some ((Addr.mk g6 0 none).add i))) A86 S64 (g_index (u := .slice (some ⟨g6, 0, none⟩) ss.length ss.length) (k := .int .i64 (i : Int)) (by kernel_rfl) (by kernel_rfl) (ix_x (e := 4) (bytes := 1) i (by kernel_rfl) (by omega) (by omega))) rfl (fun ac A87 => ?_)
        refine s_one (.bool (vaG ss (bkF ss el en) m i k i)) A87 S64 (g_loadR1 (ad := ⟨g6, 0, none⟩) (off := i) (v := .bool (vaG ss (bkF ss el en) m i k i)) 0 (by kernel_rfl) rfl (bX_getE (by omega) rfl) (by kernel_rfl)) rfl (fun ac A88 => ?_)
        refine s_one (.bool (vaG ss (bkF ss el en) m i k i)) A88 S64 (g_move (by kernel_rfl)) rfl (fun ac A89 => ?_)
        refine by_bool (vaG ss (bkF ss el en) m i k i) (fun h90 => ?_) (fun h90 => ?_)
        · refine s_want (dj := 59) (b := (vaG ss (bkF ss el en) m i k i)) A89 (by kernel_rfl) (by kernel_rfl) h90 ?_
          refine s_one (.slice (some ⟨g6, 0, none⟩) ss.length ss.length) A89 S64 (g_move (by kernel_rfl)) rfl (fun ac A91 => ?_)
          refine s_want (dj := 59) (b := (vaG ss (bkF ss el en) m i k i)) A91 (by kernel_rfl) (by kernel_rfl) h90 ?_
          refine s_one (.slice A ss.length cap) A91 S64 (g_move (by kernel_rfl)) rfl (fun ac A92 => ?_)
          refine s_want (dj := 59) (b := (vaG ss (bkF ss el en) m i k i)) A92 (by kernel_rfl) (by kernel_rfl) h90 ?_
          refine s_one (.int .i64 (i : Int)) A92 S64 (g_move (by kernel_rfl)) rfl (fun ac A93 => ?_)
          refine s_want (dj := 59) (b := (vaG ss (bkF ss el en) m i k i)) A93 (by kernel_rfl) (by kernel_rfl) h90 ?_
          obtain ⟨ad94, B95, c96, he97, hs98⟩ := hr i (by omega)
          have hm99 := hs98.hm
          have hm100 := hs98.hn
          refine s_one (.pointer (some (ad94.add (i * 4)))) A93 S64 (g_index (u := .slice A ss.length cap) (k := .int .i64 (i : Int)) (by kernel_rfl) (by kernel_rfl) (ix_xsB (e := 59) (size := 4) (bytes := 56) i (by kernel_rfl) (by omega) (by omega) he97)) rfl (fun ac A101 => ?_)
          refine s_want (dj := 59) (b := (vaG ss (bkF ss el en) m i k i)) A101 (by kernel_rfl) (by kernel_rfl) h90 ?_
          refine s_one (.pointer (some (ad94.add (i * 4 + 3)))) A101 S64 (g_field (u := .pointer (some (ad94.add (i * 4)))) (by kernel_rfl) (fld_x (x := i * 4) (o := 3) (by kernel_rfl))) rfl (fun ac A102 => ?_)
          refine s_want (dj := 59) (b := (vaG ss (bkF ss el en) m i k i)) A102 (by kernel_rfl) (by kernel_rfl) h90 ?_
          refine s_one (.slice B95 ((spK ss i).ne.length) c96) A102 S64 (g_loadX (ad := ad94.add (i * 4 + 3)) (by kernel_rfl) (sp_cell (j := 3) hs98 rfl rfl) (by kernel_rfl)) rfl (fun ac A103 => ?_)
          refine s_want (dj := 59) (b := (vaG ss (bkF ss el en) m i k i)) A103 (by kernel_rfl) (by kernel_rfl) h90 ?_
          refine s_one (.int .i64 (k : Int)) A103 S64 (g_move (by kernel_rfl)) rfl (fun ac A104 => ?_)
          refine s_want (dj := 59) (b := (vaG ss (bkF ss el en) m i k i)) A104 (by kernel_rfl) (by kernel_rfl) h90 ?_
          obtain ⟨ad105, rfl, _⟩ := hs98.rd (k) (by have hlen := (show (spK ss i).ne.length = (spK ss i).ne.length * 1 by omega); omega)
          refine s_one (.pointer (some (ad105.add k))) A104 S64 (g_index (u := .slice (some ad105) ((spK ss i).ne.length) c96) (k := .int .i64 (k : Int)) (by kernel_rfl) (by kernel_rfl) (ix_x (e := 3) (bytes := 8) k (by kernel_rfl) (by omega) (by omega))) rfl (fun ac A106 => ?_)
          refine s_want (dj := 59) (b := (vaG ss (bkF ss el en) m i k i)) A106 (by kernel_rfl) (by kernel_rfl) h90 ?_
          refine s_one (.int .i64 (nthI ((spK ss i).ne) k)) A106 S64 (g_loadXI (l := (spK ss i).ne) (k := k) (by kernel_rfl) hs98.rd (by have hlen := (show (spK ss i).ne.length = (spK ss i).ne.length * 1 by omega); omega) (by kernel_rfl)) rfl (fun ac A107 => ?_)
          refine s_want (dj := 59) (b := (vaG ss (bkF ss el en) m i k i)) A107 (by kernel_rfl) (by kernel_rfl) h90 ?_
          refine s_one (.pointer (some ((Addr.mk g6 0 none).add ((nthI ((spK ss i).ne) k).toNat)))) A107 S64 (g_index (u := .slice (some ⟨g6, 0, none⟩) ss.length ss.length) (k := .int .i64 (nthI ((spK ss i).ne) k)) (by kernel_rfl) (by kernel_rfl) (ix_x (e := 4) (bytes := 1) ((nthI ((spK ss i).ne) k).toNat) (by kernel_rfl) (by omega) (by omega))) rfl (fun ac A108 => ?_)
          refine s_want (dj := 59) (b := (vaG ss (bkF ss el en) m i k i)) A108 (by kernel_rfl) (by kernel_rfl) h90 ?_
          refine s_one (.bool (vaG ss (bkF ss el en) m i k ((nthI ((spK ss i).ne) k).toNat))) A108 S64 (g_loadR1 (ad := ⟨g6, 0, none⟩) (off := ((nthI ((spK ss i).ne) k).toNat)) (v := .bool (vaG ss (bkF ss el en) m i k ((nthI ((spK ss i).ne) k).toNat))) 0 (by kernel_rfl) rfl (bX_getE (by omega) rfl) (by kernel_rfl)) rfl (fun ac A109 => ?_)
          refine s_one (.bool (vaG ss (bkF ss el en) m i k ((nthI ((spK ss i).ne) k).toNat))) A109 S64 (g_pick_t (b := (vaG ss (bkF ss el en) m i k i)) (by kernel_rfl) h90 (by kernel_rfl)) rfl (fun ac A110 => ?_)
          refine s_one (.pointer (some ((Addr.mk g6 0 none).add i))) A110 S64 (g_index (u := .slice (some ⟨g6, 0, none⟩) ss.length ss.length) (k := .int .i64 (i : Int)) (by kernel_rfl) (by kernel_rfl) (ix_x (e := 4) (bytes := 1) i (by kernel_rfl) (by omega) (by omega))) rfl (fun ac A111 => ?_)
          refine s_storeR (ad := ⟨g6, 0, none⟩) (off := i) (u := .bool (vaG ss (bkF ss el en) m i k ((nthI ((spK ss i).ne) k).toNat))) 0 1 [.bool (vaG ss (bkF ss el en) m i k ((nthI ((spK ss i).ne) k).toNat))] (bX ss.length (setB (vaG ss (bkF ss el en) m i k) i (vaG ss (bkF ss el en) m i k ((nthI ((spK ss i).ne) k).toNat)))) A111 S64 (by kernel_rfl) (by kernel_rfl) rfl rfl rfl (by kernel_rfl) rfl (by rw [bX_length]; omega) (bX_put (vaG ss (bkF ss el en) m i k ((nthI ((spK ss i).ne) k).toNat)) (by omega)) (fun wc S112 => ?_)
          refine wpList_nil ?_
          refine n_block ?_
          refine n_then ?_
          refine wp_region_lit ?_
          refine s_one (.int .i64 (k : Int)) A111 S112 (g_move (by kernel_rfl)) rfl (fun ac A113 => ?_)
          refine s_one (.int .i64 ((k : Int) + 1)) A113 S112 (g_bin (u := .int .i64 (k : Int)) (k := .int .i64 1) (by kernel_rfl) (by kernel_rfl) (fun _ => by kernel_rfl) (b_add (by omega))) rfl (fun ac A114 => ?_)
          refine s_one (.int .i64 ((k : Int) + 1)) A114 S112 (g_assign (by kernel_rfl)) rfl (fun ac A115 => ?_)
          refine wpList_nil ?_
          refine n_then ?_
          refine ⟨_, ⟨k + 1, rfl, by omega, (A115.slot (A115.slot (A115.slot (A115.slot (A115.slot (A115.slot (A115.slot (A115.slot (A115.slot (A115.slot (A115.slot (A115.slot (A115.slot (A115.slot (A115.slot (A115.slot (A115.slot (A115.slot (A115.slot (A115.slot (A115.slot (A115.slot (A115.slot (A115.slot (A115.slot (A115.slot (A115.slot (A115.slot (A115.slot (A115.slot (A115.slot (A115.slot (A115.slot (A115.slot (A115.slot (A115.slot (A115.slot (A115.slot A115.nil (v := .int .i64 ((k : Int) + 1)) (by kernel_rfl) (congrArg (Value.int .i64) (by omega))) (v := .pointer (some ((Addr.mk g6 0 none).add i))) (by kernel_rfl) rfl) (v := .bool (decide (m ≤ nthI el (((laE el (i : Int) en).toNat) * 3 + 0) + ((spK ss i).la)))) (by kernel_rfl) rfl) (v := .bool (decide (m ≤ nthI el (((laE el (i : Int) en).toNat) * 3 + 0) + ((spK ss i).la)))) (by kernel_rfl) rfl) (v := .int .i64 (nthI el (((laE el (i : Int) en).toNat) * 3 + 0) + ((spK ss i).la))) (by kernel_rfl) rfl) (v := .int .i64 (nthI el (((laE el (i : Int) en).toNat) * 3 + 0))) (by kernel_rfl) rfl) (v := .pointer (some (ad52.add (((laE el (i : Int) en).toNat) * 3 + 0)))) (by kernel_rfl) rfl) (v := .pointer (some (ad52.add (((laE el (i : Int) en).toNat) * 3)))) (by kernel_rfl) rfl) (v := .int .i64 (laE el (i : Int) en)) (by kernel_rfl) rfl) (v := .int .i64 ((spK ss i).la)) (by kernel_rfl) rfl) (v := .pointer (some (ad38.add (i * 4 + 1)))) (by kernel_rfl) rfl) (v := .pointer (some (ad38.add (i * 4)))) (by kernel_rfl) rfl) (v := .int .i64 (i : Int)) (by kernel_rfl) rfl) (v := .slice A ss.length cap) (by kernel_rfl) rfl) (v := .int .i64 (i : Int)) (by kernel_rfl) rfl) (v := .slice (some ad52) en ec) (by kernel_rfl) rfl) (v := .slice (some ad52) en ec) (by kernel_rfl) rfl) (v := .int .i64 m) (by kernel_rfl) rfl) (v := .bool ((bk ss el i en).kp)) (by kernel_rfl) rfl) (v := .bool ((bk ss el i en).kp)) (by kernel_rfl) rfl) (v := .int .i64 (i : Int)) (by kernel_rfl) rfl) (v := .slice (some ad52) en ec) (by kernel_rfl) rfl) (v := .slice A ss.length cap) (by kernel_rfl) rfl) (v := .int .i64 (i : Int)) (by kernel_rfl) rfl) (v := .slice (some ⟨g6, 0, none⟩) ss.length ss.length) (by kernel_rfl) rfl) (v := .bool (decide ((i : Int) < (ss.length : Int)))) (by kernel_rfl) rfl) (v := .int .i64 (ss.length : Int)) (by kernel_rfl) rfl) (v := .slice A ss.length cap) (by kernel_rfl) rfl) (v := .int .i64 (i : Int)) (by kernel_rfl) rfl) (v := .int .i64 (i : Int)) (by kernel_rfl) rfl) (v := .slice (some ⟨g6, 0, none⟩) ss.length ss.length) (by kernel_rfl) rfl) (v := .slice (some ⟨g6, 0, none⟩) ss.length ss.length) (by kernel_rfl) rfl) (v := .int .i64 (ss.length : Int)) (by kernel_rfl) rfl) (v := .slice A ss.length cap) (by kernel_rfl) rfl) (v := .slice none 0 0) (by kernel_rfl) rfl) (v := .int .i64 m) (by kernel_rfl) rfl) (v := .slice (some ad52) en ec) (by kernel_rfl) rfl) (v := .slice A ss.length cap) (by kernel_rfl) rfl), (St.rerow 0 S112 rfl ⟨rfl, congrArg (bX ss.length) (vaG_snoc (by omega) (by rw [h90, Bool.true_and]; exact vaG_old (by omega)))⟩).sub sub_all sub_all⟩, ?_⟩
          omega
        · refine s_not (dj := 59) (b := (vaG ss (bkF ss el en) m i k i)) A89 (by kernel_rfl) (by kernel_rfl) h90 rfl (fun ac A116 => ?_)
          refine s_not (dj := 59) (b := (vaG ss (bkF ss el en) m i k i)) A116 (by kernel_rfl) (by kernel_rfl) h90 rfl (fun ac A117 => ?_)
          refine s_not (dj := 59) (b := (vaG ss (bkF ss el en) m i k i)) A117 (by kernel_rfl) (by kernel_rfl) h90 rfl (fun ac A118 => ?_)
          refine s_not (dj := 59) (b := (vaG ss (bkF ss el en) m i k i)) A118 (by kernel_rfl) (by kernel_rfl) h90 rfl (fun ac A119 => ?_)
          refine s_not (dj := 59) (b := (vaG ss (bkF ss el en) m i k i)) A119 (by kernel_rfl) (by kernel_rfl) h90 rfl (fun ac A120 => ?_)
          refine s_not (dj := 59) (b := (vaG ss (bkF ss el en) m i k i)) A120 (by kernel_rfl) (by kernel_rfl) h90 rfl (fun ac A121 => ?_)
          refine s_not (dj := 59) (b := (vaG ss (bkF ss el en) m i k i)) A121 (by kernel_rfl) (by kernel_rfl) h90 rfl (fun ac A122 => ?_)
          refine s_not (dj := 59) (b := (vaG ss (bkF ss el en) m i k i)) A122 (by kernel_rfl) (by kernel_rfl) h90 rfl (fun ac A123 => ?_)
          refine s_not (dj := 59) (b := (vaG ss (bkF ss el en) m i k i)) A123 (by kernel_rfl) (by kernel_rfl) h90 rfl (fun ac A124 => ?_)
          refine s_not (dj := 59) (b := (vaG ss (bkF ss el en) m i k i)) A124 (by kernel_rfl) (by kernel_rfl) h90 rfl (fun ac A125 => ?_)
          refine s_not (dj := 59) (b := (vaG ss (bkF ss el en) m i k i)) A125 (by kernel_rfl) (by kernel_rfl) h90 rfl (fun ac A126 => ?_)
          refine s_one (.bool false) A126 S64 (g_pick_f (b := (vaG ss (bkF ss el en) m i k i)) (by kernel_rfl) h90 (by kernel_rfl)) rfl (fun ac A127 => ?_)
          refine s_one (.pointer (some ((Addr.mk g6 0 none).add i))) A127 S64 (g_index (u := .slice (some ⟨g6, 0, none⟩) ss.length ss.length) (k := .int .i64 (i : Int)) (by kernel_rfl) (by kernel_rfl) (ix_x (e := 4) (bytes := 1) i (by kernel_rfl) (by omega) (by omega))) rfl (fun ac A128 => ?_)
          refine s_storeR (ad := ⟨g6, 0, none⟩) (off := i) (u := .bool false) 0 1 [.bool (false)] (bX ss.length (setB (vaG ss (bkF ss el en) m i k) i (false))) A128 S64 (by kernel_rfl) (by kernel_rfl) rfl rfl rfl (by kernel_rfl) rfl (by rw [bX_length]; omega) (bX_put (false) (by omega)) (fun wc S129 => ?_)
          refine wpList_nil ?_
          refine n_block ?_
          refine n_then ?_
          refine wp_region_lit ?_
          refine s_one (.int .i64 (k : Int)) A128 S129 (g_move (by kernel_rfl)) rfl (fun ac A130 => ?_)
          refine s_one (.int .i64 ((k : Int) + 1)) A130 S129 (g_bin (u := .int .i64 (k : Int)) (k := .int .i64 1) (by kernel_rfl) (by kernel_rfl) (fun _ => by kernel_rfl) (b_add (by omega))) rfl (fun ac A131 => ?_)
          refine s_one (.int .i64 ((k : Int) + 1)) A131 S129 (g_assign (by kernel_rfl)) rfl (fun ac A132 => ?_)
          refine wpList_nil ?_
          refine n_then ?_
          refine ⟨_, ⟨k + 1, rfl, by omega, (A132.slot (A132.slot (A132.slot (A132.slot (A132.slot (A132.slot (A132.slot (A132.slot (A132.slot (A132.slot (A132.slot (A132.slot (A132.slot (A132.slot (A132.slot (A132.slot (A132.slot (A132.slot (A132.slot (A132.slot (A132.slot (A132.slot (A132.slot (A132.slot (A132.slot (A132.slot (A132.slot (A132.slot (A132.slot (A132.slot (A132.slot (A132.slot (A132.slot (A132.slot (A132.slot (A132.slot (A132.slot (A132.slot A132.nil (v := .int .i64 ((k : Int) + 1)) (by kernel_rfl) (congrArg (Value.int .i64) (by omega))) (v := .pointer (some ((Addr.mk g6 0 none).add i))) (by kernel_rfl) rfl) (v := .bool (decide (m ≤ nthI el (((laE el (i : Int) en).toNat) * 3 + 0) + ((spK ss i).la)))) (by kernel_rfl) rfl) (v := .bool (decide (m ≤ nthI el (((laE el (i : Int) en).toNat) * 3 + 0) + ((spK ss i).la)))) (by kernel_rfl) rfl) (v := .int .i64 (nthI el (((laE el (i : Int) en).toNat) * 3 + 0) + ((spK ss i).la))) (by kernel_rfl) rfl) (v := .int .i64 (nthI el (((laE el (i : Int) en).toNat) * 3 + 0))) (by kernel_rfl) rfl) (v := .pointer (some (ad52.add (((laE el (i : Int) en).toNat) * 3 + 0)))) (by kernel_rfl) rfl) (v := .pointer (some (ad52.add (((laE el (i : Int) en).toNat) * 3)))) (by kernel_rfl) rfl) (v := .int .i64 (laE el (i : Int) en)) (by kernel_rfl) rfl) (v := .int .i64 ((spK ss i).la)) (by kernel_rfl) rfl) (v := .pointer (some (ad38.add (i * 4 + 1)))) (by kernel_rfl) rfl) (v := .pointer (some (ad38.add (i * 4)))) (by kernel_rfl) rfl) (v := .int .i64 (i : Int)) (by kernel_rfl) rfl) (v := .slice A ss.length cap) (by kernel_rfl) rfl) (v := .int .i64 (i : Int)) (by kernel_rfl) rfl) (v := .slice (some ad52) en ec) (by kernel_rfl) rfl) (v := .slice (some ad52) en ec) (by kernel_rfl) rfl) (v := .int .i64 m) (by kernel_rfl) rfl) (v := .bool ((bk ss el i en).kp)) (by kernel_rfl) rfl) (v := .bool ((bk ss el i en).kp)) (by kernel_rfl) rfl) (v := .int .i64 (i : Int)) (by kernel_rfl) rfl) (v := .slice (some ad52) en ec) (by kernel_rfl) rfl) (v := .slice A ss.length cap) (by kernel_rfl) rfl) (v := .int .i64 (i : Int)) (by kernel_rfl) rfl) (v := .slice (some ⟨g6, 0, none⟩) ss.length ss.length) (by kernel_rfl) rfl) (v := .bool (decide ((i : Int) < (ss.length : Int)))) (by kernel_rfl) rfl) (v := .int .i64 (ss.length : Int)) (by kernel_rfl) rfl) (v := .slice A ss.length cap) (by kernel_rfl) rfl) (v := .int .i64 (i : Int)) (by kernel_rfl) rfl) (v := .int .i64 (i : Int)) (by kernel_rfl) rfl) (v := .slice (some ⟨g6, 0, none⟩) ss.length ss.length) (by kernel_rfl) rfl) (v := .slice (some ⟨g6, 0, none⟩) ss.length ss.length) (by kernel_rfl) rfl) (v := .int .i64 (ss.length : Int)) (by kernel_rfl) rfl) (v := .slice A ss.length cap) (by kernel_rfl) rfl) (v := .slice none 0 0) (by kernel_rfl) rfl) (v := .int .i64 m) (by kernel_rfl) rfl) (v := .slice (some ad52) en ec) (by kernel_rfl) rfl) (v := .slice A ss.length cap) (by kernel_rfl) rfl), (St.rerow 0 S129 rfl ⟨rfl, congrArg (bX ss.length) (vaG_snoc (by omega) (by rw [h90, Bool.false_and]))⟩).sub sub_all sub_all⟩, ?_⟩
          omega
      · have p133 := of_decide_eq_false h81
        refine wp_exit ?_
        refine x_then ?_
        refine x_then ?_
        refine x_hit ?_
        refine n_block ?_
        refine n_then ?_
        refine wp_region_lit ?_
        refine s_one (.int .i64 (i : Int)) A80 S64 (g_move (by kernel_rfl)) rfl (fun ac A134 => ?_)
        refine s_one (.int .i64 ((i : Int) + 1)) A134 S64 (g_bin (u := .int .i64 (i : Int)) (k := .int .i64 1) (by kernel_rfl) (by kernel_rfl) (fun _ => by kernel_rfl) (b_add (by omega))) rfl (fun ac A135 => ?_)
        refine s_one (.int .i64 ((i : Int) + 1)) A135 S64 (g_assign (by kernel_rfl)) rfl (fun ac A136 => ?_)
        refine wpList_nil ?_
        refine n_then ?_
        refine ⟨_, ⟨i + 1, rfl, by omega, (A136.slot (A136.slot (A136.slot (A136.slot (A136.slot (A136.slot (A136.slot (A136.slot (A136.slot A136.nil (v := .int .i64 ((i : Int) + 1)) (by kernel_rfl) (congrArg (Value.int .i64) (by omega))) (v := .slice (some ⟨g6, 0, none⟩) ss.length ss.length) (by kernel_rfl) rfl) (v := .slice (some ⟨g6, 0, none⟩) ss.length ss.length) (by kernel_rfl) rfl) (v := .int .i64 (ss.length : Int)) (by kernel_rfl) rfl) (v := .slice A ss.length cap) (by kernel_rfl) rfl) (v := .slice none 0 0) (by kernel_rfl) rfl) (v := .int .i64 m) (by kernel_rfl) rfl) (v := .slice (some ad52) en ec) (by kernel_rfl) (by first | rfl | simp)) (v := .slice A ss.length cap) (by kernel_rfl) rfl), (St.rerow 0 S64 rfl ⟨rfl, congrArg (bX ss.length) (vaG_end gs.ahead (bkF_kd ss el en) (by omega) (by omega))⟩).sub sub_all sub_all⟩, ?_⟩
        omega
    · refine r_skip 7 A30 T29 rfl (want_f (dj := 25) (b := ((bk ss el i en).kp)) A30 rfl (by kernel_rfl) (by kernel_rfl) h31) rfl (pf_then (pf_block (pf_then (pf_then (pf_block (pf_then pf_body)))))) (by kernel_rfl) (fun ac A137 => ?_)
      refine r_skip 8 A137 T29 rfl (want_f (dj := 25) (b := ((bk ss el i en).kp)) A137 rfl (by kernel_rfl) (by kernel_rfl) h31) rfl (pf_then (pf_block (pf_then (pf_then (pf_block (pf_then pf_body)))))) (by kernel_rfl) (fun ac A138 => ?_)
      refine r_skip 9 A138 T29 rfl (want_f (dj := 25) (b := ((bk ss el i en).kp)) A138 rfl (by kernel_rfl) (by kernel_rfl) h31) rfl (pf_then (pf_block (pf_then (pf_then (pf_block (pf_then pf_body)))))) (by kernel_rfl) (fun ac A139 => ?_)
      refine r_skip 10 A139 T29 rfl (want_f (dj := 25) (b := ((bk ss el i en).kp)) A139 rfl (by kernel_rfl) (by kernel_rfl) h31) rfl (pf_then (pf_block (pf_then (pf_then (pf_block (pf_then pf_body)))))) (by kernel_rfl) (fun ac A140 => ?_)
      refine r_skip 11 A140 T29 rfl (want_f (dj := 25) (b := ((bk ss el i en).kp)) A140 rfl (by kernel_rfl) (by kernel_rfl) h31) rfl (pf_then (pf_block (pf_then (pf_then (pf_block (pf_then pf_body)))))) (by kernel_rfl) (fun ac A141 => ?_)
      refine r_skip 12 A141 T29 rfl (want_f (dj := 25) (b := ((bk ss el i en).kp)) A141 rfl (by kernel_rfl) (by kernel_rfl) h31) rfl (pf_then (pf_block (pf_then (pf_then (pf_block (pf_then pf_body)))))) (by kernel_rfl) (fun ac A142 => ?_)
      refine r_skip 13 A142 T29 rfl (want_f (dj := 25) (b := ((bk ss el i en).kp)) A142 rfl (by kernel_rfl) (by kernel_rfl) h31) rfl (pf_then (pf_block (pf_then (pf_then (pf_block (pf_then pf_body)))))) (by kernel_rfl) (fun ac A143 => ?_)
      refine r_skip 14 A143 T29 rfl (want_f (dj := 25) (b := ((bk ss el i en).kp)) A143 rfl (by kernel_rfl) (by kernel_rfl) h31) rfl (pf_then (pf_block (pf_then (pf_then (pf_block (pf_then pf_body)))))) (by kernel_rfl) (fun ac A144 => ?_)
      refine r_skip 15 A144 T29 rfl (want_f (dj := 25) (b := ((bk ss el i en).kp)) A144 rfl (by kernel_rfl) (by kernel_rfl) h31) rfl (pf_then (pf_block (pf_then (pf_then (pf_block (pf_then pf_body)))))) (by kernel_rfl) (fun ac A145 => ?_)
      refine r_skip 16 A145 T29 rfl (want_f (dj := 25) (b := ((bk ss el i en).kp)) A145 rfl (by kernel_rfl) (by kernel_rfl) h31) rfl (pf_then (pf_block (pf_then (pf_then (pf_block (pf_then pf_body)))))) (by kernel_rfl) (fun ac A146 => ?_)
      refine r_skip 17 A146 T29 rfl (want_f (dj := 25) (b := ((bk ss el i en).kp)) A146 rfl (by kernel_rfl) (by kernel_rfl) h31) rfl (pf_then (pf_block (pf_then (pf_then (pf_block (pf_then pf_body)))))) (by kernel_rfl) (fun ac A147 => ?_)
      refine r_skip 18 A147 T29 rfl (want_f (dj := 25) (b := ((bk ss el i en).kp)) A147 rfl (by kernel_rfl) (by kernel_rfl) h31) rfl (pf_then (pf_block (pf_then (pf_then (pf_block (pf_then pf_body)))))) (by kernel_rfl) (fun ac A148 => ?_)
      refine r_skip 19 A148 T29 rfl (want_f (dj := 25) (b := ((bk ss el i en).kp)) A148 rfl (by kernel_rfl) (by kernel_rfl) h31) rfl (pf_then (pf_block (pf_then (pf_then (pf_block (pf_then pf_body)))))) (by kernel_rfl) (fun ac A149 => ?_)
      refine r_skip 20 A149 T29 rfl (want_f (dj := 25) (b := ((bk ss el i en).kp)) A149 rfl (by kernel_rfl) (by kernel_rfl) h31) rfl (pf_then (pf_block (pf_then (pf_then (pf_block (pf_then pf_body)))))) (by kernel_rfl) (fun ac A150 => ?_)
      refine r_skip 21 A150 T29 rfl (want_f (dj := 25) (b := ((bk ss el i en).kp)) A150 rfl (by kernel_rfl) (by kernel_rfl) h31) rfl (pf_then (pf_block (pf_then (pf_then (pf_block (pf_then pf_body)))))) (by kernel_rfl) (fun ac A151 => ?_)
      refine r_take 22 (.bool false) A151 T29 (g_pick_f (b := ((bk ss el i en).kp)) (by kernel_rfl) h31 (by kernel_rfl)) rfl rfl rfl (pf_then (pf_block (pf_then (pf_then (pf_block (pf_then pf_body)))))) (by kernel_rfl) (fun ac A152 => ?_)
      refine r_take 23 (.pointer (some ((Addr.mk g6 0 none).add i))) A152 T29 (g_index (u := .slice (some ⟨g6, 0, none⟩) ss.length ss.length) (k := .int .i64 (i : Int)) (by kernel_rfl) (by kernel_rfl) (ix_x (e := 4) (bytes := 1) i (by kernel_rfl) (by omega) (by omega))) rfl rfl rfl (pf_then (pf_block (pf_then (pf_then (pf_block (pf_then pf_body)))))) (by kernel_rfl) (fun ac A153 => ?_)
      refine r_1 (i := 24) (by kernel_rfl) ?_
      refine rs_storeR (ad := ⟨g6, 0, none⟩) (off := i) (u := .bool false) 0 1 [.bool (false)] (bX ss.length (setB (vaF ss (bkF ss el en) m i) i (false))) A153 S27 sub_all (fun _ => sub_nil) (by kernel_rfl) (by kernel_rfl) rfl rfl rfl (by kernel_rfl) rfl (by rw [bX_length]; omega) (bX_put (false) (by omega)) rfl rfl (fun wc S154 => ?_)
      have T155 := S154.sub sub_all sub_nil
      refine r_done (by kernel_rfl) ?_
      refine n_then ?_
      refine wp_seq ?_
      refine wp_region_lit ?_
      refine s_one (.int .i64 0) A153 S154 (g_assign (by kernel_rfl)) rfl (fun ac A156 => ?_)
      refine wpList_nil ?_
      refine n_then ?_
      refine wp_block ?_
      refine c_loopN (fun mm ac wc => ∃ (k : Nat), mm = (spK ss i).ne.length - k ∧ (k ≤ (spK ss i).ne.length) ∧ Fr 74 ac [(0, .slice A ss.length cap), (1, .slice EA en ec), (2, .int .i64 m), (6, .slice none 0 0), (10, .slice A ss.length cap), (11, .int .i64 (ss.length : Int)), (12, .slice (some ⟨g6, 0, none⟩) ss.length ss.length), (7, .slice (some ⟨g6, 0, none⟩) ss.length ss.length), (8, .int .i64 (i : Int)), (13, .int .i64 (i : Int)), (14, .slice A ss.length cap), (15, .int .i64 (ss.length : Int)), (16, .bool (decide ((i : Int) < (ss.length : Int)))), (19, .slice (some ⟨g6, 0, none⟩) ss.length ss.length), (20, .int .i64 (i : Int)), (21, .slice A ss.length cap), (22, .slice EA en ec), (23, .int .i64 (i : Int)), (24, .bool ((bk ss el i en).kp)), (25, .bool ((bk ss el i en).kp)), (26, undef), (27, undef), (28, undef), (29, undef), (30, undef), (31, undef), (32, undef), (33, undef), (34, undef), (35, undef), (36, undef), (37, undef), (38, undef), (39, undef), (40, undef), (41, .bool false), (42, .pointer (some ((Addr.mk g6 0 none).add i))), (9, .int .i64 (k : Int))] ∧ St w0 [] [⟨.slice (some ⟨g6, 0, none⟩) ss.length ss.length, 4, 1, ss.length, (bX ss.length (vaG ss (bkF ss el en) m i k))⟩] wc) _ ⟨0, rfl, Nat.zero_le _, (A156.slot (A156.slot (A156.slot (A156.slot (A156.slot (A156.slot (A156.slot (A156.slot (A156.slot (A156.slot (A156.slot (A156.slot (A156.slot (A156.slot (A156.slot (A156.slot (A156.slot (A156.slot (A156.slot (A156.slot (A156.slot (A156.slot (A156.slot (A156.slot (A156.slot (A156.slot (A156.slot (A156.slot (A156.slot (A156.slot (A156.slot (A156.slot (A156.slot (A156.slot (A156.slot (A156.slot (A156.slot (A156.slot A156.nil (v := .int .i64 0) (by kernel_rfl) (congrArg (Value.int .i64) (by omega))) (v := .pointer (some ((Addr.mk g6 0 none).add i))) (by kernel_rfl) rfl) (v := .bool false) (by kernel_rfl) rfl) (v := undef) (by kernel_rfl) rfl) (v := undef) (by kernel_rfl) rfl) (v := undef) (by kernel_rfl) rfl) (v := undef) (by kernel_rfl) rfl) (v := undef) (by kernel_rfl) rfl) (v := undef) (by kernel_rfl) rfl) (v := undef) (by kernel_rfl) rfl) (v := undef) (by kernel_rfl) rfl) (v := undef) (by kernel_rfl) rfl) (v := undef) (by kernel_rfl) rfl) (v := undef) (by kernel_rfl) rfl) (v := undef) (by kernel_rfl) rfl) (v := undef) (by kernel_rfl) rfl) (v := undef) (by kernel_rfl) rfl) (v := undef) (by kernel_rfl) rfl) (v := .bool ((bk ss el i en).kp)) (by kernel_rfl) rfl) (v := .bool ((bk ss el i en).kp)) (by kernel_rfl) rfl) (v := .int .i64 (i : Int)) (by kernel_rfl) rfl) (v := .slice EA en ec) (by kernel_rfl) rfl) (v := .slice A ss.length cap) (by kernel_rfl) rfl) (v := .int .i64 (i : Int)) (by kernel_rfl) rfl) (v := .slice (some ⟨g6, 0, none⟩) ss.length ss.length) (by kernel_rfl) rfl) (v := .bool (decide ((i : Int) < (ss.length : Int)))) (by kernel_rfl) rfl) (v := .int .i64 (ss.length : Int)) (by kernel_rfl) rfl) (v := .slice A ss.length cap) (by kernel_rfl) rfl) (v := .int .i64 (i : Int)) (by kernel_rfl) rfl) (v := .int .i64 (i : Int)) (by kernel_rfl) rfl) (v := .slice (some ⟨g6, 0, none⟩) ss.length ss.length) (by kernel_rfl) rfl) (v := .slice (some ⟨g6, 0, none⟩) ss.length ss.length) (by kernel_rfl) rfl) (v := .int .i64 (ss.length : Int)) (by kernel_rfl) rfl) (v := .slice A ss.length cap) (by kernel_rfl) rfl) (v := .slice none 0 0) (by kernel_rfl) rfl) (v := .int .i64 m) (by kernel_rfl) rfl) (v := .slice EA en ec) (by kernel_rfl) rfl) (v := .slice A ss.length cap) (by kernel_rfl) rfl), (St.rerow 0 S154 rfl ⟨rfl, congrArg (bX ss.length) (vaG_zero (va_f h31))⟩).sub sub_all sub_all⟩ ?_
      rintro mm ac wc ⟨k, hm159, hk, A157, S158⟩
      refine wp_seq ?_
      refine wp_seq ?_
      refine wp_region_lit ?_
      refine s_one (.int .i64 (k : Int)) A157 S158 (g_move (by kernel_rfl)) rfl (fun ac A160 => ?_)
      refine s_one (.slice A ss.length cap) A160 S158 (g_move (by kernel_rfl)) rfl (fun ac A161 => ?_)
      refine s_one (.int .i64 (i : Int)) A161 S158 (g_move (by kernel_rfl)) rfl (fun ac A162 => ?_)
      obtain ⟨ad163, B164, c165, he166, hs167⟩ := hr i (by omega)
      have hm168 := hs167.hm
      have hm169 := hs167.hn
      refine s_one (.pointer (some (ad163.add (i * 4)))) A162 S158 (g_index (u := .slice A ss.length cap) (k := .int .i64 (i : Int)) (by kernel_rfl) (by kernel_rfl) (ix_xsB (e := 59) (size := 4) (bytes := 56) i (by kernel_rfl) (by omega) (by omega) he166)) rfl (fun ac A170 => ?_)
      refine s_one (.pointer (some (ad163.add (i * 4 + 3)))) A170 S158 (g_field (u := .pointer (some (ad163.add (i * 4)))) (by kernel_rfl) (fld_x (x := i * 4) (o := 3) (by kernel_rfl))) rfl (fun ac A171 => ?_)
      refine s_one (.slice B164 ((spK ss i).ne.length) c165) A171 S158 (g_loadX (ad := ad163.add (i * 4 + 3)) (by kernel_rfl) (sp_cell (j := 3) hs167 rfl rfl) (by kernel_rfl)) rfl (fun ac A172 => ?_)
      refine s_one (.int .i64 ((spK ss i).ne.length : Int)) A172 S158 (g_built (r := [(0, .slice B164 ((spK ss i).ne.length) c165)]) (by kernel_rfl) (fun _ _ _ => by kernel_rfl)) rfl (fun ac A173 => ?_)
      refine s_one (.bool (decide ((k : Int) < ((spK ss i).ne.length : Int)))) A173 S158 (g_bin (u := .int .i64 (k : Int)) (k := .int .i64 ((spK ss i).ne.length : Int)) (by kernel_rfl) (by kernel_rfl) (fun _ => by kernel_rfl) (fun _ => by kernel_rfl)) rfl (fun ac A174 => ?_)
      refine wpList_nil ?_
      refine n_then ?_
      refine c_ifb (b := (decide ((k : Int) < ((spK ss i).ne.length : Int)))) A174 (by kernel_rfl) (fun h175 => ?_) (fun h175 => ?_)
      · have p176 := of_decide_eq_true h175
        refine wp_skip ?_
        refine n_then ?_
        refine wp_seq ?_
        refine wp_block ?_
        have hnm := gs.ahead i (by omega) _ (nthI_mem (show k < (spK ss i).ne.length by omega))
        refine wp_region_lit ?_
        refine s_one (.slice (some ⟨g6, 0, none⟩) ss.length ss.length) A174 S158 (g_move (by kernel_rfl)) rfl (fun ac A177 => ?_)
        refine s_one (.int .i64 (i : Int)) A177 S158 (g_move (by kernel_rfl)) rfl (fun ac A178 => ?_)
        refine s_one (.slice (some ⟨g6, 0, none⟩) ss.length ss.length) A178 S158 (g_move (by kernel_rfl)) rfl (fun ac A179 => ?_)
        refine s_one (.int .i64 (i : Int)) A179 S158 (g_move (by kernel_rfl)) rfl (fun ac A180 => ?_)
        refine s_one (.pointer (some ((Addr.mk g6 0 none).add i))) A180 S158 (g_index (u := .slice (some ⟨g6, 0, none⟩) ss.length ss.length) (k := .int .i64 (i : Int)) (by kernel_rfl) (by kernel_rfl) (ix_x (e := 4) (bytes := 1) i (by kernel_rfl) (by omega) (by omega))) rfl (fun ac A181 => ?_)
        refine s_one (.bool (vaG ss (bkF ss el en) m i k i)) A181 S158 (g_loadR1 (ad := ⟨g6, 0, none⟩) (off := i) (v := .bool (vaG ss (bkF ss el en) m i k i)) 0 (by kernel_rfl) rfl (bX_getE (by omega) rfl) (by kernel_rfl)) rfl (fun ac A182 => ?_)
        refine s_one (.bool (vaG ss (bkF ss el en) m i k i)) A182 S158 (g_move (by kernel_rfl)) rfl (fun ac A183 => ?_)
        refine by_bool (vaG ss (bkF ss el en) m i k i) (fun h184 => ?_) (fun h184 => ?_)
        · refine s_want (dj := 59) (b := (vaG ss (bkF ss el en) m i k i)) A183 (by kernel_rfl) (by kernel_rfl) h184 ?_
          refine s_one (.slice (some ⟨g6, 0, none⟩) ss.length ss.length) A183 S158 (g_move (by kernel_rfl)) rfl (fun ac A185 => ?_)
          refine s_want (dj := 59) (b := (vaG ss (bkF ss el en) m i k i)) A185 (by kernel_rfl) (by kernel_rfl) h184 ?_
          refine s_one (.slice A ss.length cap) A185 S158 (g_move (by kernel_rfl)) rfl (fun ac A186 => ?_)
          refine s_want (dj := 59) (b := (vaG ss (bkF ss el en) m i k i)) A186 (by kernel_rfl) (by kernel_rfl) h184 ?_
          refine s_one (.int .i64 (i : Int)) A186 S158 (g_move (by kernel_rfl)) rfl (fun ac A187 => ?_)
          refine s_want (dj := 59) (b := (vaG ss (bkF ss el en) m i k i)) A187 (by kernel_rfl) (by kernel_rfl) h184 ?_
          obtain ⟨ad188, B189, c190, he191, hs192⟩ := hr i (by omega)
          have hm193 := hs192.hm
          have hm194 := hs192.hn
          refine s_one (.pointer (some (ad188.add (i * 4)))) A187 S158 (g_index (u := .slice A ss.length cap) (k := .int .i64 (i : Int)) (by kernel_rfl) (by kernel_rfl) (ix_xsB (e := 59) (size := 4) (bytes := 56) i (by kernel_rfl) (by omega) (by omega) he191)) rfl (fun ac A195 => ?_)
          refine s_want (dj := 59) (b := (vaG ss (bkF ss el en) m i k i)) A195 (by kernel_rfl) (by kernel_rfl) h184 ?_
          refine s_one (.pointer (some (ad188.add (i * 4 + 3)))) A195 S158 (g_field (u := .pointer (some (ad188.add (i * 4)))) (by kernel_rfl) (fld_x (x := i * 4) (o := 3) (by kernel_rfl))) rfl (fun ac A196 => ?_)
          refine s_want (dj := 59) (b := (vaG ss (bkF ss el en) m i k i)) A196 (by kernel_rfl) (by kernel_rfl) h184 ?_
          refine s_one (.slice B189 ((spK ss i).ne.length) c190) A196 S158 (g_loadX (ad := ad188.add (i * 4 + 3)) (by kernel_rfl) (sp_cell (j := 3) hs192 rfl rfl) (by kernel_rfl)) rfl (fun ac A197 => ?_)
          refine s_want (dj := 59) (b := (vaG ss (bkF ss el en) m i k i)) A197 (by kernel_rfl) (by kernel_rfl) h184 ?_
          refine s_one (.int .i64 (k : Int)) A197 S158 (g_move (by kernel_rfl)) rfl (fun ac A198 => ?_)
          refine s_want (dj := 59) (b := (vaG ss (bkF ss el en) m i k i)) A198 (by kernel_rfl) (by kernel_rfl) h184 ?_
          obtain ⟨ad199, rfl, _⟩ := hs192.rd (k) (by have hlen := (show (spK ss i).ne.length = (spK ss i).ne.length * 1 by omega); omega)
          refine s_one (.pointer (some (ad199.add k))) A198 S158 (g_index (u := .slice (some ad199) ((spK ss i).ne.length) c190) (k := .int .i64 (k : Int)) (by kernel_rfl) (by kernel_rfl) (ix_x (e := 3) (bytes := 8) k (by kernel_rfl) (by omega) (by omega))) rfl (fun ac A200 => ?_)
          refine s_want (dj := 59) (b := (vaG ss (bkF ss el en) m i k i)) A200 (by kernel_rfl) (by kernel_rfl) h184 ?_
          refine s_one (.int .i64 (nthI ((spK ss i).ne) k)) A200 S158 (g_loadXI (l := (spK ss i).ne) (k := k) (by kernel_rfl) hs192.rd (by have hlen := (show (spK ss i).ne.length = (spK ss i).ne.length * 1 by omega); omega) (by kernel_rfl)) rfl (fun ac A201 => ?_)
          refine s_want (dj := 59) (b := (vaG ss (bkF ss el en) m i k i)) A201 (by kernel_rfl) (by kernel_rfl) h184 ?_
          refine s_one (.pointer (some ((Addr.mk g6 0 none).add ((nthI ((spK ss i).ne) k).toNat)))) A201 S158 (g_index (u := .slice (some ⟨g6, 0, none⟩) ss.length ss.length) (k := .int .i64 (nthI ((spK ss i).ne) k)) (by kernel_rfl) (by kernel_rfl) (ix_x (e := 4) (bytes := 1) ((nthI ((spK ss i).ne) k).toNat) (by kernel_rfl) (by omega) (by omega))) rfl (fun ac A202 => ?_)
          refine s_want (dj := 59) (b := (vaG ss (bkF ss el en) m i k i)) A202 (by kernel_rfl) (by kernel_rfl) h184 ?_
          refine s_one (.bool (vaG ss (bkF ss el en) m i k ((nthI ((spK ss i).ne) k).toNat))) A202 S158 (g_loadR1 (ad := ⟨g6, 0, none⟩) (off := ((nthI ((spK ss i).ne) k).toNat)) (v := .bool (vaG ss (bkF ss el en) m i k ((nthI ((spK ss i).ne) k).toNat))) 0 (by kernel_rfl) rfl (bX_getE (by omega) rfl) (by kernel_rfl)) rfl (fun ac A203 => ?_)
          refine s_one (.bool (vaG ss (bkF ss el en) m i k ((nthI ((spK ss i).ne) k).toNat))) A203 S158 (g_pick_t (b := (vaG ss (bkF ss el en) m i k i)) (by kernel_rfl) h184 (by kernel_rfl)) rfl (fun ac A204 => ?_)
          refine s_one (.pointer (some ((Addr.mk g6 0 none).add i))) A204 S158 (g_index (u := .slice (some ⟨g6, 0, none⟩) ss.length ss.length) (k := .int .i64 (i : Int)) (by kernel_rfl) (by kernel_rfl) (ix_x (e := 4) (bytes := 1) i (by kernel_rfl) (by omega) (by omega))) rfl (fun ac A205 => ?_)
          refine s_storeR (ad := ⟨g6, 0, none⟩) (off := i) (u := .bool (vaG ss (bkF ss el en) m i k ((nthI ((spK ss i).ne) k).toNat))) 0 1 [.bool (vaG ss (bkF ss el en) m i k ((nthI ((spK ss i).ne) k).toNat))] (bX ss.length (setB (vaG ss (bkF ss el en) m i k) i (vaG ss (bkF ss el en) m i k ((nthI ((spK ss i).ne) k).toNat)))) A205 S158 (by kernel_rfl) (by kernel_rfl) rfl rfl rfl (by kernel_rfl) rfl (by rw [bX_length]; omega) (bX_put (vaG ss (bkF ss el en) m i k ((nthI ((spK ss i).ne) k).toNat)) (by omega)) (fun wc S206 => ?_)
          refine wpList_nil ?_
          refine n_block ?_
          refine n_then ?_
          refine wp_region_lit ?_
          refine s_one (.int .i64 (k : Int)) A205 S206 (g_move (by kernel_rfl)) rfl (fun ac A207 => ?_)
          refine s_one (.int .i64 ((k : Int) + 1)) A207 S206 (g_bin (u := .int .i64 (k : Int)) (k := .int .i64 1) (by kernel_rfl) (by kernel_rfl) (fun _ => by kernel_rfl) (b_add (by omega))) rfl (fun ac A208 => ?_)
          refine s_one (.int .i64 ((k : Int) + 1)) A208 S206 (g_assign (by kernel_rfl)) rfl (fun ac A209 => ?_)
          refine wpList_nil ?_
          refine n_then ?_
          refine ⟨_, ⟨k + 1, rfl, by omega, (A209.slot (A209.slot (A209.slot (A209.slot (A209.slot (A209.slot (A209.slot (A209.slot (A209.slot (A209.slot (A209.slot (A209.slot (A209.slot (A209.slot (A209.slot (A209.slot (A209.slot (A209.slot (A209.slot (A209.slot (A209.slot (A209.slot (A209.slot (A209.slot (A209.slot (A209.slot (A209.slot (A209.slot (A209.slot (A209.slot (A209.slot (A209.slot (A209.slot (A209.slot (A209.slot (A209.slot (A209.slot (A209.slot A209.nil (v := .int .i64 ((k : Int) + 1)) (by kernel_rfl) (congrArg (Value.int .i64) (by omega))) (v := .pointer (some ((Addr.mk g6 0 none).add i))) (by kernel_rfl) rfl) (v := .bool false) (by kernel_rfl) rfl) (v := undef) (by kernel_rfl) rfl) (v := undef) (by kernel_rfl) rfl) (v := undef) (by kernel_rfl) rfl) (v := undef) (by kernel_rfl) rfl) (v := undef) (by kernel_rfl) rfl) (v := undef) (by kernel_rfl) rfl) (v := undef) (by kernel_rfl) rfl) (v := undef) (by kernel_rfl) rfl) (v := undef) (by kernel_rfl) rfl) (v := undef) (by kernel_rfl) rfl) (v := undef) (by kernel_rfl) rfl) (v := undef) (by kernel_rfl) rfl) (v := undef) (by kernel_rfl) rfl) (v := undef) (by kernel_rfl) rfl) (v := undef) (by kernel_rfl) rfl) (v := .bool ((bk ss el i en).kp)) (by kernel_rfl) rfl) (v := .bool ((bk ss el i en).kp)) (by kernel_rfl) rfl) (v := .int .i64 (i : Int)) (by kernel_rfl) rfl) (v := .slice EA en ec) (by kernel_rfl) rfl) (v := .slice A ss.length cap) (by kernel_rfl) rfl) (v := .int .i64 (i : Int)) (by kernel_rfl) rfl) (v := .slice (some ⟨g6, 0, none⟩) ss.length ss.length) (by kernel_rfl) rfl) (v := .bool (decide ((i : Int) < (ss.length : Int)))) (by kernel_rfl) rfl) (v := .int .i64 (ss.length : Int)) (by kernel_rfl) rfl) (v := .slice A ss.length cap) (by kernel_rfl) rfl) (v := .int .i64 (i : Int)) (by kernel_rfl) rfl) (v := .int .i64 (i : Int)) (by kernel_rfl) rfl) (v := .slice (some ⟨g6, 0, none⟩) ss.length ss.length) (by kernel_rfl) rfl) (v := .slice (some ⟨g6, 0, none⟩) ss.length ss.length) (by kernel_rfl) rfl) (v := .int .i64 (ss.length : Int)) (by kernel_rfl) rfl) (v := .slice A ss.length cap) (by kernel_rfl) rfl) (v := .slice none 0 0) (by kernel_rfl) rfl) (v := .int .i64 m) (by kernel_rfl) rfl) (v := .slice EA en ec) (by kernel_rfl) rfl) (v := .slice A ss.length cap) (by kernel_rfl) rfl), (St.rerow 0 S206 rfl ⟨rfl, congrArg (bX ss.length) (vaG_snoc (by omega) (by rw [h184, Bool.true_and]; exact vaG_old (by omega)))⟩).sub sub_all sub_all⟩, ?_⟩
          omega
        · refine s_not (dj := 59) (b := (vaG ss (bkF ss el en) m i k i)) A183 (by kernel_rfl) (by kernel_rfl) h184 rfl (fun ac A210 => ?_)
          refine s_not (dj := 59) (b := (vaG ss (bkF ss el en) m i k i)) A210 (by kernel_rfl) (by kernel_rfl) h184 rfl (fun ac A211 => ?_)
          refine s_not (dj := 59) (b := (vaG ss (bkF ss el en) m i k i)) A211 (by kernel_rfl) (by kernel_rfl) h184 rfl (fun ac A212 => ?_)
          refine s_not (dj := 59) (b := (vaG ss (bkF ss el en) m i k i)) A212 (by kernel_rfl) (by kernel_rfl) h184 rfl (fun ac A213 => ?_)
          refine s_not (dj := 59) (b := (vaG ss (bkF ss el en) m i k i)) A213 (by kernel_rfl) (by kernel_rfl) h184 rfl (fun ac A214 => ?_)
          refine s_not (dj := 59) (b := (vaG ss (bkF ss el en) m i k i)) A214 (by kernel_rfl) (by kernel_rfl) h184 rfl (fun ac A215 => ?_)
          refine s_not (dj := 59) (b := (vaG ss (bkF ss el en) m i k i)) A215 (by kernel_rfl) (by kernel_rfl) h184 rfl (fun ac A216 => ?_)
          refine s_not (dj := 59) (b := (vaG ss (bkF ss el en) m i k i)) A216 (by kernel_rfl) (by kernel_rfl) h184 rfl (fun ac A217 => ?_)
          refine s_not (dj := 59) (b := (vaG ss (bkF ss el en) m i k i)) A217 (by kernel_rfl) (by kernel_rfl) h184 rfl (fun ac A218 => ?_)
          refine s_not (dj := 59) (b := (vaG ss (bkF ss el en) m i k i)) A218 (by kernel_rfl) (by kernel_rfl) h184 rfl (fun ac A219 => ?_)
          refine s_not (dj := 59) (b := (vaG ss (bkF ss el en) m i k i)) A219 (by kernel_rfl) (by kernel_rfl) h184 rfl (fun ac A220 => ?_)
          refine s_one (.bool false) A220 S158 (g_pick_f (b := (vaG ss (bkF ss el en) m i k i)) (by kernel_rfl) h184 (by kernel_rfl)) rfl (fun ac A221 => ?_)
          refine s_one (.pointer (some ((Addr.mk g6 0 none).add i))) A221 S158 (g_index (u := .slice (some ⟨g6, 0, none⟩) ss.length ss.length) (k := .int .i64 (i : Int)) (by kernel_rfl) (by kernel_rfl) (ix_x (e := 4) (bytes := 1) i (by kernel_rfl) (by omega) (by omega))) rfl (fun ac A222 => ?_)
          refine s_storeR (ad := ⟨g6, 0, none⟩) (off := i) (u := .bool false) 0 1 [.bool (false)] (bX ss.length (setB (vaG ss (bkF ss el en) m i k) i (false))) A222 S158 (by kernel_rfl) (by kernel_rfl) rfl rfl rfl (by kernel_rfl) rfl (by rw [bX_length]; omega) (bX_put (false) (by omega)) (fun wc S223 => ?_)
          refine wpList_nil ?_
          refine n_block ?_
          refine n_then ?_
          refine wp_region_lit ?_
          refine s_one (.int .i64 (k : Int)) A222 S223 (g_move (by kernel_rfl)) rfl (fun ac A224 => ?_)
          refine s_one (.int .i64 ((k : Int) + 1)) A224 S223 (g_bin (u := .int .i64 (k : Int)) (k := .int .i64 1) (by kernel_rfl) (by kernel_rfl) (fun _ => by kernel_rfl) (b_add (by omega))) rfl (fun ac A225 => ?_)
          refine s_one (.int .i64 ((k : Int) + 1)) A225 S223 (g_assign (by kernel_rfl)) rfl (fun ac A226 => ?_)
          refine wpList_nil ?_
          refine n_then ?_
          refine ⟨_, ⟨k + 1, rfl, by omega, (A226.slot (A226.slot (A226.slot (A226.slot (A226.slot (A226.slot (A226.slot (A226.slot (A226.slot (A226.slot (A226.slot (A226.slot (A226.slot (A226.slot (A226.slot (A226.slot (A226.slot (A226.slot (A226.slot (A226.slot (A226.slot (A226.slot (A226.slot (A226.slot (A226.slot (A226.slot (A226.slot (A226.slot (A226.slot (A226.slot (A226.slot (A226.slot (A226.slot (A226.slot (A226.slot (A226.slot (A226.slot (A226.slot A226.nil (v := .int .i64 ((k : Int) + 1)) (by kernel_rfl) (congrArg (Value.int .i64) (by omega))) (v := .pointer (some ((Addr.mk g6 0 none).add i))) (by kernel_rfl) rfl) (v := .bool false) (by kernel_rfl) rfl) (v := undef) (by kernel_rfl) rfl) (v := undef) (by kernel_rfl) rfl) (v := undef) (by kernel_rfl) rfl) (v := undef) (by kernel_rfl) rfl) (v := undef) (by kernel_rfl) rfl) (v := undef) (by kernel_rfl) rfl) (v := undef) (by kernel_rfl) rfl) (v := undef) (by kernel_rfl) rfl) (v := undef) (by kernel_rfl) rfl) (v := undef) (by kernel_rfl) rfl) (v := undef) (by kernel_rfl) rfl) (v := undef) (by kernel_rfl) rfl) (v := undef) (by kernel_rfl) rfl) (v := undef) (by kernel_rfl) rfl) (v := undef) (by kernel_rfl) rfl) (v := .bool ((bk ss el i en).kp)) (by kernel_rfl) rfl) (v := .bool ((bk ss el i en).kp)) (by kernel_rfl) rfl) (v := .int .i64 (i : Int)) (by kernel_rfl) rfl) (v := .slice EA en ec) (by kernel_rfl) rfl) (v := .slice A ss.length cap) (by kernel_rfl) rfl) (v := .int .i64 (i : Int)) (by kernel_rfl) rfl) (v := .slice (some ⟨g6, 0, none⟩) ss.length ss.length) (by kernel_rfl) rfl) (v := .bool (decide ((i : Int) < (ss.length : Int)))) (by kernel_rfl) rfl) (v := .int .i64 (ss.length : Int)) (by kernel_rfl) rfl) (v := .slice A ss.length cap) (by kernel_rfl) rfl) (v := .int .i64 (i : Int)) (by kernel_rfl) rfl) (v := .int .i64 (i : Int)) (by kernel_rfl) rfl) (v := .slice (some ⟨g6, 0, none⟩) ss.length ss.length) (by kernel_rfl) rfl) (v := .slice (some ⟨g6, 0, none⟩) ss.length ss.length) (by kernel_rfl) rfl) (v := .int .i64 (ss.length : Int)) (by kernel_rfl) rfl) (v := .slice A ss.length cap) (by kernel_rfl) rfl) (v := .slice none 0 0) (by kernel_rfl) rfl) (v := .int .i64 m) (by kernel_rfl) rfl) (v := .slice EA en ec) (by kernel_rfl) rfl) (v := .slice A ss.length cap) (by kernel_rfl) rfl), (St.rerow 0 S223 rfl ⟨rfl, congrArg (bX ss.length) (vaG_snoc (by omega) (by rw [h184, Bool.false_and]))⟩).sub sub_all sub_all⟩, ?_⟩
          omega
      · have p227 := of_decide_eq_false h175
        refine wp_exit ?_
        refine x_then ?_
        refine x_then ?_
        refine x_hit ?_
        refine n_block ?_
        refine n_then ?_
        refine wp_region_lit ?_
        refine s_one (.int .i64 (i : Int)) A174 S158 (g_move (by kernel_rfl)) rfl (fun ac A228 => ?_)
        refine s_one (.int .i64 ((i : Int) + 1)) A228 S158 (g_bin (u := .int .i64 (i : Int)) (k := .int .i64 1) (by kernel_rfl) (by kernel_rfl) (fun _ => by kernel_rfl) (b_add (by omega))) rfl (fun ac A229 => ?_)
        refine s_one (.int .i64 ((i : Int) + 1)) A229 S158 (g_assign (by kernel_rfl)) rfl (fun ac A230 => ?_)
        refine wpList_nil ?_
        refine n_then ?_
        refine ⟨_, ⟨i + 1, rfl, by omega, (A230.slot (A230.slot (A230.slot (A230.slot (A230.slot (A230.slot (A230.slot (A230.slot (A230.slot A230.nil (v := .int .i64 ((i : Int) + 1)) (by kernel_rfl) (congrArg (Value.int .i64) (by omega))) (v := .slice (some ⟨g6, 0, none⟩) ss.length ss.length) (by kernel_rfl) rfl) (v := .slice (some ⟨g6, 0, none⟩) ss.length ss.length) (by kernel_rfl) rfl) (v := .int .i64 (ss.length : Int)) (by kernel_rfl) rfl) (v := .slice A ss.length cap) (by kernel_rfl) rfl) (v := .slice none 0 0) (by kernel_rfl) rfl) (v := .int .i64 m) (by kernel_rfl) rfl) (v := .slice EA en ec) (by kernel_rfl) rfl) (v := .slice A ss.length cap) (by kernel_rfl) rfl), (St.rerow 0 S158 rfl ⟨rfl, congrArg (bX ss.length) (vaG_end gs.ahead (bkF_kd ss el en) (by omega) (by omega))⟩).sub sub_all sub_all⟩, ?_⟩
        omega
  · have p231 := of_decide_eq_false h16
    refine wp_exit ?_
    refine x_then ?_
    refine x_then ?_
    refine x_hit ?_
    refine n_then ?_
    refine wp_seq ?_
    refine wp_region_lit ?_
    refine s_one (.slice (some ⟨g6, 0, none⟩) ss.length ss.length) A15 S10 (g_move (by kernel_rfl)) rfl (fun ac A232 => ?_)
    refine s_one (.slice (some ⟨g6, 0, none⟩) ss.length ss.length) A232 S10 (g_assign (by kernel_rfl)) rfl (fun ac A233 => ?_)
    refine wpList_nil ?_
    refine n_then ?_
    refine wp_ret ?_
    refine finR 0 (.slice (some ⟨g6, 0, none⟩) ss.length ss.length) Try.results29 A233 S10 (by kernel_rfl) rfl (fun w2 bw ow => ?_)
    have ek : i = ss.length := by omega
    rw [ek, vaF_all] at ow
    exact ⟨_, rfl, bw, ow⟩

end Go.Proofs.Ytnbimpkihpaldaa
