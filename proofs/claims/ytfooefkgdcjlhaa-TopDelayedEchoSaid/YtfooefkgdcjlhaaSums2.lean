/- The reference's sums and shifts; equal traces. -/
import Derived.Test.YtfooefkgdcjlhaaSums
namespace Go.Proofs.Ytfooefkgdcjlhaa
open Go.RowKit Go.Cpl

theorem sh_snoc {x : List Int} {b : Int} {k : Nat} (h : k < 64) : (shL x b).take (k + 1) = (shL x b).take k ++ [if 0 ≤ (k : Int) - b ∧ (k : Int) - b ≤ 63 then nthI x ((k : Int) - b).toNat else 0] := by
  rw [take_snocI (by rw [shL_length]; exact h), nthI_eq (by rw [shL_length]; exact h)]
  simp [shL]

set_option maxRecDepth 100000 in
set_option maxHeartbeats 400000 in
theorem refShifted_s (xs : List Nat) (b : Int) (w0 : World) (hl : xs.length = 64) (h0 : Right xs) (hb : -64 ≤ b ∧ b ≤ 64) :
    Calls Try.prog 48 #[.agg (trc xs), .int .i64 b] w0 fun e w' => e = .returned (.agg (trc (mkT (shL (nums xs) b) 64))) ∧ Below w0.heap.size w0 w' := by
  have S0 := St.start w0
  refine enter (n := 32) Try.func48 rfl rfl rfl (fun ac A0 => ?_)
  refine wp_seq ?_
  refine wp_region_lit ?_
  refine s_box (.agg (trc xs)) A0 S0 (by kernel_rfl) rfl (fun g3 ac wc A1 S2 => ?_)
  replace S2 : St _ (⟨g3, 26, (trc xs), true⟩ :: _) _ _ := S2
  refine s_alloc (trc zT) A1 S2 zero26 rfl (fun g7 ac wc A5 S6 => ?_)
  refine wpList_nil ?_
  refine n_then ?_
  refine wp_seq ?_
  refine wp_region_lit ?_
  refine s_one (.agg (trc xs)) A5 S6 (g_loadW (g := g3) 1 (by kernel_rfl) rfl ((trc_size _).trans hl) ⟨⟨_, Try.underlying26, rfl⟩, by kernel_rfl⟩) rfl (fun ac A8 => ?_)
  refine s_callR (fs := #[]) (cp := #[]) (r := [(0, .agg (trc xs))]) #[.agg (trc xs)] A8 S6 (Ints_s xs _ hl h0) Try.call64 (by kernel_rfl) (by kernel_rfl) (by kernel_rfl) rfl (fun v12 ac wc A9 S10 => ?_)
  obtain ⟨g13, cap14, cur15, rfl, hc16, hs17, ht18, S19⟩ := S10.openRow (by omega)
  refine s_one (.slice (some ⟨g13, 0, none⟩) 64 cap14) A9 S19 (g_assign (by kernel_rfl)) rfl (fun ac A20 => ?_)
  refine wpList_nil ?_
  refine n_then ?_
  refine wp_seq ?_
  refine wp_region_lit ?_
  refine s_one (.slice none 0 0) A20 S19 (g_assign (by kernel_rfl)) rfl (fun ac A21 => ?_)
  refine wpList_nil ?_
  refine n_then ?_
  refine wp_seq ?_
  refine wp_seq ?_
  refine wp_region_lit ?_
  refine s_one (.int .i64 0) A21 S19 (g_assign (by kernel_rfl)) rfl (fun ac A22 => ?_)
  refine wpList_nil ?_
  refine n_then ?_
  refine wp_block ?_
  have S23 := S19.nilRow 3 1
  refine c_loopN (fun mm ac wc => ∃ (k : Nat) (v : Value), mm = 64 - k ∧ (k ≤ 64) ∧ Fr 32 ac [(0, .agg (trc xs)), (1, .int .i64 b), (2, .pointer (some ⟨g3, 0, none⟩)), (4, .pointer (some ⟨g7, 0, none⟩)), (8, .agg (trc xs)), (9, .slice (some ⟨g13, 0, none⟩) 64 cap14), (5, .slice (some ⟨g13, 0, none⟩) 64 cap14), (7, .int .i64 (k : Int)), (6, v)] ∧ St w0 [⟨g13, 3, cur15, true⟩, ⟨g7, 26, (trc zT), true⟩, ⟨g3, 26, (trc xs), true⟩] [⟨v, 3, 1, k, (rowI ((shL (nums xs) b).take k))⟩] wc) _ ⟨0, .slice none 0 0, rfl, by omega, (A22.slot (A22.slot (A22.slot (A22.slot (A22.slot (A22.slot (A22.slot (A22.slot (A22.slot A22.nil (v := .slice none 0 0) (by kernel_rfl) (by first | rfl | simp)) (v := .int .i64 0) (by kernel_rfl) (congrArg (Value.int .i64) (by omega))) (v := .slice (some ⟨g13, 0, none⟩) 64 cap14) (by kernel_rfl) rfl) (v := .slice (some ⟨g13, 0, none⟩) 64 cap14) (by kernel_rfl) rfl) (v := .agg (trc xs)) (by kernel_rfl) rfl) (v := .pointer (some ⟨g7, 0, none⟩)) (by kernel_rfl) rfl) (v := .pointer (some ⟨g3, 0, none⟩)) (by kernel_rfl) rfl) (v := .int .i64 b) (by kernel_rfl) rfl) (v := .agg (trc xs)) (by kernel_rfl) rfl), (St.rerow 0 S23 rfl ⟨rfl, rfl⟩).sub sub_all sub_all⟩ ?_
  rintro mm ac wc ⟨k, v, hm26, hk, A24, S25⟩
  refine wp_seq ?_
  refine wp_seq ?_
  refine wp_region_lit ?_
  refine s_one (.int .i64 (k : Int)) A24 S25 (g_move (by kernel_rfl)) rfl (fun ac A27 => ?_)
  refine s_one (.bool (decide ((k : Int) < 64))) A27 S25 (g_bin (u := .int .i64 (k : Int)) (k := .int .i64 64) (by kernel_rfl) (by kernel_rfl) (fun _ => by kernel_rfl) (fun _ => by kernel_rfl)) rfl (fun ac A28 => ?_)
  refine wpList_nil ?_
  refine n_then ?_
  refine c_ifb (b := (decide ((k : Int) < 64))) A28 (by kernel_rfl) (fun h29 => ?_) (fun h29 => ?_)
  · have p30 := of_decide_eq_true h29
    refine wp_skip ?_
    refine n_then ?_
    refine wp_seq ?_
    refine wp_block ?_
    refine wp_seq ?_
    refine wp_region_lit ?_
    refine s_one (.int .i64 (k : Int)) A28 S25 (g_move (by kernel_rfl)) rfl (fun ac A31 => ?_)
    refine s_one (.int .i64 b) A31 S25 (g_move (by kernel_rfl)) rfl (fun ac A32 => ?_)
    refine s_one (.int .i64 ((k : Int) - b)) A32 S25 (g_bin (u := .int .i64 (k : Int)) (k := .int .i64 b) (by kernel_rfl) (by kernel_rfl) (fun _ => by kernel_rfl) (b_sub (by omega))) rfl (fun ac A33 => ?_)
    refine s_call (fs := #[]) (cp := #[]) (r := [(0, .int .i64 ((k : Int) - b)), (0, .int .i64 0), (0, .int .i64 63)]) #[.int .i64 ((k : Int) - b), .int .i64 0, .int .i64 63] (.bool (inB ((k : Int) - b) 0 63)) A33 S25 (sameB (Within_any ((k : Int) - b) 0 63 _)) Try.call22 (by kernel_rfl) (by kernel_rfl) (by kernel_rfl) rfl (fun ac wc A34 S35 => ?_)
    refine wpList_nil ?_
    refine n_then ?_
    refine c_ifb (b := (inB ((k : Int) - b) 0 63)) A34 (by kernel_rfl) (fun h37 => ?_) (fun h37 => ?_)
    · have hi := inB_true.1 h37
      refine wp_region_lit ?_
      refine s_one (v) A34 S35 (g_move (by kernel_rfl)) rfl (fun ac A38 => ?_)
      refine s_one (.slice (some ⟨g13, 0, none⟩) 64 cap14) A38 S35 (g_move (by kernel_rfl)) rfl (fun ac A39 => ?_)
      refine s_one (.int .i64 (k : Int)) A39 S35 (g_move (by kernel_rfl)) rfl (fun ac A40 => ?_)
      refine s_one (.int .i64 b) A40 S35 (g_move (by kernel_rfl)) rfl (fun ac A41 => ?_)
      refine s_one (.int .i64 ((k : Int) - b)) A41 S35 (g_bin (u := .int .i64 (k : Int)) (k := .int .i64 b) (by kernel_rfl) (by kernel_rfl) (fun _ => by kernel_rfl) (b_sub (by omega))) rfl (fun ac A42 => ?_)
      refine s_one (.pointer (some ⟨g13, ((k : Int) - b).toNat, none⟩)) A42 S35 (g_index (u := .slice (some ⟨g13, 0, none⟩) 64 cap14) (k := .int .i64 ((k : Int) - b)) (by kernel_rfl) (by kernel_rfl) (ix_sl1 (e := 3) (bytes := 8) (((k : Int) - b).toNat) (by kernel_rfl) (by omega) (by omega))) rfl (fun ac A43 => ?_)
      refine s_one (.int .i64 (nthI (nums xs) (((k : Int) - b).toNat))) A43 S35 (g_load (g := g13) (off := ((k : Int) - b).toNat) 0 (by kernel_rfl) rfl (rv_of (by kernel_rfl) (cur_get ht18 (rowI_get (by rw [nums_length _]; omega))))) rfl (fun ac A44 => ?_)
      refine s_bs (e := 3) (r := [(0, .int .i64 (nthI (nums xs) (((k : Int) - b).toNat)))]) (#[.int .i64 (nthI (nums xs) (((k : Int) - b).toNat))]) A44 S35 (by kernel_rfl) (by kernel_rfl) rfl (fun g47 ac wc A45 S46 => ?_)
      refine s_append (e := 3) (size := 1) (bytes := 8) (v := v) (g := g47) (m' := 1) (c := 1) 0 0 [.int .i64 (nthI (nums xs) (((k : Int) - b).toNat))] A45 S46 (by kernel_rfl) (by kernel_rfl) (by kernel_rfl) rfl rfl (by kernel_rfl) rfl (by kernel_rfl) (by omega) (by omega) rfl (fun v51 ac wc A48 S49 => ?_)
      refine s_one (v51) A48 S49 (g_assign (by kernel_rfl)) rfl (fun ac A52 => ?_)
      refine wpList_nil ?_
      refine n_block ?_
      refine n_then ?_
      refine wp_region_lit ?_
      refine s_one (.int .i64 (k : Int)) A52 S49 (g_move (by kernel_rfl)) rfl (fun ac A53 => ?_)
      refine s_one (.int .i64 ((k : Int) + 1)) A53 S49 (g_bin (u := .int .i64 (k : Int)) (k := .int .i64 1) (by kernel_rfl) (by kernel_rfl) (fun _ => by kernel_rfl) (b_add (by omega))) rfl (fun ac A54 => ?_)
      refine s_one (.int .i64 ((k : Int) + 1)) A54 S49 (g_assign (by kernel_rfl)) rfl (fun ac A55 => ?_)
      refine wpList_nil ?_
      refine n_then ?_
      refine ⟨_, ⟨k + 1, v51, rfl, by omega, (A55.slot (A55.slot (A55.slot (A55.slot (A55.slot (A55.slot (A55.slot (A55.slot (A55.slot A55.nil (v := v51) (by kernel_rfl) rfl) (v := .int .i64 ((k : Int) + 1)) (by kernel_rfl) (congrArg (Value.int .i64) (by omega))) (v := .slice (some ⟨g13, 0, none⟩) 64 cap14) (by kernel_rfl) rfl) (v := .slice (some ⟨g13, 0, none⟩) 64 cap14) (by kernel_rfl) rfl) (v := .agg (trc xs)) (by kernel_rfl) rfl) (v := .pointer (some ⟨g7, 0, none⟩)) (by kernel_rfl) rfl) (v := .pointer (some ⟨g3, 0, none⟩)) (by kernel_rfl) rfl) (v := .int .i64 b) (by kernel_rfl) rfl) (v := .agg (trc xs)) (by kernel_rfl) rfl), (St.rerow 0 S49 rfl ⟨rfl, by rw [rowI_snoc, sh_snoc (by omega), if_pos (inB_true.1 h37)]⟩).sub (sub_skip sub_all) sub_all⟩, ?_⟩
      omega
    · refine wp_region_lit ?_
      refine s_one (v) A34 S35 (g_move (by kernel_rfl)) rfl (fun ac A56 => ?_)
      refine s_bs (e := 3) (r := [(0, .int .i64 0)]) (#[.int .i64 0]) A56 S35 (by kernel_rfl) (by kernel_rfl) rfl (fun g59 ac wc A57 S58 => ?_)
      refine s_append (e := 3) (size := 1) (bytes := 8) (v := v) (g := g59) (m' := 1) (c := 1) 0 0 [.int .i64 0] A57 S58 (by kernel_rfl) (by kernel_rfl) (by kernel_rfl) rfl rfl (by kernel_rfl) rfl (by kernel_rfl) (by omega) (by omega) rfl (fun v63 ac wc A60 S61 => ?_)
      refine s_one (v63) A60 S61 (g_assign (by kernel_rfl)) rfl (fun ac A64 => ?_)
      refine wpList_nil ?_
      refine n_block ?_
      refine n_then ?_
      refine wp_region_lit ?_
      refine s_one (.int .i64 (k : Int)) A64 S61 (g_move (by kernel_rfl)) rfl (fun ac A65 => ?_)
      refine s_one (.int .i64 ((k : Int) + 1)) A65 S61 (g_bin (u := .int .i64 (k : Int)) (k := .int .i64 1) (by kernel_rfl) (by kernel_rfl) (fun _ => by kernel_rfl) (b_add (by omega))) rfl (fun ac A66 => ?_)
      refine s_one (.int .i64 ((k : Int) + 1)) A66 S61 (g_assign (by kernel_rfl)) rfl (fun ac A67 => ?_)
      refine wpList_nil ?_
      refine n_then ?_
      refine ⟨_, ⟨k + 1, v63, rfl, by omega, (A67.slot (A67.slot (A67.slot (A67.slot (A67.slot (A67.slot (A67.slot (A67.slot (A67.slot A67.nil (v := v63) (by kernel_rfl) rfl) (v := .int .i64 ((k : Int) + 1)) (by kernel_rfl) (congrArg (Value.int .i64) (by omega))) (v := .slice (some ⟨g13, 0, none⟩) 64 cap14) (by kernel_rfl) rfl) (v := .slice (some ⟨g13, 0, none⟩) 64 cap14) (by kernel_rfl) rfl) (v := .agg (trc xs)) (by kernel_rfl) rfl) (v := .pointer (some ⟨g7, 0, none⟩)) (by kernel_rfl) rfl) (v := .pointer (some ⟨g3, 0, none⟩)) (by kernel_rfl) rfl) (v := .int .i64 b) (by kernel_rfl) rfl) (v := .agg (trc xs)) (by kernel_rfl) rfl), (St.rerow 0 S61 rfl ⟨rfl, by rw [rowI_snoc, sh_snoc (by omega), if_neg (inB_false.1 h37)]⟩).sub (sub_skip sub_all) sub_all⟩, ?_⟩
      omega
  · have p68 := of_decide_eq_false h29
    refine wp_exit ?_
    refine x_then ?_
    refine x_then ?_
    refine x_hit ?_
    refine n_then ?_
    refine wp_seq ?_
    refine wp_region_lit ?_
    refine s_one (v) A28 S25 (g_move (by kernel_rfl)) rfl (fun ac A69 => ?_)
    obtain ⟨hl75, A73, cap74, rfl, hR76⟩ := rowI_reads (v := v) (m := k) (l := ((shL (nums xs) b).take k)) (S25.row 0 rfl)
    refine s_call (fs := #[]) (cp := #[]) (r := [(0, .slice A73 k cap74)]) #[.slice A73 k cap74] (.agg (trc (mkT ((shL (nums xs) b).take k) k))) A69 S25 (Trace_s ((shL (nums xs) b).take k) A73 cap74 k _ hl75 hR76 (by omega)) Try.call47 (by kernel_rfl) (by kernel_rfl) (by kernel_rfl) rfl (fun ac wc A70 S71 => ?_)
    refine s_store (g := g7) (off := 0) (v := .agg (trc (mkT ((shL (nums xs) b).take k) k))) 1 (trc (mkT ((shL (nums xs) b).take k) k)) A70 S71 (by kernel_rfl) (by kernel_rfl) rfl (putVal_whole ((trc_size _).trans zT_length) ((trc_size _).trans (done_length _ _ _ _)) ⟨⟨_, Try.underlying26, rfl⟩, by kernel_rfl⟩ (trc_one _)) (fun wc S78 => ?_)
    refine wpList_nil ?_
    refine n_then ?_
    refine wp_ret ?_
    refine fin1 (.agg (trc (mkT ((shL (nums xs) b).take k) k))) Try.results48 A70 S78 (rv_cell (g := g7) (off := 0) 1 (by kernel_rfl) rfl (rowVal_whole ((trc_size _).trans (done_length _ _ _ _)) ⟨⟨_, Try.underlying26, rfl⟩, by kernel_rfl⟩)) ⟨?_, S78.kp⟩
    obtain rfl : k = 64 := by omega
    rw [List.take_of_length_le (by rw [shL_length]; omega)]

theorem nthI_set {l : List Int} {k : Nat} {x : Int} (h : k < l.length) : nthI (l.set k x) k = x := by
  rw [nthI_eq (by rw [List.length_set]; exact h), List.getElem_set_self]
theorem le_step {f : Nat → Int} {k : Nat} (h : ∀ i, i < k → -2047 ≤ f i ∧ f i ≤ 2047) (hk : -2047 ≤ f k ∧ f k ≤ 2047) : ∀ i, i < k + 1 → -2047 ≤ f i ∧ f i ≤ 2047 := by
  intro i hi
  by_cases e : i = k
  · subst e; exact hk
  · exact h i (by omega)

set_option maxRecDepth 100000 in
set_option maxHeartbeats 400000 in
theorem refAdded_s (xs ys : List Nat) (w0 : World) (hl : xs.length = 64) (hl2 : ys.length = 64) (h0 : Right xs) (h02 : Right ys) :
    Calls Try.prog 49 #[.agg (trc xs), .agg (trc ys)] w0 fun e w' => e = .returned (.tuple #[.agg (trc (adRight (nums xs) (nums ys)).1), .int .i64 (adRight (nums xs) (nums ys)).2]) ∧ Below w0.heap.size w0 w' := by
  have S0 := St.start w0
  have sx : Small (nums xs) := nums_range hl h0
  have sy : Small (nums ys) := nums_range hl2 h02
  refine enter (n := 40) Try.func49 rfl rfl rfl (fun ac A0 => ?_)
  refine wp_seq ?_
  refine wp_region_lit ?_
  refine s_box (.agg (trc xs)) A0 S0 (by kernel_rfl) rfl (fun g3 ac wc A1 S2 => ?_)
  replace S2 : St _ (⟨g3, 26, (trc xs), true⟩ :: _) _ _ := S2
  refine s_box (.agg (trc ys)) A1 S2 (by kernel_rfl) rfl (fun g7 ac wc A5 S6 => ?_)
  replace S6 : St _ (⟨g7, 26, (trc ys), true⟩ :: _) _ _ := S6
  refine s_alloc (trc zT) A5 S6 zero26 rfl (fun g11 ac wc A9 S10 => ?_)
  refine s_one (.int .i64 0) A9 S10 (g_assign (by kernel_rfl)) rfl (fun ac A12 => ?_)
  refine wpList_nil ?_
  refine n_then ?_
  refine wp_seq ?_
  refine r_begin (w0 := w0) (by kernel_rfl) (S10.sub sub_all sub_all) (fun wc T13 B14 => ?_)
  have S15 := S10.kept B14
  refine r_take 0 (.agg (trc xs)) A12 T13 (g_loadW (g := g3) 2 (by kernel_rfl) rfl ((trc_size _).trans hl) ⟨⟨_, Try.underlying26, rfl⟩, by kernel_rfl⟩) rfl rfl rfl (pf_then pf_body) (by kernel_rfl) (fun ac A16 => ?_)
  refine r_take 2 (.agg (trc ys)) A16 T13 (g_loadW (g := g7) 1 (by kernel_rfl) rfl ((trc_size _).trans hl2) ⟨⟨_, Try.underlying26, rfl⟩, by kernel_rfl⟩) rfl rfl rfl (pf_then pf_body) (by kernel_rfl) (fun ac A17 => ?_)
  refine r_1 (i := 1) (by kernel_rfl) ?_
  refine rs_callR (fs := #[]) (cp := #[]) (r := [(0, .agg (trc xs))]) #[.agg (trc xs)] A17 S15 sub_all sub_all (Ints_s xs _ hl h0) Try.call64 rfl rfl (by kernel_rfl) (by kernel_rfl) (by kernel_rfl) rfl (fun v22 ac wc A18 S19 => ?_)
  obtain ⟨g23, cap24, cur25, rfl, hc26, hs27, ht28, S29⟩ := S19.openRow (by omega)
  have T21 := S29.sub (sub_skip sub_all) sub_all
  refine r_1 (i := 3) (by kernel_rfl) ?_
  refine rs_callR (fs := #[]) (cp := #[]) (r := [(0, .agg (trc ys))]) #[.agg (trc ys)] A18 S29 (sub_skip sub_all) sub_all (Ints_s ys _ hl2 h02) Try.call64 rfl rfl (by kernel_rfl) (by kernel_rfl) (by kernel_rfl) rfl (fun v34 ac wc A30 S31 => ?_)
  obtain ⟨g35, cap36, cur37, rfl, hc38, hs39, ht40, S41⟩ := S31.openRow (by omega)
  have T33 := S41.sub (sub_skip (sub_skip sub_all)) sub_all
  refine r_take 4 (.slice (some ⟨g23, 0, none⟩) 64 cap24) A30 T33 (g_assign (by kernel_rfl)) rfl rfl rfl (pf_then pf_body) (by kernel_rfl) (fun ac A42 => ?_)
  refine r_take 5 (.slice (some ⟨g35, 0, none⟩) 64 cap36) A42 T33 (g_assign (by kernel_rfl)) rfl rfl rfl (pf_then pf_body) (by kernel_rfl) (fun ac A43 => ?_)
  refine r_done (by kernel_rfl) ?_
  refine n_then ?_
  refine wp_seq ?_
  refine wp_seq ?_
  refine wp_region_lit ?_
  refine s_one (.int .i64 0) A43 S41 (g_assign (by kernel_rfl)) rfl (fun ac A44 => ?_)
  refine wpList_nil ?_
  refine n_then ?_
  refine wp_block ?_
  refine c_loopN (fun mm ac wc => ∃ (k : Nat) (c2 : Array Value), mm = 64 - k ∧ (k ≤ 64) ∧ (c2.toList.take (64 * 1) = rowI (mixL (adF (nums xs) (nums ys)) (nthI (nums xs)) 64 k)) ∧ (64 ≤ c2.size) ∧ (∀ i, i < k → -2047 ≤ adF (nums xs) (nums ys) i ∧ adF (nums xs) (nums ys) i ≤ 2047) ∧ Fr 40 ac [(0, .agg (trc xs)), (1, .agg (trc ys)), (2, .pointer (some ⟨g3, 0, none⟩)), (3, .pointer (some ⟨g7, 0, none⟩)), (4, .pointer (some ⟨g11, 0, none⟩)), (9, .agg (trc xs)), (11, .agg (trc ys)), (10, .slice (some ⟨g23, 0, none⟩) 64 cap24), (12, .slice (some ⟨g35, 0, none⟩) 64 cap36), (6, .slice (some ⟨g23, 0, none⟩) 64 cap24), (7, .slice (some ⟨g35, 0, none⟩) 64 cap36), (8, .int .i64 (k : Int))] ∧ St w0 [⟨g35, 3, cur37, true⟩, ⟨g23, 3, c2, true⟩, ⟨g11, 26, (trc zT), true⟩, ⟨g7, 26, (trc ys), true⟩, ⟨g3, 26, (trc xs), true⟩] [] wc) _ ⟨0, cur25, rfl, (by omega), (by rw [← mixL_zero (nums_length _)]; exact ht28), (show 64 ≤ cur25.size by rw [hs27]; omega), (fun i hi => by omega), (A44.slot (A44.slot (A44.slot (A44.slot (A44.slot (A44.slot (A44.slot (A44.slot (A44.slot (A44.slot (A44.slot (A44.slot A44.nil (v := .int .i64 0) (by kernel_rfl) (congrArg (Value.int .i64) (by omega))) (v := .slice (some ⟨g35, 0, none⟩) 64 cap36) (by kernel_rfl) rfl) (v := .slice (some ⟨g23, 0, none⟩) 64 cap24) (by kernel_rfl) rfl) (v := .slice (some ⟨g35, 0, none⟩) 64 cap36) (by kernel_rfl) rfl) (v := .slice (some ⟨g23, 0, none⟩) 64 cap24) (by kernel_rfl) rfl) (v := .agg (trc ys)) (by kernel_rfl) rfl) (v := .agg (trc xs)) (by kernel_rfl) rfl) (v := .pointer (some ⟨g11, 0, none⟩)) (by kernel_rfl) rfl) (v := .pointer (some ⟨g7, 0, none⟩)) (by kernel_rfl) rfl) (v := .pointer (some ⟨g3, 0, none⟩)) (by kernel_rfl) rfl) (v := .agg (trc ys)) (by kernel_rfl) rfl) (v := .agg (trc xs)) (by kernel_rfl) rfl), (St.recell 1 S41 rfl (by rfl)).sub sub_all sub_all⟩ ?_
  rintro mm ac wc ⟨k, c2, hm47, hk, ht2, hs2, hle, A45, S46⟩
  have b1 := sx k
  have b2 := sy k
  have b3 : k < 64 → nthI (mixL (adF (nums xs) (nums ys)) (nthI (nums xs)) 64 k) k = nthI (nums xs) k := fun h => by rw [mixL_at h, if_neg (Nat.lt_irrefl _)]
  have b4 : k < 64 → nthI ((mixL (adF (nums xs) (nums ys)) (nthI (nums xs)) 64 k).set k (nthI (mixL (adF (nums xs) (nums ys)) (nthI (nums xs)) 64 k) k + nthI (nums ys) k)) k = nthI (nums xs) k + nthI (nums ys) k := fun h => by rw [nthI_set (by rw [mixL_length]; exact h), b3 h]
  refine wp_seq ?_
  refine wp_seq ?_
  refine wp_region_lit ?_
  refine s_one (.int .i64 (k : Int)) A45 S46 (g_move (by kernel_rfl)) rfl (fun ac A48 => ?_)
  refine s_one (.slice (some ⟨g23, 0, none⟩) 64 cap24) A48 S46 (g_move (by kernel_rfl)) rfl (fun ac A49 => ?_)
  refine s_one (.int .i64 64) A49 S46 (g_built (r := [(0, .slice (some ⟨g23, 0, none⟩) 64 cap24)]) (by kernel_rfl) (fun _ _ _ => by kernel_rfl)) rfl (fun ac A50 => ?_)
  refine s_one (.bool (decide ((k : Int) < 64))) A50 S46 (g_bin (u := .int .i64 (k : Int)) (k := .int .i64 64) (by kernel_rfl) (by kernel_rfl) (fun _ => by kernel_rfl) (fun _ => by kernel_rfl)) rfl (fun ac A51 => ?_)
  refine wpList_nil ?_
  refine n_then ?_
  refine c_ifb (b := (decide ((k : Int) < 64))) A51 (by kernel_rfl) (fun h52 => ?_) (fun h52 => ?_)
  · have p53 := of_decide_eq_true h52
    refine wp_skip ?_
    refine n_then ?_
    refine wp_seq ?_
    refine wp_block ?_
    refine wp_seq ?_
    refine r_begin (w0 := w0) (by kernel_rfl) (S46.sub (sub_keep (sub_skip sub_all)) sub_all) (fun wc T54 B55 => ?_)
    have S56 := S46.kept B55
    refine r_take 0 (.slice (some ⟨g23, 0, none⟩) 64 cap24) A51 T54 (g_move (by kernel_rfl)) rfl rfl rfl (pf_then (pf_block (pf_then (pf_then (pf_block (pf_then pf_body)))))) (by kernel_rfl) (fun ac A57 => ?_)
    refine r_take 1 (.int .i64 (k : Int)) A57 T54 (g_move (by kernel_rfl)) rfl rfl rfl (pf_then (pf_block (pf_then (pf_then (pf_block (pf_then pf_body)))))) (by kernel_rfl) (fun ac A58 => ?_)
    refine r_take 2 (.slice (some ⟨g23, 0, none⟩) 64 cap24) A58 T54 (g_move (by kernel_rfl)) rfl rfl rfl (pf_then (pf_block (pf_then (pf_then (pf_block (pf_then pf_body)))))) (by kernel_rfl) (fun ac A59 => ?_)
    refine r_take 3 (.int .i64 (k : Int)) A59 T54 (g_move (by kernel_rfl)) rfl rfl rfl (pf_then (pf_block (pf_then (pf_then (pf_block (pf_then pf_body)))))) (by kernel_rfl) (fun ac A60 => ?_)
    refine r_take 4 (.pointer (some ⟨g23, k, none⟩)) A60 T54 (g_index (u := .slice (some ⟨g23, 0, none⟩) 64 cap24) (k := .int .i64 (k : Int)) (by kernel_rfl) (by kernel_rfl) (ix_sl1 (e := 3) (bytes := 8) k (by kernel_rfl) (by omega) (by omega))) rfl rfl rfl (pf_then (pf_block (pf_then (pf_then (pf_block (pf_then pf_body)))))) (by kernel_rfl) (fun ac A61 => ?_)
    refine r_take 6 (.slice (some ⟨g35, 0, none⟩) 64 cap36) A61 T54 (g_move (by kernel_rfl)) rfl rfl rfl (pf_then (pf_block (pf_then (pf_then (pf_block (pf_then pf_body)))))) (by kernel_rfl) (fun ac A62 => ?_)
    refine r_take 7 (.int .i64 (k : Int)) A62 T54 (g_move (by kernel_rfl)) rfl rfl rfl (pf_then (pf_block (pf_then (pf_then (pf_block (pf_then pf_body)))))) (by kernel_rfl) (fun ac A63 => ?_)
    refine r_take 8 (.pointer (some ⟨g35, k, none⟩)) A63 T54 (g_index (u := .slice (some ⟨g35, 0, none⟩) 64 cap36) (k := .int .i64 (k : Int)) (by kernel_rfl) (by kernel_rfl) (ix_sl1 (e := 3) (bytes := 8) k (by kernel_rfl) (by omega) (by omega))) rfl rfl rfl (pf_then (pf_block (pf_then (pf_then (pf_block (pf_then pf_body)))))) (by kernel_rfl) (fun ac A64 => ?_)
    refine r_take 9 (.int .i64 (nthI (nums ys) k)) A64 T54 (g_load (g := g35) (off := k) 0 (by kernel_rfl) rfl (rv_of (by kernel_rfl) (cur_get ht40 (rowI_get (by rw [nums_length _]; omega))))) rfl rfl rfl (pf_then (pf_block (pf_then (pf_then (pf_block (pf_then pf_body)))))) (by kernel_rfl) (fun ac A65 => ?_)
    refine r_1 (i := 5) (by kernel_rfl) ?_
    refine rs_gives (.int .i64 (nthI (mixL (adF (nums xs) (nums ys)) (nthI (nums xs)) 64 k) k)) A65 S56 (sub_keep (sub_skip sub_all)) sub_all (g_load (g := g23) (off := k) 1 (by kernel_rfl) rfl (rv_of (by kernel_rfl) (cur_get ht2 (rowI_get (by rw [(mixL_length _ _ _ _)]; omega))))) rfl rfl rfl (fun ac A66 => ?_)
    refine r_take 10 (.int .i64 (nthI (mixL (adF (nums xs) (nums ys)) (nthI (nums xs)) 64 k) k + (nthI (nums ys) k))) A66 T54 (g_bin (u := .int .i64 (nthI (mixL (adF (nums xs) (nums ys)) (nthI (nums xs)) 64 k) k)) (k := .int .i64 (nthI (nums ys) k)) (by kernel_rfl) (by kernel_rfl) (fun _ => by kernel_rfl) (b_add (by rw [b3 (by omega)]; omega))) rfl rfl rfl (pf_then (pf_block (pf_then (pf_then (pf_block (pf_then pf_body)))))) (by kernel_rfl) (fun ac A70 => ?_)
    refine r_take 11 (.pointer (some ⟨g23, k, none⟩)) A70 T54 (g_index (u := .slice (some ⟨g23, 0, none⟩) 64 cap24) (k := .int .i64 (k : Int)) (by kernel_rfl) (by kernel_rfl) (ix_sl1 (e := 3) (bytes := 8) k (by kernel_rfl) (by omega) (by omega))) rfl rfl rfl (pf_then (pf_block (pf_then (pf_then (pf_block (pf_then pf_body)))))) (by kernel_rfl) (fun ac A71 => ?_)
    refine r_1 (i := 12) (by kernel_rfl) ?_
    refine rs_store (g := g23) (off := k) (v := .int .i64 (nthI (mixL (adF (nums xs) (nums ys)) (nthI (nums xs)) 64 k) k + (nthI (nums ys) k))) 1 (c2.setIfInBounds k (.int .i64 (nthI (mixL (adF (nums xs) (nums ys)) (nthI (nums xs)) 64 k) k + (nthI (nums ys) k)))) A71 S56 (sub_keep (sub_skip sub_all)) sub_all (by kernel_rfl) (by kernel_rfl) rfl (pv_of (by kernel_rfl) rfl (by have := hs2; omega)) rfl rfl (fun wc S73 => ?_)
    have T75 := S73.sub (sub_keep (sub_skip sub_all)) sub_all
    refine r_done (by kernel_rfl) ?_
    refine n_then ?_
    refine wp_seq ?_
    refine wp_region_lit ?_
    refine s_one (.slice (some ⟨g23, 0, none⟩) 64 cap24) A71 S73 (g_move (by kernel_rfl)) rfl (fun ac A76 => ?_)
    refine s_one (.int .i64 (k : Int)) A76 S73 (g_move (by kernel_rfl)) rfl (fun ac A77 => ?_)
    refine s_one (.pointer (some ⟨g23, k, none⟩)) A77 S73 (g_index (u := .slice (some ⟨g23, 0, none⟩) 64 cap24) (k := .int .i64 (k : Int)) (by kernel_rfl) (by kernel_rfl) (ix_sl1 (e := 3) (bytes := 8) k (by kernel_rfl) (by omega) (by omega))) rfl (fun ac A78 => ?_)
    refine s_one (.int .i64 (nthI ((mixL (adF (nums xs) (nums ys)) (nthI (nums xs)) 64 k).set k (nthI (mixL (adF (nums xs) (nums ys)) (nthI (nums xs)) 64 k) k + (nthI (nums ys) k))) k)) A78 S73 (g_load (g := g23) (off := k) 1 (by kernel_rfl) rfl (rv_of (by kernel_rfl) (cur_get (cur_set ht2 k (nthI (mixL (adF (nums xs) (nums ys)) (nthI (nums xs)) 64 k) k + (nthI (nums ys) k))) (rowI_get (by rw [(List.length_set.trans (mixL_length _ _ _ _))]; omega))))) rfl (fun ac A79 => ?_)
    refine s_call (fs := #[]) (cp := #[]) (r := [(0, .int .i64 (nthI ((mixL (adF (nums xs) (nums ys)) (nthI (nums xs)) 64 k).set k (nthI (mixL (adF (nums xs) (nums ys)) (nthI (nums xs)) 64 k) k + (nthI (nums ys) k))) k))]) #[.int .i64 (nthI ((mixL (adF (nums xs) (nums ys)) (nthI (nums xs)) 64 k).set k (nthI (mixL (adF (nums xs) (nums ys)) (nthI (nums xs)) 64 k) k + (nthI (nums ys) k))) k)] (.int .i64 (Size_s_r (nthI ((mixL (adF (nums xs) (nums ys)) (nthI (nums xs)) 64 k).set k (nthI (mixL (adF (nums xs) (nums ys)) (nthI (nums xs)) 64 k) k + (nthI (nums ys) k))) k))) A79 S73 (Size_s (nthI ((mixL (adF (nums xs) (nums ys)) (nthI (nums xs)) 64 k).set k (nthI (mixL (adF (nums xs) (nums ys)) (nthI (nums xs)) 64 k) k + (nthI (nums ys) k))) k) _ (by rw [b4 (by omega)]; omega) (by rw [b4 (by omega)]; omega)) Try.call78 (by kernel_rfl) (by kernel_rfl) (by kernel_rfl) rfl (fun ac wc A80 S81 => ?_)
    refine s_one (.bool (decide ((Size_s_r (nthI ((mixL (adF (nums xs) (nums ys)) (nthI (nums xs)) 64 k).set k (nthI (mixL (adF (nums xs) (nums ys)) (nthI (nums xs)) 64 k) k + (nthI (nums ys) k))) k)) > 2047))) A80 S81 (g_bin (u := .int .i64 (Size_s_r (nthI ((mixL (adF (nums xs) (nums ys)) (nthI (nums xs)) 64 k).set k (nthI (mixL (adF (nums xs) (nums ys)) (nthI (nums xs)) 64 k) k + (nthI (nums ys) k))) k))) (k := .int .i64 2047) (by kernel_rfl) (by kernel_rfl) (fun _ => by kernel_rfl) (fun _ => by kernel_rfl)) rfl (fun ac A83 => ?_)
    refine wpList_nil ?_
    refine n_then ?_
    refine c_ifb (b := (decide ((Size_s_r (nthI ((mixL (adF (nums xs) (nums ys)) (nthI (nums xs)) 64 k).set k (nthI (mixL (adF (nums xs) (nums ys)) (nthI (nums xs)) 64 k) k + (nthI (nums ys) k))) k)) > 2047))) A83 (by kernel_rfl) (fun h84 => ?_) (fun h84 => ?_)
    · have p85 := of_decide_eq_true h84
      refine wp_seq ?_
      refine wp_region_lit ?_
      refine s_one (.agg (trc zT)) A83 S81 (g_build (r := []) (by kernel_rfl) (fun _ => by kernel_rfl)) rfl (fun ac A86 => ?_)
      refine s_store (g := g11) (off := 0) (v := .agg (trc zT)) 2 (trc zT) A86 S81 (by kernel_rfl) (by kernel_rfl) rfl (putVal_whole ((trc_size _).trans zT_length) ((trc_size _).trans zT_length) ⟨⟨_, Try.underlying26, rfl⟩, by kernel_rfl⟩ (trc_one _)) (fun wc S88 => ?_)
      refine s_one (.int .i64 8) A86 S88 (g_assign (by kernel_rfl)) rfl (fun ac A90 => ?_)
      refine wpList_nil ?_
      refine n_then ?_
      refine wp_ret ?_
      refine r_block ?_
      refine r_then ?_
      refine r_then ?_
      refine r_block ?_
      refine r_then ?_
      refine fin2 (.agg (trc zT)) (.int .i64 8) Try.results49 A90 S88 (rv_cell (g := g11) (off := 0) 2 (by kernel_rfl) rfl (rowVal_whole ((trc_size _).trans zT_length) ⟨⟨_, Try.underlying26, rfl⟩, by kernel_rfl⟩)) (rv_tmp (by kernel_rfl)) ⟨?_, S88.kp⟩
      have e : grt (adL (nums xs) (nums ys)) 64 > 2047 := by
        have q := p85
        rw [Size_eq, b4 (by omega)] at q
        have q2 := grt_ge (l := adL (nums xs) (nums ys)) (k := 64) (i := k) (by omega)
        rw [adL_at (by omega)] at q2
        omega
      unfold adRight
      rw [if_pos e]
    · have p91 := of_decide_eq_false h84
      refine wp_skip ?_
      refine n_block ?_
      refine n_then ?_
      refine wp_region_lit ?_
      refine s_one (.int .i64 (k : Int)) A83 S81 (g_move (by kernel_rfl)) rfl (fun ac A92 => ?_)
      refine s_one (.int .i64 ((k : Int) + 1)) A92 S81 (g_bin (u := .int .i64 (k : Int)) (k := .int .i64 1) (by kernel_rfl) (by kernel_rfl) (fun _ => by kernel_rfl) (b_add (by omega))) rfl (fun ac A93 => ?_)
      refine s_one (.int .i64 ((k : Int) + 1)) A93 S81 (g_assign (by kernel_rfl)) rfl (fun ac A94 => ?_)
      refine wpList_nil ?_
      refine n_then ?_
      refine ⟨_, ⟨k + 1, (c2.setIfInBounds k (.int .i64 (nthI (mixL (adF (nums xs) (nums ys)) (nthI (nums xs)) 64 k) k + (nthI (nums ys) k)))), rfl, (by omega), (by have q := (cur_set ht2 k (nthI (mixL (adF (nums xs) (nums ys)) (nthI (nums xs)) 64 k) k + (nthI (nums ys) k))); rw [← mixL_set, show adF (nums xs) (nums ys) k = nthI (mixL (adF (nums xs) (nums ys)) (nthI (nums xs)) 64 k) k + nthI (nums ys) k by rw [b3 (by omega)]; rfl]; exact q), (by rw [Array.size_setIfInBounds]; exact hs2), (le_step hle (by have q := p91; rw [Size_eq, b4 (by omega)] at q; unfold adF; omega)), (A94.slot (A94.slot (A94.slot (A94.slot (A94.slot (A94.slot (A94.slot (A94.slot (A94.slot (A94.slot (A94.slot (A94.slot A94.nil (v := .int .i64 ((k : Int) + 1)) (by kernel_rfl) (congrArg (Value.int .i64) (by omega))) (v := .slice (some ⟨g35, 0, none⟩) 64 cap36) (by kernel_rfl) rfl) (v := .slice (some ⟨g23, 0, none⟩) 64 cap24) (by kernel_rfl) rfl) (v := .slice (some ⟨g35, 0, none⟩) 64 cap36) (by kernel_rfl) rfl) (v := .slice (some ⟨g23, 0, none⟩) 64 cap24) (by kernel_rfl) rfl) (v := .agg (trc ys)) (by kernel_rfl) rfl) (v := .agg (trc xs)) (by kernel_rfl) rfl) (v := .pointer (some ⟨g11, 0, none⟩)) (by kernel_rfl) rfl) (v := .pointer (some ⟨g7, 0, none⟩)) (by kernel_rfl) rfl) (v := .pointer (some ⟨g3, 0, none⟩)) (by kernel_rfl) rfl) (v := .agg (trc ys)) (by kernel_rfl) rfl) (v := .agg (trc xs)) (by kernel_rfl) rfl), S81.sub sub_all sub_all⟩, ?_⟩
      omega
  · have p95 := of_decide_eq_false h52
    refine wp_exit ?_
    refine x_then ?_
    refine x_then ?_
    refine x_hit ?_
    refine n_then ?_
    refine wp_seq ?_
    refine wp_region_lit ?_
    refine s_one (.slice (some ⟨g23, 0, none⟩) 64 cap24) A51 S46 (g_move (by kernel_rfl)) rfl (fun ac A96 => ?_)
    refine s_call (fs := #[]) (cp := #[]) (r := [(0, .slice (some ⟨g23, 0, none⟩) 64 cap24)]) #[.slice (some ⟨g23, 0, none⟩) 64 cap24] (.agg (trc (mkT (mixL (adF (nums xs) (nums ys)) (nthI (nums xs)) 64 k) 64))) A96 S46 (Trace_s (mixL (adF (nums xs) (nums ys)) (nthI (nums xs)) 64 k) (some ⟨g23, 0, none⟩) cap24 64 _ (mixL_length _ _ _ _) (cur_reads (S46.get 1 rfl) ht2) (by omega)) Try.call47 (by kernel_rfl) (by kernel_rfl) (by kernel_rfl) rfl (fun ac wc A97 S98 => ?_)
    refine s_store (g := g11) (off := 0) (v := .agg (trc (mkT (mixL (adF (nums xs) (nums ys)) (nthI (nums xs)) 64 k) 64))) 2 (trc (mkT (mixL (adF (nums xs) (nums ys)) (nthI (nums xs)) 64 k) 64)) A97 S98 (by kernel_rfl) (by kernel_rfl) rfl (putVal_whole ((trc_size _).trans zT_length) ((trc_size _).trans (done_length _ _ _ _)) ⟨⟨_, Try.underlying26, rfl⟩, by kernel_rfl⟩ (trc_one _)) (fun wc S101 => ?_)
    refine s_one (.int .i64 0) A97 S101 (g_assign (by kernel_rfl)) rfl (fun ac A103 => ?_)
    refine wpList_nil ?_
    refine n_then ?_
    refine wp_ret ?_
    refine fin2 (.agg (trc (mkT (mixL (adF (nums xs) (nums ys)) (nthI (nums xs)) 64 k) 64))) (.int .i64 0) Try.results49 A103 S101 (rv_cell (g := g11) (off := 0) 2 (by kernel_rfl) rfl (rowVal_whole ((trc_size _).trans (done_length _ _ _ _)) ⟨⟨_, Try.underlying26, rfl⟩, by kernel_rfl⟩)) (rv_tmp (by kernel_rfl)) ⟨?_, S101.kp⟩
    obtain rfl : k = 64 := by omega
    have e : ¬ grt (adL (nums xs) (nums ys)) 64 > 2047 := by
      have q2 := grt_le (l := adL (nums xs) (nums ys)) (b := 2047) (by omega) (k := 64) (fun i hi => by rw [adL_at hi]; exact hle i hi)
      omega
    unfold adRight
    rw [if_neg e, mixL_all]; rfl

set_option maxRecDepth 100000 in
set_option maxHeartbeats 400000 in
theorem SameFloats_s (xs : List Nat) (C D : Option Addr) (c d n : Nat) (w0 : World) (hn : xs.length = n) (hm : n ≤ maxLen) (hC : FReads w0 C xs) (hD : FReads w0 D xs) :
    Calls Try.prog 76 #[.slice C n c, .slice D n d] w0 fun e w' => e = .returned (.bool true) ∧ Below w0.heap.size w0 w' := by
  have S0 := St.start w0
  unfold maxLen at hm
  have hr1 : ∀ k, k < n → ∃ ad, C = some ad ∧ w0.cell? (ad.add k) = some (.float .f32 (nth xs k)) := fun k hk => hC k (by omega)
  have hr2 : ∀ k, k < n → ∃ ad, D = some ad ∧ w0.cell? (ad.add k) = some (.float .f32 (nth xs k)) := fun k hk => hD k (by omega)
  refine enter (n := 28) Try.func76 rfl rfl rfl (fun ac A0 => ?_)
  refine wp_seq ?_
  refine wp_region_lit ?_
  refine s_one (.bool false) A0 S0 (g_assign (by kernel_rfl)) rfl (fun ac A1 => ?_)
  refine wpList_nil ?_
  refine n_then ?_
  refine wp_seq ?_
  refine wp_seq ?_
  refine wp_region_lit ?_
  refine s_one (.slice C n c) A1 S0 (g_move (by kernel_rfl)) rfl (fun ac A2 => ?_)
  refine s_one (.int .i64 (n : Int)) A2 S0 (g_built (r := [(0, .slice C n c)]) (by kernel_rfl) (fun _ _ _ => by kernel_rfl)) rfl (fun ac A3 => ?_)
  refine s_one (.slice D n d) A3 S0 (g_move (by kernel_rfl)) rfl (fun ac A4 => ?_)
  refine s_one (.int .i64 (n : Int)) A4 S0 (g_built (r := [(0, .slice D n d)]) (by kernel_rfl) (fun _ _ _ => by kernel_rfl)) rfl (fun ac A5 => ?_)
  refine s_one (.bool (decide ((n : Int) ≠ (n : Int)))) A5 S0 (g_bin (u := .int .i64 (n : Int)) (k := .int .i64 (n : Int)) (by kernel_rfl) (by kernel_rfl) (fun _ => by kernel_rfl) b_neq) rfl (fun ac A6 => ?_)
  refine wpList_nil ?_
  refine n_then ?_
  refine c_f (b := (decide ((n : Int) ≠ (n : Int)))) A6 (by kernel_rfl) (decide_eq_false (fun h => h rfl)) ?_
  refine wp_skip ?_
  refine n_then ?_
  refine wp_seq ?_
  refine wp_seq ?_
  refine wp_region_lit ?_
  refine s_one (.int .i64 0) A6 S0 (g_assign (by kernel_rfl)) rfl (fun ac A7 => ?_)
  refine wpList_nil ?_
  refine n_then ?_
  refine wp_block ?_
  refine c_loopN (fun mm ac wc => ∃ (k : Nat), mm = n - k ∧ (k ≤ n) ∧ Fr 28 ac [(0, .slice C n c), (1, .slice D n d), (6, .slice C n c), (7, .int .i64 (n : Int)), (8, .slice D n d), (9, .int .i64 (n : Int)), (10, .bool (decide ((n : Int) ≠ (n : Int)))), (5, .int .i64 (k : Int))] ∧ St w0 [] [] wc) _ ⟨0, rfl, by omega, (A7.slot (A7.slot (A7.slot (A7.slot (A7.slot (A7.slot (A7.slot (A7.slot A7.nil (v := .int .i64 0) (by kernel_rfl) (congrArg (Value.int .i64) (by omega))) (v := .bool (decide ((n : Int) ≠ (n : Int)))) (by kernel_rfl) rfl) (v := .int .i64 (n : Int)) (by kernel_rfl) rfl) (v := .slice D n d) (by kernel_rfl) rfl) (v := .int .i64 (n : Int)) (by kernel_rfl) rfl) (v := .slice C n c) (by kernel_rfl) rfl) (v := .slice D n d) (by kernel_rfl) rfl) (v := .slice C n c) (by kernel_rfl) rfl), S0.sub sub_all sub_all⟩ ?_
  rintro mm ac wc ⟨k, hm10, hk, A8, S9⟩
  refine wp_seq ?_
  refine wp_seq ?_
  refine wp_region_lit ?_
  refine s_one (.int .i64 (k : Int)) A8 S9 (g_move (by kernel_rfl)) rfl (fun ac A11 => ?_)
  refine s_one (.slice C n c) A11 S9 (g_move (by kernel_rfl)) rfl (fun ac A12 => ?_)
  refine s_one (.int .i64 (n : Int)) A12 S9 (g_built (r := [(0, .slice C n c)]) (by kernel_rfl) (fun _ _ _ => by kernel_rfl)) rfl (fun ac A13 => ?_)
  refine s_one (.bool (decide ((k : Int) < (n : Int)))) A13 S9 (g_bin (u := .int .i64 (k : Int)) (k := .int .i64 (n : Int)) (by kernel_rfl) (by kernel_rfl) (fun _ => by kernel_rfl) (fun _ => by kernel_rfl)) rfl (fun ac A14 => ?_)
  refine wpList_nil ?_
  refine n_then ?_
  refine c_ifb (b := (decide ((k : Int) < (n : Int)))) A14 (by kernel_rfl) (fun h15 => ?_) (fun h15 => ?_)
  · have p16 := of_decide_eq_true h15
    refine wp_skip ?_
    refine n_then ?_
    refine wp_seq ?_
    refine wp_block ?_
    refine wp_seq ?_
    refine r_begin (w0 := w0) (by kernel_rfl) (S9.sub sub_all sub_all) (fun wc T17 B18 => ?_)
    have S19 := S9.kept B18
    refine r_take 0 (.slice C n c) A14 T17 (g_move (by kernel_rfl)) rfl rfl rfl (pf_then (pf_block (pf_then (pf_then (pf_block (pf_then pf_body)))))) (by kernel_rfl) (fun ac A20 => ?_)
    refine r_take 1 (.int .i64 (k : Int)) A20 T17 (g_move (by kernel_rfl)) rfl rfl rfl (pf_then (pf_block (pf_then (pf_then (pf_block (pf_then pf_body)))))) (by kernel_rfl) (fun ac A21 => ?_)
    obtain ⟨ad22, rfl, hc23⟩ := hr1 k (by omega)
    refine r_take 2 (.pointer (some (ad22.add k))) A21 T17 (g_index (u := .slice (some ad22) n c) (k := .int .i64 (k : Int)) (by kernel_rfl) (by kernel_rfl) (ix_x (e := 24) (bytes := 4) k (by kernel_rfl) (by omega) (by omega))) rfl rfl rfl (pf_then (pf_block (pf_then (pf_then (pf_block (pf_then pf_body)))))) (by kernel_rfl) (fun ac A24 => ?_)
    refine r_take 3 (.float .f32 (nth xs k)) A24 T17 (g_loadX (by kernel_rfl) hc23 (by kernel_rfl)) rfl rfl rfl (pf_then (pf_block (pf_then (pf_then (pf_block (pf_then pf_body)))))) (by kernel_rfl) (fun ac A25 => ?_)
    refine r_take 4 (.int .u32 ((nth xs k) : Int)) A25 T17 (g_ext (f := 84) (r := [(0, .float .f32 (nth xs k))]) (by kernel_rfl) (by kernel_rfl) (fun _ => by kernel_rfl)) rfl rfl rfl (pf_then (pf_block (pf_then (pf_then (pf_block (pf_then pf_body)))))) (by kernel_rfl) (fun ac A26 => ?_)
    refine r_take 5 (.slice D n d) A26 T17 (g_move (by kernel_rfl)) rfl rfl rfl (pf_then (pf_block (pf_then (pf_then (pf_block (pf_then pf_body)))))) (by kernel_rfl) (fun ac A27 => ?_)
    refine r_take 6 (.int .i64 (k : Int)) A27 T17 (g_move (by kernel_rfl)) rfl rfl rfl (pf_then (pf_block (pf_then (pf_then (pf_block (pf_then pf_body)))))) (by kernel_rfl) (fun ac A28 => ?_)
    obtain ⟨ad29, rfl, hc30⟩ := hr2 k (by omega)
    refine r_take 7 (.pointer (some (ad29.add k))) A28 T17 (g_index (u := .slice (some ad29) n d) (k := .int .i64 (k : Int)) (by kernel_rfl) (by kernel_rfl) (ix_x (e := 24) (bytes := 4) k (by kernel_rfl) (by omega) (by omega))) rfl rfl rfl (pf_then (pf_block (pf_then (pf_then (pf_block (pf_then pf_body)))))) (by kernel_rfl) (fun ac A31 => ?_)
    refine r_take 8 (.float .f32 (nth xs k)) A31 T17 (g_loadX (by kernel_rfl) hc30 (by kernel_rfl)) rfl rfl rfl (pf_then (pf_block (pf_then (pf_then (pf_block (pf_then pf_body)))))) (by kernel_rfl) (fun ac A32 => ?_)
    refine r_take 9 (.int .u32 ((nth xs k) : Int)) A32 T17 (g_ext (f := 84) (r := [(0, .float .f32 (nth xs k))]) (by kernel_rfl) (by kernel_rfl) (fun _ => by kernel_rfl)) rfl rfl rfl (pf_then (pf_block (pf_then (pf_then (pf_block (pf_then pf_body)))))) (by kernel_rfl) (fun ac A33 => ?_)
    refine r_take 10 (.bool (decide (((nth xs k) : Int) ≠ ((nth xs k) : Int)))) A33 T17 (g_bin (u := .int .u32 ((nth xs k) : Int)) (k := .int .u32 ((nth xs k) : Int)) (by kernel_rfl) (by kernel_rfl) (fun _ => by kernel_rfl) b_neq) rfl rfl rfl (pf_then (pf_block (pf_then (pf_then (pf_block (pf_then pf_body)))))) (by kernel_rfl) (fun ac A34 => ?_)
    refine r_done (by kernel_rfl) ?_
    refine n_then ?_
    refine c_f (b := (decide (((nth xs k) : Int) ≠ ((nth xs k) : Int)))) A34 (by kernel_rfl) (decide_eq_false (fun h => h rfl)) ?_
    refine wp_skip ?_
    refine n_block ?_
    refine n_then ?_
    refine wp_region_lit ?_
    refine s_one (.int .i64 (k : Int)) A34 S19 (g_move (by kernel_rfl)) rfl (fun ac A35 => ?_)
    refine s_one (.int .i64 ((k : Int) + 1)) A35 S19 (g_bin (u := .int .i64 (k : Int)) (k := .int .i64 1) (by kernel_rfl) (by kernel_rfl) (fun _ => by kernel_rfl) (b_add (by omega))) rfl (fun ac A36 => ?_)
    refine s_one (.int .i64 ((k : Int) + 1)) A36 S19 (g_assign (by kernel_rfl)) rfl (fun ac A37 => ?_)
    refine wpList_nil ?_
    refine n_then ?_
    refine ⟨_, ⟨k + 1, rfl, by omega, (A37.slot (A37.slot (A37.slot (A37.slot (A37.slot (A37.slot (A37.slot (A37.slot A37.nil (v := .int .i64 ((k : Int) + 1)) (by kernel_rfl) (congrArg (Value.int .i64) (by omega))) (v := .bool (decide ((n : Int) ≠ (n : Int)))) (by kernel_rfl) rfl) (v := .int .i64 (n : Int)) (by kernel_rfl) rfl) (v := .slice (some ad29) n d) (by kernel_rfl) (by first | rfl | simp)) (v := .int .i64 (n : Int)) (by kernel_rfl) rfl) (v := .slice (some ad22) n c) (by kernel_rfl) (by first | rfl | simp)) (v := .slice (some ad29) n d) (by kernel_rfl) (by first | rfl | simp)) (v := .slice (some ad22) n c) (by kernel_rfl) (by first | rfl | simp)), S19.sub sub_all sub_all⟩, ?_⟩
    omega
  · have p38 := of_decide_eq_false h15
    refine wp_exit ?_
    refine x_then ?_
    refine x_then ?_
    refine x_hit ?_
    refine n_then ?_
    refine wp_seq ?_
    refine wp_region_lit ?_
    refine s_one (.bool true) A14 S9 (g_assign (by kernel_rfl)) rfl (fun ac A39 => ?_)
    refine wpList_nil ?_
    refine n_then ?_
    refine wp_ret ?_
    refine fin1 (.bool true) Try.results76 A39 S9 (rv_tmp (by kernel_rfl)) ⟨?_, S9.kp⟩
    rfl

set_option maxRecDepth 100000 in
set_option maxHeartbeats 400000 in
theorem SameTrace_s (xs : List Nat) (w0 : World) (hl : xs.length = 64) :
    Calls Try.prog 43 #[.agg (trc xs), .agg (trc xs)] w0 fun e w' => e = .returned (.bool true) ∧ Below w0.heap.size w0 w' := by
  have S0 := St.start w0
  refine enter (n := 8) Try.func43 rfl rfl rfl (fun ac A0 => ?_)
  refine wp_seq ?_
  refine wp_region_lit ?_
  refine s_box (.agg (trc xs)) A0 S0 (by kernel_rfl) rfl (fun g3 ac wc A1 S2 => ?_)
  replace S2 : St _ (⟨g3, 26, (trc xs), true⟩ :: _) _ _ := S2
  refine s_box (.agg (trc xs)) A1 S2 (by kernel_rfl) rfl (fun g7 ac wc A5 S6 => ?_)
  replace S6 : St _ (⟨g7, 26, (trc xs), true⟩ :: _) _ _ := S6
  refine s_one (.bool false) A5 S6 (g_assign (by kernel_rfl)) rfl (fun ac A9 => ?_)
  refine wpList_nil ?_
  refine n_then ?_
  refine wp_seq ?_
  refine r_begin (w0 := w0) (by kernel_rfl) (S6.sub sub_all sub_all) (fun wc T10 B11 => ?_)
  have S12 := S6.kept B11
  refine r_take 0 (.slice (some ⟨g3, 0, none⟩) 64 64) A9 T10 (g_slice (u := .pointer (some ⟨g3, 0, none⟩)) (lo' := none) (hi' := none) (mx' := none) (by kernel_rfl) (by kernel_rfl) (by kernel_rfl) (by kernel_rfl) (fun _ => by kernel_rfl)) rfl rfl rfl (pf_then pf_body) (by kernel_rfl) (fun ac A13 => ?_)
  refine r_take 1 (.slice (some ⟨g7, 0, none⟩) 64 64) A13 T10 (g_slice (u := .pointer (some ⟨g7, 0, none⟩)) (lo' := none) (hi' := none) (mx' := none) (by kernel_rfl) (by kernel_rfl) (by kernel_rfl) (by kernel_rfl) (fun _ => by kernel_rfl)) rfl rfl rfl (pf_then pf_body) (by kernel_rfl) (fun ac A14 => ?_)
  refine r_1 (i := 2) (by kernel_rfl) ?_
  refine rs_call (fs := #[]) (cp := #[]) (r := [(0, .slice (some ⟨g3, 0, none⟩) 64 64), (0, .slice (some ⟨g7, 0, none⟩) 64 64)]) #[.slice (some ⟨g3, 0, none⟩) 64 64, .slice (some ⟨g7, 0, none⟩) 64 64] (.bool true) A14 S12 sub_all sub_all (SameFloats_s xs _ _ 64 64 64 _ hl (by decide) (FReads.of_blk (S12.get 1 rfl)) (FReads.of_blk (S12.get 0 rfl))) Try.call76 rfl rfl (by kernel_rfl) (by kernel_rfl) (by kernel_rfl) rfl (fun ac wc A15 S16 => ?_)
  have T18 := S16.sub sub_all sub_all
  refine r_take 3 (.bool true) A15 T18 (g_assign (by kernel_rfl)) rfl rfl rfl (pf_then pf_body) (by kernel_rfl) (fun ac A19 => ?_)
  refine r_done (by kernel_rfl) ?_
  refine n_then ?_
  refine wp_ret ?_
  refine fin1 (.bool true) Try.results43 A19 S16 (rv_tmp (by kernel_rfl)) ⟨?_, S16.kp⟩
  rfl

theorem SameTrace_eq (xs ys : List Nat) (e : xs = ys) (w : World) (hl : xs.length = 64) : Calls Try.prog 43 #[.agg (trc xs), .agg (trc ys)] w fun en w' => en = .returned (.bool true) ∧ Below w.heap.size w w' := by
  subst e; exact SameTrace_s xs w hl
theorem fo_0 {e f : Int} (h : e = 0) : firstOf [e, f] = f := by subst h; simp only [firstOf, if_true]; split <;> simp_all
theorem fo_1 {e f : Int} (h : e ≠ 0) : firstOf [e, f] = e := by simp only [firstOf, if_neg h]
theorem ad_w1 {xs ys : List Nat} (h : (firstErr xs 0).2 ≠ 0) : adRes xs ys = (zT, (firstErr xs 0).2) := by unfold adRes; rw [fo_1 h, if_pos h]
theorem ad_w2 {xs ys : List Nat} (h : (firstErr xs 0).2 = 0) (h2 : (firstErr ys 0).2 ≠ 0) : adRes xs ys = (zT, (firstErr ys 0).2) := by unfold adRes; rw [fo_0 h, if_pos h2]
theorem ad_r {xs ys : List Nat} (h : (firstErr xs 0).2 = 0) (h2 : (firstErr ys 0).2 = 0) : adRes xs ys = adRight (nums xs) (nums ys) := by unfold adRes; rw [fo_0 h, if_neg (by rw [h2]; simp)]
theorem sh_w1 {xs : List Nat} {b : Int} (h : (firstErr xs 0).2 ≠ 0) : shRes xs b = (zT, (firstErr xs 0).2) := if_pos h
theorem sh_w2 {xs : List Nat} {b : Int} (h : (firstErr xs 0).2 = 0) (h2 : inB b (-64) 64 = false) : shRes xs b = (zT, 2) := by unfold shRes; rw [if_neg (by rw [h]; simp), if_neg (by rw [h2]; simp)]
theorem sh_r {xs : List Nat} {b : Int} (h : (firstErr xs 0).2 = 0) (h2 : inB b (-64) 64 = true) : shRes xs b = (mkT (shL (nums xs) b) 64, 0) := by unfold shRes; rw [if_neg (by rw [h]; simp), if_pos h2]

end Go.Proofs.Ytfooefkgdcjlhaa
