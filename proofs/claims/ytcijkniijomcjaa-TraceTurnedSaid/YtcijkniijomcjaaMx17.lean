/- Which pairs are unlike: the reference. -/
import Derived.Test.YtcijkniijomcjaaMx16
namespace Go.Proofs.Ytcijkniijomcjaa
open Go.RowKit Go.Cpl

theorem Ints_at (xs : List Nat) (n f r : Nat) (w : World) (hR : Right xs) (h : (f * n + r) * 64 + 64 ≤ xs.length) : Calls Try.prog 90 #[.agg (trc (mkT (nums (cutF xs (toI (n : Int) (f : Int) (r : Int)) 64)) 64))] w fun e w' => ∃ v, e = .returned v ∧ Below w.heap.size w w' ∧ w'.ownsRow w.heap.size 3 1 v 64 (rowI (cutN (mi xs) ((f * n + r) * 64) 64)) := by
  have hRy : Right (mkT (nums (cutF xs (toI (n : Int) (f : Int) (r : Int)) 64)) 64) := by
    rw [pair_words h]; exact right_of (firstErr_fw (cutN_range (mi_range hR) _ _))
  rw [← nums_pair hR h]
  exact Ints_s _ w (done_length _ _ _ _) hRy
theorem un_skip (l : List Int) (n : Nat) (nz : Int) (i : Nat) : (preP n i (i + 1)).filter (unB l n nz) = (preP n i 0).filter (unB l n nz) := by
  have := preP_add n i 0 (i + 1)
  rw [Nat.zero_add] at this
  rw [this, List.filter_append]
  have e : ((List.range (i + 1)).map fun r => (i, 0 + r)).filter (unB l n nz) = [] := by
    rw [List.filter_eq_nil_iff]
    intro p hp
    simp only [List.mem_map, List.mem_range] at hp
    obtain ⟨r, hr, rfl⟩ := hp
    unfold unB
    rw [decide_eq_false (show ¬ i < 0 + r by omega)]; simp
  rw [e, List.append_nil]
theorem anyD_row {l : List Int} {n : Nat} {nz : Int} {i j k : Nat} (hk : k < 64) : (anyD l n nz (i, j) k || decide (mx (nthI (cutN l ((i * n + j) * 64) 64) k - nthI (cutN l ((j * n + i) * 64) 64) k) (-(nthI (cutN l ((i * n + j) * 64) 64) k - nthI (cutN l ((j * n + i) * 64) 64) k)) > nz)) = anyD l n nz (i, j) (k + 1) := by
  rw [anyD_succ, cutN_nth hk, cutN_nth hk]; rfl
theorem unB_t {l : List Int} {n : Nat} {nz : Int} {i j k : Nat} (hij : i < j) (hk : k = 64) (h : anyD l n nz (i, j) k = true) : unB l n nz (i, j) = true := by
  subst hk; unfold unB; rw [h, decide_eq_true (show (i, j).1 < (i, j).2 from hij)]; rfl
theorem unB_f {l : List Int} {n : Nat} {nz : Int} {i j k : Nat} (hk : k = 64) (h : anyD l n nz (i, j) k = false) : unB l n nz (i, j) = false := by
  subst hk; unfold unB; rw [h]; simp

set_option maxRecDepth 100000 in
set_option maxHeartbeats 400000 in
theorem refUnlike_ok (ne n cap : Nat) (A : Option Addr) (xs : List Nat) (nz : Int) (w0 : World) (hn : xs.length = n) (hr : FReads w0 A xs) (hm : n ≤ 1000) (h1 : 1 ≤ ne) (hne : n = ne * ne * 64) (h0 : (mxC (ne : Int) xs).2 = 0) :
    Calls Try.prog 45 #[.agg #[.int .i64 (ne : Int), .slice A n cap], .int .i64 nz] w0 fun e w' => ∃ v, e = .returned (v) ∧ Below w0.heap.size w0 w' ∧ w'.ownsRow w0.heap.size 26 2 v (((pairsOf ne).filter (unB (mi xs) ne nz)).length) (rowI (flP (((pairsOf ne)).filter (unB (mi xs) ne nz)))) := by
  have S0 := St.start w0
  have hR : Right xs := right_of (mxC_0 h0).2.2
  have hpos : 0 < ne * ne := Nat.mul_pos h1 h1
  have hne3 : ne ≤ 3 := by rcases Nat.lt_or_ge 3 ne with q | q; have := Nat.mul_le_mul q q; omega; exact q
  have hee : ne * ne ≤ 15 := by omega
  have HB := fun i => mi_range hR i
  refine enter (n := 65) Try.func45 rfl rfl rfl (fun ac A0 => ?_)
  refine wp_seq ?_
  refine wp_region_lit ?_
  refine s_box (.agg #[.int .i64 (ne : Int), .slice A n cap]) A0 S0 (by kernel_rfl) rfl (fun g3 ac wc A1 S2 => ?_)
  replace S2 : St _ (⟨g3, 30, #[.int .i64 (ne : Int), .slice A n cap], true⟩ :: _) _ _ := S2
  refine s_one (.slice none 0 0) A1 S2 (g_assign (by kernel_rfl)) rfl (fun ac A5 => ?_)
  refine wpList_nil ?_
  refine n_then ?_
  refine wp_seq ?_
  refine wp_region_lit ?_
  refine s_one (.slice none 0 0) A5 S2 (g_assign (by kernel_rfl)) rfl (fun ac A6 => ?_)
  refine wpList_nil ?_
  refine n_then ?_
  refine wp_seq ?_
  refine wp_seq ?_
  refine wp_region_lit ?_
  refine s_one (.int .i64 0) A6 S2 (g_assign (by kernel_rfl)) rfl (fun ac A7 => ?_)
  refine wpList_nil ?_
  refine n_then ?_
  refine wp_block ?_
  have S8 := S2.nilRow 26 2
  refine c_loopN (fun mm ac wc => ∃ (i : Nat) (v : Value), mm = ne - i ∧ (i ≤ ne) ∧ Fr 65 ac [(0, .agg #[.int .i64 (ne : Int), .slice A n cap]), (1, .int .i64 nz), (2, .pointer (some ⟨g3, 0, none⟩)), (4, .slice none 0 0), (6, .int .i64 (i : Int)), (5, v)] ∧ St w0 [⟨g3, 30, #[.int .i64 (ne : Int), .slice A n cap], true⟩] [⟨v, 26, 2, (((((preP ne i 0)).filter (unB (mi xs) ne nz))).length), (rowI (flP (((preP ne i 0)).filter (unB (mi xs) ne nz))))⟩] wc) _ ⟨0, .slice none 0 0, rfl, Nat.zero_le _, (A7.slot (A7.slot (A7.slot (A7.slot (A7.slot (A7.slot A7.nil (v := .slice none 0 0) (by kernel_rfl) (by first | rfl | simp)) (v := .int .i64 0) (by kernel_rfl) (congrArg (Value.int .i64) (by omega))) (v := .slice none 0 0) (by kernel_rfl) rfl) (v := .pointer (some ⟨g3, 0, none⟩)) (by kernel_rfl) rfl) (v := .int .i64 nz) (by kernel_rfl) rfl) (v := .agg #[.int .i64 (ne : Int), .slice A n cap]) (by kernel_rfl) rfl), (St.rerow 0 S8 rfl ⟨rfl, rfl⟩).sub sub_all sub_all⟩ ?_
  rintro mm ac wc ⟨i, v, hm11, hi, A9, S10⟩
  refine wp_seq ?_
  refine wp_seq ?_
  refine wp_region_lit ?_
  refine s_one (.int .i64 (i : Int)) A9 S10 (g_move (by kernel_rfl)) rfl (fun ac A12 => ?_)
  refine s_one (.pointer (some ⟨g3, 0, none⟩)) A12 S10 (g_field (u := .pointer (some ⟨g3, 0, none⟩)) (by kernel_rfl) (fun _ => by kernel_rfl)) rfl (fun ac A13 => ?_)
  refine s_one (.int .i64 (ne : Int)) A13 S10 (g_load (g := g3) (off := 0) 0 (by kernel_rfl) rfl (by kernel_rfl)) rfl (fun ac A14 => ?_)
  refine s_one (.bool (decide ((i : Int) < (ne : Int)))) A14 S10 (g_bin (u := .int .i64 (i : Int)) (k := .int .i64 (ne : Int)) (by kernel_rfl) (by kernel_rfl) (fun _ => by kernel_rfl) (fun _ => by kernel_rfl)) rfl (fun ac A15 => ?_)
  refine wpList_nil ?_
  refine n_then ?_
  refine c_ifb (b := (decide ((i : Int) < (ne : Int)))) A15 (by kernel_rfl) (fun h16 => ?_) (fun h16 => ?_)
  · have p17 := of_decide_eq_true h16
    refine wp_skip ?_
    refine n_then ?_
    refine wp_seq ?_
    refine wp_block ?_
    refine wp_seq ?_
    refine wp_region_lit ?_
    refine s_one (.int .i64 (i : Int)) A15 S10 (g_move (by kernel_rfl)) rfl (fun ac A18 => ?_)
    refine s_one (.int .i64 ((i : Int) + 1)) A18 S10 (g_bin (u := .int .i64 (i : Int)) (k := .int .i64 1) (by kernel_rfl) (by kernel_rfl) (fun _ => by kernel_rfl) (b_add (by omega))) rfl (fun ac A19 => ?_)
    refine s_one (.int .i64 ((i : Int) + 1)) A19 S10 (g_assign (by kernel_rfl)) rfl (fun ac A20 => ?_)
    refine wpList_nil ?_
    refine n_then ?_
    refine wp_block ?_
    refine c_loopN (fun mm ac wc => ∃ (j : Nat) (v2 : Value), mm = ne - j ∧ (i + 1 ≤ j ∧ j ≤ ne) ∧ Fr 65 ac [(0, .agg #[.int .i64 (ne : Int), .slice A n cap]), (1, .int .i64 nz), (2, .pointer (some ⟨g3, 0, none⟩)), (4, .slice none 0 0), (6, .int .i64 (i : Int)), (12, .int .i64 (i : Int)), (13, .pointer (some ⟨g3, 0, none⟩)), (14, .int .i64 (ne : Int)), (15, .bool (decide ((i : Int) < (ne : Int)))), (18, .int .i64 (i : Int)), (19, .int .i64 ((i : Int) + 1)), (7, .int .i64 (j : Int)), (5, v2)] ∧ St w0 [⟨g3, 30, #[.int .i64 (ne : Int), .slice A n cap], true⟩] [⟨v2, 26, 2, (((((preP ne i j)).filter (unB (mi xs) ne nz))).length), (rowI (flP (((preP ne i j)).filter (unB (mi xs) ne nz))))⟩] wc) _ ⟨(i + 1), v, rfl, by omega, (A20.slot (A20.slot (A20.slot (A20.slot (A20.slot (A20.slot (A20.slot (A20.slot (A20.slot (A20.slot (A20.slot (A20.slot (A20.slot A20.nil (v := v) (by kernel_rfl) (by first | rfl | simp)) (v := .int .i64 ((i : Int) + 1)) (by kernel_rfl) (congrArg (Value.int .i64) (by omega))) (v := .int .i64 ((i : Int) + 1)) (by kernel_rfl) rfl) (v := .int .i64 (i : Int)) (by kernel_rfl) rfl) (v := .bool (decide ((i : Int) < (ne : Int)))) (by kernel_rfl) rfl) (v := .int .i64 (ne : Int)) (by kernel_rfl) rfl) (v := .pointer (some ⟨g3, 0, none⟩)) (by kernel_rfl) rfl) (v := .int .i64 (i : Int)) (by kernel_rfl) rfl) (v := .int .i64 (i : Int)) (by kernel_rfl) rfl) (v := .slice none 0 0) (by kernel_rfl) rfl) (v := .pointer (some ⟨g3, 0, none⟩)) (by kernel_rfl) rfl) (v := .int .i64 nz) (by kernel_rfl) rfl) (v := .agg #[.int .i64 (ne : Int), .slice A n cap]) (by kernel_rfl) rfl), (St.rerow 0 S10 rfl ⟨by rw [un_skip], by rw [un_skip]⟩).sub sub_all sub_all⟩ ?_
    rintro mm ac wc ⟨j, v2, hm23, hj, A21, S22⟩
    have hsl := sel_len (B := unB (mi xs) ne nz) (preP ne i j)
    rw [preP_length] at hsl
    have hin := Nat.mul_le_mul_right ne (show i + 1 ≤ ne by omega)
    rw [Nat.succ_mul] at hin
    refine wp_seq ?_
    refine wp_seq ?_
    refine wp_region_lit ?_
    refine s_one (.int .i64 (j : Int)) A21 S22 (g_move (by kernel_rfl)) rfl (fun ac A24 => ?_)
    refine s_one (.pointer (some ⟨g3, 0, none⟩)) A24 S22 (g_field (u := .pointer (some ⟨g3, 0, none⟩)) (by kernel_rfl) (fun _ => by kernel_rfl)) rfl (fun ac A25 => ?_)
    refine s_one (.int .i64 (ne : Int)) A25 S22 (g_load (g := g3) (off := 0) 0 (by kernel_rfl) rfl (by kernel_rfl)) rfl (fun ac A26 => ?_)
    refine s_one (.bool (decide ((j : Int) < (ne : Int)))) A26 S22 (g_bin (u := .int .i64 (j : Int)) (k := .int .i64 (ne : Int)) (by kernel_rfl) (by kernel_rfl) (fun _ => by kernel_rfl) (fun _ => by kernel_rfl)) rfl (fun ac A27 => ?_)
    refine wpList_nil ?_
    refine n_then ?_
    refine c_ifb (b := (decide ((j : Int) < (ne : Int)))) A27 (by kernel_rfl) (fun h28 => ?_) (fun h28 => ?_)
    · have p29 := of_decide_eq_true h28
      refine wp_skip ?_
      refine n_then ?_
      refine wp_seq ?_
      refine wp_block ?_
      refine wp_seq ?_
      refine r_begin (w0 := w0) (by kernel_rfl) (S22.sub sub_all sub_all) (fun wc T30 B31 => ?_)
      have S32 := S22.kept B31
      refine r_take 0 (.agg #[.int .i64 (ne : Int), .slice A n cap]) A27 T30 (g_load (g := g3) (off := 0) 0 (by kernel_rfl) rfl (by kernel_rfl)) rfl rfl rfl (pf_then (pf_block (pf_then (pf_then (pf_block (pf_block (pf_then (pf_then (pf_block (pf_then pf_body)))))))))) (by kernel_rfl) (fun ac A33 => ?_)
      refine r_take 1 (.int .i64 (i : Int)) A33 T30 (g_move (by kernel_rfl)) rfl rfl rfl (pf_then (pf_block (pf_then (pf_then (pf_block (pf_block (pf_then (pf_then (pf_block (pf_then pf_body)))))))))) (by kernel_rfl) (fun ac A34 => ?_)
      refine r_take 2 (.int .i64 (j : Int)) A34 T30 (g_move (by kernel_rfl)) rfl rfl rfl (pf_then (pf_block (pf_then (pf_then (pf_block (pf_block (pf_then (pf_then (pf_block (pf_then pf_body)))))))))) (by kernel_rfl) (fun ac A35 => ?_)
      refine r_take 3 (.agg #[.int .i64 (i : Int), .int .i64 (j : Int)]) A35 T30 (g_build (r := [(0, .int .i64 (i : Int)), (1, .int .i64 (j : Int))]) (by kernel_rfl) (fun _ => by kernel_rfl)) rfl rfl rfl (pf_then (pf_block (pf_then (pf_then (pf_block (pf_block (pf_then (pf_then (pf_block (pf_then pf_body)))))))))) (by kernel_rfl) (fun ac A36 => ?_)
      refine r_take 6 (.agg #[.int .i64 (ne : Int), .slice A n cap]) A36 T30 (g_load (g := g3) (off := 0) 0 (by kernel_rfl) rfl (by kernel_rfl)) rfl rfl rfl (pf_then (pf_block (pf_then (pf_then (pf_block (pf_block (pf_then (pf_then (pf_block (pf_then pf_body)))))))))) (by kernel_rfl) (fun ac A37 => ?_)
      refine r_take 7 (.int .i64 (j : Int)) A37 T30 (g_move (by kernel_rfl)) rfl rfl rfl (pf_then (pf_block (pf_then (pf_then (pf_block (pf_block (pf_then (pf_then (pf_block (pf_then pf_body)))))))))) (by kernel_rfl) (fun ac A38 => ?_)
      refine r_take 8 (.int .i64 (i : Int)) A38 T30 (g_move (by kernel_rfl)) rfl rfl rfl (pf_then (pf_block (pf_then (pf_then (pf_block (pf_block (pf_then (pf_then (pf_block (pf_then pf_body)))))))))) (by kernel_rfl) (fun ac A39 => ?_)
      refine r_take 9 (.agg #[.int .i64 (j : Int), .int .i64 (i : Int)]) A39 T30 (g_build (r := [(0, .int .i64 (j : Int)), (1, .int .i64 (i : Int))]) (by kernel_rfl) (fun _ => by kernel_rfl)) rfl rfl rfl (pf_then (pf_block (pf_then (pf_then (pf_block (pf_block (pf_then (pf_then (pf_block (pf_then pf_body)))))))))) (by kernel_rfl) (fun ac A40 => ?_)
      refine r_1 (i := 4) (by kernel_rfl) ?_
      refine rs_call (fs := #[]) (cp := #[]) (r := [(0, .agg #[.int .i64 (ne : Int), .slice A n cap]), (0, .agg #[.int .i64 (i : Int), .int .i64 (j : Int)])]) #[.agg #[.int .i64 (ne : Int), .slice A n cap], .agg #[.int .i64 (i : Int), .int .i64 (j : Int)]] (.agg (trc (mkT (nums (cutF xs (toI (ne : Int) (i : Int) (j : Int)) 64)) 64))) A40 S32 sub_all sub_all (refTraceOf_s (ne : Int) A n cap xs (i : Int) (j : Int) _ hn (hr.kept S32.kp) (by omega) (fo2_0 h0 (pairE_nat (by omega) (by omega) (by omega)))) Try.call20 rfl rfl (by kernel_rfl) (by kernel_rfl) (by kernel_rfl) rfl (fun ac wc A41 S42 => ?_)
      have T44 := S42.sub sub_all sub_all
      refine r_1 (i := 5) (by kernel_rfl) ?_
      refine rs_callR (fs := #[]) (cp := #[]) (r := [(0, .agg (trc (mkT (nums (cutF xs (toI (ne : Int) (i : Int) (j : Int)) 64)) 64)))]) #[.agg (trc (mkT (nums (cutF xs (toI (ne : Int) (i : Int) (j : Int)) 64)) 64))] A41 S42 sub_all sub_all (Ints_at xs ne i j _ hR (by have hlen := hn; have hpl := pair_lt (n := ne) (f := i) (r := j) (by omega) (by omega); omega)) Try.call90 rfl rfl (by kernel_rfl) (by kernel_rfl) (by kernel_rfl) rfl (fun v49 ac wc A45 S46 => ?_)
      obtain ⟨g50, cap51, cur52, rfl, hc53, hs54, ht55, S56⟩ := S46.openRow (by omega)
      have T48 := S56.sub (sub_skip sub_all) sub_all
      refine r_1 (i := 10) (by kernel_rfl) ?_
      refine rs_call (fs := #[]) (cp := #[]) (r := [(0, .agg #[.int .i64 (ne : Int), .slice A n cap]), (0, .agg #[.int .i64 (j : Int), .int .i64 (i : Int)])]) #[.agg #[.int .i64 (ne : Int), .slice A n cap], .agg #[.int .i64 (j : Int), .int .i64 (i : Int)]] (.agg (trc (mkT (nums (cutF xs (toI (ne : Int) (j : Int) (i : Int)) 64)) 64))) A45 S56 (sub_skip sub_all) sub_all (refTraceOf_s (ne : Int) A n cap xs (j : Int) (i : Int) _ hn (hr.kept S56.kp) (by omega) (fo2_0 h0 (pairE_nat (by omega) (by omega) (by omega)))) Try.call20 rfl rfl (by kernel_rfl) (by kernel_rfl) (by kernel_rfl) rfl (fun ac wc A57 S58 => ?_)
      have T60 := S58.sub (sub_skip sub_all) sub_all
      refine r_1 (i := 11) (by kernel_rfl) ?_
      refine rs_callR (fs := #[]) (cp := #[]) (r := [(0, .agg (trc (mkT (nums (cutF xs (toI (ne : Int) (j : Int) (i : Int)) 64)) 64)))]) #[.agg (trc (mkT (nums (cutF xs (toI (ne : Int) (j : Int) (i : Int)) 64)) 64))] A57 S58 (sub_skip sub_all) sub_all (Ints_at xs ne j i _ hR (by have hlen := hn; have hpl := pair_lt (n := ne) (f := j) (r := i) (by omega) (by omega); omega)) Try.call90 rfl rfl (by kernel_rfl) (by kernel_rfl) (by kernel_rfl) rfl (fun v65 ac wc A61 S62 => ?_)
      obtain ⟨g66, cap67, cur68, rfl, hc69, hs70, ht71, S72⟩ := S62.openRow (by omega)
      have T64 := S72.sub (sub_skip (sub_skip sub_all)) sub_all
      refine r_take 12 (.slice (some ⟨g50, 0, none⟩) 64 cap51) A61 T64 (g_assign (by kernel_rfl)) rfl rfl rfl (pf_then (pf_block (pf_then (pf_then (pf_block (pf_block (pf_then (pf_then (pf_block (pf_then pf_body)))))))))) (by kernel_rfl) (fun ac A73 => ?_)
      refine r_take 13 (.slice (some ⟨g66, 0, none⟩) 64 cap67) A73 T64 (g_assign (by kernel_rfl)) rfl rfl rfl (pf_then (pf_block (pf_then (pf_then (pf_block (pf_block (pf_then (pf_then (pf_block (pf_then pf_body)))))))))) (by kernel_rfl) (fun ac A74 => ?_)
      refine r_done (by kernel_rfl) ?_
      refine n_then ?_
      refine wp_seq ?_
      refine wp_region_lit ?_
      refine s_one (.bool false) A74 S72 (g_assign (by kernel_rfl)) rfl (fun ac A75 => ?_)
      refine wpList_nil ?_
      refine n_then ?_
      refine wp_seq ?_
      refine wp_seq ?_
      refine wp_region_lit ?_
      refine s_one (.int .i64 0) A75 S72 (g_assign (by kernel_rfl)) rfl (fun ac A76 => ?_)
      refine wpList_nil ?_
      refine n_then ?_
      refine wp_block ?_
      refine c_loopN (fun mm ac wc => ∃ (k : Nat), mm = 64 - k ∧ (k ≤ 64) ∧ Fr 65 ac [(0, .agg #[.int .i64 (ne : Int), .slice A n cap]), (1, .int .i64 nz), (2, .pointer (some ⟨g3, 0, none⟩)), (4, .slice none 0 0), (6, .int .i64 (i : Int)), (12, .int .i64 (i : Int)), (13, .pointer (some ⟨g3, 0, none⟩)), (14, .int .i64 (ne : Int)), (15, .bool (decide ((i : Int) < (ne : Int)))), (18, .int .i64 (i : Int)), (19, .int .i64 ((i : Int) + 1)), (7, .int .i64 (j : Int)), (5, v2), (20, .int .i64 (j : Int)), (21, .pointer (some ⟨g3, 0, none⟩)), (22, .int .i64 (ne : Int)), (23, .bool (decide ((j : Int) < (ne : Int)))), (26, .agg #[.int .i64 (ne : Int), .slice A n cap]), (27, .int .i64 (i : Int)), (28, .int .i64 (j : Int)), (29, .agg #[.int .i64 (i : Int), .int .i64 (j : Int)]), (32, .agg #[.int .i64 (ne : Int), .slice A n cap]), (33, .int .i64 (j : Int)), (34, .int .i64 (i : Int)), (35, .agg #[.int .i64 (j : Int), .int .i64 (i : Int)]), (30, .agg (trc (mkT (nums (cutF xs (toI (ne : Int) (i : Int) (j : Int)) 64)) 64))), (31, .slice (some ⟨g50, 0, none⟩) 64 cap51), (36, .agg (trc (mkT (nums (cutF xs (toI (ne : Int) (j : Int) (i : Int)) 64)) 64))), (37, .slice (some ⟨g66, 0, none⟩) 64 cap67), (8, .slice (some ⟨g50, 0, none⟩) 64 cap51), (9, .slice (some ⟨g66, 0, none⟩) 64 cap67), (11, .int .i64 (k : Int)), (10, .bool (anyD (mi xs) ne nz (i, j) k))] ∧ St w0 [⟨g66, 3, cur68, true⟩, ⟨g50, 3, cur52, true⟩, ⟨g3, 30, #[.int .i64 (ne : Int), .slice A n cap], true⟩] [⟨v2, 26, 2, (((((preP ne i j)).filter (unB (mi xs) ne nz))).length), (rowI (flP (((preP ne i j)).filter (unB (mi xs) ne nz))))⟩] wc) _ ⟨0, rfl, Nat.zero_le _, (A76.slot (A76.slot (A76.slot (A76.slot (A76.slot (A76.slot (A76.slot (A76.slot (A76.slot (A76.slot (A76.slot (A76.slot (A76.slot (A76.slot (A76.slot (A76.slot (A76.slot (A76.slot (A76.slot (A76.slot (A76.slot (A76.slot (A76.slot (A76.slot (A76.slot (A76.slot (A76.slot (A76.slot (A76.slot (A76.slot (A76.slot (A76.slot (A76.slot A76.nil (v := .bool false) (by kernel_rfl) rfl) (v := .int .i64 0) (by kernel_rfl) (congrArg (Value.int .i64) (by omega))) (v := .slice (some ⟨g66, 0, none⟩) 64 cap67) (by kernel_rfl) rfl) (v := .slice (some ⟨g50, 0, none⟩) 64 cap51) (by kernel_rfl) rfl) (v := .slice (some ⟨g66, 0, none⟩) 64 cap67) (by kernel_rfl) rfl) (v := .agg (trc (mkT (nums (cutF xs (toI (ne : Int) (j : Int) (i : Int)) 64)) 64))) (by kernel_rfl) rfl) (v := .slice (some ⟨g50, 0, none⟩) 64 cap51) (by kernel_rfl) rfl) (v := .agg (trc (mkT (nums (cutF xs (toI (ne : Int) (i : Int) (j : Int)) 64)) 64))) (by kernel_rfl) rfl) (v := .agg #[.int .i64 (j : Int), .int .i64 (i : Int)]) (by kernel_rfl) rfl) (v := .int .i64 (i : Int)) (by kernel_rfl) rfl) (v := .int .i64 (j : Int)) (by kernel_rfl) rfl) (v := .agg #[.int .i64 (ne : Int), .slice A n cap]) (by kernel_rfl) rfl) (v := .agg #[.int .i64 (i : Int), .int .i64 (j : Int)]) (by kernel_rfl) rfl) (v := .int .i64 (j : Int)) (by kernel_rfl) rfl) (v := .int .i64 (i : Int)) (by kernel_rfl) rfl) (v := .agg #[.int .i64 (ne : Int), .slice A n cap]) (by kernel_rfl) rfl) (v := .bool (decide ((j : Int) < (ne : Int)))) (by kernel_rfl) rfl) (v := .int .i64 (ne : Int)) (by kernel_rfl) rfl) (v := .pointer (some ⟨g3, 0, none⟩)) (by kernel_rfl) rfl) (v := .int .i64 (j : Int)) (by kernel_rfl) rfl) (v := v2) (by kernel_rfl) rfl) (v := .int .i64 (j : Int)) (by kernel_rfl) rfl) (v := .int .i64 ((i : Int) + 1)) (by kernel_rfl) rfl) (v := .int .i64 (i : Int)) (by kernel_rfl) rfl) (v := .bool (decide ((i : Int) < (ne : Int)))) (by kernel_rfl) rfl) (v := .int .i64 (ne : Int)) (by kernel_rfl) rfl) (v := .pointer (some ⟨g3, 0, none⟩)) (by kernel_rfl) rfl) (v := .int .i64 (i : Int)) (by kernel_rfl) rfl) (v := .int .i64 (i : Int)) (by kernel_rfl) rfl) (v := .slice none 0 0) (by kernel_rfl) rfl) (v := .pointer (some ⟨g3, 0, none⟩)) (by kernel_rfl) rfl) (v := .int .i64 nz) (by kernel_rfl) rfl) (v := .agg #[.int .i64 (ne : Int), .slice A n cap]) (by kernel_rfl) rfl), S72.sub sub_all sub_all⟩ ?_
      rintro mm ac wc ⟨k, hm79, hk, A77, S78⟩
      have hb1 := cutN_range HB ((i * ne + j) * 64) 64 k
      have hb2 := cutN_range HB ((j * ne + i) * 64) 64 k
      refine wp_seq ?_
      refine wp_seq ?_
      refine wp_region_lit ?_
      refine s_one (.int .i64 (k : Int)) A77 S78 (g_move (by kernel_rfl)) rfl (fun ac A80 => ?_)
      refine s_one (.bool (decide ((k : Int) < 64))) A80 S78 (g_bin (u := .int .i64 (k : Int)) (k := .int .i64 64) (by kernel_rfl) (by kernel_rfl) (fun _ => by kernel_rfl) (fun _ => by kernel_rfl)) rfl (fun ac A81 => ?_)
      refine wpList_nil ?_
      refine n_then ?_
      refine c_ifb (b := (decide ((k : Int) < 64))) A81 (by kernel_rfl) (fun h82 => ?_) (fun h82 => ?_)
      · have p83 := of_decide_eq_true h82
        refine wp_skip ?_
        refine n_then ?_
        refine wp_seq ?_
        refine wp_block ?_
        refine c_cut (fun ac wc => Fr 65 ac [(10, .bool ((anyD (mi xs) ne nz (i, j) k) || (decide (mx (nthI (cutN (mi xs) ((i * ne + j) * 64) 64) k - (nthI (cutN (mi xs) ((j * ne + i) * 64) 64) k)) (-(nthI (cutN (mi xs) ((i * ne + j) * 64) 64) k - (nthI (cutN (mi xs) ((j * ne + i) * 64) 64) k))) > nz)))), (0, .agg #[.int .i64 (ne : Int), .slice A n cap]), (1, .int .i64 nz), (2, .pointer (some ⟨g3, 0, none⟩)), (4, .slice none 0 0), (6, .int .i64 (i : Int)), (12, .int .i64 (i : Int)), (13, .pointer (some ⟨g3, 0, none⟩)), (14, .int .i64 (ne : Int)), (15, .bool (decide ((i : Int) < (ne : Int)))), (18, .int .i64 (i : Int)), (19, .int .i64 ((i : Int) + 1)), (7, .int .i64 (j : Int)), (5, v2), (20, .int .i64 (j : Int)), (21, .pointer (some ⟨g3, 0, none⟩)), (22, .int .i64 (ne : Int)), (23, .bool (decide ((j : Int) < (ne : Int)))), (26, .agg #[.int .i64 (ne : Int), .slice A n cap]), (27, .int .i64 (i : Int)), (28, .int .i64 (j : Int)), (29, .agg #[.int .i64 (i : Int), .int .i64 (j : Int)]), (32, .agg #[.int .i64 (ne : Int), .slice A n cap]), (33, .int .i64 (j : Int)), (34, .int .i64 (i : Int)), (35, .agg #[.int .i64 (j : Int), .int .i64 (i : Int)]), (30, .agg (trc (mkT (nums (cutF xs (toI (ne : Int) (i : Int) (j : Int)) 64)) 64))), (31, .slice (some ⟨g50, 0, none⟩) 64 cap51), (36, .agg (trc (mkT (nums (cutF xs (toI (ne : Int) (j : Int) (i : Int)) 64)) 64))), (37, .slice (some ⟨g66, 0, none⟩) 64 cap67), (8, .slice (some ⟨g50, 0, none⟩) 64 cap51), (9, .slice (some ⟨g66, 0, none⟩) 64 cap67), (11, .int .i64 (k : Int)), (38, .int .i64 (k : Int)), (39, .bool (decide ((k : Int) < 64)))] ∧ St w0 [⟨g66, 3, cur68, true⟩, ⟨g50, 3, cur52, true⟩, ⟨g3, 30, #[.int .i64 (ne : Int), .slice A n cap], true⟩] [⟨v2, 26, 2, (((((preP ne i j)).filter (unB (mi xs) ne nz))).length), (rowI (flP (((preP ne i j)).filter (unB (mi xs) ne nz))))⟩] wc) ?_ ?_
        · refine r_begin (w0 := w0) (by kernel_rfl) (S78.sub sub_all sub_all) (fun wc T84 B85 => ?_)
          have S86 := S78.kept B85
          refine r_take 0 (.bool (anyD (mi xs) ne nz (i, j) k)) A81 T84 (g_move (by kernel_rfl)) rfl rfl rfl (pf_then (pf_block (pf_then (pf_then (pf_block (pf_then (pf_block (pf_then (pf_then (pf_block (pf_block (pf_then (pf_then (pf_block (pf_then pf_body))))))))))))))) (by kernel_rfl) (fun ac A87 => ?_)
          refine r_take 1 (.bool (anyD (mi xs) ne nz (i, j) k)) A87 T84 (g_move (by kernel_rfl)) rfl rfl rfl (pf_then (pf_block (pf_then (pf_then (pf_block (pf_then (pf_block (pf_then (pf_then (pf_block (pf_block (pf_then (pf_then (pf_block (pf_then pf_body))))))))))))))) (by kernel_rfl) (fun ac A88 => ?_)
          refine by_bool (anyD (mi xs) ne nz (i, j) k) (fun h89 => ?_) (fun h89 => ?_)
          · refine r_skip 2 A88 T84 rfl (want_f (dj := 43) (b := (anyD (mi xs) ne nz (i, j) k)) A88 rfl (by kernel_rfl) (by kernel_rfl) h89) rfl (pf_then (pf_block (pf_then (pf_then (pf_block (pf_then (pf_block (pf_then (pf_then (pf_block (pf_block (pf_then (pf_then (pf_block (pf_then pf_body))))))))))))))) (by kernel_rfl) (fun ac A90 => ?_)
            refine r_skip 3 A90 T84 rfl (want_f (dj := 43) (b := (anyD (mi xs) ne nz (i, j) k)) A90 rfl (by kernel_rfl) (by kernel_rfl) h89) rfl (pf_then (pf_block (pf_then (pf_then (pf_block (pf_then (pf_block (pf_then (pf_then (pf_block (pf_block (pf_then (pf_then (pf_block (pf_then pf_body))))))))))))))) (by kernel_rfl) (fun ac A91 => ?_)
            refine r_skip 4 A91 T84 rfl (want_f (dj := 43) (b := (anyD (mi xs) ne nz (i, j) k)) A91 rfl (by kernel_rfl) (by kernel_rfl) h89) rfl (pf_then (pf_block (pf_then (pf_then (pf_block (pf_then (pf_block (pf_then (pf_then (pf_block (pf_block (pf_then (pf_then (pf_block (pf_then pf_body))))))))))))))) (by kernel_rfl) (fun ac A92 => ?_)
            refine r_skip 5 A92 T84 rfl (want_f (dj := 43) (b := (anyD (mi xs) ne nz (i, j) k)) A92 rfl (by kernel_rfl) (by kernel_rfl) h89) rfl (pf_then (pf_block (pf_then (pf_then (pf_block (pf_then (pf_block (pf_then (pf_then (pf_block (pf_block (pf_then (pf_then (pf_block (pf_then pf_body))))))))))))))) (by kernel_rfl) (fun ac A93 => ?_)
            refine r_skip 6 A93 T84 rfl (want_f (dj := 43) (b := (anyD (mi xs) ne nz (i, j) k)) A93 rfl (by kernel_rfl) (by kernel_rfl) h89) rfl (pf_then (pf_block (pf_then (pf_then (pf_block (pf_then (pf_block (pf_then (pf_then (pf_block (pf_block (pf_then (pf_then (pf_block (pf_then pf_body))))))))))))))) (by kernel_rfl) (fun ac A94 => ?_)
            refine r_skip 7 A94 T84 rfl (want_f (dj := 43) (b := (anyD (mi xs) ne nz (i, j) k)) A94 rfl (by kernel_rfl) (by kernel_rfl) h89) rfl (pf_then (pf_block (pf_then (pf_then (pf_block (pf_then (pf_block (pf_then (pf_then (pf_block (pf_block (pf_then (pf_then (pf_block (pf_then pf_body))))))))))))))) (by kernel_rfl) (fun ac A95 => ?_)
            refine r_skip 8 A95 T84 rfl (want_f (dj := 43) (b := (anyD (mi xs) ne nz (i, j) k)) A95 rfl (by kernel_rfl) (by kernel_rfl) h89) rfl (pf_then (pf_block (pf_then (pf_then (pf_block (pf_then (pf_block (pf_then (pf_then (pf_block (pf_block (pf_then (pf_then (pf_block (pf_then pf_body))))))))))))))) (by kernel_rfl) (fun ac A96 => ?_)
            refine r_skip 9 A96 T84 rfl (want_f (dj := 43) (b := (anyD (mi xs) ne nz (i, j) k)) A96 rfl (by kernel_rfl) (by kernel_rfl) h89) rfl (pf_then (pf_block (pf_then (pf_then (pf_block (pf_then (pf_block (pf_then (pf_then (pf_block (pf_block (pf_then (pf_then (pf_block (pf_then pf_body))))))))))))))) (by kernel_rfl) (fun ac A97 => ?_)
            refine r_skip 10 A97 T84 rfl (want_f (dj := 43) (b := (anyD (mi xs) ne nz (i, j) k)) A97 rfl (by kernel_rfl) (by kernel_rfl) h89) rfl (pf_then (pf_block (pf_then (pf_then (pf_block (pf_then (pf_block (pf_then (pf_then (pf_block (pf_block (pf_then (pf_then (pf_block (pf_then pf_body))))))))))))))) (by kernel_rfl) (fun ac A98 => ?_)
            refine r_skip 11 A98 T84 rfl (want_f (dj := 43) (b := (anyD (mi xs) ne nz (i, j) k)) A98 rfl (by kernel_rfl) (by kernel_rfl) h89) rfl (pf_then (pf_block (pf_then (pf_then (pf_block (pf_then (pf_block (pf_then (pf_then (pf_block (pf_block (pf_then (pf_then (pf_block (pf_then pf_body))))))))))))))) (by kernel_rfl) (fun ac A99 => ?_)
            refine r_skip 12 A99 T84 rfl (want_f (dj := 43) (b := (anyD (mi xs) ne nz (i, j) k)) A99 rfl (by kernel_rfl) (by kernel_rfl) h89) rfl (pf_then (pf_block (pf_then (pf_then (pf_block (pf_then (pf_block (pf_then (pf_then (pf_block (pf_block (pf_then (pf_then (pf_block (pf_then pf_body))))))))))))))) (by kernel_rfl) (fun ac A100 => ?_)
            refine r_skip 13 A100 T84 rfl (want_f (dj := 43) (b := (anyD (mi xs) ne nz (i, j) k)) A100 rfl (by kernel_rfl) (by kernel_rfl) h89) rfl (pf_then (pf_block (pf_then (pf_then (pf_block (pf_then (pf_block (pf_then (pf_then (pf_block (pf_block (pf_then (pf_then (pf_block (pf_then pf_body))))))))))))))) (by kernel_rfl) (fun ac A101 => ?_)
            refine r_take 14 (.bool true) A101 T84 (g_pick_t (b := (anyD (mi xs) ne nz (i, j) k)) (by kernel_rfl) h89 (by kernel_rfl)) rfl rfl rfl (pf_then (pf_block (pf_then (pf_then (pf_block (pf_then (pf_block (pf_then (pf_then (pf_block (pf_block (pf_then (pf_then (pf_block (pf_then pf_body))))))))))))))) (by kernel_rfl) (fun ac A102 => ?_)
            refine r_take 15 (.bool true) A102 T84 (g_assign (by kernel_rfl)) rfl rfl rfl (pf_then (pf_block (pf_then (pf_then (pf_block (pf_then (pf_block (pf_then (pf_then (pf_block (pf_block (pf_then (pf_then (pf_block (pf_then pf_body))))))))))))))) (by kernel_rfl) (fun ac A103 => ?_)
            refine r_done (by kernel_rfl) ?_
            refine n_then ?_
            exact ⟨(A103.slot (A103.slot (A103.slot (A103.slot (A103.slot (A103.slot (A103.slot (A103.slot (A103.slot (A103.slot (A103.slot (A103.slot (A103.slot (A103.slot (A103.slot (A103.slot (A103.slot (A103.slot (A103.slot (A103.slot (A103.slot (A103.slot (A103.slot (A103.slot (A103.slot (A103.slot (A103.slot (A103.slot (A103.slot (A103.slot (A103.slot (A103.slot (A103.slot (A103.slot (A103.slot A103.nil (v := .bool (decide ((k : Int) < 64))) (by kernel_rfl) rfl) (v := .int .i64 (k : Int)) (by kernel_rfl) rfl) (v := .int .i64 (k : Int)) (by kernel_rfl) rfl) (v := .slice (some ⟨g66, 0, none⟩) 64 cap67) (by kernel_rfl) rfl) (v := .slice (some ⟨g50, 0, none⟩) 64 cap51) (by kernel_rfl) rfl) (v := .slice (some ⟨g66, 0, none⟩) 64 cap67) (by kernel_rfl) rfl) (v := .agg (trc (mkT (nums (cutF xs (toI (ne : Int) (j : Int) (i : Int)) 64)) 64))) (by kernel_rfl) rfl) (v := .slice (some ⟨g50, 0, none⟩) 64 cap51) (by kernel_rfl) rfl) (v := .agg (trc (mkT (nums (cutF xs (toI (ne : Int) (i : Int) (j : Int)) 64)) 64))) (by kernel_rfl) rfl) (v := .agg #[.int .i64 (j : Int), .int .i64 (i : Int)]) (by kernel_rfl) rfl) (v := .int .i64 (i : Int)) (by kernel_rfl) rfl) (v := .int .i64 (j : Int)) (by kernel_rfl) rfl) (v := .agg #[.int .i64 (ne : Int), .slice A n cap]) (by kernel_rfl) rfl) (v := .agg #[.int .i64 (i : Int), .int .i64 (j : Int)]) (by kernel_rfl) rfl) (v := .int .i64 (j : Int)) (by kernel_rfl) rfl) (v := .int .i64 (i : Int)) (by kernel_rfl) rfl) (v := .agg #[.int .i64 (ne : Int), .slice A n cap]) (by kernel_rfl) rfl) (v := .bool (decide ((j : Int) < (ne : Int)))) (by kernel_rfl) rfl) (v := .int .i64 (ne : Int)) (by kernel_rfl) rfl) (v := .pointer (some ⟨g3, 0, none⟩)) (by kernel_rfl) rfl) (v := .int .i64 (j : Int)) (by kernel_rfl) rfl) (v := v2) (by kernel_rfl) rfl) (v := .int .i64 (j : Int)) (by kernel_rfl) rfl) (v := .int .i64 ((i : Int) + 1)) (by kernel_rfl) rfl) (v := .int .i64 (i : Int)) (by kernel_rfl) rfl) (v := .bool (decide ((i : Int) < (ne : Int)))) (by kernel_rfl) rfl) (v := .int .i64 (ne : Int)) (by kernel_rfl) rfl) (v := .pointer (some ⟨g3, 0, none⟩)) (by kernel_rfl) rfl) (v := .int .i64 (i : Int)) (by kernel_rfl) rfl) (v := .int .i64 (i : Int)) (by kernel_rfl) rfl) (v := .slice none 0 0) (by kernel_rfl) rfl) (v := .pointer (some ⟨g3, 0, none⟩)) (by kernel_rfl) rfl) (v := .int .i64 nz) (by kernel_rfl) rfl) (v := .agg #[.int .i64 (ne : Int), .slice A n cap]) (by kernel_rfl) rfl) (v := .bool true) (by kernel_rfl) (congrArg Value.bool (b_ot1 h89).symm)), S86.sub sub_all sub_all⟩
          · refine r_take 2 (.slice (some ⟨g50, 0, none⟩) 64 cap51) A88 T84 (g_move (by kernel_rfl)) rfl (want_t (dj := 43) (b := (anyD (mi xs) ne nz (i, j) k)) A88 rfl (by kernel_rfl) (by kernel_rfl) h89) rfl (pf_then (pf_block (pf_then (pf_then (pf_block (pf_then (pf_block (pf_then (pf_then (pf_block (pf_block (pf_then (pf_then (pf_block (pf_then pf_body))))))))))))))) (by kernel_rfl) (fun ac A104 => ?_)
            refine r_take 3 (.int .i64 (k : Int)) A104 T84 (g_move (by kernel_rfl)) rfl (want_t (dj := 43) (b := (anyD (mi xs) ne nz (i, j) k)) A104 rfl (by kernel_rfl) (by kernel_rfl) h89) rfl (pf_then (pf_block (pf_then (pf_then (pf_block (pf_then (pf_block (pf_then (pf_then (pf_block (pf_block (pf_then (pf_then (pf_block (pf_then pf_body))))))))))))))) (by kernel_rfl) (fun ac A105 => ?_)
            refine r_take 4 (.pointer (some ⟨g50, k, none⟩)) A105 T84 (g_index (u := .slice (some ⟨g50, 0, none⟩) 64 cap51) (k := .int .i64 (k : Int)) (by kernel_rfl) (by kernel_rfl) (ix_sl1 (e := 3) (bytes := 8) k (by kernel_rfl) (by omega) (by omega))) rfl (want_t (dj := 43) (b := (anyD (mi xs) ne nz (i, j) k)) A105 rfl (by kernel_rfl) (by kernel_rfl) h89) rfl (pf_then (pf_block (pf_then (pf_then (pf_block (pf_then (pf_block (pf_then (pf_then (pf_block (pf_block (pf_then (pf_then (pf_block (pf_then pf_body))))))))))))))) (by kernel_rfl) (fun ac A106 => ?_)
            refine r_take 5 (.int .i64 (nthI (cutN (mi xs) ((i * ne + j) * 64) 64) k)) A106 T84 (g_load (g := g50) (off := k) 1 (by kernel_rfl) rfl (rv_of (by kernel_rfl) (cur_get ht55 (rowI_get (by rw [(cutN_length _ _ _)]; omega))))) rfl (want_t (dj := 43) (b := (anyD (mi xs) ne nz (i, j) k)) A106 rfl (by kernel_rfl) (by kernel_rfl) h89) rfl (pf_then (pf_block (pf_then (pf_then (pf_block (pf_then (pf_block (pf_then (pf_then (pf_block (pf_block (pf_then (pf_then (pf_block (pf_then pf_body))))))))))))))) (by kernel_rfl) (fun ac A107 => ?_)
            refine r_take 6 (.slice (some ⟨g66, 0, none⟩) 64 cap67) A107 T84 (g_move (by kernel_rfl)) rfl (want_t (dj := 43) (b := (anyD (mi xs) ne nz (i, j) k)) A107 rfl (by kernel_rfl) (by kernel_rfl) h89) rfl (pf_then (pf_block (pf_then (pf_then (pf_block (pf_then (pf_block (pf_then (pf_then (pf_block (pf_block (pf_then (pf_then (pf_block (pf_then pf_body))))))))))))))) (by kernel_rfl) (fun ac A108 => ?_)
            refine r_take 7 (.int .i64 (k : Int)) A108 T84 (g_move (by kernel_rfl)) rfl (want_t (dj := 43) (b := (anyD (mi xs) ne nz (i, j) k)) A108 rfl (by kernel_rfl) (by kernel_rfl) h89) rfl (pf_then (pf_block (pf_then (pf_then (pf_block (pf_then (pf_block (pf_then (pf_then (pf_block (pf_block (pf_then (pf_then (pf_block (pf_then pf_body))))))))))))))) (by kernel_rfl) (fun ac A109 => ?_)
            refine r_take 8 (.pointer (some ⟨g66, k, none⟩)) A109 T84 (g_index (u := .slice (some ⟨g66, 0, none⟩) 64 cap67) (k := .int .i64 (k : Int)) (by kernel_rfl) (by kernel_rfl) (ix_sl1 (e := 3) (bytes := 8) k (by kernel_rfl) (by omega) (by omega))) rfl (want_t (dj := 43) (b := (anyD (mi xs) ne nz (i, j) k)) A109 rfl (by kernel_rfl) (by kernel_rfl) h89) rfl (pf_then (pf_block (pf_then (pf_then (pf_block (pf_then (pf_block (pf_then (pf_then (pf_block (pf_block (pf_then (pf_then (pf_block (pf_then pf_body))))))))))))))) (by kernel_rfl) (fun ac A110 => ?_)
            refine r_take 9 (.int .i64 (nthI (cutN (mi xs) ((j * ne + i) * 64) 64) k)) A110 T84 (g_load (g := g66) (off := k) 0 (by kernel_rfl) rfl (rv_of (by kernel_rfl) (cur_get ht71 (rowI_get (by rw [(cutN_length _ _ _)]; omega))))) rfl (want_t (dj := 43) (b := (anyD (mi xs) ne nz (i, j) k)) A110 rfl (by kernel_rfl) (by kernel_rfl) h89) rfl (pf_then (pf_block (pf_then (pf_then (pf_block (pf_then (pf_block (pf_then (pf_then (pf_block (pf_block (pf_then (pf_then (pf_block (pf_then pf_body))))))))))))))) (by kernel_rfl) (fun ac A111 => ?_)
            refine r_take 10 (.int .i64 (nthI (cutN (mi xs) ((i * ne + j) * 64) 64) k - (nthI (cutN (mi xs) ((j * ne + i) * 64) 64) k))) A111 T84 (g_bin (u := .int .i64 (nthI (cutN (mi xs) ((i * ne + j) * 64) 64) k)) (k := .int .i64 (nthI (cutN (mi xs) ((j * ne + i) * 64) 64) k)) (by kernel_rfl) (by kernel_rfl) (fun _ => by kernel_rfl) (b_sub (by omega))) rfl (want_t (dj := 43) (b := (anyD (mi xs) ne nz (i, j) k)) A111 rfl (by kernel_rfl) (by kernel_rfl) h89) rfl (pf_then (pf_block (pf_then (pf_then (pf_block (pf_then (pf_block (pf_then (pf_then (pf_block (pf_block (pf_then (pf_then (pf_block (pf_then pf_body))))))))))))))) (by kernel_rfl) (fun ac A112 => ?_)
            refine r_take 12 (.int .i64 nz) A112 T84 (g_move (by kernel_rfl)) rfl (want_t (dj := 43) (b := (anyD (mi xs) ne nz (i, j) k)) A112 rfl (by kernel_rfl) (by kernel_rfl) h89) rfl (pf_then (pf_block (pf_then (pf_then (pf_block (pf_then (pf_block (pf_then (pf_then (pf_block (pf_block (pf_then (pf_then (pf_block (pf_then pf_body))))))))))))))) (by kernel_rfl) (fun ac A113 => ?_)
            refine r_1 (i := 11) (by kernel_rfl) ?_
            refine rs_call (fs := #[]) (cp := #[]) (r := [(0, .int .i64 (nthI (cutN (mi xs) ((i * ne + j) * 64) 64) k - (nthI (cutN (mi xs) ((j * ne + i) * 64) 64) k)))]) #[.int .i64 (nthI (cutN (mi xs) ((i * ne + j) * 64) 64) k - (nthI (cutN (mi xs) ((j * ne + i) * 64) 64) k))] (.int .i64 (mx (nthI (cutN (mi xs) ((i * ne + j) * 64) 64) k - (nthI (cutN (mi xs) ((j * ne + i) * 64) 64) k)) (-(nthI (cutN (mi xs) ((i * ne + j) * 64) 64) k - (nthI (cutN (mi xs) ((j * ne + i) * 64) 64) k))))) A113 S86 sub_all sub_all (baseSize_s (nthI (cutN (mi xs) ((i * ne + j) * 64) 64) k - (nthI (cutN (mi xs) ((j * ne + i) * 64) 64) k)) _ (by omega)) Try.call91 rfl (want_t (dj := 43) (b := (anyD (mi xs) ne nz (i, j) k)) A113 rfl (by kernel_rfl) (by kernel_rfl) h89) (by kernel_rfl) (by kernel_rfl) (by kernel_rfl) rfl (fun ac wc A114 S115 => ?_)
            have T117 := S115.sub sub_all sub_all
            refine r_take 13 (.bool (decide (mx (nthI (cutN (mi xs) ((i * ne + j) * 64) 64) k - (nthI (cutN (mi xs) ((j * ne + i) * 64) 64) k)) (-(nthI (cutN (mi xs) ((i * ne + j) * 64) 64) k - (nthI (cutN (mi xs) ((j * ne + i) * 64) 64) k))) > nz))) A114 T117 (g_bin (u := .int .i64 (mx (nthI (cutN (mi xs) ((i * ne + j) * 64) 64) k - (nthI (cutN (mi xs) ((j * ne + i) * 64) 64) k)) (-(nthI (cutN (mi xs) ((i * ne + j) * 64) 64) k - (nthI (cutN (mi xs) ((j * ne + i) * 64) 64) k))))) (k := .int .i64 nz) (by kernel_rfl) (by kernel_rfl) (fun _ => by kernel_rfl) (fun _ => by kernel_rfl)) rfl (want_t (dj := 43) (b := (anyD (mi xs) ne nz (i, j) k)) A114 rfl (by kernel_rfl) (by kernel_rfl) h89) rfl (pf_then (pf_block (pf_then (pf_then (pf_block (pf_then (pf_block (pf_then (pf_then (pf_block (pf_block (pf_then (pf_then (pf_block (pf_then pf_body))))))))))))))) (by kernel_rfl) (fun ac A118 => ?_)
            refine r_take 14 (.bool (decide (mx (nthI (cutN (mi xs) ((i * ne + j) * 64) 64) k - (nthI (cutN (mi xs) ((j * ne + i) * 64) 64) k)) (-(nthI (cutN (mi xs) ((i * ne + j) * 64) 64) k - (nthI (cutN (mi xs) ((j * ne + i) * 64) 64) k))) > nz))) A118 T117 (g_pick_f (b := (anyD (mi xs) ne nz (i, j) k)) (by kernel_rfl) h89 (by kernel_rfl)) rfl rfl rfl (pf_then (pf_block (pf_then (pf_then (pf_block (pf_then (pf_block (pf_then (pf_then (pf_block (pf_block (pf_then (pf_then (pf_block (pf_then pf_body))))))))))))))) (by kernel_rfl) (fun ac A119 => ?_)
            refine r_take 15 (.bool (decide (mx (nthI (cutN (mi xs) ((i * ne + j) * 64) 64) k - (nthI (cutN (mi xs) ((j * ne + i) * 64) 64) k)) (-(nthI (cutN (mi xs) ((i * ne + j) * 64) 64) k - (nthI (cutN (mi xs) ((j * ne + i) * 64) 64) k))) > nz))) A119 T117 (g_assign (by kernel_rfl)) rfl rfl rfl (pf_then (pf_block (pf_then (pf_then (pf_block (pf_then (pf_block (pf_then (pf_then (pf_block (pf_block (pf_then (pf_then (pf_block (pf_then pf_body))))))))))))))) (by kernel_rfl) (fun ac A120 => ?_)
            refine r_done (by kernel_rfl) ?_
            refine n_then ?_
            exact ⟨(A120.slot (A120.slot (A120.slot (A120.slot (A120.slot (A120.slot (A120.slot (A120.slot (A120.slot (A120.slot (A120.slot (A120.slot (A120.slot (A120.slot (A120.slot (A120.slot (A120.slot (A120.slot (A120.slot (A120.slot (A120.slot (A120.slot (A120.slot (A120.slot (A120.slot (A120.slot (A120.slot (A120.slot (A120.slot (A120.slot (A120.slot (A120.slot (A120.slot (A120.slot (A120.slot A120.nil (v := .bool (decide ((k : Int) < 64))) (by kernel_rfl) rfl) (v := .int .i64 (k : Int)) (by kernel_rfl) rfl) (v := .int .i64 (k : Int)) (by kernel_rfl) rfl) (v := .slice (some ⟨g66, 0, none⟩) 64 cap67) (by kernel_rfl) rfl) (v := .slice (some ⟨g50, 0, none⟩) 64 cap51) (by kernel_rfl) rfl) (v := .slice (some ⟨g66, 0, none⟩) 64 cap67) (by kernel_rfl) rfl) (v := .agg (trc (mkT (nums (cutF xs (toI (ne : Int) (j : Int) (i : Int)) 64)) 64))) (by kernel_rfl) rfl) (v := .slice (some ⟨g50, 0, none⟩) 64 cap51) (by kernel_rfl) rfl) (v := .agg (trc (mkT (nums (cutF xs (toI (ne : Int) (i : Int) (j : Int)) 64)) 64))) (by kernel_rfl) rfl) (v := .agg #[.int .i64 (j : Int), .int .i64 (i : Int)]) (by kernel_rfl) rfl) (v := .int .i64 (i : Int)) (by kernel_rfl) rfl) (v := .int .i64 (j : Int)) (by kernel_rfl) rfl) (v := .agg #[.int .i64 (ne : Int), .slice A n cap]) (by kernel_rfl) rfl) (v := .agg #[.int .i64 (i : Int), .int .i64 (j : Int)]) (by kernel_rfl) rfl) (v := .int .i64 (j : Int)) (by kernel_rfl) rfl) (v := .int .i64 (i : Int)) (by kernel_rfl) rfl) (v := .agg #[.int .i64 (ne : Int), .slice A n cap]) (by kernel_rfl) rfl) (v := .bool (decide ((j : Int) < (ne : Int)))) (by kernel_rfl) rfl) (v := .int .i64 (ne : Int)) (by kernel_rfl) rfl) (v := .pointer (some ⟨g3, 0, none⟩)) (by kernel_rfl) rfl) (v := .int .i64 (j : Int)) (by kernel_rfl) rfl) (v := v2) (by kernel_rfl) rfl) (v := .int .i64 (j : Int)) (by kernel_rfl) rfl) (v := .int .i64 ((i : Int) + 1)) (by kernel_rfl) rfl) (v := .int .i64 (i : Int)) (by kernel_rfl) rfl) (v := .bool (decide ((i : Int) < (ne : Int)))) (by kernel_rfl) rfl) (v := .int .i64 (ne : Int)) (by kernel_rfl) rfl) (v := .pointer (some ⟨g3, 0, none⟩)) (by kernel_rfl) rfl) (v := .int .i64 (i : Int)) (by kernel_rfl) rfl) (v := .int .i64 (i : Int)) (by kernel_rfl) rfl) (v := .slice none 0 0) (by kernel_rfl) rfl) (v := .pointer (some ⟨g3, 0, none⟩)) (by kernel_rfl) rfl) (v := .int .i64 nz) (by kernel_rfl) rfl) (v := .agg #[.int .i64 (ne : Int), .slice A n cap]) (by kernel_rfl) rfl) (v := .bool (decide (mx (nthI (cutN (mi xs) ((i * ne + j) * 64) 64) k - (nthI (cutN (mi xs) ((j * ne + i) * 64) 64) k)) (-(nthI (cutN (mi xs) ((i * ne + j) * 64) 64) k - (nthI (cutN (mi xs) ((j * ne + i) * 64) 64) k))) > nz))) (by kernel_rfl) (congrArg Value.bool (b_or_f h89 (Eq.refl (decide (mx (nthI (cutN (mi xs) ((i * ne + j) * 64) 64) k - (nthI (cutN (mi xs) ((j * ne + i) * 64) 64) k)) (-(nthI (cutN (mi xs) ((i * ne + j) * 64) 64) k - (nthI (cutN (mi xs) ((j * ne + i) * 64) 64) k))) > nz)))).symm)), S115.sub sub_all sub_all⟩
        · rintro ac wc ⟨A121, S122⟩
          refine n_block ?_
          refine n_then ?_
          refine wp_region_lit ?_
          refine s_one (.int .i64 (k : Int)) A121 S122 (g_move (by kernel_rfl)) rfl (fun ac A123 => ?_)
          refine s_one (.int .i64 ((k : Int) + 1)) A123 S122 (g_bin (u := .int .i64 (k : Int)) (k := .int .i64 1) (by kernel_rfl) (by kernel_rfl) (fun _ => by kernel_rfl) (b_add (by omega))) rfl (fun ac A124 => ?_)
          refine s_one (.int .i64 ((k : Int) + 1)) A124 S122 (g_assign (by kernel_rfl)) rfl (fun ac A125 => ?_)
          refine wpList_nil ?_
          refine n_then ?_
          refine ⟨_, ⟨k + 1, rfl, by omega, (A125.slot (A125.slot (A125.slot (A125.slot (A125.slot (A125.slot (A125.slot (A125.slot (A125.slot (A125.slot (A125.slot (A125.slot (A125.slot (A125.slot (A125.slot (A125.slot (A125.slot (A125.slot (A125.slot (A125.slot (A125.slot (A125.slot (A125.slot (A125.slot (A125.slot (A125.slot (A125.slot (A125.slot (A125.slot (A125.slot (A125.slot (A125.slot (A125.slot A125.nil (v := .bool ((anyD (mi xs) ne nz (i, j) k) || (decide (mx (nthI (cutN (mi xs) ((i * ne + j) * 64) 64) k - (nthI (cutN (mi xs) ((j * ne + i) * 64) 64) k)) (-(nthI (cutN (mi xs) ((i * ne + j) * 64) 64) k - (nthI (cutN (mi xs) ((j * ne + i) * 64) 64) k))) > nz)))) (by kernel_rfl) (congrArg Value.bool (anyD_row (by omega)))) (v := .int .i64 ((k : Int) + 1)) (by kernel_rfl) (congrArg (Value.int .i64) (by omega))) (v := .slice (some ⟨g66, 0, none⟩) 64 cap67) (by kernel_rfl) rfl) (v := .slice (some ⟨g50, 0, none⟩) 64 cap51) (by kernel_rfl) rfl) (v := .slice (some ⟨g66, 0, none⟩) 64 cap67) (by kernel_rfl) rfl) (v := .agg (trc (mkT (nums (cutF xs (toI (ne : Int) (j : Int) (i : Int)) 64)) 64))) (by kernel_rfl) rfl) (v := .slice (some ⟨g50, 0, none⟩) 64 cap51) (by kernel_rfl) rfl) (v := .agg (trc (mkT (nums (cutF xs (toI (ne : Int) (i : Int) (j : Int)) 64)) 64))) (by kernel_rfl) rfl) (v := .agg #[.int .i64 (j : Int), .int .i64 (i : Int)]) (by kernel_rfl) rfl) (v := .int .i64 (i : Int)) (by kernel_rfl) rfl) (v := .int .i64 (j : Int)) (by kernel_rfl) rfl) (v := .agg #[.int .i64 (ne : Int), .slice A n cap]) (by kernel_rfl) rfl) (v := .agg #[.int .i64 (i : Int), .int .i64 (j : Int)]) (by kernel_rfl) rfl) (v := .int .i64 (j : Int)) (by kernel_rfl) rfl) (v := .int .i64 (i : Int)) (by kernel_rfl) rfl) (v := .agg #[.int .i64 (ne : Int), .slice A n cap]) (by kernel_rfl) rfl) (v := .bool (decide ((j : Int) < (ne : Int)))) (by kernel_rfl) rfl) (v := .int .i64 (ne : Int)) (by kernel_rfl) rfl) (v := .pointer (some ⟨g3, 0, none⟩)) (by kernel_rfl) rfl) (v := .int .i64 (j : Int)) (by kernel_rfl) rfl) (v := v2) (by kernel_rfl) rfl) (v := .int .i64 (j : Int)) (by kernel_rfl) rfl) (v := .int .i64 ((i : Int) + 1)) (by kernel_rfl) rfl) (v := .int .i64 (i : Int)) (by kernel_rfl) rfl) (v := .bool (decide ((i : Int) < (ne : Int)))) (by kernel_rfl) rfl) (v := .int .i64 (ne : Int)) (by kernel_rfl) rfl) (v := .pointer (some ⟨g3, 0, none⟩)) (by kernel_rfl) rfl) (v := .int .i64 (i : Int)) (by kernel_rfl) rfl) (v := .int .i64 (i : Int)) (by kernel_rfl) rfl) (v := .slice none 0 0) (by kernel_rfl) rfl) (v := .pointer (some ⟨g3, 0, none⟩)) (by kernel_rfl) rfl) (v := .int .i64 nz) (by kernel_rfl) rfl) (v := .agg #[.int .i64 (ne : Int), .slice A n cap]) (by kernel_rfl) rfl), S122.sub sub_all sub_all⟩, ?_⟩
          omega
      · have p126 := of_decide_eq_false h82
        refine wp_exit ?_
        refine x_then ?_
        refine x_then ?_
        refine x_hit ?_
        refine n_then ?_
        refine wp_seq ?_
        refine wp_region_lit ?_
        refine s_one (.bool (anyD (mi xs) ne nz (i, j) k)) A81 S78 (g_move (by kernel_rfl)) rfl (fun ac A127 => ?_)
        refine wpList_nil ?_
        refine n_then ?_
        refine c_ifb (b := (anyD (mi xs) ne nz (i, j) k)) A127 (by kernel_rfl) (fun h128 => ?_) (fun h128 => ?_)
        · refine wp_region_lit ?_
          refine s_one (v2) A127 S78 (g_move (by kernel_rfl)) rfl (fun ac A129 => ?_)
          refine s_one (.int .i64 (i : Int)) A129 S78 (g_move (by kernel_rfl)) rfl (fun ac A130 => ?_)
          refine s_one (.int .i64 (j : Int)) A130 S78 (g_move (by kernel_rfl)) rfl (fun ac A131 => ?_)
          refine s_one (.agg #[.int .i64 (i : Int), .int .i64 (j : Int)]) A131 S78 (g_build (r := [(0, .int .i64 (i : Int)), (1, .int .i64 (j : Int))]) (by kernel_rfl) (fun _ => by kernel_rfl)) rfl (fun ac A132 => ?_)
          refine s_bs (e := 26) (r := [(0, .agg #[.int .i64 (i : Int), .int .i64 (j : Int)])]) (#[.int .i64 (i : Int), .int .i64 (j : Int)]) A132 S78 (by kernel_rfl) (by kernel_rfl) rfl (fun g135 ac wc A133 S134 => ?_)
          refine s_append (e := 26) (size := 2) (bytes := 16) (v := v2) (g := g135) (m' := 1) (c := 1) 0 0 [.int .i64 (i : Int), .int .i64 (j : Int)] A133 S134 (by kernel_rfl) (by kernel_rfl) (by kernel_rfl) rfl rfl (by kernel_rfl) rfl (by kernel_rfl) (by omega) (by omega) rfl (fun v139 ac wc A136 S137 => ?_)
          refine s_one (v139) A136 S137 (g_assign (by kernel_rfl)) rfl (fun ac A140 => ?_)
          refine wpList_nil ?_
          refine n_block ?_
          refine n_then ?_
          refine wp_region_lit ?_
          refine s_one (.int .i64 (j : Int)) A140 S137 (g_move (by kernel_rfl)) rfl (fun ac A141 => ?_)
          refine s_one (.int .i64 ((j : Int) + 1)) A141 S137 (g_bin (u := .int .i64 (j : Int)) (k := .int .i64 1) (by kernel_rfl) (by kernel_rfl) (fun _ => by kernel_rfl) (b_add (by omega))) rfl (fun ac A142 => ?_)
          refine s_one (.int .i64 ((j : Int) + 1)) A142 S137 (g_assign (by kernel_rfl)) rfl (fun ac A143 => ?_)
          refine wpList_nil ?_
          refine n_then ?_
          refine ⟨_, ⟨j + 1, v139, rfl, by omega, (A143.slot (A143.slot (A143.slot (A143.slot (A143.slot (A143.slot (A143.slot (A143.slot (A143.slot (A143.slot (A143.slot (A143.slot (A143.slot A143.nil (v := v139) (by kernel_rfl) rfl) (v := .int .i64 ((j : Int) + 1)) (by kernel_rfl) (congrArg (Value.int .i64) (by omega))) (v := .int .i64 ((i : Int) + 1)) (by kernel_rfl) rfl) (v := .int .i64 (i : Int)) (by kernel_rfl) rfl) (v := .bool (decide ((i : Int) < (ne : Int)))) (by kernel_rfl) rfl) (v := .int .i64 (ne : Int)) (by kernel_rfl) rfl) (v := .pointer (some ⟨g3, 0, none⟩)) (by kernel_rfl) rfl) (v := .int .i64 (i : Int)) (by kernel_rfl) rfl) (v := .int .i64 (i : Int)) (by kernel_rfl) rfl) (v := .slice none 0 0) (by kernel_rfl) rfl) (v := .pointer (some ⟨g3, 0, none⟩)) (by kernel_rfl) rfl) (v := .int .i64 nz) (by kernel_rfl) rfl) (v := .agg #[.int .i64 (ne : Int), .slice A n cap]) (by kernel_rfl) rfl), (St.rerow 0 S137 rfl ⟨by rw [← preP_succ, sel_y (unB_t (by omega) (by omega) h128), List.length_append]; rfl, by rw [← preP_succ, sel_y (unB_t (by omega) (by omega) h128)]; exact flP_snoc _ _ _⟩).sub (sub_skip (sub_skip (sub_skip sub_all))) sub_all⟩, ?_⟩
          omega
        · refine wp_skip ?_
          refine n_block ?_
          refine n_then ?_
          refine wp_region_lit ?_
          refine s_one (.int .i64 (j : Int)) A127 S78 (g_move (by kernel_rfl)) rfl (fun ac A144 => ?_)
          refine s_one (.int .i64 ((j : Int) + 1)) A144 S78 (g_bin (u := .int .i64 (j : Int)) (k := .int .i64 1) (by kernel_rfl) (by kernel_rfl) (fun _ => by kernel_rfl) (b_add (by omega))) rfl (fun ac A145 => ?_)
          refine s_one (.int .i64 ((j : Int) + 1)) A145 S78 (g_assign (by kernel_rfl)) rfl (fun ac A146 => ?_)
          refine wpList_nil ?_
          refine n_then ?_
          refine ⟨_, ⟨j + 1, v2, rfl, by omega, (A146.slot (A146.slot (A146.slot (A146.slot (A146.slot (A146.slot (A146.slot (A146.slot (A146.slot (A146.slot (A146.slot (A146.slot (A146.slot A146.nil (v := v2) (by kernel_rfl) rfl) (v := .int .i64 ((j : Int) + 1)) (by kernel_rfl) (congrArg (Value.int .i64) (by omega))) (v := .int .i64 ((i : Int) + 1)) (by kernel_rfl) rfl) (v := .int .i64 (i : Int)) (by kernel_rfl) rfl) (v := .bool (decide ((i : Int) < (ne : Int)))) (by kernel_rfl) rfl) (v := .int .i64 (ne : Int)) (by kernel_rfl) rfl) (v := .pointer (some ⟨g3, 0, none⟩)) (by kernel_rfl) rfl) (v := .int .i64 (i : Int)) (by kernel_rfl) rfl) (v := .int .i64 (i : Int)) (by kernel_rfl) rfl) (v := .slice none 0 0) (by kernel_rfl) rfl) (v := .pointer (some ⟨g3, 0, none⟩)) (by kernel_rfl) rfl) (v := .int .i64 nz) (by kernel_rfl) rfl) (v := .agg #[.int .i64 (ne : Int), .slice A n cap]) (by kernel_rfl) rfl), (St.rerow 0 S78 rfl ⟨by rw [← preP_succ, sel_n (unB_f (by omega) h128)], by rw [← preP_succ, sel_n (unB_f (by omega) h128)]⟩).sub (sub_skip (sub_skip sub_all)) sub_all⟩, ?_⟩
          omega
    · have p147 := of_decide_eq_false h28
      refine wp_exit ?_
      refine x_then ?_
      refine x_then ?_
      refine x_hit ?_
      refine n_block ?_
      refine n_then ?_
      refine wp_region_lit ?_
      refine s_one (.int .i64 (i : Int)) A27 S22 (g_move (by kernel_rfl)) rfl (fun ac A148 => ?_)
      refine s_one (.int .i64 ((i : Int) + 1)) A148 S22 (g_bin (u := .int .i64 (i : Int)) (k := .int .i64 1) (by kernel_rfl) (by kernel_rfl) (fun _ => by kernel_rfl) (b_add (by omega))) rfl (fun ac A149 => ?_)
      refine s_one (.int .i64 ((i : Int) + 1)) A149 S22 (g_assign (by kernel_rfl)) rfl (fun ac A150 => ?_)
      refine wpList_nil ?_
      refine n_then ?_
      have ej : j = ne := by omega
      refine ⟨_, ⟨i + 1, v2, rfl, by omega, (A150.slot (A150.slot (A150.slot (A150.slot (A150.slot (A150.slot A150.nil (v := v2) (by kernel_rfl) rfl) (v := .int .i64 ((i : Int) + 1)) (by kernel_rfl) (congrArg (Value.int .i64) (by omega))) (v := .slice none 0 0) (by kernel_rfl) rfl) (v := .pointer (some ⟨g3, 0, none⟩)) (by kernel_rfl) rfl) (v := .int .i64 nz) (by kernel_rfl) rfl) (v := .agg #[.int .i64 (ne : Int), .slice A n cap]) (by kernel_rfl) rfl), (St.rerow 0 S22 rfl ⟨by rw [ej, preP_row], by rw [ej, preP_row]⟩).sub sub_all sub_all⟩, ?_⟩
      omega
  · have p151 := of_decide_eq_false h16
    refine wp_exit ?_
    refine x_then ?_
    refine x_then ?_
    refine x_hit ?_
    refine n_then ?_
    refine wp_seq ?_
    refine wp_region_lit ?_
    refine s_one (v) A15 S10 (g_move (by kernel_rfl)) rfl (fun ac A152 => ?_)
    refine s_one (v) A152 S10 (g_assign (by kernel_rfl)) rfl (fun ac A153 => ?_)
    refine wpList_nil ?_
    refine n_then ?_
    refine wp_ret ?_
    have ei : i = ne := by omega
    have SR : St w0 [⟨g3, 30, #[.int .i64 (ne : Int), .slice A n cap], true⟩] [⟨v, 26, 2, (((pairsOf ne).filter (unB (mi xs) ne nz)).length), (rowI (flP (((pairsOf ne)).filter (unB (mi xs) ne nz))))⟩] _ := St.rerow 0 S10 rfl ⟨by rw [ei]; rfl, by rw [ei]; rfl⟩
    obtain ⟨A154, cap155, rfl⟩ := row_slice (v := v) (m := ((pairsOf ne).filter (unB (mi xs) ne nz)).length) (SR.row 0 rfl)
    refine fin1 (.slice A154 (((pairsOf ne).filter (unB (mi xs) ne nz)).length) cap155) Try.results45 A153 SR (rv_tmp (by kernel_rfl)) ?_
    have bw := SR.kp
    have ow := SR.row 0 rfl
    exact ⟨_, rfl, bw, ow⟩

end Go.Proofs.Ytcijkniijomcjaa
