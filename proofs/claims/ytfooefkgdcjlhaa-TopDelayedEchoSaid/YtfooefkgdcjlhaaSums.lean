/- traceOf, Shifted, Added. -/
import Derived.Test.YtfooefkgdcjlhaaEnv
import Derived.Test.YtfooefkgdcjlhaaCopy
import Derived.Test.YtfooefkgdcjlhaaLag
namespace Go.Proofs.Ytfooefkgdcjlhaa
open Go.RowKit Go.Cpl

set_option maxRecDepth 100000 in
set_option maxHeartbeats 400000 in
theorem traceOf_s (l : List Int) (w0 : World) (hl : l.length = 64) :
    Calls Try.prog 67 #[.agg (ints l)] w0 fun e w' => e = .returned (.agg (trc (mkT l 64))) ∧ Below w0.heap.size w0 w' := by
  have S0 := St.start w0
  refine enter (n := 16) Try.func67 rfl rfl rfl (fun ac A0 => ?_)
  refine wp_seq ?_
  refine wp_region_lit ?_
  refine s_box (.agg (ints l)) A0 S0 (by kernel_rfl) rfl (fun g3 ac wc A1 S2 => ?_)
  replace S2 : St _ (⟨g3, 100, (ints l), true⟩ :: _) _ _ := S2
  refine s_alloc (trc (List.replicate 64 0)) A1 S2 zero26 rfl (fun g7 ac wc A5 S6 => ?_)
  refine wpList_nil ?_
  refine n_then ?_
  refine wp_seq ?_
  refine wp_seq ?_
  refine wp_region_lit ?_
  refine s_one (.agg (ints l)) A5 S6 (g_loadW (g := g3) 1 (by kernel_rfl) rfl ((ints_size _).trans hl) ⟨⟨_, Try.underlying100, rfl⟩, by kernel_rfl⟩) rfl (fun ac A8 => ?_)
  refine s_one (.int .i64 0) A8 S6 (g_move (by kernel_rfl)) rfl (fun ac A9 => ?_)
  refine wpList_nil ?_
  refine n_then ?_
  refine wp_block ?_
  refine c_loopN (fun mm ac wc => ∃ (k : Nat), mm = 64 - k ∧ (k ≤ 64) ∧ Fr 16 ac [(0, .agg (ints l)), (1, .pointer (some ⟨g3, 0, none⟩)), (2, .pointer (some ⟨g7, 0, none⟩)), (5, .agg (ints l)), (6, .int .i64 (k : Int))] ∧ St w0 [⟨g7, 26, (trc (done 0 (fun i => floatOfInt .f32 (nthI l i)) 64 k)), true⟩, ⟨g3, 100, (ints l), true⟩] [] wc) _ ⟨0, rfl, by omega, (A9.slot (A9.slot (A9.slot (A9.slot (A9.slot A9.nil (v := .int .i64 0) (by kernel_rfl) (congrArg (Value.int .i64) (by omega))) (v := .agg (ints l)) (by kernel_rfl) rfl) (v := .pointer (some ⟨g7, 0, none⟩)) (by kernel_rfl) rfl) (v := .pointer (some ⟨g3, 0, none⟩)) (by kernel_rfl) rfl) (v := .agg (ints l)) (by kernel_rfl) rfl), (St.recell 0 S6 rfl (congrArg trc (done_zero 0 (fun i => floatOfInt .f32 (nthI l i)) 64).symm)).sub sub_all sub_all⟩ ?_
  rintro mm ac wc ⟨k, hm12, hk, A10, S11⟩
  refine wp_seq ?_
  refine wp_region_lit ?_
  refine s_one (.bool (decide ((k : Int) < 64))) A10 S11 (g_bin (u := .int .i64 (k : Int)) (k := .int .i64 64) (by kernel_rfl) (by kernel_rfl) (fun _ => by kernel_rfl) (fun _ => by kernel_rfl)) rfl (fun ac A13 => ?_)
  refine wpList_nil ?_
  refine n_then ?_
  refine wp_seq ?_
  refine c_ifb (b := (decide ((k : Int) < 64))) A13 (by kernel_rfl) (fun h14 => ?_) (fun h14 => ?_)
  · have p15 := of_decide_eq_true h14
    refine wp_skip ?_
    refine n_then ?_
    refine wp_seq ?_
    refine wp_block ?_
    refine wp_seq ?_
    refine wp_region_lit ?_
    refine s_one (.int .i64 (k : Int)) A13 S11 (g_move (by kernel_rfl)) rfl (fun ac A16 => ?_)
    refine s_one (.int .i64 (nthI l k)) A16 S11 (g_indexv (u := .agg (ints l)) (k := .int .i64 (k : Int)) (by kernel_rfl) (by kernel_rfl) (index159 l hl k (by omega))) rfl (fun ac A17 => ?_)
    refine s_one (.int .i64 (k : Int)) A17 S11 (g_assign (by kernel_rfl)) rfl (fun ac A18 => ?_)
    refine s_one (.int .i64 (nthI l k)) A18 S11 (g_assign (by kernel_rfl)) rfl (fun ac A19 => ?_)
    refine wpList_nil ?_
    refine n_then ?_
    refine wp_region_lit ?_
    refine s_one (.int .i64 (k : Int)) A19 S11 (g_move (by kernel_rfl)) rfl (fun ac A20 => ?_)
    refine s_one (.int .i64 (nthI l k)) A20 S11 (g_move (by kernel_rfl)) rfl (fun ac A21 => ?_)
    refine s_one (.float .f32 (floatOfInt .f32 (nthI l k))) A21 S11 (g_conv (u := .int .i64 (nthI l k)) (by kernel_rfl) (fun _ => by kernel_rfl)) rfl (fun ac A22 => ?_)
    refine s_one (.pointer (some ⟨g7, k, none⟩)) A22 S11 (g_index (u := .pointer (some ⟨g7, 0, none⟩)) (k := .int .i64 (k : Int)) (by kernel_rfl) (by kernel_rfl) (ix_arr1 k (len := 64) (by kernel_rfl) (by omega) (by omega))) rfl (fun ac A23 => ?_)
    refine s_store (g := g7) (off := k) (v := .float .f32 (floatOfInt .f32 (nthI l k))) 0 (trc ((done 0 (fun i => floatOfInt .f32 (nthI l i)) 64 k).set k (floatOfInt .f32 (nthI l k)))) A23 S11 (by kernel_rfl) (by kernel_rfl) rfl ((pv_of (by kernel_rfl) rfl (by rw [trc_size, (done_length _ _ _ _)]; omega)).trans (congrArg some (trc_set (done 0 (fun i => floatOfInt .f32 (nthI l i)) 64 k) k (floatOfInt .f32 (nthI l k))))) (fun wc S25 => ?_)
    refine wpList_nil ?_
    refine n_block ?_
    refine n_then ?_
    refine wp_region_lit ?_
    refine s_one (.int .i64 ((k : Int) + 1)) A23 S25 (g_bin (u := .int .i64 (k : Int)) (k := .int .i64 1) (by kernel_rfl) (by kernel_rfl) (fun _ => by kernel_rfl) (b_add (by omega))) rfl (fun ac A27 => ?_)
    refine s_one (.int .i64 ((k : Int) + 1)) A27 S25 (g_move (by kernel_rfl)) rfl (fun ac A28 => ?_)
    refine wpList_nil ?_
    refine n_then ?_
    refine ⟨_, ⟨k + 1, rfl, by omega, (A28.slot (A28.slot (A28.slot (A28.slot (A28.slot A28.nil (v := .int .i64 ((k : Int) + 1)) (by kernel_rfl) (congrArg (Value.int .i64) (by omega))) (v := .agg (ints l)) (by kernel_rfl) rfl) (v := .pointer (some ⟨g7, 0, none⟩)) (by kernel_rfl) rfl) (v := .pointer (some ⟨g3, 0, none⟩)) (by kernel_rfl) rfl) (v := .agg (ints l)) (by kernel_rfl) rfl), (St.recell 0 S25 rfl (congrArg trc (done_set 0 (fun i => floatOfInt .f32 (nthI l i)) 64 k))).sub sub_all sub_all⟩, ?_⟩
    omega
  · have p29 := of_decide_eq_false h14
    refine wp_exit ?_
    refine x_then ?_
    refine x_then ?_
    refine x_hit ?_
    refine n_then ?_
    refine wp_seq ?_
    refine wp_region_lit ?_
    refine s_one (.agg (trc (done 0 (fun i => floatOfInt .f32 (nthI l i)) 64 k))) A13 S11 (g_loadW (g := g7) 0 (by kernel_rfl) rfl ((trc_size _).trans (done_length _ _ _ _)) ⟨⟨_, Try.underlying26, rfl⟩, by kernel_rfl⟩) rfl (fun ac A30 => ?_)
    refine s_store (g := g7) (off := 0) (v := .agg (trc (done 0 (fun i => floatOfInt .f32 (nthI l i)) 64 k))) 0 (trc (done 0 (fun i => floatOfInt .f32 (nthI l i)) 64 k)) A30 S11 (by kernel_rfl) (by kernel_rfl) rfl (putVal_whole ((trc_size _).trans (done_length _ _ _ _)) ((trc_size _).trans (done_length _ _ _ _)) ⟨⟨_, Try.underlying26, rfl⟩, by kernel_rfl⟩ (trc_one _)) (fun wc S32 => ?_)
    refine wpList_nil ?_
    refine n_then ?_
    refine wp_ret ?_
    refine fin1 (.agg (trc (done 0 (fun i => floatOfInt .f32 (nthI l i)) 64 k))) Try.results67 A30 S32 (rv_cell (g := g7) (off := 0) 0 (by kernel_rfl) rfl (rowVal_whole ((trc_size _).trans (done_length _ _ _ _)) ⟨⟨_, Try.underlying26, rfl⟩, by kernel_rfl⟩)) ⟨?_, S32.kp⟩
    obtain rfl : k = 64 := by omega
    rfl

def zT : List Nat := List.replicate 64 0
theorem zT_length : zT.length = 64 := List.length_replicate
def shRes (xs : List Nat) (b : Int) : List Nat × Int := if (firstErr xs 0).2 ≠ 0 then (zT, (firstErr xs 0).2) else if inB b (-64) 64 = true then (mkT (shL (nums xs) b) 64, 0) else (zT, 2)
theorem shRes_length (xs : List Nat) (b : Int) : (shRes xs b).1.length = 64 := by unfold shRes; split; exact zT_length; split; exact done_length _ _ _ _; exact zT_length

set_option maxRecDepth 100000 in
set_option maxHeartbeats 400000 in
theorem Shifted_s (xs : List Nat) (b : Int) (w0 : World) (hl : xs.length = 64) :
    Calls Try.prog 30 #[.agg (trc xs), .int .i64 b] w0 fun e w' => e = .returned (.tuple #[.agg (trc (shRes xs b).1), .int .i64 (shRes xs b).2]) ∧ Below w0.heap.size w0 w' := by
  have S0 := St.start w0
  refine enter (n := 32) Try.func30 rfl rfl rfl (fun ac A0 => ?_)
  refine wp_seq ?_
  refine wp_region_lit ?_
  refine s_box (.agg (trc xs)) A0 S0 (by kernel_rfl) rfl (fun g3 ac wc A1 S2 => ?_)
  replace S2 : St _ (⟨g3, 26, (trc xs), true⟩ :: _) _ _ := S2
  refine s_alloc (trc zT) A1 S2 zero26 rfl (fun g7 ac wc A5 S6 => ?_)
  refine s_one (.int .i64 0) A5 S6 (g_assign (by kernel_rfl)) rfl (fun ac A8 => ?_)
  refine wpList_nil ?_
  refine n_then ?_
  refine wp_seq ?_
  refine wp_seq ?_
  refine wp_region_lit ?_
  refine s_one (.agg (trc xs)) A8 S6 (g_loadW (g := g3) 1 (by kernel_rfl) rfl ((trc_size _).trans hl) ⟨⟨_, Try.underlying26, rfl⟩, by kernel_rfl⟩) rfl (fun ac A9 => ?_)
  refine s_call (fs := #[]) (cp := #[]) (r := [(0, .agg (trc xs))]) #[.agg (trc xs)] (.int .i64 ((firstErr xs 0).2)) A9 S6 (traceErr_any xs _ hl) Try.call54 (by kernel_rfl) (by kernel_rfl) (by kernel_rfl) rfl (fun ac wc A10 S11 => ?_)
  refine s_one (.int .i64 ((firstErr xs 0).2)) A10 S11 (g_assign (by kernel_rfl)) rfl (fun ac A13 => ?_)
  refine wpList_nil ?_
  refine n_then ?_
  refine wp_block ?_
  refine wp_seq ?_
  refine wp_region_lit ?_
  refine s_one (.int .i64 ((firstErr xs 0).2)) A13 S11 (g_move (by kernel_rfl)) rfl (fun ac A14 => ?_)
  refine s_one (.bool (decide ((firstErr xs 0).2 ≠ 0))) A14 S11 (g_bin (u := .int .i64 ((firstErr xs 0).2)) (k := .int .i64 0) (by kernel_rfl) (by kernel_rfl) (fun _ => by kernel_rfl) b_neq) rfl (fun ac A15 => ?_)
  refine s_one (.bool (decide ((firstErr xs 0).2 ≠ 0))) A15 S11 (g_assign (by kernel_rfl)) rfl (fun ac A16 => ?_)
  refine wpList_nil ?_
  refine n_then ?_
  refine c_ifb (b := (decide ((firstErr xs 0).2 ≠ 0))) A16 (by kernel_rfl) (fun h17 => ?_) (fun h17 => ?_)
  · have p18 := of_decide_eq_true h17
    refine wp_seq ?_
    refine wp_region_lit ?_
    refine s_one (.agg (trc zT)) A16 S11 (g_build (r := []) (by kernel_rfl) (fun _ => by kernel_rfl)) rfl (fun ac A19 => ?_)
    refine s_one (.int .i64 ((firstErr xs 0).2)) A19 S11 (g_move (by kernel_rfl)) rfl (fun ac A20 => ?_)
    refine s_store (g := g7) (off := 0) (v := .agg (trc zT)) 0 (trc zT) A20 S11 (by kernel_rfl) (by kernel_rfl) rfl (putVal_whole ((trc_size _).trans zT_length) ((trc_size _).trans zT_length) ⟨⟨_, Try.underlying26, rfl⟩, by kernel_rfl⟩ (trc_one _)) (fun wc S22 => ?_)
    refine s_one (.int .i64 ((firstErr xs 0).2)) A20 S22 (g_assign (by kernel_rfl)) rfl (fun ac A24 => ?_)
    refine wpList_nil ?_
    refine n_then ?_
    refine wp_ret ?_
    refine r_block ?_
    refine r_then ?_
    refine fin2 (.agg (trc zT)) (.int .i64 ((firstErr xs 0).2)) Try.results30 A24 S22 (rv_cell (g := g7) (off := 0) 0 (by kernel_rfl) rfl (rowVal_whole ((trc_size _).trans zT_length) ⟨⟨_, Try.underlying26, rfl⟩, by kernel_rfl⟩)) (rv_tmp (by kernel_rfl)) ⟨?_, S22.kp⟩
    unfold shRes
    rw [if_pos p18]
  · have p25 := of_decide_eq_false h17
    have e0 : (firstErr xs 0).2 = 0 := by simpa using h17
    refine wp_seq ?_
    refine wp_region_lit ?_
    refine s_one (.int .i64 b) A16 S11 (g_move (by kernel_rfl)) rfl (fun ac A26 => ?_)
    refine s_call (fs := #[]) (cp := #[]) (r := [(0, .int .i64 b), (0, .int .i64 64)]) #[.int .i64 b, .int .i64 64] (.bool (inB b (-64) 64)) A26 S11 (sameB (small_any b 64 _ (by omega) (by omega))) Try.call66 (by kernel_rfl) (by kernel_rfl) (by kernel_rfl) rfl (fun ac wc A27 S28 => ?_)
    refine s_one (.bool (!(inB b (-64) 64))) A27 S28 (g_un (u := .bool (inB b (-64) 64)) (by kernel_rfl) (fun _ => by kernel_rfl)) rfl (fun ac A30 => ?_)
    refine s_one (.bool (!(inB b (-64) 64))) A30 S28 (g_assign (by kernel_rfl)) rfl (fun ac A31 => ?_)
    refine wpList_nil ?_
    refine n_then ?_
    refine c_ifb (b := (!(inB b (-64) 64))) A31 (by kernel_rfl) (fun h32 => ?_) (fun h32 => ?_)
    · have h33 : inB b (-64) 64 = false := by simpa using h32
      refine wp_seq ?_
      refine wp_region_lit ?_
      refine s_one (.agg (trc zT)) A31 S28 (g_build (r := []) (by kernel_rfl) (fun _ => by kernel_rfl)) rfl (fun ac A34 => ?_)
      refine s_store (g := g7) (off := 0) (v := .agg (trc zT)) 0 (trc zT) A34 S28 (by kernel_rfl) (by kernel_rfl) rfl (putVal_whole ((trc_size _).trans zT_length) ((trc_size _).trans zT_length) ⟨⟨_, Try.underlying26, rfl⟩, by kernel_rfl⟩ (trc_one _)) (fun wc S36 => ?_)
      refine s_one (.int .i64 2) A34 S36 (g_assign (by kernel_rfl)) rfl (fun ac A38 => ?_)
      refine wpList_nil ?_
      refine n_then ?_
      refine wp_ret ?_
      refine r_block ?_
      refine r_then ?_
      refine fin2 (.agg (trc zT)) (.int .i64 2) Try.results30 A38 S36 (rv_cell (g := g7) (off := 0) 0 (by kernel_rfl) rfl (rowVal_whole ((trc_size _).trans zT_length) ⟨⟨_, Try.underlying26, rfl⟩, by kernel_rfl⟩)) (rv_tmp (by kernel_rfl)) ⟨?_, S36.kp⟩
      unfold shRes
      rw [if_neg p25]
      rw [if_neg (by rw [h33]; simp)]
    · have h39 : inB b (-64) 64 = true := by simpa using h32
      have hb := inB_true.1 h39
      have m1 := mx_eq b 0
      have m2 := mx_eq (-b) 0
      refine wp_skip ?_
      refine n_block ?_
      refine n_then ?_
      refine wp_seq ?_
      refine wp_region_lit ?_
      refine s_call (fs := #[]) (cp := #[]) (r := [(0, .pointer (some ⟨g3, 0, none⟩))]) #[.pointer (some ⟨g3, 0, none⟩)] (.agg (ints (nums xs))) A31 S28 (numbersOf_any g3 xs _ hl (S28.get 1 rfl) (right_of e0)) Try.call55 (by kernel_rfl) (by kernel_rfl) (by kernel_rfl) rfl (fun ac wc A40 S41 => ?_)
      refine s_alloc (ints (List.replicate 64 0)) A40 S41 zero159 rfl (fun g45 ac wc A43 S44 => ?_)
      refine s_store (g := g45) (off := 0) (v := .agg (ints (nums xs))) 0 (ints (nums xs)) A43 S44 (by kernel_rfl) (by kernel_rfl) rfl (putVal_whole ((ints_size _).trans List.length_replicate) ((ints_size _).trans (nums_length _)) ⟨⟨_, Try.underlying100, rfl⟩, by kernel_rfl⟩ (ints_one _)) (fun wc S47 => ?_)
      refine wpList_nil ?_
      refine n_then ?_
      refine wp_seq ?_
      refine wp_region_lit ?_
      refine s_alloc (ints (List.replicate 64 0)) A43 S47 zero159 rfl (fun g51 ac wc A49 S50 => ?_)
      refine wpList_nil ?_
      refine n_then ?_
      refine wp_seq ?_
      refine r_begin (w0 := w0) (by kernel_rfl) (S50.sub (sub_skip sub_all) sub_all) (fun wc T52 B53 => ?_)
      have S54 := S50.kept B53
      refine r_take 0 (.int .i64 b) A49 T52 (g_move (by kernel_rfl)) rfl rfl rfl (pf_then pf_body) (by kernel_rfl) (fun ac A55 => ?_)
      refine r_take 1 (.int .i64 (mx b 0)) A55 T52 (g_built (r := [(0, .int .i64 b), (0, .int .i64 0)]) (by kernel_rfl) (fun ty cs w => by show (do let x ← Builtin.max_ _ ty #[.int .i64 b, .int .i64 0]; pure (Next.value x) : Sem Next).run _ w = _; rw [Sem.run_bind, run_max_mx]; rfl)) rfl rfl rfl (pf_then pf_body) (by kernel_rfl) (fun ac A56 => ?_)
      refine r_take 2 (.slice (some ⟨g51, if 64 = (mx b 0).toNat then 0 else (mx b 0).toNat, none⟩) (64 - ((mx b 0).toNat)) (64 - ((mx b 0).toNat))) A56 T52 (g_slice (u := .pointer (some ⟨g51, 0, none⟩)) (lo' := (some (.int .i64 (mx b 0)))) (hi' := none) (mx' := none) (by kernel_rfl) (by kernel_rfl) (by kernel_rfl) (by kernel_rfl) (sl_from (len := 64) ((mx b 0).toNat) (by kernel_rfl) (by omega) (by omega))) rfl rfl rfl (pf_then pf_body) (by kernel_rfl) (fun ac A57 => ?_)
      refine r_take 3 (.int .i64 b) A57 T52 (g_move (by kernel_rfl)) rfl rfl rfl (pf_then pf_body) (by kernel_rfl) (fun ac A58 => ?_)
      refine r_take 4 (.int .i64 (-b)) A58 T52 (g_un (u := .int .i64 b) (by kernel_rfl) (u_neg (by omega))) rfl rfl rfl (pf_then pf_body) (by kernel_rfl) (fun ac A59 => ?_)
      refine r_take 5 (.int .i64 (mx (-b) 0)) A59 T52 (g_built (r := [(0, .int .i64 (-b)), (0, .int .i64 0)]) (by kernel_rfl) (fun ty cs w => by show (do let x ← Builtin.max_ _ ty #[.int .i64 (-b), .int .i64 0]; pure (Next.value x) : Sem Next).run _ w = _; rw [Sem.run_bind, run_max_mx]; rfl)) rfl rfl rfl (pf_then pf_body) (by kernel_rfl) (fun ac A60 => ?_)
      refine r_take 6 (.slice (some ⟨g45, if 64 = (mx (-b) 0).toNat then 0 else (mx (-b) 0).toNat, none⟩) (64 - ((mx (-b) 0).toNat)) (64 - ((mx (-b) 0).toNat))) A60 T52 (g_slice (u := .pointer (some ⟨g45, 0, none⟩)) (lo' := (some (.int .i64 (mx (-b) 0)))) (hi' := none) (mx' := none) (by kernel_rfl) (by kernel_rfl) (by kernel_rfl) (by kernel_rfl) (sl_from (len := 64) ((mx (-b) 0).toNat) (by kernel_rfl) (by omega) (by omega))) rfl rfl rfl (pf_then pf_body) (by kernel_rfl) (fun ac A61 => ?_)
      refine r_1 (i := 7) (by kernel_rfl) ?_
      refine rs_copy (e := 3) (bytes := 8) (g := g51) (o := (if 64 = (mx b 0).toNat then 0 else (mx b 0).toNat)) (dl := (64 - ((mx b 0).toNat))) (dc := (64 - ((mx b 0).toNat))) (g' := g45) (o' := (if 64 = (mx (-b) 0).toNat then 0 else (mx (-b) 0).toNat)) (sl := (64 - ((mx (-b) 0).toNat))) (sc := (64 - ((mx (-b) 0).toNat))) 0 1 (64 - max (mx b 0).toNat (mx (-b) 0).toNat) (ints (shL (nums xs) b)) A61 S54 (sub_skip sub_all) sub_all (by kernel_rfl) (by kernel_rfl) (by kernel_rfl) rfl rfl (by show min _ _ = _; omega) (by rw [ints_size, nums_length]; split <;> omega) (by rw [ints_size, List.length_replicate]; split <;> omega) (ints_one _) (copy_shift (nums xs) (nums_length _) b hb.1 hb.2 (mx b 0).toNat (mx (-b) 0).toNat (64 - max (mx b 0).toNat (mx (-b) 0).toNat) (by rw [mx_eq]) (by rw [mx_eq]) rfl _ _ rfl rfl) rfl rfl rfl (fun ac wc A62 S63 => ?_)
      have T65 := S63.sub (sub_skip sub_all) sub_all
      refine r_done (by kernel_rfl) ?_
      refine n_then ?_
      refine wp_seq ?_
      refine wp_region_lit ?_
      refine s_one (.agg (ints (shL (nums xs) b))) A62 S63 (g_loadW (g := g51) 0 (by kernel_rfl) rfl ((ints_size _).trans (shL_length _ _)) ⟨⟨_, Try.underlying100, rfl⟩, by kernel_rfl⟩) rfl (fun ac A66 => ?_)
      refine s_call (fs := #[]) (cp := #[]) (r := [(0, .agg (ints (shL (nums xs) b)))]) #[.agg (ints (shL (nums xs) b))] (.agg (trc (mkT (shL (nums xs) b) 64))) A66 S63 (traceOf_s (shL (nums xs) b) _ (shL_length _ _)) Try.call67 (by kernel_rfl) (by kernel_rfl) (by kernel_rfl) rfl (fun ac wc A67 S68 => ?_)
      refine s_store (g := g7) (off := 0) (v := .agg (trc (mkT (shL (nums xs) b) 64))) 2 (trc (mkT (shL (nums xs) b) 64)) A67 S68 (by kernel_rfl) (by kernel_rfl) rfl (putVal_whole ((trc_size _).trans zT_length) ((trc_size _).trans (done_length _ _ _ _)) ⟨⟨_, Try.underlying26, rfl⟩, by kernel_rfl⟩ (trc_one _)) (fun wc S71 => ?_)
      refine s_one (.int .i64 0) A67 S71 (g_assign (by kernel_rfl)) rfl (fun ac A73 => ?_)
      refine wpList_nil ?_
      refine n_then ?_
      refine wp_ret ?_
      refine fin2 (.agg (trc (mkT (shL (nums xs) b) 64))) (.int .i64 0) Try.results30 A73 S71 (rv_cell (g := g7) (off := 0) 2 (by kernel_rfl) rfl (rowVal_whole ((trc_size _).trans (done_length _ _ _ _)) ⟨⟨_, Try.underlying26, rfl⟩, by kernel_rfl⟩)) (rv_tmp (by kernel_rfl)) ⟨?_, S71.kp⟩
      unfold shRes
      rw [if_neg p25]
      rw [if_pos h39]

def size_s_r (n : Int) : Int := mx n (-n)

set_option maxRecDepth 100000 in
set_option maxHeartbeats 400000 in
theorem size_s (n : Int) (w0 : World) (h0 : -1000000 ≤ n) (h1 : n ≤ 1000000) :
    Calls Try.prog 85 #[.int .i64 n] w0 fun e w' => e = .returned (.int .i64 (size_s_r n)) ∧ Below w0.heap.size w0 w' := by
  have S0 := St.start w0
  refine enter (n := 7) Try.func85 rfl rfl rfl (fun ac A0 => ?_)
  refine wp_seq ?_
  refine wp_region_lit ?_
  refine s_one (.int .i64 0) A0 S0 (g_assign (by kernel_rfl)) rfl (fun ac A1 => ?_)
  refine wpList_nil ?_
  refine n_then ?_
  refine wp_seq ?_
  refine wp_region_lit ?_
  refine s_one (.int .i64 n) A1 S0 (g_move (by kernel_rfl)) rfl (fun ac A2 => ?_)
  refine s_one (.int .i64 n) A2 S0 (g_move (by kernel_rfl)) rfl (fun ac A3 => ?_)
  refine s_one (.int .i64 (-n)) A3 S0 (g_un (u := .int .i64 n) (by kernel_rfl) (u_neg (by omega))) rfl (fun ac A4 => ?_)
  refine s_one (.int .i64 (mx n (-n))) A4 S0 (g_built (r := [(0, .int .i64 n), (0, .int .i64 (-n))]) (by kernel_rfl) (fun ty cs w => by show (do let x ← Builtin.max_ _ ty #[.int .i64 n, .int .i64 (-n)]; pure (Next.value x) : Sem Next).run _ w = _; rw [Sem.run_bind, run_max_mx]; rfl)) rfl (fun ac A5 => ?_)
  refine s_one (.int .i64 (mx n (-n))) A5 S0 (g_assign (by kernel_rfl)) rfl (fun ac A6 => ?_)
  refine wpList_nil ?_
  refine n_then ?_
  refine wp_ret ?_
  refine fin1 (.int .i64 (mx n (-n))) Try.results85 A6 S0 (rv_tmp (by kernel_rfl)) ⟨?_, S0.kp⟩
  have e : size_s_r n = (mx n (-n)) := by unfold size_s_r; exact rfl
  rw [e]

def Size_s_r (n : Int) : Int := mx n (-n)

set_option maxRecDepth 100000 in
set_option maxHeartbeats 400000 in
theorem Size_s (n : Int) (w0 : World) (h0 : -1000000 ≤ n) (h1 : n ≤ 1000000) :
    Calls Try.prog 78 #[.int .i64 n] w0 fun e w' => e = .returned (.int .i64 (Size_s_r n)) ∧ Below w0.heap.size w0 w' := by
  have S0 := St.start w0
  refine enter (n := 7) Try.func78 rfl rfl rfl (fun ac A0 => ?_)
  refine wp_seq ?_
  refine wp_region_lit ?_
  refine s_one (.int .i64 0) A0 S0 (g_assign (by kernel_rfl)) rfl (fun ac A1 => ?_)
  refine wpList_nil ?_
  refine n_then ?_
  refine wp_seq ?_
  refine wp_region_lit ?_
  refine s_one (.int .i64 n) A1 S0 (g_move (by kernel_rfl)) rfl (fun ac A2 => ?_)
  refine s_one (.int .i64 n) A2 S0 (g_move (by kernel_rfl)) rfl (fun ac A3 => ?_)
  refine s_one (.int .i64 (-n)) A3 S0 (g_un (u := .int .i64 n) (by kernel_rfl) (u_neg (by omega))) rfl (fun ac A4 => ?_)
  refine s_one (.int .i64 (mx n (-n))) A4 S0 (g_built (r := [(0, .int .i64 n), (0, .int .i64 (-n))]) (by kernel_rfl) (fun ty cs w => by show (do let x ← Builtin.max_ _ ty #[.int .i64 n, .int .i64 (-n)]; pure (Next.value x) : Sem Next).run _ w = _; rw [Sem.run_bind, run_max_mx]; rfl)) rfl (fun ac A5 => ?_)
  refine s_one (.int .i64 (mx n (-n))) A5 S0 (g_assign (by kernel_rfl)) rfl (fun ac A6 => ?_)
  refine wpList_nil ?_
  refine n_then ?_
  refine wp_ret ?_
  refine fin1 (.int .i64 (mx n (-n))) Try.results78 A6 S0 (rv_tmp (by kernel_rfl)) ⟨?_, S0.kp⟩
  have e : Size_s_r n = (mx n (-n)) := by unfold Size_s_r; exact rfl
  rw [e]

/-- The greatest size of the first k. -/
def grt (l : List Int) : Nat → Int
  | 0 => 0
  | k + 1 => mx (grt l k) (size_s_r (nthI l k))
theorem size_eq (n : Int) : size_s_r n = max n (-n) := by unfold size_s_r; rw [mx_eq]
theorem Size_eq (n : Int) : Size_s_r n = max n (-n) := by unfold Size_s_r; rw [mx_eq]
theorem grt_le {l : List Int} {b : Int} (hb : 0 ≤ b) : ∀ {k : Nat}, (∀ i, i < k → -b ≤ nthI l i ∧ nthI l i ≤ b) → grt l k ≤ b
  | 0, _ => hb
  | k + 1, h => by
    have := grt_le hb (k := k) (fun i hi => h i (by omega))
    have := h k (by omega)
    simp only [grt]
    rw [mx_eq, size_eq]
    omega
theorem grt_ge {l : List Int} : ∀ {k i : Nat}, i < k → -grt l k ≤ nthI l i ∧ nthI l i ≤ grt l k
  | 0, i, h => by omega
  | k + 1, i, h => by
    simp only [grt]
    rw [mx_eq, size_eq]
    by_cases e : i = k
    · subst e; omega
    · have := grt_ge (l := l) (k := k) (i := i) (by omega)
      omega

set_option maxRecDepth 100000 in
set_option maxHeartbeats 400000 in
theorem greatest_s (l : List Int) (g0 : Nat) (w0 : World) (hb0 : Blk w0 g0 100 (ints l)) (hl : l.length = 64) (HB : ∀ k, -1000000 ≤ nthI l k ∧ nthI l k ≤ 1000000) :
    Calls Try.prog 77 #[.pointer (some ⟨g0, 0, none⟩)] w0 fun e w' => e = .returned (.int .i64 (grt l 64)) ∧ Below w0.heap.size w0 w' := by
  have S0 := St.start w0
  have S0 := S0.came hb0 (by simp)
  refine enter (n := 18) Try.func77 rfl rfl rfl (fun ac A0 => ?_)
  refine wp_seq ?_
  refine wp_region_lit ?_
  refine s_one (.int .i64 0) A0 S0 (g_assign (by kernel_rfl)) rfl (fun ac A1 => ?_)
  refine wpList_nil ?_
  refine n_then ?_
  refine wp_seq ?_
  refine wp_region_lit ?_
  refine s_one (.int .i64 0) A1 S0 (g_assign (by kernel_rfl)) rfl (fun ac A2 => ?_)
  refine wpList_nil ?_
  refine n_then ?_
  refine wp_seq ?_
  refine wp_seq ?_
  refine wp_region_lit ?_
  refine s_one (.pointer (some ⟨g0, 0, none⟩)) A2 S0 (g_move (by kernel_rfl)) rfl (fun ac A3 => ?_)
  refine s_one (.int .i64 0) A3 S0 (g_move (by kernel_rfl)) rfl (fun ac A4 => ?_)
  refine wpList_nil ?_
  refine n_then ?_
  refine wp_block ?_
  refine c_loopN (fun mm ac wc => ∃ (k : Nat), mm = 64 - k ∧ (k ≤ 64) ∧ Fr 18 ac [(0, .pointer (some ⟨g0, 0, none⟩)), (2, .int .i64 0), (6, .pointer (some ⟨g0, 0, none⟩)), (7, .int .i64 (k : Int)), (3, .int .i64 (grt l k))] ∧ St w0 [⟨g0, 100, (ints l), false⟩] [] wc) _ ⟨0, rfl, by omega, (A4.slot (A4.slot (A4.slot (A4.slot (A4.slot A4.nil (v := .int .i64 0) (by kernel_rfl) rfl) (v := .int .i64 0) (by kernel_rfl) (congrArg (Value.int .i64) (by omega))) (v := .pointer (some ⟨g0, 0, none⟩)) (by kernel_rfl) rfl) (v := .int .i64 0) (by kernel_rfl) rfl) (v := .pointer (some ⟨g0, 0, none⟩)) (by kernel_rfl) rfl), S0.sub sub_all sub_all⟩ ?_
  rintro mm ac wc ⟨k, hm7, hk, A5, S6⟩
  have hb := HB k
  refine wp_seq ?_
  refine wp_region_lit ?_
  refine s_one (.bool (decide ((k : Int) < 64))) A5 S6 (g_bin (u := .int .i64 (k : Int)) (k := .int .i64 64) (by kernel_rfl) (by kernel_rfl) (fun _ => by kernel_rfl) (fun _ => by kernel_rfl)) rfl (fun ac A8 => ?_)
  refine wpList_nil ?_
  refine n_then ?_
  refine wp_seq ?_
  refine c_ifb (b := (decide ((k : Int) < 64))) A8 (by kernel_rfl) (fun h9 => ?_) (fun h9 => ?_)
  · have p10 := of_decide_eq_true h9
    refine wp_skip ?_
    refine n_then ?_
    refine wp_seq ?_
    refine wp_block ?_
    refine wp_seq ?_
    refine wp_region_lit ?_
    refine s_one (.pointer (some ⟨g0, 0, none⟩)) A8 S6 (g_nil (by kernel_rfl)) rfl (fun ac A11 => ?_)
    refine s_one (.pointer (some ⟨g0, k, none⟩)) A11 S6 (g_index (u := .pointer (some ⟨g0, 0, none⟩)) (k := .int .i64 (k : Int)) (by kernel_rfl) (by kernel_rfl) (ix_arr1 k (len := 64) (by kernel_rfl) (by omega) (by omega))) rfl (fun ac A12 => ?_)
    refine s_one (.int .i64 (nthI l k)) A12 S6 (g_load (g := g0) (off := k) 0 (by kernel_rfl) rfl (rv_of (by kernel_rfl) (ints_get (by rw [hl]; omega)))) rfl (fun ac A13 => ?_)
    refine s_one (.int .i64 (nthI l k)) A13 S6 (g_assign (by kernel_rfl)) rfl (fun ac A14 => ?_)
    refine wpList_nil ?_
    refine n_then ?_
    refine wp_region_lit ?_
    refine s_one (.int .i64 (grt l k)) A14 S6 (g_move (by kernel_rfl)) rfl (fun ac A15 => ?_)
    refine s_one (.int .i64 (nthI l k)) A15 S6 (g_move (by kernel_rfl)) rfl (fun ac A16 => ?_)
    refine s_call (fs := #[]) (cp := #[]) (r := [(0, .int .i64 (nthI l k))]) #[.int .i64 (nthI l k)] (.int .i64 (size_s_r (nthI l k))) A16 S6 (size_s (nthI l k) _ (by omega) (by omega)) Try.call85 (by kernel_rfl) (by kernel_rfl) (by kernel_rfl) rfl (fun ac wc A17 S18 => ?_)
    refine s_one (.int .i64 (mx (grt l k) (size_s_r (nthI l k)))) A17 S18 (g_built (r := [(0, .int .i64 (grt l k)), (0, .int .i64 (size_s_r (nthI l k)))]) (by kernel_rfl) (fun ty cs w => by show (do let x ← Builtin.max_ _ ty #[.int .i64 (grt l k), .int .i64 (size_s_r (nthI l k))]; pure (Next.value x) : Sem Next).run _ w = _; rw [Sem.run_bind, run_max_mx]; rfl)) rfl (fun ac A20 => ?_)
    refine s_one (.int .i64 (mx (grt l k) (size_s_r (nthI l k)))) A20 S18 (g_assign (by kernel_rfl)) rfl (fun ac A21 => ?_)
    refine wpList_nil ?_
    refine n_block ?_
    refine n_then ?_
    refine wp_region_lit ?_
    refine s_one (.int .i64 ((k : Int) + 1)) A21 S18 (g_bin (u := .int .i64 (k : Int)) (k := .int .i64 1) (by kernel_rfl) (by kernel_rfl) (fun _ => by kernel_rfl) (b_add (by omega))) rfl (fun ac A22 => ?_)
    refine s_one (.int .i64 ((k : Int) + 1)) A22 S18 (g_move (by kernel_rfl)) rfl (fun ac A23 => ?_)
    refine wpList_nil ?_
    refine n_then ?_
    refine ⟨_, ⟨k + 1, rfl, by omega, (A23.slot (A23.slot (A23.slot (A23.slot (A23.slot A23.nil (v := .int .i64 (mx (grt l k) (size_s_r (nthI l k)))) (by kernel_rfl) rfl) (v := .int .i64 ((k : Int) + 1)) (by kernel_rfl) (congrArg (Value.int .i64) (by omega))) (v := .pointer (some ⟨g0, 0, none⟩)) (by kernel_rfl) rfl) (v := .int .i64 0) (by kernel_rfl) rfl) (v := .pointer (some ⟨g0, 0, none⟩)) (by kernel_rfl) rfl), S18.sub sub_all sub_all⟩, ?_⟩
    omega
  · have p24 := of_decide_eq_false h9
    refine wp_exit ?_
    refine x_then ?_
    refine x_then ?_
    refine x_hit ?_
    refine n_then ?_
    refine wp_seq ?_
    refine wp_region_lit ?_
    refine s_one (.int .i64 (grt l k)) A8 S6 (g_move (by kernel_rfl)) rfl (fun ac A25 => ?_)
    refine s_one (.int .i64 (grt l k)) A25 S6 (g_assign (by kernel_rfl)) rfl (fun ac A26 => ?_)
    refine wpList_nil ?_
    refine n_then ?_
    refine wp_ret ?_
    refine fin1 (.int .i64 (grt l k)) Try.results77 A26 S6 (rv_tmp (by kernel_rfl)) ⟨?_, S6.kp⟩
    obtain rfl : k = 64 := by omega
    rfl

/-- The first k as one function says, the others as another one. -/
def mixL (f h : Nat → Int) (n k : Nat) : List Int := (List.range n).map fun i => if i < k then f i else h i
theorem mixL_length (f h : Nat → Int) (n k : Nat) : (mixL f h n k).length = n := by simp [mixL]
theorem mixL_set (f h : Nat → Int) (n k : Nat) : (mixL f h n k).set k (f k) = mixL f h n (k + 1) := by
  apply List.ext_getElem
  · simp [mixL]
  · intro i h1 h2
    simp only [mixL, List.length_map, List.length_range] at h2
    simp only [mixL, List.getElem_set, List.getElem_map, List.getElem_range]
    by_cases e : k = i
    · subst e; simp
    · rw [if_neg e]
      by_cases h3 : i < k
      · rw [if_pos h3, if_pos (by omega)]
      · rw [if_neg h3, if_neg (by omega)]
theorem mixL_zero {x : List Int} {n : Nat} (hx : x.length = n) (f : Nat → Int) : x = mixL f (nthI x) n 0 := by
  apply List.ext_getElem
  · simp [mixL, hx]
  · intro i h1 h2
    simp [mixL, nthI_eq h1]
theorem mixL_all (f h : Nat → Int) (n : Nat) : mixL f h n n = (List.range n).map f := by
  unfold mixL
  apply List.map_congr_left
  intro i hi
  rw [if_pos (by simpa using hi)]
theorem mixL_at {f h : Nat → Int} {n k i : Nat} (hi : i < n) : nthI (mixL f h n k) i = if i < k then f i else h i := by
  rw [nthI_eq (by rw [mixL_length]; exact hi)]; simp [mixL]
def adF (x y : List Int) (i : Nat) : Int := nthI x i + nthI y i
def adL (x y : List Int) : List Int := (List.range 64).map (adF x y)
theorem adL_length (x y : List Int) : (adL x y).length = 64 := by simp [adL]
theorem adL_at {x y : List Int} {i : Nat} (hi : i < 64) : nthI (adL x y) i = nthI x i + nthI y i := by
  rw [nthI_eq (by rw [adL_length]; exact hi)]; simp [adL, adF]
theorem adL_bd {x y : List Int} (hx : Small x) (hy : Small y) (k : Nat) : -1000000 ≤ nthI (adL x y) k ∧ nthI (adL x y) k ≤ 1000000 := by
  by_cases hk : k < 64
  · rw [adL_at hk]; have := hx k; have := hy k; omega
  · have : nthI (adL x y) k = 0 := by simp [nthI, List.getElem?_eq_none (show (adL x y).length ≤ k by rw [adL_length]; omega)]
    omega
def adRight (x y : List Int) : List Nat × Int := if grt (adL x y) 64 > 2047 then (zT, 8) else (mkT (adL x y) 64, 0)
theorem adRight_length (x y : List Int) : (adRight x y).1.length = 64 := by unfold adRight; split; exact zT_length; exact done_length _ _ _ _
def adRes (xs ys : List Nat) : List Nat × Int := if firstOf [(firstErr xs 0).2, (firstErr ys 0).2] ≠ 0 then (zT, firstOf [(firstErr xs 0).2, (firstErr ys 0).2]) else adRight (nums xs) (nums ys)
theorem adRes_length (xs ys : List Nat) : (adRes xs ys).1.length = 64 := by unfold adRes; split; exact zT_length; exact adRight_length _ _

set_option maxRecDepth 100000 in
set_option maxHeartbeats 400000 in
theorem Added_s (xs ys : List Nat) (w0 : World) (hl : xs.length = 64) (hl2 : ys.length = 64) :
    Calls Try.prog 45 #[.agg (trc xs), .agg (trc ys)] w0 fun e w' => e = .returned (.tuple #[.agg (trc (adRes xs ys).1), .int .i64 (adRes xs ys).2]) ∧ Below w0.heap.size w0 w' := by
  have S0 := St.start w0
  refine enter (n := 40) Try.func45 rfl rfl rfl (fun ac A0 => ?_)
  refine wp_seq ?_
  refine wp_region_lit ?_
  refine s_box (.agg (trc xs)) A0 S0 (by kernel_rfl) rfl (fun g3 ac wc A1 S2 => ?_)
  replace S2 : St _ (⟨g3, 26, (trc xs), true⟩ :: _) _ _ := S2
  refine s_box (.agg (trc ys)) A1 S2 (by kernel_rfl) rfl (fun g7 ac wc A5 S6 => ?_)
  replace S6 : St _ (⟨g7, 26, (trc ys), true⟩ :: _) _ _ := S6
  refine s_alloc (trc zT) A5 S6 zero26 rfl (fun g11 ac wc A9 S10 => ?_)
  refine s_one (.int .i64 0) A9 S10 (g_assign (by kernel_rfl)) rfl (fun ac A12 => ?_)
  refine wpList_nil ?_
  refine n_then ?_
  refine wp_seq ?_
  refine wp_seq ?_
  refine r_begin (w0 := w0) (by kernel_rfl) (S10.sub sub_all sub_all) (fun wc T13 B14 => ?_)
  have S15 := S10.kept B14
  refine r_take 0 (.agg (trc xs)) A12 T13 (g_loadW (g := g3) 2 (by kernel_rfl) rfl ((trc_size _).trans hl) ⟨⟨_, Try.underlying26, rfl⟩, by kernel_rfl⟩) rfl rfl rfl (pf_then (pf_then pf_body)) (by kernel_rfl) (fun ac A16 => ?_)
  refine r_take 2 (.agg (trc ys)) A16 T13 (g_loadW (g := g7) 1 (by kernel_rfl) rfl ((trc_size _).trans hl2) ⟨⟨_, Try.underlying26, rfl⟩, by kernel_rfl⟩) rfl rfl rfl (pf_then (pf_then pf_body)) (by kernel_rfl) (fun ac A17 => ?_)
  refine r_1 (i := 1) (by kernel_rfl) ?_
  refine rs_call (fs := #[]) (cp := #[]) (r := [(0, .agg (trc xs))]) #[.agg (trc xs)] (.int .i64 ((firstErr xs 0).2)) A17 S15 sub_all sub_all (traceErr_any xs _ hl) Try.call54 rfl rfl (by kernel_rfl) (by kernel_rfl) (by kernel_rfl) rfl (fun ac wc A18 S19 => ?_)
  have T21 := S19.sub sub_all sub_all
  refine r_1 (i := 3) (by kernel_rfl) ?_
  refine rs_call (fs := #[]) (cp := #[]) (r := [(0, .agg (trc ys))]) #[.agg (trc ys)] (.int .i64 ((firstErr ys 0).2)) A18 S19 sub_all sub_all (traceErr_any ys _ hl2) Try.call54 rfl rfl (by kernel_rfl) (by kernel_rfl) (by kernel_rfl) rfl (fun ac wc A22 S23 => ?_)
  have T25 := S23.sub sub_all sub_all
  refine r_1 (i := 4) (by kernel_rfl) ?_
  refine rs_bs (e := 27) (r := [(0, .int .i64 ((firstErr xs 0).2)), (1, .int .i64 ((firstErr ys 0).2))]) (#[.int .i64 ((firstErr xs 0).2), .int .i64 ((firstErr ys 0).2)]) A22 S23 sub_all sub_all (by kernel_rfl) (by kernel_rfl) rfl rfl rfl (fun g28 ac wc A26 S27 => ?_)
  have T29 := S27.sub (sub_skip sub_all) sub_all
  refine r_1 (i := 5) (by kernel_rfl) ?_
  refine rs_call (fs := #[]) (cp := #[]) (r := [(0, .slice (some ⟨g28, 0, none⟩) 2 2)]) #[.slice (some ⟨g28, 0, none⟩) 2 2] (.int .i64 (firstOf [(firstErr xs 0).2, (firstErr ys 0).2])) A26 S27 (sub_skip sub_all) sub_all (sameB (first_any g28 27 2 [(firstErr xs 0).2, (firstErr ys 0).2] 2 _ (S27.get 0 rfl) rfl (by omega))) Try.call60 rfl rfl (by kernel_rfl) (by kernel_rfl) (by kernel_rfl) rfl (fun ac wc A30 S31 => ?_)
  have T33 := S31.sub (sub_skip sub_all) sub_all
  refine r_take 6 (.int .i64 (firstOf [(firstErr xs 0).2, (firstErr ys 0).2])) A30 T33 (g_assign (by kernel_rfl)) rfl rfl rfl (pf_then (pf_then pf_body)) (by kernel_rfl) (fun ac A34 => ?_)
  refine r_done (by kernel_rfl) ?_
  refine n_then ?_
  refine wp_seq ?_
  refine wp_region_lit ?_
  refine s_one (.int .i64 (firstOf [(firstErr xs 0).2, (firstErr ys 0).2])) A34 S31 (g_move (by kernel_rfl)) rfl (fun ac A35 => ?_)
  refine s_one (.bool (decide (firstOf [(firstErr xs 0).2, (firstErr ys 0).2] ≠ 0))) A35 S31 (g_bin (u := .int .i64 (firstOf [(firstErr xs 0).2, (firstErr ys 0).2])) (k := .int .i64 0) (by kernel_rfl) (by kernel_rfl) (fun _ => by kernel_rfl) b_neq) rfl (fun ac A36 => ?_)
  refine wpList_nil ?_
  refine n_then ?_
  refine c_ifb (b := (decide (firstOf [(firstErr xs 0).2, (firstErr ys 0).2] ≠ 0))) A36 (by kernel_rfl) (fun h37 => ?_) (fun h37 => ?_)
  · have p38 := of_decide_eq_true h37
    refine wp_seq ?_
    refine wp_region_lit ?_
    refine s_one (.agg (trc zT)) A36 S31 (g_build (r := []) (by kernel_rfl) (fun _ => by kernel_rfl)) rfl (fun ac A39 => ?_)
    refine s_one (.int .i64 (firstOf [(firstErr xs 0).2, (firstErr ys 0).2])) A39 S31 (g_move (by kernel_rfl)) rfl (fun ac A40 => ?_)
    refine s_store (g := g11) (off := 0) (v := .agg (trc zT)) 1 (trc zT) A40 S31 (by kernel_rfl) (by kernel_rfl) rfl (putVal_whole ((trc_size _).trans zT_length) ((trc_size _).trans zT_length) ⟨⟨_, Try.underlying26, rfl⟩, by kernel_rfl⟩ (trc_one _)) (fun wc S42 => ?_)
    refine s_one (.int .i64 (firstOf [(firstErr xs 0).2, (firstErr ys 0).2])) A40 S42 (g_assign (by kernel_rfl)) rfl (fun ac A44 => ?_)
    refine wpList_nil ?_
    refine n_then ?_
    refine wp_ret ?_
    refine r_then ?_
    refine fin2 (.agg (trc zT)) (.int .i64 (firstOf [(firstErr xs 0).2, (firstErr ys 0).2])) Try.results45 A44 S42 (rv_cell (g := g11) (off := 0) 1 (by kernel_rfl) rfl (rowVal_whole ((trc_size _).trans zT_length) ⟨⟨_, Try.underlying26, rfl⟩, by kernel_rfl⟩)) (rv_tmp (by kernel_rfl)) ⟨?_, S42.kp⟩
    unfold adRes
    rw [if_pos p38]
  · have p45 := of_decide_eq_false h37
    have hz : firstOf [(firstErr xs 0).2, (firstErr ys 0).2] = 0 := by simpa using h37
    obtain ⟨z1, z2⟩ := firstOf_two hz
    have sx : Small (nums xs) := nums_range hl (right_of z1)
    have sy : Small (nums ys) := nums_range hl2 (right_of z2)
    refine wp_skip ?_
    refine n_then ?_
    refine wp_seq ?_
    refine wp_region_lit ?_
    refine s_call (fs := #[]) (cp := #[]) (r := [(0, .pointer (some ⟨g3, 0, none⟩))]) #[.pointer (some ⟨g3, 0, none⟩)] (.agg (ints (nums xs))) A36 S31 (numbersOf_any g3 xs _ hl (S31.get 3 rfl) (right_of z1)) Try.call55 (by kernel_rfl) (by kernel_rfl) (by kernel_rfl) rfl (fun ac wc A46 S47 => ?_)
    refine s_call (fs := #[]) (cp := #[]) (r := [(0, .pointer (some ⟨g7, 0, none⟩))]) #[.pointer (some ⟨g7, 0, none⟩)] (.agg (ints (nums ys))) A46 S47 (numbersOf_any g7 ys _ hl2 (S47.get 2 rfl) (right_of z2)) Try.call55 (by kernel_rfl) (by kernel_rfl) (by kernel_rfl) rfl (fun ac wc A49 S50 => ?_)
    refine s_alloc (ints (List.replicate 64 0)) A49 S50 zero159 rfl (fun g54 ac wc A52 S53 => ?_)
    refine s_alloc (ints (List.replicate 64 0)) A52 S53 zero159 rfl (fun g57 ac wc A55 S56 => ?_)
    refine s_store (g := g54) (off := 0) (v := .agg (ints (nums xs))) 1 (ints (nums xs)) A55 S56 (by kernel_rfl) (by kernel_rfl) rfl (putVal_whole ((ints_size _).trans List.length_replicate) ((ints_size _).trans (nums_length _)) ⟨⟨_, Try.underlying100, rfl⟩, by kernel_rfl⟩ (ints_one _)) (fun wc S59 => ?_)
    refine s_store (g := g57) (off := 0) (v := .agg (ints (nums ys))) 0 (ints (nums ys)) A55 S59 (by kernel_rfl) (by kernel_rfl) rfl (putVal_whole ((ints_size _).trans List.length_replicate) ((ints_size _).trans (nums_length _)) ⟨⟨_, Try.underlying100, rfl⟩, by kernel_rfl⟩ (ints_one _)) (fun wc S62 => ?_)
    refine wpList_nil ?_
    refine n_then ?_
    refine wp_seq ?_
    refine wp_seq ?_
    refine wp_region_lit ?_
    refine s_one (.agg (ints (nums ys))) A55 S62 (g_loadW (g := g57) 0 (by kernel_rfl) rfl ((ints_size _).trans (nums_length _)) ⟨⟨_, Try.underlying100, rfl⟩, by kernel_rfl⟩) rfl (fun ac A64 => ?_)
    refine s_one (.int .i64 0) A64 S62 (g_move (by kernel_rfl)) rfl (fun ac A65 => ?_)
    refine wpList_nil ?_
    refine n_then ?_
    refine wp_block ?_
    refine c_loopN (fun mm ac wc => ∃ (k : Nat), mm = 64 - k ∧ (k ≤ 64) ∧ Fr 40 ac [(0, .agg (trc xs)), (1, .agg (trc ys)), (2, .pointer (some ⟨g3, 0, none⟩)), (3, .pointer (some ⟨g7, 0, none⟩)), (4, .pointer (some ⟨g11, 0, none⟩)), (5, .int .i64 0), (11, .agg (trc xs)), (13, .agg (trc ys)), (12, .int .i64 ((firstErr xs 0).2)), (14, .int .i64 ((firstErr ys 0).2)), (15, .slice (some ⟨g28, 0, none⟩) 2 2), (16, .int .i64 (firstOf [(firstErr xs 0).2, (firstErr ys 0).2])), (6, .int .i64 (firstOf [(firstErr xs 0).2, (firstErr ys 0).2])), (17, .int .i64 (firstOf [(firstErr xs 0).2, (firstErr ys 0).2])), (18, .bool (decide (firstOf [(firstErr xs 0).2, (firstErr ys 0).2] ≠ 0))), (21, .agg (ints (nums xs))), (22, .agg (ints (nums ys))), (7, .pointer (some ⟨g54, 0, none⟩)), (8, .pointer (some ⟨g57, 0, none⟩)), (23, .agg (ints (nums ys))), (24, .int .i64 (k : Int))] ∧ St w0 [⟨g57, 100, (ints (nums ys)), true⟩, ⟨g54, 100, (ints (mixL (adF (nums xs) (nums ys)) (nthI (nums xs)) 64 k)), true⟩, ⟨g28, 27, #[.int .i64 ((firstErr xs 0).2), .int .i64 ((firstErr ys 0).2)], true⟩, ⟨g11, 26, (trc zT), true⟩, ⟨g7, 26, (trc ys), true⟩, ⟨g3, 26, (trc xs), true⟩] [] wc) _ ⟨0, rfl, by omega, (A65.slot (A65.slot (A65.slot (A65.slot (A65.slot (A65.slot (A65.slot (A65.slot (A65.slot (A65.slot (A65.slot (A65.slot (A65.slot (A65.slot (A65.slot (A65.slot (A65.slot (A65.slot (A65.slot (A65.slot (A65.slot A65.nil (v := .int .i64 0) (by kernel_rfl) (congrArg (Value.int .i64) (by omega))) (v := .agg (ints (nums ys))) (by kernel_rfl) rfl) (v := .pointer (some ⟨g57, 0, none⟩)) (by kernel_rfl) rfl) (v := .pointer (some ⟨g54, 0, none⟩)) (by kernel_rfl) rfl) (v := .agg (ints (nums ys))) (by kernel_rfl) rfl) (v := .agg (ints (nums xs))) (by kernel_rfl) rfl) (v := .bool (decide (firstOf [(firstErr xs 0).2, (firstErr ys 0).2] ≠ 0))) (by kernel_rfl) rfl) (v := .int .i64 (firstOf [(firstErr xs 0).2, (firstErr ys 0).2])) (by kernel_rfl) rfl) (v := .int .i64 (firstOf [(firstErr xs 0).2, (firstErr ys 0).2])) (by kernel_rfl) rfl) (v := .int .i64 (firstOf [(firstErr xs 0).2, (firstErr ys 0).2])) (by kernel_rfl) rfl) (v := .slice (some ⟨g28, 0, none⟩) 2 2) (by kernel_rfl) rfl) (v := .int .i64 ((firstErr ys 0).2)) (by kernel_rfl) rfl) (v := .int .i64 ((firstErr xs 0).2)) (by kernel_rfl) rfl) (v := .agg (trc ys)) (by kernel_rfl) rfl) (v := .agg (trc xs)) (by kernel_rfl) rfl) (v := .int .i64 0) (by kernel_rfl) rfl) (v := .pointer (some ⟨g11, 0, none⟩)) (by kernel_rfl) rfl) (v := .pointer (some ⟨g7, 0, none⟩)) (by kernel_rfl) rfl) (v := .pointer (some ⟨g3, 0, none⟩)) (by kernel_rfl) rfl) (v := .agg (trc ys)) (by kernel_rfl) rfl) (v := .agg (trc xs)) (by kernel_rfl) rfl), (St.recell 1 S62 rfl (congrArg ints (mixL_zero (nums_length _) _))).sub sub_all sub_all⟩ ?_
    rintro mm ac wc ⟨k, hm68, hk, A66, S67⟩
    have b1 := sx k
    have b2 := sy k
    have b3 : k < 64 → nthI (mixL (adF (nums xs) (nums ys)) (nthI (nums xs)) 64 k) k = nthI (nums xs) k := fun h => by rw [mixL_at h, if_neg (Nat.lt_irrefl _)]
    refine wp_seq ?_
    refine wp_region_lit ?_
    refine s_one (.bool (decide ((k : Int) < 64))) A66 S67 (g_bin (u := .int .i64 (k : Int)) (k := .int .i64 64) (by kernel_rfl) (by kernel_rfl) (fun _ => by kernel_rfl) (fun _ => by kernel_rfl)) rfl (fun ac A69 => ?_)
    refine wpList_nil ?_
    refine n_then ?_
    refine wp_seq ?_
    refine c_ifb (b := (decide ((k : Int) < 64))) A69 (by kernel_rfl) (fun h70 => ?_) (fun h70 => ?_)
    · have p71 := of_decide_eq_true h70
      refine wp_skip ?_
      refine n_then ?_
      refine wp_seq ?_
      refine wp_block ?_
      refine wp_seq ?_
      refine wp_region_lit ?_
      refine s_one (.int .i64 (k : Int)) A69 S67 (g_move (by kernel_rfl)) rfl (fun ac A72 => ?_)
      refine s_one (.int .i64 (nthI (nums ys) k)) A72 S67 (g_indexv (u := .agg (ints (nums ys))) (k := .int .i64 (k : Int)) (by kernel_rfl) (by kernel_rfl) (index159 (nums ys) (nums_length _) k (by omega))) rfl (fun ac A73 => ?_)
      refine s_one (.int .i64 (k : Int)) A73 S67 (g_assign (by kernel_rfl)) rfl (fun ac A74 => ?_)
      refine s_one (.int .i64 (nthI (nums ys) k)) A74 S67 (g_assign (by kernel_rfl)) rfl (fun ac A75 => ?_)
      refine wpList_nil ?_
      refine n_then ?_
      refine wp_region_lit ?_
      refine s_one (.int .i64 (k : Int)) A75 S67 (g_move (by kernel_rfl)) rfl (fun ac A76 => ?_)
      refine s_one (.pointer (some ⟨g54, k, none⟩)) A76 S67 (g_index (u := .pointer (some ⟨g54, 0, none⟩)) (k := .int .i64 (k : Int)) (by kernel_rfl) (by kernel_rfl) (ix_arr1 k (len := 64) (by kernel_rfl) (by omega) (by omega))) rfl (fun ac A77 => ?_)
      refine s_one (.int .i64 (nthI (mixL (adF (nums xs) (nums ys)) (nthI (nums xs)) 64 k) k)) A77 S67 (g_load (g := g54) (off := k) 1 (by kernel_rfl) rfl (rv_of (by kernel_rfl) (ints_get (by rw [(mixL_length _ _ _ _)]; omega)))) rfl (fun ac A78 => ?_)
      refine s_one (.int .i64 (nthI (nums ys) k)) A78 S67 (g_move (by kernel_rfl)) rfl (fun ac A79 => ?_)
      refine s_one (.int .i64 (nthI (mixL (adF (nums xs) (nums ys)) (nthI (nums xs)) 64 k) k + (nthI (nums ys) k))) A79 S67 (g_bin (u := .int .i64 (nthI (mixL (adF (nums xs) (nums ys)) (nthI (nums xs)) 64 k) k)) (k := .int .i64 (nthI (nums ys) k)) (by kernel_rfl) (by kernel_rfl) (fun _ => by kernel_rfl) (b_add (by rw [b3 (by omega)]; omega))) rfl (fun ac A80 => ?_)
      refine s_one (.pointer (some ⟨g54, k, none⟩)) A80 S67 (g_index (u := .pointer (some ⟨g54, 0, none⟩)) (k := .int .i64 (k : Int)) (by kernel_rfl) (by kernel_rfl) (ix_arr1 k (len := 64) (by kernel_rfl) (by omega) (by omega))) rfl (fun ac A81 => ?_)
      refine s_store (g := g54) (off := k) (v := .int .i64 (nthI (mixL (adF (nums xs) (nums ys)) (nthI (nums xs)) 64 k) k + (nthI (nums ys) k))) 1 (ints ((mixL (adF (nums xs) (nums ys)) (nthI (nums xs)) 64 k).set k (nthI (mixL (adF (nums xs) (nums ys)) (nthI (nums xs)) 64 k) k + (nthI (nums ys) k)))) A81 S67 (by kernel_rfl) (by kernel_rfl) rfl ((pv_of (by kernel_rfl) rfl (by rw [ints_size, (mixL_length _ _ _ _)]; omega)).trans (congrArg some (ints_set (mixL (adF (nums xs) (nums ys)) (nthI (nums xs)) 64 k) k (nthI (mixL (adF (nums xs) (nums ys)) (nthI (nums xs)) 64 k) k + (nthI (nums ys) k))))) (fun wc S83 => ?_)
      refine wpList_nil ?_
      refine n_block ?_
      refine n_then ?_
      refine wp_region_lit ?_
      refine s_one (.int .i64 ((k : Int) + 1)) A81 S83 (g_bin (u := .int .i64 (k : Int)) (k := .int .i64 1) (by kernel_rfl) (by kernel_rfl) (fun _ => by kernel_rfl) (b_add (by omega))) rfl (fun ac A85 => ?_)
      refine s_one (.int .i64 ((k : Int) + 1)) A85 S83 (g_move (by kernel_rfl)) rfl (fun ac A86 => ?_)
      refine wpList_nil ?_
      refine n_then ?_
      refine ⟨_, ⟨k + 1, rfl, by omega, (A86.slot (A86.slot (A86.slot (A86.slot (A86.slot (A86.slot (A86.slot (A86.slot (A86.slot (A86.slot (A86.slot (A86.slot (A86.slot (A86.slot (A86.slot (A86.slot (A86.slot (A86.slot (A86.slot (A86.slot (A86.slot A86.nil (v := .int .i64 ((k : Int) + 1)) (by kernel_rfl) (congrArg (Value.int .i64) (by omega))) (v := .agg (ints (nums ys))) (by kernel_rfl) rfl) (v := .pointer (some ⟨g57, 0, none⟩)) (by kernel_rfl) rfl) (v := .pointer (some ⟨g54, 0, none⟩)) (by kernel_rfl) rfl) (v := .agg (ints (nums ys))) (by kernel_rfl) rfl) (v := .agg (ints (nums xs))) (by kernel_rfl) rfl) (v := .bool (decide (firstOf [(firstErr xs 0).2, (firstErr ys 0).2] ≠ 0))) (by kernel_rfl) rfl) (v := .int .i64 (firstOf [(firstErr xs 0).2, (firstErr ys 0).2])) (by kernel_rfl) rfl) (v := .int .i64 (firstOf [(firstErr xs 0).2, (firstErr ys 0).2])) (by kernel_rfl) rfl) (v := .int .i64 (firstOf [(firstErr xs 0).2, (firstErr ys 0).2])) (by kernel_rfl) rfl) (v := .slice (some ⟨g28, 0, none⟩) 2 2) (by kernel_rfl) rfl) (v := .int .i64 ((firstErr ys 0).2)) (by kernel_rfl) rfl) (v := .int .i64 ((firstErr xs 0).2)) (by kernel_rfl) rfl) (v := .agg (trc ys)) (by kernel_rfl) rfl) (v := .agg (trc xs)) (by kernel_rfl) rfl) (v := .int .i64 0) (by kernel_rfl) rfl) (v := .pointer (some ⟨g11, 0, none⟩)) (by kernel_rfl) rfl) (v := .pointer (some ⟨g7, 0, none⟩)) (by kernel_rfl) rfl) (v := .pointer (some ⟨g3, 0, none⟩)) (by kernel_rfl) rfl) (v := .agg (trc ys)) (by kernel_rfl) rfl) (v := .agg (trc xs)) (by kernel_rfl) rfl), (St.recell 1 S83 rfl (congrArg ints (by rw [b3 (by omega)]; exact mixL_set _ _ _ _))).sub sub_all sub_all⟩, ?_⟩
      omega
    · have p87 := of_decide_eq_false h70
      refine wp_exit ?_
      refine x_then ?_
      refine x_then ?_
      refine x_hit ?_
      refine n_then ?_
      refine wp_seq ?_
      refine wp_seq ?_
      obtain rfl : k = 64 := by omega
      have HA := adL_bd sx sy
      rw [mixL_all] at S67
      replace S67 : St w0 [⟨g57, 100, (ints (nums ys)), true⟩, ⟨g54, 100, (ints (adL (nums xs) (nums ys))), true⟩, ⟨g28, 27, #[.int .i64 ((firstErr xs 0).2), .int .i64 ((firstErr ys 0).2)], true⟩, ⟨g11, 26, (trc zT), true⟩, ⟨g7, 26, (trc ys), true⟩, ⟨g3, 26, (trc xs), true⟩] [] _ := S67
      refine wp_region_lit ?_
      refine s_call (fs := #[]) (cp := #[]) (r := [(0, .pointer (some ⟨g54, 0, none⟩))]) #[.pointer (some ⟨g54, 0, none⟩)] (.int .i64 (grt (adL (nums xs) (nums ys)) 64)) A69 S67 (greatest_s (adL (nums xs) (nums ys)) g54 _ (S67.get 1 rfl) (adL_length _ _) HA) Try.call77 (by kernel_rfl) (by kernel_rfl) (by kernel_rfl) rfl (fun ac wc A88 S89 => ?_)
      refine s_one (.bool (decide (grt (adL (nums xs) (nums ys)) 64 > 2047))) A88 S89 (g_bin (u := .int .i64 (grt (adL (nums xs) (nums ys)) 64)) (k := .int .i64 2047) (by kernel_rfl) (by kernel_rfl) (fun _ => by kernel_rfl) (fun _ => by kernel_rfl)) rfl (fun ac A91 => ?_)
      refine wpList_nil ?_
      refine n_then ?_
      refine c_ifb (b := (decide (grt (adL (nums xs) (nums ys)) 64 > 2047))) A91 (by kernel_rfl) (fun h92 => ?_) (fun h92 => ?_)
      · have p93 := of_decide_eq_true h92
        refine wp_seq ?_
        refine wp_region_lit ?_
        refine s_one (.agg (trc zT)) A91 S89 (g_build (r := []) (by kernel_rfl) (fun _ => by kernel_rfl)) rfl (fun ac A94 => ?_)
        refine s_store (g := g11) (off := 0) (v := .agg (trc zT)) 3 (trc zT) A94 S89 (by kernel_rfl) (by kernel_rfl) rfl (putVal_whole ((trc_size _).trans zT_length) ((trc_size _).trans zT_length) ⟨⟨_, Try.underlying26, rfl⟩, by kernel_rfl⟩ (trc_one _)) (fun wc S96 => ?_)
        refine s_one (.int .i64 8) A94 S96 (g_assign (by kernel_rfl)) rfl (fun ac A98 => ?_)
        refine wpList_nil ?_
        refine n_then ?_
        refine wp_ret ?_
        refine r_then ?_
        refine fin2 (.agg (trc zT)) (.int .i64 8) Try.results45 A98 S96 (rv_cell (g := g11) (off := 0) 3 (by kernel_rfl) rfl (rowVal_whole ((trc_size _).trans zT_length) ⟨⟨_, Try.underlying26, rfl⟩, by kernel_rfl⟩)) (rv_tmp (by kernel_rfl)) ⟨?_, S96.kp⟩
        unfold adRes
        rw [if_neg p45]; unfold adRight
        rw [if_pos p93]
      · have p99 := of_decide_eq_false h92
        refine wp_skip ?_
        refine n_then ?_
        refine wp_seq ?_
        refine wp_region_lit ?_
        refine s_one (.agg (ints (adL (nums xs) (nums ys)))) A91 S89 (g_loadW (g := g54) 1 (by kernel_rfl) rfl ((ints_size _).trans (adL_length _ _)) ⟨⟨_, Try.underlying100, rfl⟩, by kernel_rfl⟩) rfl (fun ac A100 => ?_)
        refine s_call (fs := #[]) (cp := #[]) (r := [(0, .agg (ints (adL (nums xs) (nums ys))))]) #[.agg (ints (adL (nums xs) (nums ys)))] (.agg (trc (mkT (adL (nums xs) (nums ys)) 64))) A100 S89 (traceOf_s (adL (nums xs) (nums ys)) _ (adL_length _ _)) Try.call67 (by kernel_rfl) (by kernel_rfl) (by kernel_rfl) rfl (fun ac wc A101 S102 => ?_)
        refine s_store (g := g11) (off := 0) (v := .agg (trc (mkT (adL (nums xs) (nums ys)) 64))) 3 (trc (mkT (adL (nums xs) (nums ys)) 64)) A101 S102 (by kernel_rfl) (by kernel_rfl) rfl (putVal_whole ((trc_size _).trans zT_length) ((trc_size _).trans (done_length _ _ _ _)) ⟨⟨_, Try.underlying26, rfl⟩, by kernel_rfl⟩ (trc_one _)) (fun wc S105 => ?_)
        refine s_one (.int .i64 0) A101 S105 (g_assign (by kernel_rfl)) rfl (fun ac A107 => ?_)
        refine wpList_nil ?_
        refine n_then ?_
        refine wp_ret ?_
        refine fin2 (.agg (trc (mkT (adL (nums xs) (nums ys)) 64))) (.int .i64 0) Try.results45 A107 S105 (rv_cell (g := g11) (off := 0) 3 (by kernel_rfl) rfl (rowVal_whole ((trc_size _).trans (done_length _ _ _ _)) ⟨⟨_, Try.underlying26, rfl⟩, by kernel_rfl⟩)) (rv_tmp (by kernel_rfl)) ⟨?_, S105.kp⟩
        unfold adRes
        rw [if_neg p45]; unfold adRight
        rw [if_neg p99]

end Go.Proofs.Ytfooefkgdcjlhaa
