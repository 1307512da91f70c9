/- Envelope, and the reference's analytic samples and squares. -/
import Derived.Test.YtfooefkgdcjlhaaRefs
import Derived.Test.YtfooefkgdcjlhaaAwake
import Derived.Test.YtfooefkgdcjlhaaEq
namespace Go.Proofs.Ytfooefkgdcjlhaa
open Go.RowKit Go.Cpl

theorem zero61 : ((Try.prog.info? 39).bind (·.zero)).map (·.cells) = some (ints (List.replicate 61 0)) := by kernel_rfl
/-- What Analytic gives. -/
def anRes (xs : List Nat) : List (Int × Int) := if (firstErr xs 0).2 = 0 then partsL (nums xs) else List.replicate 61 (0, 0)
theorem anRes_length (xs : List Nat) : (anRes xs).length = 61 := by unfold anRes; split; exact partsL_length _; simp
theorem Analytic_any (xs : List Nat) (w : World) (hl : xs.length = 64) :
    Calls Try.prog 17 #[.agg (trc xs)] w fun e w' => e = .returned (.tuple #[.agg (cxs (anRes xs)), .int .i64 (firstErr xs 0).2]) ∧ Below w.heap.size w w' := by
  by_cases h : (firstErr xs 0).2 = 0
  · have := Analytic_right xs w hl h
    unfold anRes
    rw [if_pos h, h]
    exact this
  · have := Analytic_wrong xs w hl h
    unfold anRes
    rw [if_neg h]
    exact this
/-- The squares. -/
def sqL (l : List Int) : List Int := (List.range 61).map fun t => sqP l t
theorem sqL_length (l : List Int) : (sqL l).length = 61 := by simp [sqL]
def enRes (xs : List Nat) : List Int := if (firstErr xs 0).2 = 0 then sqL (nums xs) else List.replicate 61 0
theorem enRes_length (xs : List Nat) : (enRes xs).length = 61 := by unfold enRes; split; exact sqL_length _; simp

set_option maxRecDepth 100000 in
set_option maxHeartbeats 400000 in
theorem Envelope_s (xs : List Nat) (w0 : World) (hl : xs.length = 64) :
    Calls Try.prog 18 #[.agg (trc xs)] w0 fun e w' => e = .returned (.tuple #[.agg (ints (enRes xs)), .int .i64 (firstErr xs 0).2]) ∧ Below w0.heap.size w0 w' := by
  have S0 := St.start w0
  refine enter (n := 24) Try.func18 rfl rfl rfl (fun ac A0 => ?_)
  refine wp_seq ?_
  refine wp_region_lit ?_
  refine s_box (.agg (trc xs)) A0 S0 (by kernel_rfl) rfl (fun g3 ac wc A1 S2 => ?_)
  replace S2 : St _ (⟨g3, 26, (trc xs), true⟩ :: _) _ _ := S2
  refine s_alloc (ints (List.replicate 61 0)) A1 S2 zero61 rfl (fun g7 ac wc A5 S6 => ?_)
  refine s_one (.int .i64 0) A5 S6 (g_assign (by kernel_rfl)) rfl (fun ac A8 => ?_)
  refine wpList_nil ?_
  refine n_then ?_
  refine wp_seq ?_
  refine wp_region_lit ?_
  refine s_alloc (ints (List.replicate 61 0)) A8 S6 zero61 rfl (fun g11 ac wc A9 S10 => ?_)
  refine wpList_nil ?_
  refine n_then ?_
  refine wp_seq ?_
  refine wp_seq ?_
  refine wp_region_lit ?_
  refine s_one (.agg (trc xs)) A9 S10 (g_loadW (g := g3) 2 (by kernel_rfl) rfl ((trc_size _).trans hl) ⟨⟨_, Try.underlying26, rfl⟩, by kernel_rfl⟩) rfl (fun ac A12 => ?_)
  refine s_call (fs := #[]) (cp := #[]) (r := [(0, .agg (trc xs))]) #[.agg (trc xs)] (.int .i64 ((firstErr xs 0).2)) A12 S10 (traceErr_any xs _ hl) Try.call54 (by kernel_rfl) (by kernel_rfl) (by kernel_rfl) rfl (fun ac wc A13 S14 => ?_)
  refine s_one (.int .i64 ((firstErr xs 0).2)) A13 S14 (g_assign (by kernel_rfl)) rfl (fun ac A16 => ?_)
  refine wpList_nil ?_
  refine n_then ?_
  refine wp_seq ?_
  refine wp_region_lit ?_
  refine s_one (.int .i64 ((firstErr xs 0).2)) A16 S14 (g_move (by kernel_rfl)) rfl (fun ac A17 => ?_)
  refine s_one (.bool (decide ((firstErr xs 0).2 ≠ 0))) A17 S14 (g_bin (u := .int .i64 ((firstErr xs 0).2)) (k := .int .i64 0) (by kernel_rfl) (by kernel_rfl) (fun _ => by kernel_rfl) b_neq) rfl (fun ac A18 => ?_)
  refine wpList_nil ?_
  refine n_then ?_
  refine c_ifb (b := (decide ((firstErr xs 0).2 ≠ 0))) A18 (by kernel_rfl) (fun h19 => ?_) (fun h19 => ?_)
  · have p20 := of_decide_eq_true h19
    refine wp_seq ?_
    refine wp_region_lit ?_
    refine s_one (.agg (ints (List.replicate 61 0))) A18 S14 (g_loadW (g := g11) 0 (by kernel_rfl) rfl ((ints_size _).trans List.length_replicate) ⟨⟨_, Try.underlying39, rfl⟩, by kernel_rfl⟩) rfl (fun ac A21 => ?_)
    refine s_one (.int .i64 ((firstErr xs 0).2)) A21 S14 (g_move (by kernel_rfl)) rfl (fun ac A22 => ?_)
    refine s_store (g := g7) (off := 0) (v := .agg (ints (List.replicate 61 0))) 1 (ints (List.replicate 61 0)) A22 S14 (by kernel_rfl) (by kernel_rfl) rfl (putVal_whole ((ints_size _).trans List.length_replicate) ((ints_size _).trans List.length_replicate) ⟨⟨_, Try.underlying39, rfl⟩, by kernel_rfl⟩ (ints_one _)) (fun wc S24 => ?_)
    refine s_one (.int .i64 ((firstErr xs 0).2)) A22 S24 (g_assign (by kernel_rfl)) rfl (fun ac A26 => ?_)
    refine wpList_nil ?_
    refine n_then ?_
    refine wp_ret ?_
    refine r_then ?_
    refine fin2 (.agg (ints (List.replicate 61 0))) (.int .i64 ((firstErr xs 0).2)) Try.results18 A26 S24 (rv_cell (g := g7) (off := 0) 1 (by kernel_rfl) rfl (rowVal_whole ((ints_size _).trans List.length_replicate) ⟨⟨_, Try.underlying39, rfl⟩, by kernel_rfl⟩)) (rv_tmp (by kernel_rfl)) ⟨?_, S24.kp⟩
    unfold enRes
    rw [if_neg p20]
  · have p27 := of_decide_eq_false h19
    have h0 : (firstErr xs 0).2 = 0 := by simpa using h19
    have HB := nums_range hl (right_of h0)
    refine wp_skip ?_
    refine n_then ?_
    refine wp_seq ?_
    refine wp_region_lit ?_
    refine s_call (fs := #[]) (cp := #[]) (r := [(0, .pointer (some ⟨g3, 0, none⟩))]) #[.pointer (some ⟨g3, 0, none⟩)] (.agg (ints (nums xs))) A18 S14 (numbersOf_any g3 xs _ hl (S14.get 2 rfl) (right_of h0)) Try.call55 (by kernel_rfl) (by kernel_rfl) (by kernel_rfl) rfl (fun ac wc A28 S29 => ?_)
    refine s_alloc (ints (List.replicate 64 0)) A28 S29 zero159 rfl (fun g33 ac wc A31 S32 => ?_)
    refine s_store (g := g33) (off := 0) (v := .agg (ints (nums xs))) 0 (ints (nums xs)) A31 S32 (by kernel_rfl) (by kernel_rfl) rfl (putVal_whole ((ints_size _).trans List.length_replicate) ((ints_size _).trans (nums_length _)) ⟨⟨_, Try.underlying100, rfl⟩, by kernel_rfl⟩ (ints_one _)) (fun wc S35 => ?_)
    refine wpList_nil ?_
    refine n_then ?_
    refine wp_seq ?_
    refine wp_seq ?_
    refine wp_region_lit ?_
    refine s_one (.int .i64 0) A31 S35 (g_move (by kernel_rfl)) rfl (fun ac A37 => ?_)
    refine wpList_nil ?_
    refine n_then ?_
    refine wp_block ?_
    refine c_loopN (fun mm ac wc => ∃ (k : Nat), mm = 61 - k ∧ (k ≤ 61) ∧ Fr 24 ac [(0, .agg (trc xs)), (1, .pointer (some ⟨g3, 0, none⟩)), (2, .pointer (some ⟨g7, 0, none⟩)), (3, .int .i64 0), (4, .pointer (some ⟨g11, 0, none⟩)), (8, .agg (trc xs)), (9, .int .i64 ((firstErr xs 0).2)), (5, .int .i64 ((firstErr xs 0).2)), (10, .int .i64 ((firstErr xs 0).2)), (11, .bool (decide ((firstErr xs 0).2 ≠ 0))), (14, .agg (ints (nums xs))), (6, .pointer (some ⟨g33, 0, none⟩)), (15, .int .i64 (k : Int))] ∧ St w0 [⟨g33, 100, (ints (nums xs)), true⟩, ⟨g11, 39, (ints (done 0 (fun t => sqP (nums xs) t) 61 k)), true⟩, ⟨g7, 39, (ints (List.replicate 61 0)), true⟩, ⟨g3, 26, (trc xs), true⟩] [] wc) _ ⟨0, rfl, by omega, (A37.slot (A37.slot (A37.slot (A37.slot (A37.slot (A37.slot (A37.slot (A37.slot (A37.slot (A37.slot (A37.slot (A37.slot (A37.slot A37.nil (v := .int .i64 0) (by kernel_rfl) (congrArg (Value.int .i64) (by omega))) (v := .pointer (some ⟨g33, 0, none⟩)) (by kernel_rfl) rfl) (v := .agg (ints (nums xs))) (by kernel_rfl) rfl) (v := .bool (decide ((firstErr xs 0).2 ≠ 0))) (by kernel_rfl) rfl) (v := .int .i64 ((firstErr xs 0).2)) (by kernel_rfl) rfl) (v := .int .i64 ((firstErr xs 0).2)) (by kernel_rfl) rfl) (v := .int .i64 ((firstErr xs 0).2)) (by kernel_rfl) rfl) (v := .agg (trc xs)) (by kernel_rfl) rfl) (v := .pointer (some ⟨g11, 0, none⟩)) (by kernel_rfl) rfl) (v := .int .i64 0) (by kernel_rfl) rfl) (v := .pointer (some ⟨g7, 0, none⟩)) (by kernel_rfl) rfl) (v := .pointer (some ⟨g3, 0, none⟩)) (by kernel_rfl) rfl) (v := .agg (trc xs)) (by kernel_rfl) rfl), (St.recell 1 S35 rfl (congrArg ints (done_zero 0 (fun t => sqP (nums xs) t) 61).symm)).sub sub_all sub_all⟩ ?_
    rintro mm ac wc ⟨k, hm40, hk, A38, S39⟩
    refine wp_seq ?_
    refine wp_region_lit ?_
    refine s_one (.bool (decide ((k : Int) < 61))) A38 S39 (g_bin (u := .int .i64 (k : Int)) (k := .int .i64 61) (by kernel_rfl) (by kernel_rfl) (fun _ => by kernel_rfl) (fun _ => by kernel_rfl)) rfl (fun ac A41 => ?_)
    refine wpList_nil ?_
    refine n_then ?_
    refine wp_seq ?_
    refine c_ifb (b := (decide ((k : Int) < 61))) A41 (by kernel_rfl) (fun h42 => ?_) (fun h42 => ?_)
    · have p43 := of_decide_eq_true h42
      refine wp_skip ?_
      refine n_then ?_
      refine wp_seq ?_
      refine wp_block ?_
      refine wp_seq ?_
      refine wp_region_lit ?_
      refine s_one (.int .i64 (k : Int)) A41 S39 (g_move (by kernel_rfl)) rfl (fun ac A44 => ?_)
      refine s_one (.int .i64 (k : Int)) A44 S39 (g_assign (by kernel_rfl)) rfl (fun ac A45 => ?_)
      refine wpList_nil ?_
      refine n_then ?_
      refine wp_region_lit ?_
      refine s_one (.int .i64 (k : Int)) A45 S39 (g_move (by kernel_rfl)) rfl (fun ac A46 => ?_)
      refine s_one (.int .i64 (k : Int)) A46 S39 (g_move (by kernel_rfl)) rfl (fun ac A47 => ?_)
      have q51 := sqP_bound HB k
      refine s_call (fs := #[]) (cp := #[]) (r := [(0, .pointer (some ⟨g33, 0, none⟩)), (0, .int .i64 (k : Int))]) #[.pointer (some ⟨g33, 0, none⟩), .int .i64 (k : Int)] (.int .i64 (sqP (nums xs) k)) A47 S39 (square_any g33 k (nums xs) _ (nums_length _) (by omega) (S39.get 0 rfl) HB) Try.call57 (by kernel_rfl) (by kernel_rfl) (by kernel_rfl) rfl (fun ac wc A48 S49 => ?_)
      refine s_one (.pointer (some ⟨g11, k, none⟩)) A48 S49 (g_index (u := .pointer (some ⟨g11, 0, none⟩)) (k := .int .i64 (k : Int)) (by kernel_rfl) (by kernel_rfl) (ix_arr1 k (len := 61) (by kernel_rfl) (by omega) (by omega))) rfl (fun ac A52 => ?_)
      refine s_store (g := g11) (off := k) (v := .int .i64 (sqP (nums xs) k)) 1 (ints ((done 0 (fun t => sqP (nums xs) t) 61 k).set k (sqP (nums xs) k))) A52 S49 (by kernel_rfl) (by kernel_rfl) rfl ((pv_of (by kernel_rfl) rfl (by rw [ints_size, done_length _ _ _ _]; omega)).trans (congrArg some (ints_set (done 0 (fun t => sqP (nums xs) t) 61 k) k (sqP (nums xs) k)))) (fun wc S54 => ?_)
      refine wpList_nil ?_
      refine n_block ?_
      refine n_then ?_
      refine wp_region_lit ?_
      refine s_one (.int .i64 ((k : Int) + 1)) A52 S54 (g_bin (u := .int .i64 (k : Int)) (k := .int .i64 1) (by kernel_rfl) (by kernel_rfl) (fun _ => by kernel_rfl) (b_add (by omega))) rfl (fun ac A56 => ?_)
      refine s_one (.int .i64 ((k : Int) + 1)) A56 S54 (g_move (by kernel_rfl)) rfl (fun ac A57 => ?_)
      refine wpList_nil ?_
      refine n_then ?_
      refine ⟨_, ⟨k + 1, rfl, by omega, (A57.slot (A57.slot (A57.slot (A57.slot (A57.slot (A57.slot (A57.slot (A57.slot (A57.slot (A57.slot (A57.slot (A57.slot (A57.slot A57.nil (v := .int .i64 ((k : Int) + 1)) (by kernel_rfl) (congrArg (Value.int .i64) (by omega))) (v := .pointer (some ⟨g33, 0, none⟩)) (by kernel_rfl) rfl) (v := .agg (ints (nums xs))) (by kernel_rfl) rfl) (v := .bool (decide ((firstErr xs 0).2 ≠ 0))) (by kernel_rfl) rfl) (v := .int .i64 ((firstErr xs 0).2)) (by kernel_rfl) rfl) (v := .int .i64 ((firstErr xs 0).2)) (by kernel_rfl) rfl) (v := .int .i64 ((firstErr xs 0).2)) (by kernel_rfl) rfl) (v := .agg (trc xs)) (by kernel_rfl) rfl) (v := .pointer (some ⟨g11, 0, none⟩)) (by kernel_rfl) rfl) (v := .int .i64 0) (by kernel_rfl) rfl) (v := .pointer (some ⟨g7, 0, none⟩)) (by kernel_rfl) rfl) (v := .pointer (some ⟨g3, 0, none⟩)) (by kernel_rfl) rfl) (v := .agg (trc xs)) (by kernel_rfl) rfl), (St.recell 1 S54 rfl (congrArg ints (done_set 0 (fun t => sqP (nums xs) t) 61 k))).sub sub_all sub_all⟩, ?_⟩
      omega
    · have p58 := of_decide_eq_false h42
      refine wp_exit ?_
      refine x_then ?_
      refine x_then ?_
      refine x_hit ?_
      refine n_then ?_
      refine wp_seq ?_
      refine wp_region_lit ?_
      refine s_one (.agg (ints (done 0 (fun t => sqP (nums xs) t) 61 k))) A41 S39 (g_loadW (g := g11) 1 (by kernel_rfl) rfl ((ints_size _).trans (done_length _ _ _ _)) ⟨⟨_, Try.underlying39, rfl⟩, by kernel_rfl⟩) rfl (fun ac A59 => ?_)
      refine s_store (g := g7) (off := 0) (v := .agg (ints (done 0 (fun t => sqP (nums xs) t) 61 k))) 2 (ints (done 0 (fun t => sqP (nums xs) t) 61 k)) A59 S39 (by kernel_rfl) (by kernel_rfl) rfl (putVal_whole ((ints_size _).trans List.length_replicate) ((ints_size _).trans (done_length _ _ _ _)) ⟨⟨_, Try.underlying39, rfl⟩, by kernel_rfl⟩ (ints_one _)) (fun wc S61 => ?_)
      refine s_one (.int .i64 0) A59 S61 (g_assign (by kernel_rfl)) rfl (fun ac A63 => ?_)
      refine wpList_nil ?_
      refine n_then ?_
      refine wp_ret ?_
      refine fin2 (.agg (ints (done 0 (fun t => sqP (nums xs) t) 61 k))) (.int .i64 0) Try.results18 A63 S61 (rv_cell (g := g7) (off := 0) 2 (by kernel_rfl) rfl (rowVal_whole ((ints_size _).trans (done_length _ _ _ _)) ⟨⟨_, Try.underlying39, rfl⟩, by kernel_rfl⟩)) (rv_tmp (by kernel_rfl)) ⟨?_, S61.kp⟩
      obtain rfl : k = 61 := by omega
      have e : (firstErr xs 0).2 = 0 := by omega
      unfold enRes
      rw [if_pos e, e, done_all]; rfl

theorem partsL_at {l : List Int} {k : Nat} (h : k < 61) : nthP (partsL l) k = (reP l k, imP l k) := by
  rw [nthP_eq (by rw [partsL_length]; exact h)]; simp [partsL]
theorem cut_small {x : Int} (h : -4094 ≤ x ∧ x ≤ 4094) : mx (-10000) (mn 10000 x) = x := by rw [mx_eq, mn_eq]; omega

theorem parts_all (l : List Int) : (List.range 61).map (fun t => nthP (partsL l) t) = partsL l := by
  apply List.ext_getElem
  · simp [partsL_length]
  · intro i h1 h2
    simp only [List.getElem_map, List.getElem_range]
    rw [nthP_eq h2]

set_option maxRecDepth 100000 in
set_option maxHeartbeats 400000 in
theorem refAnalytic_s (xs : List Nat) (w0 : World) (hl : xs.length = 64) (h0 : Right xs) :
    Calls Try.prog 19 #[.agg (trc xs)] w0 fun e w' => e = .returned (.agg (cxs (partsL (nums xs)))) ∧ Below w0.heap.size w0 w' := by
  have S0 := St.start w0
  have HB := nums_range hl h0
  refine enter (n := 28) Try.func19 rfl rfl rfl (fun ac A0 => ?_)
  refine wp_seq ?_
  refine wp_region_lit ?_
  refine s_box (.agg (trc xs)) A0 S0 (by kernel_rfl) rfl (fun g3 ac wc A1 S2 => ?_)
  replace S2 : St _ (⟨g3, 26, (trc xs), true⟩ :: _) _ _ := S2
  refine s_alloc (cxs (List.replicate 61 (0, 0))) A1 S2 zero36 rfl (fun g7 ac wc A5 S6 => ?_)
  refine wpList_nil ?_
  refine n_then ?_
  refine wp_seq ?_
  refine wp_region_lit ?_
  refine s_one (.agg (trc xs)) A5 S6 (g_loadW (g := g3) 1 (by kernel_rfl) rfl ((trc_size _).trans hl) ⟨⟨_, Try.underlying26, rfl⟩, by kernel_rfl⟩) rfl (fun ac A8 => ?_)
  refine s_callR (fs := #[]) (cp := #[]) (r := [(0, .agg (trc xs))]) #[.agg (trc xs)] A8 S6 (Parts_s xs _ hl h0) Try.call58 (by kernel_rfl) (by kernel_rfl) (by kernel_rfl) rfl (fun v12 ac wc A9 S10 => ?_)
  obtain ⟨g13, cap14, cur15, rfl, hc16, hs17, ht18, S19⟩ := S10.openRow (by omega)
  refine s_one (.slice (some ⟨g13, 0, none⟩) 61 cap14) A9 S19 (g_assign (by kernel_rfl)) rfl (fun ac A20 => ?_)
  refine wpList_nil ?_
  refine n_then ?_
  refine wp_seq ?_
  refine wp_region_lit ?_
  refine s_alloc (cxs (List.replicate 61 (0, 0))) A20 S19 zero36 rfl (fun g23 ac wc A21 S22 => ?_)
  refine wpList_nil ?_
  refine n_then ?_
  refine wp_seq ?_
  refine wp_seq ?_
  refine wp_region_lit ?_
  refine s_one (.int .i64 0) A21 S22 (g_assign (by kernel_rfl)) rfl (fun ac A24 => ?_)
  refine wpList_nil ?_
  refine n_then ?_
  refine wp_block ?_
  refine c_loopN (fun mm ac wc => ∃ (k : Nat), mm = 61 - k ∧ (k ≤ 61) ∧ Fr 28 ac [(0, .agg (trc xs)), (1, .pointer (some ⟨g3, 0, none⟩)), (2, .pointer (some ⟨g7, 0, none⟩)), (6, .agg (trc xs)), (7, .slice (some ⟨g13, 0, none⟩) 61 cap14), (3, .slice (some ⟨g13, 0, none⟩) 61 cap14), (4, .pointer (some ⟨g23, 0, none⟩)), (5, .int .i64 (k : Int))] ∧ St w0 [⟨g23, 36, (cxs (done (0, 0) (fun t => nthP (partsL (nums xs)) t) 61 k)), true⟩, ⟨g13, 106, cur15, true⟩, ⟨g7, 36, (cxs (List.replicate 61 (0, 0))), true⟩, ⟨g3, 26, (trc xs), true⟩] [] wc) _ ⟨0, rfl, by omega, (A24.slot (A24.slot (A24.slot (A24.slot (A24.slot (A24.slot (A24.slot (A24.slot A24.nil (v := .int .i64 0) (by kernel_rfl) (congrArg (Value.int .i64) (by omega))) (v := .pointer (some ⟨g23, 0, none⟩)) (by kernel_rfl) rfl) (v := .slice (some ⟨g13, 0, none⟩) 61 cap14) (by kernel_rfl) rfl) (v := .slice (some ⟨g13, 0, none⟩) 61 cap14) (by kernel_rfl) rfl) (v := .agg (trc xs)) (by kernel_rfl) rfl) (v := .pointer (some ⟨g7, 0, none⟩)) (by kernel_rfl) rfl) (v := .pointer (some ⟨g3, 0, none⟩)) (by kernel_rfl) rfl) (v := .agg (trc xs)) (by kernel_rfl) rfl), (St.recell 0 S22 rfl (congrArg cxs (done_zero (0, 0) (fun t => nthP (partsL (nums xs)) t) 61).symm)).sub sub_all sub_all⟩ ?_
  rintro mm ac wc ⟨k, hm27, hk, A25, S26⟩
  refine wp_seq ?_
  refine wp_seq ?_
  refine wp_region_lit ?_
  refine s_one (.int .i64 (k : Int)) A25 S26 (g_move (by kernel_rfl)) rfl (fun ac A28 => ?_)
  refine s_one (.slice (some ⟨g13, 0, none⟩) 61 cap14) A28 S26 (g_move (by kernel_rfl)) rfl (fun ac A29 => ?_)
  refine s_one (.int .i64 61) A29 S26 (g_built (r := [(0, .slice (some ⟨g13, 0, none⟩) 61 cap14)]) (by kernel_rfl) (fun _ _ _ => by kernel_rfl)) rfl (fun ac A30 => ?_)
  refine s_one (.bool (decide ((k : Int) < 61))) A30 S26 (g_bin (u := .int .i64 (k : Int)) (k := .int .i64 61) (by kernel_rfl) (by kernel_rfl) (fun _ => by kernel_rfl) (fun _ => by kernel_rfl)) rfl (fun ac A31 => ?_)
  refine wpList_nil ?_
  refine n_then ?_
  refine c_ifb (b := (decide ((k : Int) < 61))) A31 (by kernel_rfl) (fun h32 => ?_) (fun h32 => ?_)
  · have p33 := of_decide_eq_true h32
    refine wp_skip ?_
    refine n_then ?_
    refine wp_seq ?_
    refine wp_block ?_
    refine r_begin (w0 := w0) (by kernel_rfl) (S26.sub (sub_skip sub_all) sub_all) (fun wc T34 B35 => ?_)
    have S36 := S26.kept B35
    refine r_take 0 (.int .i64 (k : Int)) A31 T34 (g_move (by kernel_rfl)) rfl rfl rfl (pf_block (pf_then (pf_then (pf_block (pf_then pf_body))))) (by kernel_rfl) (fun ac A37 => ?_)
    refine r_take 1 (.slice (some ⟨g13, 0, none⟩) 61 cap14) A37 T34 (g_move (by kernel_rfl)) rfl rfl rfl (pf_block (pf_then (pf_then (pf_block (pf_then pf_body))))) (by kernel_rfl) (fun ac A38 => ?_)
    refine r_take 2 (.int .i64 (k : Int)) A38 T34 (g_move (by kernel_rfl)) rfl rfl rfl (pf_block (pf_then (pf_then (pf_block (pf_then pf_body))))) (by kernel_rfl) (fun ac A39 => ?_)
    refine r_take 3 (.pointer (some ⟨g13, 0 + k * 2, none⟩)) A39 T34 (g_index (u := .slice (some ⟨g13, 0, none⟩) 61 cap14) (k := .int .i64 (k : Int)) (by kernel_rfl) (by kernel_rfl) (ix_sl (e := 106) (bytes := 16) k (by kernel_rfl) (by omega) (by omega))) rfl rfl rfl (pf_block (pf_then (pf_then (pf_block (pf_then pf_body))))) (by kernel_rfl) (fun ac A40 => ?_)
    refine r_take 4 (.pointer (some ⟨g13, 0 + k * 2 + 0 * 1, none⟩)) A40 T34 (g_index (u := .pointer (some ⟨g13, 0 + k * 2, none⟩)) (k := .int .i64 0) (by kernel_rfl) (by kernel_rfl) (ix_arr (len := 2) 0 (by kernel_rfl) (by omega) (by omega))) rfl rfl rfl (pf_block (pf_then (pf_then (pf_block (pf_then pf_body))))) (by kernel_rfl) (fun ac A41 => ?_)
    refine r_take 5 (.int .i64 ((nthP (partsL (nums xs)) k).1)) A41 T34 (g_load (g := g13) (off := 0 + k * 2 + 0 * 1) 0 (by kernel_rfl) rfl (rv_of (by kernel_rfl) (cur_get ht18 (by rw [show 0 + k * 2 + 0 * 1 = 2 * k by omega]; exact (rowP_get (by rw [partsL_length _]; omega)).1)))) rfl rfl rfl (pf_block (pf_then (pf_then (pf_block (pf_then pf_body))))) (by kernel_rfl) (fun ac A42 => ?_)
    refine r_take 6 (.slice (some ⟨g13, 0, none⟩) 61 cap14) A42 T34 (g_move (by kernel_rfl)) rfl rfl rfl (pf_block (pf_then (pf_then (pf_block (pf_then pf_body))))) (by kernel_rfl) (fun ac A43 => ?_)
    refine r_take 7 (.int .i64 (k : Int)) A43 T34 (g_move (by kernel_rfl)) rfl rfl rfl (pf_block (pf_then (pf_then (pf_block (pf_then pf_body))))) (by kernel_rfl) (fun ac A44 => ?_)
    refine r_take 8 (.pointer (some ⟨g13, 0 + k * 2, none⟩)) A44 T34 (g_index (u := .slice (some ⟨g13, 0, none⟩) 61 cap14) (k := .int .i64 (k : Int)) (by kernel_rfl) (by kernel_rfl) (ix_sl (e := 106) (bytes := 16) k (by kernel_rfl) (by omega) (by omega))) rfl rfl rfl (pf_block (pf_then (pf_then (pf_block (pf_then pf_body))))) (by kernel_rfl) (fun ac A45 => ?_)
    refine r_take 9 (.pointer (some ⟨g13, 0 + k * 2 + 1 * 1, none⟩)) A45 T34 (g_index (u := .pointer (some ⟨g13, 0 + k * 2, none⟩)) (k := .int .i64 1) (by kernel_rfl) (by kernel_rfl) (ix_arr (len := 2) 1 (by kernel_rfl) (by omega) (by omega))) rfl rfl rfl (pf_block (pf_then (pf_then (pf_block (pf_then pf_body))))) (by kernel_rfl) (fun ac A46 => ?_)
    refine r_take 10 (.int .i64 ((nthP (partsL (nums xs)) k).2)) A46 T34 (g_load (g := g13) (off := 0 + k * 2 + 1 * 1) 0 (by kernel_rfl) rfl (rv_of (by kernel_rfl) (cur_get ht18 (by rw [show 0 + k * 2 + 1 * 1 = 2 * k + 1 by omega]; exact (rowP_get (by rw [partsL_length _]; omega)).2)))) rfl rfl rfl (pf_block (pf_then (pf_then (pf_block (pf_then pf_body))))) (by kernel_rfl) (fun ac A47 => ?_)
    refine r_1 (i := 11) (by kernel_rfl) ?_
    refine rs_call (fs := #[]) (cp := #[]) (r := [(0, .int .i64 ((nthP (partsL (nums xs)) k).1)), (0, .int .i64 ((nthP (partsL (nums xs)) k).2))]) #[.int .i64 ((nthP (partsL (nums xs)) k).1), .int .i64 ((nthP (partsL (nums xs)) k).2)] (.complex .f32 (floatOfInt .f32 (mx (-10000) (mn 10000 ((nthP (partsL (nums xs)) k).1)))) (floatOfInt .f32 (mx (-10000) (mn 10000 ((nthP (partsL (nums xs)) k).2))))) A47 S36 (sub_skip sub_all) sub_all (sameB (Sample_any ((nthP (partsL (nums xs)) k).1) ((nthP (partsL (nums xs)) k).2) _)) Try.call51 rfl rfl (by kernel_rfl) (by kernel_rfl) (by kernel_rfl) rfl (fun ac wc A48 S49 => ?_)
    have T51 := S49.sub (sub_skip sub_all) sub_all
    refine r_take 12 (.pointer (some ⟨g23, k, none⟩)) A48 T51 (g_index (u := .pointer (some ⟨g23, 0, none⟩)) (k := .int .i64 (k : Int)) (by kernel_rfl) (by kernel_rfl) (ix_arr1 k (len := 61) (by kernel_rfl) (by omega) (by omega))) rfl rfl rfl (pf_block (pf_then (pf_then (pf_block (pf_then pf_body))))) (by kernel_rfl) (fun ac A52 => ?_)
    refine r_1 (i := 13) (by kernel_rfl) ?_
    refine rs_store (g := g23) (off := k) (v := .complex .f32 (floatOfInt .f32 (mx (-10000) (mn 10000 ((nthP (partsL (nums xs)) k).1)))) (floatOfInt .f32 (mx (-10000) (mn 10000 ((nthP (partsL (nums xs)) k).2))))) 0 (cxs ((done (0, 0) (fun t => nthP (partsL (nums xs)) t) 61 k).set k ((mx (-10000) (mn 10000 ((nthP (partsL (nums xs)) k).1))), (mx (-10000) (mn 10000 ((nthP (partsL (nums xs)) k).2)))))) A52 S49 (sub_skip sub_all) sub_all (by kernel_rfl) (by kernel_rfl) rfl ((pv_of (by kernel_rfl) rfl (by rw [cxs_size, done_length _ _ _ _]; omega)).trans (congrArg some (cxs_set2 (done (0, 0) (fun t => nthP (partsL (nums xs)) t) 61 k) k ((mx (-10000) (mn 10000 ((nthP (partsL (nums xs)) k).1))), (mx (-10000) (mn 10000 ((nthP (partsL (nums xs)) k).2))))))) rfl rfl (fun wc S54 => ?_)
    have T56 := S54.sub (sub_skip sub_all) sub_all
    refine r_done (by kernel_rfl) ?_
    refine n_block ?_
    refine n_then ?_
    refine wp_region_lit ?_
    refine s_one (.int .i64 (k : Int)) A52 S54 (g_move (by kernel_rfl)) rfl (fun ac A57 => ?_)
    refine s_one (.int .i64 ((k : Int) + 1)) A57 S54 (g_bin (u := .int .i64 (k : Int)) (k := .int .i64 1) (by kernel_rfl) (by kernel_rfl) (fun _ => by kernel_rfl) (b_add (by omega))) rfl (fun ac A58 => ?_)
    refine s_one (.int .i64 ((k : Int) + 1)) A58 S54 (g_assign (by kernel_rfl)) rfl (fun ac A59 => ?_)
    refine wpList_nil ?_
    refine n_then ?_
    have q1 := reP_bound HB k
    have q2 := imP_bound HB k
    have q3 := partsL_at (l := nums xs) (show k < 61 by omega)
    refine ⟨_, ⟨k + 1, rfl, by omega, (A59.slot (A59.slot (A59.slot (A59.slot (A59.slot (A59.slot (A59.slot (A59.slot A59.nil (v := .int .i64 ((k : Int) + 1)) (by kernel_rfl) (congrArg (Value.int .i64) (by omega))) (v := .pointer (some ⟨g23, 0, none⟩)) (by kernel_rfl) rfl) (v := .slice (some ⟨g13, 0, none⟩) 61 cap14) (by kernel_rfl) rfl) (v := .slice (some ⟨g13, 0, none⟩) 61 cap14) (by kernel_rfl) rfl) (v := .agg (trc xs)) (by kernel_rfl) rfl) (v := .pointer (some ⟨g7, 0, none⟩)) (by kernel_rfl) rfl) (v := .pointer (some ⟨g3, 0, none⟩)) (by kernel_rfl) rfl) (v := .agg (trc xs)) (by kernel_rfl) rfl), (St.recell 0 S54 rfl (congrArg cxs (by rw [← done_set, q3]; simp only [cut_small q1, cut_small q2]))).sub sub_all sub_all⟩, ?_⟩
    omega
  · have p60 := of_decide_eq_false h32
    refine wp_exit ?_
    refine x_then ?_
    refine x_then ?_
    refine x_hit ?_
    refine n_then ?_
    refine wp_seq ?_
    refine wp_region_lit ?_
    refine s_one (.agg (cxs (done (0, 0) (fun t => nthP (partsL (nums xs)) t) 61 k))) A31 S26 (g_loadW (g := g23) 0 (by kernel_rfl) rfl ((cxs_size _).trans (done_length _ _ _ _)) ⟨⟨_, Try.underlying36, rfl⟩, by kernel_rfl⟩) rfl (fun ac A61 => ?_)
    refine s_store (g := g7) (off := 0) (v := .agg (cxs (done (0, 0) (fun t => nthP (partsL (nums xs)) t) 61 k))) 2 (cxs (done (0, 0) (fun t => nthP (partsL (nums xs)) t) 61 k)) A61 S26 (by kernel_rfl) (by kernel_rfl) rfl (putVal_whole ((cxs_size _).trans List.length_replicate) ((cxs_size _).trans (done_length _ _ _ _)) ⟨⟨_, Try.underlying36, rfl⟩, by kernel_rfl⟩ (cxs_one _)) (fun wc S63 => ?_)
    refine wpList_nil ?_
    refine n_then ?_
    refine wp_ret ?_
    refine fin1 (.agg (cxs (done (0, 0) (fun t => nthP (partsL (nums xs)) t) 61 k))) Try.results19 A61 S63 (rv_cell (g := g7) (off := 0) 2 (by kernel_rfl) rfl (rowVal_whole ((cxs_size _).trans (done_length _ _ _ _)) ⟨⟨_, Try.underlying36, rfl⟩, by kernel_rfl⟩)) ⟨?_, S63.kp⟩
    obtain rfl : k = 61 := by omega
    rw [done_all, parts_all]

set_option maxRecDepth 100000 in
set_option maxHeartbeats 400000 in
theorem refEnvelope_s (xs : List Nat) (w0 : World) (hl : xs.length = 64) (h0 : Right xs) :
    Calls Try.prog 20 #[.agg (trc xs)] w0 fun e w' => e = .returned (.agg (ints (sqL (nums xs)))) ∧ Below w0.heap.size w0 w' := by
  have S0 := St.start w0
  have HB := nums_range hl h0
  refine enter (n := 40) Try.func20 rfl rfl rfl (fun ac A0 => ?_)
  refine wp_seq ?_
  refine wp_region_lit ?_
  refine s_box (.agg (trc xs)) A0 S0 (by kernel_rfl) rfl (fun g3 ac wc A1 S2 => ?_)
  replace S2 : St _ (⟨g3, 26, (trc xs), true⟩ :: _) _ _ := S2
  refine s_alloc (ints (List.replicate 61 0)) A1 S2 zero61 rfl (fun g7 ac wc A5 S6 => ?_)
  refine wpList_nil ?_
  refine n_then ?_
  refine wp_seq ?_
  refine wp_region_lit ?_
  refine s_one (.agg (trc xs)) A5 S6 (g_loadW (g := g3) 1 (by kernel_rfl) rfl ((trc_size _).trans hl) ⟨⟨_, Try.underlying26, rfl⟩, by kernel_rfl⟩) rfl (fun ac A8 => ?_)
  refine s_callR (fs := #[]) (cp := #[]) (r := [(0, .agg (trc xs))]) #[.agg (trc xs)] A8 S6 (Parts_s xs _ hl h0) Try.call58 (by kernel_rfl) (by kernel_rfl) (by kernel_rfl) rfl (fun v12 ac wc A9 S10 => ?_)
  obtain ⟨g13, cap14, cur15, rfl, hc16, hs17, ht18, S19⟩ := S10.openRow (by omega)
  refine s_one (.slice (some ⟨g13, 0, none⟩) 61 cap14) A9 S19 (g_assign (by kernel_rfl)) rfl (fun ac A20 => ?_)
  refine wpList_nil ?_
  refine n_then ?_
  refine wp_seq ?_
  refine wp_region_lit ?_
  refine s_alloc (ints (List.replicate 61 0)) A20 S19 zero61 rfl (fun g23 ac wc A21 S22 => ?_)
  refine wpList_nil ?_
  refine n_then ?_
  refine wp_seq ?_
  refine wp_seq ?_
  refine wp_region_lit ?_
  refine s_one (.int .i64 0) A21 S22 (g_assign (by kernel_rfl)) rfl (fun ac A24 => ?_)
  refine wpList_nil ?_
  refine n_then ?_
  refine wp_block ?_
  refine c_loopN (fun mm ac wc => ∃ (k : Nat), mm = 61 - k ∧ (k ≤ 61) ∧ Fr 40 ac [(0, .agg (trc xs)), (1, .pointer (some ⟨g3, 0, none⟩)), (2, .pointer (some ⟨g7, 0, none⟩)), (6, .agg (trc xs)), (7, .slice (some ⟨g13, 0, none⟩) 61 cap14), (3, .slice (some ⟨g13, 0, none⟩) 61 cap14), (4, .pointer (some ⟨g23, 0, none⟩)), (5, .int .i64 (k : Int))] ∧ St w0 [⟨g23, 39, (ints (done 0 (fun t => sqP (nums xs) t) 61 k)), true⟩, ⟨g13, 106, cur15, true⟩, ⟨g7, 39, (ints (List.replicate 61 0)), true⟩, ⟨g3, 26, (trc xs), true⟩] [] wc) _ ⟨0, rfl, by omega, (A24.slot (A24.slot (A24.slot (A24.slot (A24.slot (A24.slot (A24.slot (A24.slot A24.nil (v := .int .i64 0) (by kernel_rfl) (congrArg (Value.int .i64) (by omega))) (v := .pointer (some ⟨g23, 0, none⟩)) (by kernel_rfl) rfl) (v := .slice (some ⟨g13, 0, none⟩) 61 cap14) (by kernel_rfl) rfl) (v := .slice (some ⟨g13, 0, none⟩) 61 cap14) (by kernel_rfl) rfl) (v := .agg (trc xs)) (by kernel_rfl) rfl) (v := .pointer (some ⟨g7, 0, none⟩)) (by kernel_rfl) rfl) (v := .pointer (some ⟨g3, 0, none⟩)) (by kernel_rfl) rfl) (v := .agg (trc xs)) (by kernel_rfl) rfl), (St.recell 0 S22 rfl (congrArg ints (done_zero 0 (fun t => sqP (nums xs) t) 61).symm)).sub sub_all sub_all⟩ ?_
  rintro mm ac wc ⟨k, hm27, hk, A25, S26⟩
  have q1 := reP_bound HB k
  have q2 := imP_bound HB k
  have b1 := sq_bound (b := 4094) q1.1 q1.2
  have b2 := sq_bound (b := 4094) q2.1 q2.2
  have q3 : k < 61 → nthP (partsL (nums xs)) k = (reP (nums xs) k, imP (nums xs) k) := fun h => partsL_at h
  refine wp_seq ?_
  refine wp_seq ?_
  refine wp_region_lit ?_
  refine s_one (.int .i64 (k : Int)) A25 S26 (g_move (by kernel_rfl)) rfl (fun ac A28 => ?_)
  refine s_one (.slice (some ⟨g13, 0, none⟩) 61 cap14) A28 S26 (g_move (by kernel_rfl)) rfl (fun ac A29 => ?_)
  refine s_one (.int .i64 61) A29 S26 (g_built (r := [(0, .slice (some ⟨g13, 0, none⟩) 61 cap14)]) (by kernel_rfl) (fun _ _ _ => by kernel_rfl)) rfl (fun ac A30 => ?_)
  refine s_one (.bool (decide ((k : Int) < 61))) A30 S26 (g_bin (u := .int .i64 (k : Int)) (k := .int .i64 61) (by kernel_rfl) (by kernel_rfl) (fun _ => by kernel_rfl) (fun _ => by kernel_rfl)) rfl (fun ac A31 => ?_)
  refine wpList_nil ?_
  refine n_then ?_
  refine c_ifb (b := (decide ((k : Int) < 61))) A31 (by kernel_rfl) (fun h32 => ?_) (fun h32 => ?_)
  · have p33 := of_decide_eq_true h32
    refine wp_skip ?_
    refine n_then ?_
    refine wp_seq ?_
    refine wp_block ?_
    refine r_begin (w0 := w0) (by kernel_rfl) (S26.sub (sub_skip sub_all) sub_all) (fun wc T34 B35 => ?_)
    have S36 := S26.kept B35
    refine r_take 0 (.int .i64 (k : Int)) A31 T34 (g_move (by kernel_rfl)) rfl rfl rfl (pf_block (pf_then (pf_then (pf_block (pf_then pf_body))))) (by kernel_rfl) (fun ac A37 => ?_)
    refine r_take 1 (.slice (some ⟨g13, 0, none⟩) 61 cap14) A37 T34 (g_move (by kernel_rfl)) rfl rfl rfl (pf_block (pf_then (pf_then (pf_block (pf_then pf_body))))) (by kernel_rfl) (fun ac A38 => ?_)
    refine r_take 2 (.int .i64 (k : Int)) A38 T34 (g_move (by kernel_rfl)) rfl rfl rfl (pf_block (pf_then (pf_then (pf_block (pf_then pf_body))))) (by kernel_rfl) (fun ac A39 => ?_)
    refine r_take 3 (.pointer (some ⟨g13, 0 + k * 2, none⟩)) A39 T34 (g_index (u := .slice (some ⟨g13, 0, none⟩) 61 cap14) (k := .int .i64 (k : Int)) (by kernel_rfl) (by kernel_rfl) (ix_sl (e := 106) (bytes := 16) k (by kernel_rfl) (by omega) (by omega))) rfl rfl rfl (pf_block (pf_then (pf_then (pf_block (pf_then pf_body))))) (by kernel_rfl) (fun ac A40 => ?_)
    refine r_take 4 (.pointer (some ⟨g13, 0 + k * 2 + 0 * 1, none⟩)) A40 T34 (g_index (u := .pointer (some ⟨g13, 0 + k * 2, none⟩)) (k := .int .i64 0) (by kernel_rfl) (by kernel_rfl) (ix_arr (len := 2) 0 (by kernel_rfl) (by omega) (by omega))) rfl rfl rfl (pf_block (pf_then (pf_then (pf_block (pf_then pf_body))))) (by kernel_rfl) (fun ac A41 => ?_)
    refine r_take 5 (.int .i64 ((nthP (partsL (nums xs)) k).1)) A41 T34 (g_load (g := g13) (off := 0 + k * 2 + 0 * 1) 0 (by kernel_rfl) rfl (rv_of (by kernel_rfl) (cur_get ht18 (by rw [show 0 + k * 2 + 0 * 1 = 2 * k by omega]; exact (rowP_get (by rw [partsL_length _]; omega)).1)))) rfl rfl rfl (pf_block (pf_then (pf_then (pf_block (pf_then pf_body))))) (by kernel_rfl) (fun ac A42 => ?_)
    refine r_take 6 (.slice (some ⟨g13, 0, none⟩) 61 cap14) A42 T34 (g_move (by kernel_rfl)) rfl rfl rfl (pf_block (pf_then (pf_then (pf_block (pf_then pf_body))))) (by kernel_rfl) (fun ac A43 => ?_)
    refine r_take 7 (.int .i64 (k : Int)) A43 T34 (g_move (by kernel_rfl)) rfl rfl rfl (pf_block (pf_then (pf_then (pf_block (pf_then pf_body))))) (by kernel_rfl) (fun ac A44 => ?_)
    refine r_take 8 (.pointer (some ⟨g13, 0 + k * 2, none⟩)) A44 T34 (g_index (u := .slice (some ⟨g13, 0, none⟩) 61 cap14) (k := .int .i64 (k : Int)) (by kernel_rfl) (by kernel_rfl) (ix_sl (e := 106) (bytes := 16) k (by kernel_rfl) (by omega) (by omega))) rfl rfl rfl (pf_block (pf_then (pf_then (pf_block (pf_then pf_body))))) (by kernel_rfl) (fun ac A45 => ?_)
    refine r_take 9 (.pointer (some ⟨g13, 0 + k * 2 + 0 * 1, none⟩)) A45 T34 (g_index (u := .pointer (some ⟨g13, 0 + k * 2, none⟩)) (k := .int .i64 0) (by kernel_rfl) (by kernel_rfl) (ix_arr (len := 2) 0 (by kernel_rfl) (by omega) (by omega))) rfl rfl rfl (pf_block (pf_then (pf_then (pf_block (pf_then pf_body))))) (by kernel_rfl) (fun ac A46 => ?_)
    refine r_take 10 (.int .i64 ((nthP (partsL (nums xs)) k).1)) A46 T34 (g_load (g := g13) (off := 0 + k * 2 + 0 * 1) 0 (by kernel_rfl) rfl (rv_of (by kernel_rfl) (cur_get ht18 (by rw [show 0 + k * 2 + 0 * 1 = 2 * k by omega]; exact (rowP_get (by rw [partsL_length _]; omega)).1)))) rfl rfl rfl (pf_block (pf_then (pf_then (pf_block (pf_then pf_body))))) (by kernel_rfl) (fun ac A47 => ?_)
    refine r_take 11 (.int .i64 (((nthP (partsL (nums xs)) k).1) * ((nthP (partsL (nums xs)) k).1))) A47 T34 (g_bin (u := .int .i64 ((nthP (partsL (nums xs)) k).1)) (k := .int .i64 ((nthP (partsL (nums xs)) k).1)) (by kernel_rfl) (by kernel_rfl) (fun _ => by kernel_rfl) (b_mul (by rw [q3 (by omega)]; simp only; omega))) rfl rfl rfl (pf_block (pf_then (pf_then (pf_block (pf_then pf_body))))) (by kernel_rfl) (fun ac A48 => ?_)
    refine r_take 12 (.slice (some ⟨g13, 0, none⟩) 61 cap14) A48 T34 (g_move (by kernel_rfl)) rfl rfl rfl (pf_block (pf_then (pf_then (pf_block (pf_then pf_body))))) (by kernel_rfl) (fun ac A49 => ?_)
    refine r_take 13 (.int .i64 (k : Int)) A49 T34 (g_move (by kernel_rfl)) rfl rfl rfl (pf_block (pf_then (pf_then (pf_block (pf_then pf_body))))) (by kernel_rfl) (fun ac A50 => ?_)
    refine r_take 14 (.pointer (some ⟨g13, 0 + k * 2, none⟩)) A50 T34 (g_index (u := .slice (some ⟨g13, 0, none⟩) 61 cap14) (k := .int .i64 (k : Int)) (by kernel_rfl) (by kernel_rfl) (ix_sl (e := 106) (bytes := 16) k (by kernel_rfl) (by omega) (by omega))) rfl rfl rfl (pf_block (pf_then (pf_then (pf_block (pf_then pf_body))))) (by kernel_rfl) (fun ac A51 => ?_)
    refine r_take 15 (.pointer (some ⟨g13, 0 + k * 2 + 1 * 1, none⟩)) A51 T34 (g_index (u := .pointer (some ⟨g13, 0 + k * 2, none⟩)) (k := .int .i64 1) (by kernel_rfl) (by kernel_rfl) (ix_arr (len := 2) 1 (by kernel_rfl) (by omega) (by omega))) rfl rfl rfl (pf_block (pf_then (pf_then (pf_block (pf_then pf_body))))) (by kernel_rfl) (fun ac A52 => ?_)
    refine r_take 16 (.int .i64 ((nthP (partsL (nums xs)) k).2)) A52 T34 (g_load (g := g13) (off := 0 + k * 2 + 1 * 1) 0 (by kernel_rfl) rfl (rv_of (by kernel_rfl) (cur_get ht18 (by rw [show 0 + k * 2 + 1 * 1 = 2 * k + 1 by omega]; exact (rowP_get (by rw [partsL_length _]; omega)).2)))) rfl rfl rfl (pf_block (pf_then (pf_then (pf_block (pf_then pf_body))))) (by kernel_rfl) (fun ac A53 => ?_)
    refine r_take 17 (.slice (some ⟨g13, 0, none⟩) 61 cap14) A53 T34 (g_move (by kernel_rfl)) rfl rfl rfl (pf_block (pf_then (pf_then (pf_block (pf_then pf_body))))) (by kernel_rfl) (fun ac A54 => ?_)
    refine r_take 18 (.int .i64 (k : Int)) A54 T34 (g_move (by kernel_rfl)) rfl rfl rfl (pf_block (pf_then (pf_then (pf_block (pf_then pf_body))))) (by kernel_rfl) (fun ac A55 => ?_)
    refine r_take 19 (.pointer (some ⟨g13, 0 + k * 2, none⟩)) A55 T34 (g_index (u := .slice (some ⟨g13, 0, none⟩) 61 cap14) (k := .int .i64 (k : Int)) (by kernel_rfl) (by kernel_rfl) (ix_sl (e := 106) (bytes := 16) k (by kernel_rfl) (by omega) (by omega))) rfl rfl rfl (pf_block (pf_then (pf_then (pf_block (pf_then pf_body))))) (by kernel_rfl) (fun ac A56 => ?_)
    refine r_take 20 (.pointer (some ⟨g13, 0 + k * 2 + 1 * 1, none⟩)) A56 T34 (g_index (u := .pointer (some ⟨g13, 0 + k * 2, none⟩)) (k := .int .i64 1) (by kernel_rfl) (by kernel_rfl) (ix_arr (len := 2) 1 (by kernel_rfl) (by omega) (by omega))) rfl rfl rfl (pf_block (pf_then (pf_then (pf_block (pf_then pf_body))))) (by kernel_rfl) (fun ac A57 => ?_)
    refine r_take 21 (.int .i64 ((nthP (partsL (nums xs)) k).2)) A57 T34 (g_load (g := g13) (off := 0 + k * 2 + 1 * 1) 0 (by kernel_rfl) rfl (rv_of (by kernel_rfl) (cur_get ht18 (by rw [show 0 + k * 2 + 1 * 1 = 2 * k + 1 by omega]; exact (rowP_get (by rw [partsL_length _]; omega)).2)))) rfl rfl rfl (pf_block (pf_then (pf_then (pf_block (pf_then pf_body))))) (by kernel_rfl) (fun ac A58 => ?_)
    refine r_take 22 (.int .i64 (((nthP (partsL (nums xs)) k).2) * ((nthP (partsL (nums xs)) k).2))) A58 T34 (g_bin (u := .int .i64 ((nthP (partsL (nums xs)) k).2)) (k := .int .i64 ((nthP (partsL (nums xs)) k).2)) (by kernel_rfl) (by kernel_rfl) (fun _ => by kernel_rfl) (b_mul (by rw [q3 (by omega)]; simp only; omega))) rfl rfl rfl (pf_block (pf_then (pf_then (pf_block (pf_then pf_body))))) (by kernel_rfl) (fun ac A59 => ?_)
    refine r_take 23 (.int .i64 (((nthP (partsL (nums xs)) k).1) * ((nthP (partsL (nums xs)) k).1) + (((nthP (partsL (nums xs)) k).2) * ((nthP (partsL (nums xs)) k).2)))) A59 T34 (g_bin (u := .int .i64 (((nthP (partsL (nums xs)) k).1) * ((nthP (partsL (nums xs)) k).1))) (k := .int .i64 (((nthP (partsL (nums xs)) k).2) * ((nthP (partsL (nums xs)) k).2))) (by kernel_rfl) (by kernel_rfl) (fun _ => by kernel_rfl) (b_add (by rw [q3 (by omega)]; simp only; omega))) rfl rfl rfl (pf_block (pf_then (pf_then (pf_block (pf_then pf_body))))) (by kernel_rfl) (fun ac A60 => ?_)
    refine r_take 24 (.pointer (some ⟨g23, k, none⟩)) A60 T34 (g_index (u := .pointer (some ⟨g23, 0, none⟩)) (k := .int .i64 (k : Int)) (by kernel_rfl) (by kernel_rfl) (ix_arr1 k (len := 61) (by kernel_rfl) (by omega) (by omega))) rfl rfl rfl (pf_block (pf_then (pf_then (pf_block (pf_then pf_body))))) (by kernel_rfl) (fun ac A61 => ?_)
    refine r_1 (i := 25) (by kernel_rfl) ?_
    refine rs_store (g := g23) (off := k) (v := .int .i64 (((nthP (partsL (nums xs)) k).1) * ((nthP (partsL (nums xs)) k).1) + (((nthP (partsL (nums xs)) k).2) * ((nthP (partsL (nums xs)) k).2)))) 0 (ints ((done 0 (fun t => sqP (nums xs) t) 61 k).set k (((nthP (partsL (nums xs)) k).1) * ((nthP (partsL (nums xs)) k).1) + (((nthP (partsL (nums xs)) k).2) * ((nthP (partsL (nums xs)) k).2))))) A61 S36 (sub_skip sub_all) sub_all (by kernel_rfl) (by kernel_rfl) rfl ((pv_of (by kernel_rfl) rfl (by rw [ints_size, done_length _ _ _ _]; omega)).trans (congrArg some (ints_set (done 0 (fun t => sqP (nums xs) t) 61 k) k (((nthP (partsL (nums xs)) k).1) * ((nthP (partsL (nums xs)) k).1) + (((nthP (partsL (nums xs)) k).2) * ((nthP (partsL (nums xs)) k).2)))))) rfl rfl (fun wc S63 => ?_)
    have T65 := S63.sub (sub_skip sub_all) sub_all
    refine r_done (by kernel_rfl) ?_
    refine n_block ?_
    refine n_then ?_
    refine wp_region_lit ?_
    refine s_one (.int .i64 (k : Int)) A61 S63 (g_move (by kernel_rfl)) rfl (fun ac A66 => ?_)
    refine s_one (.int .i64 ((k : Int) + 1)) A66 S63 (g_bin (u := .int .i64 (k : Int)) (k := .int .i64 1) (by kernel_rfl) (by kernel_rfl) (fun _ => by kernel_rfl) (b_add (by omega))) rfl (fun ac A67 => ?_)
    refine s_one (.int .i64 ((k : Int) + 1)) A67 S63 (g_assign (by kernel_rfl)) rfl (fun ac A68 => ?_)
    refine wpList_nil ?_
    refine n_then ?_
    refine ⟨_, ⟨k + 1, rfl, by omega, (A68.slot (A68.slot (A68.slot (A68.slot (A68.slot (A68.slot (A68.slot (A68.slot A68.nil (v := .int .i64 ((k : Int) + 1)) (by kernel_rfl) (congrArg (Value.int .i64) (by omega))) (v := .pointer (some ⟨g23, 0, none⟩)) (by kernel_rfl) rfl) (v := .slice (some ⟨g13, 0, none⟩) 61 cap14) (by kernel_rfl) rfl) (v := .slice (some ⟨g13, 0, none⟩) 61 cap14) (by kernel_rfl) rfl) (v := .agg (trc xs)) (by kernel_rfl) rfl) (v := .pointer (some ⟨g7, 0, none⟩)) (by kernel_rfl) rfl) (v := .pointer (some ⟨g3, 0, none⟩)) (by kernel_rfl) rfl) (v := .agg (trc xs)) (by kernel_rfl) rfl), (St.recell 0 S63 rfl (congrArg ints (by rw [← done_set 0 (fun t => sqP (nums xs) t) 61 k, q3 (by omega)]; rfl))).sub sub_all sub_all⟩, ?_⟩
    omega
  · have p69 := of_decide_eq_false h32
    refine wp_exit ?_
    refine x_then ?_
    refine x_then ?_
    refine x_hit ?_
    refine n_then ?_
    refine wp_seq ?_
    refine wp_region_lit ?_
    refine s_one (.agg (ints (done 0 (fun t => sqP (nums xs) t) 61 k))) A31 S26 (g_loadW (g := g23) 0 (by kernel_rfl) rfl ((ints_size _).trans (done_length _ _ _ _)) ⟨⟨_, Try.underlying39, rfl⟩, by kernel_rfl⟩) rfl (fun ac A70 => ?_)
    refine s_store (g := g7) (off := 0) (v := .agg (ints (done 0 (fun t => sqP (nums xs) t) 61 k))) 2 (ints (done 0 (fun t => sqP (nums xs) t) 61 k)) A70 S26 (by kernel_rfl) (by kernel_rfl) rfl (putVal_whole ((ints_size _).trans List.length_replicate) ((ints_size _).trans (done_length _ _ _ _)) ⟨⟨_, Try.underlying39, rfl⟩, by kernel_rfl⟩ (ints_one _)) (fun wc S72 => ?_)
    refine wpList_nil ?_
    refine n_then ?_
    refine wp_ret ?_
    refine fin1 (.agg (ints (done 0 (fun t => sqP (nums xs) t) 61 k))) Try.results20 A70 S72 (rv_cell (g := g7) (off := 0) 2 (by kernel_rfl) rfl (rowVal_whole ((ints_size _).trans (done_length _ _ _ _)) ⟨⟨_, Try.underlying39, rfl⟩, by kernel_rfl⟩)) ⟨?_, S72.kp⟩
    obtain rfl : k = 61 := by omega
    rw [done_all]; rfl

end Go.Proofs.Ytfooefkgdcjlhaa
