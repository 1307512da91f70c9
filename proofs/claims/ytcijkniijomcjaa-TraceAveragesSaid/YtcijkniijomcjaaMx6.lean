/- Parts of slices of floats as ints; Chunk. -/
import Derived.Test.YtcijkniijomcjaaMx5
namespace Go.Proofs.Ytcijkniijomcjaa
open Go.RowKit Go.Cpl

/-- The ints of a right matrix, and the words of ints. -/
def mi (xs : List Nat) : List Int := xs.map num
def fw (l : List Int) : List Nat := l.map (floatOfInt .f32)
theorem mi_length (xs : List Nat) : (mi xs).length = xs.length := by simp [mi]
theorem fw_length (l : List Int) : (fw l).length = l.length := by simp [fw]
theorem mi_nth {xs : List Nat} {k : Nat} (h : k < xs.length) : nthI (mi xs) k = num (nth xs k) := by
  rw [nthI_eq (by rw [mi_length]; exact h), nth_eq h]; simp [mi]
theorem mi_cut {xs : List Nat} {i : Nat} (h : i + 64 ≤ xs.length) : (done 0 (fun j => num (nth xs (i + j))) 64 64) = cutN (mi xs) i 64 := by
  rw [done_all]
  unfold cutN
  apply List.map_congr_left
  intro j hj
  rw [mi_nth (by have := List.mem_range.1 hj; omega)]
theorem mkT_fw {l : List Int} (h : l.length = 64) : mkT l 64 = fw l := by
  unfold mkT fw
  rw [done_all]
  apply List.ext_getElem
  · simp [h]
  · intro i h1 h2
    have hi : i < l.length := by simpa using h2
    simp [nthI_eq hi]
theorem fw_app (l k : List Int) : fw l ++ fw k = fw (l ++ k) := by simp [fw]
theorem sErr_range {x : Nat} (h : sErr x = 0) : -2047 ≤ num x ∧ num x ≤ 2047 := by
  have := nums_range (xs := List.replicate 64 x) List.length_replicate (fun y hy => by rw [List.eq_of_mem_replicate hy]; exact h) 0
  simpa [nums, nthI, nth] using this
theorem mi_range {xs : List Nat} (h : Right xs) (k : Nat) : -2047 ≤ nthI (mi xs) k ∧ nthI (mi xs) k ≤ 2047 := by
  by_cases hk : k < xs.length
  · rw [mi_nth hk]; exact sErr_range (h.at_ hk)
  · simp [nthI, List.getElem?_eq_none (show (mi xs).length ≤ k by rw [mi_length]; omega)]

set_option maxRecDepth 100000 in
set_option maxHeartbeats 400000 in
theorem numbersOf_x (xs : List Nat) (ad : Addr) (i : Nat) (w0 : World) (hi : i + 64 ≤ xs.length) (hr : FReads w0 (some ad) xs) (h0 : Right xs) :
    Calls Try.prog 66 #[.pointer (some (ad.add i))] w0 fun e w' => e = .returned (.agg (ints (cutN (mi xs) i 64))) ∧ Below w0.heap.size w0 w' := by
  have S0 := St.start w0
  have HR : ∀ k, k < 64 → sErr (nth xs (i + k)) = 0 := fun k hk => h0.at_ (by omega)
  obtain ⟨n, hn⟩ : ∃ n, xs.length = n := ⟨_, rfl⟩
  refine enter (n := 18) Try.func66 rfl rfl rfl (fun ac A0 => ?_)
  refine wp_seq ?_
  refine wp_region_lit ?_
  refine s_alloc (ints (List.replicate 64 0)) A0 S0 zero159 rfl (fun g3 ac wc A1 S2 => ?_)
  refine wpList_nil ?_
  refine n_then ?_
  refine wp_seq ?_
  refine wp_seq ?_
  refine wp_region_lit ?_
  refine s_one (.pointer (some (ad.add i))) A1 S2 (g_move (by kernel_rfl)) rfl (fun ac A4 => ?_)
  refine s_one (.int .i64 0) A4 S2 (g_move (by kernel_rfl)) rfl (fun ac A5 => ?_)
  refine wpList_nil ?_
  refine n_then ?_
  refine wp_block ?_
  refine c_loopN (fun mm ac wc => ∃ (k : Nat), mm = 64 - k ∧ (k ≤ 64) ∧ Fr 18 ac [(0, .pointer (some (ad.add i))), (2, .pointer (some ⟨g3, 0, none⟩)), (5, .pointer (some (ad.add i))), (6, .int .i64 (k : Int))] ∧ St w0 [⟨g3, 123, (ints (done 0 (fun j => num (nth xs (i + j))) 64 k)), true⟩] [] wc) _ ⟨0, rfl, by omega, (A5.slot (A5.slot (A5.slot (A5.slot A5.nil (v := .int .i64 0) (by kernel_rfl) (congrArg (Value.int .i64) (by omega))) (v := .pointer (some (ad.add i))) (by kernel_rfl) rfl) (v := .pointer (some ⟨g3, 0, none⟩)) (by kernel_rfl) rfl) (v := .pointer (some (ad.add i))) (by kernel_rfl) rfl), (St.recell 0 S2 rfl (congrArg ints (done_zero 0 (fun j => num (nth xs (i + j))) 64).symm)).sub sub_all sub_all⟩ ?_
  rintro mm ac wc ⟨k, hm8, hk, A6, S7⟩
  refine wp_seq ?_
  refine wp_region_lit ?_
  refine s_one (.bool (decide ((k : Int) < 64))) A6 S7 (g_bin (u := .int .i64 (k : Int)) (k := .int .i64 64) (by kernel_rfl) (by kernel_rfl) (fun _ => by kernel_rfl) (fun _ => by kernel_rfl)) rfl (fun ac A9 => ?_)
  refine wpList_nil ?_
  refine n_then ?_
  refine wp_seq ?_
  refine c_ifb (b := (decide ((k : Int) < 64))) A9 (by kernel_rfl) (fun h10 => ?_) (fun h10 => ?_)
  · have p11 := of_decide_eq_true h10
    refine wp_skip ?_
    refine n_then ?_
    refine wp_seq ?_
    refine wp_block ?_
    refine wp_seq ?_
    refine r_begin (w0 := w0) (by kernel_rfl) (S7.sub sub_all sub_all) (fun wc T12 B13 => ?_)
    have S14 := S7.kept B13
    refine r_take 0 (.int .i64 (k : Int)) A9 T12 (g_move (by kernel_rfl)) rfl rfl rfl (pf_then (pf_block (pf_then (pf_then (pf_block (pf_then pf_body)))))) (by kernel_rfl) (fun ac A15 => ?_)
    refine r_take 1 (.pointer (some (ad.add i))) A15 T12 (g_nil (by kernel_rfl)) rfl rfl rfl (pf_then (pf_block (pf_then (pf_then (pf_block (pf_then pf_body)))))) (by kernel_rfl) (fun ac A16 => ?_)
    refine r_take 2 (.pointer (some (ad.add (i + k)))) A16 T12 (g_index (u := .pointer (some (ad.add i))) (k := .int .i64 (k : Int)) (by kernel_rfl) (by kernel_rfl) (ix_xarr (len := 64) (size := 1) (y := i + k) k (by kernel_rfl) (by omega) (by omega) (by omega))) rfl rfl rfl (pf_then (pf_block (pf_then (pf_then (pf_block (pf_then pf_body)))))) (by kernel_rfl) (fun ac A17 => ?_)
    refine r_take 3 (.float .f32 (nth xs (i + k))) A17 T12 (g_loadXF (l := xs) (k := i + k) (by kernel_rfl) hr (by have hlen := hn; omega) (by kernel_rfl)) rfl rfl rfl (pf_then (pf_block (pf_then (pf_then (pf_block (pf_then pf_body)))))) (by kernel_rfl) (fun ac A18 => ?_)
    refine r_take 4 (.int .i64 (k : Int)) A18 T12 (g_assign (by kernel_rfl)) rfl rfl rfl (pf_then (pf_block (pf_then (pf_then (pf_block (pf_then pf_body)))))) (by kernel_rfl) (fun ac A19 => ?_)
    refine r_take 5 (.float .f32 (nth xs (i + k))) A19 T12 (g_assign (by kernel_rfl)) rfl rfl rfl (pf_then (pf_block (pf_then (pf_then (pf_block (pf_then pf_body)))))) (by kernel_rfl) (fun ac A20 => ?_)
    refine r_done (by kernel_rfl) ?_
    refine n_then ?_
    refine wp_region_lit ?_
    refine s_one (.int .i64 (k : Int)) A20 S14 (g_move (by kernel_rfl)) rfl (fun ac A21 => ?_)
    refine s_one (.float .f32 (nth xs (i + k))) A21 S14 (g_move (by kernel_rfl)) rfl (fun ac A22 => ?_)
    refine s_one (.int .i64 (num (nth xs (i + k)))) A22 S14 (g_conv (u := .float .f32 (nth xs (i + k))) (by kernel_rfl) (run_toInt (HR _ (by omega)))) rfl (fun ac A23 => ?_)
    refine s_one (.pointer (some ⟨g3, k, none⟩)) A23 S14 (g_index (u := .pointer (some ⟨g3, 0, none⟩)) (k := .int .i64 (k : Int)) (by kernel_rfl) (by kernel_rfl) (ix_arr1 k (len := 64) (by kernel_rfl) (by omega) (by omega))) rfl (fun ac A24 => ?_)
    refine s_store (g := g3) (off := k) (v := .int .i64 (num (nth xs (i + k)))) 0 (ints ((done 0 (fun j => num (nth xs (i + j))) 64 k).set k (num (nth xs (i + k))))) A24 S14 (by kernel_rfl) (by kernel_rfl) rfl ((pv_of (by kernel_rfl) rfl (by rw [ints_size, (done_length _ _ _ _)]; omega)).trans (congrArg some (ints_set (done 0 (fun j => num (nth xs (i + j))) 64 k) k (num (nth xs (i + k)))))) (fun wc S26 => ?_)
    refine wpList_nil ?_
    refine n_block ?_
    refine n_then ?_
    refine wp_region_lit ?_
    refine s_one (.int .i64 ((k : Int) + 1)) A24 S26 (g_bin (u := .int .i64 (k : Int)) (k := .int .i64 1) (by kernel_rfl) (by kernel_rfl) (fun _ => by kernel_rfl) (b_add (by omega))) rfl (fun ac A28 => ?_)
    refine s_one (.int .i64 ((k : Int) + 1)) A28 S26 (g_move (by kernel_rfl)) rfl (fun ac A29 => ?_)
    refine wpList_nil ?_
    refine n_then ?_
    refine ⟨_, ⟨k + 1, rfl, by omega, (A29.slot (A29.slot (A29.slot (A29.slot A29.nil (v := .int .i64 ((k : Int) + 1)) (by kernel_rfl) (congrArg (Value.int .i64) (by omega))) (v := .pointer (some (ad.add i))) (by kernel_rfl) rfl) (v := .pointer (some ⟨g3, 0, none⟩)) (by kernel_rfl) rfl) (v := .pointer (some (ad.add i))) (by kernel_rfl) rfl), (St.recell 0 S26 rfl (congrArg ints (done_set 0 (fun j => num (nth xs (i + j))) 64 k))).sub sub_all sub_all⟩, ?_⟩
    omega
  · have p30 := of_decide_eq_false h10
    refine wp_exit ?_
    refine x_then ?_
    refine x_then ?_
    refine x_hit ?_
    refine n_then ?_
    refine wp_seq ?_
    refine wp_region_lit ?_
    refine s_one (.agg (ints (done 0 (fun j => num (nth xs (i + j))) 64 k))) A9 S7 (g_loadW (g := g3) 0 (by kernel_rfl) rfl ((ints_size _).trans (done_length _ _ _ _)) ⟨⟨_, Try.underlying123, rfl⟩, by kernel_rfl⟩) rfl (fun ac A31 => ?_)
    refine s_store (g := g3) (off := 0) (v := .agg (ints (done 0 (fun j => num (nth xs (i + j))) 64 k))) 0 (ints (done 0 (fun j => num (nth xs (i + j))) 64 k)) A31 S7 (by kernel_rfl) (by kernel_rfl) rfl (putVal_whole ((ints_size _).trans (done_length _ _ _ _)) ((ints_size _).trans (done_length _ _ _ _)) ⟨⟨_, Try.underlying123, rfl⟩, by kernel_rfl⟩ (ints_one _)) (fun wc S33 => ?_)
    refine wpList_nil ?_
    refine n_then ?_
    refine wp_ret ?_
    refine fin1 (.agg (ints (done 0 (fun j => num (nth xs (i + j))) 64 k))) Try.results66 A31 S33 (rv_cell (g := g3) (off := 0) 0 (by kernel_rfl) rfl (rowVal_whole ((ints_size _).trans (done_length _ _ _ _)) ⟨⟨_, Try.underlying123, rfl⟩, by kernel_rfl⟩)) ⟨?_, S33.kp⟩
    obtain rfl : k = 64 := by omega
    rw [mi_cut hi]

set_option maxRecDepth 100000 in
set_option maxHeartbeats 400000 in
theorem ChunkF_s (A : Option Addr) (m cap : Nat) (c : Int) (w0 : World) (hc : 1 ≤ c) (hc2 : c ≤ 1000000) :
    Calls Try.prog 105 #[.slice A m cap, .int .i64 c] w0 fun e w' => ∃ u : Nat × Nat, e = .returned (.func (.func 111) #[] #[.pointer (some ⟨u.1, 0, none⟩), .pointer (some ⟨u.2, 0, none⟩)]) ∧ St w0 [⟨u.2, 3, #[.int .i64 c], true⟩, ⟨u.1, 23, #[.slice A m cap], true⟩] [] w' := by
  have S0 := St.start w0
  refine enter (n := 9) Try.func105 rfl rfl rfl (fun ac A0 => ?_)
  refine wp_seq ?_
  refine wp_region_lit ?_
  refine s_box (.slice A m cap) A0 S0 (by kernel_rfl) rfl (fun g3 ac wc A1 S2 => ?_)
  replace S2 : St _ (⟨g3, 23, #[.slice A m cap], true⟩ :: _) _ _ := S2
  refine s_box (.int .i64 c) A1 S2 (by kernel_rfl) rfl (fun g7 ac wc A5 S6 => ?_)
  replace S6 : St _ (⟨g7, 3, #[.int .i64 c], true⟩ :: _) _ _ := S6
  refine s_one (.nilFunc) A5 S6 (g_assign (by kernel_rfl)) rfl (fun ac A9 => ?_)
  refine wpList_nil ?_
  refine n_then ?_
  refine wp_seq ?_
  refine wp_seq ?_
  refine wp_region_lit ?_
  refine s_one (.int .i64 c) A9 S6 (g_load (g := g7) (off := 0) 0 (by kernel_rfl) rfl (by kernel_rfl)) rfl (fun ac A10 => ?_)
  refine s_one (.bool (decide (c < 1))) A10 S6 (g_bin (u := .int .i64 c) (k := .int .i64 1) (by kernel_rfl) (by kernel_rfl) (fun _ => by kernel_rfl) (fun _ => by kernel_rfl)) rfl (fun ac A11 => ?_)
  refine wpList_nil ?_
  refine n_then ?_
  refine c_f (b := (decide (c < 1))) A11 (by kernel_rfl) (decide_eq_false (by omega)) ?_
  refine wp_skip ?_
  refine n_then ?_
  refine wp_seq ?_
  refine wp_region_lit ?_
  refine s_one (.func (.func 111) #[] #[.pointer (some ⟨g3, 0, none⟩), .pointer (some ⟨g7, 0, none⟩)]) A11 S6 (g_func (us := []) (vs := [(0, .pointer (some ⟨g3, 0, none⟩)), (0, .pointer (some ⟨g7, 0, none⟩))]) (by kernel_rfl) (by kernel_rfl) (fun _ => by kernel_rfl)) rfl (fun ac A12 => ?_)
  refine s_one (.func (.func 111) #[] #[.pointer (some ⟨g3, 0, none⟩), .pointer (some ⟨g7, 0, none⟩)]) A12 S6 (g_assign (by kernel_rfl)) rfl (fun ac A13 => ?_)
  refine wpList_nil ?_
  refine n_then ?_
  refine wp_ret ?_
  refine fin1 (.func (.func 111) #[] #[.pointer (some ⟨g3, 0, none⟩), .pointer (some ⟨g7, 0, none⟩)]) Try.results105 A13 S6 (rv_tmp (by kernel_rfl)) ⟨(g3, g7), rfl, S6.sub sub_all sub_all⟩

set_option maxRecDepth 100000 in
set_option maxHeartbeats 400000 in
theorem ChunkB_s (A : Option Addr) (m cap : Nat) (c : Int) (w0 : World) (hc : 1 ≤ c) (hc2 : c ≤ 1000000) :
    Calls Try.prog 82 #[.slice A m cap, .int .i64 c] w0 fun e w' => ∃ u : Nat × Nat, e = .returned (.func (.func 108) #[] #[.pointer (some ⟨u.1, 0, none⟩), .pointer (some ⟨u.2, 0, none⟩)]) ∧ St w0 [⟨u.2, 3, #[.int .i64 c], true⟩, ⟨u.1, 144, #[.slice A m cap], true⟩] [] w' := by
  have S0 := St.start w0
  refine enter (n := 9) Try.func82 rfl rfl rfl (fun ac A0 => ?_)
  refine wp_seq ?_
  refine wp_region_lit ?_
  refine s_box (.slice A m cap) A0 S0 (by kernel_rfl) rfl (fun g3 ac wc A1 S2 => ?_)
  replace S2 : St _ (⟨g3, 144, #[.slice A m cap], true⟩ :: _) _ _ := S2
  refine s_box (.int .i64 c) A1 S2 (by kernel_rfl) rfl (fun g7 ac wc A5 S6 => ?_)
  replace S6 : St _ (⟨g7, 3, #[.int .i64 c], true⟩ :: _) _ _ := S6
  refine s_one (.nilFunc) A5 S6 (g_assign (by kernel_rfl)) rfl (fun ac A9 => ?_)
  refine wpList_nil ?_
  refine n_then ?_
  refine wp_seq ?_
  refine wp_seq ?_
  refine wp_region_lit ?_
  refine s_one (.int .i64 c) A9 S6 (g_load (g := g7) (off := 0) 0 (by kernel_rfl) rfl (by kernel_rfl)) rfl (fun ac A10 => ?_)
  refine s_one (.bool (decide (c < 1))) A10 S6 (g_bin (u := .int .i64 c) (k := .int .i64 1) (by kernel_rfl) (by kernel_rfl) (fun _ => by kernel_rfl) (fun _ => by kernel_rfl)) rfl (fun ac A11 => ?_)
  refine wpList_nil ?_
  refine n_then ?_
  refine c_f (b := (decide (c < 1))) A11 (by kernel_rfl) (decide_eq_false (by omega)) ?_
  refine wp_skip ?_
  refine n_then ?_
  refine wp_seq ?_
  refine wp_region_lit ?_
  refine s_one (.func (.func 108) #[] #[.pointer (some ⟨g3, 0, none⟩), .pointer (some ⟨g7, 0, none⟩)]) A11 S6 (g_func (us := []) (vs := [(0, .pointer (some ⟨g3, 0, none⟩)), (0, .pointer (some ⟨g7, 0, none⟩))]) (by kernel_rfl) (by kernel_rfl) (fun _ => by kernel_rfl)) rfl (fun ac A12 => ?_)
  refine s_one (.func (.func 108) #[] #[.pointer (some ⟨g3, 0, none⟩), .pointer (some ⟨g7, 0, none⟩)]) A12 S6 (g_assign (by kernel_rfl)) rfl (fun ac A13 => ?_)
  refine wpList_nil ?_
  refine n_then ?_
  refine wp_ret ?_
  refine fin1 (.func (.func 108) #[] #[.pointer (some ⟨g3, 0, none⟩), .pointer (some ⟨g7, 0, none⟩)]) Try.results82 A13 S6 (rv_tmp (by kernel_rfl)) ⟨(g3, g7), rfl, S6.sub sub_all sub_all⟩

end Go.Proofs.Ytcijkniijomcjaa
