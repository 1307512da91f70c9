/- Texts of the proof of TraceFrames, put together (part 5): Mx6, Mx7, Mx8, My, Mx9, Mx10, Mx11. -/
import Derived.Test.YtcijkniijomcjaaSg4
/- Parts of slices of floats as ints; Chunk. -/
namespace Go.Proofs.Ytcijkniijomcjaa
open Go.RowKit Go.Cpl

/-- The ints of a right matrix, and the words of ints. -/
def mi (xs : List Nat) : List Int := xs.map num
def fw (l : List Int) : List Nat := l.map (floatOfInt .f32)
theorem mi_length (xs : List Nat) : (mi xs).length = xs.length := by simp [mi]
theorem fw_length (l : List Int) : (fw l).length = l.length := by simp [fw]
theorem mi_nth {xs : List Nat} {k : Nat} (h : k < xs.length) : nthI (mi xs) k = num (nth xs k) := by
  rw [nthI_eq (by rw [mi_length]; exact h), nth_eq h]; simp [mi]
theorem mi_cut {xs : List Nat} {i : Nat} (h : i + 64 ≤ xs.length) : (done 0 (fun j => num (nth xs (i + j))) 64 64) = cutN (mi xs) i 64 := by
  rw [done_all]
  unfold cutN
  apply List.map_congr_left
  intro j hj
  rw [mi_nth (by have := List.mem_range.1 hj; omega)]
theorem mkT_fw {l : List Int} (h : l.length = 64) : mkT l 64 = fw l := by
  unfold mkT fw
  rw [done_all]
  apply List.ext_getElem
  · simp [h]
  · intro i h1 h2
    have hi : i < l.length := by simpa using h2
    simp [nthI_eq hi]
theorem fw_app (l k : List Int) : fw l ++ fw k = fw (l ++ k) := by simp [fw]
theorem sErr_range {x : Nat} (h : sErr x = 0) : -2047 ≤ num x ∧ num x ≤ 2047 := by
  have := nums_range (xs := List.replicate 64 x) List.length_replicate (fun y hy => by rw [List.eq_of_mem_replicate hy]; exact h) 0
  simpa [nums, nthI, nth] using this
theorem mi_range {xs : List Nat} (h : Right xs) (k : Nat) : -2047 ≤ nthI (mi xs) k ∧ nthI (mi xs) k ≤ 2047 := by
  by_cases hk : k < xs.length
  · rw [mi_nth hk]; exact sErr_range (h.at_ hk)
  · simp [nthI, List.getElem?_eq_none (show (mi xs).length ≤ k by rw [mi_length]; omega)]

set_option maxRecDepth 100000 in
set_option maxHeartbeats 400000 in
theorem numbersOf_x (xs : List Nat) (ad : Addr) (i : Nat) (w0 : World) (hi : i + 64 ≤ xs.length) (hr : FReads w0 (some ad) xs) (h0 : Right xs) :
    Calls Try.prog 66 #[.pointer (some (ad.add i))] w0 fun e w' => e = .returned (.agg (ints (cutN (mi xs) i 64))) ∧ Below w0.heap.size w0 w' := by
  have S0 := St.start w0
  have HR : ∀ k, k < 64 → sErr (nth xs (i + k)) = 0 := fun k hk => h0.at_ (by omega)
  obtain ⟨n, hn⟩ : ∃ n, xs.length = n := ⟨_, rfl⟩
  refine enter (n := 18) Try.func66 rfl rfl rfl (fun ac A0 => ?_)
  refine wp_seq ?_
  refine wp_region_lit ?_
  refine s_alloc (ints (List.replicate 64 0)) A0 S0 zero159 rfl (fun g3 ac wc A1 S2 => ?_)
  refine wpList_nil ?_
  refine n_then ?_
  refine wp_seq ?_
  refine wp_seq ?_
  refine wp_region_lit ?_
  refine s_one (.pointer (some (ad.add i))) A1 S2 (g_move (by kernel_rfl)) rfl (fun ac A4 => ?_)
  refine s_one (.int .i64 0) A4 S2 (g_move (by kernel_rfl)) rfl (fun ac A5 => ?_)
  refine wpList_nil ?_
  refine n_then ?_
  refine wp_block ?_
  refine c_loopN (fun mm ac wc => ∃ (k : Nat), mm = 64 - k ∧ (k ≤ 64) ∧ Fr 18 ac [(0, .pointer (some (ad.add i))), (2, .pointer (some ⟨g3, 0, none⟩)), (5, .pointer (some (ad.add i))), (6, .int .i64 (k : Int))] ∧ St w0 [⟨g3, 123, (ints (done 0 (fun j => num (nth xs (i + j))) 64 k)), true⟩] [] wc) _ ⟨0, rfl, by omega, (A5.slot (A5.slot (A5.slot (A5.slot A5.nil (v := .int .i64 0) (by kernel_rfl) (congrArg (Value.int .i64) (by omega))) (v := .pointer (some (ad.add i))) (by kernel_rfl) rfl) (v := .pointer (some ⟨g3, 0, none⟩)) (by kernel_rfl) rfl) (v := .pointer (some (ad.add i))) (by kernel_rfl) rfl), (St.recell 0 S2 rfl (congrArg ints (done_zero 0 (fun j => num (nth xs (i + j))) 64).symm)).sub sub_all sub_all⟩ ?_
  rintro mm ac wc ⟨k, hm8, hk, A6, S7⟩
  refine wp_seq ?_
  refine wp_region_lit ?_
  refine s_one (.bool (decide ((k : Int) < 64))) A6 S7 (g_bin (u := .int .i64 (k : Int)) (k := .int .i64 64) (by kernel_rfl) (by kernel_rfl) (fun _ => by kernel_rfl) (fun _ => by kernel_rfl)) rfl (fun ac A9 => ?_)
  refine wpList_nil ?_
  refine n_then ?_
  refine wp_seq ?_
  refine c_ifb (b := (decide ((k : Int) < 64))) A9 (by kernel_rfl) (fun h10 => ?_) (fun h10 => ?_)
  · have p11 := of_decide_eq_true h10
    refine wp_skip ?_
    refine n_then ?_
    refine wp_seq ?_
    refine wp_block ?_
    refine wp_seq ?_
    refine r_begin (w0 := w0) (by kernel_rfl) (S7.sub sub_all sub_all) (fun wc T12 B13 => ?_)
    have S14 := S7.kept B13
    refine r_take 0 (.int .i64 (k : Int)) A9 T12 (g_move (by kernel_rfl)) rfl rfl rfl (pf_then (pf_block (pf_then (pf_then (pf_block (pf_then pf_body)))))) (by kernel_rfl) (fun ac A15 => ?_)
    refine r_take 1 (.pointer (some (ad.add i))) A15 T12 (g_nil (by kernel_rfl)) rfl rfl rfl (pf_then (pf_block (pf_then (pf_then (pf_block (pf_then pf_body)))))) (by kernel_rfl) (fun ac A16 => ?_)
    refine r_take 2 (.pointer (some (ad.add (i + k)))) A16 T12 (g_index (u := .pointer (some (ad.add i))) (k := .int .i64 (k : Int)) (by kernel_rfl) (by kernel_rfl) (ix_xarr (len := 64) (size := 1) (y := i + k) k (by kernel_rfl) (by omega) (by omega) (by omega))) rfl rfl rfl (pf_then (pf_block (pf_then (pf_then (pf_block (pf_then pf_body)))))) (by kernel_rfl) (fun ac A17 => ?_)
    refine r_take 3 (.float .f32 (nth xs (i + k))) A17 T12 (g_loadXF (l := xs) (k := i + k) (by kernel_rfl) hr (by have hlen := hn; omega) (by kernel_rfl)) rfl rfl rfl (pf_then (pf_block (pf_then (pf_then (pf_block (pf_then pf_body)))))) (by kernel_rfl) (fun ac A18 => ?_)
    refine r_take 4 (.int .i64 (k : Int)) A18 T12 (g_assign (by kernel_rfl)) rfl rfl rfl (pf_then (pf_block (pf_then (pf_then (pf_block (pf_then pf_body)))))) (by kernel_rfl) (fun ac A19 => ?_)
    refine r_take 5 (.float .f32 (nth xs (i + k))) A19 T12 (g_assign (by kernel_rfl)) rfl rfl rfl (pf_then (pf_block (pf_then (pf_then (pf_block (pf_then pf_body)))))) (by kernel_rfl) (fun ac A20 => ?_)
    refine r_done (by kernel_rfl) ?_
    refine n_then ?_
    refine wp_region_lit ?_
    refine s_one (.int .i64 (k : Int)) A20 S14 (g_move (by kernel_rfl)) rfl (fun ac A21 => ?_)
    refine s_one (.float .f32 (nth xs (i + k))) A21 S14 (g_move (by kernel_rfl)) rfl (fun ac A22 => ?_)
    refine s_one (.int .i64 (num (nth xs (i + k)))) A22 S14 (g_conv (u := .float .f32 (nth xs (i + k))) (by kernel_rfl) (run_toInt (HR _ (by omega)))) rfl (fun ac A23 => ?_)
    refine s_one (.pointer (some ⟨g3, k, none⟩)) A23 S14 (g_index (u := .pointer (some ⟨g3, 0, none⟩)) (k := .int .i64 (k : Int)) (by kernel_rfl) (by kernel_rfl) (ix_arr1 k (len := 64) (by kernel_rfl) (by omega) (by omega))) rfl (fun ac A24 => ?_)
    refine s_store (g := g3) (off := k) (v := .int .i64 (num (nth xs (i + k)))) 0 (ints ((done 0 (fun j => num (nth xs (i + j))) 64 k).set k (num (nth xs (i + k))))) A24 S14 (by kernel_rfl) (by kernel_rfl) rfl ((pv_of (by kernel_rfl) rfl (by rw [ints_size, (done_length _ _ _ _)]; omega)).trans (congrArg some (ints_set (done 0 (fun j => num (nth xs (i + j))) 64 k) k (num (nth xs (i + k)))))) (fun wc S26 => ?_)
    refine wpList_nil ?_
    refine n_block ?_
    refine n_then ?_
    refine wp_region_lit ?_
    refine s_one (.int .i64 ((k : Int) + 1)) A24 S26 (g_bin (u := .int .i64 (k : Int)) (k := .int .i64 1) (by kernel_rfl) (by kernel_rfl) (fun _ => by kernel_rfl) (b_add (by omega))) rfl (fun ac A28 => ?_)
    refine s_one (.int .i64 ((k : Int) + 1)) A28 S26 (g_move (by kernel_rfl)) rfl (fun ac A29 => ?_)
    refine wpList_nil ?_
    refine n_then ?_
    refine ⟨_, ⟨k + 1, rfl, by omega, (A29.slot (A29.slot (A29.slot (A29.slot A29.nil (v := .int .i64 ((k : Int) + 1)) (by kernel_rfl) (congrArg (Value.int .i64) (by omega))) (v := .pointer (some (ad.add i))) (by kernel_rfl) rfl) (v := .pointer (some ⟨g3, 0, none⟩)) (by kernel_rfl) rfl) (v := .pointer (some (ad.add i))) (by kernel_rfl) rfl), (St.recell 0 S26 rfl (congrArg ints (done_set 0 (fun j => num (nth xs (i + j))) 64 k))).sub sub_all sub_all⟩, ?_⟩
    omega
  · have p30 := of_decide_eq_false h10
    refine wp_exit ?_
    refine x_then ?_
    refine x_then ?_
    refine x_hit ?_
    refine n_then ?_
    refine wp_seq ?_
    refine wp_region_lit ?_
    refine s_one (.agg (ints (done 0 (fun j => num (nth xs (i + j))) 64 k))) A9 S7 (g_loadW (g := g3) 0 (by kernel_rfl) rfl ((ints_size _).trans (done_length _ _ _ _)) ⟨⟨_, Try.underlying123, rfl⟩, by kernel_rfl⟩) rfl (fun ac A31 => ?_)
    refine s_store (g := g3) (off := 0) (v := .agg (ints (done 0 (fun j => num (nth xs (i + j))) 64 k))) 0 (ints (done 0 (fun j => num (nth xs (i + j))) 64 k)) A31 S7 (by kernel_rfl) (by kernel_rfl) rfl (putVal_whole ((ints_size _).trans (done_length _ _ _ _)) ((ints_size _).trans (done_length _ _ _ _)) ⟨⟨_, Try.underlying123, rfl⟩, by kernel_rfl⟩ (ints_one _)) (fun wc S33 => ?_)
    refine wpList_nil ?_
    refine n_then ?_
    refine wp_ret ?_
    refine fin1 (.agg (ints (done 0 (fun j => num (nth xs (i + j))) 64 k))) Try.results66 A31 S33 (rv_cell (g := g3) (off := 0) 0 (by kernel_rfl) rfl (rowVal_whole ((ints_size _).trans (done_length _ _ _ _)) ⟨⟨_, Try.underlying123, rfl⟩, by kernel_rfl⟩)) ⟨?_, S33.kp⟩
    obtain rfl : k = 64 := by omega
    rw [mi_cut hi]

set_option maxRecDepth 100000 in
set_option maxHeartbeats 400000 in
theorem ChunkF_s (A : Option Addr) (m cap : Nat) (c : Int) (w0 : World) (hc : 1 ≤ c) (hc2 : c ≤ 1000000) :
    Calls Try.prog 105 #[.slice A m cap, .int .i64 c] w0 fun e w' => ∃ u : Nat × Nat, e = .returned (.func (.func 111) #[] #[.pointer (some ⟨u.1, 0, none⟩), .pointer (some ⟨u.2, 0, none⟩)]) ∧ St w0 [⟨u.2, 3, #[.int .i64 c], true⟩, ⟨u.1, 23, #[.slice A m cap], true⟩] [] w' := by
  have S0 := St.start w0
  refine enter (n := 9) Try.func105 rfl rfl rfl (fun ac A0 => ?_)
  refine wp_seq ?_
  refine wp_region_lit ?_
  refine s_box (.slice A m cap) A0 S0 (by kernel_rfl) rfl (fun g3 ac wc A1 S2 => ?_)
  replace S2 : St _ (⟨g3, 23, #[.slice A m cap], true⟩ :: _) _ _ := S2
  refine s_box (.int .i64 c) A1 S2 (by kernel_rfl) rfl (fun g7 ac wc A5 S6 => ?_)
  replace S6 : St _ (⟨g7, 3, #[.int .i64 c], true⟩ :: _) _ _ := S6
  refine s_one (.nilFunc) A5 S6 (g_assign (by kernel_rfl)) rfl (fun ac A9 => ?_)
  refine wpList_nil ?_
  refine n_then ?_
  refine wp_seq ?_
  refine wp_seq ?_
  refine wp_region_lit ?_
  refine s_one (.int .i64 c) A9 S6 (g_load (g := g7) (off := 0) 0 (by kernel_rfl) rfl (by kernel_rfl)) rfl (fun ac A10 => ?_)
  refine s_one (.bool (decide (c < 1))) A10 S6 (g_bin (u := .int .i64 c) (k := .int .i64 1) (by kernel_rfl) (by kernel_rfl) (fun _ => by kernel_rfl) (fun _ => by kernel_rfl)) rfl (fun ac A11 => ?_)
  refine wpList_nil ?_
  refine n_then ?_
  refine c_f (b := (decide (c < 1))) A11 (by kernel_rfl) (decide_eq_false (by omega)) ?_
  refine wp_skip ?_
  refine n_then ?_
  refine wp_seq ?_
  refine wp_region_lit ?_
  refine s_one (.func (.func 111) #[] #[.pointer (some ⟨g3, 0, none⟩), .pointer (some ⟨g7, 0, none⟩)]) A11 S6 (g_func (us := []) (vs := [(0, .pointer (some ⟨g3, 0, none⟩)), (0, .pointer (some ⟨g7, 0, none⟩))]) (by kernel_rfl) (by kernel_rfl) (fun _ => by kernel_rfl)) rfl (fun ac A12 => ?_)
  refine s_one (.func (.func 111) #[] #[.pointer (some ⟨g3, 0, none⟩), .pointer (some ⟨g7, 0, none⟩)]) A12 S6 (g_assign (by kernel_rfl)) rfl (fun ac A13 => ?_)
  refine wpList_nil ?_
  refine n_then ?_
  refine wp_ret ?_
  refine fin1 (.func (.func 111) #[] #[.pointer (some ⟨g3, 0, none⟩), .pointer (some ⟨g7, 0, none⟩)]) Try.results105 A13 S6 (rv_tmp (by kernel_rfl)) ⟨(g3, g7), rfl, S6.sub sub_all sub_all⟩

set_option maxRecDepth 100000 in
set_option maxHeartbeats 400000 in
theorem ChunkB_s (A : Option Addr) (m cap : Nat) (c : Int) (w0 : World) (hc : 1 ≤ c) (hc2 : c ≤ 1000000) :
    Calls Try.prog 82 #[.slice A m cap, .int .i64 c] w0 fun e w' => ∃ u : Nat × Nat, e = .returned (.func (.func 108) #[] #[.pointer (some ⟨u.1, 0, none⟩), .pointer (some ⟨u.2, 0, none⟩)]) ∧ St w0 [⟨u.2, 3, #[.int .i64 c], true⟩, ⟨u.1, 144, #[.slice A m cap], true⟩] [] w' := by
  have S0 := St.start w0
  refine enter (n := 9) Try.func82 rfl rfl rfl (fun ac A0 => ?_)
  refine wp_seq ?_
  refine wp_region_lit ?_
  refine s_box (.slice A m cap) A0 S0 (by kernel_rfl) rfl (fun g3 ac wc A1 S2 => ?_)
  replace S2 : St _ (⟨g3, 144, #[.slice A m cap], true⟩ :: _) _ _ := S2
  refine s_box (.int .i64 c) A1 S2 (by kernel_rfl) rfl (fun g7 ac wc A5 S6 => ?_)
  replace S6 : St _ (⟨g7, 3, #[.int .i64 c], true⟩ :: _) _ _ := S6
  refine s_one (.nilFunc) A5 S6 (g_assign (by kernel_rfl)) rfl (fun ac A9 => ?_)
  refine wpList_nil ?_
  refine n_then ?_
  refine wp_seq ?_
  refine wp_seq ?_
  refine wp_region_lit ?_
  refine s_one (.int .i64 c) A9 S6 (g_load (g := g7) (off := 0) 0 (by kernel_rfl) rfl (by kernel_rfl)) rfl (fun ac A10 => ?_)
  refine s_one (.bool (decide (c < 1))) A10 S6 (g_bin (u := .int .i64 c) (k := .int .i64 1) (by kernel_rfl) (by kernel_rfl) (fun _ => by kernel_rfl) (fun _ => by kernel_rfl)) rfl (fun ac A11 => ?_)
  refine wpList_nil ?_
  refine n_then ?_
  refine c_f (b := (decide (c < 1))) A11 (by kernel_rfl) (decide_eq_false (by omega)) ?_
  refine wp_skip ?_
  refine n_then ?_
  refine wp_seq ?_
  refine wp_region_lit ?_
  refine s_one (.func (.func 108) #[] #[.pointer (some ⟨g3, 0, none⟩), .pointer (some ⟨g7, 0, none⟩)]) A11 S6 (g_func (us := []) (vs := [(0, .pointer (some ⟨g3, 0, none⟩)), (0, .pointer (some ⟨g7, 0, none⟩))]) (by kernel_rfl) (by kernel_rfl) (fun _ => by kernel_rfl)) rfl (fun ac A12 => ?_)
  refine s_one (.func (.func 108) #[] #[.pointer (some ⟨g3, 0, none⟩), .pointer (some ⟨g7, 0, none⟩)]) A12 S6 (g_assign (by kernel_rfl)) rfl (fun ac A13 => ?_)
  refine wpList_nil ?_
  refine n_then ?_
  refine wp_ret ?_
  refine fin1 (.func (.func 108) #[] #[.pointer (some ⟨g3, 0, none⟩), .pointer (some ⟨g7, 0, none⟩)]) Try.results82 A13 S6 (rv_tmp (by kernel_rfl)) ⟨(g3, g7), rfl, S6.sub sub_all sub_all⟩

end Go.Proofs.Ytcijkniijomcjaa
/- A matrix is opened. -/
namespace Go.Proofs.Ytcijkniijomcjaa
open Go.RowKit Go.Cpl

theorem pairs_snoc {l : List Int} {k m : Nat} (h : k * 64 + 64 ≤ l.length) (hm : m = k + 1) : rowI (l.take (k * 64)) ++ rowI (cutN l (k * 64) 64) = rowI (l.take (m * 64)) := by
  subst hm
  rw [rowI_app, take_cutN h, Nat.succ_mul]
theorem row_some {w : World} {base : Nat} {e : TypeId} {v : Value} {size m : Nat} {xs : List Value} (h : w.ownsRow base e size v m xs) (hm : 0 < m) : ∃ g cap, v = .slice (some (Addr.mk g 0 none)) m cap := by
  rcases h.2 with ⟨_, h0⟩ | ⟨g, cap, cur, hv, _⟩
  · omega
  · exact ⟨g, cap, hv⟩

set_option maxRecDepth 100000 in
set_option maxHeartbeats 400000 in
theorem open_err (el : Int) (A : Option Addr) (n cap : Nat) (xs : List Nat) (w0 : World) (hn : xs.length = n) (hr : FReads w0 A xs) (hm : n ≤ 1000) (h0 : (mxC el xs).2 ≠ 0) :
    Calls Try.prog 72 #[.agg #[.int .i64 el, .slice A n cap]] w0 fun e w' => e = .returned (.tuple #[.pointer none, .int .i64 (mxC el xs).2]) ∧ Below w0.heap.size w0 w' := by
  have S0 := St.start w0
  refine enterM (n := 33) Try.func72 rfl rfl rfl (fun ac A0 => ?_)
  refine wp_seq ?_
  refine wp_region_lit ?_
  refine s_box (.agg #[.int .i64 el, .slice A n cap]) A0 S0 (by kernel_rfl) rfl (fun g3 ac wc A1 S2 => ?_)
  replace S2 : St _ (⟨g3, 30, #[.int .i64 el, .slice A n cap], true⟩ :: _) _ _ := S2
  refine s_one (.pointer none) A1 S2 (g_assign (by kernel_rfl)) rfl (fun ac A5 => ?_)
  refine s_one (.int .i64 0) A5 S2 (g_assign (by kernel_rfl)) rfl (fun ac A6 => ?_)
  refine wpList_nil ?_
  refine n_then ?_
  refine wp_seq ?_
  refine wp_seq ?_
  refine wp_region_lit ?_
  refine s_one (.agg #[.int .i64 el, .slice A n cap]) A6 S2 (g_load (g := g3) (off := 0) 0 (by kernel_rfl) rfl (by kernel_rfl)) rfl (fun ac A7 => ?_)
  refine s_call (fs := #[]) (cp := #[]) (r := [(0, .agg #[.int .i64 el, .slice A n cap])]) #[.agg #[.int .i64 el, .slice A n cap]] (.int .i64 ((mxC el xs).2)) A7 S2 (matrixErr_s el A n cap xs _ hn (hr.kept S2.kp) (by omega)) Try.call63 (by kernel_rfl) (by kernel_rfl) (by kernel_rfl) rfl (fun ac wc A8 S9 => ?_)
  refine s_one (.int .i64 ((mxC el xs).2)) A8 S9 (g_assign (by kernel_rfl)) rfl (fun ac A11 => ?_)
  refine wpList_nil ?_
  refine n_then ?_
  refine wp_seq ?_
  refine wp_region_lit ?_
  refine s_one (.int .i64 ((mxC el xs).2)) A11 S9 (g_move (by kernel_rfl)) rfl (fun ac A12 => ?_)
  refine s_one (.bool (decide ((mxC el xs).2 ≠ 0))) A12 S9 (g_bin (u := .int .i64 ((mxC el xs).2)) (k := .int .i64 0) (by kernel_rfl) (by kernel_rfl) (fun _ => by kernel_rfl) b_neq) rfl (fun ac A13 => ?_)
  refine wpList_nil ?_
  refine n_then ?_
  refine c_t (b := (decide ((mxC el xs).2 ≠ 0))) A13 (by kernel_rfl) (decide_eq_true h0) ?_
  refine wp_seq ?_
  refine wp_region_lit ?_
  refine s_one (.int .i64 ((mxC el xs).2)) A13 S9 (g_move (by kernel_rfl)) rfl (fun ac A14 => ?_)
  refine s_one (.pointer none) A14 S9 (g_assign (by kernel_rfl)) rfl (fun ac A15 => ?_)
  refine s_one (.int .i64 ((mxC el xs).2)) A15 S9 (g_assign (by kernel_rfl)) rfl (fun ac A16 => ?_)
  refine wpList_nil ?_
  refine n_then ?_
  refine wp_ret ?_
  refine r_then ?_
  refine m_ret0 A16 ?_
  refine fin2 (.pointer none) (.int .i64 ((mxC el xs).2)) Try.results72 A16 S9 (rv_tmp (by kernel_rfl)) (rv_tmp (by kernel_rfl)) ⟨?_, S9.kp⟩
  rfl

set_option maxRecDepth 100000 in
set_option maxHeartbeats 400000 in
theorem open_ok (ne n cap : Nat) (ad : Addr) (xs : List Nat) (w0 : World) (hn : xs.length = n) (hr : FReads w0 (some ad) xs) (hm : n ≤ 1000) (hcp : n ≤ cap) (h1 : 1 ≤ ne) (hne : n = ne * ne * 64) (h0 : (mxC (ne : Int) xs).2 = 0) :
    Calls Try.prog 72 #[.agg #[.int .i64 (ne : Int), .slice (some ad) n cap]] w0 fun e w' => ∃ u : Nat × Nat × Nat, e = .returned (.tuple #[.pointer (some ⟨u.1, 0, none⟩), .int .i64 0]) ∧ St w0 [⟨u.1, 137, #[.int .i64 (ne : Int), .slice (some (Addr.mk u.2.1 0 none)) (ne * ne) u.2.2], true⟩] [⟨.slice (some (Addr.mk u.2.1 0 none)) (ne * ne) u.2.2, 123, 64, (ne * ne), (rowI (mi xs))⟩] w' := by
  have S0 := St.start w0
  have hR : Right xs := right_of (mxC_0 h0).2.2
  have hpos : 0 < ne * ne := Nat.mul_pos h1 h1
  have hml : (mi xs).length = ne * ne * 64 := by rw [mi_length, hn, hne]
  have hne3 : ne ≤ 3 := by rcases Nat.lt_or_ge 3 ne with q | q; have := Nat.mul_le_mul q q; omega; exact q
  have hee : ne * ne ≤ 15 := by omega
  refine enterM (n := 33) Try.func72 rfl rfl rfl (fun ac A0 => ?_)
  refine wp_seq ?_
  refine wp_region_lit ?_
  refine s_box (.agg #[.int .i64 (ne : Int), .slice (some ad) n cap]) A0 S0 (by kernel_rfl) rfl (fun g3 ac wc A1 S2 => ?_)
  replace S2 : St _ (⟨g3, 30, #[.int .i64 (ne : Int), .slice (some ad) n cap], true⟩ :: _) _ _ := S2
  refine s_one (.pointer none) A1 S2 (g_assign (by kernel_rfl)) rfl (fun ac A5 => ?_)
  refine s_one (.int .i64 0) A5 S2 (g_assign (by kernel_rfl)) rfl (fun ac A6 => ?_)
  refine wpList_nil ?_
  refine n_then ?_
  refine wp_seq ?_
  refine wp_seq ?_
  refine wp_region_lit ?_
  refine s_one (.agg #[.int .i64 (ne : Int), .slice (some ad) n cap]) A6 S2 (g_load (g := g3) (off := 0) 0 (by kernel_rfl) rfl (by kernel_rfl)) rfl (fun ac A7 => ?_)
  refine s_call (fs := #[]) (cp := #[]) (r := [(0, .agg #[.int .i64 (ne : Int), .slice (some ad) n cap])]) #[.agg #[.int .i64 (ne : Int), .slice (some ad) n cap]] (.int .i64 ((mxC (ne : Int) xs).2)) A7 S2 (matrixErr_s (ne : Int) (some ad) n cap xs _ hn (hr.kept S2.kp) (by omega)) Try.call63 (by kernel_rfl) (by kernel_rfl) (by kernel_rfl) rfl (fun ac wc A8 S9 => ?_)
  refine s_one (.int .i64 ((mxC (ne : Int) xs).2)) A8 S9 (g_assign (by kernel_rfl)) rfl (fun ac A11 => ?_)
  refine wpList_nil ?_
  refine n_then ?_
  refine wp_seq ?_
  refine wp_region_lit ?_
  refine s_one (.int .i64 ((mxC (ne : Int) xs).2)) A11 S9 (g_move (by kernel_rfl)) rfl (fun ac A12 => ?_)
  refine s_one (.bool (decide ((mxC (ne : Int) xs).2 ≠ 0))) A12 S9 (g_bin (u := .int .i64 ((mxC (ne : Int) xs).2)) (k := .int .i64 0) (by kernel_rfl) (by kernel_rfl) (fun _ => by kernel_rfl) b_neq) rfl (fun ac A13 => ?_)
  refine wpList_nil ?_
  refine n_then ?_
  refine c_f (b := (decide ((mxC (ne : Int) xs).2 ≠ 0))) A13 (by kernel_rfl) (decide_eq_false (fun h => h h0)) ?_
  refine wp_skip ?_
  refine n_then ?_
  refine wp_seq ?_
  refine wp_region_lit ?_
  refine s_one (.pointer (some ⟨g3, 0, none⟩)) A13 S9 (g_field (u := .pointer (some ⟨g3, 0, none⟩)) (by kernel_rfl) (fun _ => by kernel_rfl)) rfl (fun ac A14 => ?_)
  refine s_one (.int .i64 (ne : Int)) A14 S9 (g_load (g := g3) (off := 0) 0 (by kernel_rfl) rfl (by kernel_rfl)) rfl (fun ac A15 => ?_)
  refine s_one (.agg #[.int .i64 (ne : Int), .slice none 0 0]) A15 S9 (g_build (r := [(0, .int .i64 (ne : Int))]) (by kernel_rfl) (fun _ => by kernel_rfl)) rfl (fun ac A16 => ?_)
  refine s_box (.agg #[.int .i64 (ne : Int), .slice none 0 0]) A16 S9 (by kernel_rfl) rfl (fun g19 ac wc A17 S18 => ?_)
  replace S18 : St _ (⟨g19, 137, #[.int .i64 (ne : Int), .slice none 0 0], true⟩ :: _) _ _ := S18
  refine s_alloc (#[.pointer none]) A17 S18 (by kernel_rfl) rfl (fun g23 ac wc A21 S22 => ?_)
  refine s_store (g := g23) (off := 0) (v := .pointer (some ⟨g19, 0, none⟩)) 0 (#[.pointer (some ⟨g19, 0, none⟩)]) A21 S22 (by kernel_rfl) (by kernel_rfl) rfl (by kernel_rfl) (fun wc S25 => ?_)
  refine wpList_nil ?_
  refine n_then ?_
  refine wp_seq ?_
  refine wp_seq ?_
  refine wp_region_lit ?_
  refine s_one (.pointer (some ⟨g3, 1, none⟩)) A21 S25 (g_field (u := .pointer (some ⟨g3, 0, none⟩)) (by kernel_rfl) (fun _ => by kernel_rfl)) rfl (fun ac A27 => ?_)
  refine s_one (.slice (some ad) n cap) A27 S25 (g_load (g := g3) (off := 1) 2 (by kernel_rfl) rfl (by kernel_rfl)) rfl (fun ac A28 => ?_)
  refine s_callSt (T := Nat × Nat) (fs := #[]) (cp := #[]) (r := [(0, .slice (some ad) n cap), (0, .int .i64 64)]) #[.slice (some ad) n cap, .int .i64 64] (fun u => .func (.func 111) #[] #[.pointer (some ⟨u.1, 0, none⟩), .pointer (some ⟨u.2, 0, none⟩)]) (fun u => [⟨u.2, 3, #[.int .i64 64], true⟩, ⟨u.1, 23, #[.slice (some ad) n cap], true⟩]) (fun u => []) A28 S25 (ChunkF_s (some ad) n cap 64 _ (by omega) (by omega)) (fun u x hx => by simp only [List.mem_cons, List.not_mem_nil, or_false] at hx; rcases hx with rfl | rfl <;> rfl) Try.call105 (by kernel_rfl) (by kernel_rfl) (by kernel_rfl) rfl (fun u34 ac wc A29 S30 => ?_)
  obtain ⟨gc32, gd33⟩ := u34
  replace S30 : St w0 [⟨gd33, 3, #[.int .i64 64], true⟩, ⟨gc32, 23, #[.slice (some ad) n cap], true⟩, ⟨g23, 130, #[.pointer (some ⟨g19, 0, none⟩)], true⟩, ⟨g19, 137, #[.int .i64 (ne : Int), .slice none 0 0], true⟩, ⟨g3, 30, #[.int .i64 (ne : Int), .slice (some ad) n cap], true⟩] [] _ := S30
  refine wpList_nil ?_
  refine n_then ?_
  refine wp_block ?_
  refine c_range (α := Nat) (gf := 111) (fs := #[]) (lb := #[.pointer (some ⟨gc32, 0, none⟩), .pointer (some ⟨gd33, 0, none⟩)]) (encs := fun x => #[.slice (some (ad.add (x * 64))) 64 64]) (G := [⟨gc32, 23, #[.slice (some ad) n cap], true⟩, ⟨gd33, 3, #[.int .i64 64], true⟩]) (xs := List.range (ne * ne)) A29 S30 (by kernel_rfl) Try.call111 (List.forall_mem_cons.2 ⟨S30.get 1 rfl, (List.forall_mem_cons.2 ⟨S30.get 0 rfl, (List.forall_mem_nil _)⟩)⟩) (chunkF_seq gc32 gd33 true true ad n cap 64 (ne * ne) (by decide) hne hcp (by omega)) (fun _ => rfl) (fun x => [(19, .slice (some (ad.add (x * 64))) 64 64)]) (fun _ => (by first | rfl | simp)) (fun _ => (List.forall_mem_cons.2 ⟨(show 19 < 33 by decide), (List.forall_mem_nil _)⟩)) (fun pre W => ∃ (v : Value), St w0 [⟨gd33, 3, #[.int .i64 64], true⟩, ⟨gc32, 23, #[.slice (some ad) n cap], true⟩, ⟨g23, 130, #[.pointer (some ⟨g19, 0, none⟩)], true⟩, ⟨g19, 137, #[.int .i64 (ne : Int), v], true⟩, ⟨g3, 30, #[.int .i64 (ne : Int), .slice (some ad) n cap], true⟩] [⟨v, 123, 64, pre.length, (rowI ((mi xs).take (pre.length * 64)))⟩] W) (fun _ _ => False) ?_ ?_ ?_ ?_ (fun x => [(6, .slice (some (ad.add (x * 64))) 64 64), (19, .slice (some (ad.add (x * 64))) 64 64), (0, .agg #[.int .i64 (ne : Int), .slice (some ad) n cap]), (1, .pointer (some ⟨g3, 0, none⟩)), (2, .pointer none), (3, .int .i64 0), (7, .agg #[.int .i64 (ne : Int), .slice (some ad) n cap]), (8, .int .i64 ((mxC (ne : Int) xs).2)), (4, .int .i64 ((mxC (ne : Int) xs).2)), (9, .int .i64 ((mxC (ne : Int) xs).2)), (10, .bool (decide ((mxC (ne : Int) xs).2 ≠ 0))), (12, .pointer (some ⟨g3, 0, none⟩)), (13, .int .i64 (ne : Int)), (14, .agg #[.int .i64 (ne : Int), .slice none 0 0]), (15, .pointer (some ⟨g19, 0, none⟩)), (5, .pointer (some ⟨g23, 0, none⟩)), (16, .pointer (some ⟨g3, 1, none⟩)), (17, .slice (some ad) n cap), (18, .func (.func 111) #[] #[.pointer (some ⟨gc32, 0, none⟩), .pointer (some ⟨gd33, 0, none⟩)])]) ?_ ?_ ?_ ?_
  · rintro pre W W' row ⟨v, hS⟩ hg hr
    exact ⟨v, St.round hS hg hr⟩
  · rintro pre W W' ⟨v, hS⟩ hb
    exact ⟨v, hS.kept hb⟩
  · exact fun _ _ _ _ h _ _ => h
  · have S35 := S30.nilRow 123 64
    exact ⟨.slice none 0 0, (St.rerow 0 (St.recell 3 S35 rfl (by rfl)) rfl ⟨rfl, rfl⟩).sub sub_all sub_all⟩
  · intro lz x a' WA K HA HK
    have SA := St.start WA
    replace HA : Fr 33 a' [(19, .slice (some (ad.add (x * 64))) 64 64), (0, .agg #[.int .i64 (ne : Int), .slice (some ad) n cap]), (1, .pointer (some ⟨g3, 0, none⟩)), (2, .pointer none), (3, .int .i64 0), (7, .agg #[.int .i64 (ne : Int), .slice (some ad) n cap]), (8, .int .i64 ((mxC (ne : Int) xs).2)), (4, .int .i64 ((mxC (ne : Int) xs).2)), (9, .int .i64 ((mxC (ne : Int) xs).2)), (10, .bool (decide ((mxC (ne : Int) xs).2 ≠ 0))), (12, .pointer (some ⟨g3, 0, none⟩)), (13, .int .i64 (ne : Int)), (14, .agg #[.int .i64 (ne : Int), .slice none 0 0]), (15, .pointer (some ⟨g19, 0, none⟩)), (5, .pointer (some ⟨g23, 0, none⟩)), (16, .pointer (some ⟨g3, 1, none⟩)), (17, .slice (some ad) n cap), (18, .func (.func 111) #[] #[.pointer (some ⟨gc32, 0, none⟩), .pointer (some ⟨gd33, 0, none⟩)])] := (HA.slot (HA.slot (HA.slot (HA.slot (HA.slot (HA.slot (HA.slot (HA.slot (HA.slot (HA.slot (HA.slot (HA.slot (HA.slot (HA.slot (HA.slot (HA.slot (HA.slot (HA.slot HA.nil (v := .func (.func 111) #[] #[.pointer (some ⟨gc32, 0, none⟩), .pointer (some ⟨gd33, 0, none⟩)]) (by kernel_rfl) rfl) (v := .slice (some ad) n cap) (by kernel_rfl) rfl) (v := .pointer (some ⟨g3, 1, none⟩)) (by kernel_rfl) rfl) (v := .pointer (some ⟨g23, 0, none⟩)) (by kernel_rfl) rfl) (v := .pointer (some ⟨g19, 0, none⟩)) (by kernel_rfl) rfl) (v := .agg #[.int .i64 (ne : Int), .slice none 0 0]) (by kernel_rfl) rfl) (v := .int .i64 (ne : Int)) (by kernel_rfl) rfl) (v := .pointer (some ⟨g3, 0, none⟩)) (by kernel_rfl) rfl) (v := .bool (decide ((mxC (ne : Int) xs).2 ≠ 0))) (by kernel_rfl) rfl) (v := .int .i64 ((mxC (ne : Int) xs).2)) (by kernel_rfl) rfl) (v := .int .i64 ((mxC (ne : Int) xs).2)) (by kernel_rfl) rfl) (v := .int .i64 ((mxC (ne : Int) xs).2)) (by kernel_rfl) rfl) (v := .agg #[.int .i64 (ne : Int), .slice (some ad) n cap]) (by kernel_rfl) rfl) (v := .int .i64 0) (by kernel_rfl) rfl) (v := .pointer none) (by kernel_rfl) rfl) (v := .pointer (some ⟨g3, 0, none⟩)) (by kernel_rfl) rfl) (v := .agg #[.int .i64 (ne : Int), .slice (some ad) n cap]) (by kernel_rfl) rfl) (v := .slice (some (ad.add (x * 64))) 64 64) (by kernel_rfl) rfl)
    refine i_region noOut_assign (by kernel_rfl) ?_
    refine s_one (.slice (some (ad.add (x * 64))) 64 64) HA SA (g_assign (by kernel_rfl)) rfl (fun ac A36 => ?_)
    refine wpList_nil ?_
    refine n_then ?_
    exact HK _ (A36.slot (A36.slot (A36.slot (A36.slot (A36.slot (A36.slot (A36.slot (A36.slot (A36.slot (A36.slot (A36.slot (A36.slot (A36.slot (A36.slot (A36.slot (A36.slot (A36.slot (A36.slot (A36.slot A36.nil (v := .func (.func 111) #[] #[.pointer (some ⟨gc32, 0, none⟩), .pointer (some ⟨gd33, 0, none⟩)]) (by kernel_rfl) rfl) (v := .slice (some ad) n cap) (by kernel_rfl) rfl) (v := .pointer (some ⟨g3, 1, none⟩)) (by kernel_rfl) rfl) (v := .pointer (some ⟨g23, 0, none⟩)) (by kernel_rfl) rfl) (v := .pointer (some ⟨g19, 0, none⟩)) (by kernel_rfl) rfl) (v := .agg #[.int .i64 (ne : Int), .slice none 0 0]) (by kernel_rfl) rfl) (v := .int .i64 (ne : Int)) (by kernel_rfl) rfl) (v := .pointer (some ⟨g3, 0, none⟩)) (by kernel_rfl) rfl) (v := .bool (decide ((mxC (ne : Int) xs).2 ≠ 0))) (by kernel_rfl) rfl) (v := .int .i64 ((mxC (ne : Int) xs).2)) (by kernel_rfl) rfl) (v := .int .i64 ((mxC (ne : Int) xs).2)) (by kernel_rfl) rfl) (v := .int .i64 ((mxC (ne : Int) xs).2)) (by kernel_rfl) rfl) (v := .agg #[.int .i64 (ne : Int), .slice (some ad) n cap]) (by kernel_rfl) rfl) (v := .int .i64 0) (by kernel_rfl) rfl) (v := .pointer none) (by kernel_rfl) rfl) (v := .pointer (some ⟨g3, 0, none⟩)) (by kernel_rfl) rfl) (v := .agg #[.int .i64 (ne : Int), .slice (some ad) n cap]) (by kernel_rfl) rfl) (v := .slice (some (ad.add (x * 64))) 64 64) (by kernel_rfl) rfl) (v := .slice (some (ad.add (x * 64))) 64 64) (by kernel_rfl) rfl)
  · rintro lz pre x rest a' WB37 hx ⟨v, hS⟩ HA
    have SB38 := St.begin hS
    obtain ⟨rfl, hpre, hlt⟩ := range_next hx
    refine wpIn_block ?_
    refine i_begin (w0 := ⟨w0, WB37⟩) (by kernel_rfl) (noOut_block noOut_body) (by kernel_rfl) (SB38.sub (sub_keep (sub_keep (sub_keep (sub_skip sub_all)))) sub_nil) (fun wc T39 B40 => ?_)
    have S41 := SB38.kept B40
    refine r_take 0 (.pointer (some ⟨g19, 0, none⟩)) HA T39 (g_load (g := g23) (off := 0) 2 (by kernel_rfl) rfl (by kernel_rfl)) rfl rfl rfl (pf_block pf_round) (by kernel_rfl) (fun ac A42 => ?_)
    refine r_take 1 (.pointer (some ⟨g19, 0, none⟩)) A42 T39 (g_load (g := g23) (off := 0) 2 (by kernel_rfl) rfl (by kernel_rfl)) rfl rfl rfl (pf_block pf_round) (by kernel_rfl) (fun ac A43 => ?_)
    refine r_take 2 (.pointer (some ⟨g19, 0, none⟩)) A43 T39 (g_nil (by kernel_rfl)) rfl rfl rfl (pf_block pf_round) (by kernel_rfl) (fun ac A44 => ?_)
    refine r_take 3 (.pointer (some ⟨g19, 1, none⟩)) A44 T39 (g_field (u := .pointer (some ⟨g19, 0, none⟩)) (by kernel_rfl) (fun _ => by kernel_rfl)) rfl rfl rfl (pf_block pf_round) (by kernel_rfl) (fun ac A45 => ?_)
    refine r_take 5 (.slice (some (ad.add (pre.length * 64))) 64 64) A45 T39 (g_move (by kernel_rfl)) rfl rfl rfl (pf_block pf_round) (by kernel_rfl) (fun ac A46 => ?_)
    refine r_take 6 (.pointer (some (ad.add (pre.length * 64)))) A46 T39 (g_s2a (u := .slice (some (ad.add (pre.length * 64))) 64 64) (by kernel_rfl) (arr_x Try.underlying38 (by omega))) rfl rfl rfl (pf_block pf_round) (by kernel_rfl) (fun ac A47 => ?_)
    refine r_2 (i := 4) (j := 7) (by kernel_rfl) ?_ ?_
    · refine rs_gives (v) A47 S41 (sub_keep (sub_keep (sub_keep (sub_skip sub_all)))) sub_nil (g_load (g := g19) (off := 1) 3 (by kernel_rfl) rfl (by kernel_rfl)) rfl rfl rfl (fun ac A48 => ?_)
      refine r_1 (i := 7) (by kernel_rfl) ?_
      refine rs_call (fs := #[]) (cp := #[]) (r := [(0, .pointer (some (ad.add (pre.length * 64))))]) #[.pointer (some (ad.add (pre.length * 64)))] (.agg (ints (cutN (mi xs) (pre.length * 64) 64))) A48 S41 (sub_keep (sub_keep (sub_keep (sub_skip sub_all)))) sub_nil (numbersOf_x xs ad (pre.length * 64) _ (by have hlen := hn; omega) (hr.kept S41.kp) hR) Try.call66 rfl rfl (by kernel_rfl) (by kernel_rfl) (by kernel_rfl) rfl (fun ac wc A52 S53 => ?_)
      have T55 := S53.sub (sub_keep (sub_keep (sub_keep (sub_skip sub_all)))) sub_nil
      refine r_1 (i := 8) (by kernel_rfl) ?_
      refine rs_bs (e := 123) (r := [(0, .agg (ints (cutN (mi xs) (pre.length * 64) 64)))]) (ints (cutN (mi xs) (pre.length * 64) 64)) A52 S53 (sub_keep (sub_keep (sub_keep (sub_skip sub_all)))) sub_nil (by kernel_rfl) (bsRow_one (bytes := 512) (by kernel_rfl) ((ints_size _).trans (cutN_length _ _ _)) (by decide)) rfl rfl rfl (fun g58 ac wc A56 S57 => ?_)
      have T59 := S57.sub (sub_skip (sub_keep (sub_keep (sub_keep (sub_skip sub_all))))) sub_nil
      refine r_1 (i := 9) (by kernel_rfl) ?_
      refine rs_append (e := 123) (size := 64) (bytes := 512) (v := v) (g := g58) (m' := 1) (c := 1) 0 0 (rowI (cutN (mi xs) (pre.length * 64) 64)) A56 S57 (sub_skip (sub_keep (sub_keep (sub_keep (sub_skip sub_all))))) (fun _ => sub_nil) (by kernel_rfl) (by kernel_rfl) (by kernel_rfl) rfl rfl (take_rowI (cutN_length _ _ _)) (ble_ints (cutN_length _ _ _)) (rowI_one _) (by omega) (by omega) rfl rfl rfl (fun v62 ac wc A60 S61 => ?_)
      obtain ⟨A63, cap64, rfl⟩ := row_slice (v := v62) (m := pre.length + 1) (S61.row 0 rfl)
      have T65 := S61.sub (sub_skip (sub_keep (sub_keep (sub_keep (sub_skip sub_all))))) sub_nil
      refine r_take 10 (.pointer (some ⟨g19, 0, none⟩)) A60 T65 (g_nil (by kernel_rfl)) rfl rfl rfl (pf_block pf_round) (by kernel_rfl) (fun ac A66 => ?_)
      refine r_take 11 (.pointer (some ⟨g19, 1, none⟩)) A66 T65 (g_field (u := .pointer (some ⟨g19, 0, none⟩)) (by kernel_rfl) (fun _ => by kernel_rfl)) rfl rfl rfl (pf_block pf_round) (by kernel_rfl) (fun ac A67 => ?_)
      refine r_1 (i := 12) (by kernel_rfl) ?_
      refine rs_store (g := g19) (off := 1) (v := .slice A63 (pre.length + 1) cap64) 4 (#[.int .i64 (ne : Int), .slice A63 (pre.length + 1) cap64]) A67 S61 (sub_skip (sub_keep (sub_keep (sub_keep (sub_skip sub_all))))) sub_nil (by kernel_rfl) (by kernel_rfl) rfl (by kernel_rfl) rfl rfl (fun wc S69 => ?_)
      have T71 := S69.sub (sub_skip (sub_keep (sub_keep (sub_keep (sub_skip sub_all))))) sub_nil
      refine r_done (by kernel_rfl) ?_
      refine n_block ?_
      refine r_end (w0 := w0) S69 (KpG.cons (S69.get 2 rfl) (KpG.cons (S69.get 1 rfl) KpG.nil)) (fun SE => ?_)
      exact ⟨.slice A63 (pre.length + 1) cap64, (St.rerow 0 (St.recell 4 SE rfl (by rfl)) rfl ⟨by simp, pairs_snoc (by omega) (by simp)⟩).sub (sub_skip sub_all) sub_all⟩
    · refine rs_call (fs := #[]) (cp := #[]) (r := [(0, .pointer (some (ad.add (pre.length * 64))))]) #[.pointer (some (ad.add (pre.length * 64)))] (.agg (ints (cutN (mi xs) (pre.length * 64) 64))) A47 S41 (sub_keep (sub_keep (sub_keep (sub_skip sub_all)))) sub_nil (numbersOf_x xs ad (pre.length * 64) _ (by have hlen := hn; omega) (hr.kept S41.kp) hR) Try.call66 rfl rfl (by kernel_rfl) (by kernel_rfl) (by kernel_rfl) rfl (fun ac wc A72 S73 => ?_)
      have T75 := S73.sub (sub_keep (sub_keep (sub_keep (sub_skip sub_all)))) sub_nil
      refine r_2 (i := 4) (j := 8) (by kernel_rfl) ?_ ?_
      · refine rs_gives (v) A72 S73 (sub_keep (sub_keep (sub_keep (sub_skip sub_all)))) sub_nil (g_load (g := g19) (off := 1) 3 (by kernel_rfl) rfl (by kernel_rfl)) rfl rfl rfl (fun ac A76 => ?_)
        refine r_1 (i := 8) (by kernel_rfl) ?_
        refine rs_bs (e := 123) (r := [(0, .agg (ints (cutN (mi xs) (pre.length * 64) 64)))]) (ints (cutN (mi xs) (pre.length * 64) 64)) A76 S73 (sub_keep (sub_keep (sub_keep (sub_skip sub_all)))) sub_nil (by kernel_rfl) (bsRow_one (bytes := 512) (by kernel_rfl) ((ints_size _).trans (cutN_length _ _ _)) (by decide)) rfl rfl rfl (fun g82 ac wc A80 S81 => ?_)
        have T83 := S81.sub (sub_skip (sub_keep (sub_keep (sub_keep (sub_skip sub_all))))) sub_nil
        refine r_1 (i := 9) (by kernel_rfl) ?_
        refine rs_append (e := 123) (size := 64) (bytes := 512) (v := v) (g := g82) (m' := 1) (c := 1) 0 0 (rowI (cutN (mi xs) (pre.length * 64) 64)) A80 S81 (sub_skip (sub_keep (sub_keep (sub_keep (sub_skip sub_all))))) (fun _ => sub_nil) (by kernel_rfl) (by kernel_rfl) (by kernel_rfl) rfl rfl (take_rowI (cutN_length _ _ _)) (ble_ints (cutN_length _ _ _)) (rowI_one _) (by omega) (by omega) rfl rfl rfl (fun v86 ac wc A84 S85 => ?_)
        obtain ⟨A87, cap88, rfl⟩ := row_slice (v := v86) (m := pre.length + 1) (S85.row 0 rfl)
        have T89 := S85.sub (sub_skip (sub_keep (sub_keep (sub_keep (sub_skip sub_all))))) sub_nil
        refine r_take 10 (.pointer (some ⟨g19, 0, none⟩)) A84 T89 (g_nil (by kernel_rfl)) rfl rfl rfl (pf_block pf_round) (by kernel_rfl) (fun ac A90 => ?_)
        refine r_take 11 (.pointer (some ⟨g19, 1, none⟩)) A90 T89 (g_field (u := .pointer (some ⟨g19, 0, none⟩)) (by kernel_rfl) (fun _ => by kernel_rfl)) rfl rfl rfl (pf_block pf_round) (by kernel_rfl) (fun ac A91 => ?_)
        refine r_1 (i := 12) (by kernel_rfl) ?_
        refine rs_store (g := g19) (off := 1) (v := .slice A87 (pre.length + 1) cap88) 4 (#[.int .i64 (ne : Int), .slice A87 (pre.length + 1) cap88]) A91 S85 (sub_skip (sub_keep (sub_keep (sub_keep (sub_skip sub_all))))) sub_nil (by kernel_rfl) (by kernel_rfl) rfl (by kernel_rfl) rfl rfl (fun wc S93 => ?_)
        have T95 := S93.sub (sub_skip (sub_keep (sub_keep (sub_keep (sub_skip sub_all))))) sub_nil
        refine r_done (by kernel_rfl) ?_
        refine n_block ?_
        refine r_end (w0 := w0) S93 (KpG.cons (S93.get 2 rfl) (KpG.cons (S93.get 1 rfl) KpG.nil)) (fun SE => ?_)
        exact ⟨.slice A87 (pre.length + 1) cap88, (St.rerow 0 (St.recell 4 SE rfl (by rfl)) rfl ⟨by simp, pairs_snoc (by omega) (by simp)⟩).sub (sub_skip sub_all) sub_all⟩
      · refine rs_bs (e := 123) (r := [(0, .agg (ints (cutN (mi xs) (pre.length * 64) 64)))]) (ints (cutN (mi xs) (pre.length * 64) 64)) A72 S73 (sub_keep (sub_keep (sub_keep (sub_skip sub_all)))) sub_nil (by kernel_rfl) (bsRow_one (bytes := 512) (by kernel_rfl) ((ints_size _).trans (cutN_length _ _ _)) (by decide)) rfl rfl rfl (fun g98 ac wc A96 S97 => ?_)
        have T99 := S97.sub (sub_skip (sub_keep (sub_keep (sub_keep (sub_skip sub_all))))) sub_nil
        refine r_1 (i := 4) (by kernel_rfl) ?_
        refine rs_gives (v) A96 S97 (sub_skip (sub_keep (sub_keep (sub_keep (sub_skip sub_all))))) sub_nil (g_load (g := g19) (off := 1) 4 (by kernel_rfl) rfl (by kernel_rfl)) rfl rfl rfl (fun ac A100 => ?_)
        refine r_1 (i := 9) (by kernel_rfl) ?_
        refine rs_append (e := 123) (size := 64) (bytes := 512) (v := v) (g := g98) (m' := 1) (c := 1) 0 0 (rowI (cutN (mi xs) (pre.length * 64) 64)) A100 S97 (sub_skip (sub_keep (sub_keep (sub_keep (sub_skip sub_all))))) (fun _ => sub_nil) (by kernel_rfl) (by kernel_rfl) (by kernel_rfl) rfl rfl (take_rowI (cutN_length _ _ _)) (ble_ints (cutN_length _ _ _)) (rowI_one _) (by omega) (by omega) rfl rfl rfl (fun v106 ac wc A104 S105 => ?_)
        obtain ⟨A107, cap108, rfl⟩ := row_slice (v := v106) (m := pre.length + 1) (S105.row 0 rfl)
        have T109 := S105.sub (sub_skip (sub_keep (sub_keep (sub_keep (sub_skip sub_all))))) sub_nil
        refine r_take 10 (.pointer (some ⟨g19, 0, none⟩)) A104 T109 (g_nil (by kernel_rfl)) rfl rfl rfl (pf_block pf_round) (by kernel_rfl) (fun ac A110 => ?_)
        refine r_take 11 (.pointer (some ⟨g19, 1, none⟩)) A110 T109 (g_field (u := .pointer (some ⟨g19, 0, none⟩)) (by kernel_rfl) (fun _ => by kernel_rfl)) rfl rfl rfl (pf_block pf_round) (by kernel_rfl) (fun ac A111 => ?_)
        refine r_1 (i := 12) (by kernel_rfl) ?_
        refine rs_store (g := g19) (off := 1) (v := .slice A107 (pre.length + 1) cap108) 4 (#[.int .i64 (ne : Int), .slice A107 (pre.length + 1) cap108]) A111 S105 (sub_skip (sub_keep (sub_keep (sub_keep (sub_skip sub_all))))) sub_nil (by kernel_rfl) (by kernel_rfl) rfl (by kernel_rfl) rfl rfl (fun wc S113 => ?_)
        have T115 := S113.sub (sub_skip (sub_keep (sub_keep (sub_keep (sub_skip sub_all))))) sub_nil
        refine r_done (by kernel_rfl) ?_
        refine n_block ?_
        refine r_end (w0 := w0) S113 (KpG.cons (S113.get 2 rfl) (KpG.cons (S113.get 1 rfl) KpG.nil)) (fun SE => ?_)
        exact ⟨.slice A107 (pre.length + 1) cap108, (St.rerow 0 (St.recell 4 SE rfl (by rfl)) rfl ⟨by simp, pairs_snoc (by omega) (by simp)⟩).sub (sub_skip sub_all) sub_all⟩
  · rintro D116 a' WD117 hD118 ⟨v, hS⟩ hK119 HA120
    have SD121 := St.begin hS
    have SR : St ⟨w0, WD117⟩ [⟨gd33, 3, #[.int .i64 64], true⟩, ⟨gc32, 23, #[.slice (some ad) n cap], true⟩, ⟨g23, 130, #[.pointer (some ⟨g19, 0, none⟩)], true⟩, ⟨g19, 137, #[.int .i64 (ne : Int), v], true⟩, ⟨g3, 30, #[.int .i64 (ne : Int), .slice (some ad) n cap], true⟩] [⟨v, 123, 64, (ne * ne), (rowI (mi xs))⟩] _ := St.rerow 0 SD121 rfl ⟨by simp, by rw [List.length_range, List.take_of_length_le (by rw [mi_length]; omega)]⟩
    obtain ⟨g2, cp, rfl⟩ := row_some (v := v) (m := ne * ne) (St.row SR 0 rfl) hpos
    refine n_block ?_
    refine n_then ?_
    refine wp_seq ?_
    refine wp_region_lit ?_
    refine s_one (.pointer (some ⟨g19, 0, none⟩)) HA120 SR (g_load (g := g23) (off := 0) 2 (by kernel_rfl) rfl (by kernel_rfl)) rfl (fun ac A122 => ?_)
    refine s_one (.pointer (some ⟨g19, 0, none⟩)) A122 SR (g_assign (by kernel_rfl)) rfl (fun ac A123 => ?_)
    refine s_one (.int .i64 0) A123 SR (g_assign (by kernel_rfl)) rfl (fun ac A124 => ?_)
    refine wpList_nil ?_
    refine n_then ?_
    refine wp_ret ?_
    refine m_ret (w0 := w0) A124 SR hK119 hD118 (fun ac wc A125 S126 => ?_)
    refine fin2 (.pointer (some ⟨g19, 0, none⟩)) (.int .i64 0) Try.results72 A125 S126 (rv_tmp (by kernel_rfl)) (rv_tmp (by kernel_rfl)) ⟨(g19, g2, cp), rfl, S126.sub (sub_skip (sub_skip (sub_skip (sub_keep sub_nil)))) sub_all⟩
  · exact fun _ _ _ _ _ h => h.elim

end Go.Proofs.Ytcijkniijomcjaa
/- Places of pairs, the greatest size, the full matrix. -/
namespace Go.Proofs.Ytcijkniijomcjaa
open Go.RowKit Go.Cpl

set_option maxRecDepth 100000 in
set_option maxHeartbeats 400000 in
theorem mat_at (g ne m cap f r : Nat) (ad : Addr) (l : List Int) (w0 : World) (hb : Blk w0 g 137 #[.int .i64 (ne : Int), .slice (some ad) m cap]) (hl : l.length = m * 64) (hk : f * ne + r < m) (hm : m ≤ 1000) :
    Calls Try.prog 73 #[.pointer (some ⟨g, 0, none⟩), .int .i64 (f : Int), .int .i64 (r : Int)] w0 fun e w' => e = .returned (.pointer (some (ad.add ((f * ne + r) * 64)))) ∧ Below w0.heap.size w0 w' := by
  have S0 := St.start w0
  have S0 := S0.came hb (by simp)
  have hrm : r ≤ 1000 := by omega
  have hfn : 0 ≤ (f : Int) * (ne : Int) ∧ (f : Int) * (ne : Int) ≤ 1000 := by have e : ((f * ne : Nat) : Int) = (f : Int) * (ne : Int) := Int.natCast_mul _ _; omega
  have hc : (f : Int) * (ne : Int) + (r : Int) = ((f * ne + r : Nat) : Int) := by rw [Int.natCast_add, Int.natCast_mul]
  refine enter (n := 20) Try.func73 rfl rfl rfl (fun ac A0 => ?_)
  refine wp_seq ?_
  refine wp_region_lit ?_
  refine s_one (.pointer none) A0 S0 (g_assign (by kernel_rfl)) rfl (fun ac A1 => ?_)
  refine wpList_nil ?_
  refine n_then ?_
  refine wp_seq ?_
  refine r_begin (w0 := w0) (by kernel_rfl) (S0.sub sub_all sub_all) (fun wc T2 B3 => ?_)
  have S4 := S0.kept B3
  refine r_take 0 (.pointer (some ⟨g, 0, none⟩)) A1 T2 (g_move (by kernel_rfl)) rfl rfl rfl (pf_then pf_body) (by kernel_rfl) (fun ac A5 => ?_)
  refine r_take 1 (.pointer (some ⟨g, 0, none⟩)) A5 T2 (g_nil (by kernel_rfl)) rfl rfl rfl (pf_then pf_body) (by kernel_rfl) (fun ac A6 => ?_)
  refine r_take 2 (.pointer (some ⟨g, 1, none⟩)) A6 T2 (g_field (u := .pointer (some ⟨g, 0, none⟩)) (by kernel_rfl) (fun _ => by kernel_rfl)) rfl rfl rfl (pf_then pf_body) (by kernel_rfl) (fun ac A7 => ?_)
  refine r_take 3 (.slice (some ad) m cap) A7 T2 (g_load (g := g) (off := 1) 0 (by kernel_rfl) rfl (by kernel_rfl)) rfl rfl rfl (pf_then pf_body) (by kernel_rfl) (fun ac A8 => ?_)
  refine r_take 4 (.int .i64 (f : Int)) A8 T2 (g_move (by kernel_rfl)) rfl rfl rfl (pf_then pf_body) (by kernel_rfl) (fun ac A9 => ?_)
  refine r_take 5 (.pointer (some ⟨g, 0, none⟩)) A9 T2 (g_move (by kernel_rfl)) rfl rfl rfl (pf_then pf_body) (by kernel_rfl) (fun ac A10 => ?_)
  refine r_take 6 (.pointer (some ⟨g, 0, none⟩)) A10 T2 (g_nil (by kernel_rfl)) rfl rfl rfl (pf_then pf_body) (by kernel_rfl) (fun ac A11 => ?_)
  refine r_take 7 (.pointer (some ⟨g, 0, none⟩)) A11 T2 (g_field (u := .pointer (some ⟨g, 0, none⟩)) (by kernel_rfl) (fun _ => by kernel_rfl)) rfl rfl rfl (pf_then pf_body) (by kernel_rfl) (fun ac A12 => ?_)
  refine r_take 8 (.int .i64 (ne : Int)) A12 T2 (g_load (g := g) (off := 0) 0 (by kernel_rfl) rfl (by kernel_rfl)) rfl rfl rfl (pf_then pf_body) (by kernel_rfl) (fun ac A13 => ?_)
  refine r_take 9 (.int .i64 ((f : Int) * (ne : Int))) A13 T2 (g_bin (u := .int .i64 (f : Int)) (k := .int .i64 (ne : Int)) (by kernel_rfl) (by kernel_rfl) (fun _ => by kernel_rfl) (b_mul (by omega))) rfl rfl rfl (pf_then pf_body) (by kernel_rfl) (fun ac A14 => ?_)
  refine r_take 10 (.int .i64 (r : Int)) A14 T2 (g_move (by kernel_rfl)) rfl rfl rfl (pf_then pf_body) (by kernel_rfl) (fun ac A15 => ?_)
  refine r_take 11 (.int .i64 ((f : Int) * (ne : Int) + (r : Int))) A15 T2 (g_bin (u := .int .i64 ((f : Int) * (ne : Int))) (k := .int .i64 (r : Int)) (by kernel_rfl) (by kernel_rfl) (fun _ => by kernel_rfl) (b_add (by omega))) rfl rfl rfl (pf_then pf_body) (by kernel_rfl) (fun ac A16 => ?_)
  refine r_take 12 (.pointer (some (ad.add ((f * ne + r) * 64)))) A16 T2 (g_index (u := .slice (some ad) m cap) (k := .int .i64 ((f : Int) * (ne : Int) + (r : Int))) (by kernel_rfl) (by kernel_rfl) (ix_xs (e := 123) (bytes := 512) (f * ne + r) (by kernel_rfl) (by omega) (by omega))) rfl rfl rfl (pf_then pf_body) (by kernel_rfl) (fun ac A17 => ?_)
  refine r_take 13 (.pointer (some (ad.add ((f * ne + r) * 64)))) A17 T2 (g_assign (by kernel_rfl)) rfl rfl rfl (pf_then pf_body) (by kernel_rfl) (fun ac A18 => ?_)
  refine r_done (by kernel_rfl) ?_
  refine n_then ?_
  refine wp_ret ?_
  refine fin1 (.pointer (some (ad.add ((f * ne + r) * 64)))) Try.results73 A18 S4 (rv_tmp (by kernel_rfl)) ⟨?_, S4.kp⟩
  rfl

set_option maxRecDepth 100000 in
set_option maxHeartbeats 400000 in
theorem size_s (n : Int) (w0 : World) (hn : -100000 ≤ n ∧ n ≤ 100000) :
    Calls Try.prog 89 #[.int .i64 n] w0 fun e w' => e = .returned (.int .i64 (mx n (-n))) ∧ Below w0.heap.size w0 w' := by
  have S0 := St.start w0
  refine enter (n := 7) Try.func89 rfl rfl rfl (fun ac A0 => ?_)
  refine wp_seq ?_
  refine wp_region_lit ?_
  refine s_one (.int .i64 0) A0 S0 (g_assign (by kernel_rfl)) rfl (fun ac A1 => ?_)
  refine wpList_nil ?_
  refine n_then ?_
  refine wp_seq ?_
  refine wp_region_lit ?_
  refine s_one (.int .i64 n) A1 S0 (g_move (by kernel_rfl)) rfl (fun ac A2 => ?_)
  refine s_one (.int .i64 n) A2 S0 (g_move (by kernel_rfl)) rfl (fun ac A3 => ?_)
  refine s_one (.int .i64 (-n)) A3 S0 (g_un (u := .int .i64 n) (by kernel_rfl) (u_neg (by omega))) rfl (fun ac A4 => ?_)
  refine s_one (.int .i64 (mx n (-n))) A4 S0 (g_built (r := [(0, .int .i64 n), (0, .int .i64 (-n))]) (by kernel_rfl) (fun ty cs w => by show (do let x ← Builtin.max_ _ ty #[.int .i64 n, .int .i64 (-n)]; pure (Next.value x) : Sem Next).run _ w = _; rw [Sem.run_bind, run_max_mx]; rfl)) rfl (fun ac A5 => ?_)
  refine s_one (.int .i64 (mx n (-n))) A5 S0 (g_assign (by kernel_rfl)) rfl (fun ac A6 => ?_)
  refine wpList_nil ?_
  refine n_then ?_
  refine wp_ret ?_
  refine fin1 (.int .i64 (mx n (-n))) Try.results89 A6 S0 (rv_tmp (by kernel_rfl)) ⟨?_, S0.kp⟩
  rfl

/-- The greatest size of so many ints. -/
def gr (l : List Int) (i : Nat) : Nat → Int
  | 0 => 0
  | k + 1 => mx (gr l i k) (mx (nthI l (i + k)) (-(nthI l (i + k))))
theorem gr_range {l : List Int} (h : ∀ k, -2047 ≤ nthI l k ∧ nthI l k ≤ 2047) (i k : Nat) : 0 ≤ gr l i k ∧ gr l i k ≤ 2047 := by
  induction k with
  | zero => exact ⟨by simp [gr], by simp [gr]⟩
  | succ k ih =>
    have := h (i + k)
    unfold gr
    rw [mx_eq, mx_eq]
    omega

set_option maxRecDepth 100000 in
set_option maxHeartbeats 400000 in
theorem greatest_s (ad : Addr) (l : List Int) (i : Nat) (w0 : World) (hr : IReads w0 (some ad) l) (hi : i + 64 ≤ l.length) (hB : ∀ k, -2047 ≤ nthI l k ∧ nthI l k ≤ 2047) :
    Calls Try.prog 87 #[.pointer (some (ad.add i))] w0 fun e w' => e = .returned (.int .i64 (gr l i 64)) ∧ Below w0.heap.size w0 w' := by
  have S0 := St.start w0
  obtain ⟨m, hm⟩ : ∃ m, l.length = m := ⟨_, rfl⟩
  refine enter (n := 18) Try.func87 rfl rfl rfl (fun ac A0 => ?_)
  refine wp_seq ?_
  refine wp_region_lit ?_
  refine s_one (.int .i64 0) A0 S0 (g_assign (by kernel_rfl)) rfl (fun ac A1 => ?_)
  refine wpList_nil ?_
  refine n_then ?_
  refine wp_seq ?_
  refine wp_region_lit ?_
  refine s_one (.int .i64 0) A1 S0 (g_assign (by kernel_rfl)) rfl (fun ac A2 => ?_)
  refine wpList_nil ?_
  refine n_then ?_
  refine wp_seq ?_
  refine wp_seq ?_
  refine wp_region_lit ?_
  refine s_one (.pointer (some (ad.add i))) A2 S0 (g_move (by kernel_rfl)) rfl (fun ac A3 => ?_)
  refine s_one (.int .i64 0) A3 S0 (g_move (by kernel_rfl)) rfl (fun ac A4 => ?_)
  refine wpList_nil ?_
  refine n_then ?_
  refine wp_block ?_
  refine c_loopN (fun mm ac wc => ∃ (k : Nat), mm = 64 - k ∧ (k ≤ 64) ∧ Fr 18 ac [(0, .pointer (some (ad.add i))), (2, .int .i64 0), (6, .pointer (some (ad.add i))), (7, .int .i64 (k : Int)), (3, .int .i64 (gr l i k))] ∧ St w0 [] [] wc) _ ⟨0, rfl, by omega, (A4.slot (A4.slot (A4.slot (A4.slot (A4.slot A4.nil (v := .int .i64 0) (by kernel_rfl) rfl) (v := .int .i64 0) (by kernel_rfl) (congrArg (Value.int .i64) (by omega))) (v := .pointer (some (ad.add i))) (by kernel_rfl) rfl) (v := .int .i64 0) (by kernel_rfl) rfl) (v := .pointer (some (ad.add i))) (by kernel_rfl) rfl), S0.sub sub_all sub_all⟩ ?_
  rintro mm ac wc ⟨k, hm7, hk, A5, S6⟩
  have hb := hB (i + k)
  refine wp_seq ?_
  refine wp_region_lit ?_
  refine s_one (.bool (decide ((k : Int) < 64))) A5 S6 (g_bin (u := .int .i64 (k : Int)) (k := .int .i64 64) (by kernel_rfl) (by kernel_rfl) (fun _ => by kernel_rfl) (fun _ => by kernel_rfl)) rfl (fun ac A8 => ?_)
  refine wpList_nil ?_
  refine n_then ?_
  refine wp_seq ?_
  refine c_ifb (b := (decide ((k : Int) < 64))) A8 (by kernel_rfl) (fun h9 => ?_) (fun h9 => ?_)
  · have p10 := of_decide_eq_true h9
    refine wp_skip ?_
    refine n_then ?_
    refine wp_seq ?_
    refine wp_block ?_
    refine wp_seq ?_
    refine wp_region_lit ?_
    refine s_one (.pointer (some (ad.add i))) A8 S6 (g_nil (by kernel_rfl)) rfl (fun ac A11 => ?_)
    refine s_one (.pointer (some (ad.add (i + k)))) A11 S6 (g_index (u := .pointer (some (ad.add i))) (k := .int .i64 (k : Int)) (by kernel_rfl) (by kernel_rfl) (ix_xarr (len := 64) (size := 1) (y := i + k) k (by kernel_rfl) (by omega) (by omega) (by omega))) rfl (fun ac A12 => ?_)
    refine s_one (.int .i64 (nthI l (i + k))) A12 S6 (g_loadXI (l := l) (k := i + k) (by kernel_rfl) hr (by have hlen := hm; omega) (by kernel_rfl)) rfl (fun ac A13 => ?_)
    refine s_one (.int .i64 (nthI l (i + k))) A13 S6 (g_assign (by kernel_rfl)) rfl (fun ac A14 => ?_)
    refine wpList_nil ?_
    refine n_then ?_
    refine wp_region_lit ?_
    refine s_one (.int .i64 (gr l i k)) A14 S6 (g_move (by kernel_rfl)) rfl (fun ac A15 => ?_)
    refine s_one (.int .i64 (nthI l (i + k))) A15 S6 (g_move (by kernel_rfl)) rfl (fun ac A16 => ?_)
    refine s_call (fs := #[]) (cp := #[]) (r := [(0, .int .i64 (nthI l (i + k)))]) #[.int .i64 (nthI l (i + k))] (.int .i64 (mx (nthI l (i + k)) (-(nthI l (i + k))))) A16 S6 (size_s (nthI l (i + k)) _ (by omega)) Try.call89 (by kernel_rfl) (by kernel_rfl) (by kernel_rfl) rfl (fun ac wc A17 S18 => ?_)
    refine s_one (.int .i64 (mx (gr l i k) (mx (nthI l (i + k)) (-(nthI l (i + k)))))) A17 S18 (g_built (r := [(0, .int .i64 (gr l i k)), (0, .int .i64 (mx (nthI l (i + k)) (-(nthI l (i + k)))))]) (by kernel_rfl) (fun ty cs w => by show (do let x ← Builtin.max_ _ ty #[.int .i64 (gr l i k), .int .i64 (mx (nthI l (i + k)) (-(nthI l (i + k))))]; pure (Next.value x) : Sem Next).run _ w = _; rw [Sem.run_bind, run_max_mx]; rfl)) rfl (fun ac A20 => ?_)
    refine s_one (.int .i64 (mx (gr l i k) (mx (nthI l (i + k)) (-(nthI l (i + k)))))) A20 S18 (g_assign (by kernel_rfl)) rfl (fun ac A21 => ?_)
    refine wpList_nil ?_
    refine n_block ?_
    refine n_then ?_
    refine wp_region_lit ?_
    refine s_one (.int .i64 ((k : Int) + 1)) A21 S18 (g_bin (u := .int .i64 (k : Int)) (k := .int .i64 1) (by kernel_rfl) (by kernel_rfl) (fun _ => by kernel_rfl) (b_add (by omega))) rfl (fun ac A22 => ?_)
    refine s_one (.int .i64 ((k : Int) + 1)) A22 S18 (g_move (by kernel_rfl)) rfl (fun ac A23 => ?_)
    refine wpList_nil ?_
    refine n_then ?_
    refine ⟨_, ⟨k + 1, rfl, by omega, (A23.slot (A23.slot (A23.slot (A23.slot (A23.slot A23.nil (v := .int .i64 (mx (gr l i k) (mx (nthI l (i + k)) (-(nthI l (i + k)))))) (by kernel_rfl) rfl) (v := .int .i64 ((k : Int) + 1)) (by kernel_rfl) (congrArg (Value.int .i64) (by omega))) (v := .pointer (some (ad.add i))) (by kernel_rfl) rfl) (v := .int .i64 0) (by kernel_rfl) rfl) (v := .pointer (some (ad.add i))) (by kernel_rfl) rfl), S18.sub sub_all sub_all⟩, ?_⟩
    omega
  · have p24 := of_decide_eq_false h9
    refine wp_exit ?_
    refine x_then ?_
    refine x_then ?_
    refine x_hit ?_
    refine n_then ?_
    refine wp_seq ?_
    refine wp_region_lit ?_
    refine s_one (.int .i64 (gr l i k)) A8 S6 (g_move (by kernel_rfl)) rfl (fun ac A25 => ?_)
    refine s_one (.int .i64 (gr l i k)) A25 S6 (g_assign (by kernel_rfl)) rfl (fun ac A26 => ?_)
    refine wpList_nil ?_
    refine n_then ?_
    refine wp_ret ?_
    refine fin1 (.int .i64 (gr l i k)) Try.results87 A26 S6 (rv_tmp (by kernel_rfl)) ⟨?_, S6.kp⟩
    obtain rfl : k = 64 := by omega
    rfl

theorem fw_snoc {l : List Int} {k m : Nat} (h : k * 64 + 64 ≤ l.length) (hm : m = k + 1) : rowF (fw (l.take (k * 64))) ++ rowF (mkT (cutN l (k * 64) 64) 64) = rowF (fw (l.take (m * 64))) := by
  subst hm
  rw [mkT_fw (cutN_length _ _ _), rowF_app, fw_app, take_cutN h, Nat.succ_mul]

set_option maxRecDepth 100000 in
set_option maxHeartbeats 400000 in
theorem full_s (g ne m cap : Nat) (ad : Addr) (l : List Int) (w0 : World) (hb : Blk w0 g 137 #[.int .i64 (ne : Int), .slice (some ad) m cap]) (hl : l.length = m * 64) (hr : IReads w0 (some ad) l) (hm : m ≤ 1000) :
    Calls Try.prog 74 #[.pointer (some ⟨g, 0, none⟩)] w0 fun e w' => ∃ v, e = .returned (.agg #[.int .i64 (ne : Int), v]) ∧ Below w0.heap.size w0 w' ∧ w'.ownsRow w0.heap.size 36 1 v (m * 64) (rowF (fw l)) := by
  have S0 := St.start w0
  have S0 := S0.came hb (by simp)
  refine enter (n := 30) Try.func74 rfl rfl rfl (fun ac A0 => ?_)
  refine wp_seq ?_
  refine wp_region_lit ?_
  refine s_alloc (#[.int .i64 0, .slice none 0 0]) A0 S0 (by kernel_rfl) rfl (fun g3 ac wc A1 S2 => ?_)
  refine wpList_nil ?_
  refine n_then ?_
  refine wp_seq ?_
  refine wp_region_lit ?_
  refine s_one (.pointer (some ⟨g, 0, none⟩)) A1 S2 (g_move (by kernel_rfl)) rfl (fun ac A4 => ?_)
  refine s_one (.pointer (some ⟨g, 0, none⟩)) A4 S2 (g_nil (by kernel_rfl)) rfl (fun ac A5 => ?_)
  refine s_one (.pointer (some ⟨g, 0, none⟩)) A5 S2 (g_field (u := .pointer (some ⟨g, 0, none⟩)) (by kernel_rfl) (fun _ => by kernel_rfl)) rfl (fun ac A6 => ?_)
  refine s_one (.int .i64 (ne : Int)) A6 S2 (g_load (g := g) (off := 0) 1 (by kernel_rfl) rfl (by kernel_rfl)) rfl (fun ac A7 => ?_)
  refine s_one (.agg #[.int .i64 (ne : Int), .slice none 0 0]) A7 S2 (g_build (r := [(0, .int .i64 (ne : Int))]) (by kernel_rfl) (fun _ => by kernel_rfl)) rfl (fun ac A8 => ?_)
  refine s_alloc (#[.int .i64 0, .slice none 0 0]) A8 S2 (by kernel_rfl) rfl (fun g11 ac wc A9 S10 => ?_)
  refine s_store (g := g11) (off := 0) (v := .agg #[.int .i64 (ne : Int), .slice none 0 0]) 0 (#[.int .i64 (ne : Int), .slice none 0 0]) A9 S10 (by kernel_rfl) (by kernel_rfl) rfl (by kernel_rfl) (fun wc S13 => ?_)
  refine wpList_nil ?_
  refine n_then ?_
  refine wp_seq ?_
  refine wp_seq ?_
  have S0n := S13.nilRow 36 1
  refine wp_region_lit ?_
  refine s_one (.pointer (some ⟨g, 0, none⟩)) A9 S0n (g_move (by kernel_rfl)) rfl (fun ac A15 => ?_)
  refine s_one (.pointer (some ⟨g, 0, none⟩)) A15 S0n (g_nil (by kernel_rfl)) rfl (fun ac A16 => ?_)
  refine s_one (.pointer (some ⟨g, 1, none⟩)) A16 S0n (g_field (u := .pointer (some ⟨g, 0, none⟩)) (by kernel_rfl) (fun _ => by kernel_rfl)) rfl (fun ac A17 => ?_)
  refine s_one (.slice (some ad) m cap) A17 S0n (g_load (g := g) (off := 1) 2 (by kernel_rfl) rfl (by kernel_rfl)) rfl (fun ac A18 => ?_)
  refine s_one (.int .i64 (m : Int)) A18 S0n (g_built (r := [(0, .slice (some ad) m cap)]) (by kernel_rfl) (fun _ _ _ => by kernel_rfl)) rfl (fun ac A19 => ?_)
  refine s_one (.int .i64 0) A19 S0n (g_move (by kernel_rfl)) rfl (fun ac A20 => ?_)
  refine wpList_nil ?_
  refine n_then ?_
  refine wp_block ?_
  refine c_loopN (fun mm ac wc => ∃ (k : Nat) (v : Value), mm = m - k ∧ (k ≤ m) ∧ Fr 30 ac [(0, .pointer (some ⟨g, 0, none⟩)), (2, .pointer (some ⟨g3, 0, none⟩)), (7, .pointer (some ⟨g, 0, none⟩)), (8, .pointer (some ⟨g, 0, none⟩)), (9, .pointer (some ⟨g, 0, none⟩)), (10, .int .i64 (ne : Int)), (11, .agg #[.int .i64 (ne : Int), .slice none 0 0]), (3, .pointer (some ⟨g11, 0, none⟩)), (12, .pointer (some ⟨g, 0, none⟩)), (13, .pointer (some ⟨g, 0, none⟩)), (14, .pointer (some ⟨g, 1, none⟩)), (15, .slice (some ad) m cap), (16, .int .i64 (m : Int)), (17, .int .i64 (k : Int))] ∧ St w0 [⟨g11, 30, #[.int .i64 (ne : Int), v], true⟩, ⟨g3, 30, #[.int .i64 0, .slice none 0 0], true⟩, ⟨g, 137, #[.int .i64 (ne : Int), .slice (some ad) m cap], false⟩] [⟨v, 36, 1, (k * 64), (rowF (fw (l.take (k * 64))))⟩] wc) _ ⟨0, .slice none 0 0, rfl, by omega, (A20.slot (A20.slot (A20.slot (A20.slot (A20.slot (A20.slot (A20.slot (A20.slot (A20.slot (A20.slot (A20.slot (A20.slot (A20.slot (A20.slot A20.nil (v := .int .i64 0) (by kernel_rfl) (congrArg (Value.int .i64) (by omega))) (v := .int .i64 (m : Int)) (by kernel_rfl) rfl) (v := .slice (some ad) m cap) (by kernel_rfl) rfl) (v := .pointer (some ⟨g, 1, none⟩)) (by kernel_rfl) rfl) (v := .pointer (some ⟨g, 0, none⟩)) (by kernel_rfl) rfl) (v := .pointer (some ⟨g, 0, none⟩)) (by kernel_rfl) rfl) (v := .pointer (some ⟨g11, 0, none⟩)) (by kernel_rfl) rfl) (v := .agg #[.int .i64 (ne : Int), .slice none 0 0]) (by kernel_rfl) rfl) (v := .int .i64 (ne : Int)) (by kernel_rfl) rfl) (v := .pointer (some ⟨g, 0, none⟩)) (by kernel_rfl) rfl) (v := .pointer (some ⟨g, 0, none⟩)) (by kernel_rfl) rfl) (v := .pointer (some ⟨g, 0, none⟩)) (by kernel_rfl) rfl) (v := .pointer (some ⟨g3, 0, none⟩)) (by kernel_rfl) rfl) (v := .pointer (some ⟨g, 0, none⟩)) (by kernel_rfl) rfl), (St.rerow 0 (St.recell 0 S0n rfl (by rfl)) rfl ⟨rfl, rfl⟩).sub sub_all sub_all⟩ ?_
  rintro mm ac wc ⟨k, v, hm23, hk, A21, S22⟩
  refine wp_seq ?_
  refine wp_region_lit ?_
  refine s_one (.bool (decide ((k : Int) < (m : Int)))) A21 S22 (g_bin (u := .int .i64 (k : Int)) (k := .int .i64 (m : Int)) (by kernel_rfl) (by kernel_rfl) (fun _ => by kernel_rfl) (fun _ => by kernel_rfl)) rfl (fun ac A24 => ?_)
  refine wpList_nil ?_
  refine n_then ?_
  refine wp_seq ?_
  refine c_ifb (b := (decide ((k : Int) < (m : Int)))) A24 (by kernel_rfl) (fun h25 => ?_) (fun h25 => ?_)
  · have p26 := of_decide_eq_true h25
    refine wp_skip ?_
    refine n_then ?_
    refine wp_seq ?_
    refine wp_block ?_
    refine wp_seq ?_
    refine wp_region_lit ?_
    refine s_one (.pointer (some (ad.add (k * 64)))) A24 S22 (g_index (u := .slice (some ad) m cap) (k := .int .i64 (k : Int)) (by kernel_rfl) (by kernel_rfl) (ix_xs (e := 123) (bytes := 512) k (by kernel_rfl) (by omega) (by omega))) rfl (fun ac A27 => ?_)
    refine s_one (.agg (ints (cutN l (k * 64) 64))) A27 S22 (g_loadXN (l := l) (k := k * 64) 64 (by kernel_rfl) hr (by have hlen := hl; omega) (by kernel_rfl)) rfl (fun ac A28 => ?_)
    refine s_alloc (ints (List.replicate 64 0)) A28 S22 zero159 rfl (fun g31 ac wc A29 S30 => ?_)
    refine s_store (g := g31) (off := 0) (v := .agg (ints (cutN l (k * 64) 64))) 0 (ints (cutN l (k * 64) 64)) A29 S30 (by kernel_rfl) (by kernel_rfl) rfl (putVal_whole ((ints_size _).trans List.length_replicate) ((ints_size _).trans (cutN_length _ _ _)) ⟨⟨_, Try.underlying123, rfl⟩, by kernel_rfl⟩ (ints_one _)) (fun wc S33 => ?_)
    refine wpList_nil ?_
    refine n_then ?_
    refine wp_seq ?_
    refine wp_region_lit ?_
    refine s_one (.agg (ints (cutN l (k * 64) 64))) A29 S33 (g_loadW (g := g31) 0 (by kernel_rfl) rfl ((ints_size _).trans (cutN_length _ _ _)) ⟨⟨_, Try.underlying123, rfl⟩, by kernel_rfl⟩) rfl (fun ac A35 => ?_)
    refine s_call (fs := #[]) (cp := #[]) (r := [(0, .agg (ints (cutN l (k * 64) 64)))]) #[.agg (ints (cutN l (k * 64) 64))] (.agg (trc (mkT (cutN l (k * 64) 64) 64))) A35 S33 (traceOf_s (cutN l (k * 64) 64) _ (cutN_length _ _ _)) Try.call65 (by kernel_rfl) (by kernel_rfl) (by kernel_rfl) rfl (fun ac wc A36 S37 => ?_)
    refine s_alloc (trc zT) A36 S37 zero26 rfl (fun g41 ac wc A39 S40 => ?_)
    refine s_store (g := g41) (off := 0) (v := .agg (trc (mkT (cutN l (k * 64) 64) 64))) 0 (trc (mkT (cutN l (k * 64) 64) 64)) A39 S40 (by kernel_rfl) (by kernel_rfl) rfl (putVal_whole ((trc_size _).trans zT_length) ((trc_size _).trans (done_length _ _ _ _)) ⟨⟨_, Try.underlying38, rfl⟩, by kernel_rfl⟩ (trc_one _)) (fun wc S43 => ?_)
    refine wpList_nil ?_
    refine n_then ?_
    refine r_begin (w0 := w0) (by kernel_rfl) (S43.sub (sub_keep (sub_keep (sub_skip (sub_skip sub_all)))) sub_nil) (fun wc T45 B46 => ?_)
    have S47 := S43.kept B46
    refine r_take 0 (.pointer (some ⟨g11, 1, none⟩)) A39 T45 (g_field (u := .pointer (some ⟨g11, 0, none⟩)) (by kernel_rfl) (fun _ => by kernel_rfl)) rfl rfl rfl (pf_block (pf_then (pf_then (pf_block (pf_then pf_body))))) (by kernel_rfl) (fun ac A48 => ?_)
    refine r_take 2 (.slice (some ⟨g41, 0, none⟩) 64 64) A48 T45 (g_slice (u := .pointer (some ⟨g41, 0, none⟩)) (lo' := none) (hi' := none) (mx' := none) (by kernel_rfl) (by kernel_rfl) (by kernel_rfl) (by kernel_rfl) (fun _ => by kernel_rfl)) rfl rfl rfl (pf_block (pf_then (pf_then (pf_block (pf_then pf_body))))) (by kernel_rfl) (fun ac A49 => ?_)
    refine r_1 (i := 1) (by kernel_rfl) ?_
    refine rs_gives (v) A49 S47 (sub_keep (sub_keep (sub_skip (sub_skip sub_all)))) sub_nil (g_load (g := g11) (off := 1) 2 (by kernel_rfl) rfl (by kernel_rfl)) rfl rfl rfl (fun ac A50 => ?_)
    refine r_1 (i := 3) (by kernel_rfl) ?_
    refine rs_append (e := 36) (size := 1) (bytes := 4) (v := v) (g := g41) (m' := 64) (c := 64) 0 0 (rowF (mkT (cutN l (k * 64) 64) 64)) A50 S47 (sub_keep (sub_keep (sub_skip (sub_skip sub_all)))) (fun _ => sub_nil) (by kernel_rfl) (by kernel_rfl) (by kernel_rfl) rfl rfl (take_rowF (done_length _ _ _ _)) (ble_trc (done_length _ _ _ _)) (rowF_one _) (by omega) (by omega) rfl rfl rfl (fun v56 ac wc A54 S55 => ?_)
    obtain ⟨A57, cap58, rfl⟩ := row_slice (v := v56) (m := (k * 64) + 64) (S55.row 0 rfl)
    have T59 := S55.sub (sub_keep (sub_keep (sub_skip (sub_skip sub_all)))) sub_nil
    refine r_take 4 (.pointer (some ⟨g11, 1, none⟩)) A54 T59 (g_field (u := .pointer (some ⟨g11, 0, none⟩)) (by kernel_rfl) (fun _ => by kernel_rfl)) rfl rfl rfl (pf_block (pf_then (pf_then (pf_block (pf_then pf_body))))) (by kernel_rfl) (fun ac A60 => ?_)
    refine r_1 (i := 5) (by kernel_rfl) ?_
    refine rs_store (g := g11) (off := 1) (v := .slice A57 ((k * 64) + 64) cap58) 2 (#[.int .i64 (ne : Int), .slice A57 ((k * 64) + 64) cap58]) A60 S55 (sub_keep (sub_keep (sub_skip (sub_skip sub_all)))) sub_nil (by kernel_rfl) (by kernel_rfl) rfl (by kernel_rfl) rfl rfl (fun wc S62 => ?_)
    have T64 := S62.sub (sub_keep (sub_keep (sub_skip (sub_skip sub_all)))) sub_nil
    refine r_done (by kernel_rfl) ?_
    refine n_block ?_
    refine n_then ?_
    refine wp_region_lit ?_
    refine s_one (.int .i64 ((k : Int) + 1)) A60 S62 (g_bin (u := .int .i64 (k : Int)) (k := .int .i64 1) (by kernel_rfl) (by kernel_rfl) (fun _ => by kernel_rfl) (b_add (by omega))) rfl (fun ac A65 => ?_)
    refine s_one (.int .i64 ((k : Int) + 1)) A65 S62 (g_move (by kernel_rfl)) rfl (fun ac A66 => ?_)
    refine wpList_nil ?_
    refine n_then ?_
    refine ⟨_, ⟨k + 1, .slice A57 ((k * 64) + 64) cap58, rfl, by omega, (A66.slot (A66.slot (A66.slot (A66.slot (A66.slot (A66.slot (A66.slot (A66.slot (A66.slot (A66.slot (A66.slot (A66.slot (A66.slot (A66.slot A66.nil (v := .int .i64 ((k : Int) + 1)) (by kernel_rfl) (congrArg (Value.int .i64) (by omega))) (v := .int .i64 (m : Int)) (by kernel_rfl) rfl) (v := .slice (some ad) m cap) (by kernel_rfl) rfl) (v := .pointer (some ⟨g, 1, none⟩)) (by kernel_rfl) rfl) (v := .pointer (some ⟨g, 0, none⟩)) (by kernel_rfl) rfl) (v := .pointer (some ⟨g, 0, none⟩)) (by kernel_rfl) rfl) (v := .pointer (some ⟨g11, 0, none⟩)) (by kernel_rfl) rfl) (v := .agg #[.int .i64 (ne : Int), .slice none 0 0]) (by kernel_rfl) rfl) (v := .int .i64 (ne : Int)) (by kernel_rfl) rfl) (v := .pointer (some ⟨g, 0, none⟩)) (by kernel_rfl) rfl) (v := .pointer (some ⟨g, 0, none⟩)) (by kernel_rfl) rfl) (v := .pointer (some ⟨g, 0, none⟩)) (by kernel_rfl) rfl) (v := .pointer (some ⟨g3, 0, none⟩)) (by kernel_rfl) rfl) (v := .pointer (some ⟨g, 0, none⟩)) (by kernel_rfl) rfl), (St.rerow 0 (St.recell 2 S62 rfl (by rfl)) rfl ⟨by omega, fw_snoc (by omega) rfl⟩).sub (sub_skip (sub_skip sub_all)) sub_all⟩, ?_⟩
    omega
  · have p67 := of_decide_eq_false h25
    refine wp_exit ?_
    refine x_then ?_
    refine x_then ?_
    refine x_hit ?_
    refine n_then ?_
    refine wp_seq ?_
    refine wp_region_lit ?_
    refine s_one (.agg #[.int .i64 (ne : Int), v]) A24 S22 (g_load (g := g11) (off := 0) 0 (by kernel_rfl) rfl (by kernel_rfl)) rfl (fun ac A68 => ?_)
    obtain ⟨A69, cap70, rfl⟩ := row_slice (v := v) (m := (k * 64)) (S22.row 0 rfl)
    refine s_store (g := g3) (off := 0) (v := .agg #[.int .i64 (ne : Int), .slice A69 (k * 64) cap70]) 1 (#[.int .i64 (ne : Int), .slice A69 (k * 64) cap70]) A68 S22 (by kernel_rfl) (by kernel_rfl) rfl (by kernel_rfl) (fun wc S72 => ?_)
    refine wpList_nil ?_
    refine n_then ?_
    refine wp_ret ?_
    obtain rfl : m = k := by omega
    have SR : St w0 [⟨g11, 30, #[.int .i64 (ne : Int), .slice A69 (m * 64) cap70], true⟩, ⟨g3, 30, #[.int .i64 (ne : Int), .slice A69 (m * 64) cap70], true⟩, ⟨g, 137, #[.int .i64 (ne : Int), .slice (some ad) m cap], false⟩] [⟨.slice A69 (m * 64) cap70, 36, 1, (m * 64), (rowF (fw l))⟩] _ := St.rerow 0 S72 rfl ⟨rfl, by rw [List.take_of_length_le (by omega)]⟩
    refine fin1 (.agg #[.int .i64 (ne : Int), .slice A69 (m * 64) cap70]) Try.results74 A68 SR (rv_cell (g := g3) (off := 0) 1 (by kernel_rfl) rfl (by kernel_rfl)) ?_
    have bw := SR.kp
    have ow := SR.row 0 rfl
    exact ⟨_, rfl, bw, ow⟩

end Go.Proofs.Ytcijkniijomcjaa
/-! Stores into the elements of a slice of the call's own. -/
namespace Go.Proofs.Ytcijkniijomcjaa
open Go.RowKit Go.Cpl
theorem wr_list : ∀ (l : List Value) (k : Nat) (c : Array Value), k + l.length ≤ c.size → (wr c k l).toList = c.toList.take k ++ l ++ c.toList.drop (k + l.length) := by
  intro l
  induction l with
  | nil => intro k c h; simp [wr]
  | cons v l ih =>
    intro k c h
    simp only [wr]
    rw [ih (k + 1) _ (by simp at h ⊢; omega)]
    have hk : k < c.toList.length := by simp at h ⊢; omega
    rw [Array.toList_setIfInBounds, List.take_add_one, List.getElem?_set_self hk, List.take_set_of_le (Nat.le_refl k), List.drop_set_of_lt (by omega), List.length_cons, show k + 1 + l.length = k + (l.length + 1) by omega]
    simp
theorem wr_size (l : List Value) (k : Nat) (c : Array Value) : (wr c k l).size = c.size := by
  induction l generalizing k c with
  | nil => rfl
  | cons v l ih => simp only [wr]; rw [ih, Array.size_setIfInBounds]
/-- A list with a part put in. -/
def putL {α : Type} (l : List α) (o : Nat) (ys : List α) : List α := l.take o ++ ys ++ l.drop (o + ys.length)
theorem putL_length {α : Type} {l ys : List α} {o : Nat} (h : o + ys.length ≤ l.length) : (putL l o ys).length = l.length := by simp [putL]; omega
theorem putL_map {α β : Type} (f : α → β) (l ys : List α) (o : Nat) : (putL l o ys).map f = putL (l.map f) o (ys.map f) := by simp [putL, List.map_take, List.map_drop]
theorem putL_one {α : Type} {l : List α} {o : Nat} (h : o < l.length) (y : α) : putL l o [y] = l.set o y := by
  rw [List.set_eq_take_append_cons_drop, if_pos h]; simp [putL]
section
variable {P : Program} {ops : Array Oper} {Q : Exit → Act → World → Prop} {n : Sz} {a : Act} {w0 : Base} {w : World} {F : Fm} {L Ls : List Bk} {M Ms : List Rw} {rest : List Oper} {fuel : Nat} {listed : Array Bool}
theorem run_rowStore {ty : TypeId} (j : Nat) {ad : Addr} {m cap : Nat} {e : TypeId} {size : Nat} {xs : List Value} {off k : Nat} {u : Value} {us : List Value} (hS : St w0 L M w) (hj : M[j]? = some ⟨.slice (some ad) m cap, e, size, m, xs⟩)
    (hu : u.cells.toList = us) (hl : us.length = k) (hsz : (P.info? ty).map (·.size) = some k) (h1 : us.all (·.oneCell') = true) (ho : off + k ≤ xs.length) :
    ∃ w', (storeVar ty (ad.add off) u).run P w = .ok () w' ∧ St w0 L (M.set j ⟨.slice (some ad) m cap, e, size, m, putL xs off us⟩) w' := by
  have hown : w.ownsRow w0.w.heap.size e size (.slice (some ad) m cap) m xs := hS.row j hj
  rcases hown.2 with ⟨hv, _⟩ | ⟨g, cap', cur, hv, hb, hgg, hmc, hml, hcs, ht⟩
  · cases hv
  · cases hv
    have hsize : m * size ≤ cur.size := by
      have hl0 : xs.length = m * size := hown.1
      rw [← ht, List.length_take, Array.length_toList] at hl0; omega
    have hx : off + k ≤ m * size := by have : xs.length = m * size := hown.1; omega
    have hput : putVal P ty cur off u = some (wr cur off us) := by
      unfold putVal
      rw [hsz]
      have e1 : u.cells.size = k := by rw [← hl, ← hu, Array.length_toList]
      simp only [e1, hu, h1, Nat.beq_refl, Bool.and_true, Bool.true_and]
      rw [show Nat.ble (off + k) cur.size = true by rw [Nat.ble_eq]; omega]
      rfl
    obtain ⟨w', hr, hb', htn⟩ := run_storeVar_blk (P := P) (show Blk w g e cur from hgg) hput
    refine ⟨w', by rw [add_zero_off]; exact hr, ?_⟩
    refine hS.grown j hj ⟨?_, .inr ⟨g, cap, _, rfl, hb, hb', hmc, hml, by rw [wr_size]; exact hcs, ?_⟩⟩ ⟨htn.os, htn.tape, htn.output, Nat.le_of_eq htn.size.symm, fun i _ hi => htn.block i (fun e => hi (by rw [e]; rfl))⟩ (.inl rfl)
    · rw [putL_length (by omega)]; exact hown.1
    · rw [wr_list _ _ _ (by omega), hl]
      obtain ⟨tl, e3⟩ : ∃ tl, cur.toList = xs ++ tl := ⟨cur.toList.drop (m * size), by
        have h5 := List.take_append_drop (m * size) cur.toList
        rw [ht] at h5; exact h5.symm⟩
      have hxl : xs.length = m * size := hown.1
      have t1 : (xs ++ tl).take off = xs.take off := List.take_append_of_le_length (by omega)
      have t2 : (xs ++ tl).drop (off + k) = xs.drop (off + k) ++ tl := List.drop_append_of_le_length (by omega)
      rw [e3, t1, t2, ← List.append_assoc]
      unfold putL
      rw [hl, List.take_append_of_le_length (by simp; omega), List.take_of_length_le (by simp; omega)]
theorem s_storeR {ty : TypeId} {x y : Operand} {ty' : TypeId} {pos : String} {aft : Array Edge} (j : Nat) {ad : Addr} {m cap : Nat} {e : TypeId} {size : Nat} {xs : List Value} {off : Nat} {u : Value} (k : Nat) (us xs' : List Value) (hA : Fr n a F) (hS : St w0 L M w) (hx : evO F x = some (.pointer (some (ad.add off)))) (hy : evO F y = some u) (hj : M[j]? = some ⟨.slice (some ad) m cap, e, size, m, xs⟩)
    (hu : u.cells.toList = us) (hl : us.length = k) (hsz : (P.info? ty).map (·.size) = some k) (h1 : us.all (·.oneCell') = true) (ho : off + k ≤ xs.length) (hp : putL xs off us = xs')
    (q : ∀ w', St w0 L (M.set j ⟨.slice (some ad) m cap, e, size, m, xs'⟩) w' → wpList P ops Q rest a w') : wpList P ops Q (⟨none, .store ty x y, ty', pos, aft, none⟩ :: rest) a w := by
  refine wpList_plain rfl fun K hK => ?_
  obtain ⟨w', hr, hs⟩ := run_rowStore (P := P) j hS hj hu hl hsz h1 ho
  rw [hp] at hs
  unfold Oper.wp
  simp only [execOp, hA.ev hx, hA.ev hy, Instr.storeAt, Instr.sureAddr, Sem.run_bind, Sem.run_pure, Result.andThen_ok, hr]
  exact hK _ _ (q w' hs)
theorem rs_storeR {i : Nat} {ty : TypeId} {x y : Operand} {ty' : TypeId} {pos : String} {aft : Array Edge} {gd : Option (Nat × Bool)} (j : Nat) {ad : Addr} {m cap : Nat} {e : TypeId} {size : Nat} {xs : List Value} {off : Nat} {u : Value} (k : Nat) (us xs' : List Value) (hA : Fr n a F) (hS : St w0 L M w) (hsub : Ls.Sublist L) (hsm : ∀ r : Rw, Ms.Sublist (M.set j r)) (hx : evO F x = some (.pointer (some (ad.add off)))) (hy : evO F y = some u) (hj : M[j]? = some ⟨.slice (some ad) m cap, e, size, m, xs⟩)
    (hu : u.cells.toList = us) (hl : us.length = k) (hsz : (P.info? ty).map (·.size) = some k) (h1 : us.all (·.oneCell') = true) (ho : off + k ≤ xs.length) (hp : putL xs off us = xs')
    (hi : ops[i]? = some ⟨none, .store ty x y, ty', pos, aft, gd⟩) (hw : Region.wanted ⟨none, .store ty x y, ty', pos, aft, gd⟩ (yielded ops a.tmps) = true)
    (q : ∀ w', St w0 L (M.set j ⟨.slice (some ad) m cap, e, size, m, xs'⟩) w' → wpAnyH P .any ops Q (St w0 Ls Ms) fuel (listed.setIfInBounds i true) a w') : RS P ops Q (St w0 Ls Ms) fuel listed a w i := by
  refine rs_of hi hw ?_
  obtain ⟨w', hr, hs⟩ := run_rowStore (P := P) j hS hj hu hl hsz h1 ho
  rw [hp] at hs
  unfold Oper.wp
  simp only [execOp, hA.ev hx, hA.ev hy, Instr.storeAt, Instr.sureAddr, Sem.run_bind, Sem.run_pure, Result.andThen_ok, hr]
  exact ⟨hs.sub hsub (hsm _), q w' hs⟩
end
theorem putI (l ys : List Int) (o : Nat) : putL (rowI l) o (rowI ys) = rowI (putL l o ys) := (putL_map (Value.int .i64) l ys o).symm
theorem putF1 {l : List Nat} {o x : Nat} (h : o < l.length) : putL (rowF l) o [.float .f32 x] = rowF (l.set o x) := by
  rw [← putL_one h, rowF, show ([Value.float .f32 x] : List Value) = [x].map (.float .f32) from rfl]; exact (putL_map _ l [x] o).symm
theorem putI1 {l : List Int} {o : Nat} {x : Int} (h : o < l.length) : putL (rowI l) o [.int .i64 x] = rowI (l.set o x) := by
  rw [← putL_one h, rowI, show ([Value.int .i64 x] : List Value) = [x].map (.int .i64) from rfl]; exact (putL_map _ l [x] o).symm
theorem fw_put (l ys : List Int) (o : Nat) : fw (putL l o ys) = putL (fw l) o (fw ys) := putL_map _ l ys o
/-- A part put in step by step. -/
def putK {α : Type} (l ys : List α) (o k : Nat) : List α := putL l o (ys.take k)
theorem putK_zero {α : Type} (l ys : List α) (o : Nat) : putK l ys o 0 = l := by simp [putK, putL]
theorem putK_all {α : Type} {l ys : List α} {o k : Nat} (h : ys.length ≤ k) : putK l ys o k = putL l o ys := by rw [putK, List.take_of_length_le h]
theorem putK_length {α : Type} {l ys : List α} {o k : Nat} (h : o + ys.length ≤ l.length) : (putK l ys o k).length = l.length := by
  refine putL_length ?_
  rw [List.length_take]; omega
theorem putK_set {α : Type} {l ys : List α} {o k : Nat} {y : α} (hk : ys[k]? = some y) (h : o + ys.length ≤ l.length) : (putK l ys o k).set (o + k) y = putK l ys o (k + 1) := by
  have hkl : k < ys.length := by
    rcases Nat.lt_or_ge k ys.length with q | q
    · exact q
    · rw [List.getElem?_eq_none q] at hk; cases hk
  have e1 : (ys.take k).length = k := by rw [List.length_take]; omega
  have e2 : (ys.take (k + 1)).length = k + 1 := by rw [List.length_take]; omega
  unfold putK putL
  rw [e1, e2, List.take_add_one, hk]
  have hd : l.drop (o + k) = l[o + k]'(by omega) :: l.drop (o + (k + 1)) := by rw [List.drop_eq_getElem_cons (by omega)]; rfl
  rw [hd]
  rw [List.set_append_right _ _ (by simp; omega)]
  simp
  rw [show o + k - (min o l.length + min k ys.length) = 0 by omega]
  simp
end Go.Proofs.Ytcijkniijomcjaa
/- Matrices that are the same; without signs of 0. -/
namespace Go.Proofs.Ytcijkniijomcjaa
open Go.RowKit Go.Cpl

theorem ints_cells (l : List Int) : (Value.agg (ints l)).cells.toList = rowI l := by simp [Value.cells, ints, rowI]
theorem rowI_length (l : List Int) : (rowI l).length = l.length := by simp [rowI]
theorem rowF_length (l : List Nat) : (rowF l).length = l.length := by simp [rowF]
theorem FReads.nil {w : World} {A : Option Addr} : FReads w A [] := fun k hk => absurd hk (Nat.not_lt_zero k)
theorem fw_snoc1 {xs : List Nat} {k : Nat} (h : k < xs.length) : rowF (fw ((mi xs).take k)) ++ [.float .f32 (floatOfInt .f32 (num (nth xs k)))] = rowF (fw ((mi xs).take (k + 1))) := by
  rw [List.take_add_one, mi, List.getElem?_map, List.getElem?_eq_getElem h, nth_eq h]
  simp [rowF, fw]

theorem len_bd {xs ys : List Nat} {n m : Nat} (e : xs = ys) (hx : xs.length = n) (hy : ys.length = m) (hm : m ≤ 100000) : n ≤ 100000 := by subst e; omega
theorem SameFloats_eq (xs ys : List Nat) (e : xs = ys) (C D : Option Addr) (c d n m : Nat) (w : World) (hn : xs.length = n) (hm : ys.length = m) (hl : n ≤ maxLen) (hC : FReads w C xs) (hD : FReads w D ys) : Calls Try.prog 68 #[.slice C n c, .slice D m d] w fun en w' => en = .returned (.bool true) ∧ Below w.heap.size w w' := by
  subst e; subst hn; subst hm
  exact SameFloats_s xs C D c d xs.length w rfl hl hC hD

set_option maxRecDepth 100000 in
set_option maxHeartbeats 400000 in
theorem SameMatrix_s (el : Int) (C D : Option Addr) (c d n : Nat) (xs : List Nat) (w0 : World) (hn : xs.length = n) (hm : n ≤ 100000) (hC : FReads w0 C xs) (hD : FReads w0 D xs) :
    Calls Try.prog 52 #[.agg #[.int .i64 el, .slice C n c], .agg #[.int .i64 el, .slice D n d]] w0 fun e w' => e = .returned (.bool true) ∧ Below w0.heap.size w0 w' := by
  have S0 := St.start w0
  refine enter (n := 17) Try.func52 rfl rfl rfl (fun ac A0 => ?_)
  refine wp_seq ?_
  refine wp_region_lit ?_
  refine s_box (.agg #[.int .i64 el, .slice C n c]) A0 S0 (by kernel_rfl) rfl (fun g3 ac wc A1 S2 => ?_)
  replace S2 : St _ (⟨g3, 30, #[.int .i64 el, .slice C n c], true⟩ :: _) _ _ := S2
  refine s_box (.agg #[.int .i64 el, .slice D n d]) A1 S2 (by kernel_rfl) rfl (fun g7 ac wc A5 S6 => ?_)
  replace S6 : St _ (⟨g7, 30, #[.int .i64 el, .slice D n d], true⟩ :: _) _ _ := S6
  refine s_one (.bool false) A5 S6 (g_assign (by kernel_rfl)) rfl (fun ac A9 => ?_)
  refine wpList_nil ?_
  refine n_then ?_
  refine wp_seq ?_
  refine wp_region_lit ?_
  refine s_one (.pointer (some ⟨g3, 0, none⟩)) A9 S6 (g_field (u := .pointer (some ⟨g3, 0, none⟩)) (by kernel_rfl) (fun _ => by kernel_rfl)) rfl (fun ac A10 => ?_)
  refine s_one (.int .i64 el) A10 S6 (g_load (g := g3) (off := 0) 1 (by kernel_rfl) rfl (by kernel_rfl)) rfl (fun ac A11 => ?_)
  refine s_one (.pointer (some ⟨g7, 0, none⟩)) A11 S6 (g_field (u := .pointer (some ⟨g7, 0, none⟩)) (by kernel_rfl) (fun _ => by kernel_rfl)) rfl (fun ac A12 => ?_)
  refine s_one (.int .i64 el) A12 S6 (g_load (g := g7) (off := 0) 0 (by kernel_rfl) rfl (by kernel_rfl)) rfl (fun ac A13 => ?_)
  refine s_one (.bool (decide (el = el))) A13 S6 (g_bin (u := .int .i64 el) (k := .int .i64 el) (by kernel_rfl) (by kernel_rfl) (fun _ => by kernel_rfl) b_eql) rfl (fun ac A14 => ?_)
  refine s_one (.bool (decide (el = el))) A14 S6 (g_move (by kernel_rfl)) rfl (fun ac A15 => ?_)
  refine s_want (dj := 10) (b := (decide (el = el))) A15 (by kernel_rfl) (by kernel_rfl) (decide_eq_true rfl) ?_
  refine s_one (.pointer (some ⟨g3, 1, none⟩)) A15 S6 (g_field (u := .pointer (some ⟨g3, 0, none⟩)) (by kernel_rfl) (fun _ => by kernel_rfl)) rfl (fun ac A16 => ?_)
  refine s_want (dj := 10) (b := (decide (el = el))) A16 (by kernel_rfl) (by kernel_rfl) (decide_eq_true rfl) ?_
  refine s_one (.slice C n c) A16 S6 (g_load (g := g3) (off := 1) 1 (by kernel_rfl) rfl (by kernel_rfl)) rfl (fun ac A17 => ?_)
  refine s_want (dj := 10) (b := (decide (el = el))) A17 (by kernel_rfl) (by kernel_rfl) (decide_eq_true rfl) ?_
  refine s_one (.pointer (some ⟨g7, 1, none⟩)) A17 S6 (g_field (u := .pointer (some ⟨g7, 0, none⟩)) (by kernel_rfl) (fun _ => by kernel_rfl)) rfl (fun ac A18 => ?_)
  refine s_want (dj := 10) (b := (decide (el = el))) A18 (by kernel_rfl) (by kernel_rfl) (decide_eq_true rfl) ?_
  refine s_one (.slice D n d) A18 S6 (g_load (g := g7) (off := 1) 0 (by kernel_rfl) rfl (by kernel_rfl)) rfl (fun ac A19 => ?_)
  refine s_want (dj := 10) (b := (decide (el = el))) A19 (by kernel_rfl) (by kernel_rfl) (decide_eq_true rfl) ?_
  refine s_call (fs := #[]) (cp := #[]) (r := [(0, .slice C n c), (0, .slice D n d)]) #[.slice C n c, .slice D n d] (.bool true) A19 S6 (SameFloats_eq xs xs rfl C D c d n n _ hn hn (by unfold maxLen; omega) (hC.kept S6.kp) (hD.kept S6.kp)) Try.call68 (by kernel_rfl) (by kernel_rfl) (by kernel_rfl) rfl (fun ac wc A20 S21 => ?_)
  refine s_one (.bool true) A20 S21 (g_pick_t (b := (decide (el = el))) (by kernel_rfl) (decide_eq_true rfl) (by kernel_rfl)) rfl (fun ac A23 => ?_)
  refine s_one (.bool true) A23 S21 (g_assign (by kernel_rfl)) rfl (fun ac A24 => ?_)
  refine wpList_nil ?_
  refine n_then ?_
  refine wp_ret ?_
  refine fin1 (.bool true) Try.results52 A24 S21 (rv_tmp (by kernel_rfl)) ⟨?_, S21.kp⟩
  rfl

theorem SameMatrix_eq (e1 e2 : Int) (he : e1 = e2) (xs ys : List Nat) (e : xs = ys) (C D : Option Addr) (c d n m : Nat) (w : World) (hn : xs.length = n) (hm : ys.length = m) (hl : n ≤ 100000) (hC : FReads w C xs) (hD : FReads w D ys) : Calls Try.prog 52 #[.agg #[.int .i64 e1, .slice C n c], .agg #[.int .i64 e2, .slice D m d]] w fun en w' => en = .returned (.bool true) ∧ Below w.heap.size w w' := by
  subst e; subst hn; subst hm; subst he
  exact SameMatrix_s e1 C D c d xs.length xs w rfl hl hC hD

set_option maxRecDepth 100000 in
set_option maxHeartbeats 400000 in
theorem same_s (el z : Int) (C D : Option Addr) (c d n : Nat) (xs : List Nat) (w0 : World) (hn : xs.length = n) (hm : n ≤ 100000) (hC : FReads w0 C xs) (hD : FReads w0 D xs) :
    Calls Try.prog 26 #[.agg #[.int .i64 el, .slice C n c], .int .i64 z, .agg #[.int .i64 el, .slice D n d], .int .i64 z] w0 fun e w' => e = .returned (.bool true) ∧ Below w0.heap.size w0 w' := by
  have S0 := St.start w0
  refine enter (n := 17) Try.func26 rfl rfl rfl (fun ac A0 => ?_)
  refine wp_seq ?_
  refine wp_region_lit ?_
  refine s_box (.agg #[.int .i64 el, .slice C n c]) A0 S0 (by kernel_rfl) rfl (fun g3 ac wc A1 S2 => ?_)
  replace S2 : St _ (⟨g3, 30, #[.int .i64 el, .slice C n c], true⟩ :: _) _ _ := S2
  refine s_box (.agg #[.int .i64 el, .slice D n d]) A1 S2 (by kernel_rfl) rfl (fun g7 ac wc A5 S6 => ?_)
  replace S6 : St _ (⟨g7, 30, #[.int .i64 el, .slice D n d], true⟩ :: _) _ _ := S6
  refine s_one (.bool false) A5 S6 (g_assign (by kernel_rfl)) rfl (fun ac A9 => ?_)
  refine wpList_nil ?_
  refine n_then ?_
  refine wp_seq ?_
  refine wp_region_lit ?_
  refine s_one (.int .i64 z) A9 S6 (g_move (by kernel_rfl)) rfl (fun ac A10 => ?_)
  refine s_one (.int .i64 z) A10 S6 (g_move (by kernel_rfl)) rfl (fun ac A11 => ?_)
  refine s_one (.bool (decide (z = z))) A11 S6 (g_bin (u := .int .i64 z) (k := .int .i64 z) (by kernel_rfl) (by kernel_rfl) (fun _ => by kernel_rfl) b_eql) rfl (fun ac A12 => ?_)
  refine s_one (.bool (decide (z = z))) A12 S6 (g_move (by kernel_rfl)) rfl (fun ac A13 => ?_)
  refine s_want (dj := 12) (b := (decide (z = z))) A13 (by kernel_rfl) (by kernel_rfl) (decide_eq_true rfl) ?_
  refine s_one (.agg #[.int .i64 el, .slice C n c]) A13 S6 (g_load (g := g3) (off := 0) 1 (by kernel_rfl) rfl (by kernel_rfl)) rfl (fun ac A14 => ?_)
  refine s_want (dj := 12) (b := (decide (z = z))) A14 (by kernel_rfl) (by kernel_rfl) (decide_eq_true rfl) ?_
  refine s_one (.agg #[.int .i64 el, .slice D n d]) A14 S6 (g_load (g := g7) (off := 0) 0 (by kernel_rfl) rfl (by kernel_rfl)) rfl (fun ac A15 => ?_)
  refine s_want (dj := 12) (b := (decide (z = z))) A15 (by kernel_rfl) (by kernel_rfl) (decide_eq_true rfl) ?_
  refine s_call (fs := #[]) (cp := #[]) (r := [(0, .agg #[.int .i64 el, .slice C n c]), (0, .agg #[.int .i64 el, .slice D n d])]) #[.agg #[.int .i64 el, .slice C n c], .agg #[.int .i64 el, .slice D n d]] (.bool true) A15 S6 (SameMatrix_eq el el rfl xs xs rfl C D c d n n _ hn hn (by omega) (hC.kept S6.kp) (hD.kept S6.kp)) Try.call52 (by kernel_rfl) (by kernel_rfl) (by kernel_rfl) rfl (fun ac wc A16 S17 => ?_)
  refine s_one (.bool true) A16 S17 (g_pick_t (b := (decide (z = z))) (by kernel_rfl) (decide_eq_true rfl) (by kernel_rfl)) rfl (fun ac A19 => ?_)
  refine s_one (.bool true) A19 S17 (g_assign (by kernel_rfl)) rfl (fun ac A20 => ?_)
  refine wpList_nil ?_
  refine n_then ?_
  refine wp_ret ?_
  refine fin1 (.bool true) Try.results26 A20 S17 (rv_tmp (by kernel_rfl)) ⟨?_, S17.kp⟩
  rfl

theorem same_eq (z1 z2 : Int) (hz : z1 = z2) (e1 e2 : Int) (he : e1 = e2) (xs ys : List Nat) (e : xs = ys) (C D : Option Addr) (c d n m : Nat) (w : World) (hn : xs.length = n) (hm : ys.length = m) (hl : n ≤ 100000) (hC : FReads w C xs) (hD : FReads w D ys) : Calls Try.prog 26 #[.agg #[.int .i64 e1, .slice C n c], .int .i64 z1, .agg #[.int .i64 e2, .slice D m d], .int .i64 z2] w fun en w' => en = .returned (.bool true) ∧ Below w.heap.size w w' := by
  subst e; subst hn; subst hm; subst he; subst hz
  exact same_s e1 z1 C D c d xs.length xs w rfl hl hC hD

set_option maxRecDepth 100000 in
set_option maxHeartbeats 400000 in
theorem err_s (el : Int) (A : Option Addr) (n cap : Nat) (xs : List Nat) (w0 : World) (hn : xs.length = n) (hr : FReads w0 A xs) (hm : n ≤ 1000) :
    Calls Try.prog 23 #[.agg #[.int .i64 el, .slice A n cap]] w0 fun e w' => e = .returned (.int .i64 (mxC el xs).2) ∧ Below w0.heap.size w0 w' := by
  have S0 := St.start w0
  refine enter (n := 11) Try.func23 rfl rfl rfl (fun ac A0 => ?_)
  refine wp_seq ?_
  refine wp_region_lit ?_
  refine s_box (.agg #[.int .i64 el, .slice A n cap]) A0 S0 (by kernel_rfl) rfl (fun g3 ac wc A1 S2 => ?_)
  replace S2 : St _ (⟨g3, 30, #[.int .i64 el, .slice A n cap], true⟩ :: _) _ _ := S2
  refine s_one (.int .i64 0) A1 S2 (g_assign (by kernel_rfl)) rfl (fun ac A5 => ?_)
  refine wpList_nil ?_
  refine n_then ?_
  refine wp_seq ?_
  refine wp_region_lit ?_
  refine s_one (.agg #[.int .i64 el, .slice A n cap]) A5 S2 (g_load (g := g3) (off := 0) 0 (by kernel_rfl) rfl (by kernel_rfl)) rfl (fun ac A6 => ?_)
  refine s_call (fs := #[]) (cp := #[]) (r := [(0, .agg #[.int .i64 el, .slice A n cap])]) #[.agg #[.int .i64 el, .slice A n cap]] (.tuple #[.int .i64 ((mxC el xs).1), .int .i64 ((mxC el xs).2)]) A6 S2 (refCheckMatrix_s el A n cap xs _ hn (hr.kept S2.kp) (by omega)) Try.call17 (by kernel_rfl) (by kernel_rfl) (by kernel_rfl) rfl (fun ac wc A7 S8 => ?_)
  refine s_one (.tuple #[.int .i64 ((mxC el xs).1), .int .i64 ((mxC el xs).2)]) A7 S8 (g_move (by kernel_rfl)) rfl (fun ac A10 => ?_)
  refine s_one (.int .i64 ((mxC el xs).1)) A10 S8 (g_extract (u := .tuple #[.int .i64 ((mxC el xs).1), .int .i64 ((mxC el xs).2)]) (by kernel_rfl) (fun _ => by kernel_rfl)) rfl (fun ac A11 => ?_)
  refine s_one (.int .i64 ((mxC el xs).2)) A11 S8 (g_extract (u := .tuple #[.int .i64 ((mxC el xs).1), .int .i64 ((mxC el xs).2)]) (by kernel_rfl) (fun _ => by kernel_rfl)) rfl (fun ac A12 => ?_)
  refine s_one (.int .i64 ((mxC el xs).1)) A12 S8 (g_assign (by kernel_rfl)) rfl (fun ac A13 => ?_)
  refine s_one (.int .i64 ((mxC el xs).2)) A13 S8 (g_assign (by kernel_rfl)) rfl (fun ac A14 => ?_)
  refine wpList_nil ?_
  refine n_then ?_
  refine wp_seq ?_
  refine wp_region_lit ?_
  refine s_one (.int .i64 ((mxC el xs).2)) A14 S8 (g_move (by kernel_rfl)) rfl (fun ac A15 => ?_)
  refine s_one (.int .i64 ((mxC el xs).2)) A15 S8 (g_assign (by kernel_rfl)) rfl (fun ac A16 => ?_)
  refine wpList_nil ?_
  refine n_then ?_
  refine wp_ret ?_
  refine fin1 (.int .i64 ((mxC el xs).2)) Try.results23 A16 S8 (rv_tmp (by kernel_rfl)) ⟨?_, S8.kp⟩
  rfl

set_option maxRecDepth 100000 in
set_option maxHeartbeats 400000 in
theorem Plain_s (el : Int) (A : Option Addr) (n cap : Nat) (xs : List Nat) (w0 : World) (hn : xs.length = n) (hr : FReads w0 A xs) (hm : n ≤ 1000) (hR : Right xs) :
    Calls Try.prog 27 #[.agg #[.int .i64 el, .slice A n cap]] w0 fun e w' => ∃ v, e = .returned (.agg #[.int .i64 el, v]) ∧ Below w0.heap.size w0 w' ∧ w'.ownsRow w0.heap.size 36 1 v n (rowF (fw (mi xs))) := by
  have S0 := St.start w0
  have HR : ∀ k, k < n → sErr (nth xs k) = 0 := fun k hk => hR.at_ (by omega)
  refine enter (n := 28) Try.func27 rfl rfl rfl (fun ac A0 => ?_)
  refine wp_seq ?_
  refine wp_region_lit ?_
  refine s_box (.agg #[.int .i64 el, .slice A n cap]) A0 S0 (by kernel_rfl) rfl (fun g3 ac wc A1 S2 => ?_)
  replace S2 : St _ (⟨g3, 30, #[.int .i64 el, .slice A n cap], true⟩ :: _) _ _ := S2
  refine s_alloc (#[.int .i64 0, .slice none 0 0]) A1 S2 (by kernel_rfl) rfl (fun g7 ac wc A5 S6 => ?_)
  refine wpList_nil ?_
  refine n_then ?_
  refine wp_seq ?_
  refine wp_region_lit ?_
  refine s_one (.pointer (some ⟨g3, 0, none⟩)) A5 S6 (g_field (u := .pointer (some ⟨g3, 0, none⟩)) (by kernel_rfl) (fun _ => by kernel_rfl)) rfl (fun ac A8 => ?_)
  refine s_one (.int .i64 el) A8 S6 (g_load (g := g3) (off := 0) 1 (by kernel_rfl) rfl (by kernel_rfl)) rfl (fun ac A9 => ?_)
  refine s_one (.agg #[.int .i64 el, .slice none 0 0]) A9 S6 (g_build (r := [(0, .int .i64 el)]) (by kernel_rfl) (fun _ => by kernel_rfl)) rfl (fun ac A10 => ?_)
  refine s_alloc (#[.int .i64 0, .slice none 0 0]) A10 S6 (by kernel_rfl) rfl (fun g13 ac wc A11 S12 => ?_)
  refine s_store (g := g13) (off := 0) (v := .agg #[.int .i64 el, .slice none 0 0]) 0 (#[.int .i64 el, .slice none 0 0]) A11 S12 (by kernel_rfl) (by kernel_rfl) rfl (by kernel_rfl) (fun wc S15 => ?_)
  refine wpList_nil ?_
  refine n_then ?_
  refine wp_seq ?_
  refine wp_seq ?_
  have S0n := S15.nilRow 36 1
  refine wp_region_lit ?_
  refine s_one (.int .i64 0) A11 S0n (g_assign (by kernel_rfl)) rfl (fun ac A17 => ?_)
  refine wpList_nil ?_
  refine n_then ?_
  refine wp_block ?_
  refine c_loopN (fun mm ac wc => ∃ (k : Nat) (v : Value), mm = n - k ∧ (k ≤ n) ∧ Fr 28 ac [(0, .agg #[.int .i64 el, .slice A n cap]), (1, .pointer (some ⟨g3, 0, none⟩)), (2, .pointer (some ⟨g7, 0, none⟩)), (5, .pointer (some ⟨g3, 0, none⟩)), (6, .int .i64 el), (7, .agg #[.int .i64 el, .slice none 0 0]), (3, .pointer (some ⟨g13, 0, none⟩)), (4, .int .i64 (k : Int))] ∧ St w0 [⟨g13, 30, #[.int .i64 el, v], true⟩, ⟨g7, 30, #[.int .i64 0, .slice none 0 0], true⟩, ⟨g3, 30, #[.int .i64 el, .slice A n cap], true⟩] [⟨v, 36, 1, k, (rowF (fw ((mi xs).take k)))⟩] wc) _ ⟨0, .slice none 0 0, rfl, by omega, (A17.slot (A17.slot (A17.slot (A17.slot (A17.slot (A17.slot (A17.slot (A17.slot A17.nil (v := .int .i64 0) (by kernel_rfl) (congrArg (Value.int .i64) (by omega))) (v := .pointer (some ⟨g13, 0, none⟩)) (by kernel_rfl) rfl) (v := .agg #[.int .i64 el, .slice none 0 0]) (by kernel_rfl) rfl) (v := .int .i64 el) (by kernel_rfl) rfl) (v := .pointer (some ⟨g3, 0, none⟩)) (by kernel_rfl) rfl) (v := .pointer (some ⟨g7, 0, none⟩)) (by kernel_rfl) rfl) (v := .pointer (some ⟨g3, 0, none⟩)) (by kernel_rfl) rfl) (v := .agg #[.int .i64 el, .slice A n cap]) (by kernel_rfl) rfl), (St.rerow 0 (St.recell 0 S0n rfl (by rfl)) rfl ⟨rfl, rfl⟩).sub sub_all sub_all⟩ ?_
  rintro mm ac wc ⟨k, v, hm20, hk, A18, S19⟩
  refine wp_seq ?_
  refine wp_seq ?_
  refine wp_region_lit ?_
  refine s_one (.int .i64 (k : Int)) A18 S19 (g_move (by kernel_rfl)) rfl (fun ac A21 => ?_)
  refine s_one (.pointer (some ⟨g3, 1, none⟩)) A21 S19 (g_field (u := .pointer (some ⟨g3, 0, none⟩)) (by kernel_rfl) (fun _ => by kernel_rfl)) rfl (fun ac A22 => ?_)
  refine s_one (.slice A n cap) A22 S19 (g_load (g := g3) (off := 1) 2 (by kernel_rfl) rfl (by kernel_rfl)) rfl (fun ac A23 => ?_)
  refine s_one (.int .i64 (n : Int)) A23 S19 (g_built (r := [(0, .slice A n cap)]) (by kernel_rfl) (fun _ _ _ => by kernel_rfl)) rfl (fun ac A24 => ?_)
  refine s_one (.bool (decide ((k : Int) < (n : Int)))) A24 S19 (g_bin (u := .int .i64 (k : Int)) (k := .int .i64 (n : Int)) (by kernel_rfl) (by kernel_rfl) (fun _ => by kernel_rfl) (fun _ => by kernel_rfl)) rfl (fun ac A25 => ?_)
  refine wpList_nil ?_
  refine n_then ?_
  refine c_ifb (b := (decide ((k : Int) < (n : Int)))) A25 (by kernel_rfl) (fun h26 => ?_) (fun h26 => ?_)
  · have p27 := of_decide_eq_true h26
    refine wp_skip ?_
    refine n_then ?_
    refine wp_seq ?_
    refine wp_block ?_
    refine r_begin (w0 := w0) (by kernel_rfl) (S19.sub (sub_skip (sub_skip sub_all)) sub_nil) (fun wc T28 B29 => ?_)
    have S30 := S19.kept B29
    refine r_take 0 (.pointer (some ⟨g13, 1, none⟩)) A25 T28 (g_field (u := .pointer (some ⟨g13, 0, none⟩)) (by kernel_rfl) (fun _ => by kernel_rfl)) rfl rfl rfl (pf_block (pf_then (pf_then (pf_block (pf_then pf_body))))) (by kernel_rfl) (fun ac A31 => ?_)
    refine r_take 2 (.pointer (some ⟨g3, 1, none⟩)) A31 T28 (g_field (u := .pointer (some ⟨g3, 0, none⟩)) (by kernel_rfl) (fun _ => by kernel_rfl)) rfl rfl rfl (pf_block (pf_then (pf_then (pf_block (pf_then pf_body))))) (by kernel_rfl) (fun ac A32 => ?_)
    refine r_take 3 (.slice A n cap) A32 T28 (g_load (g := g3) (off := 1) 0 (by kernel_rfl) rfl (by kernel_rfl)) rfl rfl rfl (pf_block (pf_then (pf_then (pf_block (pf_then pf_body))))) (by kernel_rfl) (fun ac A33 => ?_)
    refine r_take 4 (.int .i64 (k : Int)) A33 T28 (g_move (by kernel_rfl)) rfl rfl rfl (pf_block (pf_then (pf_then (pf_block (pf_then pf_body))))) (by kernel_rfl) (fun ac A34 => ?_)
    obtain ⟨ad35, rfl, _⟩ := hr (k) (by have hlen := hn; omega)
    refine r_take 5 (.pointer (some (ad35.add k))) A34 T28 (g_index (u := .slice (some ad35) n cap) (k := .int .i64 (k : Int)) (by kernel_rfl) (by kernel_rfl) (ix_x (e := 36) (bytes := 4) k (by kernel_rfl) (by omega) (by omega))) rfl rfl rfl (pf_block (pf_then (pf_then (pf_block (pf_then pf_body))))) (by kernel_rfl) (fun ac A36 => ?_)
    refine r_take 6 (.float .f32 (nth xs k)) A36 T28 (g_loadXF (l := xs) (k := k) (by kernel_rfl) hr (by have hlen := hn; omega) (by kernel_rfl)) rfl rfl rfl (pf_block (pf_then (pf_then (pf_block (pf_then pf_body))))) (by kernel_rfl) (fun ac A37 => ?_)
    refine r_take 7 (.int .i64 (num (nth xs k))) A37 T28 (g_conv (u := .float .f32 (nth xs k)) (by kernel_rfl) (run_toInt (HR _ (by omega)))) rfl rfl rfl (pf_block (pf_then (pf_then (pf_block (pf_then pf_body))))) (by kernel_rfl) (fun ac A38 => ?_)
    refine r_take 8 (.float .f32 (floatOfInt .f32 (num (nth xs k)))) A38 T28 (g_conv (u := .int .i64 (num (nth xs k))) (by kernel_rfl) (fun _ => by kernel_rfl)) rfl rfl rfl (pf_block (pf_then (pf_then (pf_block (pf_then pf_body))))) (by kernel_rfl) (fun ac A39 => ?_)
    refine r_2 (i := 1) (j := 9) (by kernel_rfl) ?_ ?_
    · refine rs_gives (v) A39 S30 (sub_skip (sub_skip sub_all)) sub_nil (g_load (g := g13) (off := 1) 0 (by kernel_rfl) rfl (by kernel_rfl)) rfl rfl rfl (fun ac A40 => ?_)
      refine r_1 (i := 9) (by kernel_rfl) ?_
      refine rs_bs (e := 36) (r := [(0, .float .f32 (floatOfInt .f32 (num (nth xs k))))]) (#[.float .f32 (floatOfInt .f32 (num (nth xs k)))]) A40 S30 (sub_skip (sub_skip sub_all)) sub_nil (by kernel_rfl) (by kernel_rfl) rfl rfl rfl (fun g46 ac wc A44 S45 => ?_)
      have T47 := S45.sub (sub_skip (sub_skip (sub_skip sub_all))) sub_nil
      refine r_1 (i := 10) (by kernel_rfl) ?_
      refine rs_append (e := 36) (size := 1) (bytes := 4) (v := v) (g := g46) (m' := 1) (c := 1) 0 0 [.float .f32 (floatOfInt .f32 (num (nth xs k)))] A44 S45 (sub_skip (sub_skip (sub_skip sub_all))) (fun _ => sub_nil) (by kernel_rfl) (by kernel_rfl) (by kernel_rfl) rfl rfl (by kernel_rfl) rfl (by kernel_rfl) (by omega) (by omega) rfl rfl rfl (fun v52 ac wc A48 S49 => ?_)
      have T51 := S49.sub (sub_skip (sub_skip (sub_skip sub_all))) sub_nil
      refine r_take 11 (.pointer (some ⟨g13, 1, none⟩)) A48 T51 (g_field (u := .pointer (some ⟨g13, 0, none⟩)) (by kernel_rfl) (fun _ => by kernel_rfl)) rfl rfl rfl (pf_block (pf_then (pf_then (pf_block (pf_then pf_body))))) (by kernel_rfl) (fun ac A53 => ?_)
      refine r_1 (i := 12) (by kernel_rfl) ?_
      obtain ⟨A54, cap55, rfl⟩ := row_slice (v := v52) (m := k + 1) (S49.row 0 rfl)
      refine rs_store (g := g13) (off := 1) (v := .slice A54 (k + 1) cap55) 1 (#[.int .i64 el, .slice A54 (k + 1) cap55]) A53 S49 (sub_skip (sub_skip (sub_skip sub_all))) sub_nil (by kernel_rfl) (by kernel_rfl) rfl (by kernel_rfl) rfl rfl (fun wc S57 => ?_)
      have T59 := S57.sub (sub_skip (sub_skip (sub_skip sub_all))) sub_nil
      refine r_done (by kernel_rfl) ?_
      refine n_block ?_
      refine n_then ?_
      refine wp_region_lit ?_
      refine s_one (.int .i64 (k : Int)) A53 S57 (g_move (by kernel_rfl)) rfl (fun ac A60 => ?_)
      refine s_one (.int .i64 ((k : Int) + 1)) A60 S57 (g_bin (u := .int .i64 (k : Int)) (k := .int .i64 1) (by kernel_rfl) (by kernel_rfl) (fun _ => by kernel_rfl) (b_add (by omega))) rfl (fun ac A61 => ?_)
      refine s_one (.int .i64 ((k : Int) + 1)) A61 S57 (g_assign (by kernel_rfl)) rfl (fun ac A62 => ?_)
      refine wpList_nil ?_
      refine n_then ?_
      refine ⟨_, ⟨k + 1, .slice A54 (k + 1) cap55, rfl, by omega, (A62.slot (A62.slot (A62.slot (A62.slot (A62.slot (A62.slot (A62.slot (A62.slot A62.nil (v := .int .i64 ((k : Int) + 1)) (by kernel_rfl) (congrArg (Value.int .i64) (by omega))) (v := .pointer (some ⟨g13, 0, none⟩)) (by kernel_rfl) rfl) (v := .agg #[.int .i64 el, .slice none 0 0]) (by kernel_rfl) rfl) (v := .int .i64 el) (by kernel_rfl) rfl) (v := .pointer (some ⟨g3, 0, none⟩)) (by kernel_rfl) rfl) (v := .pointer (some ⟨g7, 0, none⟩)) (by kernel_rfl) rfl) (v := .pointer (some ⟨g3, 0, none⟩)) (by kernel_rfl) rfl) (v := .agg #[.int .i64 el, .slice (some ad35) n cap]) (by kernel_rfl) (by first | rfl | simp)), (St.rerow 0 (St.recell 3 (St.recell 1 S57 rfl (by rfl)) rfl (by rfl)) rfl ⟨rfl, fw_snoc1 (by omega)⟩).sub (sub_skip sub_all) sub_all⟩, ?_⟩
      omega
    · refine rs_bs (e := 36) (r := [(0, .float .f32 (floatOfInt .f32 (num (nth xs k))))]) (#[.float .f32 (floatOfInt .f32 (num (nth xs k)))]) A39 S30 (sub_skip (sub_skip sub_all)) sub_nil (by kernel_rfl) (by kernel_rfl) rfl rfl rfl (fun g65 ac wc A63 S64 => ?_)
      have T66 := S64.sub (sub_skip (sub_skip (sub_skip sub_all))) sub_nil
      refine r_1 (i := 1) (by kernel_rfl) ?_
      refine rs_gives (v) A63 S64 (sub_skip (sub_skip (sub_skip sub_all))) sub_nil (g_load (g := g13) (off := 1) 1 (by kernel_rfl) rfl (by kernel_rfl)) rfl rfl rfl (fun ac A67 => ?_)
      refine r_1 (i := 10) (by kernel_rfl) ?_
      refine rs_append (e := 36) (size := 1) (bytes := 4) (v := v) (g := g65) (m' := 1) (c := 1) 0 0 [.float .f32 (floatOfInt .f32 (num (nth xs k)))] A67 S64 (sub_skip (sub_skip (sub_skip sub_all))) (fun _ => sub_nil) (by kernel_rfl) (by kernel_rfl) (by kernel_rfl) rfl rfl (by kernel_rfl) rfl (by kernel_rfl) (by omega) (by omega) rfl rfl rfl (fun v75 ac wc A71 S72 => ?_)
      have T74 := S72.sub (sub_skip (sub_skip (sub_skip sub_all))) sub_nil
      refine r_take 11 (.pointer (some ⟨g13, 1, none⟩)) A71 T74 (g_field (u := .pointer (some ⟨g13, 0, none⟩)) (by kernel_rfl) (fun _ => by kernel_rfl)) rfl rfl rfl (pf_block (pf_then (pf_then (pf_block (pf_then pf_body))))) (by kernel_rfl) (fun ac A76 => ?_)
      refine r_1 (i := 12) (by kernel_rfl) ?_
      obtain ⟨A77, cap78, rfl⟩ := row_slice (v := v75) (m := k + 1) (S72.row 0 rfl)
      refine rs_store (g := g13) (off := 1) (v := .slice A77 (k + 1) cap78) 1 (#[.int .i64 el, .slice A77 (k + 1) cap78]) A76 S72 (sub_skip (sub_skip (sub_skip sub_all))) sub_nil (by kernel_rfl) (by kernel_rfl) rfl (by kernel_rfl) rfl rfl (fun wc S80 => ?_)
      have T82 := S80.sub (sub_skip (sub_skip (sub_skip sub_all))) sub_nil
      refine r_done (by kernel_rfl) ?_
      refine n_block ?_
      refine n_then ?_
      refine wp_region_lit ?_
      refine s_one (.int .i64 (k : Int)) A76 S80 (g_move (by kernel_rfl)) rfl (fun ac A83 => ?_)
      refine s_one (.int .i64 ((k : Int) + 1)) A83 S80 (g_bin (u := .int .i64 (k : Int)) (k := .int .i64 1) (by kernel_rfl) (by kernel_rfl) (fun _ => by kernel_rfl) (b_add (by omega))) rfl (fun ac A84 => ?_)
      refine s_one (.int .i64 ((k : Int) + 1)) A84 S80 (g_assign (by kernel_rfl)) rfl (fun ac A85 => ?_)
      refine wpList_nil ?_
      refine n_then ?_
      refine ⟨_, ⟨k + 1, .slice A77 (k + 1) cap78, rfl, by omega, (A85.slot (A85.slot (A85.slot (A85.slot (A85.slot (A85.slot (A85.slot (A85.slot A85.nil (v := .int .i64 ((k : Int) + 1)) (by kernel_rfl) (congrArg (Value.int .i64) (by omega))) (v := .pointer (some ⟨g13, 0, none⟩)) (by kernel_rfl) rfl) (v := .agg #[.int .i64 el, .slice none 0 0]) (by kernel_rfl) rfl) (v := .int .i64 el) (by kernel_rfl) rfl) (v := .pointer (some ⟨g3, 0, none⟩)) (by kernel_rfl) rfl) (v := .pointer (some ⟨g7, 0, none⟩)) (by kernel_rfl) rfl) (v := .pointer (some ⟨g3, 0, none⟩)) (by kernel_rfl) rfl) (v := .agg #[.int .i64 el, .slice (some ad35) n cap]) (by kernel_rfl) (by first | rfl | simp)), (St.rerow 0 (St.recell 3 (St.recell 1 S80 rfl (by rfl)) rfl (by rfl)) rfl ⟨rfl, fw_snoc1 (by omega)⟩).sub (sub_skip sub_all) sub_all⟩, ?_⟩
      omega
  · have p86 := of_decide_eq_false h26
    refine wp_exit ?_
    refine x_then ?_
    refine x_then ?_
    refine x_hit ?_
    refine n_then ?_
    refine wp_seq ?_
    refine wp_region_lit ?_
    refine s_one (.agg #[.int .i64 el, v]) A25 S19 (g_load (g := g13) (off := 0) 0 (by kernel_rfl) rfl (by kernel_rfl)) rfl (fun ac A87 => ?_)
    obtain ⟨A88, cap89, rfl⟩ := row_slice (v := v) (m := k) (S19.row 0 rfl)
    refine s_store (g := g7) (off := 0) (v := .agg #[.int .i64 el, .slice A88 k cap89]) 1 (#[.int .i64 el, .slice A88 k cap89]) A87 S19 (by kernel_rfl) (by kernel_rfl) rfl (by kernel_rfl) (fun wc S91 => ?_)
    refine wpList_nil ?_
    refine n_then ?_
    refine wp_ret ?_
    obtain rfl : n = k := by omega
    have SR : St w0 [⟨g13, 30, #[.int .i64 el, .slice A88 n cap89], true⟩, ⟨g7, 30, #[.int .i64 el, .slice A88 n cap89], true⟩, ⟨g3, 30, #[.int .i64 el, .slice A n cap], true⟩] [⟨.slice A88 n cap89, 36, 1, n, (rowF (fw (mi xs)))⟩] _ := St.rerow 0 S91 rfl ⟨rfl, by rw [List.take_of_length_le (by rw [mi_length]; omega)]⟩
    refine fin1 (.agg #[.int .i64 el, .slice A88 n cap89]) Try.results27 A87 SR (rv_cell (g := g7) (off := 0) 1 (by kernel_rfl) rfl (by kernel_rfl)) ?_
    have bw := SR.kp
    have ow := SR.row 0 rfl
    exact ⟨_, rfl, bw, ow⟩

end Go.Proofs.Ytcijkniijomcjaa
/- A matrix with another trace. -/
namespace Go.Proofs.Ytcijkniijomcjaa
open Go.RowKit Go.Cpl

theorem fw_nums {ys : List Nat} {k : Nat} (h : k < 64) : (fw (nums ys))[k]? = some (floatOfInt .f32 (num (nth ys k))) := by
  rw [fw, List.getElem?_map, List.getElem?_eq_getElem (by rw [nums_length]; exact h)]
  simp [nums]
/-- A matrix with another trace of a pair: its words, and what it says of its elements. -/
def wiE (el : Int) (xs : List Nat) (p q : Int) (ys : List Nat) : Int := if firstOf [(mxC el xs).2, pairE el p q, (firstErr ys 0).2] = 0 then el else 0
def wiW (el : Int) (xs : List Nat) (p q : Int) (ys : List Nat) : List Nat := if firstOf [(mxC el xs).2, pairE el p q, (firstErr ys 0).2] = 0 then fw (putL (mi xs) (toI el p q) (nums ys)) else []

set_option maxRecDepth 100000 in
set_option maxHeartbeats 400000 in
theorem refWith_s (el : Int) (A : Option Addr) (n cap : Nat) (xs : List Nat) (p q : Int) (ys : List Nat) (w0 : World) (hn : xs.length = n) (hr : FReads w0 A xs) (hm : n ≤ 1000) (hy : ys.length = 64) (h0 : firstOf [(mxC el xs).2, pairE el p q, (firstErr ys 0).2] = 0) :
    Calls Try.prog 25 #[.agg #[.int .i64 el, .slice A n cap], .agg #[.int .i64 p, .int .i64 q], .agg (trc ys)] w0 fun e w' => ∃ v, e = .returned (.agg #[.int .i64 el, v]) ∧ Below w0.heap.size w0 w' ∧ w'.ownsRow w0.heap.size 36 1 v n (rowF (fw (putL (mi xs) (toI el p q) (nums ys)))) := by
  have S0 := St.start w0
  obtain ⟨z1, z2, z3⟩ := firstOf_three h0
  obtain ⟨he1, he2, he3⟩ := mxC_0 z1
  obtain ⟨hp, hq⟩ := pairE_0 he1 z2
  have hsq := sq_bd he1
  have hpa := pair_at he1 hp hq
  have hti : toI el p q = ((p * el + q) * 64).toNat := rfl
  have hR : Right xs := right_of he3
  have hRy : Right ys := right_of z3
  have HR : ∀ k, k < 64 → sErr (nth ys k) = 0 := fun k hk => hRy.at_ (by omega)
  have hfl : (fw (mi xs)).length = n := (fw_length _).trans ((mi_length _).trans hn)
  have hnl : (fw (nums ys)).length = 64 := (fw_length _).trans (nums_length _)
  have hof : toI el p q + 64 ≤ n := by omega
  refine enter (n := 32) Try.func25 rfl rfl rfl (fun ac A0 => ?_)
  refine wp_seq ?_
  refine wp_region_lit ?_
  refine s_box (.agg #[.int .i64 el, .slice A n cap]) A0 S0 (by kernel_rfl) rfl (fun g3 ac wc A1 S2 => ?_)
  replace S2 : St _ (⟨g3, 30, #[.int .i64 el, .slice A n cap], true⟩ :: _) _ _ := S2
  refine s_box (.agg #[.int .i64 p, .int .i64 q]) A1 S2 (by kernel_rfl) rfl (fun g7 ac wc A5 S6 => ?_)
  replace S6 : St _ (⟨g7, 26, #[.int .i64 p, .int .i64 q], true⟩ :: _) _ _ := S6
  refine s_box (.agg (trc ys)) A5 S6 (by kernel_rfl) rfl (fun g11 ac wc A9 S10 => ?_)
  replace S10 : St _ (⟨g11, 38, (trc ys), true⟩ :: _) _ _ := S10
  refine s_alloc (#[.int .i64 0, .slice none 0 0]) A9 S10 (by kernel_rfl) rfl (fun g15 ac wc A13 S14 => ?_)
  refine wpList_nil ?_
  refine n_then ?_
  refine wp_seq ?_
  refine wp_region_lit ?_
  refine s_one (.agg #[.int .i64 el, .slice A n cap]) A13 S14 (g_load (g := g3) (off := 0) 3 (by kernel_rfl) rfl (by kernel_rfl)) rfl (fun ac A16 => ?_)
  have hfm : (fw (mi xs)).length = n := (fw_length _).trans ((mi_length _).trans hn)
  refine s_callRF (fs := #[]) (cp := #[]) (r := [(0, .agg #[.int .i64 el, .slice A n cap])]) (fun v => .agg #[.int .i64 el, v]) #[.agg #[.int .i64 el, .slice A n cap]] A16 S14 (Plain_s el A n cap xs _ hn (hr.kept S14.kp) (by omega) (hR)) Try.call27 (by kernel_rfl) (by kernel_rfl) (by kernel_rfl) rfl (fun v20 ac wc A17 S18 => ?_)
  obtain ⟨hl21, A22, cap23, rfl, hc24, hr25⟩ := rowF_reads (v := v20) (m := n) (l := fw (mi xs)) (S18.row 0 rfl)
  refine s_alloc (#[.int .i64 0, .slice none 0 0]) A17 S18 (by kernel_rfl) rfl (fun g28 ac wc A26 S27 => ?_)
  refine s_store (g := g28) (off := 0) (v := .agg #[.int .i64 el, .slice A22 n cap23]) 0 (#[.int .i64 el, .slice A22 n cap23]) A26 S27 (by kernel_rfl) (by kernel_rfl) rfl (by kernel_rfl) (fun wc S30 => ?_)
  refine wpList_nil ?_
  refine n_then ?_
  refine wp_seq ?_
  refine wp_seq ?_
  obtain ⟨gr32, cq33, hX34⟩ := row_some (v := .slice A22 n cap23) (m := n) (St.row S30 0 rfl) (by omega)
  obtain rfl := (Value.slice.inj hX34).1
  refine wp_region_lit ?_
  refine s_one (.int .i64 0) A26 S30 (g_assign (by kernel_rfl)) rfl (fun ac A35 => ?_)
  refine wpList_nil ?_
  refine n_then ?_
  refine wp_block ?_
  refine c_loopN (fun mm ac wc => ∃ (k : Nat), mm = 64 - k ∧ (k ≤ 64) ∧ Fr 32 ac [(0, .agg #[.int .i64 el, .slice A n cap]), (1, .agg #[.int .i64 p, .int .i64 q]), (2, .agg (trc ys)), (3, .pointer (some ⟨g3, 0, none⟩)), (4, .pointer (some ⟨g7, 0, none⟩)), (5, .pointer (some ⟨g11, 0, none⟩)), (6, .pointer (some ⟨g15, 0, none⟩)), (9, .agg #[.int .i64 el, .slice A n cap]), (10, .agg #[.int .i64 el, .slice (some (Addr.mk gr32 0 none)) n cap23]), (7, .pointer (some ⟨g28, 0, none⟩)), (8, .int .i64 (k : Int))] ∧ St w0 [⟨g28, 30, #[.int .i64 el, .slice (some (Addr.mk gr32 0 none)) n cap23], true⟩, ⟨g15, 30, #[.int .i64 0, .slice none 0 0], true⟩, ⟨g11, 38, (trc ys), true⟩, ⟨g7, 26, #[.int .i64 p, .int .i64 q], true⟩, ⟨g3, 30, #[.int .i64 el, .slice A n cap], true⟩] [⟨.slice (some (Addr.mk gr32 0 none)) n cap23, 36, 1, n, (rowF (putK (fw (mi xs)) (fw (nums ys)) (toI el p q) k))⟩] wc) _ ⟨0, rfl, by omega, (A35.slot (A35.slot (A35.slot (A35.slot (A35.slot (A35.slot (A35.slot (A35.slot (A35.slot (A35.slot (A35.slot A35.nil (v := .int .i64 0) (by kernel_rfl) (congrArg (Value.int .i64) (by omega))) (v := .pointer (some ⟨g28, 0, none⟩)) (by kernel_rfl) rfl) (v := .agg #[.int .i64 el, .slice (some (Addr.mk gr32 0 none)) n cap23]) (by kernel_rfl) rfl) (v := .agg #[.int .i64 el, .slice A n cap]) (by kernel_rfl) rfl) (v := .pointer (some ⟨g15, 0, none⟩)) (by kernel_rfl) rfl) (v := .pointer (some ⟨g11, 0, none⟩)) (by kernel_rfl) rfl) (v := .pointer (some ⟨g7, 0, none⟩)) (by kernel_rfl) rfl) (v := .pointer (some ⟨g3, 0, none⟩)) (by kernel_rfl) rfl) (v := .agg (trc ys)) (by kernel_rfl) rfl) (v := .agg #[.int .i64 p, .int .i64 q]) (by kernel_rfl) rfl) (v := .agg #[.int .i64 el, .slice A n cap]) (by kernel_rfl) rfl), (St.rerow 0 S30 rfl ⟨rfl, congrArg rowF (putK_zero _ _ _).symm⟩).sub sub_all sub_all⟩ ?_
  rintro mm ac wc ⟨k, hm38, hk, A36, S37⟩
  have hkl : (putK (fw (mi xs)) (fw (nums ys)) (toI el p q) k).length = n := (putK_length (by omega)).trans hfl
  refine wp_seq ?_
  refine wp_seq ?_
  refine wp_region_lit ?_
  refine s_one (.int .i64 (k : Int)) A36 S37 (g_move (by kernel_rfl)) rfl (fun ac A39 => ?_)
  refine s_one (.bool (decide ((k : Int) < 64))) A39 S37 (g_bin (u := .int .i64 (k : Int)) (k := .int .i64 64) (by kernel_rfl) (by kernel_rfl) (fun _ => by kernel_rfl) (fun _ => by kernel_rfl)) rfl (fun ac A40 => ?_)
  refine wpList_nil ?_
  refine n_then ?_
  refine c_ifb (b := (decide ((k : Int) < 64))) A40 (by kernel_rfl) (fun h41 => ?_) (fun h41 => ?_)
  · have p42 := of_decide_eq_true h41
    refine wp_skip ?_
    refine n_then ?_
    refine wp_seq ?_
    refine wp_block ?_
    refine r_begin (w0 := w0) (by kernel_rfl) (S37.sub sub_all sub_nil) (fun wc T43 B44 => ?_)
    have S45 := S37.kept B44
    refine r_take 0 (.pointer (some ⟨g28, 1, none⟩)) A40 T43 (g_field (u := .pointer (some ⟨g28, 0, none⟩)) (by kernel_rfl) (fun _ => by kernel_rfl)) rfl rfl rfl (pf_block (pf_then (pf_then (pf_block (pf_then pf_body))))) (by kernel_rfl) (fun ac A46 => ?_)
    refine r_take 1 (.slice (some (Addr.mk gr32 0 none)) n cap23) A46 T43 (g_load (g := g28) (off := 1) 0 (by kernel_rfl) rfl (by kernel_rfl)) rfl rfl rfl (pf_block (pf_then (pf_then (pf_block (pf_then pf_body))))) (by kernel_rfl) (fun ac A47 => ?_)
    refine r_take 2 (.agg #[.int .i64 el, .slice A n cap]) A47 T43 (g_load (g := g3) (off := 0) 4 (by kernel_rfl) rfl (by kernel_rfl)) rfl rfl rfl (pf_block (pf_then (pf_then (pf_block (pf_then pf_body))))) (by kernel_rfl) (fun ac A48 => ?_)
    refine r_take 3 (.pointer (some ⟨g7, 0, none⟩)) A48 T43 (g_index (u := .pointer (some ⟨g7, 0, none⟩)) (k := .int .i64 0) (by kernel_rfl) (by kernel_rfl) (fun _ => by kernel_rfl)) rfl rfl rfl (pf_block (pf_then (pf_then (pf_block (pf_then pf_body))))) (by kernel_rfl) (fun ac A49 => ?_)
    refine r_take 4 (.int .i64 p) A49 T43 (g_load (g := g7) (off := 0) 3 (by kernel_rfl) rfl (by kernel_rfl)) rfl rfl rfl (pf_block (pf_then (pf_then (pf_block (pf_then pf_body))))) (by kernel_rfl) (fun ac A50 => ?_)
    refine r_take 5 (.pointer (some ⟨g7, 1, none⟩)) A50 T43 (g_index (u := .pointer (some ⟨g7, 0, none⟩)) (k := .int .i64 1) (by kernel_rfl) (by kernel_rfl) (fun _ => by kernel_rfl)) rfl rfl rfl (pf_block (pf_then (pf_then (pf_block (pf_then pf_body))))) (by kernel_rfl) (fun ac A51 => ?_)
    refine r_take 6 (.int .i64 q) A51 T43 (g_load (g := g7) (off := 1) 3 (by kernel_rfl) rfl (by kernel_rfl)) rfl rfl rfl (pf_block (pf_then (pf_then (pf_block (pf_then pf_body))))) (by kernel_rfl) (fun ac A52 => ?_)
    refine r_take 8 (.int .i64 (k : Int)) A52 T43 (g_move (by kernel_rfl)) rfl rfl rfl (pf_block (pf_then (pf_then (pf_block (pf_then pf_body))))) (by kernel_rfl) (fun ac A53 => ?_)
    refine r_take 10 (.int .i64 (k : Int)) A53 T43 (g_move (by kernel_rfl)) rfl rfl rfl (pf_block (pf_then (pf_then (pf_block (pf_then pf_body))))) (by kernel_rfl) (fun ac A54 => ?_)
    refine r_take 11 (.pointer (some ⟨g11, k, none⟩)) A54 T43 (g_index (u := .pointer (some ⟨g11, 0, none⟩)) (k := .int .i64 (k : Int)) (by kernel_rfl) (by kernel_rfl) (ix_arr1 k (len := 64) (by kernel_rfl) (by omega) (by omega))) rfl rfl rfl (pf_block (pf_then (pf_then (pf_block (pf_then pf_body))))) (by kernel_rfl) (fun ac A55 => ?_)
    refine r_take 12 (.float .f32 (nth ys k)) A55 T43 (g_load (g := g11) (off := k) 2 (by kernel_rfl) rfl (rv_of (by kernel_rfl) (trc_get (by rw [hy]; omega)))) rfl rfl rfl (pf_block (pf_then (pf_then (pf_block (pf_then pf_body))))) (by kernel_rfl) (fun ac A56 => ?_)
    refine r_take 13 (.int .i64 (num (nth ys k))) A56 T43 (g_conv (u := .float .f32 (nth ys k)) (by kernel_rfl) (run_toInt (HR _ (by omega)))) rfl rfl rfl (pf_block (pf_then (pf_then (pf_block (pf_then pf_body))))) (by kernel_rfl) (fun ac A57 => ?_)
    refine r_take 14 (.float .f32 (floatOfInt .f32 (num (nth ys k)))) A57 T43 (g_conv (u := .int .i64 (num (nth ys k))) (by kernel_rfl) (fun _ => by kernel_rfl)) rfl rfl rfl (pf_block (pf_then (pf_then (pf_block (pf_then pf_body))))) (by kernel_rfl) (fun ac A58 => ?_)
    refine r_1 (i := 7) (by kernel_rfl) ?_
    refine rs_call (fs := #[]) (cp := #[]) (r := [(0, .agg #[.int .i64 el, .slice A n cap]), (0, .int .i64 p), (0, .int .i64 q)]) #[.agg #[.int .i64 el, .slice A n cap], .int .i64 p, .int .i64 q] (.int .i64 ((p * el + q) * 64)) A58 S45 sub_all sub_nil (at_s el p q A n cap _ (by omega) (by omega)) Try.call69 rfl rfl (by kernel_rfl) (by kernel_rfl) (by kernel_rfl) rfl (fun ac wc A59 S60 => ?_)
    have T62 := S60.sub sub_all sub_nil
    refine r_take 9 (.int .i64 ((p * el + q) * 64 + (k : Int))) A59 T62 (g_bin (u := .int .i64 ((p * el + q) * 64)) (k := .int .i64 (k : Int)) (by kernel_rfl) (by kernel_rfl) (fun _ => by kernel_rfl) (b_add (by omega))) rfl rfl rfl (pf_block (pf_then (pf_then (pf_block (pf_then pf_body))))) (by kernel_rfl) (fun ac A63 => ?_)
    refine r_1 (i := 15) (by kernel_rfl) ?_
    refine rs_gives (.pointer (some ((Addr.mk gr32 0 none).add (toI el p q + k)))) A63 S60 sub_all sub_nil (g_index (u := .slice (some (Addr.mk gr32 0 none)) n cap23) (k := .int .i64 ((p * el + q) * 64 + (k : Int))) (by kernel_rfl) (by kernel_rfl) (ix_x (e := 36) (bytes := 4) (toI el p q + k) (by kernel_rfl) (by omega) (by omega))) rfl rfl rfl (fun ac A64 => ?_)
    refine r_1 (i := 16) (by kernel_rfl) ?_
    have hl69 : ((putK (fw (mi xs)) (fw (nums ys)) (toI el p q) k).set (toI el p q + k) (floatOfInt .f32 (num (nth ys k)))).length = (putK (fw (mi xs)) (fw (nums ys)) (toI el p q) k).length := List.length_set
    refine rs_storeR 0 (ad := (Addr.mk gr32 0 none)) (off := toI el p q + k) (u := .float .f32 (floatOfInt .f32 (num (nth ys k)))) 1 [.float .f32 (floatOfInt .f32 (num (nth ys k)))] (rowF ((putK (fw (mi xs)) (fw (nums ys)) (toI el p q) k).set (toI el p q + k) (floatOfInt .f32 (num (nth ys k))))) A64 S60 sub_all (fun _ => sub_nil) (by kernel_rfl) (by kernel_rfl) rfl rfl rfl (by kernel_rfl) rfl (by rw [rowF_length]; have hlen := hkl; omega) (putF1 (by have hlen := hkl; omega)) rfl rfl (fun wc S68 => ?_)
    have T70 := S68.sub sub_all sub_nil
    refine r_done (by kernel_rfl) ?_
    refine n_block ?_
    refine n_then ?_
    refine wp_region_lit ?_
    refine s_one (.int .i64 (k : Int)) A64 S68 (g_move (by kernel_rfl)) rfl (fun ac A71 => ?_)
    refine s_one (.int .i64 ((k : Int) + 1)) A71 S68 (g_bin (u := .int .i64 (k : Int)) (k := .int .i64 1) (by kernel_rfl) (by kernel_rfl) (fun _ => by kernel_rfl) (b_add (by omega))) rfl (fun ac A72 => ?_)
    refine s_one (.int .i64 ((k : Int) + 1)) A72 S68 (g_assign (by kernel_rfl)) rfl (fun ac A73 => ?_)
    refine wpList_nil ?_
    refine n_then ?_
    refine ⟨_, ⟨k + 1, rfl, by omega, (A73.slot (A73.slot (A73.slot (A73.slot (A73.slot (A73.slot (A73.slot (A73.slot (A73.slot (A73.slot (A73.slot A73.nil (v := .int .i64 ((k : Int) + 1)) (by kernel_rfl) (congrArg (Value.int .i64) (by omega))) (v := .pointer (some ⟨g28, 0, none⟩)) (by kernel_rfl) rfl) (v := .agg #[.int .i64 el, .slice (some (Addr.mk gr32 0 none)) n cap23]) (by kernel_rfl) rfl) (v := .agg #[.int .i64 el, .slice A n cap]) (by kernel_rfl) rfl) (v := .pointer (some ⟨g15, 0, none⟩)) (by kernel_rfl) rfl) (v := .pointer (some ⟨g11, 0, none⟩)) (by kernel_rfl) rfl) (v := .pointer (some ⟨g7, 0, none⟩)) (by kernel_rfl) rfl) (v := .pointer (some ⟨g3, 0, none⟩)) (by kernel_rfl) rfl) (v := .agg (trc ys)) (by kernel_rfl) rfl) (v := .agg #[.int .i64 p, .int .i64 q]) (by kernel_rfl) rfl) (v := .agg #[.int .i64 el, .slice A n cap]) (by kernel_rfl) rfl), (St.rerow 0 S68 rfl ⟨rfl, congrArg rowF (putK_set (fw_nums (by omega)) (by omega))⟩).sub sub_all sub_all⟩, ?_⟩
    omega
  · have p74 := of_decide_eq_false h41
    refine wp_exit ?_
    refine x_then ?_
    refine x_then ?_
    refine x_hit ?_
    refine n_then ?_
    refine wp_seq ?_
    refine wp_region_lit ?_
    refine s_one (.agg #[.int .i64 el, .slice (some (Addr.mk gr32 0 none)) n cap23]) A40 S37 (g_load (g := g28) (off := 0) 0 (by kernel_rfl) rfl (by kernel_rfl)) rfl (fun ac A75 => ?_)
    refine s_store (g := g15) (off := 0) (v := .agg #[.int .i64 el, .slice (some (Addr.mk gr32 0 none)) n cap23]) 1 (#[.int .i64 el, .slice (some (Addr.mk gr32 0 none)) n cap23]) A75 S37 (by kernel_rfl) (by kernel_rfl) rfl (by kernel_rfl) (fun wc S77 => ?_)
    refine wpList_nil ?_
    refine n_then ?_
    refine wp_ret ?_
    obtain rfl : k = 64 := by omega
    have SR : St w0 [⟨g28, 30, #[.int .i64 el, .slice (some (Addr.mk gr32 0 none)) n cap23], true⟩, ⟨g15, 30, #[.int .i64 el, .slice (some (Addr.mk gr32 0 none)) n cap23], true⟩, ⟨g11, 38, (trc ys), true⟩, ⟨g7, 26, #[.int .i64 p, .int .i64 q], true⟩, ⟨g3, 30, #[.int .i64 el, .slice A n cap], true⟩] [⟨.slice (some (Addr.mk gr32 0 none)) n cap23, 36, 1, n, (rowF (fw (putL (mi xs) (toI el p q) (nums ys))))⟩] _ := St.rerow 0 S77 rfl ⟨rfl, by rw [putK_all (by omega), fw_put]⟩
    refine fin1 (.agg #[.int .i64 el, .slice (some (Addr.mk gr32 0 none)) n cap23]) Try.results25 A75 SR (rv_cell (g := g15) (off := 0) 1 (by kernel_rfl) rfl (by kernel_rfl)) ?_
    have bw := SR.kp
    have ow := SR.row 0 rfl
    exact ⟨_, rfl, bw, ow⟩

set_option maxRecDepth 100000 in
set_option maxHeartbeats 400000 in
theorem With_err (el : Int) (A : Option Addr) (n cap : Nat) (xs : List Nat) (p q : Int) (ys : List Nat) (w0 : World) (hn : xs.length = n) (hr : FReads w0 A xs) (hm : n ≤ 1000) (hy : ys.length = 64) (hel : -9223372036854775808 ≤ el ∧ el ≤ 9223372036854775807) (h0 : firstOf [(mxC el xs).2, pairE el p q, (firstErr ys 0).2] ≠ 0) :
    Calls Try.prog 22 #[.agg #[.int .i64 el, .slice A n cap], .agg #[.int .i64 p, .int .i64 q], .agg (trc ys)] w0 fun e w' => ∃ v, e = .returned (.tuple #[.agg #[.int .i64 0, v], .int .i64 (firstOf [(mxC el xs).2, pairE el p q, (firstErr ys 0).2])]) ∧ Below w0.heap.size w0 w' ∧ w'.ownsRow w0.heap.size 36 1 v 0 [] := by
  have S0 := St.start w0
  refine enter (n := 39) Try.func22 rfl rfl rfl (fun ac A0 => ?_)
  refine wp_seq ?_
  refine wp_region_lit ?_
  refine s_box (.agg #[.int .i64 el, .slice A n cap]) A0 S0 (by kernel_rfl) rfl (fun g3 ac wc A1 S2 => ?_)
  replace S2 : St _ (⟨g3, 30, #[.int .i64 el, .slice A n cap], true⟩ :: _) _ _ := S2
  refine s_box (.agg #[.int .i64 p, .int .i64 q]) A1 S2 (by kernel_rfl) rfl (fun g7 ac wc A5 S6 => ?_)
  replace S6 : St _ (⟨g7, 26, #[.int .i64 p, .int .i64 q], true⟩ :: _) _ _ := S6
  refine s_box (.agg (trc ys)) A5 S6 (by kernel_rfl) rfl (fun g11 ac wc A9 S10 => ?_)
  replace S10 : St _ (⟨g11, 38, (trc ys), true⟩ :: _) _ _ := S10
  refine s_alloc (#[.int .i64 0, .slice none 0 0]) A9 S10 (by kernel_rfl) rfl (fun g15 ac wc A13 S14 => ?_)
  refine s_one (.int .i64 0) A13 S14 (g_assign (by kernel_rfl)) rfl (fun ac A16 => ?_)
  refine wpList_nil ?_
  refine n_then ?_
  refine wp_seq ?_
  refine wp_seq ?_
  refine r_begin (w0 := w0) (by kernel_rfl) (S14.sub sub_all sub_all) (fun wc T17 B18 => ?_)
  have S19 := S14.kept B18
  refine r_take 0 (.agg #[.int .i64 el, .slice A n cap]) A16 T17 (g_load (g := g3) (off := 0) 3 (by kernel_rfl) rfl (by kernel_rfl)) rfl rfl rfl (pf_then (pf_then pf_body)) (by kernel_rfl) (fun ac A20 => ?_)
  refine r_take 2 (.agg #[.int .i64 el, .slice A n cap]) A20 T17 (g_load (g := g3) (off := 0) 3 (by kernel_rfl) rfl (by kernel_rfl)) rfl rfl rfl (pf_then (pf_then pf_body)) (by kernel_rfl) (fun ac A21 => ?_)
  refine r_take 3 (.agg #[.int .i64 p, .int .i64 q]) A21 T17 (g_load (g := g7) (off := 0) 2 (by kernel_rfl) rfl (by kernel_rfl)) rfl rfl rfl (pf_then (pf_then pf_body)) (by kernel_rfl) (fun ac A22 => ?_)
  refine r_take 5 (.agg (trc ys)) A22 T17 (g_loadW (g := g11) 1 (by kernel_rfl) rfl ((trc_size _).trans hy) ⟨⟨_, Try.underlying38, rfl⟩, by kernel_rfl⟩) rfl rfl rfl (pf_then (pf_then pf_body)) (by kernel_rfl) (fun ac A23 => ?_)
  refine r_1 (i := 1) (by kernel_rfl) ?_
  refine rs_call (fs := #[]) (cp := #[]) (r := [(0, .agg #[.int .i64 el, .slice A n cap])]) #[.agg #[.int .i64 el, .slice A n cap]] (.int .i64 ((mxC el xs).2)) A23 S19 sub_all sub_all (matrixErr_s el A n cap xs _ hn (hr.kept S19.kp) (by omega)) Try.call63 rfl rfl (by kernel_rfl) (by kernel_rfl) (by kernel_rfl) rfl (fun ac wc A24 S25 => ?_)
  have T27 := S25.sub sub_all sub_all
  refine r_1 (i := 4) (by kernel_rfl) ?_
  refine rs_call (fs := #[]) (cp := #[]) (r := [(0, .agg #[.int .i64 el, .slice A n cap]), (0, .agg #[.int .i64 p, .int .i64 q])]) #[.agg #[.int .i64 el, .slice A n cap], .agg #[.int .i64 p, .int .i64 q]] (.int .i64 (pairE el p q)) A24 S25 sub_all sub_all (pairErr_s el p q A n cap _ (by omega)) Try.call64 rfl rfl (by kernel_rfl) (by kernel_rfl) (by kernel_rfl) rfl (fun ac wc A28 S29 => ?_)
  have T31 := S29.sub sub_all sub_all
  refine r_1 (i := 6) (by kernel_rfl) ?_
  refine rs_call (fs := #[]) (cp := #[]) (r := [(0, .agg (trc ys))]) #[.agg (trc ys)] (.int .i64 ((firstErr ys 0).2)) A28 S29 sub_all sub_all (traceErr_any ys _ hy) Try.call71 rfl rfl (by kernel_rfl) (by kernel_rfl) (by kernel_rfl) rfl (fun ac wc A32 S33 => ?_)
  have T35 := S33.sub sub_all sub_all
  refine r_1 (i := 7) (by kernel_rfl) ?_
  refine rs_bs (e := 32) (r := [(0, .int .i64 ((mxC el xs).2)), (1, .int .i64 (pairE el p q)), (2, .int .i64 ((firstErr ys 0).2))]) (#[.int .i64 ((mxC el xs).2), .int .i64 (pairE el p q), .int .i64 ((firstErr ys 0).2)]) A32 S33 sub_all sub_all (by kernel_rfl) (by kernel_rfl) rfl rfl rfl (fun g38 ac wc A36 S37 => ?_)
  have T39 := S37.sub (sub_skip sub_all) sub_all
  refine r_1 (i := 8) (by kernel_rfl) ?_
  refine rs_call (fs := #[]) (cp := #[]) (r := [(0, .slice (some ⟨g38, 0, none⟩) 3 3)]) #[.slice (some ⟨g38, 0, none⟩) 3 3] (.int .i64 (firstOf [(mxC el xs).2, pairE el p q, (firstErr ys 0).2])) A36 S37 (sub_skip sub_all) sub_all (sameB (first_any g38 32 3 [(mxC el xs).2, pairE el p q, (firstErr ys 0).2] 3 _ (S37.get 0 rfl) rfl (by omega))) Try.call62 rfl rfl (by kernel_rfl) (by kernel_rfl) (by kernel_rfl) rfl (fun ac wc A40 S41 => ?_)
  have T43 := S41.sub (sub_skip sub_all) sub_all
  refine r_take 9 (.int .i64 (firstOf [(mxC el xs).2, pairE el p q, (firstErr ys 0).2])) A40 T43 (g_assign (by kernel_rfl)) rfl rfl rfl (pf_then (pf_then pf_body)) (by kernel_rfl) (fun ac A44 => ?_)
  refine r_done (by kernel_rfl) ?_
  refine n_then ?_
  refine wp_seq ?_
  refine wp_region_lit ?_
  refine s_one (.int .i64 (firstOf [(mxC el xs).2, pairE el p q, (firstErr ys 0).2])) A44 S41 (g_move (by kernel_rfl)) rfl (fun ac A45 => ?_)
  refine s_one (.bool (decide (firstOf [(mxC el xs).2, pairE el p q, (firstErr ys 0).2] ≠ 0))) A45 S41 (g_bin (u := .int .i64 (firstOf [(mxC el xs).2, pairE el p q, (firstErr ys 0).2])) (k := .int .i64 0) (by kernel_rfl) (by kernel_rfl) (fun _ => by kernel_rfl) b_neq) rfl (fun ac A46 => ?_)
  refine wpList_nil ?_
  refine n_then ?_
  refine c_t (b := (decide (firstOf [(mxC el xs).2, pairE el p q, (firstErr ys 0).2] ≠ 0))) A46 (by kernel_rfl) (decide_eq_true h0) ?_
  refine wp_seq ?_
  refine wp_region_lit ?_
  refine s_one (.agg #[.int .i64 0, .slice none 0 0]) A46 S41 (g_build (r := []) (by kernel_rfl) (fun _ => by kernel_rfl)) rfl (fun ac A47 => ?_)
  refine s_one (.int .i64 (firstOf [(mxC el xs).2, pairE el p q, (firstErr ys 0).2])) A47 S41 (g_move (by kernel_rfl)) rfl (fun ac A48 => ?_)
  refine s_store (g := g15) (off := 0) (v := .agg #[.int .i64 0, .slice none 0 0]) 1 (#[.int .i64 0, .slice none 0 0]) A48 S41 (by kernel_rfl) (by kernel_rfl) rfl (by kernel_rfl) (fun wc S50 => ?_)
  refine s_one (.int .i64 (firstOf [(mxC el xs).2, pairE el p q, (firstErr ys 0).2])) A48 S50 (g_assign (by kernel_rfl)) rfl (fun ac A52 => ?_)
  refine wpList_nil ?_
  refine n_then ?_
  refine wp_ret ?_
  refine r_then ?_
  have S53 := S50.nilRow 36 1
  refine fin2 (.agg #[.int .i64 0, .slice none 0 0]) (.int .i64 (firstOf [(mxC el xs).2, pairE el p q, (firstErr ys 0).2])) Try.results22 A52 S53 (rv_cell (g := g15) (off := 0) 1 (by kernel_rfl) rfl (by kernel_rfl)) (rv_tmp (by kernel_rfl)) ?_
  have bw := S53.kp
  have ow := S53.row 0 rfl
  exact ⟨_, rfl, bw, ow⟩

theorem pair_lt {f r n : Nat} (h : f < n) (h2 : r < n) : f * n + r < n * n := by
  have := Nat.mul_le_mul_right n (show f + 1 ≤ n from h)
  rw [Nat.succ_mul] at this
  omega

set_option maxRecDepth 100000 in
set_option maxHeartbeats 400000 in
theorem With_ok (ne n cap : Nat) (ad : Addr) (xs : List Nat) (f r : Nat) (ys : List Nat) (w0 : World) (hn : xs.length = n) (hr : FReads w0 (some ad) xs) (hm : n ≤ 1000) (hcp : n ≤ cap) (h1 : 1 ≤ ne) (hne : n = ne * ne * 64) (hy : ys.length = 64) (hz : firstOf [(mxC (ne : Int) xs).2, pairE (ne : Int) (f : Int) (r : Int), (firstErr ys 0).2] = 0) (hfr : f < ne ∧ r < ne) :
    Calls Try.prog 22 #[.agg #[.int .i64 (ne : Int), .slice (some ad) n cap], .agg #[.int .i64 (f : Int), .int .i64 (r : Int)], .agg (trc ys)] w0 fun e w' => ∃ v, e = .returned (.tuple #[.agg #[.int .i64 (ne : Int), v], .int .i64 0]) ∧ Below w0.heap.size w0 w' ∧ w'.ownsRow w0.heap.size 36 1 v (ne * ne * 64) (rowF (fw (putL (mi xs) ((f * ne + r) * 64) (nums ys)))) := by
  have S0 := St.start w0
  obtain ⟨h0, hz2, hz3⟩ := firstOf_three hz
  have hR : Right xs := right_of (mxC_0 h0).2.2
  have hpos : 0 < ne * ne := Nat.mul_pos h1 h1
  have hml : (mi xs).length = ne * ne * 64 := by rw [mi_length, hn, hne]
  have hne3 : ne ≤ 3 := by rcases Nat.lt_or_ge 3 ne with q | q; have := Nat.mul_le_mul q q; omega; exact q
  have hee : ne * ne ≤ 15 := by omega
  have hRy : Right ys := right_of hz3
  have hfe : f * ne + r < ne * ne := pair_lt hfr.1 hfr.2
  refine enter (n := 39) Try.func22 rfl rfl rfl (fun ac A0 => ?_)
  refine wp_seq ?_
  refine wp_region_lit ?_
  refine s_box (.agg #[.int .i64 (ne : Int), .slice (some ad) n cap]) A0 S0 (by kernel_rfl) rfl (fun g3 ac wc A1 S2 => ?_)
  replace S2 : St _ (⟨g3, 30, #[.int .i64 (ne : Int), .slice (some ad) n cap], true⟩ :: _) _ _ := S2
  refine s_box (.agg #[.int .i64 (f : Int), .int .i64 (r : Int)]) A1 S2 (by kernel_rfl) rfl (fun g7 ac wc A5 S6 => ?_)
  replace S6 : St _ (⟨g7, 26, #[.int .i64 (f : Int), .int .i64 (r : Int)], true⟩ :: _) _ _ := S6
  refine s_box (.agg (trc ys)) A5 S6 (by kernel_rfl) rfl (fun g11 ac wc A9 S10 => ?_)
  replace S10 : St _ (⟨g11, 38, (trc ys), true⟩ :: _) _ _ := S10
  refine s_alloc (#[.int .i64 0, .slice none 0 0]) A9 S10 (by kernel_rfl) rfl (fun g15 ac wc A13 S14 => ?_)
  refine s_one (.int .i64 0) A13 S14 (g_assign (by kernel_rfl)) rfl (fun ac A16 => ?_)
  refine wpList_nil ?_
  refine n_then ?_
  refine wp_seq ?_
  refine wp_seq ?_
  refine r_begin (w0 := w0) (by kernel_rfl) (S14.sub sub_all sub_all) (fun wc T17 B18 => ?_)
  have S19 := S14.kept B18
  refine r_take 0 (.agg #[.int .i64 (ne : Int), .slice (some ad) n cap]) A16 T17 (g_load (g := g3) (off := 0) 3 (by kernel_rfl) rfl (by kernel_rfl)) rfl rfl rfl (pf_then (pf_then pf_body)) (by kernel_rfl) (fun ac A20 => ?_)
  refine r_take 2 (.agg #[.int .i64 (ne : Int), .slice (some ad) n cap]) A20 T17 (g_load (g := g3) (off := 0) 3 (by kernel_rfl) rfl (by kernel_rfl)) rfl rfl rfl (pf_then (pf_then pf_body)) (by kernel_rfl) (fun ac A21 => ?_)
  refine r_take 3 (.agg #[.int .i64 (f : Int), .int .i64 (r : Int)]) A21 T17 (g_load (g := g7) (off := 0) 2 (by kernel_rfl) rfl (by kernel_rfl)) rfl rfl rfl (pf_then (pf_then pf_body)) (by kernel_rfl) (fun ac A22 => ?_)
  refine r_take 5 (.agg (trc ys)) A22 T17 (g_loadW (g := g11) 1 (by kernel_rfl) rfl ((trc_size _).trans hy) ⟨⟨_, Try.underlying38, rfl⟩, by kernel_rfl⟩) rfl rfl rfl (pf_then (pf_then pf_body)) (by kernel_rfl) (fun ac A23 => ?_)
  refine r_1 (i := 1) (by kernel_rfl) ?_
  refine rs_call (fs := #[]) (cp := #[]) (r := [(0, .agg #[.int .i64 (ne : Int), .slice (some ad) n cap])]) #[.agg #[.int .i64 (ne : Int), .slice (some ad) n cap]] (.int .i64 ((mxC (ne : Int) xs).2)) A23 S19 sub_all sub_all (matrixErr_s (ne : Int) (some ad) n cap xs _ hn (hr.kept S19.kp) (by omega)) Try.call63 rfl rfl (by kernel_rfl) (by kernel_rfl) (by kernel_rfl) rfl (fun ac wc A24 S25 => ?_)
  have T27 := S25.sub sub_all sub_all
  refine r_1 (i := 4) (by kernel_rfl) ?_
  refine rs_call (fs := #[]) (cp := #[]) (r := [(0, .agg #[.int .i64 (ne : Int), .slice (some ad) n cap]), (0, .agg #[.int .i64 (f : Int), .int .i64 (r : Int)])]) #[.agg #[.int .i64 (ne : Int), .slice (some ad) n cap], .agg #[.int .i64 (f : Int), .int .i64 (r : Int)]] (.int .i64 (pairE (ne : Int) (f : Int) (r : Int))) A24 S25 sub_all sub_all (pairErr_s (ne : Int) (f : Int) (r : Int) (some ad) n cap _ (by omega)) Try.call64 rfl rfl (by kernel_rfl) (by kernel_rfl) (by kernel_rfl) rfl (fun ac wc A28 S29 => ?_)
  have T31 := S29.sub sub_all sub_all
  refine r_1 (i := 6) (by kernel_rfl) ?_
  refine rs_call (fs := #[]) (cp := #[]) (r := [(0, .agg (trc ys))]) #[.agg (trc ys)] (.int .i64 ((firstErr ys 0).2)) A28 S29 sub_all sub_all (traceErr_any ys _ hy) Try.call71 rfl rfl (by kernel_rfl) (by kernel_rfl) (by kernel_rfl) rfl (fun ac wc A32 S33 => ?_)
  have T35 := S33.sub sub_all sub_all
  refine r_1 (i := 7) (by kernel_rfl) ?_
  refine rs_bs (e := 32) (r := [(0, .int .i64 ((mxC (ne : Int) xs).2)), (1, .int .i64 (pairE (ne : Int) (f : Int) (r : Int))), (2, .int .i64 ((firstErr ys 0).2))]) (#[.int .i64 ((mxC (ne : Int) xs).2), .int .i64 (pairE (ne : Int) (f : Int) (r : Int)), .int .i64 ((firstErr ys 0).2)]) A32 S33 sub_all sub_all (by kernel_rfl) (by kernel_rfl) rfl rfl rfl (fun g38 ac wc A36 S37 => ?_)
  have T39 := S37.sub (sub_skip sub_all) sub_all
  refine r_1 (i := 8) (by kernel_rfl) ?_
  refine rs_call (fs := #[]) (cp := #[]) (r := [(0, .slice (some ⟨g38, 0, none⟩) 3 3)]) #[.slice (some ⟨g38, 0, none⟩) 3 3] (.int .i64 (firstOf [(mxC (ne : Int) xs).2, pairE (ne : Int) (f : Int) (r : Int), (firstErr ys 0).2])) A36 S37 (sub_skip sub_all) sub_all (sameB (first_any g38 32 3 [(mxC (ne : Int) xs).2, pairE (ne : Int) (f : Int) (r : Int), (firstErr ys 0).2] 3 _ (S37.get 0 rfl) rfl (by omega))) Try.call62 rfl rfl (by kernel_rfl) (by kernel_rfl) (by kernel_rfl) rfl (fun ac wc A40 S41 => ?_)
  have T43 := S41.sub (sub_skip sub_all) sub_all
  refine r_take 9 (.int .i64 (firstOf [(mxC (ne : Int) xs).2, pairE (ne : Int) (f : Int) (r : Int), (firstErr ys 0).2])) A40 T43 (g_assign (by kernel_rfl)) rfl rfl rfl (pf_then (pf_then pf_body)) (by kernel_rfl) (fun ac A44 => ?_)
  refine r_done (by kernel_rfl) ?_
  refine n_then ?_
  refine wp_seq ?_
  refine wp_region_lit ?_
  refine s_one (.int .i64 (firstOf [(mxC (ne : Int) xs).2, pairE (ne : Int) (f : Int) (r : Int), (firstErr ys 0).2])) A44 S41 (g_move (by kernel_rfl)) rfl (fun ac A45 => ?_)
  refine s_one (.bool (decide (firstOf [(mxC (ne : Int) xs).2, pairE (ne : Int) (f : Int) (r : Int), (firstErr ys 0).2] ≠ 0))) A45 S41 (g_bin (u := .int .i64 (firstOf [(mxC (ne : Int) xs).2, pairE (ne : Int) (f : Int) (r : Int), (firstErr ys 0).2])) (k := .int .i64 0) (by kernel_rfl) (by kernel_rfl) (fun _ => by kernel_rfl) b_neq) rfl (fun ac A46 => ?_)
  refine wpList_nil ?_
  refine n_then ?_
  refine c_f (b := (decide (firstOf [(mxC (ne : Int) xs).2, pairE (ne : Int) (f : Int) (r : Int), (firstErr ys 0).2] ≠ 0))) A46 (by kernel_rfl) (decide_eq_false (fun h => h hz)) ?_
  refine wp_skip ?_
  refine n_then ?_
  refine wp_seq ?_
  refine wp_region_lit ?_
  refine s_one (.agg #[.int .i64 (ne : Int), .slice (some ad) n cap]) A46 S41 (g_load (g := g3) (off := 0) 4 (by kernel_rfl) rfl (by kernel_rfl)) rfl (fun ac A47 => ?_)
  refine s_callSt (T := Nat × Nat × Nat) (fs := #[]) (cp := #[]) (r := [(0, .agg #[.int .i64 (ne : Int), .slice (some ad) n cap])]) #[.agg #[.int .i64 (ne : Int), .slice (some ad) n cap]] (fun u => .tuple #[.pointer (some ⟨u.1, 0, none⟩), .int .i64 0]) (fun u => [⟨u.1, 137, #[.int .i64 (ne : Int), .slice (some (Addr.mk u.2.1 0 none)) (ne * ne) u.2.2], true⟩]) (fun u => [⟨.slice (some (Addr.mk u.2.1 0 none)) (ne * ne) u.2.2, 123, 64, (ne * ne), (rowI (mi xs))⟩]) A47 S41 (open_ok ne n cap ad xs _ hn (hr.kept S41.kp) hm hcp h1 hne h0) (fun u x hx => by simp only [List.mem_cons, List.not_mem_nil, or_false] at hx; subst hx; rfl) Try.call72 (by kernel_rfl) (by kernel_rfl) (by kernel_rfl) rfl (fun u54 ac wc A48 S49 => ?_)
  obtain ⟨gm51, gr52, cp53⟩ := u54
  replace S49 : St w0 [⟨gm51, 137, #[.int .i64 (ne : Int), .slice (some (Addr.mk gr52 0 none)) (ne * ne) cp53], true⟩, ⟨g38, 32, #[.int .i64 ((mxC (ne : Int) xs).2), .int .i64 (pairE (ne : Int) (f : Int) (r : Int)), .int .i64 ((firstErr ys 0).2)], true⟩, ⟨g15, 30, #[.int .i64 0, .slice none 0 0], true⟩, ⟨g11, 38, (trc ys), true⟩, ⟨g7, 26, #[.int .i64 (f : Int), .int .i64 (r : Int)], true⟩, ⟨g3, 30, #[.int .i64 (ne : Int), .slice (some ad) n cap], true⟩] [⟨.slice (some (Addr.mk gr52 0 none)) (ne * ne) cp53, 123, 64, (ne * ne), (rowI (mi xs))⟩] _ := S49
  refine s_one (.tuple #[.pointer (some ⟨gm51, 0, none⟩), .int .i64 0]) A48 S49 (g_move (by kernel_rfl)) rfl (fun ac A55 => ?_)
  refine s_one (.pointer (some ⟨gm51, 0, none⟩)) A55 S49 (g_extract (u := .tuple #[.pointer (some ⟨gm51, 0, none⟩), .int .i64 0]) (by kernel_rfl) (fun _ => by kernel_rfl)) rfl (fun ac A56 => ?_)
  refine s_one (.int .i64 0) A56 S49 (g_extract (u := .tuple #[.pointer (some ⟨gm51, 0, none⟩), .int .i64 0]) (by kernel_rfl) (fun _ => by kernel_rfl)) rfl (fun ac A57 => ?_)
  refine s_one (.pointer (some ⟨gm51, 0, none⟩)) A57 S49 (g_assign (by kernel_rfl)) rfl (fun ac A58 => ?_)
  refine s_one (.int .i64 0) A58 S49 (g_assign (by kernel_rfl)) rfl (fun ac A59 => ?_)
  refine wpList_nil ?_
  refine n_then ?_
  refine wp_seq ?_
  refine wp_region_lit ?_
  refine s_one (.pointer (some ⟨gm51, 0, none⟩)) A59 S49 (g_move (by kernel_rfl)) rfl (fun ac A60 => ?_)
  refine s_one (.pointer (some ⟨g7, 0, none⟩)) A60 S49 (g_index (u := .pointer (some ⟨g7, 0, none⟩)) (k := .int .i64 0) (by kernel_rfl) (by kernel_rfl) (fun _ => by kernel_rfl)) rfl (fun ac A61 => ?_)
  refine s_one (.int .i64 (f : Int)) A61 S49 (g_load (g := g7) (off := 0) 4 (by kernel_rfl) rfl (by kernel_rfl)) rfl (fun ac A62 => ?_)
  refine s_one (.pointer (some ⟨g7, 1, none⟩)) A62 S49 (g_index (u := .pointer (some ⟨g7, 0, none⟩)) (k := .int .i64 1) (by kernel_rfl) (by kernel_rfl) (fun _ => by kernel_rfl)) rfl (fun ac A63 => ?_)
  refine s_one (.int .i64 (r : Int)) A63 S49 (g_load (g := g7) (off := 1) 4 (by kernel_rfl) rfl (by kernel_rfl)) rfl (fun ac A64 => ?_)
  refine s_call (fs := #[]) (cp := #[]) (r := [(0, .pointer (some ⟨gm51, 0, none⟩)), (0, .int .i64 (f : Int)), (0, .int .i64 (r : Int))]) #[.pointer (some ⟨gm51, 0, none⟩), .int .i64 (f : Int), .int .i64 (r : Int)] (.pointer (some ((Addr.mk gr52 0 none).add ((f * ne + r) * 64)))) A64 S49 (mat_at gm51 ne (ne * ne) cp53 f r (Addr.mk gr52 0 none) (mi xs) _ (S49.get 0 rfl) (by have hlen := hml; omega) hfe (by omega)) Try.call73 (by kernel_rfl) (by kernel_rfl) (by kernel_rfl) rfl (fun ac wc A65 S66 => ?_)
  refine s_call (fs := #[]) (cp := #[]) (r := [(0, .pointer (some ⟨g11, 0, none⟩))]) #[.pointer (some ⟨g11, 0, none⟩)] (.agg (ints (nums ys))) A65 S66 (numbersOf_any g11 ys _ hy (S66.get 3 rfl) hRy) Try.call66 (by kernel_rfl) (by kernel_rfl) (by kernel_rfl) rfl (fun ac wc A68 S69 => ?_)
  refine s_one (.pointer (some ((Addr.mk gr52 0 none).add ((f * ne + r) * 64)))) A68 S69 (g_nil (by kernel_rfl)) rfl (fun ac A71 => ?_)
  have hl73 : (putL (mi xs) ((f * ne + r) * 64) (nums ys)).length = (mi xs).length := putL_length (by have h1 := (show (nums ys).length = 64 from nums_length _); have h2 := hml; omega)
  refine s_storeR 0 (ad := (Addr.mk gr52 0 none)) (off := (f * ne + r) * 64) (u := .agg (ints (nums ys))) 64 (rowI (nums ys)) (rowI (putL (mi xs) ((f * ne + r) * 64) (nums ys))) A71 S69 (by kernel_rfl) (by kernel_rfl) rfl (ints_cells _) ((rowI_length _).trans (nums_length _)) (by kernel_rfl) (rowI_one _) (by rw [rowI_length]; have hlen := hml; omega) (putI _ _ _) (fun wc S72 => ?_)
  refine wpList_nil ?_
  refine n_then ?_
  refine wp_seq ?_
  refine wp_region_lit ?_
  refine s_one (.pointer (some ⟨gm51, 0, none⟩)) A71 S72 (g_move (by kernel_rfl)) rfl (fun ac A74 => ?_)
  refine s_callRF (fs := #[]) (cp := #[]) (r := [(0, .pointer (some ⟨gm51, 0, none⟩))]) (fun v => .agg #[.int .i64 (ne : Int), v]) #[.pointer (some ⟨gm51, 0, none⟩)] A74 S72 (full_s gm51 ne (ne * ne) cp53 (Addr.mk gr52 0 none) (putL (mi xs) ((f * ne + r) * 64) (nums ys)) _ (S72.get 0 rfl) (by have hlen := (hl73.trans hml); omega) (row_ir (S72.row 0 rfl)) (by omega)) Try.call74 (by kernel_rfl) (by kernel_rfl) (by kernel_rfl) rfl (fun v78 ac wc A75 S76 => ?_)
  obtain ⟨hl79, A80, cap81, rfl, hc82, hr83⟩ := rowF_reads (v := v78) (m := ((ne * ne) * 64)) (l := fw (putL (mi xs) ((f * ne + r) * 64) (nums ys))) (S76.row 0 rfl)
  refine s_store (g := g15) (off := 0) (v := .agg #[.int .i64 (ne : Int), .slice A80 ((ne * ne) * 64) cap81]) 2 (#[.int .i64 (ne : Int), .slice A80 ((ne * ne) * 64) cap81]) A75 S76 (by kernel_rfl) (by kernel_rfl) rfl (by kernel_rfl) (fun wc S85 => ?_)
  refine s_one (.int .i64 0) A75 S85 (g_assign (by kernel_rfl)) rfl (fun ac A87 => ?_)
  refine wpList_nil ?_
  refine n_then ?_
  refine wp_ret ?_
  refine fin2 (.agg #[.int .i64 (ne : Int), .slice A80 ((ne * ne) * 64) cap81]) (.int .i64 0) Try.results22 A87 S85 (rv_cell (g := g15) (off := 0) 2 (by kernel_rfl) rfl (by kernel_rfl)) (rv_tmp (by kernel_rfl)) ?_
  have bw := S85.kp
  have ow := S85.row 0 rfl
  exact ⟨_, rfl, bw, ow⟩

end Go.Proofs.Ytcijkniijomcjaa
/- A matrix with another trace: for all arguments. -/
namespace Go.Proofs.Ytcijkniijomcjaa
open Go.RowKit Go.Cpl

theorem toI_nat (e f r : Nat) : toI (e : Int) (f : Int) (r : Int) = (f * e + r) * 64 := by
  unfold toI
  have : ((f : Int) * (e : Int) + (r : Int)) * 64 = (((f * e + r) * 64 : Nat) : Int) := by simp
  rw [this, Int.toNat_natCast]
theorem wiW_le {el : Int} {xs : List Nat} {p q : Int} {ys : List Nat} {n : Nat} (hn : xs.length = n) : (wiW el xs p q ys).length ≤ n + 64 := by
  unfold wiW
  split
  · simp [fw, putL, mi_length, nums_length, hn]
    omega
  · simp
theorem With_s (el : Int) (A : Option Addr) (n cap : Nat) (xs : List Nat) (p q : Int) (ys : List Nat) (w0 : World) (hn : xs.length = n) (hr : FReads w0 A xs) (hm : n ≤ 1000) (hcp : n ≤ cap) (hy : ys.length = 64) (hel : -9223372036854775808 ≤ el ∧ el ≤ 9223372036854775807) :
    Calls Try.prog 22 #[.agg #[.int .i64 el, .slice A n cap], .agg #[.int .i64 p, .int .i64 q], .agg (trc ys)] w0 fun e w' => ∃ v, e = .returned (.tuple #[.agg #[.int .i64 (wiE el xs p q ys), v], .int .i64 (firstOf [(mxC el xs).2, pairE el p q, (firstErr ys 0).2])]) ∧ Below w0.heap.size w0 w' ∧ w'.ownsRow w0.heap.size 36 1 v (wiW el xs p q ys).length (rowF (wiW el xs p q ys)) := by
  by_cases h0 : firstOf [(mxC el xs).2, pairE el p q, (firstErr ys 0).2] = 0
  · obtain ⟨z1, z2, z3⟩ := firstOf_three h0
    obtain ⟨he1, he2, he3⟩ := mxC_0 z1
    obtain ⟨hp, hq⟩ := pairE_0 he1 z2
    have hsq := sq_bd he1
    have eE : wiE el xs p q ys = el := if_pos h0
    have eW : wiW el xs p q ys = fw (putL (mi xs) (toI el p q) (nums ys)) := if_pos h0
    rw [eE, eW, h0]
    clear eE eW
    obtain ⟨ne, rfl⟩ := Int.eq_ofNat_of_zero_le (show 0 ≤ el by omega)
    obtain ⟨f, rfl⟩ := Int.eq_ofNat_of_zero_le hp.1
    obtain ⟨r, rfl⟩ := Int.eq_ofNat_of_zero_le hq.1
    have hne : n = ne * ne * 64 := by
      have e : ((ne * ne : Nat) : Int) = (ne : Int) * (ne : Int) := Int.natCast_mul _ _
      omega
    obtain ⟨ad, rfl, _⟩ := hr 0 (by omega)
    have hfr : f < ne ∧ r < ne := by omega
    have hlt := pair_lt hfr.1 hfr.2
    refine (With_ok ne n cap ad xs f r ys w0 hn hr hm hcp (by omega) hne hy h0 hfr).mono ?_
    rintro e w' ⟨v, he, hb, ho⟩
    refine ⟨v, he, hb, ?_⟩
    rw [toI_nat]
    have hl : (fw (putL (mi xs) ((f * ne + r) * 64) (nums ys))).length = ne * ne * 64 := by
      rw [fw_length, putL_length (by rw [mi_length, nums_length]; omega), mi_length, hn, hne]
    rw [hl]; exact ho
  · have eE : wiE el xs p q ys = 0 := if_neg h0
    have eW : wiW el xs p q ys = [] := if_neg h0
    rw [eE, eW]
    exact With_err el A n cap xs p q ys w0 hn hr hm hy hel h0
theorem fo3_1 {a b c : Int} (h : ¬ a = 0) : firstOf [a, b, c] = a := by simp [firstOf, h]
theorem fo3_2 {a b c : Int} (h : a = 0) (h2 : ¬ b = 0) : firstOf [a, b, c] = b := by subst h; simp [firstOf, h2]
theorem fo3_3 {a b c : Int} (h : a = 0) (h2 : b = 0) : firstOf [a, b, c] = c := by subst h; subst h2; simp only [firstOf]; by_cases hc : c = 0 <;> simp [hc]
theorem fo2_0 {a b : Int} (h : a = 0) (h2 : b = 0) : firstOf [a, b] = 0 := by subst h; subst h2; rfl
theorem fo3_y {a b c : Int} (h : a = 0) (h2 : b = 0) (h3 : c = 0) : firstOf [a, b, c] = 0 := (fo3_3 h h2).trans h3
theorem firstErr_fw {l : List Int} (h : ∀ k, -2047 ≤ nthI l k ∧ nthI l k ≤ 2047) : (firstErr (fw l) 0).2 = 0 := by
  have key : ∀ (xs : List Nat) (k : Nat), (∀ x ∈ xs, sErr x = 0) → (firstErr xs k).2 = 0 := by
    intro xs
    induction xs with
    | nil => intro k _; rfl
    | cons x xs ih =>
      intro k hx
      simp only [firstErr]
      rw [hx x (List.mem_cons_self ..)]
      simp only [if_true]
      first | exact ih _ (fun y hy => hx y (List.mem_cons_of_mem _ hy)) | (simp; exact ih _ (fun y hy => hx y (List.mem_cons_of_mem _ hy)))
  refine key _ _ fun x hx => ?_
  simp only [fw, List.mem_map] at hx
  obtain ⟨y, hy, rfl⟩ := hx
  obtain ⟨i, hi, rfl⟩ := List.getElem_of_mem hy
  have := h i
  rw [nthI_eq hi] at this
  rw [sErr_of _ (by omega), if_pos this]
theorem num_fw {l : List Int} (h : ∀ k, -2047 ≤ nthI l k ∧ nthI l k ≤ 2047) : mi (fw l) = l := by
  apply List.ext_getElem
  · simp [mi, fw]
  · intro i h1 h2
    have := h i
    rw [nthI_eq h2] at this
    simp [mi, fw]
    exact num_of _ (by omega)
theorem nums_mi {xs : List Nat} (h : xs.length = 64) : nums xs = mi xs := by
  apply List.ext_getElem
  · simp [nums, mi, h]
  · intro i h1 h2
    have hi : i < xs.length := by simpa [mi] using h2
    simp [nums, mi, nth_eq hi]
theorem cutN_range {l : List Int} (h : ∀ k, -2047 ≤ nthI l k ∧ nthI l k ≤ 2047) (i n : Nat) : ∀ k, -2047 ≤ nthI (cutN l i n) k ∧ nthI (cutN l i n) k ≤ 2047 := by
  intro k
  by_cases hk : k < n
  · rw [cutN_nth hk]; exact h _
  · simp [nthI, List.getElem?_eq_none (show (cutN l i n).length ≤ k by rw [cutN_length]; omega)]
theorem nums_cut {xs : List Nat} {i : Nat} (h : i + 64 ≤ xs.length) : nums (cutF xs i 64) = cutN (mi xs) i 64 := by
  rw [← mi_cut h, done_all]
  apply List.map_congr_left
  intro j hj
  rw [cutF_nth (List.mem_range.1 hj)]
theorem putL_own {l : List Int} {i : Nat} (h : i + 64 ≤ l.length) : putL l i (cutN l i 64) = l := by
  unfold putL
  rw [cutN_length, take_cutN h, List.take_append_drop]
/-- The trace of a pair, of a right matrix. -/
theorem toF_fw {el : Int} {xs : List Nat} {p q : Int} (z1 : (mxC el xs).2 = 0) (z2 : pairE el p q = 0) : toF el xs p q = fw (cutN (mi xs) (toI el p q) 64) ∧ toI el p q + 64 ≤ xs.length := by
  obtain ⟨he1, he2, he3⟩ := mxC_0 z1
  obtain ⟨hp, hq⟩ := pairE_0 he1 z2
  have hsq := sq_bd he1
  have hpa := pair_at he1 hp hq
  have hti : toI el p q = ((p * el + q) * 64).toNat := rfl
  have hb : toI el p q + 64 ≤ xs.length := by omega
  refine ⟨?_, hb⟩
  rw [toF_y (fo2_0 z1 z2), nums_cut hb, mkT_fw (cutN_length _ _ _)]
theorem toF_err {el : Int} {xs : List Nat} {p q : Int} (z1 : (mxC el xs).2 = 0) (z2 : pairE el p q = 0) : (firstErr (toF el xs p q) 0).2 = 0 := by
  rw [(toF_fw z1 z2).1]
  exact firstErr_fw (cutN_range (mi_range (right_of (mxC_0 z1).2.2)) _ _)
theorem wi_own {el : Int} {xs : List Nat} {p q : Int} (z1 : (mxC el xs).2 = 0) (z2 : pairE el p q = 0) : wiW el xs p q (toF el xs p q) = fw (mi xs) := by
  have h := toF_fw z1 z2
  unfold wiW
  rw [if_pos (fo3_y z1 z2 (toF_err z1 z2)), nums_mi (toF_length _ _ _ _), h.1, num_fw (cutN_range (mi_range (right_of (mxC_0 z1).2.2)) _ _), putL_own (by rw [mi_length]; exact h.2)]

end Go.Proofs.Ytcijkniijomcjaa
