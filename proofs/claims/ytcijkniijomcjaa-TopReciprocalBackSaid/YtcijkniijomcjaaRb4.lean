/- Texts of the proof of TopReciprocalBack, put together (part 4): Mx6, Mx7, Mx8, My, Mx9, Mx10, Mx11, Eq, Mx12, Mx14, Mx15. -/
import Derived.Test.YtcijkniijomcjaaRb3
import Derived.ChangeKeysEq
import Derived.Laws.Cover1
import Derived.Laws.StructEq
namespace Go.Proofs.Ytcijkniijomcjaa
open Go.RowKit Go.Cpl
/-- The ints of a right matrix, and the words of ints. -/
def mi (xs : List Nat) : List Int := xs.map num
def fw (l : List Int) : List Nat := l.map (floatOfInt .f32)
theorem mi_length (xs : List Nat) : (mi xs).length = xs.length := by simp [mi]
theorem fw_length (l : List Int) : (fw l).length = l.length := by simp [fw]
theorem mi_nth {xs : List Nat} {k : Nat} (h : k < xs.length) : nthI (mi xs) k = num (nth xs k) := by
  rw [nthI_eq (by rw [mi_length]; exact h), nth_eq h]; simp [mi]
theorem mi_cut {xs : List Nat} {i : Nat} (h : i + 64 ≤ xs.length) : (done 0 (fun j => num (nth xs (i + j))) 64 64) = cutN (mi xs) i 64 := by
  rw [done_all]
  unfold cutN
  apply List.map_congr_left
  intro j hj
  rw [mi_nth (by have := List.mem_range.1 hj; omega)]
theorem mkT_fw {l : List Int} (h : l.length = 64) : mkT l 64 = fw l := by
  unfold mkT fw
  rw [done_all]
  apply List.ext_getElem
  · simp [h]
  · intro i h1 h2
    have hi : i < l.length := by simpa using h2
    simp [nthI_eq hi]
theorem fw_app (l k : List Int) : fw l ++ fw k = fw (l ++ k) := by simp [fw]
theorem sErr_range {x : Nat} (h : sErr x = 0) : -2047 ≤ num x ∧ num x ≤ 2047 := by
  have := nums_range (xs := List.replicate 64 x) List.length_replicate (fun y hy => by rw [List.eq_of_mem_replicate hy]; exact h) 0
  simpa [nums, nthI, nth] using this
theorem mi_range {xs : List Nat} (h : Right xs) (k : Nat) : -2047 ≤ nthI (mi xs) k ∧ nthI (mi xs) k ≤ 2047 := by
  by_cases hk : k < xs.length
  · rw [mi_nth hk]; exact sErr_range (h.at_ hk)
  · simp [nthI, List.getElem?_eq_none (show (mi xs).length ≤ k by rw [mi_length]; omega)]
set_option maxRecDepth 100000 in
set_option maxHeartbeats 400000 in
theorem numbersOf_x (xs : List Nat) (ad : Addr) (i : Nat) (w0 : World) (hi : i + 64 ≤ xs.length) (hr : FReads w0 (some ad) xs) (h0 : Right xs) :
    Calls Try.prog 66 #[.pointer (some (ad.add i))] w0 fun e w' => e = .returned (.agg (ints (cutN (mi xs) i 64))) ∧ Below w0.heap.size w0 w' := by
  have S0 := St.start w0
  have HR : ∀ k, k < 64 → sErr (nth xs (i + k)) = 0 := fun k hk => h0.at_ (by omega)
  obtain ⟨n, hn⟩ : ∃ n, xs.length = n := ⟨_, rfl⟩
  refine enter (n := 18) Try.func66 rfl rfl rfl (fun ac A0 => ?_)
  refine wp_seq ?_
  refine wp_region_lit ?_
  refine s_alloc (ints (List.replicate 64 0)) A0 S0 zero159 rfl (fun g3 ac wc A1 S2 => ?_)
  refine wpList_nil ?_
  refine n_then ?_
  refine wp_seq ?_
  refine wp_seq ?_
  refine wp_region_lit ?_
  refine s_one (.pointer (some (ad.add i))) A1 S2 (g_move (by kernel_rfl)) rfl (fun ac A4 => ?_)
  refine s_one (.int .i64 0) A4 S2 (g_move (by kernel_rfl)) rfl (fun ac A5 => ?_)
  refine wpList_nil ?_
  refine n_then ?_
  refine wp_block ?_
  refine c_loopN (fun mm ac wc => ∃ (k : Nat), mm = 64 - k ∧ (k ≤ 64) ∧ Fr 18 ac [(0, .pointer (some (ad.add i))), (2, .pointer (some ⟨g3, 0, none⟩)), (5, .pointer (some (ad.add i))), (6, .int .i64 (k : Int))] ∧ St w0 [⟨g3, 123, (ints (done 0 (fun j => num (nth xs (i + j))) 64 k)), true⟩] [] wc) _ ⟨0, rfl, by omega, (A5.slot (A5.slot (A5.slot (A5.slot A5.nil (v := .int .i64 0) (by kernel_rfl) (congrArg (Value.int .i64) (by omega))) (v := .pointer (some (ad.add i))) (by kernel_rfl) rfl) (v := .pointer (some ⟨g3, 0, none⟩)) (by kernel_rfl) rfl) (v := .pointer (some (ad.add i))) (by kernel_rfl) rfl), (St.recell 0 S2 rfl (congrArg ints (done_zero 0 (fun j => num (nth xs (i + j))) 64).symm)).sub sub_all sub_all⟩ ?_
  rintro mm ac wc ⟨k, hm8, hk, A6, S7⟩
  refine wp_seq ?_
  refine wp_region_lit ?_
  refine s_one (.bool (decide ((k : Int) < 64))) A6 S7 (g_bin (u := .int .i64 (k : Int)) (k := .int .i64 64) (by kernel_rfl) (by kernel_rfl) (fun _ => by kernel_rfl) (fun _ => by kernel_rfl)) rfl (fun ac A9 => ?_)
  refine wpList_nil ?_
  refine n_then ?_
  refine wp_seq ?_
  refine c_ifb (b := (decide ((k : Int) < 64))) A9 (by kernel_rfl) (fun h10 => ?_) (fun h10 => ?_)
  · have p11 := of_decide_eq_true h10
    refine wp_skip ?_
    refine n_then ?_
    refine wp_seq ?_
    refine wp_block ?_
    refine wp_seq ?_
    refine r_begin (w0 := w0) (by kernel_rfl) (S7.sub sub_all sub_all) (fun wc T12 B13 => ?_)
    have S14 := S7.kept B13
    refine r_take 0 (.int .i64 (k : Int)) A9 T12 (g_move (by kernel_rfl)) rfl rfl rfl (pf_then (pf_block (pf_then (pf_then (pf_block (pf_then pf_body)))))) (by kernel_rfl) (fun ac A15 => ?_)
    refine r_take 1 (.pointer (some (ad.add i))) A15 T12 (g_nil (by kernel_rfl)) rfl rfl rfl (pf_then (pf_block (pf_then (pf_then (pf_block (pf_then pf_body)))))) (by kernel_rfl) (fun ac A16 => ?_)
    refine r_take 2 (.pointer (some (ad.add (i + k)))) A16 T12 (g_index (u := .pointer (some (ad.add i))) (k := .int .i64 (k : Int)) (by kernel_rfl) (by kernel_rfl) (ix_xarr (len := 64) (size := 1) (y := i + k) k (by kernel_rfl) (by omega) (by omega) (by omega))) rfl rfl rfl (pf_then (pf_block (pf_then (pf_then (pf_block (pf_then pf_body)))))) (by kernel_rfl) (fun ac A17 => ?_)
    refine r_take 3 (.float .f32 (nth xs (i + k))) A17 T12 (g_loadXF (l := xs) (k := i + k) (by kernel_rfl) hr (by have hlen := hn; omega) (by kernel_rfl)) rfl rfl rfl (pf_then (pf_block (pf_then (pf_then (pf_block (pf_then pf_body)))))) (by kernel_rfl) (fun ac A18 => ?_)
    refine r_take 4 (.int .i64 (k : Int)) A18 T12 (g_assign (by kernel_rfl)) rfl rfl rfl (pf_then (pf_block (pf_then (pf_then (pf_block (pf_then pf_body)))))) (by kernel_rfl) (fun ac A19 => ?_)
    refine r_take 5 (.float .f32 (nth xs (i + k))) A19 T12 (g_assign (by kernel_rfl)) rfl rfl rfl (pf_then (pf_block (pf_then (pf_then (pf_block (pf_then pf_body)))))) (by kernel_rfl) (fun ac A20 => ?_)
    refine r_done (by kernel_rfl) ?_
    refine n_then ?_
    refine wp_region_lit ?_
    refine s_one (.int .i64 (k : Int)) A20 S14 (g_move (by kernel_rfl)) rfl (fun ac A21 => ?_)
    refine s_one (.float .f32 (nth xs (i + k))) A21 S14 (g_move (by kernel_rfl)) rfl (fun ac A22 => ?_)
    refine s_one (.int .i64 (num (nth xs (i + k)))) A22 S14 (g_conv (u := .float .f32 (nth xs (i + k))) (by kernel_rfl) (run_toInt (HR _ (by omega)))) rfl (fun ac A23 => ?_)
    refine s_one (.pointer (some ⟨g3, k, none⟩)) A23 S14 (g_index (u := .pointer (some ⟨g3, 0, none⟩)) (k := .int .i64 (k : Int)) (by kernel_rfl) (by kernel_rfl) (ix_arr1 k (len := 64) (by kernel_rfl) (by omega) (by omega))) rfl (fun ac A24 => ?_)
    refine s_store (g := g3) (off := k) (v := .int .i64 (num (nth xs (i + k)))) 0 (ints ((done 0 (fun j => num (nth xs (i + j))) 64 k).set k (num (nth xs (i + k))))) A24 S14 (by kernel_rfl) (by kernel_rfl) rfl ((pv_of (by kernel_rfl) rfl (by rw [ints_size, (done_length _ _ _ _)]; omega)).trans (congrArg some (ints_set (done 0 (fun j => num (nth xs (i + j))) 64 k) k (num (nth xs (i + k)))))) (fun wc S26 => ?_)
    refine wpList_nil ?_
    refine n_block ?_
    refine n_then ?_
    refine wp_region_lit ?_
    refine s_one (.int .i64 ((k : Int) + 1)) A24 S26 (g_bin (u := .int .i64 (k : Int)) (k := .int .i64 1) (by kernel_rfl) (by kernel_rfl) (fun _ => by kernel_rfl) (b_add (by omega))) rfl (fun ac A28 => ?_)
    refine s_one (.int .i64 ((k : Int) + 1)) A28 S26 (g_move (by kernel_rfl)) rfl (fun ac A29 => ?_)
    refine wpList_nil ?_
    refine n_then ?_
    refine ⟨_, ⟨k + 1, rfl, by omega, (A29.slot (A29.slot (A29.slot (A29.slot A29.nil (v := .int .i64 ((k : Int) + 1)) (by kernel_rfl) (congrArg (Value.int .i64) (by omega))) (v := .pointer (some (ad.add i))) (by kernel_rfl) rfl) (v := .pointer (some ⟨g3, 0, none⟩)) (by kernel_rfl) rfl) (v := .pointer (some (ad.add i))) (by kernel_rfl) rfl), (St.recell 0 S26 rfl (congrArg ints (done_set 0 (fun j => num (nth xs (i + j))) 64 k))).sub sub_all sub_all⟩, ?_⟩
    omega
  · have p30 := of_decide_eq_false h10
    refine wp_exit ?_
    refine x_then ?_
    refine x_then ?_
    refine x_hit ?_
    refine n_then ?_
    refine wp_seq ?_
    refine wp_region_lit ?_
    refine s_one (.agg (ints (done 0 (fun j => num (nth xs (i + j))) 64 k))) A9 S7 (g_loadW (g := g3) 0 (by kernel_rfl) rfl ((ints_size _).trans (done_length _ _ _ _)) ⟨⟨_, Try.underlying123, rfl⟩, by kernel_rfl⟩) rfl (fun ac A31 => ?_)
    refine s_store (g := g3) (off := 0) (v := .agg (ints (done 0 (fun j => num (nth xs (i + j))) 64 k))) 0 (ints (done 0 (fun j => num (nth xs (i + j))) 64 k)) A31 S7 (by kernel_rfl) (by kernel_rfl) rfl (putVal_whole ((ints_size _).trans (done_length _ _ _ _)) ((ints_size _).trans (done_length _ _ _ _)) ⟨⟨_, Try.underlying123, rfl⟩, by kernel_rfl⟩ (ints_one _)) (fun wc S33 => ?_)
    refine wpList_nil ?_
    refine n_then ?_
    refine wp_ret ?_
    refine fin1 (.agg (ints (done 0 (fun j => num (nth xs (i + j))) 64 k))) Try.results66 A31 S33 (rv_cell (g := g3) (off := 0) 0 (by kernel_rfl) rfl (rowVal_whole ((ints_size _).trans (done_length _ _ _ _)) ⟨⟨_, Try.underlying123, rfl⟩, by kernel_rfl⟩)) ⟨?_, S33.kp⟩
    obtain rfl : k = 64 := by omega
    rw [mi_cut hi]
set_option maxRecDepth 100000 in
set_option maxHeartbeats 400000 in
theorem ChunkF_s (A : Option Addr) (m cap : Nat) (c : Int) (w0 : World) (hc : 1 ≤ c) (hc2 : c ≤ 1000000) :
    Calls Try.prog 105 #[.slice A m cap, .int .i64 c] w0 fun e w' => ∃ u : Nat × Nat, e = .returned (.func (.func 111) #[] #[.pointer (some ⟨u.1, 0, none⟩), .pointer (some ⟨u.2, 0, none⟩)]) ∧ St w0 [⟨u.2, 3, #[.int .i64 c], true⟩, ⟨u.1, 23, #[.slice A m cap], true⟩] [] w' := by
  have S0 := St.start w0
  refine enter (n := 9) Try.func105 rfl rfl rfl (fun ac A0 => ?_)
  refine wp_seq ?_
  refine wp_region_lit ?_
  refine s_box (.slice A m cap) A0 S0 (by kernel_rfl) rfl (fun g3 ac wc A1 S2 => ?_)
  replace S2 : St _ (⟨g3, 23, #[.slice A m cap], true⟩ :: _) _ _ := S2
  refine s_box (.int .i64 c) A1 S2 (by kernel_rfl) rfl (fun g7 ac wc A5 S6 => ?_)
  replace S6 : St _ (⟨g7, 3, #[.int .i64 c], true⟩ :: _) _ _ := S6
  refine s_one (.nilFunc) A5 S6 (g_assign (by kernel_rfl)) rfl (fun ac A9 => ?_)
  refine wpList_nil ?_
  refine n_then ?_
  refine wp_seq ?_
  refine wp_seq ?_
  refine wp_region_lit ?_
  refine s_one (.int .i64 c) A9 S6 (g_load (g := g7) (off := 0) 0 (by kernel_rfl) rfl (by kernel_rfl)) rfl (fun ac A10 => ?_)
  refine s_one (.bool (decide (c < 1))) A10 S6 (g_bin (u := .int .i64 c) (k := .int .i64 1) (by kernel_rfl) (by kernel_rfl) (fun _ => by kernel_rfl) (fun _ => by kernel_rfl)) rfl (fun ac A11 => ?_)
  refine wpList_nil ?_
  refine n_then ?_
  refine c_f (b := (decide (c < 1))) A11 (by kernel_rfl) (decide_eq_false (by omega)) ?_
  refine wp_skip ?_
  refine n_then ?_
  refine wp_seq ?_
  refine wp_region_lit ?_
  refine s_one (.func (.func 111) #[] #[.pointer (some ⟨g3, 0, none⟩), .pointer (some ⟨g7, 0, none⟩)]) A11 S6 (g_func (us := []) (vs := [(0, .pointer (some ⟨g3, 0, none⟩)), (0, .pointer (some ⟨g7, 0, none⟩))]) (by kernel_rfl) (by kernel_rfl) (fun _ => by kernel_rfl)) rfl (fun ac A12 => ?_)
  refine s_one (.func (.func 111) #[] #[.pointer (some ⟨g3, 0, none⟩), .pointer (some ⟨g7, 0, none⟩)]) A12 S6 (g_assign (by kernel_rfl)) rfl (fun ac A13 => ?_)
  refine wpList_nil ?_
  refine n_then ?_
  refine wp_ret ?_
  refine fin1 (.func (.func 111) #[] #[.pointer (some ⟨g3, 0, none⟩), .pointer (some ⟨g7, 0, none⟩)]) Try.results105 A13 S6 (rv_tmp (by kernel_rfl)) ⟨(g3, g7), rfl, S6.sub sub_all sub_all⟩
set_option maxRecDepth 100000 in
set_option maxHeartbeats 400000 in
theorem ChunkB_s (A : Option Addr) (m cap : Nat) (c : Int) (w0 : World) (hc : 1 ≤ c) (hc2 : c ≤ 1000000) :
    Calls Try.prog 82 #[.slice A m cap, .int .i64 c] w0 fun e w' => ∃ u : Nat × Nat, e = .returned (.func (.func 108) #[] #[.pointer (some ⟨u.1, 0, none⟩), .pointer (some ⟨u.2, 0, none⟩)]) ∧ St w0 [⟨u.2, 3, #[.int .i64 c], true⟩, ⟨u.1, 144, #[.slice A m cap], true⟩] [] w' := by
  have S0 := St.start w0
  refine enter (n := 9) Try.func82 rfl rfl rfl (fun ac A0 => ?_)
  refine wp_seq ?_
  refine wp_region_lit ?_
  refine s_box (.slice A m cap) A0 S0 (by kernel_rfl) rfl (fun g3 ac wc A1 S2 => ?_)
  replace S2 : St _ (⟨g3, 144, #[.slice A m cap], true⟩ :: _) _ _ := S2
  refine s_box (.int .i64 c) A1 S2 (by kernel_rfl) rfl (fun g7 ac wc A5 S6 => ?_)
  replace S6 : St _ (⟨g7, 3, #[.int .i64 c], true⟩ :: _) _ _ := S6
  refine s_one (.nilFunc) A5 S6 (g_assign (by kernel_rfl)) rfl (fun ac A9 => ?_)
  refine wpList_nil ?_
  refine n_then ?_
  refine wp_seq ?_
  refine wp_seq ?_
  refine wp_region_lit ?_
  refine s_one (.int .i64 c) A9 S6 (g_load (g := g7) (off := 0) 0 (by kernel_rfl) rfl (by kernel_rfl)) rfl (fun ac A10 => ?_)
  refine s_one (.bool (decide (c < 1))) A10 S6 (g_bin (u := .int .i64 c) (k := .int .i64 1) (by kernel_rfl) (by kernel_rfl) (fun _ => by kernel_rfl) (fun _ => by kernel_rfl)) rfl (fun ac A11 => ?_)
  refine wpList_nil ?_
  refine n_then ?_
  refine c_f (b := (decide (c < 1))) A11 (by kernel_rfl) (decide_eq_false (by omega)) ?_
  refine wp_skip ?_
  refine n_then ?_
  refine wp_seq ?_
  refine wp_region_lit ?_
  refine s_one (.func (.func 108) #[] #[.pointer (some ⟨g3, 0, none⟩), .pointer (some ⟨g7, 0, none⟩)]) A11 S6 (g_func (us := []) (vs := [(0, .pointer (some ⟨g3, 0, none⟩)), (0, .pointer (some ⟨g7, 0, none⟩))]) (by kernel_rfl) (by kernel_rfl) (fun _ => by kernel_rfl)) rfl (fun ac A12 => ?_)
  refine s_one (.func (.func 108) #[] #[.pointer (some ⟨g3, 0, none⟩), .pointer (some ⟨g7, 0, none⟩)]) A12 S6 (g_assign (by kernel_rfl)) rfl (fun ac A13 => ?_)
  refine wpList_nil ?_
  refine n_then ?_
  refine wp_ret ?_
  refine fin1 (.func (.func 108) #[] #[.pointer (some ⟨g3, 0, none⟩), .pointer (some ⟨g7, 0, none⟩)]) Try.results82 A13 S6 (rv_tmp (by kernel_rfl)) ⟨(g3, g7), rfl, S6.sub sub_all sub_all⟩
end Go.Proofs.Ytcijkniijomcjaa
namespace Go.Proofs.Ytcijkniijomcjaa
open Go.RowKit Go.Cpl
theorem pairs_snoc {l : List Int} {k m : Nat} (h : k * 64 + 64 ≤ l.length) (hm : m = k + 1) : rowI (l.take (k * 64)) ++ rowI (cutN l (k * 64) 64) = rowI (l.take (m * 64)) := by
  subst hm
  rw [rowI_app, take_cutN h, Nat.succ_mul]
theorem row_some {w : World} {base : Nat} {e : TypeId} {v : Value} {size m : Nat} {xs : List Value} (h : w.ownsRow base e size v m xs) (hm : 0 < m) : ∃ g cap, v = .slice (some (Addr.mk g 0 none)) m cap := by
  rcases h.2 with ⟨_, h0⟩ | ⟨g, cap, cur, hv, _⟩
  · omega
  · exact ⟨g, cap, hv⟩
set_option maxRecDepth 100000 in
set_option maxHeartbeats 400000 in
theorem open_err (el : Int) (A : Option Addr) (n cap : Nat) (xs : List Nat) (w0 : World) (hn : xs.length = n) (hr : FReads w0 A xs) (hm : n ≤ 1000) (h0 : (mxC el xs).2 ≠ 0) :
    Calls Try.prog 72 #[.agg #[.int .i64 el, .slice A n cap]] w0 fun e w' => e = .returned (.tuple #[.pointer none, .int .i64 (mxC el xs).2]) ∧ Below w0.heap.size w0 w' := by
  have S0 := St.start w0
  refine enterM (n := 33) Try.func72 rfl rfl rfl (fun ac A0 => ?_)
  refine wp_seq ?_
  refine wp_region_lit ?_
  refine s_box (.agg #[.int .i64 el, .slice A n cap]) A0 S0 (by kernel_rfl) rfl (fun g3 ac wc A1 S2 => ?_)
  replace S2 : St _ (⟨g3, 30, #[.int .i64 el, .slice A n cap], true⟩ :: _) _ _ := S2
  refine s_one (.pointer none) A1 S2 (g_assign (by kernel_rfl)) rfl (fun ac A5 => ?_)
  refine s_one (.int .i64 0) A5 S2 (g_assign (by kernel_rfl)) rfl (fun ac A6 => ?_)
  refine wpList_nil ?_
  refine n_then ?_
  refine wp_seq ?_
  refine wp_seq ?_
  refine wp_region_lit ?_
  refine s_one (.agg #[.int .i64 el, .slice A n cap]) A6 S2 (g_load (g := g3) (off := 0) 0 (by kernel_rfl) rfl (by kernel_rfl)) rfl (fun ac A7 => ?_)
  refine s_call (fs := #[]) (cp := #[]) (r := [(0, .agg #[.int .i64 el, .slice A n cap])]) #[.agg #[.int .i64 el, .slice A n cap]] (.int .i64 ((mxC el xs).2)) A7 S2 (matrixErr_s el A n cap xs _ hn (hr.kept S2.kp) (by omega)) Try.call63 (by kernel_rfl) (by kernel_rfl) (by kernel_rfl) rfl (fun ac wc A8 S9 => ?_)
  refine s_one (.int .i64 ((mxC el xs).2)) A8 S9 (g_assign (by kernel_rfl)) rfl (fun ac A11 => ?_)
  refine wpList_nil ?_
  refine n_then ?_
  refine wp_seq ?_
  refine wp_region_lit ?_
  refine s_one (.int .i64 ((mxC el xs).2)) A11 S9 (g_move (by kernel_rfl)) rfl (fun ac A12 => ?_)
  refine s_one (.bool (decide ((mxC el xs).2 ≠ 0))) A12 S9 (g_bin (u := .int .i64 ((mxC el xs).2)) (k := .int .i64 0) (by kernel_rfl) (by kernel_rfl) (fun _ => by kernel_rfl) b_neq) rfl (fun ac A13 => ?_)
  refine wpList_nil ?_
  refine n_then ?_
  refine c_t (b := (decide ((mxC el xs).2 ≠ 0))) A13 (by kernel_rfl) (decide_eq_true h0) ?_
  refine wp_seq ?_
  refine wp_region_lit ?_
  refine s_one (.int .i64 ((mxC el xs).2)) A13 S9 (g_move (by kernel_rfl)) rfl (fun ac A14 => ?_)
  refine s_one (.pointer none) A14 S9 (g_assign (by kernel_rfl)) rfl (fun ac A15 => ?_)
  refine s_one (.int .i64 ((mxC el xs).2)) A15 S9 (g_assign (by kernel_rfl)) rfl (fun ac A16 => ?_)
  refine wpList_nil ?_
  refine n_then ?_
  refine wp_ret ?_
  refine r_then ?_
  refine m_ret0 A16 ?_
  refine fin2 (.pointer none) (.int .i64 ((mxC el xs).2)) Try.results72 A16 S9 (rv_tmp (by kernel_rfl)) (rv_tmp (by kernel_rfl)) ⟨?_, S9.kp⟩
  rfl
set_option maxRecDepth 100000 in
set_option maxHeartbeats 400000 in
theorem open_ok (ne n cap : Nat) (ad : Addr) (xs : List Nat) (w0 : World) (hn : xs.length = n) (hr : FReads w0 (some ad) xs) (hm : n ≤ 1000) (hcp : n ≤ cap) (h1 : 1 ≤ ne) (hne : n = ne * ne * 64) (h0 : (mxC (ne : Int) xs).2 = 0) :
    Calls Try.prog 72 #[.agg #[.int .i64 (ne : Int), .slice (some ad) n cap]] w0 fun e w' => ∃ u : Nat × Nat × Nat, e = .returned (.tuple #[.pointer (some ⟨u.1, 0, none⟩), .int .i64 0]) ∧ St w0 [⟨u.1, 137, #[.int .i64 (ne : Int), .slice (some (Addr.mk u.2.1 0 none)) (ne * ne) u.2.2], true⟩] [⟨.slice (some (Addr.mk u.2.1 0 none)) (ne * ne) u.2.2, 123, 64, (ne * ne), (rowI (mi xs))⟩] w' := by
  have S0 := St.start w0
  have hR : Right xs := right_of (mxC_0 h0).2.2
  have hpos : 0 < ne * ne := Nat.mul_pos h1 h1
  have hml : (mi xs).length = ne * ne * 64 := by rw [mi_length, hn, hne]
  have hne3 : ne ≤ 3 := by rcases Nat.lt_or_ge 3 ne with q | q; have := Nat.mul_le_mul q q; omega; exact q
  have hee : ne * ne ≤ 15 := by omega
  refine enterM (n := 33) Try.func72 rfl rfl rfl (fun ac A0 => ?_)
  refine wp_seq ?_
  refine wp_region_lit ?_
  refine s_box (.agg #[.int .i64 (ne : Int), .slice (some ad) n cap]) A0 S0 (by kernel_rfl) rfl (fun g3 ac wc A1 S2 => ?_)
  replace S2 : St _ (⟨g3, 30, #[.int .i64 (ne : Int), .slice (some ad) n cap], true⟩ :: _) _ _ := S2
  refine s_one (.pointer none) A1 S2 (g_assign (by kernel_rfl)) rfl (fun ac A5 => ?_)
  refine s_one (.int .i64 0) A5 S2 (g_assign (by kernel_rfl)) rfl (fun ac A6 => ?_)
  refine wpList_nil ?_
  refine n_then ?_
  refine wp_seq ?_
  refine wp_seq ?_
  refine wp_region_lit ?_
  refine s_one (.agg #[.int .i64 (ne : Int), .slice (some ad) n cap]) A6 S2 (g_load (g := g3) (off := 0) 0 (by kernel_rfl) rfl (by kernel_rfl)) rfl (fun ac A7 => ?_)
  refine s_call (fs := #[]) (cp := #[]) (r := [(0, .agg #[.int .i64 (ne : Int), .slice (some ad) n cap])]) #[.agg #[.int .i64 (ne : Int), .slice (some ad) n cap]] (.int .i64 ((mxC (ne : Int) xs).2)) A7 S2 (matrixErr_s (ne : Int) (some ad) n cap xs _ hn (hr.kept S2.kp) (by omega)) Try.call63 (by kernel_rfl) (by kernel_rfl) (by kernel_rfl) rfl (fun ac wc A8 S9 => ?_)
  refine s_one (.int .i64 ((mxC (ne : Int) xs).2)) A8 S9 (g_assign (by kernel_rfl)) rfl (fun ac A11 => ?_)
  refine wpList_nil ?_
  refine n_then ?_
  refine wp_seq ?_
  refine wp_region_lit ?_
  refine s_one (.int .i64 ((mxC (ne : Int) xs).2)) A11 S9 (g_move (by kernel_rfl)) rfl (fun ac A12 => ?_)
  refine s_one (.bool (decide ((mxC (ne : Int) xs).2 ≠ 0))) A12 S9 (g_bin (u := .int .i64 ((mxC (ne : Int) xs).2)) (k := .int .i64 0) (by kernel_rfl) (by kernel_rfl) (fun _ => by kernel_rfl) b_neq) rfl (fun ac A13 => ?_)
  refine wpList_nil ?_
  refine n_then ?_
  refine c_f (b := (decide ((mxC (ne : Int) xs).2 ≠ 0))) A13 (by kernel_rfl) (decide_eq_false (fun h => h h0)) ?_
  refine wp_skip ?_
  refine n_then ?_
  refine wp_seq ?_
  refine wp_region_lit ?_
  refine s_one (.pointer (some ⟨g3, 0, none⟩)) A13 S9 (g_field (u := .pointer (some ⟨g3, 0, none⟩)) (by kernel_rfl) (fun _ => by kernel_rfl)) rfl (fun ac A14 => ?_)
  refine s_one (.int .i64 (ne : Int)) A14 S9 (g_load (g := g3) (off := 0) 0 (by kernel_rfl) rfl (by kernel_rfl)) rfl (fun ac A15 => ?_)
  refine s_one (.agg #[.int .i64 (ne : Int), .slice none 0 0]) A15 S9 (g_build (r := [(0, .int .i64 (ne : Int))]) (by kernel_rfl) (fun _ => by kernel_rfl)) rfl (fun ac A16 => ?_)
  refine s_box (.agg #[.int .i64 (ne : Int), .slice none 0 0]) A16 S9 (by kernel_rfl) rfl (fun g19 ac wc A17 S18 => ?_)
  replace S18 : St _ (⟨g19, 137, #[.int .i64 (ne : Int), .slice none 0 0], true⟩ :: _) _ _ := S18
  refine s_alloc (#[.pointer none]) A17 S18 (by kernel_rfl) rfl (fun g23 ac wc A21 S22 => ?_)
  refine s_store (g := g23) (off := 0) (v := .pointer (some ⟨g19, 0, none⟩)) 0 (#[.pointer (some ⟨g19, 0, none⟩)]) A21 S22 (by kernel_rfl) (by kernel_rfl) rfl (by kernel_rfl) (fun wc S25 => ?_)
  refine wpList_nil ?_
  refine n_then ?_
  refine wp_seq ?_
  refine wp_seq ?_
  refine wp_region_lit ?_
  refine s_one (.pointer (some ⟨g3, 1, none⟩)) A21 S25 (g_field (u := .pointer (some ⟨g3, 0, none⟩)) (by kernel_rfl) (fun _ => by kernel_rfl)) rfl (fun ac A27 => ?_)
  refine s_one (.slice (some ad) n cap) A27 S25 (g_load (g := g3) (off := 1) 2 (by kernel_rfl) rfl (by kernel_rfl)) rfl (fun ac A28 => ?_)
  refine s_callSt (T := Nat × Nat) (fs := #[]) (cp := #[]) (r := [(0, .slice (some ad) n cap), (0, .int .i64 64)]) #[.slice (some ad) n cap, .int .i64 64] (fun u => .func (.func 111) #[] #[.pointer (some ⟨u.1, 0, none⟩), .pointer (some ⟨u.2, 0, none⟩)]) (fun u => [⟨u.2, 3, #[.int .i64 64], true⟩, ⟨u.1, 23, #[.slice (some ad) n cap], true⟩]) (fun u => []) A28 S25 (ChunkF_s (some ad) n cap 64 _ (by omega) (by omega)) (fun u x hx => by simp only [List.mem_cons, List.not_mem_nil, or_false] at hx; rcases hx with rfl | rfl <;> rfl) Try.call105 (by kernel_rfl) (by kernel_rfl) (by kernel_rfl) rfl (fun u34 ac wc A29 S30 => ?_)
  obtain ⟨gc32, gd33⟩ := u34
  replace S30 : St w0 [⟨gd33, 3, #[.int .i64 64], true⟩, ⟨gc32, 23, #[.slice (some ad) n cap], true⟩, ⟨g23, 130, #[.pointer (some ⟨g19, 0, none⟩)], true⟩, ⟨g19, 137, #[.int .i64 (ne : Int), .slice none 0 0], true⟩, ⟨g3, 30, #[.int .i64 (ne : Int), .slice (some ad) n cap], true⟩] [] _ := S30
  refine wpList_nil ?_
  refine n_then ?_
  refine wp_block ?_
  refine c_range (α := Nat) (gf := 111) (fs := #[]) (lb := #[.pointer (some ⟨gc32, 0, none⟩), .pointer (some ⟨gd33, 0, none⟩)]) (encs := fun x => #[.slice (some (ad.add (x * 64))) 64 64]) (G := [⟨gc32, 23, #[.slice (some ad) n cap], true⟩, ⟨gd33, 3, #[.int .i64 64], true⟩]) (xs := List.range (ne * ne)) A29 S30 (by kernel_rfl) Try.call111 (List.forall_mem_cons.2 ⟨S30.get 1 rfl, (List.forall_mem_cons.2 ⟨S30.get 0 rfl, (List.forall_mem_nil _)⟩)⟩) (chunkF_seq gc32 gd33 true true ad n cap 64 (ne * ne) (by decide) hne hcp (by omega)) (fun _ => rfl) (fun x => [(19, .slice (some (ad.add (x * 64))) 64 64)]) (fun _ => (by first | rfl | simp)) (fun _ => (List.forall_mem_cons.2 ⟨(show 19 < 33 by decide), (List.forall_mem_nil _)⟩)) (fun pre W => ∃ (v : Value), St w0 [⟨gd33, 3, #[.int .i64 64], true⟩, ⟨gc32, 23, #[.slice (some ad) n cap], true⟩, ⟨g23, 130, #[.pointer (some ⟨g19, 0, none⟩)], true⟩, ⟨g19, 137, #[.int .i64 (ne : Int), v], true⟩, ⟨g3, 30, #[.int .i64 (ne : Int), .slice (some ad) n cap], true⟩] [⟨v, 123, 64, pre.length, (rowI ((mi xs).take (pre.length * 64)))⟩] W) (fun _ _ => False) ?_ ?_ ?_ ?_ (fun x => [(6, .slice (some (ad.add (x * 64))) 64 64), (19, .slice (some (ad.add (x * 64))) 64 64), (0, .agg #[.int .i64 (ne : Int), .slice (some ad) n cap]), (1, .pointer (some ⟨g3, 0, none⟩)), (2, .pointer none), (3, .int .i64 0), (7, .agg #[.int .i64 (ne : Int), .slice (some ad) n cap]), (8, .int .i64 ((mxC (ne : Int) xs).2)), (4, .int .i64 ((mxC (ne : Int) xs).2)), (9, .int .i64 ((mxC (ne : Int) xs).2)), (10, .bool (decide ((mxC (ne : Int) xs).2 ≠ 0))), (12, .pointer (some ⟨g3, 0, none⟩)), (13, .int .i64 (ne : Int)), (14, .agg #[.int .i64 (ne : Int), .slice none 0 0]), (15, .pointer (some ⟨g19, 0, none⟩)), (5, .pointer (some ⟨g23, 0, none⟩)), (16, .pointer (some ⟨g3, 1, none⟩)), (17, .slice (some ad) n cap), (18, .func (.func 111) #[] #[.pointer (some ⟨gc32, 0, none⟩), .pointer (some ⟨gd33, 0, none⟩)])]) ?_ ?_ ?_ ?_
  · rintro pre W W' row ⟨v, hS⟩ hg hr
    exact ⟨v, St.round hS hg hr⟩
  · rintro pre W W' ⟨v, hS⟩ hb
    exact ⟨v, hS.kept hb⟩
  · exact fun _ _ _ _ h _ _ => h
  · have S35 := S30.nilRow 123 64
    exact ⟨.slice none 0 0, (St.rerow 0 (St.recell 3 S35 rfl (by rfl)) rfl ⟨rfl, rfl⟩).sub sub_all sub_all⟩
  · intro lz x a' WA K HA HK
    have SA := St.start WA
    replace HA : Fr 33 a' [(19, .slice (some (ad.add (x * 64))) 64 64), (0, .agg #[.int .i64 (ne : Int), .slice (some ad) n cap]), (1, .pointer (some ⟨g3, 0, none⟩)), (2, .pointer none), (3, .int .i64 0), (7, .agg #[.int .i64 (ne : Int), .slice (some ad) n cap]), (8, .int .i64 ((mxC (ne : Int) xs).2)), (4, .int .i64 ((mxC (ne : Int) xs).2)), (9, .int .i64 ((mxC (ne : Int) xs).2)), (10, .bool (decide ((mxC (ne : Int) xs).2 ≠ 0))), (12, .pointer (some ⟨g3, 0, none⟩)), (13, .int .i64 (ne : Int)), (14, .agg #[.int .i64 (ne : Int), .slice none 0 0]), (15, .pointer (some ⟨g19, 0, none⟩)), (5, .pointer (some ⟨g23, 0, none⟩)), (16, .pointer (some ⟨g3, 1, none⟩)), (17, .slice (some ad) n cap), (18, .func (.func 111) #[] #[.pointer (some ⟨gc32, 0, none⟩), .pointer (some ⟨gd33, 0, none⟩)])] := (HA.slot (HA.slot (HA.slot (HA.slot (HA.slot (HA.slot (HA.slot (HA.slot (HA.slot (HA.slot (HA.slot (HA.slot (HA.slot (HA.slot (HA.slot (HA.slot (HA.slot (HA.slot HA.nil (v := .func (.func 111) #[] #[.pointer (some ⟨gc32, 0, none⟩), .pointer (some ⟨gd33, 0, none⟩)]) (by kernel_rfl) rfl) (v := .slice (some ad) n cap) (by kernel_rfl) rfl) (v := .pointer (some ⟨g3, 1, none⟩)) (by kernel_rfl) rfl) (v := .pointer (some ⟨g23, 0, none⟩)) (by kernel_rfl) rfl) (v := .pointer (some ⟨g19, 0, none⟩)) (by kernel_rfl) rfl) (v := .agg #[.int .i64 (ne : Int), .slice none 0 0]) (by kernel_rfl) rfl) (v := .int .i64 (ne : Int)) (by kernel_rfl) rfl) (v := .pointer (some ⟨g3, 0, none⟩)) (by kernel_rfl) rfl) (v := .bool (decide ((mxC (ne : Int) xs).2 ≠ 0))) (by kernel_rfl) rfl) (v := .int .i64 ((mxC (ne : Int) xs).2)) (by kernel_rfl) rfl) (v := .int .i64 ((mxC (ne : Int) xs).2)) (by kernel_rfl) rfl) (v := .int .i64 ((mxC (ne : Int) xs).2)) (by kernel_rfl) rfl) (v := .agg #[.int .i64 (ne : Int), .slice (some ad) n cap]) (by kernel_rfl) rfl) (v := .int .i64 0) (by kernel_rfl) rfl) (v := .pointer none) (by kernel_rfl) rfl) (v := .pointer (some ⟨g3, 0, none⟩)) (by kernel_rfl) rfl) (v := .agg #[.int .i64 (ne : Int), .slice (some ad) n cap]) (by kernel_rfl) rfl) (v := .slice (some (ad.add (x * 64))) 64 64) (by kernel_rfl) rfl)
    refine i_region noOut_assign (by kernel_rfl) ?_
    refine s_one (.slice (some (ad.add (x * 64))) 64 64) HA SA (g_assign (by kernel_rfl)) rfl (fun ac A36 => ?_)
    refine wpList_nil ?_
    refine n_then ?_
    exact HK _ (A36.slot (A36.slot (A36.slot (A36.slot (A36.slot (A36.slot (A36.slot (A36.slot (A36.slot (A36.slot (A36.slot (A36.slot (A36.slot (A36.slot (A36.slot (A36.slot (A36.slot (A36.slot (A36.slot A36.nil (v := .func (.func 111) #[] #[.pointer (some ⟨gc32, 0, none⟩), .pointer (some ⟨gd33, 0, none⟩)]) (by kernel_rfl) rfl) (v := .slice (some ad) n cap) (by kernel_rfl) rfl) (v := .pointer (some ⟨g3, 1, none⟩)) (by kernel_rfl) rfl) (v := .pointer (some ⟨g23, 0, none⟩)) (by kernel_rfl) rfl) (v := .pointer (some ⟨g19, 0, none⟩)) (by kernel_rfl) rfl) (v := .agg #[.int .i64 (ne : Int), .slice none 0 0]) (by kernel_rfl) rfl) (v := .int .i64 (ne : Int)) (by kernel_rfl) rfl) (v := .pointer (some ⟨g3, 0, none⟩)) (by kernel_rfl) rfl) (v := .bool (decide ((mxC (ne : Int) xs).2 ≠ 0))) (by kernel_rfl) rfl) (v := .int .i64 ((mxC (ne : Int) xs).2)) (by kernel_rfl) rfl) (v := .int .i64 ((mxC (ne : Int) xs).2)) (by kernel_rfl) rfl) (v := .int .i64 ((mxC (ne : Int) xs).2)) (by kernel_rfl) rfl) (v := .agg #[.int .i64 (ne : Int), .slice (some ad) n cap]) (by kernel_rfl) rfl) (v := .int .i64 0) (by kernel_rfl) rfl) (v := .pointer none) (by kernel_rfl) rfl) (v := .pointer (some ⟨g3, 0, none⟩)) (by kernel_rfl) rfl) (v := .agg #[.int .i64 (ne : Int), .slice (some ad) n cap]) (by kernel_rfl) rfl) (v := .slice (some (ad.add (x * 64))) 64 64) (by kernel_rfl) rfl) (v := .slice (some (ad.add (x * 64))) 64 64) (by kernel_rfl) rfl)
  · rintro lz pre x rest a' WB37 hx ⟨v, hS⟩ HA
    have SB38 := St.begin hS
    obtain ⟨rfl, hpre, hlt⟩ := range_next hx
    refine wpIn_block ?_
    refine i_begin (w0 := ⟨w0, WB37⟩) (by kernel_rfl) (noOut_block noOut_body) (by kernel_rfl) (SB38.sub (sub_keep (sub_keep (sub_keep (sub_skip sub_all)))) sub_nil) (fun wc T39 B40 => ?_)
    have S41 := SB38.kept B40
    refine r_take 0 (.pointer (some ⟨g19, 0, none⟩)) HA T39 (g_load (g := g23) (off := 0) 2 (by kernel_rfl) rfl (by kernel_rfl)) rfl rfl rfl (pf_block pf_round) (by kernel_rfl) (fun ac A42 => ?_)
    refine r_take 1 (.pointer (some ⟨g19, 0, none⟩)) A42 T39 (g_load (g := g23) (off := 0) 2 (by kernel_rfl) rfl (by kernel_rfl)) rfl rfl rfl (pf_block pf_round) (by kernel_rfl) (fun ac A43 => ?_)
    refine r_take 2 (.pointer (some ⟨g19, 0, none⟩)) A43 T39 (g_nil (by kernel_rfl)) rfl rfl rfl (pf_block pf_round) (by kernel_rfl) (fun ac A44 => ?_)
    refine r_take 3 (.pointer (some ⟨g19, 1, none⟩)) A44 T39 (g_field (u := .pointer (some ⟨g19, 0, none⟩)) (by kernel_rfl) (fun _ => by kernel_rfl)) rfl rfl rfl (pf_block pf_round) (by kernel_rfl) (fun ac A45 => ?_)
    refine r_take 5 (.slice (some (ad.add (pre.length * 64))) 64 64) A45 T39 (g_move (by kernel_rfl)) rfl rfl rfl (pf_block pf_round) (by kernel_rfl) (fun ac A46 => ?_)
    refine r_take 6 (.pointer (some (ad.add (pre.length * 64)))) A46 T39 (g_s2a (u := .slice (some (ad.add (pre.length * 64))) 64 64) (by kernel_rfl) (arr_x Try.underlying38 (by omega))) rfl rfl rfl (pf_block pf_round) (by kernel_rfl) (fun ac A47 => ?_)
    refine r_2 (i := 4) (j := 7) (by kernel_rfl) ?_ ?_
    · refine rs_gives (v) A47 S41 (sub_keep (sub_keep (sub_keep (sub_skip sub_all)))) sub_nil (g_load (g := g19) (off := 1) 3 (by kernel_rfl) rfl (by kernel_rfl)) rfl rfl rfl (fun ac A48 => ?_)
      refine r_1 (i := 7) (by kernel_rfl) ?_
      refine rs_call (fs := #[]) (cp := #[]) (r := [(0, .pointer (some (ad.add (pre.length * 64))))]) #[.pointer (some (ad.add (pre.length * 64)))] (.agg (ints (cutN (mi xs) (pre.length * 64) 64))) A48 S41 (sub_keep (sub_keep (sub_keep (sub_skip sub_all)))) sub_nil (numbersOf_x xs ad (pre.length * 64) _ (by have hlen := hn; omega) (hr.kept S41.kp) hR) Try.call66 rfl rfl (by kernel_rfl) (by kernel_rfl) (by kernel_rfl) rfl (fun ac wc A52 S53 => ?_)
      have T55 := S53.sub (sub_keep (sub_keep (sub_keep (sub_skip sub_all)))) sub_nil
      refine r_1 (i := 8) (by kernel_rfl) ?_
      refine rs_bs (e := 123) (r := [(0, .agg (ints (cutN (mi xs) (pre.length * 64) 64)))]) (ints (cutN (mi xs) (pre.length * 64) 64)) A52 S53 (sub_keep (sub_keep (sub_keep (sub_skip sub_all)))) sub_nil (by kernel_rfl) (bsRow_one (bytes := 512) (by kernel_rfl) ((ints_size _).trans (cutN_length _ _ _)) (by decide)) rfl rfl rfl (fun g58 ac wc A56 S57 => ?_)
      have T59 := S57.sub (sub_skip (sub_keep (sub_keep (sub_keep (sub_skip sub_all))))) sub_nil
      refine r_1 (i := 9) (by kernel_rfl) ?_
      refine rs_append (e := 123) (size := 64) (bytes := 512) (v := v) (g := g58) (m' := 1) (c := 1) 0 0 (rowI (cutN (mi xs) (pre.length * 64) 64)) A56 S57 (sub_skip (sub_keep (sub_keep (sub_keep (sub_skip sub_all))))) (fun _ => sub_nil) (by kernel_rfl) (by kernel_rfl) (by kernel_rfl) rfl rfl (take_rowI (cutN_length _ _ _)) (ble_ints (cutN_length _ _ _)) (rowI_one _) (by omega) (by omega) rfl rfl rfl (fun v62 ac wc A60 S61 => ?_)
      obtain ⟨A63, cap64, rfl⟩ := row_slice (v := v62) (m := pre.length + 1) (S61.row 0 rfl)
      have T65 := S61.sub (sub_skip (sub_keep (sub_keep (sub_keep (sub_skip sub_all))))) sub_nil
      refine r_take 10 (.pointer (some ⟨g19, 0, none⟩)) A60 T65 (g_nil (by kernel_rfl)) rfl rfl rfl (pf_block pf_round) (by kernel_rfl) (fun ac A66 => ?_)
      refine r_take 11 (.pointer (some ⟨g19, 1, none⟩)) A66 T65 (g_field (u := .pointer (some ⟨g19, 0, none⟩)) (by kernel_rfl) (fun _ => by kernel_rfl)) rfl rfl rfl (pf_block pf_round) (by kernel_rfl) (fun ac A67 => ?_)
      refine r_1 (i := 12) (by kernel_rfl) ?_
      refine rs_store (g := g19) (off := 1) (v := .slice A63 (pre.length + 1) cap64) 4 (#[.int .i64 (ne : Int), .slice A63 (pre.length + 1) cap64]) A67 S61 (sub_skip (sub_keep (sub_keep (sub_keep (sub_skip sub_all))))) sub_nil (by kernel_rfl) (by kernel_rfl) rfl (by kernel_rfl) rfl rfl (fun wc S69 => ?_)
      have T71 := S69.sub (sub_skip (sub_keep (sub_keep (sub_keep (sub_skip sub_all))))) sub_nil
      refine r_done (by kernel_rfl) ?_
      refine n_block ?_
      refine r_end (w0 := w0) S69 (KpG.cons (S69.get 2 rfl) (KpG.cons (S69.get 1 rfl) KpG.nil)) (fun SE => ?_)
      exact ⟨.slice A63 (pre.length + 1) cap64, (St.rerow 0 (St.recell 4 SE rfl (by rfl)) rfl ⟨by simp, pairs_snoc (by omega) (by simp)⟩).sub (sub_skip sub_all) sub_all⟩
    · refine rs_call (fs := #[]) (cp := #[]) (r := [(0, .pointer (some (ad.add (pre.length * 64))))]) #[.pointer (some (ad.add (pre.length * 64)))] (.agg (ints (cutN (mi xs) (pre.length * 64) 64))) A47 S41 (sub_keep (sub_keep (sub_keep (sub_skip sub_all)))) sub_nil (numbersOf_x xs ad (pre.length * 64) _ (by have hlen := hn; omega) (hr.kept S41.kp) hR) Try.call66 rfl rfl (by kernel_rfl) (by kernel_rfl) (by kernel_rfl) rfl (fun ac wc A72 S73 => ?_)
      have T75 := S73.sub (sub_keep (sub_keep (sub_keep (sub_skip sub_all)))) sub_nil
      refine r_2 (i := 4) (j := 8) (by kernel_rfl) ?_ ?_
      · refine rs_gives (v) A72 S73 (sub_keep (sub_keep (sub_keep (sub_skip sub_all)))) sub_nil (g_load (g := g19) (off := 1) 3 (by kernel_rfl) rfl (by kernel_rfl)) rfl rfl rfl (fun ac A76 => ?_)
        refine r_1 (i := 8) (by kernel_rfl) ?_
        refine rs_bs (e := 123) (r := [(0, .agg (ints (cutN (mi xs) (pre.length * 64) 64)))]) (ints (cutN (mi xs) (pre.length * 64) 64)) A76 S73 (sub_keep (sub_keep (sub_keep (sub_skip sub_all)))) sub_nil (by kernel_rfl) (bsRow_one (bytes := 512) (by kernel_rfl) ((ints_size _).trans (cutN_length _ _ _)) (by decide)) rfl rfl rfl (fun g82 ac wc A80 S81 => ?_)
        have T83 := S81.sub (sub_skip (sub_keep (sub_keep (sub_keep (sub_skip sub_all))))) sub_nil
        refine r_1 (i := 9) (by kernel_rfl) ?_
        refine rs_append (e := 123) (size := 64) (bytes := 512) (v := v) (g := g82) (m' := 1) (c := 1) 0 0 (rowI (cutN (mi xs) (pre.length * 64) 64)) A80 S81 (sub_skip (sub_keep (sub_keep (sub_keep (sub_skip sub_all))))) (fun _ => sub_nil) (by kernel_rfl) (by kernel_rfl) (by kernel_rfl) rfl rfl (take_rowI (cutN_length _ _ _)) (ble_ints (cutN_length _ _ _)) (rowI_one _) (by omega) (by omega) rfl rfl rfl (fun v86 ac wc A84 S85 => ?_)
        obtain ⟨A87, cap88, rfl⟩ := row_slice (v := v86) (m := pre.length + 1) (S85.row 0 rfl)
        have T89 := S85.sub (sub_skip (sub_keep (sub_keep (sub_keep (sub_skip sub_all))))) sub_nil
        refine r_take 10 (.pointer (some ⟨g19, 0, none⟩)) A84 T89 (g_nil (by kernel_rfl)) rfl rfl rfl (pf_block pf_round) (by kernel_rfl) (fun ac A90 => ?_)
        refine r_take 11 (.pointer (some ⟨g19, 1, none⟩)) A90 T89 (g_field (u := .pointer (some ⟨g19, 0, none⟩)) (by kernel_rfl) (fun _ => by kernel_rfl)) rfl rfl rfl (pf_block pf_round) (by kernel_rfl) (fun ac A91 => ?_)
        refine r_1 (i := 12) (by kernel_rfl) ?_
        refine rs_store (g := g19) (off := 1) (v := .slice A87 (pre.length + 1) cap88) 4 (#[.int .i64 (ne : Int), .slice A87 (pre.length + 1) cap88]) A91 S85 (sub_skip (sub_keep (sub_keep (sub_keep (sub_skip sub_all))))) sub_nil (by kernel_rfl) (by kernel_rfl) rfl (by kernel_rfl) rfl rfl (fun wc S93 => ?_)
        have T95 := S93.sub (sub_skip (sub_keep (sub_keep (sub_keep (sub_skip sub_all))))) sub_nil
        refine r_done (by kernel_rfl) ?_
        refine n_block ?_
        refine r_end (w0 := w0) S93 (KpG.cons (S93.get 2 rfl) (KpG.cons (S93.get 1 rfl) KpG.nil)) (fun SE => ?_)
        exact ⟨.slice A87 (pre.length + 1) cap88, (St.rerow 0 (St.recell 4 SE rfl (by rfl)) rfl ⟨by simp, pairs_snoc (by omega) (by simp)⟩).sub (sub_skip sub_all) sub_all⟩
      · refine rs_bs (e := 123) (r := [(0, .agg (ints (cutN (mi xs) (pre.length * 64) 64)))]) (ints (cutN (mi xs) (pre.length * 64) 64)) A72 S73 (sub_keep (sub_keep (sub_keep (sub_skip sub_all)))) sub_nil (by kernel_rfl) (bsRow_one (bytes := 512) (by kernel_rfl) ((ints_size _).trans (cutN_length _ _ _)) (by decide)) rfl rfl rfl (fun g98 ac wc A96 S97 => ?_)
        have T99 := S97.sub (sub_skip (sub_keep (sub_keep (sub_keep (sub_skip sub_all))))) sub_nil
        refine r_1 (i := 4) (by kernel_rfl) ?_
        refine rs_gives (v) A96 S97 (sub_skip (sub_keep (sub_keep (sub_keep (sub_skip sub_all))))) sub_nil (g_load (g := g19) (off := 1) 4 (by kernel_rfl) rfl (by kernel_rfl)) rfl rfl rfl (fun ac A100 => ?_)
        refine r_1 (i := 9) (by kernel_rfl) ?_
        refine rs_append (e := 123) (size := 64) (bytes := 512) (v := v) (g := g98) (m' := 1) (c := 1) 0 0 (rowI (cutN (mi xs) (pre.length * 64) 64)) A100 S97 (sub_skip (sub_keep (sub_keep (sub_keep (sub_skip sub_all))))) (fun _ => sub_nil) (by kernel_rfl) (by kernel_rfl) (by kernel_rfl) rfl rfl (take_rowI (cutN_length _ _ _)) (ble_ints (cutN_length _ _ _)) (rowI_one _) (by omega) (by omega) rfl rfl rfl (fun v106 ac wc A104 S105 => ?_)
        obtain ⟨A107, cap108, rfl⟩ := row_slice (v := v106) (m := pre.length + 1) (S105.row 0 rfl)
        have T109 := S105.sub (sub_skip (sub_keep (sub_keep (sub_keep (sub_skip sub_all))))) sub_nil
        refine r_take 10 (.pointer (some ⟨g19, 0, none⟩)) A104 T109 (g_nil (by kernel_rfl)) rfl rfl rfl (pf_block pf_round) (by kernel_rfl) (fun ac A110 => ?_)
        refine r_take 11 (.pointer (some ⟨g19, 1, none⟩)) A110 T109 (g_field (u := .pointer (some ⟨g19, 0, none⟩)) (by kernel_rfl) (fun _ => by kernel_rfl)) rfl rfl rfl (pf_block pf_round) (by kernel_rfl) (fun ac A111 => ?_)
        refine r_1 (i := 12) (by kernel_rfl) ?_
        refine rs_store (g := g19) (off := 1) (v := .slice A107 (pre.length + 1) cap108) 4 (#[.int .i64 (ne : Int), .slice A107 (pre.length + 1) cap108]) A111 S105 (sub_skip (sub_keep (sub_keep (sub_keep (sub_skip sub_all))))) sub_nil (by kernel_rfl) (by kernel_rfl) rfl (by kernel_rfl) rfl rfl (fun wc S113 => ?_)
        have T115 := S113.sub (sub_skip (sub_keep (sub_keep (sub_keep (sub_skip sub_all))))) sub_nil
        refine r_done (by kernel_rfl) ?_
        refine n_block ?_
        refine r_end (w0 := w0) S113 (KpG.cons (S113.get 2 rfl) (KpG.cons (S113.get 1 rfl) KpG.nil)) (fun SE => ?_)
        exact ⟨.slice A107 (pre.length + 1) cap108, (St.rerow 0 (St.recell 4 SE rfl (by rfl)) rfl ⟨by simp, pairs_snoc (by omega) (by simp)⟩).sub (sub_skip sub_all) sub_all⟩
  · rintro D116 a' WD117 hD118 ⟨v, hS⟩ hK119 HA120
    have SD121 := St.begin hS
    have SR : St ⟨w0, WD117⟩ [⟨gd33, 3, #[.int .i64 64], true⟩, ⟨gc32, 23, #[.slice (some ad) n cap], true⟩, ⟨g23, 130, #[.pointer (some ⟨g19, 0, none⟩)], true⟩, ⟨g19, 137, #[.int .i64 (ne : Int), v], true⟩, ⟨g3, 30, #[.int .i64 (ne : Int), .slice (some ad) n cap], true⟩] [⟨v, 123, 64, (ne * ne), (rowI (mi xs))⟩] _ := St.rerow 0 SD121 rfl ⟨by simp, by rw [List.length_range, List.take_of_length_le (by rw [mi_length]; omega)]⟩
    obtain ⟨g2, cp, rfl⟩ := row_some (v := v) (m := ne * ne) (St.row SR 0 rfl) hpos
    refine n_block ?_
    refine n_then ?_
    refine wp_seq ?_
    refine wp_region_lit ?_
    refine s_one (.pointer (some ⟨g19, 0, none⟩)) HA120 SR (g_load (g := g23) (off := 0) 2 (by kernel_rfl) rfl (by kernel_rfl)) rfl (fun ac A122 => ?_)
    refine s_one (.pointer (some ⟨g19, 0, none⟩)) A122 SR (g_assign (by kernel_rfl)) rfl (fun ac A123 => ?_)
    refine s_one (.int .i64 0) A123 SR (g_assign (by kernel_rfl)) rfl (fun ac A124 => ?_)
    refine wpList_nil ?_
    refine n_then ?_
    refine wp_ret ?_
    refine m_ret (w0 := w0) A124 SR hK119 hD118 (fun ac wc A125 S126 => ?_)
    refine fin2 (.pointer (some ⟨g19, 0, none⟩)) (.int .i64 0) Try.results72 A125 S126 (rv_tmp (by kernel_rfl)) (rv_tmp (by kernel_rfl)) ⟨(g19, g2, cp), rfl, S126.sub (sub_skip (sub_skip (sub_skip (sub_keep sub_nil)))) sub_all⟩
  · exact fun _ _ _ _ _ h => h.elim
end Go.Proofs.Ytcijkniijomcjaa
namespace Go.Proofs.Ytcijkniijomcjaa
open Go.RowKit Go.Cpl
set_option maxRecDepth 100000 in
set_option maxHeartbeats 400000 in
theorem mat_at (g ne m cap f r : Nat) (ad : Addr) (l : List Int) (w0 : World) (hb : Blk w0 g 137 #[.int .i64 (ne : Int), .slice (some ad) m cap]) (hl : l.length = m * 64) (hk : f * ne + r < m) (hm : m ≤ 1000) :
    Calls Try.prog 73 #[.pointer (some ⟨g, 0, none⟩), .int .i64 (f : Int), .int .i64 (r : Int)] w0 fun e w' => e = .returned (.pointer (some (ad.add ((f * ne + r) * 64)))) ∧ Below w0.heap.size w0 w' := by
  have S0 := St.start w0
  have S0 := S0.came hb (by simp)
  have hrm : r ≤ 1000 := by omega
  have hfn : 0 ≤ (f : Int) * (ne : Int) ∧ (f : Int) * (ne : Int) ≤ 1000 := by have e : ((f * ne : Nat) : Int) = (f : Int) * (ne : Int) := Int.natCast_mul _ _; omega
  have hc : (f : Int) * (ne : Int) + (r : Int) = ((f * ne + r : Nat) : Int) := by rw [Int.natCast_add, Int.natCast_mul]
  refine enter (n := 20) Try.func73 rfl rfl rfl (fun ac A0 => ?_)
  refine wp_seq ?_
  refine wp_region_lit ?_
  refine s_one (.pointer none) A0 S0 (g_assign (by kernel_rfl)) rfl (fun ac A1 => ?_)
  refine wpList_nil ?_
  refine n_then ?_
  refine wp_seq ?_
  refine r_begin (w0 := w0) (by kernel_rfl) (S0.sub sub_all sub_all) (fun wc T2 B3 => ?_)
  have S4 := S0.kept B3
  refine r_take 0 (.pointer (some ⟨g, 0, none⟩)) A1 T2 (g_move (by kernel_rfl)) rfl rfl rfl (pf_then pf_body) (by kernel_rfl) (fun ac A5 => ?_)
  refine r_take 1 (.pointer (some ⟨g, 0, none⟩)) A5 T2 (g_nil (by kernel_rfl)) rfl rfl rfl (pf_then pf_body) (by kernel_rfl) (fun ac A6 => ?_)
  refine r_take 2 (.pointer (some ⟨g, 1, none⟩)) A6 T2 (g_field (u := .pointer (some ⟨g, 0, none⟩)) (by kernel_rfl) (fun _ => by kernel_rfl)) rfl rfl rfl (pf_then pf_body) (by kernel_rfl) (fun ac A7 => ?_)
  refine r_take 3 (.slice (some ad) m cap) A7 T2 (g_load (g := g) (off := 1) 0 (by kernel_rfl) rfl (by kernel_rfl)) rfl rfl rfl (pf_then pf_body) (by kernel_rfl) (fun ac A8 => ?_)
  refine r_take 4 (.int .i64 (f : Int)) A8 T2 (g_move (by kernel_rfl)) rfl rfl rfl (pf_then pf_body) (by kernel_rfl) (fun ac A9 => ?_)
  refine r_take 5 (.pointer (some ⟨g, 0, none⟩)) A9 T2 (g_move (by kernel_rfl)) rfl rfl rfl (pf_then pf_body) (by kernel_rfl) (fun ac A10 => ?_)
  refine r_take 6 (.pointer (some ⟨g, 0, none⟩)) A10 T2 (g_nil (by kernel_rfl)) rfl rfl rfl (pf_then pf_body) (by kernel_rfl) (fun ac A11 => ?_)
  refine r_take 7 (.pointer (some ⟨g, 0, none⟩)) A11 T2 (g_field (u := .pointer (some ⟨g, 0, none⟩)) (by kernel_rfl) (fun _ => by kernel_rfl)) rfl rfl rfl (pf_then pf_body) (by kernel_rfl) (fun ac A12 => ?_)
  refine r_take 8 (.int .i64 (ne : Int)) A12 T2 (g_load (g := g) (off := 0) 0 (by kernel_rfl) rfl (by kernel_rfl)) rfl rfl rfl (pf_then pf_body) (by kernel_rfl) (fun ac A13 => ?_)
  refine r_take 9 (.int .i64 ((f : Int) * (ne : Int))) A13 T2 (g_bin (u := .int .i64 (f : Int)) (k := .int .i64 (ne : Int)) (by kernel_rfl) (by kernel_rfl) (fun _ => by kernel_rfl) (b_mul (by omega))) rfl rfl rfl (pf_then pf_body) (by kernel_rfl) (fun ac A14 => ?_)
  refine r_take 10 (.int .i64 (r : Int)) A14 T2 (g_move (by kernel_rfl)) rfl rfl rfl (pf_then pf_body) (by kernel_rfl) (fun ac A15 => ?_)
  refine r_take 11 (.int .i64 ((f : Int) * (ne : Int) + (r : Int))) A15 T2 (g_bin (u := .int .i64 ((f : Int) * (ne : Int))) (k := .int .i64 (r : Int)) (by kernel_rfl) (by kernel_rfl) (fun _ => by kernel_rfl) (b_add (by omega))) rfl rfl rfl (pf_then pf_body) (by kernel_rfl) (fun ac A16 => ?_)
  refine r_take 12 (.pointer (some (ad.add ((f * ne + r) * 64)))) A16 T2 (g_index (u := .slice (some ad) m cap) (k := .int .i64 ((f : Int) * (ne : Int) + (r : Int))) (by kernel_rfl) (by kernel_rfl) (ix_xs (e := 123) (bytes := 512) (f * ne + r) (by kernel_rfl) (by omega) (by omega))) rfl rfl rfl (pf_then pf_body) (by kernel_rfl) (fun ac A17 => ?_)
  refine r_take 13 (.pointer (some (ad.add ((f * ne + r) * 64)))) A17 T2 (g_assign (by kernel_rfl)) rfl rfl rfl (pf_then pf_body) (by kernel_rfl) (fun ac A18 => ?_)
  refine r_done (by kernel_rfl) ?_
  refine n_then ?_
  refine wp_ret ?_
  refine fin1 (.pointer (some (ad.add ((f * ne + r) * 64)))) Try.results73 A18 S4 (rv_tmp (by kernel_rfl)) ⟨?_, S4.kp⟩
  rfl
set_option maxRecDepth 100000 in
set_option maxHeartbeats 400000 in
theorem size_s (n : Int) (w0 : World) (hn : -100000 ≤ n ∧ n ≤ 100000) :
    Calls Try.prog 89 #[.int .i64 n] w0 fun e w' => e = .returned (.int .i64 (mx n (-n))) ∧ Below w0.heap.size w0 w' := by
  have S0 := St.start w0
  refine enter (n := 7) Try.func89 rfl rfl rfl (fun ac A0 => ?_)
  refine wp_seq ?_
  refine wp_region_lit ?_
  refine s_one (.int .i64 0) A0 S0 (g_assign (by kernel_rfl)) rfl (fun ac A1 => ?_)
  refine wpList_nil ?_
  refine n_then ?_
  refine wp_seq ?_
  refine wp_region_lit ?_
  refine s_one (.int .i64 n) A1 S0 (g_move (by kernel_rfl)) rfl (fun ac A2 => ?_)
  refine s_one (.int .i64 n) A2 S0 (g_move (by kernel_rfl)) rfl (fun ac A3 => ?_)
  refine s_one (.int .i64 (-n)) A3 S0 (g_un (u := .int .i64 n) (by kernel_rfl) (u_neg (by omega))) rfl (fun ac A4 => ?_)
  refine s_one (.int .i64 (mx n (-n))) A4 S0 (g_built (r := [(0, .int .i64 n), (0, .int .i64 (-n))]) (by kernel_rfl) (fun ty cs w => by show (do let x ← Builtin.max_ _ ty #[.int .i64 n, .int .i64 (-n)]; pure (Next.value x) : Sem Next).run _ w = _; rw [Sem.run_bind, run_max_mx]; rfl)) rfl (fun ac A5 => ?_)
  refine s_one (.int .i64 (mx n (-n))) A5 S0 (g_assign (by kernel_rfl)) rfl (fun ac A6 => ?_)
  refine wpList_nil ?_
  refine n_then ?_
  refine wp_ret ?_
  refine fin1 (.int .i64 (mx n (-n))) Try.results89 A6 S0 (rv_tmp (by kernel_rfl)) ⟨?_, S0.kp⟩
  rfl
/-- The greatest size of so many ints. -/
def gr (l : List Int) (i : Nat) : Nat → Int
  | 0 => 0
  | k + 1 => mx (gr l i k) (mx (nthI l (i + k)) (-(nthI l (i + k))))
theorem fw_snoc {l : List Int} {k m : Nat} (h : k * 64 + 64 ≤ l.length) (hm : m = k + 1) : rowF (fw (l.take (k * 64))) ++ rowF (mkT (cutN l (k * 64) 64) 64) = rowF (fw (l.take (m * 64))) := by
  subst hm
  rw [mkT_fw (cutN_length _ _ _), rowF_app, fw_app, take_cutN h, Nat.succ_mul]
set_option maxRecDepth 100000 in
set_option maxHeartbeats 400000 in
theorem full_s (g ne m cap : Nat) (ad : Addr) (l : List Int) (w0 : World) (hb : Blk w0 g 137 #[.int .i64 (ne : Int), .slice (some ad) m cap]) (hl : l.length = m * 64) (hr : IReads w0 (some ad) l) (hm : m ≤ 1000) :
    Calls Try.prog 74 #[.pointer (some ⟨g, 0, none⟩)] w0 fun e w' => ∃ v, e = .returned (.agg #[.int .i64 (ne : Int), v]) ∧ Below w0.heap.size w0 w' ∧ w'.ownsRow w0.heap.size 36 1 v (m * 64) (rowF (fw l)) := by
  have S0 := St.start w0
  have S0 := S0.came hb (by simp)
  refine enter (n := 30) Try.func74 rfl rfl rfl (fun ac A0 => ?_)
  refine wp_seq ?_
  refine wp_region_lit ?_
  refine s_alloc (#[.int .i64 0, .slice none 0 0]) A0 S0 (by kernel_rfl) rfl (fun g3 ac wc A1 S2 => ?_)
  refine wpList_nil ?_
  refine n_then ?_
  refine wp_seq ?_
  refine wp_region_lit ?_
  refine s_one (.pointer (some ⟨g, 0, none⟩)) A1 S2 (g_move (by kernel_rfl)) rfl (fun ac A4 => ?_)
  refine s_one (.pointer (some ⟨g, 0, none⟩)) A4 S2 (g_nil (by kernel_rfl)) rfl (fun ac A5 => ?_)
  refine s_one (.pointer (some ⟨g, 0, none⟩)) A5 S2 (g_field (u := .pointer (some ⟨g, 0, none⟩)) (by kernel_rfl) (fun _ => by kernel_rfl)) rfl (fun ac A6 => ?_)
  refine s_one (.int .i64 (ne : Int)) A6 S2 (g_load (g := g) (off := 0) 1 (by kernel_rfl) rfl (by kernel_rfl)) rfl (fun ac A7 => ?_)
  refine s_one (.agg #[.int .i64 (ne : Int), .slice none 0 0]) A7 S2 (g_build (r := [(0, .int .i64 (ne : Int))]) (by kernel_rfl) (fun _ => by kernel_rfl)) rfl (fun ac A8 => ?_)
  refine s_alloc (#[.int .i64 0, .slice none 0 0]) A8 S2 (by kernel_rfl) rfl (fun g11 ac wc A9 S10 => ?_)
  refine s_store (g := g11) (off := 0) (v := .agg #[.int .i64 (ne : Int), .slice none 0 0]) 0 (#[.int .i64 (ne : Int), .slice none 0 0]) A9 S10 (by kernel_rfl) (by kernel_rfl) rfl (by kernel_rfl) (fun wc S13 => ?_)
  refine wpList_nil ?_
  refine n_then ?_
  refine wp_seq ?_
  refine wp_seq ?_
  have S0n := S13.nilRow 36 1
  refine wp_region_lit ?_
  refine s_one (.pointer (some ⟨g, 0, none⟩)) A9 S0n (g_move (by kernel_rfl)) rfl (fun ac A15 => ?_)
  refine s_one (.pointer (some ⟨g, 0, none⟩)) A15 S0n (g_nil (by kernel_rfl)) rfl (fun ac A16 => ?_)
  refine s_one (.pointer (some ⟨g, 1, none⟩)) A16 S0n (g_field (u := .pointer (some ⟨g, 0, none⟩)) (by kernel_rfl) (fun _ => by kernel_rfl)) rfl (fun ac A17 => ?_)
  refine s_one (.slice (some ad) m cap) A17 S0n (g_load (g := g) (off := 1) 2 (by kernel_rfl) rfl (by kernel_rfl)) rfl (fun ac A18 => ?_)
  refine s_one (.int .i64 (m : Int)) A18 S0n (g_built (r := [(0, .slice (some ad) m cap)]) (by kernel_rfl) (fun _ _ _ => by kernel_rfl)) rfl (fun ac A19 => ?_)
  refine s_one (.int .i64 0) A19 S0n (g_move (by kernel_rfl)) rfl (fun ac A20 => ?_)
  refine wpList_nil ?_
  refine n_then ?_
  refine wp_block ?_
  refine c_loopN (fun mm ac wc => ∃ (k : Nat) (v : Value), mm = m - k ∧ (k ≤ m) ∧ Fr 30 ac [(0, .pointer (some ⟨g, 0, none⟩)), (2, .pointer (some ⟨g3, 0, none⟩)), (7, .pointer (some ⟨g, 0, none⟩)), (8, .pointer (some ⟨g, 0, none⟩)), (9, .pointer (some ⟨g, 0, none⟩)), (10, .int .i64 (ne : Int)), (11, .agg #[.int .i64 (ne : Int), .slice none 0 0]), (3, .pointer (some ⟨g11, 0, none⟩)), (12, .pointer (some ⟨g, 0, none⟩)), (13, .pointer (some ⟨g, 0, none⟩)), (14, .pointer (some ⟨g, 1, none⟩)), (15, .slice (some ad) m cap), (16, .int .i64 (m : Int)), (17, .int .i64 (k : Int))] ∧ St w0 [⟨g11, 30, #[.int .i64 (ne : Int), v], true⟩, ⟨g3, 30, #[.int .i64 0, .slice none 0 0], true⟩, ⟨g, 137, #[.int .i64 (ne : Int), .slice (some ad) m cap], false⟩] [⟨v, 36, 1, (k * 64), (rowF (fw (l.take (k * 64))))⟩] wc) _ ⟨0, .slice none 0 0, rfl, by omega, (A20.slot (A20.slot (A20.slot (A20.slot (A20.slot (A20.slot (A20.slot (A20.slot (A20.slot (A20.slot (A20.slot (A20.slot (A20.slot (A20.slot A20.nil (v := .int .i64 0) (by kernel_rfl) (congrArg (Value.int .i64) (by omega))) (v := .int .i64 (m : Int)) (by kernel_rfl) rfl) (v := .slice (some ad) m cap) (by kernel_rfl) rfl) (v := .pointer (some ⟨g, 1, none⟩)) (by kernel_rfl) rfl) (v := .pointer (some ⟨g, 0, none⟩)) (by kernel_rfl) rfl) (v := .pointer (some ⟨g, 0, none⟩)) (by kernel_rfl) rfl) (v := .pointer (some ⟨g11, 0, none⟩)) (by kernel_rfl) rfl) (v := .agg #[.int .i64 (ne : Int), .slice none 0 0]) (by kernel_rfl) rfl) (v := .int .i64 (ne : Int)) (by kernel_rfl) rfl) (v := .pointer (some ⟨g, 0, none⟩)) (by kernel_rfl) rfl) (v := .pointer (some ⟨g, 0, none⟩)) (by kernel_rfl) rfl) (v := .pointer (some ⟨g, 0, none⟩)) (by kernel_rfl) rfl) (v := .pointer (some ⟨g3, 0, none⟩)) (by kernel_rfl) rfl) (v := .pointer (some ⟨g, 0, none⟩)) (by kernel_rfl) rfl), (St.rerow 0 (St.recell 0 S0n rfl (by rfl)) rfl ⟨rfl, rfl⟩).sub sub_all sub_all⟩ ?_
  rintro mm ac wc ⟨k, v, hm23, hk, A21, S22⟩
  refine wp_seq ?_
  refine wp_region_lit ?_
  refine s_one (.bool (decide ((k : Int) < (m : Int)))) A21 S22 (g_bin (u := .int .i64 (k : Int)) (k := .int .i64 (m : Int)) (by kernel_rfl) (by kernel_rfl) (fun _ => by kernel_rfl) (fun _ => by kernel_rfl)) rfl (fun ac A24 => ?_)
  refine wpList_nil ?_
  refine n_then ?_
  refine wp_seq ?_
  refine c_ifb (b := (decide ((k : Int) < (m : Int)))) A24 (by kernel_rfl) (fun h25 => ?_) (fun h25 => ?_)
  · have p26 := of_decide_eq_true h25
    refine wp_skip ?_
    refine n_then ?_
    refine wp_seq ?_
    refine wp_block ?_
    refine wp_seq ?_
    refine wp_region_lit ?_
    refine s_one (.pointer (some (ad.add (k * 64)))) A24 S22 (g_index (u := .slice (some ad) m cap) (k := .int .i64 (k : Int)) (by kernel_rfl) (by kernel_rfl) (ix_xs (e := 123) (bytes := 512) k (by kernel_rfl) (by omega) (by omega))) rfl (fun ac A27 => ?_)
    refine s_one (.agg (ints (cutN l (k * 64) 64))) A27 S22 (g_loadXN (l := l) (k := k * 64) 64 (by kernel_rfl) hr (by have hlen := hl; omega) (by kernel_rfl)) rfl (fun ac A28 => ?_)
    refine s_alloc (ints (List.replicate 64 0)) A28 S22 zero159 rfl (fun g31 ac wc A29 S30 => ?_)
    refine s_store (g := g31) (off := 0) (v := .agg (ints (cutN l (k * 64) 64))) 0 (ints (cutN l (k * 64) 64)) A29 S30 (by kernel_rfl) (by kernel_rfl) rfl (putVal_whole ((ints_size _).trans List.length_replicate) ((ints_size _).trans (cutN_length _ _ _)) ⟨⟨_, Try.underlying123, rfl⟩, by kernel_rfl⟩ (ints_one _)) (fun wc S33 => ?_)
    refine wpList_nil ?_
    refine n_then ?_
    refine wp_seq ?_
    refine wp_region_lit ?_
    refine s_one (.agg (ints (cutN l (k * 64) 64))) A29 S33 (g_loadW (g := g31) 0 (by kernel_rfl) rfl ((ints_size _).trans (cutN_length _ _ _)) ⟨⟨_, Try.underlying123, rfl⟩, by kernel_rfl⟩) rfl (fun ac A35 => ?_)
    refine s_call (fs := #[]) (cp := #[]) (r := [(0, .agg (ints (cutN l (k * 64) 64)))]) #[.agg (ints (cutN l (k * 64) 64))] (.agg (trc (mkT (cutN l (k * 64) 64) 64))) A35 S33 (traceOf_s (cutN l (k * 64) 64) _ (cutN_length _ _ _)) Try.call65 (by kernel_rfl) (by kernel_rfl) (by kernel_rfl) rfl (fun ac wc A36 S37 => ?_)
    refine s_alloc (trc zT) A36 S37 zero26 rfl (fun g41 ac wc A39 S40 => ?_)
    refine s_store (g := g41) (off := 0) (v := .agg (trc (mkT (cutN l (k * 64) 64) 64))) 0 (trc (mkT (cutN l (k * 64) 64) 64)) A39 S40 (by kernel_rfl) (by kernel_rfl) rfl (putVal_whole ((trc_size _).trans zT_length) ((trc_size _).trans (done_length _ _ _ _)) ⟨⟨_, Try.underlying38, rfl⟩, by kernel_rfl⟩ (trc_one _)) (fun wc S43 => ?_)
    refine wpList_nil ?_
    refine n_then ?_
    refine r_begin (w0 := w0) (by kernel_rfl) (S43.sub (sub_keep (sub_keep (sub_skip (sub_skip sub_all)))) sub_nil) (fun wc T45 B46 => ?_)
    have S47 := S43.kept B46
    refine r_take 0 (.pointer (some ⟨g11, 1, none⟩)) A39 T45 (g_field (u := .pointer (some ⟨g11, 0, none⟩)) (by kernel_rfl) (fun _ => by kernel_rfl)) rfl rfl rfl (pf_block (pf_then (pf_then (pf_block (pf_then pf_body))))) (by kernel_rfl) (fun ac A48 => ?_)
    refine r_take 2 (.slice (some ⟨g41, 0, none⟩) 64 64) A48 T45 (g_slice (u := .pointer (some ⟨g41, 0, none⟩)) (lo' := none) (hi' := none) (mx' := none) (by kernel_rfl) (by kernel_rfl) (by kernel_rfl) (by kernel_rfl) (fun _ => by kernel_rfl)) rfl rfl rfl (pf_block (pf_then (pf_then (pf_block (pf_then pf_body))))) (by kernel_rfl) (fun ac A49 => ?_)
    refine r_1 (i := 1) (by kernel_rfl) ?_
    refine rs_gives (v) A49 S47 (sub_keep (sub_keep (sub_skip (sub_skip sub_all)))) sub_nil (g_load (g := g11) (off := 1) 2 (by kernel_rfl) rfl (by kernel_rfl)) rfl rfl rfl (fun ac A50 => ?_)
    refine r_1 (i := 3) (by kernel_rfl) ?_
    refine rs_append (e := 36) (size := 1) (bytes := 4) (v := v) (g := g41) (m' := 64) (c := 64) 0 0 (rowF (mkT (cutN l (k * 64) 64) 64)) A50 S47 (sub_keep (sub_keep (sub_skip (sub_skip sub_all)))) (fun _ => sub_nil) (by kernel_rfl) (by kernel_rfl) (by kernel_rfl) rfl rfl (take_rowF (done_length _ _ _ _)) (ble_trc (done_length _ _ _ _)) (rowF_one _) (by omega) (by omega) rfl rfl rfl (fun v56 ac wc A54 S55 => ?_)
    obtain ⟨A57, cap58, rfl⟩ := row_slice (v := v56) (m := (k * 64) + 64) (S55.row 0 rfl)
    have T59 := S55.sub (sub_keep (sub_keep (sub_skip (sub_skip sub_all)))) sub_nil
    refine r_take 4 (.pointer (some ⟨g11, 1, none⟩)) A54 T59 (g_field (u := .pointer (some ⟨g11, 0, none⟩)) (by kernel_rfl) (fun _ => by kernel_rfl)) rfl rfl rfl (pf_block (pf_then (pf_then (pf_block (pf_then pf_body))))) (by kernel_rfl) (fun ac A60 => ?_)
    refine r_1 (i := 5) (by kernel_rfl) ?_
    refine rs_store (g := g11) (off := 1) (v := .slice A57 ((k * 64) + 64) cap58) 2 (#[.int .i64 (ne : Int), .slice A57 ((k * 64) + 64) cap58]) A60 S55 (sub_keep (sub_keep (sub_skip (sub_skip sub_all)))) sub_nil (by kernel_rfl) (by kernel_rfl) rfl (by kernel_rfl) rfl rfl (fun wc S62 => ?_)
    have T64 := S62.sub (sub_keep (sub_keep (sub_skip (sub_skip sub_all)))) sub_nil
    refine r_done (by kernel_rfl) ?_
    refine n_block ?_
    refine n_then ?_
    refine wp_region_lit ?_
    refine s_one (.int .i64 ((k : Int) + 1)) A60 S62 (g_bin (u := .int .i64 (k : Int)) (k := .int .i64 1) (by kernel_rfl) (by kernel_rfl) (fun _ => by kernel_rfl) (b_add (by omega))) rfl (fun ac A65 => ?_)
    refine s_one (.int .i64 ((k : Int) + 1)) A65 S62 (g_move (by kernel_rfl)) rfl (fun ac A66 => ?_)
    refine wpList_nil ?_
    refine n_then ?_
    refine ⟨_, ⟨k + 1, .slice A57 ((k * 64) + 64) cap58, rfl, by omega, (A66.slot (A66.slot (A66.slot (A66.slot (A66.slot (A66.slot (A66.slot (A66.slot (A66.slot (A66.slot (A66.slot (A66.slot (A66.slot (A66.slot A66.nil (v := .int .i64 ((k : Int) + 1)) (by kernel_rfl) (congrArg (Value.int .i64) (by omega))) (v := .int .i64 (m : Int)) (by kernel_rfl) rfl) (v := .slice (some ad) m cap) (by kernel_rfl) rfl) (v := .pointer (some ⟨g, 1, none⟩)) (by kernel_rfl) rfl) (v := .pointer (some ⟨g, 0, none⟩)) (by kernel_rfl) rfl) (v := .pointer (some ⟨g, 0, none⟩)) (by kernel_rfl) rfl) (v := .pointer (some ⟨g11, 0, none⟩)) (by kernel_rfl) rfl) (v := .agg #[.int .i64 (ne : Int), .slice none 0 0]) (by kernel_rfl) rfl) (v := .int .i64 (ne : Int)) (by kernel_rfl) rfl) (v := .pointer (some ⟨g, 0, none⟩)) (by kernel_rfl) rfl) (v := .pointer (some ⟨g, 0, none⟩)) (by kernel_rfl) rfl) (v := .pointer (some ⟨g, 0, none⟩)) (by kernel_rfl) rfl) (v := .pointer (some ⟨g3, 0, none⟩)) (by kernel_rfl) rfl) (v := .pointer (some ⟨g, 0, none⟩)) (by kernel_rfl) rfl), (St.rerow 0 (St.recell 2 S62 rfl (by rfl)) rfl ⟨by omega, fw_snoc (by omega) rfl⟩).sub (sub_skip (sub_skip sub_all)) sub_all⟩, ?_⟩
    omega
  · have p67 := of_decide_eq_false h25
    refine wp_exit ?_
    refine x_then ?_
    refine x_then ?_
    refine x_hit ?_
    refine n_then ?_
    refine wp_seq ?_
    refine wp_region_lit ?_
    refine s_one (.agg #[.int .i64 (ne : Int), v]) A24 S22 (g_load (g := g11) (off := 0) 0 (by kernel_rfl) rfl (by kernel_rfl)) rfl (fun ac A68 => ?_)
    obtain ⟨A69, cap70, rfl⟩ := row_slice (v := v) (m := (k * 64)) (S22.row 0 rfl)
    refine s_store (g := g3) (off := 0) (v := .agg #[.int .i64 (ne : Int), .slice A69 (k * 64) cap70]) 1 (#[.int .i64 (ne : Int), .slice A69 (k * 64) cap70]) A68 S22 (by kernel_rfl) (by kernel_rfl) rfl (by kernel_rfl) (fun wc S72 => ?_)
    refine wpList_nil ?_
    refine n_then ?_
    refine wp_ret ?_
    obtain rfl : m = k := by omega
    have SR : St w0 [⟨g11, 30, #[.int .i64 (ne : Int), .slice A69 (m * 64) cap70], true⟩, ⟨g3, 30, #[.int .i64 (ne : Int), .slice A69 (m * 64) cap70], true⟩, ⟨g, 137, #[.int .i64 (ne : Int), .slice (some ad) m cap], false⟩] [⟨.slice A69 (m * 64) cap70, 36, 1, (m * 64), (rowF (fw l))⟩] _ := St.rerow 0 S72 rfl ⟨rfl, by rw [List.take_of_length_le (by omega)]⟩
    refine fin1 (.agg #[.int .i64 (ne : Int), .slice A69 (m * 64) cap70]) Try.results74 A68 SR (rv_cell (g := g3) (off := 0) 1 (by kernel_rfl) rfl (by kernel_rfl)) ?_
    have bw := SR.kp
    have ow := SR.row 0 rfl
    exact ⟨_, rfl, bw, ow⟩
end Go.Proofs.Ytcijkniijomcjaa
/-! Stores into the elements of a slice of the call's own. -/
namespace Go.Proofs.Ytcijkniijomcjaa
open Go.RowKit Go.Cpl
theorem wr_list : ∀ (l : List Value) (k : Nat) (c : Array Value), k + l.length ≤ c.size → (wr c k l).toList = c.toList.take k ++ l ++ c.toList.drop (k + l.length) := by
  intro l
  induction l with
  | nil => intro k c h; simp [wr]
  | cons v l ih =>
    intro k c h
    simp only [wr]
    rw [ih (k + 1) _ (by simp at h ⊢; omega)]
    have hk : k < c.toList.length := by simp at h ⊢; omega
    rw [Array.toList_setIfInBounds, List.take_add_one, List.getElem?_set_self hk, List.take_set_of_le (Nat.le_refl k), List.drop_set_of_lt (by omega), List.length_cons, show k + 1 + l.length = k + (l.length + 1) by omega]
    simp
theorem wr_size (l : List Value) (k : Nat) (c : Array Value) : (wr c k l).size = c.size := by
  induction l generalizing k c with
  | nil => rfl
  | cons v l ih => simp only [wr]; rw [ih, Array.size_setIfInBounds]
/-- A list with a part put in. -/
def putL {α : Type} (l : List α) (o : Nat) (ys : List α) : List α := l.take o ++ ys ++ l.drop (o + ys.length)
theorem putL_length {α : Type} {l ys : List α} {o : Nat} (h : o + ys.length ≤ l.length) : (putL l o ys).length = l.length := by simp [putL]; omega
theorem putL_map {α β : Type} (f : α → β) (l ys : List α) (o : Nat) : (putL l o ys).map f = putL (l.map f) o (ys.map f) := by simp [putL, List.map_take, List.map_drop]
theorem putL_one {α : Type} {l : List α} {o : Nat} (h : o < l.length) (y : α) : putL l o [y] = l.set o y := by
  rw [List.set_eq_take_append_cons_drop, if_pos h]; simp [putL]
section
variable {P : Program} {ops : Array Oper} {Q : Exit → Act → World → Prop} {n : Sz} {a : Act} {w0 : Base} {w : World} {F : Fm} {L Ls : List Bk} {M Ms : List Rw} {rest : List Oper} {fuel : Nat} {listed : Array Bool}
theorem run_rowStore {ty : TypeId} (j : Nat) {ad : Addr} {m cap : Nat} {e : TypeId} {size : Nat} {xs : List Value} {off k : Nat} {u : Value} {us : List Value} (hS : St w0 L M w) (hj : M[j]? = some ⟨.slice (some ad) m cap, e, size, m, xs⟩)
    (hu : u.cells.toList = us) (hl : us.length = k) (hsz : (P.info? ty).map (·.size) = some k) (h1 : us.all (·.oneCell') = true) (ho : off + k ≤ xs.length) :
    ∃ w', (storeVar ty (ad.add off) u).run P w = .ok () w' ∧ St w0 L (M.set j ⟨.slice (some ad) m cap, e, size, m, putL xs off us⟩) w' := by
  have hown : w.ownsRow w0.w.heap.size e size (.slice (some ad) m cap) m xs := hS.row j hj
  rcases hown.2 with ⟨hv, _⟩ | ⟨g, cap', cur, hv, hb, hgg, hmc, hml, hcs, ht⟩
  · cases hv
  · cases hv
    have hsize : m * size ≤ cur.size := by
      have hl0 : xs.length = m * size := hown.1
      rw [← ht, List.length_take, Array.length_toList] at hl0; omega
    have hx : off + k ≤ m * size := by have : xs.length = m * size := hown.1; omega
    have hput : putVal P ty cur off u = some (wr cur off us) := by
      unfold putVal
      rw [hsz]
      have e1 : u.cells.size = k := by rw [← hl, ← hu, Array.length_toList]
      simp only [e1, hu, h1, Nat.beq_refl, Bool.and_true, Bool.true_and]
      rw [show Nat.ble (off + k) cur.size = true by rw [Nat.ble_eq]; omega]
      rfl
    obtain ⟨w', hr, hb', htn⟩ := run_storeVar_blk (P := P) (show Blk w g e cur from hgg) hput
    refine ⟨w', by rw [add_zero_off]; exact hr, ?_⟩
    refine hS.grown j hj ⟨?_, .inr ⟨g, cap, _, rfl, hb, hb', hmc, hml, by rw [wr_size]; exact hcs, ?_⟩⟩ ⟨htn.os, htn.tape, htn.output, Nat.le_of_eq htn.size.symm, fun i _ hi => htn.block i (fun e => hi (by rw [e]; rfl))⟩ (.inl rfl)
    · rw [putL_length (by omega)]; exact hown.1
    · rw [wr_list _ _ _ (by omega), hl]
      obtain ⟨tl, e3⟩ : ∃ tl, cur.toList = xs ++ tl := ⟨cur.toList.drop (m * size), by
        have h5 := List.take_append_drop (m * size) cur.toList
        rw [ht] at h5; exact h5.symm⟩
      have hxl : xs.length = m * size := hown.1
      have t1 : (xs ++ tl).take off = xs.take off := List.take_append_of_le_length (by omega)
      have t2 : (xs ++ tl).drop (off + k) = xs.drop (off + k) ++ tl := List.drop_append_of_le_length (by omega)
      rw [e3, t1, t2, ← List.append_assoc]
      unfold putL
      rw [hl, List.take_append_of_le_length (by simp; omega), List.take_of_length_le (by simp; omega)]
theorem rs_storeR {i : Nat} {ty : TypeId} {x y : Operand} {ty' : TypeId} {pos : String} {aft : Array Edge} {gd : Option (Nat × Bool)} (j : Nat) {ad : Addr} {m cap : Nat} {e : TypeId} {size : Nat} {xs : List Value} {off : Nat} {u : Value} (k : Nat) (us xs' : List Value) (hA : Fr n a F) (hS : St w0 L M w) (hsub : Ls.Sublist L) (hsm : ∀ r : Rw, Ms.Sublist (M.set j r)) (hx : evO F x = some (.pointer (some (ad.add off)))) (hy : evO F y = some u) (hj : M[j]? = some ⟨.slice (some ad) m cap, e, size, m, xs⟩)
    (hu : u.cells.toList = us) (hl : us.length = k) (hsz : (P.info? ty).map (·.size) = some k) (h1 : us.all (·.oneCell') = true) (ho : off + k ≤ xs.length) (hp : putL xs off us = xs')
    (hi : ops[i]? = some ⟨none, .store ty x y, ty', pos, aft, gd⟩) (hw : Region.wanted ⟨none, .store ty x y, ty', pos, aft, gd⟩ (yielded ops a.tmps) = true)
    (q : ∀ w', St w0 L (M.set j ⟨.slice (some ad) m cap, e, size, m, xs'⟩) w' → wpAnyH P .any ops Q (St w0 Ls Ms) fuel (listed.setIfInBounds i true) a w') : RS P ops Q (St w0 Ls Ms) fuel listed a w i := by
  refine rs_of hi hw ?_
  obtain ⟨w', hr, hs⟩ := run_rowStore (P := P) j hS hj hu hl hsz h1 ho
  rw [hp] at hs
  unfold Oper.wp
  simp only [execOp, hA.ev hx, hA.ev hy, Instr.storeAt, Instr.sureAddr, Sem.run_bind, Sem.run_pure, Result.andThen_ok, hr]
  exact ⟨hs.sub hsub (hsm _), q w' hs⟩
end
theorem putI1 {l : List Int} {o : Nat} {x : Int} (h : o < l.length) : putL (rowI l) o [.int .i64 x] = rowI (l.set o x) := by
  rw [← putL_one h, rowI, show ([Value.int .i64 x] : List Value) = [x].map (.int .i64) from rfl]; exact (putL_map _ l [x] o).symm
end Go.Proofs.Ytcijkniijomcjaa
namespace Go.Proofs.Ytcijkniijomcjaa
open Go.RowKit Go.Cpl
theorem rowI_length (l : List Int) : (rowI l).length = l.length := by simp [rowI]
theorem FReads.nil {w : World} {A : Option Addr} : FReads w A [] := fun k hk => absurd hk (Nat.not_lt_zero k)
theorem SameFloats_eq (xs ys : List Nat) (e : xs = ys) (C D : Option Addr) (c d n m : Nat) (w : World) (hn : xs.length = n) (hm : ys.length = m) (hl : n ≤ maxLen) (hC : FReads w C xs) (hD : FReads w D ys) : Calls Try.prog 68 #[.slice C n c, .slice D m d] w fun en w' => en = .returned (.bool true) ∧ Below w.heap.size w w' := by
  subst e; subst hn; subst hm
  exact SameFloats_s xs C D c d xs.length w rfl hl hC hD
set_option maxRecDepth 100000 in
set_option maxHeartbeats 400000 in
theorem SameMatrix_s (el : Int) (C D : Option Addr) (c d n : Nat) (xs : List Nat) (w0 : World) (hn : xs.length = n) (hm : n ≤ 100000) (hC : FReads w0 C xs) (hD : FReads w0 D xs) :
    Calls Try.prog 52 #[.agg #[.int .i64 el, .slice C n c], .agg #[.int .i64 el, .slice D n d]] w0 fun e w' => e = .returned (.bool true) ∧ Below w0.heap.size w0 w' := by
  have S0 := St.start w0
  refine enter (n := 17) Try.func52 rfl rfl rfl (fun ac A0 => ?_)
  refine wp_seq ?_
  refine wp_region_lit ?_
  refine s_box (.agg #[.int .i64 el, .slice C n c]) A0 S0 (by kernel_rfl) rfl (fun g3 ac wc A1 S2 => ?_)
  replace S2 : St _ (⟨g3, 30, #[.int .i64 el, .slice C n c], true⟩ :: _) _ _ := S2
  refine s_box (.agg #[.int .i64 el, .slice D n d]) A1 S2 (by kernel_rfl) rfl (fun g7 ac wc A5 S6 => ?_)
  replace S6 : St _ (⟨g7, 30, #[.int .i64 el, .slice D n d], true⟩ :: _) _ _ := S6
  refine s_one (.bool false) A5 S6 (g_assign (by kernel_rfl)) rfl (fun ac A9 => ?_)
  refine wpList_nil ?_
  refine n_then ?_
  refine wp_seq ?_
  refine wp_region_lit ?_
  refine s_one (.pointer (some ⟨g3, 0, none⟩)) A9 S6 (g_field (u := .pointer (some ⟨g3, 0, none⟩)) (by kernel_rfl) (fun _ => by kernel_rfl)) rfl (fun ac A10 => ?_)
  refine s_one (.int .i64 el) A10 S6 (g_load (g := g3) (off := 0) 1 (by kernel_rfl) rfl (by kernel_rfl)) rfl (fun ac A11 => ?_)
  refine s_one (.pointer (some ⟨g7, 0, none⟩)) A11 S6 (g_field (u := .pointer (some ⟨g7, 0, none⟩)) (by kernel_rfl) (fun _ => by kernel_rfl)) rfl (fun ac A12 => ?_)
  refine s_one (.int .i64 el) A12 S6 (g_load (g := g7) (off := 0) 0 (by kernel_rfl) rfl (by kernel_rfl)) rfl (fun ac A13 => ?_)
  refine s_one (.bool (decide (el = el))) A13 S6 (g_bin (u := .int .i64 el) (k := .int .i64 el) (by kernel_rfl) (by kernel_rfl) (fun _ => by kernel_rfl) b_eql) rfl (fun ac A14 => ?_)
  refine s_one (.bool (decide (el = el))) A14 S6 (g_move (by kernel_rfl)) rfl (fun ac A15 => ?_)
  refine s_want (dj := 10) (b := (decide (el = el))) A15 (by kernel_rfl) (by kernel_rfl) (decide_eq_true rfl) ?_
  refine s_one (.pointer (some ⟨g3, 1, none⟩)) A15 S6 (g_field (u := .pointer (some ⟨g3, 0, none⟩)) (by kernel_rfl) (fun _ => by kernel_rfl)) rfl (fun ac A16 => ?_)
  refine s_want (dj := 10) (b := (decide (el = el))) A16 (by kernel_rfl) (by kernel_rfl) (decide_eq_true rfl) ?_
  refine s_one (.slice C n c) A16 S6 (g_load (g := g3) (off := 1) 1 (by kernel_rfl) rfl (by kernel_rfl)) rfl (fun ac A17 => ?_)
  refine s_want (dj := 10) (b := (decide (el = el))) A17 (by kernel_rfl) (by kernel_rfl) (decide_eq_true rfl) ?_
  refine s_one (.pointer (some ⟨g7, 1, none⟩)) A17 S6 (g_field (u := .pointer (some ⟨g7, 0, none⟩)) (by kernel_rfl) (fun _ => by kernel_rfl)) rfl (fun ac A18 => ?_)
  refine s_want (dj := 10) (b := (decide (el = el))) A18 (by kernel_rfl) (by kernel_rfl) (decide_eq_true rfl) ?_
  refine s_one (.slice D n d) A18 S6 (g_load (g := g7) (off := 1) 0 (by kernel_rfl) rfl (by kernel_rfl)) rfl (fun ac A19 => ?_)
  refine s_want (dj := 10) (b := (decide (el = el))) A19 (by kernel_rfl) (by kernel_rfl) (decide_eq_true rfl) ?_
  refine s_call (fs := #[]) (cp := #[]) (r := [(0, .slice C n c), (0, .slice D n d)]) #[.slice C n c, .slice D n d] (.bool true) A19 S6 (SameFloats_eq xs xs rfl C D c d n n _ hn hn (by unfold maxLen; omega) (hC.kept S6.kp) (hD.kept S6.kp)) Try.call68 (by kernel_rfl) (by kernel_rfl) (by kernel_rfl) rfl (fun ac wc A20 S21 => ?_)
  refine s_one (.bool true) A20 S21 (g_pick_t (b := (decide (el = el))) (by kernel_rfl) (decide_eq_true rfl) (by kernel_rfl)) rfl (fun ac A23 => ?_)
  refine s_one (.bool true) A23 S21 (g_assign (by kernel_rfl)) rfl (fun ac A24 => ?_)
  refine wpList_nil ?_
  refine n_then ?_
  refine wp_ret ?_
  refine fin1 (.bool true) Try.results52 A24 S21 (rv_tmp (by kernel_rfl)) ⟨?_, S21.kp⟩
  rfl
theorem SameMatrix_eq (e1 e2 : Int) (he : e1 = e2) (xs ys : List Nat) (e : xs = ys) (C D : Option Addr) (c d n m : Nat) (w : World) (hn : xs.length = n) (hm : ys.length = m) (hl : n ≤ 100000) (hC : FReads w C xs) (hD : FReads w D ys) : Calls Try.prog 52 #[.agg #[.int .i64 e1, .slice C n c], .agg #[.int .i64 e2, .slice D m d]] w fun en w' => en = .returned (.bool true) ∧ Below w.heap.size w w' := by
  subst e; subst hn; subst hm; subst he
  exact SameMatrix_s e1 C D c d xs.length xs w rfl hl hC hD
end Go.Proofs.Ytcijkniijomcjaa
namespace Go.Proofs.Ytcijkniijomcjaa
open Go.RowKit Go.Cpl
theorem pair_lt {f r n : Nat} (h : f < n) (h2 : r < n) : f * n + r < n * n := by
  have := Nat.mul_le_mul_right n (show f + 1 ≤ n from h)
  rw [Nat.succ_mul] at this
  omega
end Go.Proofs.Ytcijkniijomcjaa
namespace Go.Proofs.Ytcijkniijomcjaa
open Go.RowKit Go.Cpl
theorem firstErr_fw {l : List Int} (h : ∀ k, -2047 ≤ nthI l k ∧ nthI l k ≤ 2047) : (firstErr (fw l) 0).2 = 0 := by
  have key : ∀ (xs : List Nat) (k : Nat), (∀ x ∈ xs, sErr x = 0) → (firstErr xs k).2 = 0 := by
    intro xs
    induction xs with
    | nil => intro k _; rfl
    | cons x xs ih =>
      intro k hx
      simp only [firstErr]
      rw [hx x (List.mem_cons_self ..)]
      simp only [if_true]
      first | exact ih _ (fun y hy => hx y (List.mem_cons_of_mem _ hy)) | (simp; exact ih _ (fun y hy => hx y (List.mem_cons_of_mem _ hy)))
  refine key _ _ fun x hx => ?_
  simp only [fw, List.mem_map] at hx
  obtain ⟨y, hy, rfl⟩ := hx
  obtain ⟨i, hi, rfl⟩ := List.getElem_of_mem hy
  have := h i
  rw [nthI_eq hi] at this
  rw [sErr_of _ (by omega), if_pos this]
theorem num_fw {l : List Int} (h : ∀ k, -2047 ≤ nthI l k ∧ nthI l k ≤ 2047) : mi (fw l) = l := by
  apply List.ext_getElem
  · simp [mi, fw]
  · intro i h1 h2
    have := h i
    rw [nthI_eq h2] at this
    simp [mi, fw]
    exact num_of _ (by omega)
theorem cutN_range {l : List Int} (h : ∀ k, -2047 ≤ nthI l k ∧ nthI l k ≤ 2047) (i n : Nat) : ∀ k, -2047 ≤ nthI (cutN l i n) k ∧ nthI (cutN l i n) k ≤ 2047 := by
  intro k
  by_cases hk : k < n
  · rw [cutN_nth hk]; exact h _
  · simp [nthI, List.getElem?_eq_none (show (cutN l i n).length ≤ k by rw [cutN_length]; omega)]
end Go.Proofs.Ytcijkniijomcjaa
namespace Go.Proofs.Ytcijkniijomcjaa
open Go.RowKit Go.Cpl
section
variable {P : Program}
theorem part_int {e : TypeId} {l : List Int} {k : Nat} (he : P.underlying e = some (.int .i64)) (hk : k < l.length) (w : World) : (part e (ints l) k).run P w = .ok (.int .i64 (nthI l k)) w := by
  simp [part, isAgg, run_underlying he, ints_get hk]
/-- A struct whose fields are ints, one behind the other. -/
def flatFs (P : Program) : List Field → Nat → Bool
  | [], _ => true
  | f :: fs, i => (f.name != "_") && (Nat.beq f.offset i && ((match P.underlying f.type with | some (.int .i64) => true | _ => false) && flatFs P fs (i + 1)))
theorem eqFields_ints (d : Nat) (l l' : List Int) (w : World) : ∀ (fs : List Field) (i : Nat), flatFs P fs i = true → i + fs.length = l.length → l'.length = l.length →
    (Op.eqFields (d + 1) (ints l) (ints l') fs).run P w = .ok (decide (l.drop i = l'.drop i)) w
  | [], i, _, hl, hl' => by
    rw [List.drop_eq_nil_of_le (by simp at hl; omega), List.drop_eq_nil_of_le (by simp at hl; omega)]
    simp [Op.eqFields]
  | f :: fs, i, h, hl, hl' => by
    simp only [flatFs, Bool.and_eq_true, bne_iff_ne, ne_eq] at h
    obtain ⟨h1, h2, h3, h4⟩ := h
    have h2' := Nat.eq_of_beq_eq_true h2
    have hi : i < l.length := by simp at hl; omega
    have hi' : i < l'.length := by omega
    have hu : P.underlying f.type = some (.int .i64) := by
      split at h3
      · assumption
      · cases h3
    have ih := eqFields_ints d l l' w fs (i + 1) h4 (by simp at hl; omega) hl'
    simp only [Op.eqFields, if_pos (show f.name ≠ "_" from h1), Sem.run_bind, h2', part_int hu hi, part_int hu hi', Result.andThen_ok, run_equalIn_int w d f.type .i64 .i64 _ _ hu]
    have key : l.drop i = l'.drop i ↔ (l[i] = l'[i] ∧ l.drop (i + 1) = l'.drop (i + 1)) := by
      rw [List.drop_eq_getElem_cons hi, List.drop_eq_getElem_cons hi', List.cons.injEq]
    rw [nthI_eq hi, nthI_eq hi']
    by_cases e : l[i] = l'[i]
    · simp only [e, beq_self_eq_true, Bool.not_true, Bool.false_eq_true, if_false, ih]
      congr 1
      rw [decide_eq_decide, key]
      exact ⟨fun h => ⟨e, h⟩, fun h => h.2⟩
    · have e' : (l[i] == l'[i]) = false := by simpa using e
      simp only [e', Bool.not_false, if_true, Sem.run_pure]
      congr 1
      exact (decide_eq_false fun h => e (key.1 h).1).symm
def flatS (P : Program) (t : TypeId) (n : Nat) : Bool :=
  (match P.underlying t with | some (.struct _) => true | _ => false) && (!P.stoodInHeld t && (flatFs P (P.fieldsOf t).toList 0 && Nat.beq (P.fieldsOf t).toList.length n))
theorem flatS_spec {t : TypeId} {n : Nat} (h : flatS P t n = true) : P.underlying t = some (.struct (P.fieldsOf t)) ∧ P.stoodInHeld t = false ∧ flatFs P (P.fieldsOf t).toList 0 = true ∧ (P.fieldsOf t).toList.length = n := by
  simp only [flatS, Bool.and_eq_true, Bool.not_eq_true'] at h
  obtain ⟨h1, h2, h3, h4⟩ := h
  refine ⟨?_, h2, h3, Nat.eq_of_beq_eq_true h4⟩
  unfold Program.fieldsOf
  split at h1
  · rename_i fs hu; rw [hu]
  · cases h1
theorem q_struct {t : TypeId} {n : Nat} (l l' : List Int) (h : flatS P t n = true) (hl : l.length = n) (hl' : l'.length = n) (w : World) : (binOp .eql t (.agg (ints l)) (.agg (ints l'))).run P w = .ok (.bool (decide (l = l'))) w := by
  obtain ⟨h1, h2, h3, h4⟩ := flatS_spec h
  rw [run_eql_struct, run_equalIn_struct w 9999 t _ _ h1 h2, eqFields_ints 9998 l l' w _ 0 h3 (by omega) (by omega)]
  rfl
end
end Go.Proofs.Ytcijkniijomcjaa
namespace Go.Proofs.Ytcijkniijomcjaa
open Go.RowKit Go.Cpl
/-- A list of pairs, flat. -/
def flP (ps : List (Nat × Nat)) : List Int := ps.flatMap fun p => [(p.1 : Int), (p.2 : Int)]
theorem flP_snoc (ps : List (Nat × Nat)) (f r : Nat) : rowI (flP ps) ++ [.int .i64 (f : Int), .int .i64 (r : Int)] = rowI (flP (ps ++ [(f, r)])) := by simp [flP, rowI]
/-- The pairs that a test takes. -/
theorem sel_y {B : Nat × Nat → Bool} {ps : List (Nat × Nat)} {f r : Nat} (h : B (f, r) = true) : (ps ++ [(f, r)]).filter B = ps.filter B ++ [(f, r)] := by rw [List.filter_append]; simp [h]
theorem sel_n {B : Nat × Nat → Bool} {ps : List (Nat × Nat)} {f r : Nat} (h : B (f, r) = false) : (ps ++ [(f, r)]).filter B = ps.filter B := by rw [List.filter_append]; simp [h]
theorem sel_len {B : Nat × Nat → Bool} (ps : List (Nat × Nat)) : (ps.filter B).length ≤ ps.length := List.length_filter_le _ _
theorem pre_len {n : Nat} {pre rest : List (Nat × Nat)} {x : Nat × Nat} (h : pairsOf n = pre ++ x :: rest) : pre.length < n * n := by
  obtain ⟨h1, h2, h3⟩ := pairs_next h
  rw [h3]; exact pair_lt h1 h2
end Go.Proofs.Ytcijkniijomcjaa
namespace Go.Proofs.Ytcijkniijomcjaa
open Go.RowKit Go.Cpl
theorem mem_pairs {n : Nat} {p : Nat × Nat} : p ∈ pairsOf n ↔ p.1 < n ∧ p.2 < n := by
  constructor
  · intro h
    obtain ⟨s, t, e⟩ := List.append_of_mem h
    have := pairs_next e
    exact ⟨this.1, this.2.1⟩
  · intro h
    obtain ⟨rest, e⟩ := pairs_at h.1 h.2
    rw [e]; simp
theorem pairs_len (n : Nat) : (pairsOf n).length = n * n := by rw [pairsOf, preP_length, Nat.add_zero]
theorem ownsRow_nil' {w : World} {B : Nat} {e : TypeId} {size : Nat} : w.ownsRow B e size (.slice none 0 0) 0 [] := World.ownsRow_nil _ _ _ _
end Go.Proofs.Ytcijkniijomcjaa
namespace Go.Proofs.Ytcijkniijomcjaa
open Go.RowKit Go.Cpl
/-- A matrix turned round, by so many pairs. -/
def trL (l : List Int) (n : Nat) (ps : List (Nat × Nat)) : List Int := ps.flatMap fun p => cutN l ((p.2 * n + p.1) * 64) 64
theorem trL_length (l : List Int) (n : Nat) (ps : List (Nat × Nat)) : (trL l n ps).length = ps.length * 64 := by
  induction ps with
  | nil => rfl
  | cons p ps ih => simp only [trL, List.flatMap_cons, List.length_append, cutN_length, List.length_cons] at ih ⊢; omega
theorem trL_snoc {l : List Int} {n : Nat} {ps : List (Nat × Nat)} {f r : Nat} : rowI (trL l n ps) ++ rowI (cutN l ((r * n + f) * 64) 64) = rowI (trL l n (ps ++ [(f, r)])) := by
  rw [rowI_app]; simp [trL]
theorem trL_app (l : List Int) (n : Nat) (ps qs : List (Nat × Nat)) : trL l n (ps ++ qs) = trL l n ps ++ trL l n qs := by simp [trL]
set_option maxRecDepth 100000 in
set_option maxHeartbeats 400000 in
theorem Transposed_err (el : Int) (A : Option Addr) (n cap : Nat) (xs : List Nat) (w0 : World) (hn : xs.length = n) (hr : FReads w0 A xs) (hm : n ≤ 1000) (h0 : (mxC el xs).2 ≠ 0) :
    Calls Try.prog 42 #[.agg #[.int .i64 el, .slice A n cap]] w0 fun e w' => ∃ v, e = .returned (.tuple #[.agg #[.int .i64 0, v], .int .i64 ((mxC el xs).2)]) ∧ Below w0.heap.size w0 w' ∧ w'.ownsRow w0.heap.size 36 1 v 0 [] := by
  have S0 := St.start w0
  refine enterM (n := 45) Try.func42 rfl rfl rfl (fun ac A0 => ?_)
  refine wp_seq ?_
  refine wp_region_lit ?_
  refine s_box (.agg #[.int .i64 el, .slice A n cap]) A0 S0 (by kernel_rfl) rfl (fun g3 ac wc A1 S2 => ?_)
  replace S2 : St _ (⟨g3, 30, #[.int .i64 el, .slice A n cap], true⟩ :: _) _ _ := S2
  refine s_alloc (#[.int .i64 0, .slice none 0 0]) A1 S2 (by kernel_rfl) rfl (fun g7 ac wc A5 S6 => ?_)
  refine s_one (.int .i64 0) A5 S6 (g_assign (by kernel_rfl)) rfl (fun ac A8 => ?_)
  refine wpList_nil ?_
  refine n_then ?_
  refine wp_seq ?_
  refine wp_region_lit ?_
  refine s_one (.agg #[.int .i64 el, .slice A n cap]) A8 S6 (g_load (g := g3) (off := 0) 1 (by kernel_rfl) rfl (by kernel_rfl)) rfl (fun ac A9 => ?_)
  refine s_call (fs := #[]) (cp := #[]) (r := [(0, .agg #[.int .i64 el, .slice A n cap])]) #[.agg #[.int .i64 el, .slice A n cap]] (.tuple #[.pointer none, .int .i64 ((mxC el xs).2)]) A9 S6 (open_err el A n cap xs _ hn (hr.kept S6.kp) (by omega) h0) Try.call72 (by kernel_rfl) (by kernel_rfl) (by kernel_rfl) rfl (fun ac wc A10 S11 => ?_)
  refine s_one (.tuple #[.pointer none, .int .i64 ((mxC el xs).2)]) A10 S11 (g_move (by kernel_rfl)) rfl (fun ac A13 => ?_)
  refine s_one (.pointer none) A13 S11 (g_extract (u := .tuple #[.pointer none, .int .i64 ((mxC el xs).2)]) (by kernel_rfl) (fun _ => by kernel_rfl)) rfl (fun ac A14 => ?_)
  refine s_one (.int .i64 ((mxC el xs).2)) A14 S11 (g_extract (u := .tuple #[.pointer none, .int .i64 ((mxC el xs).2)]) (by kernel_rfl) (fun _ => by kernel_rfl)) rfl (fun ac A15 => ?_)
  refine s_alloc (#[.pointer none]) A15 S11 (by kernel_rfl) rfl (fun g18 ac wc A16 S17 => ?_)
  refine s_store (g := g18) (off := 0) (v := .pointer none) 0 (#[.pointer none]) A16 S17 (by kernel_rfl) (by kernel_rfl) rfl (by kernel_rfl) (fun wc S20 => ?_)
  refine s_one (.int .i64 ((mxC el xs).2)) A16 S20 (g_assign (by kernel_rfl)) rfl (fun ac A22 => ?_)
  refine wpList_nil ?_
  refine n_then ?_
  refine wp_seq ?_
  refine wp_seq ?_
  refine wp_region_lit ?_
  refine s_one (.int .i64 ((mxC el xs).2)) A22 S20 (g_move (by kernel_rfl)) rfl (fun ac A23 => ?_)
  refine s_one (.bool (decide ((mxC el xs).2 ≠ 0))) A23 S20 (g_bin (u := .int .i64 ((mxC el xs).2)) (k := .int .i64 0) (by kernel_rfl) (by kernel_rfl) (fun _ => by kernel_rfl) b_neq) rfl (fun ac A24 => ?_)
  refine wpList_nil ?_
  refine n_then ?_
  refine c_t (b := (decide ((mxC el xs).2 ≠ 0))) A24 (by kernel_rfl) (decide_eq_true h0) ?_
  refine wp_seq ?_
  refine wp_region_lit ?_
  refine s_one (.agg #[.int .i64 0, .slice none 0 0]) A24 S20 (g_build (r := []) (by kernel_rfl) (fun _ => by kernel_rfl)) rfl (fun ac A25 => ?_)
  refine s_one (.int .i64 ((mxC el xs).2)) A25 S20 (g_move (by kernel_rfl)) rfl (fun ac A26 => ?_)
  refine s_store (g := g7) (off := 0) (v := .agg #[.int .i64 0, .slice none 0 0]) 1 (#[.int .i64 0, .slice none 0 0]) A26 S20 (by kernel_rfl) (by kernel_rfl) rfl (by kernel_rfl) (fun wc S28 => ?_)
  refine s_one (.int .i64 ((mxC el xs).2)) A26 S28 (g_assign (by kernel_rfl)) rfl (fun ac A30 => ?_)
  refine wpList_nil ?_
  refine n_then ?_
  refine wp_ret ?_
  refine r_then ?_
  refine m_ret0 A30 ?_
  have S31 := S28.nilRow 36 1
  refine fin2 (.agg #[.int .i64 0, .slice none 0 0]) (.int .i64 ((mxC el xs).2)) Try.results42 A30 S31 (rv_cell (g := g7) (off := 0) 1 (by kernel_rfl) rfl (by kernel_rfl)) (rv_tmp (by kernel_rfl)) ?_
  have bw := S31.kp
  have ow := S31.row 0 rfl
  exact ⟨_, rfl, bw, ow⟩
set_option maxRecDepth 100000 in
set_option maxHeartbeats 400000 in
theorem Transposed_ok (ne n cap : Nat) (ad : Addr) (xs : List Nat) (w0 : World) (hn : xs.length = n) (hr : FReads w0 (some ad) xs) (hm : n ≤ 1000) (hcp : n ≤ cap) (h1 : 1 ≤ ne) (hne : n = ne * ne * 64) (h0 : (mxC (ne : Int) xs).2 = 0) :
    Calls Try.prog 42 #[.agg #[.int .i64 (ne : Int), .slice (some ad) n cap]] w0 fun e w' => ∃ v, e = .returned (.tuple #[.agg #[.int .i64 (ne : Int), v], .int .i64 0]) ∧ Below w0.heap.size w0 w' ∧ w'.ownsRow w0.heap.size 36 1 v (ne * ne * 64) (rowF (fw (trL (mi xs) ne (pairsOf ne)))) := by
  have S0 := St.start w0
  have hR : Right xs := right_of (mxC_0 h0).2.2
  have hpos : 0 < ne * ne := Nat.mul_pos h1 h1
  have hml : (mi xs).length = ne * ne * 64 := by rw [mi_length, hn, hne]
  have hne3 : ne ≤ 3 := by rcases Nat.lt_or_ge 3 ne with q | q; have := Nat.mul_le_mul q q; omega; exact q
  have hee : ne * ne ≤ 15 := by omega
  refine enterM (n := 45) Try.func42 rfl rfl rfl (fun ac A0 => ?_)
  refine wp_seq ?_
  refine wp_region_lit ?_
  refine s_box (.agg #[.int .i64 (ne : Int), .slice (some ad) n cap]) A0 S0 (by kernel_rfl) rfl (fun g3 ac wc A1 S2 => ?_)
  replace S2 : St _ (⟨g3, 30, #[.int .i64 (ne : Int), .slice (some ad) n cap], true⟩ :: _) _ _ := S2
  refine s_alloc (#[.int .i64 0, .slice none 0 0]) A1 S2 (by kernel_rfl) rfl (fun g7 ac wc A5 S6 => ?_)
  refine s_one (.int .i64 0) A5 S6 (g_assign (by kernel_rfl)) rfl (fun ac A8 => ?_)
  refine wpList_nil ?_
  refine n_then ?_
  refine wp_seq ?_
  refine wp_region_lit ?_
  refine s_one (.agg #[.int .i64 (ne : Int), .slice (some ad) n cap]) A8 S6 (g_load (g := g3) (off := 0) 1 (by kernel_rfl) rfl (by kernel_rfl)) rfl (fun ac A9 => ?_)
  refine s_callSt (T := Nat × Nat × Nat) (fs := #[]) (cp := #[]) (r := [(0, .agg #[.int .i64 (ne : Int), .slice (some ad) n cap])]) #[.agg #[.int .i64 (ne : Int), .slice (some ad) n cap]] (fun u => .tuple #[.pointer (some ⟨u.1, 0, none⟩), .int .i64 0]) (fun u => [⟨u.1, 137, #[.int .i64 (ne : Int), .slice (some (Addr.mk u.2.1 0 none)) (ne * ne) u.2.2], true⟩]) (fun u => [⟨.slice (some (Addr.mk u.2.1 0 none)) (ne * ne) u.2.2, 123, 64, (ne * ne), (rowI (mi xs))⟩]) A9 S6 (open_ok ne n cap ad xs _ hn (hr.kept S6.kp) hm hcp h1 hne h0) (fun u x hx => by simp only [List.mem_cons, List.not_mem_nil, or_false] at hx; subst hx; rfl) Try.call72 (by kernel_rfl) (by kernel_rfl) (by kernel_rfl) rfl (fun u16 ac wc A10 S11 => ?_)
  obtain ⟨gm13, gr14, cp15⟩ := u16
  replace S11 : St w0 [⟨gm13, 137, #[.int .i64 (ne : Int), .slice (some (Addr.mk gr14 0 none)) (ne * ne) cp15], true⟩, ⟨g7, 30, #[.int .i64 0, .slice none 0 0], true⟩, ⟨g3, 30, #[.int .i64 (ne : Int), .slice (some ad) n cap], true⟩] [⟨.slice (some (Addr.mk gr14 0 none)) (ne * ne) cp15, 123, 64, (ne * ne), (rowI (mi xs))⟩] _ := S11
  refine s_one (.tuple #[.pointer (some ⟨gm13, 0, none⟩), .int .i64 0]) A10 S11 (g_move (by kernel_rfl)) rfl (fun ac A17 => ?_)
  refine s_one (.pointer (some ⟨gm13, 0, none⟩)) A17 S11 (g_extract (u := .tuple #[.pointer (some ⟨gm13, 0, none⟩), .int .i64 0]) (by kernel_rfl) (fun _ => by kernel_rfl)) rfl (fun ac A18 => ?_)
  refine s_one (.int .i64 0) A18 S11 (g_extract (u := .tuple #[.pointer (some ⟨gm13, 0, none⟩), .int .i64 0]) (by kernel_rfl) (fun _ => by kernel_rfl)) rfl (fun ac A19 => ?_)
  refine s_alloc (#[.pointer none]) A19 S11 (by kernel_rfl) rfl (fun g22 ac wc A20 S21 => ?_)
  refine s_store (g := g22) (off := 0) (v := .pointer (some ⟨gm13, 0, none⟩)) 0 (#[.pointer (some ⟨gm13, 0, none⟩)]) A20 S21 (by kernel_rfl) (by kernel_rfl) rfl (by kernel_rfl) (fun wc S24 => ?_)
  refine s_one (.int .i64 0) A20 S24 (g_assign (by kernel_rfl)) rfl (fun ac A26 => ?_)
  refine wpList_nil ?_
  refine n_then ?_
  refine wp_seq ?_
  refine wp_seq ?_
  refine wp_region_lit ?_
  refine s_one (.int .i64 0) A26 S24 (g_move (by kernel_rfl)) rfl (fun ac A27 => ?_)
  refine s_one (.bool (decide (0 ≠ 0))) A27 S24 (g_bin (u := .int .i64 0) (k := .int .i64 0) (by kernel_rfl) (by kernel_rfl) (fun _ => by kernel_rfl) b_neq) rfl (fun ac A28 => ?_)
  refine wpList_nil ?_
  refine n_then ?_
  refine c_f (b := (decide (0 ≠ 0))) A28 (by kernel_rfl) (by decide) ?_
  refine wp_skip ?_
  refine n_then ?_
  refine wp_seq ?_
  refine wp_region_lit ?_
  refine s_one (.pointer (some ⟨gm13, 0, none⟩)) A28 S24 (g_load (g := g22) (off := 0) 0 (by kernel_rfl) rfl (by kernel_rfl)) rfl (fun ac A29 => ?_)
  refine s_one (.pointer (some ⟨gm13, 0, none⟩)) A29 S24 (g_nil (by kernel_rfl)) rfl (fun ac A30 => ?_)
  refine s_one (.pointer (some ⟨gm13, 0, none⟩)) A30 S24 (g_field (u := .pointer (some ⟨gm13, 0, none⟩)) (by kernel_rfl) (fun _ => by kernel_rfl)) rfl (fun ac A31 => ?_)
  refine s_one (.int .i64 (ne : Int)) A31 S24 (g_load (g := gm13) (off := 0) 1 (by kernel_rfl) rfl (by kernel_rfl)) rfl (fun ac A32 => ?_)
  refine s_one (.agg #[.int .i64 (ne : Int), .slice none 0 0]) A32 S24 (g_build (r := [(0, .int .i64 (ne : Int))]) (by kernel_rfl) (fun _ => by kernel_rfl)) rfl (fun ac A33 => ?_)
  refine s_box (.agg #[.int .i64 (ne : Int), .slice none 0 0]) A33 S24 (by kernel_rfl) rfl (fun g36 ac wc A34 S35 => ?_)
  replace S35 : St _ (⟨g36, 137, #[.int .i64 (ne : Int), .slice none 0 0], true⟩ :: _) _ _ := S35
  refine s_alloc (#[.pointer none]) A34 S35 (by kernel_rfl) rfl (fun g40 ac wc A38 S39 => ?_)
  refine s_store (g := g40) (off := 0) (v := .pointer (some ⟨g36, 0, none⟩)) 0 (#[.pointer (some ⟨g36, 0, none⟩)]) A38 S39 (by kernel_rfl) (by kernel_rfl) rfl (by kernel_rfl) (fun wc S42 => ?_)
  refine wpList_nil ?_
  refine n_then ?_
  refine wp_seq ?_
  refine wp_seq ?_
  refine wp_region_lit ?_
  refine s_one (.pointer (some ⟨gm13, 0, none⟩)) A38 S42 (g_load (g := g22) (off := 0) 2 (by kernel_rfl) rfl (by kernel_rfl)) rfl (fun ac A44 => ?_)
  refine s_one (.func (.func 86) #[.pointer (some ⟨gm13, 0, none⟩)] #[]) A44 S42 (g_func (us := [(0, .pointer (some ⟨gm13, 0, none⟩))]) (vs := []) (by kernel_rfl) (by kernel_rfl) (fun _ => by kernel_rfl)) rfl (fun ac A45 => ?_)
  refine wpList_nil ?_
  refine n_then ?_
  refine wp_block ?_
  refine c_range (α := Nat × Nat) (gf := 86) (fs := #[.pointer (some ⟨gm13, 0, none⟩)]) (lb := #[]) (encs := fun x => #[.int .i64 (x.1 : Int), .int .i64 (x.2 : Int)]) (G := [⟨gm13, 137, #[.int .i64 (ne : Int), .slice (some (Addr.mk gr14 0 none)) (ne * ne) cp15], true⟩]) (xs := pairsOf ne) A45 S42 (by kernel_rfl) Try.call86 (List.forall_mem_cons.2 ⟨S42.get 3 rfl, (List.forall_mem_nil _)⟩) (all_seq gm13 ne (.slice (some (Addr.mk gr14 0 none)) (ne * ne) cp15) true (by omega)) (fun _ => rfl) (fun x => [(26, .int .i64 (x.1 : Int)), (27, .int .i64 (x.2 : Int))]) (fun _ => (by first | rfl | simp)) (fun _ => (List.forall_mem_cons.2 ⟨(show 26 < 45 by decide), (List.forall_mem_cons.2 ⟨(show 27 < 45 by decide), (List.forall_mem_nil _)⟩)⟩)) (fun pre W => ∃ (v : Value), St w0 [⟨g40, 130, #[.pointer (some ⟨g36, 0, none⟩)], true⟩, ⟨g36, 137, #[.int .i64 (ne : Int), v], true⟩, ⟨g22, 130, #[.pointer (some ⟨gm13, 0, none⟩)], true⟩, ⟨gm13, 137, #[.int .i64 (ne : Int), .slice (some (Addr.mk gr14 0 none)) (ne * ne) cp15], true⟩, ⟨g7, 30, #[.int .i64 0, .slice none 0 0], true⟩, ⟨g3, 30, #[.int .i64 (ne : Int), .slice (some ad) n cap], true⟩] [⟨v, 123, 64, pre.length, (rowI (trL (mi xs) ne pre))⟩, ⟨.slice (some (Addr.mk gr14 0 none)) (ne * ne) cp15, 123, 64, (ne * ne), (rowI (mi xs))⟩] W) (fun _ _ => False) ?_ ?_ ?_ ?_ (fun x => [(7, .int .i64 (x.1 : Int)), (8, .int .i64 (x.2 : Int)), (26, .int .i64 (x.1 : Int)), (27, .int .i64 (x.2 : Int)), (0, .agg #[.int .i64 (ne : Int), .slice (some ad) n cap]), (1, .pointer (some ⟨g3, 0, none⟩)), (2, .pointer (some ⟨g7, 0, none⟩)), (3, .int .i64 0), (10, .agg #[.int .i64 (ne : Int), .slice (some ad) n cap]), (11, .tuple #[.pointer (some ⟨gm13, 0, none⟩), .int .i64 0]), (9, .tuple #[.pointer (some ⟨gm13, 0, none⟩), .int .i64 0]), (12, .pointer (some ⟨gm13, 0, none⟩)), (13, .int .i64 0), (4, .pointer (some ⟨g22, 0, none⟩)), (5, .int .i64 0), (14, .int .i64 0), (15, .bool (decide (0 ≠ 0))), (18, .pointer (some ⟨gm13, 0, none⟩)), (19, .pointer (some ⟨gm13, 0, none⟩)), (20, .pointer (some ⟨gm13, 0, none⟩)), (21, .int .i64 (ne : Int)), (22, .agg #[.int .i64 (ne : Int), .slice none 0 0]), (23, .pointer (some ⟨g36, 0, none⟩)), (6, .pointer (some ⟨g40, 0, none⟩)), (24, .pointer (some ⟨gm13, 0, none⟩)), (25, .func (.func 86) #[.pointer (some ⟨gm13, 0, none⟩)] #[])]) ?_ ?_ ?_ ?_
  · rintro pre W W' row ⟨v, hS⟩ hg hr
    exact ⟨v, St.round hS hg hr⟩
  · rintro pre W W' ⟨v, hS⟩ hb
    exact ⟨v, hS.kept hb⟩
  · exact fun _ _ _ _ h _ _ => h
  · have S46 := S42.nilRow 123 64
    exact ⟨.slice none 0 0, (St.rerow 0 (St.recell 1 S46 rfl (by rfl)) rfl ⟨rfl, rfl⟩).sub sub_all sub_all⟩
  · intro lz x a' WA K HA HK
    have SA := St.start WA
    replace HA : Fr 45 a' [(27, .int .i64 (x.2 : Int)), (26, .int .i64 (x.1 : Int)), (0, .agg #[.int .i64 (ne : Int), .slice (some ad) n cap]), (1, .pointer (some ⟨g3, 0, none⟩)), (2, .pointer (some ⟨g7, 0, none⟩)), (3, .int .i64 0), (10, .agg #[.int .i64 (ne : Int), .slice (some ad) n cap]), (11, .tuple #[.pointer (some ⟨gm13, 0, none⟩), .int .i64 0]), (9, .tuple #[.pointer (some ⟨gm13, 0, none⟩), .int .i64 0]), (12, .pointer (some ⟨gm13, 0, none⟩)), (13, .int .i64 0), (4, .pointer (some ⟨g22, 0, none⟩)), (5, .int .i64 0), (14, .int .i64 0), (15, .bool (decide (0 ≠ 0))), (18, .pointer (some ⟨gm13, 0, none⟩)), (19, .pointer (some ⟨gm13, 0, none⟩)), (20, .pointer (some ⟨gm13, 0, none⟩)), (21, .int .i64 (ne : Int)), (22, .agg #[.int .i64 (ne : Int), .slice none 0 0]), (23, .pointer (some ⟨g36, 0, none⟩)), (6, .pointer (some ⟨g40, 0, none⟩)), (24, .pointer (some ⟨gm13, 0, none⟩)), (25, .func (.func 86) #[.pointer (some ⟨gm13, 0, none⟩)] #[])] := (HA.slot (HA.slot (HA.slot (HA.slot (HA.slot (HA.slot (HA.slot (HA.slot (HA.slot (HA.slot (HA.slot (HA.slot (HA.slot (HA.slot (HA.slot (HA.slot (HA.slot (HA.slot (HA.slot (HA.slot (HA.slot (HA.slot (HA.slot (HA.slot HA.nil (v := .func (.func 86) #[.pointer (some ⟨gm13, 0, none⟩)] #[]) (by kernel_rfl) rfl) (v := .pointer (some ⟨gm13, 0, none⟩)) (by kernel_rfl) rfl) (v := .pointer (some ⟨g40, 0, none⟩)) (by kernel_rfl) rfl) (v := .pointer (some ⟨g36, 0, none⟩)) (by kernel_rfl) rfl) (v := .agg #[.int .i64 (ne : Int), .slice none 0 0]) (by kernel_rfl) rfl) (v := .int .i64 (ne : Int)) (by kernel_rfl) rfl) (v := .pointer (some ⟨gm13, 0, none⟩)) (by kernel_rfl) rfl) (v := .pointer (some ⟨gm13, 0, none⟩)) (by kernel_rfl) rfl) (v := .pointer (some ⟨gm13, 0, none⟩)) (by kernel_rfl) rfl) (v := .bool (decide (0 ≠ 0))) (by kernel_rfl) rfl) (v := .int .i64 0) (by kernel_rfl) rfl) (v := .int .i64 0) (by kernel_rfl) rfl) (v := .pointer (some ⟨g22, 0, none⟩)) (by kernel_rfl) rfl) (v := .int .i64 0) (by kernel_rfl) rfl) (v := .pointer (some ⟨gm13, 0, none⟩)) (by kernel_rfl) rfl) (v := .tuple #[.pointer (some ⟨gm13, 0, none⟩), .int .i64 0]) (by kernel_rfl) rfl) (v := .tuple #[.pointer (some ⟨gm13, 0, none⟩), .int .i64 0]) (by kernel_rfl) rfl) (v := .agg #[.int .i64 (ne : Int), .slice (some ad) n cap]) (by kernel_rfl) rfl) (v := .int .i64 0) (by kernel_rfl) rfl) (v := .pointer (some ⟨g7, 0, none⟩)) (by kernel_rfl) rfl) (v := .pointer (some ⟨g3, 0, none⟩)) (by kernel_rfl) rfl) (v := .agg #[.int .i64 (ne : Int), .slice (some ad) n cap]) (by kernel_rfl) rfl) (v := .int .i64 (x.1 : Int)) (by kernel_rfl) rfl) (v := .int .i64 (x.2 : Int)) (by kernel_rfl) rfl)
    refine wpIn_seq ?_
    refine i_region (noOut_then noOut_assign) (by kernel_rfl) ?_
    refine s_one (.int .i64 (x.1 : Int)) HA SA (g_assign (by kernel_rfl)) rfl (fun ac A47 => ?_)
    refine wpList_nil ?_
    refine n_then ?_
    refine i_region noOut_assign (by kernel_rfl) ?_
    refine s_one (.int .i64 (x.2 : Int)) A47 SA (g_assign (by kernel_rfl)) rfl (fun ac A48 => ?_)
    refine wpList_nil ?_
    refine n_then ?_
    exact HK _ (A48.slot (A48.slot (A48.slot (A48.slot (A48.slot (A48.slot (A48.slot (A48.slot (A48.slot (A48.slot (A48.slot (A48.slot (A48.slot (A48.slot (A48.slot (A48.slot (A48.slot (A48.slot (A48.slot (A48.slot (A48.slot (A48.slot (A48.slot (A48.slot (A48.slot (A48.slot A48.nil (v := .func (.func 86) #[.pointer (some ⟨gm13, 0, none⟩)] #[]) (by kernel_rfl) rfl) (v := .pointer (some ⟨gm13, 0, none⟩)) (by kernel_rfl) rfl) (v := .pointer (some ⟨g40, 0, none⟩)) (by kernel_rfl) rfl) (v := .pointer (some ⟨g36, 0, none⟩)) (by kernel_rfl) rfl) (v := .agg #[.int .i64 (ne : Int), .slice none 0 0]) (by kernel_rfl) rfl) (v := .int .i64 (ne : Int)) (by kernel_rfl) rfl) (v := .pointer (some ⟨gm13, 0, none⟩)) (by kernel_rfl) rfl) (v := .pointer (some ⟨gm13, 0, none⟩)) (by kernel_rfl) rfl) (v := .pointer (some ⟨gm13, 0, none⟩)) (by kernel_rfl) rfl) (v := .bool (decide (0 ≠ 0))) (by kernel_rfl) rfl) (v := .int .i64 0) (by kernel_rfl) rfl) (v := .int .i64 0) (by kernel_rfl) rfl) (v := .pointer (some ⟨g22, 0, none⟩)) (by kernel_rfl) rfl) (v := .int .i64 0) (by kernel_rfl) rfl) (v := .pointer (some ⟨gm13, 0, none⟩)) (by kernel_rfl) rfl) (v := .tuple #[.pointer (some ⟨gm13, 0, none⟩), .int .i64 0]) (by kernel_rfl) rfl) (v := .tuple #[.pointer (some ⟨gm13, 0, none⟩), .int .i64 0]) (by kernel_rfl) rfl) (v := .agg #[.int .i64 (ne : Int), .slice (some ad) n cap]) (by kernel_rfl) rfl) (v := .int .i64 0) (by kernel_rfl) rfl) (v := .pointer (some ⟨g7, 0, none⟩)) (by kernel_rfl) rfl) (v := .pointer (some ⟨g3, 0, none⟩)) (by kernel_rfl) rfl) (v := .agg #[.int .i64 (ne : Int), .slice (some ad) n cap]) (by kernel_rfl) rfl) (v := .int .i64 (x.2 : Int)) (by kernel_rfl) rfl) (v := .int .i64 (x.1 : Int)) (by kernel_rfl) rfl) (v := .int .i64 (x.2 : Int)) (by kernel_rfl) rfl) (v := .int .i64 (x.1 : Int)) (by kernel_rfl) rfl)
  · rintro lz pre x rest a' WB49 hx ⟨v, hS⟩ HA
    have SB50 := St.begin hS
    obtain ⟨hx1, hx2, hx3⟩ := pairs_next hx
    have hxk : x.1 * ne + x.2 < ne * ne := pair_lt hx1 hx2
    have hxr : x.2 * ne + x.1 < ne * ne := pair_lt hx2 hx1
    have hpl := pre_len hx
    refine wpIn_block ?_
    refine i_begin (w0 := ⟨w0, WB49⟩) (by kernel_rfl) (noOut_block noOut_body) (by kernel_rfl) (SB50.sub (sub_keep (sub_skip sub_all)) sub_nil) (fun wc T51 B52 => ?_)
    have S53 := SB50.kept B52
    refine r_take 0 (.pointer (some ⟨g36, 0, none⟩)) HA T51 (g_load (g := g40) (off := 0) 0 (by kernel_rfl) rfl (by kernel_rfl)) rfl rfl rfl (pf_block pf_round) (by kernel_rfl) (fun ac A54 => ?_)
    refine r_take 1 (.pointer (some ⟨g36, 0, none⟩)) A54 T51 (g_load (g := g40) (off := 0) 0 (by kernel_rfl) rfl (by kernel_rfl)) rfl rfl rfl (pf_block pf_round) (by kernel_rfl) (fun ac A55 => ?_)
    refine r_take 2 (.pointer (some ⟨g36, 0, none⟩)) A55 T51 (g_nil (by kernel_rfl)) rfl rfl rfl (pf_block pf_round) (by kernel_rfl) (fun ac A56 => ?_)
    refine r_take 3 (.pointer (some ⟨g36, 1, none⟩)) A56 T51 (g_field (u := .pointer (some ⟨g36, 0, none⟩)) (by kernel_rfl) (fun _ => by kernel_rfl)) rfl rfl rfl (pf_block pf_round) (by kernel_rfl) (fun ac A57 => ?_)
    refine r_take 5 (.pointer (some ⟨gm13, 0, none⟩)) A57 T51 (g_load (g := g22) (off := 0) 1 (by kernel_rfl) rfl (by kernel_rfl)) rfl rfl rfl (pf_block pf_round) (by kernel_rfl) (fun ac A58 => ?_)
    refine r_take 6 (.int .i64 (x.2 : Int)) A58 T51 (g_move (by kernel_rfl)) rfl rfl rfl (pf_block pf_round) (by kernel_rfl) (fun ac A59 => ?_)
    refine r_take 7 (.int .i64 (x.1 : Int)) A59 T51 (g_move (by kernel_rfl)) rfl rfl rfl (pf_block pf_round) (by kernel_rfl) (fun ac A60 => ?_)
    refine r_2 (i := 4) (j := 8) (by kernel_rfl) ?_ ?_
    · refine rs_gives (v) A60 S53 (sub_keep (sub_skip sub_all)) sub_nil (g_load (g := g36) (off := 1) 1 (by kernel_rfl) rfl (by kernel_rfl)) rfl rfl rfl (fun ac A61 => ?_)
      refine r_1 (i := 8) (by kernel_rfl) ?_
      refine rs_call (fs := #[]) (cp := #[]) (r := [(0, .pointer (some ⟨gm13, 0, none⟩)), (0, .int .i64 (x.2 : Int)), (0, .int .i64 (x.1 : Int))]) #[.pointer (some ⟨gm13, 0, none⟩), .int .i64 (x.2 : Int), .int .i64 (x.1 : Int)] (.pointer (some ((Addr.mk gr14 0 none).add ((x.2 * ne + x.1) * 64)))) A61 S53 (sub_keep (sub_skip sub_all)) sub_nil (mat_at gm13 ne (ne * ne) cp15 x.2 x.1 (Addr.mk gr14 0 none) (mi xs) _ (S53.get 3 rfl) (by have hlen := hml; omega) hxr (by omega)) Try.call73 rfl rfl (by kernel_rfl) (by kernel_rfl) (by kernel_rfl) rfl (fun ac wc A65 S66 => ?_)
      have T68 := S66.sub (sub_keep (sub_skip sub_all)) sub_nil
      refine r_take 9 (.pointer (some ((Addr.mk gr14 0 none).add ((x.2 * ne + x.1) * 64)))) A65 T68 (g_nil (by kernel_rfl)) rfl rfl rfl (pf_block pf_round) (by kernel_rfl) (fun ac A69 => ?_)
      refine r_1 (i := 10) (by kernel_rfl) ?_
      refine rs_gives (.agg (ints (cutN (mi xs) ((x.2 * ne + x.1) * 64) 64))) A69 S66 (sub_keep (sub_skip sub_all)) sub_nil (g_loadRN (l := mi xs) (k := (x.2 * ne + x.1) * 64) 1 64 (by kernel_rfl) rfl (by have hlen := hml; omega) (by kernel_rfl)) rfl rfl rfl (fun ac A70 => ?_)
      refine r_1 (i := 11) (by kernel_rfl) ?_
      refine rs_bs (e := 123) (r := [(0, .agg (ints (cutN (mi xs) ((x.2 * ne + x.1) * 64) 64)))]) (ints (cutN (mi xs) ((x.2 * ne + x.1) * 64) 64)) A70 S66 (sub_keep (sub_skip sub_all)) sub_nil (by kernel_rfl) (bsRow_one (bytes := 512) (by kernel_rfl) ((ints_size _).trans (cutN_length _ _ _)) (by decide)) rfl rfl rfl (fun g76 ac wc A74 S75 => ?_)
      have T77 := S75.sub (sub_skip (sub_keep (sub_skip sub_all))) sub_nil
      refine r_1 (i := 12) (by kernel_rfl) ?_
      refine rs_append (e := 123) (size := 64) (bytes := 512) (v := v) (g := g76) (m' := 1) (c := 1) 0 0 (rowI (cutN (mi xs) ((x.2 * ne + x.1) * 64) 64)) A74 S75 (sub_skip (sub_keep (sub_skip sub_all))) (fun _ => sub_nil) (by kernel_rfl) (by kernel_rfl) (by kernel_rfl) rfl rfl (take_rowI (cutN_length _ _ _)) (ble_ints (cutN_length _ _ _)) (rowI_one _) (by omega) (by omega) rfl rfl rfl (fun v80 ac wc A78 S79 => ?_)
      obtain ⟨A81, cap82, rfl⟩ := row_slice (v := v80) (m := pre.length + 1) (S79.row 0 rfl)
      have T83 := S79.sub (sub_skip (sub_keep (sub_skip sub_all))) sub_nil
      refine r_take 13 (.pointer (some ⟨g36, 0, none⟩)) A78 T83 (g_nil (by kernel_rfl)) rfl rfl rfl (pf_block pf_round) (by kernel_rfl) (fun ac A84 => ?_)
      refine r_take 14 (.pointer (some ⟨g36, 1, none⟩)) A84 T83 (g_field (u := .pointer (some ⟨g36, 0, none⟩)) (by kernel_rfl) (fun _ => by kernel_rfl)) rfl rfl rfl (pf_block pf_round) (by kernel_rfl) (fun ac A85 => ?_)
      refine r_1 (i := 15) (by kernel_rfl) ?_
      refine rs_store (g := g36) (off := 1) (v := .slice A81 (pre.length + 1) cap82) 2 (#[.int .i64 (ne : Int), .slice A81 (pre.length + 1) cap82]) A85 S79 (sub_skip (sub_keep (sub_skip sub_all))) sub_nil (by kernel_rfl) (by kernel_rfl) rfl (by kernel_rfl) rfl rfl (fun wc S87 => ?_)
      have T89 := S87.sub (sub_skip (sub_keep (sub_skip sub_all))) sub_nil
      refine r_done (by kernel_rfl) ?_
      refine n_block ?_
      refine r_end (w0 := w0) S87 (KpG.cons (S87.get 4 rfl) KpG.nil) (fun SE => ?_)
      exact ⟨.slice A81 (pre.length + 1) cap82, (St.rerow 0 (St.recell 2 SE rfl (by rfl)) rfl ⟨by simp, trL_snoc⟩).sub (sub_skip sub_all) sub_all⟩
    · refine rs_call (fs := #[]) (cp := #[]) (r := [(0, .pointer (some ⟨gm13, 0, none⟩)), (0, .int .i64 (x.2 : Int)), (0, .int .i64 (x.1 : Int))]) #[.pointer (some ⟨gm13, 0, none⟩), .int .i64 (x.2 : Int), .int .i64 (x.1 : Int)] (.pointer (some ((Addr.mk gr14 0 none).add ((x.2 * ne + x.1) * 64)))) A60 S53 (sub_keep (sub_skip sub_all)) sub_nil (mat_at gm13 ne (ne * ne) cp15 x.2 x.1 (Addr.mk gr14 0 none) (mi xs) _ (S53.get 3 rfl) (by have hlen := hml; omega) hxr (by omega)) Try.call73 rfl rfl (by kernel_rfl) (by kernel_rfl) (by kernel_rfl) rfl (fun ac wc A90 S91 => ?_)
      have T93 := S91.sub (sub_keep (sub_skip sub_all)) sub_nil
      refine r_take 9 (.pointer (some ((Addr.mk gr14 0 none).add ((x.2 * ne + x.1) * 64)))) A90 T93 (g_nil (by kernel_rfl)) rfl rfl rfl (pf_block pf_round) (by kernel_rfl) (fun ac A94 => ?_)
      refine r_2 (i := 4) (j := 10) (by kernel_rfl) ?_ ?_
      · refine rs_gives (v) A94 S91 (sub_keep (sub_skip sub_all)) sub_nil (g_load (g := g36) (off := 1) 1 (by kernel_rfl) rfl (by kernel_rfl)) rfl rfl rfl (fun ac A95 => ?_)
        refine r_1 (i := 10) (by kernel_rfl) ?_
        refine rs_gives (.agg (ints (cutN (mi xs) ((x.2 * ne + x.1) * 64) 64))) A95 S91 (sub_keep (sub_skip sub_all)) sub_nil (g_loadRN (l := mi xs) (k := (x.2 * ne + x.1) * 64) 1 64 (by kernel_rfl) rfl (by have hlen := hml; omega) (by kernel_rfl)) rfl rfl rfl (fun ac A99 => ?_)
        refine r_1 (i := 11) (by kernel_rfl) ?_
        refine rs_bs (e := 123) (r := [(0, .agg (ints (cutN (mi xs) ((x.2 * ne + x.1) * 64) 64)))]) (ints (cutN (mi xs) ((x.2 * ne + x.1) * 64) 64)) A99 S91 (sub_keep (sub_skip sub_all)) sub_nil (by kernel_rfl) (bsRow_one (bytes := 512) (by kernel_rfl) ((ints_size _).trans (cutN_length _ _ _)) (by decide)) rfl rfl rfl (fun g105 ac wc A103 S104 => ?_)
        have T106 := S104.sub (sub_skip (sub_keep (sub_skip sub_all))) sub_nil
        refine r_1 (i := 12) (by kernel_rfl) ?_
        refine rs_append (e := 123) (size := 64) (bytes := 512) (v := v) (g := g105) (m' := 1) (c := 1) 0 0 (rowI (cutN (mi xs) ((x.2 * ne + x.1) * 64) 64)) A103 S104 (sub_skip (sub_keep (sub_skip sub_all))) (fun _ => sub_nil) (by kernel_rfl) (by kernel_rfl) (by kernel_rfl) rfl rfl (take_rowI (cutN_length _ _ _)) (ble_ints (cutN_length _ _ _)) (rowI_one _) (by omega) (by omega) rfl rfl rfl (fun v109 ac wc A107 S108 => ?_)
        obtain ⟨A110, cap111, rfl⟩ := row_slice (v := v109) (m := pre.length + 1) (S108.row 0 rfl)
        have T112 := S108.sub (sub_skip (sub_keep (sub_skip sub_all))) sub_nil
        refine r_take 13 (.pointer (some ⟨g36, 0, none⟩)) A107 T112 (g_nil (by kernel_rfl)) rfl rfl rfl (pf_block pf_round) (by kernel_rfl) (fun ac A113 => ?_)
        refine r_take 14 (.pointer (some ⟨g36, 1, none⟩)) A113 T112 (g_field (u := .pointer (some ⟨g36, 0, none⟩)) (by kernel_rfl) (fun _ => by kernel_rfl)) rfl rfl rfl (pf_block pf_round) (by kernel_rfl) (fun ac A114 => ?_)
        refine r_1 (i := 15) (by kernel_rfl) ?_
        refine rs_store (g := g36) (off := 1) (v := .slice A110 (pre.length + 1) cap111) 2 (#[.int .i64 (ne : Int), .slice A110 (pre.length + 1) cap111]) A114 S108 (sub_skip (sub_keep (sub_skip sub_all))) sub_nil (by kernel_rfl) (by kernel_rfl) rfl (by kernel_rfl) rfl rfl (fun wc S116 => ?_)
        have T118 := S116.sub (sub_skip (sub_keep (sub_skip sub_all))) sub_nil
        refine r_done (by kernel_rfl) ?_
        refine n_block ?_
        refine r_end (w0 := w0) S116 (KpG.cons (S116.get 4 rfl) KpG.nil) (fun SE => ?_)
        exact ⟨.slice A110 (pre.length + 1) cap111, (St.rerow 0 (St.recell 2 SE rfl (by rfl)) rfl ⟨by simp, trL_snoc⟩).sub (sub_skip sub_all) sub_all⟩
      · refine rs_gives (.agg (ints (cutN (mi xs) ((x.2 * ne + x.1) * 64) 64))) A94 S91 (sub_keep (sub_skip sub_all)) sub_nil (g_loadRN (l := mi xs) (k := (x.2 * ne + x.1) * 64) 1 64 (by kernel_rfl) rfl (by have hlen := hml; omega) (by kernel_rfl)) rfl rfl rfl (fun ac A119 => ?_)
        refine r_2 (i := 4) (j := 11) (by kernel_rfl) ?_ ?_
        · refine rs_gives (v) A119 S91 (sub_keep (sub_skip sub_all)) sub_nil (g_load (g := g36) (off := 1) 1 (by kernel_rfl) rfl (by kernel_rfl)) rfl rfl rfl (fun ac A123 => ?_)
          refine r_1 (i := 11) (by kernel_rfl) ?_
          refine rs_bs (e := 123) (r := [(0, .agg (ints (cutN (mi xs) ((x.2 * ne + x.1) * 64) 64)))]) (ints (cutN (mi xs) ((x.2 * ne + x.1) * 64) 64)) A123 S91 (sub_keep (sub_skip sub_all)) sub_nil (by kernel_rfl) (bsRow_one (bytes := 512) (by kernel_rfl) ((ints_size _).trans (cutN_length _ _ _)) (by decide)) rfl rfl rfl (fun g129 ac wc A127 S128 => ?_)
          have T130 := S128.sub (sub_skip (sub_keep (sub_skip sub_all))) sub_nil
          refine r_1 (i := 12) (by kernel_rfl) ?_
          refine rs_append (e := 123) (size := 64) (bytes := 512) (v := v) (g := g129) (m' := 1) (c := 1) 0 0 (rowI (cutN (mi xs) ((x.2 * ne + x.1) * 64) 64)) A127 S128 (sub_skip (sub_keep (sub_skip sub_all))) (fun _ => sub_nil) (by kernel_rfl) (by kernel_rfl) (by kernel_rfl) rfl rfl (take_rowI (cutN_length _ _ _)) (ble_ints (cutN_length _ _ _)) (rowI_one _) (by omega) (by omega) rfl rfl rfl (fun v133 ac wc A131 S132 => ?_)
          obtain ⟨A134, cap135, rfl⟩ := row_slice (v := v133) (m := pre.length + 1) (S132.row 0 rfl)
          have T136 := S132.sub (sub_skip (sub_keep (sub_skip sub_all))) sub_nil
          refine r_take 13 (.pointer (some ⟨g36, 0, none⟩)) A131 T136 (g_nil (by kernel_rfl)) rfl rfl rfl (pf_block pf_round) (by kernel_rfl) (fun ac A137 => ?_)
          refine r_take 14 (.pointer (some ⟨g36, 1, none⟩)) A137 T136 (g_field (u := .pointer (some ⟨g36, 0, none⟩)) (by kernel_rfl) (fun _ => by kernel_rfl)) rfl rfl rfl (pf_block pf_round) (by kernel_rfl) (fun ac A138 => ?_)
          refine r_1 (i := 15) (by kernel_rfl) ?_
          refine rs_store (g := g36) (off := 1) (v := .slice A134 (pre.length + 1) cap135) 2 (#[.int .i64 (ne : Int), .slice A134 (pre.length + 1) cap135]) A138 S132 (sub_skip (sub_keep (sub_skip sub_all))) sub_nil (by kernel_rfl) (by kernel_rfl) rfl (by kernel_rfl) rfl rfl (fun wc S140 => ?_)
          have T142 := S140.sub (sub_skip (sub_keep (sub_skip sub_all))) sub_nil
          refine r_done (by kernel_rfl) ?_
          refine n_block ?_
          refine r_end (w0 := w0) S140 (KpG.cons (S140.get 4 rfl) KpG.nil) (fun SE => ?_)
          exact ⟨.slice A134 (pre.length + 1) cap135, (St.rerow 0 (St.recell 2 SE rfl (by rfl)) rfl ⟨by simp, trL_snoc⟩).sub (sub_skip sub_all) sub_all⟩
        · refine rs_bs (e := 123) (r := [(0, .agg (ints (cutN (mi xs) ((x.2 * ne + x.1) * 64) 64)))]) (ints (cutN (mi xs) ((x.2 * ne + x.1) * 64) 64)) A119 S91 (sub_keep (sub_skip sub_all)) sub_nil (by kernel_rfl) (bsRow_one (bytes := 512) (by kernel_rfl) ((ints_size _).trans (cutN_length _ _ _)) (by decide)) rfl rfl rfl (fun g145 ac wc A143 S144 => ?_)
          have T146 := S144.sub (sub_skip (sub_keep (sub_skip sub_all))) sub_nil
          refine r_1 (i := 4) (by kernel_rfl) ?_
          refine rs_gives (v) A143 S144 (sub_skip (sub_keep (sub_skip sub_all))) sub_nil (g_load (g := g36) (off := 1) 2 (by kernel_rfl) rfl (by kernel_rfl)) rfl rfl rfl (fun ac A147 => ?_)
          refine r_1 (i := 12) (by kernel_rfl) ?_
          refine rs_append (e := 123) (size := 64) (bytes := 512) (v := v) (g := g145) (m' := 1) (c := 1) 0 0 (rowI (cutN (mi xs) ((x.2 * ne + x.1) * 64) 64)) A147 S144 (sub_skip (sub_keep (sub_skip sub_all))) (fun _ => sub_nil) (by kernel_rfl) (by kernel_rfl) (by kernel_rfl) rfl rfl (take_rowI (cutN_length _ _ _)) (ble_ints (cutN_length _ _ _)) (rowI_one _) (by omega) (by omega) rfl rfl rfl (fun v153 ac wc A151 S152 => ?_)
          obtain ⟨A154, cap155, rfl⟩ := row_slice (v := v153) (m := pre.length + 1) (S152.row 0 rfl)
          have T156 := S152.sub (sub_skip (sub_keep (sub_skip sub_all))) sub_nil
          refine r_take 13 (.pointer (some ⟨g36, 0, none⟩)) A151 T156 (g_nil (by kernel_rfl)) rfl rfl rfl (pf_block pf_round) (by kernel_rfl) (fun ac A157 => ?_)
          refine r_take 14 (.pointer (some ⟨g36, 1, none⟩)) A157 T156 (g_field (u := .pointer (some ⟨g36, 0, none⟩)) (by kernel_rfl) (fun _ => by kernel_rfl)) rfl rfl rfl (pf_block pf_round) (by kernel_rfl) (fun ac A158 => ?_)
          refine r_1 (i := 15) (by kernel_rfl) ?_
          refine rs_store (g := g36) (off := 1) (v := .slice A154 (pre.length + 1) cap155) 2 (#[.int .i64 (ne : Int), .slice A154 (pre.length + 1) cap155]) A158 S152 (sub_skip (sub_keep (sub_skip sub_all))) sub_nil (by kernel_rfl) (by kernel_rfl) rfl (by kernel_rfl) rfl rfl (fun wc S160 => ?_)
          have T162 := S160.sub (sub_skip (sub_keep (sub_skip sub_all))) sub_nil
          refine r_done (by kernel_rfl) ?_
          refine n_block ?_
          refine r_end (w0 := w0) S160 (KpG.cons (S160.get 4 rfl) KpG.nil) (fun SE => ?_)
          exact ⟨.slice A154 (pre.length + 1) cap155, (St.rerow 0 (St.recell 2 SE rfl (by rfl)) rfl ⟨by simp, trL_snoc⟩).sub (sub_skip sub_all) sub_all⟩
  · rintro D163 a' WD164 hD165 ⟨v, hS⟩ hK166 HA167
    have SD168 := St.begin hS
    have SR : St ⟨w0, WD164⟩ [⟨g40, 130, #[.pointer (some ⟨g36, 0, none⟩)], true⟩, ⟨g36, 137, #[.int .i64 (ne : Int), v], true⟩, ⟨g22, 130, #[.pointer (some ⟨gm13, 0, none⟩)], true⟩, ⟨gm13, 137, #[.int .i64 (ne : Int), .slice (some (Addr.mk gr14 0 none)) (ne * ne) cp15], true⟩, ⟨g7, 30, #[.int .i64 0, .slice none 0 0], true⟩, ⟨g3, 30, #[.int .i64 (ne : Int), .slice (some ad) n cap], true⟩] [⟨v, 123, 64, (ne * ne), (rowI (trL (mi xs) ne (pairsOf ne)))⟩, ⟨.slice (some (Addr.mk gr14 0 none)) (ne * ne) cp15, 123, 64, (ne * ne), (rowI (mi xs))⟩] _ := St.rerow 0 SD168 rfl ⟨pairs_len ne, rfl⟩
    obtain ⟨g3, cp3, rfl⟩ := row_some (v := v) (m := ne * ne) (St.row SR 0 rfl) hpos
    have htl : (trL (mi xs) ne (pairsOf ne)).length = ne * ne * 64 := by rw [trL_length, pairs_len]
    refine n_block ?_
    refine n_then ?_
    refine wp_seq ?_
    refine wp_region_lit ?_
    refine s_one (.pointer (some ⟨g36, 0, none⟩)) HA167 SR (g_load (g := g40) (off := 0) 0 (by kernel_rfl) rfl (by kernel_rfl)) rfl (fun ac A169 => ?_)
    refine s_callRF (fs := #[]) (cp := #[]) (r := [(0, .pointer (some ⟨g36, 0, none⟩))]) (fun v => .agg #[.int .i64 (ne : Int), v]) #[.pointer (some ⟨g36, 0, none⟩)] A169 SR (full_s g36 ne (ne * ne) cp3 (Addr.mk g3 0 none) (trL (mi xs) ne (pairsOf ne)) _ (SR.get 1 rfl) (by have hlen := htl; omega) (row_ir (SR.row 0 rfl)) (by omega)) Try.call74 (by kernel_rfl) (by kernel_rfl) (by kernel_rfl) rfl (fun v173 ac wc A170 S171 => ?_)
    obtain ⟨hl174, A175, cap176, rfl, hc177, hr178⟩ := rowF_reads (v := v173) (m := ((ne * ne) * 64)) (l := fw (trL (mi xs) ne (pairsOf ne))) (S171.row 0 rfl)
    refine s_store (g := g7) (off := 0) (v := .agg #[.int .i64 (ne : Int), .slice A175 ((ne * ne) * 64) cap176]) 4 (#[.int .i64 (ne : Int), .slice A175 ((ne * ne) * 64) cap176]) A170 S171 (by kernel_rfl) (by kernel_rfl) rfl (by kernel_rfl) (fun wc S180 => ?_)
    refine s_one (.int .i64 0) A170 S180 (g_assign (by kernel_rfl)) rfl (fun ac A182 => ?_)
    refine wpList_nil ?_
    refine n_then ?_
    refine wp_ret ?_
    refine m_ret (w0 := w0) A182 S180 hK166 hD165 (fun ac wc A183 S184 => ?_)
    refine fin2 (.agg #[.int .i64 (ne : Int), .slice A175 ((ne * ne) * 64) cap176]) (.int .i64 0) Try.results42 A183 S184 (rv_cell (g := g7) (off := 0) 4 (by kernel_rfl) rfl (by kernel_rfl)) (rv_tmp (by kernel_rfl)) ?_
    have bw := S184.kp
    have ow := S184.row 0 rfl
    exact ⟨_, rfl, bw, ow⟩
  · exact fun _ _ _ _ _ h => h.elim
theorem range_app {l k : List Int} (h : ∀ i, -2047 ≤ nthI l i ∧ nthI l i ≤ 2047) (h2 : ∀ i, -2047 ≤ nthI k i ∧ nthI k i ≤ 2047) : ∀ i, -2047 ≤ nthI (l ++ k) i ∧ nthI (l ++ k) i ≤ 2047 := by
  intro i
  by_cases q : i < l.length
  · have := h i
    unfold nthI at this ⊢
    rw [List.getD_eq_getElem?_getD] at this ⊢
    rw [List.getElem?_append_left q]; exact this
  · have := h2 (i - l.length)
    unfold nthI at this ⊢
    rw [List.getD_eq_getElem?_getD] at this ⊢
    rw [List.getElem?_append_right (by omega)]; exact this
theorem trL_range {l : List Int} (h : ∀ i, -2047 ≤ nthI l i ∧ nthI l i ≤ 2047) (n : Nat) (ps : List (Nat × Nat)) : ∀ i, -2047 ≤ nthI (trL l n ps) i ∧ nthI (trL l n ps) i ≤ 2047 := by
  induction ps with
  | nil => intro i; simp [trL, nthI]
  | cons p ps ih =>
    intro i
    have e : trL l n (p :: ps) = cutN l ((p.2 * n + p.1) * 64) 64 ++ trL l n ps := by simp [trL]
    rw [e]; exact range_app (cutN_range h _ _) ih i
theorem mxC_fw {el : Int} {l : List Int} (h : inB el 1 16 = true) (hl : (l.length : Int) = el * el * 64) (hr : ∀ i, -2047 ≤ nthI l i ∧ nthI l i ≤ 2047) : (mxC el (fw l)).2 = 0 := by
  rw [mxC_y h (by rw [fw_length]; exact hl)]
  exact firstErr_fw hr
end Go.Proofs.Ytcijkniijomcjaa
