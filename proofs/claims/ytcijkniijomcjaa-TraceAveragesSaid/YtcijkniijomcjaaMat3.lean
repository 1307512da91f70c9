/- Traces of matrices: the reference. -/
import Derived.Test.YtcijkniijomcjaaMat2
namespace Go.Proofs.Ytcijkniijomcjaa
open Go.RowKit Go.Cpl

set_option maxRecDepth 100000 in
set_option maxHeartbeats 400000 in
theorem at_s (el p q : Int) (A : Option Addr) (n cap : Nat) (w0 : World) (h1 : 0 ≤ p * el ∧ p * el ≤ 256) (h2 : 0 ≤ q ∧ q ≤ 16) :
    Calls Try.prog 69 #[.agg #[.int .i64 el, .slice A n cap], .int .i64 p, .int .i64 q] w0 fun e w' => e = .returned (.int .i64 ((p * el + q) * 64)) ∧ Below w0.heap.size w0 w' := by
  have S0 := St.start w0
  refine enter (n := 14) Try.func69 rfl rfl rfl (fun ac A0 => ?_)
  refine wp_seq ?_
  refine wp_region_lit ?_
  refine s_box (.agg #[.int .i64 el, .slice A n cap]) A0 S0 (by kernel_rfl) rfl (fun g3 ac wc A1 S2 => ?_)
  replace S2 : St _ (⟨g3, 30, #[.int .i64 el, .slice A n cap], true⟩ :: _) _ _ := S2
  refine s_one (.int .i64 0) A1 S2 (g_assign (by kernel_rfl)) rfl (fun ac A5 => ?_)
  refine wpList_nil ?_
  refine n_then ?_
  refine wp_seq ?_
  refine wp_region_lit ?_
  refine s_one (.int .i64 p) A5 S2 (g_move (by kernel_rfl)) rfl (fun ac A6 => ?_)
  refine s_one (.pointer (some ⟨g3, 0, none⟩)) A6 S2 (g_field (u := .pointer (some ⟨g3, 0, none⟩)) (by kernel_rfl) (fun _ => by kernel_rfl)) rfl (fun ac A7 => ?_)
  refine s_one (.int .i64 el) A7 S2 (g_load (g := g3) (off := 0) 0 (by kernel_rfl) rfl (by kernel_rfl)) rfl (fun ac A8 => ?_)
  refine s_one (.int .i64 (p * el)) A8 S2 (g_bin (u := .int .i64 p) (k := .int .i64 el) (by kernel_rfl) (by kernel_rfl) (fun _ => by kernel_rfl) (b_mul (by omega))) rfl (fun ac A9 => ?_)
  refine s_one (.int .i64 q) A9 S2 (g_move (by kernel_rfl)) rfl (fun ac A10 => ?_)
  refine s_one (.int .i64 (p * el + q)) A10 S2 (g_bin (u := .int .i64 (p * el)) (k := .int .i64 q) (by kernel_rfl) (by kernel_rfl) (fun _ => by kernel_rfl) (b_add (by omega))) rfl (fun ac A11 => ?_)
  refine s_one (.int .i64 ((p * el + q) * 64)) A11 S2 (g_bin (u := .int .i64 (p * el + q)) (k := .int .i64 64) (by kernel_rfl) (by kernel_rfl) (fun _ => by kernel_rfl) (b_mul (by omega))) rfl (fun ac A12 => ?_)
  refine s_one (.int .i64 ((p * el + q) * 64)) A12 S2 (g_assign (by kernel_rfl)) rfl (fun ac A13 => ?_)
  refine wpList_nil ?_
  refine n_then ?_
  refine wp_ret ?_
  refine fin1 (.int .i64 ((p * el + q) * 64)) Try.results69 A13 S2 (rv_tmp (by kernel_rfl)) ⟨?_, S2.kp⟩
  rfl

theorem cut_snoc {xs : List Nat} {i k : Nat} (h : k < 64) {x : Int} (e : x = num (nth xs (i + k))) : rowI ((nums (cutF xs i 64)).take k) ++ [.int .i64 x] = rowI ((nums (cutF xs i 64)).take (k + 1)) := by
  have e2 : nthI (nums (cutF xs i 64)) k = x := by
    rw [nthI_eq (show k < (nums (cutF xs i 64)).length by rw [nums_length]; exact h), e]
    simp [nums, cutF_nth h]
  rw [rowI_snoc, take_snocI (by rw [nums_length]; exact h), e2]

set_option maxRecDepth 100000 in
set_option maxHeartbeats 400000 in
theorem refTraceOf_s (el : Int) (A : Option Addr) (n cap : Nat) (xs : List Nat) (p q : Int) (w0 : World) (hn : xs.length = n) (hr : FReads w0 A xs) (hm : n ≤ 1000) (h0 : firstOf [(mxC el xs).2, pairE el p q] = 0) :
    Calls Try.prog 20 #[.agg #[.int .i64 el, .slice A n cap], .agg #[.int .i64 p, .int .i64 q]] w0 fun e w' => e = .returned (.agg (trc (mkT (nums (cutF xs (toI el p q) 64)) 64))) ∧ Below w0.heap.size w0 w' := by
  have S0 := St.start w0
  obtain ⟨z1, z2⟩ := firstOf_two h0
  obtain ⟨he1, he2, he3⟩ := mxC_0 z1
  obtain ⟨hp, hq⟩ := pairE_0 he1 z2
  have hsq := sq_bd he1
  have hpa := pair_at he1 hp hq
  have hti : toI el p q = ((p * el + q) * 64).toNat := rfl
  have HR : ∀ k, k < n → sErr (nth xs k) = 0 := fun k hk => (right_of he3).at_ (by omega)
  refine enter (n := 29) Try.func20 rfl rfl rfl (fun ac A0 => ?_)
  refine wp_seq ?_
  refine wp_region_lit ?_
  refine s_box (.agg #[.int .i64 el, .slice A n cap]) A0 S0 (by kernel_rfl) rfl (fun g3 ac wc A1 S2 => ?_)
  replace S2 : St _ (⟨g3, 30, #[.int .i64 el, .slice A n cap], true⟩ :: _) _ _ := S2
  refine s_box (.agg #[.int .i64 p, .int .i64 q]) A1 S2 (by kernel_rfl) rfl (fun g7 ac wc A5 S6 => ?_)
  replace S6 : St _ (⟨g7, 26, #[.int .i64 p, .int .i64 q], true⟩ :: _) _ _ := S6
  refine s_alloc (trc zT) A5 S6 zero26 rfl (fun g11 ac wc A9 S10 => ?_)
  refine wpList_nil ?_
  refine n_then ?_
  refine wp_seq ?_
  refine wp_region_lit ?_
  refine s_one (.slice none 0 0) A9 S10 (g_assign (by kernel_rfl)) rfl (fun ac A12 => ?_)
  refine wpList_nil ?_
  refine n_then ?_
  refine wp_seq ?_
  refine wp_seq ?_
  refine wp_region_lit ?_
  refine s_one (.int .i64 0) A12 S10 (g_assign (by kernel_rfl)) rfl (fun ac A13 => ?_)
  refine wpList_nil ?_
  refine n_then ?_
  refine wp_block ?_
  have S14 := S10.nilRow 3 1
  refine c_loopN (fun mm ac wc => ∃ (k : Nat) (v : Value), mm = 64 - k ∧ (k ≤ 64) ∧ Fr 29 ac [(0, .agg #[.int .i64 el, .slice A n cap]), (1, .agg #[.int .i64 p, .int .i64 q]), (2, .pointer (some ⟨g3, 0, none⟩)), (3, .pointer (some ⟨g7, 0, none⟩)), (4, .pointer (some ⟨g11, 0, none⟩)), (6, .int .i64 (k : Int)), (5, v)] ∧ St w0 [⟨g11, 38, (trc zT), true⟩, ⟨g7, 26, #[.int .i64 p, .int .i64 q], true⟩, ⟨g3, 30, #[.int .i64 el, .slice A n cap], true⟩] [⟨v, 3, 1, k, (rowI ((nums (cutF xs (toI el p q) 64)).take k))⟩] wc) _ ⟨0, .slice none 0 0, rfl, by omega, (A13.slot (A13.slot (A13.slot (A13.slot (A13.slot (A13.slot (A13.slot A13.nil (v := .slice none 0 0) (by kernel_rfl) (by first | rfl | simp)) (v := .int .i64 0) (by kernel_rfl) (congrArg (Value.int .i64) (by omega))) (v := .pointer (some ⟨g11, 0, none⟩)) (by kernel_rfl) rfl) (v := .pointer (some ⟨g7, 0, none⟩)) (by kernel_rfl) rfl) (v := .pointer (some ⟨g3, 0, none⟩)) (by kernel_rfl) rfl) (v := .agg #[.int .i64 p, .int .i64 q]) (by kernel_rfl) rfl) (v := .agg #[.int .i64 el, .slice A n cap]) (by kernel_rfl) rfl), (St.rerow 0 S14 rfl ⟨rfl, rfl⟩).sub sub_all sub_all⟩ ?_
  rintro mm ac wc ⟨k, v, hm17, hk, A15, S16⟩
  refine wp_seq ?_
  refine wp_seq ?_
  refine wp_region_lit ?_
  refine s_one (.int .i64 (k : Int)) A15 S16 (g_move (by kernel_rfl)) rfl (fun ac A18 => ?_)
  refine s_one (.bool (decide ((k : Int) < 64))) A18 S16 (g_bin (u := .int .i64 (k : Int)) (k := .int .i64 64) (by kernel_rfl) (by kernel_rfl) (fun _ => by kernel_rfl) (fun _ => by kernel_rfl)) rfl (fun ac A19 => ?_)
  refine wpList_nil ?_
  refine n_then ?_
  refine c_ifb (b := (decide ((k : Int) < 64))) A19 (by kernel_rfl) (fun h20 => ?_) (fun h20 => ?_)
  · have p21 := of_decide_eq_true h20
    refine wp_skip ?_
    refine n_then ?_
    refine wp_seq ?_
    refine wp_block ?_
    refine r_begin (w0 := w0) (by kernel_rfl) (S16.sub sub_all sub_nil) (fun wc T22 B23 => ?_)
    have S24 := S16.kept B23
    refine r_take 0 (v) A19 T22 (g_move (by kernel_rfl)) rfl rfl rfl (pf_block (pf_then (pf_then (pf_block (pf_then pf_body))))) (by kernel_rfl) (fun ac A25 => ?_)
    refine r_take 1 (.pointer (some ⟨g3, 1, none⟩)) A25 T22 (g_field (u := .pointer (some ⟨g3, 0, none⟩)) (by kernel_rfl) (fun _ => by kernel_rfl)) rfl rfl rfl (pf_block (pf_then (pf_then (pf_block (pf_then pf_body))))) (by kernel_rfl) (fun ac A26 => ?_)
    refine r_take 2 (.slice A n cap) A26 T22 (g_load (g := g3) (off := 1) 2 (by kernel_rfl) rfl (by kernel_rfl)) rfl rfl rfl (pf_block (pf_then (pf_then (pf_block (pf_then pf_body))))) (by kernel_rfl) (fun ac A27 => ?_)
    refine r_take 3 (.agg #[.int .i64 el, .slice A n cap]) A27 T22 (g_load (g := g3) (off := 0) 2 (by kernel_rfl) rfl (by kernel_rfl)) rfl rfl rfl (pf_block (pf_then (pf_then (pf_block (pf_then pf_body))))) (by kernel_rfl) (fun ac A28 => ?_)
    refine r_take 4 (.pointer (some ⟨g7, 0, none⟩)) A28 T22 (g_index (u := .pointer (some ⟨g7, 0, none⟩)) (k := .int .i64 0) (by kernel_rfl) (by kernel_rfl) (fun _ => by kernel_rfl)) rfl rfl rfl (pf_block (pf_then (pf_then (pf_block (pf_then pf_body))))) (by kernel_rfl) (fun ac A29 => ?_)
    refine r_take 5 (.int .i64 p) A29 T22 (g_load (g := g7) (off := 0) 1 (by kernel_rfl) rfl (by kernel_rfl)) rfl rfl rfl (pf_block (pf_then (pf_then (pf_block (pf_then pf_body))))) (by kernel_rfl) (fun ac A30 => ?_)
    refine r_take 6 (.pointer (some ⟨g7, 1, none⟩)) A30 T22 (g_index (u := .pointer (some ⟨g7, 0, none⟩)) (k := .int .i64 1) (by kernel_rfl) (by kernel_rfl) (fun _ => by kernel_rfl)) rfl rfl rfl (pf_block (pf_then (pf_then (pf_block (pf_then pf_body))))) (by kernel_rfl) (fun ac A31 => ?_)
    refine r_take 7 (.int .i64 q) A31 T22 (g_load (g := g7) (off := 1) 1 (by kernel_rfl) rfl (by kernel_rfl)) rfl rfl rfl (pf_block (pf_then (pf_then (pf_block (pf_then pf_body))))) (by kernel_rfl) (fun ac A32 => ?_)
    refine r_take 9 (.int .i64 (k : Int)) A32 T22 (g_move (by kernel_rfl)) rfl rfl rfl (pf_block (pf_then (pf_then (pf_block (pf_then pf_body))))) (by kernel_rfl) (fun ac A33 => ?_)
    refine r_1 (i := 8) (by kernel_rfl) ?_
    refine rs_call (fs := #[]) (cp := #[]) (r := [(0, .agg #[.int .i64 el, .slice A n cap]), (0, .int .i64 p), (0, .int .i64 q)]) #[.agg #[.int .i64 el, .slice A n cap], .int .i64 p, .int .i64 q] (.int .i64 ((p * el + q) * 64)) A33 S24 sub_all sub_nil (at_s el p q A n cap _ (by omega) (by omega)) Try.call69 rfl rfl (by kernel_rfl) (by kernel_rfl) (by kernel_rfl) rfl (fun ac wc A34 S35 => ?_)
    have T37 := S35.sub sub_all sub_nil
    refine r_take 10 (.int .i64 ((p * el + q) * 64 + (k : Int))) A34 T37 (g_bin (u := .int .i64 ((p * el + q) * 64)) (k := .int .i64 (k : Int)) (by kernel_rfl) (by kernel_rfl) (fun _ => by kernel_rfl) (b_add (by omega))) rfl rfl rfl (pf_block (pf_then (pf_then (pf_block (pf_then pf_body))))) (by kernel_rfl) (fun ac A38 => ?_)
    obtain ⟨ad39, rfl, _⟩ := hr (((p * el + q) * 64 + (k : Int)).toNat) (by have hlen := hn; omega)
    refine r_take 11 (.pointer (some (ad39.add (((p * el + q) * 64 + (k : Int)).toNat)))) A38 T37 (g_index (u := .slice (some ad39) n cap) (k := .int .i64 ((p * el + q) * 64 + (k : Int))) (by kernel_rfl) (by kernel_rfl) (ix_x (e := 36) (bytes := 4) (((p * el + q) * 64 + (k : Int)).toNat) (by kernel_rfl) (by omega) (by omega))) rfl rfl rfl (pf_block (pf_then (pf_then (pf_block (pf_then pf_body))))) (by kernel_rfl) (fun ac A40 => ?_)
    refine r_take 12 (.float .f32 (nth xs (((p * el + q) * 64 + (k : Int)).toNat))) A40 T37 (g_loadXF (l := xs) (k := ((p * el + q) * 64 + (k : Int)).toNat) (by kernel_rfl) hr (by have hlen := hn; omega) (by kernel_rfl)) rfl rfl rfl (pf_block (pf_then (pf_then (pf_block (pf_then pf_body))))) (by kernel_rfl) (fun ac A41 => ?_)
    refine r_take 13 (.int .i64 (num (nth xs (((p * el + q) * 64 + (k : Int)).toNat)))) A41 T37 (g_conv (u := .float .f32 (nth xs (((p * el + q) * 64 + (k : Int)).toNat))) (by kernel_rfl) (run_toInt (HR _ (by omega)))) rfl rfl rfl (pf_block (pf_then (pf_then (pf_block (pf_then pf_body))))) (by kernel_rfl) (fun ac A42 => ?_)
    refine r_1 (i := 14) (by kernel_rfl) ?_
    refine rs_bs (e := 3) (r := [(0, .int .i64 (num (nth xs (((p * el + q) * 64 + (k : Int)).toNat))))]) (#[.int .i64 (num (nth xs (((p * el + q) * 64 + (k : Int)).toNat)))]) A42 S35 sub_all sub_nil (by kernel_rfl) (by kernel_rfl) rfl rfl rfl (fun g45 ac wc A43 S44 => ?_)
    have T46 := S44.sub (sub_skip sub_all) sub_nil
    refine r_1 (i := 15) (by kernel_rfl) ?_
    refine rs_append (e := 3) (size := 1) (bytes := 8) (v := v) (g := g45) (m' := 1) (c := 1) 0 0 [.int .i64 (num (nth xs (((p * el + q) * 64 + (k : Int)).toNat)))] A43 S44 (sub_skip sub_all) (fun _ => sub_nil) (by kernel_rfl) (by kernel_rfl) (by kernel_rfl) rfl rfl (by kernel_rfl) rfl (by kernel_rfl) (by omega) (by omega) rfl rfl rfl (fun v51 ac wc A47 S48 => ?_)
    have T50 := S48.sub (sub_skip sub_all) sub_nil
    refine r_take 16 (v51) A47 T50 (g_assign (by kernel_rfl)) rfl rfl rfl (pf_block (pf_then (pf_then (pf_block (pf_then pf_body))))) (by kernel_rfl) (fun ac A52 => ?_)
    refine r_done (by kernel_rfl) ?_
    refine n_block ?_
    refine n_then ?_
    refine wp_region_lit ?_
    refine s_one (.int .i64 (k : Int)) A52 S48 (g_move (by kernel_rfl)) rfl (fun ac A53 => ?_)
    refine s_one (.int .i64 ((k : Int) + 1)) A53 S48 (g_bin (u := .int .i64 (k : Int)) (k := .int .i64 1) (by kernel_rfl) (by kernel_rfl) (fun _ => by kernel_rfl) (b_add (by omega))) rfl (fun ac A54 => ?_)
    refine s_one (.int .i64 ((k : Int) + 1)) A54 S48 (g_assign (by kernel_rfl)) rfl (fun ac A55 => ?_)
    refine wpList_nil ?_
    refine n_then ?_
    refine ⟨_, ⟨k + 1, v51, rfl, by omega, (A55.slot (A55.slot (A55.slot (A55.slot (A55.slot (A55.slot (A55.slot A55.nil (v := v51) (by kernel_rfl) rfl) (v := .int .i64 ((k : Int) + 1)) (by kernel_rfl) (congrArg (Value.int .i64) (by omega))) (v := .pointer (some ⟨g11, 0, none⟩)) (by kernel_rfl) rfl) (v := .pointer (some ⟨g7, 0, none⟩)) (by kernel_rfl) rfl) (v := .pointer (some ⟨g3, 0, none⟩)) (by kernel_rfl) rfl) (v := .agg #[.int .i64 p, .int .i64 q]) (by kernel_rfl) rfl) (v := .agg #[.int .i64 el, .slice (some ad39) n cap]) (by kernel_rfl) (by first | rfl | simp)), (St.rerow 0 (St.recell 3 S48 rfl (by rfl)) rfl ⟨rfl, cut_snoc (by omega) (congrArg num (congrArg (nth xs) (by omega)))⟩).sub (sub_skip sub_all) sub_all⟩, ?_⟩
    omega
  · have p56 := of_decide_eq_false h20
    refine wp_exit ?_
    refine x_then ?_
    refine x_then ?_
    refine x_hit ?_
    refine n_then ?_
    refine wp_seq ?_
    obtain rfl : k = 64 := by omega
    have S6x : St w0 [⟨g11, 38, (trc zT), true⟩, ⟨g7, 26, #[.int .i64 p, .int .i64 q], true⟩, ⟨g3, 30, #[.int .i64 el, .slice A n cap], true⟩] [⟨v, 3, 1, 64, (rowI (nums (cutF xs (toI el p q) 64)))⟩] _ := St.rerow 0 S16 rfl ⟨rfl, by rw [List.take_of_length_le (by rw [nums_length]; omega)]⟩
    refine wp_region_lit ?_
    refine s_one (v) A19 S6x (g_move (by kernel_rfl)) rfl (fun ac A57 => ?_)
    obtain ⟨hl63, A61, cap62, rfl, hR64⟩ := rowI_reads (v := v) (m := 64) (l := (nums (cutF xs (toI el p q) 64))) (S6x.row 0 rfl)
    refine s_call (fs := #[]) (cp := #[]) (r := [(0, .slice A61 64 cap62)]) #[.slice A61 64 cap62] (.agg (trc (mkT (nums (cutF xs (toI el p q) 64)) 64))) A57 S6x (Trace_s (nums (cutF xs (toI el p q) 64)) A61 cap62 64 _ hl63 hR64 (by omega)) Try.call70 (by kernel_rfl) (by kernel_rfl) (by kernel_rfl) rfl (fun ac wc A58 S59 => ?_)
    refine s_store (g := g11) (off := 0) (v := .agg (trc (mkT (nums (cutF xs (toI el p q) 64)) 64))) 0 (trc (mkT (nums (cutF xs (toI el p q) 64)) 64)) A58 S59 (by kernel_rfl) (by kernel_rfl) rfl (putVal_whole ((trc_size _).trans zT_length) ((trc_size _).trans (done_length _ _ _ _)) ⟨⟨_, Try.underlying38, rfl⟩, by kernel_rfl⟩ (trc_one _)) (fun wc S66 => ?_)
    refine wpList_nil ?_
    refine n_then ?_
    refine wp_ret ?_
    refine fin1 (.agg (trc (mkT (nums (cutF xs (toI el p q) 64)) 64))) Try.results20 A58 S66 (rv_cell (g := g11) (off := 0) 0 (by kernel_rfl) rfl (rowVal_whole ((trc_size _).trans (done_length _ _ _ _)) ⟨⟨_, Try.underlying38, rfl⟩, by kernel_rfl⟩)) ⟨?_, S66.kp⟩
    rfl

end Go.Proofs.Ytcijkniijomcjaa
