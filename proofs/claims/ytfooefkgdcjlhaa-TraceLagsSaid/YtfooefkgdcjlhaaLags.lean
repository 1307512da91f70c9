/- Lags: the reference. -/
import Derived.Test.YtfooefkgdcjlhaaSums2
import Derived.Test.YtfooefkgdcjlhaaLagLaw
namespace Go.Proofs.Ytfooefkgdcjlhaa
open Go.RowKit Go.Cpl

theorem corrTo_y {x y : List Int} {lag : Int} {k : Nat} (h : inB ((k : Int) + lag) 0 63 = true) : corrTo x y lag k + nthI x k * nthI y ((k : Int) + lag).toNat = corrTo x y lag (k + 1) := by simp only [corrTo]; rw [if_pos h]
theorem corrTo_n {x y : List Int} {lag : Int} {k : Nat} (h : inB ((k : Int) + lag) 0 63 = false) : corrTo x y lag k = corrTo x y lag (k + 1) := by simp only [corrTo]; rw [if_neg (by rw [h]; simp)]; omega

set_option maxRecDepth 100000 in
set_option maxHeartbeats 400000 in
theorem correlation_s (x y : List Int) (ax ay : Addr) (cx cy : Nat) (lag : Int) (w0 : World) (hlx : x.length = 64) (hly : y.length = 64) (hxr : IReads w0 (some ax) x) (hyr : IReads w0 (some ay) y) (sx : Small x) (sy : Small y) (h1 : -32 ≤ lag) (h2 : lag ≤ 32) :
    Calls Try.prog 65 #[.slice (some ax) 64 cx, .slice (some ay) 64 cy, .int .i64 lag] w0 fun e w' => e = .returned (.int .i64 (corr x y lag)) ∧ Below w0.heap.size w0 w' := by
  have S0 := St.start w0
  have hx : ∀ k, k < 64 → ∃ ad, (some ax) = some ad ∧ w0.cell? (ad.add k) = some (.int .i64 (nthI x k)) := fun k hk => hxr k (by omega)
  have hy : ∀ k, k < 64 → ∃ ad, (some ay) = some ad ∧ w0.cell? (ad.add k) = some (.int .i64 (nthI y k)) := fun k hk => hyr k (by omega)
  refine enter (n := 31) Try.func65 rfl rfl rfl (fun ac A0 => ?_)
  refine wp_seq ?_
  refine wp_region_lit ?_
  refine s_one (.int .i64 0) A0 S0 (g_assign (by kernel_rfl)) rfl (fun ac A1 => ?_)
  refine wpList_nil ?_
  refine n_then ?_
  refine wp_seq ?_
  refine wp_region_lit ?_
  refine s_one (.int .i64 0) A1 S0 (g_assign (by kernel_rfl)) rfl (fun ac A2 => ?_)
  refine wpList_nil ?_
  refine n_then ?_
  refine wp_seq ?_
  refine wp_seq ?_
  refine wp_region_lit ?_
  refine s_one (.int .i64 0) A2 S0 (g_assign (by kernel_rfl)) rfl (fun ac A3 => ?_)
  refine wpList_nil ?_
  refine n_then ?_
  refine wp_block ?_
  refine c_loopN (fun mm ac wc => ∃ (k : Nat), mm = 64 - k ∧ (k ≤ 64) ∧ Fr 31 ac [(0, .slice (some ax) 64 cx), (1, .slice (some ay) 64 cy), (2, .int .i64 lag), (6, .int .i64 0), (8, .int .i64 (k : Int)), (7, .int .i64 (corrTo x y lag k))] ∧ St w0 [] [] wc) _ ⟨0, rfl, by omega, (A3.slot (A3.slot (A3.slot (A3.slot (A3.slot (A3.slot A3.nil (v := .int .i64 0) (by kernel_rfl) rfl) (v := .int .i64 0) (by kernel_rfl) (congrArg (Value.int .i64) (by omega))) (v := .int .i64 0) (by kernel_rfl) rfl) (v := .int .i64 lag) (by kernel_rfl) rfl) (v := .slice (some ay) 64 cy) (by kernel_rfl) rfl) (v := .slice (some ax) 64 cx) (by kernel_rfl) rfl), S0.sub sub_all sub_all⟩ ?_
  rintro mm ac wc ⟨k, hm6, hk, A4, S5⟩
  have b1 := mul_bound (sx k) (sy ((k : Int) + lag).toNat)
  have b2 := corrTo_bound sx sy lag k
  refine wp_seq ?_
  refine wp_seq ?_
  refine wp_region_lit ?_
  refine s_one (.int .i64 (k : Int)) A4 S5 (g_move (by kernel_rfl)) rfl (fun ac A7 => ?_)
  refine s_one (.bool (decide ((k : Int) < 64))) A7 S5 (g_bin (u := .int .i64 (k : Int)) (k := .int .i64 64) (by kernel_rfl) (by kernel_rfl) (fun _ => by kernel_rfl) (fun _ => by kernel_rfl)) rfl (fun ac A8 => ?_)
  refine wpList_nil ?_
  refine n_then ?_
  refine c_ifb (b := (decide ((k : Int) < 64))) A8 (by kernel_rfl) (fun h9 => ?_) (fun h9 => ?_)
  · have p10 := of_decide_eq_true h9
    refine wp_skip ?_
    refine n_then ?_
    refine wp_seq ?_
    refine wp_block ?_
    refine wp_seq ?_
    refine wp_region_lit ?_
    refine s_one (.int .i64 (k : Int)) A8 S5 (g_move (by kernel_rfl)) rfl (fun ac A11 => ?_)
    refine s_one (.int .i64 lag) A11 S5 (g_move (by kernel_rfl)) rfl (fun ac A12 => ?_)
    refine s_one (.int .i64 ((k : Int) + lag)) A12 S5 (g_bin (u := .int .i64 (k : Int)) (k := .int .i64 lag) (by kernel_rfl) (by kernel_rfl) (fun _ => by kernel_rfl) (b_add (by omega))) rfl (fun ac A13 => ?_)
    refine s_call (fs := #[]) (cp := #[]) (r := [(0, .int .i64 ((k : Int) + lag)), (0, .int .i64 0), (0, .int .i64 63)]) #[.int .i64 ((k : Int) + lag), .int .i64 0, .int .i64 63] (.bool (inB ((k : Int) + lag) 0 63)) A13 S5 (sameB (Within_any ((k : Int) + lag) 0 63 _)) Try.call22 (by kernel_rfl) (by kernel_rfl) (by kernel_rfl) rfl (fun ac wc A14 S15 => ?_)
    refine wpList_nil ?_
    refine n_then ?_
    refine c_ifb (b := (inB ((k : Int) + lag) 0 63)) A14 (by kernel_rfl) (fun h17 => ?_) (fun h17 => ?_)
    · have hi := inB_true.1 h17
      refine r_begin (w0 := w0) (by kernel_rfl) (S15.sub sub_all sub_all) (fun wc T18 B19 => ?_)
      have S20 := S15.kept B19
      refine r_take 0 (.int .i64 (corrTo x y lag k)) A14 T18 (g_move (by kernel_rfl)) rfl rfl rfl (pf_block (pf_then (pf_then (pf_block (pf_then pf_body))))) (by kernel_rfl) (fun ac A21 => ?_)
      refine r_take 1 (.slice (some ax) 64 cx) A21 T18 (g_move (by kernel_rfl)) rfl rfl rfl (pf_block (pf_then (pf_then (pf_block (pf_then pf_body))))) (by kernel_rfl) (fun ac A22 => ?_)
      refine r_take 2 (.int .i64 (k : Int)) A22 T18 (g_move (by kernel_rfl)) rfl rfl rfl (pf_block (pf_then (pf_then (pf_block (pf_then pf_body))))) (by kernel_rfl) (fun ac A23 => ?_)
      obtain ⟨ad25, e26, hc24⟩ := hx k (by omega)
      obtain rfl := Option.some.inj e26
      refine r_take 3 (.pointer (some (ax.add k))) A23 T18 (g_index (u := .slice (some ax) 64 cx) (k := .int .i64 (k : Int)) (by kernel_rfl) (by kernel_rfl) (ix_x (e := 3) (bytes := 8) k (by kernel_rfl) (by omega) (by omega))) rfl rfl rfl (pf_block (pf_then (pf_then (pf_block (pf_then pf_body))))) (by kernel_rfl) (fun ac A27 => ?_)
      refine r_take 4 (.int .i64 (nthI x k)) A27 T18 (g_loadX (by kernel_rfl) hc24 (by kernel_rfl)) rfl rfl rfl (pf_block (pf_then (pf_then (pf_block (pf_then pf_body))))) (by kernel_rfl) (fun ac A28 => ?_)
      refine r_take 5 (.slice (some ay) 64 cy) A28 T18 (g_move (by kernel_rfl)) rfl rfl rfl (pf_block (pf_then (pf_then (pf_block (pf_then pf_body))))) (by kernel_rfl) (fun ac A29 => ?_)
      refine r_take 6 (.int .i64 (k : Int)) A29 T18 (g_move (by kernel_rfl)) rfl rfl rfl (pf_block (pf_then (pf_then (pf_block (pf_then pf_body))))) (by kernel_rfl) (fun ac A30 => ?_)
      refine r_take 7 (.int .i64 lag) A30 T18 (g_move (by kernel_rfl)) rfl rfl rfl (pf_block (pf_then (pf_then (pf_block (pf_then pf_body))))) (by kernel_rfl) (fun ac A31 => ?_)
      refine r_take 8 (.int .i64 ((k : Int) + lag)) A31 T18 (g_bin (u := .int .i64 (k : Int)) (k := .int .i64 lag) (by kernel_rfl) (by kernel_rfl) (fun _ => by kernel_rfl) (b_add (by omega))) rfl rfl rfl (pf_block (pf_then (pf_then (pf_block (pf_then pf_body))))) (by kernel_rfl) (fun ac A32 => ?_)
      obtain ⟨ad34, e35, hc33⟩ := hy (((k : Int) + lag).toNat) (by omega)
      obtain rfl := Option.some.inj e35
      refine r_take 9 (.pointer (some (ay.add (((k : Int) + lag).toNat)))) A32 T18 (g_index (u := .slice (some ay) 64 cy) (k := .int .i64 ((k : Int) + lag)) (by kernel_rfl) (by kernel_rfl) (ix_x (e := 3) (bytes := 8) (((k : Int) + lag).toNat) (by kernel_rfl) (by omega) (by omega))) rfl rfl rfl (pf_block (pf_then (pf_then (pf_block (pf_then pf_body))))) (by kernel_rfl) (fun ac A36 => ?_)
      refine r_take 10 (.int .i64 (nthI y (((k : Int) + lag).toNat))) A36 T18 (g_loadX (by kernel_rfl) hc33 (by kernel_rfl)) rfl rfl rfl (pf_block (pf_then (pf_then (pf_block (pf_then pf_body))))) (by kernel_rfl) (fun ac A37 => ?_)
      refine r_take 11 (.int .i64 ((nthI x k) * (nthI y (((k : Int) + lag).toNat)))) A37 T18 (g_bin (u := .int .i64 (nthI x k)) (k := .int .i64 (nthI y (((k : Int) + lag).toNat))) (by kernel_rfl) (by kernel_rfl) (fun _ => by kernel_rfl) (b_mul (by omega))) rfl rfl rfl (pf_block (pf_then (pf_then (pf_block (pf_then pf_body))))) (by kernel_rfl) (fun ac A38 => ?_)
      refine r_take 12 (.int .i64 (corrTo x y lag k + ((nthI x k) * (nthI y (((k : Int) + lag).toNat))))) A38 T18 (g_bin (u := .int .i64 (corrTo x y lag k)) (k := .int .i64 ((nthI x k) * (nthI y (((k : Int) + lag).toNat)))) (by kernel_rfl) (by kernel_rfl) (fun _ => by kernel_rfl) (b_add (by omega))) rfl rfl rfl (pf_block (pf_then (pf_then (pf_block (pf_then pf_body))))) (by kernel_rfl) (fun ac A39 => ?_)
      refine r_take 13 (.int .i64 (corrTo x y lag k + ((nthI x k) * (nthI y (((k : Int) + lag).toNat))))) A39 T18 (g_assign (by kernel_rfl)) rfl rfl rfl (pf_block (pf_then (pf_then (pf_block (pf_then pf_body))))) (by kernel_rfl) (fun ac A40 => ?_)
      refine r_done (by kernel_rfl) ?_
      refine n_block ?_
      refine n_then ?_
      refine wp_region_lit ?_
      refine s_one (.int .i64 (k : Int)) A40 S20 (g_move (by kernel_rfl)) rfl (fun ac A41 => ?_)
      refine s_one (.int .i64 ((k : Int) + 1)) A41 S20 (g_bin (u := .int .i64 (k : Int)) (k := .int .i64 1) (by kernel_rfl) (by kernel_rfl) (fun _ => by kernel_rfl) (b_add (by omega))) rfl (fun ac A42 => ?_)
      refine s_one (.int .i64 ((k : Int) + 1)) A42 S20 (g_assign (by kernel_rfl)) rfl (fun ac A43 => ?_)
      refine wpList_nil ?_
      refine n_then ?_
      refine ⟨_, ⟨k + 1, rfl, by omega, (A43.slot (A43.slot (A43.slot (A43.slot (A43.slot (A43.slot A43.nil (v := .int .i64 (corrTo x y lag k + ((nthI x k) * (nthI y (((k : Int) + lag).toNat))))) (by kernel_rfl) (congrArg (Value.int .i64) (corrTo_y h17))) (v := .int .i64 ((k : Int) + 1)) (by kernel_rfl) (congrArg (Value.int .i64) (by omega))) (v := .int .i64 0) (by kernel_rfl) rfl) (v := .int .i64 lag) (by kernel_rfl) rfl) (v := .slice (some ay) 64 cy) (by kernel_rfl) rfl) (v := .slice (some ax) 64 cx) (by kernel_rfl) rfl), S20.sub sub_all sub_all⟩, ?_⟩
      omega
    · refine wp_skip ?_
      refine n_block ?_
      refine n_then ?_
      refine wp_region_lit ?_
      refine s_one (.int .i64 (k : Int)) A14 S15 (g_move (by kernel_rfl)) rfl (fun ac A44 => ?_)
      refine s_one (.int .i64 ((k : Int) + 1)) A44 S15 (g_bin (u := .int .i64 (k : Int)) (k := .int .i64 1) (by kernel_rfl) (by kernel_rfl) (fun _ => by kernel_rfl) (b_add (by omega))) rfl (fun ac A45 => ?_)
      refine s_one (.int .i64 ((k : Int) + 1)) A45 S15 (g_assign (by kernel_rfl)) rfl (fun ac A46 => ?_)
      refine wpList_nil ?_
      refine n_then ?_
      refine ⟨_, ⟨k + 1, rfl, by omega, (A46.slot (A46.slot (A46.slot (A46.slot (A46.slot (A46.slot A46.nil (v := .int .i64 (corrTo x y lag k)) (by kernel_rfl) (congrArg (Value.int .i64) (corrTo_n h17))) (v := .int .i64 ((k : Int) + 1)) (by kernel_rfl) (congrArg (Value.int .i64) (by omega))) (v := .int .i64 0) (by kernel_rfl) rfl) (v := .int .i64 lag) (by kernel_rfl) rfl) (v := .slice (some ay) 64 cy) (by kernel_rfl) rfl) (v := .slice (some ax) 64 cx) (by kernel_rfl) rfl), S15.sub sub_all sub_all⟩, ?_⟩
      omega
  · have p47 := of_decide_eq_false h9
    refine wp_exit ?_
    refine x_then ?_
    refine x_then ?_
    refine x_hit ?_
    refine n_then ?_
    refine wp_seq ?_
    refine wp_region_lit ?_
    refine s_one (.int .i64 (corrTo x y lag k)) A8 S5 (g_move (by kernel_rfl)) rfl (fun ac A48 => ?_)
    refine s_one (.int .i64 (corrTo x y lag k)) A48 S5 (g_assign (by kernel_rfl)) rfl (fun ac A49 => ?_)
    refine wpList_nil ?_
    refine n_then ?_
    refine wp_ret ?_
    refine fin1 (.int .i64 (corrTo x y lag k)) Try.results65 A49 S5 (rv_tmp (by kernel_rfl)) ⟨?_, S5.kp⟩
    obtain rfl : k = 64 := by omega
    rfl

set_option maxRecDepth 100000 in
set_option maxHeartbeats 400000 in
theorem refLagOf_s (xs ys : List Nat) (m : Int) (w0 : World) (hl : xs.length = 64) (hl2 : ys.length = 64) (h0 : Right xs) (h02 : Right ys) (hm0 : 0 ≤ m) (hm1 : m ≤ 32) :
    Calls Try.prog 29 #[.agg (trc xs), .agg (trc ys), .int .i64 m] w0 fun e w' => e = .returned (.int .i64 (lagOf (nums xs) (nums ys) (m).toNat)) ∧ Below w0.heap.size w0 w' := by
  have S0 := St.start w0
  have sx : Small (nums xs) := nums_range hl h0
  have sy : Small (nums ys) := nums_range hl2 h02
  refine enter (n := 47) Try.func29 rfl rfl rfl (fun ac A0 => ?_)
  refine wp_seq ?_
  refine wp_region_lit ?_
  refine s_box (.agg (trc xs)) A0 S0 (by kernel_rfl) rfl (fun g3 ac wc A1 S2 => ?_)
  replace S2 : St _ (⟨g3, 26, (trc xs), true⟩ :: _) _ _ := S2
  refine s_box (.agg (trc ys)) A1 S2 (by kernel_rfl) rfl (fun g7 ac wc A5 S6 => ?_)
  replace S6 : St _ (⟨g7, 26, (trc ys), true⟩ :: _) _ _ := S6
  refine s_one (.int .i64 0) A5 S6 (g_assign (by kernel_rfl)) rfl (fun ac A9 => ?_)
  refine wpList_nil ?_
  refine n_then ?_
  refine wp_seq ?_
  refine r_begin (w0 := w0) (by kernel_rfl) (S6.sub sub_all sub_all) (fun wc T10 B11 => ?_)
  have S12 := S6.kept B11
  refine r_take 0 (.agg (trc xs)) A9 T10 (g_loadW (g := g3) 1 (by kernel_rfl) rfl ((trc_size _).trans hl) ⟨⟨_, Try.underlying26, rfl⟩, by kernel_rfl⟩) rfl rfl rfl (pf_then pf_body) (by kernel_rfl) (fun ac A13 => ?_)
  refine r_take 2 (.agg (trc ys)) A13 T10 (g_loadW (g := g7) 0 (by kernel_rfl) rfl ((trc_size _).trans hl2) ⟨⟨_, Try.underlying26, rfl⟩, by kernel_rfl⟩) rfl rfl rfl (pf_then pf_body) (by kernel_rfl) (fun ac A14 => ?_)
  refine r_1 (i := 1) (by kernel_rfl) ?_
  refine rs_callR (fs := #[]) (cp := #[]) (r := [(0, .agg (trc xs))]) #[.agg (trc xs)] A14 S12 sub_all sub_all (Ints_s xs _ hl h0) Try.call64 rfl rfl (by kernel_rfl) (by kernel_rfl) (by kernel_rfl) rfl (fun v19 ac wc A15 S16 => ?_)
  obtain ⟨g20, cap21, cur22, rfl, hc23, hs24, ht25, S26⟩ := S16.openRow (by omega)
  have T18 := S26.sub (sub_skip sub_all) sub_all
  refine r_1 (i := 3) (by kernel_rfl) ?_
  refine rs_callR (fs := #[]) (cp := #[]) (r := [(0, .agg (trc ys))]) #[.agg (trc ys)] A15 S26 (sub_skip sub_all) sub_all (Ints_s ys _ hl2 h02) Try.call64 rfl rfl (by kernel_rfl) (by kernel_rfl) (by kernel_rfl) rfl (fun v31 ac wc A27 S28 => ?_)
  obtain ⟨g32, cap33, cur34, rfl, hc35, hs36, ht37, S38⟩ := S28.openRow (by omega)
  have T30 := S38.sub (sub_skip (sub_skip sub_all)) sub_all
  refine r_take 4 (.slice (some ⟨g20, 0, none⟩) 64 cap21) A27 T30 (g_assign (by kernel_rfl)) rfl rfl rfl (pf_then pf_body) (by kernel_rfl) (fun ac A39 => ?_)
  refine r_take 5 (.slice (some ⟨g32, 0, none⟩) 64 cap33) A39 T30 (g_assign (by kernel_rfl)) rfl rfl rfl (pf_then pf_body) (by kernel_rfl) (fun ac A40 => ?_)
  refine r_done (by kernel_rfl) ?_
  refine n_then ?_
  refine wp_seq ?_
  refine wp_region_lit ?_
  refine s_one (.slice (some ⟨g20, 0, none⟩) 64 cap21) A40 S38 (g_move (by kernel_rfl)) rfl (fun ac A41 => ?_)
  refine s_one (.slice (some ⟨g32, 0, none⟩) 64 cap33) A41 S38 (g_move (by kernel_rfl)) rfl (fun ac A42 => ?_)
  refine s_call (fs := #[]) (cp := #[]) (r := [(0, .slice (some ⟨g20, 0, none⟩) 64 cap21), (0, .slice (some ⟨g32, 0, none⟩) 64 cap33), (0, .int .i64 0)]) #[.slice (some ⟨g20, 0, none⟩) 64 cap21, .slice (some ⟨g32, 0, none⟩) 64 cap33, .int .i64 0] (.int .i64 (corr (nums xs) (nums ys) 0)) A42 S38 (correlation_s (nums xs) (nums ys) ⟨g20, 0, none⟩ ⟨g32, 0, none⟩ cap21 cap33 0 _ (nums_length _) (nums_length _) (cur_reads (S38.get 1 rfl) ht25) (cur_reads (S38.get 0 rfl) ht37) sx sy (by omega) (by omega)) Try.call65 (by kernel_rfl) (by kernel_rfl) (by kernel_rfl) rfl (fun ac wc A43 S44 => ?_)
  refine s_one (.int .i64 0) A43 S44 (g_assign (by kernel_rfl)) rfl (fun ac A46 => ?_)
  refine s_one (.int .i64 (corr (nums xs) (nums ys) 0)) A46 S44 (g_assign (by kernel_rfl)) rfl (fun ac A47 => ?_)
  refine wpList_nil ?_
  refine n_then ?_
  refine wp_seq ?_
  refine wp_seq ?_
  refine wp_region_lit ?_
  refine s_one (.int .i64 1) A47 S44 (g_assign (by kernel_rfl)) rfl (fun ac A48 => ?_)
  refine wpList_nil ?_
  refine n_then ?_
  refine wp_block ?_
  refine c_loopN (fun mm ac wc => ∃ (k : Nat), mm = m.toNat - k ∧ ((k : Int) ≤ m) ∧ Fr 47 ac [(0, .agg (trc xs)), (1, .agg (trc ys)), (2, .int .i64 m), (3, .pointer (some ⟨g3, 0, none⟩)), (4, .pointer (some ⟨g7, 0, none⟩)), (6, .int .i64 0), (14, .agg (trc xs)), (16, .agg (trc ys)), (15, .slice (some ⟨g20, 0, none⟩) 64 cap21), (17, .slice (some ⟨g32, 0, none⟩) 64 cap33), (7, .slice (some ⟨g20, 0, none⟩) 64 cap21), (8, .slice (some ⟨g32, 0, none⟩) 64 cap33), (18, .slice (some ⟨g20, 0, none⟩) 64 cap21), (19, .slice (some ⟨g32, 0, none⟩) 64 cap33), (20, .int .i64 (corr (nums xs) (nums ys) 0)), (11, .int .i64 ((k : Int) + 1)), (9, .int .i64 ((lagTo (nums xs) (nums ys) k).1)), (10, .int .i64 ((lagTo (nums xs) (nums ys) k).2))] ∧ St w0 [⟨g32, 3, cur34, true⟩, ⟨g20, 3, cur22, true⟩, ⟨g7, 26, (trc ys), true⟩, ⟨g3, 26, (trc xs), true⟩] [] wc) _ ⟨0, rfl, by omega, (A48.slot (A48.slot (A48.slot (A48.slot (A48.slot (A48.slot (A48.slot (A48.slot (A48.slot (A48.slot (A48.slot (A48.slot (A48.slot (A48.slot (A48.slot (A48.slot (A48.slot (A48.slot A48.nil (v := .int .i64 (corr (nums xs) (nums ys) 0)) (by kernel_rfl) rfl) (v := .int .i64 0) (by kernel_rfl) rfl) (v := .int .i64 1) (by kernel_rfl) (congrArg (Value.int .i64) (by omega))) (v := .int .i64 (corr (nums xs) (nums ys) 0)) (by kernel_rfl) rfl) (v := .slice (some ⟨g32, 0, none⟩) 64 cap33) (by kernel_rfl) rfl) (v := .slice (some ⟨g20, 0, none⟩) 64 cap21) (by kernel_rfl) rfl) (v := .slice (some ⟨g32, 0, none⟩) 64 cap33) (by kernel_rfl) rfl) (v := .slice (some ⟨g20, 0, none⟩) 64 cap21) (by kernel_rfl) rfl) (v := .slice (some ⟨g32, 0, none⟩) 64 cap33) (by kernel_rfl) rfl) (v := .slice (some ⟨g20, 0, none⟩) 64 cap21) (by kernel_rfl) rfl) (v := .agg (trc ys)) (by kernel_rfl) rfl) (v := .agg (trc xs)) (by kernel_rfl) rfl) (v := .int .i64 0) (by kernel_rfl) rfl) (v := .pointer (some ⟨g7, 0, none⟩)) (by kernel_rfl) rfl) (v := .pointer (some ⟨g3, 0, none⟩)) (by kernel_rfl) rfl) (v := .int .i64 m) (by kernel_rfl) rfl) (v := .agg (trc ys)) (by kernel_rfl) rfl) (v := .agg (trc xs)) (by kernel_rfl) rfl), S44.sub sub_all sub_all⟩ ?_
  rintro mm ac wc ⟨k, hm51, hk, A49, S50⟩
  refine wp_seq ?_
  refine wp_seq ?_
  refine wp_region_lit ?_
  refine s_one (.int .i64 ((k : Int) + 1)) A49 S50 (g_move (by kernel_rfl)) rfl (fun ac A52 => ?_)
  refine s_one (.int .i64 m) A52 S50 (g_move (by kernel_rfl)) rfl (fun ac A53 => ?_)
  refine s_one (.bool (decide ((k : Int) + 1 ≤ m))) A53 S50 (g_bin (u := .int .i64 ((k : Int) + 1)) (k := .int .i64 m) (by kernel_rfl) (by kernel_rfl) (fun _ => by kernel_rfl) (fun _ => by kernel_rfl)) rfl (fun ac A54 => ?_)
  refine wpList_nil ?_
  refine n_then ?_
  refine c_ifb (b := (decide ((k : Int) + 1 ≤ m))) A54 (by kernel_rfl) (fun h55 => ?_) (fun h55 => ?_)
  · have p56 := of_decide_eq_true h55
    refine wp_skip ?_
    refine n_then ?_
    refine wp_seq ?_
    refine wp_block ?_
    refine wp_seq ?_
    refine wp_seq ?_
    refine wp_region_lit ?_
    refine s_one (.slice (some ⟨g20, 0, none⟩) 64 cap21) A54 S50 (g_move (by kernel_rfl)) rfl (fun ac A57 => ?_)
    refine s_one (.slice (some ⟨g32, 0, none⟩) 64 cap33) A57 S50 (g_move (by kernel_rfl)) rfl (fun ac A58 => ?_)
    refine s_one (.int .i64 ((k : Int) + 1)) A58 S50 (g_move (by kernel_rfl)) rfl (fun ac A59 => ?_)
    refine s_one (.int .i64 (-((k : Int) + 1))) A59 S50 (g_un (u := .int .i64 ((k : Int) + 1)) (by kernel_rfl) (u_neg (by omega))) rfl (fun ac A60 => ?_)
    refine s_call (fs := #[]) (cp := #[]) (r := [(0, .slice (some ⟨g20, 0, none⟩) 64 cap21), (0, .slice (some ⟨g32, 0, none⟩) 64 cap33), (0, .int .i64 (-((k : Int) + 1)))]) #[.slice (some ⟨g20, 0, none⟩) 64 cap21, .slice (some ⟨g32, 0, none⟩) 64 cap33, .int .i64 (-((k : Int) + 1))] (.int .i64 (corr (nums xs) (nums ys) (-((k : Int) + 1)))) A60 S50 (correlation_s (nums xs) (nums ys) ⟨g20, 0, none⟩ ⟨g32, 0, none⟩ cap21 cap33 (-((k : Int) + 1)) _ (nums_length _) (nums_length _) (cur_reads (S50.get 1 rfl) ht25) (cur_reads (S50.get 0 rfl) ht37) sx sy (by omega) (by omega)) Try.call65 (by kernel_rfl) (by kernel_rfl) (by kernel_rfl) rfl (fun ac wc A61 S62 => ?_)
    refine s_one (.int .i64 (corr (nums xs) (nums ys) (-((k : Int) + 1)))) A61 S62 (g_assign (by kernel_rfl)) rfl (fun ac A64 => ?_)
    refine wpList_nil ?_
    refine n_then ?_
    refine wp_seq ?_
    refine wp_region_lit ?_
    refine s_one (.int .i64 (corr (nums xs) (nums ys) (-((k : Int) + 1)))) A64 S62 (g_move (by kernel_rfl)) rfl (fun ac A65 => ?_)
    refine s_one (.int .i64 ((lagTo (nums xs) (nums ys) k).2)) A65 S62 (g_move (by kernel_rfl)) rfl (fun ac A66 => ?_)
    refine s_one (.bool (decide (corr (nums xs) (nums ys) (-((k : Int) + 1)) > (lagTo (nums xs) (nums ys) k).2))) A66 S62 (g_bin (u := .int .i64 (corr (nums xs) (nums ys) (-((k : Int) + 1)))) (k := .int .i64 ((lagTo (nums xs) (nums ys) k).2)) (by kernel_rfl) (by kernel_rfl) (fun _ => by kernel_rfl) (fun _ => by kernel_rfl)) rfl (fun ac A67 => ?_)
    refine wpList_nil ?_
    refine n_then ?_
    refine c_ifb (b := (decide (corr (nums xs) (nums ys) (-((k : Int) + 1)) > (lagTo (nums xs) (nums ys) k).2))) A67 (by kernel_rfl) (fun h68 => ?_) (fun h68 => ?_)
    · have p69 := of_decide_eq_true h68
      refine wp_region_lit ?_
      refine s_one (.int .i64 ((k : Int) + 1)) A67 S62 (g_move (by kernel_rfl)) rfl (fun ac A70 => ?_)
      refine s_one (.int .i64 (-((k : Int) + 1))) A70 S62 (g_un (u := .int .i64 ((k : Int) + 1)) (by kernel_rfl) (u_neg (by omega))) rfl (fun ac A71 => ?_)
      refine s_one (.int .i64 (corr (nums xs) (nums ys) (-((k : Int) + 1)))) A71 S62 (g_move (by kernel_rfl)) rfl (fun ac A72 => ?_)
      refine s_one (.int .i64 (-((k : Int) + 1))) A72 S62 (g_assign (by kernel_rfl)) rfl (fun ac A73 => ?_)
      refine s_one (.int .i64 (corr (nums xs) (nums ys) (-((k : Int) + 1)))) A73 S62 (g_assign (by kernel_rfl)) rfl (fun ac A74 => ?_)
      refine wpList_nil ?_
      refine n_then ?_
      refine wp_seq ?_
      refine wp_region_lit ?_
      refine s_one (.slice (some ⟨g20, 0, none⟩) 64 cap21) A74 S62 (g_move (by kernel_rfl)) rfl (fun ac A75 => ?_)
      refine s_one (.slice (some ⟨g32, 0, none⟩) 64 cap33) A75 S62 (g_move (by kernel_rfl)) rfl (fun ac A76 => ?_)
      refine s_one (.int .i64 ((k : Int) + 1)) A76 S62 (g_move (by kernel_rfl)) rfl (fun ac A77 => ?_)
      refine s_call (fs := #[]) (cp := #[]) (r := [(0, .slice (some ⟨g20, 0, none⟩) 64 cap21), (0, .slice (some ⟨g32, 0, none⟩) 64 cap33), (0, .int .i64 ((k : Int) + 1))]) #[.slice (some ⟨g20, 0, none⟩) 64 cap21, .slice (some ⟨g32, 0, none⟩) 64 cap33, .int .i64 ((k : Int) + 1)] (.int .i64 (corr (nums xs) (nums ys) ((k : Int) + 1))) A77 S62 (correlation_s (nums xs) (nums ys) ⟨g20, 0, none⟩ ⟨g32, 0, none⟩ cap21 cap33 ((k : Int) + 1) _ (nums_length _) (nums_length _) (cur_reads (S62.get 1 rfl) ht25) (cur_reads (S62.get 0 rfl) ht37) sx sy (by omega) (by omega)) Try.call65 (by kernel_rfl) (by kernel_rfl) (by kernel_rfl) rfl (fun ac wc A78 S79 => ?_)
      refine s_one (.int .i64 (corr (nums xs) (nums ys) ((k : Int) + 1))) A78 S79 (g_assign (by kernel_rfl)) rfl (fun ac A81 => ?_)
      refine wpList_nil ?_
      refine n_then ?_
      refine wp_seq ?_
      refine wp_region_lit ?_
      refine s_one (.int .i64 (corr (nums xs) (nums ys) ((k : Int) + 1))) A81 S79 (g_move (by kernel_rfl)) rfl (fun ac A82 => ?_)
      refine s_one (.int .i64 (corr (nums xs) (nums ys) (-((k : Int) + 1)))) A82 S79 (g_move (by kernel_rfl)) rfl (fun ac A83 => ?_)
      refine s_one (.bool (decide (corr (nums xs) (nums ys) ((k : Int) + 1) > corr (nums xs) (nums ys) (-((k : Int) + 1))))) A83 S79 (g_bin (u := .int .i64 (corr (nums xs) (nums ys) ((k : Int) + 1))) (k := .int .i64 (corr (nums xs) (nums ys) (-((k : Int) + 1)))) (by kernel_rfl) (by kernel_rfl) (fun _ => by kernel_rfl) (fun _ => by kernel_rfl)) rfl (fun ac A84 => ?_)
      refine wpList_nil ?_
      refine n_then ?_
      refine c_ifb (b := (decide (corr (nums xs) (nums ys) ((k : Int) + 1) > corr (nums xs) (nums ys) (-((k : Int) + 1))))) A84 (by kernel_rfl) (fun h85 => ?_) (fun h85 => ?_)
      · have p86 := of_decide_eq_true h85
        refine wp_region_lit ?_
        refine s_one (.int .i64 ((k : Int) + 1)) A84 S79 (g_move (by kernel_rfl)) rfl (fun ac A87 => ?_)
        refine s_one (.int .i64 (corr (nums xs) (nums ys) ((k : Int) + 1))) A87 S79 (g_move (by kernel_rfl)) rfl (fun ac A88 => ?_)
        refine s_one (.int .i64 ((k : Int) + 1)) A88 S79 (g_assign (by kernel_rfl)) rfl (fun ac A89 => ?_)
        refine s_one (.int .i64 (corr (nums xs) (nums ys) ((k : Int) + 1))) A89 S79 (g_assign (by kernel_rfl)) rfl (fun ac A90 => ?_)
        refine wpList_nil ?_
        refine n_block ?_
        refine n_then ?_
        refine wp_region_lit ?_
        refine s_one (.int .i64 ((k : Int) + 1)) A90 S79 (g_move (by kernel_rfl)) rfl (fun ac A91 => ?_)
        refine s_one (.int .i64 ((k : Int) + 1 + 1)) A91 S79 (g_bin (u := .int .i64 ((k : Int) + 1)) (k := .int .i64 1) (by kernel_rfl) (by kernel_rfl) (fun _ => by kernel_rfl) (b_add (by omega))) rfl (fun ac A92 => ?_)
        refine s_one (.int .i64 ((k : Int) + 1 + 1)) A92 S79 (g_assign (by kernel_rfl)) rfl (fun ac A93 => ?_)
        refine wpList_nil ?_
        refine n_then ?_
        refine ⟨_, ⟨k + 1, rfl, by omega, (A93.slot (A93.slot (A93.slot (A93.slot (A93.slot (A93.slot (A93.slot (A93.slot (A93.slot (A93.slot (A93.slot (A93.slot (A93.slot (A93.slot (A93.slot (A93.slot (A93.slot (A93.slot A93.nil (v := .int .i64 (corr (nums xs) (nums ys) ((k : Int) + 1))) (by kernel_rfl) (congrArg (fun z : Int × Int => Value.int .i64 z.2) (lagTo_s (lagStep_y p69) (lagStep_y p86)))) (v := .int .i64 ((k : Int) + 1)) (by kernel_rfl) (congrArg (fun z : Int × Int => Value.int .i64 z.1) (lagTo_s (lagStep_y p69) (lagStep_y p86)))) (v := .int .i64 ((k : Int) + 1 + 1)) (by kernel_rfl) (congrArg (Value.int .i64) (by omega))) (v := .int .i64 (corr (nums xs) (nums ys) 0)) (by kernel_rfl) rfl) (v := .slice (some ⟨g32, 0, none⟩) 64 cap33) (by kernel_rfl) rfl) (v := .slice (some ⟨g20, 0, none⟩) 64 cap21) (by kernel_rfl) rfl) (v := .slice (some ⟨g32, 0, none⟩) 64 cap33) (by kernel_rfl) rfl) (v := .slice (some ⟨g20, 0, none⟩) 64 cap21) (by kernel_rfl) rfl) (v := .slice (some ⟨g32, 0, none⟩) 64 cap33) (by kernel_rfl) rfl) (v := .slice (some ⟨g20, 0, none⟩) 64 cap21) (by kernel_rfl) rfl) (v := .agg (trc ys)) (by kernel_rfl) rfl) (v := .agg (trc xs)) (by kernel_rfl) rfl) (v := .int .i64 0) (by kernel_rfl) rfl) (v := .pointer (some ⟨g7, 0, none⟩)) (by kernel_rfl) rfl) (v := .pointer (some ⟨g3, 0, none⟩)) (by kernel_rfl) rfl) (v := .int .i64 m) (by kernel_rfl) rfl) (v := .agg (trc ys)) (by kernel_rfl) rfl) (v := .agg (trc xs)) (by kernel_rfl) rfl), S79.sub sub_all sub_all⟩, ?_⟩
        omega
      · have p94 := of_decide_eq_false h85
        refine wp_skip ?_
        refine n_block ?_
        refine n_then ?_
        refine wp_region_lit ?_
        refine s_one (.int .i64 ((k : Int) + 1)) A84 S79 (g_move (by kernel_rfl)) rfl (fun ac A95 => ?_)
        refine s_one (.int .i64 ((k : Int) + 1 + 1)) A95 S79 (g_bin (u := .int .i64 ((k : Int) + 1)) (k := .int .i64 1) (by kernel_rfl) (by kernel_rfl) (fun _ => by kernel_rfl) (b_add (by omega))) rfl (fun ac A96 => ?_)
        refine s_one (.int .i64 ((k : Int) + 1 + 1)) A96 S79 (g_assign (by kernel_rfl)) rfl (fun ac A97 => ?_)
        refine wpList_nil ?_
        refine n_then ?_
        refine ⟨_, ⟨k + 1, rfl, by omega, (A97.slot (A97.slot (A97.slot (A97.slot (A97.slot (A97.slot (A97.slot (A97.slot (A97.slot (A97.slot (A97.slot (A97.slot (A97.slot (A97.slot (A97.slot (A97.slot (A97.slot (A97.slot A97.nil (v := .int .i64 (corr (nums xs) (nums ys) (-((k : Int) + 1)))) (by kernel_rfl) (congrArg (fun z : Int × Int => Value.int .i64 z.2) (lagTo_s (lagStep_y p69) (lagStep_n p94)))) (v := .int .i64 (-((k : Int) + 1))) (by kernel_rfl) (congrArg (fun z : Int × Int => Value.int .i64 z.1) (lagTo_s (lagStep_y p69) (lagStep_n p94)))) (v := .int .i64 ((k : Int) + 1 + 1)) (by kernel_rfl) (congrArg (Value.int .i64) (by omega))) (v := .int .i64 (corr (nums xs) (nums ys) 0)) (by kernel_rfl) rfl) (v := .slice (some ⟨g32, 0, none⟩) 64 cap33) (by kernel_rfl) rfl) (v := .slice (some ⟨g20, 0, none⟩) 64 cap21) (by kernel_rfl) rfl) (v := .slice (some ⟨g32, 0, none⟩) 64 cap33) (by kernel_rfl) rfl) (v := .slice (some ⟨g20, 0, none⟩) 64 cap21) (by kernel_rfl) rfl) (v := .slice (some ⟨g32, 0, none⟩) 64 cap33) (by kernel_rfl) rfl) (v := .slice (some ⟨g20, 0, none⟩) 64 cap21) (by kernel_rfl) rfl) (v := .agg (trc ys)) (by kernel_rfl) rfl) (v := .agg (trc xs)) (by kernel_rfl) rfl) (v := .int .i64 0) (by kernel_rfl) rfl) (v := .pointer (some ⟨g7, 0, none⟩)) (by kernel_rfl) rfl) (v := .pointer (some ⟨g3, 0, none⟩)) (by kernel_rfl) rfl) (v := .int .i64 m) (by kernel_rfl) rfl) (v := .agg (trc ys)) (by kernel_rfl) rfl) (v := .agg (trc xs)) (by kernel_rfl) rfl), S79.sub sub_all sub_all⟩, ?_⟩
        omega
    · have p98 := of_decide_eq_false h68
      refine wp_skip ?_
      refine n_then ?_
      refine wp_seq ?_
      refine wp_region_lit ?_
      refine s_one (.slice (some ⟨g20, 0, none⟩) 64 cap21) A67 S62 (g_move (by kernel_rfl)) rfl (fun ac A99 => ?_)
      refine s_one (.slice (some ⟨g32, 0, none⟩) 64 cap33) A99 S62 (g_move (by kernel_rfl)) rfl (fun ac A100 => ?_)
      refine s_one (.int .i64 ((k : Int) + 1)) A100 S62 (g_move (by kernel_rfl)) rfl (fun ac A101 => ?_)
      refine s_call (fs := #[]) (cp := #[]) (r := [(0, .slice (some ⟨g20, 0, none⟩) 64 cap21), (0, .slice (some ⟨g32, 0, none⟩) 64 cap33), (0, .int .i64 ((k : Int) + 1))]) #[.slice (some ⟨g20, 0, none⟩) 64 cap21, .slice (some ⟨g32, 0, none⟩) 64 cap33, .int .i64 ((k : Int) + 1)] (.int .i64 (corr (nums xs) (nums ys) ((k : Int) + 1))) A101 S62 (correlation_s (nums xs) (nums ys) ⟨g20, 0, none⟩ ⟨g32, 0, none⟩ cap21 cap33 ((k : Int) + 1) _ (nums_length _) (nums_length _) (cur_reads (S62.get 1 rfl) ht25) (cur_reads (S62.get 0 rfl) ht37) sx sy (by omega) (by omega)) Try.call65 (by kernel_rfl) (by kernel_rfl) (by kernel_rfl) rfl (fun ac wc A102 S103 => ?_)
      refine s_one (.int .i64 (corr (nums xs) (nums ys) ((k : Int) + 1))) A102 S103 (g_assign (by kernel_rfl)) rfl (fun ac A105 => ?_)
      refine wpList_nil ?_
      refine n_then ?_
      refine wp_seq ?_
      refine wp_region_lit ?_
      refine s_one (.int .i64 (corr (nums xs) (nums ys) ((k : Int) + 1))) A105 S103 (g_move (by kernel_rfl)) rfl (fun ac A106 => ?_)
      refine s_one (.int .i64 ((lagTo (nums xs) (nums ys) k).2)) A106 S103 (g_move (by kernel_rfl)) rfl (fun ac A107 => ?_)
      refine s_one (.bool (decide (corr (nums xs) (nums ys) ((k : Int) + 1) > (lagTo (nums xs) (nums ys) k).2))) A107 S103 (g_bin (u := .int .i64 (corr (nums xs) (nums ys) ((k : Int) + 1))) (k := .int .i64 ((lagTo (nums xs) (nums ys) k).2)) (by kernel_rfl) (by kernel_rfl) (fun _ => by kernel_rfl) (fun _ => by kernel_rfl)) rfl (fun ac A108 => ?_)
      refine wpList_nil ?_
      refine n_then ?_
      refine c_ifb (b := (decide (corr (nums xs) (nums ys) ((k : Int) + 1) > (lagTo (nums xs) (nums ys) k).2))) A108 (by kernel_rfl) (fun h109 => ?_) (fun h109 => ?_)
      · have p110 := of_decide_eq_true h109
        refine wp_region_lit ?_
        refine s_one (.int .i64 ((k : Int) + 1)) A108 S103 (g_move (by kernel_rfl)) rfl (fun ac A111 => ?_)
        refine s_one (.int .i64 (corr (nums xs) (nums ys) ((k : Int) + 1))) A111 S103 (g_move (by kernel_rfl)) rfl (fun ac A112 => ?_)
        refine s_one (.int .i64 ((k : Int) + 1)) A112 S103 (g_assign (by kernel_rfl)) rfl (fun ac A113 => ?_)
        refine s_one (.int .i64 (corr (nums xs) (nums ys) ((k : Int) + 1))) A113 S103 (g_assign (by kernel_rfl)) rfl (fun ac A114 => ?_)
        refine wpList_nil ?_
        refine n_block ?_
        refine n_then ?_
        refine wp_region_lit ?_
        refine s_one (.int .i64 ((k : Int) + 1)) A114 S103 (g_move (by kernel_rfl)) rfl (fun ac A115 => ?_)
        refine s_one (.int .i64 ((k : Int) + 1 + 1)) A115 S103 (g_bin (u := .int .i64 ((k : Int) + 1)) (k := .int .i64 1) (by kernel_rfl) (by kernel_rfl) (fun _ => by kernel_rfl) (b_add (by omega))) rfl (fun ac A116 => ?_)
        refine s_one (.int .i64 ((k : Int) + 1 + 1)) A116 S103 (g_assign (by kernel_rfl)) rfl (fun ac A117 => ?_)
        refine wpList_nil ?_
        refine n_then ?_
        refine ⟨_, ⟨k + 1, rfl, by omega, (A117.slot (A117.slot (A117.slot (A117.slot (A117.slot (A117.slot (A117.slot (A117.slot (A117.slot (A117.slot (A117.slot (A117.slot (A117.slot (A117.slot (A117.slot (A117.slot (A117.slot (A117.slot A117.nil (v := .int .i64 (corr (nums xs) (nums ys) ((k : Int) + 1))) (by kernel_rfl) (congrArg (fun z : Int × Int => Value.int .i64 z.2) (lagTo_s (lagStep_n p98) (lagStep_y p110)))) (v := .int .i64 ((k : Int) + 1)) (by kernel_rfl) (congrArg (fun z : Int × Int => Value.int .i64 z.1) (lagTo_s (lagStep_n p98) (lagStep_y p110)))) (v := .int .i64 ((k : Int) + 1 + 1)) (by kernel_rfl) (congrArg (Value.int .i64) (by omega))) (v := .int .i64 (corr (nums xs) (nums ys) 0)) (by kernel_rfl) rfl) (v := .slice (some ⟨g32, 0, none⟩) 64 cap33) (by kernel_rfl) rfl) (v := .slice (some ⟨g20, 0, none⟩) 64 cap21) (by kernel_rfl) rfl) (v := .slice (some ⟨g32, 0, none⟩) 64 cap33) (by kernel_rfl) rfl) (v := .slice (some ⟨g20, 0, none⟩) 64 cap21) (by kernel_rfl) rfl) (v := .slice (some ⟨g32, 0, none⟩) 64 cap33) (by kernel_rfl) rfl) (v := .slice (some ⟨g20, 0, none⟩) 64 cap21) (by kernel_rfl) rfl) (v := .agg (trc ys)) (by kernel_rfl) rfl) (v := .agg (trc xs)) (by kernel_rfl) rfl) (v := .int .i64 0) (by kernel_rfl) rfl) (v := .pointer (some ⟨g7, 0, none⟩)) (by kernel_rfl) rfl) (v := .pointer (some ⟨g3, 0, none⟩)) (by kernel_rfl) rfl) (v := .int .i64 m) (by kernel_rfl) rfl) (v := .agg (trc ys)) (by kernel_rfl) rfl) (v := .agg (trc xs)) (by kernel_rfl) rfl), S103.sub sub_all sub_all⟩, ?_⟩
        omega
      · have p118 := of_decide_eq_false h109
        refine wp_skip ?_
        refine n_block ?_
        refine n_then ?_
        refine wp_region_lit ?_
        refine s_one (.int .i64 ((k : Int) + 1)) A108 S103 (g_move (by kernel_rfl)) rfl (fun ac A119 => ?_)
        refine s_one (.int .i64 ((k : Int) + 1 + 1)) A119 S103 (g_bin (u := .int .i64 ((k : Int) + 1)) (k := .int .i64 1) (by kernel_rfl) (by kernel_rfl) (fun _ => by kernel_rfl) (b_add (by omega))) rfl (fun ac A120 => ?_)
        refine s_one (.int .i64 ((k : Int) + 1 + 1)) A120 S103 (g_assign (by kernel_rfl)) rfl (fun ac A121 => ?_)
        refine wpList_nil ?_
        refine n_then ?_
        refine ⟨_, ⟨k + 1, rfl, by omega, (A121.slot (A121.slot (A121.slot (A121.slot (A121.slot (A121.slot (A121.slot (A121.slot (A121.slot (A121.slot (A121.slot (A121.slot (A121.slot (A121.slot (A121.slot (A121.slot (A121.slot (A121.slot A121.nil (v := .int .i64 ((lagTo (nums xs) (nums ys) k).2)) (by kernel_rfl) (congrArg (fun z : Int × Int => Value.int .i64 z.2) (lagTo_s (lagStep_n p98) (lagStep_n p118)))) (v := .int .i64 ((lagTo (nums xs) (nums ys) k).1)) (by kernel_rfl) (congrArg (fun z : Int × Int => Value.int .i64 z.1) (lagTo_s (lagStep_n p98) (lagStep_n p118)))) (v := .int .i64 ((k : Int) + 1 + 1)) (by kernel_rfl) (congrArg (Value.int .i64) (by omega))) (v := .int .i64 (corr (nums xs) (nums ys) 0)) (by kernel_rfl) rfl) (v := .slice (some ⟨g32, 0, none⟩) 64 cap33) (by kernel_rfl) rfl) (v := .slice (some ⟨g20, 0, none⟩) 64 cap21) (by kernel_rfl) rfl) (v := .slice (some ⟨g32, 0, none⟩) 64 cap33) (by kernel_rfl) rfl) (v := .slice (some ⟨g20, 0, none⟩) 64 cap21) (by kernel_rfl) rfl) (v := .slice (some ⟨g32, 0, none⟩) 64 cap33) (by kernel_rfl) rfl) (v := .slice (some ⟨g20, 0, none⟩) 64 cap21) (by kernel_rfl) rfl) (v := .agg (trc ys)) (by kernel_rfl) rfl) (v := .agg (trc xs)) (by kernel_rfl) rfl) (v := .int .i64 0) (by kernel_rfl) rfl) (v := .pointer (some ⟨g7, 0, none⟩)) (by kernel_rfl) rfl) (v := .pointer (some ⟨g3, 0, none⟩)) (by kernel_rfl) rfl) (v := .int .i64 m) (by kernel_rfl) rfl) (v := .agg (trc ys)) (by kernel_rfl) rfl) (v := .agg (trc xs)) (by kernel_rfl) rfl), S103.sub sub_all sub_all⟩, ?_⟩
        omega
  · have p122 := of_decide_eq_false h55
    refine wp_exit ?_
    refine x_then ?_
    refine x_then ?_
    refine x_hit ?_
    refine n_then ?_
    refine wp_seq ?_
    refine wp_region_lit ?_
    refine s_one (.int .i64 ((lagTo (nums xs) (nums ys) k).1)) A54 S50 (g_move (by kernel_rfl)) rfl (fun ac A123 => ?_)
    refine s_one (.int .i64 ((lagTo (nums xs) (nums ys) k).1)) A123 S50 (g_assign (by kernel_rfl)) rfl (fun ac A124 => ?_)
    refine wpList_nil ?_
    refine n_then ?_
    refine wp_ret ?_
    refine fin1 (.int .i64 ((lagTo (nums xs) (nums ys) k).1)) Try.results29 A124 S50 (rv_tmp (by kernel_rfl)) ⟨?_, S50.kp⟩
    have hke : m.toNat = k := by omega
    rw [hke, lagOf_to]

end Go.Proofs.Ytfooefkgdcjlhaa
