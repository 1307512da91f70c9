/- The walk of RayModes: it returns true. -/
import Derived.Test.YtnfmfkejhgbipaaRay9
import Derived.Test.YtnfmfkejhgbipaaPlain
import Derived.Test.YtnfmfkejhgbipaaArgs
namespace Go.Proofs.Ytnfmfkejhgbipaa
open Go.RowKit Go.Cpl Go.Ray1

theorem mdE_of {mw md ms mt : Int} (a : 500 ≤ mw ∧ mw ≤ 10000) (b : 500 ≤ md ∧ md ≤ 10000) (c : 0 ≤ ms ∧ ms ≤ 4) (d : 2 ≤ mt ∧ mt ≤ 20000) : mdE mw md ms mt = 0 := by
  unfold mdE
  rw [fo_cons0 (veE_y (inB_true.2 a)), fo_cons0 (veE_y (inB_true.2 b)), fo_last, inB_true.2 c, inB_true.2 d]; rfl
theorem ufE_y {mw md ms mt z : Int} (h : mdE mw md ms mt = 0) (h2 : inB z 1 (mt - 1) = true) : ufE mw md ms mt z = 0 := by rw [ufE_m h, h2]; rfl
theorem ufE_x {mw md ms mt z : Int} (h : mdE mw md ms mt = 0) (h2 : inB z 1 (mt - 1) = false) : ufE mw md ms mt z = 22 := by rw [ufE_m h, h2]; rfl
theorem ufE_w {mw md ms mt z : Int} (h : mdE mw md ms mt ≠ 0) : ufE mw md ms mt z = mdE mw md ms mt := fo_ne h
theorem unf_two {ms mt z : Int} (h0 : 0 ≤ ms ∧ ms ≤ 4) (h : ms.tmod 2 = 0) (h4 : ms ≠ 4) : unf ms mt z + unf (ms + 1) mt z = 2 * mt * (ms + 1) ∧ 0 ≤ ms + 1 ∧ ms + 1 ≤ 4 := by
  have e : ms = 0 ∨ ms = 2 := by
    rcases ms_cases h0 with rfl | rfl | rfl | rfl | rfl
    · exact .inl rfl
    · exact absurd h (by decide)
    · exact .inr rfl
    · exact absurd h (by decide)
    · exact absurd rfl h4
  rcases e with rfl | rfl
  · unfold unf; rw [if_neg (by decide), if_pos (by decide)]; omega
  · unfold unf; rw [if_neg (by decide), if_pos (by decide)]; omega

set_option maxRecDepth 100000 in
set_option maxHeartbeats 400000 in
theorem RayModes_s (mw md ms mt z : Int) (w0 : World) :
    Calls Try.prog 6 #[.agg #[.int .i64 mw, .int .i64 md, .int .i64 ms, .int .i64 mt], .int .i64 z] w0 fun e w' => e = .returned (.bool true) ∧ Below w0.heap.size w0 w' := by
  have S0 := St.start w0
  refine enter (n := 85) Try.func6 rfl rfl rfl (fun ac A0 => ?_)
  refine wp_seq ?_
  refine wp_region_lit ?_
  refine s_box (.agg #[.int .i64 mw, .int .i64 md, .int .i64 ms, .int .i64 mt]) A0 S0 (by kernel_rfl) rfl (fun g3 ac wc A1 S2 => ?_)
  replace S2 : St _ (⟨g3, 39, #[.int .i64 mw, .int .i64 md, .int .i64 ms, .int .i64 mt], true⟩ :: _) _ _ := S2
  refine s_one (.bool false) A1 S2 (g_assign (by kernel_rfl)) rfl (fun ac A5 => ?_)
  refine wpList_nil ?_
  refine n_then ?_
  refine wp_seq ?_
  refine wp_seq ?_
  refine wp_region_lit ?_
  refine s_call (fs := #[]) (cp := #[]) (r := []) #[] (.bool true) A5 S2 (awake_s _) Try.call19 (by kernel_rfl) (by kernel_rfl) (by kernel_rfl) rfl (fun ac wc A6 S7 => ?_)
  refine s_one (.bool false) A6 S7 (g_un (u := .bool true) (by kernel_rfl) (fun _ => by kernel_rfl)) rfl (fun ac A9 => ?_)
  refine wpList_nil ?_
  refine n_then ?_
  refine c_f (b := false) A9 (by kernel_rfl) rfl ?_
  refine wp_skip ?_
  refine n_then ?_
  refine wp_seq ?_
  refine wp_region_lit ?_
  refine s_one (.agg #[.int .i64 mw, .int .i64 md, .int .i64 ms, .int .i64 mt]) A9 S7 (g_load (g := g3) (off := 0) 0 (by kernel_rfl) rfl (by kernel_rfl)) rfl (fun ac A10 => ?_)
  refine s_one (.int .i64 z) A10 S7 (g_move (by kernel_rfl)) rfl (fun ac A11 => ?_)
  refine s_call (fs := #[]) (cp := #[]) (r := [(0, .agg #[.int .i64 mw, .int .i64 md, .int .i64 ms, .int .i64 mt]), (0, .int .i64 z)]) #[.agg #[.int .i64 mw, .int .i64 md, .int .i64 ms, .int .i64 mt], .int .i64 z] (.tuple #[.int .i64 (zv (ufE mw md ms mt z) (unf ms mt z)), .int .i64 (ufE mw md ms mt z)]) A11 S7 (Unfolded_s mw md ms mt z _) Try.call30 (by kernel_rfl) (by kernel_rfl) (by kernel_rfl) rfl (fun ac wc A12 S13 => ?_)
  refine s_one (.tuple #[.int .i64 (zv (ufE mw md ms mt z) (unf ms mt z)), .int .i64 (ufE mw md ms mt z)]) A12 S13 (g_move (by kernel_rfl)) rfl (fun ac A15 => ?_)
  refine s_one (.int .i64 (zv (ufE mw md ms mt z) (unf ms mt z))) A15 S13 (g_extract (u := .tuple #[.int .i64 (zv (ufE mw md ms mt z) (unf ms mt z)), .int .i64 (ufE mw md ms mt z)]) (by kernel_rfl) (fun _ => by kernel_rfl)) rfl (fun ac A16 => ?_)
  refine s_one (.int .i64 (ufE mw md ms mt z)) A16 S13 (g_extract (u := .tuple #[.int .i64 (zv (ufE mw md ms mt z) (unf ms mt z)), .int .i64 (ufE mw md ms mt z)]) (by kernel_rfl) (fun _ => by kernel_rfl)) rfl (fun ac A17 => ?_)
  refine s_one (.int .i64 (zv (ufE mw md ms mt z) (unf ms mt z))) A17 S13 (g_assign (by kernel_rfl)) rfl (fun ac A18 => ?_)
  refine s_one (.int .i64 (ufE mw md ms mt z)) A18 S13 (g_assign (by kernel_rfl)) rfl (fun ac A19 => ?_)
  refine wpList_nil ?_
  refine n_then ?_
  refine wp_seq ?_
  refine wp_region_lit ?_
  refine s_one (.agg #[.int .i64 mw, .int .i64 md, .int .i64 ms, .int .i64 mt]) A19 S13 (g_load (g := g3) (off := 0) 0 (by kernel_rfl) rfl (by kernel_rfl)) rfl (fun ac A20 => ?_)
  refine s_call (fs := #[]) (cp := #[]) (r := [(0, .agg #[.int .i64 mw, .int .i64 md, .int .i64 ms, .int .i64 mt])]) #[.agg #[.int .i64 mw, .int .i64 md, .int .i64 ms, .int .i64 mt]] (.int .i64 (mdE mw md ms mt)) A20 S13 (refCheckMode_s mw md ms mt _) Try.call31 (by kernel_rfl) (by kernel_rfl) (by kernel_rfl) rfl (fun ac wc A21 S22 => ?_)
  refine s_one (.int .i64 (mdE mw md ms mt)) A21 S22 (g_assign (by kernel_rfl)) rfl (fun ac A24 => ?_)
  refine wpList_nil ?_
  refine n_then ?_
  refine wp_seq ?_
  refine wp_seq ?_
  refine wp_region_lit ?_
  refine s_one (.agg #[.int .i64 mw, .int .i64 md, .int .i64 ms, .int .i64 mt]) A24 S22 (g_load (g := g3) (off := 0) 0 (by kernel_rfl) rfl (by kernel_rfl)) rfl (fun ac A25 => ?_)
  refine s_call (fs := #[]) (cp := #[]) (r := [(0, .agg #[.int .i64 mw, .int .i64 md, .int .i64 ms, .int .i64 mt])]) #[.agg #[.int .i64 mw, .int .i64 md, .int .i64 ms, .int .i64 mt]] (.int .i64 (mdE mw md ms mt)) A25 S22 (CheckMode_s mw md ms mt _) Try.call32 (by kernel_rfl) (by kernel_rfl) (by kernel_rfl) rfl (fun ac wc A26 S27 => ?_)
  refine s_one (.int .i64 (mdE mw md ms mt)) A26 S27 (g_move (by kernel_rfl)) rfl (fun ac A29 => ?_)
  refine s_one (.bool (decide (mdE mw md ms mt ≠ mdE mw md ms mt))) A29 S27 (g_bin (u := .int .i64 (mdE mw md ms mt)) (k := .int .i64 (mdE mw md ms mt)) (by kernel_rfl) (by kernel_rfl) (fun _ => by kernel_rfl) b_neq) rfl (fun ac A30 => ?_)
  refine wpList_nil ?_
  refine n_then ?_
  refine c_f (b := (decide (mdE mw md ms mt ≠ mdE mw md ms mt))) A30 (by kernel_rfl) (decide_eq_false (fun h => h rfl)) ?_
  refine wp_skip ?_
  refine n_then ?_
  refine wp_seq ?_
  refine wp_seq ?_
  refine wp_region_lit ?_
  refine s_one (.int .i64 (mdE mw md ms mt)) A30 S27 (g_move (by kernel_rfl)) rfl (fun ac A31 => ?_)
  refine s_one (.bool (decide (mdE mw md ms mt = 0))) A31 S27 (g_bin (u := .int .i64 (mdE mw md ms mt)) (k := .int .i64 0) (by kernel_rfl) (by kernel_rfl) (fun _ => by kernel_rfl) b_eql) rfl (fun ac A32 => ?_)
  refine s_one (.bool (decide (mdE mw md ms mt = 0))) A32 S27 (g_move (by kernel_rfl)) rfl (fun ac A33 => ?_)
  refine by_bool (decide (mdE mw md ms mt = 0)) (fun h34 => ?_) (fun h34 => ?_)
  · have p35 := of_decide_eq_true h34
    have zm := of_decide_eq_true h34
    have zz := mdE_0 zm
    refine s_want (dj := 26) (b := (decide (mdE mw md ms mt = 0))) A33 (by kernel_rfl) (by kernel_rfl) h34 ?_
    refine s_one (.int .i64 z) A33 S27 (g_move (by kernel_rfl)) rfl (fun ac A36 => ?_)
    refine s_want (dj := 26) (b := (decide (mdE mw md ms mt = 0))) A36 (by kernel_rfl) (by kernel_rfl) h34 ?_
    refine s_one (.pointer (some ⟨g3, 3, none⟩)) A36 S27 (g_field (u := .pointer (some ⟨g3, 0, none⟩)) (by kernel_rfl) (fun _ => by kernel_rfl)) rfl (fun ac A37 => ?_)
    refine s_want (dj := 26) (b := (decide (mdE mw md ms mt = 0))) A37 (by kernel_rfl) (by kernel_rfl) h34 ?_
    refine s_one (.int .i64 mt) A37 S27 (g_load (g := g3) (off := 3) 0 (by kernel_rfl) rfl (by kernel_rfl)) rfl (fun ac A38 => ?_)
    refine s_want (dj := 26) (b := (decide (mdE mw md ms mt = 0))) A38 (by kernel_rfl) (by kernel_rfl) h34 ?_
    refine s_one (.int .i64 (mt - 1)) A38 S27 (g_bin (u := .int .i64 mt) (k := .int .i64 1) (by kernel_rfl) (by kernel_rfl) (fun _ => by kernel_rfl) (b_sub (by omega))) rfl (fun ac A39 => ?_)
    refine s_want (dj := 26) (b := (decide (mdE mw md ms mt = 0))) A39 (by kernel_rfl) (by kernel_rfl) h34 ?_
    refine s_call (fs := #[]) (cp := #[]) (r := [(0, .int .i64 z), (0, .int .i64 1), (0, .int .i64 (mt - 1))]) #[.int .i64 z, .int .i64 1, .int .i64 (mt - 1)] (.bool (inB z 1 (mt - 1))) A39 S27 (Within_s z 1 (mt - 1) _) Try.call26 (by kernel_rfl) (by kernel_rfl) (by kernel_rfl) rfl (fun ac wc A40 S41 => ?_)
    refine s_want (dj := 26) (b := (decide (mdE mw md ms mt = 0))) A40 (by kernel_rfl) (by kernel_rfl) h34 ?_
    refine s_one (.bool (!(inB z 1 (mt - 1)))) A40 S41 (g_un (u := .bool (inB z 1 (mt - 1))) (by kernel_rfl) (fun _ => by kernel_rfl)) rfl (fun ac A43 => ?_)
    refine s_one (.bool (!(inB z 1 (mt - 1)))) A43 S41 (g_pick_t (b := (decide (mdE mw md ms mt = 0))) (by kernel_rfl) h34 (by kernel_rfl)) rfl (fun ac A44 => ?_)
    refine wpList_nil ?_
    refine n_then ?_
    refine c_ifb (b := (!(inB z 1 (mt - 1)))) A44 (by kernel_rfl) (fun h45 => ?_) (fun h45 => ?_)
    · have h46 : inB z 1 (mt - 1) = false := by simpa using h45
      have eu := ufE_x zm h46
      have zu : ufE mw md ms mt z ≠ 0 := by rw [eu]; decide
      refine wp_region_lit ?_
      refine s_one (.int .i64 22) A44 S41 (g_assign (by kernel_rfl)) rfl (fun ac A47 => ?_)
      refine wpList_nil ?_
      refine n_then ?_
      refine wp_seq ?_
      refine wp_seq ?_
      refine wp_region_lit ?_
      refine s_one (.int .i64 22) A47 S41 (g_move (by kernel_rfl)) rfl (fun ac A48 => ?_)
      refine s_one (.bool (decide (22 ≠ 0))) A48 S41 (g_bin (u := .int .i64 22) (k := .int .i64 0) (by kernel_rfl) (by kernel_rfl) (fun _ => by kernel_rfl) b_neq) rfl (fun ac A49 => ?_)
      refine wpList_nil ?_
      refine n_then ?_
      refine c_t (b := (decide (22 ≠ 0))) A49 (by kernel_rfl) (by decide) ?_
      refine wp_seq ?_
      refine wp_region_lit ?_
      refine s_one (.int .i64 (ufE mw md ms mt z)) A49 S41 (g_move (by kernel_rfl)) rfl (fun ac A50 => ?_)
      refine s_one (.int .i64 22) A50 S41 (g_move (by kernel_rfl)) rfl (fun ac A51 => ?_)
      refine s_one (.bool (decide (ufE mw md ms mt z = 22))) A51 S41 (g_bin (u := .int .i64 (ufE mw md ms mt z)) (k := .int .i64 22) (by kernel_rfl) (by kernel_rfl) (fun _ => by kernel_rfl) b_eql) rfl (fun ac A52 => ?_)
      refine s_one (.bool (decide (ufE mw md ms mt z = 22))) A52 S41 (g_move (by kernel_rfl)) rfl (fun ac A53 => ?_)
      refine s_want (dj := 39) (b := (decide (ufE mw md ms mt z = 22))) A53 (by kernel_rfl) (by kernel_rfl) (decide_eq_true (by first | rfl | assumption | omega | (simp only [zv_n zu]; done) | (simp only [zv_0 ze]; done) | (simp only [zv_0 ze]; simp; done) | (rw [y1, y2]; omega))) ?_
      refine s_one (.int .i64 (zv (ufE mw md ms mt z) (unf ms mt z))) A53 S41 (g_move (by kernel_rfl)) rfl (fun ac A54 => ?_)
      refine s_want (dj := 39) (b := (decide (ufE mw md ms mt z = 22))) A54 (by kernel_rfl) (by kernel_rfl) (decide_eq_true (by first | rfl | assumption | omega | (simp only [zv_n zu]; done) | (simp only [zv_0 ze]; done) | (simp only [zv_0 ze]; simp; done) | (rw [y1, y2]; omega))) ?_
      refine s_one (.bool (decide (zv (ufE mw md ms mt z) (unf ms mt z) = 0))) A54 S41 (g_bin (u := .int .i64 (zv (ufE mw md ms mt z) (unf ms mt z))) (k := .int .i64 0) (by kernel_rfl) (by kernel_rfl) (fun _ => by kernel_rfl) b_eql) rfl (fun ac A55 => ?_)
      refine s_one (.bool (decide (zv (ufE mw md ms mt z) (unf ms mt z) = 0))) A55 S41 (g_pick_t (b := (decide (ufE mw md ms mt z = 22))) (by kernel_rfl) (decide_eq_true (by first | rfl | assumption | omega | (simp only [zv_n zu]; done) | (simp only [zv_0 ze]; done) | (simp only [zv_0 ze]; simp; done) | (rw [y1, y2]; omega))) (by kernel_rfl)) rfl (fun ac A56 => ?_)
      refine s_one (.bool (decide (zv (ufE mw md ms mt z) (unf ms mt z) = 0))) A56 S41 (g_assign (by kernel_rfl)) rfl (fun ac A57 => ?_)
      refine wpList_nil ?_
      refine n_then ?_
      refine wp_ret ?_
      refine r_then ?_
      refine fin1 (.bool (decide (zv (ufE mw md ms mt z) (unf ms mt z) = 0))) Try.results6 A57 S41 (rv_tmp (by kernel_rfl)) ⟨?_, S41.kp⟩
      exact congrArg (fun b => Ending.returned (Value.bool b)) (decide_eq_true (by first | rfl | assumption | omega | (simp only [zv_n zu]; done) | (simp only [zv_0 ze]; done) | (simp only [zv_0 ze]; simp; done) | (rw [y1, y2]; omega)))
    · have h58 : inB z 1 (mt - 1) = true := by simpa using h45
      have hz := inB_true.1 h58
      have ze := ufE_y zm h58
      have ub := unf_bd (z := z) zz.2.2.1 zz.2.2.2 hz
      have mb := mst_bd zz.2.2.1 zz.2.2.2
      refine wp_skip ?_
      refine n_then ?_
      refine wp_seq ?_
      refine wp_seq ?_
      refine wp_region_lit ?_
      refine s_one (.int .i64 (mdE mw md ms mt)) A44 S41 (g_move (by kernel_rfl)) rfl (fun ac A59 => ?_)
      refine s_one (.bool (decide (mdE mw md ms mt ≠ 0))) A59 S41 (g_bin (u := .int .i64 (mdE mw md ms mt)) (k := .int .i64 0) (by kernel_rfl) (by kernel_rfl) (fun _ => by kernel_rfl) b_neq) rfl (fun ac A60 => ?_)
      refine wpList_nil ?_
      refine n_then ?_
      refine c_f (b := (decide (mdE mw md ms mt ≠ 0))) A60 (by kernel_rfl) (decide_eq_false (by simp; exact zm)) ?_
      refine wp_skip ?_
      refine n_then ?_
      refine wp_seq ?_
      refine wp_seq ?_
      refine wp_region_lit ?_
      refine s_one (.int .i64 (ufE mw md ms mt z)) A60 S41 (g_move (by kernel_rfl)) rfl (fun ac A61 => ?_)
      refine s_one (.bool (decide (ufE mw md ms mt z ≠ 0))) A61 S41 (g_bin (u := .int .i64 (ufE mw md ms mt z)) (k := .int .i64 0) (by kernel_rfl) (by kernel_rfl) (fun _ => by kernel_rfl) b_neq) rfl (fun ac A62 => ?_)
      refine s_one (.bool (decide (ufE mw md ms mt z ≠ 0))) A62 S41 (g_move (by kernel_rfl)) rfl (fun ac A63 => ?_)
      refine s_want (dj := 45) (b := (decide (ufE mw md ms mt z ≠ 0))) A63 (by kernel_rfl) (by kernel_rfl) (decide_eq_false (by first | rfl | assumption | omega | (simp only [zv_n zu]; done) | (simp only [zv_0 ze]; done) | (simp only [zv_0 ze]; simp; done) | (rw [y1, y2]; omega))) ?_
      refine s_one (.int .i64 (zv (ufE mw md ms mt z) (unf ms mt z))) A63 S41 (g_move (by kernel_rfl)) rfl (fun ac A64 => ?_)
      refine s_want (dj := 45) (b := (decide (ufE mw md ms mt z ≠ 0))) A64 (by kernel_rfl) (by kernel_rfl) (decide_eq_false (by first | rfl | assumption | omega | (simp only [zv_n zu]; done) | (simp only [zv_0 ze]; done) | (simp only [zv_0 ze]; simp; done) | (rw [y1, y2]; omega))) ?_
      refine s_one (.agg #[.int .i64 mw, .int .i64 md, .int .i64 ms, .int .i64 mt]) A64 S41 (g_load (g := g3) (off := 0) 0 (by kernel_rfl) rfl (by kernel_rfl)) rfl (fun ac A65 => ?_)
      refine s_want (dj := 45) (b := (decide (ufE mw md ms mt z ≠ 0))) A65 (by kernel_rfl) (by kernel_rfl) (decide_eq_false (by first | rfl | assumption | omega | (simp only [zv_n zu]; done) | (simp only [zv_0 ze]; done) | (simp only [zv_0 ze]; simp; done) | (rw [y1, y2]; omega))) ?_
      refine s_one (.int .i64 z) A65 S41 (g_move (by kernel_rfl)) rfl (fun ac A66 => ?_)
      refine s_want (dj := 45) (b := (decide (ufE mw md ms mt z ≠ 0))) A66 (by kernel_rfl) (by kernel_rfl) (decide_eq_false (by first | rfl | assumption | omega | (simp only [zv_n zu]; done) | (simp only [zv_0 ze]; done) | (simp only [zv_0 ze]; simp; done) | (rw [y1, y2]; omega))) ?_
      have q70 := unf_bd (ms := ms) (mt := mt) (z := z) (by omega) (by omega) (by omega)
      refine s_call (fs := #[]) (cp := #[]) (r := [(0, .agg #[.int .i64 mw, .int .i64 md, .int .i64 ms, .int .i64 mt]), (0, .int .i64 z)]) #[.agg #[.int .i64 mw, .int .i64 md, .int .i64 ms, .int .i64 mt], .int .i64 z] (.int .i64 (unf ms mt z)) A66 S41 (refUnfolded_s mw md ms mt z _ (by omega) (by omega) (by omega)) Try.call33 (by kernel_rfl) (by kernel_rfl) (by kernel_rfl) rfl (fun ac wc A67 S68 => ?_)
      refine s_want (dj := 45) (b := (decide (ufE mw md ms mt z ≠ 0))) A67 (by kernel_rfl) (by kernel_rfl) (decide_eq_false (by first | rfl | assumption | omega | (simp only [zv_n zu]; done) | (simp only [zv_0 ze]; done) | (simp only [zv_0 ze]; simp; done) | (rw [y1, y2]; omega))) ?_
      refine s_one (.bool (decide (zv (ufE mw md ms mt z) (unf ms mt z) ≠ unf ms mt z))) A67 S68 (g_bin (u := .int .i64 (zv (ufE mw md ms mt z) (unf ms mt z))) (k := .int .i64 (unf ms mt z)) (by kernel_rfl) (by kernel_rfl) (fun _ => by kernel_rfl) b_neq) rfl (fun ac A71 => ?_)
      refine s_one (.bool (decide (zv (ufE mw md ms mt z) (unf ms mt z) ≠ unf ms mt z))) A71 S68 (g_pick_f (b := (decide (ufE mw md ms mt z ≠ 0))) (by kernel_rfl) (decide_eq_false (by first | rfl | assumption | omega | (simp only [zv_n zu]; done) | (simp only [zv_0 ze]; done) | (simp only [zv_0 ze]; simp; done) | (rw [y1, y2]; omega))) (by kernel_rfl)) rfl (fun ac A72 => ?_)
      refine wpList_nil ?_
      refine n_then ?_
      refine c_f (b := (decide (zv (ufE mw md ms mt z) (unf ms mt z) ≠ unf ms mt z))) A72 (by kernel_rfl) (decide_eq_false (by first | rfl | assumption | omega | (simp only [zv_n zu]; done) | (simp only [zv_0 ze]; done) | (simp only [zv_0 ze]; simp; done) | (rw [y1, y2]; omega))) ?_
      refine wp_skip ?_
      refine n_then ?_
      refine wp_seq ?_
      refine wp_seq ?_
      refine c_cut (fun ac wc => Fr 85 ac [(60, .bool ((decide ((ms).tmod 2 ≠ 0)) || (decide (ms = 4)))), (0, .agg #[.int .i64 mw, .int .i64 md, .int .i64 ms, .int .i64 mt]), (1, .int .i64 z), (2, .pointer (some ⟨g3, 0, none⟩)), (4, .bool false), (10, .bool true), (11, .bool false), (13, .agg #[.int .i64 mw, .int .i64 md, .int .i64 ms, .int .i64 mt]), (14, .int .i64 z), (15, .tuple #[.int .i64 (zv (ufE mw md ms mt z) (unf ms mt z)), .int .i64 (ufE mw md ms mt z)]), (12, .tuple #[.int .i64 (zv (ufE mw md ms mt z) (unf ms mt z)), .int .i64 (ufE mw md ms mt z)]), (16, .int .i64 (zv (ufE mw md ms mt z) (unf ms mt z))), (17, .int .i64 (ufE mw md ms mt z)), (5, .int .i64 (zv (ufE mw md ms mt z) (unf ms mt z))), (6, .int .i64 (ufE mw md ms mt z)), (18, .agg #[.int .i64 mw, .int .i64 md, .int .i64 ms, .int .i64 mt]), (19, .int .i64 (mdE mw md ms mt)), (7, .int .i64 (mdE mw md ms mt)), (20, .agg #[.int .i64 mw, .int .i64 md, .int .i64 ms, .int .i64 mt]), (21, .int .i64 (mdE mw md ms mt)), (22, .int .i64 (mdE mw md ms mt)), (23, .bool (decide (mdE mw md ms mt ≠ mdE mw md ms mt))), (24, .int .i64 (mdE mw md ms mt)), (25, .bool (decide (mdE mw md ms mt = 0))), (26, .bool (decide (mdE mw md ms mt = 0))), (27, .int .i64 z), (28, .pointer (some ⟨g3, 3, none⟩)), (29, .int .i64 mt), (30, .int .i64 (mt - 1)), (31, .bool (inB z 1 (mt - 1))), (32, .bool (!(inB z 1 (mt - 1)))), (33, .bool (!(inB z 1 (mt - 1)))), (34, .int .i64 (mdE mw md ms mt)), (35, .bool (decide (mdE mw md ms mt ≠ 0))), (43, .int .i64 (ufE mw md ms mt z)), (44, .bool (decide (ufE mw md ms mt z ≠ 0))), (45, .bool (decide (ufE mw md ms mt z ≠ 0))), (46, .int .i64 (zv (ufE mw md ms mt z) (unf ms mt z))), (47, .agg #[.int .i64 mw, .int .i64 md, .int .i64 ms, .int .i64 mt]), (48, .int .i64 z), (49, .int .i64 (unf ms mt z)), (50, .bool (decide (zv (ufE mw md ms mt z) (unf ms mt z) ≠ unf ms mt z))), (51, .bool (decide (zv (ufE mw md ms mt z) (unf ms mt z) ≠ unf ms mt z)))] ∧ St w0 [⟨g3, 39, #[.int .i64 mw, .int .i64 md, .int .i64 ms, .int .i64 mt], true⟩] [] wc) ?_ ?_
      · refine wp_region_lit ?_
        refine s_one (.pointer (some ⟨g3, 2, none⟩)) A72 S68 (g_field (u := .pointer (some ⟨g3, 0, none⟩)) (by kernel_rfl) (fun _ => by kernel_rfl)) rfl (fun ac A73 => ?_)
        refine s_one (.int .i64 ms) A73 S68 (g_load (g := g3) (off := 2) 0 (by kernel_rfl) rfl (by kernel_rfl)) rfl (fun ac A74 => ?_)
        refine s_one (.int .i64 ((ms).tmod 2)) A74 S68 (g_bin (u := .int .i64 ms) (k := .int .i64 2) (by kernel_rfl) (by kernel_rfl) (fun _ => by kernel_rfl) (b_rem (by omega))) rfl (fun ac A75 => ?_)
        refine s_one (.bool (decide ((ms).tmod 2 ≠ 0))) A75 S68 (g_bin (u := .int .i64 ((ms).tmod 2)) (k := .int .i64 0) (by kernel_rfl) (by kernel_rfl) (fun _ => by kernel_rfl) b_neq) rfl (fun ac A76 => ?_)
        refine s_one (.bool (decide ((ms).tmod 2 ≠ 0))) A76 S68 (g_move (by kernel_rfl)) rfl (fun ac A77 => ?_)
        refine by_bool (decide ((ms).tmod 2 ≠ 0)) (fun h78 => ?_) (fun h78 => ?_)
        · have p79 := of_decide_eq_true h78
          refine s_not (dj := 56) (b := (decide ((ms).tmod 2 ≠ 0))) A77 (by kernel_rfl) (by kernel_rfl) h78 rfl (fun ac A80 => ?_)
          refine s_not (dj := 56) (b := (decide ((ms).tmod 2 ≠ 0))) A80 (by kernel_rfl) (by kernel_rfl) h78 rfl (fun ac A81 => ?_)
          refine s_not (dj := 56) (b := (decide ((ms).tmod 2 ≠ 0))) A81 (by kernel_rfl) (by kernel_rfl) h78 rfl (fun ac A82 => ?_)
          refine s_one (.bool true) A82 S68 (g_pick_t (b := (decide ((ms).tmod 2 ≠ 0))) (by kernel_rfl) h78 (by kernel_rfl)) rfl (fun ac A83 => ?_)
          refine wpList_nil ?_
          refine n_then ?_
          exact ⟨(A83.slot (A83.slot (A83.slot (A83.slot (A83.slot (A83.slot (A83.slot (A83.slot (A83.slot (A83.slot (A83.slot (A83.slot (A83.slot (A83.slot (A83.slot (A83.slot (A83.slot (A83.slot (A83.slot (A83.slot (A83.slot (A83.slot (A83.slot (A83.slot (A83.slot (A83.slot (A83.slot (A83.slot (A83.slot (A83.slot (A83.slot (A83.slot (A83.slot (A83.slot (A83.slot (A83.slot (A83.slot (A83.slot (A83.slot (A83.slot (A83.slot (A83.slot (A83.slot A83.nil (v := .bool (decide (zv (ufE mw md ms mt z) (unf ms mt z) ≠ unf ms mt z))) (by kernel_rfl) rfl) (v := .bool (decide (zv (ufE mw md ms mt z) (unf ms mt z) ≠ unf ms mt z))) (by kernel_rfl) rfl) (v := .int .i64 (unf ms mt z)) (by kernel_rfl) rfl) (v := .int .i64 z) (by kernel_rfl) rfl) (v := .agg #[.int .i64 mw, .int .i64 md, .int .i64 ms, .int .i64 mt]) (by kernel_rfl) rfl) (v := .int .i64 (zv (ufE mw md ms mt z) (unf ms mt z))) (by kernel_rfl) rfl) (v := .bool (decide (ufE mw md ms mt z ≠ 0))) (by kernel_rfl) rfl) (v := .bool (decide (ufE mw md ms mt z ≠ 0))) (by kernel_rfl) rfl) (v := .int .i64 (ufE mw md ms mt z)) (by kernel_rfl) rfl) (v := .bool (decide (mdE mw md ms mt ≠ 0))) (by kernel_rfl) rfl) (v := .int .i64 (mdE mw md ms mt)) (by kernel_rfl) rfl) (v := .bool (!(inB z 1 (mt - 1)))) (by kernel_rfl) rfl) (v := .bool (!(inB z 1 (mt - 1)))) (by kernel_rfl) rfl) (v := .bool (inB z 1 (mt - 1))) (by kernel_rfl) rfl) (v := .int .i64 (mt - 1)) (by kernel_rfl) rfl) (v := .int .i64 mt) (by kernel_rfl) rfl) (v := .pointer (some ⟨g3, 3, none⟩)) (by kernel_rfl) rfl) (v := .int .i64 z) (by kernel_rfl) rfl) (v := .bool (decide (mdE mw md ms mt = 0))) (by kernel_rfl) rfl) (v := .bool (decide (mdE mw md ms mt = 0))) (by kernel_rfl) rfl) (v := .int .i64 (mdE mw md ms mt)) (by kernel_rfl) rfl) (v := .bool (decide (mdE mw md ms mt ≠ mdE mw md ms mt))) (by kernel_rfl) rfl) (v := .int .i64 (mdE mw md ms mt)) (by kernel_rfl) rfl) (v := .int .i64 (mdE mw md ms mt)) (by kernel_rfl) rfl) (v := .agg #[.int .i64 mw, .int .i64 md, .int .i64 ms, .int .i64 mt]) (by kernel_rfl) rfl) (v := .int .i64 (mdE mw md ms mt)) (by kernel_rfl) rfl) (v := .int .i64 (mdE mw md ms mt)) (by kernel_rfl) rfl) (v := .agg #[.int .i64 mw, .int .i64 md, .int .i64 ms, .int .i64 mt]) (by kernel_rfl) rfl) (v := .int .i64 (ufE mw md ms mt z)) (by kernel_rfl) rfl) (v := .int .i64 (zv (ufE mw md ms mt z) (unf ms mt z))) (by kernel_rfl) rfl) (v := .int .i64 (ufE mw md ms mt z)) (by kernel_rfl) rfl) (v := .int .i64 (zv (ufE mw md ms mt z) (unf ms mt z))) (by kernel_rfl) rfl) (v := .tuple #[.int .i64 (zv (ufE mw md ms mt z) (unf ms mt z)), .int .i64 (ufE mw md ms mt z)]) (by kernel_rfl) rfl) (v := .tuple #[.int .i64 (zv (ufE mw md ms mt z) (unf ms mt z)), .int .i64 (ufE mw md ms mt z)]) (by kernel_rfl) rfl) (v := .int .i64 z) (by kernel_rfl) rfl) (v := .agg #[.int .i64 mw, .int .i64 md, .int .i64 ms, .int .i64 mt]) (by kernel_rfl) rfl) (v := .bool false) (by kernel_rfl) rfl) (v := .bool true) (by kernel_rfl) rfl) (v := .bool false) (by kernel_rfl) rfl) (v := .pointer (some ⟨g3, 0, none⟩)) (by kernel_rfl) rfl) (v := .int .i64 z) (by kernel_rfl) rfl) (v := .agg #[.int .i64 mw, .int .i64 md, .int .i64 ms, .int .i64 mt]) (by kernel_rfl) rfl) (v := .bool true) (by kernel_rfl) (congrArg Value.bool (b_ot1 h78).symm)), S68.sub sub_all sub_all⟩
        · have p84 := of_decide_eq_false h78
          refine s_want (dj := 56) (b := (decide ((ms).tmod 2 ≠ 0))) A77 (by kernel_rfl) (by kernel_rfl) h78 ?_
          refine s_one (.pointer (some ⟨g3, 2, none⟩)) A77 S68 (g_field (u := .pointer (some ⟨g3, 0, none⟩)) (by kernel_rfl) (fun _ => by kernel_rfl)) rfl (fun ac A85 => ?_)
          refine s_want (dj := 56) (b := (decide ((ms).tmod 2 ≠ 0))) A85 (by kernel_rfl) (by kernel_rfl) h78 ?_
          refine s_one (.int .i64 ms) A85 S68 (g_load (g := g3) (off := 2) 0 (by kernel_rfl) rfl (by kernel_rfl)) rfl (fun ac A86 => ?_)
          refine s_want (dj := 56) (b := (decide ((ms).tmod 2 ≠ 0))) A86 (by kernel_rfl) (by kernel_rfl) h78 ?_
          refine s_one (.bool (decide (ms = 4))) A86 S68 (g_bin (u := .int .i64 ms) (k := .int .i64 4) (by kernel_rfl) (by kernel_rfl) (fun _ => by kernel_rfl) b_eql) rfl (fun ac A87 => ?_)
          refine s_one (.bool (decide (ms = 4))) A87 S68 (g_pick_f (b := (decide ((ms).tmod 2 ≠ 0))) (by kernel_rfl) h78 (by kernel_rfl)) rfl (fun ac A88 => ?_)
          refine wpList_nil ?_
          refine n_then ?_
          exact ⟨(A88.slot (A88.slot (A88.slot (A88.slot (A88.slot (A88.slot (A88.slot (A88.slot (A88.slot (A88.slot (A88.slot (A88.slot (A88.slot (A88.slot (A88.slot (A88.slot (A88.slot (A88.slot (A88.slot (A88.slot (A88.slot (A88.slot (A88.slot (A88.slot (A88.slot (A88.slot (A88.slot (A88.slot (A88.slot (A88.slot (A88.slot (A88.slot (A88.slot (A88.slot (A88.slot (A88.slot (A88.slot (A88.slot (A88.slot (A88.slot (A88.slot (A88.slot (A88.slot A88.nil (v := .bool (decide (zv (ufE mw md ms mt z) (unf ms mt z) ≠ unf ms mt z))) (by kernel_rfl) rfl) (v := .bool (decide (zv (ufE mw md ms mt z) (unf ms mt z) ≠ unf ms mt z))) (by kernel_rfl) rfl) (v := .int .i64 (unf ms mt z)) (by kernel_rfl) rfl) (v := .int .i64 z) (by kernel_rfl) rfl) (v := .agg #[.int .i64 mw, .int .i64 md, .int .i64 ms, .int .i64 mt]) (by kernel_rfl) rfl) (v := .int .i64 (zv (ufE mw md ms mt z) (unf ms mt z))) (by kernel_rfl) rfl) (v := .bool (decide (ufE mw md ms mt z ≠ 0))) (by kernel_rfl) rfl) (v := .bool (decide (ufE mw md ms mt z ≠ 0))) (by kernel_rfl) rfl) (v := .int .i64 (ufE mw md ms mt z)) (by kernel_rfl) rfl) (v := .bool (decide (mdE mw md ms mt ≠ 0))) (by kernel_rfl) rfl) (v := .int .i64 (mdE mw md ms mt)) (by kernel_rfl) rfl) (v := .bool (!(inB z 1 (mt - 1)))) (by kernel_rfl) rfl) (v := .bool (!(inB z 1 (mt - 1)))) (by kernel_rfl) rfl) (v := .bool (inB z 1 (mt - 1))) (by kernel_rfl) rfl) (v := .int .i64 (mt - 1)) (by kernel_rfl) rfl) (v := .int .i64 mt) (by kernel_rfl) rfl) (v := .pointer (some ⟨g3, 3, none⟩)) (by kernel_rfl) rfl) (v := .int .i64 z) (by kernel_rfl) rfl) (v := .bool (decide (mdE mw md ms mt = 0))) (by kernel_rfl) rfl) (v := .bool (decide (mdE mw md ms mt = 0))) (by kernel_rfl) rfl) (v := .int .i64 (mdE mw md ms mt)) (by kernel_rfl) rfl) (v := .bool (decide (mdE mw md ms mt ≠ mdE mw md ms mt))) (by kernel_rfl) rfl) (v := .int .i64 (mdE mw md ms mt)) (by kernel_rfl) rfl) (v := .int .i64 (mdE mw md ms mt)) (by kernel_rfl) rfl) (v := .agg #[.int .i64 mw, .int .i64 md, .int .i64 ms, .int .i64 mt]) (by kernel_rfl) rfl) (v := .int .i64 (mdE mw md ms mt)) (by kernel_rfl) rfl) (v := .int .i64 (mdE mw md ms mt)) (by kernel_rfl) rfl) (v := .agg #[.int .i64 mw, .int .i64 md, .int .i64 ms, .int .i64 mt]) (by kernel_rfl) rfl) (v := .int .i64 (ufE mw md ms mt z)) (by kernel_rfl) rfl) (v := .int .i64 (zv (ufE mw md ms mt z) (unf ms mt z))) (by kernel_rfl) rfl) (v := .int .i64 (ufE mw md ms mt z)) (by kernel_rfl) rfl) (v := .int .i64 (zv (ufE mw md ms mt z) (unf ms mt z))) (by kernel_rfl) rfl) (v := .tuple #[.int .i64 (zv (ufE mw md ms mt z) (unf ms mt z)), .int .i64 (ufE mw md ms mt z)]) (by kernel_rfl) rfl) (v := .tuple #[.int .i64 (zv (ufE mw md ms mt z) (unf ms mt z)), .int .i64 (ufE mw md ms mt z)]) (by kernel_rfl) rfl) (v := .int .i64 z) (by kernel_rfl) rfl) (v := .agg #[.int .i64 mw, .int .i64 md, .int .i64 ms, .int .i64 mt]) (by kernel_rfl) rfl) (v := .bool false) (by kernel_rfl) rfl) (v := .bool true) (by kernel_rfl) rfl) (v := .bool false) (by kernel_rfl) rfl) (v := .pointer (some ⟨g3, 0, none⟩)) (by kernel_rfl) rfl) (v := .int .i64 z) (by kernel_rfl) rfl) (v := .agg #[.int .i64 mw, .int .i64 md, .int .i64 ms, .int .i64 mt]) (by kernel_rfl) rfl) (v := .bool (decide (ms = 4))) (by kernel_rfl) (congrArg Value.bool (b_or_f h78 (Eq.refl (decide (ms = 4)))).symm)), S68.sub sub_all sub_all⟩
      · rintro ac wc ⟨A89, S90⟩
        refine n_then ?_
        refine c_ifb (b := ((decide ((ms).tmod 2 ≠ 0)) || (decide (ms = 4)))) A89 (by kernel_rfl) (fun h91 => ?_) (fun h91 => ?_)
        · refine wp_seq ?_
          refine wp_region_lit ?_
          refine s_one (.bool true) A89 S90 (g_assign (by kernel_rfl)) rfl (fun ac A92 => ?_)
          refine wpList_nil ?_
          refine n_then ?_
          refine wp_ret ?_
          refine r_then ?_
          refine fin1 (.bool true) Try.results6 A92 S90 (rv_tmp (by kernel_rfl)) ⟨?_, S90.kp⟩
          rfl
        · have h93 := (Bool.or_eq_false_iff.1 h91).1
          have p94 := of_decide_eq_false h93
          have h95 := (Bool.or_eq_false_iff.1 h91).2
          have p96 := of_decide_eq_false h95
          have tw := unf_two (mt := mt) (z := z) zz.2.2.1 (by omega) (of_decide_eq_false h95)
          have zm2 := mdE_of zz.1 zz.2.1 (show 0 ≤ ms + 1 ∧ ms + 1 ≤ 4 by omega) zz.2.2.2
          have ze2 := ufE_y zm2 (inB_true.2 hz)
          have ub2 := unf_bd (z := z) (show 0 ≤ ms + 1 ∧ ms + 1 ≤ 4 by omega) zz.2.2.2 hz
          have y1 := zv_0 ze (unf ms mt z)
          have y2 := zv_0 ze2 (unf (ms + 1) mt z)
          refine wp_skip ?_
          refine n_then ?_
          refine wp_seq ?_
          refine wp_region_lit ?_
          refine s_one (.pointer (some ⟨g3, 2, none⟩)) A89 S90 (g_field (u := .pointer (some ⟨g3, 0, none⟩)) (by kernel_rfl) (fun _ => by kernel_rfl)) rfl (fun ac A97 => ?_)
          refine s_one (.int .i64 ms) A97 S90 (g_load (g := g3) (off := 2) 0 (by kernel_rfl) rfl (by kernel_rfl)) rfl (fun ac A98 => ?_)
          refine s_one (.int .i64 (ms + 1)) A98 S90 (g_bin (u := .int .i64 ms) (k := .int .i64 1) (by kernel_rfl) (by kernel_rfl) (fun _ => by kernel_rfl) (b_add (by omega))) rfl (fun ac A99 => ?_)
          refine s_one (.pointer (some ⟨g3, 2, none⟩)) A99 S90 (g_field (u := .pointer (some ⟨g3, 0, none⟩)) (by kernel_rfl) (fun _ => by kernel_rfl)) rfl (fun ac A100 => ?_)
          refine s_store (g := g3) (off := 2) (v := .int .i64 (ms + 1)) 0 (#[.int .i64 mw, .int .i64 md, .int .i64 (ms + 1), .int .i64 mt]) A100 S90 (by kernel_rfl) (by kernel_rfl) rfl (by kernel_rfl) (fun wc S102 => ?_)
          refine wpList_nil ?_
          refine n_then ?_
          refine wp_seq ?_
          refine wp_region_lit ?_
          refine s_one (.agg #[.int .i64 mw, .int .i64 md, .int .i64 (ms + 1), .int .i64 mt]) A100 S102 (g_load (g := g3) (off := 0) 0 (by kernel_rfl) rfl (by kernel_rfl)) rfl (fun ac A104 => ?_)
          refine s_one (.int .i64 z) A104 S102 (g_move (by kernel_rfl)) rfl (fun ac A105 => ?_)
          refine s_call (fs := #[]) (cp := #[]) (r := [(0, .agg #[.int .i64 mw, .int .i64 md, .int .i64 (ms + 1), .int .i64 mt]), (0, .int .i64 z)]) #[.agg #[.int .i64 mw, .int .i64 md, .int .i64 (ms + 1), .int .i64 mt], .int .i64 z] (.tuple #[.int .i64 (zv (ufE mw md (ms + 1) mt z) (unf (ms + 1) mt z)), .int .i64 (ufE mw md (ms + 1) mt z)]) A105 S102 (Unfolded_s mw md (ms + 1) mt z _) Try.call30 (by kernel_rfl) (by kernel_rfl) (by kernel_rfl) rfl (fun ac wc A106 S107 => ?_)
          refine s_one (.tuple #[.int .i64 (zv (ufE mw md (ms + 1) mt z) (unf (ms + 1) mt z)), .int .i64 (ufE mw md (ms + 1) mt z)]) A106 S107 (g_move (by kernel_rfl)) rfl (fun ac A109 => ?_)
          refine s_one (.int .i64 (zv (ufE mw md (ms + 1) mt z) (unf (ms + 1) mt z))) A109 S107 (g_extract (u := .tuple #[.int .i64 (zv (ufE mw md (ms + 1) mt z) (unf (ms + 1) mt z)), .int .i64 (ufE mw md (ms + 1) mt z)]) (by kernel_rfl) (fun _ => by kernel_rfl)) rfl (fun ac A110 => ?_)
          refine s_one (.int .i64 (ufE mw md (ms + 1) mt z)) A110 S107 (g_extract (u := .tuple #[.int .i64 (zv (ufE mw md (ms + 1) mt z) (unf (ms + 1) mt z)), .int .i64 (ufE mw md (ms + 1) mt z)]) (by kernel_rfl) (fun _ => by kernel_rfl)) rfl (fun ac A111 => ?_)
          refine s_one (.int .i64 (zv (ufE mw md (ms + 1) mt z) (unf (ms + 1) mt z))) A111 S107 (g_assign (by kernel_rfl)) rfl (fun ac A112 => ?_)
          refine s_one (.int .i64 (ufE mw md (ms + 1) mt z)) A112 S107 (g_assign (by kernel_rfl)) rfl (fun ac A113 => ?_)
          refine wpList_nil ?_
          refine n_then ?_
          refine wp_seq ?_
          refine wp_region_lit ?_
          refine s_one (.int .i64 (ufE mw md (ms + 1) mt z)) A113 S107 (g_move (by kernel_rfl)) rfl (fun ac A114 => ?_)
          refine s_one (.bool (decide (ufE mw md (ms + 1) mt z = 0))) A114 S107 (g_bin (u := .int .i64 (ufE mw md (ms + 1) mt z)) (k := .int .i64 0) (by kernel_rfl) (by kernel_rfl) (fun _ => by kernel_rfl) b_eql) rfl (fun ac A115 => ?_)
          refine s_one (.bool (decide (ufE mw md (ms + 1) mt z = 0))) A115 S107 (g_move (by kernel_rfl)) rfl (fun ac A116 => ?_)
          refine s_want (dj := 73) (b := (decide (ufE mw md (ms + 1) mt z = 0))) A116 (by kernel_rfl) (by kernel_rfl) (decide_eq_true (by first | rfl | assumption | omega | (simp only [zv_n zu]; done) | (simp only [zv_0 ze]; done) | (simp only [zv_0 ze]; simp; done) | (rw [y1, y2]; omega))) ?_
          refine s_one (.int .i64 (zv (ufE mw md ms mt z) (unf ms mt z))) A116 S107 (g_move (by kernel_rfl)) rfl (fun ac A117 => ?_)
          refine s_want (dj := 73) (b := (decide (ufE mw md (ms + 1) mt z = 0))) A117 (by kernel_rfl) (by kernel_rfl) (decide_eq_true (by first | rfl | assumption | omega | (simp only [zv_n zu]; done) | (simp only [zv_0 ze]; done) | (simp only [zv_0 ze]; simp; done) | (rw [y1, y2]; omega))) ?_
          refine s_one (.int .i64 (zv (ufE mw md (ms + 1) mt z) (unf (ms + 1) mt z))) A117 S107 (g_move (by kernel_rfl)) rfl (fun ac A118 => ?_)
          refine s_want (dj := 73) (b := (decide (ufE mw md (ms + 1) mt z = 0))) A118 (by kernel_rfl) (by kernel_rfl) (decide_eq_true (by first | rfl | assumption | omega | (simp only [zv_n zu]; done) | (simp only [zv_0 ze]; done) | (simp only [zv_0 ze]; simp; done) | (rw [y1, y2]; omega))) ?_
          refine s_one (.int .i64 (zv (ufE mw md ms mt z) (unf ms mt z) + (zv (ufE mw md (ms + 1) mt z) (unf (ms + 1) mt z)))) A118 S107 (g_bin (u := .int .i64 (zv (ufE mw md ms mt z) (unf ms mt z))) (k := .int .i64 (zv (ufE mw md (ms + 1) mt z) (unf (ms + 1) mt z))) (by kernel_rfl) (by kernel_rfl) (fun _ => by kernel_rfl) (b_add (by omega))) rfl (fun ac A119 => ?_)
          refine s_want (dj := 73) (b := (decide (ufE mw md (ms + 1) mt z = 0))) A119 (by kernel_rfl) (by kernel_rfl) (decide_eq_true (by first | rfl | assumption | omega | (simp only [zv_n zu]; done) | (simp only [zv_0 ze]; done) | (simp only [zv_0 ze]; simp; done) | (rw [y1, y2]; omega))) ?_
          refine s_one (.pointer (some ⟨g3, 3, none⟩)) A119 S107 (g_field (u := .pointer (some ⟨g3, 0, none⟩)) (by kernel_rfl) (fun _ => by kernel_rfl)) rfl (fun ac A120 => ?_)
          refine s_want (dj := 73) (b := (decide (ufE mw md (ms + 1) mt z = 0))) A120 (by kernel_rfl) (by kernel_rfl) (decide_eq_true (by first | rfl | assumption | omega | (simp only [zv_n zu]; done) | (simp only [zv_0 ze]; done) | (simp only [zv_0 ze]; simp; done) | (rw [y1, y2]; omega))) ?_
          refine s_one (.int .i64 mt) A120 S107 (g_load (g := g3) (off := 3) 0 (by kernel_rfl) rfl (by kernel_rfl)) rfl (fun ac A121 => ?_)
          refine s_want (dj := 73) (b := (decide (ufE mw md (ms + 1) mt z = 0))) A121 (by kernel_rfl) (by kernel_rfl) (decide_eq_true (by first | rfl | assumption | omega | (simp only [zv_n zu]; done) | (simp only [zv_0 ze]; done) | (simp only [zv_0 ze]; simp; done) | (rw [y1, y2]; omega))) ?_
          refine s_one (.int .i64 (2 * mt)) A121 S107 (g_bin (u := .int .i64 2) (k := .int .i64 mt) (by kernel_rfl) (by kernel_rfl) (fun _ => by kernel_rfl) (b_mul (by omega))) rfl (fun ac A122 => ?_)
          refine s_want (dj := 73) (b := (decide (ufE mw md (ms + 1) mt z = 0))) A122 (by kernel_rfl) (by kernel_rfl) (decide_eq_true (by first | rfl | assumption | omega | (simp only [zv_n zu]; done) | (simp only [zv_0 ze]; done) | (simp only [zv_0 ze]; simp; done) | (rw [y1, y2]; omega))) ?_
          refine s_one (.pointer (some ⟨g3, 2, none⟩)) A122 S107 (g_field (u := .pointer (some ⟨g3, 0, none⟩)) (by kernel_rfl) (fun _ => by kernel_rfl)) rfl (fun ac A123 => ?_)
          refine s_want (dj := 73) (b := (decide (ufE mw md (ms + 1) mt z = 0))) A123 (by kernel_rfl) (by kernel_rfl) (decide_eq_true (by first | rfl | assumption | omega | (simp only [zv_n zu]; done) | (simp only [zv_0 ze]; done) | (simp only [zv_0 ze]; simp; done) | (rw [y1, y2]; omega))) ?_
          refine s_one (.int .i64 (ms + 1)) A123 S107 (g_load (g := g3) (off := 2) 0 (by kernel_rfl) rfl (by kernel_rfl)) rfl (fun ac A124 => ?_)
          refine s_want (dj := 73) (b := (decide (ufE mw md (ms + 1) mt z = 0))) A124 (by kernel_rfl) (by kernel_rfl) (decide_eq_true (by first | rfl | assumption | omega | (simp only [zv_n zu]; done) | (simp only [zv_0 ze]; done) | (simp only [zv_0 ze]; simp; done) | (rw [y1, y2]; omega))) ?_
          refine s_one (.int .i64 ((2 * mt) * (ms + 1))) A124 S107 (g_bin (u := .int .i64 (2 * mt)) (k := .int .i64 (ms + 1)) (by kernel_rfl) (by kernel_rfl) (fun _ => by kernel_rfl) (b_mul (by omega))) rfl (fun ac A125 => ?_)
          refine s_want (dj := 73) (b := (decide (ufE mw md (ms + 1) mt z = 0))) A125 (by kernel_rfl) (by kernel_rfl) (decide_eq_true (by first | rfl | assumption | omega | (simp only [zv_n zu]; done) | (simp only [zv_0 ze]; done) | (simp only [zv_0 ze]; simp; done) | (rw [y1, y2]; omega))) ?_
          refine s_one (.bool (decide (zv (ufE mw md ms mt z) (unf ms mt z) + (zv (ufE mw md (ms + 1) mt z) (unf (ms + 1) mt z)) = (2 * mt) * (ms + 1)))) A125 S107 (g_bin (u := .int .i64 (zv (ufE mw md ms mt z) (unf ms mt z) + (zv (ufE mw md (ms + 1) mt z) (unf (ms + 1) mt z)))) (k := .int .i64 ((2 * mt) * (ms + 1))) (by kernel_rfl) (by kernel_rfl) (fun _ => by kernel_rfl) b_eql) rfl (fun ac A126 => ?_)
          refine s_one (.bool (decide (zv (ufE mw md ms mt z) (unf ms mt z) + (zv (ufE mw md (ms + 1) mt z) (unf (ms + 1) mt z)) = (2 * mt) * (ms + 1)))) A126 S107 (g_pick_t (b := (decide (ufE mw md (ms + 1) mt z = 0))) (by kernel_rfl) (decide_eq_true (by first | rfl | assumption | omega | (simp only [zv_n zu]; done) | (simp only [zv_0 ze]; done) | (simp only [zv_0 ze]; simp; done) | (rw [y1, y2]; omega))) (by kernel_rfl)) rfl (fun ac A127 => ?_)
          refine s_one (.bool (decide (zv (ufE mw md ms mt z) (unf ms mt z) + (zv (ufE mw md (ms + 1) mt z) (unf (ms + 1) mt z)) = (2 * mt) * (ms + 1)))) A127 S107 (g_assign (by kernel_rfl)) rfl (fun ac A128 => ?_)
          refine wpList_nil ?_
          refine n_then ?_
          refine wp_ret ?_
          refine fin1 (.bool (decide (zv (ufE mw md ms mt z) (unf ms mt z) + (zv (ufE mw md (ms + 1) mt z) (unf (ms + 1) mt z)) = (2 * mt) * (ms + 1)))) Try.results6 A128 S107 (rv_tmp (by kernel_rfl)) ⟨?_, S107.kp⟩
          exact congrArg (fun b => Ending.returned (Value.bool b)) (decide_eq_true (by first | rfl | assumption | omega | (simp only [zv_n zu]; done) | (simp only [zv_0 ze]; done) | (simp only [zv_0 ze]; simp; done) | (rw [y1, y2]; omega)))
  · have p129 := of_decide_eq_false h34
    have zn := of_decide_eq_false h34
    have eu : ufE mw md ms mt z = mdE mw md ms mt := ufE_w zn
    have zu : ufE mw md ms mt z ≠ 0 := eu ▸ zn
    refine s_not (dj := 26) (b := (decide (mdE mw md ms mt = 0))) A33 (by kernel_rfl) (by kernel_rfl) h34 rfl (fun ac A130 => ?_)
    refine s_not (dj := 26) (b := (decide (mdE mw md ms mt = 0))) A130 (by kernel_rfl) (by kernel_rfl) h34 rfl (fun ac A131 => ?_)
    refine s_not (dj := 26) (b := (decide (mdE mw md ms mt = 0))) A131 (by kernel_rfl) (by kernel_rfl) h34 rfl (fun ac A132 => ?_)
    refine s_not (dj := 26) (b := (decide (mdE mw md ms mt = 0))) A132 (by kernel_rfl) (by kernel_rfl) h34 rfl (fun ac A133 => ?_)
    refine s_not (dj := 26) (b := (decide (mdE mw md ms mt = 0))) A133 (by kernel_rfl) (by kernel_rfl) h34 rfl (fun ac A134 => ?_)
    refine s_not (dj := 26) (b := (decide (mdE mw md ms mt = 0))) A134 (by kernel_rfl) (by kernel_rfl) h34 rfl (fun ac A135 => ?_)
    refine s_one (.bool false) A135 S27 (g_pick_f (b := (decide (mdE mw md ms mt = 0))) (by kernel_rfl) h34 (by kernel_rfl)) rfl (fun ac A136 => ?_)
    refine wpList_nil ?_
    refine n_then ?_
    refine c_f (b := false) A136 (by kernel_rfl) rfl ?_
    refine wp_skip ?_
    refine n_then ?_
    refine wp_seq ?_
    refine wp_seq ?_
    refine wp_region_lit ?_
    refine s_one (.int .i64 (mdE mw md ms mt)) A136 S27 (g_move (by kernel_rfl)) rfl (fun ac A137 => ?_)
    refine s_one (.bool (decide (mdE mw md ms mt ≠ 0))) A137 S27 (g_bin (u := .int .i64 (mdE mw md ms mt)) (k := .int .i64 0) (by kernel_rfl) (by kernel_rfl) (fun _ => by kernel_rfl) b_neq) rfl (fun ac A138 => ?_)
    refine wpList_nil ?_
    refine n_then ?_
    refine c_t (b := (decide (mdE mw md ms mt ≠ 0))) A138 (by kernel_rfl) (decide_eq_true (by exact zn)) ?_
    refine wp_seq ?_
    refine wp_region_lit ?_
    refine s_one (.int .i64 (ufE mw md ms mt z)) A138 S27 (g_move (by kernel_rfl)) rfl (fun ac A139 => ?_)
    refine s_one (.int .i64 (mdE mw md ms mt)) A139 S27 (g_move (by kernel_rfl)) rfl (fun ac A140 => ?_)
    refine s_one (.bool (decide (ufE mw md ms mt z = mdE mw md ms mt))) A140 S27 (g_bin (u := .int .i64 (ufE mw md ms mt z)) (k := .int .i64 (mdE mw md ms mt)) (by kernel_rfl) (by kernel_rfl) (fun _ => by kernel_rfl) b_eql) rfl (fun ac A141 => ?_)
    refine s_one (.bool (decide (ufE mw md ms mt z = mdE mw md ms mt))) A141 S27 (g_move (by kernel_rfl)) rfl (fun ac A142 => ?_)
    refine s_want (dj := 39) (b := (decide (ufE mw md ms mt z = mdE mw md ms mt))) A142 (by kernel_rfl) (by kernel_rfl) (decide_eq_true (by first | rfl | assumption | omega | (simp only [zv_n zu]; done) | (simp only [zv_0 ze]; done) | (simp only [zv_0 ze]; simp; done) | (rw [y1, y2]; omega))) ?_
    refine s_one (.int .i64 (zv (ufE mw md ms mt z) (unf ms mt z))) A142 S27 (g_move (by kernel_rfl)) rfl (fun ac A143 => ?_)
    refine s_want (dj := 39) (b := (decide (ufE mw md ms mt z = mdE mw md ms mt))) A143 (by kernel_rfl) (by kernel_rfl) (decide_eq_true (by first | rfl | assumption | omega | (simp only [zv_n zu]; done) | (simp only [zv_0 ze]; done) | (simp only [zv_0 ze]; simp; done) | (rw [y1, y2]; omega))) ?_
    refine s_one (.bool (decide (zv (ufE mw md ms mt z) (unf ms mt z) = 0))) A143 S27 (g_bin (u := .int .i64 (zv (ufE mw md ms mt z) (unf ms mt z))) (k := .int .i64 0) (by kernel_rfl) (by kernel_rfl) (fun _ => by kernel_rfl) b_eql) rfl (fun ac A144 => ?_)
    refine s_one (.bool (decide (zv (ufE mw md ms mt z) (unf ms mt z) = 0))) A144 S27 (g_pick_t (b := (decide (ufE mw md ms mt z = mdE mw md ms mt))) (by kernel_rfl) (decide_eq_true (by first | rfl | assumption | omega | (simp only [zv_n zu]; done) | (simp only [zv_0 ze]; done) | (simp only [zv_0 ze]; simp; done) | (rw [y1, y2]; omega))) (by kernel_rfl)) rfl (fun ac A145 => ?_)
    refine s_one (.bool (decide (zv (ufE mw md ms mt z) (unf ms mt z) = 0))) A145 S27 (g_assign (by kernel_rfl)) rfl (fun ac A146 => ?_)
    refine wpList_nil ?_
    refine n_then ?_
    refine wp_ret ?_
    refine r_then ?_
    refine fin1 (.bool (decide (zv (ufE mw md ms mt z) (unf ms mt z) = 0))) Try.results6 A146 S27 (rv_tmp (by kernel_rfl)) ⟨?_, S27.kp⟩
    exact congrArg (fun b => Ending.returned (Value.bool b)) (decide_eq_true (by first | rfl | assumption | omega | (simp only [zv_n zu]; done) | (simp only [zv_0 ze]; done) | (simp only [zv_0 ze]; simp; done) | (rw [y1, y2]; omega)))

end Go.Proofs.Ytnfmfkejhgbipaa
