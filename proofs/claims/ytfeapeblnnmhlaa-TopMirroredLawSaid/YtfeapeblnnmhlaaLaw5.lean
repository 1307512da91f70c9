/- The example of chapter 2. -/
import Derived.Test.YtfeapeblnnmhlaaLaw4
import Derived.Test.YtfeapeblnnmhlaaRow
namespace Go.Proofs.Ytfeapeblnnmhlaa
open Go.RowKit Go.Cpl Go.Ray1

theorem cnt_of {n : Int} (h : 1 ≤ n ∧ n ≤ 16) : cnt_a_r n = 0 := by unfold cnt_a_r; rw [if_neg (by omega), if_neg (by omega)]
theorem clk_of {c : Int} (h : 1 ≤ c ∧ c ≤ 1000000) : clk_a_r c = 0 := by unfold clk_a_r; rw [inB_true.2 h]; rfl
theorem elE_of {el : List Int} {k : Nat} (h : (-100000 ≤ nthI el (k * 2) ∧ nthI el (k * 2) ≤ 100000) ∧ (-100000 ≤ nthI el (k * 2 + 1) ∧ nthI el (k * 2 + 1) ≤ 100000) ∧ nthI el (k * 2 + 1) < 0) : elE el k = 0 := by
  unfold elE
  rw [inB_true.2 h.1, inB_true.2 h.2.1]
  simp only [Bool.not_true, Bool.or_self, cond_false]
  rw [if_neg (by omega)]
theorem tkE_of {tl : List Int} {k : Nat} (h : -1 ≤ nthI tl k ∧ nthI tl k ≤ 1000000) : tkE tl k = 0 := by unfold tkE; rw [inB_true.2 h]; rfl
theorem arE_of {el : List Int} {n : Nat} {mw md ms mt ck : Int} (hn : 1 ≤ n ∧ n ≤ 16) (he : ∀ i, i < n → elE el i = 0) (hm : mdE mw md ms mt = 0) (hc : 1 ≤ ck ∧ ck ≤ 1000000) : arE el n mw md ms mt ck = 0 := by
  rw [(ar_3 (cnt_of (by omega)) he).1, fo_cons0 hm, fo_last]; exact clk_of hc
theorem lwE_of {tl : List Int} {m : Nat} {lc : Int} (hn : 1 ≤ m ∧ m ≤ 16) (ht : ∀ i, i < m → tkE tl i = 0) (hc : 1 ≤ lc ∧ lc ≤ 1000000) : lwE tl m lc = 0 :=
  (lw_3 (by rw [fo_cons0 (clk_of hc), fo_last]; exact cnt_of (by omega)) ht).1
theorem sp_bd {l : List Int} {N : Nat} (hN : 1 ≤ N) (hb : ∀ i, i < N * 2 → 0 ≤ nthI l i ∧ nthI l i ≤ 1012000000000) : -1012000000000 ≤ spHi l N ∧ spHi l N ≤ 1012000000000 := by
  have a := mn_bd (F := evens l) (n := N) (B := 1012000000000) hN (fun i hi => hb (i * 2) (by omega)) N (Nat.le_refl _)
  have b := mn_bd (F := odds l) (n := N) (B := 1012000000000) hN (fun i hi => hb (i * 2 + 1) (by omega)) N (Nat.le_refl _)
  unfold spHi
  omega

theorem lenL_v {x z r : Int} (h : IsRoot (lenN x z) r) : lenL x z = r := rt_eq h
theorem lenU_v {x z r : Int} (h : IsRoot (lenN x z) r) : lenU x z = if r * r < lenN x z then r + 1 else r := by unfold lenU rtU; rw [rt_eq h]
def cT0 : Cr := ⟨0, 300, 2500, 0, 400, 5000⟩
def cT1 : Cr := ⟨0, 600, 2500, 0, 400, 5000⟩
theorem cT0_ok : cT0.Ok := ⟨by decide, by decide, by decide, by decide, by decide, by decide⟩
theorem cT1_ok : cT1.Ok := ⟨by decide, by decide, by decide, by decide, by decide, by decide⟩
theorem cT0_crs : crs cT0 = 0 := crs_eq cT0_ok ⟨by decide, by decide, by decide, fun h => absurd h (by decide)⟩
theorem cT1_crs : crs cT1 = 0 := crs_eq cT1_ok ⟨by decide, by decide, by decide, fun h => absurd h (by decide)⟩
theorem q300 : IsRoot (lenN 0 300) 300000 := ⟨by decide, by decide, by decide⟩
theorem q400 : IsRoot (lenN 0 400) 400000 := ⟨by decide, by decide, by decide⟩
theorem q600 : IsRoot (lenN 0 600) 600000 := ⟨by decide, by decide, by decide⟩
theorem cT0_v : leLo cT0 = 1999981 ∧ mHi cT0 = 2000000 := by
  have a : timLo cT0 0 = 2000000 := by
    show tLo (lenL 0 300) 2500 + tLo (lenL 0 400) 5000 = 2000000
    rw [lenL_v q300, lenL_v q400]; decide
  have b : timHi cT0 0 = 2000000 := by
    show tHi (lenU 0 300) 2500 + tHi (lenU 0 400) 5000 = 2000000
    rw [lenU_v q300, lenU_v q400]; decide
  constructor
  · unfold leLo mLo
    rw [cT0_crs, if_neg (by decide), a]
    decide
  · unfold mHi
    rw [cT0_crs, if_neg (by decide), b]
theorem cT1_v : leLo cT1 = 3199988 ∧ mHi cT1 = 3200000 := by
  have a : timLo cT1 0 = 3200000 := by
    show tLo (lenL 0 600) 2500 + tLo (lenL 0 400) 5000 = 3200000
    rw [lenL_v q600, lenL_v q400]; decide
  have b : timHi cT1 0 = 3200000 := by
    show tHi (lenU 0 600) 2500 + tHi (lenU 0 400) 5000 = 3200000
    rw [lenU_v q600, lenU_v q400]; decide
  constructor
  · unfold leLo mLo
    rw [cT1_crs, if_neg (by decide), a]
    decide
  · unfold mHi
    rw [cT1_crs, if_neg (by decide), b]
theorem two_a : arE [0, -300, 0, -600] 2 2500 5000 0 1000 1000 = 0 := by decide
theorem two_p : plE 1000 0 400 = 0 := by decide
theorem two_t0 : tmR [0, -300, 0, -600] 2500 5000 0 1000 0 400 0 = 1999990 := by
  have e : opE 2500 5000 0 1000 0 (-300) 0 400 = 0 := by decide
  have w : wyC 2500 5000 0 1000 0 (-300) 0 400 = cT0 := by unfold wyC cT0; congr 1
  show (zv (opE 2500 5000 0 1000 0 (-300) 0 400) (leLo (wyC 2500 5000 0 1000 0 (-300) 0 400)) + zv (opE 2500 5000 0 1000 0 (-300) 0 400) (mHi (wyC 2500 5000 0 1000 0 (-300) 0 400))) / 2 = 1999990
  rw [w, zv_0 e, zv_0 e, cT0_v.1, cT0_v.2]; decide
theorem two_t1 : tmR [0, -300, 0, -600] 2500 5000 0 1000 0 400 1 = 3199994 := by
  have e : opE 2500 5000 0 1000 0 (-600) 0 400 = 0 := by decide
  have w : wyC 2500 5000 0 1000 0 (-600) 0 400 = cT1 := by unfold wyC cT1; congr 1
  show (zv (opE 2500 5000 0 1000 0 (-600) 0 400) (leLo (wyC 2500 5000 0 1000 0 (-600) 0 400)) + zv (opE 2500 5000 0 1000 0 (-600) 0 400) (mHi (wyC 2500 5000 0 1000 0 (-600) 0 400))) / 2 = 3199994
  rw [w, zv_0 e, zv_0 e, cT1_v.1, cT1_v.2]; decide
theorem two_r : tkF (tmR [0, -300, 0, -600] 2500 5000 0 1000 0 400) 2 = [1999990, 3199994] := by
  show [tmR [0, -300, 0, -600] 2500 5000 0 1000 0 400 0] ++ [tmR [0, -300, 0, -600] 2500 5000 0 1000 0 400 1] = _
  rw [two_t0, two_t1]; rfl
theorem two_E : fwE [0, -300, 0, -600] 2 2500 5000 0 1000 1000 0 400 = 0 := by
  rw [fwE_y two_a two_p, two_r]; decide
theorem two_L : bL (fwE [0, -300, 0, -600] 2 2500 5000 0 1000 1000 0 400) (tkF (fcT (tkF (tmR [0, -300, 0, -600] 2500 5000 0 1000 0 400) 2) (mxL (tkF (tmR [0, -300, 0, -600] 2500 5000 0 1000 0 400) 2) (2 - 1)) 1000) 2) = [1200, 0] := by
  rw [(b_0 two_E 2 _).2, two_r]; decide
theorem two_N : bN (fwE [0, -300, 0, -600] 2 2500 5000 0 1000 1000 0 400) 2 = 2 := (b_0 two_E 2 []).1

set_option maxRecDepth 100000 in
set_option maxHeartbeats 400000 in
theorem Two_s  (w0 : World) :
    Calls Try.prog 12 #[] w0 fun e w' => ∃ v, e = .returned (.agg #[v, .int .i64 2500, .int .i64 5000, .int .i64 0, .int .i64 1000, .int .i64 1000]) ∧ Below w0.heap.size w0 w' ∧ w'.ownsRow w0.heap.size 28 2 v 2 (rowI [0, (-300), 0, (-600)]) := by
  have S0 := St.start w0
  refine enter (n := 6) Try.func12 rfl rfl rfl (fun ac A0 => ?_)
  refine wp_seq ?_
  refine wp_region_lit ?_
  refine s_alloc (#[.slice none 0 0, .int .i64 0, .int .i64 0, .int .i64 0, .int .i64 0, .int .i64 0]) A0 S0 (by kernel_rfl) rfl (fun g3 ac wc A1 S2 => ?_)
  refine wpList_nil ?_
  refine n_then ?_
  refine wp_seq ?_
  refine wp_region_lit ?_
  refine s_one (.agg #[.int .i64 0, .int .i64 (-300)]) A1 S2 (g_build (r := [(1, .int .i64 (-300))]) (by kernel_rfl) (fun _ => by kernel_rfl)) rfl (fun ac A4 => ?_)
  refine s_one (.agg #[.int .i64 0, .int .i64 (-600)]) A4 S2 (g_build (r := [(1, .int .i64 (-600))]) (by kernel_rfl) (fun _ => by kernel_rfl)) rfl (fun ac A5 => ?_)
  refine s_bs (e := 28) (r := [(0, .agg #[.int .i64 0, .int .i64 (-300)]), (1, .agg #[.int .i64 0, .int .i64 (-600)])]) (#[.int .i64 0, .int .i64 (-300), .int .i64 0, .int .i64 (-600)]) A5 S2 (by kernel_rfl) (by kernel_rfl) rfl (fun g8 ac wc A6 S7 => ?_)
  refine s_one (.agg #[.int .i64 2500, .int .i64 5000, .int .i64 0, .int .i64 1000]) A6 S7 (g_build (r := [(0, .int .i64 2500), (1, .int .i64 5000), (3, .int .i64 1000)]) (by kernel_rfl) (fun _ => by kernel_rfl)) rfl (fun ac A9 => ?_)
  refine s_one (.agg #[.slice (some ⟨g8, 0, none⟩) 2 2, .int .i64 2500, .int .i64 5000, .int .i64 0, .int .i64 1000, .int .i64 1000]) A9 S7 (g_build (r := [(0, .slice (some ⟨g8, 0, none⟩) 2 2), (1, .agg #[.int .i64 2500, .int .i64 5000, .int .i64 0, .int .i64 1000]), (2, .int .i64 1000)]) (by kernel_rfl) (fun _ => by kernel_rfl)) rfl (fun ac A10 => ?_)
  refine s_store (g := g3) (off := 0) (v := .agg #[.slice (some ⟨g8, 0, none⟩) 2 2, .int .i64 2500, .int .i64 5000, .int .i64 0, .int .i64 1000, .int .i64 1000]) 1 (#[.slice (some ⟨g8, 0, none⟩) 2 2, .int .i64 2500, .int .i64 5000, .int .i64 0, .int .i64 1000, .int .i64 1000]) A10 S7 (by kernel_rfl) (by kernel_rfl) rfl (by kernel_rfl) (fun wc S12 => ?_)
  refine wpList_nil ?_
  refine n_then ?_
  refine wp_ret ?_
  refine fin1 (.agg #[.slice (some ⟨g8, 0, none⟩) 2 2, .int .i64 2500, .int .i64 5000, .int .i64 0, .int .i64 1000, .int .i64 1000]) Try.results12 A10 S12 (rv_cell (g := g3) (off := 0) 1 (by kernel_rfl) rfl (by kernel_rfl)) ?_
  have bw := S12.kp
  have SR : St w0 _ _ _ := St.toRow (n := 2) (size := 2) S12 0 rfl rfl (by decide)
  have ow := SR.row 0 rfl
  exact ⟨_, rfl, bw, ow⟩

theorem Two_v (el : List Int) (w0 : World) (he : el = [0, (-300), 0, (-600)]) : Calls Try.prog 12 #[] w0 fun e w' => ∃ v, e = .returned (.agg #[v, .int .i64 2500, .int .i64 5000, .int .i64 0, .int .i64 1000, .int .i64 1000]) ∧ Below w0.heap.size w0 w' ∧ w'.ownsRow w0.heap.size 28 2 v 2 (rowI el) := by
  subst he; exact Two_s w0
theorem two_Ev {el : List Int} (he : el = [0, (-300), 0, (-600)]) : fwE el 2 2500 5000 0 1000 1000 0 400 = 0 := by subst he; exact two_E
theorem two_Lv {el : List Int} (he : el = [0, (-300), 0, (-600)]) : bL (fwE el 2 2500 5000 0 1000 1000 0 400) (tkF (fcT (tkF (tmR el 2500 5000 0 1000 0 400) 2) (mxL (tkF (tmR el 2500 5000 0 1000 0 400) 2) (2 - 1)) 1000) 2) = [1200, 0] := by subst he; exact two_L
theorem two_Nv {el : List Int} (he : el = [0, (-300), 0, (-600)]) : bN (fwE el 2 2500 5000 0 1000 1000 0 400) 2 = 2 := by subst he; exact two_N

set_option maxRecDepth 100000 in
set_option maxHeartbeats 400000 in
theorem Ints_s (l : List Int) (A B : Option Addr) (c d n : Nat) (w0 : World) (hn : l.length = n * 1) (hr1 : IReads w0 A l) (hr2 : IReads w0 B l) (hm : n ≤ 1000) :
    Calls Try.prog 13 #[.slice A n c, .slice B n d] w0 fun e w' => e = .returned (.bool true) ∧ Below w0.heap.size w0 w' := by
  have S0 := St.start w0
  refine enter (n := 26) Try.func13 rfl rfl rfl (fun ac A0 => ?_)
  refine wp_seq ?_
  refine wp_region_lit ?_
  refine s_one (.bool false) A0 S0 (g_assign (by kernel_rfl)) rfl (fun ac A1 => ?_)
  refine wpList_nil ?_
  refine n_then ?_
  refine wp_seq ?_
  refine wp_seq ?_
  refine wp_region_lit ?_
  refine s_one (.slice A n c) A1 S0 (g_move (by kernel_rfl)) rfl (fun ac A2 => ?_)
  refine s_one (.int .i64 (n : Int)) A2 S0 (g_built (r := [(0, .slice A n c)]) (by kernel_rfl) (fun _ _ _ => by kernel_rfl)) rfl (fun ac A3 => ?_)
  refine s_one (.slice B n d) A3 S0 (g_move (by kernel_rfl)) rfl (fun ac A4 => ?_)
  refine s_one (.int .i64 (n : Int)) A4 S0 (g_built (r := [(0, .slice B n d)]) (by kernel_rfl) (fun _ _ _ => by kernel_rfl)) rfl (fun ac A5 => ?_)
  refine s_one (.bool (decide ((n : Int) ≠ (n : Int)))) A5 S0 (g_bin (u := .int .i64 (n : Int)) (k := .int .i64 (n : Int)) (by kernel_rfl) (by kernel_rfl) (fun _ => by kernel_rfl) b_neq) rfl (fun ac A6 => ?_)
  refine wpList_nil ?_
  refine n_then ?_
  refine c_f (b := (decide ((n : Int) ≠ (n : Int)))) A6 (by kernel_rfl) (decide_eq_false (fun h => h rfl)) ?_
  refine wp_skip ?_
  refine n_then ?_
  refine wp_seq ?_
  refine wp_seq ?_
  refine wp_region_lit ?_
  refine s_one (.int .i64 0) A6 S0 (g_assign (by kernel_rfl)) rfl (fun ac A7 => ?_)
  refine wpList_nil ?_
  refine n_then ?_
  refine wp_block ?_
  refine c_loopN (fun mm ac wc => ∃ (k : Nat), mm = n - k ∧ (k ≤ n) ∧ Fr 26 ac [(0, .slice A n c), (1, .slice B n d), (6, .slice A n c), (7, .int .i64 (n : Int)), (8, .slice B n d), (9, .int .i64 (n : Int)), (10, .bool (decide ((n : Int) ≠ (n : Int)))), (5, .int .i64 (k : Int))] ∧ St w0 [] [] wc) _ ⟨0, rfl, by omega, (A7.slot (A7.slot (A7.slot (A7.slot (A7.slot (A7.slot (A7.slot (A7.slot A7.nil (v := .int .i64 0) (by kernel_rfl) (congrArg (Value.int .i64) (by omega))) (v := .bool (decide ((n : Int) ≠ (n : Int)))) (by kernel_rfl) rfl) (v := .int .i64 (n : Int)) (by kernel_rfl) rfl) (v := .slice B n d) (by kernel_rfl) rfl) (v := .int .i64 (n : Int)) (by kernel_rfl) rfl) (v := .slice A n c) (by kernel_rfl) rfl) (v := .slice B n d) (by kernel_rfl) rfl) (v := .slice A n c) (by kernel_rfl) rfl), S0.sub sub_all sub_all⟩ ?_
  rintro mm ac wc ⟨k, hm10, hk, A8, S9⟩
  refine wp_seq ?_
  refine wp_seq ?_
  refine wp_region_lit ?_
  refine s_one (.int .i64 (k : Int)) A8 S9 (g_move (by kernel_rfl)) rfl (fun ac A11 => ?_)
  refine s_one (.slice A n c) A11 S9 (g_move (by kernel_rfl)) rfl (fun ac A12 => ?_)
  refine s_one (.int .i64 (n : Int)) A12 S9 (g_built (r := [(0, .slice A n c)]) (by kernel_rfl) (fun _ _ _ => by kernel_rfl)) rfl (fun ac A13 => ?_)
  refine s_one (.bool (decide ((k : Int) < (n : Int)))) A13 S9 (g_bin (u := .int .i64 (k : Int)) (k := .int .i64 (n : Int)) (by kernel_rfl) (by kernel_rfl) (fun _ => by kernel_rfl) (fun _ => by kernel_rfl)) rfl (fun ac A14 => ?_)
  refine wpList_nil ?_
  refine n_then ?_
  refine c_ifb (b := (decide ((k : Int) < (n : Int)))) A14 (by kernel_rfl) (fun h15 => ?_) (fun h15 => ?_)
  · have p16 := of_decide_eq_true h15
    refine wp_skip ?_
    refine n_then ?_
    refine wp_seq ?_
    refine wp_block ?_
    refine wp_seq ?_
    refine r_begin (w0 := w0) (by kernel_rfl) (S9.sub sub_all sub_all) (fun wc T17 B18 => ?_)
    have S19 := S9.kept B18
    refine r_take 0 (.slice A n c) A14 T17 (g_move (by kernel_rfl)) rfl rfl rfl (pf_then (pf_block (pf_then (pf_then (pf_block (pf_then pf_body)))))) (by kernel_rfl) (fun ac A20 => ?_)
    refine r_take 1 (.int .i64 (k : Int)) A20 T17 (g_move (by kernel_rfl)) rfl rfl rfl (pf_then (pf_block (pf_then (pf_then (pf_block (pf_then pf_body)))))) (by kernel_rfl) (fun ac A21 => ?_)
    obtain ⟨ad22, rfl, _⟩ := hr1 (k) (by have hlen := hn; omega)
    refine r_take 2 (.pointer (some (ad22.add k))) A21 T17 (g_index (u := .slice (some ad22) n c) (k := .int .i64 (k : Int)) (by kernel_rfl) (by kernel_rfl) (ix_x (e := 3) (bytes := 8) k (by kernel_rfl) (by omega) (by omega))) rfl rfl rfl (pf_then (pf_block (pf_then (pf_then (pf_block (pf_then pf_body)))))) (by kernel_rfl) (fun ac A23 => ?_)
    refine r_take 3 (.int .i64 (nthI l k)) A23 T17 (g_loadXI (l := l) (k := k) (by kernel_rfl) hr1 (by have hlen := hn; omega) (by kernel_rfl)) rfl rfl rfl (pf_then (pf_block (pf_then (pf_then (pf_block (pf_then pf_body)))))) (by kernel_rfl) (fun ac A24 => ?_)
    refine r_take 4 (.slice B n d) A24 T17 (g_move (by kernel_rfl)) rfl rfl rfl (pf_then (pf_block (pf_then (pf_then (pf_block (pf_then pf_body)))))) (by kernel_rfl) (fun ac A25 => ?_)
    refine r_take 5 (.int .i64 (k : Int)) A25 T17 (g_move (by kernel_rfl)) rfl rfl rfl (pf_then (pf_block (pf_then (pf_then (pf_block (pf_then pf_body)))))) (by kernel_rfl) (fun ac A26 => ?_)
    obtain ⟨ad27, rfl, _⟩ := hr2 (k) (by have hlen := hn; omega)
    refine r_take 6 (.pointer (some (ad27.add k))) A26 T17 (g_index (u := .slice (some ad27) n d) (k := .int .i64 (k : Int)) (by kernel_rfl) (by kernel_rfl) (ix_x (e := 3) (bytes := 8) k (by kernel_rfl) (by omega) (by omega))) rfl rfl rfl (pf_then (pf_block (pf_then (pf_then (pf_block (pf_then pf_body)))))) (by kernel_rfl) (fun ac A28 => ?_)
    refine r_take 7 (.int .i64 (nthI l k)) A28 T17 (g_loadXI (l := l) (k := k) (by kernel_rfl) hr2 (by have hlen := hn; omega) (by kernel_rfl)) rfl rfl rfl (pf_then (pf_block (pf_then (pf_then (pf_block (pf_then pf_body)))))) (by kernel_rfl) (fun ac A29 => ?_)
    refine r_take 8 (.bool (decide (nthI l k ≠ nthI l k))) A29 T17 (g_bin (u := .int .i64 (nthI l k)) (k := .int .i64 (nthI l k)) (by kernel_rfl) (by kernel_rfl) (fun _ => by kernel_rfl) b_neq) rfl rfl rfl (pf_then (pf_block (pf_then (pf_then (pf_block (pf_then pf_body)))))) (by kernel_rfl) (fun ac A30 => ?_)
    refine r_done (by kernel_rfl) ?_
    refine n_then ?_
    refine c_f (b := (decide (nthI l k ≠ nthI l k))) A30 (by kernel_rfl) (decide_eq_false (fun h => h rfl)) ?_
    refine wp_skip ?_
    refine n_block ?_
    refine n_then ?_
    refine wp_region_lit ?_
    refine s_one (.int .i64 (k : Int)) A30 S19 (g_move (by kernel_rfl)) rfl (fun ac A31 => ?_)
    refine s_one (.int .i64 ((k : Int) + 1)) A31 S19 (g_bin (u := .int .i64 (k : Int)) (k := .int .i64 1) (by kernel_rfl) (by kernel_rfl) (fun _ => by kernel_rfl) (b_add (by omega))) rfl (fun ac A32 => ?_)
    refine s_one (.int .i64 ((k : Int) + 1)) A32 S19 (g_assign (by kernel_rfl)) rfl (fun ac A33 => ?_)
    refine wpList_nil ?_
    refine n_then ?_
    refine ⟨_, ⟨k + 1, rfl, by omega, (A33.slot (A33.slot (A33.slot (A33.slot (A33.slot (A33.slot (A33.slot (A33.slot A33.nil (v := .int .i64 ((k : Int) + 1)) (by kernel_rfl) (congrArg (Value.int .i64) (by omega))) (v := .bool (decide ((n : Int) ≠ (n : Int)))) (by kernel_rfl) rfl) (v := .int .i64 (n : Int)) (by kernel_rfl) rfl) (v := .slice (some ad27) n d) (by kernel_rfl) (by first | rfl | simp)) (v := .int .i64 (n : Int)) (by kernel_rfl) rfl) (v := .slice (some ad22) n c) (by kernel_rfl) (by first | rfl | simp)) (v := .slice (some ad27) n d) (by kernel_rfl) (by first | rfl | simp)) (v := .slice (some ad22) n c) (by kernel_rfl) (by first | rfl | simp)), S19.sub sub_all sub_all⟩, ?_⟩
    omega
  · have p34 := of_decide_eq_false h15
    refine wp_exit ?_
    refine x_then ?_
    refine x_then ?_
    refine x_hit ?_
    refine n_then ?_
    refine wp_seq ?_
    refine wp_region_lit ?_
    refine s_one (.bool true) A14 S9 (g_assign (by kernel_rfl)) rfl (fun ac A35 => ?_)
    refine wpList_nil ?_
    refine n_then ?_
    refine wp_ret ?_
    refine fin1 (.bool true) Try.results13 A35 S9 (rv_tmp (by kernel_rfl)) ⟨?_, S9.kp⟩
    rfl

set_option maxRecDepth 100000 in
set_option maxHeartbeats 400000 in
theorem lawed_v (el : List Int) (w0 : World) (he : el = [0, (-300), 0, (-600)]) :
    Calls Try.prog 5 #[] w0 fun e w' => e = .returned (.bool true) ∧ Below w0.heap.size w0 w' := by
  have S0 := St.start w0
  have hle : el.length = 2 * 2 := by rw [he]; rfl
  refine enter (n := 17) Try.func5 rfl rfl rfl (fun ac A0 => ?_)
  refine wp_seq ?_
  refine wp_region_lit ?_
  refine s_one (.bool false) A0 S0 (g_assign (by kernel_rfl)) rfl (fun ac A1 => ?_)
  refine wpList_nil ?_
  refine n_then ?_
  refine wp_seq ?_
  refine wp_region_lit ?_
  refine s_callRF (fs := #[]) (cp := #[]) (r := []) (fun v => .agg #[v, .int .i64 2500, .int .i64 5000, .int .i64 0, .int .i64 1000, .int .i64 1000]) #[] A1 S0 (Two_v el _ he) Try.call12 (by kernel_rfl) (by kernel_rfl) (by kernel_rfl) rfl (fun v5 ac wc A2 S3 => ?_)
  obtain ⟨hl6, A7, cap8, rfl, hr9⟩ := rowI_reads2 (v := v5) (size := 2) (m := 2) (l := el) (S3.row 0 rfl)
  refine s_one (.agg #[.int .i64 0, .int .i64 400]) A2 S3 (g_build (r := [(1, .int .i64 400)]) (by kernel_rfl) (fun _ => by kernel_rfl)) rfl (fun ac A10 => ?_)
  refine s_callRF (fs := #[]) (cp := #[]) (r := [(0, .agg #[.slice A7 2 cap8, .int .i64 2500, .int .i64 5000, .int .i64 0, .int .i64 1000, .int .i64 1000]), (0, .agg #[.int .i64 0, .int .i64 400])]) (fun v => .tuple #[.agg #[.int .i64 (zv (fwE el 2 2500 5000 0 1000 1000 0 400) 1000), v], .int .i64 (fwE el 2 2500 5000 0 1000 1000 0 400)]) #[.agg #[.slice A7 2 cap8, .int .i64 2500, .int .i64 5000, .int .i64 0, .int .i64 1000, .int .i64 1000], .agg #[.int .i64 0, .int .i64 400]] A10 S3 (FocusLaw_s A7 2 cap8 el 2500 5000 0 1000 1000 0 400 _ (by have hlen := hl6; omega) (row_ir (S3.row 0 rfl)) (by omega)) Try.call6 (by kernel_rfl) (by kernel_rfl) (by kernel_rfl) rfl (fun v14 ac wc A11 S12 => ?_)
  obtain ⟨hl15, A16, cap17, rfl, hr18⟩ := rowI_reads2 (v := v14) (size := 1) (m := (bN (fwE el 2 2500 5000 0 1000 1000 0 400) 2)) (l := bL (fwE el 2 2500 5000 0 1000 1000 0 400) (tkF (fcT (tkF (tmR el 2500 5000 0 1000 0 400) 2) (mxL (tkF (tmR el 2500 5000 0 1000 0 400) 2) (2 - 1)) 1000) 2)) (S12.row 0 rfl)
  refine s_one (.tuple #[.agg #[.int .i64 (zv (fwE el 2 2500 5000 0 1000 1000 0 400) 1000), .slice A16 (bN (fwE el 2 2500 5000 0 1000 1000 0 400) 2) cap17], .int .i64 (fwE el 2 2500 5000 0 1000 1000 0 400)]) A11 S12 (g_move (by kernel_rfl)) rfl (fun ac A19 => ?_)
  refine s_one (.agg #[.int .i64 (zv (fwE el 2 2500 5000 0 1000 1000 0 400) 1000), .slice A16 (bN (fwE el 2 2500 5000 0 1000 1000 0 400) 2) cap17]) A19 S12 (g_extract (u := .tuple #[.agg #[.int .i64 (zv (fwE el 2 2500 5000 0 1000 1000 0 400) 1000), .slice A16 (bN (fwE el 2 2500 5000 0 1000 1000 0 400) 2) cap17], .int .i64 (fwE el 2 2500 5000 0 1000 1000 0 400)]) (by kernel_rfl) (fun _ => by kernel_rfl)) rfl (fun ac A20 => ?_)
  refine s_one (.int .i64 (fwE el 2 2500 5000 0 1000 1000 0 400)) A20 S12 (g_extract (u := .tuple #[.agg #[.int .i64 (zv (fwE el 2 2500 5000 0 1000 1000 0 400) 1000), .slice A16 (bN (fwE el 2 2500 5000 0 1000 1000 0 400) 2) cap17], .int .i64 (fwE el 2 2500 5000 0 1000 1000 0 400)]) (by kernel_rfl) (fun _ => by kernel_rfl)) rfl (fun ac A21 => ?_)
  refine s_alloc (#[.int .i64 0, .slice none 0 0]) A21 S12 (by kernel_rfl) rfl (fun g24 ac wc A22 S23 => ?_)
  refine s_store (g := g24) (off := 0) (v := .agg #[.int .i64 (zv (fwE el 2 2500 5000 0 1000 1000 0 400) 1000), .slice A16 (bN (fwE el 2 2500 5000 0 1000 1000 0 400) 2) cap17]) 0 (#[.int .i64 (zv (fwE el 2 2500 5000 0 1000 1000 0 400) 1000), .slice A16 (bN (fwE el 2 2500 5000 0 1000 1000 0 400) 2) cap17]) A22 S23 (by kernel_rfl) (by kernel_rfl) rfl (by kernel_rfl) (fun wc S26 => ?_)
  refine s_one (.int .i64 (fwE el 2 2500 5000 0 1000 1000 0 400)) A22 S26 (g_assign (by kernel_rfl)) rfl (fun ac A28 => ?_)
  refine wpList_nil ?_
  refine n_then ?_
  refine wp_seq ?_
  have ST2 := S26
  simp only [two_Lv he, two_Nv he] at ST2
  replace ST2 : St w0 [⟨g24, 32, #[.int .i64 (zv (fwE el 2 2500 5000 0 1000 1000 0 400) 1000), .slice A16 2 cap17], true⟩] [⟨.slice A16 2 cap17, 3, 1, 2, (rowI ([1200, 0]))⟩, ⟨.slice A7 2 cap8, 28, 2, 2, (rowI el)⟩] _ := ST2
  refine wp_region_lit ?_
  refine s_one (.int .i64 (fwE el 2 2500 5000 0 1000 1000 0 400)) A28 ST2 (g_move (by kernel_rfl)) rfl (fun ac A29 => ?_)
  refine s_one (.bool (decide (fwE el 2 2500 5000 0 1000 1000 0 400 = 0))) A29 ST2 (g_bin (u := .int .i64 (fwE el 2 2500 5000 0 1000 1000 0 400)) (k := .int .i64 0) (by kernel_rfl) (by kernel_rfl) (fun _ => by kernel_rfl) b_eql) rfl (fun ac A30 => ?_)
  refine s_one (.bool (decide (fwE el 2 2500 5000 0 1000 1000 0 400 = 0))) A30 ST2 (g_move (by kernel_rfl)) rfl (fun ac A31 => ?_)
  refine s_want (dj := 11) (b := (decide (fwE el 2 2500 5000 0 1000 1000 0 400 = 0))) A31 (by kernel_rfl) (by kernel_rfl) (decide_eq_true (two_Ev he)) ?_
  refine s_one (.pointer (some ⟨g24, 1, none⟩)) A31 ST2 (g_field (u := .pointer (some ⟨g24, 0, none⟩)) (by kernel_rfl) (fun _ => by kernel_rfl)) rfl (fun ac A32 => ?_)
  refine s_want (dj := 11) (b := (decide (fwE el 2 2500 5000 0 1000 1000 0 400 = 0))) A32 (by kernel_rfl) (by kernel_rfl) (decide_eq_true (two_Ev he)) ?_
  refine s_one (.slice A16 2 cap17) A32 ST2 (g_load (g := g24) (off := 1) 0 (by kernel_rfl) rfl (by kernel_rfl)) rfl (fun ac A33 => ?_)
  refine s_want (dj := 11) (b := (decide (fwE el 2 2500 5000 0 1000 1000 0 400 = 0))) A33 (by kernel_rfl) (by kernel_rfl) (decide_eq_true (two_Ev he)) ?_
  refine s_bs (e := 3) (r := [(0, .int .i64 1200), (1, .int .i64 0)]) (#[.int .i64 1200, .int .i64 0]) A33 ST2 (by kernel_rfl) (by kernel_rfl) rfl (fun g36 ac wc A34 S35 => ?_)
  refine s_want (dj := 11) (b := (decide (fwE el 2 2500 5000 0 1000 1000 0 400 = 0))) A34 (by kernel_rfl) (by kernel_rfl) (decide_eq_true (two_Ev he)) ?_
  have S40 : St w0 [⟨g24, 32, #[.int .i64 (zv (fwE el 2 2500 5000 0 1000 1000 0 400) 1000), .slice A16 2 cap17], true⟩] [⟨.slice (some ⟨g36, 0, none⟩) 2 2, 3, 1, 2, (rowI [1200, 0])⟩, ⟨.slice A16 2 cap17, 3, 1, 2, (rowI ([1200, 0]))⟩, ⟨.slice A7 2 cap8, 28, 2, 2, (rowI el)⟩] _ := St.toRow S35 0 rfl rfl (by decide)
  refine s_call (fs := #[]) (cp := #[]) (r := [(0, .slice A16 2 cap17), (0, .slice (some ⟨g36, 0, none⟩) 2 2)]) #[.slice A16 2 cap17, .slice (some ⟨g36, 0, none⟩) 2 2] (.bool true) A34 S40 (Ints_s ([1200, 0]) A16 (some ⟨g36, 0, none⟩) cap17 2 2 _ (by have hlen := (show ([1200, 0] : List Int).length = 2 * 1 from rfl); omega) (row_ir (S40.row 1 rfl)) (row_ir (S40.row 0 rfl)) (by omega)) Try.call13 (by kernel_rfl) (by kernel_rfl) (by kernel_rfl) rfl (fun ac wc A37 S38 => ?_)
  refine s_one (.bool true) A37 S38 (g_pick_t (b := (decide (fwE el 2 2500 5000 0 1000 1000 0 400 = 0))) (by kernel_rfl) (decide_eq_true (two_Ev he)) (by kernel_rfl)) rfl (fun ac A41 => ?_)
  refine s_one (.bool true) A41 S38 (g_assign (by kernel_rfl)) rfl (fun ac A42 => ?_)
  refine wpList_nil ?_
  refine n_then ?_
  refine wp_ret ?_
  refine fin1 (.bool true) Try.results5 A42 S38 (rv_tmp (by kernel_rfl)) ⟨?_, S38.kp⟩
  rfl

theorem lawed_s (w0 : World) : Calls Try.prog 5 #[] w0 fun e w' => e = .returned (.bool true) ∧ Below w0.heap.size w0 w' := lawed_v _ w0 rfl

end Go.Proofs.Ytfeapeblnnmhlaa
