/- The reference reads a frame. -/
import Derived.Test.YtcijkniijomcjaaRf1
namespace Go.Proofs.Ytcijkniijomcjaa
open Go.RowKit Go.Cpl

theorem ckU_c (l : Bs) (k : Nat) : -1000000000000 ≤ ckU l k ∧ ckU l k ≤ 1000000000000 := by have := ckU_range l k; omega
theorem pre7r {l : Bs} (h : l.length < 8 ∨ ¬ (nthU l 0 : Int) = 67 ∨ ¬ (nthU l 1 : Int) = 80) : l.length < 8 ∨ ¬ subU l 0 2 = [67, 80] := by
  by_cases q : l.length < 8
  · exact .inl q
  · refine .inr fun e => ?_
    have := (pre_two (by omega)).1 e
    omega
theorem pf_snoc3 (l : Bs) {k i m : Nat} (hi : i = 8 + k * 2) (hm : m = k + 1) (h : k * 2 + 2 ≤ l.length - 10) : rowF (fw (pfL l k)) ++ [.float .f32 (floatOfInt .f32 (w16 (whI l i 2)))] = rowF (fw (pfL l m)) := by
  subst hm; subst hi
  rw [← pf_snoc l k]
  unfold pfS
  rw [whI_sub h]

set_option maxRecDepth 100000 in
set_option maxHeartbeats 400000 in
theorem refParseFrame_s (l : List UInt8) (w0 : World) (hl : l.length ≤ 2000) :
    Calls Try.prog 32 #[.string ⟨l.toArray⟩] w0 fun e w' => ∃ v, e = .returned (.tuple #[.agg #[.int .i64 (pfP l), .int .i64 (pfE l), v], .int .i64 (pfZ l)]) ∧ Below w0.heap.size w0 w' ∧ w'.ownsRow w0.heap.size 36 1 v ((pfW l).length) (rowF (pfW l)) := by
  have S0 := St.start w0
  have hq3 := nthU_lt l 3
  have hq4 := sq_le (show nthU l 3 ≤ 255 by omega)
  refine enter (n := 86) Try.func32 rfl rfl rfl (fun ac A0 => ?_)
  refine wp_seq ?_
  refine wp_region_lit ?_
  refine s_alloc (#[.int .i64 0, .int .i64 0, .slice none 0 0]) A0 S0 (by kernel_rfl) rfl (fun g3 ac wc A1 S2 => ?_)
  refine s_one (.int .i64 0) A1 S2 (g_assign (by kernel_rfl)) rfl (fun ac A4 => ?_)
  refine wpList_nil ?_
  refine n_then ?_
  refine wp_seq ?_
  refine wp_region_lit ?_
  refine s_alloc (#[.int .i64 0, .int .i64 0, .slice none 0 0]) A4 S2 (by kernel_rfl) rfl (fun g7 ac wc A5 S6 => ?_)
  refine wpList_nil ?_
  refine n_then ?_
  refine wp_seq ?_
  refine wp_seq ?_
  refine c_cut (fun ac wc => Fr 86 ac [(22, .bool ((decide ((l.length : Int) < 8)) || ((decide ((nthU l 0 : Int) ≠ 67)) || (decide ((nthU l 1 : Int) ≠ 80))))), (0, .string ⟨l.toArray⟩), (2, .pointer (some ⟨g3, 0, none⟩)), (3, .int .i64 0), (4, .pointer (some ⟨g7, 0, none⟩))] ∧ St w0 [⟨g7, 66, #[.int .i64 0, .int .i64 0, .slice none 0 0], true⟩, ⟨g3, 66, #[.int .i64 0, .int .i64 0, .slice none 0 0], true⟩] [] wc) ?_ ?_
  · refine wp_region_lit ?_
    refine s_one (.string ⟨l.toArray⟩) A5 S6 (g_move (by kernel_rfl)) rfl (fun ac A8 => ?_)
    refine s_one (.int .i64 (l.length : Int)) A8 S6 (g_built (r := [(0, .string ⟨l.toArray⟩)]) (by kernel_rfl) (fun ty cs w => bl_str (l := l) Try.underlying9 ty cs w)) rfl (fun ac A9 => ?_)
    refine s_one (.bool (decide ((l.length : Int) < 8))) A9 S6 (g_bin (u := .int .i64 (l.length : Int)) (k := .int .i64 8) (by kernel_rfl) (by kernel_rfl) (fun _ => by kernel_rfl) (fun _ => by kernel_rfl)) rfl (fun ac A10 => ?_)
    refine s_one (.bool (decide ((l.length : Int) < 8))) A10 S6 (g_move (by kernel_rfl)) rfl (fun ac A11 => ?_)
    refine by_bool (decide ((l.length : Int) < 8)) (fun h12 => ?_) (fun h12 => ?_)
    · have p13 := of_decide_eq_true h12
      refine s_not (dj := 13) (b := (decide ((l.length : Int) < 8))) A11 (by kernel_rfl) (by kernel_rfl) h12 rfl (fun ac A14 => ?_)
      refine s_not (dj := 13) (b := (decide ((l.length : Int) < 8))) A14 (by kernel_rfl) (by kernel_rfl) h12 rfl (fun ac A15 => ?_)
      refine s_not (dj := 13) (b := (decide ((l.length : Int) < 8))) A15 (by kernel_rfl) (by kernel_rfl) h12 rfl (fun ac A16 => ?_)
      refine s_one (.bool true) A16 S6 (g_pick_t (b := (decide ((l.length : Int) < 8))) (by kernel_rfl) h12 (by kernel_rfl)) rfl (fun ac A17 => ?_)
      refine s_one (.bool true) A17 S6 (g_move (by kernel_rfl)) rfl (fun ac A18 => ?_)
      refine s_not (dj := 18) (b := true) A18 (by kernel_rfl) (by kernel_rfl) rfl rfl (fun ac A19 => ?_)
      refine s_not (dj := 18) (b := true) A19 (by kernel_rfl) (by kernel_rfl) rfl rfl (fun ac A20 => ?_)
      refine s_not (dj := 18) (b := true) A20 (by kernel_rfl) (by kernel_rfl) rfl rfl (fun ac A21 => ?_)
      refine s_one (.bool true) A21 S6 (g_pick_t (b := true) (by kernel_rfl) rfl (by kernel_rfl)) rfl (fun ac A22 => ?_)
      refine wpList_nil ?_
      refine n_then ?_
      exact ⟨(A22.slot (A22.slot (A22.slot (A22.slot (A22.slot A22.nil (v := .pointer (some ⟨g7, 0, none⟩)) (by kernel_rfl) rfl) (v := .int .i64 0) (by kernel_rfl) rfl) (v := .pointer (some ⟨g3, 0, none⟩)) (by kernel_rfl) rfl) (v := .string ⟨l.toArray⟩) (by kernel_rfl) rfl) (v := .bool true) (by kernel_rfl) (congrArg Value.bool (b_ot1 h12).symm)), S6.sub sub_all sub_all⟩
    · have p23 := of_decide_eq_false h12
      refine s_want (dj := 13) (b := (decide ((l.length : Int) < 8))) A11 (by kernel_rfl) (by kernel_rfl) h12 ?_
      refine s_one (.string ⟨l.toArray⟩) A11 S6 (g_move (by kernel_rfl)) rfl (fun ac A24 => ?_)
      refine s_want (dj := 13) (b := (decide ((l.length : Int) < 8))) A24 (by kernel_rfl) (by kernel_rfl) h12 ?_
      refine s_one (.int .u8 (nthU l 0 : Int)) A24 S6 (g_indexv (u := .string ⟨l.toArray⟩) (k := .int .i64 0) (by kernel_rfl) (by kernel_rfl) (ix_str (l := l) 0 Try.underlying9 (by omega) (by omega))) rfl (fun ac A25 => ?_)
      refine s_want (dj := 13) (b := (decide ((l.length : Int) < 8))) A25 (by kernel_rfl) (by kernel_rfl) h12 ?_
      refine s_one (.bool (decide ((nthU l 0 : Int) ≠ 67))) A25 S6 (g_bin (u := .int .u8 (nthU l 0 : Int)) (k := .int .u8 67) (by kernel_rfl) (by kernel_rfl) (fun _ => by kernel_rfl) b_neq) rfl (fun ac A26 => ?_)
      refine s_one (.bool (decide ((nthU l 0 : Int) ≠ 67))) A26 S6 (g_pick_f (b := (decide ((l.length : Int) < 8))) (by kernel_rfl) h12 (by kernel_rfl)) rfl (fun ac A27 => ?_)
      refine s_one (.bool (decide ((nthU l 0 : Int) ≠ 67))) A27 S6 (g_move (by kernel_rfl)) rfl (fun ac A28 => ?_)
      refine by_bool (decide ((nthU l 0 : Int) ≠ 67)) (fun h29 => ?_) (fun h29 => ?_)
      · have p30 := of_decide_eq_true h29
        refine s_not (dj := 18) (b := (decide ((nthU l 0 : Int) ≠ 67))) A28 (by kernel_rfl) (by kernel_rfl) h29 rfl (fun ac A31 => ?_)
        refine s_not (dj := 18) (b := (decide ((nthU l 0 : Int) ≠ 67))) A31 (by kernel_rfl) (by kernel_rfl) h29 rfl (fun ac A32 => ?_)
        refine s_not (dj := 18) (b := (decide ((nthU l 0 : Int) ≠ 67))) A32 (by kernel_rfl) (by kernel_rfl) h29 rfl (fun ac A33 => ?_)
        refine s_one (.bool true) A33 S6 (g_pick_t (b := (decide ((nthU l 0 : Int) ≠ 67))) (by kernel_rfl) h29 (by kernel_rfl)) rfl (fun ac A34 => ?_)
        refine wpList_nil ?_
        refine n_then ?_
        exact ⟨(A34.slot (A34.slot (A34.slot (A34.slot (A34.slot A34.nil (v := .pointer (some ⟨g7, 0, none⟩)) (by kernel_rfl) rfl) (v := .int .i64 0) (by kernel_rfl) rfl) (v := .pointer (some ⟨g3, 0, none⟩)) (by kernel_rfl) rfl) (v := .string ⟨l.toArray⟩) (by kernel_rfl) rfl) (v := .bool true) (by kernel_rfl) (congrArg Value.bool (b_ot2 (b_ot1 h29)).symm)), S6.sub sub_all sub_all⟩
      · have p35 := of_decide_eq_false h29
        refine s_want (dj := 18) (b := (decide ((nthU l 0 : Int) ≠ 67))) A28 (by kernel_rfl) (by kernel_rfl) h29 ?_
        refine s_one (.string ⟨l.toArray⟩) A28 S6 (g_move (by kernel_rfl)) rfl (fun ac A36 => ?_)
        refine s_want (dj := 18) (b := (decide ((nthU l 0 : Int) ≠ 67))) A36 (by kernel_rfl) (by kernel_rfl) h29 ?_
        refine s_one (.int .u8 (nthU l 1 : Int)) A36 S6 (g_indexv (u := .string ⟨l.toArray⟩) (k := .int .i64 1) (by kernel_rfl) (by kernel_rfl) (ix_str (l := l) 1 Try.underlying9 (by omega) (by omega))) rfl (fun ac A37 => ?_)
        refine s_want (dj := 18) (b := (decide ((nthU l 0 : Int) ≠ 67))) A37 (by kernel_rfl) (by kernel_rfl) h29 ?_
        refine s_one (.bool (decide ((nthU l 1 : Int) ≠ 80))) A37 S6 (g_bin (u := .int .u8 (nthU l 1 : Int)) (k := .int .u8 80) (by kernel_rfl) (by kernel_rfl) (fun _ => by kernel_rfl) b_neq) rfl (fun ac A38 => ?_)
        refine s_one (.bool (decide ((nthU l 1 : Int) ≠ 80))) A38 S6 (g_pick_f (b := (decide ((nthU l 0 : Int) ≠ 67))) (by kernel_rfl) h29 (by kernel_rfl)) rfl (fun ac A39 => ?_)
        refine wpList_nil ?_
        refine n_then ?_
        exact ⟨(A39.slot (A39.slot (A39.slot (A39.slot (A39.slot A39.nil (v := .pointer (some ⟨g7, 0, none⟩)) (by kernel_rfl) rfl) (v := .int .i64 0) (by kernel_rfl) rfl) (v := .pointer (some ⟨g3, 0, none⟩)) (by kernel_rfl) rfl) (v := .string ⟨l.toArray⟩) (by kernel_rfl) rfl) (v := .bool (decide ((nthU l 1 : Int) ≠ 80))) (by kernel_rfl) (congrArg Value.bool (b_or_f h12 (b_or_f h29 (Eq.refl (decide ((nthU l 1 : Int) ≠ 80))))).symm)), S6.sub sub_all sub_all⟩
  · rintro ac wc ⟨A40, S41⟩
    refine n_then ?_
    refine c_ifb (b := ((decide ((l.length : Int) < 8)) || ((decide ((nthU l 0 : Int) ≠ 67)) || (decide ((nthU l 1 : Int) ≠ 80))))) A40 (by kernel_rfl) (fun h42 => ?_) (fun h42 => ?_)
    · refine wp_seq ?_
      refine wp_region_lit ?_
      refine s_one (.agg #[.int .i64 0, .int .i64 0, .slice none 0 0]) A40 S41 (g_load (g := g7) (off := 0) 0 (by kernel_rfl) rfl (by kernel_rfl)) rfl (fun ac A43 => ?_)
      refine s_store (g := g3) (off := 0) (v := .agg #[.int .i64 0, .int .i64 0, .slice none 0 0]) 1 (#[.int .i64 0, .int .i64 0, .slice none 0 0]) A43 S41 (by kernel_rfl) (by kernel_rfl) rfl (by kernel_rfl) (fun wc S45 => ?_)
      refine s_one (.int .i64 7) A43 S45 (g_assign (by kernel_rfl)) rfl (fun ac A47 => ?_)
      refine wpList_nil ?_
      refine n_then ?_
      refine wp_ret ?_
      refine r_then ?_
      have S48 := S45.nilRow 36 1
      refine fin2 (.agg #[.int .i64 0, .int .i64 0, .slice none 0 0]) (.int .i64 7) Try.results32 A47 S48 (rv_cell (g := g3) (off := 0) 1 (by kernel_rfl) rfl (by kernel_rfl)) (rv_tmp (by kernel_rfl)) ?_
      have bw := S48.kp
      have ow := S48.row 0 rfl
      have hx7 := h42
      simp only [Bool.or_eq_true, decide_eq_true_iff, ne_eq] at hx7
      have ez := pfZ_1 (l := l) (pre7r (by omega))
      obtain ⟨e1, e2, e3⟩ := pf_err ez (by decide)
      rw [e1, e2, e3, ez]
      exact ⟨_, rfl, bw, ow⟩
    · have h49 := (Bool.or_eq_false_iff.1 h42).1
      have p50 := of_decide_eq_false h49
      have h51 := (Bool.or_eq_false_iff.1 h42).2
      have h52 := (Bool.or_eq_false_iff.1 h51).1
      have p53 := of_decide_eq_false h52
      have h54 := (Bool.or_eq_false_iff.1 h51).2
      have p55 := of_decide_eq_false h54
      refine wp_skip ?_
      refine n_then ?_
      refine wp_seq ?_
      refine wp_seq ?_
      refine wp_region_lit ?_
      refine s_one (.string ⟨l.toArray⟩) A40 S41 (g_move (by kernel_rfl)) rfl (fun ac A56 => ?_)
      refine s_one (.int .u8 (nthU l 2 : Int)) A56 S41 (g_indexv (u := .string ⟨l.toArray⟩) (k := .int .i64 2) (by kernel_rfl) (by kernel_rfl) (ix_str (l := l) 2 Try.underlying9 (by omega) (by omega))) rfl (fun ac A57 => ?_)
      refine s_one (.bool (decide ((nthU l 2 : Int) ≠ 1))) A57 S41 (g_bin (u := .int .u8 (nthU l 2 : Int)) (k := .int .u8 1) (by kernel_rfl) (by kernel_rfl) (fun _ => by kernel_rfl) b_neq) rfl (fun ac A58 => ?_)
      refine wpList_nil ?_
      refine n_then ?_
      refine c_ifb (b := (decide ((nthU l 2 : Int) ≠ 1))) A58 (by kernel_rfl) (fun h59 => ?_) (fun h59 => ?_)
      · have p60 := of_decide_eq_true h59
        refine wp_seq ?_
        refine wp_region_lit ?_
        refine s_one (.agg #[.int .i64 0, .int .i64 0, .slice none 0 0]) A58 S41 (g_load (g := g7) (off := 0) 0 (by kernel_rfl) rfl (by kernel_rfl)) rfl (fun ac A61 => ?_)
        refine s_store (g := g3) (off := 0) (v := .agg #[.int .i64 0, .int .i64 0, .slice none 0 0]) 1 (#[.int .i64 0, .int .i64 0, .slice none 0 0]) A61 S41 (by kernel_rfl) (by kernel_rfl) rfl (by kernel_rfl) (fun wc S63 => ?_)
        refine s_one (.int .i64 15) A61 S63 (g_assign (by kernel_rfl)) rfl (fun ac A65 => ?_)
        refine wpList_nil ?_
        refine n_then ?_
        refine wp_ret ?_
        refine r_then ?_
        have S66 := S63.nilRow 36 1
        refine fin2 (.agg #[.int .i64 0, .int .i64 0, .slice none 0 0]) (.int .i64 15) Try.results32 A65 S66 (rv_cell (g := g3) (off := 0) 1 (by kernel_rfl) rfl (by kernel_rfl)) (rv_tmp (by kernel_rfl)) ?_
        have bw := S66.kp
        have ow := S66.row 0 rfl
        have ez := pfZ_2 (l := l) (by omega) ((pre_two (by omega)).2 ⟨by omega, by omega⟩) (by omega)
        obtain ⟨e1, e2, e3⟩ := pf_err ez (by decide)
        rw [e1, e2, e3, ez]
        exact ⟨_, rfl, bw, ow⟩
      · have p67 := of_decide_eq_false h59
        refine wp_skip ?_
        refine n_then ?_
        refine wp_seq ?_
        refine wp_region_lit ?_
        refine s_one (.string ⟨l.toArray⟩) A58 S41 (g_move (by kernel_rfl)) rfl (fun ac A68 => ?_)
        refine s_one (.int .u8 (nthU l 3 : Int)) A68 S41 (g_indexv (u := .string ⟨l.toArray⟩) (k := .int .i64 3) (by kernel_rfl) (by kernel_rfl) (ix_str (l := l) 3 Try.underlying9 (by omega) (by omega))) rfl (fun ac A69 => ?_)
        refine s_one (.int .i64 (nthU l 3 : Int)) A69 S41 (g_conv (u := .int .u8 (nthU l 3 : Int)) (by kernel_rfl) (conv_u8 Try.underlying5 Try.underlying3 ⟨by omega, by have h9 := nthU_lt l 3; omega⟩)) rfl (fun ac A70 => ?_)
        refine s_one (.int .i64 (nthU l 3 : Int)) A70 S41 (g_assign (by kernel_rfl)) rfl (fun ac A71 => ?_)
        refine wpList_nil ?_
        refine n_then ?_
        refine wp_seq ?_
        refine wp_seq ?_
        refine wp_region_lit ?_
        refine s_one (.int .i64 (nthU l 3 : Int)) A71 S41 (g_move (by kernel_rfl)) rfl (fun ac A72 => ?_)
        refine s_call (fs := #[]) (cp := #[]) (r := [(0, .int .i64 (nthU l 3 : Int)), (0, .int .i64 1), (0, .int .i64 16)]) #[.int .i64 (nthU l 3 : Int), .int .i64 1, .int .i64 16] (.bool (inB (nthU l 3 : Int) 1 16)) A72 S41 (sameB (Within_any (nthU l 3 : Int) 1 16 _)) Try.call39 (by kernel_rfl) (by kernel_rfl) (by kernel_rfl) rfl (fun ac wc A73 S74 => ?_)
        refine s_one (.bool (!(inB (nthU l 3 : Int) 1 16))) A73 S74 (g_un (u := .bool (inB (nthU l 3 : Int) 1 16)) (by kernel_rfl) (fun _ => by kernel_rfl)) rfl (fun ac A76 => ?_)
        refine wpList_nil ?_
        refine n_then ?_
        refine c_ifb (b := (!(inB (nthU l 3 : Int) 1 16))) A76 (by kernel_rfl) (fun h77 => ?_) (fun h77 => ?_)
        · have h78 : inB (nthU l 3 : Int) 1 16 = false := by simpa using h77
          refine wp_seq ?_
          refine wp_region_lit ?_
          refine s_one (.agg #[.int .i64 0, .int .i64 0, .slice none 0 0]) A76 S74 (g_load (g := g7) (off := 0) 0 (by kernel_rfl) rfl (by kernel_rfl)) rfl (fun ac A79 => ?_)
          refine s_store (g := g3) (off := 0) (v := .agg #[.int .i64 0, .int .i64 0, .slice none 0 0]) 1 (#[.int .i64 0, .int .i64 0, .slice none 0 0]) A79 S74 (by kernel_rfl) (by kernel_rfl) rfl (by kernel_rfl) (fun wc S81 => ?_)
          refine s_one (.int .i64 2) A79 S81 (g_assign (by kernel_rfl)) rfl (fun ac A83 => ?_)
          refine wpList_nil ?_
          refine n_then ?_
          refine wp_ret ?_
          refine r_then ?_
          have S84 := S81.nilRow 36 1
          refine fin2 (.agg #[.int .i64 0, .int .i64 0, .slice none 0 0]) (.int .i64 2) Try.results32 A83 S84 (rv_cell (g := g3) (off := 0) 1 (by kernel_rfl) rfl (by kernel_rfl)) (rv_tmp (by kernel_rfl)) ?_
          have bw := S84.kp
          have ow := S84.row 0 rfl
          have ez := pfZ_3 (l := l) (by omega) ((pre_two (by omega)).2 ⟨by omega, by omega⟩) (by omega) h78
          obtain ⟨e1, e2, e3⟩ := pf_err ez (by decide)
          rw [e1, e2, e3, ez]
          exact ⟨_, rfl, bw, ow⟩
        · have h85 : inB (nthU l 3 : Int) 1 16 = true := by simpa using h77
          refine wp_skip ?_
          refine n_then ?_
          refine wp_seq ?_
          refine wp_seq ?_
          refine wp_region_lit ?_
          refine s_one (.string ⟨l.toArray⟩) A76 S74 (g_move (by kernel_rfl)) rfl (fun ac A86 => ?_)
          refine s_one (.int .i64 (l.length : Int)) A86 S74 (g_built (r := [(0, .string ⟨l.toArray⟩)]) (by kernel_rfl) (fun ty cs w => bl_str (l := l) Try.underlying9 ty cs w)) rfl (fun ac A87 => ?_)
          refine s_one (.int .i64 (nthU l 3 : Int)) A87 S74 (g_move (by kernel_rfl)) rfl (fun ac A88 => ?_)
          refine s_call (fs := #[]) (cp := #[]) (r := [(0, .int .i64 (nthU l 3 : Int))]) #[.int .i64 (nthU l 3 : Int)] (.int .i64 ((10 + 128 * ((nthU l 3) * (nthU l 3)) : Nat) : Int)) A88 S74 (refSize_s (nthU l 3) _ (by have h9 := nthU_lt l 3; omega)) Try.call50 (by kernel_rfl) (by kernel_rfl) (by kernel_rfl) rfl (fun ac wc A89 S90 => ?_)
          refine s_one (.bool (decide ((l.length : Int) ≠ ((10 + 128 * ((nthU l 3) * (nthU l 3)) : Nat) : Int)))) A89 S90 (g_bin (u := .int .i64 (l.length : Int)) (k := .int .i64 ((10 + 128 * ((nthU l 3) * (nthU l 3)) : Nat) : Int)) (by kernel_rfl) (by kernel_rfl) (fun _ => by kernel_rfl) b_neq) rfl (fun ac A92 => ?_)
          refine wpList_nil ?_
          refine n_then ?_
          refine c_ifb (b := (decide ((l.length : Int) ≠ ((10 + 128 * ((nthU l 3) * (nthU l 3)) : Nat) : Int)))) A92 (by kernel_rfl) (fun h93 => ?_) (fun h93 => ?_)
          · have p94 := of_decide_eq_true h93
            refine wp_seq ?_
            refine wp_region_lit ?_
            refine s_one (.agg #[.int .i64 0, .int .i64 0, .slice none 0 0]) A92 S90 (g_load (g := g7) (off := 0) 0 (by kernel_rfl) rfl (by kernel_rfl)) rfl (fun ac A95 => ?_)
            refine s_store (g := g3) (off := 0) (v := .agg #[.int .i64 0, .int .i64 0, .slice none 0 0]) 1 (#[.int .i64 0, .int .i64 0, .slice none 0 0]) A95 S90 (by kernel_rfl) (by kernel_rfl) rfl (by kernel_rfl) (fun wc S97 => ?_)
            refine s_one (.int .i64 10) A95 S97 (g_assign (by kernel_rfl)) rfl (fun ac A99 => ?_)
            refine wpList_nil ?_
            refine n_then ?_
            refine wp_ret ?_
            refine r_then ?_
            have S100 := S97.nilRow 36 1
            refine fin2 (.agg #[.int .i64 0, .int .i64 0, .slice none 0 0]) (.int .i64 10) Try.results32 A99 S100 (rv_cell (g := g3) (off := 0) 1 (by kernel_rfl) rfl (by kernel_rfl)) (rv_tmp (by kernel_rfl)) ?_
            have bw := S100.kp
            have ow := S100.row 0 rfl
            have ez := pfZ_4 (l := l) (by omega) ((pre_two (by omega)).2 ⟨by omega, by omega⟩) (by omega) h85 (by omega)
            obtain ⟨e1, e2, e3⟩ := pf_err ez (by decide)
            rw [e1, e2, e3, ez]
            exact ⟨_, rfl, bw, ow⟩
          · have p101 := of_decide_eq_false h93
            refine wp_skip ?_
            refine n_then ?_
            refine wp_seq ?_
            refine wp_region_lit ?_
            refine s_one (.string ⟨l.toArray⟩) A92 S90 (g_move (by kernel_rfl)) rfl (fun ac A102 => ?_)
            refine s_one (.int .i64 (l.length : Int)) A102 S90 (g_built (r := [(0, .string ⟨l.toArray⟩)]) (by kernel_rfl) (fun ty cs w => bl_str (l := l) Try.underlying9 ty cs w)) rfl (fun ac A103 => ?_)
            refine s_one (.int .i64 ((l.length : Int) - 2)) A103 S90 (g_bin (u := .int .i64 (l.length : Int)) (k := .int .i64 2) (by kernel_rfl) (by kernel_rfl) (fun _ => by kernel_rfl) (b_sub (by omega))) rfl (fun ac A104 => ?_)
            refine s_one (.int .i64 ((l.length : Int) - 2)) A104 S90 (g_assign (by kernel_rfl)) rfl (fun ac A105 => ?_)
            refine wpList_nil ?_
            refine n_then ?_
            refine wp_seq ?_
            refine wp_seq ?_
            refine r_begin (w0 := w0) (by kernel_rfl) (S90.sub sub_all sub_all) (fun wc T106 B107 => ?_)
            have S108 := S90.kept B107
            refine r_take 0 (.string ⟨l.toArray⟩) A105 T106 (g_move (by kernel_rfl)) rfl rfl rfl (pf_then (pf_then pf_body)) (by kernel_rfl) (fun ac A109 => ?_)
            refine r_take 1 (.int .i64 ((l.length : Int) - 2)) A109 T106 (g_move (by kernel_rfl)) rfl rfl rfl (pf_then (pf_then pf_body)) (by kernel_rfl) (fun ac A110 => ?_)
            refine r_take 2 (.string ⟨(subU l 0 (l.length - 2)).toArray⟩) A110 T106 (g_slice (u := .string ⟨l.toArray⟩) (lo' := none) (hi' := (some (.int .i64 ((l.length : Int) - 2)))) (mx' := none) (by kernel_rfl) (by kernel_rfl) (by kernel_rfl) (by kernel_rfl) (sl_strH (l := l) (h := l.length - 2) Try.underlying9 (by omega) (by omega))) rfl rfl rfl (pf_then (pf_then pf_body)) (by kernel_rfl) (fun ac A111 => ?_)
            refine r_take 5 (.string ⟨l.toArray⟩) A111 T106 (g_move (by kernel_rfl)) rfl rfl rfl (pf_then (pf_then pf_body)) (by kernel_rfl) (fun ac A112 => ?_)
            refine r_take 6 (.int .i64 ((l.length : Int) - 2)) A112 T106 (g_move (by kernel_rfl)) rfl rfl rfl (pf_then (pf_then pf_body)) (by kernel_rfl) (fun ac A113 => ?_)
            refine r_take 7 (.string ⟨(subU l (l.length - 2) 2).toArray⟩) A113 T106 (g_slice (u := .string ⟨l.toArray⟩) (lo' := (some (.int .i64 ((l.length : Int) - 2)))) (hi' := none) (mx' := none) (by kernel_rfl) (by kernel_rfl) (by kernel_rfl) (by kernel_rfl) (sl_strL_n (l := l) (i := l.length - 2) (k := 2) Try.underlying9 (by omega) (by omega) (by omega))) rfl rfl rfl (pf_then (pf_then pf_body)) (by kernel_rfl) (fun ac A114 => ?_)
            refine r_1 (i := 3) (by kernel_rfl) ?_
            refine rs_call (fs := #[]) (cp := #[]) (r := [(0, .string ⟨(subU l 0 (l.length - 2)).toArray⟩)]) #[.string ⟨(subU l 0 (l.length - 2)).toArray⟩] (.int .i64 (ckU (subU l 0 (l.length - 2)) (subU l 0 (l.length - 2)).length)) A114 S108 sub_all sub_all (refSum_s (subU l 0 (l.length - 2)) _ (by have h9 := subU_le l 0 (l.length - 2); omega)) Try.call84 rfl rfl (by kernel_rfl) (by kernel_rfl) (by kernel_rfl) rfl (fun ac wc A115 S116 => ?_)
            have T118 := S116.sub sub_all sub_all
            refine r_1 (i := 4) (by kernel_rfl) ?_
            refine rs_call (fs := #[]) (cp := #[]) (r := [(0, .int .i64 (ckU (subU l 0 (l.length - 2)) (subU l 0 (l.length - 2)).length)), (0, .int .i64 2)]) #[.int .i64 (ckU (subU l 0 (l.length - 2)) (subU l 0 (l.length - 2)).length), .int .i64 2] (.string ⟨(byU (ckU (subU l 0 (l.length - 2)) (subU l 0 (l.length - 2)).length) 2).toArray⟩) A115 S116 sub_all sub_all (bytes_s (ckU (subU l 0 (l.length - 2)) (subU l 0 (l.length - 2)).length) 2 _ (ckU_c _ _) (by decide)) Try.call83 rfl rfl (by kernel_rfl) (by kernel_rfl) (by kernel_rfl) rfl (fun ac wc A119 S120 => ?_)
            have T122 := S120.sub sub_all sub_all
            refine r_take 8 (.bool (decide (byU (ckU (subU l 0 (l.length - 2)) (subU l 0 (l.length - 2)).length) 2 ≠ subU l (l.length - 2) 2))) A119 T122 (g_bin (u := .string ⟨(byU (ckU (subU l 0 (l.length - 2)) (subU l 0 (l.length - 2)).length) 2).toArray⟩) (k := .string ⟨(subU l (l.length - 2) 2).toArray⟩) (by kernel_rfl) (by kernel_rfl) (fun _ => by kernel_rfl) (q_strN (l := byU (ckU (subU l 0 (l.length - 2)) (subU l 0 (l.length - 2)).length) 2) (m := subU l (l.length - 2) 2))) rfl rfl rfl (pf_then (pf_then pf_body)) (by kernel_rfl) (fun ac A123 => ?_)
            refine r_done (by kernel_rfl) ?_
            refine n_then ?_
            refine c_ifb (b := (decide (byU (ckU (subU l 0 (l.length - 2)) (subU l 0 (l.length - 2)).length) 2 ≠ subU l (l.length - 2) 2))) A123 (by kernel_rfl) (fun h124 => ?_) (fun h124 => ?_)
            · have p125 := of_decide_eq_true h124
              refine wp_seq ?_
              refine wp_region_lit ?_
              refine s_one (.agg #[.int .i64 0, .int .i64 0, .slice none 0 0]) A123 S120 (g_load (g := g7) (off := 0) 0 (by kernel_rfl) rfl (by kernel_rfl)) rfl (fun ac A126 => ?_)
              refine s_store (g := g3) (off := 0) (v := .agg #[.int .i64 0, .int .i64 0, .slice none 0 0]) 1 (#[.int .i64 0, .int .i64 0, .slice none 0 0]) A126 S120 (by kernel_rfl) (by kernel_rfl) rfl (by kernel_rfl) (fun wc S128 => ?_)
              refine s_one (.int .i64 19) A126 S128 (g_assign (by kernel_rfl)) rfl (fun ac A130 => ?_)
              refine wpList_nil ?_
              refine n_then ?_
              refine wp_ret ?_
              refine r_then ?_
              have S131 := S128.nilRow 36 1
              refine fin2 (.agg #[.int .i64 0, .int .i64 0, .slice none 0 0]) (.int .i64 19) Try.results32 A130 S131 (rv_cell (g := g3) (off := 0) 1 (by kernel_rfl) rfl (by kernel_rfl)) (rv_tmp (by kernel_rfl)) ?_
              have bw := S131.kp
              have ow := S131.row 0 rfl
              have ez := pfZ_5 (l := l) (by omega) ((pre_two (by omega)).2 ⟨by omega, by omega⟩) (by omega) h85 (by omega) (fun e => p125 ((byU_two (l := l) (i := l.length - 2) (c := ckU (subU l 0 (l.length - 2)) (subU l 0 (l.length - 2)).length) (by have := ckU_range (subU l 0 (l.length - 2)) (subU l 0 (l.length - 2)).length; omega) (by omega)).2 e))
              obtain ⟨e1, e2, e3⟩ := pf_err ez (by decide)
              rw [e1, e2, e3, ez]
              exact ⟨_, rfl, bw, ow⟩
            · have p132 := of_decide_eq_false h124
              refine wp_skip ?_
              refine n_then ?_
              refine wp_seq ?_
              refine wp_region_lit ?_
              refine s_one (.string ⟨l.toArray⟩) A123 S120 (g_move (by kernel_rfl)) rfl (fun ac A133 => ?_)
              refine s_one (.string ⟨(subU l 4 4).toArray⟩) A133 S120 (g_slice (u := .string ⟨l.toArray⟩) (lo' := (some (.int .i64 4))) (hi' := (some (.int .i64 8))) (mx' := none) (by kernel_rfl) (by kernel_rfl) (by kernel_rfl) (by kernel_rfl) (sl_str_n (l := l) (i := 4) (h := 8) (k := 4) Try.underlying9 (by omega) (by omega) (by omega) (by omega) (by omega))) rfl (fun ac A134 => ?_)
              refine s_call (fs := #[]) (cp := #[]) (r := [(0, .string ⟨(subU l 4 4).toArray⟩)]) #[.string ⟨(subU l 4 4).toArray⟩] (.int .i64 (w32 (whI l 4 4))) A134 S120 (number_4 l 4 _ (by omega)) Try.call85 (by kernel_rfl) (by kernel_rfl) (by kernel_rfl) rfl (fun ac wc A135 S136 => ?_)
              refine s_one (.int .i64 (nthU l 3 : Int)) A135 S136 (g_move (by kernel_rfl)) rfl (fun ac A138 => ?_)
              refine s_one (.agg #[.int .i64 (nthU l 3 : Int), .slice none 0 0]) A138 S136 (g_build (r := [(0, .int .i64 (nthU l 3 : Int))]) (by kernel_rfl) (fun _ => by kernel_rfl)) rfl (fun ac A139 => ?_)
              refine s_one (.agg #[.int .i64 (w32 (whI l 4 4)), .int .i64 (nthU l 3 : Int), .slice none 0 0]) A139 S136 (g_build (r := [(0, .int .i64 (w32 (whI l 4 4))), (1, .agg #[.int .i64 (nthU l 3 : Int), .slice none 0 0])]) (by kernel_rfl) (fun _ => by kernel_rfl)) rfl (fun ac A140 => ?_)
              refine s_alloc (#[.int .i64 0, .int .i64 0, .slice none 0 0]) A140 S136 (by kernel_rfl) rfl (fun g143 ac wc A141 S142 => ?_)
              refine s_store (g := g143) (off := 0) (v := .agg #[.int .i64 (w32 (whI l 4 4)), .int .i64 (nthU l 3 : Int), .slice none 0 0]) 0 (#[.int .i64 (w32 (whI l 4 4)), .int .i64 (nthU l 3 : Int), .slice none 0 0]) A141 S142 (by kernel_rfl) (by kernel_rfl) rfl (by kernel_rfl) (fun wc S145 => ?_)
              refine wpList_nil ?_
              refine n_then ?_
              refine wp_seq ?_
              refine wp_seq ?_
              have S0n := S145.nilRow 36 1
              have hcr := ckU_range (subU l 0 (l.length - 2)) (subU l 0 (l.length - 2)).length
              refine wp_region_lit ?_
              refine s_one (.int .i64 8) A141 S0n (g_assign (by kernel_rfl)) rfl (fun ac A147 => ?_)
              refine wpList_nil ?_
              refine n_then ?_
              refine wp_block ?_
              refine c_loopN (fun mm ac wc => ∃ (k : Nat) (v : Value), mm = 64 * (nthU l 3 * nthU l 3) - k ∧ (k ≤ 64 * (nthU l 3 * nthU l 3)) ∧ Fr 86 ac [(0, .string ⟨l.toArray⟩), (2, .pointer (some ⟨g3, 0, none⟩)), (3, .int .i64 0), (4, .pointer (some ⟨g7, 0, none⟩)), (22, .bool ((decide ((l.length : Int) < 8)) || ((decide ((nthU l 0 : Int) ≠ 67)) || (decide ((nthU l 1 : Int) ≠ 80))))), (24, .string ⟨l.toArray⟩), (25, .int .u8 (nthU l 2 : Int)), (26, .bool (decide ((nthU l 2 : Int) ≠ 1))), (28, .string ⟨l.toArray⟩), (29, .int .u8 (nthU l 3 : Int)), (30, .int .i64 (nthU l 3 : Int)), (5, .int .i64 (nthU l 3 : Int)), (31, .int .i64 (nthU l 3 : Int)), (32, .bool (inB (nthU l 3 : Int) 1 16)), (33, .bool (!(inB (nthU l 3 : Int) 1 16))), (35, .string ⟨l.toArray⟩), (36, .int .i64 (l.length : Int)), (37, .int .i64 (nthU l 3 : Int)), (38, .int .i64 ((10 + 128 * ((nthU l 3) * (nthU l 3)) : Nat) : Int)), (39, .bool (decide ((l.length : Int) ≠ ((10 + 128 * ((nthU l 3) * (nthU l 3)) : Nat) : Int)))), (41, .string ⟨l.toArray⟩), (42, .int .i64 (l.length : Int)), (43, .int .i64 ((l.length : Int) - 2)), (6, .int .i64 ((l.length : Int) - 2)), (44, .string ⟨l.toArray⟩), (45, .int .i64 ((l.length : Int) - 2)), (46, .string ⟨(subU l 0 (l.length - 2)).toArray⟩), (49, .string ⟨l.toArray⟩), (50, .int .i64 ((l.length : Int) - 2)), (51, .string ⟨(subU l (l.length - 2) 2).toArray⟩), (47, .int .i64 (ckU (subU l 0 (l.length - 2)) (subU l 0 (l.length - 2)).length)), (48, .string ⟨(byU (ckU (subU l 0 (l.length - 2)) (subU l 0 (l.length - 2)).length) 2).toArray⟩), (52, .bool (decide (byU (ckU (subU l 0 (l.length - 2)) (subU l 0 (l.length - 2)).length) 2 ≠ subU l (l.length - 2) 2))), (54, .string ⟨l.toArray⟩), (55, .string ⟨(subU l 4 4).toArray⟩), (56, .int .i64 (w32 (whI l 4 4))), (57, .int .i64 (nthU l 3 : Int)), (58, .agg #[.int .i64 (nthU l 3 : Int), .slice none 0 0]), (59, .agg #[.int .i64 (w32 (whI l 4 4)), .int .i64 (nthU l 3 : Int), .slice none 0 0]), (7, .pointer (some ⟨g143, 0, none⟩)), (8, .int .i64 ((8 + k * 2 : Nat) : Int))] ∧ St w0 [⟨g143, 66, #[.int .i64 (w32 (whI l 4 4)), .int .i64 (nthU l 3 : Int), v], true⟩, ⟨g7, 66, #[.int .i64 0, .int .i64 0, .slice none 0 0], true⟩, ⟨g3, 66, #[.int .i64 0, .int .i64 0, .slice none 0 0], true⟩] [⟨v, 36, 1, k, (rowF (fw (pfL l k)))⟩] wc) _ ⟨0, .slice none 0 0, rfl, by omega, (A147.slot (A147.slot (A147.slot (A147.slot (A147.slot (A147.slot (A147.slot (A147.slot (A147.slot (A147.slot (A147.slot (A147.slot (A147.slot (A147.slot (A147.slot (A147.slot (A147.slot (A147.slot (A147.slot (A147.slot (A147.slot (A147.slot (A147.slot (A147.slot (A147.slot (A147.slot (A147.slot (A147.slot (A147.slot (A147.slot (A147.slot (A147.slot (A147.slot (A147.slot (A147.slot (A147.slot (A147.slot (A147.slot (A147.slot (A147.slot (A147.slot A147.nil (v := .int .i64 8) (by kernel_rfl) rfl) (v := .pointer (some ⟨g143, 0, none⟩)) (by kernel_rfl) rfl) (v := .agg #[.int .i64 (w32 (whI l 4 4)), .int .i64 (nthU l 3 : Int), .slice none 0 0]) (by kernel_rfl) rfl) (v := .agg #[.int .i64 (nthU l 3 : Int), .slice none 0 0]) (by kernel_rfl) rfl) (v := .int .i64 (nthU l 3 : Int)) (by kernel_rfl) rfl) (v := .int .i64 (w32 (whI l 4 4))) (by kernel_rfl) rfl) (v := .string ⟨(subU l 4 4).toArray⟩) (by kernel_rfl) rfl) (v := .string ⟨l.toArray⟩) (by kernel_rfl) rfl) (v := .bool (decide (byU (ckU (subU l 0 (l.length - 2)) (subU l 0 (l.length - 2)).length) 2 ≠ subU l (l.length - 2) 2))) (by kernel_rfl) rfl) (v := .string ⟨(byU (ckU (subU l 0 (l.length - 2)) (subU l 0 (l.length - 2)).length) 2).toArray⟩) (by kernel_rfl) rfl) (v := .int .i64 (ckU (subU l 0 (l.length - 2)) (subU l 0 (l.length - 2)).length)) (by kernel_rfl) rfl) (v := .string ⟨(subU l (l.length - 2) 2).toArray⟩) (by kernel_rfl) rfl) (v := .int .i64 ((l.length : Int) - 2)) (by kernel_rfl) rfl) (v := .string ⟨l.toArray⟩) (by kernel_rfl) rfl) (v := .string ⟨(subU l 0 (l.length - 2)).toArray⟩) (by kernel_rfl) rfl) (v := .int .i64 ((l.length : Int) - 2)) (by kernel_rfl) rfl) (v := .string ⟨l.toArray⟩) (by kernel_rfl) rfl) (v := .int .i64 ((l.length : Int) - 2)) (by kernel_rfl) rfl) (v := .int .i64 ((l.length : Int) - 2)) (by kernel_rfl) rfl) (v := .int .i64 (l.length : Int)) (by kernel_rfl) rfl) (v := .string ⟨l.toArray⟩) (by kernel_rfl) rfl) (v := .bool (decide ((l.length : Int) ≠ ((10 + 128 * ((nthU l 3) * (nthU l 3)) : Nat) : Int)))) (by kernel_rfl) rfl) (v := .int .i64 ((10 + 128 * ((nthU l 3) * (nthU l 3)) : Nat) : Int)) (by kernel_rfl) rfl) (v := .int .i64 (nthU l 3 : Int)) (by kernel_rfl) rfl) (v := .int .i64 (l.length : Int)) (by kernel_rfl) rfl) (v := .string ⟨l.toArray⟩) (by kernel_rfl) rfl) (v := .bool (!(inB (nthU l 3 : Int) 1 16))) (by kernel_rfl) rfl) (v := .bool (inB (nthU l 3 : Int) 1 16)) (by kernel_rfl) rfl) (v := .int .i64 (nthU l 3 : Int)) (by kernel_rfl) rfl) (v := .int .i64 (nthU l 3 : Int)) (by kernel_rfl) rfl) (v := .int .i64 (nthU l 3 : Int)) (by kernel_rfl) rfl) (v := .int .u8 (nthU l 3 : Int)) (by kernel_rfl) rfl) (v := .string ⟨l.toArray⟩) (by kernel_rfl) rfl) (v := .bool (decide ((nthU l 2 : Int) ≠ 1))) (by kernel_rfl) rfl) (v := .int .u8 (nthU l 2 : Int)) (by kernel_rfl) rfl) (v := .string ⟨l.toArray⟩) (by kernel_rfl) rfl) (v := .bool ((decide ((l.length : Int) < 8)) || ((decide ((nthU l 0 : Int) ≠ 67)) || (decide ((nthU l 1 : Int) ≠ 80))))) (by kernel_rfl) rfl) (v := .pointer (some ⟨g7, 0, none⟩)) (by kernel_rfl) rfl) (v := .int .i64 0) (by kernel_rfl) rfl) (v := .pointer (some ⟨g3, 0, none⟩)) (by kernel_rfl) rfl) (v := .string ⟨l.toArray⟩) (by kernel_rfl) rfl), (St.rerow 0 (St.recell 0 S0n rfl (by rfl)) rfl ⟨rfl, rfl⟩).sub sub_all sub_all⟩ ?_
              rintro mm ac wc ⟨k, v, hm150, hk, A148, S149⟩
              refine wp_seq ?_
              refine wp_seq ?_
              refine wp_region_lit ?_
              refine s_one (.int .i64 ((8 + k * 2 : Nat) : Int)) A148 S149 (g_move (by kernel_rfl)) rfl (fun ac A151 => ?_)
              refine s_one (.int .i64 ((l.length : Int) - 2)) A151 S149 (g_move (by kernel_rfl)) rfl (fun ac A152 => ?_)
              refine s_one (.bool (decide (((8 + k * 2 : Nat) : Int) < (l.length : Int) - 2))) A152 S149 (g_bin (u := .int .i64 ((8 + k * 2 : Nat) : Int)) (k := .int .i64 ((l.length : Int) - 2)) (by kernel_rfl) (by kernel_rfl) (fun _ => by kernel_rfl) (fun _ => by kernel_rfl)) rfl (fun ac A153 => ?_)
              refine wpList_nil ?_
              refine n_then ?_
              refine c_ifb (b := (decide (((8 + k * 2 : Nat) : Int) < (l.length : Int) - 2))) A153 (by kernel_rfl) (fun h154 => ?_) (fun h154 => ?_)
              · have p155 := of_decide_eq_true h154
                refine wp_skip ?_
                refine n_then ?_
                refine wp_seq ?_
                refine wp_block ?_
                refine r_begin (w0 := w0) (by kernel_rfl) (S149.sub (sub_skip sub_all) sub_nil) (fun wc T156 B157 => ?_)
                have S158 := S149.kept B157
                refine r_take 0 (.pointer (some ⟨g143, 1, none⟩)) A153 T156 (g_field (u := .pointer (some ⟨g143, 0, none⟩)) (by kernel_rfl) (fun _ => by kernel_rfl)) rfl rfl rfl (pf_block (pf_then (pf_then (pf_block (pf_then pf_body))))) (by kernel_rfl) (fun ac A159 => ?_)
                refine r_take 1 (.pointer (some ⟨g143, 2, none⟩)) A159 T156 (g_field (u := .pointer (some ⟨g143, 1, none⟩)) (by kernel_rfl) (fun _ => by kernel_rfl)) rfl rfl rfl (pf_block (pf_then (pf_then (pf_block (pf_then pf_body))))) (by kernel_rfl) (fun ac A160 => ?_)
                refine r_take 3 (.string ⟨l.toArray⟩) A160 T156 (g_move (by kernel_rfl)) rfl rfl rfl (pf_block (pf_then (pf_then (pf_block (pf_then pf_body))))) (by kernel_rfl) (fun ac A161 => ?_)
                refine r_take 4 (.int .i64 ((8 + k * 2 : Nat) : Int)) A161 T156 (g_move (by kernel_rfl)) rfl rfl rfl (pf_block (pf_then (pf_then (pf_block (pf_then pf_body))))) (by kernel_rfl) (fun ac A162 => ?_)
                refine r_take 5 (.int .i64 ((8 + k * 2 : Nat) : Int)) A162 T156 (g_move (by kernel_rfl)) rfl rfl rfl (pf_block (pf_then (pf_then (pf_block (pf_then pf_body))))) (by kernel_rfl) (fun ac A163 => ?_)
                refine r_take 6 (.int .i64 (((8 + k * 2 : Nat) : Int) + 2)) A163 T156 (g_bin (u := .int .i64 ((8 + k * 2 : Nat) : Int)) (k := .int .i64 2) (by kernel_rfl) (by kernel_rfl) (fun _ => by kernel_rfl) (b_add (by omega))) rfl rfl rfl (pf_block (pf_then (pf_then (pf_block (pf_then pf_body))))) (by kernel_rfl) (fun ac A164 => ?_)
                refine r_take 7 (.string ⟨(subU l (8 + k * 2) 2).toArray⟩) A164 T156 (g_slice (u := .string ⟨l.toArray⟩) (lo' := (some (.int .i64 ((8 + k * 2 : Nat) : Int)))) (hi' := (some (.int .i64 (((8 + k * 2 : Nat) : Int) + 2)))) (mx' := none) (by kernel_rfl) (by kernel_rfl) (by kernel_rfl) (by kernel_rfl) (sl_str_n (l := l) (i := 8 + k * 2) (h := 8 + k * 2 + 2) (k := 2) Try.underlying9 (by omega) (by omega) (by omega) (by omega) (by omega))) rfl rfl rfl (pf_block (pf_then (pf_then (pf_block (pf_then pf_body))))) (by kernel_rfl) (fun ac A165 => ?_)
                refine r_2 (i := 2) (j := 8) (by kernel_rfl) ?_ ?_
                · refine rs_gives (v) A165 S158 (sub_skip sub_all) sub_nil (g_load (g := g143) (off := 2) 0 (by kernel_rfl) rfl (by kernel_rfl)) rfl rfl rfl (fun ac A166 => ?_)
                  refine r_1 (i := 8) (by kernel_rfl) ?_
                  refine rs_call (fs := #[]) (cp := #[]) (r := [(0, .string ⟨(subU l (8 + k * 2) 2).toArray⟩)]) #[.string ⟨(subU l (8 + k * 2) 2).toArray⟩] (.int .i64 (w16 (whI l (8 + k * 2) 2))) A166 S158 (sub_skip sub_all) sub_nil (number_2 l (8 + k * 2) _ (by omega)) Try.call85 rfl rfl (by kernel_rfl) (by kernel_rfl) (by kernel_rfl) rfl (fun ac wc A170 S171 => ?_)
                  have T173 := S171.sub (sub_skip sub_all) sub_nil
                  refine r_take 9 (.float .f32 (floatOfInt .f32 (w16 (whI l (8 + k * 2) 2)))) A170 T173 (g_conv (u := .int .i64 (w16 (whI l (8 + k * 2) 2))) (by kernel_rfl) (fun _ => by kernel_rfl)) rfl rfl rfl (pf_block (pf_then (pf_then (pf_block (pf_then pf_body))))) (by kernel_rfl) (fun ac A174 => ?_)
                  refine r_1 (i := 10) (by kernel_rfl) ?_
                  refine rs_bs (e := 36) (r := [(0, .float .f32 (floatOfInt .f32 (w16 (whI l (8 + k * 2) 2))))]) (#[.float .f32 (floatOfInt .f32 (w16 (whI l (8 + k * 2) 2)))]) A174 S171 (sub_skip sub_all) sub_nil (by kernel_rfl) (by kernel_rfl) rfl rfl rfl (fun g177 ac wc A175 S176 => ?_)
                  have T178 := S176.sub (sub_skip (sub_skip sub_all)) sub_nil
                  refine r_1 (i := 11) (by kernel_rfl) ?_
                  refine rs_append (e := 36) (size := 1) (bytes := 4) (v := v) (g := g177) (m' := 1) (c := 1) 0 0 [.float .f32 (floatOfInt .f32 (w16 (whI l (8 + k * 2) 2)))] A175 S176 (sub_skip (sub_skip sub_all)) (fun _ => sub_nil) (by kernel_rfl) (by kernel_rfl) (by kernel_rfl) rfl rfl (by kernel_rfl) rfl (by kernel_rfl) (by omega) (by omega) rfl rfl rfl (fun v183 ac wc A179 S180 => ?_)
                  have T182 := S180.sub (sub_skip (sub_skip sub_all)) sub_nil
                  refine r_take 12 (.pointer (some ⟨g143, 1, none⟩)) A179 T182 (g_field (u := .pointer (some ⟨g143, 0, none⟩)) (by kernel_rfl) (fun _ => by kernel_rfl)) rfl rfl rfl (pf_block (pf_then (pf_then (pf_block (pf_then pf_body))))) (by kernel_rfl) (fun ac A184 => ?_)
                  refine r_take 13 (.pointer (some ⟨g143, 2, none⟩)) A184 T182 (g_field (u := .pointer (some ⟨g143, 1, none⟩)) (by kernel_rfl) (fun _ => by kernel_rfl)) rfl rfl rfl (pf_block (pf_then (pf_then (pf_block (pf_then pf_body))))) (by kernel_rfl) (fun ac A185 => ?_)
                  refine r_1 (i := 14) (by kernel_rfl) ?_
                  obtain ⟨A186, cap187, rfl⟩ := row_slice (v := v183) (m := k + 1) (S180.row 0 rfl)
                  refine rs_store (g := g143) (off := 2) (v := .slice A186 (k + 1) cap187) 1 (#[.int .i64 (w32 (whI l 4 4)), .int .i64 (nthU l 3 : Int), .slice A186 (k + 1) cap187]) A185 S180 (sub_skip (sub_skip sub_all)) sub_nil (by kernel_rfl) (by kernel_rfl) rfl (by kernel_rfl) rfl rfl (fun wc S189 => ?_)
                  have T191 := S189.sub (sub_skip (sub_skip sub_all)) sub_nil
                  refine r_done (by kernel_rfl) ?_
                  refine n_block ?_
                  refine n_then ?_
                  refine wp_region_lit ?_
                  refine s_one (.int .i64 ((8 + k * 2 : Nat) : Int)) A185 S189 (g_move (by kernel_rfl)) rfl (fun ac A192 => ?_)
                  refine s_one (.int .i64 (((8 + k * 2 : Nat) : Int) + 2)) A192 S189 (g_bin (u := .int .i64 ((8 + k * 2 : Nat) : Int)) (k := .int .i64 2) (by kernel_rfl) (by kernel_rfl) (fun _ => by kernel_rfl) (b_add (by omega))) rfl (fun ac A193 => ?_)
                  refine s_one (.int .i64 (((8 + k * 2 : Nat) : Int) + 2)) A193 S189 (g_assign (by kernel_rfl)) rfl (fun ac A194 => ?_)
                  refine wpList_nil ?_
                  refine n_then ?_
                  refine ⟨_, ⟨k + 1, .slice A186 (k + 1) cap187, rfl, by omega, (A194.slot (A194.slot (A194.slot (A194.slot (A194.slot (A194.slot (A194.slot (A194.slot (A194.slot (A194.slot (A194.slot (A194.slot (A194.slot (A194.slot (A194.slot (A194.slot (A194.slot (A194.slot (A194.slot (A194.slot (A194.slot (A194.slot (A194.slot (A194.slot (A194.slot (A194.slot (A194.slot (A194.slot (A194.slot (A194.slot (A194.slot (A194.slot (A194.slot (A194.slot (A194.slot (A194.slot (A194.slot (A194.slot (A194.slot (A194.slot (A194.slot A194.nil (v := .int .i64 (((8 + k * 2 : Nat) : Int) + 2)) (by kernel_rfl) (congrArg (Value.int .i64) (by omega))) (v := .pointer (some ⟨g143, 0, none⟩)) (by kernel_rfl) rfl) (v := .agg #[.int .i64 (w32 (whI l 4 4)), .int .i64 (nthU l 3 : Int), .slice none 0 0]) (by kernel_rfl) rfl) (v := .agg #[.int .i64 (nthU l 3 : Int), .slice none 0 0]) (by kernel_rfl) rfl) (v := .int .i64 (nthU l 3 : Int)) (by kernel_rfl) rfl) (v := .int .i64 (w32 (whI l 4 4))) (by kernel_rfl) rfl) (v := .string ⟨(subU l 4 4).toArray⟩) (by kernel_rfl) rfl) (v := .string ⟨l.toArray⟩) (by kernel_rfl) rfl) (v := .bool (decide (byU (ckU (subU l 0 (l.length - 2)) (subU l 0 (l.length - 2)).length) 2 ≠ subU l (l.length - 2) 2))) (by kernel_rfl) rfl) (v := .string ⟨(byU (ckU (subU l 0 (l.length - 2)) (subU l 0 (l.length - 2)).length) 2).toArray⟩) (by kernel_rfl) rfl) (v := .int .i64 (ckU (subU l 0 (l.length - 2)) (subU l 0 (l.length - 2)).length)) (by kernel_rfl) rfl) (v := .string ⟨(subU l (l.length - 2) 2).toArray⟩) (by kernel_rfl) rfl) (v := .int .i64 ((l.length : Int) - 2)) (by kernel_rfl) rfl) (v := .string ⟨l.toArray⟩) (by kernel_rfl) rfl) (v := .string ⟨(subU l 0 (l.length - 2)).toArray⟩) (by kernel_rfl) rfl) (v := .int .i64 ((l.length : Int) - 2)) (by kernel_rfl) rfl) (v := .string ⟨l.toArray⟩) (by kernel_rfl) rfl) (v := .int .i64 ((l.length : Int) - 2)) (by kernel_rfl) rfl) (v := .int .i64 ((l.length : Int) - 2)) (by kernel_rfl) rfl) (v := .int .i64 (l.length : Int)) (by kernel_rfl) rfl) (v := .string ⟨l.toArray⟩) (by kernel_rfl) rfl) (v := .bool (decide ((l.length : Int) ≠ ((10 + 128 * ((nthU l 3) * (nthU l 3)) : Nat) : Int)))) (by kernel_rfl) rfl) (v := .int .i64 ((10 + 128 * ((nthU l 3) * (nthU l 3)) : Nat) : Int)) (by kernel_rfl) rfl) (v := .int .i64 (nthU l 3 : Int)) (by kernel_rfl) rfl) (v := .int .i64 (l.length : Int)) (by kernel_rfl) rfl) (v := .string ⟨l.toArray⟩) (by kernel_rfl) rfl) (v := .bool (!(inB (nthU l 3 : Int) 1 16))) (by kernel_rfl) rfl) (v := .bool (inB (nthU l 3 : Int) 1 16)) (by kernel_rfl) rfl) (v := .int .i64 (nthU l 3 : Int)) (by kernel_rfl) rfl) (v := .int .i64 (nthU l 3 : Int)) (by kernel_rfl) rfl) (v := .int .i64 (nthU l 3 : Int)) (by kernel_rfl) rfl) (v := .int .u8 (nthU l 3 : Int)) (by kernel_rfl) rfl) (v := .string ⟨l.toArray⟩) (by kernel_rfl) rfl) (v := .bool (decide ((nthU l 2 : Int) ≠ 1))) (by kernel_rfl) rfl) (v := .int .u8 (nthU l 2 : Int)) (by kernel_rfl) rfl) (v := .string ⟨l.toArray⟩) (by kernel_rfl) rfl) (v := .bool ((decide ((l.length : Int) < 8)) || ((decide ((nthU l 0 : Int) ≠ 67)) || (decide ((nthU l 1 : Int) ≠ 80))))) (by kernel_rfl) rfl) (v := .pointer (some ⟨g7, 0, none⟩)) (by kernel_rfl) rfl) (v := .int .i64 0) (by kernel_rfl) rfl) (v := .pointer (some ⟨g3, 0, none⟩)) (by kernel_rfl) rfl) (v := .string ⟨l.toArray⟩) (by kernel_rfl) rfl), (St.rerow 0 (St.recell 1 S189 rfl (by rfl)) rfl ⟨rfl, pf_snoc3 l (by omega) rfl (by omega)⟩).sub (sub_skip sub_all) sub_all⟩, ?_⟩
                  omega
                · refine rs_call (fs := #[]) (cp := #[]) (r := [(0, .string ⟨(subU l (8 + k * 2) 2).toArray⟩)]) #[.string ⟨(subU l (8 + k * 2) 2).toArray⟩] (.int .i64 (w16 (whI l (8 + k * 2) 2))) A165 S158 (sub_skip sub_all) sub_nil (number_2 l (8 + k * 2) _ (by omega)) Try.call85 rfl rfl (by kernel_rfl) (by kernel_rfl) (by kernel_rfl) rfl (fun ac wc A195 S196 => ?_)
                  have T198 := S196.sub (sub_skip sub_all) sub_nil
                  refine r_take 9 (.float .f32 (floatOfInt .f32 (w16 (whI l (8 + k * 2) 2)))) A195 T198 (g_conv (u := .int .i64 (w16 (whI l (8 + k * 2) 2))) (by kernel_rfl) (fun _ => by kernel_rfl)) rfl rfl rfl (pf_block (pf_then (pf_then (pf_block (pf_then pf_body))))) (by kernel_rfl) (fun ac A199 => ?_)
                  refine r_2 (i := 2) (j := 10) (by kernel_rfl) ?_ ?_
                  · refine rs_gives (v) A199 S196 (sub_skip sub_all) sub_nil (g_load (g := g143) (off := 2) 0 (by kernel_rfl) rfl (by kernel_rfl)) rfl rfl rfl (fun ac A200 => ?_)
                    refine r_1 (i := 10) (by kernel_rfl) ?_
                    refine rs_bs (e := 36) (r := [(0, .float .f32 (floatOfInt .f32 (w16 (whI l (8 + k * 2) 2))))]) (#[.float .f32 (floatOfInt .f32 (w16 (whI l (8 + k * 2) 2)))]) A200 S196 (sub_skip sub_all) sub_nil (by kernel_rfl) (by kernel_rfl) rfl rfl rfl (fun g206 ac wc A204 S205 => ?_)
                    have T207 := S205.sub (sub_skip (sub_skip sub_all)) sub_nil
                    refine r_1 (i := 11) (by kernel_rfl) ?_
                    refine rs_append (e := 36) (size := 1) (bytes := 4) (v := v) (g := g206) (m' := 1) (c := 1) 0 0 [.float .f32 (floatOfInt .f32 (w16 (whI l (8 + k * 2) 2)))] A204 S205 (sub_skip (sub_skip sub_all)) (fun _ => sub_nil) (by kernel_rfl) (by kernel_rfl) (by kernel_rfl) rfl rfl (by kernel_rfl) rfl (by kernel_rfl) (by omega) (by omega) rfl rfl rfl (fun v212 ac wc A208 S209 => ?_)
                    have T211 := S209.sub (sub_skip (sub_skip sub_all)) sub_nil
                    refine r_take 12 (.pointer (some ⟨g143, 1, none⟩)) A208 T211 (g_field (u := .pointer (some ⟨g143, 0, none⟩)) (by kernel_rfl) (fun _ => by kernel_rfl)) rfl rfl rfl (pf_block (pf_then (pf_then (pf_block (pf_then pf_body))))) (by kernel_rfl) (fun ac A213 => ?_)
                    refine r_take 13 (.pointer (some ⟨g143, 2, none⟩)) A213 T211 (g_field (u := .pointer (some ⟨g143, 1, none⟩)) (by kernel_rfl) (fun _ => by kernel_rfl)) rfl rfl rfl (pf_block (pf_then (pf_then (pf_block (pf_then pf_body))))) (by kernel_rfl) (fun ac A214 => ?_)
                    refine r_1 (i := 14) (by kernel_rfl) ?_
                    obtain ⟨A215, cap216, rfl⟩ := row_slice (v := v212) (m := k + 1) (S209.row 0 rfl)
                    refine rs_store (g := g143) (off := 2) (v := .slice A215 (k + 1) cap216) 1 (#[.int .i64 (w32 (whI l 4 4)), .int .i64 (nthU l 3 : Int), .slice A215 (k + 1) cap216]) A214 S209 (sub_skip (sub_skip sub_all)) sub_nil (by kernel_rfl) (by kernel_rfl) rfl (by kernel_rfl) rfl rfl (fun wc S218 => ?_)
                    have T220 := S218.sub (sub_skip (sub_skip sub_all)) sub_nil
                    refine r_done (by kernel_rfl) ?_
                    refine n_block ?_
                    refine n_then ?_
                    refine wp_region_lit ?_
                    refine s_one (.int .i64 ((8 + k * 2 : Nat) : Int)) A214 S218 (g_move (by kernel_rfl)) rfl (fun ac A221 => ?_)
                    refine s_one (.int .i64 (((8 + k * 2 : Nat) : Int) + 2)) A221 S218 (g_bin (u := .int .i64 ((8 + k * 2 : Nat) : Int)) (k := .int .i64 2) (by kernel_rfl) (by kernel_rfl) (fun _ => by kernel_rfl) (b_add (by omega))) rfl (fun ac A222 => ?_)
                    refine s_one (.int .i64 (((8 + k * 2 : Nat) : Int) + 2)) A222 S218 (g_assign (by kernel_rfl)) rfl (fun ac A223 => ?_)
                    refine wpList_nil ?_
                    refine n_then ?_
                    refine ⟨_, ⟨k + 1, .slice A215 (k + 1) cap216, rfl, by omega, (A223.slot (A223.slot (A223.slot (A223.slot (A223.slot (A223.slot (A223.slot (A223.slot (A223.slot (A223.slot (A223.slot (A223.slot (A223.slot (A223.slot (A223.slot (A223.slot (A223.slot (A223.slot (A223.slot (A223.slot (A223.slot (A223.slot (A223.slot (A223.slot (A223.slot (A223.slot (A223.slot (A223.slot (A223.slot (A223.slot (A223.slot (A223.slot (A223.slot (A223.slot (A223.slot (A223.slot (A223.slot (A223.slot (A223.slot (A223.slot (A223.slot A223.nil (v := .int .i64 (((8 + k * 2 : Nat) : Int) + 2)) (by kernel_rfl) (congrArg (Value.int .i64) (by omega))) (v := .pointer (some ⟨g143, 0, none⟩)) (by kernel_rfl) rfl) (v := .agg #[.int .i64 (w32 (whI l 4 4)), .int .i64 (nthU l 3 : Int), .slice none 0 0]) (by kernel_rfl) rfl) (v := .agg #[.int .i64 (nthU l 3 : Int), .slice none 0 0]) (by kernel_rfl) rfl) (v := .int .i64 (nthU l 3 : Int)) (by kernel_rfl) rfl) (v := .int .i64 (w32 (whI l 4 4))) (by kernel_rfl) rfl) (v := .string ⟨(subU l 4 4).toArray⟩) (by kernel_rfl) rfl) (v := .string ⟨l.toArray⟩) (by kernel_rfl) rfl) (v := .bool (decide (byU (ckU (subU l 0 (l.length - 2)) (subU l 0 (l.length - 2)).length) 2 ≠ subU l (l.length - 2) 2))) (by kernel_rfl) rfl) (v := .string ⟨(byU (ckU (subU l 0 (l.length - 2)) (subU l 0 (l.length - 2)).length) 2).toArray⟩) (by kernel_rfl) rfl) (v := .int .i64 (ckU (subU l 0 (l.length - 2)) (subU l 0 (l.length - 2)).length)) (by kernel_rfl) rfl) (v := .string ⟨(subU l (l.length - 2) 2).toArray⟩) (by kernel_rfl) rfl) (v := .int .i64 ((l.length : Int) - 2)) (by kernel_rfl) rfl) (v := .string ⟨l.toArray⟩) (by kernel_rfl) rfl) (v := .string ⟨(subU l 0 (l.length - 2)).toArray⟩) (by kernel_rfl) rfl) (v := .int .i64 ((l.length : Int) - 2)) (by kernel_rfl) rfl) (v := .string ⟨l.toArray⟩) (by kernel_rfl) rfl) (v := .int .i64 ((l.length : Int) - 2)) (by kernel_rfl) rfl) (v := .int .i64 ((l.length : Int) - 2)) (by kernel_rfl) rfl) (v := .int .i64 (l.length : Int)) (by kernel_rfl) rfl) (v := .string ⟨l.toArray⟩) (by kernel_rfl) rfl) (v := .bool (decide ((l.length : Int) ≠ ((10 + 128 * ((nthU l 3) * (nthU l 3)) : Nat) : Int)))) (by kernel_rfl) rfl) (v := .int .i64 ((10 + 128 * ((nthU l 3) * (nthU l 3)) : Nat) : Int)) (by kernel_rfl) rfl) (v := .int .i64 (nthU l 3 : Int)) (by kernel_rfl) rfl) (v := .int .i64 (l.length : Int)) (by kernel_rfl) rfl) (v := .string ⟨l.toArray⟩) (by kernel_rfl) rfl) (v := .bool (!(inB (nthU l 3 : Int) 1 16))) (by kernel_rfl) rfl) (v := .bool (inB (nthU l 3 : Int) 1 16)) (by kernel_rfl) rfl) (v := .int .i64 (nthU l 3 : Int)) (by kernel_rfl) rfl) (v := .int .i64 (nthU l 3 : Int)) (by kernel_rfl) rfl) (v := .int .i64 (nthU l 3 : Int)) (by kernel_rfl) rfl) (v := .int .u8 (nthU l 3 : Int)) (by kernel_rfl) rfl) (v := .string ⟨l.toArray⟩) (by kernel_rfl) rfl) (v := .bool (decide ((nthU l 2 : Int) ≠ 1))) (by kernel_rfl) rfl) (v := .int .u8 (nthU l 2 : Int)) (by kernel_rfl) rfl) (v := .string ⟨l.toArray⟩) (by kernel_rfl) rfl) (v := .bool ((decide ((l.length : Int) < 8)) || ((decide ((nthU l 0 : Int) ≠ 67)) || (decide ((nthU l 1 : Int) ≠ 80))))) (by kernel_rfl) rfl) (v := .pointer (some ⟨g7, 0, none⟩)) (by kernel_rfl) rfl) (v := .int .i64 0) (by kernel_rfl) rfl) (v := .pointer (some ⟨g3, 0, none⟩)) (by kernel_rfl) rfl) (v := .string ⟨l.toArray⟩) (by kernel_rfl) rfl), (St.rerow 0 (St.recell 1 S218 rfl (by rfl)) rfl ⟨rfl, pf_snoc3 l (by omega) rfl (by omega)⟩).sub (sub_skip sub_all) sub_all⟩, ?_⟩
                    omega
                  · refine rs_bs (e := 36) (r := [(0, .float .f32 (floatOfInt .f32 (w16 (whI l (8 + k * 2) 2))))]) (#[.float .f32 (floatOfInt .f32 (w16 (whI l (8 + k * 2) 2)))]) A199 S196 (sub_skip sub_all) sub_nil (by kernel_rfl) (by kernel_rfl) rfl rfl rfl (fun g226 ac wc A224 S225 => ?_)
                    have T227 := S225.sub (sub_skip (sub_skip sub_all)) sub_nil
                    refine r_1 (i := 2) (by kernel_rfl) ?_
                    refine rs_gives (v) A224 S225 (sub_skip (sub_skip sub_all)) sub_nil (g_load (g := g143) (off := 2) 1 (by kernel_rfl) rfl (by kernel_rfl)) rfl rfl rfl (fun ac A228 => ?_)
                    refine r_1 (i := 11) (by kernel_rfl) ?_
                    refine rs_append (e := 36) (size := 1) (bytes := 4) (v := v) (g := g226) (m' := 1) (c := 1) 0 0 [.float .f32 (floatOfInt .f32 (w16 (whI l (8 + k * 2) 2)))] A228 S225 (sub_skip (sub_skip sub_all)) (fun _ => sub_nil) (by kernel_rfl) (by kernel_rfl) (by kernel_rfl) rfl rfl (by kernel_rfl) rfl (by kernel_rfl) (by omega) (by omega) rfl rfl rfl (fun v236 ac wc A232 S233 => ?_)
                    have T235 := S233.sub (sub_skip (sub_skip sub_all)) sub_nil
                    refine r_take 12 (.pointer (some ⟨g143, 1, none⟩)) A232 T235 (g_field (u := .pointer (some ⟨g143, 0, none⟩)) (by kernel_rfl) (fun _ => by kernel_rfl)) rfl rfl rfl (pf_block (pf_then (pf_then (pf_block (pf_then pf_body))))) (by kernel_rfl) (fun ac A237 => ?_)
                    refine r_take 13 (.pointer (some ⟨g143, 2, none⟩)) A237 T235 (g_field (u := .pointer (some ⟨g143, 1, none⟩)) (by kernel_rfl) (fun _ => by kernel_rfl)) rfl rfl rfl (pf_block (pf_then (pf_then (pf_block (pf_then pf_body))))) (by kernel_rfl) (fun ac A238 => ?_)
                    refine r_1 (i := 14) (by kernel_rfl) ?_
                    obtain ⟨A239, cap240, rfl⟩ := row_slice (v := v236) (m := k + 1) (S233.row 0 rfl)
                    refine rs_store (g := g143) (off := 2) (v := .slice A239 (k + 1) cap240) 1 (#[.int .i64 (w32 (whI l 4 4)), .int .i64 (nthU l 3 : Int), .slice A239 (k + 1) cap240]) A238 S233 (sub_skip (sub_skip sub_all)) sub_nil (by kernel_rfl) (by kernel_rfl) rfl (by kernel_rfl) rfl rfl (fun wc S242 => ?_)
                    have T244 := S242.sub (sub_skip (sub_skip sub_all)) sub_nil
                    refine r_done (by kernel_rfl) ?_
                    refine n_block ?_
                    refine n_then ?_
                    refine wp_region_lit ?_
                    refine s_one (.int .i64 ((8 + k * 2 : Nat) : Int)) A238 S242 (g_move (by kernel_rfl)) rfl (fun ac A245 => ?_)
                    refine s_one (.int .i64 (((8 + k * 2 : Nat) : Int) + 2)) A245 S242 (g_bin (u := .int .i64 ((8 + k * 2 : Nat) : Int)) (k := .int .i64 2) (by kernel_rfl) (by kernel_rfl) (fun _ => by kernel_rfl) (b_add (by omega))) rfl (fun ac A246 => ?_)
                    refine s_one (.int .i64 (((8 + k * 2 : Nat) : Int) + 2)) A246 S242 (g_assign (by kernel_rfl)) rfl (fun ac A247 => ?_)
                    refine wpList_nil ?_
                    refine n_then ?_
                    refine ⟨_, ⟨k + 1, .slice A239 (k + 1) cap240, rfl, by omega, (A247.slot (A247.slot (A247.slot (A247.slot (A247.slot (A247.slot (A247.slot (A247.slot (A247.slot (A247.slot (A247.slot (A247.slot (A247.slot (A247.slot (A247.slot (A247.slot (A247.slot (A247.slot (A247.slot (A247.slot (A247.slot (A247.slot (A247.slot (A247.slot (A247.slot (A247.slot (A247.slot (A247.slot (A247.slot (A247.slot (A247.slot (A247.slot (A247.slot (A247.slot (A247.slot (A247.slot (A247.slot (A247.slot (A247.slot (A247.slot (A247.slot A247.nil (v := .int .i64 (((8 + k * 2 : Nat) : Int) + 2)) (by kernel_rfl) (congrArg (Value.int .i64) (by omega))) (v := .pointer (some ⟨g143, 0, none⟩)) (by kernel_rfl) rfl) (v := .agg #[.int .i64 (w32 (whI l 4 4)), .int .i64 (nthU l 3 : Int), .slice none 0 0]) (by kernel_rfl) rfl) (v := .agg #[.int .i64 (nthU l 3 : Int), .slice none 0 0]) (by kernel_rfl) rfl) (v := .int .i64 (nthU l 3 : Int)) (by kernel_rfl) rfl) (v := .int .i64 (w32 (whI l 4 4))) (by kernel_rfl) rfl) (v := .string ⟨(subU l 4 4).toArray⟩) (by kernel_rfl) rfl) (v := .string ⟨l.toArray⟩) (by kernel_rfl) rfl) (v := .bool (decide (byU (ckU (subU l 0 (l.length - 2)) (subU l 0 (l.length - 2)).length) 2 ≠ subU l (l.length - 2) 2))) (by kernel_rfl) rfl) (v := .string ⟨(byU (ckU (subU l 0 (l.length - 2)) (subU l 0 (l.length - 2)).length) 2).toArray⟩) (by kernel_rfl) rfl) (v := .int .i64 (ckU (subU l 0 (l.length - 2)) (subU l 0 (l.length - 2)).length)) (by kernel_rfl) rfl) (v := .string ⟨(subU l (l.length - 2) 2).toArray⟩) (by kernel_rfl) rfl) (v := .int .i64 ((l.length : Int) - 2)) (by kernel_rfl) rfl) (v := .string ⟨l.toArray⟩) (by kernel_rfl) rfl) (v := .string ⟨(subU l 0 (l.length - 2)).toArray⟩) (by kernel_rfl) rfl) (v := .int .i64 ((l.length : Int) - 2)) (by kernel_rfl) rfl) (v := .string ⟨l.toArray⟩) (by kernel_rfl) rfl) (v := .int .i64 ((l.length : Int) - 2)) (by kernel_rfl) rfl) (v := .int .i64 ((l.length : Int) - 2)) (by kernel_rfl) rfl) (v := .int .i64 (l.length : Int)) (by kernel_rfl) rfl) (v := .string ⟨l.toArray⟩) (by kernel_rfl) rfl) (v := .bool (decide ((l.length : Int) ≠ ((10 + 128 * ((nthU l 3) * (nthU l 3)) : Nat) : Int)))) (by kernel_rfl) rfl) (v := .int .i64 ((10 + 128 * ((nthU l 3) * (nthU l 3)) : Nat) : Int)) (by kernel_rfl) rfl) (v := .int .i64 (nthU l 3 : Int)) (by kernel_rfl) rfl) (v := .int .i64 (l.length : Int)) (by kernel_rfl) rfl) (v := .string ⟨l.toArray⟩) (by kernel_rfl) rfl) (v := .bool (!(inB (nthU l 3 : Int) 1 16))) (by kernel_rfl) rfl) (v := .bool (inB (nthU l 3 : Int) 1 16)) (by kernel_rfl) rfl) (v := .int .i64 (nthU l 3 : Int)) (by kernel_rfl) rfl) (v := .int .i64 (nthU l 3 : Int)) (by kernel_rfl) rfl) (v := .int .i64 (nthU l 3 : Int)) (by kernel_rfl) rfl) (v := .int .u8 (nthU l 3 : Int)) (by kernel_rfl) rfl) (v := .string ⟨l.toArray⟩) (by kernel_rfl) rfl) (v := .bool (decide ((nthU l 2 : Int) ≠ 1))) (by kernel_rfl) rfl) (v := .int .u8 (nthU l 2 : Int)) (by kernel_rfl) rfl) (v := .string ⟨l.toArray⟩) (by kernel_rfl) rfl) (v := .bool ((decide ((l.length : Int) < 8)) || ((decide ((nthU l 0 : Int) ≠ 67)) || (decide ((nthU l 1 : Int) ≠ 80))))) (by kernel_rfl) rfl) (v := .pointer (some ⟨g7, 0, none⟩)) (by kernel_rfl) rfl) (v := .int .i64 0) (by kernel_rfl) rfl) (v := .pointer (some ⟨g3, 0, none⟩)) (by kernel_rfl) rfl) (v := .string ⟨l.toArray⟩) (by kernel_rfl) rfl), (St.rerow 0 (St.recell 1 S242 rfl (by rfl)) rfl ⟨rfl, pf_snoc3 l (by omega) rfl (by omega)⟩).sub (sub_skip sub_all) sub_all⟩, ?_⟩
                    omega
              · have p248 := of_decide_eq_false h154
                refine wp_exit ?_
                refine x_then ?_
                refine x_then ?_
                refine x_hit ?_
                refine n_then ?_
                refine wp_seq ?_
                refine wp_seq ?_
                have ek : k = 64 * (nthU l 3 * nthU l 3) := by omega
                have SR : St w0 [⟨g143, 66, #[.int .i64 (w32 (whI l 4 4)), .int .i64 (nthU l 3 : Int), v], true⟩, ⟨g7, 66, #[.int .i64 0, .int .i64 0, .slice none 0 0], true⟩, ⟨g3, 66, #[.int .i64 0, .int .i64 0, .slice none 0 0], true⟩] [⟨v, 36, 1, (64 * (nthU l 3 * nthU l 3)), (rowF (fw (pfL l (64 * (nthU l 3 * nthU l 3)))))⟩] _ := St.rerow 0 S149 rfl ⟨ek, by rw [ek]⟩
                obtain ⟨hlv, Av, capv, rfl, hcv, hrv⟩ := rowF_reads (v := v) (m := 64 * (nthU l 3 * nthU l 3)) (l := fw (pfL l (64 * (nthU l 3 * nthU l 3)))) (SR.row 0 rfl)
                refine wp_region_lit ?_
                refine s_one (.agg #[.int .i64 (w32 (whI l 4 4)), .int .i64 (nthU l 3 : Int), .slice Av (64 * (nthU l 3 * nthU l 3)) capv]) A153 SR (g_load (g := g143) (off := 0) 0 (by kernel_rfl) rfl (by kernel_rfl)) rfl (fun ac A249 => ?_)
                refine s_call (fs := #[]) (cp := #[]) (r := [(0, .agg #[.int .i64 (w32 (whI l 4 4)), .int .i64 (nthU l 3 : Int), .slice Av (64 * (nthU l 3 * nthU l 3)) capv])]) #[.agg #[.int .i64 (w32 (whI l 4 4)), .int .i64 (nthU l 3 : Int), .slice Av (64 * (nthU l 3 * nthU l 3)) capv]] (.int .i64 (frE (w32 (whI l 4 4)) (nthU l 3 : Int) (fw (pfL l (64 * (nthU l 3 * nthU l 3)))))) A249 SR (FrameErr_s (w32 (whI l 4 4)) (nthU l 3 : Int) Av (64 * (nthU l 3 * nthU l 3)) capv (fw (pfL l (64 * (nthU l 3 * nthU l 3)))) _ hlv (row_fr (SR.row 0 rfl)) (by omega)) Try.call47 (by kernel_rfl) (by kernel_rfl) (by kernel_rfl) rfl (fun ac wc A250 S251 => ?_)
                refine s_one (.int .i64 (frE (w32 (whI l 4 4)) (nthU l 3 : Int) (fw (pfL l (64 * (nthU l 3 * nthU l 3)))))) A250 S251 (g_assign (by kernel_rfl)) rfl (fun ac A253 => ?_)
                refine wpList_nil ?_
                refine n_then ?_
                refine wp_seq ?_
                refine wp_region_lit ?_
                refine s_one (.int .i64 (frE (w32 (whI l 4 4)) (nthU l 3 : Int) (fw (pfL l (64 * (nthU l 3 * nthU l 3)))))) A253 S251 (g_move (by kernel_rfl)) rfl (fun ac A254 => ?_)
                refine s_one (.bool (decide (frE (w32 (whI l 4 4)) (nthU l 3 : Int) (fw (pfL l (64 * (nthU l 3 * nthU l 3)))) ≠ 0))) A254 S251 (g_bin (u := .int .i64 (frE (w32 (whI l 4 4)) (nthU l 3 : Int) (fw (pfL l (64 * (nthU l 3 * nthU l 3)))))) (k := .int .i64 0) (by kernel_rfl) (by kernel_rfl) (fun _ => by kernel_rfl) b_neq) rfl (fun ac A255 => ?_)
                refine wpList_nil ?_
                refine n_then ?_
                refine c_ifb (b := (decide (frE (w32 (whI l 4 4)) (nthU l 3 : Int) (fw (pfL l (64 * (nthU l 3 * nthU l 3)))) ≠ 0))) A255 (by kernel_rfl) (fun h256 => ?_) (fun h256 => ?_)
                · have p257 := of_decide_eq_true h256
                  refine wp_seq ?_
                  refine wp_region_lit ?_
                  refine s_one (.agg #[.int .i64 0, .int .i64 0, .slice none 0 0]) A255 S251 (g_load (g := g7) (off := 0) 1 (by kernel_rfl) rfl (by kernel_rfl)) rfl (fun ac A258 => ?_)
                  refine s_one (.int .i64 (frE (w32 (whI l 4 4)) (nthU l 3 : Int) (fw (pfL l (64 * (nthU l 3 * nthU l 3)))))) A258 S251 (g_move (by kernel_rfl)) rfl (fun ac A259 => ?_)
                  refine s_store (g := g3) (off := 0) (v := .agg #[.int .i64 0, .int .i64 0, .slice none 0 0]) 2 (#[.int .i64 0, .int .i64 0, .slice none 0 0]) A259 S251 (by kernel_rfl) (by kernel_rfl) rfl (by kernel_rfl) (fun wc S261 => ?_)
                  refine s_one (.int .i64 (frE (w32 (whI l 4 4)) (nthU l 3 : Int) (fw (pfL l (64 * (nthU l 3 * nthU l 3)))))) A259 S261 (g_assign (by kernel_rfl)) rfl (fun ac A263 => ?_)
                  refine wpList_nil ?_
                  refine n_then ?_
                  refine wp_ret ?_
                  refine r_then ?_
                  have S264 := S261.nilRow 36 1
                  refine fin2 (.agg #[.int .i64 0, .int .i64 0, .slice none 0 0]) (.int .i64 (frE (w32 (whI l 4 4)) (nthU l 3 : Int) (fw (pfL l (64 * (nthU l 3 * nthU l 3)))))) Try.results32 A263 S264 (rv_cell (g := g3) (off := 0) 2 (by kernel_rfl) rfl (by kernel_rfl)) (rv_tmp (by kernel_rfl)) ?_
                  have bw := S264.kp
                  have ow := S264.row 0 rfl
                  have ez := pfZ_ref (l := l) (by omega) ((pre_two (by omega)).2 ⟨by omega, by omega⟩) (by omega) h85 (by omega) ((byU_two (l := l) (i := l.length - 2) (c := ckU (subU l 0 (l.length - 2)) (subU l 0 (l.length - 2)).length) (by have := ckU_range (subU l 0 (l.length - 2)) (subU l 0 (l.length - 2)).length; omega) (by omega)).1 (Decidable.of_not_not p132))
                  have hz := p257
                  rw [← ez]; rw [← ez] at hz
                  obtain ⟨e1, e2, e3⟩ := pf_err rfl hz
                  rw [e1, e2, e3]
                  exact ⟨_, rfl, bw, ow⟩
                · have p265 := of_decide_eq_false h256
                  refine wp_skip ?_
                  refine n_then ?_
                  refine wp_seq ?_
                  refine wp_region_lit ?_
                  refine s_one (.agg #[.int .i64 (w32 (whI l 4 4)), .int .i64 (nthU l 3 : Int), .slice Av (64 * (nthU l 3 * nthU l 3)) capv]) A255 S251 (g_load (g := g143) (off := 0) 0 (by kernel_rfl) rfl (by kernel_rfl)) rfl (fun ac A266 => ?_)
                  refine s_store (g := g3) (off := 0) (v := .agg #[.int .i64 (w32 (whI l 4 4)), .int .i64 (nthU l 3 : Int), .slice Av (64 * (nthU l 3 * nthU l 3)) capv]) 2 (#[.int .i64 (w32 (whI l 4 4)), .int .i64 (nthU l 3 : Int), .slice Av (64 * (nthU l 3 * nthU l 3)) capv]) A266 S251 (by kernel_rfl) (by kernel_rfl) rfl (by kernel_rfl) (fun wc S268 => ?_)
                  refine s_one (.int .i64 0) A266 S268 (g_assign (by kernel_rfl)) rfl (fun ac A270 => ?_)
                  refine wpList_nil ?_
                  refine n_then ?_
                  refine wp_ret ?_
                  refine fin2 (.agg #[.int .i64 (w32 (whI l 4 4)), .int .i64 (nthU l 3 : Int), .slice Av (64 * (nthU l 3 * nthU l 3)) capv]) (.int .i64 0) Try.results32 A270 S268 (rv_cell (g := g3) (off := 0) 2 (by kernel_rfl) rfl (by kernel_rfl)) (rv_tmp (by kernel_rfl)) ?_
                  have bw := S268.kp
                  have ow := S268.row 0 rfl
                  have ez := pfZ_ref (l := l) (by omega) ((pre_two (by omega)).2 ⟨by omega, by omega⟩) (by omega) h85 (by omega) ((byU_two (l := l) (i := l.length - 2) (c := ckU (subU l 0 (l.length - 2)) (subU l 0 (l.length - 2)).length) (by have := ckU_range (subU l 0 (l.length - 2)) (subU l 0 (l.length - 2)).length; omega) (by omega)).1 (Decidable.of_not_not p132))
                  rw [Decidable.of_not_not p265] at ez
                  obtain ⟨e1, e2, e3⟩ := pf_ok ez
                  rw [e1, e2, e3, ez, fw_length, pfL_length]
                  exact ⟨_, rfl, bw, ow⟩

end Go.Proofs.Ytcijkniijomcjaa
