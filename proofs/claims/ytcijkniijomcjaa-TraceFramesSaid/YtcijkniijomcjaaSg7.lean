/- Texts of the proof of TraceFrames, put together (part 7): Rf2, Vr, Frs, Fmt, Avg. -/
import Derived.Test.YtcijkniijomcjaaSg6
import Derived.Laws.Append
/- The reference reads a frame. -/
namespace Go.Proofs.Ytcijkniijomcjaa
open Go.RowKit Go.Cpl

theorem ckU_c (l : Bs) (k : Nat) : -1000000000000 ≤ ckU l k ∧ ckU l k ≤ 1000000000000 := by have := ckU_range l k; omega
theorem pre7r {l : Bs} (h : l.length < 8 ∨ ¬ (nthU l 0 : Int) = 67 ∨ ¬ (nthU l 1 : Int) = 80) : l.length < 8 ∨ ¬ subU l 0 2 = [67, 80] := by
  by_cases q : l.length < 8
  · exact .inl q
  · refine .inr fun e => ?_
    have := (pre_two (by omega)).1 e
    omega
theorem pf_snoc3 (l : Bs) {k i m : Nat} (hi : i = 8 + k * 2) (hm : m = k + 1) (h : k * 2 + 2 ≤ l.length - 10) : rowF (fw (pfL l k)) ++ [.float .f32 (floatOfInt .f32 (w16 (whI l i 2)))] = rowF (fw (pfL l m)) := by
  subst hm; subst hi
  rw [← pf_snoc l k]
  unfold pfS
  rw [whI_sub h]

set_option maxRecDepth 100000 in
set_option maxHeartbeats 400000 in
theorem refParseFrame_s (l : List UInt8) (w0 : World) (hl : l.length ≤ 2000) :
    Calls Try.prog 32 #[.string ⟨l.toArray⟩] w0 fun e w' => ∃ v, e = .returned (.tuple #[.agg #[.int .i64 (pfP l), .int .i64 (pfE l), v], .int .i64 (pfZ l)]) ∧ Below w0.heap.size w0 w' ∧ w'.ownsRow w0.heap.size 36 1 v ((pfW l).length) (rowF (pfW l)) := by
  have S0 := St.start w0
  have hq3 := nthU_lt l 3
  have hq4 := sq_le (show nthU l 3 ≤ 255 by omega)
  refine enter (n := 86) Try.func32 rfl rfl rfl (fun ac A0 => ?_)
  refine wp_seq ?_
  refine wp_region_lit ?_
  refine s_alloc (#[.int .i64 0, .int .i64 0, .slice none 0 0]) A0 S0 (by kernel_rfl) rfl (fun g3 ac wc A1 S2 => ?_)
  refine s_one (.int .i64 0) A1 S2 (g_assign (by kernel_rfl)) rfl (fun ac A4 => ?_)
  refine wpList_nil ?_
  refine n_then ?_
  refine wp_seq ?_
  refine wp_region_lit ?_
  refine s_alloc (#[.int .i64 0, .int .i64 0, .slice none 0 0]) A4 S2 (by kernel_rfl) rfl (fun g7 ac wc A5 S6 => ?_)
  refine wpList_nil ?_
  refine n_then ?_
  refine wp_seq ?_
  refine wp_seq ?_
  refine c_cut (fun ac wc => Fr 86 ac [(22, .bool ((decide ((l.length : Int) < 8)) || ((decide ((nthU l 0 : Int) ≠ 67)) || (decide ((nthU l 1 : Int) ≠ 80))))), (0, .string ⟨l.toArray⟩), (2, .pointer (some ⟨g3, 0, none⟩)), (3, .int .i64 0), (4, .pointer (some ⟨g7, 0, none⟩))] ∧ St w0 [⟨g7, 66, #[.int .i64 0, .int .i64 0, .slice none 0 0], true⟩, ⟨g3, 66, #[.int .i64 0, .int .i64 0, .slice none 0 0], true⟩] [] wc) ?_ ?_
  · refine wp_region_lit ?_
    refine s_one (.string ⟨l.toArray⟩) A5 S6 (g_move (by kernel_rfl)) rfl (fun ac A8 => ?_)
    refine s_one (.int .i64 (l.length : Int)) A8 S6 (g_built (r := [(0, .string ⟨l.toArray⟩)]) (by kernel_rfl) (fun ty cs w => bl_str (l := l) Try.underlying9 ty cs w)) rfl (fun ac A9 => ?_)
    refine s_one (.bool (decide ((l.length : Int) < 8))) A9 S6 (g_bin (u := .int .i64 (l.length : Int)) (k := .int .i64 8) (by kernel_rfl) (by kernel_rfl) (fun _ => by kernel_rfl) (fun _ => by kernel_rfl)) rfl (fun ac A10 => ?_)
    refine s_one (.bool (decide ((l.length : Int) < 8))) A10 S6 (g_move (by kernel_rfl)) rfl (fun ac A11 => ?_)
    refine by_bool (decide ((l.length : Int) < 8)) (fun h12 => ?_) (fun h12 => ?_)
    · have p13 := of_decide_eq_true h12
      refine s_not (dj := 13) (b := (decide ((l.length : Int) < 8))) A11 (by kernel_rfl) (by kernel_rfl) h12 rfl (fun ac A14 => ?_)
      refine s_not (dj := 13) (b := (decide ((l.length : Int) < 8))) A14 (by kernel_rfl) (by kernel_rfl) h12 rfl (fun ac A15 => ?_)
      refine s_not (dj := 13) (b := (decide ((l.length : Int) < 8))) A15 (by kernel_rfl) (by kernel_rfl) h12 rfl (fun ac A16 => ?_)
      refine s_one (.bool true) A16 S6 (g_pick_t (b := (decide ((l.length : Int) < 8))) (by kernel_rfl) h12 (by kernel_rfl)) rfl (fun ac A17 => ?_)
      refine s_one (.bool true) A17 S6 (g_move (by kernel_rfl)) rfl (fun ac A18 => ?_)
      refine s_not (dj := 18) (b := true) A18 (by kernel_rfl) (by kernel_rfl) rfl rfl (fun ac A19 => ?_)
      refine s_not (dj := 18) (b := true) A19 (by kernel_rfl) (by kernel_rfl) rfl rfl (fun ac A20 => ?_)
      refine s_not (dj := 18) (b := true) A20 (by kernel_rfl) (by kernel_rfl) rfl rfl (fun ac A21 => ?_)
      refine s_one (.bool true) A21 S6 (g_pick_t (b := true) (by kernel_rfl) rfl (by kernel_rfl)) rfl (fun ac A22 => ?_)
      refine wpList_nil ?_
      refine n_then ?_
      exact ⟨(A22.slot (A22.slot (A22.slot (A22.slot (A22.slot A22.nil (v := .pointer (some ⟨g7, 0, none⟩)) (by kernel_rfl) rfl) (v := .int .i64 0) (by kernel_rfl) rfl) (v := .pointer (some ⟨g3, 0, none⟩)) (by kernel_rfl) rfl) (v := .string ⟨l.toArray⟩) (by kernel_rfl) rfl) (v := .bool true) (by kernel_rfl) (congrArg Value.bool (b_ot1 h12).symm)), S6.sub sub_all sub_all⟩
    · have p23 := of_decide_eq_false h12
      refine s_want (dj := 13) (b := (decide ((l.length : Int) < 8))) A11 (by kernel_rfl) (by kernel_rfl) h12 ?_
      refine s_one (.string ⟨l.toArray⟩) A11 S6 (g_move (by kernel_rfl)) rfl (fun ac A24 => ?_)
      refine s_want (dj := 13) (b := (decide ((l.length : Int) < 8))) A24 (by kernel_rfl) (by kernel_rfl) h12 ?_
      refine s_one (.int .u8 (nthU l 0 : Int)) A24 S6 (g_indexv (u := .string ⟨l.toArray⟩) (k := .int .i64 0) (by kernel_rfl) (by kernel_rfl) (ix_str (l := l) 0 Try.underlying9 (by omega) (by omega))) rfl (fun ac A25 => ?_)
      refine s_want (dj := 13) (b := (decide ((l.length : Int) < 8))) A25 (by kernel_rfl) (by kernel_rfl) h12 ?_
      refine s_one (.bool (decide ((nthU l 0 : Int) ≠ 67))) A25 S6 (g_bin (u := .int .u8 (nthU l 0 : Int)) (k := .int .u8 67) (by kernel_rfl) (by kernel_rfl) (fun _ => by kernel_rfl) b_neq) rfl (fun ac A26 => ?_)
      refine s_one (.bool (decide ((nthU l 0 : Int) ≠ 67))) A26 S6 (g_pick_f (b := (decide ((l.length : Int) < 8))) (by kernel_rfl) h12 (by kernel_rfl)) rfl (fun ac A27 => ?_)
      refine s_one (.bool (decide ((nthU l 0 : Int) ≠ 67))) A27 S6 (g_move (by kernel_rfl)) rfl (fun ac A28 => ?_)
      refine by_bool (decide ((nthU l 0 : Int) ≠ 67)) (fun h29 => ?_) (fun h29 => ?_)
      · have p30 := of_decide_eq_true h29
        refine s_not (dj := 18) (b := (decide ((nthU l 0 : Int) ≠ 67))) A28 (by kernel_rfl) (by kernel_rfl) h29 rfl (fun ac A31 => ?_)
        refine s_not (dj := 18) (b := (decide ((nthU l 0 : Int) ≠ 67))) A31 (by kernel_rfl) (by kernel_rfl) h29 rfl (fun ac A32 => ?_)
        refine s_not (dj := 18) (b := (decide ((nthU l 0 : Int) ≠ 67))) A32 (by kernel_rfl) (by kernel_rfl) h29 rfl (fun ac A33 => ?_)
        refine s_one (.bool true) A33 S6 (g_pick_t (b := (decide ((nthU l 0 : Int) ≠ 67))) (by kernel_rfl) h29 (by kernel_rfl)) rfl (fun ac A34 => ?_)
        refine wpList_nil ?_
        refine n_then ?_
        exact ⟨(A34.slot (A34.slot (A34.slot (A34.slot (A34.slot A34.nil (v := .pointer (some ⟨g7, 0, none⟩)) (by kernel_rfl) rfl) (v := .int .i64 0) (by kernel_rfl) rfl) (v := .pointer (some ⟨g3, 0, none⟩)) (by kernel_rfl) rfl) (v := .string ⟨l.toArray⟩) (by kernel_rfl) rfl) (v := .bool true) (by kernel_rfl) (congrArg Value.bool (b_ot2 (b_ot1 h29)).symm)), S6.sub sub_all sub_all⟩
      · have p35 := of_decide_eq_false h29
        refine s_want (dj := 18) (b := (decide ((nthU l 0 : Int) ≠ 67))) A28 (by kernel_rfl) (by kernel_rfl) h29 ?_
        refine s_one (.string ⟨l.toArray⟩) A28 S6 (g_move (by kernel_rfl)) rfl (fun ac A36 => ?_)
        refine s_want (dj := 18) (b := (decide ((nthU l 0 : Int) ≠ 67))) A36 (by kernel_rfl) (by kernel_rfl) h29 ?_
        refine s_one (.int .u8 (nthU l 1 : Int)) A36 S6 (g_indexv (u := .string ⟨l.toArray⟩) (k := .int .i64 1) (by kernel_rfl) (by kernel_rfl) (ix_str (l := l) 1 Try.underlying9 (by omega) (by omega))) rfl (fun ac A37 => ?_)
        refine s_want (dj := 18) (b := (decide ((nthU l 0 : Int) ≠ 67))) A37 (by kernel_rfl) (by kernel_rfl) h29 ?_
        refine s_one (.bool (decide ((nthU l 1 : Int) ≠ 80))) A37 S6 (g_bin (u := .int .u8 (nthU l 1 : Int)) (k := .int .u8 80) (by kernel_rfl) (by kernel_rfl) (fun _ => by kernel_rfl) b_neq) rfl (fun ac A38 => ?_)
        refine s_one (.bool (decide ((nthU l 1 : Int) ≠ 80))) A38 S6 (g_pick_f (b := (decide ((nthU l 0 : Int) ≠ 67))) (by kernel_rfl) h29 (by kernel_rfl)) rfl (fun ac A39 => ?_)
        refine wpList_nil ?_
        refine n_then ?_
        exact ⟨(A39.slot (A39.slot (A39.slot (A39.slot (A39.slot A39.nil (v := .pointer (some ⟨g7, 0, none⟩)) (by kernel_rfl) rfl) (v := .int .i64 0) (by kernel_rfl) rfl) (v := .pointer (some ⟨g3, 0, none⟩)) (by kernel_rfl) rfl) (v := .string ⟨l.toArray⟩) (by kernel_rfl) rfl) (v := .bool (decide ((nthU l 1 : Int) ≠ 80))) (by kernel_rfl) (congrArg Value.bool (b_or_f h12 (b_or_f h29 (Eq.refl (decide ((nthU l 1 : Int) ≠ 80))))).symm)), S6.sub sub_all sub_all⟩
  · rintro ac wc ⟨A40, S41⟩
    refine n_then ?_
    refine c_ifb (b := ((decide ((l.length : Int) < 8)) || ((decide ((nthU l 0 : Int) ≠ 67)) || (decide ((nthU l 1 : Int) ≠ 80))))) A40 (by kernel_rfl) (fun h42 => ?_) (fun h42 => ?_)
    · refine wp_seq ?_
      refine wp_region_lit ?_
      refine s_one (.agg #[.int .i64 0, .int .i64 0, .slice none 0 0]) A40 S41 (g_load (g := g7) (off := 0) 0 (by kernel_rfl) rfl (by kernel_rfl)) rfl (fun ac A43 => ?_)
      refine s_store (g := g3) (off := 0) (v := .agg #[.int .i64 0, .int .i64 0, .slice none 0 0]) 1 (#[.int .i64 0, .int .i64 0, .slice none 0 0]) A43 S41 (by kernel_rfl) (by kernel_rfl) rfl (by kernel_rfl) (fun wc S45 => ?_)
      refine s_one (.int .i64 7) A43 S45 (g_assign (by kernel_rfl)) rfl (fun ac A47 => ?_)
      refine wpList_nil ?_
      refine n_then ?_
      refine wp_ret ?_
      refine r_then ?_
      have S48 := S45.nilRow 36 1
      refine fin2 (.agg #[.int .i64 0, .int .i64 0, .slice none 0 0]) (.int .i64 7) Try.results32 A47 S48 (rv_cell (g := g3) (off := 0) 1 (by kernel_rfl) rfl (by kernel_rfl)) (rv_tmp (by kernel_rfl)) ?_
      have bw := S48.kp
      have ow := S48.row 0 rfl
      have hx7 := h42
      simp only [Bool.or_eq_true, decide_eq_true_iff, ne_eq] at hx7
      have ez := pfZ_1 (l := l) (pre7r (by omega))
      obtain ⟨e1, e2, e3⟩ := pf_err ez (by decide)
      rw [e1, e2, e3, ez]
      exact ⟨_, rfl, bw, ow⟩
    · have h49 := (Bool.or_eq_false_iff.1 h42).1
      have p50 := of_decide_eq_false h49
      have h51 := (Bool.or_eq_false_iff.1 h42).2
      have h52 := (Bool.or_eq_false_iff.1 h51).1
      have p53 := of_decide_eq_false h52
      have h54 := (Bool.or_eq_false_iff.1 h51).2
      have p55 := of_decide_eq_false h54
      refine wp_skip ?_
      refine n_then ?_
      refine wp_seq ?_
      refine wp_seq ?_
      refine wp_region_lit ?_
      refine s_one (.string ⟨l.toArray⟩) A40 S41 (g_move (by kernel_rfl)) rfl (fun ac A56 => ?_)
      refine s_one (.int .u8 (nthU l 2 : Int)) A56 S41 (g_indexv (u := .string ⟨l.toArray⟩) (k := .int .i64 2) (by kernel_rfl) (by kernel_rfl) (ix_str (l := l) 2 Try.underlying9 (by omega) (by omega))) rfl (fun ac A57 => ?_)
      refine s_one (.bool (decide ((nthU l 2 : Int) ≠ 1))) A57 S41 (g_bin (u := .int .u8 (nthU l 2 : Int)) (k := .int .u8 1) (by kernel_rfl) (by kernel_rfl) (fun _ => by kernel_rfl) b_neq) rfl (fun ac A58 => ?_)
      refine wpList_nil ?_
      refine n_then ?_
      refine c_ifb (b := (decide ((nthU l 2 : Int) ≠ 1))) A58 (by kernel_rfl) (fun h59 => ?_) (fun h59 => ?_)
      · have p60 := of_decide_eq_true h59
        refine wp_seq ?_
        refine wp_region_lit ?_
        refine s_one (.agg #[.int .i64 0, .int .i64 0, .slice none 0 0]) A58 S41 (g_load (g := g7) (off := 0) 0 (by kernel_rfl) rfl (by kernel_rfl)) rfl (fun ac A61 => ?_)
        refine s_store (g := g3) (off := 0) (v := .agg #[.int .i64 0, .int .i64 0, .slice none 0 0]) 1 (#[.int .i64 0, .int .i64 0, .slice none 0 0]) A61 S41 (by kernel_rfl) (by kernel_rfl) rfl (by kernel_rfl) (fun wc S63 => ?_)
        refine s_one (.int .i64 15) A61 S63 (g_assign (by kernel_rfl)) rfl (fun ac A65 => ?_)
        refine wpList_nil ?_
        refine n_then ?_
        refine wp_ret ?_
        refine r_then ?_
        have S66 := S63.nilRow 36 1
        refine fin2 (.agg #[.int .i64 0, .int .i64 0, .slice none 0 0]) (.int .i64 15) Try.results32 A65 S66 (rv_cell (g := g3) (off := 0) 1 (by kernel_rfl) rfl (by kernel_rfl)) (rv_tmp (by kernel_rfl)) ?_
        have bw := S66.kp
        have ow := S66.row 0 rfl
        have ez := pfZ_2 (l := l) (by omega) ((pre_two (by omega)).2 ⟨by omega, by omega⟩) (by omega)
        obtain ⟨e1, e2, e3⟩ := pf_err ez (by decide)
        rw [e1, e2, e3, ez]
        exact ⟨_, rfl, bw, ow⟩
      · have p67 := of_decide_eq_false h59
        refine wp_skip ?_
        refine n_then ?_
        refine wp_seq ?_
        refine wp_region_lit ?_
        refine s_one (.string ⟨l.toArray⟩) A58 S41 (g_move (by kernel_rfl)) rfl (fun ac A68 => ?_)
        refine s_one (.int .u8 (nthU l 3 : Int)) A68 S41 (g_indexv (u := .string ⟨l.toArray⟩) (k := .int .i64 3) (by kernel_rfl) (by kernel_rfl) (ix_str (l := l) 3 Try.underlying9 (by omega) (by omega))) rfl (fun ac A69 => ?_)
        refine s_one (.int .i64 (nthU l 3 : Int)) A69 S41 (g_conv (u := .int .u8 (nthU l 3 : Int)) (by kernel_rfl) (conv_u8 Try.underlying5 Try.underlying3 ⟨by omega, by have h9 := nthU_lt l 3; omega⟩)) rfl (fun ac A70 => ?_)
        refine s_one (.int .i64 (nthU l 3 : Int)) A70 S41 (g_assign (by kernel_rfl)) rfl (fun ac A71 => ?_)
        refine wpList_nil ?_
        refine n_then ?_
        refine wp_seq ?_
        refine wp_seq ?_
        refine wp_region_lit ?_
        refine s_one (.int .i64 (nthU l 3 : Int)) A71 S41 (g_move (by kernel_rfl)) rfl (fun ac A72 => ?_)
        refine s_call (fs := #[]) (cp := #[]) (r := [(0, .int .i64 (nthU l 3 : Int)), (0, .int .i64 1), (0, .int .i64 16)]) #[.int .i64 (nthU l 3 : Int), .int .i64 1, .int .i64 16] (.bool (inB (nthU l 3 : Int) 1 16)) A72 S41 (sameB (Within_any (nthU l 3 : Int) 1 16 _)) Try.call39 (by kernel_rfl) (by kernel_rfl) (by kernel_rfl) rfl (fun ac wc A73 S74 => ?_)
        refine s_one (.bool (!(inB (nthU l 3 : Int) 1 16))) A73 S74 (g_un (u := .bool (inB (nthU l 3 : Int) 1 16)) (by kernel_rfl) (fun _ => by kernel_rfl)) rfl (fun ac A76 => ?_)
        refine wpList_nil ?_
        refine n_then ?_
        refine c_ifb (b := (!(inB (nthU l 3 : Int) 1 16))) A76 (by kernel_rfl) (fun h77 => ?_) (fun h77 => ?_)
        · have h78 : inB (nthU l 3 : Int) 1 16 = false := by simpa using h77
          refine wp_seq ?_
          refine wp_region_lit ?_
          refine s_one (.agg #[.int .i64 0, .int .i64 0, .slice none 0 0]) A76 S74 (g_load (g := g7) (off := 0) 0 (by kernel_rfl) rfl (by kernel_rfl)) rfl (fun ac A79 => ?_)
          refine s_store (g := g3) (off := 0) (v := .agg #[.int .i64 0, .int .i64 0, .slice none 0 0]) 1 (#[.int .i64 0, .int .i64 0, .slice none 0 0]) A79 S74 (by kernel_rfl) (by kernel_rfl) rfl (by kernel_rfl) (fun wc S81 => ?_)
          refine s_one (.int .i64 2) A79 S81 (g_assign (by kernel_rfl)) rfl (fun ac A83 => ?_)
          refine wpList_nil ?_
          refine n_then ?_
          refine wp_ret ?_
          refine r_then ?_
          have S84 := S81.nilRow 36 1
          refine fin2 (.agg #[.int .i64 0, .int .i64 0, .slice none 0 0]) (.int .i64 2) Try.results32 A83 S84 (rv_cell (g := g3) (off := 0) 1 (by kernel_rfl) rfl (by kernel_rfl)) (rv_tmp (by kernel_rfl)) ?_
          have bw := S84.kp
          have ow := S84.row 0 rfl
          have ez := pfZ_3 (l := l) (by omega) ((pre_two (by omega)).2 ⟨by omega, by omega⟩) (by omega) h78
          obtain ⟨e1, e2, e3⟩ := pf_err ez (by decide)
          rw [e1, e2, e3, ez]
          exact ⟨_, rfl, bw, ow⟩
        · have h85 : inB (nthU l 3 : Int) 1 16 = true := by simpa using h77
          refine wp_skip ?_
          refine n_then ?_
          refine wp_seq ?_
          refine wp_seq ?_
          refine wp_region_lit ?_
          refine s_one (.string ⟨l.toArray⟩) A76 S74 (g_move (by kernel_rfl)) rfl (fun ac A86 => ?_)
          refine s_one (.int .i64 (l.length : Int)) A86 S74 (g_built (r := [(0, .string ⟨l.toArray⟩)]) (by kernel_rfl) (fun ty cs w => bl_str (l := l) Try.underlying9 ty cs w)) rfl (fun ac A87 => ?_)
          refine s_one (.int .i64 (nthU l 3 : Int)) A87 S74 (g_move (by kernel_rfl)) rfl (fun ac A88 => ?_)
          refine s_call (fs := #[]) (cp := #[]) (r := [(0, .int .i64 (nthU l 3 : Int))]) #[.int .i64 (nthU l 3 : Int)] (.int .i64 ((10 + 128 * ((nthU l 3) * (nthU l 3)) : Nat) : Int)) A88 S74 (refSize_s (nthU l 3) _ (by have h9 := nthU_lt l 3; omega)) Try.call50 (by kernel_rfl) (by kernel_rfl) (by kernel_rfl) rfl (fun ac wc A89 S90 => ?_)
          refine s_one (.bool (decide ((l.length : Int) ≠ ((10 + 128 * ((nthU l 3) * (nthU l 3)) : Nat) : Int)))) A89 S90 (g_bin (u := .int .i64 (l.length : Int)) (k := .int .i64 ((10 + 128 * ((nthU l 3) * (nthU l 3)) : Nat) : Int)) (by kernel_rfl) (by kernel_rfl) (fun _ => by kernel_rfl) b_neq) rfl (fun ac A92 => ?_)
          refine wpList_nil ?_
          refine n_then ?_
          refine c_ifb (b := (decide ((l.length : Int) ≠ ((10 + 128 * ((nthU l 3) * (nthU l 3)) : Nat) : Int)))) A92 (by kernel_rfl) (fun h93 => ?_) (fun h93 => ?_)
          · have p94 := of_decide_eq_true h93
            refine wp_seq ?_
            refine wp_region_lit ?_
            refine s_one (.agg #[.int .i64 0, .int .i64 0, .slice none 0 0]) A92 S90 (g_load (g := g7) (off := 0) 0 (by kernel_rfl) rfl (by kernel_rfl)) rfl (fun ac A95 => ?_)
            refine s_store (g := g3) (off := 0) (v := .agg #[.int .i64 0, .int .i64 0, .slice none 0 0]) 1 (#[.int .i64 0, .int .i64 0, .slice none 0 0]) A95 S90 (by kernel_rfl) (by kernel_rfl) rfl (by kernel_rfl) (fun wc S97 => ?_)
            refine s_one (.int .i64 10) A95 S97 (g_assign (by kernel_rfl)) rfl (fun ac A99 => ?_)
            refine wpList_nil ?_
            refine n_then ?_
            refine wp_ret ?_
            refine r_then ?_
            have S100 := S97.nilRow 36 1
            refine fin2 (.agg #[.int .i64 0, .int .i64 0, .slice none 0 0]) (.int .i64 10) Try.results32 A99 S100 (rv_cell (g := g3) (off := 0) 1 (by kernel_rfl) rfl (by kernel_rfl)) (rv_tmp (by kernel_rfl)) ?_
            have bw := S100.kp
            have ow := S100.row 0 rfl
            have ez := pfZ_4 (l := l) (by omega) ((pre_two (by omega)).2 ⟨by omega, by omega⟩) (by omega) h85 (by omega)
            obtain ⟨e1, e2, e3⟩ := pf_err ez (by decide)
            rw [e1, e2, e3, ez]
            exact ⟨_, rfl, bw, ow⟩
          · have p101 := of_decide_eq_false h93
            refine wp_skip ?_
            refine n_then ?_
            refine wp_seq ?_
            refine wp_region_lit ?_
            refine s_one (.string ⟨l.toArray⟩) A92 S90 (g_move (by kernel_rfl)) rfl (fun ac A102 => ?_)
            refine s_one (.int .i64 (l.length : Int)) A102 S90 (g_built (r := [(0, .string ⟨l.toArray⟩)]) (by kernel_rfl) (fun ty cs w => bl_str (l := l) Try.underlying9 ty cs w)) rfl (fun ac A103 => ?_)
            refine s_one (.int .i64 ((l.length : Int) - 2)) A103 S90 (g_bin (u := .int .i64 (l.length : Int)) (k := .int .i64 2) (by kernel_rfl) (by kernel_rfl) (fun _ => by kernel_rfl) (b_sub (by omega))) rfl (fun ac A104 => ?_)
            refine s_one (.int .i64 ((l.length : Int) - 2)) A104 S90 (g_assign (by kernel_rfl)) rfl (fun ac A105 => ?_)
            refine wpList_nil ?_
            refine n_then ?_
            refine wp_seq ?_
            refine wp_seq ?_
            refine r_begin (w0 := w0) (by kernel_rfl) (S90.sub sub_all sub_all) (fun wc T106 B107 => ?_)
            have S108 := S90.kept B107
            refine r_take 0 (.string ⟨l.toArray⟩) A105 T106 (g_move (by kernel_rfl)) rfl rfl rfl (pf_then (pf_then pf_body)) (by kernel_rfl) (fun ac A109 => ?_)
            refine r_take 1 (.int .i64 ((l.length : Int) - 2)) A109 T106 (g_move (by kernel_rfl)) rfl rfl rfl (pf_then (pf_then pf_body)) (by kernel_rfl) (fun ac A110 => ?_)
            refine r_take 2 (.string ⟨(subU l 0 (l.length - 2)).toArray⟩) A110 T106 (g_slice (u := .string ⟨l.toArray⟩) (lo' := none) (hi' := (some (.int .i64 ((l.length : Int) - 2)))) (mx' := none) (by kernel_rfl) (by kernel_rfl) (by kernel_rfl) (by kernel_rfl) (sl_strH (l := l) (h := l.length - 2) Try.underlying9 (by omega) (by omega))) rfl rfl rfl (pf_then (pf_then pf_body)) (by kernel_rfl) (fun ac A111 => ?_)
            refine r_take 5 (.string ⟨l.toArray⟩) A111 T106 (g_move (by kernel_rfl)) rfl rfl rfl (pf_then (pf_then pf_body)) (by kernel_rfl) (fun ac A112 => ?_)
            refine r_take 6 (.int .i64 ((l.length : Int) - 2)) A112 T106 (g_move (by kernel_rfl)) rfl rfl rfl (pf_then (pf_then pf_body)) (by kernel_rfl) (fun ac A113 => ?_)
            refine r_take 7 (.string ⟨(subU l (l.length - 2) 2).toArray⟩) A113 T106 (g_slice (u := .string ⟨l.toArray⟩) (lo' := (some (.int .i64 ((l.length : Int) - 2)))) (hi' := none) (mx' := none) (by kernel_rfl) (by kernel_rfl) (by kernel_rfl) (by kernel_rfl) (sl_strL_n (l := l) (i := l.length - 2) (k := 2) Try.underlying9 (by omega) (by omega) (by omega))) rfl rfl rfl (pf_then (pf_then pf_body)) (by kernel_rfl) (fun ac A114 => ?_)
            refine r_1 (i := 3) (by kernel_rfl) ?_
            refine rs_call (fs := #[]) (cp := #[]) (r := [(0, .string ⟨(subU l 0 (l.length - 2)).toArray⟩)]) #[.string ⟨(subU l 0 (l.length - 2)).toArray⟩] (.int .i64 (ckU (subU l 0 (l.length - 2)) (subU l 0 (l.length - 2)).length)) A114 S108 sub_all sub_all (refSum_s (subU l 0 (l.length - 2)) _ (by have h9 := subU_le l 0 (l.length - 2); omega)) Try.call84 rfl rfl (by kernel_rfl) (by kernel_rfl) (by kernel_rfl) rfl (fun ac wc A115 S116 => ?_)
            have T118 := S116.sub sub_all sub_all
            refine r_1 (i := 4) (by kernel_rfl) ?_
            refine rs_call (fs := #[]) (cp := #[]) (r := [(0, .int .i64 (ckU (subU l 0 (l.length - 2)) (subU l 0 (l.length - 2)).length)), (0, .int .i64 2)]) #[.int .i64 (ckU (subU l 0 (l.length - 2)) (subU l 0 (l.length - 2)).length), .int .i64 2] (.string ⟨(byU (ckU (subU l 0 (l.length - 2)) (subU l 0 (l.length - 2)).length) 2).toArray⟩) A115 S116 sub_all sub_all (bytes_s (ckU (subU l 0 (l.length - 2)) (subU l 0 (l.length - 2)).length) 2 _ (ckU_c _ _) (by decide)) Try.call83 rfl rfl (by kernel_rfl) (by kernel_rfl) (by kernel_rfl) rfl (fun ac wc A119 S120 => ?_)
            have T122 := S120.sub sub_all sub_all
            refine r_take 8 (.bool (decide (byU (ckU (subU l 0 (l.length - 2)) (subU l 0 (l.length - 2)).length) 2 ≠ subU l (l.length - 2) 2))) A119 T122 (g_bin (u := .string ⟨(byU (ckU (subU l 0 (l.length - 2)) (subU l 0 (l.length - 2)).length) 2).toArray⟩) (k := .string ⟨(subU l (l.length - 2) 2).toArray⟩) (by kernel_rfl) (by kernel_rfl) (fun _ => by kernel_rfl) (q_strN (l := byU (ckU (subU l 0 (l.length - 2)) (subU l 0 (l.length - 2)).length) 2) (m := subU l (l.length - 2) 2))) rfl rfl rfl (pf_then (pf_then pf_body)) (by kernel_rfl) (fun ac A123 => ?_)
            refine r_done (by kernel_rfl) ?_
            refine n_then ?_
            refine c_ifb (b := (decide (byU (ckU (subU l 0 (l.length - 2)) (subU l 0 (l.length - 2)).length) 2 ≠ subU l (l.length - 2) 2))) A123 (by kernel_rfl) (fun h124 => ?_) (fun h124 => ?_)
            · have p125 := of_decide_eq_true h124
              refine wp_seq ?_
              refine wp_region_lit ?_
              refine s_one (.agg #[.int .i64 0, .int .i64 0, .slice none 0 0]) A123 S120 (g_load (g := g7) (off := 0) 0 (by kernel_rfl) rfl (by kernel_rfl)) rfl (fun ac A126 => ?_)
              refine s_store (g := g3) (off := 0) (v := .agg #[.int .i64 0, .int .i64 0, .slice none 0 0]) 1 (#[.int .i64 0, .int .i64 0, .slice none 0 0]) A126 S120 (by kernel_rfl) (by kernel_rfl) rfl (by kernel_rfl) (fun wc S128 => ?_)
              refine s_one (.int .i64 19) A126 S128 (g_assign (by kernel_rfl)) rfl (fun ac A130 => ?_)
              refine wpList_nil ?_
              refine n_then ?_
              refine wp_ret ?_
              refine r_then ?_
              have S131 := S128.nilRow 36 1
              refine fin2 (.agg #[.int .i64 0, .int .i64 0, .slice none 0 0]) (.int .i64 19) Try.results32 A130 S131 (rv_cell (g := g3) (off := 0) 1 (by kernel_rfl) rfl (by kernel_rfl)) (rv_tmp (by kernel_rfl)) ?_
              have bw := S131.kp
              have ow := S131.row 0 rfl
              have ez := pfZ_5 (l := l) (by omega) ((pre_two (by omega)).2 ⟨by omega, by omega⟩) (by omega) h85 (by omega) (fun e => p125 ((byU_two (l := l) (i := l.length - 2) (c := ckU (subU l 0 (l.length - 2)) (subU l 0 (l.length - 2)).length) (by have := ckU_range (subU l 0 (l.length - 2)) (subU l 0 (l.length - 2)).length; omega) (by omega)).2 e))
              obtain ⟨e1, e2, e3⟩ := pf_err ez (by decide)
              rw [e1, e2, e3, ez]
              exact ⟨_, rfl, bw, ow⟩
            · have p132 := of_decide_eq_false h124
              refine wp_skip ?_
              refine n_then ?_
              refine wp_seq ?_
              refine wp_region_lit ?_
              refine s_one (.string ⟨l.toArray⟩) A123 S120 (g_move (by kernel_rfl)) rfl (fun ac A133 => ?_)
              refine s_one (.string ⟨(subU l 4 4).toArray⟩) A133 S120 (g_slice (u := .string ⟨l.toArray⟩) (lo' := (some (.int .i64 4))) (hi' := (some (.int .i64 8))) (mx' := none) (by kernel_rfl) (by kernel_rfl) (by kernel_rfl) (by kernel_rfl) (sl_str_n (l := l) (i := 4) (h := 8) (k := 4) Try.underlying9 (by omega) (by omega) (by omega) (by omega) (by omega))) rfl (fun ac A134 => ?_)
              refine s_call (fs := #[]) (cp := #[]) (r := [(0, .string ⟨(subU l 4 4).toArray⟩)]) #[.string ⟨(subU l 4 4).toArray⟩] (.int .i64 (w32 (whI l 4 4))) A134 S120 (number_4 l 4 _ (by omega)) Try.call85 (by kernel_rfl) (by kernel_rfl) (by kernel_rfl) rfl (fun ac wc A135 S136 => ?_)
              refine s_one (.int .i64 (nthU l 3 : Int)) A135 S136 (g_move (by kernel_rfl)) rfl (fun ac A138 => ?_)
              refine s_one (.agg #[.int .i64 (nthU l 3 : Int), .slice none 0 0]) A138 S136 (g_build (r := [(0, .int .i64 (nthU l 3 : Int))]) (by kernel_rfl) (fun _ => by kernel_rfl)) rfl (fun ac A139 => ?_)
              refine s_one (.agg #[.int .i64 (w32 (whI l 4 4)), .int .i64 (nthU l 3 : Int), .slice none 0 0]) A139 S136 (g_build (r := [(0, .int .i64 (w32 (whI l 4 4))), (1, .agg #[.int .i64 (nthU l 3 : Int), .slice none 0 0])]) (by kernel_rfl) (fun _ => by kernel_rfl)) rfl (fun ac A140 => ?_)
              refine s_alloc (#[.int .i64 0, .int .i64 0, .slice none 0 0]) A140 S136 (by kernel_rfl) rfl (fun g143 ac wc A141 S142 => ?_)
              refine s_store (g := g143) (off := 0) (v := .agg #[.int .i64 (w32 (whI l 4 4)), .int .i64 (nthU l 3 : Int), .slice none 0 0]) 0 (#[.int .i64 (w32 (whI l 4 4)), .int .i64 (nthU l 3 : Int), .slice none 0 0]) A141 S142 (by kernel_rfl) (by kernel_rfl) rfl (by kernel_rfl) (fun wc S145 => ?_)
              refine wpList_nil ?_
              refine n_then ?_
              refine wp_seq ?_
              refine wp_seq ?_
              have S0n := S145.nilRow 36 1
              have hcr := ckU_range (subU l 0 (l.length - 2)) (subU l 0 (l.length - 2)).length
              refine wp_region_lit ?_
              refine s_one (.int .i64 8) A141 S0n (g_assign (by kernel_rfl)) rfl (fun ac A147 => ?_)
              refine wpList_nil ?_
              refine n_then ?_
              refine wp_block ?_
              refine c_loopN (fun mm ac wc => ∃ (k : Nat) (v : Value), mm = 64 * (nthU l 3 * nthU l 3) - k ∧ (k ≤ 64 * (nthU l 3 * nthU l 3)) ∧ Fr 86 ac [(0, .string ⟨l.toArray⟩), (2, .pointer (some ⟨g3, 0, none⟩)), (3, .int .i64 0), (4, .pointer (some ⟨g7, 0, none⟩)), (22, .bool ((decide ((l.length : Int) < 8)) || ((decide ((nthU l 0 : Int) ≠ 67)) || (decide ((nthU l 1 : Int) ≠ 80))))), (24, .string ⟨l.toArray⟩), (25, .int .u8 (nthU l 2 : Int)), (26, .bool (decide ((nthU l 2 : Int) ≠ 1))), (28, .string ⟨l.toArray⟩), (29, .int .u8 (nthU l 3 : Int)), (30, .int .i64 (nthU l 3 : Int)), (5, .int .i64 (nthU l 3 : Int)), (31, .int .i64 (nthU l 3 : Int)), (32, .bool (inB (nthU l 3 : Int) 1 16)), (33, .bool (!(inB (nthU l 3 : Int) 1 16))), (35, .string ⟨l.toArray⟩), (36, .int .i64 (l.length : Int)), (37, .int .i64 (nthU l 3 : Int)), (38, .int .i64 ((10 + 128 * ((nthU l 3) * (nthU l 3)) : Nat) : Int)), (39, .bool (decide ((l.length : Int) ≠ ((10 + 128 * ((nthU l 3) * (nthU l 3)) : Nat) : Int)))), (41, .string ⟨l.toArray⟩), (42, .int .i64 (l.length : Int)), (43, .int .i64 ((l.length : Int) - 2)), (6, .int .i64 ((l.length : Int) - 2)), (44, .string ⟨l.toArray⟩), (45, .int .i64 ((l.length : Int) - 2)), (46, .string ⟨(subU l 0 (l.length - 2)).toArray⟩), (49, .string ⟨l.toArray⟩), (50, .int .i64 ((l.length : Int) - 2)), (51, .string ⟨(subU l (l.length - 2) 2).toArray⟩), (47, .int .i64 (ckU (subU l 0 (l.length - 2)) (subU l 0 (l.length - 2)).length)), (48, .string ⟨(byU (ckU (subU l 0 (l.length - 2)) (subU l 0 (l.length - 2)).length) 2).toArray⟩), (52, .bool (decide (byU (ckU (subU l 0 (l.length - 2)) (subU l 0 (l.length - 2)).length) 2 ≠ subU l (l.length - 2) 2))), (54, .string ⟨l.toArray⟩), (55, .string ⟨(subU l 4 4).toArray⟩), (56, .int .i64 (w32 (whI l 4 4))), (57, .int .i64 (nthU l 3 : Int)), (58, .agg #[.int .i64 (nthU l 3 : Int), .slice none 0 0]), (59, .agg #[.int .i64 (w32 (whI l 4 4)), .int .i64 (nthU l 3 : Int), .slice none 0 0]), (7, .pointer (some ⟨g143, 0, none⟩)), (8, .int .i64 ((8 + k * 2 : Nat) : Int))] ∧ St w0 [⟨g143, 66, #[.int .i64 (w32 (whI l 4 4)), .int .i64 (nthU l 3 : Int), v], true⟩, ⟨g7, 66, #[.int .i64 0, .int .i64 0, .slice none 0 0], true⟩, ⟨g3, 66, #[.int .i64 0, .int .i64 0, .slice none 0 0], true⟩] [⟨v, 36, 1, k, (rowF (fw (pfL l k)))⟩] wc) _ ⟨0, .slice none 0 0, rfl, by omega, (A147.slot (A147.slot (A147.slot (A147.slot (A147.slot (A147.slot (A147.slot (A147.slot (A147.slot (A147.slot (A147.slot (A147.slot (A147.slot (A147.slot (A147.slot (A147.slot (A147.slot (A147.slot (A147.slot (A147.slot (A147.slot (A147.slot (A147.slot (A147.slot (A147.slot (A147.slot (A147.slot (A147.slot (A147.slot (A147.slot (A147.slot (A147.slot (A147.slot (A147.slot (A147.slot (A147.slot (A147.slot (A147.slot (A147.slot (A147.slot (A147.slot A147.nil (v := .int .i64 8) (by kernel_rfl) rfl) (v := .pointer (some ⟨g143, 0, none⟩)) (by kernel_rfl) rfl) (v := .agg #[.int .i64 (w32 (whI l 4 4)), .int .i64 (nthU l 3 : Int), .slice none 0 0]) (by kernel_rfl) rfl) (v := .agg #[.int .i64 (nthU l 3 : Int), .slice none 0 0]) (by kernel_rfl) rfl) (v := .int .i64 (nthU l 3 : Int)) (by kernel_rfl) rfl) (v := .int .i64 (w32 (whI l 4 4))) (by kernel_rfl) rfl) (v := .string ⟨(subU l 4 4).toArray⟩) (by kernel_rfl) rfl) (v := .string ⟨l.toArray⟩) (by kernel_rfl) rfl) (v := .bool (decide (byU (ckU (subU l 0 (l.length - 2)) (subU l 0 (l.length - 2)).length) 2 ≠ subU l (l.length - 2) 2))) (by kernel_rfl) rfl) (v := .string ⟨(byU (ckU (subU l 0 (l.length - 2)) (subU l 0 (l.length - 2)).length) 2).toArray⟩) (by kernel_rfl) rfl) (v := .int .i64 (ckU (subU l 0 (l.length - 2)) (subU l 0 (l.length - 2)).length)) (by kernel_rfl) rfl) (v := .string ⟨(subU l (l.length - 2) 2).toArray⟩) (by kernel_rfl) rfl) (v := .int .i64 ((l.length : Int) - 2)) (by kernel_rfl) rfl) (v := .string ⟨l.toArray⟩) (by kernel_rfl) rfl) (v := .string ⟨(subU l 0 (l.length - 2)).toArray⟩) (by kernel_rfl) rfl) (v := .int .i64 ((l.length : Int) - 2)) (by kernel_rfl) rfl) (v := .string ⟨l.toArray⟩) (by kernel_rfl) rfl) (v := .int .i64 ((l.length : Int) - 2)) (by kernel_rfl) rfl) (v := .int .i64 ((l.length : Int) - 2)) (by kernel_rfl) rfl) (v := .int .i64 (l.length : Int)) (by kernel_rfl) rfl) (v := .string ⟨l.toArray⟩) (by kernel_rfl) rfl) (v := .bool (decide ((l.length : Int) ≠ ((10 + 128 * ((nthU l 3) * (nthU l 3)) : Nat) : Int)))) (by kernel_rfl) rfl) (v := .int .i64 ((10 + 128 * ((nthU l 3) * (nthU l 3)) : Nat) : Int)) (by kernel_rfl) rfl) (v := .int .i64 (nthU l 3 : Int)) (by kernel_rfl) rfl) (v := .int .i64 (l.length : Int)) (by kernel_rfl) rfl) (v := .string ⟨l.toArray⟩) (by kernel_rfl) rfl) (v := .bool (!(inB (nthU l 3 : Int) 1 16))) (by kernel_rfl) rfl) (v := .bool (inB (nthU l 3 : Int) 1 16)) (by kernel_rfl) rfl) (v := .int .i64 (nthU l 3 : Int)) (by kernel_rfl) rfl) (v := .int .i64 (nthU l 3 : Int)) (by kernel_rfl) rfl) (v := .int .i64 (nthU l 3 : Int)) (by kernel_rfl) rfl) (v := .int .u8 (nthU l 3 : Int)) (by kernel_rfl) rfl) (v := .string ⟨l.toArray⟩) (by kernel_rfl) rfl) (v := .bool (decide ((nthU l 2 : Int) ≠ 1))) (by kernel_rfl) rfl) (v := .int .u8 (nthU l 2 : Int)) (by kernel_rfl) rfl) (v := .string ⟨l.toArray⟩) (by kernel_rfl) rfl) (v := .bool ((decide ((l.length : Int) < 8)) || ((decide ((nthU l 0 : Int) ≠ 67)) || (decide ((nthU l 1 : Int) ≠ 80))))) (by kernel_rfl) rfl) (v := .pointer (some ⟨g7, 0, none⟩)) (by kernel_rfl) rfl) (v := .int .i64 0) (by kernel_rfl) rfl) (v := .pointer (some ⟨g3, 0, none⟩)) (by kernel_rfl) rfl) (v := .string ⟨l.toArray⟩) (by kernel_rfl) rfl), (St.rerow 0 (St.recell 0 S0n rfl (by rfl)) rfl ⟨rfl, rfl⟩).sub sub_all sub_all⟩ ?_
              rintro mm ac wc ⟨k, v, hm150, hk, A148, S149⟩
              refine wp_seq ?_
              refine wp_seq ?_
              refine wp_region_lit ?_
              refine s_one (.int .i64 ((8 + k * 2 : Nat) : Int)) A148 S149 (g_move (by kernel_rfl)) rfl (fun ac A151 => ?_)
              refine s_one (.int .i64 ((l.length : Int) - 2)) A151 S149 (g_move (by kernel_rfl)) rfl (fun ac A152 => ?_)
              refine s_one (.bool (decide (((8 + k * 2 : Nat) : Int) < (l.length : Int) - 2))) A152 S149 (g_bin (u := .int .i64 ((8 + k * 2 : Nat) : Int)) (k := .int .i64 ((l.length : Int) - 2)) (by kernel_rfl) (by kernel_rfl) (fun _ => by kernel_rfl) (fun _ => by kernel_rfl)) rfl (fun ac A153 => ?_)
              refine wpList_nil ?_
              refine n_then ?_
              refine c_ifb (b := (decide (((8 + k * 2 : Nat) : Int) < (l.length : Int) - 2))) A153 (by kernel_rfl) (fun h154 => ?_) (fun h154 => ?_)
              · have p155 := of_decide_eq_true h154
                refine wp_skip ?_
                refine n_then ?_
                refine wp_seq ?_
                refine wp_block ?_
                refine r_begin (w0 := w0) (by kernel_rfl) (S149.sub (sub_skip sub_all) sub_nil) (fun wc T156 B157 => ?_)
                have S158 := S149.kept B157
                refine r_take 0 (.pointer (some ⟨g143, 1, none⟩)) A153 T156 (g_field (u := .pointer (some ⟨g143, 0, none⟩)) (by kernel_rfl) (fun _ => by kernel_rfl)) rfl rfl rfl (pf_block (pf_then (pf_then (pf_block (pf_then pf_body))))) (by kernel_rfl) (fun ac A159 => ?_)
                refine r_take 1 (.pointer (some ⟨g143, 2, none⟩)) A159 T156 (g_field (u := .pointer (some ⟨g143, 1, none⟩)) (by kernel_rfl) (fun _ => by kernel_rfl)) rfl rfl rfl (pf_block (pf_then (pf_then (pf_block (pf_then pf_body))))) (by kernel_rfl) (fun ac A160 => ?_)
                refine r_take 3 (.string ⟨l.toArray⟩) A160 T156 (g_move (by kernel_rfl)) rfl rfl rfl (pf_block (pf_then (pf_then (pf_block (pf_then pf_body))))) (by kernel_rfl) (fun ac A161 => ?_)
                refine r_take 4 (.int .i64 ((8 + k * 2 : Nat) : Int)) A161 T156 (g_move (by kernel_rfl)) rfl rfl rfl (pf_block (pf_then (pf_then (pf_block (pf_then pf_body))))) (by kernel_rfl) (fun ac A162 => ?_)
                refine r_take 5 (.int .i64 ((8 + k * 2 : Nat) : Int)) A162 T156 (g_move (by kernel_rfl)) rfl rfl rfl (pf_block (pf_then (pf_then (pf_block (pf_then pf_body))))) (by kernel_rfl) (fun ac A163 => ?_)
                refine r_take 6 (.int .i64 (((8 + k * 2 : Nat) : Int) + 2)) A163 T156 (g_bin (u := .int .i64 ((8 + k * 2 : Nat) : Int)) (k := .int .i64 2) (by kernel_rfl) (by kernel_rfl) (fun _ => by kernel_rfl) (b_add (by omega))) rfl rfl rfl (pf_block (pf_then (pf_then (pf_block (pf_then pf_body))))) (by kernel_rfl) (fun ac A164 => ?_)
                refine r_take 7 (.string ⟨(subU l (8 + k * 2) 2).toArray⟩) A164 T156 (g_slice (u := .string ⟨l.toArray⟩) (lo' := (some (.int .i64 ((8 + k * 2 : Nat) : Int)))) (hi' := (some (.int .i64 (((8 + k * 2 : Nat) : Int) + 2)))) (mx' := none) (by kernel_rfl) (by kernel_rfl) (by kernel_rfl) (by kernel_rfl) (sl_str_n (l := l) (i := 8 + k * 2) (h := 8 + k * 2 + 2) (k := 2) Try.underlying9 (by omega) (by omega) (by omega) (by omega) (by omega))) rfl rfl rfl (pf_block (pf_then (pf_then (pf_block (pf_then pf_body))))) (by kernel_rfl) (fun ac A165 => ?_)
                refine r_2 (i := 2) (j := 8) (by kernel_rfl) ?_ ?_
                · refine rs_gives (v) A165 S158 (sub_skip sub_all) sub_nil (g_load (g := g143) (off := 2) 0 (by kernel_rfl) rfl (by kernel_rfl)) rfl rfl rfl (fun ac A166 => ?_)
                  refine r_1 (i := 8) (by kernel_rfl) ?_
                  refine rs_call (fs := #[]) (cp := #[]) (r := [(0, .string ⟨(subU l (8 + k * 2) 2).toArray⟩)]) #[.string ⟨(subU l (8 + k * 2) 2).toArray⟩] (.int .i64 (w16 (whI l (8 + k * 2) 2))) A166 S158 (sub_skip sub_all) sub_nil (number_2 l (8 + k * 2) _ (by omega)) Try.call85 rfl rfl (by kernel_rfl) (by kernel_rfl) (by kernel_rfl) rfl (fun ac wc A170 S171 => ?_)
                  have T173 := S171.sub (sub_skip sub_all) sub_nil
                  refine r_take 9 (.float .f32 (floatOfInt .f32 (w16 (whI l (8 + k * 2) 2)))) A170 T173 (g_conv (u := .int .i64 (w16 (whI l (8 + k * 2) 2))) (by kernel_rfl) (fun _ => by kernel_rfl)) rfl rfl rfl (pf_block (pf_then (pf_then (pf_block (pf_then pf_body))))) (by kernel_rfl) (fun ac A174 => ?_)
                  refine r_1 (i := 10) (by kernel_rfl) ?_
                  refine rs_bs (e := 36) (r := [(0, .float .f32 (floatOfInt .f32 (w16 (whI l (8 + k * 2) 2))))]) (#[.float .f32 (floatOfInt .f32 (w16 (whI l (8 + k * 2) 2)))]) A174 S171 (sub_skip sub_all) sub_nil (by kernel_rfl) (by kernel_rfl) rfl rfl rfl (fun g177 ac wc A175 S176 => ?_)
                  have T178 := S176.sub (sub_skip (sub_skip sub_all)) sub_nil
                  refine r_1 (i := 11) (by kernel_rfl) ?_
                  refine rs_append (e := 36) (size := 1) (bytes := 4) (v := v) (g := g177) (m' := 1) (c := 1) 0 0 [.float .f32 (floatOfInt .f32 (w16 (whI l (8 + k * 2) 2)))] A175 S176 (sub_skip (sub_skip sub_all)) (fun _ => sub_nil) (by kernel_rfl) (by kernel_rfl) (by kernel_rfl) rfl rfl (by kernel_rfl) rfl (by kernel_rfl) (by omega) (by omega) rfl rfl rfl (fun v183 ac wc A179 S180 => ?_)
                  have T182 := S180.sub (sub_skip (sub_skip sub_all)) sub_nil
                  refine r_take 12 (.pointer (some ⟨g143, 1, none⟩)) A179 T182 (g_field (u := .pointer (some ⟨g143, 0, none⟩)) (by kernel_rfl) (fun _ => by kernel_rfl)) rfl rfl rfl (pf_block (pf_then (pf_then (pf_block (pf_then pf_body))))) (by kernel_rfl) (fun ac A184 => ?_)
                  refine r_take 13 (.pointer (some ⟨g143, 2, none⟩)) A184 T182 (g_field (u := .pointer (some ⟨g143, 1, none⟩)) (by kernel_rfl) (fun _ => by kernel_rfl)) rfl rfl rfl (pf_block (pf_then (pf_then (pf_block (pf_then pf_body))))) (by kernel_rfl) (fun ac A185 => ?_)
                  refine r_1 (i := 14) (by kernel_rfl) ?_
                  obtain ⟨A186, cap187, rfl⟩ := row_slice (v := v183) (m := k + 1) (S180.row 0 rfl)
                  refine rs_store (g := g143) (off := 2) (v := .slice A186 (k + 1) cap187) 1 (#[.int .i64 (w32 (whI l 4 4)), .int .i64 (nthU l 3 : Int), .slice A186 (k + 1) cap187]) A185 S180 (sub_skip (sub_skip sub_all)) sub_nil (by kernel_rfl) (by kernel_rfl) rfl (by kernel_rfl) rfl rfl (fun wc S189 => ?_)
                  have T191 := S189.sub (sub_skip (sub_skip sub_all)) sub_nil
                  refine r_done (by kernel_rfl) ?_
                  refine n_block ?_
                  refine n_then ?_
                  refine wp_region_lit ?_
                  refine s_one (.int .i64 ((8 + k * 2 : Nat) : Int)) A185 S189 (g_move (by kernel_rfl)) rfl (fun ac A192 => ?_)
                  refine s_one (.int .i64 (((8 + k * 2 : Nat) : Int) + 2)) A192 S189 (g_bin (u := .int .i64 ((8 + k * 2 : Nat) : Int)) (k := .int .i64 2) (by kernel_rfl) (by kernel_rfl) (fun _ => by kernel_rfl) (b_add (by omega))) rfl (fun ac A193 => ?_)
                  refine s_one (.int .i64 (((8 + k * 2 : Nat) : Int) + 2)) A193 S189 (g_assign (by kernel_rfl)) rfl (fun ac A194 => ?_)
                  refine wpList_nil ?_
                  refine n_then ?_
                  refine ⟨_, ⟨k + 1, .slice A186 (k + 1) cap187, rfl, by omega, (A194.slot (A194.slot (A194.slot (A194.slot (A194.slot (A194.slot (A194.slot (A194.slot (A194.slot (A194.slot (A194.slot (A194.slot (A194.slot (A194.slot (A194.slot (A194.slot (A194.slot (A194.slot (A194.slot (A194.slot (A194.slot (A194.slot (A194.slot (A194.slot (A194.slot (A194.slot (A194.slot (A194.slot (A194.slot (A194.slot (A194.slot (A194.slot (A194.slot (A194.slot (A194.slot (A194.slot (A194.slot (A194.slot (A194.slot (A194.slot (A194.slot A194.nil (v := .int .i64 (((8 + k * 2 : Nat) : Int) + 2)) (by kernel_rfl) (congrArg (Value.int .i64) (by omega))) (v := .pointer (some ⟨g143, 0, none⟩)) (by kernel_rfl) rfl) (v := .agg #[.int .i64 (w32 (whI l 4 4)), .int .i64 (nthU l 3 : Int), .slice none 0 0]) (by kernel_rfl) rfl) (v := .agg #[.int .i64 (nthU l 3 : Int), .slice none 0 0]) (by kernel_rfl) rfl) (v := .int .i64 (nthU l 3 : Int)) (by kernel_rfl) rfl) (v := .int .i64 (w32 (whI l 4 4))) (by kernel_rfl) rfl) (v := .string ⟨(subU l 4 4).toArray⟩) (by kernel_rfl) rfl) (v := .string ⟨l.toArray⟩) (by kernel_rfl) rfl) (v := .bool (decide (byU (ckU (subU l 0 (l.length - 2)) (subU l 0 (l.length - 2)).length) 2 ≠ subU l (l.length - 2) 2))) (by kernel_rfl) rfl) (v := .string ⟨(byU (ckU (subU l 0 (l.length - 2)) (subU l 0 (l.length - 2)).length) 2).toArray⟩) (by kernel_rfl) rfl) (v := .int .i64 (ckU (subU l 0 (l.length - 2)) (subU l 0 (l.length - 2)).length)) (by kernel_rfl) rfl) (v := .string ⟨(subU l (l.length - 2) 2).toArray⟩) (by kernel_rfl) rfl) (v := .int .i64 ((l.length : Int) - 2)) (by kernel_rfl) rfl) (v := .string ⟨l.toArray⟩) (by kernel_rfl) rfl) (v := .string ⟨(subU l 0 (l.length - 2)).toArray⟩) (by kernel_rfl) rfl) (v := .int .i64 ((l.length : Int) - 2)) (by kernel_rfl) rfl) (v := .string ⟨l.toArray⟩) (by kernel_rfl) rfl) (v := .int .i64 ((l.length : Int) - 2)) (by kernel_rfl) rfl) (v := .int .i64 ((l.length : Int) - 2)) (by kernel_rfl) rfl) (v := .int .i64 (l.length : Int)) (by kernel_rfl) rfl) (v := .string ⟨l.toArray⟩) (by kernel_rfl) rfl) (v := .bool (decide ((l.length : Int) ≠ ((10 + 128 * ((nthU l 3) * (nthU l 3)) : Nat) : Int)))) (by kernel_rfl) rfl) (v := .int .i64 ((10 + 128 * ((nthU l 3) * (nthU l 3)) : Nat) : Int)) (by kernel_rfl) rfl) (v := .int .i64 (nthU l 3 : Int)) (by kernel_rfl) rfl) (v := .int .i64 (l.length : Int)) (by kernel_rfl) rfl) (v := .string ⟨l.toArray⟩) (by kernel_rfl) rfl) (v := .bool (!(inB (nthU l 3 : Int) 1 16))) (by kernel_rfl) rfl) (v := .bool (inB (nthU l 3 : Int) 1 16)) (by kernel_rfl) rfl) (v := .int .i64 (nthU l 3 : Int)) (by kernel_rfl) rfl) (v := .int .i64 (nthU l 3 : Int)) (by kernel_rfl) rfl) (v := .int .i64 (nthU l 3 : Int)) (by kernel_rfl) rfl) (v := .int .u8 (nthU l 3 : Int)) (by kernel_rfl) rfl) (v := .string ⟨l.toArray⟩) (by kernel_rfl) rfl) (v := .bool (decide ((nthU l 2 : Int) ≠ 1))) (by kernel_rfl) rfl) (v := .int .u8 (nthU l 2 : Int)) (by kernel_rfl) rfl) (v := .string ⟨l.toArray⟩) (by kernel_rfl) rfl) (v := .bool ((decide ((l.length : Int) < 8)) || ((decide ((nthU l 0 : Int) ≠ 67)) || (decide ((nthU l 1 : Int) ≠ 80))))) (by kernel_rfl) rfl) (v := .pointer (some ⟨g7, 0, none⟩)) (by kernel_rfl) rfl) (v := .int .i64 0) (by kernel_rfl) rfl) (v := .pointer (some ⟨g3, 0, none⟩)) (by kernel_rfl) rfl) (v := .string ⟨l.toArray⟩) (by kernel_rfl) rfl), (St.rerow 0 (St.recell 1 S189 rfl (by rfl)) rfl ⟨rfl, pf_snoc3 l (by omega) rfl (by omega)⟩).sub (sub_skip sub_all) sub_all⟩, ?_⟩
                  omega
                · refine rs_call (fs := #[]) (cp := #[]) (r := [(0, .string ⟨(subU l (8 + k * 2) 2).toArray⟩)]) #[.string ⟨(subU l (8 + k * 2) 2).toArray⟩] (.int .i64 (w16 (whI l (8 + k * 2) 2))) A165 S158 (sub_skip sub_all) sub_nil (number_2 l (8 + k * 2) _ (by omega)) Try.call85 rfl rfl (by kernel_rfl) (by kernel_rfl) (by kernel_rfl) rfl (fun ac wc A195 S196 => ?_)
                  have T198 := S196.sub (sub_skip sub_all) sub_nil
                  refine r_take 9 (.float .f32 (floatOfInt .f32 (w16 (whI l (8 + k * 2) 2)))) A195 T198 (g_conv (u := .int .i64 (w16 (whI l (8 + k * 2) 2))) (by kernel_rfl) (fun _ => by kernel_rfl)) rfl rfl rfl (pf_block (pf_then (pf_then (pf_block (pf_then pf_body))))) (by kernel_rfl) (fun ac A199 => ?_)
                  refine r_2 (i := 2) (j := 10) (by kernel_rfl) ?_ ?_
                  · refine rs_gives (v) A199 S196 (sub_skip sub_all) sub_nil (g_load (g := g143) (off := 2) 0 (by kernel_rfl) rfl (by kernel_rfl)) rfl rfl rfl (fun ac A200 => ?_)
                    refine r_1 (i := 10) (by kernel_rfl) ?_
                    refine rs_bs (e := 36) (r := [(0, .float .f32 (floatOfInt .f32 (w16 (whI l (8 + k * 2) 2))))]) (#[.float .f32 (floatOfInt .f32 (w16 (whI l (8 + k * 2) 2)))]) A200 S196 (sub_skip sub_all) sub_nil (by kernel_rfl) (by kernel_rfl) rfl rfl rfl (fun g206 ac wc A204 S205 => ?_)
                    have T207 := S205.sub (sub_skip (sub_skip sub_all)) sub_nil
                    refine r_1 (i := 11) (by kernel_rfl) ?_
                    refine rs_append (e := 36) (size := 1) (bytes := 4) (v := v) (g := g206) (m' := 1) (c := 1) 0 0 [.float .f32 (floatOfInt .f32 (w16 (whI l (8 + k * 2) 2)))] A204 S205 (sub_skip (sub_skip sub_all)) (fun _ => sub_nil) (by kernel_rfl) (by kernel_rfl) (by kernel_rfl) rfl rfl (by kernel_rfl) rfl (by kernel_rfl) (by omega) (by omega) rfl rfl rfl (fun v212 ac wc A208 S209 => ?_)
                    have T211 := S209.sub (sub_skip (sub_skip sub_all)) sub_nil
                    refine r_take 12 (.pointer (some ⟨g143, 1, none⟩)) A208 T211 (g_field (u := .pointer (some ⟨g143, 0, none⟩)) (by kernel_rfl) (fun _ => by kernel_rfl)) rfl rfl rfl (pf_block (pf_then (pf_then (pf_block (pf_then pf_body))))) (by kernel_rfl) (fun ac A213 => ?_)
                    refine r_take 13 (.pointer (some ⟨g143, 2, none⟩)) A213 T211 (g_field (u := .pointer (some ⟨g143, 1, none⟩)) (by kernel_rfl) (fun _ => by kernel_rfl)) rfl rfl rfl (pf_block (pf_then (pf_then (pf_block (pf_then pf_body))))) (by kernel_rfl) (fun ac A214 => ?_)
                    refine r_1 (i := 14) (by kernel_rfl) ?_
                    obtain ⟨A215, cap216, rfl⟩ := row_slice (v := v212) (m := k + 1) (S209.row 0 rfl)
                    refine rs_store (g := g143) (off := 2) (v := .slice A215 (k + 1) cap216) 1 (#[.int .i64 (w32 (whI l 4 4)), .int .i64 (nthU l 3 : Int), .slice A215 (k + 1) cap216]) A214 S209 (sub_skip (sub_skip sub_all)) sub_nil (by kernel_rfl) (by kernel_rfl) rfl (by kernel_rfl) rfl rfl (fun wc S218 => ?_)
                    have T220 := S218.sub (sub_skip (sub_skip sub_all)) sub_nil
                    refine r_done (by kernel_rfl) ?_
                    refine n_block ?_
                    refine n_then ?_
                    refine wp_region_lit ?_
                    refine s_one (.int .i64 ((8 + k * 2 : Nat) : Int)) A214 S218 (g_move (by kernel_rfl)) rfl (fun ac A221 => ?_)
                    refine s_one (.int .i64 (((8 + k * 2 : Nat) : Int) + 2)) A221 S218 (g_bin (u := .int .i64 ((8 + k * 2 : Nat) : Int)) (k := .int .i64 2) (by kernel_rfl) (by kernel_rfl) (fun _ => by kernel_rfl) (b_add (by omega))) rfl (fun ac A222 => ?_)
                    refine s_one (.int .i64 (((8 + k * 2 : Nat) : Int) + 2)) A222 S218 (g_assign (by kernel_rfl)) rfl (fun ac A223 => ?_)
                    refine wpList_nil ?_
                    refine n_then ?_
                    refine ⟨_, ⟨k + 1, .slice A215 (k + 1) cap216, rfl, by omega, (A223.slot (A223.slot (A223.slot (A223.slot (A223.slot (A223.slot (A223.slot (A223.slot (A223.slot (A223.slot (A223.slot (A223.slot (A223.slot (A223.slot (A223.slot (A223.slot (A223.slot (A223.slot (A223.slot (A223.slot (A223.slot (A223.slot (A223.slot (A223.slot (A223.slot (A223.slot (A223.slot (A223.slot (A223.slot (A223.slot (A223.slot (A223.slot (A223.slot (A223.slot (A223.slot (A223.slot (A223.slot (A223.slot (A223.slot (A223.slot (A223.slot A223.nil (v := .int .i64 (((8 + k * 2 : Nat) : Int) + 2)) (by kernel_rfl) (congrArg (Value.int .i64) (by omega))) (v := .pointer (some ⟨g143, 0, none⟩)) (by kernel_rfl) rfl) (v := .agg #[.int .i64 (w32 (whI l 4 4)), .int .i64 (nthU l 3 : Int), .slice none 0 0]) (by kernel_rfl) rfl) (v := .agg #[.int .i64 (nthU l 3 : Int), .slice none 0 0]) (by kernel_rfl) rfl) (v := .int .i64 (nthU l 3 : Int)) (by kernel_rfl) rfl) (v := .int .i64 (w32 (whI l 4 4))) (by kernel_rfl) rfl) (v := .string ⟨(subU l 4 4).toArray⟩) (by kernel_rfl) rfl) (v := .string ⟨l.toArray⟩) (by kernel_rfl) rfl) (v := .bool (decide (byU (ckU (subU l 0 (l.length - 2)) (subU l 0 (l.length - 2)).length) 2 ≠ subU l (l.length - 2) 2))) (by kernel_rfl) rfl) (v := .string ⟨(byU (ckU (subU l 0 (l.length - 2)) (subU l 0 (l.length - 2)).length) 2).toArray⟩) (by kernel_rfl) rfl) (v := .int .i64 (ckU (subU l 0 (l.length - 2)) (subU l 0 (l.length - 2)).length)) (by kernel_rfl) rfl) (v := .string ⟨(subU l (l.length - 2) 2).toArray⟩) (by kernel_rfl) rfl) (v := .int .i64 ((l.length : Int) - 2)) (by kernel_rfl) rfl) (v := .string ⟨l.toArray⟩) (by kernel_rfl) rfl) (v := .string ⟨(subU l 0 (l.length - 2)).toArray⟩) (by kernel_rfl) rfl) (v := .int .i64 ((l.length : Int) - 2)) (by kernel_rfl) rfl) (v := .string ⟨l.toArray⟩) (by kernel_rfl) rfl) (v := .int .i64 ((l.length : Int) - 2)) (by kernel_rfl) rfl) (v := .int .i64 ((l.length : Int) - 2)) (by kernel_rfl) rfl) (v := .int .i64 (l.length : Int)) (by kernel_rfl) rfl) (v := .string ⟨l.toArray⟩) (by kernel_rfl) rfl) (v := .bool (decide ((l.length : Int) ≠ ((10 + 128 * ((nthU l 3) * (nthU l 3)) : Nat) : Int)))) (by kernel_rfl) rfl) (v := .int .i64 ((10 + 128 * ((nthU l 3) * (nthU l 3)) : Nat) : Int)) (by kernel_rfl) rfl) (v := .int .i64 (nthU l 3 : Int)) (by kernel_rfl) rfl) (v := .int .i64 (l.length : Int)) (by kernel_rfl) rfl) (v := .string ⟨l.toArray⟩) (by kernel_rfl) rfl) (v := .bool (!(inB (nthU l 3 : Int) 1 16))) (by kernel_rfl) rfl) (v := .bool (inB (nthU l 3 : Int) 1 16)) (by kernel_rfl) rfl) (v := .int .i64 (nthU l 3 : Int)) (by kernel_rfl) rfl) (v := .int .i64 (nthU l 3 : Int)) (by kernel_rfl) rfl) (v := .int .i64 (nthU l 3 : Int)) (by kernel_rfl) rfl) (v := .int .u8 (nthU l 3 : Int)) (by kernel_rfl) rfl) (v := .string ⟨l.toArray⟩) (by kernel_rfl) rfl) (v := .bool (decide ((nthU l 2 : Int) ≠ 1))) (by kernel_rfl) rfl) (v := .int .u8 (nthU l 2 : Int)) (by kernel_rfl) rfl) (v := .string ⟨l.toArray⟩) (by kernel_rfl) rfl) (v := .bool ((decide ((l.length : Int) < 8)) || ((decide ((nthU l 0 : Int) ≠ 67)) || (decide ((nthU l 1 : Int) ≠ 80))))) (by kernel_rfl) rfl) (v := .pointer (some ⟨g7, 0, none⟩)) (by kernel_rfl) rfl) (v := .int .i64 0) (by kernel_rfl) rfl) (v := .pointer (some ⟨g3, 0, none⟩)) (by kernel_rfl) rfl) (v := .string ⟨l.toArray⟩) (by kernel_rfl) rfl), (St.rerow 0 (St.recell 1 S218 rfl (by rfl)) rfl ⟨rfl, pf_snoc3 l (by omega) rfl (by omega)⟩).sub (sub_skip sub_all) sub_all⟩, ?_⟩
                    omega
                  · refine rs_bs (e := 36) (r := [(0, .float .f32 (floatOfInt .f32 (w16 (whI l (8 + k * 2) 2))))]) (#[.float .f32 (floatOfInt .f32 (w16 (whI l (8 + k * 2) 2)))]) A199 S196 (sub_skip sub_all) sub_nil (by kernel_rfl) (by kernel_rfl) rfl rfl rfl (fun g226 ac wc A224 S225 => ?_)
                    have T227 := S225.sub (sub_skip (sub_skip sub_all)) sub_nil
                    refine r_1 (i := 2) (by kernel_rfl) ?_
                    refine rs_gives (v) A224 S225 (sub_skip (sub_skip sub_all)) sub_nil (g_load (g := g143) (off := 2) 1 (by kernel_rfl) rfl (by kernel_rfl)) rfl rfl rfl (fun ac A228 => ?_)
                    refine r_1 (i := 11) (by kernel_rfl) ?_
                    refine rs_append (e := 36) (size := 1) (bytes := 4) (v := v) (g := g226) (m' := 1) (c := 1) 0 0 [.float .f32 (floatOfInt .f32 (w16 (whI l (8 + k * 2) 2)))] A228 S225 (sub_skip (sub_skip sub_all)) (fun _ => sub_nil) (by kernel_rfl) (by kernel_rfl) (by kernel_rfl) rfl rfl (by kernel_rfl) rfl (by kernel_rfl) (by omega) (by omega) rfl rfl rfl (fun v236 ac wc A232 S233 => ?_)
                    have T235 := S233.sub (sub_skip (sub_skip sub_all)) sub_nil
                    refine r_take 12 (.pointer (some ⟨g143, 1, none⟩)) A232 T235 (g_field (u := .pointer (some ⟨g143, 0, none⟩)) (by kernel_rfl) (fun _ => by kernel_rfl)) rfl rfl rfl (pf_block (pf_then (pf_then (pf_block (pf_then pf_body))))) (by kernel_rfl) (fun ac A237 => ?_)
                    refine r_take 13 (.pointer (some ⟨g143, 2, none⟩)) A237 T235 (g_field (u := .pointer (some ⟨g143, 1, none⟩)) (by kernel_rfl) (fun _ => by kernel_rfl)) rfl rfl rfl (pf_block (pf_then (pf_then (pf_block (pf_then pf_body))))) (by kernel_rfl) (fun ac A238 => ?_)
                    refine r_1 (i := 14) (by kernel_rfl) ?_
                    obtain ⟨A239, cap240, rfl⟩ := row_slice (v := v236) (m := k + 1) (S233.row 0 rfl)
                    refine rs_store (g := g143) (off := 2) (v := .slice A239 (k + 1) cap240) 1 (#[.int .i64 (w32 (whI l 4 4)), .int .i64 (nthU l 3 : Int), .slice A239 (k + 1) cap240]) A238 S233 (sub_skip (sub_skip sub_all)) sub_nil (by kernel_rfl) (by kernel_rfl) rfl (by kernel_rfl) rfl rfl (fun wc S242 => ?_)
                    have T244 := S242.sub (sub_skip (sub_skip sub_all)) sub_nil
                    refine r_done (by kernel_rfl) ?_
                    refine n_block ?_
                    refine n_then ?_
                    refine wp_region_lit ?_
                    refine s_one (.int .i64 ((8 + k * 2 : Nat) : Int)) A238 S242 (g_move (by kernel_rfl)) rfl (fun ac A245 => ?_)
                    refine s_one (.int .i64 (((8 + k * 2 : Nat) : Int) + 2)) A245 S242 (g_bin (u := .int .i64 ((8 + k * 2 : Nat) : Int)) (k := .int .i64 2) (by kernel_rfl) (by kernel_rfl) (fun _ => by kernel_rfl) (b_add (by omega))) rfl (fun ac A246 => ?_)
                    refine s_one (.int .i64 (((8 + k * 2 : Nat) : Int) + 2)) A246 S242 (g_assign (by kernel_rfl)) rfl (fun ac A247 => ?_)
                    refine wpList_nil ?_
                    refine n_then ?_
                    refine ⟨_, ⟨k + 1, .slice A239 (k + 1) cap240, rfl, by omega, (A247.slot (A247.slot (A247.slot (A247.slot (A247.slot (A247.slot (A247.slot (A247.slot (A247.slot (A247.slot (A247.slot (A247.slot (A247.slot (A247.slot (A247.slot (A247.slot (A247.slot (A247.slot (A247.slot (A247.slot (A247.slot (A247.slot (A247.slot (A247.slot (A247.slot (A247.slot (A247.slot (A247.slot (A247.slot (A247.slot (A247.slot (A247.slot (A247.slot (A247.slot (A247.slot (A247.slot (A247.slot (A247.slot (A247.slot (A247.slot (A247.slot A247.nil (v := .int .i64 (((8 + k * 2 : Nat) : Int) + 2)) (by kernel_rfl) (congrArg (Value.int .i64) (by omega))) (v := .pointer (some ⟨g143, 0, none⟩)) (by kernel_rfl) rfl) (v := .agg #[.int .i64 (w32 (whI l 4 4)), .int .i64 (nthU l 3 : Int), .slice none 0 0]) (by kernel_rfl) rfl) (v := .agg #[.int .i64 (nthU l 3 : Int), .slice none 0 0]) (by kernel_rfl) rfl) (v := .int .i64 (nthU l 3 : Int)) (by kernel_rfl) rfl) (v := .int .i64 (w32 (whI l 4 4))) (by kernel_rfl) rfl) (v := .string ⟨(subU l 4 4).toArray⟩) (by kernel_rfl) rfl) (v := .string ⟨l.toArray⟩) (by kernel_rfl) rfl) (v := .bool (decide (byU (ckU (subU l 0 (l.length - 2)) (subU l 0 (l.length - 2)).length) 2 ≠ subU l (l.length - 2) 2))) (by kernel_rfl) rfl) (v := .string ⟨(byU (ckU (subU l 0 (l.length - 2)) (subU l 0 (l.length - 2)).length) 2).toArray⟩) (by kernel_rfl) rfl) (v := .int .i64 (ckU (subU l 0 (l.length - 2)) (subU l 0 (l.length - 2)).length)) (by kernel_rfl) rfl) (v := .string ⟨(subU l (l.length - 2) 2).toArray⟩) (by kernel_rfl) rfl) (v := .int .i64 ((l.length : Int) - 2)) (by kernel_rfl) rfl) (v := .string ⟨l.toArray⟩) (by kernel_rfl) rfl) (v := .string ⟨(subU l 0 (l.length - 2)).toArray⟩) (by kernel_rfl) rfl) (v := .int .i64 ((l.length : Int) - 2)) (by kernel_rfl) rfl) (v := .string ⟨l.toArray⟩) (by kernel_rfl) rfl) (v := .int .i64 ((l.length : Int) - 2)) (by kernel_rfl) rfl) (v := .int .i64 ((l.length : Int) - 2)) (by kernel_rfl) rfl) (v := .int .i64 (l.length : Int)) (by kernel_rfl) rfl) (v := .string ⟨l.toArray⟩) (by kernel_rfl) rfl) (v := .bool (decide ((l.length : Int) ≠ ((10 + 128 * ((nthU l 3) * (nthU l 3)) : Nat) : Int)))) (by kernel_rfl) rfl) (v := .int .i64 ((10 + 128 * ((nthU l 3) * (nthU l 3)) : Nat) : Int)) (by kernel_rfl) rfl) (v := .int .i64 (nthU l 3 : Int)) (by kernel_rfl) rfl) (v := .int .i64 (l.length : Int)) (by kernel_rfl) rfl) (v := .string ⟨l.toArray⟩) (by kernel_rfl) rfl) (v := .bool (!(inB (nthU l 3 : Int) 1 16))) (by kernel_rfl) rfl) (v := .bool (inB (nthU l 3 : Int) 1 16)) (by kernel_rfl) rfl) (v := .int .i64 (nthU l 3 : Int)) (by kernel_rfl) rfl) (v := .int .i64 (nthU l 3 : Int)) (by kernel_rfl) rfl) (v := .int .i64 (nthU l 3 : Int)) (by kernel_rfl) rfl) (v := .int .u8 (nthU l 3 : Int)) (by kernel_rfl) rfl) (v := .string ⟨l.toArray⟩) (by kernel_rfl) rfl) (v := .bool (decide ((nthU l 2 : Int) ≠ 1))) (by kernel_rfl) rfl) (v := .int .u8 (nthU l 2 : Int)) (by kernel_rfl) rfl) (v := .string ⟨l.toArray⟩) (by kernel_rfl) rfl) (v := .bool ((decide ((l.length : Int) < 8)) || ((decide ((nthU l 0 : Int) ≠ 67)) || (decide ((nthU l 1 : Int) ≠ 80))))) (by kernel_rfl) rfl) (v := .pointer (some ⟨g7, 0, none⟩)) (by kernel_rfl) rfl) (v := .int .i64 0) (by kernel_rfl) rfl) (v := .pointer (some ⟨g3, 0, none⟩)) (by kernel_rfl) rfl) (v := .string ⟨l.toArray⟩) (by kernel_rfl) rfl), (St.rerow 0 (St.recell 1 S242 rfl (by rfl)) rfl ⟨rfl, pf_snoc3 l (by omega) rfl (by omega)⟩).sub (sub_skip sub_all) sub_all⟩, ?_⟩
                    omega
              · have p248 := of_decide_eq_false h154
                refine wp_exit ?_
                refine x_then ?_
                refine x_then ?_
                refine x_hit ?_
                refine n_then ?_
                refine wp_seq ?_
                refine wp_seq ?_
                have ek : k = 64 * (nthU l 3 * nthU l 3) := by omega
                have SR : St w0 [⟨g143, 66, #[.int .i64 (w32 (whI l 4 4)), .int .i64 (nthU l 3 : Int), v], true⟩, ⟨g7, 66, #[.int .i64 0, .int .i64 0, .slice none 0 0], true⟩, ⟨g3, 66, #[.int .i64 0, .int .i64 0, .slice none 0 0], true⟩] [⟨v, 36, 1, (64 * (nthU l 3 * nthU l 3)), (rowF (fw (pfL l (64 * (nthU l 3 * nthU l 3)))))⟩] _ := St.rerow 0 S149 rfl ⟨ek, by rw [ek]⟩
                obtain ⟨hlv, Av, capv, rfl, hcv, hrv⟩ := rowF_reads (v := v) (m := 64 * (nthU l 3 * nthU l 3)) (l := fw (pfL l (64 * (nthU l 3 * nthU l 3)))) (SR.row 0 rfl)
                refine wp_region_lit ?_
                refine s_one (.agg #[.int .i64 (w32 (whI l 4 4)), .int .i64 (nthU l 3 : Int), .slice Av (64 * (nthU l 3 * nthU l 3)) capv]) A153 SR (g_load (g := g143) (off := 0) 0 (by kernel_rfl) rfl (by kernel_rfl)) rfl (fun ac A249 => ?_)
                refine s_call (fs := #[]) (cp := #[]) (r := [(0, .agg #[.int .i64 (w32 (whI l 4 4)), .int .i64 (nthU l 3 : Int), .slice Av (64 * (nthU l 3 * nthU l 3)) capv])]) #[.agg #[.int .i64 (w32 (whI l 4 4)), .int .i64 (nthU l 3 : Int), .slice Av (64 * (nthU l 3 * nthU l 3)) capv]] (.int .i64 (frE (w32 (whI l 4 4)) (nthU l 3 : Int) (fw (pfL l (64 * (nthU l 3 * nthU l 3)))))) A249 SR (FrameErr_s (w32 (whI l 4 4)) (nthU l 3 : Int) Av (64 * (nthU l 3 * nthU l 3)) capv (fw (pfL l (64 * (nthU l 3 * nthU l 3)))) _ hlv (row_fr (SR.row 0 rfl)) (by omega)) Try.call47 (by kernel_rfl) (by kernel_rfl) (by kernel_rfl) rfl (fun ac wc A250 S251 => ?_)
                refine s_one (.int .i64 (frE (w32 (whI l 4 4)) (nthU l 3 : Int) (fw (pfL l (64 * (nthU l 3 * nthU l 3)))))) A250 S251 (g_assign (by kernel_rfl)) rfl (fun ac A253 => ?_)
                refine wpList_nil ?_
                refine n_then ?_
                refine wp_seq ?_
                refine wp_region_lit ?_
                refine s_one (.int .i64 (frE (w32 (whI l 4 4)) (nthU l 3 : Int) (fw (pfL l (64 * (nthU l 3 * nthU l 3)))))) A253 S251 (g_move (by kernel_rfl)) rfl (fun ac A254 => ?_)
                refine s_one (.bool (decide (frE (w32 (whI l 4 4)) (nthU l 3 : Int) (fw (pfL l (64 * (nthU l 3 * nthU l 3)))) ≠ 0))) A254 S251 (g_bin (u := .int .i64 (frE (w32 (whI l 4 4)) (nthU l 3 : Int) (fw (pfL l (64 * (nthU l 3 * nthU l 3)))))) (k := .int .i64 0) (by kernel_rfl) (by kernel_rfl) (fun _ => by kernel_rfl) b_neq) rfl (fun ac A255 => ?_)
                refine wpList_nil ?_
                refine n_then ?_
                refine c_ifb (b := (decide (frE (w32 (whI l 4 4)) (nthU l 3 : Int) (fw (pfL l (64 * (nthU l 3 * nthU l 3)))) ≠ 0))) A255 (by kernel_rfl) (fun h256 => ?_) (fun h256 => ?_)
                · have p257 := of_decide_eq_true h256
                  refine wp_seq ?_
                  refine wp_region_lit ?_
                  refine s_one (.agg #[.int .i64 0, .int .i64 0, .slice none 0 0]) A255 S251 (g_load (g := g7) (off := 0) 1 (by kernel_rfl) rfl (by kernel_rfl)) rfl (fun ac A258 => ?_)
                  refine s_one (.int .i64 (frE (w32 (whI l 4 4)) (nthU l 3 : Int) (fw (pfL l (64 * (nthU l 3 * nthU l 3)))))) A258 S251 (g_move (by kernel_rfl)) rfl (fun ac A259 => ?_)
                  refine s_store (g := g3) (off := 0) (v := .agg #[.int .i64 0, .int .i64 0, .slice none 0 0]) 2 (#[.int .i64 0, .int .i64 0, .slice none 0 0]) A259 S251 (by kernel_rfl) (by kernel_rfl) rfl (by kernel_rfl) (fun wc S261 => ?_)
                  refine s_one (.int .i64 (frE (w32 (whI l 4 4)) (nthU l 3 : Int) (fw (pfL l (64 * (nthU l 3 * nthU l 3)))))) A259 S261 (g_assign (by kernel_rfl)) rfl (fun ac A263 => ?_)
                  refine wpList_nil ?_
                  refine n_then ?_
                  refine wp_ret ?_
                  refine r_then ?_
                  have S264 := S261.nilRow 36 1
                  refine fin2 (.agg #[.int .i64 0, .int .i64 0, .slice none 0 0]) (.int .i64 (frE (w32 (whI l 4 4)) (nthU l 3 : Int) (fw (pfL l (64 * (nthU l 3 * nthU l 3)))))) Try.results32 A263 S264 (rv_cell (g := g3) (off := 0) 2 (by kernel_rfl) rfl (by kernel_rfl)) (rv_tmp (by kernel_rfl)) ?_
                  have bw := S264.kp
                  have ow := S264.row 0 rfl
                  have ez := pfZ_ref (l := l) (by omega) ((pre_two (by omega)).2 ⟨by omega, by omega⟩) (by omega) h85 (by omega) ((byU_two (l := l) (i := l.length - 2) (c := ckU (subU l 0 (l.length - 2)) (subU l 0 (l.length - 2)).length) (by have := ckU_range (subU l 0 (l.length - 2)) (subU l 0 (l.length - 2)).length; omega) (by omega)).1 (Decidable.of_not_not p132))
                  have hz := p257
                  rw [← ez]; rw [← ez] at hz
                  obtain ⟨e1, e2, e3⟩ := pf_err rfl hz
                  rw [e1, e2, e3]
                  exact ⟨_, rfl, bw, ow⟩
                · have p265 := of_decide_eq_false h256
                  refine wp_skip ?_
                  refine n_then ?_
                  refine wp_seq ?_
                  refine wp_region_lit ?_
                  refine s_one (.agg #[.int .i64 (w32 (whI l 4 4)), .int .i64 (nthU l 3 : Int), .slice Av (64 * (nthU l 3 * nthU l 3)) capv]) A255 S251 (g_load (g := g143) (off := 0) 0 (by kernel_rfl) rfl (by kernel_rfl)) rfl (fun ac A266 => ?_)
                  refine s_store (g := g3) (off := 0) (v := .agg #[.int .i64 (w32 (whI l 4 4)), .int .i64 (nthU l 3 : Int), .slice Av (64 * (nthU l 3 * nthU l 3)) capv]) 2 (#[.int .i64 (w32 (whI l 4 4)), .int .i64 (nthU l 3 : Int), .slice Av (64 * (nthU l 3 * nthU l 3)) capv]) A266 S251 (by kernel_rfl) (by kernel_rfl) rfl (by kernel_rfl) (fun wc S268 => ?_)
                  refine s_one (.int .i64 0) A266 S268 (g_assign (by kernel_rfl)) rfl (fun ac A270 => ?_)
                  refine wpList_nil ?_
                  refine n_then ?_
                  refine wp_ret ?_
                  refine fin2 (.agg #[.int .i64 (w32 (whI l 4 4)), .int .i64 (nthU l 3 : Int), .slice Av (64 * (nthU l 3 * nthU l 3)) capv]) (.int .i64 0) Try.results32 A270 S268 (rv_cell (g := g3) (off := 0) 2 (by kernel_rfl) rfl (by kernel_rfl)) (rv_tmp (by kernel_rfl)) ?_
                  have bw := S268.kp
                  have ow := S268.row 0 rfl
                  have ez := pfZ_ref (l := l) (by omega) ((pre_two (by omega)).2 ⟨by omega, by omega⟩) (by omega) h85 (by omega) ((byU_two (l := l) (i := l.length - 2) (c := ckU (subU l 0 (l.length - 2)) (subU l 0 (l.length - 2)).length) (by have := ckU_range (subU l 0 (l.length - 2)) (subU l 0 (l.length - 2)).length; omega) (by omega)).1 (Decidable.of_not_not p132))
                  rw [Decidable.of_not_not p265] at ez
                  obtain ⟨e1, e2, e3⟩ := pf_ok ez
                  rw [e1, e2, e3, ez, fw_length, pfL_length]
                  exact ⟨_, rfl, bw, ow⟩

end Go.Proofs.Ytcijkniijomcjaa
/-! Cells that can be read, and a walk that goes on from the world of now. -/
namespace Go.Proofs.Ytcijkniijomcjaa
open Go.RowKit Go.Cpl
def vI (vs : List Value) (i : Nat) : Value := vs.getD (vs.length - 1 - i) (.slice none 0 0)
theorem vI_old (v : Value) {vs : List Value} {i : Nat} (h : i < vs.length) : vI (v :: vs) i = vI vs i := by
  unfold vI
  rw [List.length_cons, show vs.length + 1 - 1 - i = (vs.length - 1 - i) + 1 by omega]
  rfl
theorem vI_new (v : Value) (vs : List Value) : vI (v :: vs) vs.length = v := by
  unfold vI
  rw [List.length_cons, show vs.length + 1 - 1 - vs.length = 0 by omega]
  rfl
/-- Cells that can be read. -/
def VReads (w : World) (A : Option Addr) (X : List Value) : Prop := ∀ k x, X[k]? = some x → ∃ ad, A = some ad ∧ w.cell? (ad.add k) = some x
theorem VReads.kept {w w' : World} {A : Option Addr} {X : List Value} (h : VReads w A X) (hk : Kp w w') : VReads w' A X := by
  intro k x hx
  obtain ⟨ad, rfl, hc⟩ := h k x hx
  exact ⟨ad, rfl, by rw [hk.cell (p := ad.add k) (World.block_lt_of_cell? w _ hc)]; exact hc⟩
theorem row_vreads {w : World} {base : Nat} {e : TypeId} {A : Option Addr} {size m m' cap : Nat} {X : List Value} (h : w.ownsRow base e size (.slice A m cap) m' X) : VReads w A X := by
  rcases h.2 with ⟨hv, hm⟩ | ⟨g, cap', cur, hv, _, hgg, _, _, _, ht⟩
  · intro k x hx
    have := (List.getElem?_eq_some_iff.1 hx).1
    have h1 := h.1
    subst hm
    rw [Nat.zero_mul] at h1
    omega
  · cases hv
    intro k x hx
    refine ⟨_, rfl, ?_⟩
    rw [add_zero_off, Blk.cell (t := e) (cs := cur) hgg]
    exact cur_get ht hx
theorem any_world {w0 : Base} {L : List Bk} {M : List Rw} {w : World} {p : World → Prop} (h : St w0 L M w) (k : ∀ w1, St w0 L M w1 → p w1) : p w := k w h
theorem kp_trans {w0 w1 w2 : World} (h : Kp w0 w1) (k : Kp w1 w2) : Kp w0 w2 := h.trans (k.mono h.size)
theorem St.permM {w0 : Base} {w : World} {L : List Bk} {M M' : List Rw} (h : St w0 L M w) (p : M.Perm M') : St w0 L M' w := by
  refine ⟨h.kq, h.blk, h.own, h.apart, fun r hr => h.rows r (p.mem_iff.2 hr), fun r hr => h.rb r (p.mem_iff.2 hr), (p.pairwise_iff ?_).1 h.rr⟩
  intro x y q
  rcases q with q | q
  · by_cases z : y.v.ownBlock = none
    · exact .inl z
    · exact .inr (fun e => z (e.trans q))
  · by_cases z : y.v.ownBlock = none
    · exact .inl z
    · exact .inr (fun e => q e.symm)
section
variable {P : Program} {ops : Array Oper} {Q : Exit → Act → World → Prop} {n : Sz} {a : Act} {w0 : Base} {w : World} {F : Fm} {L Ls : List Bk} {M Ms : List Rw} {rest : List Oper}
theorem g_loadXV {ty : TypeId} {x : Operand} {p : Addr} {X : List Value} {v : Value} (hx : evO F x = some (.pointer (some p))) (hr : ∀ j x, X[j]? = some x → w0.w.cell? (p.add j) = some x) (ht : rowType P ty X.length = true) (hv : v = .agg X.toArray) : Gives P F w0 L M (.load ty x) v := fun _ _ w hA hS _ _ _ _ _ => by
  subst hv
  obtain ⟨d, hu, hd, hi⟩ := rowType_spec ht
  have h1 : ∀ j x, X[j]? = some x → w.cell? (p.add j) = some x := fun j x hx => by
    have hc := hr j x hx
    rw [hS.kp.cell (p := p.add j) (World.block_lt_of_cell? w0.w _ hc)]; exact hc
  simp only [execOp, hA.ev hx, Instr.loadAt, Instr.sureAddr, Sem.run_bind, Sem.run_pure, Result.andThen_ok, run_loadVar_list h1 hu hd hi]
end
end Go.Proofs.Ytcijkniijomcjaa
/-! Frames one behind the other: where they stand, how many there are, and the slices that hold them. -/
namespace Go.Proofs.Ytcijkniijomcjaa
open Go.RowKit Go.Cpl
/-- How many bytes the frame that begins here should have; where frames begin; a frame's bytes. -/
def frN (l : Bs) (at_ : Nat) : Nat := 10 + 128 * (nthU l (at_ + 3) * nthU l (at_ + 3))
def gU (l : Bs) (at_ : Nat) : Nat := min (l.length - at_) (frN l at_)
def atU (l : Bs) : Nat → Nat
  | 0 => 0
  | k + 1 => atU l k + frN l (atU l k)
def frB (l : Bs) (k : Nat) : Bs := subU l (atU l k) (frN l (atU l k))
def frOk (l : Bs) (k : Nat) : Prop := atU l k + 8 ≤ l.length ∧ atU l k + frN l (atU l k) ≤ l.length ∧ pfZ (frB l k) = 0
/-- How many frames stand there. -/
noncomputable def frK (l : Bs) : Nat := Classical.epsilon fun k => (∀ j, j < k → frOk l j) ∧ ¬ frOk l k
theorem frK_eq {l : Bs} {k : Nat} (h : ∀ j, j < k → frOk l j) (h2 : ¬ frOk l k) : frK l = k := by
  have q : (∀ j, j < frK l → frOk l j) ∧ ¬ frOk l (frK l) := Classical.epsilon_spec (p := fun k => (∀ j, j < k → frOk l j) ∧ ¬ frOk l k) ⟨k, h, h2⟩
  rcases Nat.lt_trichotomy (frK l) k with z | z | z
  · exact absurd (h _ z) q.2
  · exact z
  · exact absurd (q.1 _ z) h2
theorem ok_snoc {l : Bs} {k : Nat} (h : ∀ j, j < k → frOk l j) (hk : frOk l k) : ∀ j, j < k + 1 → frOk l j := by
  intro j hj
  rcases Nat.lt_or_ge j k with q | q
  · exact h j q
  · obtain rfl : j = k := by omega
    exact hk
theorem frN_ge (l : Bs) (a : Nat) : 10 ≤ frN l a := Nat.le_add_right _ _
theorem gU_le (l : Bs) (a : Nat) : gU l a ≤ l.length - a := Nat.min_le_left _ _
theorem gU_ge {l : Bs} {a : Nat} (h : a + 8 ≤ l.length) : 8 ≤ gU l a := by
  have := frN_ge l a
  unfold gU; omega
theorem gU_mn {l : Bs} {a : Nat} {x y : Int} (hx : x = ((l.length - a : Nat) : Int)) (hy : y = (frN l a : Int)) : mn x y = (gU l a : Int) := by
  subst hx; subst hy
  rw [mn_eq]; unfold gU; omega
theorem pfZ_len {l : Bs} (h : pfZ l = 0) : l.length = 10 + 128 * (nthU l 3 * nthU l 3) := by
  unfold pfZ at h
  by_cases h1 : l.length < 8 ∨ ¬ subU l 0 2 = [67, 80]
  · rw [if_pos h1] at h; cases h
  rw [if_neg h1] at h
  by_cases h2 : ¬ (nthU l 2 : Int) = 1
  · rw [if_pos h2] at h; cases h
  rw [if_neg h2] at h
  by_cases h3 : inB (nthU l 3 : Int) 1 16 = false
  · rw [if_pos h3] at h; cases h
  rw [if_neg h3] at h
  by_cases h4 : ¬ l.length = 10 + 128 * (nthU l 3 * nthU l 3)
  · rw [if_pos h4] at h; cases h
  exact Decidable.of_not_not h4
theorem gU_ok {l : Bs} {a : Nat} (ha : a + 8 ≤ l.length) (h : pfZ (subU l a (gU l a)) = 0) : gU l a = frN l a := by
  have g1 := gU_le l a
  have g2 := gU_ge ha
  have e := pfZ_len h
  rw [subU_length (by omega), subU_nth (by omega)] at e
  exact e
theorem frOk_y {l : Bs} {k : Nat} (ha : atU l k + 8 ≤ l.length) (h : pfZ (subU l (atU l k) (gU l (atU l k))) = 0) : frOk l k := by
  have g1 := gU_le l (atU l k)
  have e := gU_ok ha h
  rw [e] at h
  exact ⟨ha, by omega, h⟩
theorem frOk_n {l : Bs} {k : Nat} (h : ¬ pfZ (subU l (atU l k) (gU l (atU l k))) = 0) : ¬ frOk l k := by
  rintro ⟨h1, h2, h3⟩
  have e : gU l (atU l k) = frN l (atU l k) := by unfold gU; omega
  rw [e] at h
  exact h h3
theorem ix_sub {P : Program} {t : TypeId} {l : Bs} {b n k j : Nat} {i : Int} (h : P.underlying t = some .string) (hn : b + n ≤ l.length) (hi : i = (k : Int)) (hk : k < n) (hj : j = b + k) (w : World) : (Instr.index t (.string ⟨(subU l b n).toArray⟩) (.int .i64 i)).run P w = .ok (.int .u8 (nthU l j)) w := by
  rw [ix_str k h hi (by rw [subU_length hn]; exact hk), subU_nth hk, hj]
/-- The cells of the slice, and the slices of samples, the last one first. -/
def frX (l : Bs) : List Value → List Value
  | [] => []
  | v :: vs => frX l vs ++ [.int .i64 (pfP (frB l vs.length)), .int .i64 (pfE (frB l vs.length)), v]
def frM (e : TypeId) (l : Bs) : List Value → List Rw
  | [] => []
  | v :: vs => ⟨v, e, 1, (pfW (frB l vs.length)).length, rowF (pfW (frB l vs.length))⟩ :: frM e l vs
theorem frX_length (l : Bs) (vs : List Value) : (frX l vs).length = vs.length * 3 := by
  induction vs with
  | nil => rfl
  | cons v vs ih => simp only [frX, List.length_append, List.length_cons, List.length_nil, ih]; omega
theorem frX_get {l : Bs} {vs : List Value} {i : Nat} (hi : i < vs.length) : ∀ j x, ([.int .i64 (pfP (frB l i)), .int .i64 (pfE (frB l i)), vI vs i] : List Value)[j]? = some x → (frX l vs)[i * 3 + j]? = some x := by
  induction vs with
  | nil => exact absurd hi (Nat.not_lt_zero _)
  | cons v vs ih =>
    intro j x hx
    have hj : j < 3 := by have := (List.getElem?_eq_some_iff.1 hx).1; simpa using this
    have hl := frX_length l vs
    unfold frX
    rcases Nat.lt_or_ge i vs.length with q | q
    · rw [vI_old v q] at hx
      rw [List.getElem?_append_left (by omega)]
      exact ih q j x hx
    · have e : i = vs.length := by rw [List.length_cons] at hi; omega
      subst e
      rw [vI_new] at hx
      rw [List.getElem?_append_right (by omega), hl, show vs.length * 3 + j - vs.length * 3 = j by omega]
      exact hx
theorem frM_mem {e : TypeId} {l : Bs} {vs : List Value} {i : Nat} (hi : i < vs.length) : (⟨vI vs i, e, 1, (pfW (frB l i)).length, rowF (pfW (frB l i))⟩ : Rw) ∈ frM e l vs := by
  induction vs with
  | nil => exact absurd hi (Nat.not_lt_zero _)
  | cons v vs ih =>
    rcases Nat.lt_or_ge i vs.length with q | q
    · rw [vI_old v q]; exact List.mem_cons_of_mem _ (ih q)
    · have e : i = vs.length := by rw [List.length_cons] at hi; omega
      subst e
      rw [vI_new]; exact List.mem_cons_self ..
theorem row_len {w : World} {base : Nat} {e : TypeId} {v : Value} {l : Bs} {vs : List Value} {m : Nat} (h : w.ownsRow base e 3 v m (frX l vs)) : vs.length = m := by
  have := h.1
  rw [frX_length] at this
  omega
/-- A frame of a slice of frames, in the cells that hold it. -/
theorem fr_at {w : World} {A : Option Addr} {l : Bs} {vs : List Value} {i : Nat} {v : Value} (h : VReads w A (frX l vs)) (hi : i < vs.length) (hv : vI vs i = v) : ∃ ad, A = some ad ∧ ∀ j x, ([.int .i64 (pfP (frB l i)), .int .i64 (pfE (frB l i)), v] : List Value)[j]? = some x → w.cell? ((ad.add (i * 3)).add j) = some x := by
  subst hv
  obtain ⟨ad, rfl, _⟩ := h (i * 3 + 0) (.int .i64 (pfP (frB l i))) (frX_get hi 0 _ rfl)
  refine ⟨ad, rfl, fun j x hx => ?_⟩
  obtain ⟨ad', e, hc⟩ := h (i * 3 + j) x (frX_get hi j x hx)
  cases e
  rw [Addr.add_add]; exact hc
end Go.Proofs.Ytcijkniijomcjaa
/-! Frames as bytes. -/
namespace Go.Proofs.Ytcijkniijomcjaa
open Go.RowKit Go.Cpl
/-- Bytes as cells. -/
def rowU (l : Bs) : List Value := l.map fun b => .int .u8 (b.toNat : Int)
theorem rowU_length (l : Bs) : (rowU l).length = l.length := by simp [rowU]
theorem rowU_app (l m : Bs) : rowU (l ++ m) = rowU l ++ rowU m := by simp [rowU]
/-- The first bytes of a number that has so many. -/
def byT (c : Int) (m : Nat) : Nat → Bs
  | 0 => []
  | k + 1 => byT c m k ++ [UInt8.ofNat (dvU c (m - 1 - k) % 256).toNat]
theorem byT_length (c : Int) (m k : Nat) : (byT c m k).length = k := by
  induction k with
  | zero => rfl
  | succ k ih => simp [byT, ih]
theorem byT_cons (c : Int) (m : Nat) : ∀ k, k ≤ m → byT c (m + 1) (k + 1) = UInt8.ofNat (dvU c m % 256).toNat :: byT c m k := by
  intro k
  induction k with
  | zero => intro _; simp [byT]
  | succ k ih =>
    intro hk
    rw [show byT c (m + 1) (k + 1 + 1) = byT c (m + 1) (k + 1) ++ [UInt8.ofNat (dvU c (m + 1 - 1 - (k + 1)) % 256).toNat] from rfl, ih (by omega)]
    rw [show byT c m (k + 1) = byT c m k ++ [UInt8.ofNat (dvU c (m - 1 - k) % 256).toNat] from rfl, List.cons_append]
    rw [show m + 1 - 1 - (k + 1) = m - 1 - k by omega]
theorem byT_all (c : Int) (m : Nat) : byT c m m = byU c m := by
  induction m with
  | zero => rfl
  | succ m ih => rw [byT_cons c m m (Nat.le_refl _), ih]; rfl
theorem rowU_one {y : Int} (h : 0 ≤ y ∧ y < 256) : rowU [UInt8.ofNat y.toNat] = [.int .u8 y] := by
  show [Value.int .u8 ((UInt8.ofNat y.toNat).toNat : Int)] = _
  rw [nthU_one h]
theorem dvU_pow (c : Int) (k : Nat) : dvU c k = c / 2 ^ (8 * k) := by
  induction k with
  | zero => simp [dvU]
  | succ k ih =>
    unfold dvU
    rw [ih, Int.ediv_ediv_of_nonneg (Int.pow_nonneg (by decide)), show 8 * (k + 1) = 8 * k + 8 by omega, Int.pow_add]
    rfl
theorem nthU_app {pre m suf : Bs} {j : Nat} (hj : j < m.length) : nthU (pre ++ m ++ suf) (pre.length + j) = nthU m j := by
  unfold nthU
  rw [List.append_assoc, List.getD_eq_getElem?_getD, List.getElem?_append_right (by omega), Nat.add_sub_cancel_left, List.getElem?_append_left hj, List.getD_eq_getElem?_getD]
/-- The number of a number's bytes. -/
theorem whI_byU2 (x : Int) (pre suf : Bs) : whI (pre ++ byU x 2 ++ suf) pre.length 2 = x % 65536 := by
  have h0 := nthU_app (pre := pre) (m := byU x 2) (suf := suf) (j := 0) (by rw [byU_length]; omega)
  have h1 := nthU_app (pre := pre) (m := byU x 2) (suf := suf) (j := 1) (by rw [byU_length]; omega)
  have e0 : (nthU (byU x 2) 0 : Int) = x / 256 % 256 := nthU_one (y := x / 256 % 256) (by omega)
  have e1 : (nthU (byU x 2) 1 : Int) = x % 256 := nthU_one (y := x % 256) (by omega)
  show (0 * 256 + (nthU (pre ++ byU x 2 ++ suf) (pre.length + 0) : Int)) * 256 + (nthU (pre ++ byU x 2 ++ suf) (pre.length + 1) : Int) = _
  rw [h0, h1, e0, e1]
  omega
theorem whI_byU4 (x : Int) (pre suf : Bs) : whI (pre ++ byU x 4 ++ suf) pre.length 4 = x % 4294967296 := by
  have h0 := nthU_app (pre := pre) (m := byU x 4) (suf := suf) (j := 0) (by rw [byU_length]; omega)
  have h1 := nthU_app (pre := pre) (m := byU x 4) (suf := suf) (j := 1) (by rw [byU_length]; omega)
  have h2 := nthU_app (pre := pre) (m := byU x 4) (suf := suf) (j := 2) (by rw [byU_length]; omega)
  have h3 := nthU_app (pre := pre) (m := byU x 4) (suf := suf) (j := 3) (by rw [byU_length]; omega)
  have e0 : (nthU (byU x 4) 0 : Int) = x / 256 / 256 / 256 % 256 := nthU_one (y := x / 256 / 256 / 256 % 256) (by omega)
  have e1 : (nthU (byU x 4) 1 : Int) = x / 256 / 256 % 256 := nthU_one (y := x / 256 / 256 % 256) (by omega)
  have e2 : (nthU (byU x 4) 2 : Int) = x / 256 % 256 := nthU_one (y := x / 256 % 256) (by omega)
  have e3 : (nthU (byU x 4) 3 : Int) = x % 256 := nthU_one (y := x % 256) (by omega)
  show (((0 * 256 + (nthU (pre ++ byU x 4 ++ suf) (pre.length + 0) : Int)) * 256 + (nthU (pre ++ byU x 4 ++ suf) (pre.length + 1) : Int)) * 256 + (nthU (pre ++ byU x 4 ++ suf) (pre.length + 2) : Int)) * 256 + (nthU (pre ++ byU x 4 ++ suf) (pre.length + 3) : Int) = _
  rw [h0, h1, h2, h3, e0, e1, e2, e3]
  omega
/-- The bytes of a frame, ahead of the check and with it. -/
def smB (l : List Int) : Bs := l.flatMap fun x => byU x 2
def fmB (p el : Int) (l : List Int) : Bs := [67, 80] ++ byU 1 1 ++ byU el 1 ++ byU p 4 ++ smB l
def fmt (p el : Int) (l : List Int) : Bs := fmB p el l ++ byU (ckU (fmB p el l) (fmB p el l).length) 2
theorem smB_length (l : List Int) : (smB l).length = l.length * 2 := by
  induction l with
  | nil => rfl
  | cons x l ih => simp only [smB, List.flatMap_cons, List.length_append, byU_length, List.length_cons] at ih ⊢; rw [ih]; omega
theorem fmB_length (p el : Int) (l : List Int) : (fmB p el l).length = 8 + l.length * 2 := by simp [fmB, byU_length, smB_length]; omega
theorem fmt_length (p el : Int) (l : List Int) : (fmt p el l).length = 10 + l.length * 2 := by simp only [fmt, List.length_append, fmB_length, byU_length]; omega
theorem fmt_body (p el : Int) (l : List Int) : subU (fmt p el l) 0 ((fmt p el l).length - 2) = fmB p el l := by
  have h : (fmt p el l).length - 2 = (fmB p el l).length := by rw [fmt_length, fmB_length]; omega
  rw [h]
  simp [subU, fmt]
theorem fmt_ck (p el : Int) (l : List Int) : whI (fmt p el l) ((fmt p el l).length - 2) 2 = ckU (fmB p el l) (fmB p el l).length := by
  have h : (fmt p el l).length - 2 = (fmB p el l).length := by rw [fmt_length, fmB_length]; omega
  have e : fmt p el l = fmB p el l ++ byU (ckU (fmB p el l) (fmB p el l).length) 2 ++ [] := by simp [fmt]
  have r := ckU_range (fmB p el l) (fmB p el l).length
  rw [h]
  conv => lhs; rw [e]
  rw [whI_byU2]
  omega
theorem fmt_pos {p : Int} (el : Int) (l : List Int) (h : -1000000000 ≤ p ∧ p ≤ 1000000000) : w32 (whI (fmt p el l) 4 4) = p := by
  have e : fmt p el l = ([67, 80] ++ byU 1 1 ++ byU el 1) ++ byU p 4 ++ (smB l ++ byU (ckU (fmB p el l) (fmB p el l).length) 2) := by simp [fmt, fmB]
  have hl : ([67, 80] ++ byU 1 1 ++ byU el 1 : Bs).length = 4 := by simp [byU_length]
  have := whI_byU4 p ([67, 80] ++ byU 1 1 ++ byU el 1) (smB l ++ byU (ckU (fmB p el l) (fmB p el l).length) 2)
  rw [hl, ← e] at this
  rw [this, w32_mod]
  omega
theorem smB_split {l : List Int} {k : Nat} (hk : k < l.length) : smB l = smB (l.take k) ++ byU (nthI l k) 2 ++ smB (l.drop (k + 1)) := by
  have e : l = l.take k ++ nthI l k :: l.drop (k + 1) := by
    rw [nthI_eq hk, ← List.drop_eq_getElem_cons hk, List.take_append_drop]
  conv => lhs; rw [e]
  simp [smB]
theorem fmt_smp (p el : Int) {l : List Int} {k : Nat} (hk : k < l.length) (hx : -2047 ≤ nthI l k ∧ nthI l k ≤ 2047) : pfS (fmt p el l) k = nthI l k := by
  unfold pfS
  rw [whI_sub (by rw [fmt_length]; omega)]
  have e : fmt p el l = ([67, 80] ++ byU 1 1 ++ byU el 1 ++ byU p 4 ++ smB (l.take k)) ++ byU (nthI l k) 2 ++ (smB (l.drop (k + 1)) ++ byU (ckU (fmB p el l) (fmB p el l).length) 2) := by
    have key : ∀ t : Bs, fmB p el l ++ t = ([67, 80] ++ byU 1 1 ++ byU el 1 ++ byU p 4 ++ smB (l.take k)) ++ byU (nthI l k) 2 ++ (smB (l.drop (k + 1)) ++ t) := fun t => by
      unfold fmB
      conv => lhs; rw [smB_split hk]
      simp
    exact key _
  have hl : ([67, 80] ++ byU 1 1 ++ byU el 1 ++ byU p 4 ++ smB (l.take k) : Bs).length = 8 + k * 2 := by simp [byU_length, smB_length]; omega
  have := whI_byU2 (nthI l k) ([67, 80] ++ byU 1 1 ++ byU el 1 ++ byU p 4 ++ smB (l.take k)) (smB (l.drop (k + 1)) ++ byU (ckU (fmB p el l) (fmB p el l).length) 2)
  rw [hl, ← e] at this
  rw [this, w16_mod]
  omega
/-- A right frame's bytes are read back. -/
theorem fmt_back {p : Int} {ne : Nat} {l : List Int} (hp : -1000000000 ≤ p ∧ p ≤ 1000000000) (h1 : 1 ≤ ne) (h2 : ne ≤ 16) (hl : l.length = ne * ne * 64) (hr : ∀ k, -2047 ≤ nthI l k ∧ nthI l k ≤ 2047) :
    pfZ (fmt p (ne : Int) l) = 0 ∧ pfP (fmt p (ne : Int) l) = p ∧ pfE (fmt p (ne : Int) l) = (ne : Int) ∧ pfW (fmt p (ne : Int) l) = fw l := by
  have e2 : subU (fmt p (ne : Int) l) 0 2 = [67, 80] := by simp [subU, fmt, fmB]
  have e3 : nthU (fmt p (ne : Int) l) 2 = 1 := rfl
  have e4 : (nthU (fmt p (ne : Int) l) 3 : Int) = (ne : Int) := by
    have : (nthU (fmt p (ne : Int) l) 3 : Int) = (ne : Int) % 256 := nthU_one (y := (ne : Int) % 256) (by omega)
    omega
  have e4' : nthU (fmt p (ne : Int) l) 3 = ne := by omega
  have hlen := fmt_length p (ne : Int) l
  have h8 : 8 ≤ (fmt p (ne : Int) l).length := by omega
  have h5 : (fmt p (ne : Int) l).length = 10 + 128 * (nthU (fmt p (ne : Int) l) 3 * nthU (fmt p (ne : Int) l) 3) := by rw [e4', hlen, hl]; omega
  have h6 : ckU (subU (fmt p (ne : Int) l) 0 ((fmt p (ne : Int) l).length - 2)) (subU (fmt p (ne : Int) l) 0 ((fmt p (ne : Int) l).length - 2)).length = whI (fmt p (ne : Int) l) ((fmt p (ne : Int) l).length - 2) 2 := by rw [fmt_body, fmt_ck]
  have h7 : inB (w32 (whI (fmt p (ne : Int) l) 4 4)) (-1000000000) 1000000000 = true := by rw [fmt_pos _ _ hp]; exact inB_true.2 hp
  have hb : pfBad (fmt p (ne : Int) l) = false := pfBad_n fun k hk => by
    rw [e4'] at hk
    rw [fmt_smp p _ (by omega) (hr k)]
    exact inB_true.2 (hr k)
  have ez : pfZ (fmt p (ne : Int) l) = 0 := by
    rw [pfZ_7 h8 e2 (by rw [e3]; rfl) (by rw [e4]; exact inB_true.2 (by omega)) h5 h6 h7, hb, if_neg (by decide)]
  obtain ⟨a, b, c⟩ := pf_ok ez
  refine ⟨ez, by rw [a, fmt_pos _ _ hp], by rw [b, e4], ?_⟩
  rw [c, e4']
  congr 1
  apply List.ext_getElem
  · rw [pfL_length, hl]; omega
  · intro i hi1 hi2
    have := fmt_smp p (ne : Int) hi2 (hr i)
    rw [nthI_eq hi2] at this
    simp only [pfL, List.getElem_map, List.getElem_range]
    exact this
end Go.Proofs.Ytcijkniijomcjaa
/-! Slices of matrices, and their means. -/
namespace Go.Proofs.Ytcijkniijomcjaa
open Go.RowKit Go.Cpl
/-- A matrix in a slice of matrices: its elements, its slice of samples, their words. -/
structure Mt where
  el : Int
  B : Option Addr
  n : Nat
  c : Nat
  xs : List Nat
def mtC (m : Mt) : List Value := [.int .i64 m.el, .slice m.B m.n m.c]
def mtX (ms : List Mt) : List Value := ms.flatMap mtC
def mtK (ms : List Mt) (k : Nat) : Mt := ms.getD k ⟨0, none, 0, 0, []⟩
/-- What can be read of a matrix. -/
structure MtOk (w : World) (m : Mt) : Prop where
  len : m.xs.length = m.n
  cap : m.n ≤ m.c
  rd : FReads w m.B m.xs
  few : m.n ≤ 1000
  lo : -9223372036854775808 ≤ m.el
  hi : m.el ≤ 9223372036854775807
theorem MtOk.kept {w w' : World} {m : Mt} (h : MtOk w m) (k : Kp w w') : MtOk w' m := ⟨h.len, h.cap, h.rd.kept k, h.few, h.lo, h.hi⟩
def MtReads (w : World) (A : Option Addr) (ms : List Mt) : Prop := VReads w A (mtX ms) ∧ ∀ k, k < ms.length → MtOk w (mtK ms k)
theorem MtReads.kept {w w' : World} {A : Option Addr} {ms : List Mt} (h : MtReads w A ms) (k : Kp w w') : MtReads w' A ms := ⟨h.1.kept k, fun i hi => (h.2 i hi).kept k⟩
theorem mtX_length (ms : List Mt) : (mtX ms).length = ms.length * 2 := by
  induction ms with
  | nil => rfl
  | cons m ms ih => simp only [mtX, List.flatMap_cons, List.length_append, List.length_cons] at ih ⊢; rw [ih]; simp [mtC]; omega
theorem mtX_get {ms : List Mt} {k : Nat} (hk : k < ms.length) : ∀ j x, (mtC (mtK ms k))[j]? = some x → (mtX ms)[k * 2 + j]? = some x := by
  induction ms generalizing k with
  | nil => exact absurd hk (Nat.not_lt_zero _)
  | cons m ms ih =>
    intro j x hx
    have hj : j < 2 := by have := (List.getElem?_eq_some_iff.1 hx).1; simpa [mtC] using this
    have e : mtX (m :: ms) = mtC m ++ mtX ms := rfl
    rw [e]
    cases k with
    | zero =>
      rw [List.getElem?_append_left (by simp [mtC]; omega), Nat.zero_mul, Nat.zero_add]
      exact hx
    | succ k =>
      rw [List.getElem?_append_right (by simp [mtC]; omega), show (k + 1) * 2 + j - (mtC m).length = k * 2 + j by simp [mtC]; omega]
      exact ih (by rw [List.length_cons] at hk; omega) j x hx
/-- A matrix of a slice of matrices, in the cells that hold it. -/
theorem mt_at {w : World} {A : Option Addr} {ms : List Mt} {k : Nat} (h : MtReads w A ms) (hk : k < ms.length) : ∃ ad, A = some ad ∧ ∀ j x, (mtC (mtK ms k))[j]? = some x → w.cell? ((ad.add (k * 2)).add j) = some x := by
  obtain ⟨ad, rfl, _⟩ := h.1 (k * 2 + 0) (.int .i64 (mtK ms k).el) (mtX_get hk 0 _ rfl)
  refine ⟨ad, rfl, fun j x hx => ?_⟩
  obtain ⟨ad', e, hc⟩ := h.1 (k * 2 + j) x (mtX_get hk j x hx)
  cases e
  rw [Addr.add_add]; exact hc
theorem mt_cell {w : World} {ad : Addr} {ms : List Mt} {k j o : Nat} {x : Value} (h : ∀ j x, (mtC (mtK ms k))[j]? = some x → w.cell? ((ad.add (k * 2)).add j) = some x) (ho : o = k * 2 + j) (hx : (mtC (mtK ms k))[j]? = some x) : w.cell? (ad.add o) = some x := by
  subst ho
  rw [← Addr.add_add]; exact h j x hx
/-- The error of a mean, its elements and its samples. -/
def avF (e0 : Int) : List Mt → Int
  | [] => 0
  | m :: ms => if (mxC m.el m.xs).2 = 0 then (if m.el = e0 then avF e0 ms else 13) else (mxC m.el m.xs).2
def avZ (ms : List Mt) : Int := if ms.length = 0 then 10 else if 32 < ms.length then 8 else avF (mtK ms 0).el ms
def avGood (ms : List Mt) (k : Nat) : Prop := ∀ j, j < k → (mxC (mtK ms j).el (mtK ms j).xs).2 = 0 ∧ (mtK ms j).el = (mtK ms 0).el
theorem mtK_zero (m : Mt) (ms : List Mt) : mtK (m :: ms) 0 = m := rfl
theorem mtK_succ (m : Mt) (ms : List Mt) (k : Nat) : mtK (m :: ms) (k + 1) = mtK ms k := rfl
theorem avF_skip {e0 : Int} : ∀ {ms : List Mt} {k : Nat}, k ≤ ms.length → (∀ j, j < k → (mxC (mtK ms j).el (mtK ms j).xs).2 = 0 ∧ (mtK ms j).el = e0) → avF e0 ms = avF e0 (ms.drop k) := by
  intro ms
  induction ms with
  | nil =>
    intro k hk _
    obtain rfl : k = 0 := by simpa using hk
    rfl
  | cons m ms ih =>
    intro k hk h
    cases k with
    | zero => rfl
    | succ k =>
      have h0 := h 0 (by omega)
      rw [mtK_zero] at h0
      rw [List.drop_succ_cons, ← ih (by rw [List.length_cons] at hk; omega) (fun j hj => h (j + 1) (by omega))]
      show (if (mxC m.el m.xs).2 = 0 then (if m.el = e0 then avF e0 ms else 13) else (mxC m.el m.xs).2) = _
      rw [if_pos h0.1, if_pos h0.2]
theorem drop_mtK {ms : List Mt} {k : Nat} (hk : k < ms.length) : ms.drop k = mtK ms k :: ms.drop (k + 1) := by
  rw [List.drop_eq_getElem_cons hk]
  congr 1
  simp [mtK, List.getD_eq_getElem?_getD, List.getElem?_eq_getElem hk]
theorem avZ_0 {ms : List Mt} (h : ms.length = 0) : avZ ms = 10 := if_pos h
theorem avZ_1 {ms : List Mt} (h : 32 < ms.length) : avZ ms = 8 := by unfold avZ; rw [if_neg (by omega), if_pos h]
theorem avZ_at {ms : List Mt} {k : Nat} (h1 : 0 < ms.length) (h2 : ms.length ≤ 32) (hk : k ≤ ms.length) (hg : avGood ms k) : avZ ms = avF (mtK ms 0).el (ms.drop k) := by
  unfold avZ
  rw [if_neg (by omega), if_neg (by omega)]
  exact avF_skip hk hg
theorem avZ_e {ms : List Mt} {k : Nat} (h2 : ms.length ≤ 32) (hk : k < ms.length) (hg : avGood ms k) (h : ¬ (mxC (mtK ms k).el (mtK ms k).xs).2 = 0) : avZ ms = (mxC (mtK ms k).el (mtK ms k).xs).2 := by
  rw [avZ_at (by omega) h2 (by omega) hg, drop_mtK hk]; exact if_neg h
theorem avZ_c {ms : List Mt} {k : Nat} (h2 : ms.length ≤ 32) (hk : k < ms.length) (hg : avGood ms k) (h : (mxC (mtK ms k).el (mtK ms k).xs).2 = 0) (hc : ¬ (mtK ms k).el = (mtK ms 0).el) : avZ ms = 13 := by
  rw [avZ_at (by omega) h2 (by omega) hg, drop_mtK hk]; exact (if_pos h).trans (if_neg hc)
theorem avZ_g {ms : List Mt} (h1 : 0 < ms.length) (h2 : ms.length ≤ 32) (hg : avGood ms ms.length) : avZ ms = 0 := by
  rw [avZ_at h1 h2 (Nat.le_refl _) hg, List.drop_length]; rfl
theorem good_zero (ms : List Mt) : avGood ms 0 := fun j hj => absurd hj (Nat.not_lt_zero j)
theorem good_snoc {ms : List Mt} {k : Nat} (hg : avGood ms k) (h : (mxC (mtK ms k).el (mtK ms k).xs).2 = 0) (hc : (mtK ms k).el = (mtK ms 0).el) : avGood ms (k + 1) := by
  intro j hj
  rcases Nat.lt_or_ge j k with q | q
  · exact hg j q
  · obtain rfl : j = k := by omega
    exact ⟨h, hc⟩
/-- Sums of the samples at a place, and the means. -/
def sumK (ms : List Mt) (p : Nat) : Nat → Int
  | 0 => 0
  | k + 1 => sumK ms p k + nthI (mi (mtK ms k).xs) p
def rndI (s : Int) (n : Nat) : Int := (2 * s + (n : Int)) / (2 * (n : Int))
def avL (ms : List Mt) (n : Nat) : List Int := (List.range n).map fun p => rndI (sumK ms p ms.length) ms.length
def avE (ms : List Mt) : Int := if avZ ms = 0 then (mtK ms 0).el else 0
def avW (ms : List Mt) : List Nat := if avZ ms = 0 then fw (avL ms (mtK ms 0).xs.length) else []
theorem av_ok {ms : List Mt} (h : avZ ms = 0) : avE ms = (mtK ms 0).el ∧ avW ms = fw (avL ms (mtK ms 0).xs.length) := ⟨if_pos h, if_pos h⟩
theorem av_err {ms : List Mt} {z : Int} (h : avZ ms = z) (hz : ¬ z = 0) : avE ms = 0 ∧ avW ms = [] := by subst h; exact ⟨if_neg hz, if_neg hz⟩
theorem good_right {ms : List Mt} {k j : Nat} (hg : avGood ms k) (hj : j < k) : Right (mtK ms j).xs := right_of (mxC_0 (hg j hj).1).2.2
theorem good_len {ms : List Mt} {k j : Nat} (hg : avGood ms k) (hj : j < k) : (mtK ms j).xs.length = (mtK ms 0).xs.length := by
  have h1 := (mxC_0 (hg j hj).1).2.1
  have h2 := (mxC_0 (hg 0 (by omega)).1).2.1
  rw [(hg j hj).2] at h1
  omega
theorem sumK_bd {ms : List Mt} {k : Nat} (hg : avGood ms k) (p : Nat) : -2047 * (k : Int) ≤ sumK ms p k ∧ sumK ms p k ≤ 2047 * (k : Int) := by
  induction k with
  | zero => exact ⟨by simp [sumK], by simp [sumK]⟩
  | succ k ih =>
    have h := ih (fun j hj => hg j (by omega))
    have r := mi_range (good_right hg (j := k) (by omega)) p
    unfold sumK
    omega
theorem avL_snoc (ms : List Mt) (k : Nat) : rowF (fw (avL ms k)) ++ [.float .f32 (floatOfInt .f32 (rndI (sumK ms k ms.length) ms.length))] = rowF (fw (avL ms (k + 1))) := by simp [avL, List.range_succ, fw, rowF]
theorem avL_length (ms : List Mt) (n : Nat) : (avL ms n).length = n := by simp [avL]
end Go.Proofs.Ytcijkniijomcjaa
