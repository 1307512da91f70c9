/- Frames one behind the other. -/
import Derived.Test.YtcijkniijomcjaaFrs
namespace Go.Proofs.Ytcijkniijomcjaa
open Go.RowKit Go.Cpl

theorem pfW_le (l : Bs) : (pfW l).length ≤ l.length := by
  unfold pfW
  by_cases h : pfZ l = 0
  · have e := pfZ_len h
    rw [if_pos h, fw_length, pfL_length]; omega
  · rw [if_neg h]; exact Nat.zero_le _
theorem subU_le2 (l : Bs) (i n : Nat) : (subU l i n).length ≤ l.length := by
  simp only [subU, List.length_take, List.length_drop]; omega
theorem atU_ge (l : Bs) (k : Nat) : k * 10 ≤ atU l k := by
  induction k with
  | zero => exact Nat.zero_le _
  | succ k ih =>
    have := frN_ge l (atU l k)
    show (k + 1) * 10 ≤ atU l k + frN l (atU l k)
    omega
theorem pfE_nth {l : Bs} (h : pfZ l = 0) : pfE l = (nthU l 3 : Int) := (pf_ok h).2.1
theorem frameSize_e (l : Bs) (w : World) (h : pfZ l = 0) : Calls Try.prog 77 #[.int .i64 (pfE l)] w fun e w' => e = .returned (.int .i64 ((10 + 128 * (nthU l 3 * nthU l 3) : Nat) : Int)) ∧ Below w.heap.size w w' := by
  rw [pfE_nth h]
  exact frameSize_s (nthU l 3) w (by have := nthU_lt l 3; omega)

set_option maxRecDepth 100000 in
set_option maxHeartbeats 400000 in
theorem sameFrame_s (p el : Int) (C D : Option Addr) (c d n : Nat) (xs : List Nat) (w0 : World) (hn : xs.length = n) (hm : n ≤ 100000) (hC : FReads w0 C xs) (hD : FReads w0 D xs) :
    Calls Try.prog 33 #[.agg #[.int .i64 p, .int .i64 el, .slice C n c], .agg #[.int .i64 p, .int .i64 el, .slice D n d]] w0 fun e w' => e = .returned (.bool true) ∧ Below w0.heap.size w0 w' := by
  have S0 := St.start w0
  refine enter (n := 17) Try.func33 rfl rfl rfl (fun ac A0 => ?_)
  refine wp_seq ?_
  refine wp_region_lit ?_
  refine s_box (.agg #[.int .i64 p, .int .i64 el, .slice C n c]) A0 S0 (by kernel_rfl) rfl (fun g3 ac wc A1 S2 => ?_)
  replace S2 : St _ (⟨g3, 66, #[.int .i64 p, .int .i64 el, .slice C n c], true⟩ :: _) _ _ := S2
  refine s_box (.agg #[.int .i64 p, .int .i64 el, .slice D n d]) A1 S2 (by kernel_rfl) rfl (fun g7 ac wc A5 S6 => ?_)
  replace S6 : St _ (⟨g7, 66, #[.int .i64 p, .int .i64 el, .slice D n d], true⟩ :: _) _ _ := S6
  refine s_one (.bool false) A5 S6 (g_assign (by kernel_rfl)) rfl (fun ac A9 => ?_)
  refine wpList_nil ?_
  refine n_then ?_
  refine wp_seq ?_
  refine wp_region_lit ?_
  refine s_one (.pointer (some ⟨g3, 0, none⟩)) A9 S6 (g_field (u := .pointer (some ⟨g3, 0, none⟩)) (by kernel_rfl) (fun _ => by kernel_rfl)) rfl (fun ac A10 => ?_)
  refine s_one (.int .i64 p) A10 S6 (g_load (g := g3) (off := 0) 1 (by kernel_rfl) rfl (by kernel_rfl)) rfl (fun ac A11 => ?_)
  refine s_one (.pointer (some ⟨g7, 0, none⟩)) A11 S6 (g_field (u := .pointer (some ⟨g7, 0, none⟩)) (by kernel_rfl) (fun _ => by kernel_rfl)) rfl (fun ac A12 => ?_)
  refine s_one (.int .i64 p) A12 S6 (g_load (g := g7) (off := 0) 0 (by kernel_rfl) rfl (by kernel_rfl)) rfl (fun ac A13 => ?_)
  refine s_one (.bool (decide (p = p))) A13 S6 (g_bin (u := .int .i64 p) (k := .int .i64 p) (by kernel_rfl) (by kernel_rfl) (fun _ => by kernel_rfl) b_eql) rfl (fun ac A14 => ?_)
  refine s_one (.bool (decide (p = p))) A14 S6 (g_move (by kernel_rfl)) rfl (fun ac A15 => ?_)
  refine s_want (dj := 10) (b := (decide (p = p))) A15 (by kernel_rfl) (by kernel_rfl) (decide_eq_true rfl) ?_
  refine s_one (.pointer (some ⟨g3, 1, none⟩)) A15 S6 (g_field (u := .pointer (some ⟨g3, 0, none⟩)) (by kernel_rfl) (fun _ => by kernel_rfl)) rfl (fun ac A16 => ?_)
  refine s_want (dj := 10) (b := (decide (p = p))) A16 (by kernel_rfl) (by kernel_rfl) (decide_eq_true rfl) ?_
  refine s_one (.agg #[.int .i64 el, .slice C n c]) A16 S6 (g_load (g := g3) (off := 1) 1 (by kernel_rfl) rfl (by kernel_rfl)) rfl (fun ac A17 => ?_)
  refine s_want (dj := 10) (b := (decide (p = p))) A17 (by kernel_rfl) (by kernel_rfl) (decide_eq_true rfl) ?_
  refine s_one (.pointer (some ⟨g7, 1, none⟩)) A17 S6 (g_field (u := .pointer (some ⟨g7, 0, none⟩)) (by kernel_rfl) (fun _ => by kernel_rfl)) rfl (fun ac A18 => ?_)
  refine s_want (dj := 10) (b := (decide (p = p))) A18 (by kernel_rfl) (by kernel_rfl) (decide_eq_true rfl) ?_
  refine s_one (.agg #[.int .i64 el, .slice D n d]) A18 S6 (g_load (g := g7) (off := 1) 0 (by kernel_rfl) rfl (by kernel_rfl)) rfl (fun ac A19 => ?_)
  refine s_want (dj := 10) (b := (decide (p = p))) A19 (by kernel_rfl) (by kernel_rfl) (decide_eq_true rfl) ?_
  refine s_call (fs := #[]) (cp := #[]) (r := [(0, .agg #[.int .i64 el, .slice C n c]), (0, .agg #[.int .i64 el, .slice D n d])]) #[.agg #[.int .i64 el, .slice C n c], .agg #[.int .i64 el, .slice D n d]] (.bool true) A19 S6 (SameMatrix_eq el el rfl xs xs rfl C D c d n n _ hn hn (by omega) (hC.kept S6.kp) (hD.kept S6.kp)) Try.call52 (by kernel_rfl) (by kernel_rfl) (by kernel_rfl) rfl (fun ac wc A20 S21 => ?_)
  refine s_one (.bool true) A20 S21 (g_pick_t (b := (decide (p = p))) (by kernel_rfl) (decide_eq_true rfl) (by kernel_rfl)) rfl (fun ac A23 => ?_)
  refine s_one (.bool true) A23 S21 (g_assign (by kernel_rfl)) rfl (fun ac A24 => ?_)
  refine wpList_nil ?_
  refine n_then ?_
  refine wp_ret ?_
  refine fin1 (.bool true) Try.results33 A24 S21 (rv_tmp (by kernel_rfl)) ⟨?_, S21.kp⟩
  rfl

set_option maxRecDepth 100000 in
set_option maxHeartbeats 400000 in
theorem Frames_s (l : List UInt8) (w0 : World) (hl : l.length ≤ 100000) :
    Calls Try.prog 30 #[.string ⟨l.toArray⟩] w0 fun e w' => ∃ u : List Value × Option Addr × Nat, e = .returned (.tuple #[.slice u.2.1 (frK l) u.2.2, .int .i64 (atU l (frK l) : Int), .int .i64 0]) ∧ St w0 [] (⟨.slice u.2.1 (frK l) u.2.2, 66, 3, frK l, frX l u.1⟩ :: frM 36 l u.1) w' := by
  have S0 := St.start w0
  refine enter (n := 46) Try.func30 rfl rfl rfl (fun ac A0 => ?_)
  refine wp_seq ?_
  refine wp_region_lit ?_
  refine s_one (.slice none 0 0) A0 S0 (g_assign (by kernel_rfl)) rfl (fun ac A1 => ?_)
  refine s_one (.int .i64 0) A1 S0 (g_assign (by kernel_rfl)) rfl (fun ac A2 => ?_)
  refine s_one (.int .i64 0) A2 S0 (g_assign (by kernel_rfl)) rfl (fun ac A3 => ?_)
  refine wpList_nil ?_
  refine n_then ?_
  refine wp_seq ?_
  refine wp_seq ?_
  refine wp_region_lit ?_
  refine s_one (.string ⟨l.toArray⟩) A3 S0 (g_move (by kernel_rfl)) rfl (fun ac A4 => ?_)
  refine s_one (.int .i64 (l.length : Int)) A4 S0 (g_built (r := [(0, .string ⟨l.toArray⟩)]) (by kernel_rfl) (fun ty cs w => bl_str (l := l) Try.underlying9 ty cs w)) rfl (fun ac A5 => ?_)
  refine s_one (.bool (decide ((l.length : Int) > 100000))) A5 S0 (g_bin (u := .int .i64 (l.length : Int)) (k := .int .i64 100000) (by kernel_rfl) (by kernel_rfl) (fun _ => by kernel_rfl) (fun _ => by kernel_rfl)) rfl (fun ac A6 => ?_)
  refine wpList_nil ?_
  refine n_then ?_
  refine c_f (b := (decide ((l.length : Int) > 100000))) A6 (by kernel_rfl) (decide_eq_false (by omega)) ?_
  refine wp_skip ?_
  refine n_then ?_
  refine wp_seq ?_
  refine wp_region_lit ?_
  refine s_one (.slice none 0 0) A6 S0 (g_assign (by kernel_rfl)) rfl (fun ac A7 => ?_)
  refine wpList_nil ?_
  refine n_then ?_
  refine wp_seq ?_
  refine wp_region_lit ?_
  refine s_one (.int .i64 0) A7 S0 (g_assign (by kernel_rfl)) rfl (fun ac A8 => ?_)
  refine wpList_nil ?_
  refine n_then ?_
  refine wp_seq ?_
  refine wp_block ?_
  have S9 := S0.nilRow 66 3
  refine c_loopN (fun mm ac wc => ∃ (vs : List Value) (v : Value), mm = l.length - atU l vs.length ∧ (atU l vs.length ≤ l.length) ∧ (∀ j, j < vs.length → frOk l j) ∧ Fr 46 ac [(0, .string ⟨l.toArray⟩), (2, .slice none 0 0), (3, .int .i64 0), (4, .int .i64 0), (10, .string ⟨l.toArray⟩), (11, .int .i64 (l.length : Int)), (12, .bool (decide ((l.length : Int) > 100000))), (6, .int .i64 (atU l vs.length : Int)), (5, v)] ∧ St w0 [] (⟨v, 66, 3, vs.length, (frX l vs)⟩ :: (frM 36 l vs)) wc) _ ⟨[], .slice none 0 0, rfl, Nat.zero_le _, fun j hj => absurd hj (Nat.not_lt_zero j), (A8.slot (A8.slot (A8.slot (A8.slot (A8.slot (A8.slot (A8.slot (A8.slot (A8.slot A8.nil (v := .slice none 0 0) (by kernel_rfl) (by first | rfl | simp)) (v := .int .i64 0) (by kernel_rfl) rfl) (v := .bool (decide ((l.length : Int) > 100000))) (by kernel_rfl) rfl) (v := .int .i64 (l.length : Int)) (by kernel_rfl) rfl) (v := .string ⟨l.toArray⟩) (by kernel_rfl) rfl) (v := .int .i64 0) (by kernel_rfl) rfl) (v := .int .i64 0) (by kernel_rfl) rfl) (v := .slice none 0 0) (by kernel_rfl) rfl) (v := .string ⟨l.toArray⟩) (by kernel_rfl) rfl), (St.rerow 0 S9 rfl ⟨rfl, rfl⟩).sub sub_all sub_all⟩ ?_
  rintro mm ac wc ⟨vs, v, hm12, hat, hok, A10, S11⟩
  have hfn : frN l (atU l vs.length) = 10 + 128 * (nthU l (atU l vs.length + 3) * nthU l (atU l vs.length + 3)) := rfl
  have hqn := nthU_lt l (atU l vs.length + 3)
  have hqs := sq_le (show nthU l (atU l vs.length + 3) ≤ 255 by omega)
  have hvl := frX_length l vs
  have hvb := atU_ge l vs.length
  have hsl := subU_length (l := l) (i := atU l vs.length) (n := l.length - atU l vs.length) (by omega)
  have hgl := gU_le l (atU l vs.length)
  refine wp_block ?_
  refine wp_seq ?_
  refine wp_region_lit ?_
  refine s_one (.string ⟨l.toArray⟩) A10 S11 (g_move (by kernel_rfl)) rfl (fun ac A13 => ?_)
  refine s_one (.int .i64 (atU l vs.length : Int)) A13 S11 (g_move (by kernel_rfl)) rfl (fun ac A14 => ?_)
  refine s_one (.string ⟨(subU l (atU l vs.length) (l.length - (atU l vs.length))).toArray⟩) A14 S11 (g_slice (u := .string ⟨l.toArray⟩) (lo' := (some (.int .i64 (atU l vs.length : Int)))) (hi' := none) (mx' := none) (by kernel_rfl) (by kernel_rfl) (by kernel_rfl) (by kernel_rfl) (sl_strL_n (l := l) (i := atU l vs.length) (k := (l.length - (atU l vs.length))) Try.underlying9 (by omega) (by omega) (by omega))) rfl (fun ac A15 => ?_)
  refine s_one (.string ⟨(subU l (atU l vs.length) (l.length - (atU l vs.length))).toArray⟩) A15 S11 (g_assign (by kernel_rfl)) rfl (fun ac A16 => ?_)
  refine wpList_nil ?_
  refine n_then ?_
  refine wp_seq ?_
  refine wp_seq ?_
  refine wp_region_lit ?_
  refine s_one (.string ⟨(subU l (atU l vs.length) (l.length - (atU l vs.length))).toArray⟩) A16 S11 (g_move (by kernel_rfl)) rfl (fun ac A17 => ?_)
  refine s_one (.int .i64 ((subU l (atU l vs.length) (l.length - (atU l vs.length))).length : Int)) A17 S11 (g_built (r := [(0, .string ⟨(subU l (atU l vs.length) (l.length - (atU l vs.length))).toArray⟩)]) (by kernel_rfl) (fun ty cs w => bl_str (l := subU l (atU l vs.length) (l.length - (atU l vs.length))) Try.underlying9 ty cs w)) rfl (fun ac A18 => ?_)
  refine s_one (.bool (decide (((subU l (atU l vs.length) (l.length - (atU l vs.length))).length : Int) < 8))) A18 S11 (g_bin (u := .int .i64 ((subU l (atU l vs.length) (l.length - (atU l vs.length))).length : Int)) (k := .int .i64 8) (by kernel_rfl) (by kernel_rfl) (fun _ => by kernel_rfl) (fun _ => by kernel_rfl)) rfl (fun ac A19 => ?_)
  refine wpList_nil ?_
  refine n_then ?_
  refine c_ifb (b := (decide (((subU l (atU l vs.length) (l.length - (atU l vs.length))).length : Int) < 8))) A19 (by kernel_rfl) (fun h20 => ?_) (fun h20 => ?_)
  · have p21 := of_decide_eq_true h20
    have hno : ¬ frOk l vs.length := fun h => by have := h.1; omega
    refine wp_exit ?_
    refine x_then ?_
    refine x_miss rfl ?_
    refine x_then ?_
    refine x_hit ?_
    refine n_then ?_
    refine wp_seq ?_
    refine wp_region_lit ?_
    refine s_one (v) A19 S11 (g_move (by kernel_rfl)) rfl (fun ac A22 => ?_)
    refine s_one (.int .i64 (atU l vs.length : Int)) A22 S11 (g_move (by kernel_rfl)) rfl (fun ac A23 => ?_)
    refine s_one (v) A23 S11 (g_assign (by kernel_rfl)) rfl (fun ac A24 => ?_)
    refine s_one (.int .i64 (atU l vs.length : Int)) A24 S11 (g_assign (by kernel_rfl)) rfl (fun ac A25 => ?_)
    refine s_one (.int .i64 0) A25 S11 (g_assign (by kernel_rfl)) rfl (fun ac A26 => ?_)
    refine wpList_nil ?_
    refine n_then ?_
    refine wp_ret ?_
    have ek := frK_eq hok hno
    obtain ⟨A27, cap28, rfl⟩ := row_slice (v := v) (m := vs.length) (S11.row 0 rfl)
    refine fin3 (.slice A27 vs.length cap28) (.int .i64 (atU l vs.length : Int)) (.int .i64 0) Try.results30 A26 S11 (rv_tmp (by kernel_rfl)) (rv_tmp (by kernel_rfl)) (rv_tmp (by kernel_rfl)) ⟨(vs, A27, cap28), by rw [ek], by rw [ek]; exact S11.sub sub_all sub_all⟩
  · have p29 := of_decide_eq_false h20
    have hge := gU_ge (l := l) (a := (atU l vs.length)) (by omega)
    have hgm := gU_mn (l := l) (a := (atU l vs.length)) (x := ((subU l (atU l vs.length) (l.length - (atU l vs.length))).length : Int)) (y := ((10 + 128 * ((nthU l (atU l vs.length + 3)) * (nthU l (atU l vs.length + 3))) : Nat) : Int)) (by omega) (by omega)
    refine wp_skip ?_
    refine n_then ?_
    refine wp_seq ?_
    refine wp_region_lit ?_
    refine s_one (.string ⟨(subU l (atU l vs.length) (l.length - (atU l vs.length))).toArray⟩) A19 S11 (g_move (by kernel_rfl)) rfl (fun ac A30 => ?_)
    refine s_one (.string ⟨(subU l (atU l vs.length) (l.length - (atU l vs.length))).toArray⟩) A30 S11 (g_move (by kernel_rfl)) rfl (fun ac A31 => ?_)
    refine s_one (.int .i64 ((subU l (atU l vs.length) (l.length - (atU l vs.length))).length : Int)) A31 S11 (g_built (r := [(0, .string ⟨(subU l (atU l vs.length) (l.length - (atU l vs.length))).toArray⟩)]) (by kernel_rfl) (fun ty cs w => bl_str (l := subU l (atU l vs.length) (l.length - (atU l vs.length))) Try.underlying9 ty cs w)) rfl (fun ac A32 => ?_)
    refine s_one (.string ⟨(subU l (atU l vs.length) (l.length - (atU l vs.length))).toArray⟩) A32 S11 (g_move (by kernel_rfl)) rfl (fun ac A33 => ?_)
    refine s_one (.int .u8 (nthU l (atU l vs.length + 3) : Int)) A33 S11 (g_indexv (u := .string ⟨(subU l (atU l vs.length) (l.length - (atU l vs.length))).toArray⟩) (k := .int .i64 3) (by kernel_rfl) (by kernel_rfl) (ix_sub (l := l) (b := (atU l vs.length)) (n := (l.length - (atU l vs.length))) (k := 3) (j := atU l vs.length + 3) Try.underlying9 (by omega) (by omega) (by omega) (by omega))) rfl (fun ac A34 => ?_)
    refine s_one (.int .i64 (nthU l (atU l vs.length + 3) : Int)) A34 S11 (g_conv (u := .int .u8 (nthU l (atU l vs.length + 3) : Int)) (by kernel_rfl) (conv_u8 Try.underlying5 Try.underlying3 ⟨by omega, by have h9 := nthU_lt l (atU l vs.length + 3); omega⟩)) rfl (fun ac A35 => ?_)
    refine s_call (fs := #[]) (cp := #[]) (r := [(0, .int .i64 (nthU l (atU l vs.length + 3) : Int))]) #[.int .i64 (nthU l (atU l vs.length + 3) : Int)] (.int .i64 ((10 + 128 * ((nthU l (atU l vs.length + 3)) * (nthU l (atU l vs.length + 3))) : Nat) : Int)) A35 S11 (frameSize_s (nthU l (atU l vs.length + 3)) _ (by omega)) Try.call77 (by kernel_rfl) (by kernel_rfl) (by kernel_rfl) rfl (fun ac wc A36 S37 => ?_)
    refine s_one (.int .i64 (mn ((subU l (atU l vs.length) (l.length - (atU l vs.length))).length : Int) ((10 + 128 * ((nthU l (atU l vs.length + 3)) * (nthU l (atU l vs.length + 3))) : Nat) : Int))) A36 S37 (g_built (r := [(0, .int .i64 ((subU l (atU l vs.length) (l.length - (atU l vs.length))).length : Int)), (0, .int .i64 ((10 + 128 * ((nthU l (atU l vs.length + 3)) * (nthU l (atU l vs.length + 3))) : Nat) : Int))]) (by kernel_rfl) (fun ty cs w => by show (do let x ← Builtin.min_ _ ty #[.int .i64 ((subU l (atU l vs.length) (l.length - (atU l vs.length))).length : Int), .int .i64 ((10 + 128 * ((nthU l (atU l vs.length + 3)) * (nthU l (atU l vs.length + 3))) : Nat) : Int)]; pure (Next.value x) : Sem Next).run _ w = _; rw [Sem.run_bind, run_min_mn]; rfl)) rfl (fun ac A39 => ?_)
    refine s_one (.string ⟨(subU l (atU l vs.length) (gU l (atU l vs.length))).toArray⟩) A39 S37 (g_slice (u := .string ⟨(subU l (atU l vs.length) (l.length - (atU l vs.length))).toArray⟩) (lo' := none) (hi' := (some (.int .i64 (mn ((subU l (atU l vs.length) (l.length - (atU l vs.length))).length : Int) ((10 + 128 * ((nthU l (atU l vs.length + 3)) * (nthU l (atU l vs.length + 3))) : Nat) : Int))))) (mx' := none) (by kernel_rfl) (by kernel_rfl) (by kernel_rfl) (by kernel_rfl) (sl_subH_n (l := l) (b := (atU l vs.length)) (n := (l.length - (atU l vs.length))) (h := gU l (atU l vs.length)) Try.underlying9 (by omega) (by omega) (by omega))) rfl (fun ac A40 => ?_)
    refine s_callRF (fs := #[]) (cp := #[]) (r := [(0, .string ⟨(subU l (atU l vs.length) (gU l (atU l vs.length))).toArray⟩)]) (fun v => .tuple #[.agg #[.int .i64 (pfP (subU l (atU l vs.length) (gU l (atU l vs.length)))), .int .i64 (pfE (subU l (atU l vs.length) (gU l (atU l vs.length)))), v], .int .i64 (pfZ (subU l (atU l vs.length) (gU l (atU l vs.length))))]) #[.string ⟨(subU l (atU l vs.length) (gU l (atU l vs.length))).toArray⟩] A40 S37 (ParseFrame_s (subU l (atU l vs.length) (gU l (atU l vs.length))) _ (by have h9 := subU_le2 l (atU l vs.length) (gU l (atU l vs.length)); have h8 := subU_le2 l (atU l vs.length) (frN l (atU l vs.length)); omega)) Try.call31 (by kernel_rfl) (by kernel_rfl) (by kernel_rfl) rfl (fun v44 ac wc A41 S42 => ?_)
    obtain ⟨hl45, A46, cap47, rfl, hc48, hr49⟩ := rowF_reads (v := v44) (m := (pfW (subU l (atU l vs.length) (gU l (atU l vs.length)))).length) (l := pfW (subU l (atU l vs.length) (gU l (atU l vs.length)))) (S42.row 0 rfl)
    refine s_one (.tuple #[.agg #[.int .i64 (pfP (subU l (atU l vs.length) (gU l (atU l vs.length)))), .int .i64 (pfE (subU l (atU l vs.length) (gU l (atU l vs.length)))), .slice A46 ((pfW (subU l (atU l vs.length) (gU l (atU l vs.length)))).length) cap47], .int .i64 (pfZ (subU l (atU l vs.length) (gU l (atU l vs.length))))]) A41 S42 (g_move (by kernel_rfl)) rfl (fun ac A50 => ?_)
    refine s_one (.agg #[.int .i64 (pfP (subU l (atU l vs.length) (gU l (atU l vs.length)))), .int .i64 (pfE (subU l (atU l vs.length) (gU l (atU l vs.length)))), .slice A46 ((pfW (subU l (atU l vs.length) (gU l (atU l vs.length)))).length) cap47]) A50 S42 (g_extract (u := .tuple #[.agg #[.int .i64 (pfP (subU l (atU l vs.length) (gU l (atU l vs.length)))), .int .i64 (pfE (subU l (atU l vs.length) (gU l (atU l vs.length)))), .slice A46 ((pfW (subU l (atU l vs.length) (gU l (atU l vs.length)))).length) cap47], .int .i64 (pfZ (subU l (atU l vs.length) (gU l (atU l vs.length))))]) (by kernel_rfl) (fun _ => by kernel_rfl)) rfl (fun ac A51 => ?_)
    refine s_one (.int .i64 (pfZ (subU l (atU l vs.length) (gU l (atU l vs.length))))) A51 S42 (g_extract (u := .tuple #[.agg #[.int .i64 (pfP (subU l (atU l vs.length) (gU l (atU l vs.length)))), .int .i64 (pfE (subU l (atU l vs.length) (gU l (atU l vs.length)))), .slice A46 ((pfW (subU l (atU l vs.length) (gU l (atU l vs.length)))).length) cap47], .int .i64 (pfZ (subU l (atU l vs.length) (gU l (atU l vs.length))))]) (by kernel_rfl) (fun _ => by kernel_rfl)) rfl (fun ac A52 => ?_)
    refine s_alloc (#[.int .i64 0, .int .i64 0, .slice none 0 0]) A52 S42 (by kernel_rfl) rfl (fun g55 ac wc A53 S54 => ?_)
    refine s_store (g := g55) (off := 0) (v := .agg #[.int .i64 (pfP (subU l (atU l vs.length) (gU l (atU l vs.length)))), .int .i64 (pfE (subU l (atU l vs.length) (gU l (atU l vs.length)))), .slice A46 ((pfW (subU l (atU l vs.length) (gU l (atU l vs.length)))).length) cap47]) 0 (#[.int .i64 (pfP (subU l (atU l vs.length) (gU l (atU l vs.length)))), .int .i64 (pfE (subU l (atU l vs.length) (gU l (atU l vs.length)))), .slice A46 ((pfW (subU l (atU l vs.length) (gU l (atU l vs.length)))).length) cap47]) A53 S54 (by kernel_rfl) (by kernel_rfl) rfl (by kernel_rfl) (fun wc S57 => ?_)
    refine s_one (.int .i64 (pfZ (subU l (atU l vs.length) (gU l (atU l vs.length))))) A53 S57 (g_assign (by kernel_rfl)) rfl (fun ac A59 => ?_)
    refine wpList_nil ?_
    refine n_then ?_
    refine wp_seq ?_
    refine wp_seq ?_
    refine wp_region_lit ?_
    refine s_one (.int .i64 (pfZ (subU l (atU l vs.length) (gU l (atU l vs.length))))) A59 S57 (g_move (by kernel_rfl)) rfl (fun ac A60 => ?_)
    refine s_one (.bool (decide (pfZ (subU l (atU l vs.length) (gU l (atU l vs.length))) ≠ 0))) A60 S57 (g_bin (u := .int .i64 (pfZ (subU l (atU l vs.length) (gU l (atU l vs.length))))) (k := .int .i64 0) (by kernel_rfl) (by kernel_rfl) (fun _ => by kernel_rfl) b_neq) rfl (fun ac A61 => ?_)
    refine wpList_nil ?_
    refine n_then ?_
    refine c_ifb (b := (decide (pfZ (subU l (atU l vs.length) (gU l (atU l vs.length))) ≠ 0))) A61 (by kernel_rfl) (fun h62 => ?_) (fun h62 => ?_)
    · have p63 := of_decide_eq_true h62
      have hno : ¬ frOk l vs.length := frOk_n p63
      refine wp_exit ?_
      refine x_then ?_
      refine x_miss rfl ?_
      refine x_then ?_
      refine x_hit ?_
      refine n_then ?_
      refine wp_seq ?_
      refine wp_region_lit ?_
      refine s_one (v) A61 S57 (g_move (by kernel_rfl)) rfl (fun ac A64 => ?_)
      refine s_one (.int .i64 (atU l vs.length : Int)) A64 S57 (g_move (by kernel_rfl)) rfl (fun ac A65 => ?_)
      refine s_one (v) A65 S57 (g_assign (by kernel_rfl)) rfl (fun ac A66 => ?_)
      refine s_one (.int .i64 (atU l vs.length : Int)) A66 S57 (g_assign (by kernel_rfl)) rfl (fun ac A67 => ?_)
      refine s_one (.int .i64 0) A67 S57 (g_assign (by kernel_rfl)) rfl (fun ac A68 => ?_)
      refine wpList_nil ?_
      refine n_then ?_
      refine wp_ret ?_
      have ek := frK_eq hok hno
      obtain ⟨A69, cap70, rfl⟩ := row_slice (v := v) (m := vs.length) (S57.row 1 rfl)
      refine fin3 (.slice A69 vs.length cap70) (.int .i64 (atU l vs.length : Int)) (.int .i64 0) Try.results30 A68 S57 (rv_tmp (by kernel_rfl)) (rv_tmp (by kernel_rfl)) (rv_tmp (by kernel_rfl)) ⟨(vs, A69, cap70), by rw [ek], by rw [ek]; exact S57.sub sub_nil (sub_skip sub_all)⟩
    · have p71 := of_decide_eq_false h62
      have hz : pfZ (subU l (atU l vs.length) (gU l (atU l vs.length))) = 0 := Decidable.of_not_not p71
      have hfo := frOk_y (k := vs.length) (by omega) hz
      have hgu := gU_ok (by omega) hz
      have hE : nthU (subU l (atU l vs.length) (gU l (atU l vs.length))) 3 = nthU l (atU l vs.length + 3) := subU_nth (by omega)
      have hE2 : nthU (subU l (atU l vs.length) (gU l (atU l vs.length))) 3 * nthU (subU l (atU l vs.length) (gU l (atU l vs.length))) 3 = (nthU l (atU l vs.length + 3) * nthU l (atU l vs.length + 3)) := by rw [hE]
      refine wp_skip ?_
      refine n_then ?_
      refine r_begin (w0 := w0) (by kernel_rfl) (S57.sub sub_all sub_nil) (fun wc T72 B73 => ?_)
      have S74 := S57.kept B73
      refine r_take 0 (v) A61 T72 (g_move (by kernel_rfl)) rfl rfl rfl (pf_block (pf_then (pf_block (pf_then pf_body)))) (by kernel_rfl) (fun ac A75 => ?_)
      refine r_take 1 (.agg #[.int .i64 (pfP (subU l (atU l vs.length) (gU l (atU l vs.length)))), .int .i64 (pfE (subU l (atU l vs.length) (gU l (atU l vs.length)))), .slice A46 ((pfW (subU l (atU l vs.length) (gU l (atU l vs.length)))).length) cap47]) A75 T72 (g_load (g := g55) (off := 0) 0 (by kernel_rfl) rfl (by kernel_rfl)) rfl rfl rfl (pf_block (pf_then (pf_block (pf_then pf_body)))) (by kernel_rfl) (fun ac A76 => ?_)
      refine r_take 4 (.int .i64 (atU l vs.length : Int)) A76 T72 (g_move (by kernel_rfl)) rfl rfl rfl (pf_block (pf_then (pf_block (pf_then pf_body)))) (by kernel_rfl) (fun ac A77 => ?_)
      refine r_take 5 (.pointer (some ⟨g55, 1, none⟩)) A77 T72 (g_field (u := .pointer (some ⟨g55, 0, none⟩)) (by kernel_rfl) (fun _ => by kernel_rfl)) rfl rfl rfl (pf_block (pf_then (pf_block (pf_then pf_body)))) (by kernel_rfl) (fun ac A78 => ?_)
      refine r_take 6 (.pointer (some ⟨g55, 1, none⟩)) A78 T72 (g_field (u := .pointer (some ⟨g55, 1, none⟩)) (by kernel_rfl) (fun _ => by kernel_rfl)) rfl rfl rfl (pf_block (pf_then (pf_block (pf_then pf_body)))) (by kernel_rfl) (fun ac A79 => ?_)
      refine r_take 7 (.int .i64 (pfE (subU l (atU l vs.length) (gU l (atU l vs.length))))) A79 T72 (g_load (g := g55) (off := 1) 0 (by kernel_rfl) rfl (by kernel_rfl)) rfl rfl rfl (pf_block (pf_then (pf_block (pf_then pf_body)))) (by kernel_rfl) (fun ac A80 => ?_)
      refine r_1 (i := 2) (by kernel_rfl) ?_
      refine rs_bs (e := 66) (r := [(0, .agg #[.int .i64 (pfP (subU l (atU l vs.length) (gU l (atU l vs.length)))), .int .i64 (pfE (subU l (atU l vs.length) (gU l (atU l vs.length)))), .slice A46 ((pfW (subU l (atU l vs.length) (gU l (atU l vs.length)))).length) cap47])]) (#[.int .i64 (pfP (subU l (atU l vs.length) (gU l (atU l vs.length)))), .int .i64 (pfE (subU l (atU l vs.length) (gU l (atU l vs.length)))), .slice A46 ((pfW (subU l (atU l vs.length) (gU l (atU l vs.length)))).length) cap47]) A80 S74 sub_all sub_nil (by kernel_rfl) (by kernel_rfl) rfl rfl rfl (fun g83 ac wc A81 S82 => ?_)
      have T84 := S82.sub (sub_skip sub_all) sub_nil
      refine r_1 (i := 3) (by kernel_rfl) ?_
      refine rs_append (e := 66) (size := 3) (bytes := 40) (v := v) (g := g83) (m' := 1) (c := 1) 1 0 [.int .i64 (pfP (subU l (atU l vs.length) (gU l (atU l vs.length)))), .int .i64 (pfE (subU l (atU l vs.length) (gU l (atU l vs.length)))), .slice A46 ((pfW (subU l (atU l vs.length) (gU l (atU l vs.length)))).length) cap47] A81 S82 (sub_skip sub_all) (fun _ => sub_nil) (by kernel_rfl) (by kernel_rfl) (by kernel_rfl) rfl rfl (by kernel_rfl) rfl (by kernel_rfl) (by omega) (by omega) rfl rfl rfl (fun v89 ac wc A85 S86 => ?_)
      have T88 := S86.sub (sub_skip sub_all) sub_nil
      refine r_1 (i := 8) (by kernel_rfl) ?_
      refine rs_call (fs := #[]) (cp := #[]) (r := [(0, .int .i64 (pfE (subU l (atU l vs.length) (gU l (atU l vs.length)))))]) #[.int .i64 (pfE (subU l (atU l vs.length) (gU l (atU l vs.length))))] (.int .i64 ((10 + 128 * (nthU (subU l (atU l vs.length) (gU l (atU l vs.length))) 3 * nthU (subU l (atU l vs.length) (gU l (atU l vs.length))) 3) : Nat) : Int)) A85 S86 (sub_skip sub_all) sub_nil (frameSize_e (subU l (atU l vs.length) (gU l (atU l vs.length))) _ hz) Try.call77 rfl rfl (by kernel_rfl) (by kernel_rfl) (by kernel_rfl) rfl (fun ac wc A90 S91 => ?_)
      have T93 := S91.sub (sub_skip sub_all) sub_nil
      refine r_take 9 (.int .i64 ((atU l vs.length : Int) + ((10 + 128 * (nthU (subU l (atU l vs.length) (gU l (atU l vs.length))) 3 * nthU (subU l (atU l vs.length) (gU l (atU l vs.length))) 3) : Nat) : Int))) A90 T93 (g_bin (u := .int .i64 (atU l vs.length : Int)) (k := .int .i64 ((10 + 128 * (nthU (subU l (atU l vs.length) (gU l (atU l vs.length))) 3 * nthU (subU l (atU l vs.length) (gU l (atU l vs.length))) 3) : Nat) : Int)) (by kernel_rfl) (by kernel_rfl) (fun _ => by kernel_rfl) (b_add (by omega))) rfl rfl rfl (pf_block (pf_then (pf_block (pf_then pf_body)))) (by kernel_rfl) (fun ac A94 => ?_)
      refine r_take 10 (v89) A94 T93 (g_assign (by kernel_rfl)) rfl rfl rfl (pf_block (pf_then (pf_block (pf_then pf_body)))) (by kernel_rfl) (fun ac A95 => ?_)
      refine r_take 11 (.int .i64 ((atU l vs.length : Int) + ((10 + 128 * (nthU (subU l (atU l vs.length) (gU l (atU l vs.length))) 3 * nthU (subU l (atU l vs.length) (gU l (atU l vs.length))) 3) : Nat) : Int))) A95 T93 (g_assign (by kernel_rfl)) rfl rfl rfl (pf_block (pf_then (pf_block (pf_then pf_body)))) (by kernel_rfl) (fun ac A96 => ?_)
      refine r_done (by kernel_rfl) ?_
      refine n_block ?_
      refine n_then ?_
      have q9 := St.permM S91 (List.Perm.swap _ _ _)
      rw [hgu] at q9
      have SP : St w0 [⟨g83, 66, #[.int .i64 (pfP (subU l (atU l vs.length) (frN l (atU l vs.length)))), .int .i64 (pfE (subU l (atU l vs.length) (frN l (atU l vs.length)))), .slice A46 ((pfW (subU l (atU l vs.length) (frN l (atU l vs.length)))).length) cap47], true⟩, ⟨g55, 66, #[.int .i64 (pfP (subU l (atU l vs.length) (frN l (atU l vs.length)))), .int .i64 (pfE (subU l (atU l vs.length) (frN l (atU l vs.length)))), .slice A46 ((pfW (subU l (atU l vs.length) (frN l (atU l vs.length)))).length) cap47], true⟩] (⟨v89, 66, 3, (((Value.slice A46 ((pfW (subU l (atU l vs.length) (frN l (atU l vs.length)))).length) cap47) :: vs).length), (frX l ((Value.slice A46 ((pfW (subU l (atU l vs.length) (frN l (atU l vs.length)))).length) cap47) :: vs))⟩ :: (frM 36 l ((Value.slice A46 ((pfW (subU l (atU l vs.length) (frN l (atU l vs.length)))).length) cap47) :: vs))) _ := q9
      have ha : atU l ((Value.slice A46 ((pfW (subU l (atU l vs.length) (frN l (atU l vs.length)))).length) cap47) :: vs).length = atU l vs.length + frN l (atU l vs.length) := rfl
      refine ⟨_, ⟨((Value.slice A46 ((pfW (subU l (atU l vs.length) (frN l (atU l vs.length)))).length) cap47) :: vs), v89, rfl, by have := hfo.2.1; omega, ok_snoc hok hfo, (A96.slot (A96.slot (A96.slot (A96.slot (A96.slot (A96.slot (A96.slot (A96.slot (A96.slot A96.nil (v := v89) (by kernel_rfl) rfl) (v := .int .i64 ((atU l vs.length : Int) + ((10 + 128 * (nthU (subU l (atU l vs.length) (gU l (atU l vs.length))) 3 * nthU (subU l (atU l vs.length) (gU l (atU l vs.length))) 3) : Nat) : Int))) (by kernel_rfl) (congrArg (Value.int .i64) (by rw [ha, hE]; omega))) (v := .bool (decide ((l.length : Int) > 100000))) (by kernel_rfl) rfl) (v := .int .i64 (l.length : Int)) (by kernel_rfl) rfl) (v := .string ⟨l.toArray⟩) (by kernel_rfl) rfl) (v := .int .i64 0) (by kernel_rfl) rfl) (v := .int .i64 0) (by kernel_rfl) rfl) (v := .slice none 0 0) (by kernel_rfl) rfl) (v := .string ⟨l.toArray⟩) (by kernel_rfl) rfl), (St.rerow 0 SP rfl ⟨rfl, rfl⟩).sub sub_nil sub_all⟩, ?_⟩
      omega

set_option maxRecDepth 100000 in
set_option maxHeartbeats 400000 in
theorem FramesL_s (l : List UInt8) (w0 : World) (hl : 100000 < l.length) (hl2 : l.length ≤ 1000000) :
    Calls Try.prog 30 #[.string ⟨l.toArray⟩] w0 fun e w' => e = .returned (.tuple #[.slice none 0 0, .int .i64 0, .int .i64 8]) ∧ Below w0.heap.size w0 w' := by
  have S0 := St.start w0
  refine enter (n := 46) Try.func30 rfl rfl rfl (fun ac A0 => ?_)
  refine wp_seq ?_
  refine wp_region_lit ?_
  refine s_one (.slice none 0 0) A0 S0 (g_assign (by kernel_rfl)) rfl (fun ac A1 => ?_)
  refine s_one (.int .i64 0) A1 S0 (g_assign (by kernel_rfl)) rfl (fun ac A2 => ?_)
  refine s_one (.int .i64 0) A2 S0 (g_assign (by kernel_rfl)) rfl (fun ac A3 => ?_)
  refine wpList_nil ?_
  refine n_then ?_
  refine wp_seq ?_
  refine wp_seq ?_
  refine wp_region_lit ?_
  refine s_one (.string ⟨l.toArray⟩) A3 S0 (g_move (by kernel_rfl)) rfl (fun ac A4 => ?_)
  refine s_one (.int .i64 (l.length : Int)) A4 S0 (g_built (r := [(0, .string ⟨l.toArray⟩)]) (by kernel_rfl) (fun ty cs w => bl_str (l := l) Try.underlying9 ty cs w)) rfl (fun ac A5 => ?_)
  refine s_one (.bool (decide ((l.length : Int) > 100000))) A5 S0 (g_bin (u := .int .i64 (l.length : Int)) (k := .int .i64 100000) (by kernel_rfl) (by kernel_rfl) (fun _ => by kernel_rfl) (fun _ => by kernel_rfl)) rfl (fun ac A6 => ?_)
  refine wpList_nil ?_
  refine n_then ?_
  refine c_t (b := (decide ((l.length : Int) > 100000))) A6 (by kernel_rfl) (decide_eq_true (by omega)) ?_
  refine wp_seq ?_
  refine wp_region_lit ?_
  refine s_one (.slice none 0 0) A6 S0 (g_assign (by kernel_rfl)) rfl (fun ac A7 => ?_)
  refine s_one (.int .i64 0) A7 S0 (g_assign (by kernel_rfl)) rfl (fun ac A8 => ?_)
  refine s_one (.int .i64 8) A8 S0 (g_assign (by kernel_rfl)) rfl (fun ac A9 => ?_)
  refine wpList_nil ?_
  refine n_then ?_
  refine wp_ret ?_
  refine r_then ?_
  refine fin3 (.slice none 0 0) (.int .i64 0) (.int .i64 8) Try.results30 A9 S0 (rv_tmp (by kernel_rfl)) (rv_tmp (by kernel_rfl)) (rv_tmp (by kernel_rfl)) ⟨?_, S0.kp⟩
  rfl

set_option maxRecDepth 100000 in
set_option maxHeartbeats 400000 in
theorem refFrames_s (l : List UInt8) (w0 : World) (hl : l.length ≤ 2000) :
    Calls Try.prog 34 #[.string ⟨l.toArray⟩] w0 fun e w' => ∃ u : List Value × Option Addr × Nat, e = .returned (.tuple #[.slice u.2.1 (frK l) u.2.2, .int .i64 (atU l (frK l) : Int)]) ∧ St w0 [] (⟨.slice u.2.1 (frK l) u.2.2, 66, 3, frK l, frX l u.1⟩ :: frM 36 l u.1) w' := by
  have S0 := St.start w0
  refine enter (n := 47) Try.func34 rfl rfl rfl (fun ac A0 => ?_)
  refine wp_seq ?_
  refine wp_region_lit ?_
  refine s_one (.slice none 0 0) A0 S0 (g_assign (by kernel_rfl)) rfl (fun ac A1 => ?_)
  refine s_one (.int .i64 0) A1 S0 (g_assign (by kernel_rfl)) rfl (fun ac A2 => ?_)
  refine wpList_nil ?_
  refine n_then ?_
  refine wp_seq ?_
  refine wp_region_lit ?_
  refine s_one (.slice none 0 0) A2 S0 (g_assign (by kernel_rfl)) rfl (fun ac A3 => ?_)
  refine wpList_nil ?_
  refine n_then ?_
  refine wp_seq ?_
  refine wp_region_lit ?_
  refine s_one (.int .i64 0) A3 S0 (g_assign (by kernel_rfl)) rfl (fun ac A4 => ?_)
  refine wpList_nil ?_
  refine n_then ?_
  refine wp_seq ?_
  refine wp_block ?_
  have S5 := S0.nilRow 66 3
  refine c_loopN (fun mm ac wc => ∃ (vs : List Value) (v : Value), mm = l.length - atU l vs.length ∧ (atU l vs.length ≤ l.length) ∧ (∀ j, j < vs.length → frOk l j) ∧ Fr 47 ac [(0, .string ⟨l.toArray⟩), (2, .slice none 0 0), (3, .int .i64 0), (5, .int .i64 (atU l vs.length : Int)), (4, v)] ∧ St w0 [] (⟨v, 66, 3, vs.length, (frX l vs)⟩ :: (frM 36 l vs)) wc) _ ⟨[], .slice none 0 0, rfl, Nat.zero_le _, fun j hj => absurd hj (Nat.not_lt_zero j), (A4.slot (A4.slot (A4.slot (A4.slot (A4.slot A4.nil (v := .slice none 0 0) (by kernel_rfl) (by first | rfl | simp)) (v := .int .i64 0) (by kernel_rfl) rfl) (v := .int .i64 0) (by kernel_rfl) rfl) (v := .slice none 0 0) (by kernel_rfl) rfl) (v := .string ⟨l.toArray⟩) (by kernel_rfl) rfl), (St.rerow 0 S5 rfl ⟨rfl, rfl⟩).sub sub_all sub_all⟩ ?_
  rintro mm ac wc ⟨vs, v, hm8, hat, hok, A6, S7⟩
  have hfn : frN l (atU l vs.length) = 10 + 128 * (nthU l (atU l vs.length + 3) * nthU l (atU l vs.length + 3)) := rfl
  have hqn := nthU_lt l (atU l vs.length + 3)
  have hqs := sq_le (show nthU l (atU l vs.length + 3) ≤ 255 by omega)
  have hvl := frX_length l vs
  have hvb := atU_ge l vs.length
  have hsl := subU_length (l := l) (i := atU l vs.length) (n := l.length - atU l vs.length) (by omega)
  have hgl := gU_le l (atU l vs.length)
  refine wp_seq ?_
  refine wp_seq ?_
  refine wp_region_lit ?_
  refine s_one (.string ⟨l.toArray⟩) A6 S7 (g_move (by kernel_rfl)) rfl (fun ac A9 => ?_)
  refine s_one (.int .i64 (l.length : Int)) A9 S7 (g_built (r := [(0, .string ⟨l.toArray⟩)]) (by kernel_rfl) (fun ty cs w => bl_str (l := l) Try.underlying9 ty cs w)) rfl (fun ac A10 => ?_)
  refine s_one (.int .i64 (atU l vs.length : Int)) A10 S7 (g_move (by kernel_rfl)) rfl (fun ac A11 => ?_)
  refine s_one (.int .i64 ((l.length : Int) - (atU l vs.length : Int))) A11 S7 (g_bin (u := .int .i64 (l.length : Int)) (k := .int .i64 (atU l vs.length : Int)) (by kernel_rfl) (by kernel_rfl) (fun _ => by kernel_rfl) (b_sub (by omega))) rfl (fun ac A12 => ?_)
  refine s_one (.bool (decide ((l.length : Int) - (atU l vs.length : Int) ≥ 8))) A12 S7 (g_bin (u := .int .i64 ((l.length : Int) - (atU l vs.length : Int))) (k := .int .i64 8) (by kernel_rfl) (by kernel_rfl) (fun _ => by kernel_rfl) (fun _ => by kernel_rfl)) rfl (fun ac A13 => ?_)
  refine wpList_nil ?_
  refine n_then ?_
  refine c_ifb (b := (decide ((l.length : Int) - (atU l vs.length : Int) ≥ 8))) A13 (by kernel_rfl) (fun h14 => ?_) (fun h14 => ?_)
  · have p15 := of_decide_eq_true h14
    refine wp_skip ?_
    refine n_then ?_
    refine wp_block ?_
    refine wp_seq ?_
    refine wp_region_lit ?_
    refine s_one (.string ⟨l.toArray⟩) A13 S7 (g_move (by kernel_rfl)) rfl (fun ac A16 => ?_)
    refine s_one (.int .i64 (atU l vs.length : Int)) A16 S7 (g_move (by kernel_rfl)) rfl (fun ac A17 => ?_)
    refine s_one (.int .i64 ((atU l vs.length : Int) + 3)) A17 S7 (g_bin (u := .int .i64 (atU l vs.length : Int)) (k := .int .i64 3) (by kernel_rfl) (by kernel_rfl) (fun _ => by kernel_rfl) (b_add (by omega))) rfl (fun ac A18 => ?_)
    refine s_one (.int .u8 (nthU l (atU l vs.length + 3) : Int)) A18 S7 (g_indexv (u := .string ⟨l.toArray⟩) (k := .int .i64 ((atU l vs.length : Int) + 3)) (by kernel_rfl) (by kernel_rfl) (ix_str (l := l) (atU l vs.length + 3) Try.underlying9 (by omega) (by omega))) rfl (fun ac A19 => ?_)
    refine s_one (.int .i64 (nthU l (atU l vs.length + 3) : Int)) A19 S7 (g_conv (u := .int .u8 (nthU l (atU l vs.length + 3) : Int)) (by kernel_rfl) (conv_u8 Try.underlying5 Try.underlying3 ⟨by omega, by have h9 := nthU_lt l (atU l vs.length + 3); omega⟩)) rfl (fun ac A20 => ?_)
    refine s_call (fs := #[]) (cp := #[]) (r := [(0, .int .i64 (nthU l (atU l vs.length + 3) : Int))]) #[.int .i64 (nthU l (atU l vs.length + 3) : Int)] (.int .i64 ((10 + 128 * ((nthU l (atU l vs.length + 3)) * (nthU l (atU l vs.length + 3))) : Nat) : Int)) A20 S7 (refSize_s (nthU l (atU l vs.length + 3)) _ (by omega)) Try.call50 (by kernel_rfl) (by kernel_rfl) (by kernel_rfl) rfl (fun ac wc A21 S22 => ?_)
    refine s_one (.int .i64 ((10 + 128 * ((nthU l (atU l vs.length + 3)) * (nthU l (atU l vs.length + 3))) : Nat) : Int)) A21 S22 (g_assign (by kernel_rfl)) rfl (fun ac A24 => ?_)
    refine wpList_nil ?_
    refine n_then ?_
    refine wp_seq ?_
    refine wp_seq ?_
    refine wp_region_lit ?_
    refine s_one (.string ⟨l.toArray⟩) A24 S22 (g_move (by kernel_rfl)) rfl (fun ac A25 => ?_)
    refine s_one (.int .i64 (l.length : Int)) A25 S22 (g_built (r := [(0, .string ⟨l.toArray⟩)]) (by kernel_rfl) (fun ty cs w => bl_str (l := l) Try.underlying9 ty cs w)) rfl (fun ac A26 => ?_)
    refine s_one (.int .i64 (atU l vs.length : Int)) A26 S22 (g_move (by kernel_rfl)) rfl (fun ac A27 => ?_)
    refine s_one (.int .i64 ((l.length : Int) - (atU l vs.length : Int))) A27 S22 (g_bin (u := .int .i64 (l.length : Int)) (k := .int .i64 (atU l vs.length : Int)) (by kernel_rfl) (by kernel_rfl) (fun _ => by kernel_rfl) (b_sub (by omega))) rfl (fun ac A28 => ?_)
    refine s_one (.int .i64 ((10 + 128 * ((nthU l (atU l vs.length + 3)) * (nthU l (atU l vs.length + 3))) : Nat) : Int)) A28 S22 (g_move (by kernel_rfl)) rfl (fun ac A29 => ?_)
    refine s_one (.bool (decide ((l.length : Int) - (atU l vs.length : Int) < ((10 + 128 * ((nthU l (atU l vs.length + 3)) * (nthU l (atU l vs.length + 3))) : Nat) : Int)))) A29 S22 (g_bin (u := .int .i64 ((l.length : Int) - (atU l vs.length : Int))) (k := .int .i64 ((10 + 128 * ((nthU l (atU l vs.length + 3)) * (nthU l (atU l vs.length + 3))) : Nat) : Int)) (by kernel_rfl) (by kernel_rfl) (fun _ => by kernel_rfl) (fun _ => by kernel_rfl)) rfl (fun ac A30 => ?_)
    refine wpList_nil ?_
    refine n_then ?_
    refine c_ifb (b := (decide ((l.length : Int) - (atU l vs.length : Int) < ((10 + 128 * ((nthU l (atU l vs.length + 3)) * (nthU l (atU l vs.length + 3))) : Nat) : Int)))) A30 (by kernel_rfl) (fun h31 => ?_) (fun h31 => ?_)
    · have p32 := of_decide_eq_true h31
      have hno : ¬ frOk l vs.length := fun h => by have := h.2.1; omega
      refine wp_exit ?_
      refine x_then ?_
      refine x_miss rfl ?_
      refine x_then ?_
      refine x_hit ?_
      refine n_then ?_
      refine wp_seq ?_
      refine wp_region_lit ?_
      refine s_one (v) A30 S22 (g_move (by kernel_rfl)) rfl (fun ac A33 => ?_)
      refine s_one (.int .i64 (atU l vs.length : Int)) A33 S22 (g_move (by kernel_rfl)) rfl (fun ac A34 => ?_)
      refine s_one (v) A34 S22 (g_assign (by kernel_rfl)) rfl (fun ac A35 => ?_)
      refine s_one (.int .i64 (atU l vs.length : Int)) A35 S22 (g_assign (by kernel_rfl)) rfl (fun ac A36 => ?_)
      refine wpList_nil ?_
      refine n_then ?_
      refine wp_ret ?_
      have ek := frK_eq hok hno
      obtain ⟨A37, cap38, rfl⟩ := row_slice (v := v) (m := vs.length) (S22.row 0 rfl)
      refine fin2 (.slice A37 vs.length cap38) (.int .i64 (atU l vs.length : Int)) Try.results34 A36 S22 (rv_tmp (by kernel_rfl)) (rv_tmp (by kernel_rfl)) ⟨(vs, A37, cap38), by rw [ek], by rw [ek]; exact S22.sub sub_all sub_all⟩
    · have p39 := of_decide_eq_false h31
      refine wp_skip ?_
      refine n_then ?_
      refine wp_seq ?_
      refine wp_region_lit ?_
      refine s_one (.string ⟨l.toArray⟩) A30 S22 (g_move (by kernel_rfl)) rfl (fun ac A40 => ?_)
      refine s_one (.int .i64 (atU l vs.length : Int)) A40 S22 (g_move (by kernel_rfl)) rfl (fun ac A41 => ?_)
      refine s_one (.int .i64 (atU l vs.length : Int)) A41 S22 (g_move (by kernel_rfl)) rfl (fun ac A42 => ?_)
      refine s_one (.int .i64 ((10 + 128 * ((nthU l (atU l vs.length + 3)) * (nthU l (atU l vs.length + 3))) : Nat) : Int)) A42 S22 (g_move (by kernel_rfl)) rfl (fun ac A43 => ?_)
      refine s_one (.int .i64 ((atU l vs.length : Int) + ((10 + 128 * ((nthU l (atU l vs.length + 3)) * (nthU l (atU l vs.length + 3))) : Nat) : Int))) A43 S22 (g_bin (u := .int .i64 (atU l vs.length : Int)) (k := .int .i64 ((10 + 128 * ((nthU l (atU l vs.length + 3)) * (nthU l (atU l vs.length + 3))) : Nat) : Int)) (by kernel_rfl) (by kernel_rfl) (fun _ => by kernel_rfl) (b_add (by omega))) rfl (fun ac A44 => ?_)
      refine s_one (.string ⟨(subU l (atU l vs.length) (frN l (atU l vs.length))).toArray⟩) A44 S22 (g_slice (u := .string ⟨l.toArray⟩) (lo' := (some (.int .i64 (atU l vs.length : Int)))) (hi' := (some (.int .i64 ((atU l vs.length : Int) + ((10 + 128 * ((nthU l (atU l vs.length + 3)) * (nthU l (atU l vs.length + 3))) : Nat) : Int))))) (mx' := none) (by kernel_rfl) (by kernel_rfl) (by kernel_rfl) (by kernel_rfl) (sl_str_n (l := l) (i := atU l vs.length) (h := atU l vs.length + frN l (atU l vs.length)) (k := (frN l (atU l vs.length))) Try.underlying9 (by omega) (by omega) (by omega) (by omega) (by omega))) rfl (fun ac A45 => ?_)
      refine s_callRF (fs := #[]) (cp := #[]) (r := [(0, .string ⟨(subU l (atU l vs.length) (frN l (atU l vs.length))).toArray⟩)]) (fun v => .tuple #[.agg #[.int .i64 (pfP (subU l (atU l vs.length) (frN l (atU l vs.length)))), .int .i64 (pfE (subU l (atU l vs.length) (frN l (atU l vs.length)))), v], .int .i64 (pfZ (subU l (atU l vs.length) (frN l (atU l vs.length))))]) #[.string ⟨(subU l (atU l vs.length) (frN l (atU l vs.length))).toArray⟩] A45 S22 (refParseFrame_s (subU l (atU l vs.length) (frN l (atU l vs.length))) _ (by have h9 := subU_le2 l (atU l vs.length) (gU l (atU l vs.length)); have h8 := subU_le2 l (atU l vs.length) (frN l (atU l vs.length)); omega)) Try.call32 (by kernel_rfl) (by kernel_rfl) (by kernel_rfl) rfl (fun v49 ac wc A46 S47 => ?_)
      obtain ⟨hl50, A51, cap52, rfl, hc53, hr54⟩ := rowF_reads (v := v49) (m := (pfW (subU l (atU l vs.length) (frN l (atU l vs.length)))).length) (l := pfW (subU l (atU l vs.length) (frN l (atU l vs.length)))) (S47.row 0 rfl)
      refine s_one (.tuple #[.agg #[.int .i64 (pfP (subU l (atU l vs.length) (frN l (atU l vs.length)))), .int .i64 (pfE (subU l (atU l vs.length) (frN l (atU l vs.length)))), .slice A51 ((pfW (subU l (atU l vs.length) (frN l (atU l vs.length)))).length) cap52], .int .i64 (pfZ (subU l (atU l vs.length) (frN l (atU l vs.length))))]) A46 S47 (g_move (by kernel_rfl)) rfl (fun ac A55 => ?_)
      refine s_one (.agg #[.int .i64 (pfP (subU l (atU l vs.length) (frN l (atU l vs.length)))), .int .i64 (pfE (subU l (atU l vs.length) (frN l (atU l vs.length)))), .slice A51 ((pfW (subU l (atU l vs.length) (frN l (atU l vs.length)))).length) cap52]) A55 S47 (g_extract (u := .tuple #[.agg #[.int .i64 (pfP (subU l (atU l vs.length) (frN l (atU l vs.length)))), .int .i64 (pfE (subU l (atU l vs.length) (frN l (atU l vs.length)))), .slice A51 ((pfW (subU l (atU l vs.length) (frN l (atU l vs.length)))).length) cap52], .int .i64 (pfZ (subU l (atU l vs.length) (frN l (atU l vs.length))))]) (by kernel_rfl) (fun _ => by kernel_rfl)) rfl (fun ac A56 => ?_)
      refine s_one (.int .i64 (pfZ (subU l (atU l vs.length) (frN l (atU l vs.length))))) A56 S47 (g_extract (u := .tuple #[.agg #[.int .i64 (pfP (subU l (atU l vs.length) (frN l (atU l vs.length)))), .int .i64 (pfE (subU l (atU l vs.length) (frN l (atU l vs.length)))), .slice A51 ((pfW (subU l (atU l vs.length) (frN l (atU l vs.length)))).length) cap52], .int .i64 (pfZ (subU l (atU l vs.length) (frN l (atU l vs.length))))]) (by kernel_rfl) (fun _ => by kernel_rfl)) rfl (fun ac A57 => ?_)
      refine s_alloc (#[.int .i64 0, .int .i64 0, .slice none 0 0]) A57 S47 (by kernel_rfl) rfl (fun g60 ac wc A58 S59 => ?_)
      refine s_store (g := g60) (off := 0) (v := .agg #[.int .i64 (pfP (subU l (atU l vs.length) (frN l (atU l vs.length)))), .int .i64 (pfE (subU l (atU l vs.length) (frN l (atU l vs.length)))), .slice A51 ((pfW (subU l (atU l vs.length) (frN l (atU l vs.length)))).length) cap52]) 0 (#[.int .i64 (pfP (subU l (atU l vs.length) (frN l (atU l vs.length)))), .int .i64 (pfE (subU l (atU l vs.length) (frN l (atU l vs.length)))), .slice A51 ((pfW (subU l (atU l vs.length) (frN l (atU l vs.length)))).length) cap52]) A58 S59 (by kernel_rfl) (by kernel_rfl) rfl (by kernel_rfl) (fun wc S62 => ?_)
      refine s_one (.int .i64 (pfZ (subU l (atU l vs.length) (frN l (atU l vs.length))))) A58 S62 (g_assign (by kernel_rfl)) rfl (fun ac A64 => ?_)
      refine wpList_nil ?_
      refine n_then ?_
      refine wp_seq ?_
      refine wp_seq ?_
      refine wp_region_lit ?_
      refine s_one (.int .i64 (pfZ (subU l (atU l vs.length) (frN l (atU l vs.length))))) A64 S62 (g_move (by kernel_rfl)) rfl (fun ac A65 => ?_)
      refine s_one (.bool (decide (pfZ (subU l (atU l vs.length) (frN l (atU l vs.length))) ≠ 0))) A65 S62 (g_bin (u := .int .i64 (pfZ (subU l (atU l vs.length) (frN l (atU l vs.length))))) (k := .int .i64 0) (by kernel_rfl) (by kernel_rfl) (fun _ => by kernel_rfl) b_neq) rfl (fun ac A66 => ?_)
      refine wpList_nil ?_
      refine n_then ?_
      refine c_ifb (b := (decide (pfZ (subU l (atU l vs.length) (frN l (atU l vs.length))) ≠ 0))) A66 (by kernel_rfl) (fun h67 => ?_) (fun h67 => ?_)
      · have p68 := of_decide_eq_true h67
        have hno : ¬ frOk l vs.length := fun h => p68 h.2.2
        refine wp_exit ?_
        refine x_then ?_
        refine x_miss rfl ?_
        refine x_then ?_
        refine x_hit ?_
        refine n_then ?_
        refine wp_seq ?_
        refine wp_region_lit ?_
        refine s_one (v) A66 S62 (g_move (by kernel_rfl)) rfl (fun ac A69 => ?_)
        refine s_one (.int .i64 (atU l vs.length : Int)) A69 S62 (g_move (by kernel_rfl)) rfl (fun ac A70 => ?_)
        refine s_one (v) A70 S62 (g_assign (by kernel_rfl)) rfl (fun ac A71 => ?_)
        refine s_one (.int .i64 (atU l vs.length : Int)) A71 S62 (g_assign (by kernel_rfl)) rfl (fun ac A72 => ?_)
        refine wpList_nil ?_
        refine n_then ?_
        refine wp_ret ?_
        have ek := frK_eq hok hno
        obtain ⟨A73, cap74, rfl⟩ := row_slice (v := v) (m := vs.length) (S62.row 1 rfl)
        refine fin2 (.slice A73 vs.length cap74) (.int .i64 (atU l vs.length : Int)) Try.results34 A72 S62 (rv_tmp (by kernel_rfl)) (rv_tmp (by kernel_rfl)) ⟨(vs, A73, cap74), by rw [ek], by rw [ek]; exact S62.sub sub_nil (sub_skip sub_all)⟩
      · have p75 := of_decide_eq_false h67
        have hz : pfZ (subU l (atU l vs.length) (frN l (atU l vs.length))) = 0 := Decidable.of_not_not p75
        have hfo : frOk l vs.length := ⟨by omega, by omega, hz⟩
        refine wp_skip ?_
        refine n_then ?_
        refine wp_region_lit ?_
        refine s_one (v) A66 S62 (g_move (by kernel_rfl)) rfl (fun ac A76 => ?_)
        refine s_one (.agg #[.int .i64 (pfP (subU l (atU l vs.length) (frN l (atU l vs.length)))), .int .i64 (pfE (subU l (atU l vs.length) (frN l (atU l vs.length)))), .slice A51 ((pfW (subU l (atU l vs.length) (frN l (atU l vs.length)))).length) cap52]) A76 S62 (g_load (g := g60) (off := 0) 0 (by kernel_rfl) rfl (by kernel_rfl)) rfl (fun ac A77 => ?_)
        refine s_bs (e := 66) (r := [(0, .agg #[.int .i64 (pfP (subU l (atU l vs.length) (frN l (atU l vs.length)))), .int .i64 (pfE (subU l (atU l vs.length) (frN l (atU l vs.length)))), .slice A51 ((pfW (subU l (atU l vs.length) (frN l (atU l vs.length)))).length) cap52])]) (#[.int .i64 (pfP (subU l (atU l vs.length) (frN l (atU l vs.length)))), .int .i64 (pfE (subU l (atU l vs.length) (frN l (atU l vs.length)))), .slice A51 ((pfW (subU l (atU l vs.length) (frN l (atU l vs.length)))).length) cap52]) A77 S62 (by kernel_rfl) (by kernel_rfl) rfl (fun g80 ac wc A78 S79 => ?_)
        refine s_append (e := 66) (size := 3) (bytes := 40) (v := v) (g := g80) (m' := 1) (c := 1) 1 0 [.int .i64 (pfP (subU l (atU l vs.length) (frN l (atU l vs.length)))), .int .i64 (pfE (subU l (atU l vs.length) (frN l (atU l vs.length)))), .slice A51 ((pfW (subU l (atU l vs.length) (frN l (atU l vs.length)))).length) cap52] A78 S79 (by kernel_rfl) (by kernel_rfl) (by kernel_rfl) rfl rfl (by kernel_rfl) rfl (by kernel_rfl) (by omega) (by omega) rfl (fun v84 ac wc A81 S82 => ?_)
        refine s_one (.int .i64 (atU l vs.length : Int)) A81 S82 (g_move (by kernel_rfl)) rfl (fun ac A85 => ?_)
        refine s_one (.int .i64 ((10 + 128 * ((nthU l (atU l vs.length + 3)) * (nthU l (atU l vs.length + 3))) : Nat) : Int)) A85 S82 (g_move (by kernel_rfl)) rfl (fun ac A86 => ?_)
        refine s_one (.int .i64 ((atU l vs.length : Int) + ((10 + 128 * ((nthU l (atU l vs.length + 3)) * (nthU l (atU l vs.length + 3))) : Nat) : Int))) A86 S82 (g_bin (u := .int .i64 (atU l vs.length : Int)) (k := .int .i64 ((10 + 128 * ((nthU l (atU l vs.length + 3)) * (nthU l (atU l vs.length + 3))) : Nat) : Int)) (by kernel_rfl) (by kernel_rfl) (fun _ => by kernel_rfl) (b_add (by omega))) rfl (fun ac A87 => ?_)
        refine s_one (v84) A87 S82 (g_assign (by kernel_rfl)) rfl (fun ac A88 => ?_)
        refine s_one (.int .i64 ((atU l vs.length : Int) + ((10 + 128 * ((nthU l (atU l vs.length + 3)) * (nthU l (atU l vs.length + 3))) : Nat) : Int))) A88 S82 (g_assign (by kernel_rfl)) rfl (fun ac A89 => ?_)
        refine wpList_nil ?_
        refine n_block ?_
        refine n_then ?_
        have q9 := St.permM S82 (List.Perm.swap _ _ _)
        have SP : St w0 [⟨g80, 66, #[.int .i64 (pfP (subU l (atU l vs.length) (frN l (atU l vs.length)))), .int .i64 (pfE (subU l (atU l vs.length) (frN l (atU l vs.length)))), .slice A51 ((pfW (subU l (atU l vs.length) (frN l (atU l vs.length)))).length) cap52], true⟩, ⟨g60, 66, #[.int .i64 (pfP (subU l (atU l vs.length) (frN l (atU l vs.length)))), .int .i64 (pfE (subU l (atU l vs.length) (frN l (atU l vs.length)))), .slice A51 ((pfW (subU l (atU l vs.length) (frN l (atU l vs.length)))).length) cap52], true⟩] (⟨v84, 66, 3, (((Value.slice A51 ((pfW (subU l (atU l vs.length) (frN l (atU l vs.length)))).length) cap52) :: vs).length), (frX l ((Value.slice A51 ((pfW (subU l (atU l vs.length) (frN l (atU l vs.length)))).length) cap52) :: vs))⟩ :: (frM 36 l ((Value.slice A51 ((pfW (subU l (atU l vs.length) (frN l (atU l vs.length)))).length) cap52) :: vs))) _ := q9
        have ha : atU l ((Value.slice A51 ((pfW (subU l (atU l vs.length) (frN l (atU l vs.length)))).length) cap52) :: vs).length = atU l vs.length + frN l (atU l vs.length) := rfl
        refine ⟨_, ⟨((Value.slice A51 ((pfW (subU l (atU l vs.length) (frN l (atU l vs.length)))).length) cap52) :: vs), v84, rfl, by have := hfo.2.1; omega, ok_snoc hok hfo, (A89.slot (A89.slot (A89.slot (A89.slot (A89.slot A89.nil (v := v84) (by kernel_rfl) rfl) (v := .int .i64 ((atU l vs.length : Int) + ((10 + 128 * ((nthU l (atU l vs.length + 3)) * (nthU l (atU l vs.length + 3))) : Nat) : Int))) (by kernel_rfl) (congrArg (Value.int .i64) (by rw [ha]; omega))) (v := .int .i64 0) (by kernel_rfl) rfl) (v := .slice none 0 0) (by kernel_rfl) rfl) (v := .string ⟨l.toArray⟩) (by kernel_rfl) rfl), (St.rerow 0 SP rfl ⟨rfl, rfl⟩).sub sub_nil sub_all⟩, ?_⟩
        omega
  · have p90 := of_decide_eq_false h14
    have hno : ¬ frOk l vs.length := fun h => by have := h.1; omega
    refine wp_exit ?_
    refine x_then ?_
    refine x_then ?_
    refine x_hit ?_
    refine n_then ?_
    refine wp_seq ?_
    refine wp_region_lit ?_
    refine s_one (v) A13 S7 (g_move (by kernel_rfl)) rfl (fun ac A91 => ?_)
    refine s_one (.int .i64 (atU l vs.length : Int)) A91 S7 (g_move (by kernel_rfl)) rfl (fun ac A92 => ?_)
    refine s_one (v) A92 S7 (g_assign (by kernel_rfl)) rfl (fun ac A93 => ?_)
    refine s_one (.int .i64 (atU l vs.length : Int)) A93 S7 (g_assign (by kernel_rfl)) rfl (fun ac A94 => ?_)
    refine wpList_nil ?_
    refine n_then ?_
    refine wp_ret ?_
    have ek := frK_eq hok hno
    obtain ⟨A95, cap96, rfl⟩ := row_slice (v := v) (m := vs.length) (S7.row 0 rfl)
    refine fin2 (.slice A95 vs.length cap96) (.int .i64 (atU l vs.length : Int)) Try.results34 A94 S7 (rv_tmp (by kernel_rfl)) (rv_tmp (by kernel_rfl)) ⟨(vs, A95, cap96), by rw [ek], by rw [ek]; exact S7.sub sub_all sub_all⟩

end Go.Proofs.Ytcijkniijomcjaa
