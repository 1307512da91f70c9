/- Texts of the proof of TraceFrames, put together (part 10): Fr1, FramesLaw, Open. -/
import Derived.Test.YtcijkniijomcjaaSg9
import Derived.Below
import Derived.ChangeOld
import Derived.Deep.Slices
import Derived.OpenShut
import Derived.ProofKit
import Derived.ShutString
import Derived.Test.YtcijkniijomcjaaRows
/- Frames one behind the other. -/
namespace Go.Proofs.Ytcijkniijomcjaa
open Go.RowKit Go.Cpl

theorem pfW_le (l : Bs) : (pfW l).length ≤ l.length := by
  unfold pfW
  by_cases h : pfZ l = 0
  · have e := pfZ_len h
    rw [if_pos h, fw_length, pfL_length]; omega
  · rw [if_neg h]; exact Nat.zero_le _
theorem subU_le2 (l : Bs) (i n : Nat) : (subU l i n).length ≤ l.length := by
  simp only [subU, List.length_take, List.length_drop]; omega
theorem atU_ge (l : Bs) (k : Nat) : k * 10 ≤ atU l k := by
  induction k with
  | zero => exact Nat.zero_le _
  | succ k ih =>
    have := frN_ge l (atU l k)
    show (k + 1) * 10 ≤ atU l k + frN l (atU l k)
    omega
theorem pfE_nth {l : Bs} (h : pfZ l = 0) : pfE l = (nthU l 3 : Int) := (pf_ok h).2.1
theorem frameSize_e (l : Bs) (w : World) (h : pfZ l = 0) : Calls Try.prog 77 #[.int .i64 (pfE l)] w fun e w' => e = .returned (.int .i64 ((10 + 128 * (nthU l 3 * nthU l 3) : Nat) : Int)) ∧ Below w.heap.size w w' := by
  rw [pfE_nth h]
  exact frameSize_s (nthU l 3) w (by have := nthU_lt l 3; omega)

set_option maxRecDepth 100000 in
set_option maxHeartbeats 400000 in
theorem sameFrame_s (p el : Int) (C D : Option Addr) (c d n : Nat) (xs : List Nat) (w0 : World) (hn : xs.length = n) (hm : n ≤ 100000) (hC : FReads w0 C xs) (hD : FReads w0 D xs) :
    Calls Try.prog 33 #[.agg #[.int .i64 p, .int .i64 el, .slice C n c], .agg #[.int .i64 p, .int .i64 el, .slice D n d]] w0 fun e w' => e = .returned (.bool true) ∧ Below w0.heap.size w0 w' := by
  have S0 := St.start w0
  refine enter (n := 17) Try.func33 rfl rfl rfl (fun ac A0 => ?_)
  refine wp_seq ?_
  refine wp_region_lit ?_
  refine s_box (.agg #[.int .i64 p, .int .i64 el, .slice C n c]) A0 S0 (by kernel_rfl) rfl (fun g3 ac wc A1 S2 => ?_)
  replace S2 : St _ (⟨g3, 66, #[.int .i64 p, .int .i64 el, .slice C n c], true⟩ :: _) _ _ := S2
  refine s_box (.agg #[.int .i64 p, .int .i64 el, .slice D n d]) A1 S2 (by kernel_rfl) rfl (fun g7 ac wc A5 S6 => ?_)
  replace S6 : St _ (⟨g7, 66, #[.int .i64 p, .int .i64 el, .slice D n d], true⟩ :: _) _ _ := S6
  refine s_one (.bool false) A5 S6 (g_assign (by kernel_rfl)) rfl (fun ac A9 => ?_)
  refine wpList_nil ?_
  refine n_then ?_
  refine wp_seq ?_
  refine wp_region_lit ?_
  refine s_one (.pointer (some ⟨g3, 0, none⟩)) A9 S6 (g_field (u := .pointer (some ⟨g3, 0, none⟩)) (by kernel_rfl) (fun _ => by kernel_rfl)) rfl (fun ac A10 => ?_)
  refine s_one (.int .i64 p) A10 S6 (g_load (g := g3) (off := 0) 1 (by kernel_rfl) rfl (by kernel_rfl)) rfl (fun ac A11 => ?_)
  refine s_one (.pointer (some ⟨g7, 0, none⟩)) A11 S6 (g_field (u := .pointer (some ⟨g7, 0, none⟩)) (by kernel_rfl) (fun _ => by kernel_rfl)) rfl (fun ac A12 => ?_)
  refine s_one (.int .i64 p) A12 S6 (g_load (g := g7) (off := 0) 0 (by kernel_rfl) rfl (by kernel_rfl)) rfl (fun ac A13 => ?_)
  refine s_one (.bool (decide (p = p))) A13 S6 (g_bin (u := .int .i64 p) (k := .int .i64 p) (by kernel_rfl) (by kernel_rfl) (fun _ => by kernel_rfl) b_eql) rfl (fun ac A14 => ?_)
  refine s_one (.bool (decide (p = p))) A14 S6 (g_move (by kernel_rfl)) rfl (fun ac A15 => ?_)
  refine s_want (dj := 10) (b := (decide (p = p))) A15 (by kernel_rfl) (by kernel_rfl) (decide_eq_true rfl) ?_
  refine s_one (.pointer (some ⟨g3, 1, none⟩)) A15 S6 (g_field (u := .pointer (some ⟨g3, 0, none⟩)) (by kernel_rfl) (fun _ => by kernel_rfl)) rfl (fun ac A16 => ?_)
  refine s_want (dj := 10) (b := (decide (p = p))) A16 (by kernel_rfl) (by kernel_rfl) (decide_eq_true rfl) ?_
  refine s_one (.agg #[.int .i64 el, .slice C n c]) A16 S6 (g_load (g := g3) (off := 1) 1 (by kernel_rfl) rfl (by kernel_rfl)) rfl (fun ac A17 => ?_)
  refine s_want (dj := 10) (b := (decide (p = p))) A17 (by kernel_rfl) (by kernel_rfl) (decide_eq_true rfl) ?_
  refine s_one (.pointer (some ⟨g7, 1, none⟩)) A17 S6 (g_field (u := .pointer (some ⟨g7, 0, none⟩)) (by kernel_rfl) (fun _ => by kernel_rfl)) rfl (fun ac A18 => ?_)
  refine s_want (dj := 10) (b := (decide (p = p))) A18 (by kernel_rfl) (by kernel_rfl) (decide_eq_true rfl) ?_
  refine s_one (.agg #[.int .i64 el, .slice D n d]) A18 S6 (g_load (g := g7) (off := 1) 0 (by kernel_rfl) rfl (by kernel_rfl)) rfl (fun ac A19 => ?_)
  refine s_want (dj := 10) (b := (decide (p = p))) A19 (by kernel_rfl) (by kernel_rfl) (decide_eq_true rfl) ?_
  refine s_call (fs := #[]) (cp := #[]) (r := [(0, .agg #[.int .i64 el, .slice C n c]), (0, .agg #[.int .i64 el, .slice D n d])]) #[.agg #[.int .i64 el, .slice C n c], .agg #[.int .i64 el, .slice D n d]] (.bool true) A19 S6 (SameMatrix_eq el el rfl xs xs rfl C D c d n n _ hn hn (by omega) (hC.kept S6.kp) (hD.kept S6.kp)) Try.call52 (by kernel_rfl) (by kernel_rfl) (by kernel_rfl) rfl (fun ac wc A20 S21 => ?_)
  refine s_one (.bool true) A20 S21 (g_pick_t (b := (decide (p = p))) (by kernel_rfl) (decide_eq_true rfl) (by kernel_rfl)) rfl (fun ac A23 => ?_)
  refine s_one (.bool true) A23 S21 (g_assign (by kernel_rfl)) rfl (fun ac A24 => ?_)
  refine wpList_nil ?_
  refine n_then ?_
  refine wp_ret ?_
  refine fin1 (.bool true) Try.results33 A24 S21 (rv_tmp (by kernel_rfl)) ⟨?_, S21.kp⟩
  rfl

set_option maxRecDepth 100000 in
set_option maxHeartbeats 400000 in
theorem Frames_s (l : List UInt8) (w0 : World) (hl : l.length ≤ 100000) :
    Calls Try.prog 30 #[.string ⟨l.toArray⟩] w0 fun e w' => ∃ u : List Value × Option Addr × Nat, e = .returned (.tuple #[.slice u.2.1 (frK l) u.2.2, .int .i64 (atU l (frK l) : Int), .int .i64 0]) ∧ St w0 [] (⟨.slice u.2.1 (frK l) u.2.2, 66, 3, frK l, frX l u.1⟩ :: frM 36 l u.1) w' := by
  have S0 := St.start w0
  refine enter (n := 46) Try.func30 rfl rfl rfl (fun ac A0 => ?_)
  refine wp_seq ?_
  refine wp_region_lit ?_
  refine s_one (.slice none 0 0) A0 S0 (g_assign (by kernel_rfl)) rfl (fun ac A1 => ?_)
  refine s_one (.int .i64 0) A1 S0 (g_assign (by kernel_rfl)) rfl (fun ac A2 => ?_)
  refine s_one (.int .i64 0) A2 S0 (g_assign (by kernel_rfl)) rfl (fun ac A3 => ?_)
  refine wpList_nil ?_
  refine n_then ?_
  refine wp_seq ?_
  refine wp_seq ?_
  refine wp_region_lit ?_
  refine s_one (.string ⟨l.toArray⟩) A3 S0 (g_move (by kernel_rfl)) rfl (fun ac A4 => ?_)
  refine s_one (.int .i64 (l.length : Int)) A4 S0 (g_built (r := [(0, .string ⟨l.toArray⟩)]) (by kernel_rfl) (fun ty cs w => bl_str (l := l) Try.underlying9 ty cs w)) rfl (fun ac A5 => ?_)
  refine s_one (.bool (decide ((l.length : Int) > 100000))) A5 S0 (g_bin (u := .int .i64 (l.length : Int)) (k := .int .i64 100000) (by kernel_rfl) (by kernel_rfl) (fun _ => by kernel_rfl) (fun _ => by kernel_rfl)) rfl (fun ac A6 => ?_)
  refine wpList_nil ?_
  refine n_then ?_
  refine c_f (b := (decide ((l.length : Int) > 100000))) A6 (by kernel_rfl) (decide_eq_false (by omega)) ?_
  refine wp_skip ?_
  refine n_then ?_
  refine wp_seq ?_
  refine wp_region_lit ?_
  refine s_one (.slice none 0 0) A6 S0 (g_assign (by kernel_rfl)) rfl (fun ac A7 => ?_)
  refine wpList_nil ?_
  refine n_then ?_
  refine wp_seq ?_
  refine wp_region_lit ?_
  refine s_one (.int .i64 0) A7 S0 (g_assign (by kernel_rfl)) rfl (fun ac A8 => ?_)
  refine wpList_nil ?_
  refine n_then ?_
  refine wp_seq ?_
  refine wp_block ?_
  have S9 := S0.nilRow 66 3
  refine c_loopN (fun mm ac wc => ∃ (vs : List Value) (v : Value), mm = l.length - atU l vs.length ∧ (atU l vs.length ≤ l.length) ∧ (∀ j, j < vs.length → frOk l j) ∧ Fr 46 ac [(0, .string ⟨l.toArray⟩), (2, .slice none 0 0), (3, .int .i64 0), (4, .int .i64 0), (10, .string ⟨l.toArray⟩), (11, .int .i64 (l.length : Int)), (12, .bool (decide ((l.length : Int) > 100000))), (6, .int .i64 (atU l vs.length : Int)), (5, v)] ∧ St w0 [] (⟨v, 66, 3, vs.length, (frX l vs)⟩ :: (frM 36 l vs)) wc) _ ⟨[], .slice none 0 0, rfl, Nat.zero_le _, fun j hj => absurd hj (Nat.not_lt_zero j), (A8.slot (A8.slot (A8.slot (A8.slot (A8.slot (A8.slot (A8.slot (A8.slot (A8.slot A8.nil (v := .slice none 0 0) (by kernel_rfl) (by first | rfl | simp)) (v := .int .i64 0) (by kernel_rfl) rfl) (v := .bool (decide ((l.length : Int) > 100000))) (by kernel_rfl) rfl) (v := .int .i64 (l.length : Int)) (by kernel_rfl) rfl) (v := .string ⟨l.toArray⟩) (by kernel_rfl) rfl) (v := .int .i64 0) (by kernel_rfl) rfl) (v := .int .i64 0) (by kernel_rfl) rfl) (v := .slice none 0 0) (by kernel_rfl) rfl) (v := .string ⟨l.toArray⟩) (by kernel_rfl) rfl), (St.rerow 0 S9 rfl ⟨rfl, rfl⟩).sub sub_all sub_all⟩ ?_
  rintro mm ac wc ⟨vs, v, hm12, hat, hok, A10, S11⟩
  have hfn : frN l (atU l vs.length) = 10 + 128 * (nthU l (atU l vs.length + 3) * nthU l (atU l vs.length + 3)) := rfl
  have hqn := nthU_lt l (atU l vs.length + 3)
  have hqs := sq_le (show nthU l (atU l vs.length + 3) ≤ 255 by omega)
  have hvl := frX_length l vs
  have hvb := atU_ge l vs.length
  have hsl := subU_length (l := l) (i := atU l vs.length) (n := l.length - atU l vs.length) (by omega)
  have hgl := gU_le l (atU l vs.length)
  refine wp_block ?_
  refine wp_seq ?_
  refine wp_region_lit ?_
  refine s_one (.string ⟨l.toArray⟩) A10 S11 (g_move (by kernel_rfl)) rfl (fun ac A13 => ?_)
  refine s_one (.int .i64 (atU l vs.length : Int)) A13 S11 (g_move (by kernel_rfl)) rfl (fun ac A14 => ?_)
  refine s_one (.string ⟨(subU l (atU l vs.length) (l.length - (atU l vs.length))).toArray⟩) A14 S11 (g_slice (u := .string ⟨l.toArray⟩) (lo' := (some (.int .i64 (atU l vs.length : Int)))) (hi' := none) (mx' := none) (by kernel_rfl) (by kernel_rfl) (by kernel_rfl) (by kernel_rfl) (sl_strL_n (l := l) (i := atU l vs.length) (k := (l.length - (atU l vs.length))) Try.underlying9 (by omega) (by omega) (by omega))) rfl (fun ac A15 => ?_)
  refine s_one (.string ⟨(subU l (atU l vs.length) (l.length - (atU l vs.length))).toArray⟩) A15 S11 (g_assign (by kernel_rfl)) rfl (fun ac A16 => ?_)
  refine wpList_nil ?_
  refine n_then ?_
  refine wp_seq ?_
  refine wp_seq ?_
  refine wp_region_lit ?_
  refine s_one (.string ⟨(subU l (atU l vs.length) (l.length - (atU l vs.length))).toArray⟩) A16 S11 (g_move (by kernel_rfl)) rfl (fun ac A17 => ?_)
  refine s_one (.int .i64 ((subU l (atU l vs.length) (l.length - (atU l vs.length))).length : Int)) A17 S11 (g_built (r := [(0, .string ⟨(subU l (atU l vs.length) (l.length - (atU l vs.length))).toArray⟩)]) (by kernel_rfl) (fun ty cs w => bl_str (l := subU l (atU l vs.length) (l.length - (atU l vs.length))) Try.underlying9 ty cs w)) rfl (fun ac A18 => ?_)
  refine s_one (.bool (decide (((subU l (atU l vs.length) (l.length - (atU l vs.length))).length : Int) < 8))) A18 S11 (g_bin (u := .int .i64 ((subU l (atU l vs.length) (l.length - (atU l vs.length))).length : Int)) (k := .int .i64 8) (by kernel_rfl) (by kernel_rfl) (fun _ => by kernel_rfl) (fun _ => by kernel_rfl)) rfl (fun ac A19 => ?_)
  refine wpList_nil ?_
  refine n_then ?_
  refine c_ifb (b := (decide (((subU l (atU l vs.length) (l.length - (atU l vs.length))).length : Int) < 8))) A19 (by kernel_rfl) (fun h20 => ?_) (fun h20 => ?_)
  · have p21 := of_decide_eq_true h20
    have hno : ¬ frOk l vs.length := fun h => by have := h.1; omega
    refine wp_exit ?_
    refine x_then ?_
    refine x_miss rfl ?_
    refine x_then ?_
    refine x_hit ?_
    refine n_then ?_
    refine wp_seq ?_
    refine wp_region_lit ?_
    refine s_one (v) A19 S11 (g_move (by kernel_rfl)) rfl (fun ac A22 => ?_)
    refine s_one (.int .i64 (atU l vs.length : Int)) A22 S11 (g_move (by kernel_rfl)) rfl (fun ac A23 => ?_)
    refine s_one (v) A23 S11 (g_assign (by kernel_rfl)) rfl (fun ac A24 => ?_)
    refine s_one (.int .i64 (atU l vs.length : Int)) A24 S11 (g_assign (by kernel_rfl)) rfl (fun ac A25 => ?_)
    refine s_one (.int .i64 0) A25 S11 (g_assign (by kernel_rfl)) rfl (fun ac A26 => ?_)
    refine wpList_nil ?_
    refine n_then ?_
    refine wp_ret ?_
    have ek := frK_eq hok hno
    obtain ⟨A27, cap28, rfl⟩ := row_slice (v := v) (m := vs.length) (S11.row 0 rfl)
    refine fin3 (.slice A27 vs.length cap28) (.int .i64 (atU l vs.length : Int)) (.int .i64 0) Try.results30 A26 S11 (rv_tmp (by kernel_rfl)) (rv_tmp (by kernel_rfl)) (rv_tmp (by kernel_rfl)) ⟨(vs, A27, cap28), by rw [ek], by rw [ek]; exact S11.sub sub_all sub_all⟩
  · have p29 := of_decide_eq_false h20
    have hge := gU_ge (l := l) (a := (atU l vs.length)) (by omega)
    have hgm := gU_mn (l := l) (a := (atU l vs.length)) (x := ((subU l (atU l vs.length) (l.length - (atU l vs.length))).length : Int)) (y := ((10 + 128 * ((nthU l (atU l vs.length + 3)) * (nthU l (atU l vs.length + 3))) : Nat) : Int)) (by omega) (by omega)
    refine wp_skip ?_
    refine n_then ?_
    refine wp_seq ?_
    refine wp_region_lit ?_
    refine s_one (.string ⟨(subU l (atU l vs.length) (l.length - (atU l vs.length))).toArray⟩) A19 S11 (g_move (by kernel_rfl)) rfl (fun ac A30 => ?_)
    refine s_one (.string ⟨(subU l (atU l vs.length) (l.length - (atU l vs.length))).toArray⟩) A30 S11 (g_move (by kernel_rfl)) rfl (fun ac A31 => ?_)
    refine s_one (.int .i64 ((subU l (atU l vs.length) (l.length - (atU l vs.length))).length : Int)) A31 S11 (g_built (r := [(0, .string ⟨(subU l (atU l vs.length) (l.length - (atU l vs.length))).toArray⟩)]) (by kernel_rfl) (fun ty cs w => bl_str (l := subU l (atU l vs.length) (l.length - (atU l vs.length))) Try.underlying9 ty cs w)) rfl (fun ac A32 => ?_)
    refine s_one (.string ⟨(subU l (atU l vs.length) (l.length - (atU l vs.length))).toArray⟩) A32 S11 (g_move (by kernel_rfl)) rfl (fun ac A33 => ?_)
    refine s_one (.int .u8 (nthU l (atU l vs.length + 3) : Int)) A33 S11 (g_indexv (u := .string ⟨(subU l (atU l vs.length) (l.length - (atU l vs.length))).toArray⟩) (k := .int .i64 3) (by kernel_rfl) (by kernel_rfl) (ix_sub (l := l) (b := (atU l vs.length)) (n := (l.length - (atU l vs.length))) (k := 3) (j := atU l vs.length + 3) Try.underlying9 (by omega) (by omega) (by omega) (by omega))) rfl (fun ac A34 => ?_)
    refine s_one (.int .i64 (nthU l (atU l vs.length + 3) : Int)) A34 S11 (g_conv (u := .int .u8 (nthU l (atU l vs.length + 3) : Int)) (by kernel_rfl) (conv_u8 Try.underlying5 Try.underlying3 ⟨by omega, by have h9 := nthU_lt l (atU l vs.length + 3); omega⟩)) rfl (fun ac A35 => ?_)
    refine s_call (fs := #[]) (cp := #[]) (r := [(0, .int .i64 (nthU l (atU l vs.length + 3) : Int))]) #[.int .i64 (nthU l (atU l vs.length + 3) : Int)] (.int .i64 ((10 + 128 * ((nthU l (atU l vs.length + 3)) * (nthU l (atU l vs.length + 3))) : Nat) : Int)) A35 S11 (frameSize_s (nthU l (atU l vs.length + 3)) _ (by omega)) Try.call77 (by kernel_rfl) (by kernel_rfl) (by kernel_rfl) rfl (fun ac wc A36 S37 => ?_)
    refine s_one (.int .i64 (mn ((subU l (atU l vs.length) (l.length - (atU l vs.length))).length : Int) ((10 + 128 * ((nthU l (atU l vs.length + 3)) * (nthU l (atU l vs.length + 3))) : Nat) : Int))) A36 S37 (g_built (r := [(0, .int .i64 ((subU l (atU l vs.length) (l.length - (atU l vs.length))).length : Int)), (0, .int .i64 ((10 + 128 * ((nthU l (atU l vs.length + 3)) * (nthU l (atU l vs.length + 3))) : Nat) : Int))]) (by kernel_rfl) (fun ty cs w => by show (do let x ← Builtin.min_ _ ty #[.int .i64 ((subU l (atU l vs.length) (l.length - (atU l vs.length))).length : Int), .int .i64 ((10 + 128 * ((nthU l (atU l vs.length + 3)) * (nthU l (atU l vs.length + 3))) : Nat) : Int)]; pure (Next.value x) : Sem Next).run _ w = _; rw [Sem.run_bind, run_min_mn]; rfl)) rfl (fun ac A39 => ?_)
    refine s_one (.string ⟨(subU l (atU l vs.length) (gU l (atU l vs.length))).toArray⟩) A39 S37 (g_slice (u := .string ⟨(subU l (atU l vs.length) (l.length - (atU l vs.length))).toArray⟩) (lo' := none) (hi' := (some (.int .i64 (mn ((subU l (atU l vs.length) (l.length - (atU l vs.length))).length : Int) ((10 + 128 * ((nthU l (atU l vs.length + 3)) * (nthU l (atU l vs.length + 3))) : Nat) : Int))))) (mx' := none) (by kernel_rfl) (by kernel_rfl) (by kernel_rfl) (by kernel_rfl) (sl_subH_n (l := l) (b := (atU l vs.length)) (n := (l.length - (atU l vs.length))) (h := gU l (atU l vs.length)) Try.underlying9 (by omega) (by omega) (by omega))) rfl (fun ac A40 => ?_)
    refine s_callRF (fs := #[]) (cp := #[]) (r := [(0, .string ⟨(subU l (atU l vs.length) (gU l (atU l vs.length))).toArray⟩)]) (fun v => .tuple #[.agg #[.int .i64 (pfP (subU l (atU l vs.length) (gU l (atU l vs.length)))), .int .i64 (pfE (subU l (atU l vs.length) (gU l (atU l vs.length)))), v], .int .i64 (pfZ (subU l (atU l vs.length) (gU l (atU l vs.length))))]) #[.string ⟨(subU l (atU l vs.length) (gU l (atU l vs.length))).toArray⟩] A40 S37 (ParseFrame_s (subU l (atU l vs.length) (gU l (atU l vs.length))) _ (by have h9 := subU_le2 l (atU l vs.length) (gU l (atU l vs.length)); have h8 := subU_le2 l (atU l vs.length) (frN l (atU l vs.length)); omega)) Try.call31 (by kernel_rfl) (by kernel_rfl) (by kernel_rfl) rfl (fun v44 ac wc A41 S42 => ?_)
    obtain ⟨hl45, A46, cap47, rfl, hc48, hr49⟩ := rowF_reads (v := v44) (m := (pfW (subU l (atU l vs.length) (gU l (atU l vs.length)))).length) (l := pfW (subU l (atU l vs.length) (gU l (atU l vs.length)))) (S42.row 0 rfl)
    refine s_one (.tuple #[.agg #[.int .i64 (pfP (subU l (atU l vs.length) (gU l (atU l vs.length)))), .int .i64 (pfE (subU l (atU l vs.length) (gU l (atU l vs.length)))), .slice A46 ((pfW (subU l (atU l vs.length) (gU l (atU l vs.length)))).length) cap47], .int .i64 (pfZ (subU l (atU l vs.length) (gU l (atU l vs.length))))]) A41 S42 (g_move (by kernel_rfl)) rfl (fun ac A50 => ?_)
    refine s_one (.agg #[.int .i64 (pfP (subU l (atU l vs.length) (gU l (atU l vs.length)))), .int .i64 (pfE (subU l (atU l vs.length) (gU l (atU l vs.length)))), .slice A46 ((pfW (subU l (atU l vs.length) (gU l (atU l vs.length)))).length) cap47]) A50 S42 (g_extract (u := .tuple #[.agg #[.int .i64 (pfP (subU l (atU l vs.length) (gU l (atU l vs.length)))), .int .i64 (pfE (subU l (atU l vs.length) (gU l (atU l vs.length)))), .slice A46 ((pfW (subU l (atU l vs.length) (gU l (atU l vs.length)))).length) cap47], .int .i64 (pfZ (subU l (atU l vs.length) (gU l (atU l vs.length))))]) (by kernel_rfl) (fun _ => by kernel_rfl)) rfl (fun ac A51 => ?_)
    refine s_one (.int .i64 (pfZ (subU l (atU l vs.length) (gU l (atU l vs.length))))) A51 S42 (g_extract (u := .tuple #[.agg #[.int .i64 (pfP (subU l (atU l vs.length) (gU l (atU l vs.length)))), .int .i64 (pfE (subU l (atU l vs.length) (gU l (atU l vs.length)))), .slice A46 ((pfW (subU l (atU l vs.length) (gU l (atU l vs.length)))).length) cap47], .int .i64 (pfZ (subU l (atU l vs.length) (gU l (atU l vs.length))))]) (by kernel_rfl) (fun _ => by kernel_rfl)) rfl (fun ac A52 => ?_)
    refine s_alloc (#[.int .i64 0, .int .i64 0, .slice none 0 0]) A52 S42 (by kernel_rfl) rfl (fun g55 ac wc A53 S54 => ?_)
    refine s_store (g := g55) (off := 0) (v := .agg #[.int .i64 (pfP (subU l (atU l vs.length) (gU l (atU l vs.length)))), .int .i64 (pfE (subU l (atU l vs.length) (gU l (atU l vs.length)))), .slice A46 ((pfW (subU l (atU l vs.length) (gU l (atU l vs.length)))).length) cap47]) 0 (#[.int .i64 (pfP (subU l (atU l vs.length) (gU l (atU l vs.length)))), .int .i64 (pfE (subU l (atU l vs.length) (gU l (atU l vs.length)))), .slice A46 ((pfW (subU l (atU l vs.length) (gU l (atU l vs.length)))).length) cap47]) A53 S54 (by kernel_rfl) (by kernel_rfl) rfl (by kernel_rfl) (fun wc S57 => ?_)
    refine s_one (.int .i64 (pfZ (subU l (atU l vs.length) (gU l (atU l vs.length))))) A53 S57 (g_assign (by kernel_rfl)) rfl (fun ac A59 => ?_)
    refine wpList_nil ?_
    refine n_then ?_
    refine wp_seq ?_
    refine wp_seq ?_
    refine wp_region_lit ?_
    refine s_one (.int .i64 (pfZ (subU l (atU l vs.length) (gU l (atU l vs.length))))) A59 S57 (g_move (by kernel_rfl)) rfl (fun ac A60 => ?_)
    refine s_one (.bool (decide (pfZ (subU l (atU l vs.length) (gU l (atU l vs.length))) ≠ 0))) A60 S57 (g_bin (u := .int .i64 (pfZ (subU l (atU l vs.length) (gU l (atU l vs.length))))) (k := .int .i64 0) (by kernel_rfl) (by kernel_rfl) (fun _ => by kernel_rfl) b_neq) rfl (fun ac A61 => ?_)
    refine wpList_nil ?_
    refine n_then ?_
    refine c_ifb (b := (decide (pfZ (subU l (atU l vs.length) (gU l (atU l vs.length))) ≠ 0))) A61 (by kernel_rfl) (fun h62 => ?_) (fun h62 => ?_)
    · have p63 := of_decide_eq_true h62
      have hno : ¬ frOk l vs.length := frOk_n p63
      refine wp_exit ?_
      refine x_then ?_
      refine x_miss rfl ?_
      refine x_then ?_
      refine x_hit ?_
      refine n_then ?_
      refine wp_seq ?_
      refine wp_region_lit ?_
      refine s_one (v) A61 S57 (g_move (by kernel_rfl)) rfl (fun ac A64 => ?_)
      refine s_one (.int .i64 (atU l vs.length : Int)) A64 S57 (g_move (by kernel_rfl)) rfl (fun ac A65 => ?_)
      refine s_one (v) A65 S57 (g_assign (by kernel_rfl)) rfl (fun ac A66 => ?_)
      refine s_one (.int .i64 (atU l vs.length : Int)) A66 S57 (g_assign (by kernel_rfl)) rfl (fun ac A67 => ?_)
      refine s_one (.int .i64 0) A67 S57 (g_assign (by kernel_rfl)) rfl (fun ac A68 => ?_)
      refine wpList_nil ?_
      refine n_then ?_
      refine wp_ret ?_
      have ek := frK_eq hok hno
      obtain ⟨A69, cap70, rfl⟩ := row_slice (v := v) (m := vs.length) (S57.row 1 rfl)
      refine fin3 (.slice A69 vs.length cap70) (.int .i64 (atU l vs.length : Int)) (.int .i64 0) Try.results30 A68 S57 (rv_tmp (by kernel_rfl)) (rv_tmp (by kernel_rfl)) (rv_tmp (by kernel_rfl)) ⟨(vs, A69, cap70), by rw [ek], by rw [ek]; exact S57.sub sub_nil (sub_skip sub_all)⟩
    · have p71 := of_decide_eq_false h62
      have hz : pfZ (subU l (atU l vs.length) (gU l (atU l vs.length))) = 0 := Decidable.of_not_not p71
      have hfo := frOk_y (k := vs.length) (by omega) hz
      have hgu := gU_ok (by omega) hz
      have hE : nthU (subU l (atU l vs.length) (gU l (atU l vs.length))) 3 = nthU l (atU l vs.length + 3) := subU_nth (by omega)
      have hE2 : nthU (subU l (atU l vs.length) (gU l (atU l vs.length))) 3 * nthU (subU l (atU l vs.length) (gU l (atU l vs.length))) 3 = (nthU l (atU l vs.length + 3) * nthU l (atU l vs.length + 3)) := by rw [hE]
      refine wp_skip ?_
      refine n_then ?_
      refine r_begin (w0 := w0) (by kernel_rfl) (S57.sub sub_all sub_nil) (fun wc T72 B73 => ?_)
      have S74 := S57.kept B73
      refine r_take 0 (v) A61 T72 (g_move (by kernel_rfl)) rfl rfl rfl (pf_block (pf_then (pf_block (pf_then pf_body)))) (by kernel_rfl) (fun ac A75 => ?_)
      refine r_take 1 (.agg #[.int .i64 (pfP (subU l (atU l vs.length) (gU l (atU l vs.length)))), .int .i64 (pfE (subU l (atU l vs.length) (gU l (atU l vs.length)))), .slice A46 ((pfW (subU l (atU l vs.length) (gU l (atU l vs.length)))).length) cap47]) A75 T72 (g_load (g := g55) (off := 0) 0 (by kernel_rfl) rfl (by kernel_rfl)) rfl rfl rfl (pf_block (pf_then (pf_block (pf_then pf_body)))) (by kernel_rfl) (fun ac A76 => ?_)
      refine r_take 4 (.int .i64 (atU l vs.length : Int)) A76 T72 (g_move (by kernel_rfl)) rfl rfl rfl (pf_block (pf_then (pf_block (pf_then pf_body)))) (by kernel_rfl) (fun ac A77 => ?_)
      refine r_take 5 (.pointer (some ⟨g55, 1, none⟩)) A77 T72 (g_field (u := .pointer (some ⟨g55, 0, none⟩)) (by kernel_rfl) (fun _ => by kernel_rfl)) rfl rfl rfl (pf_block (pf_then (pf_block (pf_then pf_body)))) (by kernel_rfl) (fun ac A78 => ?_)
      refine r_take 6 (.pointer (some ⟨g55, 1, none⟩)) A78 T72 (g_field (u := .pointer (some ⟨g55, 1, none⟩)) (by kernel_rfl) (fun _ => by kernel_rfl)) rfl rfl rfl (pf_block (pf_then (pf_block (pf_then pf_body)))) (by kernel_rfl) (fun ac A79 => ?_)
      refine r_take 7 (.int .i64 (pfE (subU l (atU l vs.length) (gU l (atU l vs.length))))) A79 T72 (g_load (g := g55) (off := 1) 0 (by kernel_rfl) rfl (by kernel_rfl)) rfl rfl rfl (pf_block (pf_then (pf_block (pf_then pf_body)))) (by kernel_rfl) (fun ac A80 => ?_)
      refine r_1 (i := 2) (by kernel_rfl) ?_
      refine rs_bs (e := 66) (r := [(0, .agg #[.int .i64 (pfP (subU l (atU l vs.length) (gU l (atU l vs.length)))), .int .i64 (pfE (subU l (atU l vs.length) (gU l (atU l vs.length)))), .slice A46 ((pfW (subU l (atU l vs.length) (gU l (atU l vs.length)))).length) cap47])]) (#[.int .i64 (pfP (subU l (atU l vs.length) (gU l (atU l vs.length)))), .int .i64 (pfE (subU l (atU l vs.length) (gU l (atU l vs.length)))), .slice A46 ((pfW (subU l (atU l vs.length) (gU l (atU l vs.length)))).length) cap47]) A80 S74 sub_all sub_nil (by kernel_rfl) (by kernel_rfl) rfl rfl rfl (fun g83 ac wc A81 S82 => ?_)
      have T84 := S82.sub (sub_skip sub_all) sub_nil
      refine r_1 (i := 3) (by kernel_rfl) ?_
      refine rs_append (e := 66) (size := 3) (bytes := 40) (v := v) (g := g83) (m' := 1) (c := 1) 1 0 [.int .i64 (pfP (subU l (atU l vs.length) (gU l (atU l vs.length)))), .int .i64 (pfE (subU l (atU l vs.length) (gU l (atU l vs.length)))), .slice A46 ((pfW (subU l (atU l vs.length) (gU l (atU l vs.length)))).length) cap47] A81 S82 (sub_skip sub_all) (fun _ => sub_nil) (by kernel_rfl) (by kernel_rfl) (by kernel_rfl) rfl rfl (by kernel_rfl) rfl (by kernel_rfl) (by omega) (by omega) rfl rfl rfl (fun v89 ac wc A85 S86 => ?_)
      have T88 := S86.sub (sub_skip sub_all) sub_nil
      refine r_1 (i := 8) (by kernel_rfl) ?_
      refine rs_call (fs := #[]) (cp := #[]) (r := [(0, .int .i64 (pfE (subU l (atU l vs.length) (gU l (atU l vs.length)))))]) #[.int .i64 (pfE (subU l (atU l vs.length) (gU l (atU l vs.length))))] (.int .i64 ((10 + 128 * (nthU (subU l (atU l vs.length) (gU l (atU l vs.length))) 3 * nthU (subU l (atU l vs.length) (gU l (atU l vs.length))) 3) : Nat) : Int)) A85 S86 (sub_skip sub_all) sub_nil (frameSize_e (subU l (atU l vs.length) (gU l (atU l vs.length))) _ hz) Try.call77 rfl rfl (by kernel_rfl) (by kernel_rfl) (by kernel_rfl) rfl (fun ac wc A90 S91 => ?_)
      have T93 := S91.sub (sub_skip sub_all) sub_nil
      refine r_take 9 (.int .i64 ((atU l vs.length : Int) + ((10 + 128 * (nthU (subU l (atU l vs.length) (gU l (atU l vs.length))) 3 * nthU (subU l (atU l vs.length) (gU l (atU l vs.length))) 3) : Nat) : Int))) A90 T93 (g_bin (u := .int .i64 (atU l vs.length : Int)) (k := .int .i64 ((10 + 128 * (nthU (subU l (atU l vs.length) (gU l (atU l vs.length))) 3 * nthU (subU l (atU l vs.length) (gU l (atU l vs.length))) 3) : Nat) : Int)) (by kernel_rfl) (by kernel_rfl) (fun _ => by kernel_rfl) (b_add (by omega))) rfl rfl rfl (pf_block (pf_then (pf_block (pf_then pf_body)))) (by kernel_rfl) (fun ac A94 => ?_)
      refine r_take 10 (v89) A94 T93 (g_assign (by kernel_rfl)) rfl rfl rfl (pf_block (pf_then (pf_block (pf_then pf_body)))) (by kernel_rfl) (fun ac A95 => ?_)
      refine r_take 11 (.int .i64 ((atU l vs.length : Int) + ((10 + 128 * (nthU (subU l (atU l vs.length) (gU l (atU l vs.length))) 3 * nthU (subU l (atU l vs.length) (gU l (atU l vs.length))) 3) : Nat) : Int))) A95 T93 (g_assign (by kernel_rfl)) rfl rfl rfl (pf_block (pf_then (pf_block (pf_then pf_body)))) (by kernel_rfl) (fun ac A96 => ?_)
      refine r_done (by kernel_rfl) ?_
      refine n_block ?_
      refine n_then ?_
      have q9 := St.permM S91 (List.Perm.swap _ _ _)
      rw [hgu] at q9
      have SP : St w0 [⟨g83, 66, #[.int .i64 (pfP (subU l (atU l vs.length) (frN l (atU l vs.length)))), .int .i64 (pfE (subU l (atU l vs.length) (frN l (atU l vs.length)))), .slice A46 ((pfW (subU l (atU l vs.length) (frN l (atU l vs.length)))).length) cap47], true⟩, ⟨g55, 66, #[.int .i64 (pfP (subU l (atU l vs.length) (frN l (atU l vs.length)))), .int .i64 (pfE (subU l (atU l vs.length) (frN l (atU l vs.length)))), .slice A46 ((pfW (subU l (atU l vs.length) (frN l (atU l vs.length)))).length) cap47], true⟩] (⟨v89, 66, 3, (((Value.slice A46 ((pfW (subU l (atU l vs.length) (frN l (atU l vs.length)))).length) cap47) :: vs).length), (frX l ((Value.slice A46 ((pfW (subU l (atU l vs.length) (frN l (atU l vs.length)))).length) cap47) :: vs))⟩ :: (frM 36 l ((Value.slice A46 ((pfW (subU l (atU l vs.length) (frN l (atU l vs.length)))).length) cap47) :: vs))) _ := q9
      have ha : atU l ((Value.slice A46 ((pfW (subU l (atU l vs.length) (frN l (atU l vs.length)))).length) cap47) :: vs).length = atU l vs.length + frN l (atU l vs.length) := rfl
      refine ⟨_, ⟨((Value.slice A46 ((pfW (subU l (atU l vs.length) (frN l (atU l vs.length)))).length) cap47) :: vs), v89, rfl, by have := hfo.2.1; omega, ok_snoc hok hfo, (A96.slot (A96.slot (A96.slot (A96.slot (A96.slot (A96.slot (A96.slot (A96.slot (A96.slot A96.nil (v := v89) (by kernel_rfl) rfl) (v := .int .i64 ((atU l vs.length : Int) + ((10 + 128 * (nthU (subU l (atU l vs.length) (gU l (atU l vs.length))) 3 * nthU (subU l (atU l vs.length) (gU l (atU l vs.length))) 3) : Nat) : Int))) (by kernel_rfl) (congrArg (Value.int .i64) (by rw [ha, hE]; omega))) (v := .bool (decide ((l.length : Int) > 100000))) (by kernel_rfl) rfl) (v := .int .i64 (l.length : Int)) (by kernel_rfl) rfl) (v := .string ⟨l.toArray⟩) (by kernel_rfl) rfl) (v := .int .i64 0) (by kernel_rfl) rfl) (v := .int .i64 0) (by kernel_rfl) rfl) (v := .slice none 0 0) (by kernel_rfl) rfl) (v := .string ⟨l.toArray⟩) (by kernel_rfl) rfl), (St.rerow 0 SP rfl ⟨rfl, rfl⟩).sub sub_nil sub_all⟩, ?_⟩
      omega

set_option maxRecDepth 100000 in
set_option maxHeartbeats 400000 in
theorem FramesL_s (l : List UInt8) (w0 : World) (hl : 100000 < l.length) (hl2 : l.length ≤ 1000000) :
    Calls Try.prog 30 #[.string ⟨l.toArray⟩] w0 fun e w' => e = .returned (.tuple #[.slice none 0 0, .int .i64 0, .int .i64 8]) ∧ Below w0.heap.size w0 w' := by
  have S0 := St.start w0
  refine enter (n := 46) Try.func30 rfl rfl rfl (fun ac A0 => ?_)
  refine wp_seq ?_
  refine wp_region_lit ?_
  refine s_one (.slice none 0 0) A0 S0 (g_assign (by kernel_rfl)) rfl (fun ac A1 => ?_)
  refine s_one (.int .i64 0) A1 S0 (g_assign (by kernel_rfl)) rfl (fun ac A2 => ?_)
  refine s_one (.int .i64 0) A2 S0 (g_assign (by kernel_rfl)) rfl (fun ac A3 => ?_)
  refine wpList_nil ?_
  refine n_then ?_
  refine wp_seq ?_
  refine wp_seq ?_
  refine wp_region_lit ?_
  refine s_one (.string ⟨l.toArray⟩) A3 S0 (g_move (by kernel_rfl)) rfl (fun ac A4 => ?_)
  refine s_one (.int .i64 (l.length : Int)) A4 S0 (g_built (r := [(0, .string ⟨l.toArray⟩)]) (by kernel_rfl) (fun ty cs w => bl_str (l := l) Try.underlying9 ty cs w)) rfl (fun ac A5 => ?_)
  refine s_one (.bool (decide ((l.length : Int) > 100000))) A5 S0 (g_bin (u := .int .i64 (l.length : Int)) (k := .int .i64 100000) (by kernel_rfl) (by kernel_rfl) (fun _ => by kernel_rfl) (fun _ => by kernel_rfl)) rfl (fun ac A6 => ?_)
  refine wpList_nil ?_
  refine n_then ?_
  refine c_t (b := (decide ((l.length : Int) > 100000))) A6 (by kernel_rfl) (decide_eq_true (by omega)) ?_
  refine wp_seq ?_
  refine wp_region_lit ?_
  refine s_one (.slice none 0 0) A6 S0 (g_assign (by kernel_rfl)) rfl (fun ac A7 => ?_)
  refine s_one (.int .i64 0) A7 S0 (g_assign (by kernel_rfl)) rfl (fun ac A8 => ?_)
  refine s_one (.int .i64 8) A8 S0 (g_assign (by kernel_rfl)) rfl (fun ac A9 => ?_)
  refine wpList_nil ?_
  refine n_then ?_
  refine wp_ret ?_
  refine r_then ?_
  refine fin3 (.slice none 0 0) (.int .i64 0) (.int .i64 8) Try.results30 A9 S0 (rv_tmp (by kernel_rfl)) (rv_tmp (by kernel_rfl)) (rv_tmp (by kernel_rfl)) ⟨?_, S0.kp⟩
  rfl

set_option maxRecDepth 100000 in
set_option maxHeartbeats 400000 in
theorem refFrames_s (l : List UInt8) (w0 : World) (hl : l.length ≤ 2000) :
    Calls Try.prog 34 #[.string ⟨l.toArray⟩] w0 fun e w' => ∃ u : List Value × Option Addr × Nat, e = .returned (.tuple #[.slice u.2.1 (frK l) u.2.2, .int .i64 (atU l (frK l) : Int)]) ∧ St w0 [] (⟨.slice u.2.1 (frK l) u.2.2, 66, 3, frK l, frX l u.1⟩ :: frM 36 l u.1) w' := by
  have S0 := St.start w0
  refine enter (n := 47) Try.func34 rfl rfl rfl (fun ac A0 => ?_)
  refine wp_seq ?_
  refine wp_region_lit ?_
  refine s_one (.slice none 0 0) A0 S0 (g_assign (by kernel_rfl)) rfl (fun ac A1 => ?_)
  refine s_one (.int .i64 0) A1 S0 (g_assign (by kernel_rfl)) rfl (fun ac A2 => ?_)
  refine wpList_nil ?_
  refine n_then ?_
  refine wp_seq ?_
  refine wp_region_lit ?_
  refine s_one (.slice none 0 0) A2 S0 (g_assign (by kernel_rfl)) rfl (fun ac A3 => ?_)
  refine wpList_nil ?_
  refine n_then ?_
  refine wp_seq ?_
  refine wp_region_lit ?_
  refine s_one (.int .i64 0) A3 S0 (g_assign (by kernel_rfl)) rfl (fun ac A4 => ?_)
  refine wpList_nil ?_
  refine n_then ?_
  refine wp_seq ?_
  refine wp_block ?_
  have S5 := S0.nilRow 66 3
  refine c_loopN (fun mm ac wc => ∃ (vs : List Value) (v : Value), mm = l.length - atU l vs.length ∧ (atU l vs.length ≤ l.length) ∧ (∀ j, j < vs.length → frOk l j) ∧ Fr 47 ac [(0, .string ⟨l.toArray⟩), (2, .slice none 0 0), (3, .int .i64 0), (5, .int .i64 (atU l vs.length : Int)), (4, v)] ∧ St w0 [] (⟨v, 66, 3, vs.length, (frX l vs)⟩ :: (frM 36 l vs)) wc) _ ⟨[], .slice none 0 0, rfl, Nat.zero_le _, fun j hj => absurd hj (Nat.not_lt_zero j), (A4.slot (A4.slot (A4.slot (A4.slot (A4.slot A4.nil (v := .slice none 0 0) (by kernel_rfl) (by first | rfl | simp)) (v := .int .i64 0) (by kernel_rfl) rfl) (v := .int .i64 0) (by kernel_rfl) rfl) (v := .slice none 0 0) (by kernel_rfl) rfl) (v := .string ⟨l.toArray⟩) (by kernel_rfl) rfl), (St.rerow 0 S5 rfl ⟨rfl, rfl⟩).sub sub_all sub_all⟩ ?_
  rintro mm ac wc ⟨vs, v, hm8, hat, hok, A6, S7⟩
  have hfn : frN l (atU l vs.length) = 10 + 128 * (nthU l (atU l vs.length + 3) * nthU l (atU l vs.length + 3)) := rfl
  have hqn := nthU_lt l (atU l vs.length + 3)
  have hqs := sq_le (show nthU l (atU l vs.length + 3) ≤ 255 by omega)
  have hvl := frX_length l vs
  have hvb := atU_ge l vs.length
  have hsl := subU_length (l := l) (i := atU l vs.length) (n := l.length - atU l vs.length) (by omega)
  have hgl := gU_le l (atU l vs.length)
  refine wp_seq ?_
  refine wp_seq ?_
  refine wp_region_lit ?_
  refine s_one (.string ⟨l.toArray⟩) A6 S7 (g_move (by kernel_rfl)) rfl (fun ac A9 => ?_)
  refine s_one (.int .i64 (l.length : Int)) A9 S7 (g_built (r := [(0, .string ⟨l.toArray⟩)]) (by kernel_rfl) (fun ty cs w => bl_str (l := l) Try.underlying9 ty cs w)) rfl (fun ac A10 => ?_)
  refine s_one (.int .i64 (atU l vs.length : Int)) A10 S7 (g_move (by kernel_rfl)) rfl (fun ac A11 => ?_)
  refine s_one (.int .i64 ((l.length : Int) - (atU l vs.length : Int))) A11 S7 (g_bin (u := .int .i64 (l.length : Int)) (k := .int .i64 (atU l vs.length : Int)) (by kernel_rfl) (by kernel_rfl) (fun _ => by kernel_rfl) (b_sub (by omega))) rfl (fun ac A12 => ?_)
  refine s_one (.bool (decide ((l.length : Int) - (atU l vs.length : Int) ≥ 8))) A12 S7 (g_bin (u := .int .i64 ((l.length : Int) - (atU l vs.length : Int))) (k := .int .i64 8) (by kernel_rfl) (by kernel_rfl) (fun _ => by kernel_rfl) (fun _ => by kernel_rfl)) rfl (fun ac A13 => ?_)
  refine wpList_nil ?_
  refine n_then ?_
  refine c_ifb (b := (decide ((l.length : Int) - (atU l vs.length : Int) ≥ 8))) A13 (by kernel_rfl) (fun h14 => ?_) (fun h14 => ?_)
  · have p15 := of_decide_eq_true h14
    refine wp_skip ?_
    refine n_then ?_
    refine wp_block ?_
    refine wp_seq ?_
    refine wp_region_lit ?_
    refine s_one (.string ⟨l.toArray⟩) A13 S7 (g_move (by kernel_rfl)) rfl (fun ac A16 => ?_)
    refine s_one (.int .i64 (atU l vs.length : Int)) A16 S7 (g_move (by kernel_rfl)) rfl (fun ac A17 => ?_)
    refine s_one (.int .i64 ((atU l vs.length : Int) + 3)) A17 S7 (g_bin (u := .int .i64 (atU l vs.length : Int)) (k := .int .i64 3) (by kernel_rfl) (by kernel_rfl) (fun _ => by kernel_rfl) (b_add (by omega))) rfl (fun ac A18 => ?_)
    refine s_one (.int .u8 (nthU l (atU l vs.length + 3) : Int)) A18 S7 (g_indexv (u := .string ⟨l.toArray⟩) (k := .int .i64 ((atU l vs.length : Int) + 3)) (by kernel_rfl) (by kernel_rfl) (ix_str (l := l) (atU l vs.length + 3) Try.underlying9 (by omega) (by omega))) rfl (fun ac A19 => ?_)
    refine s_one (.int .i64 (nthU l (atU l vs.length + 3) : Int)) A19 S7 (g_conv (u := .int .u8 (nthU l (atU l vs.length + 3) : Int)) (by kernel_rfl) (conv_u8 Try.underlying5 Try.underlying3 ⟨by omega, by have h9 := nthU_lt l (atU l vs.length + 3); omega⟩)) rfl (fun ac A20 => ?_)
    refine s_call (fs := #[]) (cp := #[]) (r := [(0, .int .i64 (nthU l (atU l vs.length + 3) : Int))]) #[.int .i64 (nthU l (atU l vs.length + 3) : Int)] (.int .i64 ((10 + 128 * ((nthU l (atU l vs.length + 3)) * (nthU l (atU l vs.length + 3))) : Nat) : Int)) A20 S7 (refSize_s (nthU l (atU l vs.length + 3)) _ (by omega)) Try.call50 (by kernel_rfl) (by kernel_rfl) (by kernel_rfl) rfl (fun ac wc A21 S22 => ?_)
    refine s_one (.int .i64 ((10 + 128 * ((nthU l (atU l vs.length + 3)) * (nthU l (atU l vs.length + 3))) : Nat) : Int)) A21 S22 (g_assign (by kernel_rfl)) rfl (fun ac A24 => ?_)
    refine wpList_nil ?_
    refine n_then ?_
    refine wp_seq ?_
    refine wp_seq ?_
    refine wp_region_lit ?_
    refine s_one (.string ⟨l.toArray⟩) A24 S22 (g_move (by kernel_rfl)) rfl (fun ac A25 => ?_)
    refine s_one (.int .i64 (l.length : Int)) A25 S22 (g_built (r := [(0, .string ⟨l.toArray⟩)]) (by kernel_rfl) (fun ty cs w => bl_str (l := l) Try.underlying9 ty cs w)) rfl (fun ac A26 => ?_)
    refine s_one (.int .i64 (atU l vs.length : Int)) A26 S22 (g_move (by kernel_rfl)) rfl (fun ac A27 => ?_)
    refine s_one (.int .i64 ((l.length : Int) - (atU l vs.length : Int))) A27 S22 (g_bin (u := .int .i64 (l.length : Int)) (k := .int .i64 (atU l vs.length : Int)) (by kernel_rfl) (by kernel_rfl) (fun _ => by kernel_rfl) (b_sub (by omega))) rfl (fun ac A28 => ?_)
    refine s_one (.int .i64 ((10 + 128 * ((nthU l (atU l vs.length + 3)) * (nthU l (atU l vs.length + 3))) : Nat) : Int)) A28 S22 (g_move (by kernel_rfl)) rfl (fun ac A29 => ?_)
    refine s_one (.bool (decide ((l.length : Int) - (atU l vs.length : Int) < ((10 + 128 * ((nthU l (atU l vs.length + 3)) * (nthU l (atU l vs.length + 3))) : Nat) : Int)))) A29 S22 (g_bin (u := .int .i64 ((l.length : Int) - (atU l vs.length : Int))) (k := .int .i64 ((10 + 128 * ((nthU l (atU l vs.length + 3)) * (nthU l (atU l vs.length + 3))) : Nat) : Int)) (by kernel_rfl) (by kernel_rfl) (fun _ => by kernel_rfl) (fun _ => by kernel_rfl)) rfl (fun ac A30 => ?_)
    refine wpList_nil ?_
    refine n_then ?_
    refine c_ifb (b := (decide ((l.length : Int) - (atU l vs.length : Int) < ((10 + 128 * ((nthU l (atU l vs.length + 3)) * (nthU l (atU l vs.length + 3))) : Nat) : Int)))) A30 (by kernel_rfl) (fun h31 => ?_) (fun h31 => ?_)
    · have p32 := of_decide_eq_true h31
      have hno : ¬ frOk l vs.length := fun h => by have := h.2.1; omega
      refine wp_exit ?_
      refine x_then ?_
      refine x_miss rfl ?_
      refine x_then ?_
      refine x_hit ?_
      refine n_then ?_
      refine wp_seq ?_
      refine wp_region_lit ?_
      refine s_one (v) A30 S22 (g_move (by kernel_rfl)) rfl (fun ac A33 => ?_)
      refine s_one (.int .i64 (atU l vs.length : Int)) A33 S22 (g_move (by kernel_rfl)) rfl (fun ac A34 => ?_)
      refine s_one (v) A34 S22 (g_assign (by kernel_rfl)) rfl (fun ac A35 => ?_)
      refine s_one (.int .i64 (atU l vs.length : Int)) A35 S22 (g_assign (by kernel_rfl)) rfl (fun ac A36 => ?_)
      refine wpList_nil ?_
      refine n_then ?_
      refine wp_ret ?_
      have ek := frK_eq hok hno
      obtain ⟨A37, cap38, rfl⟩ := row_slice (v := v) (m := vs.length) (S22.row 0 rfl)
      refine fin2 (.slice A37 vs.length cap38) (.int .i64 (atU l vs.length : Int)) Try.results34 A36 S22 (rv_tmp (by kernel_rfl)) (rv_tmp (by kernel_rfl)) ⟨(vs, A37, cap38), by rw [ek], by rw [ek]; exact S22.sub sub_all sub_all⟩
    · have p39 := of_decide_eq_false h31
      refine wp_skip ?_
      refine n_then ?_
      refine wp_seq ?_
      refine wp_region_lit ?_
      refine s_one (.string ⟨l.toArray⟩) A30 S22 (g_move (by kernel_rfl)) rfl (fun ac A40 => ?_)
      refine s_one (.int .i64 (atU l vs.length : Int)) A40 S22 (g_move (by kernel_rfl)) rfl (fun ac A41 => ?_)
      refine s_one (.int .i64 (atU l vs.length : Int)) A41 S22 (g_move (by kernel_rfl)) rfl (fun ac A42 => ?_)
      refine s_one (.int .i64 ((10 + 128 * ((nthU l (atU l vs.length + 3)) * (nthU l (atU l vs.length + 3))) : Nat) : Int)) A42 S22 (g_move (by kernel_rfl)) rfl (fun ac A43 => ?_)
      refine s_one (.int .i64 ((atU l vs.length : Int) + ((10 + 128 * ((nthU l (atU l vs.length + 3)) * (nthU l (atU l vs.length + 3))) : Nat) : Int))) A43 S22 (g_bin (u := .int .i64 (atU l vs.length : Int)) (k := .int .i64 ((10 + 128 * ((nthU l (atU l vs.length + 3)) * (nthU l (atU l vs.length + 3))) : Nat) : Int)) (by kernel_rfl) (by kernel_rfl) (fun _ => by kernel_rfl) (b_add (by omega))) rfl (fun ac A44 => ?_)
      refine s_one (.string ⟨(subU l (atU l vs.length) (frN l (atU l vs.length))).toArray⟩) A44 S22 (g_slice (u := .string ⟨l.toArray⟩) (lo' := (some (.int .i64 (atU l vs.length : Int)))) (hi' := (some (.int .i64 ((atU l vs.length : Int) + ((10 + 128 * ((nthU l (atU l vs.length + 3)) * (nthU l (atU l vs.length + 3))) : Nat) : Int))))) (mx' := none) (by kernel_rfl) (by kernel_rfl) (by kernel_rfl) (by kernel_rfl) (sl_str_n (l := l) (i := atU l vs.length) (h := atU l vs.length + frN l (atU l vs.length)) (k := (frN l (atU l vs.length))) Try.underlying9 (by omega) (by omega) (by omega) (by omega) (by omega))) rfl (fun ac A45 => ?_)
      refine s_callRF (fs := #[]) (cp := #[]) (r := [(0, .string ⟨(subU l (atU l vs.length) (frN l (atU l vs.length))).toArray⟩)]) (fun v => .tuple #[.agg #[.int .i64 (pfP (subU l (atU l vs.length) (frN l (atU l vs.length)))), .int .i64 (pfE (subU l (atU l vs.length) (frN l (atU l vs.length)))), v], .int .i64 (pfZ (subU l (atU l vs.length) (frN l (atU l vs.length))))]) #[.string ⟨(subU l (atU l vs.length) (frN l (atU l vs.length))).toArray⟩] A45 S22 (refParseFrame_s (subU l (atU l vs.length) (frN l (atU l vs.length))) _ (by have h9 := subU_le2 l (atU l vs.length) (gU l (atU l vs.length)); have h8 := subU_le2 l (atU l vs.length) (frN l (atU l vs.length)); omega)) Try.call32 (by kernel_rfl) (by kernel_rfl) (by kernel_rfl) rfl (fun v49 ac wc A46 S47 => ?_)
      obtain ⟨hl50, A51, cap52, rfl, hc53, hr54⟩ := rowF_reads (v := v49) (m := (pfW (subU l (atU l vs.length) (frN l (atU l vs.length)))).length) (l := pfW (subU l (atU l vs.length) (frN l (atU l vs.length)))) (S47.row 0 rfl)
      refine s_one (.tuple #[.agg #[.int .i64 (pfP (subU l (atU l vs.length) (frN l (atU l vs.length)))), .int .i64 (pfE (subU l (atU l vs.length) (frN l (atU l vs.length)))), .slice A51 ((pfW (subU l (atU l vs.length) (frN l (atU l vs.length)))).length) cap52], .int .i64 (pfZ (subU l (atU l vs.length) (frN l (atU l vs.length))))]) A46 S47 (g_move (by kernel_rfl)) rfl (fun ac A55 => ?_)
      refine s_one (.agg #[.int .i64 (pfP (subU l (atU l vs.length) (frN l (atU l vs.length)))), .int .i64 (pfE (subU l (atU l vs.length) (frN l (atU l vs.length)))), .slice A51 ((pfW (subU l (atU l vs.length) (frN l (atU l vs.length)))).length) cap52]) A55 S47 (g_extract (u := .tuple #[.agg #[.int .i64 (pfP (subU l (atU l vs.length) (frN l (atU l vs.length)))), .int .i64 (pfE (subU l (atU l vs.length) (frN l (atU l vs.length)))), .slice A51 ((pfW (subU l (atU l vs.length) (frN l (atU l vs.length)))).length) cap52], .int .i64 (pfZ (subU l (atU l vs.length) (frN l (atU l vs.length))))]) (by kernel_rfl) (fun _ => by kernel_rfl)) rfl (fun ac A56 => ?_)
      refine s_one (.int .i64 (pfZ (subU l (atU l vs.length) (frN l (atU l vs.length))))) A56 S47 (g_extract (u := .tuple #[.agg #[.int .i64 (pfP (subU l (atU l vs.length) (frN l (atU l vs.length)))), .int .i64 (pfE (subU l (atU l vs.length) (frN l (atU l vs.length)))), .slice A51 ((pfW (subU l (atU l vs.length) (frN l (atU l vs.length)))).length) cap52], .int .i64 (pfZ (subU l (atU l vs.length) (frN l (atU l vs.length))))]) (by kernel_rfl) (fun _ => by kernel_rfl)) rfl (fun ac A57 => ?_)
      refine s_alloc (#[.int .i64 0, .int .i64 0, .slice none 0 0]) A57 S47 (by kernel_rfl) rfl (fun g60 ac wc A58 S59 => ?_)
      refine s_store (g := g60) (off := 0) (v := .agg #[.int .i64 (pfP (subU l (atU l vs.length) (frN l (atU l vs.length)))), .int .i64 (pfE (subU l (atU l vs.length) (frN l (atU l vs.length)))), .slice A51 ((pfW (subU l (atU l vs.length) (frN l (atU l vs.length)))).length) cap52]) 0 (#[.int .i64 (pfP (subU l (atU l vs.length) (frN l (atU l vs.length)))), .int .i64 (pfE (subU l (atU l vs.length) (frN l (atU l vs.length)))), .slice A51 ((pfW (subU l (atU l vs.length) (frN l (atU l vs.length)))).length) cap52]) A58 S59 (by kernel_rfl) (by kernel_rfl) rfl (by kernel_rfl) (fun wc S62 => ?_)
      refine s_one (.int .i64 (pfZ (subU l (atU l vs.length) (frN l (atU l vs.length))))) A58 S62 (g_assign (by kernel_rfl)) rfl (fun ac A64 => ?_)
      refine wpList_nil ?_
      refine n_then ?_
      refine wp_seq ?_
      refine wp_seq ?_
      refine wp_region_lit ?_
      refine s_one (.int .i64 (pfZ (subU l (atU l vs.length) (frN l (atU l vs.length))))) A64 S62 (g_move (by kernel_rfl)) rfl (fun ac A65 => ?_)
      refine s_one (.bool (decide (pfZ (subU l (atU l vs.length) (frN l (atU l vs.length))) ≠ 0))) A65 S62 (g_bin (u := .int .i64 (pfZ (subU l (atU l vs.length) (frN l (atU l vs.length))))) (k := .int .i64 0) (by kernel_rfl) (by kernel_rfl) (fun _ => by kernel_rfl) b_neq) rfl (fun ac A66 => ?_)
      refine wpList_nil ?_
      refine n_then ?_
      refine c_ifb (b := (decide (pfZ (subU l (atU l vs.length) (frN l (atU l vs.length))) ≠ 0))) A66 (by kernel_rfl) (fun h67 => ?_) (fun h67 => ?_)
      · have p68 := of_decide_eq_true h67
        have hno : ¬ frOk l vs.length := fun h => p68 h.2.2
        refine wp_exit ?_
        refine x_then ?_
        refine x_miss rfl ?_
        refine x_then ?_
        refine x_hit ?_
        refine n_then ?_
        refine wp_seq ?_
        refine wp_region_lit ?_
        refine s_one (v) A66 S62 (g_move (by kernel_rfl)) rfl (fun ac A69 => ?_)
        refine s_one (.int .i64 (atU l vs.length : Int)) A69 S62 (g_move (by kernel_rfl)) rfl (fun ac A70 => ?_)
        refine s_one (v) A70 S62 (g_assign (by kernel_rfl)) rfl (fun ac A71 => ?_)
        refine s_one (.int .i64 (atU l vs.length : Int)) A71 S62 (g_assign (by kernel_rfl)) rfl (fun ac A72 => ?_)
        refine wpList_nil ?_
        refine n_then ?_
        refine wp_ret ?_
        have ek := frK_eq hok hno
        obtain ⟨A73, cap74, rfl⟩ := row_slice (v := v) (m := vs.length) (S62.row 1 rfl)
        refine fin2 (.slice A73 vs.length cap74) (.int .i64 (atU l vs.length : Int)) Try.results34 A72 S62 (rv_tmp (by kernel_rfl)) (rv_tmp (by kernel_rfl)) ⟨(vs, A73, cap74), by rw [ek], by rw [ek]; exact S62.sub sub_nil (sub_skip sub_all)⟩
      · have p75 := of_decide_eq_false h67
        have hz : pfZ (subU l (atU l vs.length) (frN l (atU l vs.length))) = 0 := Decidable.of_not_not p75
        have hfo : frOk l vs.length := ⟨by omega, by omega, hz⟩
        refine wp_skip ?_
        refine n_then ?_
        refine wp_region_lit ?_
        refine s_one (v) A66 S62 (g_move (by kernel_rfl)) rfl (fun ac A76 => ?_)
        refine s_one (.agg #[.int .i64 (pfP (subU l (atU l vs.length) (frN l (atU l vs.length)))), .int .i64 (pfE (subU l (atU l vs.length) (frN l (atU l vs.length)))), .slice A51 ((pfW (subU l (atU l vs.length) (frN l (atU l vs.length)))).length) cap52]) A76 S62 (g_load (g := g60) (off := 0) 0 (by kernel_rfl) rfl (by kernel_rfl)) rfl (fun ac A77 => ?_)
        refine s_bs (e := 66) (r := [(0, .agg #[.int .i64 (pfP (subU l (atU l vs.length) (frN l (atU l vs.length)))), .int .i64 (pfE (subU l (atU l vs.length) (frN l (atU l vs.length)))), .slice A51 ((pfW (subU l (atU l vs.length) (frN l (atU l vs.length)))).length) cap52])]) (#[.int .i64 (pfP (subU l (atU l vs.length) (frN l (atU l vs.length)))), .int .i64 (pfE (subU l (atU l vs.length) (frN l (atU l vs.length)))), .slice A51 ((pfW (subU l (atU l vs.length) (frN l (atU l vs.length)))).length) cap52]) A77 S62 (by kernel_rfl) (by kernel_rfl) rfl (fun g80 ac wc A78 S79 => ?_)
        refine s_append (e := 66) (size := 3) (bytes := 40) (v := v) (g := g80) (m' := 1) (c := 1) 1 0 [.int .i64 (pfP (subU l (atU l vs.length) (frN l (atU l vs.length)))), .int .i64 (pfE (subU l (atU l vs.length) (frN l (atU l vs.length)))), .slice A51 ((pfW (subU l (atU l vs.length) (frN l (atU l vs.length)))).length) cap52] A78 S79 (by kernel_rfl) (by kernel_rfl) (by kernel_rfl) rfl rfl (by kernel_rfl) rfl (by kernel_rfl) (by omega) (by omega) rfl (fun v84 ac wc A81 S82 => ?_)
        refine s_one (.int .i64 (atU l vs.length : Int)) A81 S82 (g_move (by kernel_rfl)) rfl (fun ac A85 => ?_)
        refine s_one (.int .i64 ((10 + 128 * ((nthU l (atU l vs.length + 3)) * (nthU l (atU l vs.length + 3))) : Nat) : Int)) A85 S82 (g_move (by kernel_rfl)) rfl (fun ac A86 => ?_)
        refine s_one (.int .i64 ((atU l vs.length : Int) + ((10 + 128 * ((nthU l (atU l vs.length + 3)) * (nthU l (atU l vs.length + 3))) : Nat) : Int))) A86 S82 (g_bin (u := .int .i64 (atU l vs.length : Int)) (k := .int .i64 ((10 + 128 * ((nthU l (atU l vs.length + 3)) * (nthU l (atU l vs.length + 3))) : Nat) : Int)) (by kernel_rfl) (by kernel_rfl) (fun _ => by kernel_rfl) (b_add (by omega))) rfl (fun ac A87 => ?_)
        refine s_one (v84) A87 S82 (g_assign (by kernel_rfl)) rfl (fun ac A88 => ?_)
        refine s_one (.int .i64 ((atU l vs.length : Int) + ((10 + 128 * ((nthU l (atU l vs.length + 3)) * (nthU l (atU l vs.length + 3))) : Nat) : Int))) A88 S82 (g_assign (by kernel_rfl)) rfl (fun ac A89 => ?_)
        refine wpList_nil ?_
        refine n_block ?_
        refine n_then ?_
        have q9 := St.permM S82 (List.Perm.swap _ _ _)
        have SP : St w0 [⟨g80, 66, #[.int .i64 (pfP (subU l (atU l vs.length) (frN l (atU l vs.length)))), .int .i64 (pfE (subU l (atU l vs.length) (frN l (atU l vs.length)))), .slice A51 ((pfW (subU l (atU l vs.length) (frN l (atU l vs.length)))).length) cap52], true⟩, ⟨g60, 66, #[.int .i64 (pfP (subU l (atU l vs.length) (frN l (atU l vs.length)))), .int .i64 (pfE (subU l (atU l vs.length) (frN l (atU l vs.length)))), .slice A51 ((pfW (subU l (atU l vs.length) (frN l (atU l vs.length)))).length) cap52], true⟩] (⟨v84, 66, 3, (((Value.slice A51 ((pfW (subU l (atU l vs.length) (frN l (atU l vs.length)))).length) cap52) :: vs).length), (frX l ((Value.slice A51 ((pfW (subU l (atU l vs.length) (frN l (atU l vs.length)))).length) cap52) :: vs))⟩ :: (frM 36 l ((Value.slice A51 ((pfW (subU l (atU l vs.length) (frN l (atU l vs.length)))).length) cap52) :: vs))) _ := q9
        have ha : atU l ((Value.slice A51 ((pfW (subU l (atU l vs.length) (frN l (atU l vs.length)))).length) cap52) :: vs).length = atU l vs.length + frN l (atU l vs.length) := rfl
        refine ⟨_, ⟨((Value.slice A51 ((pfW (subU l (atU l vs.length) (frN l (atU l vs.length)))).length) cap52) :: vs), v84, rfl, by have := hfo.2.1; omega, ok_snoc hok hfo, (A89.slot (A89.slot (A89.slot (A89.slot (A89.slot A89.nil (v := v84) (by kernel_rfl) rfl) (v := .int .i64 ((atU l vs.length : Int) + ((10 + 128 * ((nthU l (atU l vs.length + 3)) * (nthU l (atU l vs.length + 3))) : Nat) : Int))) (by kernel_rfl) (congrArg (Value.int .i64) (by rw [ha]; omega))) (v := .int .i64 0) (by kernel_rfl) rfl) (v := .slice none 0 0) (by kernel_rfl) rfl) (v := .string ⟨l.toArray⟩) (by kernel_rfl) rfl), (St.rerow 0 SP rfl ⟨rfl, rfl⟩).sub sub_nil sub_all⟩, ?_⟩
        omega
  · have p90 := of_decide_eq_false h14
    have hno : ¬ frOk l vs.length := fun h => by have := h.1; omega
    refine wp_exit ?_
    refine x_then ?_
    refine x_then ?_
    refine x_hit ?_
    refine n_then ?_
    refine wp_seq ?_
    refine wp_region_lit ?_
    refine s_one (v) A13 S7 (g_move (by kernel_rfl)) rfl (fun ac A91 => ?_)
    refine s_one (.int .i64 (atU l vs.length : Int)) A91 S7 (g_move (by kernel_rfl)) rfl (fun ac A92 => ?_)
    refine s_one (v) A92 S7 (g_assign (by kernel_rfl)) rfl (fun ac A93 => ?_)
    refine s_one (.int .i64 (atU l vs.length : Int)) A93 S7 (g_assign (by kernel_rfl)) rfl (fun ac A94 => ?_)
    refine wpList_nil ?_
    refine n_then ?_
    refine wp_ret ?_
    have ek := frK_eq hok hno
    obtain ⟨A95, cap96, rfl⟩ := row_slice (v := v) (m := vs.length) (S7.row 0 rfl)
    refine fin2 (.slice A95 vs.length cap96) (.int .i64 (atU l vs.length : Int)) Try.results34 A94 S7 (rv_tmp (by kernel_rfl)) (rv_tmp (by kernel_rfl)) ⟨(vs, A95, cap96), by rw [ek], by rw [ek]; exact S7.sub sub_all sub_all⟩

end Go.Proofs.Ytcijkniijomcjaa
/- The walk of TraceFrames: it returns true. -/
namespace Go.Proofs.Ytcijkniijomcjaa
open Go.RowKit Go.Cpl

theorem parse_fmt (p el : Int) (xs : List Nat) (n : Nat) (w : World) (hx : xs.length = n) (hm : n ≤ 1000) (hz : frE p el xs = 0) : Calls Try.prog 31 #[.string ⟨(fmt p el (mi xs)).toArray⟩] w fun e w' => ∃ v, e = .returned (.tuple #[.agg #[.int .i64 p, .int .i64 el, v], .int .i64 0]) ∧ Below w.heap.size w w' ∧ w'.ownsRow w.heap.size 36 1 v n (rowF (fw (mi xs))) := by
  obtain ⟨e1, e2, e3, e4⟩ := fz_back hz
  have h := ParseFrame_s (fmt p el (mi xs)) w (by rw [fmt_length, mi_length]; omega)
  rw [e1, e2, e3, e4, fw_length, mi_length, hx] at h
  exact h
theorem reff_fmt (p el : Int) (A : Option Addr) (n cap : Nat) (xs : List Nat) (w : World) (hx : xs.length = n) (hr : FReads w A (fw (mi xs))) (hm : n ≤ 1000) (hz : frE p el xs = 0) : Calls Try.prog 48 #[.agg #[.int .i64 p, .int .i64 el, .slice A n cap]] w fun e w' => e = .returned (.string ⟨(fmt p el (mi xs)).toArray⟩) ∧ Below w.heap.size w w' := by
  obtain ⟨hp, h0⟩ := frE_0 hz
  have h := refFormatFrame_s p el A n cap (fw (mi xs)) w (by rw [fw_length, mi_length, hx]) hr hm hp (mxC_0 h0).1 (right_fw (mi_range (right_of (mxC_0 h0).2.2)))
  rw [fz_mi hz] at h
  exact h
theorem Matrix_m (m : Md) (w : World) (ok : MdOk w m) (h1 : m.sn ≤ 1000) (h2 : m.rn ≤ 1000) : Calls Try.prog 13 #[.agg #[.int .i64 m.el, .slice m.SA m.sn m.sc, .slice m.RA m.rn m.rc, .int .i64 m.mo]] w fun e w' => ∃ v, e = .returned (.agg #[.int .i64 m.el, v]) ∧ Below w.heap.size w w' ∧ w'.ownsRow w.heap.size 36 1 v (mdN m) (rowF (mdW m)) :=
  Matrix_d m.el m.SA m.sn m.sc m.sl m.RA m.rn m.rc m.rl m.mo w ok.hs ok.rs ok.hr ok.rr h1 h2
theorem fz_cell {w : World} {ad : Addr} {i j q : Nat} {X : List Value} {x : Value} (h : ∀ j x, X[j]? = some x → w.cell? ((ad.add i).add j) = some x) (hj : X[j]? = some x) (e : q = i + j) : w.cell? (ad.add q) = some x := by
  subst e
  rw [← Addr.add_add]; exact h j x hj
theorem enK_le {p : Int} {ds : List Md} {i : Nat} (h : fzE p ds i = 0) : enK ds i ≤ 16 := by
  obtain ⟨_, h0⟩ := frE_0 h
  have := (mxC_0 h0).1
  unfold enK; omega
theorem hgd_snoc {p : Int} {ds : List Md} {k : Nat} (h : ∀ i, i < k → fzE p ds i = 0) (hk : fzE p ds k = 0) : ∀ i, i < k + 1 → fzE p ds i = 0 := by
  intro j hj
  rcases Nat.lt_or_ge j k with q | q
  · exact h j q
  · obtain rfl : j = k := by omega
    exact hk

set_option maxRecDepth 100000 in
set_option maxHeartbeats 400000 in
theorem frames_small (A : Option Addr) (cap : Nat) (ds : List Md) (p cut : Int) (w0 : World) (hr : MdReads w0 A ds) (hl : ds.length ≤ 2) :
    Calls Try.prog 9 #[.slice A ds.length cap, .int .i64 p, .int .i64 cut] w0 fun e w' => e = .returned (.bool true) ∧ Below w0.heap.size w0 w' := by
  have S0 := St.start w0
  refine enter (n := 176) Try.func9 rfl rfl rfl (fun ac A0 => ?_)
  refine wp_seq ?_
  refine wp_region_lit ?_
  refine s_one (.bool false) A0 S0 (g_assign (by kernel_rfl)) rfl (fun ac A1 => ?_)
  refine wpList_nil ?_
  refine n_then ?_
  refine wp_seq ?_
  refine wp_seq ?_
  refine wp_region_lit ?_
  refine s_call (fs := #[]) (cp := #[]) (r := []) #[] (.bool true) A1 S0 (awake_any _) Try.call11 (by kernel_rfl) (by kernel_rfl) (by kernel_rfl) rfl (fun ac wc A2 S3 => ?_)
  refine s_one (.bool false) A2 S3 (g_un (u := .bool true) (by kernel_rfl) (fun _ => by kernel_rfl)) rfl (fun ac A5 => ?_)
  refine wpList_nil ?_
  refine n_then ?_
  refine c_f (b := false) A5 (by kernel_rfl) rfl ?_
  refine wp_skip ?_
  refine n_then ?_
  refine wp_seq ?_
  refine wp_seq ?_
  refine wp_region_lit ?_
  refine s_one (.slice A ds.length cap) A5 S3 (g_move (by kernel_rfl)) rfl (fun ac A6 => ?_)
  refine s_one (.int .i64 (ds.length : Int)) A6 S3 (g_built (r := [(0, .slice A ds.length cap)]) (by kernel_rfl) (fun _ _ _ => by kernel_rfl)) rfl (fun ac A7 => ?_)
  refine s_one (.bool (decide ((ds.length : Int) > 2))) A7 S3 (g_bin (u := .int .i64 (ds.length : Int)) (k := .int .i64 2) (by kernel_rfl) (by kernel_rfl) (fun _ => by kernel_rfl) (fun _ => by kernel_rfl)) rfl (fun ac A8 => ?_)
  refine wpList_nil ?_
  refine n_then ?_
  refine c_f (b := (decide ((ds.length : Int) > 2))) A8 (by kernel_rfl) (decide_eq_false (by omega)) ?_
  refine wp_skip ?_
  refine n_then ?_
  refine wp_seq ?_
  refine wp_region_lit ?_
  refine s_one (.string ⟨([] : List UInt8).toArray⟩) A8 S3 (g_assign (by kernel_rfl)) rfl (fun ac A9 => ?_)
  refine wpList_nil ?_
  refine n_then ?_
  refine wp_seq ?_
  refine wp_region_lit ?_
  refine s_one (.slice none 0 0) A9 S3 (g_assign (by kernel_rfl)) rfl (fun ac A10 => ?_)
  refine wpList_nil ?_
  refine n_then ?_
  refine wp_seq ?_
  refine wp_seq ?_
  refine wp_region_lit ?_
  refine s_one (.int .i64 0) A10 S3 (g_assign (by kernel_rfl)) rfl (fun ac A11 => ?_)
  refine wpList_nil ?_
  refine n_then ?_
  refine wp_block ?_
  have S12 := S3.nilRow 66 3
  refine c_loopN (fun mm ac wc => ∃ (vs : List Value) (v : Value), mm = ds.length - vs.length ∧ (vs.length ≤ ds.length) ∧ (∀ i, i < vs.length → fzE p ds i = 0) ∧ Fr 176 ac [(0, .slice A ds.length cap), (1, .int .i64 p), (2, .int .i64 cut), (22, .bool true), (23, .bool false), (24, .slice A ds.length cap), (25, .int .i64 (ds.length : Int)), (26, .bool (decide ((ds.length : Int) > 2))), (9, .int .i64 (vs.length : Int)), (7, .string ⟨(catF p ds vs.length).toArray⟩), (8, v)] ∧ St w0 [] (⟨v, 66, 3, vs.length, (fzX p ds vs)⟩ :: (fzR 36 ds vs)) wc) _ ⟨[], .slice none 0 0, rfl, Nat.zero_le _, fun i hi => absurd hi (Nat.not_lt_zero i), (A11.slot (A11.slot (A11.slot (A11.slot (A11.slot (A11.slot (A11.slot (A11.slot (A11.slot (A11.slot (A11.slot A11.nil (v := .slice none 0 0) (by kernel_rfl) (by first | rfl | simp)) (v := .string ⟨([] : List UInt8).toArray⟩) (by kernel_rfl) (str_congr rfl)) (v := .int .i64 0) (by kernel_rfl) rfl) (v := .bool (decide ((ds.length : Int) > 2))) (by kernel_rfl) rfl) (v := .int .i64 (ds.length : Int)) (by kernel_rfl) rfl) (v := .slice A ds.length cap) (by kernel_rfl) rfl) (v := .bool false) (by kernel_rfl) rfl) (v := .bool true) (by kernel_rfl) rfl) (v := .int .i64 cut) (by kernel_rfl) rfl) (v := .int .i64 p) (by kernel_rfl) rfl) (v := .slice A ds.length cap) (by kernel_rfl) rfl), (St.rerow 0 S12 rfl ⟨rfl, rfl⟩).sub sub_all sub_all⟩ ?_
  rintro mm ac wc ⟨vs, v, hm15, hk, hgd, A13, S14⟩
  have hmd : mdN (mdK ds vs.length) ≤ 600 := mkN_le _ _
  have hcf := catF_le p ds vs.length
  have hvl := fzX_length p ds vs
  refine wp_seq ?_
  refine wp_seq ?_
  refine wp_region_lit ?_
  refine s_one (.int .i64 (vs.length : Int)) A13 S14 (g_move (by kernel_rfl)) rfl (fun ac A16 => ?_)
  refine s_one (.slice A ds.length cap) A16 S14 (g_move (by kernel_rfl)) rfl (fun ac A17 => ?_)
  refine s_one (.int .i64 (ds.length : Int)) A17 S14 (g_built (r := [(0, .slice A ds.length cap)]) (by kernel_rfl) (fun _ _ _ => by kernel_rfl)) rfl (fun ac A18 => ?_)
  refine s_one (.bool (decide ((vs.length : Int) < (ds.length : Int)))) A18 S14 (g_bin (u := .int .i64 (vs.length : Int)) (k := .int .i64 (ds.length : Int)) (by kernel_rfl) (by kernel_rfl) (fun _ => by kernel_rfl) (fun _ => by kernel_rfl)) rfl (fun ac A19 => ?_)
  refine wpList_nil ?_
  refine n_then ?_
  refine c_ifb (b := (decide ((vs.length : Int) < (ds.length : Int)))) A19 (by kernel_rfl) (fun h20 => ?_) (fun h20 => ?_)
  · have p21 := of_decide_eq_true h20
    refine wp_skip ?_
    refine n_then ?_
    refine wp_seq ?_
    refine wp_block ?_
    refine wp_seq ?_
    refine wp_seq ?_
    refine wp_region_lit ?_
    refine s_one (.slice A ds.length cap) A19 S14 (g_move (by kernel_rfl)) rfl (fun ac A22 => ?_)
    refine s_one (.int .i64 (vs.length : Int)) A22 S14 (g_move (by kernel_rfl)) rfl (fun ac A23 => ?_)
    obtain ⟨ad24, he25, hx26⟩ := md_at hr (k := vs.length) (by omega)
    refine s_one (.pointer (some (ad24.add (vs.length * 4)))) A23 S14 (g_index (u := .slice A ds.length cap) (k := .int .i64 (vs.length : Int)) (by kernel_rfl) (by kernel_rfl) (ix_xsB (e := 25) (size := 4) (bytes := 64) vs.length (by kernel_rfl) (by omega) (by omega) he25)) rfl (fun ac A27 => ?_)
    refine s_one (.agg #[.int .i64 ((mdK ds vs.length).el), .slice (mdK ds vs.length).SA ((mdK ds vs.length).sn) (mdK ds vs.length).sc, .slice (mdK ds vs.length).RA ((mdK ds vs.length).rn) (mdK ds vs.length).rc, .int .i64 ((mdK ds vs.length).mo)]) A27 S14 (g_loadXV (p := ad24.add (vs.length * 4)) (X := mdC (mdK ds vs.length)) (by kernel_rfl) hx26 (by kernel_rfl) rfl) rfl (fun ac A28 => ?_)
    refine s_call (fs := #[]) (cp := #[]) (r := [(0, .agg #[.int .i64 ((mdK ds vs.length).el), .slice (mdK ds vs.length).SA ((mdK ds vs.length).sn) (mdK ds vs.length).sc, .slice (mdK ds vs.length).RA ((mdK ds vs.length).rn) (mdK ds vs.length).rc, .int .i64 ((mdK ds vs.length).mo)])]) #[.agg #[.int .i64 ((mdK ds vs.length).el), .slice (mdK ds vs.length).SA ((mdK ds vs.length).sn) (mdK ds vs.length).sc, .slice (mdK ds vs.length).RA ((mdK ds vs.length).rn) (mdK ds vs.length).rc, .int .i64 ((mdK ds vs.length).mo)]] (.bool ((decide (((mdK ds vs.length).sn : Int) ≤ 40)) && (decide (((mdK ds vs.length).rn : Int) ≤ 200)))) A28 S14 (few_s ((mdK ds vs.length).el) (mdK ds vs.length).SA ((mdK ds vs.length).sn) (mdK ds vs.length).sc (mdK ds vs.length).RA ((mdK ds vs.length).rn) (mdK ds vs.length).rc ((mdK ds vs.length).mo) _) Try.call12 (by kernel_rfl) (by kernel_rfl) (by kernel_rfl) rfl (fun ac wc A29 S30 => ?_)
    refine s_one (.bool (!((decide (((mdK ds vs.length).sn : Int) ≤ 40)) && (decide (((mdK ds vs.length).rn : Int) ≤ 200))))) A29 S30 (g_un (u := .bool ((decide (((mdK ds vs.length).sn : Int) ≤ 40)) && (decide (((mdK ds vs.length).rn : Int) ≤ 200)))) (by kernel_rfl) (fun _ => by kernel_rfl)) rfl (fun ac A32 => ?_)
    refine wpList_nil ?_
    refine n_then ?_
    refine c_ifb (b := (!((decide (((mdK ds vs.length).sn : Int) ≤ 40)) && (decide (((mdK ds vs.length).rn : Int) ≤ 200))))) A32 (by kernel_rfl) (fun h33 => ?_) (fun h33 => ?_)
    · have h34 : ((decide (((mdK ds vs.length).sn : Int) ≤ 40)) && (decide (((mdK ds vs.length).rn : Int) ≤ 200))) = false := Eq.mp (Bool.not_eq_true' _) h33
      refine wp_seq ?_
      refine wp_region_lit ?_
      refine s_one (.bool true) A32 S30 (g_assign (by kernel_rfl)) rfl (fun ac A35 => ?_)
      refine wpList_nil ?_
      refine n_then ?_
      refine wp_ret ?_
      refine r_then ?_
      refine r_block ?_
      refine r_then ?_
      refine r_then ?_
      refine r_block ?_
      refine r_then ?_
      refine fin1 (.bool true) Try.results9 A35 S30 (rv_tmp (by kernel_rfl)) ⟨?_, S30.kp⟩
      rfl
    · have h36 : ((decide (((mdK ds vs.length).sn : Int) ≤ 40)) && (decide (((mdK ds vs.length).rn : Int) ≤ 200))) = true := Eq.mp (Bool.not_eq_false' _) h33
      have h37 := (Bool.and_eq_true_iff.1 h36).1
      have p38 := of_decide_eq_true h37
      have h39 := (Bool.and_eq_true_iff.1 h36).2
      have p40 := of_decide_eq_true h39
      refine wp_skip ?_
      refine n_then ?_
      refine wp_seq ?_
      refine wp_region_lit ?_
      refine s_one (.int .i64 p) A32 S30 (g_move (by kernel_rfl)) rfl (fun ac A41 => ?_)
      refine s_one (.slice A ds.length cap) A41 S30 (g_move (by kernel_rfl)) rfl (fun ac A42 => ?_)
      refine s_one (.int .i64 (vs.length : Int)) A42 S30 (g_move (by kernel_rfl)) rfl (fun ac A43 => ?_)
      obtain ⟨ad44, he45, hx46⟩ := md_at hr (k := vs.length) (by omega)
      refine s_one (.pointer (some (ad44.add (vs.length * 4)))) A43 S30 (g_index (u := .slice A ds.length cap) (k := .int .i64 (vs.length : Int)) (by kernel_rfl) (by kernel_rfl) (ix_xsB (e := 25) (size := 4) (bytes := 64) vs.length (by kernel_rfl) (by omega) (by omega) he45)) rfl (fun ac A47 => ?_)
      refine s_one (.agg #[.int .i64 ((mdK ds vs.length).el), .slice (mdK ds vs.length).SA ((mdK ds vs.length).sn) (mdK ds vs.length).sc, .slice (mdK ds vs.length).RA ((mdK ds vs.length).rn) (mdK ds vs.length).rc, .int .i64 ((mdK ds vs.length).mo)]) A47 S30 (g_loadXV (p := ad44.add (vs.length * 4)) (X := mdC (mdK ds vs.length)) (by kernel_rfl) hx46 (by kernel_rfl) rfl) rfl (fun ac A48 => ?_)
      refine s_callRF (fs := #[]) (cp := #[]) (r := [(0, .agg #[.int .i64 ((mdK ds vs.length).el), .slice (mdK ds vs.length).SA ((mdK ds vs.length).sn) (mdK ds vs.length).sc, .slice (mdK ds vs.length).RA ((mdK ds vs.length).rn) (mdK ds vs.length).rc, .int .i64 ((mdK ds vs.length).mo)])]) (fun v => .agg #[.int .i64 ((mdK ds vs.length).el), v]) #[.agg #[.int .i64 ((mdK ds vs.length).el), .slice (mdK ds vs.length).SA ((mdK ds vs.length).sn) (mdK ds vs.length).sc, .slice (mdK ds vs.length).RA ((mdK ds vs.length).rn) (mdK ds vs.length).rc, .int .i64 ((mdK ds vs.length).mo)]] A48 S30 (Matrix_m (mdK ds vs.length) _ ((hr.2 vs.length (by omega)).kept S30.kp) (by omega) (by omega)) Try.call13 (by kernel_rfl) (by kernel_rfl) (by kernel_rfl) rfl (fun v52 ac wc A49 S50 => ?_)
      obtain ⟨hl53, A54, cap55, rfl, hc56, hr57⟩ := rowF_reads (v := v52) (m := (mdN (mdK ds vs.length))) (l := mdW (mdK ds vs.length)) (S50.row 0 rfl)
      refine s_one (.agg #[.int .i64 p, .int .i64 ((mdK ds vs.length).el), .slice A54 (mdN (mdK ds vs.length)) cap55]) A49 S50 (g_build (r := [(0, .int .i64 p), (1, .agg #[.int .i64 ((mdK ds vs.length).el), .slice A54 (mdN (mdK ds vs.length)) cap55])]) (by kernel_rfl) (fun _ => by kernel_rfl)) rfl (fun ac A58 => ?_)
      refine s_alloc (#[.int .i64 0, .int .i64 0, .slice none 0 0]) A58 S50 (by kernel_rfl) rfl (fun g61 ac wc A59 S60 => ?_)
      refine s_store (g := g61) (off := 0) (v := .agg #[.int .i64 p, .int .i64 ((mdK ds vs.length).el), .slice A54 (mdN (mdK ds vs.length)) cap55]) 0 (#[.int .i64 p, .int .i64 ((mdK ds vs.length).el), .slice A54 (mdN (mdK ds vs.length)) cap55]) A59 S60 (by kernel_rfl) (by kernel_rfl) rfl (by kernel_rfl) (fun wc S63 => ?_)
      refine wpList_nil ?_
      refine n_then ?_
      refine wp_seq ?_
      rcases Decidable.em (fzE p ds vs.length = 0) with hfz | hfz
      · refine wp_region_lit ?_
        refine s_one (.int .i64 p) A59 S63 (g_move (by kernel_rfl)) rfl (fun ac A65 => ?_)
        refine s_one (.slice A ds.length cap) A65 S63 (g_move (by kernel_rfl)) rfl (fun ac A66 => ?_)
        refine s_one (.int .i64 (vs.length : Int)) A66 S63 (g_move (by kernel_rfl)) rfl (fun ac A67 => ?_)
        obtain ⟨ad68, he69, hx70⟩ := md_at hr (k := vs.length) (by omega)
        refine s_one (.pointer (some (ad68.add (vs.length * 4)))) A67 S63 (g_index (u := .slice A ds.length cap) (k := .int .i64 (vs.length : Int)) (by kernel_rfl) (by kernel_rfl) (ix_xsB (e := 25) (size := 4) (bytes := 64) vs.length (by kernel_rfl) (by omega) (by omega) he69)) rfl (fun ac A71 => ?_)
        refine s_one (.agg #[.int .i64 ((mdK ds vs.length).el), .slice (mdK ds vs.length).SA ((mdK ds vs.length).sn) (mdK ds vs.length).sc, .slice (mdK ds vs.length).RA ((mdK ds vs.length).rn) (mdK ds vs.length).rc, .int .i64 ((mdK ds vs.length).mo)]) A71 S63 (g_loadXV (p := ad68.add (vs.length * 4)) (X := mdC (mdK ds vs.length)) (by kernel_rfl) hx70 (by kernel_rfl) rfl) rfl (fun ac A72 => ?_)
        refine s_callRF (fs := #[]) (cp := #[]) (r := [(0, .agg #[.int .i64 ((mdK ds vs.length).el), .slice (mdK ds vs.length).SA ((mdK ds vs.length).sn) (mdK ds vs.length).sc, .slice (mdK ds vs.length).RA ((mdK ds vs.length).rn) (mdK ds vs.length).rc, .int .i64 ((mdK ds vs.length).mo)])]) (fun v => .agg #[.int .i64 ((mdK ds vs.length).el), v]) #[.agg #[.int .i64 ((mdK ds vs.length).el), .slice (mdK ds vs.length).SA ((mdK ds vs.length).sn) (mdK ds vs.length).sc, .slice (mdK ds vs.length).RA ((mdK ds vs.length).rn) (mdK ds vs.length).rc, .int .i64 ((mdK ds vs.length).mo)]] A72 S63 (Matrix_m (mdK ds vs.length) _ ((hr.2 vs.length (by omega)).kept S63.kp) (by omega) (by omega)) Try.call13 (by kernel_rfl) (by kernel_rfl) (by kernel_rfl) rfl (fun v76 ac wc A73 S74 => ?_)
        obtain ⟨hl77, A78, cap79, rfl, hc80, hr81⟩ := rowF_reads (v := v76) (m := (mdN (mdK ds vs.length))) (l := mdW (mdK ds vs.length)) (S74.row 0 rfl)
        refine s_one (.agg #[.int .i64 p, .int .i64 ((mdK ds vs.length).el), .slice A78 (mdN (mdK ds vs.length)) cap79]) A73 S74 (g_build (r := [(0, .int .i64 p), (1, .agg #[.int .i64 ((mdK ds vs.length).el), .slice A78 (mdN (mdK ds vs.length)) cap79])]) (by kernel_rfl) (fun _ => by kernel_rfl)) rfl (fun ac A82 => ?_)
        refine s_call (fs := #[]) (cp := #[]) (r := [(0, .agg #[.int .i64 p, .int .i64 ((mdK ds vs.length).el), .slice A78 (mdN (mdK ds vs.length)) cap79])]) #[.agg #[.int .i64 p, .int .i64 ((mdK ds vs.length).el), .slice A78 (mdN (mdK ds vs.length)) cap79]] (.tuple #[.string ⟨(fmt p ((mdK ds vs.length).el) (mi (mdW (mdK ds vs.length)))).toArray⟩, .int .i64 0]) A82 S74 (FormatFrame_ok p ((mdK ds vs.length).el) A78 (mdN (mdK ds vs.length)) cap79 (mdW (mdK ds vs.length)) _ hl77 (row_fr (S74.row 0 rfl)) (by omega) hfz) Try.call46 (by kernel_rfl) (by kernel_rfl) (by kernel_rfl) rfl (fun ac wc A83 S84 => ?_)
        refine s_one (.tuple #[.string ⟨(fmt p ((mdK ds vs.length).el) (mi (mdW (mdK ds vs.length)))).toArray⟩, .int .i64 0]) A83 S84 (g_move (by kernel_rfl)) rfl (fun ac A86 => ?_)
        refine s_one (.string ⟨(fmt p ((mdK ds vs.length).el) (mi (mdW (mdK ds vs.length)))).toArray⟩) A86 S84 (g_extract (u := .tuple #[.string ⟨(fmt p ((mdK ds vs.length).el) (mi (mdW (mdK ds vs.length)))).toArray⟩, .int .i64 0]) (by kernel_rfl) (fun _ => by kernel_rfl)) rfl (fun ac A87 => ?_)
        refine s_one (.int .i64 0) A87 S84 (g_extract (u := .tuple #[.string ⟨(fmt p ((mdK ds vs.length).el) (mi (mdW (mdK ds vs.length)))).toArray⟩, .int .i64 0]) (by kernel_rfl) (fun _ => by kernel_rfl)) rfl (fun ac A88 => ?_)
        refine s_one (.string ⟨(fmt p ((mdK ds vs.length).el) (mi (mdW (mdK ds vs.length)))).toArray⟩) A88 S84 (g_assign (by kernel_rfl)) rfl (fun ac A89 => ?_)
        refine s_one (.int .i64 0) A89 S84 (g_assign (by kernel_rfl)) rfl (fun ac A90 => ?_)
        refine wpList_nil ?_
        refine n_then ?_
        refine wp_seq ?_
        refine wp_seq ?_
        refine wp_region_lit ?_
        refine s_one (.agg #[.int .i64 p, .int .i64 ((mdK ds vs.length).el), .slice A54 (mdN (mdK ds vs.length)) cap55]) A90 S84 (g_load (g := g61) (off := 0) 0 (by kernel_rfl) rfl (by kernel_rfl)) rfl (fun ac A91 => ?_)
        refine s_call (fs := #[]) (cp := #[]) (r := [(0, .agg #[.int .i64 p, .int .i64 ((mdK ds vs.length).el), .slice A54 (mdN (mdK ds vs.length)) cap55])]) #[.agg #[.int .i64 p, .int .i64 ((mdK ds vs.length).el), .slice A54 (mdN (mdK ds vs.length)) cap55]] (.int .i64 (frE p ((mdK ds vs.length).el) (mdW (mdK ds vs.length)))) A91 S84 (FrameErr_s p ((mdK ds vs.length).el) A54 (mdN (mdK ds vs.length)) cap55 (mdW (mdK ds vs.length)) _ hl77 (row_fr (S84.row 1 rfl)) (by omega)) Try.call47 (by kernel_rfl) (by kernel_rfl) (by kernel_rfl) rfl (fun ac wc A92 S93 => ?_)
        refine s_one (.int .i64 (frE p ((mdK ds vs.length).el) (mdW (mdK ds vs.length)))) A92 S93 (g_assign (by kernel_rfl)) rfl (fun ac A95 => ?_)
        refine wpList_nil ?_
        refine n_then ?_
        refine wp_seq ?_
        refine wp_region_lit ?_
        refine s_one (.int .i64 (frE p ((mdK ds vs.length).el) (mdW (mdK ds vs.length)))) A95 S93 (g_move (by kernel_rfl)) rfl (fun ac A96 => ?_)
        refine s_one (.bool (decide (frE p ((mdK ds vs.length).el) (mdW (mdK ds vs.length)) ≠ 0))) A96 S93 (g_bin (u := .int .i64 (frE p ((mdK ds vs.length).el) (mdW (mdK ds vs.length)))) (k := .int .i64 0) (by kernel_rfl) (by kernel_rfl) (fun _ => by kernel_rfl) b_neq) rfl (fun ac A97 => ?_)
        refine wpList_nil ?_
        refine n_then ?_
        refine c_f (b := (decide (frE p ((mdK ds vs.length).el) (mdW (mdK ds vs.length)) ≠ 0))) A97 (by kernel_rfl) (decide_eq_false (fun h => h hfz)) ?_
        refine wp_skip ?_
        refine n_then ?_
        refine wp_seq ?_
        refine wp_region_lit ?_
        refine s_one (.pointer (some ⟨g61, 1, none⟩)) A97 S93 (g_field (u := .pointer (some ⟨g61, 0, none⟩)) (by kernel_rfl) (fun _ => by kernel_rfl)) rfl (fun ac A98 => ?_)
        refine s_one (.agg #[.int .i64 ((mdK ds vs.length).el), .slice A54 (mdN (mdK ds vs.length)) cap55]) A98 S93 (g_load (g := g61) (off := 1) 0 (by kernel_rfl) rfl (by kernel_rfl)) rfl (fun ac A99 => ?_)
        have hfm : (fw (mi (mdW (mdK ds vs.length)))).length = (mdN (mdK ds vs.length)) := (fw_length _).trans ((mi_length _).trans hl77)
        refine s_callRF (fs := #[]) (cp := #[]) (r := [(0, .agg #[.int .i64 ((mdK ds vs.length).el), .slice A54 (mdN (mdK ds vs.length)) cap55])]) (fun v => .agg #[.int .i64 ((mdK ds vs.length).el), v]) #[.agg #[.int .i64 ((mdK ds vs.length).el), .slice A54 (mdN (mdK ds vs.length)) cap55]] A99 S93 (Plain_s ((mdK ds vs.length).el) A54 (mdN (mdK ds vs.length)) cap55 (mdW (mdK ds vs.length)) _ hl77 (row_fr (S93.row 1 rfl)) (by omega) (right_of (mxC_0 (frE_0 hfz).2).2.2)) Try.call27 (by kernel_rfl) (by kernel_rfl) (by kernel_rfl) rfl (fun v103 ac wc A100 S101 => ?_)
        obtain ⟨hl104, A105, cap106, rfl, hc107, hr108⟩ := rowF_reads (v := v103) (m := (mdN (mdK ds vs.length))) (l := fw (mi (mdW (mdK ds vs.length)))) (S101.row 0 rfl)
        refine s_one (.pointer (some ⟨g61, 1, none⟩)) A100 S101 (g_field (u := .pointer (some ⟨g61, 0, none⟩)) (by kernel_rfl) (fun _ => by kernel_rfl)) rfl (fun ac A109 => ?_)
        refine s_store (g := g61) (off := 1) (v := .agg #[.int .i64 ((mdK ds vs.length).el), .slice A105 (mdN (mdK ds vs.length)) cap106]) 0 (#[.int .i64 p, .int .i64 ((mdK ds vs.length).el), .slice A105 (mdN (mdK ds vs.length)) cap106]) A109 S101 (by kernel_rfl) (by kernel_rfl) rfl (by kernel_rfl) (fun wc S111 => ?_)
        refine wpList_nil ?_
        refine n_then ?_
        refine wp_seq ?_
        refine wp_seq ?_
        refine wp_region_lit ?_
        refine s_one (.int .i64 0) A109 S111 (g_move (by kernel_rfl)) rfl (fun ac A113 => ?_)
        refine s_one (.bool (decide (0 ≠ 0))) A113 S111 (g_bin (u := .int .i64 0) (k := .int .i64 0) (by kernel_rfl) (by kernel_rfl) (fun _ => by kernel_rfl) b_neq) rfl (fun ac A114 => ?_)
        refine s_one (.bool (decide (0 ≠ 0))) A114 S111 (g_move (by kernel_rfl)) rfl (fun ac A115 => ?_)
        refine s_want (dj := 74) (b := (decide (0 ≠ 0))) A115 (by kernel_rfl) (by kernel_rfl) (by decide) ?_
        refine s_one (.string ⟨(fmt p ((mdK ds vs.length).el) (mi (mdW (mdK ds vs.length)))).toArray⟩) A115 S111 (g_move (by kernel_rfl)) rfl (fun ac A116 => ?_)
        refine s_want (dj := 74) (b := (decide (0 ≠ 0))) A116 (by kernel_rfl) (by kernel_rfl) (by decide) ?_
        refine s_one (.agg #[.int .i64 p, .int .i64 ((mdK ds vs.length).el), .slice A105 (mdN (mdK ds vs.length)) cap106]) A116 S111 (g_load (g := g61) (off := 0) 0 (by kernel_rfl) rfl (by kernel_rfl)) rfl (fun ac A117 => ?_)
        refine s_want (dj := 74) (b := (decide (0 ≠ 0))) A117 (by kernel_rfl) (by kernel_rfl) (by decide) ?_
        refine s_call (fs := #[]) (cp := #[]) (r := [(0, .agg #[.int .i64 p, .int .i64 ((mdK ds vs.length).el), .slice A105 (mdN (mdK ds vs.length)) cap106])]) #[.agg #[.int .i64 p, .int .i64 ((mdK ds vs.length).el), .slice A105 (mdN (mdK ds vs.length)) cap106]] (.string ⟨(fmt p ((mdK ds vs.length).el) (mi (mdW (mdK ds vs.length)))).toArray⟩) A117 S111 (reff_fmt p ((mdK ds vs.length).el) A105 (mdN (mdK ds vs.length)) cap106 (mdW (mdK ds vs.length)) _ hl77 (row_fr (S111.row 0 rfl)) (by omega) hfz) Try.call48 (by kernel_rfl) (by kernel_rfl) (by kernel_rfl) rfl (fun ac wc A118 S119 => ?_)
        refine s_want (dj := 74) (b := (decide (0 ≠ 0))) A118 (by kernel_rfl) (by kernel_rfl) (by decide) ?_
        refine s_one (.bool (decide (fmt p ((mdK ds vs.length).el) (mi (mdW (mdK ds vs.length))) ≠ fmt p ((mdK ds vs.length).el) (mi (mdW (mdK ds vs.length)))))) A118 S119 (g_bin (u := .string ⟨(fmt p ((mdK ds vs.length).el) (mi (mdW (mdK ds vs.length)))).toArray⟩) (k := .string ⟨(fmt p ((mdK ds vs.length).el) (mi (mdW (mdK ds vs.length)))).toArray⟩) (by kernel_rfl) (by kernel_rfl) (fun _ => by kernel_rfl) (q_strN (l := fmt p ((mdK ds vs.length).el) (mi (mdW (mdK ds vs.length)))) (m := fmt p ((mdK ds vs.length).el) (mi (mdW (mdK ds vs.length)))))) rfl (fun ac A121 => ?_)
        refine s_one (.bool (decide (fmt p ((mdK ds vs.length).el) (mi (mdW (mdK ds vs.length))) ≠ fmt p ((mdK ds vs.length).el) (mi (mdW (mdK ds vs.length)))))) A121 S119 (g_pick_f (b := (decide (0 ≠ 0))) (by kernel_rfl) (by decide) (by kernel_rfl)) rfl (fun ac A122 => ?_)
        refine wpList_nil ?_
        refine n_then ?_
        refine c_f (b := (decide (fmt p ((mdK ds vs.length).el) (mi (mdW (mdK ds vs.length))) ≠ fmt p ((mdK ds vs.length).el) (mi (mdW (mdK ds vs.length)))))) A122 (by kernel_rfl) (decide_eq_false (fun h => h rfl)) ?_
        refine wp_skip ?_
        refine n_then ?_
        refine wp_seq ?_
        refine wp_region_lit ?_
        refine s_one (.string ⟨(fmt p ((mdK ds vs.length).el) (mi (mdW (mdK ds vs.length)))).toArray⟩) A122 S119 (g_move (by kernel_rfl)) rfl (fun ac A123 => ?_)
        refine s_callRF (fs := #[]) (cp := #[]) (r := [(0, .string ⟨(fmt p ((mdK ds vs.length).el) (mi (mdW (mdK ds vs.length)))).toArray⟩)]) (fun v => .tuple #[.agg #[.int .i64 p, .int .i64 ((mdK ds vs.length).el), v], .int .i64 0]) #[.string ⟨(fmt p ((mdK ds vs.length).el) (mi (mdW (mdK ds vs.length)))).toArray⟩] A123 S119 (parse_fmt p ((mdK ds vs.length).el) (mdW (mdK ds vs.length)) (mdN (mdK ds vs.length)) _ hl77 (by omega) hfz) Try.call31 (by kernel_rfl) (by kernel_rfl) (by kernel_rfl) rfl (fun v127 ac wc A124 S125 => ?_)
        obtain ⟨hl128, A129, cap130, rfl, hc131, hr132⟩ := rowF_reads (v := v127) (m := (mdN (mdK ds vs.length))) (l := fw (mi (mdW (mdK ds vs.length)))) (S125.row 0 rfl)
        refine s_one (.tuple #[.agg #[.int .i64 p, .int .i64 ((mdK ds vs.length).el), .slice A129 (mdN (mdK ds vs.length)) cap130], .int .i64 0]) A124 S125 (g_move (by kernel_rfl)) rfl (fun ac A133 => ?_)
        refine s_one (.agg #[.int .i64 p, .int .i64 ((mdK ds vs.length).el), .slice A129 (mdN (mdK ds vs.length)) cap130]) A133 S125 (g_extract (u := .tuple #[.agg #[.int .i64 p, .int .i64 ((mdK ds vs.length).el), .slice A129 (mdN (mdK ds vs.length)) cap130], .int .i64 0]) (by kernel_rfl) (fun _ => by kernel_rfl)) rfl (fun ac A134 => ?_)
        refine s_one (.int .i64 0) A134 S125 (g_extract (u := .tuple #[.agg #[.int .i64 p, .int .i64 ((mdK ds vs.length).el), .slice A129 (mdN (mdK ds vs.length)) cap130], .int .i64 0]) (by kernel_rfl) (fun _ => by kernel_rfl)) rfl (fun ac A135 => ?_)
        refine s_alloc (#[.int .i64 0, .int .i64 0, .slice none 0 0]) A135 S125 (by kernel_rfl) rfl (fun g138 ac wc A136 S137 => ?_)
        refine s_store (g := g138) (off := 0) (v := .agg #[.int .i64 p, .int .i64 ((mdK ds vs.length).el), .slice A129 (mdN (mdK ds vs.length)) cap130]) 0 (#[.int .i64 p, .int .i64 ((mdK ds vs.length).el), .slice A129 (mdN (mdK ds vs.length)) cap130]) A136 S137 (by kernel_rfl) (by kernel_rfl) rfl (by kernel_rfl) (fun wc S140 => ?_)
        refine s_one (.int .i64 0) A136 S140 (g_assign (by kernel_rfl)) rfl (fun ac A142 => ?_)
        refine wpList_nil ?_
        refine n_then ?_
        refine wp_seq ?_
        refine wp_seq ?_
        refine wp_region_lit ?_
        refine s_one (.int .i64 0) A142 S140 (g_move (by kernel_rfl)) rfl (fun ac A143 => ?_)
        refine s_one (.bool (decide (0 ≠ 0))) A143 S140 (g_bin (u := .int .i64 0) (k := .int .i64 0) (by kernel_rfl) (by kernel_rfl) (fun _ => by kernel_rfl) b_neq) rfl (fun ac A144 => ?_)
        refine s_one (.bool (decide (0 ≠ 0))) A144 S140 (g_move (by kernel_rfl)) rfl (fun ac A145 => ?_)
        refine s_want (dj := 87) (b := (decide (0 ≠ 0))) A145 (by kernel_rfl) (by kernel_rfl) (by decide) ?_
        refine s_one (.agg #[.int .i64 p, .int .i64 ((mdK ds vs.length).el), .slice A129 (mdN (mdK ds vs.length)) cap130]) A145 S140 (g_load (g := g138) (off := 0) 0 (by kernel_rfl) rfl (by kernel_rfl)) rfl (fun ac A146 => ?_)
        refine s_want (dj := 87) (b := (decide (0 ≠ 0))) A146 (by kernel_rfl) (by kernel_rfl) (by decide) ?_
        refine s_one (.agg #[.int .i64 p, .int .i64 ((mdK ds vs.length).el), .slice A105 (mdN (mdK ds vs.length)) cap106]) A146 S140 (g_load (g := g61) (off := 0) 1 (by kernel_rfl) rfl (by kernel_rfl)) rfl (fun ac A147 => ?_)
        refine s_want (dj := 87) (b := (decide (0 ≠ 0))) A147 (by kernel_rfl) (by kernel_rfl) (by decide) ?_
        refine s_call (fs := #[]) (cp := #[]) (r := [(0, .agg #[.int .i64 p, .int .i64 ((mdK ds vs.length).el), .slice A129 (mdN (mdK ds vs.length)) cap130]), (0, .agg #[.int .i64 p, .int .i64 ((mdK ds vs.length).el), .slice A105 (mdN (mdK ds vs.length)) cap106])]) #[.agg #[.int .i64 p, .int .i64 ((mdK ds vs.length).el), .slice A129 (mdN (mdK ds vs.length)) cap130], .agg #[.int .i64 p, .int .i64 ((mdK ds vs.length).el), .slice A105 (mdN (mdK ds vs.length)) cap106]] (.bool true) A147 S140 (sameFrame_s p ((mdK ds vs.length).el) A129 A105 cap130 cap106 (mdN (mdK ds vs.length)) (fw (mi (mdW (mdK ds vs.length)))) _ hl128 (by omega) (row_fr (S140.row 0 rfl)) (row_fr (S140.row 1 rfl))) Try.call33 (by kernel_rfl) (by kernel_rfl) (by kernel_rfl) rfl (fun ac wc A148 S149 => ?_)
        refine s_want (dj := 87) (b := (decide (0 ≠ 0))) A148 (by kernel_rfl) (by kernel_rfl) (by decide) ?_
        refine s_one (.bool false) A148 S149 (g_un (u := .bool true) (by kernel_rfl) (fun _ => by kernel_rfl)) rfl (fun ac A151 => ?_)
        refine s_one (.bool false) A151 S149 (g_pick_f (b := (decide (0 ≠ 0))) (by kernel_rfl) (by decide) (by kernel_rfl)) rfl (fun ac A152 => ?_)
        refine wpList_nil ?_
        refine n_then ?_
        refine c_f (b := false) A152 (by kernel_rfl) rfl ?_
        refine wp_skip ?_
        refine n_then ?_
        refine wp_region_lit ?_
        refine s_one (.string ⟨(catF p ds vs.length).toArray⟩) A152 S149 (g_move (by kernel_rfl)) rfl (fun ac A153 => ?_)
        refine s_one (.string ⟨(fmt p ((mdK ds vs.length).el) (mi (mdW (mdK ds vs.length)))).toArray⟩) A153 S149 (g_move (by kernel_rfl)) rfl (fun ac A154 => ?_)
        refine s_one (.string ⟨((catF p ds vs.length) ++ fmt p ((mdK ds vs.length).el) (mi (mdW (mdK ds vs.length)))).toArray⟩) A154 S149 (g_bin (u := .string ⟨(catF p ds vs.length).toArray⟩) (k := .string ⟨(fmt p ((mdK ds vs.length).el) (mi (mdW (mdK ds vs.length)))).toArray⟩) (by kernel_rfl) (by kernel_rfl) (fun _ => by kernel_rfl) (b_cat (by rw [fmt_length, mi_length, mdW_length]; omega))) rfl (fun ac A155 => ?_)
        refine s_one (v) A155 S149 (g_move (by kernel_rfl)) rfl (fun ac A156 => ?_)
        refine s_one (.agg #[.int .i64 p, .int .i64 ((mdK ds vs.length).el), .slice A105 (mdN (mdK ds vs.length)) cap106]) A156 S149 (g_load (g := g61) (off := 0) 1 (by kernel_rfl) rfl (by kernel_rfl)) rfl (fun ac A157 => ?_)
        refine s_bs (e := 66) (r := [(0, .agg #[.int .i64 p, .int .i64 ((mdK ds vs.length).el), .slice A105 (mdN (mdK ds vs.length)) cap106])]) (#[.int .i64 p, .int .i64 ((mdK ds vs.length).el), .slice A105 (mdN (mdK ds vs.length)) cap106]) A157 S149 (by kernel_rfl) (by kernel_rfl) rfl (fun g160 ac wc A158 S159 => ?_)
        refine s_append (e := 66) (size := 3) (bytes := 40) (v := v) (g := g160) (m' := 1) (c := 1) 4 0 [.int .i64 p, .int .i64 ((mdK ds vs.length).el), .slice A105 (mdN (mdK ds vs.length)) cap106] A158 S159 (by kernel_rfl) (by kernel_rfl) (by kernel_rfl) rfl rfl (by kernel_rfl) rfl (by kernel_rfl) (by omega) (by omega) rfl (fun v164 ac wc A161 S162 => ?_)
        refine s_one (.string ⟨((catF p ds vs.length) ++ fmt p ((mdK ds vs.length).el) (mi (mdW (mdK ds vs.length)))).toArray⟩) A161 S162 (g_assign (by kernel_rfl)) rfl (fun ac A165 => ?_)
        refine s_one (v164) A165 S162 (g_assign (by kernel_rfl)) rfl (fun ac A166 => ?_)
        refine wpList_nil ?_
        refine n_block ?_
        refine n_then ?_
        refine wp_region_lit ?_
        refine s_one (.int .i64 (vs.length : Int)) A166 S162 (g_move (by kernel_rfl)) rfl (fun ac A167 => ?_)
        refine s_one (.int .i64 ((vs.length : Int) + 1)) A167 S162 (g_bin (u := .int .i64 (vs.length : Int)) (k := .int .i64 1) (by kernel_rfl) (by kernel_rfl) (fun _ => by kernel_rfl) (b_add (by omega))) rfl (fun ac A168 => ?_)
        refine s_one (.int .i64 ((vs.length : Int) + 1)) A168 S162 (g_assign (by kernel_rfl)) rfl (fun ac A169 => ?_)
        refine wpList_nil ?_
        refine n_then ?_
        have q9 := St.permM (S162.sub sub_nil (sub_skip (sub_keep (sub_skip (sub_skip sub_all))))) (List.Perm.swap _ _ _)
        have SP : St w0 [] (⟨v164, 66, 3, (((Value.slice A105 (mdN (mdK ds vs.length)) cap106) :: vs).length), (fzX p ds ((Value.slice A105 (mdN (mdK ds vs.length)) cap106) :: vs))⟩ :: (fzR 36 ds ((Value.slice A105 (mdN (mdK ds vs.length)) cap106) :: vs))) _ := q9
        have ha : ((Value.slice A105 (mdN (mdK ds vs.length)) cap106) :: vs).length = vs.length + 1 := rfl
        refine ⟨_, ⟨((Value.slice A105 (mdN (mdK ds vs.length)) cap106) :: vs), v164, rfl, by omega, hgd_snoc hgd hfz, (A169.slot (A169.slot (A169.slot (A169.slot (A169.slot (A169.slot (A169.slot (A169.slot (A169.slot (A169.slot (A169.slot A169.nil (v := v164) (by kernel_rfl) rfl) (v := .string ⟨((catF p ds vs.length) ++ fmt p ((mdK ds vs.length).el) (mi (mdW (mdK ds vs.length)))).toArray⟩) (by kernel_rfl) (str_congr rfl)) (v := .int .i64 ((vs.length : Int) + 1)) (by kernel_rfl) (congrArg (Value.int .i64) (by rw [ha]; omega))) (v := .bool (decide ((ds.length : Int) > 2))) (by kernel_rfl) rfl) (v := .int .i64 (ds.length : Int)) (by kernel_rfl) rfl) (v := .slice A ds.length cap) (by kernel_rfl) rfl) (v := .bool false) (by kernel_rfl) rfl) (v := .bool true) (by kernel_rfl) rfl) (v := .int .i64 cut) (by kernel_rfl) rfl) (v := .int .i64 p) (by kernel_rfl) rfl) (v := .slice A ds.length cap) (by kernel_rfl) rfl), (St.rerow 0 SP rfl ⟨rfl, rfl⟩).sub sub_all sub_all⟩, ?_⟩
        omega
      · refine wp_region_lit ?_
        refine s_one (.int .i64 p) A59 S63 (g_move (by kernel_rfl)) rfl (fun ac A170 => ?_)
        refine s_one (.slice A ds.length cap) A170 S63 (g_move (by kernel_rfl)) rfl (fun ac A171 => ?_)
        refine s_one (.int .i64 (vs.length : Int)) A171 S63 (g_move (by kernel_rfl)) rfl (fun ac A172 => ?_)
        obtain ⟨ad173, he174, hx175⟩ := md_at hr (k := vs.length) (by omega)
        refine s_one (.pointer (some (ad173.add (vs.length * 4)))) A172 S63 (g_index (u := .slice A ds.length cap) (k := .int .i64 (vs.length : Int)) (by kernel_rfl) (by kernel_rfl) (ix_xsB (e := 25) (size := 4) (bytes := 64) vs.length (by kernel_rfl) (by omega) (by omega) he174)) rfl (fun ac A176 => ?_)
        refine s_one (.agg #[.int .i64 ((mdK ds vs.length).el), .slice (mdK ds vs.length).SA ((mdK ds vs.length).sn) (mdK ds vs.length).sc, .slice (mdK ds vs.length).RA ((mdK ds vs.length).rn) (mdK ds vs.length).rc, .int .i64 ((mdK ds vs.length).mo)]) A176 S63 (g_loadXV (p := ad173.add (vs.length * 4)) (X := mdC (mdK ds vs.length)) (by kernel_rfl) hx175 (by kernel_rfl) rfl) rfl (fun ac A177 => ?_)
        refine s_callRF (fs := #[]) (cp := #[]) (r := [(0, .agg #[.int .i64 ((mdK ds vs.length).el), .slice (mdK ds vs.length).SA ((mdK ds vs.length).sn) (mdK ds vs.length).sc, .slice (mdK ds vs.length).RA ((mdK ds vs.length).rn) (mdK ds vs.length).rc, .int .i64 ((mdK ds vs.length).mo)])]) (fun v => .agg #[.int .i64 ((mdK ds vs.length).el), v]) #[.agg #[.int .i64 ((mdK ds vs.length).el), .slice (mdK ds vs.length).SA ((mdK ds vs.length).sn) (mdK ds vs.length).sc, .slice (mdK ds vs.length).RA ((mdK ds vs.length).rn) (mdK ds vs.length).rc, .int .i64 ((mdK ds vs.length).mo)]] A177 S63 (Matrix_m (mdK ds vs.length) _ ((hr.2 vs.length (by omega)).kept S63.kp) (by omega) (by omega)) Try.call13 (by kernel_rfl) (by kernel_rfl) (by kernel_rfl) rfl (fun v181 ac wc A178 S179 => ?_)
        obtain ⟨hl182, A183, cap184, rfl, hc185, hr186⟩ := rowF_reads (v := v181) (m := (mdN (mdK ds vs.length))) (l := mdW (mdK ds vs.length)) (S179.row 0 rfl)
        refine s_one (.agg #[.int .i64 p, .int .i64 ((mdK ds vs.length).el), .slice A183 (mdN (mdK ds vs.length)) cap184]) A178 S179 (g_build (r := [(0, .int .i64 p), (1, .agg #[.int .i64 ((mdK ds vs.length).el), .slice A183 (mdN (mdK ds vs.length)) cap184])]) (by kernel_rfl) (fun _ => by kernel_rfl)) rfl (fun ac A187 => ?_)
        refine s_call (fs := #[]) (cp := #[]) (r := [(0, .agg #[.int .i64 p, .int .i64 ((mdK ds vs.length).el), .slice A183 (mdN (mdK ds vs.length)) cap184])]) #[.agg #[.int .i64 p, .int .i64 ((mdK ds vs.length).el), .slice A183 (mdN (mdK ds vs.length)) cap184]] (.tuple #[.string ⟨([] : List UInt8).toArray⟩, .int .i64 (frE p ((mdK ds vs.length).el) (mdW (mdK ds vs.length)))]) A187 S179 (FormatFrame_err p ((mdK ds vs.length).el) A183 (mdN (mdK ds vs.length)) cap184 (mdW (mdK ds vs.length)) _ hl182 (row_fr (S179.row 0 rfl)) (by omega) hfz) Try.call46 (by kernel_rfl) (by kernel_rfl) (by kernel_rfl) rfl (fun ac wc A188 S189 => ?_)
        refine s_one (.tuple #[.string ⟨([] : List UInt8).toArray⟩, .int .i64 (frE p ((mdK ds vs.length).el) (mdW (mdK ds vs.length)))]) A188 S189 (g_move (by kernel_rfl)) rfl (fun ac A191 => ?_)
        refine s_one (.string ⟨([] : List UInt8).toArray⟩) A191 S189 (g_extract (u := .tuple #[.string ⟨([] : List UInt8).toArray⟩, .int .i64 (frE p ((mdK ds vs.length).el) (mdW (mdK ds vs.length)))]) (by kernel_rfl) (fun _ => by kernel_rfl)) rfl (fun ac A192 => ?_)
        refine s_one (.int .i64 (frE p ((mdK ds vs.length).el) (mdW (mdK ds vs.length)))) A192 S189 (g_extract (u := .tuple #[.string ⟨([] : List UInt8).toArray⟩, .int .i64 (frE p ((mdK ds vs.length).el) (mdW (mdK ds vs.length)))]) (by kernel_rfl) (fun _ => by kernel_rfl)) rfl (fun ac A193 => ?_)
        refine s_one (.string ⟨([] : List UInt8).toArray⟩) A193 S189 (g_assign (by kernel_rfl)) rfl (fun ac A194 => ?_)
        refine s_one (.int .i64 (frE p ((mdK ds vs.length).el) (mdW (mdK ds vs.length)))) A194 S189 (g_assign (by kernel_rfl)) rfl (fun ac A195 => ?_)
        refine wpList_nil ?_
        refine n_then ?_
        refine wp_seq ?_
        refine wp_seq ?_
        refine wp_region_lit ?_
        refine s_one (.agg #[.int .i64 p, .int .i64 ((mdK ds vs.length).el), .slice A54 (mdN (mdK ds vs.length)) cap55]) A195 S189 (g_load (g := g61) (off := 0) 0 (by kernel_rfl) rfl (by kernel_rfl)) rfl (fun ac A196 => ?_)
        refine s_call (fs := #[]) (cp := #[]) (r := [(0, .agg #[.int .i64 p, .int .i64 ((mdK ds vs.length).el), .slice A54 (mdN (mdK ds vs.length)) cap55])]) #[.agg #[.int .i64 p, .int .i64 ((mdK ds vs.length).el), .slice A54 (mdN (mdK ds vs.length)) cap55]] (.int .i64 (frE p ((mdK ds vs.length).el) (mdW (mdK ds vs.length)))) A196 S189 (FrameErr_s p ((mdK ds vs.length).el) A54 (mdN (mdK ds vs.length)) cap55 (mdW (mdK ds vs.length)) _ hl182 (row_fr (S189.row 1 rfl)) (by omega)) Try.call47 (by kernel_rfl) (by kernel_rfl) (by kernel_rfl) rfl (fun ac wc A197 S198 => ?_)
        refine s_one (.int .i64 (frE p ((mdK ds vs.length).el) (mdW (mdK ds vs.length)))) A197 S198 (g_assign (by kernel_rfl)) rfl (fun ac A200 => ?_)
        refine wpList_nil ?_
        refine n_then ?_
        refine wp_seq ?_
        refine wp_region_lit ?_
        refine s_one (.int .i64 (frE p ((mdK ds vs.length).el) (mdW (mdK ds vs.length)))) A200 S198 (g_move (by kernel_rfl)) rfl (fun ac A201 => ?_)
        refine s_one (.bool (decide (frE p ((mdK ds vs.length).el) (mdW (mdK ds vs.length)) ≠ 0))) A201 S198 (g_bin (u := .int .i64 (frE p ((mdK ds vs.length).el) (mdW (mdK ds vs.length)))) (k := .int .i64 0) (by kernel_rfl) (by kernel_rfl) (fun _ => by kernel_rfl) b_neq) rfl (fun ac A202 => ?_)
        refine wpList_nil ?_
        refine n_then ?_
        refine c_t (b := (decide (frE p ((mdK ds vs.length).el) (mdW (mdK ds vs.length)) ≠ 0))) A202 (by kernel_rfl) (decide_eq_true hfz) ?_
        refine wp_seq ?_
        refine wp_region_lit ?_
        refine s_one (.int .i64 (frE p ((mdK ds vs.length).el) (mdW (mdK ds vs.length)))) A202 S198 (g_move (by kernel_rfl)) rfl (fun ac A203 => ?_)
        refine s_one (.int .i64 (frE p ((mdK ds vs.length).el) (mdW (mdK ds vs.length)))) A203 S198 (g_move (by kernel_rfl)) rfl (fun ac A204 => ?_)
        refine s_one (.bool (decide (frE p ((mdK ds vs.length).el) (mdW (mdK ds vs.length)) = frE p ((mdK ds vs.length).el) (mdW (mdK ds vs.length))))) A204 S198 (g_bin (u := .int .i64 (frE p ((mdK ds vs.length).el) (mdW (mdK ds vs.length)))) (k := .int .i64 (frE p ((mdK ds vs.length).el) (mdW (mdK ds vs.length)))) (by kernel_rfl) (by kernel_rfl) (fun _ => by kernel_rfl) b_eql) rfl (fun ac A205 => ?_)
        refine s_one (.bool (decide (frE p ((mdK ds vs.length).el) (mdW (mdK ds vs.length)) = frE p ((mdK ds vs.length).el) (mdW (mdK ds vs.length))))) A205 S198 (g_move (by kernel_rfl)) rfl (fun ac A206 => ?_)
        refine s_want (dj := 64) (b := (decide (frE p ((mdK ds vs.length).el) (mdW (mdK ds vs.length)) = frE p ((mdK ds vs.length).el) (mdW (mdK ds vs.length))))) A206 (by kernel_rfl) (by kernel_rfl) (decide_eq_true rfl) ?_
        refine s_one (.string ⟨([] : List UInt8).toArray⟩) A206 S198 (g_move (by kernel_rfl)) rfl (fun ac A207 => ?_)
        refine s_want (dj := 64) (b := (decide (frE p ((mdK ds vs.length).el) (mdW (mdK ds vs.length)) = frE p ((mdK ds vs.length).el) (mdW (mdK ds vs.length))))) A207 (by kernel_rfl) (by kernel_rfl) (decide_eq_true rfl) ?_
        refine s_one (.bool (decide (([] : List UInt8) = ([] : List UInt8)))) A207 S198 (g_bin (u := .string ⟨([] : List UInt8).toArray⟩) (k := .string ⟨([] : List UInt8).toArray⟩) (by kernel_rfl) (by kernel_rfl) (fun _ => by kernel_rfl) (q_str (l := ([] : List UInt8)) (m := ([] : List UInt8)))) rfl (fun ac A208 => ?_)
        refine s_one (.bool (decide (([] : List UInt8) = ([] : List UInt8)))) A208 S198 (g_pick_t (b := (decide (frE p ((mdK ds vs.length).el) (mdW (mdK ds vs.length)) = frE p ((mdK ds vs.length).el) (mdW (mdK ds vs.length))))) (by kernel_rfl) (decide_eq_true rfl) (by kernel_rfl)) rfl (fun ac A209 => ?_)
        refine s_one (.bool (decide (([] : List UInt8) = ([] : List UInt8)))) A209 S198 (g_assign (by kernel_rfl)) rfl (fun ac A210 => ?_)
        refine wpList_nil ?_
        refine n_then ?_
        refine wp_ret ?_
        refine r_then ?_
        refine r_block ?_
        refine r_then ?_
        refine r_then ?_
        refine r_block ?_
        refine r_then ?_
        refine fin1 (.bool (decide (([] : List UInt8) = ([] : List UInt8)))) Try.results9 A210 S198 (rv_tmp (by kernel_rfl)) ⟨?_, S198.kp⟩
        exact congrArg (fun b => Ending.returned (Value.bool b)) (decide_eq_true rfl)
  · have p211 := of_decide_eq_false h20
    refine wp_exit ?_
    refine x_then ?_
    refine x_then ?_
    refine x_hit ?_
    refine n_then ?_
    refine wp_seq ?_
    refine wp_region_lit ?_
    refine s_one (.int .i64 cut) A19 S14 (g_move (by kernel_rfl)) rfl (fun ac A212 => ?_)
    refine s_one (.string ⟨(catF p ds vs.length).toArray⟩) A212 S14 (g_move (by kernel_rfl)) rfl (fun ac A213 => ?_)
    refine s_one (.int .i64 ((catF p ds vs.length).length : Int)) A213 S14 (g_built (r := [(0, .string ⟨(catF p ds vs.length).toArray⟩)]) (by kernel_rfl) (fun ty cs w => bl_str (l := (catF p ds vs.length)) Try.underlying9 ty cs w)) rfl (fun ac A214 => ?_)
    refine s_one (.int .i64 (((catF p ds vs.length).length : Int) + 1)) A214 S14 (g_bin (u := .int .i64 ((catF p ds vs.length).length : Int)) (k := .int .i64 1) (by kernel_rfl) (by kernel_rfl) (fun _ => by kernel_rfl) (b_add (by omega))) rfl (fun ac A215 => ?_)
    have q219 := Int.emod_nonneg cut (b := ((catF p ds vs.length).length : Int) + 1) (by omega)
    have q220 := Int.emod_lt_of_pos cut (b := ((catF p ds vs.length).length : Int) + 1) (by omega)
    refine s_call (fs := #[]) (cp := #[]) (r := [(0, .int .i64 cut), (0, .int .i64 (((catF p ds vs.length).length : Int) + 1))]) #[.int .i64 cut, .int .i64 (((catF p ds vs.length).length : Int) + 1)] (.int .i64 (cut % (((catF p ds vs.length).length : Int) + 1))) A215 S14 (sameB (Mod_any cut (((catF p ds vs.length).length : Int) + 1) _ (by omega) (by omega))) Try.call49 (by kernel_rfl) (by kernel_rfl) (by kernel_rfl) rfl (fun ac wc A216 S217 => ?_)
    refine s_one (.int .i64 (cut % (((catF p ds vs.length).length : Int) + 1))) A216 S217 (g_assign (by kernel_rfl)) rfl (fun ac A221 => ?_)
    refine wpList_nil ?_
    refine n_then ?_
    refine wp_seq ?_
    obtain ⟨b, hb⟩ : ∃ b : Nat, cut % (((catF p ds vs.length).length : Int) + 1) = (b : Int) := ⟨(cut % (((catF p ds vs.length).length : Int) + 1)).toNat, by omega⟩
    have AW3 := A221
    simp only [hb] at AW3
    have hbl : b ≤ (catF p ds vs.length).length := by omega
    obtain ⟨c1, c2, c3, c4, c5⟩ := cutL_all hgd hbl
    have hle := cutL_le p ds vs.length b
    have hcf := catF_le p ds vs.length
    refine wp_region_lit ?_
    refine s_one (.string ⟨(catF p ds vs.length).toArray⟩) AW3 S217 (g_move (by kernel_rfl)) rfl (fun ac A222 => ?_)
    refine s_one (.int .i64 (b : Int)) A222 S217 (g_move (by kernel_rfl)) rfl (fun ac A223 => ?_)
    refine s_one (.string ⟨(cutL p ds vs.length b).toArray⟩) A223 S217 (g_slice (u := .string ⟨(catF p ds vs.length).toArray⟩) (lo' := none) (hi' := (some (.int .i64 (b : Int)))) (mx' := none) (by kernel_rfl) (by kernel_rfl) (by kernel_rfl) (by kernel_rfl) (sl_strH (l := (catF p ds vs.length)) (h := b) Try.underlying9 (by omega) (by omega))) rfl (fun ac A224 => ?_)
    refine s_callSt (T := List Value × Option Addr × Nat) (fs := #[]) (cp := #[]) (r := [(0, .string ⟨(cutL p ds vs.length b).toArray⟩)]) #[.string ⟨(cutL p ds vs.length b).toArray⟩] (fun u => .tuple #[.slice u.2.1 (frK (cutL p ds vs.length b)) u.2.2, .int .i64 (atU (cutL p ds vs.length b) (frK (cutL p ds vs.length b)) : Int), .int .i64 0]) (fun u => []) (fun u => (⟨.slice u.2.1 (frK (cutL p ds vs.length b)) u.2.2, 66, 3, (frK (cutL p ds vs.length b)), (frX (cutL p ds vs.length b) u.1)⟩ :: (frM 36 (cutL p ds vs.length b) u.1))) A224 S217 (Frames_s (cutL p ds vs.length b) _ (by omega)) (fun u x hx => by cases hx) Try.call30 (by kernel_rfl) (by kernel_rfl) (by kernel_rfl) rfl (fun u231 ac wc A225 S226 => ?_)
    obtain ⟨vs228, A229, cap230⟩ := u231
    replace S226 : St w0 [] (⟨.slice A229 (frK (cutL p ds vs.length b)) cap230, 66, 3, (frK (cutL p ds vs.length b)), (frX (cutL p ds vs.length b) vs228)⟩ :: ((frM 36 (cutL p ds vs.length b) vs228) ++ (⟨v, 66, 3, vs.length, (fzX p ds vs)⟩ :: (fzR 36 ds vs)))) _ := S226
    refine s_one (.tuple #[.slice A229 (frK (cutL p ds vs.length b)) cap230, .int .i64 (atU (cutL p ds vs.length b) (frK (cutL p ds vs.length b)) : Int), .int .i64 0]) A225 S226 (g_move (by kernel_rfl)) rfl (fun ac A232 => ?_)
    refine s_one (.slice A229 (frK (cutL p ds vs.length b)) cap230) A232 S226 (g_extract (u := .tuple #[.slice A229 (frK (cutL p ds vs.length b)) cap230, .int .i64 (atU (cutL p ds vs.length b) (frK (cutL p ds vs.length b)) : Int), .int .i64 0]) (by kernel_rfl) (fun _ => by kernel_rfl)) rfl (fun ac A233 => ?_)
    refine s_one (.int .i64 (atU (cutL p ds vs.length b) (frK (cutL p ds vs.length b)) : Int)) A233 S226 (g_extract (u := .tuple #[.slice A229 (frK (cutL p ds vs.length b)) cap230, .int .i64 (atU (cutL p ds vs.length b) (frK (cutL p ds vs.length b)) : Int), .int .i64 0]) (by kernel_rfl) (fun _ => by kernel_rfl)) rfl (fun ac A234 => ?_)
    refine s_one (.int .i64 0) A234 S226 (g_extract (u := .tuple #[.slice A229 (frK (cutL p ds vs.length b)) cap230, .int .i64 (atU (cutL p ds vs.length b) (frK (cutL p ds vs.length b)) : Int), .int .i64 0]) (by kernel_rfl) (fun _ => by kernel_rfl)) rfl (fun ac A235 => ?_)
    refine s_one (.slice A229 (frK (cutL p ds vs.length b)) cap230) A235 S226 (g_assign (by kernel_rfl)) rfl (fun ac A236 => ?_)
    refine s_one (.int .i64 (atU (cutL p ds vs.length b) (frK (cutL p ds vs.length b)) : Int)) A236 S226 (g_assign (by kernel_rfl)) rfl (fun ac A237 => ?_)
    refine s_one (.int .i64 0) A237 S226 (g_assign (by kernel_rfl)) rfl (fun ac A238 => ?_)
    refine wpList_nil ?_
    refine n_then ?_
    refine wp_seq ?_
    refine wp_seq ?_
    refine any_world S226 (fun w1 S1 => ?_)
    obtain ⟨B2, b2, rfl⟩ := row_slice (v := v) (m := vs.length) (S1.rows (⟨v, 66, 3, vs.length, (fzX p ds vs)⟩ : Rw) (List.mem_cons_of_mem _ (List.mem_append_right _ List.mem_cons_self)))
    have hX2 := row_vreads (S1.rows (⟨.slice B2 vs.length b2, 66, 3, vs.length, fzX p ds vs⟩ : Rw) (List.mem_cons_of_mem _ (List.mem_append_right _ List.mem_cons_self)))
    have hX1 := row_vreads (S1.rows (⟨.slice A229 (frK (cutL p ds vs.length b)) cap230, 66, 3, (frK (cutL p ds vs.length b)), (frX (cutL p ds vs.length b) vs228)⟩ : Rw) List.mem_cons_self)
    have hL1 : vs228.length = frK (cutL p ds vs.length b) := row_len (S1.rows (⟨.slice A229 (frK (cutL p ds vs.length b)) cap230, 66, 3, (frK (cutL p ds vs.length b)), (frX (cutL p ds vs.length b) vs228)⟩ : Rw) List.mem_cons_self)
    have hin1 : ∀ i, i < vs228.length → w1.ownsRow w0.heap.size 36 1 (vI vs228 i) (pfW (frB (cutL p ds vs.length b) i)).length (rowF (pfW (frB (cutL p ds vs.length b) i))) := fun i hi => S1.rows (⟨vI vs228 i, 36, 1, (pfW (frB (cutL p ds vs.length b) i)).length, rowF (pfW (frB (cutL p ds vs.length b) i))⟩ : Rw) (List.mem_cons_of_mem _ (List.mem_append_left _ (frM_mem hi)))
    have hin2 : ∀ i, i < vs.length → w1.ownsRow w0.heap.size 36 1 (vI vs i) (mdN (mdK ds i)) (rowF (wdK ds i)) := fun i hi => S1.rows (⟨vI vs i, 36, 1, mdN (mdK ds i), rowF (wdK ds i)⟩ : Rw) (List.mem_cons_of_mem _ (List.mem_append_right _ (List.mem_cons_of_mem _ (fzR_mem hi))))
    have SB := St.start w1
    refine wp_region_lit ?_
    refine s_one (.int .i64 0) A238 SB (g_move (by kernel_rfl)) rfl (fun ac A239 => ?_)
    refine s_one (.bool (decide (0 ≠ 0))) A239 SB (g_bin (u := .int .i64 0) (k := .int .i64 0) (by kernel_rfl) (by kernel_rfl) (fun _ => by kernel_rfl) b_neq) rfl (fun ac A240 => ?_)
    refine s_one (.bool (decide (0 ≠ 0))) A240 SB (g_move (by kernel_rfl)) rfl (fun ac A241 => ?_)
    refine s_want (dj := 115) (b := (decide (0 ≠ 0))) A241 (by kernel_rfl) (by kernel_rfl) (by decide) ?_
    refine s_one (.slice A229 (frK (cutL p ds vs.length b)) cap230) A241 SB (g_move (by kernel_rfl)) rfl (fun ac A242 => ?_)
    refine s_want (dj := 115) (b := (decide (0 ≠ 0))) A242 (by kernel_rfl) (by kernel_rfl) (by decide) ?_
    refine s_one (.int .i64 (frK (cutL p ds vs.length b) : Int)) A242 SB (g_built (r := [(0, .slice A229 (frK (cutL p ds vs.length b)) cap230)]) (by kernel_rfl) (fun _ _ _ => by kernel_rfl)) rfl (fun ac A243 => ?_)
    refine s_want (dj := 115) (b := (decide (0 ≠ 0))) A243 (by kernel_rfl) (by kernel_rfl) (by decide) ?_
    refine s_one (.slice B2 vs.length b2) A243 SB (g_move (by kernel_rfl)) rfl (fun ac A244 => ?_)
    refine s_want (dj := 115) (b := (decide (0 ≠ 0))) A244 (by kernel_rfl) (by kernel_rfl) (by decide) ?_
    refine s_one (.int .i64 (vs.length : Int)) A244 SB (g_built (r := [(0, .slice B2 vs.length b2)]) (by kernel_rfl) (fun _ _ _ => by kernel_rfl)) rfl (fun ac A245 => ?_)
    refine s_want (dj := 115) (b := (decide (0 ≠ 0))) A245 (by kernel_rfl) (by kernel_rfl) (by decide) ?_
    refine s_one (.bool (decide ((frK (cutL p ds vs.length b) : Int) > (vs.length : Int)))) A245 SB (g_bin (u := .int .i64 (frK (cutL p ds vs.length b) : Int)) (k := .int .i64 (vs.length : Int)) (by kernel_rfl) (by kernel_rfl) (fun _ => by kernel_rfl) (fun _ => by kernel_rfl)) rfl (fun ac A246 => ?_)
    refine s_one (.bool (decide ((frK (cutL p ds vs.length b) : Int) > (vs.length : Int)))) A246 SB (g_pick_f (b := (decide (0 ≠ 0))) (by kernel_rfl) (by decide) (by kernel_rfl)) rfl (fun ac A247 => ?_)
    refine s_one (.bool (decide ((frK (cutL p ds vs.length b) : Int) > (vs.length : Int)))) A247 SB (g_move (by kernel_rfl)) rfl (fun ac A248 => ?_)
    refine s_want (dj := 122) (b := (decide ((frK (cutL p ds vs.length b) : Int) > (vs.length : Int)))) A248 (by kernel_rfl) (by kernel_rfl) (decide_eq_false (by omega)) ?_
    refine s_one (.int .i64 (atU (cutL p ds vs.length b) (frK (cutL p ds vs.length b)) : Int)) A248 SB (g_move (by kernel_rfl)) rfl (fun ac A249 => ?_)
    refine s_want (dj := 122) (b := (decide ((frK (cutL p ds vs.length b) : Int) > (vs.length : Int)))) A249 (by kernel_rfl) (by kernel_rfl) (decide_eq_false (by omega)) ?_
    refine s_one (.int .i64 (b : Int)) A249 SB (g_move (by kernel_rfl)) rfl (fun ac A250 => ?_)
    refine s_want (dj := 122) (b := (decide ((frK (cutL p ds vs.length b) : Int) > (vs.length : Int)))) A250 (by kernel_rfl) (by kernel_rfl) (decide_eq_false (by omega)) ?_
    refine s_one (.bool (decide ((atU (cutL p ds vs.length b) (frK (cutL p ds vs.length b)) : Int) > (b : Int)))) A250 SB (g_bin (u := .int .i64 (atU (cutL p ds vs.length b) (frK (cutL p ds vs.length b)) : Int)) (k := .int .i64 (b : Int)) (by kernel_rfl) (by kernel_rfl) (fun _ => by kernel_rfl) (fun _ => by kernel_rfl)) rfl (fun ac A251 => ?_)
    refine s_one (.bool (decide ((atU (cutL p ds vs.length b) (frK (cutL p ds vs.length b)) : Int) > (b : Int)))) A251 SB (g_pick_f (b := (decide ((frK (cutL p ds vs.length b) : Int) > (vs.length : Int)))) (by kernel_rfl) (decide_eq_false (by omega)) (by kernel_rfl)) rfl (fun ac A252 => ?_)
    refine wpList_nil ?_
    refine n_then ?_
    refine c_f (b := (decide ((atU (cutL p ds vs.length b) (frK (cutL p ds vs.length b)) : Int) > (b : Int)))) A252 (by kernel_rfl) (decide_eq_false (by omega)) ?_
    refine wp_skip ?_
    refine n_then ?_
    refine wp_seq ?_
    refine wp_region_lit ?_
    refine s_one (.int .i64 0) A252 SB (g_assign (by kernel_rfl)) rfl (fun ac A253 => ?_)
    refine wpList_nil ?_
    refine n_then ?_
    refine wp_seq ?_
    refine wp_seq ?_
    refine wp_region_lit ?_
    refine s_one (.int .i64 0) A253 SB (g_assign (by kernel_rfl)) rfl (fun ac A254 => ?_)
    refine wpList_nil ?_
    refine n_then ?_
    refine wp_block ?_
    refine c_loopN (fun mm ac wc => ∃ (k : Nat), mm = frK (cutL p ds vs.length b) - k ∧ (k ≤ frK (cutL p ds vs.length b)) ∧ Fr 176 ac [(0, .slice A ds.length cap), (1, .int .i64 p), (2, .int .i64 cut), (22, .bool true), (23, .bool false), (24, .slice A ds.length cap), (25, .int .i64 (ds.length : Int)), (26, .bool (decide ((ds.length : Int) > 2))), (9, .int .i64 (vs.length : Int)), (7, .string ⟨(catF p ds vs.length).toArray⟩), (8, .slice B2 vs.length b2), (27, .int .i64 (vs.length : Int)), (28, .slice A ds.length cap), (29, .int .i64 (ds.length : Int)), (30, .bool (decide ((vs.length : Int) < (ds.length : Int)))), (100, .int .i64 cut), (101, .string ⟨(catF p ds vs.length).toArray⟩), (102, .int .i64 ((catF p ds vs.length).length : Int)), (103, .int .i64 (((catF p ds vs.length).length : Int) + 1)), (104, .int .i64 (b : Int)), (16, .int .i64 (b : Int)), (106, .string ⟨(catF p ds vs.length).toArray⟩), (107, .int .i64 (b : Int)), (108, .string ⟨(cutL p ds vs.length b).toArray⟩), (109, .tuple #[.slice A229 (frK (cutL p ds vs.length b)) cap230, .int .i64 (atU (cutL p ds vs.length b) (frK (cutL p ds vs.length b)) : Int), .int .i64 0]), (105, .tuple #[.slice A229 (frK (cutL p ds vs.length b)) cap230, .int .i64 (atU (cutL p ds vs.length b) (frK (cutL p ds vs.length b)) : Int), .int .i64 0]), (110, .slice A229 (frK (cutL p ds vs.length b)) cap230), (111, .int .i64 (atU (cutL p ds vs.length b) (frK (cutL p ds vs.length b)) : Int)), (112, .int .i64 0), (17, .slice A229 (frK (cutL p ds vs.length b)) cap230), (18, .int .i64 (atU (cutL p ds vs.length b) (frK (cutL p ds vs.length b)) : Int)), (19, .int .i64 0), (113, .int .i64 0), (114, .bool (decide (0 ≠ 0))), (115, .bool (decide (0 ≠ 0))), (116, .slice A229 (frK (cutL p ds vs.length b)) cap230), (117, .int .i64 (frK (cutL p ds vs.length b) : Int)), (118, .slice B2 vs.length b2), (119, .int .i64 (vs.length : Int)), (120, .bool (decide ((frK (cutL p ds vs.length b) : Int) > (vs.length : Int)))), (121, .bool (decide ((frK (cutL p ds vs.length b) : Int) > (vs.length : Int)))), (122, .bool (decide ((frK (cutL p ds vs.length b) : Int) > (vs.length : Int)))), (123, .int .i64 (atU (cutL p ds vs.length b) (frK (cutL p ds vs.length b)) : Int)), (124, .int .i64 (b : Int)), (125, .bool (decide ((atU (cutL p ds vs.length b) (frK (cutL p ds vs.length b)) : Int) > (b : Int)))), (126, .bool (decide ((atU (cutL p ds vs.length b) (frK (cutL p ds vs.length b)) : Int) > (b : Int)))), (21, .int .i64 (k : Int)), (20, .int .i64 ((catF p ds k).length : Int))] ∧ St w1 [] [] wc) _ ⟨0, rfl, Nat.zero_le _, (A254.slot (A254.slot (A254.slot (A254.slot (A254.slot (A254.slot (A254.slot (A254.slot (A254.slot (A254.slot (A254.slot (A254.slot (A254.slot (A254.slot (A254.slot (A254.slot (A254.slot (A254.slot (A254.slot (A254.slot (A254.slot (A254.slot (A254.slot (A254.slot (A254.slot (A254.slot (A254.slot (A254.slot (A254.slot (A254.slot (A254.slot (A254.slot (A254.slot (A254.slot (A254.slot (A254.slot (A254.slot (A254.slot (A254.slot (A254.slot (A254.slot (A254.slot (A254.slot (A254.slot (A254.slot (A254.slot (A254.slot (A254.slot A254.nil (v := .int .i64 0) (by kernel_rfl) rfl) (v := .int .i64 0) (by kernel_rfl) (congrArg (Value.int .i64) (by omega))) (v := .bool (decide ((atU (cutL p ds vs.length b) (frK (cutL p ds vs.length b)) : Int) > (b : Int)))) (by kernel_rfl) rfl) (v := .bool (decide ((atU (cutL p ds vs.length b) (frK (cutL p ds vs.length b)) : Int) > (b : Int)))) (by kernel_rfl) rfl) (v := .int .i64 (b : Int)) (by kernel_rfl) rfl) (v := .int .i64 (atU (cutL p ds vs.length b) (frK (cutL p ds vs.length b)) : Int)) (by kernel_rfl) rfl) (v := .bool (decide ((frK (cutL p ds vs.length b) : Int) > (vs.length : Int)))) (by kernel_rfl) rfl) (v := .bool (decide ((frK (cutL p ds vs.length b) : Int) > (vs.length : Int)))) (by kernel_rfl) rfl) (v := .bool (decide ((frK (cutL p ds vs.length b) : Int) > (vs.length : Int)))) (by kernel_rfl) rfl) (v := .int .i64 (vs.length : Int)) (by kernel_rfl) rfl) (v := .slice B2 vs.length b2) (by kernel_rfl) rfl) (v := .int .i64 (frK (cutL p ds vs.length b) : Int)) (by kernel_rfl) rfl) (v := .slice A229 (frK (cutL p ds vs.length b)) cap230) (by kernel_rfl) rfl) (v := .bool (decide (0 ≠ 0))) (by kernel_rfl) rfl) (v := .bool (decide (0 ≠ 0))) (by kernel_rfl) rfl) (v := .int .i64 0) (by kernel_rfl) rfl) (v := .int .i64 0) (by kernel_rfl) rfl) (v := .int .i64 (atU (cutL p ds vs.length b) (frK (cutL p ds vs.length b)) : Int)) (by kernel_rfl) rfl) (v := .slice A229 (frK (cutL p ds vs.length b)) cap230) (by kernel_rfl) rfl) (v := .int .i64 0) (by kernel_rfl) rfl) (v := .int .i64 (atU (cutL p ds vs.length b) (frK (cutL p ds vs.length b)) : Int)) (by kernel_rfl) rfl) (v := .slice A229 (frK (cutL p ds vs.length b)) cap230) (by kernel_rfl) rfl) (v := .tuple #[.slice A229 (frK (cutL p ds vs.length b)) cap230, .int .i64 (atU (cutL p ds vs.length b) (frK (cutL p ds vs.length b)) : Int), .int .i64 0]) (by kernel_rfl) rfl) (v := .tuple #[.slice A229 (frK (cutL p ds vs.length b)) cap230, .int .i64 (atU (cutL p ds vs.length b) (frK (cutL p ds vs.length b)) : Int), .int .i64 0]) (by kernel_rfl) rfl) (v := .string ⟨(cutL p ds vs.length b).toArray⟩) (by kernel_rfl) rfl) (v := .int .i64 (b : Int)) (by kernel_rfl) rfl) (v := .string ⟨(catF p ds vs.length).toArray⟩) (by kernel_rfl) rfl) (v := .int .i64 (b : Int)) (by kernel_rfl) rfl) (v := .int .i64 (b : Int)) (by kernel_rfl) rfl) (v := .int .i64 (((catF p ds vs.length).length : Int) + 1)) (by kernel_rfl) rfl) (v := .int .i64 ((catF p ds vs.length).length : Int)) (by kernel_rfl) rfl) (v := .string ⟨(catF p ds vs.length).toArray⟩) (by kernel_rfl) rfl) (v := .int .i64 cut) (by kernel_rfl) rfl) (v := .bool (decide ((vs.length : Int) < (ds.length : Int)))) (by kernel_rfl) rfl) (v := .int .i64 (ds.length : Int)) (by kernel_rfl) rfl) (v := .slice A ds.length cap) (by kernel_rfl) rfl) (v := .int .i64 (vs.length : Int)) (by kernel_rfl) rfl) (v := .slice B2 vs.length b2) (by kernel_rfl) rfl) (v := .string ⟨(catF p ds vs.length).toArray⟩) (by kernel_rfl) rfl) (v := .int .i64 (vs.length : Int)) (by kernel_rfl) rfl) (v := .bool (decide ((ds.length : Int) > 2))) (by kernel_rfl) rfl) (v := .int .i64 (ds.length : Int)) (by kernel_rfl) rfl) (v := .slice A ds.length cap) (by kernel_rfl) rfl) (v := .bool false) (by kernel_rfl) rfl) (v := .bool true) (by kernel_rfl) rfl) (v := .int .i64 cut) (by kernel_rfl) rfl) (v := .int .i64 p) (by kernel_rfl) rfl) (v := .slice A ds.length cap) (by kernel_rfl) rfl), SB.sub sub_all sub_all⟩ ?_
    rintro mm ac wc ⟨k, hm257, hk2, A255, S256⟩
    have hmd : mdN (mdK ds k) ≤ 600 := mkN_le _ _
    have hcf2 := catF_le p ds k
    refine wp_seq ?_
    refine wp_seq ?_
    refine wp_region_lit ?_
    refine s_one (.int .i64 (k : Int)) A255 S256 (g_move (by kernel_rfl)) rfl (fun ac A258 => ?_)
    refine s_one (.slice A229 (frK (cutL p ds vs.length b)) cap230) A258 S256 (g_move (by kernel_rfl)) rfl (fun ac A259 => ?_)
    refine s_one (.int .i64 (frK (cutL p ds vs.length b) : Int)) A259 S256 (g_built (r := [(0, .slice A229 (frK (cutL p ds vs.length b)) cap230)]) (by kernel_rfl) (fun _ _ _ => by kernel_rfl)) rfl (fun ac A260 => ?_)
    refine s_one (.bool (decide ((k : Int) < (frK (cutL p ds vs.length b) : Int)))) A260 S256 (g_bin (u := .int .i64 (k : Int)) (k := .int .i64 (frK (cutL p ds vs.length b) : Int)) (by kernel_rfl) (by kernel_rfl) (fun _ => by kernel_rfl) (fun _ => by kernel_rfl)) rfl (fun ac A261 => ?_)
    refine wpList_nil ?_
    refine n_then ?_
    refine c_ifb (b := (decide ((k : Int) < (frK (cutL p ds vs.length b) : Int)))) A261 (by kernel_rfl) (fun h262 => ?_) (fun h262 => ?_)
    · have p263 := of_decide_eq_true h262
      refine wp_skip ?_
      refine n_then ?_
      refine wp_seq ?_
      refine wp_block ?_
      refine wp_seq ?_
      have hE := hgd k (by omega)
      have hek := enK_le hE
      have hsq := sq_le hek
      obtain ⟨hq1, D1, d1, hv1, hc1, hr1⟩ := rowF_reads (fb_row (hin1 k (by omega)) (c2 k (by omega)) hE)
      obtain ⟨ad1, he1, hx1⟩ := fb_at hX1 (show k < vs228.length by omega) hv1 (c2 k (by omega)) hE
      obtain ⟨hq2, D2, d2, hv2, hc2, hr2⟩ := rowF_reads (hin2 k (by omega))
      obtain ⟨ad2, he2, hx2⟩ := fz_at hX2 (show k < vs.length by omega) hv2 hE
      refine wp_region_lit ?_
      refine s_one (.int .i64 ((catF p ds k).length : Int)) A261 S256 (g_move (by kernel_rfl)) rfl (fun ac A264 => ?_)
      refine s_one (.slice B2 vs.length b2) A264 S256 (g_move (by kernel_rfl)) rfl (fun ac A265 => ?_)
      refine s_one (.int .i64 (k : Int)) A265 S256 (g_move (by kernel_rfl)) rfl (fun ac A266 => ?_)
      refine s_one (.pointer (some (ad2.add (k * 3)))) A266 S256 (g_index (u := .slice B2 vs.length b2) (k := .int .i64 (k : Int)) (by kernel_rfl) (by kernel_rfl) (ix_xsA (e := 66) (size := 3) (bytes := 40) k (by kernel_rfl) (by omega) (by omega) he2)) rfl (fun ac A267 => ?_)
      refine s_one (.pointer (some (ad2.add (k * 3 + 1)))) A267 S256 (g_field (u := .pointer (some (ad2.add (k * 3)))) (by kernel_rfl) (fld_x (x := k * 3) (o := 1) (by kernel_rfl))) rfl (fun ac A268 => ?_)
      refine s_one (.pointer (some (ad2.add (k * 3 + 1 + 0)))) A268 S256 (g_field (u := .pointer (some (ad2.add (k * 3 + 1)))) (by kernel_rfl) (fld_x (x := k * 3 + 1) (o := 0) (by kernel_rfl))) rfl (fun ac A269 => ?_)
      refine s_one (.int .i64 (enK ds k : Int)) A269 S256 (g_loadX (ad := ad2.add (k * 3 + 1 + 0)) (by kernel_rfl) (fz_cell (X := [.int .i64 p, .int .i64 (enK ds k : Int), .slice D2 (mdN (mdK ds k)) d2]) (j := 1) hx2 rfl rfl) (by kernel_rfl)) rfl (fun ac A270 => ?_)
      refine s_call (fs := #[]) (cp := #[]) (r := [(0, .int .i64 (enK ds k : Int))]) #[.int .i64 (enK ds k : Int)] (.int .i64 ((10 + 128 * ((enK ds k) * (enK ds k)) : Nat) : Int)) A270 S256 (refSize_s (enK ds k) _ (by omega)) Try.call50 (by kernel_rfl) (by kernel_rfl) (by kernel_rfl) rfl (fun ac wc A271 S272 => ?_)
      refine s_one (.int .i64 (((catF p ds k).length : Int) + ((10 + 128 * ((enK ds k) * (enK ds k)) : Nat) : Int))) A271 S272 (g_bin (u := .int .i64 ((catF p ds k).length : Int)) (k := .int .i64 ((10 + 128 * ((enK ds k) * (enK ds k)) : Nat) : Int)) (by kernel_rfl) (by kernel_rfl) (fun _ => by kernel_rfl) (b_add (by omega))) rfl (fun ac A274 => ?_)
      refine s_one (.int .i64 (((catF p ds k).length : Int) + ((10 + 128 * ((enK ds k) * (enK ds k)) : Nat) : Int))) A274 S272 (g_assign (by kernel_rfl)) rfl (fun ac A275 => ?_)
      refine wpList_nil ?_
      refine n_then ?_
      refine wp_seq ?_
      refine r_begin (w0 := w1) (by kernel_rfl) (S272.sub sub_all sub_all) (fun wc T276 B277 => ?_)
      have S278 := S272.kept B277
      refine r_take 0 (.slice A229 (frK (cutL p ds vs.length b)) cap230) A275 T276 (g_move (by kernel_rfl)) rfl rfl rfl (pf_then (pf_block (pf_then (pf_then (pf_block (pf_then pf_body)))))) (by kernel_rfl) (fun ac A279 => ?_)
      refine r_take 1 (.int .i64 (k : Int)) A279 T276 (g_move (by kernel_rfl)) rfl rfl rfl (pf_then (pf_block (pf_then (pf_then (pf_block (pf_then pf_body)))))) (by kernel_rfl) (fun ac A280 => ?_)
      refine r_take 2 (.pointer (some (ad1.add (k * 3)))) A280 T276 (g_index (u := .slice A229 (frK (cutL p ds vs.length b)) cap230) (k := .int .i64 (k : Int)) (by kernel_rfl) (by kernel_rfl) (ix_xsA (e := 66) (size := 3) (bytes := 40) k (by kernel_rfl) (by omega) (by omega) he1)) rfl rfl rfl (pf_then (pf_block (pf_then (pf_then (pf_block (pf_then pf_body)))))) (by kernel_rfl) (fun ac A281 => ?_)
      refine r_take 3 (.agg #[.int .i64 p, .int .i64 (enK ds k : Int), .slice D1 (mdN (mdK ds k)) d1]) A281 T276 (g_loadXV (p := ad1.add (k * 3)) (X := [.int .i64 p, .int .i64 (enK ds k : Int), .slice D1 (mdN (mdK ds k)) d1]) (by kernel_rfl) hx1 (by kernel_rfl) rfl) rfl rfl rfl (pf_then (pf_block (pf_then (pf_then (pf_block (pf_then pf_body)))))) (by kernel_rfl) (fun ac A282 => ?_)
      refine r_take 4 (.slice B2 vs.length b2) A282 T276 (g_move (by kernel_rfl)) rfl rfl rfl (pf_then (pf_block (pf_then (pf_then (pf_block (pf_then pf_body)))))) (by kernel_rfl) (fun ac A283 => ?_)
      refine r_take 5 (.int .i64 (k : Int)) A283 T276 (g_move (by kernel_rfl)) rfl rfl rfl (pf_then (pf_block (pf_then (pf_then (pf_block (pf_then pf_body)))))) (by kernel_rfl) (fun ac A284 => ?_)
      refine r_take 6 (.pointer (some (ad2.add (k * 3)))) A284 T276 (g_index (u := .slice B2 vs.length b2) (k := .int .i64 (k : Int)) (by kernel_rfl) (by kernel_rfl) (ix_xsA (e := 66) (size := 3) (bytes := 40) k (by kernel_rfl) (by omega) (by omega) he2)) rfl rfl rfl (pf_then (pf_block (pf_then (pf_then (pf_block (pf_then pf_body)))))) (by kernel_rfl) (fun ac A285 => ?_)
      refine r_take 7 (.agg #[.int .i64 p, .int .i64 (enK ds k : Int), .slice D2 (mdN (mdK ds k)) d2]) A285 T276 (g_loadXV (p := ad2.add (k * 3)) (X := [.int .i64 p, .int .i64 (enK ds k : Int), .slice D2 (mdN (mdK ds k)) d2]) (by kernel_rfl) hx2 (by kernel_rfl) rfl) rfl rfl rfl (pf_then (pf_block (pf_then (pf_then (pf_block (pf_then pf_body)))))) (by kernel_rfl) (fun ac A286 => ?_)
      refine r_1 (i := 8) (by kernel_rfl) ?_
      refine rs_call (fs := #[]) (cp := #[]) (r := [(0, .agg #[.int .i64 p, .int .i64 (enK ds k : Int), .slice D1 (mdN (mdK ds k)) d1]), (0, .agg #[.int .i64 p, .int .i64 (enK ds k : Int), .slice D2 (mdN (mdK ds k)) d2])]) #[.agg #[.int .i64 p, .int .i64 (enK ds k : Int), .slice D1 (mdN (mdK ds k)) d1], .agg #[.int .i64 p, .int .i64 (enK ds k : Int), .slice D2 (mdN (mdK ds k)) d2]] (.bool true) A286 S278 sub_all sub_all (sameFrame_s p (enK ds k : Int) D1 D2 d1 d2 (mdN (mdK ds k)) (wdK ds k) _ (wdK_len ds k) (by omega) (hr1.kept S278.kp) (hr2.kept S278.kp)) Try.call33 rfl rfl (by kernel_rfl) (by kernel_rfl) (by kernel_rfl) rfl (fun ac wc A287 S288 => ?_)
      have T290 := S288.sub sub_all sub_all
      refine r_take 9 (.bool false) A287 T290 (g_un (u := .bool true) (by kernel_rfl) (fun _ => by kernel_rfl)) rfl rfl rfl (pf_then (pf_block (pf_then (pf_then (pf_block (pf_then pf_body)))))) (by kernel_rfl) (fun ac A291 => ?_)
      refine r_done (by kernel_rfl) ?_
      refine n_then ?_
      refine c_f (b := false) A291 (by kernel_rfl) rfl ?_
      refine wp_skip ?_
      refine n_block ?_
      refine n_then ?_
      refine wp_region_lit ?_
      refine s_one (.int .i64 (k : Int)) A291 S288 (g_move (by kernel_rfl)) rfl (fun ac A292 => ?_)
      refine s_one (.int .i64 ((k : Int) + 1)) A292 S288 (g_bin (u := .int .i64 (k : Int)) (k := .int .i64 1) (by kernel_rfl) (by kernel_rfl) (fun _ => by kernel_rfl) (b_add (by omega))) rfl (fun ac A293 => ?_)
      refine s_one (.int .i64 ((k : Int) + 1)) A293 S288 (g_assign (by kernel_rfl)) rfl (fun ac A294 => ?_)
      refine wpList_nil ?_
      refine n_then ?_
      refine ⟨_, ⟨k + 1, rfl, by omega, (A294.slot (A294.slot (A294.slot (A294.slot (A294.slot (A294.slot (A294.slot (A294.slot (A294.slot (A294.slot (A294.slot (A294.slot (A294.slot (A294.slot (A294.slot (A294.slot (A294.slot (A294.slot (A294.slot (A294.slot (A294.slot (A294.slot (A294.slot (A294.slot (A294.slot (A294.slot (A294.slot (A294.slot (A294.slot (A294.slot (A294.slot (A294.slot (A294.slot (A294.slot (A294.slot (A294.slot (A294.slot (A294.slot (A294.slot (A294.slot (A294.slot (A294.slot (A294.slot (A294.slot (A294.slot (A294.slot (A294.slot (A294.slot A294.nil (v := .int .i64 (((catF p ds k).length : Int) + ((10 + 128 * ((enK ds k) * (enK ds k)) : Nat) : Int))) (by kernel_rfl) (congrArg (Value.int .i64) (by rw [catF_succ hE]; omega))) (v := .int .i64 ((k : Int) + 1)) (by kernel_rfl) (congrArg (Value.int .i64) (by omega))) (v := .bool (decide ((atU (cutL p ds vs.length b) (frK (cutL p ds vs.length b)) : Int) > (b : Int)))) (by kernel_rfl) rfl) (v := .bool (decide ((atU (cutL p ds vs.length b) (frK (cutL p ds vs.length b)) : Int) > (b : Int)))) (by kernel_rfl) rfl) (v := .int .i64 (b : Int)) (by kernel_rfl) rfl) (v := .int .i64 (atU (cutL p ds vs.length b) (frK (cutL p ds vs.length b)) : Int)) (by kernel_rfl) rfl) (v := .bool (decide ((frK (cutL p ds vs.length b) : Int) > (vs.length : Int)))) (by kernel_rfl) rfl) (v := .bool (decide ((frK (cutL p ds vs.length b) : Int) > (vs.length : Int)))) (by kernel_rfl) rfl) (v := .bool (decide ((frK (cutL p ds vs.length b) : Int) > (vs.length : Int)))) (by kernel_rfl) rfl) (v := .int .i64 (vs.length : Int)) (by kernel_rfl) rfl) (v := .slice B2 vs.length b2) (by kernel_rfl) rfl) (v := .int .i64 (frK (cutL p ds vs.length b) : Int)) (by kernel_rfl) rfl) (v := .slice A229 (frK (cutL p ds vs.length b)) cap230) (by kernel_rfl) rfl) (v := .bool (decide (0 ≠ 0))) (by kernel_rfl) rfl) (v := .bool (decide (0 ≠ 0))) (by kernel_rfl) rfl) (v := .int .i64 0) (by kernel_rfl) rfl) (v := .int .i64 0) (by kernel_rfl) rfl) (v := .int .i64 (atU (cutL p ds vs.length b) (frK (cutL p ds vs.length b)) : Int)) (by kernel_rfl) rfl) (v := .slice A229 (frK (cutL p ds vs.length b)) cap230) (by kernel_rfl) rfl) (v := .int .i64 0) (by kernel_rfl) rfl) (v := .int .i64 (atU (cutL p ds vs.length b) (frK (cutL p ds vs.length b)) : Int)) (by kernel_rfl) rfl) (v := .slice A229 (frK (cutL p ds vs.length b)) cap230) (by kernel_rfl) rfl) (v := .tuple #[.slice A229 (frK (cutL p ds vs.length b)) cap230, .int .i64 (atU (cutL p ds vs.length b) (frK (cutL p ds vs.length b)) : Int), .int .i64 0]) (by kernel_rfl) rfl) (v := .tuple #[.slice A229 (frK (cutL p ds vs.length b)) cap230, .int .i64 (atU (cutL p ds vs.length b) (frK (cutL p ds vs.length b)) : Int), .int .i64 0]) (by kernel_rfl) rfl) (v := .string ⟨(cutL p ds vs.length b).toArray⟩) (by kernel_rfl) rfl) (v := .int .i64 (b : Int)) (by kernel_rfl) rfl) (v := .string ⟨(catF p ds vs.length).toArray⟩) (by kernel_rfl) rfl) (v := .int .i64 (b : Int)) (by kernel_rfl) rfl) (v := .int .i64 (b : Int)) (by kernel_rfl) rfl) (v := .int .i64 (((catF p ds vs.length).length : Int) + 1)) (by kernel_rfl) rfl) (v := .int .i64 ((catF p ds vs.length).length : Int)) (by kernel_rfl) rfl) (v := .string ⟨(catF p ds vs.length).toArray⟩) (by kernel_rfl) rfl) (v := .int .i64 cut) (by kernel_rfl) rfl) (v := .bool (decide ((vs.length : Int) < (ds.length : Int)))) (by kernel_rfl) rfl) (v := .int .i64 (ds.length : Int)) (by kernel_rfl) rfl) (v := .slice A ds.length cap) (by kernel_rfl) rfl) (v := .int .i64 (vs.length : Int)) (by kernel_rfl) rfl) (v := .slice B2 vs.length b2) (by kernel_rfl) rfl) (v := .string ⟨(catF p ds vs.length).toArray⟩) (by kernel_rfl) rfl) (v := .int .i64 (vs.length : Int)) (by kernel_rfl) rfl) (v := .bool (decide ((ds.length : Int) > 2))) (by kernel_rfl) rfl) (v := .int .i64 (ds.length : Int)) (by kernel_rfl) rfl) (v := .slice A ds.length cap) (by kernel_rfl) rfl) (v := .bool false) (by kernel_rfl) rfl) (v := .bool true) (by kernel_rfl) rfl) (v := .int .i64 cut) (by kernel_rfl) rfl) (v := .int .i64 p) (by kernel_rfl) rfl) (v := .slice A ds.length cap) (by kernel_rfl) rfl), S288.sub sub_all sub_all⟩, ?_⟩
      omega
    · have p295 := of_decide_eq_false h262
      refine wp_exit ?_
      refine x_then ?_
      refine x_then ?_
      refine x_hit ?_
      refine n_then ?_
      refine wp_seq ?_
      have ek : k = frK (cutL p ds vs.length b) := by omega
      refine wp_region_lit ?_
      refine s_one (.int .i64 (atU (cutL p ds vs.length b) (frK (cutL p ds vs.length b)) : Int)) A261 S256 (g_move (by kernel_rfl)) rfl (fun ac A296 => ?_)
      refine s_one (.int .i64 ((catF p ds k).length : Int)) A296 S256 (g_move (by kernel_rfl)) rfl (fun ac A297 => ?_)
      refine s_one (.bool (decide ((atU (cutL p ds vs.length b) (frK (cutL p ds vs.length b)) : Int) = ((catF p ds k).length : Int)))) A297 S256 (g_bin (u := .int .i64 (atU (cutL p ds vs.length b) (frK (cutL p ds vs.length b)) : Int)) (k := .int .i64 ((catF p ds k).length : Int)) (by kernel_rfl) (by kernel_rfl) (fun _ => by kernel_rfl) b_eql) rfl (fun ac A298 => ?_)
      refine s_one (.bool (decide ((atU (cutL p ds vs.length b) (frK (cutL p ds vs.length b)) : Int) = ((catF p ds k).length : Int)))) A298 S256 (g_move (by kernel_rfl)) rfl (fun ac A299 => ?_)
      refine s_want (dj := 155) (b := (decide ((atU (cutL p ds vs.length b) (frK (cutL p ds vs.length b)) : Int) = ((catF p ds k).length : Int)))) A299 (by kernel_rfl) (by kernel_rfl) (decide_eq_true (by rw [ek]; omega)) ?_
      refine s_one (.slice A229 (frK (cutL p ds vs.length b)) cap230) A299 S256 (g_move (by kernel_rfl)) rfl (fun ac A300 => ?_)
      refine s_want (dj := 155) (b := (decide ((atU (cutL p ds vs.length b) (frK (cutL p ds vs.length b)) : Int) = ((catF p ds k).length : Int)))) A300 (by kernel_rfl) (by kernel_rfl) (decide_eq_true (by rw [ek]; omega)) ?_
      refine s_one (.int .i64 (frK (cutL p ds vs.length b) : Int)) A300 S256 (g_built (r := [(0, .slice A229 (frK (cutL p ds vs.length b)) cap230)]) (by kernel_rfl) (fun _ _ _ => by kernel_rfl)) rfl (fun ac A301 => ?_)
      refine s_want (dj := 155) (b := (decide ((atU (cutL p ds vs.length b) (frK (cutL p ds vs.length b)) : Int) = ((catF p ds k).length : Int)))) A301 (by kernel_rfl) (by kernel_rfl) (decide_eq_true (by rw [ek]; omega)) ?_
      refine s_one (.slice B2 vs.length b2) A301 S256 (g_move (by kernel_rfl)) rfl (fun ac A302 => ?_)
      refine s_want (dj := 155) (b := (decide ((atU (cutL p ds vs.length b) (frK (cutL p ds vs.length b)) : Int) = ((catF p ds k).length : Int)))) A302 (by kernel_rfl) (by kernel_rfl) (decide_eq_true (by rw [ek]; omega)) ?_
      refine s_one (.int .i64 (vs.length : Int)) A302 S256 (g_built (r := [(0, .slice B2 vs.length b2)]) (by kernel_rfl) (fun _ _ _ => by kernel_rfl)) rfl (fun ac A303 => ?_)
      refine s_want (dj := 155) (b := (decide ((atU (cutL p ds vs.length b) (frK (cutL p ds vs.length b)) : Int) = ((catF p ds k).length : Int)))) A303 (by kernel_rfl) (by kernel_rfl) (decide_eq_true (by rw [ek]; omega)) ?_
      refine s_one (.bool (decide ((frK (cutL p ds vs.length b) : Int) = (vs.length : Int)))) A303 S256 (g_bin (u := .int .i64 (frK (cutL p ds vs.length b) : Int)) (k := .int .i64 (vs.length : Int)) (by kernel_rfl) (by kernel_rfl) (fun _ => by kernel_rfl) b_eql) rfl (fun ac A304 => ?_)
      refine s_want (dj := 155) (b := (decide ((atU (cutL p ds vs.length b) (frK (cutL p ds vs.length b)) : Int) = ((catF p ds k).length : Int)))) A304 (by kernel_rfl) (by kernel_rfl) (decide_eq_true (by rw [ek]; omega)) ?_
      refine s_one (.bool (decide ((frK (cutL p ds vs.length b) : Int) = (vs.length : Int)))) A304 S256 (g_move (by kernel_rfl)) rfl (fun ac A305 => ?_)
      refine by_bool (decide ((frK (cutL p ds vs.length b) : Int) = (vs.length : Int))) (fun h306 => ?_) (fun h306 => ?_)
      · have p307 := of_decide_eq_true h306
        refine s_not (dj := 161) (b := (decide ((frK (cutL p ds vs.length b) : Int) = (vs.length : Int)))) A305 (by kernel_rfl) (by kernel_rfl) h306 rfl (fun ac A308 => ?_)
        refine s_not (dj := 161) (b := (decide ((frK (cutL p ds vs.length b) : Int) = (vs.length : Int)))) A308 (by kernel_rfl) (by kernel_rfl) h306 rfl (fun ac A309 => ?_)
        refine s_not (dj := 161) (b := (decide ((frK (cutL p ds vs.length b) : Int) = (vs.length : Int)))) A309 (by kernel_rfl) (by kernel_rfl) h306 rfl (fun ac A310 => ?_)
        refine s_not (dj := 161) (b := (decide ((frK (cutL p ds vs.length b) : Int) = (vs.length : Int)))) A310 (by kernel_rfl) (by kernel_rfl) h306 rfl (fun ac A311 => ?_)
        refine s_not (dj := 161) (b := (decide ((frK (cutL p ds vs.length b) : Int) = (vs.length : Int)))) A311 (by kernel_rfl) (by kernel_rfl) h306 rfl (fun ac A312 => ?_)
        refine s_not (dj := 161) (b := (decide ((frK (cutL p ds vs.length b) : Int) = (vs.length : Int)))) A312 (by kernel_rfl) (by kernel_rfl) h306 rfl (fun ac A313 => ?_)
        refine s_not (dj := 161) (b := (decide ((frK (cutL p ds vs.length b) : Int) = (vs.length : Int)))) A313 (by kernel_rfl) (by kernel_rfl) h306 rfl (fun ac A314 => ?_)
        refine s_not (dj := 161) (b := (decide ((frK (cutL p ds vs.length b) : Int) = (vs.length : Int)))) A314 (by kernel_rfl) (by kernel_rfl) h306 rfl (fun ac A315 => ?_)
        refine s_not (dj := 161) (b := (decide ((frK (cutL p ds vs.length b) : Int) = (vs.length : Int)))) A315 (by kernel_rfl) (by kernel_rfl) h306 rfl (fun ac A316 => ?_)
        refine s_not (dj := 161) (b := (decide ((frK (cutL p ds vs.length b) : Int) = (vs.length : Int)))) A316 (by kernel_rfl) (by kernel_rfl) h306 rfl (fun ac A317 => ?_)
        refine s_not (dj := 161) (b := (decide ((frK (cutL p ds vs.length b) : Int) = (vs.length : Int)))) A317 (by kernel_rfl) (by kernel_rfl) h306 rfl (fun ac A318 => ?_)
        refine s_not (dj := 161) (b := (decide ((frK (cutL p ds vs.length b) : Int) = (vs.length : Int)))) A318 (by kernel_rfl) (by kernel_rfl) h306 rfl (fun ac A319 => ?_)
        refine s_want (dj := 155) (b := (decide ((atU (cutL p ds vs.length b) (frK (cutL p ds vs.length b)) : Int) = ((catF p ds k).length : Int)))) A319 (by kernel_rfl) (by kernel_rfl) (decide_eq_true (by rw [ek]; omega)) ?_
        refine s_one (.bool true) A319 S256 (g_pick_t (b := (decide ((frK (cutL p ds vs.length b) : Int) = (vs.length : Int)))) (by kernel_rfl) h306 (by kernel_rfl)) rfl (fun ac A320 => ?_)
        refine s_one (.bool true) A320 S256 (g_pick_t (b := (decide ((atU (cutL p ds vs.length b) (frK (cutL p ds vs.length b)) : Int) = ((catF p ds k).length : Int)))) (by kernel_rfl) (decide_eq_true (by rw [ek]; omega)) (by kernel_rfl)) rfl (fun ac A321 => ?_)
        refine s_one (.bool true) A321 S256 (g_assign (by kernel_rfl)) rfl (fun ac A322 => ?_)
        refine wpList_nil ?_
        refine n_then ?_
        refine wp_ret ?_
        refine fin1 (.bool true) Try.results9 A322 S256 (rv_tmp (by kernel_rfl)) ⟨?_, kp_trans S1.kp S256.kp⟩
        rfl
      · have p323 := of_decide_eq_false h306
        have hkm : frK (cutL p ds vs.length b) < vs.length := by omega
        have hE9 := hgd (frK (cutL p ds vs.length b)) hkm
        have hek9 := enK_le hE9
        have hsq9 := sq_le hek9
        obtain ⟨hq9, D9, d9, hv9, hc9, hr9⟩ := rowF_reads (hin2 (frK (cutL p ds vs.length b)) hkm)
        obtain ⟨ad9, he9, hx9⟩ := fz_at hX2 hkm hv9 hE9
        have h59 := c5 hkm
        rw [catF_succ hE9] at h59
        refine s_want (dj := 161) (b := (decide ((frK (cutL p ds vs.length b) : Int) = (vs.length : Int)))) A305 (by kernel_rfl) (by kernel_rfl) h306 ?_
        refine s_one (.int .i64 ((catF p ds k).length : Int)) A305 S256 (g_move (by kernel_rfl)) rfl (fun ac A324 => ?_)
        refine s_want (dj := 161) (b := (decide ((frK (cutL p ds vs.length b) : Int) = (vs.length : Int)))) A324 (by kernel_rfl) (by kernel_rfl) h306 ?_
        refine s_one (.slice B2 vs.length b2) A324 S256 (g_move (by kernel_rfl)) rfl (fun ac A325 => ?_)
        refine s_want (dj := 161) (b := (decide ((frK (cutL p ds vs.length b) : Int) = (vs.length : Int)))) A325 (by kernel_rfl) (by kernel_rfl) h306 ?_
        refine s_one (.slice A229 (frK (cutL p ds vs.length b)) cap230) A325 S256 (g_move (by kernel_rfl)) rfl (fun ac A326 => ?_)
        refine s_want (dj := 161) (b := (decide ((frK (cutL p ds vs.length b) : Int) = (vs.length : Int)))) A326 (by kernel_rfl) (by kernel_rfl) h306 ?_
        refine s_one (.int .i64 (frK (cutL p ds vs.length b) : Int)) A326 S256 (g_built (r := [(0, .slice A229 (frK (cutL p ds vs.length b)) cap230)]) (by kernel_rfl) (fun _ _ _ => by kernel_rfl)) rfl (fun ac A327 => ?_)
        refine s_want (dj := 161) (b := (decide ((frK (cutL p ds vs.length b) : Int) = (vs.length : Int)))) A327 (by kernel_rfl) (by kernel_rfl) h306 ?_
        refine s_one (.pointer (some (ad9.add (frK (cutL p ds vs.length b) * 3)))) A327 S256 (g_index (u := .slice B2 vs.length b2) (k := .int .i64 (frK (cutL p ds vs.length b) : Int)) (by kernel_rfl) (by kernel_rfl) (ix_xsA (e := 66) (size := 3) (bytes := 40) (frK (cutL p ds vs.length b)) (by kernel_rfl) (by omega) (by omega) he9)) rfl (fun ac A328 => ?_)
        refine s_want (dj := 161) (b := (decide ((frK (cutL p ds vs.length b) : Int) = (vs.length : Int)))) A328 (by kernel_rfl) (by kernel_rfl) h306 ?_
        refine s_one (.pointer (some (ad9.add (frK (cutL p ds vs.length b) * 3 + 1)))) A328 S256 (g_field (u := .pointer (some (ad9.add (frK (cutL p ds vs.length b) * 3)))) (by kernel_rfl) (fld_x (x := frK (cutL p ds vs.length b) * 3) (o := 1) (by kernel_rfl))) rfl (fun ac A329 => ?_)
        refine s_want (dj := 161) (b := (decide ((frK (cutL p ds vs.length b) : Int) = (vs.length : Int)))) A329 (by kernel_rfl) (by kernel_rfl) h306 ?_
        refine s_one (.pointer (some (ad9.add (frK (cutL p ds vs.length b) * 3 + 1 + 0)))) A329 S256 (g_field (u := .pointer (some (ad9.add (frK (cutL p ds vs.length b) * 3 + 1)))) (by kernel_rfl) (fld_x (x := frK (cutL p ds vs.length b) * 3 + 1) (o := 0) (by kernel_rfl))) rfl (fun ac A330 => ?_)
        refine s_want (dj := 161) (b := (decide ((frK (cutL p ds vs.length b) : Int) = (vs.length : Int)))) A330 (by kernel_rfl) (by kernel_rfl) h306 ?_
        refine s_one (.int .i64 (enK ds (frK (cutL p ds vs.length b)) : Int)) A330 S256 (g_loadX (ad := ad9.add (frK (cutL p ds vs.length b) * 3 + 1 + 0)) (by kernel_rfl) (fz_cell (X := [.int .i64 p, .int .i64 (enK ds (frK (cutL p ds vs.length b)) : Int), .slice D9 (mdN (mdK ds (frK (cutL p ds vs.length b)))) d9]) (j := 1) hx9 rfl rfl) (by kernel_rfl)) rfl (fun ac A331 => ?_)
        refine s_want (dj := 161) (b := (decide ((frK (cutL p ds vs.length b) : Int) = (vs.length : Int)))) A331 (by kernel_rfl) (by kernel_rfl) h306 ?_
        refine s_call (fs := #[]) (cp := #[]) (r := [(0, .int .i64 (enK ds (frK (cutL p ds vs.length b)) : Int))]) #[.int .i64 (enK ds (frK (cutL p ds vs.length b)) : Int)] (.int .i64 ((10 + 128 * ((enK ds (frK (cutL p ds vs.length b))) * (enK ds (frK (cutL p ds vs.length b)))) : Nat) : Int)) A331 S256 (refSize_s (enK ds (frK (cutL p ds vs.length b))) _ (by omega)) Try.call50 (by kernel_rfl) (by kernel_rfl) (by kernel_rfl) rfl (fun ac wc A332 S333 => ?_)
        refine s_want (dj := 161) (b := (decide ((frK (cutL p ds vs.length b) : Int) = (vs.length : Int)))) A332 (by kernel_rfl) (by kernel_rfl) h306 ?_
        refine s_one (.int .i64 (((catF p ds k).length : Int) + ((10 + 128 * ((enK ds (frK (cutL p ds vs.length b))) * (enK ds (frK (cutL p ds vs.length b)))) : Nat) : Int))) A332 S333 (g_bin (u := .int .i64 ((catF p ds k).length : Int)) (k := .int .i64 ((10 + 128 * ((enK ds (frK (cutL p ds vs.length b))) * (enK ds (frK (cutL p ds vs.length b)))) : Nat) : Int)) (by kernel_rfl) (by kernel_rfl) (fun _ => by kernel_rfl) (b_add (by omega))) rfl (fun ac A335 => ?_)
        refine s_want (dj := 161) (b := (decide ((frK (cutL p ds vs.length b) : Int) = (vs.length : Int)))) A335 (by kernel_rfl) (by kernel_rfl) h306 ?_
        refine s_one (.int .i64 (b : Int)) A335 S333 (g_move (by kernel_rfl)) rfl (fun ac A336 => ?_)
        refine s_want (dj := 161) (b := (decide ((frK (cutL p ds vs.length b) : Int) = (vs.length : Int)))) A336 (by kernel_rfl) (by kernel_rfl) h306 ?_
        refine s_one (.bool (decide (((catF p ds k).length : Int) + ((10 + 128 * ((enK ds (frK (cutL p ds vs.length b))) * (enK ds (frK (cutL p ds vs.length b)))) : Nat) : Int) > (b : Int)))) A336 S333 (g_bin (u := .int .i64 (((catF p ds k).length : Int) + ((10 + 128 * ((enK ds (frK (cutL p ds vs.length b))) * (enK ds (frK (cutL p ds vs.length b)))) : Nat) : Int))) (k := .int .i64 (b : Int)) (by kernel_rfl) (by kernel_rfl) (fun _ => by kernel_rfl) (fun _ => by kernel_rfl)) rfl (fun ac A337 => ?_)
        refine s_want (dj := 155) (b := (decide ((atU (cutL p ds vs.length b) (frK (cutL p ds vs.length b)) : Int) = ((catF p ds k).length : Int)))) A337 (by kernel_rfl) (by kernel_rfl) (decide_eq_true (by rw [ek]; omega)) ?_
        refine s_one (.bool (decide (((catF p ds k).length : Int) + ((10 + 128 * ((enK ds (frK (cutL p ds vs.length b))) * (enK ds (frK (cutL p ds vs.length b)))) : Nat) : Int) > (b : Int)))) A337 S333 (g_pick_f (b := (decide ((frK (cutL p ds vs.length b) : Int) = (vs.length : Int)))) (by kernel_rfl) h306 (by kernel_rfl)) rfl (fun ac A338 => ?_)
        refine s_one (.bool (decide (((catF p ds k).length : Int) + ((10 + 128 * ((enK ds (frK (cutL p ds vs.length b))) * (enK ds (frK (cutL p ds vs.length b)))) : Nat) : Int) > (b : Int)))) A338 S333 (g_pick_t (b := (decide ((atU (cutL p ds vs.length b) (frK (cutL p ds vs.length b)) : Int) = ((catF p ds k).length : Int)))) (by kernel_rfl) (decide_eq_true (by rw [ek]; omega)) (by kernel_rfl)) rfl (fun ac A339 => ?_)
        refine s_one (.bool (decide (((catF p ds k).length : Int) + ((10 + 128 * ((enK ds (frK (cutL p ds vs.length b))) * (enK ds (frK (cutL p ds vs.length b)))) : Nat) : Int) > (b : Int)))) A339 S333 (g_assign (by kernel_rfl)) rfl (fun ac A340 => ?_)
        refine wpList_nil ?_
        refine n_then ?_
        refine wp_ret ?_
        refine fin1 (.bool (decide (((catF p ds k).length : Int) + ((10 + 128 * ((enK ds (frK (cutL p ds vs.length b))) * (enK ds (frK (cutL p ds vs.length b)))) : Nat) : Int) > (b : Int)))) Try.results9 A340 S333 (rv_tmp (by kernel_rfl)) ⟨?_, kp_trans S1.kp S333.kp⟩
        exact congrArg (fun b => Ending.returned (Value.bool b)) (decide_eq_true (by rw [ek]; omega))

set_option maxRecDepth 100000 in
set_option maxHeartbeats 400000 in
theorem frames_big (A : Option Addr) (cap : Nat) (ds : List Md) (p cut : Int) (w0 : World) (_hr : MdReads w0 A ds) (hl : 2 < ds.length) (hl2 : ds.length ≤ 9223372036854775807) :
    Calls Try.prog 9 #[.slice A ds.length cap, .int .i64 p, .int .i64 cut] w0 fun e w' => e = .returned (.bool true) ∧ Below w0.heap.size w0 w' := by
  have S0 := St.start w0
  refine enter (n := 176) Try.func9 rfl rfl rfl (fun ac A0 => ?_)
  refine wp_seq ?_
  refine wp_region_lit ?_
  refine s_one (.bool false) A0 S0 (g_assign (by kernel_rfl)) rfl (fun ac A1 => ?_)
  refine wpList_nil ?_
  refine n_then ?_
  refine wp_seq ?_
  refine wp_seq ?_
  refine wp_region_lit ?_
  refine s_call (fs := #[]) (cp := #[]) (r := []) #[] (.bool true) A1 S0 (awake_any _) Try.call11 (by kernel_rfl) (by kernel_rfl) (by kernel_rfl) rfl (fun ac wc A2 S3 => ?_)
  refine s_one (.bool false) A2 S3 (g_un (u := .bool true) (by kernel_rfl) (fun _ => by kernel_rfl)) rfl (fun ac A5 => ?_)
  refine wpList_nil ?_
  refine n_then ?_
  refine c_f (b := false) A5 (by kernel_rfl) rfl ?_
  refine wp_skip ?_
  refine n_then ?_
  refine wp_seq ?_
  refine wp_seq ?_
  refine wp_region_lit ?_
  refine s_one (.slice A ds.length cap) A5 S3 (g_move (by kernel_rfl)) rfl (fun ac A6 => ?_)
  refine s_one (.int .i64 (ds.length : Int)) A6 S3 (g_built (r := [(0, .slice A ds.length cap)]) (by kernel_rfl) (fun _ _ _ => by kernel_rfl)) rfl (fun ac A7 => ?_)
  refine s_one (.bool (decide ((ds.length : Int) > 2))) A7 S3 (g_bin (u := .int .i64 (ds.length : Int)) (k := .int .i64 2) (by kernel_rfl) (by kernel_rfl) (fun _ => by kernel_rfl) (fun _ => by kernel_rfl)) rfl (fun ac A8 => ?_)
  refine wpList_nil ?_
  refine n_then ?_
  refine c_t (b := (decide ((ds.length : Int) > 2))) A8 (by kernel_rfl) (decide_eq_true (by omega)) ?_
  refine wp_seq ?_
  refine wp_region_lit ?_
  refine s_one (.bool true) A8 S3 (g_assign (by kernel_rfl)) rfl (fun ac A9 => ?_)
  refine wpList_nil ?_
  refine n_then ?_
  refine wp_ret ?_
  refine r_then ?_
  refine fin1 (.bool true) Try.results9 A9 S3 (rv_tmp (by kernel_rfl)) ⟨?_, S3.kp⟩
  rfl

theorem TraceFrames_s (A : Option Addr) (n cap : Nat) (ds : List Md) (p cut : Int) (w0 : World) (hn : ds.length = n) (hr : MdReads w0 A ds) (hl : n ≤ 9223372036854775807) : Calls Try.prog 9 #[.slice A n cap, .int .i64 p, .int .i64 cut] w0 fun e w' => e = .returned (.bool true) ∧ Below w0.heap.size w0 w' := by
  subst hn
  rcases Nat.lt_or_ge 2 ds.length with h1 | h1
  · exact frames_big A cap ds p cut w0 hr h1 hl
  · exact frames_small A cap ds p cut w0 hr h1

end Go.Proofs.Ytcijkniijomcjaa
/- How the laws' arguments are opened: slices of floats and of ints. -/
namespace Go.Proofs.Ytcijkniijomcjaa
open Go.ChangeShapes Go.WideShapes Go.ChangeAt Go.RowKit Go.Deep Go.Cpl

theorem own : ownKnob Try.prog.godebug = none := by kernel_rfl
theorem laidOut : laidOutB Try.prog = true := by kernel_rfl

section
variable {H : Type} {enc : TypeId × Value → H} {w : World} {base : Nat} {spare : Nat → Bool} {held : Bool}

theorem trod_f32 {fuel : Nat} {v : Value} {y : DataW H × List MemPlace} (h : DataW.trod enc Try.prog w base spare held fuel 36 [v] = some y) : ∃ b, v = .float .f32 b := by
  cases fuel with
  | zero => simp [DataW.trod] at h
  | succ n =>
    simp only [DataW.trod, Try.underlying36] at h
    cases v <;> simp at h
    rename_i k b
    exact ⟨b, by rw [h.1.1]⟩

theorem open_floats {fuel : Nat} {A : Option Addr} {len cap : Nat} {x : DataW H × List MemPlace} (h : DataW.trod enc Try.prog w base spare held fuel 23 [.slice A len cap] = some x) :
    ∃ xs : List Nat, xs.length = len ∧ len ≤ maxLen ∧ FReads w A xs := by
  rcases open_slice1 Try.underlying23 (by kernel_rfl) h with ⟨hcs, _⟩ | ⟨a, l, c, m, n, V, D, Pl, hcs, _, hl, hm, hmm, _, hi⟩
  · simp at hcs
    obtain ⟨rfl, rfl, rfl⟩ := hcs
    exact ⟨[], rfl, Nat.zero_le _, fun k hk => absurd hk (by simp)⟩
  · simp at hcs
    obtain ⟨rfl, rfl, rfl⟩ := hcs
    have hlm : len ≤ m := by rw [hmm]; split <;> omega
    obtain ⟨f, hf⟩ := choose_lt (α := Nat) (p := fun i b => w.cell? (a.add i) = some (.float .f32 b)) (n := len) (fun i hi' => by
      obtain ⟨h1, h2⟩ := hi i (by omega)
      obtain ⟨b, hb⟩ := trod_f32 h2
      exact ⟨b, by rw [h1, hb]⟩)
    refine ⟨(List.range len).map f, by simp, by omega, fun k hk => ⟨a, rfl, ?_⟩⟩
    have hk' : k < len := by simpa using hk
    rw [nth_eq hk, hf k hk']
    simp
end
end Go.Proofs.Ytcijkniijomcjaa
