/- Valid at a minute. -/
import Derived.Test.YtnbimpkihpaldaaD5
namespace Go.Proofs.Ytnbimpkihpaldaa
open Go.RowKit Go.Cpl

theorem ord_f2 {el : List Int} {en : Nat} {m : Int} (h : 0 < en → nthI el ((en - 1) * 3) ≤ m) : (decide ((en : Int) > 0) && decide (m < nthI el ((en - 1) * 3 + 0))) = false := by
  rcases Nat.eq_zero_or_pos en with q | q
  · rw [decide_eq_false (by omega)]; rfl
  · have := h q
    rw [decide_eq_false (p := m < nthI el ((en - 1) * 3 + 0)) (by rw [Nat.add_zero]; omega), Bool.and_false]
theorem bkF_bd9 {ss : List Sp} {el : List Int} {k : Nat} (h : ∀ j, j < k → GoodE ss el j) : ∀ i, -1000000000 ≤ (bkF ss el k i).mi ∧ (bkF ss el k i).mi ≤ 1000000000 := fun i => by
  have := bkF_bd h i
  omega

set_option maxRecDepth 100000 in
set_option maxHeartbeats 400000 in
theorem at_s (A : Option Addr) (cap : Nat) (ss : List Sp) (EA : Option Addr) (en ec : Nat) (el : List Int) (m : Int) (w0 : World) (hr : SpReads w0 A ss) (hcp : ss.length ≤ cap) (hre : IReads w0 EA el) (hel : el.length = en * 3) (hen : en ≤ 60) (gs : GoodS ss) (ge : ∀ k, k < en → GoodE ss el k) (hm : (0 ≤ m ∧ m ≤ 100000000) ∧ (0 < en → nthI el ((en - 1) * 3) ≤ m)) :
    Calls Try.prog 17 #[.slice A ss.length cap, .slice EA en ec, .int .i64 m] w0 fun e w' => ∃ u : Nat × Nat, e = .returned (.tuple #[.pointer (some ⟨u.1, 0, none⟩), .int .i64 0]) ∧ St w0 [⟨u.1, 81, #[.slice A ss.length cap, .slice (some (⟨u.2, 0, none⟩)) ss.length ss.length], true⟩] [⟨.slice (some (⟨u.2, 0, none⟩)) ss.length ss.length, 79, 4, ss.length, (lsX ss.length (bkF ss el en))⟩] w' := by
  have S0 := St.start w0
  have hfw := gs.few
  refine enter (n := 42) Try.func17 rfl rfl rfl (fun ac A0 => ?_)
  refine wp_seq ?_
  refine wp_region_lit ?_
  refine s_one (.pointer none) A0 S0 (g_assign (by kernel_rfl)) rfl (fun ac A1 => ?_)
  refine s_one (.int .i64 0) A1 S0 (g_assign (by kernel_rfl)) rfl (fun ac A2 => ?_)
  refine wpList_nil ?_
  refine n_then ?_
  refine wp_seq ?_
  refine wp_region_lit ?_
  refine s_one (.slice A ss.length cap) A2 S0 (g_move (by kernel_rfl)) rfl (fun ac A3 => ?_)
  refine s_one (.slice EA en ec) A3 S0 (g_move (by kernel_rfl)) rfl (fun ac A4 => ?_)
  refine s_callSt (T := Nat × Nat) (fs := #[]) (cp := #[]) (r := [(0, .slice A ss.length cap), (0, .slice EA en ec)]) #[.slice A ss.length cap, .slice EA en ec] (fun u => .tuple #[.pointer (some ⟨u.1, 0, none⟩), .int .i64 0, .int .i64 0]) (fun u => [⟨u.1, 81, #[.slice A ss.length cap, .slice (some (⟨u.2, 0, none⟩)) ss.length ss.length], true⟩]) (fun u => [⟨.slice (some (⟨u.2, 0, none⟩)) ss.length ss.length, 79, 4, ss.length, (lsX ss.length (bkF ss el en))⟩]) A4 S0 (follow_s A cap ss EA en ec el _ (hr.kept S0.kp) (by omega) (hre.kept S0.kp) hel (by omega) gs ge) (fun u x hx => by simp only [List.mem_cons, List.not_mem_nil, or_false] at hx; subst hx; rfl) Try.call20 (by kernel_rfl) (by kernel_rfl) (by kernel_rfl) rfl (fun u10 ac wc A5 S6 => ?_)
  obtain ⟨gb8, gl9⟩ := u10
  replace S6 : St w0 [⟨gb8, 81, #[.slice A ss.length cap, .slice (some (⟨gl9, 0, none⟩)) ss.length ss.length], true⟩] [⟨.slice (some (⟨gl9, 0, none⟩)) ss.length ss.length, 79, 4, ss.length, (lsX ss.length (bkF ss el en))⟩] _ := S6
  refine s_one (.tuple #[.pointer (some ⟨gb8, 0, none⟩), .int .i64 0, .int .i64 0]) A5 S6 (g_move (by kernel_rfl)) rfl (fun ac A11 => ?_)
  refine s_one (.pointer (some ⟨gb8, 0, none⟩)) A11 S6 (g_extract (u := .tuple #[.pointer (some ⟨gb8, 0, none⟩), .int .i64 0, .int .i64 0]) (by kernel_rfl) (fun _ => by kernel_rfl)) rfl (fun ac A12 => ?_)
  refine s_one (.int .i64 0) A12 S6 (g_extract (u := .tuple #[.pointer (some ⟨gb8, 0, none⟩), .int .i64 0, .int .i64 0]) (by kernel_rfl) (fun _ => by kernel_rfl)) rfl (fun ac A13 => ?_)
  refine s_one (.int .i64 0) A13 S6 (g_extract (u := .tuple #[.pointer (some ⟨gb8, 0, none⟩), .int .i64 0, .int .i64 0]) (by kernel_rfl) (fun _ => by kernel_rfl)) rfl (fun ac A14 => ?_)
  refine s_one (.pointer (some ⟨gb8, 0, none⟩)) A14 S6 (g_assign (by kernel_rfl)) rfl (fun ac A15 => ?_)
  refine s_one (.int .i64 0) A15 S6 (g_assign (by kernel_rfl)) rfl (fun ac A16 => ?_)
  refine s_one (.int .i64 0) A16 S6 (g_assign (by kernel_rfl)) rfl (fun ac A17 => ?_)
  refine wpList_nil ?_
  refine n_then ?_
  refine wp_seq ?_
  refine wp_block ?_
  refine wp_seq ?_
  refine wp_region_lit ?_
  refine s_one (.int .i64 0) A17 S6 (g_move (by kernel_rfl)) rfl (fun ac A18 => ?_)
  refine s_one (.bool (decide (0 ≠ 0))) A18 S6 (g_bin (u := .int .i64 0) (k := .int .i64 0) (by kernel_rfl) (by kernel_rfl) (fun _ => by kernel_rfl) b_neq) rfl (fun ac A19 => ?_)
  refine s_one (.bool (decide (0 ≠ 0))) A19 S6 (g_assign (by kernel_rfl)) rfl (fun ac A20 => ?_)
  refine wpList_nil ?_
  refine n_then ?_
  refine c_f (b := (decide (0 ≠ 0))) A20 (by kernel_rfl) (by decide) ?_
  refine wp_seq ?_
  refine wp_region_lit ?_
  refine s_one (.int .i64 m) A20 S6 (g_move (by kernel_rfl)) rfl (fun ac A21 => ?_)
  refine s_call (fs := #[]) (cp := #[]) (r := [(0, .int .i64 m), (0, .int .i64 0), (0, .int .i64 100000000)]) #[.int .i64 m, .int .i64 0, .int .i64 100000000] (.bool (inB m 0 100000000)) A21 S6 (within_s m 0 100000000 _) Try.call21 (by kernel_rfl) (by kernel_rfl) (by kernel_rfl) rfl (fun ac wc A22 S23 => ?_)
  refine s_one (.bool (!(inB m 0 100000000))) A22 S23 (g_un (u := .bool (inB m 0 100000000)) (by kernel_rfl) (fun _ => by kernel_rfl)) rfl (fun ac A25 => ?_)
  refine s_one (.bool (!(inB m 0 100000000))) A25 S23 (g_assign (by kernel_rfl)) rfl (fun ac A26 => ?_)
  refine wpList_nil ?_
  refine n_then ?_
  refine c_f (b := (!(inB m 0 100000000))) A26 (by kernel_rfl) (b_nt (inB_true.2 hm.1)) ?_
  refine wp_seq ?_
  refine c_cut (fun ac wc => Fr 42 ac [(26, .bool ((decide ((en : Int) > 0)) && (decide (m < nthI el ((en - 1) * 3 + 0))))), (0, .slice A ss.length cap), (1, .slice EA en ec), (2, .int .i64 m), (6, .pointer none), (7, .int .i64 0), (12, .slice A ss.length cap), (13, .slice EA en ec), (14, .tuple #[.pointer (some ⟨gb8, 0, none⟩), .int .i64 0, .int .i64 0]), (11, .tuple #[.pointer (some ⟨gb8, 0, none⟩), .int .i64 0, .int .i64 0]), (15, .pointer (some ⟨gb8, 0, none⟩)), (16, .int .i64 0), (17, .int .i64 0), (8, .pointer (some ⟨gb8, 0, none⟩)), (9, .int .i64 0), (10, .int .i64 0), (19, .int .i64 0), (20, .bool (decide (0 ≠ 0))), (18, .bool (decide (0 ≠ 0))), (23, .int .i64 m), (24, .bool (inB m 0 100000000)), (25, .bool (!(inB m 0 100000000))), (22, .bool (!(inB m 0 100000000)))] ∧ St w0 [⟨gb8, 81, #[.slice A ss.length cap, .slice (some (⟨gl9, 0, none⟩)) ss.length ss.length], true⟩] [⟨.slice (some (⟨gl9, 0, none⟩)) ss.length ss.length, 79, 4, ss.length, (lsX ss.length (bkF ss el en))⟩] wc) ?_ ?_
  · refine wp_region_lit ?_
    refine s_one (.slice EA en ec) A26 S23 (g_move (by kernel_rfl)) rfl (fun ac A27 => ?_)
    refine s_one (.int .i64 (en : Int)) A27 S23 (g_built (r := [(0, .slice EA en ec)]) (by kernel_rfl) (fun _ _ _ => by kernel_rfl)) rfl (fun ac A28 => ?_)
    refine s_one (.bool (decide ((en : Int) > 0))) A28 S23 (g_bin (u := .int .i64 (en : Int)) (k := .int .i64 0) (by kernel_rfl) (by kernel_rfl) (fun _ => by kernel_rfl) (fun _ => by kernel_rfl)) rfl (fun ac A29 => ?_)
    refine s_one (.bool (decide ((en : Int) > 0))) A29 S23 (g_move (by kernel_rfl)) rfl (fun ac A30 => ?_)
    refine by_bool (decide ((en : Int) > 0)) (fun h31 => ?_) (fun h31 => ?_)
    · have p32 := of_decide_eq_true h31
      refine s_want (dj := 30) (b := (decide ((en : Int) > 0))) A30 (by kernel_rfl) (by kernel_rfl) h31 ?_
      refine s_one (.int .i64 m) A30 S23 (g_move (by kernel_rfl)) rfl (fun ac A33 => ?_)
      refine s_want (dj := 30) (b := (decide ((en : Int) > 0))) A33 (by kernel_rfl) (by kernel_rfl) h31 ?_
      refine s_one (.slice EA en ec) A33 S23 (g_move (by kernel_rfl)) rfl (fun ac A34 => ?_)
      refine s_want (dj := 30) (b := (decide ((en : Int) > 0))) A34 (by kernel_rfl) (by kernel_rfl) h31 ?_
      refine s_one (.slice EA en ec) A34 S23 (g_move (by kernel_rfl)) rfl (fun ac A35 => ?_)
      refine s_want (dj := 30) (b := (decide ((en : Int) > 0))) A35 (by kernel_rfl) (by kernel_rfl) h31 ?_
      refine s_one (.int .i64 (en : Int)) A35 S23 (g_built (r := [(0, .slice EA en ec)]) (by kernel_rfl) (fun _ _ _ => by kernel_rfl)) rfl (fun ac A36 => ?_)
      refine s_want (dj := 30) (b := (decide ((en : Int) > 0))) A36 (by kernel_rfl) (by kernel_rfl) h31 ?_
      refine s_one (.int .i64 ((en : Int) - 1)) A36 S23 (g_bin (u := .int .i64 (en : Int)) (k := .int .i64 1) (by kernel_rfl) (by kernel_rfl) (fun _ => by kernel_rfl) (b_sub (by omega))) rfl (fun ac A37 => ?_)
      refine s_want (dj := 30) (b := (decide ((en : Int) > 0))) A37 (by kernel_rfl) (by kernel_rfl) h31 ?_
      obtain ⟨ad38, rfl, _⟩ := hre ((en - 1) * 3) (by have hlen := hel; omega)
      refine s_one (.pointer (some (ad38.add ((en - 1) * 3)))) A37 S23 (g_index (u := .slice (some ad38) en ec) (k := .int .i64 ((en : Int) - 1)) (by kernel_rfl) (by kernel_rfl) (ix_xs (e := 30) (bytes := 24) (en - 1) (by kernel_rfl) (by omega) (by omega))) rfl (fun ac A39 => ?_)
      refine s_want (dj := 30) (b := (decide ((en : Int) > 0))) A39 (by kernel_rfl) (by kernel_rfl) h31 ?_
      refine s_one (.pointer (some (ad38.add ((en - 1) * 3 + 0)))) A39 S23 (g_field (u := .pointer (some (ad38.add ((en - 1) * 3)))) (by kernel_rfl) (fld_x (o := 0) (by kernel_rfl))) rfl (fun ac A40 => ?_)
      refine s_want (dj := 30) (b := (decide ((en : Int) > 0))) A40 (by kernel_rfl) (by kernel_rfl) h31 ?_
      refine s_one (.int .i64 (nthI el ((en - 1) * 3 + 0))) A40 S23 (g_loadXI (l := el) (k := (en - 1) * 3 + 0) (by kernel_rfl) hre (by have hlen := hel; omega) (by kernel_rfl)) rfl (fun ac A41 => ?_)
      refine s_want (dj := 30) (b := (decide ((en : Int) > 0))) A41 (by kernel_rfl) (by kernel_rfl) h31 ?_
      refine s_one (.bool (decide (m < nthI el ((en - 1) * 3 + 0)))) A41 S23 (g_bin (u := .int .i64 m) (k := .int .i64 (nthI el ((en - 1) * 3 + 0))) (by kernel_rfl) (by kernel_rfl) (fun _ => by kernel_rfl) (fun _ => by kernel_rfl)) rfl (fun ac A42 => ?_)
      refine s_one (.bool (decide (m < nthI el ((en - 1) * 3 + 0)))) A42 S23 (g_pick_t (b := (decide ((en : Int) > 0))) (by kernel_rfl) h31 (by kernel_rfl)) rfl (fun ac A43 => ?_)
      refine s_one (.bool (decide (m < nthI el ((en - 1) * 3 + 0)))) A43 S23 (g_assign (by kernel_rfl)) rfl (fun ac A44 => ?_)
      refine wpList_nil ?_
      refine n_then ?_
      exact ⟨(A44.slot (A44.slot (A44.slot (A44.slot (A44.slot (A44.slot (A44.slot (A44.slot (A44.slot (A44.slot (A44.slot (A44.slot (A44.slot (A44.slot (A44.slot (A44.slot (A44.slot (A44.slot (A44.slot (A44.slot (A44.slot (A44.slot (A44.slot A44.nil (v := .bool (!(inB m 0 100000000))) (by kernel_rfl) rfl) (v := .bool (!(inB m 0 100000000))) (by kernel_rfl) rfl) (v := .bool (inB m 0 100000000)) (by kernel_rfl) rfl) (v := .int .i64 m) (by kernel_rfl) rfl) (v := .bool (decide (0 ≠ 0))) (by kernel_rfl) rfl) (v := .bool (decide (0 ≠ 0))) (by kernel_rfl) rfl) (v := .int .i64 0) (by kernel_rfl) rfl) (v := .int .i64 0) (by kernel_rfl) rfl) (v := .int .i64 0) (by kernel_rfl) rfl) (v := .pointer (some ⟨gb8, 0, none⟩)) (by kernel_rfl) rfl) (v := .int .i64 0) (by kernel_rfl) rfl) (v := .int .i64 0) (by kernel_rfl) rfl) (v := .pointer (some ⟨gb8, 0, none⟩)) (by kernel_rfl) rfl) (v := .tuple #[.pointer (some ⟨gb8, 0, none⟩), .int .i64 0, .int .i64 0]) (by kernel_rfl) rfl) (v := .tuple #[.pointer (some ⟨gb8, 0, none⟩), .int .i64 0, .int .i64 0]) (by kernel_rfl) rfl) (v := .slice (some ad38) en ec) (by kernel_rfl) rfl) (v := .slice A ss.length cap) (by kernel_rfl) rfl) (v := .int .i64 0) (by kernel_rfl) rfl) (v := .pointer none) (by kernel_rfl) rfl) (v := .int .i64 m) (by kernel_rfl) rfl) (v := .slice (some ad38) en ec) (by kernel_rfl) rfl) (v := .slice A ss.length cap) (by kernel_rfl) rfl) (v := .bool (decide (m < nthI el ((en - 1) * 3 + 0)))) (by kernel_rfl) (congrArg Value.bool (b_and_t h31 (Eq.refl (decide (m < nthI el ((en - 1) * 3 + 0))))).symm)), S23.sub sub_all sub_all⟩
    · have p45 := of_decide_eq_false h31
      refine s_not (dj := 30) (b := (decide ((en : Int) > 0))) A30 (by kernel_rfl) (by kernel_rfl) h31 rfl (fun ac A46 => ?_)
      refine s_not (dj := 30) (b := (decide ((en : Int) > 0))) A46 (by kernel_rfl) (by kernel_rfl) h31 rfl (fun ac A47 => ?_)
      refine s_not (dj := 30) (b := (decide ((en : Int) > 0))) A47 (by kernel_rfl) (by kernel_rfl) h31 rfl (fun ac A48 => ?_)
      refine s_not (dj := 30) (b := (decide ((en : Int) > 0))) A48 (by kernel_rfl) (by kernel_rfl) h31 rfl (fun ac A49 => ?_)
      refine s_not (dj := 30) (b := (decide ((en : Int) > 0))) A49 (by kernel_rfl) (by kernel_rfl) h31 rfl (fun ac A50 => ?_)
      refine s_not (dj := 30) (b := (decide ((en : Int) > 0))) A50 (by kernel_rfl) (by kernel_rfl) h31 rfl (fun ac A51 => ?_)
      refine s_not (dj := 30) (b := (decide ((en : Int) > 0))) A51 (by kernel_rfl) (by kernel_rfl) h31 rfl (fun ac A52 => ?_)
      refine s_not (dj := 30) (b := (decide ((en : Int) > 0))) A52 (by kernel_rfl) (by kernel_rfl) h31 rfl (fun ac A53 => ?_)
      refine s_not (dj := 30) (b := (decide ((en : Int) > 0))) A53 (by kernel_rfl) (by kernel_rfl) h31 rfl (fun ac A54 => ?_)
      refine s_one (.bool false) A54 S23 (g_pick_f (b := (decide ((en : Int) > 0))) (by kernel_rfl) h31 (by kernel_rfl)) rfl (fun ac A55 => ?_)
      refine s_one (.bool false) A55 S23 (g_assign (by kernel_rfl)) rfl (fun ac A56 => ?_)
      refine wpList_nil ?_
      refine n_then ?_
      exact ⟨(A56.slot (A56.slot (A56.slot (A56.slot (A56.slot (A56.slot (A56.slot (A56.slot (A56.slot (A56.slot (A56.slot (A56.slot (A56.slot (A56.slot (A56.slot (A56.slot (A56.slot (A56.slot (A56.slot (A56.slot (A56.slot (A56.slot (A56.slot A56.nil (v := .bool (!(inB m 0 100000000))) (by kernel_rfl) rfl) (v := .bool (!(inB m 0 100000000))) (by kernel_rfl) rfl) (v := .bool (inB m 0 100000000)) (by kernel_rfl) rfl) (v := .int .i64 m) (by kernel_rfl) rfl) (v := .bool (decide (0 ≠ 0))) (by kernel_rfl) rfl) (v := .bool (decide (0 ≠ 0))) (by kernel_rfl) rfl) (v := .int .i64 0) (by kernel_rfl) rfl) (v := .int .i64 0) (by kernel_rfl) rfl) (v := .int .i64 0) (by kernel_rfl) rfl) (v := .pointer (some ⟨gb8, 0, none⟩)) (by kernel_rfl) rfl) (v := .int .i64 0) (by kernel_rfl) rfl) (v := .int .i64 0) (by kernel_rfl) rfl) (v := .pointer (some ⟨gb8, 0, none⟩)) (by kernel_rfl) rfl) (v := .tuple #[.pointer (some ⟨gb8, 0, none⟩), .int .i64 0, .int .i64 0]) (by kernel_rfl) rfl) (v := .tuple #[.pointer (some ⟨gb8, 0, none⟩), .int .i64 0, .int .i64 0]) (by kernel_rfl) rfl) (v := .slice EA en ec) (by kernel_rfl) rfl) (v := .slice A ss.length cap) (by kernel_rfl) rfl) (v := .int .i64 0) (by kernel_rfl) rfl) (v := .pointer none) (by kernel_rfl) rfl) (v := .int .i64 m) (by kernel_rfl) rfl) (v := .slice EA en ec) (by kernel_rfl) rfl) (v := .slice A ss.length cap) (by kernel_rfl) rfl) (v := .bool false) (by kernel_rfl) (congrArg Value.bool (ord_f2 hm.2).symm)), S23.sub sub_all sub_all⟩
  · rintro ac wc ⟨A57, S58⟩
    refine n_then ?_
    refine c_f (b := ((decide ((en : Int) > 0)) && (decide (m < nthI el ((en - 1) * 3 + 0))))) A57 (by kernel_rfl) (ord_f2 hm.2) ?_
    refine wp_skip ?_
    refine n_block ?_
    refine n_then ?_
    refine wp_seq ?_
    refine wp_region_lit ?_
    refine s_one (.pointer (some ⟨gb8, 0, none⟩)) A57 S58 (g_move (by kernel_rfl)) rfl (fun ac A59 => ?_)
    refine s_one (.pointer (some ⟨gb8, 0, none⟩)) A59 S58 (g_assign (by kernel_rfl)) rfl (fun ac A60 => ?_)
    refine s_one (.int .i64 0) A60 S58 (g_assign (by kernel_rfl)) rfl (fun ac A61 => ?_)
    refine wpList_nil ?_
    refine n_then ?_
    refine wp_ret ?_
    refine fin2 (.pointer (some ⟨gb8, 0, none⟩)) (.int .i64 0) Try.results17 A61 S58 (rv_tmp (by kernel_rfl)) (rv_tmp (by kernel_rfl)) ⟨(gb8, gl9), rfl, S58.sub sub_all sub_all⟩

set_option maxRecDepth 100000 in
set_option maxHeartbeats 400000 in
theorem ValidAt_s (A : Option Addr) (cap : Nat) (ss : List Sp) (EA : Option Addr) (en ec : Nat) (el : List Int) (m : Int) (w0 : World) (hr : SpReads w0 A ss) (hcp : ss.length ≤ cap) (hre : IReads w0 EA el) (hel : el.length = en * 3) (hen : en ≤ 60) (gs : GoodS ss) (ge : ∀ k, k < en → GoodE ss el k) (hm : (0 ≤ m ∧ m ≤ 100000000) ∧ (0 < en → nthI el ((en - 1) * 3) ≤ m)) :
    Calls Try.prog 7 #[.slice A ss.length cap, .slice EA en ec, .int .i64 m] w0 fun e w' => ∃ v, e = .returned (.tuple #[v, .int .i64 0]) ∧ Below w0.heap.size w0 w' ∧ w'.ownsRow w0.heap.size 4 1 v ss.length (bX ss.length (vd ss (bkF ss el en) m)) := by
  have S0 := St.start w0
  have hfw := gs.few
  refine enter (n := 36) Try.func7 rfl rfl rfl (fun ac A0 => ?_)
  refine wp_seq ?_
  refine wp_region_lit ?_
  refine s_one (.slice none 0 0) A0 S0 (g_assign (by kernel_rfl)) rfl (fun ac A1 => ?_)
  refine s_one (.int .i64 0) A1 S0 (g_assign (by kernel_rfl)) rfl (fun ac A2 => ?_)
  refine wpList_nil ?_
  refine n_then ?_
  refine wp_seq ?_
  refine wp_region_lit ?_
  refine s_one (.slice A ss.length cap) A2 S0 (g_move (by kernel_rfl)) rfl (fun ac A3 => ?_)
  refine s_one (.slice EA en ec) A3 S0 (g_move (by kernel_rfl)) rfl (fun ac A4 => ?_)
  refine s_one (.int .i64 m) A4 S0 (g_move (by kernel_rfl)) rfl (fun ac A5 => ?_)
  refine s_callSt (T := Nat × Nat) (fs := #[]) (cp := #[]) (r := [(0, .slice A ss.length cap), (0, .slice EA en ec), (0, .int .i64 m)]) #[.slice A ss.length cap, .slice EA en ec, .int .i64 m] (fun u => .tuple #[.pointer (some ⟨u.1, 0, none⟩), .int .i64 0]) (fun u => [⟨u.1, 81, #[.slice A ss.length cap, .slice (some (⟨u.2, 0, none⟩)) ss.length ss.length], true⟩]) (fun u => [⟨.slice (some (⟨u.2, 0, none⟩)) ss.length ss.length, 79, 4, ss.length, (lsX ss.length (bkF ss el en))⟩]) A5 S0 (at_s A cap ss EA en ec el m _ (hr.kept S0.kp) (by omega) (hre.kept S0.kp) hel (by omega) gs ge hm) (fun u x hx => by simp only [List.mem_cons, List.not_mem_nil, or_false] at hx; subst hx; rfl) Try.call17 (by kernel_rfl) (by kernel_rfl) (by kernel_rfl) rfl (fun u11 ac wc A6 S7 => ?_)
  obtain ⟨gb9, gl10⟩ := u11
  replace S7 : St w0 [⟨gb9, 81, #[.slice A ss.length cap, .slice (some (⟨gl10, 0, none⟩)) ss.length ss.length], true⟩] [⟨.slice (some (⟨gl10, 0, none⟩)) ss.length ss.length, 79, 4, ss.length, (lsX ss.length (bkF ss el en))⟩] _ := S7
  refine s_one (.tuple #[.pointer (some ⟨gb9, 0, none⟩), .int .i64 0]) A6 S7 (g_move (by kernel_rfl)) rfl (fun ac A12 => ?_)
  refine s_one (.pointer (some ⟨gb9, 0, none⟩)) A12 S7 (g_extract (u := .tuple #[.pointer (some ⟨gb9, 0, none⟩), .int .i64 0]) (by kernel_rfl) (fun _ => by kernel_rfl)) rfl (fun ac A13 => ?_)
  refine s_one (.int .i64 0) A13 S7 (g_extract (u := .tuple #[.pointer (some ⟨gb9, 0, none⟩), .int .i64 0]) (by kernel_rfl) (fun _ => by kernel_rfl)) rfl (fun ac A14 => ?_)
  refine s_one (.pointer (some ⟨gb9, 0, none⟩)) A14 S7 (g_assign (by kernel_rfl)) rfl (fun ac A15 => ?_)
  refine s_one (.int .i64 0) A15 S7 (g_assign (by kernel_rfl)) rfl (fun ac A16 => ?_)
  refine wpList_nil ?_
  refine n_then ?_
  refine wp_seq ?_
  refine wp_seq ?_
  refine wp_region_lit ?_
  refine s_one (.int .i64 0) A16 S7 (g_move (by kernel_rfl)) rfl (fun ac A17 => ?_)
  refine s_one (.bool (decide (0 ≠ 0))) A17 S7 (g_bin (u := .int .i64 0) (k := .int .i64 0) (by kernel_rfl) (by kernel_rfl) (fun _ => by kernel_rfl) b_neq) rfl (fun ac A18 => ?_)
  refine wpList_nil ?_
  refine n_then ?_
  refine c_f (b := (decide (0 ≠ 0))) A18 (by kernel_rfl) (by decide) ?_
  refine wp_skip ?_
  refine n_then ?_
  refine wp_seq ?_
  refine wp_region_lit ?_
  refine s_one (.slice none 0 0) A18 S7 (g_assign (by kernel_rfl)) rfl (fun ac A19 => ?_)
  refine wpList_nil ?_
  refine n_then ?_
  refine wp_seq ?_
  refine wp_seq ?_
  refine wp_region_lit ?_
  refine s_one (.slice A ss.length cap) A19 S7 (g_move (by kernel_rfl)) rfl (fun ac A20 => ?_)
  refine s_one (.int .i64 (ss.length : Int)) A20 S7 (g_built (r := [(0, .slice A ss.length cap)]) (by kernel_rfl) (fun _ _ _ => by kernel_rfl)) rfl (fun ac A21 => ?_)
  refine s_one (.int .i64 0) A21 S7 (g_move (by kernel_rfl)) rfl (fun ac A22 => ?_)
  refine wpList_nil ?_
  refine n_then ?_
  refine wp_block ?_
  have S23 := S7.nilRow 4 1
  refine c_loopN (fun mm ac wc => ∃ (i : Nat) (v : Value), mm = ss.length - i ∧ (i ≤ ss.length) ∧ Fr 36 ac [(0, .slice A ss.length cap), (1, .slice EA en ec), (2, .int .i64 m), (6, .slice none 0 0), (7, .int .i64 0), (13, .slice A ss.length cap), (14, .slice EA en ec), (15, .int .i64 m), (16, .tuple #[.pointer (some ⟨gb9, 0, none⟩), .int .i64 0]), (12, .tuple #[.pointer (some ⟨gb9, 0, none⟩), .int .i64 0]), (17, .pointer (some ⟨gb9, 0, none⟩)), (18, .int .i64 0), (8, .pointer (some ⟨gb9, 0, none⟩)), (9, .int .i64 0), (19, .int .i64 0), (20, .bool (decide (0 ≠ 0))), (22, .slice A ss.length cap), (23, .int .i64 (ss.length : Int)), (24, .int .i64 (i : Int)), (10, v)] ∧ St w0 [⟨gb9, 81, #[.slice A ss.length cap, .slice (some (⟨gl10, 0, none⟩)) ss.length ss.length], true⟩] [⟨v, 4, 1, i, (bX i (vd ss (bkF ss el en) m))⟩, ⟨.slice (some (⟨gl10, 0, none⟩)) ss.length ss.length, 79, 4, ss.length, (lsX ss.length (bkF ss el en))⟩] wc) _ ⟨0, .slice none 0 0, rfl, Nat.zero_le _, (A22.slot (A22.slot (A22.slot (A22.slot (A22.slot (A22.slot (A22.slot (A22.slot (A22.slot (A22.slot (A22.slot (A22.slot (A22.slot (A22.slot (A22.slot (A22.slot (A22.slot (A22.slot (A22.slot (A22.slot A22.nil (v := .slice none 0 0) (by kernel_rfl) (by first | rfl | simp)) (v := .int .i64 0) (by kernel_rfl) (congrArg (Value.int .i64) (by omega))) (v := .int .i64 (ss.length : Int)) (by kernel_rfl) rfl) (v := .slice A ss.length cap) (by kernel_rfl) rfl) (v := .bool (decide (0 ≠ 0))) (by kernel_rfl) rfl) (v := .int .i64 0) (by kernel_rfl) rfl) (v := .int .i64 0) (by kernel_rfl) rfl) (v := .pointer (some ⟨gb9, 0, none⟩)) (by kernel_rfl) rfl) (v := .int .i64 0) (by kernel_rfl) rfl) (v := .pointer (some ⟨gb9, 0, none⟩)) (by kernel_rfl) rfl) (v := .tuple #[.pointer (some ⟨gb9, 0, none⟩), .int .i64 0]) (by kernel_rfl) rfl) (v := .tuple #[.pointer (some ⟨gb9, 0, none⟩), .int .i64 0]) (by kernel_rfl) rfl) (v := .int .i64 m) (by kernel_rfl) rfl) (v := .slice EA en ec) (by kernel_rfl) rfl) (v := .slice A ss.length cap) (by kernel_rfl) rfl) (v := .int .i64 0) (by kernel_rfl) rfl) (v := .slice none 0 0) (by kernel_rfl) rfl) (v := .int .i64 m) (by kernel_rfl) rfl) (v := .slice EA en ec) (by kernel_rfl) rfl) (v := .slice A ss.length cap) (by kernel_rfl) rfl), (St.rerow 0 S23 rfl ⟨rfl, rfl⟩).sub sub_all sub_all⟩ ?_
  rintro mm ac wc ⟨i, v, hm26, hi, A24, S25⟩
  refine wp_seq ?_
  refine wp_region_lit ?_
  refine s_one (.bool (decide ((i : Int) < (ss.length : Int)))) A24 S25 (g_bin (u := .int .i64 (i : Int)) (k := .int .i64 (ss.length : Int)) (by kernel_rfl) (by kernel_rfl) (fun _ => by kernel_rfl) (fun _ => by kernel_rfl)) rfl (fun ac A27 => ?_)
  refine wpList_nil ?_
  refine n_then ?_
  refine wp_seq ?_
  refine c_ifb (b := (decide ((i : Int) < (ss.length : Int)))) A27 (by kernel_rfl) (fun h28 => ?_) (fun h28 => ?_)
  · have p29 := of_decide_eq_true h28
    refine wp_skip ?_
    refine n_then ?_
    refine wp_seq ?_
    refine wp_block ?_
    refine wp_seq ?_
    refine wp_region_lit ?_
    refine s_one (.int .i64 (i : Int)) A27 S25 (g_move (by kernel_rfl)) rfl (fun ac A30 => ?_)
    refine s_one (.int .i64 (i : Int)) A30 S25 (g_assign (by kernel_rfl)) rfl (fun ac A31 => ?_)
    refine wpList_nil ?_
    refine n_then ?_
    refine wp_region_lit ?_
    refine s_one (v) A31 S25 (g_move (by kernel_rfl)) rfl (fun ac A32 => ?_)
    refine s_one (.pointer (some ⟨gb9, 0, none⟩)) A32 S25 (g_move (by kernel_rfl)) rfl (fun ac A33 => ?_)
    refine s_one (.int .i64 (i : Int)) A33 S25 (g_move (by kernel_rfl)) rfl (fun ac A34 => ?_)
    refine s_one (.int .i64 m) A34 S25 (g_move (by kernel_rfl)) rfl (fun ac A35 => ?_)
    refine s_call (fs := #[]) (cp := #[]) (r := [(0, .pointer (some ⟨gb9, 0, none⟩)), (0, .int .i64 (i : Int)), (0, .int .i64 m)]) #[.pointer (some ⟨gb9, 0, none⟩), .int .i64 (i : Int), .int .i64 m] (.bool (vd ss (bkF ss el en) m i)) A35 S25 (valid_x gb9 A cap ss (⟨gl10, 0, none⟩) ss.length (bkF ss el en) i (i : Int) m _ (by omega) (by omega) (S25.get 0 rfl) (row_vreads (S25.row 1 rfl)) (hr.kept S25.kp) gs (bkF_bd9 ge)) Try.call18 (by kernel_rfl) (by kernel_rfl) (by kernel_rfl) rfl (fun ac wc A36 S37 => ?_)
    refine s_bs (e := 4) (r := [(0, .bool (vd ss (bkF ss el en) m i))]) (#[.bool (vd ss (bkF ss el en) m i)]) A36 S37 (by kernel_rfl) (by kernel_rfl) rfl (fun g41 ac wc A39 S40 => ?_)
    refine s_append (e := 4) (size := 1) (bytes := 1) (v := v) (g := g41) (m' := 1) (c := 1) 0 0 [.bool (vd ss (bkF ss el en) m i)] A39 S40 (by kernel_rfl) (by kernel_rfl) (by kernel_rfl) rfl rfl (by kernel_rfl) rfl (by kernel_rfl) (by omega) (by omega) rfl (fun v45 ac wc A42 S43 => ?_)
    refine s_one (v45) A42 S43 (g_assign (by kernel_rfl)) rfl (fun ac A46 => ?_)
    refine wpList_nil ?_
    refine n_block ?_
    refine n_then ?_
    refine wp_region_lit ?_
    refine s_one (.int .i64 ((i : Int) + 1)) A46 S43 (g_bin (u := .int .i64 (i : Int)) (k := .int .i64 1) (by kernel_rfl) (by kernel_rfl) (fun _ => by kernel_rfl) (b_add (by omega))) rfl (fun ac A47 => ?_)
    refine s_one (.int .i64 ((i : Int) + 1)) A47 S43 (g_move (by kernel_rfl)) rfl (fun ac A48 => ?_)
    refine wpList_nil ?_
    refine n_then ?_
    refine ⟨_, ⟨i + 1, v45, rfl, by omega, (A48.slot (A48.slot (A48.slot (A48.slot (A48.slot (A48.slot (A48.slot (A48.slot (A48.slot (A48.slot (A48.slot (A48.slot (A48.slot (A48.slot (A48.slot (A48.slot (A48.slot (A48.slot (A48.slot (A48.slot A48.nil (v := v45) (by kernel_rfl) rfl) (v := .int .i64 ((i : Int) + 1)) (by kernel_rfl) (congrArg (Value.int .i64) (by omega))) (v := .int .i64 (ss.length : Int)) (by kernel_rfl) rfl) (v := .slice A ss.length cap) (by kernel_rfl) rfl) (v := .bool (decide (0 ≠ 0))) (by kernel_rfl) rfl) (v := .int .i64 0) (by kernel_rfl) rfl) (v := .int .i64 0) (by kernel_rfl) rfl) (v := .pointer (some ⟨gb9, 0, none⟩)) (by kernel_rfl) rfl) (v := .int .i64 0) (by kernel_rfl) rfl) (v := .pointer (some ⟨gb9, 0, none⟩)) (by kernel_rfl) rfl) (v := .tuple #[.pointer (some ⟨gb9, 0, none⟩), .int .i64 0]) (by kernel_rfl) rfl) (v := .tuple #[.pointer (some ⟨gb9, 0, none⟩), .int .i64 0]) (by kernel_rfl) rfl) (v := .int .i64 m) (by kernel_rfl) rfl) (v := .slice EA en ec) (by kernel_rfl) rfl) (v := .slice A ss.length cap) (by kernel_rfl) rfl) (v := .int .i64 0) (by kernel_rfl) rfl) (v := .slice none 0 0) (by kernel_rfl) rfl) (v := .int .i64 m) (by kernel_rfl) rfl) (v := .slice EA en ec) (by kernel_rfl) rfl) (v := .slice A ss.length cap) (by kernel_rfl) rfl), (St.rerow 0 S43 rfl ⟨rfl, bX_snoc _ _⟩).sub (sub_skip sub_all) sub_all⟩, ?_⟩
    omega
  · have p49 := of_decide_eq_false h28
    refine wp_exit ?_
    refine x_then ?_
    refine x_then ?_
    refine x_hit ?_
    refine n_then ?_
    refine wp_seq ?_
    refine wp_region_lit ?_
    refine s_one (v) A27 S25 (g_move (by kernel_rfl)) rfl (fun ac A50 => ?_)
    refine s_one (v) A50 S25 (g_assign (by kernel_rfl)) rfl (fun ac A51 => ?_)
    refine s_one (.int .i64 0) A51 S25 (g_assign (by kernel_rfl)) rfl (fun ac A52 => ?_)
    refine wpList_nil ?_
    refine n_then ?_
    refine wp_ret ?_
    refine finRT 0 (v) (.int .i64 0) Try.results7 A52 S25 (by kernel_rfl) (by kernel_rfl) rfl (fun w2 bw ow => ?_)
    have ek : i = ss.length := by omega
    rw [ek] at ow
    exact ⟨_, rfl, bw, ow⟩

set_option maxRecDepth 100000 in
set_option maxHeartbeats 400000 in
theorem UntilOf_s (A : Option Addr) (cap : Nat) (ss : List Sp) (EA : Option Addr) (en ec : Nat) (el : List Int) (i : Nat) (w0 : World) (hi : i < ss.length) (hr : SpReads w0 A ss) (hcp : ss.length ≤ cap) (hre : IReads w0 EA el) (hel : el.length = en * 3) (hen : en ≤ 60) (gs : GoodS ss) (ge : ∀ k, k < en → GoodE ss el k) :
    Calls Try.prog 11 #[.slice A ss.length cap, .slice EA en ec, .int .i64 (i : Int)] w0 fun e w' => e = .returned (.tuple #[.int .i64 (utI ss el en i), .int .i64 (utZ ss el en i)]) ∧ Below w0.heap.size w0 w' := by
  have S0 := St.start w0
  have hfw := gs.few
  refine enter (n := 55) Try.func11 rfl rfl rfl (fun ac A0 => ?_)
  refine wp_seq ?_
  refine wp_region_lit ?_
  refine s_one (.int .i64 0) A0 S0 (g_assign (by kernel_rfl)) rfl (fun ac A1 => ?_)
  refine s_one (.int .i64 0) A1 S0 (g_assign (by kernel_rfl)) rfl (fun ac A2 => ?_)
  refine wpList_nil ?_
  refine n_then ?_
  refine wp_seq ?_
  refine wp_region_lit ?_
  refine s_one (.slice A ss.length cap) A2 S0 (g_move (by kernel_rfl)) rfl (fun ac A3 => ?_)
  refine s_one (.slice EA en ec) A3 S0 (g_move (by kernel_rfl)) rfl (fun ac A4 => ?_)
  refine s_callSt (T := Nat × Nat) (fs := #[]) (cp := #[]) (r := [(0, .slice A ss.length cap), (0, .slice EA en ec)]) #[.slice A ss.length cap, .slice EA en ec] (fun u => .tuple #[.pointer (some ⟨u.1, 0, none⟩), .int .i64 0, .int .i64 0]) (fun u => [⟨u.1, 81, #[.slice A ss.length cap, .slice (some (⟨u.2, 0, none⟩)) ss.length ss.length], true⟩]) (fun u => [⟨.slice (some (⟨u.2, 0, none⟩)) ss.length ss.length, 79, 4, ss.length, (lsX ss.length (bkF ss el en))⟩]) A4 S0 (follow_s A cap ss EA en ec el _ (hr.kept S0.kp) (by omega) (hre.kept S0.kp) hel (by omega) gs ge) (fun u x hx => by simp only [List.mem_cons, List.not_mem_nil, or_false] at hx; subst hx; rfl) Try.call20 (by kernel_rfl) (by kernel_rfl) (by kernel_rfl) rfl (fun u10 ac wc A5 S6 => ?_)
  obtain ⟨gb8, gl9⟩ := u10
  replace S6 : St w0 [⟨gb8, 81, #[.slice A ss.length cap, .slice (some (⟨gl9, 0, none⟩)) ss.length ss.length], true⟩] [⟨.slice (some (⟨gl9, 0, none⟩)) ss.length ss.length, 79, 4, ss.length, (lsX ss.length (bkF ss el en))⟩] _ := S6
  refine s_one (.tuple #[.pointer (some ⟨gb8, 0, none⟩), .int .i64 0, .int .i64 0]) A5 S6 (g_move (by kernel_rfl)) rfl (fun ac A11 => ?_)
  refine s_one (.pointer (some ⟨gb8, 0, none⟩)) A11 S6 (g_extract (u := .tuple #[.pointer (some ⟨gb8, 0, none⟩), .int .i64 0, .int .i64 0]) (by kernel_rfl) (fun _ => by kernel_rfl)) rfl (fun ac A12 => ?_)
  refine s_one (.int .i64 0) A12 S6 (g_extract (u := .tuple #[.pointer (some ⟨gb8, 0, none⟩), .int .i64 0, .int .i64 0]) (by kernel_rfl) (fun _ => by kernel_rfl)) rfl (fun ac A13 => ?_)
  refine s_one (.int .i64 0) A13 S6 (g_extract (u := .tuple #[.pointer (some ⟨gb8, 0, none⟩), .int .i64 0, .int .i64 0]) (by kernel_rfl) (fun _ => by kernel_rfl)) rfl (fun ac A14 => ?_)
  refine s_one (.pointer (some ⟨gb8, 0, none⟩)) A14 S6 (g_assign (by kernel_rfl)) rfl (fun ac A15 => ?_)
  refine s_one (.int .i64 0) A15 S6 (g_assign (by kernel_rfl)) rfl (fun ac A16 => ?_)
  refine s_one (.int .i64 0) A16 S6 (g_assign (by kernel_rfl)) rfl (fun ac A17 => ?_)
  refine wpList_nil ?_
  refine n_then ?_
  refine wp_seq ?_
  refine wp_block ?_
  refine wp_seq ?_
  refine wp_region_lit ?_
  refine s_one (.int .i64 0) A17 S6 (g_move (by kernel_rfl)) rfl (fun ac A18 => ?_)
  refine s_one (.bool (decide (0 ≠ 0))) A18 S6 (g_bin (u := .int .i64 0) (k := .int .i64 0) (by kernel_rfl) (by kernel_rfl) (fun _ => by kernel_rfl) b_neq) rfl (fun ac A19 => ?_)
  refine s_one (.bool (decide (0 ≠ 0))) A19 S6 (g_assign (by kernel_rfl)) rfl (fun ac A20 => ?_)
  refine wpList_nil ?_
  refine n_then ?_
  refine c_f (b := (decide (0 ≠ 0))) A20 (by kernel_rfl) (by decide) ?_
  refine wp_seq ?_
  refine wp_region_lit ?_
  refine s_one (.int .i64 (i : Int)) A20 S6 (g_move (by kernel_rfl)) rfl (fun ac A21 => ?_)
  refine s_one (.slice A ss.length cap) A21 S6 (g_move (by kernel_rfl)) rfl (fun ac A22 => ?_)
  refine s_one (.int .i64 (ss.length : Int)) A22 S6 (g_built (r := [(0, .slice A ss.length cap)]) (by kernel_rfl) (fun _ _ _ => by kernel_rfl)) rfl (fun ac A23 => ?_)
  refine s_one (.int .i64 ((ss.length : Int) - 1)) A23 S6 (g_bin (u := .int .i64 (ss.length : Int)) (k := .int .i64 1) (by kernel_rfl) (by kernel_rfl) (fun _ => by kernel_rfl) (b_sub (by omega))) rfl (fun ac A24 => ?_)
  refine s_call (fs := #[]) (cp := #[]) (r := [(0, .int .i64 (i : Int)), (0, .int .i64 0), (0, .int .i64 ((ss.length : Int) - 1))]) #[.int .i64 (i : Int), .int .i64 0, .int .i64 ((ss.length : Int) - 1)] (.bool (inB (i : Int) 0 ((ss.length : Int) - 1))) A24 S6 (within_s (i : Int) 0 ((ss.length : Int) - 1) _) Try.call21 (by kernel_rfl) (by kernel_rfl) (by kernel_rfl) rfl (fun ac wc A25 S26 => ?_)
  refine s_one (.bool (!(inB (i : Int) 0 ((ss.length : Int) - 1)))) A25 S26 (g_un (u := .bool (inB (i : Int) 0 ((ss.length : Int) - 1))) (by kernel_rfl) (fun _ => by kernel_rfl)) rfl (fun ac A28 => ?_)
  refine s_one (.bool (!(inB (i : Int) 0 ((ss.length : Int) - 1)))) A28 S26 (g_assign (by kernel_rfl)) rfl (fun ac A29 => ?_)
  refine wpList_nil ?_
  refine n_then ?_
  refine c_f (b := (!(inB (i : Int) 0 ((ss.length : Int) - 1)))) A29 (by kernel_rfl) (b_nt (inB_true.2 (by omega))) ?_
  refine wp_seq ?_
  refine c_cut (fun ac wc => Fr 55 ac [(31, .bool ((decide ((en : Int) = 0)) || (!(vd ss (bkF ss el en) (nthI el ((en - 1) * 3 + 0)) i)))), (0, .slice A ss.length cap), (1, .slice EA en ec), (2, .int .i64 (i : Int)), (6, .int .i64 0), (7, .int .i64 0), (14, .slice A ss.length cap), (15, .slice EA en ec), (16, .tuple #[.pointer (some ⟨gb8, 0, none⟩), .int .i64 0, .int .i64 0]), (13, .tuple #[.pointer (some ⟨gb8, 0, none⟩), .int .i64 0, .int .i64 0]), (17, .pointer (some ⟨gb8, 0, none⟩)), (18, .int .i64 0), (19, .int .i64 0), (8, .pointer (some ⟨gb8, 0, none⟩)), (9, .int .i64 0), (10, .int .i64 0), (21, .int .i64 0), (22, .bool (decide (0 ≠ 0))), (20, .bool (decide (0 ≠ 0))), (25, .int .i64 (i : Int)), (26, .slice A ss.length cap), (27, .int .i64 (ss.length : Int)), (28, .int .i64 ((ss.length : Int) - 1)), (29, .bool (inB (i : Int) 0 ((ss.length : Int) - 1))), (30, .bool (!(inB (i : Int) 0 ((ss.length : Int) - 1)))), (24, .bool (!(inB (i : Int) 0 ((ss.length : Int) - 1))))] ∧ St w0 [⟨gb8, 81, #[.slice A ss.length cap, .slice (some (⟨gl9, 0, none⟩)) ss.length ss.length], true⟩] [⟨.slice (some (⟨gl9, 0, none⟩)) ss.length ss.length, 79, 4, ss.length, (lsX ss.length (bkF ss el en))⟩] wc) ?_ ?_
  · refine wp_region_lit ?_
    refine s_one (.slice EA en ec) A29 S26 (g_move (by kernel_rfl)) rfl (fun ac A30 => ?_)
    refine s_one (.int .i64 (en : Int)) A30 S26 (g_built (r := [(0, .slice EA en ec)]) (by kernel_rfl) (fun _ _ _ => by kernel_rfl)) rfl (fun ac A31 => ?_)
    refine s_one (.bool (decide ((en : Int) = 0))) A31 S26 (g_bin (u := .int .i64 (en : Int)) (k := .int .i64 0) (by kernel_rfl) (by kernel_rfl) (fun _ => by kernel_rfl) b_eql) rfl (fun ac A32 => ?_)
    refine s_one (.bool (decide ((en : Int) = 0))) A32 S26 (g_move (by kernel_rfl)) rfl (fun ac A33 => ?_)
    refine by_bool (decide ((en : Int) = 0)) (fun h34 => ?_) (fun h34 => ?_)
    · have p35 := of_decide_eq_true h34
      refine s_not (dj := 35) (b := (decide ((en : Int) = 0))) A33 (by kernel_rfl) (by kernel_rfl) h34 rfl (fun ac A36 => ?_)
      refine s_not (dj := 35) (b := (decide ((en : Int) = 0))) A36 (by kernel_rfl) (by kernel_rfl) h34 rfl (fun ac A37 => ?_)
      refine s_not (dj := 35) (b := (decide ((en : Int) = 0))) A37 (by kernel_rfl) (by kernel_rfl) h34 rfl (fun ac A38 => ?_)
      refine s_not (dj := 35) (b := (decide ((en : Int) = 0))) A38 (by kernel_rfl) (by kernel_rfl) h34 rfl (fun ac A39 => ?_)
      refine s_not (dj := 35) (b := (decide ((en : Int) = 0))) A39 (by kernel_rfl) (by kernel_rfl) h34 rfl (fun ac A40 => ?_)
      refine s_not (dj := 35) (b := (decide ((en : Int) = 0))) A40 (by kernel_rfl) (by kernel_rfl) h34 rfl (fun ac A41 => ?_)
      refine s_not (dj := 35) (b := (decide ((en : Int) = 0))) A41 (by kernel_rfl) (by kernel_rfl) h34 rfl (fun ac A42 => ?_)
      refine s_not (dj := 35) (b := (decide ((en : Int) = 0))) A42 (by kernel_rfl) (by kernel_rfl) h34 rfl (fun ac A43 => ?_)
      refine s_not (dj := 35) (b := (decide ((en : Int) = 0))) A43 (by kernel_rfl) (by kernel_rfl) h34 rfl (fun ac A44 => ?_)
      refine s_not (dj := 35) (b := (decide ((en : Int) = 0))) A44 (by kernel_rfl) (by kernel_rfl) h34 rfl (fun ac A45 => ?_)
      refine s_not (dj := 35) (b := (decide ((en : Int) = 0))) A45 (by kernel_rfl) (by kernel_rfl) h34 rfl (fun ac A46 => ?_)
      refine s_one (.bool true) A46 S26 (g_pick_t (b := (decide ((en : Int) = 0))) (by kernel_rfl) h34 (by kernel_rfl)) rfl (fun ac A47 => ?_)
      refine s_one (.bool true) A47 S26 (g_assign (by kernel_rfl)) rfl (fun ac A48 => ?_)
      refine wpList_nil ?_
      refine n_then ?_
      exact ⟨(A48.slot (A48.slot (A48.slot (A48.slot (A48.slot (A48.slot (A48.slot (A48.slot (A48.slot (A48.slot (A48.slot (A48.slot (A48.slot (A48.slot (A48.slot (A48.slot (A48.slot (A48.slot (A48.slot (A48.slot (A48.slot (A48.slot (A48.slot (A48.slot (A48.slot (A48.slot A48.nil (v := .bool (!(inB (i : Int) 0 ((ss.length : Int) - 1)))) (by kernel_rfl) rfl) (v := .bool (!(inB (i : Int) 0 ((ss.length : Int) - 1)))) (by kernel_rfl) rfl) (v := .bool (inB (i : Int) 0 ((ss.length : Int) - 1))) (by kernel_rfl) rfl) (v := .int .i64 ((ss.length : Int) - 1)) (by kernel_rfl) rfl) (v := .int .i64 (ss.length : Int)) (by kernel_rfl) rfl) (v := .slice A ss.length cap) (by kernel_rfl) rfl) (v := .int .i64 (i : Int)) (by kernel_rfl) rfl) (v := .bool (decide (0 ≠ 0))) (by kernel_rfl) rfl) (v := .bool (decide (0 ≠ 0))) (by kernel_rfl) rfl) (v := .int .i64 0) (by kernel_rfl) rfl) (v := .int .i64 0) (by kernel_rfl) rfl) (v := .int .i64 0) (by kernel_rfl) rfl) (v := .pointer (some ⟨gb8, 0, none⟩)) (by kernel_rfl) rfl) (v := .int .i64 0) (by kernel_rfl) rfl) (v := .int .i64 0) (by kernel_rfl) rfl) (v := .pointer (some ⟨gb8, 0, none⟩)) (by kernel_rfl) rfl) (v := .tuple #[.pointer (some ⟨gb8, 0, none⟩), .int .i64 0, .int .i64 0]) (by kernel_rfl) rfl) (v := .tuple #[.pointer (some ⟨gb8, 0, none⟩), .int .i64 0, .int .i64 0]) (by kernel_rfl) rfl) (v := .slice EA en ec) (by kernel_rfl) rfl) (v := .slice A ss.length cap) (by kernel_rfl) rfl) (v := .int .i64 0) (by kernel_rfl) rfl) (v := .int .i64 0) (by kernel_rfl) rfl) (v := .int .i64 (i : Int)) (by kernel_rfl) rfl) (v := .slice EA en ec) (by kernel_rfl) rfl) (v := .slice A ss.length cap) (by kernel_rfl) rfl) (v := .bool true) (by kernel_rfl) (congrArg Value.bool (b_ot1 h34).symm)), S26.sub sub_all sub_all⟩
    · have p49 := of_decide_eq_false h34
      refine s_want (dj := 35) (b := (decide ((en : Int) = 0))) A33 (by kernel_rfl) (by kernel_rfl) h34 ?_
      refine s_one (.pointer (some ⟨gb8, 0, none⟩)) A33 S26 (g_move (by kernel_rfl)) rfl (fun ac A50 => ?_)
      refine s_want (dj := 35) (b := (decide ((en : Int) = 0))) A50 (by kernel_rfl) (by kernel_rfl) h34 ?_
      refine s_one (.int .i64 (i : Int)) A50 S26 (g_move (by kernel_rfl)) rfl (fun ac A51 => ?_)
      refine s_want (dj := 35) (b := (decide ((en : Int) = 0))) A51 (by kernel_rfl) (by kernel_rfl) h34 ?_
      refine s_one (.slice EA en ec) A51 S26 (g_move (by kernel_rfl)) rfl (fun ac A52 => ?_)
      refine s_want (dj := 35) (b := (decide ((en : Int) = 0))) A52 (by kernel_rfl) (by kernel_rfl) h34 ?_
      refine s_one (.slice EA en ec) A52 S26 (g_move (by kernel_rfl)) rfl (fun ac A53 => ?_)
      refine s_want (dj := 35) (b := (decide ((en : Int) = 0))) A53 (by kernel_rfl) (by kernel_rfl) h34 ?_
      refine s_one (.int .i64 (en : Int)) A53 S26 (g_built (r := [(0, .slice EA en ec)]) (by kernel_rfl) (fun _ _ _ => by kernel_rfl)) rfl (fun ac A54 => ?_)
      refine s_want (dj := 35) (b := (decide ((en : Int) = 0))) A54 (by kernel_rfl) (by kernel_rfl) h34 ?_
      refine s_one (.int .i64 ((en : Int) - 1)) A54 S26 (g_bin (u := .int .i64 (en : Int)) (k := .int .i64 1) (by kernel_rfl) (by kernel_rfl) (fun _ => by kernel_rfl) (b_sub (by omega))) rfl (fun ac A55 => ?_)
      refine s_want (dj := 35) (b := (decide ((en : Int) = 0))) A55 (by kernel_rfl) (by kernel_rfl) h34 ?_
      obtain ⟨ad56, rfl, _⟩ := hre ((en - 1) * 3) (by have hlen := hel; omega)
      refine s_one (.pointer (some (ad56.add ((en - 1) * 3)))) A55 S26 (g_index (u := .slice (some ad56) en ec) (k := .int .i64 ((en : Int) - 1)) (by kernel_rfl) (by kernel_rfl) (ix_xs (e := 30) (bytes := 24) (en - 1) (by kernel_rfl) (by omega) (by omega))) rfl (fun ac A57 => ?_)
      refine s_want (dj := 35) (b := (decide ((en : Int) = 0))) A57 (by kernel_rfl) (by kernel_rfl) h34 ?_
      refine s_one (.pointer (some (ad56.add ((en - 1) * 3 + 0)))) A57 S26 (g_field (u := .pointer (some (ad56.add ((en - 1) * 3)))) (by kernel_rfl) (fld_x (o := 0) (by kernel_rfl))) rfl (fun ac A58 => ?_)
      refine s_want (dj := 35) (b := (decide ((en : Int) = 0))) A58 (by kernel_rfl) (by kernel_rfl) h34 ?_
      refine s_one (.int .i64 (nthI el ((en - 1) * 3 + 0))) A58 S26 (g_loadXI (l := el) (k := (en - 1) * 3 + 0) (by kernel_rfl) hre (by have hlen := hel; omega) (by kernel_rfl)) rfl (fun ac A59 => ?_)
      refine s_want (dj := 35) (b := (decide ((en : Int) = 0))) A59 (by kernel_rfl) (by kernel_rfl) h34 ?_
      refine s_call (fs := #[]) (cp := #[]) (r := [(0, .pointer (some ⟨gb8, 0, none⟩)), (0, .int .i64 (i : Int)), (0, .int .i64 (nthI el ((en - 1) * 3 + 0)))]) #[.pointer (some ⟨gb8, 0, none⟩), .int .i64 (i : Int), .int .i64 (nthI el ((en - 1) * 3 + 0))] (.bool (vd ss (bkF ss el en) (nthI el ((en - 1) * 3 + 0)) i)) A59 S26 (valid_x gb8 A cap ss (⟨gl9, 0, none⟩) ss.length (bkF ss el en) i (i : Int) (nthI el ((en - 1) * 3 + 0)) _ (by omega) (by omega) (S26.get 0 rfl) (row_vreads (S26.row 0 rfl)) (hr.kept S26.kp) gs (bkF_bd9 ge)) Try.call18 (by kernel_rfl) (by kernel_rfl) (by kernel_rfl) rfl (fun ac wc A60 S61 => ?_)
      refine s_want (dj := 35) (b := (decide ((en : Int) = 0))) A60 (by kernel_rfl) (by kernel_rfl) h34 ?_
      refine s_one (.bool (!(vd ss (bkF ss el en) (nthI el ((en - 1) * 3 + 0)) i))) A60 S61 (g_un (u := .bool (vd ss (bkF ss el en) (nthI el ((en - 1) * 3 + 0)) i)) (by kernel_rfl) (fun _ => by kernel_rfl)) rfl (fun ac A63 => ?_)
      refine s_one (.bool (!(vd ss (bkF ss el en) (nthI el ((en - 1) * 3 + 0)) i))) A63 S61 (g_pick_f (b := (decide ((en : Int) = 0))) (by kernel_rfl) h34 (by kernel_rfl)) rfl (fun ac A64 => ?_)
      refine s_one (.bool (!(vd ss (bkF ss el en) (nthI el ((en - 1) * 3 + 0)) i))) A64 S61 (g_assign (by kernel_rfl)) rfl (fun ac A65 => ?_)
      refine wpList_nil ?_
      refine n_then ?_
      exact ⟨(A65.slot (A65.slot (A65.slot (A65.slot (A65.slot (A65.slot (A65.slot (A65.slot (A65.slot (A65.slot (A65.slot (A65.slot (A65.slot (A65.slot (A65.slot (A65.slot (A65.slot (A65.slot (A65.slot (A65.slot (A65.slot (A65.slot (A65.slot (A65.slot (A65.slot (A65.slot A65.nil (v := .bool (!(inB (i : Int) 0 ((ss.length : Int) - 1)))) (by kernel_rfl) rfl) (v := .bool (!(inB (i : Int) 0 ((ss.length : Int) - 1)))) (by kernel_rfl) rfl) (v := .bool (inB (i : Int) 0 ((ss.length : Int) - 1))) (by kernel_rfl) rfl) (v := .int .i64 ((ss.length : Int) - 1)) (by kernel_rfl) rfl) (v := .int .i64 (ss.length : Int)) (by kernel_rfl) rfl) (v := .slice A ss.length cap) (by kernel_rfl) rfl) (v := .int .i64 (i : Int)) (by kernel_rfl) rfl) (v := .bool (decide (0 ≠ 0))) (by kernel_rfl) rfl) (v := .bool (decide (0 ≠ 0))) (by kernel_rfl) rfl) (v := .int .i64 0) (by kernel_rfl) rfl) (v := .int .i64 0) (by kernel_rfl) rfl) (v := .int .i64 0) (by kernel_rfl) rfl) (v := .pointer (some ⟨gb8, 0, none⟩)) (by kernel_rfl) rfl) (v := .int .i64 0) (by kernel_rfl) rfl) (v := .int .i64 0) (by kernel_rfl) rfl) (v := .pointer (some ⟨gb8, 0, none⟩)) (by kernel_rfl) rfl) (v := .tuple #[.pointer (some ⟨gb8, 0, none⟩), .int .i64 0, .int .i64 0]) (by kernel_rfl) rfl) (v := .tuple #[.pointer (some ⟨gb8, 0, none⟩), .int .i64 0, .int .i64 0]) (by kernel_rfl) rfl) (v := .slice (some ad56) en ec) (by kernel_rfl) rfl) (v := .slice A ss.length cap) (by kernel_rfl) rfl) (v := .int .i64 0) (by kernel_rfl) rfl) (v := .int .i64 0) (by kernel_rfl) rfl) (v := .int .i64 (i : Int)) (by kernel_rfl) rfl) (v := .slice (some ad56) en ec) (by kernel_rfl) rfl) (v := .slice A ss.length cap) (by kernel_rfl) rfl) (v := .bool (!(vd ss (bkF ss el en) (nthI el ((en - 1) * 3 + 0)) i))) (by kernel_rfl) (congrArg Value.bool (b_or_f h34 (Eq.refl (!(vd ss (bkF ss el en) (nthI el ((en - 1) * 3 + 0)) i)))).symm)), S61.sub sub_all sub_all⟩
  · rintro ac wc ⟨A66, S67⟩
    refine n_then ?_
    refine c_ifb (b := ((decide ((en : Int) = 0)) || (!(vd ss (bkF ss el en) (nthI el ((en - 1) * 3 + 0)) i)))) A66 (by kernel_rfl) (fun h68 => ?_) (fun h68 => ?_)
    · refine wp_seq ?_
      refine wp_region_lit ?_
      refine s_one (.int .i64 0) A66 S67 (g_assign (by kernel_rfl)) rfl (fun ac A69 => ?_)
      refine s_one (.int .i64 12) A69 S67 (g_assign (by kernel_rfl)) rfl (fun ac A70 => ?_)
      refine wpList_nil ?_
      refine n_then ?_
      refine wp_ret ?_
      refine r_block ?_
      refine r_then ?_
      refine fin2 (.int .i64 0) (.int .i64 12) Try.results11 A70 S67 (rv_tmp (by kernel_rfl)) (rv_tmp (by kernel_rfl)) ⟨?_, S67.kp⟩
      have hut : utB ss el en i = true := h68
      rw [(ut_y hut).1, (ut_y hut).2]
    · have h71 := (Bool.or_eq_false_iff.1 h68).1
      have p72 := of_decide_eq_false h71
      have h73 := (Bool.or_eq_false_iff.1 h68).2
      have h74 : vd ss (bkF ss el en) (nthI el ((en - 1) * 3 + 0)) i = true := by simpa using h73
      refine wp_skip ?_
      refine n_block ?_
      refine n_then ?_
      refine wp_seq ?_
      refine wp_region_lit ?_
      refine s_one (.pointer (some ⟨gb8, 0, none⟩)) A66 S67 (g_move (by kernel_rfl)) rfl (fun ac A75 => ?_)
      refine s_one (.int .i64 (i : Int)) A75 S67 (g_move (by kernel_rfl)) rfl (fun ac A76 => ?_)
      refine s_call (fs := #[]) (cp := #[]) (r := [(0, .pointer (some ⟨gb8, 0, none⟩)), (0, .int .i64 (i : Int))]) #[.pointer (some ⟨gb8, 0, none⟩), .int .i64 (i : Int)] (.tuple #[.int .i64 ((uV ss (bkF ss el en) i).1), .bool ((uV ss (bkF ss el en) i).2)]) A76 S67 (until_x gb8 A cap ss (⟨gl9, 0, none⟩) ss.length (bkF ss el en) i (i : Int) _ (by omega) (by omega) (S67.get 0 rfl) (row_vreads (S67.row 0 rfl)) (hr.kept S67.kp) gs (bkF_bd9 ge)) Try.call22 (by kernel_rfl) (by kernel_rfl) (by kernel_rfl) rfl (fun ac wc A77 S78 => ?_)
      refine s_one (.tuple #[.int .i64 ((uV ss (bkF ss el en) i).1), .bool ((uV ss (bkF ss el en) i).2)]) A77 S78 (g_move (by kernel_rfl)) rfl (fun ac A80 => ?_)
      refine s_one (.int .i64 ((uV ss (bkF ss el en) i).1)) A80 S78 (g_extract (u := .tuple #[.int .i64 ((uV ss (bkF ss el en) i).1), .bool ((uV ss (bkF ss el en) i).2)]) (by kernel_rfl) (fun _ => by kernel_rfl)) rfl (fun ac A81 => ?_)
      refine s_one (.bool ((uV ss (bkF ss el en) i).2)) A81 S78 (g_extract (u := .tuple #[.int .i64 ((uV ss (bkF ss el en) i).1), .bool ((uV ss (bkF ss el en) i).2)]) (by kernel_rfl) (fun _ => by kernel_rfl)) rfl (fun ac A82 => ?_)
      refine s_one (.int .i64 ((uV ss (bkF ss el en) i).1)) A82 S78 (g_assign (by kernel_rfl)) rfl (fun ac A83 => ?_)
      refine s_one (.bool ((uV ss (bkF ss el en) i).2)) A83 S78 (g_assign (by kernel_rfl)) rfl (fun ac A84 => ?_)
      refine wpList_nil ?_
      refine n_then ?_
      refine wp_seq ?_
      refine wp_region_lit ?_
      refine s_one (.int .i64 ((uV ss (bkF ss el en) i).1)) A84 S78 (g_move (by kernel_rfl)) rfl (fun ac A85 => ?_)
      refine s_one (.int .i64 ((uV ss (bkF ss el en) i).1)) A85 S78 (g_assign (by kernel_rfl)) rfl (fun ac A86 => ?_)
      refine s_one (.int .i64 0) A86 S78 (g_assign (by kernel_rfl)) rfl (fun ac A87 => ?_)
      refine wpList_nil ?_
      refine n_then ?_
      refine wp_ret ?_
      refine fin2 (.int .i64 ((uV ss (bkF ss el en) i).1)) (.int .i64 0) Try.results11 A87 S78 (rv_tmp (by kernel_rfl)) (rv_tmp (by kernel_rfl)) ⟨?_, S78.kp⟩
      have hut : utB ss el en i = false := h68
      rw [(ut_n hut).1, (ut_n hut).2]

theorem UntilOf_x (A : Option Addr) (cap : Nat) (ss : List Sp) (EA : Option Addr) (en ec : Nat) (el : List Int) (i : Nat) (x : Int) (w : World) (hx : x = (i : Int)) (hi : i < ss.length) (hr : SpReads w A ss) (hcp : ss.length ≤ cap) (hre : IReads w EA el) (hel : el.length = en * 3) (hen : en ≤ 60) (gs : GoodS ss) (ge : ∀ k, k < en → GoodE ss el k) : Calls Try.prog 11 #[.slice A ss.length cap, .slice EA en ec, .int .i64 x] w fun e w' => e = .returned (.tuple #[.int .i64 (utI ss el en i), .int .i64 (utZ ss el en i)]) ∧ Below w.heap.size w w' := by
  subst hx
  exact UntilOf_s A cap ss EA en ec el i w hi hr hcp hre hel hen gs ge

end Go.Proofs.Ytnbimpkihpaldaa
