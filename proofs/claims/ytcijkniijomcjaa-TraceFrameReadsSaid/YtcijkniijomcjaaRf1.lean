/- The reference's bytes and numbers. -/
import Derived.Test.YtcijkniijomcjaaRfs
namespace Go.Proofs.Ytcijkniijomcjaa
open Go.RowKit Go.Cpl

set_option maxRecDepth 100000 in
set_option maxHeartbeats 400000 in
theorem bytes_s (c : Int) (m : Nat) (w0 : World) (hc : -1000000000000 ≤ c ∧ c ≤ 1000000000000) (hm : m ≤ 8) :
    Calls Try.prog 83 #[.int .i64 c, .int .i64 (m : Int)] w0 fun e w' => e = .returned (.string ⟨(byU c m).toArray⟩) ∧ Below w0.heap.size w0 w' := by
  have S0 := St.start w0
  refine enter (n := 22) Try.func83 rfl rfl rfl (fun ac A0 => ?_)
  refine wp_seq ?_
  refine wp_region_lit ?_
  refine s_one (.string ⟨([] : List UInt8).toArray⟩) A0 S0 (g_assign (by kernel_rfl)) rfl (fun ac A1 => ?_)
  refine wpList_nil ?_
  refine n_then ?_
  refine wp_seq ?_
  refine wp_region_lit ?_
  refine s_one (.string ⟨([] : List UInt8).toArray⟩) A1 S0 (g_assign (by kernel_rfl)) rfl (fun ac A2 => ?_)
  refine wpList_nil ?_
  refine n_then ?_
  refine wp_seq ?_
  refine wp_seq ?_
  refine wp_region_lit ?_
  refine s_one (.int .i64 0) A2 S0 (g_assign (by kernel_rfl)) rfl (fun ac A3 => ?_)
  refine wpList_nil ?_
  refine n_then ?_
  refine wp_block ?_
  refine c_loopN (fun mm ac wc => ∃ (k : Nat), mm = m - k ∧ (k ≤ m) ∧ Fr 22 ac [(1, .int .i64 (m : Int)), (4, .string ⟨([] : List UInt8).toArray⟩), (0, .int .i64 (dvU c k)), (5, .string ⟨(byU c k).toArray⟩), (6, .int .i64 (k : Int))] ∧ St w0 [] [] wc) _ ⟨0, rfl, Nat.zero_le _, (A3.slot (A3.slot (A3.slot (A3.slot (A3.slot A3.nil (v := .int .i64 0) (by kernel_rfl) (congrArg (Value.int .i64) (by omega))) (v := .string ⟨([] : List UInt8).toArray⟩) (by kernel_rfl) rfl) (v := .int .i64 c) (by kernel_rfl) rfl) (v := .string ⟨([] : List UInt8).toArray⟩) (by kernel_rfl) rfl) (v := .int .i64 (m : Int)) (by kernel_rfl) rfl), S0.sub sub_all sub_all⟩ ?_
  rintro mm ac wc ⟨k, hm6, hk, A4, S5⟩
  have hd := dvU_bd hc k
  have hl := byU_length c k
  refine wp_seq ?_
  refine wp_seq ?_
  refine wp_region_lit ?_
  refine s_one (.int .i64 (k : Int)) A4 S5 (g_move (by kernel_rfl)) rfl (fun ac A7 => ?_)
  refine s_one (.int .i64 (m : Int)) A7 S5 (g_move (by kernel_rfl)) rfl (fun ac A8 => ?_)
  refine s_one (.bool (decide ((k : Int) < (m : Int)))) A8 S5 (g_bin (u := .int .i64 (k : Int)) (k := .int .i64 (m : Int)) (by kernel_rfl) (by kernel_rfl) (fun _ => by kernel_rfl) (fun _ => by kernel_rfl)) rfl (fun ac A9 => ?_)
  refine wpList_nil ?_
  refine n_then ?_
  refine c_ifb (b := (decide ((k : Int) < (m : Int)))) A9 (by kernel_rfl) (fun h10 => ?_) (fun h10 => ?_)
  · have p11 := of_decide_eq_true h10
    refine wp_skip ?_
    refine n_then ?_
    refine wp_seq ?_
    refine wp_block ?_
    refine wp_seq ?_
    refine wp_region_lit ?_
    refine s_one (.int .i64 (dvU c k)) A9 S5 (g_move (by kernel_rfl)) rfl (fun ac A12 => ?_)
    have q16 := Int.emod_nonneg (dvU c k) (b := 256) (by omega)
    have q17 := Int.emod_lt_of_pos (dvU c k) (b := 256) (by omega)
    refine s_call (fs := #[]) (cp := #[]) (r := [(0, .int .i64 (dvU c k)), (0, .int .i64 256)]) #[.int .i64 (dvU c k), .int .i64 256] (.int .i64 ((dvU c k) % 256)) A12 S5 (sameB (Mod_any (dvU c k) 256 _ (by omega) (by omega))) Try.call49 (by kernel_rfl) (by kernel_rfl) (by kernel_rfl) rfl (fun ac wc A13 S14 => ?_)
    refine s_one (.int .u8 ((dvU c k) % 256)) A13 S14 (g_conv (u := .int .i64 ((dvU c k) % 256)) (by kernel_rfl) (conv_to8 Try.underlying3 Try.underlying5)) rfl (fun ac A18 => ?_)
    refine s_bs (e := 5) (r := [(0, .int .u8 ((dvU c k) % 256))]) (#[.int .u8 ((dvU c k) % 256)]) A18 S14 (by kernel_rfl) (by kernel_rfl) rfl (fun g21 ac wc A19 S20 => ?_)
    refine s_one (.string ⟨([UInt8.ofNat ((dvU c k) % 256).toNat] : List UInt8).toArray⟩) A19 S20 (g_strOf1 (t := 5) (o := true) (y := (dvU c k) % 256) 0 (by kernel_rfl) rfl (by omega) Try.underlying144 Try.underlying5 Try.underlying9) rfl (fun ac A22 => ?_)
    refine s_one (.string ⟨(byU c k).toArray⟩) A22 S20 (g_move (by kernel_rfl)) rfl (fun ac A23 => ?_)
    refine s_one (.string ⟨(([UInt8.ofNat ((dvU c k) % 256).toNat] : List UInt8) ++ byU c k).toArray⟩) A23 S20 (g_bin (u := .string ⟨([UInt8.ofNat ((dvU c k) % 256).toNat] : List UInt8).toArray⟩) (k := .string ⟨(byU c k).toArray⟩) (by kernel_rfl) (by kernel_rfl) (fun _ => by kernel_rfl) (b_cat (by simp only [List.length_cons, List.length_nil]; omega))) rfl (fun ac A24 => ?_)
    refine s_one (.string ⟨(([UInt8.ofNat ((dvU c k) % 256).toNat] : List UInt8) ++ byU c k).toArray⟩) A24 S20 (g_assign (by kernel_rfl)) rfl (fun ac A25 => ?_)
    refine wpList_nil ?_
    refine n_then ?_
    refine wp_region_lit ?_
    refine s_one (.int .i64 (dvU c k)) A25 S20 (g_move (by kernel_rfl)) rfl (fun ac A26 => ?_)
    refine s_call (fs := #[]) (cp := #[]) (r := [(0, .int .i64 (dvU c k)), (0, .int .i64 256)]) #[.int .i64 (dvU c k), .int .i64 256] (.int .i64 ((dvU c k) / 256)) A26 S20 (sameB (Floor_any (dvU c k) 256 _ (by omega) (by omega) (by omega))) Try.call106 (by kernel_rfl) (by kernel_rfl) (by kernel_rfl) rfl (fun ac wc A27 S28 => ?_)
    refine s_one (.int .i64 ((dvU c k) / 256)) A27 S28 (g_assign (by kernel_rfl)) rfl (fun ac A30 => ?_)
    refine wpList_nil ?_
    refine n_block ?_
    refine n_then ?_
    refine wp_region_lit ?_
    refine s_one (.int .i64 (k : Int)) A30 S28 (g_move (by kernel_rfl)) rfl (fun ac A31 => ?_)
    refine s_one (.int .i64 ((k : Int) + 1)) A31 S28 (g_bin (u := .int .i64 (k : Int)) (k := .int .i64 1) (by kernel_rfl) (by kernel_rfl) (fun _ => by kernel_rfl) (b_add (by omega))) rfl (fun ac A32 => ?_)
    refine s_one (.int .i64 ((k : Int) + 1)) A32 S28 (g_assign (by kernel_rfl)) rfl (fun ac A33 => ?_)
    refine wpList_nil ?_
    refine n_then ?_
    refine ⟨_, ⟨k + 1, rfl, by omega, (A33.slot (A33.slot (A33.slot (A33.slot (A33.slot A33.nil (v := .int .i64 ((k : Int) + 1)) (by kernel_rfl) (congrArg (Value.int .i64) (by omega))) (v := .string ⟨(([UInt8.ofNat ((dvU c k) % 256).toNat] : List UInt8) ++ byU c k).toArray⟩) (by kernel_rfl) rfl) (v := .int .i64 ((dvU c k) / 256)) (by kernel_rfl) rfl) (v := .string ⟨([] : List UInt8).toArray⟩) (by kernel_rfl) rfl) (v := .int .i64 (m : Int)) (by kernel_rfl) rfl), S28.sub sub_nil sub_all⟩, ?_⟩
    omega
  · have p34 := of_decide_eq_false h10
    refine wp_exit ?_
    refine x_then ?_
    refine x_then ?_
    refine x_hit ?_
    refine n_then ?_
    refine wp_seq ?_
    refine wp_region_lit ?_
    refine s_one (.string ⟨(byU c k).toArray⟩) A9 S5 (g_move (by kernel_rfl)) rfl (fun ac A35 => ?_)
    refine s_one (.string ⟨(byU c k).toArray⟩) A35 S5 (g_assign (by kernel_rfl)) rfl (fun ac A36 => ?_)
    refine wpList_nil ?_
    refine n_then ?_
    refine wp_ret ?_
    refine fin1 (.string ⟨(byU c k).toArray⟩) Try.results83 A36 S5 (rv_tmp (by kernel_rfl)) ⟨?_, S5.kp⟩
    obtain rfl : k = m := by omega
    rfl

set_option maxRecDepth 100000 in
set_option maxHeartbeats 400000 in
theorem number_s (l : List UInt8) (w0 : World) (hl : l.length ≤ 4) :
    Calls Try.prog 85 #[.string ⟨l.toArray⟩] w0 fun e w' => e = .returned (.int .i64 (nmI (whI l 0 l.length) ((256 : Int) ^ l.length))) ∧ Below w0.heap.size w0 w' := by
  have S0 := St.start w0
  refine enter (n := 29) Try.func85 rfl rfl rfl (fun ac A0 => ?_)
  refine wp_seq ?_
  refine wp_region_lit ?_
  refine s_one (.int .i64 0) A0 S0 (g_assign (by kernel_rfl)) rfl (fun ac A1 => ?_)
  refine wpList_nil ?_
  refine n_then ?_
  refine wp_seq ?_
  refine wp_region_lit ?_
  refine s_one (.int .i64 0) A1 S0 (g_assign (by kernel_rfl)) rfl (fun ac A2 => ?_)
  refine s_one (.int .i64 1) A2 S0 (g_assign (by kernel_rfl)) rfl (fun ac A3 => ?_)
  refine wpList_nil ?_
  refine n_then ?_
  refine wp_seq ?_
  refine wp_seq ?_
  refine wp_region_lit ?_
  refine s_one (.int .i64 0) A3 S0 (g_assign (by kernel_rfl)) rfl (fun ac A4 => ?_)
  refine wpList_nil ?_
  refine n_then ?_
  refine wp_block ?_
  refine c_loopN (fun mm ac wc => ∃ (k : Nat), mm = l.length - k ∧ (k ≤ l.length) ∧ Fr 29 ac [(0, .string ⟨l.toArray⟩), (2, .int .i64 0), (3, .int .i64 (whI l 0 k)), (4, .int .i64 ((256 : Int) ^ k)), (5, .int .i64 (k : Int))] ∧ St w0 [] [] wc) _ ⟨0, rfl, Nat.zero_le _, (A4.slot (A4.slot (A4.slot (A4.slot (A4.slot A4.nil (v := .int .i64 0) (by kernel_rfl) (congrArg (Value.int .i64) (by omega))) (v := .int .i64 1) (by kernel_rfl) rfl) (v := .int .i64 0) (by kernel_rfl) rfl) (v := .int .i64 0) (by kernel_rfl) rfl) (v := .string ⟨l.toArray⟩) (by kernel_rfl) rfl), S0.sub sub_all sub_all⟩ ?_
  rintro mm ac wc ⟨k, hm7, hk, A5, S6⟩
  have hr := whI_bd l 0 k (by omega)
  have hu := nthU_lt l k
  have hp := pw_bd k (by omega)
  refine wp_seq ?_
  refine wp_seq ?_
  refine wp_region_lit ?_
  refine s_one (.int .i64 (k : Int)) A5 S6 (g_move (by kernel_rfl)) rfl (fun ac A8 => ?_)
  refine s_one (.string ⟨l.toArray⟩) A8 S6 (g_move (by kernel_rfl)) rfl (fun ac A9 => ?_)
  refine s_one (.int .i64 (l.length : Int)) A9 S6 (g_built (r := [(0, .string ⟨l.toArray⟩)]) (by kernel_rfl) (fun ty cs w => bl_str (l := l) Try.underlying9 ty cs w)) rfl (fun ac A10 => ?_)
  refine s_one (.bool (decide ((k : Int) < (l.length : Int)))) A10 S6 (g_bin (u := .int .i64 (k : Int)) (k := .int .i64 (l.length : Int)) (by kernel_rfl) (by kernel_rfl) (fun _ => by kernel_rfl) (fun _ => by kernel_rfl)) rfl (fun ac A11 => ?_)
  refine wpList_nil ?_
  refine n_then ?_
  refine c_ifb (b := (decide ((k : Int) < (l.length : Int)))) A11 (by kernel_rfl) (fun h12 => ?_) (fun h12 => ?_)
  · have p13 := of_decide_eq_true h12
    refine wp_skip ?_
    refine n_then ?_
    refine wp_seq ?_
    refine wp_block ?_
    refine wp_region_lit ?_
    refine s_one (.int .i64 (whI l 0 k)) A11 S6 (g_move (by kernel_rfl)) rfl (fun ac A14 => ?_)
    refine s_one (.int .i64 (256 * (whI l 0 k))) A14 S6 (g_bin (u := .int .i64 256) (k := .int .i64 (whI l 0 k)) (by kernel_rfl) (by kernel_rfl) (fun _ => by kernel_rfl) (b_mul (by omega))) rfl (fun ac A15 => ?_)
    refine s_one (.string ⟨l.toArray⟩) A15 S6 (g_move (by kernel_rfl)) rfl (fun ac A16 => ?_)
    refine s_one (.int .i64 (k : Int)) A16 S6 (g_move (by kernel_rfl)) rfl (fun ac A17 => ?_)
    refine s_one (.int .u8 (nthU l k : Int)) A17 S6 (g_indexv (u := .string ⟨l.toArray⟩) (k := .int .i64 (k : Int)) (by kernel_rfl) (by kernel_rfl) (ix_str (l := l) k Try.underlying9 (by omega) (by omega))) rfl (fun ac A18 => ?_)
    refine s_one (.int .i64 (nthU l k : Int)) A18 S6 (g_conv (u := .int .u8 (nthU l k : Int)) (by kernel_rfl) (conv_u8 Try.underlying5 Try.underlying3 ⟨by omega, by have h9 := nthU_lt l k; omega⟩)) rfl (fun ac A19 => ?_)
    refine s_one (.int .i64 (256 * (whI l 0 k) + (nthU l k : Int))) A19 S6 (g_bin (u := .int .i64 (256 * (whI l 0 k))) (k := .int .i64 (nthU l k : Int)) (by kernel_rfl) (by kernel_rfl) (fun _ => by kernel_rfl) (b_add (by omega))) rfl (fun ac A20 => ?_)
    refine s_one (.int .i64 ((256 : Int) ^ k)) A20 S6 (g_move (by kernel_rfl)) rfl (fun ac A21 => ?_)
    refine s_one (.int .i64 (256 * ((256 : Int) ^ k))) A21 S6 (g_bin (u := .int .i64 256) (k := .int .i64 ((256 : Int) ^ k)) (by kernel_rfl) (by kernel_rfl) (fun _ => by kernel_rfl) (b_mul (by omega))) rfl (fun ac A22 => ?_)
    refine s_one (.int .i64 (256 * (whI l 0 k) + (nthU l k : Int))) A22 S6 (g_assign (by kernel_rfl)) rfl (fun ac A23 => ?_)
    refine s_one (.int .i64 (256 * ((256 : Int) ^ k))) A23 S6 (g_assign (by kernel_rfl)) rfl (fun ac A24 => ?_)
    refine wpList_nil ?_
    refine n_block ?_
    refine n_then ?_
    refine wp_region_lit ?_
    refine s_one (.int .i64 (k : Int)) A24 S6 (g_move (by kernel_rfl)) rfl (fun ac A25 => ?_)
    refine s_one (.int .i64 ((k : Int) + 1)) A25 S6 (g_bin (u := .int .i64 (k : Int)) (k := .int .i64 1) (by kernel_rfl) (by kernel_rfl) (fun _ => by kernel_rfl) (b_add (by omega))) rfl (fun ac A26 => ?_)
    refine s_one (.int .i64 ((k : Int) + 1)) A26 S6 (g_assign (by kernel_rfl)) rfl (fun ac A27 => ?_)
    refine wpList_nil ?_
    refine n_then ?_
    refine ⟨_, ⟨k + 1, rfl, by omega, (A27.slot (A27.slot (A27.slot (A27.slot (A27.slot A27.nil (v := .int .i64 ((k : Int) + 1)) (by kernel_rfl) (congrArg (Value.int .i64) (by omega))) (v := .int .i64 (256 * ((256 : Int) ^ k))) (by kernel_rfl) (congrArg (Value.int .i64) (by rw [Int.pow_succ]; omega))) (v := .int .i64 (256 * (whI l 0 k) + (nthU l k : Int))) (by kernel_rfl) (congrArg (Value.int .i64) (by simp only [whI, Nat.zero_add]; omega))) (v := .int .i64 0) (by kernel_rfl) rfl) (v := .string ⟨l.toArray⟩) (by kernel_rfl) rfl), S6.sub sub_all sub_all⟩, ?_⟩
    omega
  · have p28 := of_decide_eq_false h12
    refine wp_exit ?_
    refine x_then ?_
    refine x_then ?_
    refine x_hit ?_
    refine n_then ?_
    refine wp_seq ?_
    refine wp_seq ?_
    refine wp_region_lit ?_
    refine s_one (.int .i64 (whI l 0 k)) A11 S6 (g_move (by kernel_rfl)) rfl (fun ac A29 => ?_)
    refine s_one (.int .i64 (2 * (whI l 0 k))) A29 S6 (g_bin (u := .int .i64 2) (k := .int .i64 (whI l 0 k)) (by kernel_rfl) (by kernel_rfl) (fun _ => by kernel_rfl) (b_mul (by omega))) rfl (fun ac A30 => ?_)
    refine s_one (.int .i64 ((256 : Int) ^ k)) A30 S6 (g_move (by kernel_rfl)) rfl (fun ac A31 => ?_)
    refine s_one (.bool (decide (2 * (whI l 0 k) ≥ (256 : Int) ^ k))) A31 S6 (g_bin (u := .int .i64 (2 * (whI l 0 k))) (k := .int .i64 ((256 : Int) ^ k)) (by kernel_rfl) (by kernel_rfl) (fun _ => by kernel_rfl) (fun _ => by kernel_rfl)) rfl (fun ac A32 => ?_)
    refine wpList_nil ?_
    refine n_then ?_
    refine c_ifb (b := (decide (2 * (whI l 0 k) ≥ (256 : Int) ^ k))) A32 (by kernel_rfl) (fun h33 => ?_) (fun h33 => ?_)
    · have p34 := of_decide_eq_true h33
      refine wp_region_lit ?_
      refine s_one (.int .i64 (whI l 0 k)) A32 S6 (g_move (by kernel_rfl)) rfl (fun ac A35 => ?_)
      refine s_one (.int .i64 ((256 : Int) ^ k)) A35 S6 (g_move (by kernel_rfl)) rfl (fun ac A36 => ?_)
      refine s_one (.int .i64 (whI l 0 k - ((256 : Int) ^ k))) A36 S6 (g_bin (u := .int .i64 (whI l 0 k)) (k := .int .i64 ((256 : Int) ^ k)) (by kernel_rfl) (by kernel_rfl) (fun _ => by kernel_rfl) (b_sub (by omega))) rfl (fun ac A37 => ?_)
      refine s_one (.int .i64 (whI l 0 k - ((256 : Int) ^ k))) A37 S6 (g_assign (by kernel_rfl)) rfl (fun ac A38 => ?_)
      refine wpList_nil ?_
      refine n_then ?_
      refine wp_seq ?_
      refine wp_region_lit ?_
      refine s_one (.int .i64 (whI l 0 k - ((256 : Int) ^ k))) A38 S6 (g_move (by kernel_rfl)) rfl (fun ac A39 => ?_)
      refine s_one (.int .i64 (whI l 0 k - ((256 : Int) ^ k))) A39 S6 (g_assign (by kernel_rfl)) rfl (fun ac A40 => ?_)
      refine wpList_nil ?_
      refine n_then ?_
      refine wp_ret ?_
      refine fin1 (.int .i64 (whI l 0 k - ((256 : Int) ^ k))) Try.results85 A40 S6 (rv_tmp (by kernel_rfl)) ⟨?_, S6.kp⟩
      obtain rfl : k = l.length := by omega
      rw [nmI_y p34]
    · have p41 := of_decide_eq_false h33
      refine wp_skip ?_
      refine n_then ?_
      refine wp_seq ?_
      refine wp_region_lit ?_
      refine s_one (.int .i64 (whI l 0 k)) A32 S6 (g_move (by kernel_rfl)) rfl (fun ac A42 => ?_)
      refine s_one (.int .i64 (whI l 0 k)) A42 S6 (g_assign (by kernel_rfl)) rfl (fun ac A43 => ?_)
      refine wpList_nil ?_
      refine n_then ?_
      refine wp_ret ?_
      refine fin1 (.int .i64 (whI l 0 k)) Try.results85 A43 S6 (rv_tmp (by kernel_rfl)) ⟨?_, S6.kp⟩
      obtain rfl : k = l.length := by omega
      rw [nmI_n p41]

theorem number_2 (l : Bs) (i : Nat) (w : World) (h : i + 2 ≤ l.length) : Calls Try.prog 85 #[.string ⟨(subU l i 2).toArray⟩] w fun e w' => e = .returned (.int .i64 (w16 (whI l i 2))) ∧ Below w.heap.size w w' := by
  have hl := subU_length h
  have := number_s (subU l i 2) w (by omega)
  rw [hl, whI_sub (by omega), Nat.add_zero, nmI_2] at this
  exact this

theorem number_4 (l : Bs) (i : Nat) (w : World) (h : i + 4 ≤ l.length) : Calls Try.prog 85 #[.string ⟨(subU l i 4).toArray⟩] w fun e w' => e = .returned (.int .i64 (w32 (whI l i 4))) ∧ Below w.heap.size w w' := by
  have hl := subU_length h
  have := number_s (subU l i 4) w (by omega)
  rw [hl, whI_sub (by omega), Nat.add_zero, nmI_4] at this
  exact this

set_option maxRecDepth 100000 in
set_option maxHeartbeats 400000 in
theorem FrameErr_s (p : Int) (el : Int) (A : Option Addr) (n cap : Nat) (xs : List Nat) (w0 : World) (hn : xs.length = n) (hr : FReads w0 A xs) (hm : n ≤ 1000) :
    Calls Try.prog 47 #[.agg #[.int .i64 p, .int .i64 el, .slice A n cap]] w0 fun e w' => e = .returned (.int .i64 (frE p el xs)) ∧ Below w0.heap.size w0 w' := by
  have S0 := St.start w0
  refine enter (n := 16) Try.func47 rfl rfl rfl (fun ac A0 => ?_)
  refine wp_seq ?_
  refine wp_region_lit ?_
  refine s_box (.agg #[.int .i64 p, .int .i64 el, .slice A n cap]) A0 S0 (by kernel_rfl) rfl (fun g3 ac wc A1 S2 => ?_)
  replace S2 : St _ (⟨g3, 66, #[.int .i64 p, .int .i64 el, .slice A n cap], true⟩ :: _) _ _ := S2
  refine s_one (.int .i64 0) A1 S2 (g_assign (by kernel_rfl)) rfl (fun ac A5 => ?_)
  refine wpList_nil ?_
  refine n_then ?_
  refine wp_seq ?_
  refine wp_seq ?_
  refine wp_region_lit ?_
  refine s_one (.pointer (some ⟨g3, 0, none⟩)) A5 S2 (g_field (u := .pointer (some ⟨g3, 0, none⟩)) (by kernel_rfl) (fun _ => by kernel_rfl)) rfl (fun ac A6 => ?_)
  refine s_one (.int .i64 p) A6 S2 (g_load (g := g3) (off := 0) 0 (by kernel_rfl) rfl (by kernel_rfl)) rfl (fun ac A7 => ?_)
  refine s_call (fs := #[]) (cp := #[]) (r := [(0, .int .i64 p), (0, .int .i64 (-1000000000)), (0, .int .i64 1000000000)]) #[.int .i64 p, .int .i64 (-1000000000), .int .i64 1000000000] (.bool (inB p (-1000000000) 1000000000)) A7 S2 (sameB (Within_any p (-1000000000) 1000000000 _)) Try.call39 (by kernel_rfl) (by kernel_rfl) (by kernel_rfl) rfl (fun ac wc A8 S9 => ?_)
  refine s_one (.bool (!(inB p (-1000000000) 1000000000))) A8 S9 (g_un (u := .bool (inB p (-1000000000) 1000000000)) (by kernel_rfl) (fun _ => by kernel_rfl)) rfl (fun ac A11 => ?_)
  refine wpList_nil ?_
  refine n_then ?_
  refine c_ifb (b := (!(inB p (-1000000000) 1000000000))) A11 (by kernel_rfl) (fun h12 => ?_) (fun h12 => ?_)
  · have h13 : inB p (-1000000000) 1000000000 = false := by simpa using h12
    refine wp_seq ?_
    refine wp_region_lit ?_
    refine s_one (.int .i64 2) A11 S9 (g_assign (by kernel_rfl)) rfl (fun ac A14 => ?_)
    refine wpList_nil ?_
    refine n_then ?_
    refine wp_ret ?_
    refine r_then ?_
    refine fin1 (.int .i64 2) Try.results47 A14 S9 (rv_tmp (by kernel_rfl)) ⟨?_, S9.kp⟩
    rw [frE_n h13]
  · have h15 : inB p (-1000000000) 1000000000 = true := by simpa using h12
    refine wp_skip ?_
    refine n_then ?_
    refine wp_seq ?_
    refine wp_region_lit ?_
    refine s_one (.pointer (some ⟨g3, 1, none⟩)) A11 S9 (g_field (u := .pointer (some ⟨g3, 0, none⟩)) (by kernel_rfl) (fun _ => by kernel_rfl)) rfl (fun ac A16 => ?_)
    refine s_one (.agg #[.int .i64 el, .slice A n cap]) A16 S9 (g_load (g := g3) (off := 1) 0 (by kernel_rfl) rfl (by kernel_rfl)) rfl (fun ac A17 => ?_)
    refine s_call (fs := #[]) (cp := #[]) (r := [(0, .agg #[.int .i64 el, .slice A n cap])]) #[.agg #[.int .i64 el, .slice A n cap]] (.tuple #[.int .i64 ((mxC el xs).1), .int .i64 ((mxC el xs).2)]) A17 S9 (refCheckMatrix_s el A n cap xs _ hn (hr.kept S9.kp) (by omega)) Try.call17 (by kernel_rfl) (by kernel_rfl) (by kernel_rfl) rfl (fun ac wc A18 S19 => ?_)
    refine s_one (.tuple #[.int .i64 ((mxC el xs).1), .int .i64 ((mxC el xs).2)]) A18 S19 (g_move (by kernel_rfl)) rfl (fun ac A21 => ?_)
    refine s_one (.int .i64 ((mxC el xs).1)) A21 S19 (g_extract (u := .tuple #[.int .i64 ((mxC el xs).1), .int .i64 ((mxC el xs).2)]) (by kernel_rfl) (fun _ => by kernel_rfl)) rfl (fun ac A22 => ?_)
    refine s_one (.int .i64 ((mxC el xs).2)) A22 S19 (g_extract (u := .tuple #[.int .i64 ((mxC el xs).1), .int .i64 ((mxC el xs).2)]) (by kernel_rfl) (fun _ => by kernel_rfl)) rfl (fun ac A23 => ?_)
    refine s_one (.int .i64 ((mxC el xs).1)) A23 S19 (g_assign (by kernel_rfl)) rfl (fun ac A24 => ?_)
    refine s_one (.int .i64 ((mxC el xs).2)) A24 S19 (g_assign (by kernel_rfl)) rfl (fun ac A25 => ?_)
    refine wpList_nil ?_
    refine n_then ?_
    refine wp_seq ?_
    refine wp_region_lit ?_
    refine s_one (.int .i64 ((mxC el xs).2)) A25 S19 (g_move (by kernel_rfl)) rfl (fun ac A26 => ?_)
    refine s_one (.int .i64 ((mxC el xs).2)) A26 S19 (g_assign (by kernel_rfl)) rfl (fun ac A27 => ?_)
    refine wpList_nil ?_
    refine n_then ?_
    refine wp_ret ?_
    refine fin1 (.int .i64 ((mxC el xs).2)) Try.results47 A27 S19 (rv_tmp (by kernel_rfl)) ⟨?_, S19.kp⟩
    rw [frE_y h15]

end Go.Proofs.Ytcijkniijomcjaa
