/- Checks, numbers and sizes of frames. -/
import Derived.Test.YtcijkniijomcjaaMx14
import Derived.Test.YtcijkniijomcjaaBy
namespace Go.Proofs.Ytcijkniijomcjaa
open Go.RowKit Go.Cpl

/-- The check of bytes. -/
def ckU (l : Bs) : Nat → Int
  | 0 => 1
  | k + 1 => (257 * ckU l k + (nthU l k : Int) + 1).tmod 65521
theorem ckU_range (l : Bs) (k : Nat) : 0 ≤ ckU l k ∧ ckU l k < 65521 := by
  induction k with
  | zero => exact ⟨by simp [ckU], by simp [ckU]⟩
  | succ k ih =>
    unfold ckU
    rw [Int.tmod_eq_emod_of_nonneg (by omega)]
    omega
/-- A number in bytes, the greatest ones first. -/
def whI (l : Bs) (i : Nat) : Nat → Int
  | 0 => 0
  | k + 1 => whI l i k * 256 + (nthU l (i + k) : Int)
theorem whI_range (l : Bs) (i : Nat) : ∀ k, k ≤ 4 → 0 ≤ whI l i k ∧ whI l i k < 256 ^ k := by
  intro k
  induction k with
  | zero => intro _; exact ⟨by simp [whI], by simp [whI]⟩
  | succ k ih =>
    intro hk
    have h := ih (by omega)
    have hb := nthU_lt l (i + k)
    have e : (256 : Int) ^ (k + 1) = 256 ^ k * 256 := rfl
    unfold whI
    rw [e]; omega
theorem whI_bd (l : Bs) (i k : Nat) (hk : k ≤ 4) : 0 ≤ whI l i k ∧ whI l i k < 4294967296 := by
  have h := whI_range l i k hk
  have : (256 : Int) ^ k ≤ 4294967296 := by
    rcases (by omega : k = 0 ∨ k = 1 ∨ k = 2 ∨ k = 3 ∨ k = 4) with rfl | rfl | rfl | rfl | rfl <;> decide
  omega
theorem whI_sub {l : Bs} {i n j k : Nat} (h : j + k ≤ n) : whI (subU l i n) j k = whI l (i + j) k := by
  induction k with
  | zero => rfl
  | succ k ih =>
    unfold whI
    rw [ih (by omega), subU_nth (by omega), Nat.add_assoc]

set_option maxRecDepth 100000 in
set_option maxHeartbeats 400000 in
theorem check_s (l : List UInt8) (w0 : World) (hl : l.length ≤ 1000000) :
    Calls Try.prog 79 #[.string ⟨l.toArray⟩] w0 fun e w' => e = .returned (.int .i64 (ckU l l.length)) ∧ Below w0.heap.size w0 w' := by
  have S0 := St.start w0
  refine enter (n := 21) Try.func79 rfl rfl rfl (fun ac A0 => ?_)
  refine wp_seq ?_
  refine wp_region_lit ?_
  refine s_one (.int .i64 0) A0 S0 (g_assign (by kernel_rfl)) rfl (fun ac A1 => ?_)
  refine wpList_nil ?_
  refine n_then ?_
  refine wp_seq ?_
  refine wp_region_lit ?_
  refine s_one (.int .i64 1) A1 S0 (g_assign (by kernel_rfl)) rfl (fun ac A2 => ?_)
  refine wpList_nil ?_
  refine n_then ?_
  refine wp_seq ?_
  refine wp_seq ?_
  refine wp_region_lit ?_
  refine s_one (.string ⟨l.toArray⟩) A2 S0 (g_move (by kernel_rfl)) rfl (fun ac A3 => ?_)
  refine s_one (.int .i64 (l.length : Int)) A3 S0 (g_built (r := [(0, .string ⟨l.toArray⟩)]) (by kernel_rfl) (fun ty cs w => bl_str (l := l) Try.underlying9 ty cs w)) rfl (fun ac A4 => ?_)
  refine s_one (.int .i64 0) A4 S0 (g_move (by kernel_rfl)) rfl (fun ac A5 => ?_)
  refine wpList_nil ?_
  refine n_then ?_
  refine wp_block ?_
  refine c_loopN (fun mm ac wc => ∃ (k : Nat), mm = l.length - k ∧ (k ≤ l.length) ∧ Fr 21 ac [(0, .string ⟨l.toArray⟩), (2, .int .i64 0), (5, .string ⟨l.toArray⟩), (6, .int .i64 (l.length : Int)), (7, .int .i64 (k : Int)), (3, .int .i64 (ckU l k))] ∧ St w0 [] [] wc) _ ⟨0, rfl, Nat.zero_le _, (A5.slot (A5.slot (A5.slot (A5.slot (A5.slot (A5.slot A5.nil (v := .int .i64 1) (by kernel_rfl) rfl) (v := .int .i64 0) (by kernel_rfl) (congrArg (Value.int .i64) (by omega))) (v := .int .i64 (l.length : Int)) (by kernel_rfl) rfl) (v := .string ⟨l.toArray⟩) (by kernel_rfl) rfl) (v := .int .i64 0) (by kernel_rfl) rfl) (v := .string ⟨l.toArray⟩) (by kernel_rfl) rfl), S0.sub sub_all sub_all⟩ ?_
  rintro mm ac wc ⟨k, hm8, hk, A6, S7⟩
  have hr := ckU_range l k
  have hu := nthU_lt l k
  refine wp_seq ?_
  refine wp_region_lit ?_
  refine s_one (.bool (decide ((k : Int) < (l.length : Int)))) A6 S7 (g_bin (u := .int .i64 (k : Int)) (k := .int .i64 (l.length : Int)) (by kernel_rfl) (by kernel_rfl) (fun _ => by kernel_rfl) (fun _ => by kernel_rfl)) rfl (fun ac A9 => ?_)
  refine wpList_nil ?_
  refine n_then ?_
  refine wp_seq ?_
  refine c_ifb (b := (decide ((k : Int) < (l.length : Int)))) A9 (by kernel_rfl) (fun h10 => ?_) (fun h10 => ?_)
  · have p11 := of_decide_eq_true h10
    refine wp_skip ?_
    refine n_then ?_
    refine wp_seq ?_
    refine wp_block ?_
    refine wp_seq ?_
    refine wp_region_lit ?_
    refine s_one (.int .i64 (k : Int)) A9 S7 (g_move (by kernel_rfl)) rfl (fun ac A12 => ?_)
    refine s_one (.int .i64 (k : Int)) A12 S7 (g_assign (by kernel_rfl)) rfl (fun ac A13 => ?_)
    refine wpList_nil ?_
    refine n_then ?_
    refine wp_region_lit ?_
    refine s_one (.int .i64 (ckU l k)) A13 S7 (g_move (by kernel_rfl)) rfl (fun ac A14 => ?_)
    refine s_one (.int .i64 (257 * (ckU l k))) A14 S7 (g_bin (u := .int .i64 257) (k := .int .i64 (ckU l k)) (by kernel_rfl) (by kernel_rfl) (fun _ => by kernel_rfl) (b_mul (by omega))) rfl (fun ac A15 => ?_)
    refine s_one (.string ⟨l.toArray⟩) A15 S7 (g_move (by kernel_rfl)) rfl (fun ac A16 => ?_)
    refine s_one (.int .i64 (k : Int)) A16 S7 (g_move (by kernel_rfl)) rfl (fun ac A17 => ?_)
    refine s_one (.int .u8 (nthU l k : Int)) A17 S7 (g_indexv (u := .string ⟨l.toArray⟩) (k := .int .i64 (k : Int)) (by kernel_rfl) (by kernel_rfl) (ix_str (l := l) k Try.underlying9 (by omega) (by omega))) rfl (fun ac A18 => ?_)
    refine s_one (.int .i64 (nthU l k : Int)) A18 S7 (g_conv (u := .int .u8 (nthU l k : Int)) (by kernel_rfl) (conv_u8 Try.underlying5 Try.underlying3 ⟨by omega, by have h9 := nthU_lt l k; omega⟩)) rfl (fun ac A19 => ?_)
    refine s_one (.int .i64 (257 * (ckU l k) + (nthU l k : Int))) A19 S7 (g_bin (u := .int .i64 (257 * (ckU l k))) (k := .int .i64 (nthU l k : Int)) (by kernel_rfl) (by kernel_rfl) (fun _ => by kernel_rfl) (b_add (by omega))) rfl (fun ac A20 => ?_)
    refine s_one (.int .i64 (257 * (ckU l k) + (nthU l k : Int) + 1)) A20 S7 (g_bin (u := .int .i64 (257 * (ckU l k) + (nthU l k : Int))) (k := .int .i64 1) (by kernel_rfl) (by kernel_rfl) (fun _ => by kernel_rfl) (b_add (by omega))) rfl (fun ac A21 => ?_)
    refine s_one (.int .i64 ((257 * (ckU l k) + (nthU l k : Int) + 1).tmod 65521)) A21 S7 (g_bin (u := .int .i64 (257 * (ckU l k) + (nthU l k : Int) + 1)) (k := .int .i64 65521) (by kernel_rfl) (by kernel_rfl) (fun _ => by kernel_rfl) (b_rem (by omega))) rfl (fun ac A22 => ?_)
    refine s_one (.int .i64 ((257 * (ckU l k) + (nthU l k : Int) + 1).tmod 65521)) A22 S7 (g_assign (by kernel_rfl)) rfl (fun ac A23 => ?_)
    refine wpList_nil ?_
    refine n_block ?_
    refine n_then ?_
    refine wp_region_lit ?_
    refine s_one (.int .i64 ((k : Int) + 1)) A23 S7 (g_bin (u := .int .i64 (k : Int)) (k := .int .i64 1) (by kernel_rfl) (by kernel_rfl) (fun _ => by kernel_rfl) (b_add (by omega))) rfl (fun ac A24 => ?_)
    refine s_one (.int .i64 ((k : Int) + 1)) A24 S7 (g_move (by kernel_rfl)) rfl (fun ac A25 => ?_)
    refine wpList_nil ?_
    refine n_then ?_
    refine ⟨_, ⟨k + 1, rfl, by omega, (A25.slot (A25.slot (A25.slot (A25.slot (A25.slot (A25.slot A25.nil (v := .int .i64 ((257 * (ckU l k) + (nthU l k : Int) + 1).tmod 65521)) (by kernel_rfl) rfl) (v := .int .i64 ((k : Int) + 1)) (by kernel_rfl) (congrArg (Value.int .i64) (by omega))) (v := .int .i64 (l.length : Int)) (by kernel_rfl) rfl) (v := .string ⟨l.toArray⟩) (by kernel_rfl) rfl) (v := .int .i64 0) (by kernel_rfl) rfl) (v := .string ⟨l.toArray⟩) (by kernel_rfl) rfl), S7.sub sub_all sub_all⟩, ?_⟩
    omega
  · have p26 := of_decide_eq_false h10
    refine wp_exit ?_
    refine x_then ?_
    refine x_then ?_
    refine x_hit ?_
    refine n_then ?_
    refine wp_seq ?_
    refine wp_region_lit ?_
    refine s_one (.int .i64 (ckU l k)) A9 S7 (g_move (by kernel_rfl)) rfl (fun ac A27 => ?_)
    refine s_one (.int .i64 (ckU l k)) A27 S7 (g_assign (by kernel_rfl)) rfl (fun ac A28 => ?_)
    refine wpList_nil ?_
    refine n_then ?_
    refine wp_ret ?_
    refine fin1 (.int .i64 (ckU l k)) Try.results79 A28 S7 (rv_tmp (by kernel_rfl)) ⟨?_, S7.kp⟩
    obtain rfl : k = l.length := by omega
    rfl

set_option maxRecDepth 100000 in
set_option maxHeartbeats 400000 in
theorem refSum_s (l : List UInt8) (w0 : World) (hl : l.length ≤ 1000000) :
    Calls Try.prog 84 #[.string ⟨l.toArray⟩] w0 fun e w' => e = .returned (.int .i64 (ckU l l.length)) ∧ Below w0.heap.size w0 w' := by
  have S0 := St.start w0
  refine enter (n := 21) Try.func84 rfl rfl rfl (fun ac A0 => ?_)
  refine wp_seq ?_
  refine wp_region_lit ?_
  refine s_one (.int .i64 0) A0 S0 (g_assign (by kernel_rfl)) rfl (fun ac A1 => ?_)
  refine wpList_nil ?_
  refine n_then ?_
  refine wp_seq ?_
  refine wp_region_lit ?_
  refine s_one (.int .i64 1) A1 S0 (g_assign (by kernel_rfl)) rfl (fun ac A2 => ?_)
  refine wpList_nil ?_
  refine n_then ?_
  refine wp_seq ?_
  refine wp_seq ?_
  refine wp_region_lit ?_
  refine s_one (.int .i64 0) A2 S0 (g_assign (by kernel_rfl)) rfl (fun ac A3 => ?_)
  refine wpList_nil ?_
  refine n_then ?_
  refine wp_block ?_
  refine c_loopN (fun mm ac wc => ∃ (k : Nat), mm = l.length - k ∧ (k ≤ l.length) ∧ Fr 21 ac [(0, .string ⟨l.toArray⟩), (2, .int .i64 0), (4, .int .i64 (k : Int)), (3, .int .i64 (ckU l k))] ∧ St w0 [] [] wc) _ ⟨0, rfl, Nat.zero_le _, (A3.slot (A3.slot (A3.slot (A3.slot A3.nil (v := .int .i64 1) (by kernel_rfl) rfl) (v := .int .i64 0) (by kernel_rfl) (congrArg (Value.int .i64) (by omega))) (v := .int .i64 0) (by kernel_rfl) rfl) (v := .string ⟨l.toArray⟩) (by kernel_rfl) rfl), S0.sub sub_all sub_all⟩ ?_
  rintro mm ac wc ⟨k, hm6, hk, A4, S5⟩
  have hr := ckU_range l k
  have hu := nthU_lt l k
  refine wp_seq ?_
  refine wp_seq ?_
  refine wp_region_lit ?_
  refine s_one (.int .i64 (k : Int)) A4 S5 (g_move (by kernel_rfl)) rfl (fun ac A7 => ?_)
  refine s_one (.string ⟨l.toArray⟩) A7 S5 (g_move (by kernel_rfl)) rfl (fun ac A8 => ?_)
  refine s_one (.int .i64 (l.length : Int)) A8 S5 (g_built (r := [(0, .string ⟨l.toArray⟩)]) (by kernel_rfl) (fun ty cs w => bl_str (l := l) Try.underlying9 ty cs w)) rfl (fun ac A9 => ?_)
  refine s_one (.bool (decide ((k : Int) < (l.length : Int)))) A9 S5 (g_bin (u := .int .i64 (k : Int)) (k := .int .i64 (l.length : Int)) (by kernel_rfl) (by kernel_rfl) (fun _ => by kernel_rfl) (fun _ => by kernel_rfl)) rfl (fun ac A10 => ?_)
  refine wpList_nil ?_
  refine n_then ?_
  refine c_ifb (b := (decide ((k : Int) < (l.length : Int)))) A10 (by kernel_rfl) (fun h11 => ?_) (fun h11 => ?_)
  · have p12 := of_decide_eq_true h11
    refine wp_skip ?_
    refine n_then ?_
    refine wp_seq ?_
    refine wp_block ?_
    refine wp_region_lit ?_
    refine s_one (.int .i64 (ckU l k)) A10 S5 (g_move (by kernel_rfl)) rfl (fun ac A13 => ?_)
    refine s_one (.int .i64 (257 * (ckU l k))) A13 S5 (g_bin (u := .int .i64 257) (k := .int .i64 (ckU l k)) (by kernel_rfl) (by kernel_rfl) (fun _ => by kernel_rfl) (b_mul (by omega))) rfl (fun ac A14 => ?_)
    refine s_one (.string ⟨l.toArray⟩) A14 S5 (g_move (by kernel_rfl)) rfl (fun ac A15 => ?_)
    refine s_one (.int .i64 (k : Int)) A15 S5 (g_move (by kernel_rfl)) rfl (fun ac A16 => ?_)
    refine s_one (.int .u8 (nthU l k : Int)) A16 S5 (g_indexv (u := .string ⟨l.toArray⟩) (k := .int .i64 (k : Int)) (by kernel_rfl) (by kernel_rfl) (ix_str (l := l) k Try.underlying9 (by omega) (by omega))) rfl (fun ac A17 => ?_)
    refine s_one (.int .i64 (nthU l k : Int)) A17 S5 (g_conv (u := .int .u8 (nthU l k : Int)) (by kernel_rfl) (conv_u8 Try.underlying5 Try.underlying3 ⟨by omega, by have h9 := nthU_lt l k; omega⟩)) rfl (fun ac A18 => ?_)
    refine s_one (.int .i64 (257 * (ckU l k) + (nthU l k : Int))) A18 S5 (g_bin (u := .int .i64 (257 * (ckU l k))) (k := .int .i64 (nthU l k : Int)) (by kernel_rfl) (by kernel_rfl) (fun _ => by kernel_rfl) (b_add (by omega))) rfl (fun ac A19 => ?_)
    refine s_one (.int .i64 (257 * (ckU l k) + (nthU l k : Int) + 1)) A19 S5 (g_bin (u := .int .i64 (257 * (ckU l k) + (nthU l k : Int))) (k := .int .i64 1) (by kernel_rfl) (by kernel_rfl) (fun _ => by kernel_rfl) (b_add (by omega))) rfl (fun ac A20 => ?_)
    refine s_one (.int .i64 ((257 * (ckU l k) + (nthU l k : Int) + 1).tmod 65521)) A20 S5 (g_bin (u := .int .i64 (257 * (ckU l k) + (nthU l k : Int) + 1)) (k := .int .i64 65521) (by kernel_rfl) (by kernel_rfl) (fun _ => by kernel_rfl) (b_rem (by omega))) rfl (fun ac A21 => ?_)
    refine s_one (.int .i64 ((257 * (ckU l k) + (nthU l k : Int) + 1).tmod 65521)) A21 S5 (g_assign (by kernel_rfl)) rfl (fun ac A22 => ?_)
    refine wpList_nil ?_
    refine n_block ?_
    refine n_then ?_
    refine wp_region_lit ?_
    refine s_one (.int .i64 (k : Int)) A22 S5 (g_move (by kernel_rfl)) rfl (fun ac A23 => ?_)
    refine s_one (.int .i64 ((k : Int) + 1)) A23 S5 (g_bin (u := .int .i64 (k : Int)) (k := .int .i64 1) (by kernel_rfl) (by kernel_rfl) (fun _ => by kernel_rfl) (b_add (by omega))) rfl (fun ac A24 => ?_)
    refine s_one (.int .i64 ((k : Int) + 1)) A24 S5 (g_assign (by kernel_rfl)) rfl (fun ac A25 => ?_)
    refine wpList_nil ?_
    refine n_then ?_
    refine ⟨_, ⟨k + 1, rfl, by omega, (A25.slot (A25.slot (A25.slot (A25.slot A25.nil (v := .int .i64 ((257 * (ckU l k) + (nthU l k : Int) + 1).tmod 65521)) (by kernel_rfl) rfl) (v := .int .i64 ((k : Int) + 1)) (by kernel_rfl) (congrArg (Value.int .i64) (by omega))) (v := .int .i64 0) (by kernel_rfl) rfl) (v := .string ⟨l.toArray⟩) (by kernel_rfl) rfl), S5.sub sub_all sub_all⟩, ?_⟩
    omega
  · have p26 := of_decide_eq_false h11
    refine wp_exit ?_
    refine x_then ?_
    refine x_then ?_
    refine x_hit ?_
    refine n_then ?_
    refine wp_seq ?_
    refine wp_region_lit ?_
    refine s_one (.int .i64 (ckU l k)) A10 S5 (g_move (by kernel_rfl)) rfl (fun ac A27 => ?_)
    refine s_one (.int .i64 (ckU l k)) A27 S5 (g_assign (by kernel_rfl)) rfl (fun ac A28 => ?_)
    refine wpList_nil ?_
    refine n_then ?_
    refine wp_ret ?_
    refine fin1 (.int .i64 (ckU l k)) Try.results84 A28 S5 (rv_tmp (by kernel_rfl)) ⟨?_, S5.kp⟩
    obtain rfl : k = l.length := by omega
    rfl

set_option maxRecDepth 100000 in
set_option maxHeartbeats 400000 in
theorem whole_s (l : List UInt8) (w0 : World) (hl : l.length ≤ 4) :
    Calls Try.prog 80 #[.string ⟨l.toArray⟩] w0 fun e w' => e = .returned (.int .i64 (whI l 0 l.length)) ∧ Below w0.heap.size w0 w' := by
  have S0 := St.start w0
  refine enter (n := 20) Try.func80 rfl rfl rfl (fun ac A0 => ?_)
  refine wp_seq ?_
  refine wp_region_lit ?_
  refine s_one (.int .i64 0) A0 S0 (g_assign (by kernel_rfl)) rfl (fun ac A1 => ?_)
  refine wpList_nil ?_
  refine n_then ?_
  refine wp_seq ?_
  refine wp_region_lit ?_
  refine s_one (.int .i64 0) A1 S0 (g_assign (by kernel_rfl)) rfl (fun ac A2 => ?_)
  refine wpList_nil ?_
  refine n_then ?_
  refine wp_seq ?_
  refine wp_seq ?_
  refine wp_region_lit ?_
  refine s_one (.string ⟨l.toArray⟩) A2 S0 (g_move (by kernel_rfl)) rfl (fun ac A3 => ?_)
  refine s_bytesOf (l := l) A3 S0 (by kernel_rfl) Try.underlying9 Try.underlying144 Try.underlying5 rfl (fun wz4 ad5 cap6 ac hc8 hz9 A7 hkx10 S11 => ?_)
  refine s_one (.int .i64 (l.length : Int)) A7 S11 (g_built (r := [(0, .slice (some ad5) l.length cap6)]) (by kernel_rfl) (fun _ _ _ => by kernel_rfl)) rfl (fun ac A12 => ?_)
  refine s_one (.int .i64 0) A12 S11 (g_move (by kernel_rfl)) rfl (fun ac A13 => ?_)
  refine wpList_nil ?_
  refine n_then ?_
  refine wp_block ?_
  refine c_loopN (fun mm ac wc => ∃ (k : Nat), mm = l.length - k ∧ (k ≤ l.length) ∧ Fr 20 ac [(0, .string ⟨l.toArray⟩), (2, .int .i64 0), (6, .string ⟨l.toArray⟩), (7, .slice (some ad5) l.length cap6), (8, .int .i64 (l.length : Int)), (9, .int .i64 (k : Int)), (3, .int .i64 (whI l 0 k))] ∧ St ⟨w0, wz4⟩ [] [] wc) _ ⟨0, rfl, Nat.zero_le _, (A13.slot (A13.slot (A13.slot (A13.slot (A13.slot (A13.slot (A13.slot A13.nil (v := .int .i64 0) (by kernel_rfl) rfl) (v := .int .i64 0) (by kernel_rfl) (congrArg (Value.int .i64) (by omega))) (v := .int .i64 (l.length : Int)) (by kernel_rfl) rfl) (v := .slice (some ad5) l.length cap6) (by kernel_rfl) rfl) (v := .string ⟨l.toArray⟩) (by kernel_rfl) rfl) (v := .int .i64 0) (by kernel_rfl) rfl) (v := .string ⟨l.toArray⟩) (by kernel_rfl) rfl), S11.sub sub_all sub_all⟩ ?_
  rintro mm ac wc ⟨k, hm16, hk, A14, S15⟩
  have hr := whI_bd l 0 k (by omega)
  have hu := nthU_lt l k
  refine wp_seq ?_
  refine wp_region_lit ?_
  refine s_one (.bool (decide ((k : Int) < (l.length : Int)))) A14 S15 (g_bin (u := .int .i64 (k : Int)) (k := .int .i64 (l.length : Int)) (by kernel_rfl) (by kernel_rfl) (fun _ => by kernel_rfl) (fun _ => by kernel_rfl)) rfl (fun ac A17 => ?_)
  refine wpList_nil ?_
  refine n_then ?_
  refine wp_seq ?_
  refine c_ifb (b := (decide ((k : Int) < (l.length : Int)))) A17 (by kernel_rfl) (fun h18 => ?_) (fun h18 => ?_)
  · have p19 := of_decide_eq_true h18
    refine wp_skip ?_
    refine n_then ?_
    refine wp_seq ?_
    refine wp_block ?_
    refine wp_seq ?_
    refine wp_region_lit ?_
    refine s_one (.pointer (some (ad5.add k))) A17 S15 (g_index (u := .slice (some ad5) l.length cap6) (k := .int .i64 (k : Int)) (by kernel_rfl) (by kernel_rfl) (ix_by (e := 5) (bytes := 1) k (by kernel_rfl) (by omega) (by omega))) rfl (fun ac A20 => ?_)
    refine s_one (.int .u8 (nthU l k : Int)) A20 S15 (g_loadXB (l := l) (k := k) (by kernel_rfl) hz9 (by omega) (by kernel_rfl)) rfl (fun ac A21 => ?_)
    refine s_one (.int .u8 (nthU l k : Int)) A21 S15 (g_assign (by kernel_rfl)) rfl (fun ac A22 => ?_)
    refine wpList_nil ?_
    refine n_then ?_
    refine wp_region_lit ?_
    refine s_one (.int .i64 (whI l 0 k)) A22 S15 (g_move (by kernel_rfl)) rfl (fun ac A23 => ?_)
    refine s_one (.int .i64 ((whI l 0 k) * 256)) A23 S15 (g_bin (u := .int .i64 (whI l 0 k)) (k := .int .u64 8) (by kernel_rfl) (by kernel_rfl) (fun _ => by kernel_rfl) (b_shl8 (by omega))) rfl (fun ac A24 => ?_)
    refine s_one (.int .u8 (nthU l k : Int)) A24 S15 (g_move (by kernel_rfl)) rfl (fun ac A25 => ?_)
    refine s_one (.int .i64 (nthU l k : Int)) A25 S15 (g_conv (u := .int .u8 (nthU l k : Int)) (by kernel_rfl) (conv_u8 Try.underlying5 Try.underlying3 ⟨by omega, by have h9 := nthU_lt l k; omega⟩)) rfl (fun ac A26 => ?_)
    refine s_one (.int .i64 ((whI l 0 k) * 256 + (nthU l k : Int))) A26 S15 (g_bin (u := .int .i64 ((whI l 0 k) * 256)) (k := .int .i64 (nthU l k : Int)) (by kernel_rfl) (by kernel_rfl) (fun _ => by kernel_rfl) (b_or8 (c := nthU l k) (by omega) (nthU_lt _ _))) rfl (fun ac A27 => ?_)
    refine s_one (.int .i64 ((whI l 0 k) * 256 + (nthU l k : Int))) A27 S15 (g_assign (by kernel_rfl)) rfl (fun ac A28 => ?_)
    refine wpList_nil ?_
    refine n_block ?_
    refine n_then ?_
    refine wp_region_lit ?_
    refine s_one (.int .i64 ((k : Int) + 1)) A28 S15 (g_bin (u := .int .i64 (k : Int)) (k := .int .i64 1) (by kernel_rfl) (by kernel_rfl) (fun _ => by kernel_rfl) (b_add (by omega))) rfl (fun ac A29 => ?_)
    refine s_one (.int .i64 ((k : Int) + 1)) A29 S15 (g_move (by kernel_rfl)) rfl (fun ac A30 => ?_)
    refine wpList_nil ?_
    refine n_then ?_
    refine ⟨_, ⟨k + 1, rfl, by omega, (A30.slot (A30.slot (A30.slot (A30.slot (A30.slot (A30.slot (A30.slot A30.nil (v := .int .i64 ((whI l 0 k) * 256 + (nthU l k : Int))) (by kernel_rfl) (congrArg (Value.int .i64) (by simp only [whI, Nat.zero_add]))) (v := .int .i64 ((k : Int) + 1)) (by kernel_rfl) (congrArg (Value.int .i64) (by omega))) (v := .int .i64 (l.length : Int)) (by kernel_rfl) rfl) (v := .slice (some ad5) l.length cap6) (by kernel_rfl) rfl) (v := .string ⟨l.toArray⟩) (by kernel_rfl) rfl) (v := .int .i64 0) (by kernel_rfl) rfl) (v := .string ⟨l.toArray⟩) (by kernel_rfl) rfl), S15.sub sub_all sub_all⟩, ?_⟩
    omega
  · have p31 := of_decide_eq_false h18
    refine wp_exit ?_
    refine x_then ?_
    refine x_then ?_
    refine x_hit ?_
    refine n_then ?_
    refine wp_seq ?_
    refine wp_region_lit ?_
    refine s_one (.int .i64 (whI l 0 k)) A17 S15 (g_move (by kernel_rfl)) rfl (fun ac A32 => ?_)
    refine s_one (.int .i64 (whI l 0 k)) A32 S15 (g_assign (by kernel_rfl)) rfl (fun ac A33 => ?_)
    refine wpList_nil ?_
    refine n_then ?_
    refine wp_ret ?_
    refine fin1 (.int .i64 (whI l 0 k)) Try.results80 A33 S15 (rv_tmp (by kernel_rfl)) ⟨?_, S15.kp⟩
    obtain rfl : k = l.length := by omega
    rfl

theorem whole_at (l : Bs) (i n : Nat) (w : World) (hn : n ≤ 4) (h : i + n ≤ l.length) : Calls Try.prog 80 #[.string ⟨(subU l i n).toArray⟩] w fun e w' => e = .returned (.int .i64 (whI l i n)) ∧ Below w.heap.size w w' := by
  have hl := subU_length h
  have := whole_s (subU l i n) w (by omega)
  rw [hl, whI_sub (by omega), Nat.add_zero] at this
  exact this

set_option maxRecDepth 100000 in
set_option maxHeartbeats 400000 in
theorem hasPrefix0_s (l : List UInt8) (w0 : World) (h2 : 8 ≤ l.length) :
    Calls Try.prog 107 #[.string ⟨l.toArray⟩, .string ⟨([67, 80] : List UInt8).toArray⟩] w0 fun e w' => e = .returned (.bool (decide (subU l 0 2 = [67, 80]))) ∧ Below w0.heap.size w0 w' := by
  have S0 := St.start w0
  refine enter (n := 18) Try.func107 rfl rfl rfl (fun ac A0 => ?_)
  refine wp_seq ?_
  refine wp_region_lit ?_
  refine s_one (.bool false) A0 S0 (g_assign (by kernel_rfl)) rfl (fun ac A1 => ?_)
  refine wpList_nil ?_
  refine n_then ?_
  refine wp_seq ?_
  refine wp_region_lit ?_
  refine s_one (.string ⟨l.toArray⟩) A1 S0 (g_move (by kernel_rfl)) rfl (fun ac A2 => ?_)
  refine s_one (.int .i64 (l.length : Int)) A2 S0 (g_built (r := [(0, .string ⟨l.toArray⟩)]) (by kernel_rfl) (fun ty cs w => bl_str (l := l) Try.underlying9 ty cs w)) rfl (fun ac A3 => ?_)
  refine s_one (.string ⟨([67, 80] : List UInt8).toArray⟩) A3 S0 (g_move (by kernel_rfl)) rfl (fun ac A4 => ?_)
  refine s_one (.int .i64 2) A4 S0 (g_built (r := [(0, .string ⟨([67, 80] : List UInt8).toArray⟩)]) (by kernel_rfl) (fun ty cs w => bl_str (l := ([67, 80] : List UInt8)) Try.underlying9 ty cs w)) rfl (fun ac A5 => ?_)
  refine s_one (.bool (decide ((l.length : Int) ≥ 2))) A5 S0 (g_bin (u := .int .i64 (l.length : Int)) (k := .int .i64 2) (by kernel_rfl) (by kernel_rfl) (fun _ => by kernel_rfl) (fun _ => by kernel_rfl)) rfl (fun ac A6 => ?_)
  refine s_one (.bool (decide ((l.length : Int) ≥ 2))) A6 S0 (g_move (by kernel_rfl)) rfl (fun ac A7 => ?_)
  refine s_want (dj := 10) (b := (decide ((l.length : Int) ≥ 2))) A7 (by kernel_rfl) (by kernel_rfl) (decide_eq_true (by omega)) ?_
  refine s_one (.string ⟨l.toArray⟩) A7 S0 (g_move (by kernel_rfl)) rfl (fun ac A8 => ?_)
  refine s_want (dj := 10) (b := (decide ((l.length : Int) ≥ 2))) A8 (by kernel_rfl) (by kernel_rfl) (decide_eq_true (by omega)) ?_
  refine s_one (.string ⟨([67, 80] : List UInt8).toArray⟩) A8 S0 (g_move (by kernel_rfl)) rfl (fun ac A9 => ?_)
  refine s_want (dj := 10) (b := (decide ((l.length : Int) ≥ 2))) A9 (by kernel_rfl) (by kernel_rfl) (decide_eq_true (by omega)) ?_
  refine s_one (.int .i64 2) A9 S0 (g_built (r := [(0, .string ⟨([67, 80] : List UInt8).toArray⟩)]) (by kernel_rfl) (fun ty cs w => bl_str (l := ([67, 80] : List UInt8)) Try.underlying9 ty cs w)) rfl (fun ac A10 => ?_)
  refine s_want (dj := 10) (b := (decide ((l.length : Int) ≥ 2))) A10 (by kernel_rfl) (by kernel_rfl) (decide_eq_true (by omega)) ?_
  refine s_one (.string ⟨(subU l 0 2).toArray⟩) A10 S0 (g_slice (u := .string ⟨l.toArray⟩) (lo' := none) (hi' := (some (.int .i64 2))) (mx' := none) (by kernel_rfl) (by kernel_rfl) (by kernel_rfl) (by kernel_rfl) (sl_strH (l := l) (h := 2) Try.underlying9 (by omega) (by omega))) rfl (fun ac A11 => ?_)
  refine s_want (dj := 10) (b := (decide ((l.length : Int) ≥ 2))) A11 (by kernel_rfl) (by kernel_rfl) (decide_eq_true (by omega)) ?_
  refine s_one (.string ⟨([67, 80] : List UInt8).toArray⟩) A11 S0 (g_move (by kernel_rfl)) rfl (fun ac A12 => ?_)
  refine s_want (dj := 10) (b := (decide ((l.length : Int) ≥ 2))) A12 (by kernel_rfl) (by kernel_rfl) (decide_eq_true (by omega)) ?_
  refine s_one (.bool (decide (subU l 0 2 = ([67, 80] : List UInt8)))) A12 S0 (g_bin (u := .string ⟨(subU l 0 2).toArray⟩) (k := .string ⟨([67, 80] : List UInt8).toArray⟩) (by kernel_rfl) (by kernel_rfl) (fun _ => by kernel_rfl) (q_str (l := subU l 0 2) (m := ([67, 80] : List UInt8)))) rfl (fun ac A13 => ?_)
  refine s_one (.bool (decide (subU l 0 2 = ([67, 80] : List UInt8)))) A13 S0 (g_pick_t (b := (decide ((l.length : Int) ≥ 2))) (by kernel_rfl) (decide_eq_true (by omega)) (by kernel_rfl)) rfl (fun ac A14 => ?_)
  refine s_one (.bool (decide (subU l 0 2 = ([67, 80] : List UInt8)))) A14 S0 (g_assign (by kernel_rfl)) rfl (fun ac A15 => ?_)
  refine wpList_nil ?_
  refine n_then ?_
  refine wp_ret ?_
  refine fin1 (.bool (decide (subU l 0 2 = ([67, 80] : List UInt8)))) Try.results107 A15 S0 (rv_tmp (by kernel_rfl)) ⟨?_, S0.kp⟩
  rfl

set_option maxRecDepth 100000 in
set_option maxHeartbeats 400000 in
theorem hasPrefix_s (l : List UInt8) (w0 : World) (h2 : 8 ≤ l.length) :
    Calls Try.prog 78 #[.string ⟨l.toArray⟩, .string ⟨([67, 80] : List UInt8).toArray⟩] w0 fun e w' => e = .returned (.bool (decide (subU l 0 2 = [67, 80]))) ∧ Below w0.heap.size w0 w' := by
  have S0 := St.start w0
  refine enter (n := 8) Try.func78 rfl rfl rfl (fun ac A0 => ?_)
  refine wp_seq ?_
  refine wp_region_lit ?_
  refine s_one (.bool false) A0 S0 (g_assign (by kernel_rfl)) rfl (fun ac A1 => ?_)
  refine wpList_nil ?_
  refine n_then ?_
  refine wp_seq ?_
  refine wp_region_lit ?_
  refine s_one (.string ⟨l.toArray⟩) A1 S0 (g_move (by kernel_rfl)) rfl (fun ac A2 => ?_)
  refine s_one (.string ⟨([67, 80] : List UInt8).toArray⟩) A2 S0 (g_move (by kernel_rfl)) rfl (fun ac A3 => ?_)
  refine s_call (fs := #[]) (cp := #[]) (r := [(0, .string ⟨l.toArray⟩), (0, .string ⟨([67, 80] : List UInt8).toArray⟩)]) #[.string ⟨l.toArray⟩, .string ⟨([67, 80] : List UInt8).toArray⟩] (.bool (decide (subU l 0 2 = [67, 80]))) A3 S0 (hasPrefix0_s l _ (by omega)) Try.call107 (by kernel_rfl) (by kernel_rfl) (by kernel_rfl) rfl (fun ac wc A4 S5 => ?_)
  refine s_one (.bool (decide (subU l 0 2 = [67, 80]))) A4 S5 (g_assign (by kernel_rfl)) rfl (fun ac A7 => ?_)
  refine wpList_nil ?_
  refine n_then ?_
  refine wp_ret ?_
  refine fin1 (.bool (decide (subU l 0 2 = [67, 80]))) Try.results78 A7 S5 (rv_tmp (by kernel_rfl)) ⟨?_, S5.kp⟩
  rfl

theorem sz_eq (n : Nat) : (8 : Int) + 2 * (n : Int) * (n : Int) * 64 + 2 = ((10 + 128 * (n * n) : Nat) : Int) := by
  have e : ((n * n : Nat) : Int) = (n : Int) * (n : Int) := Int.natCast_mul _ _
  rw [Int.mul_assoc 2, ← e]; omega
theorem sz_eq2 (n : Nat) : (10 : Int) + 128 * (n : Int) * (n : Int) = ((10 + 128 * (n * n) : Nat) : Int) := by
  have e : ((n * n : Nat) : Int) = (n : Int) * (n : Int) := Int.natCast_mul _ _
  rw [Int.mul_assoc 128, ← e]; omega
theorem sq_le {n m : Nat} (h : n ≤ m) : n * n ≤ m * m := Nat.mul_le_mul h h

set_option maxRecDepth 100000 in
set_option maxHeartbeats 400000 in
theorem frameSize_s (n : Nat) (w0 : World) (hn : n ≤ 255) :
    Calls Try.prog 77 #[.int .i64 (n : Int)] w0 fun e w' => e = .returned (.int .i64 ((10 + 128 * (n * n) : Nat) : Int)) ∧ Below w0.heap.size w0 w' := by
  have S0 := St.start w0
  have hq := sq_le hn
  have e : ((n * n : Nat) : Int) = (n : Int) * (n : Int) := Int.natCast_mul _ _
  have e2 : 2 * (n : Int) * (n : Int) = 2 * ((n * n : Nat) : Int) := by rw [Int.mul_assoc, e]
  have e3 : 128 * (n : Int) * (n : Int) = 128 * ((n * n : Nat) : Int) := by rw [Int.mul_assoc, e]
  refine enter (n := 10) Try.func77 rfl rfl rfl (fun ac A0 => ?_)
  refine wp_seq ?_
  refine wp_region_lit ?_
  refine s_one (.int .i64 0) A0 S0 (g_assign (by kernel_rfl)) rfl (fun ac A1 => ?_)
  refine wpList_nil ?_
  refine n_then ?_
  refine wp_seq ?_
  refine wp_region_lit ?_
  refine s_one (.int .i64 (n : Int)) A1 S0 (g_move (by kernel_rfl)) rfl (fun ac A2 => ?_)
  refine s_one (.int .i64 (2 * (n : Int))) A2 S0 (g_bin (u := .int .i64 2) (k := .int .i64 (n : Int)) (by kernel_rfl) (by kernel_rfl) (fun _ => by kernel_rfl) (b_mul (by omega))) rfl (fun ac A3 => ?_)
  refine s_one (.int .i64 (n : Int)) A3 S0 (g_move (by kernel_rfl)) rfl (fun ac A4 => ?_)
  refine s_one (.int .i64 ((2 * (n : Int)) * (n : Int))) A4 S0 (g_bin (u := .int .i64 (2 * (n : Int))) (k := .int .i64 (n : Int)) (by kernel_rfl) (by kernel_rfl) (fun _ => by kernel_rfl) (b_mul (by omega))) rfl (fun ac A5 => ?_)
  refine s_one (.int .i64 (((2 * (n : Int)) * (n : Int)) * 64)) A5 S0 (g_bin (u := .int .i64 ((2 * (n : Int)) * (n : Int))) (k := .int .i64 64) (by kernel_rfl) (by kernel_rfl) (fun _ => by kernel_rfl) (b_mul (by omega))) rfl (fun ac A6 => ?_)
  refine s_one (.int .i64 (8 + (((2 * (n : Int)) * (n : Int)) * 64))) A6 S0 (g_bin (u := .int .i64 8) (k := .int .i64 (((2 * (n : Int)) * (n : Int)) * 64)) (by kernel_rfl) (by kernel_rfl) (fun _ => by kernel_rfl) (b_add (by omega))) rfl (fun ac A7 => ?_)
  refine s_one (.int .i64 (8 + (((2 * (n : Int)) * (n : Int)) * 64) + 2)) A7 S0 (g_bin (u := .int .i64 (8 + (((2 * (n : Int)) * (n : Int)) * 64))) (k := .int .i64 2) (by kernel_rfl) (by kernel_rfl) (fun _ => by kernel_rfl) (b_add (by omega))) rfl (fun ac A8 => ?_)
  refine s_one (.int .i64 (8 + (((2 * (n : Int)) * (n : Int)) * 64) + 2)) A8 S0 (g_assign (by kernel_rfl)) rfl (fun ac A9 => ?_)
  refine wpList_nil ?_
  refine n_then ?_
  refine wp_ret ?_
  refine fin1 (.int .i64 (8 + (((2 * (n : Int)) * (n : Int)) * 64) + 2)) Try.results77 A9 S0 (rv_tmp (by kernel_rfl)) ⟨?_, S0.kp⟩
  exact congrArg (fun x => Ending.returned (Value.int .i64 x)) (sz_eq n)

set_option maxRecDepth 100000 in
set_option maxHeartbeats 400000 in
theorem refSize_s (n : Nat) (w0 : World) (hn : n ≤ 255) :
    Calls Try.prog 50 #[.int .i64 (n : Int)] w0 fun e w' => e = .returned (.int .i64 ((10 + 128 * (n * n) : Nat) : Int)) ∧ Below w0.heap.size w0 w' := by
  have S0 := St.start w0
  have hq := sq_le hn
  have e : ((n * n : Nat) : Int) = (n : Int) * (n : Int) := Int.natCast_mul _ _
  have e2 : 2 * (n : Int) * (n : Int) = 2 * ((n * n : Nat) : Int) := by rw [Int.mul_assoc, e]
  have e3 : 128 * (n : Int) * (n : Int) = 128 * ((n * n : Nat) : Int) := by rw [Int.mul_assoc, e]
  refine enter (n := 8) Try.func50 rfl rfl rfl (fun ac A0 => ?_)
  refine wp_seq ?_
  refine wp_region_lit ?_
  refine s_one (.int .i64 0) A0 S0 (g_assign (by kernel_rfl)) rfl (fun ac A1 => ?_)
  refine wpList_nil ?_
  refine n_then ?_
  refine wp_seq ?_
  refine wp_region_lit ?_
  refine s_one (.int .i64 (n : Int)) A1 S0 (g_move (by kernel_rfl)) rfl (fun ac A2 => ?_)
  refine s_one (.int .i64 (128 * (n : Int))) A2 S0 (g_bin (u := .int .i64 128) (k := .int .i64 (n : Int)) (by kernel_rfl) (by kernel_rfl) (fun _ => by kernel_rfl) (b_mul (by omega))) rfl (fun ac A3 => ?_)
  refine s_one (.int .i64 (n : Int)) A3 S0 (g_move (by kernel_rfl)) rfl (fun ac A4 => ?_)
  refine s_one (.int .i64 ((128 * (n : Int)) * (n : Int))) A4 S0 (g_bin (u := .int .i64 (128 * (n : Int))) (k := .int .i64 (n : Int)) (by kernel_rfl) (by kernel_rfl) (fun _ => by kernel_rfl) (b_mul (by omega))) rfl (fun ac A5 => ?_)
  refine s_one (.int .i64 (10 + ((128 * (n : Int)) * (n : Int)))) A5 S0 (g_bin (u := .int .i64 10) (k := .int .i64 ((128 * (n : Int)) * (n : Int))) (by kernel_rfl) (by kernel_rfl) (fun _ => by kernel_rfl) (b_add (by omega))) rfl (fun ac A6 => ?_)
  refine s_one (.int .i64 (10 + ((128 * (n : Int)) * (n : Int)))) A6 S0 (g_assign (by kernel_rfl)) rfl (fun ac A7 => ?_)
  refine wpList_nil ?_
  refine n_then ?_
  refine wp_ret ?_
  refine fin1 (.int .i64 (10 + ((128 * (n : Int)) * (n : Int)))) Try.results50 A7 S0 (rv_tmp (by kernel_rfl)) ⟨?_, S0.kp⟩
  exact congrArg (fun x => Ending.returned (Value.int .i64 x)) (sz_eq2 n)

end Go.Proofs.Ytcijkniijomcjaa
