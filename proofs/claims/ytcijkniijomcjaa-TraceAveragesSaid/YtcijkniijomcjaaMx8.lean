/- Places of pairs, the greatest size, the full matrix. -/
import Derived.Test.YtcijkniijomcjaaMx7
namespace Go.Proofs.Ytcijkniijomcjaa
open Go.RowKit Go.Cpl

set_option maxRecDepth 100000 in
set_option maxHeartbeats 400000 in
theorem mat_at (g ne m cap f r : Nat) (ad : Addr) (l : List Int) (w0 : World) (hb : Blk w0 g 137 #[.int .i64 (ne : Int), .slice (some ad) m cap]) (hl : l.length = m * 64) (hk : f * ne + r < m) (hm : m ≤ 1000) :
    Calls Try.prog 73 #[.pointer (some ⟨g, 0, none⟩), .int .i64 (f : Int), .int .i64 (r : Int)] w0 fun e w' => e = .returned (.pointer (some (ad.add ((f * ne + r) * 64)))) ∧ Below w0.heap.size w0 w' := by
  have S0 := St.start w0
  have S0 := S0.came hb (by simp)
  have hrm : r ≤ 1000 := by omega
  have hfn : 0 ≤ (f : Int) * (ne : Int) ∧ (f : Int) * (ne : Int) ≤ 1000 := by have e : ((f * ne : Nat) : Int) = (f : Int) * (ne : Int) := Int.natCast_mul _ _; omega
  have hc : (f : Int) * (ne : Int) + (r : Int) = ((f * ne + r : Nat) : Int) := by rw [Int.natCast_add, Int.natCast_mul]
  refine enter (n := 20) Try.func73 rfl rfl rfl (fun ac A0 => ?_)
  refine wp_seq ?_
  refine wp_region_lit ?_
  refine s_one (.pointer none) A0 S0 (g_assign (by kernel_rfl)) rfl (fun ac A1 => ?_)
  refine wpList_nil ?_
  refine n_then ?_
  refine wp_seq ?_
  refine r_begin (w0 := w0) (by kernel_rfl) (S0.sub sub_all sub_all) (fun wc T2 B3 => ?_)
  have S4 := S0.kept B3
  refine r_take 0 (.pointer (some ⟨g, 0, none⟩)) A1 T2 (g_move (by kernel_rfl)) rfl rfl rfl (pf_then pf_body) (by kernel_rfl) (fun ac A5 => ?_)
  refine r_take 1 (.pointer (some ⟨g, 0, none⟩)) A5 T2 (g_nil (by kernel_rfl)) rfl rfl rfl (pf_then pf_body) (by kernel_rfl) (fun ac A6 => ?_)
  refine r_take 2 (.pointer (some ⟨g, 1, none⟩)) A6 T2 (g_field (u := .pointer (some ⟨g, 0, none⟩)) (by kernel_rfl) (fun _ => by kernel_rfl)) rfl rfl rfl (pf_then pf_body) (by kernel_rfl) (fun ac A7 => ?_)
  refine r_take 3 (.slice (some ad) m cap) A7 T2 (g_load (g := g) (off := 1) 0 (by kernel_rfl) rfl (by kernel_rfl)) rfl rfl rfl (pf_then pf_body) (by kernel_rfl) (fun ac A8 => ?_)
  refine r_take 4 (.int .i64 (f : Int)) A8 T2 (g_move (by kernel_rfl)) rfl rfl rfl (pf_then pf_body) (by kernel_rfl) (fun ac A9 => ?_)
  refine r_take 5 (.pointer (some ⟨g, 0, none⟩)) A9 T2 (g_move (by kernel_rfl)) rfl rfl rfl (pf_then pf_body) (by kernel_rfl) (fun ac A10 => ?_)
  refine r_take 6 (.pointer (some ⟨g, 0, none⟩)) A10 T2 (g_nil (by kernel_rfl)) rfl rfl rfl (pf_then pf_body) (by kernel_rfl) (fun ac A11 => ?_)
  refine r_take 7 (.pointer (some ⟨g, 0, none⟩)) A11 T2 (g_field (u := .pointer (some ⟨g, 0, none⟩)) (by kernel_rfl) (fun _ => by kernel_rfl)) rfl rfl rfl (pf_then pf_body) (by kernel_rfl) (fun ac A12 => ?_)
  refine r_take 8 (.int .i64 (ne : Int)) A12 T2 (g_load (g := g) (off := 0) 0 (by kernel_rfl) rfl (by kernel_rfl)) rfl rfl rfl (pf_then pf_body) (by kernel_rfl) (fun ac A13 => ?_)
  refine r_take 9 (.int .i64 ((f : Int) * (ne : Int))) A13 T2 (g_bin (u := .int .i64 (f : Int)) (k := .int .i64 (ne : Int)) (by kernel_rfl) (by kernel_rfl) (fun _ => by kernel_rfl) (b_mul (by omega))) rfl rfl rfl (pf_then pf_body) (by kernel_rfl) (fun ac A14 => ?_)
  refine r_take 10 (.int .i64 (r : Int)) A14 T2 (g_move (by kernel_rfl)) rfl rfl rfl (pf_then pf_body) (by kernel_rfl) (fun ac A15 => ?_)
  refine r_take 11 (.int .i64 ((f : Int) * (ne : Int) + (r : Int))) A15 T2 (g_bin (u := .int .i64 ((f : Int) * (ne : Int))) (k := .int .i64 (r : Int)) (by kernel_rfl) (by kernel_rfl) (fun _ => by kernel_rfl) (b_add (by omega))) rfl rfl rfl (pf_then pf_body) (by kernel_rfl) (fun ac A16 => ?_)
  refine r_take 12 (.pointer (some (ad.add ((f * ne + r) * 64)))) A16 T2 (g_index (u := .slice (some ad) m cap) (k := .int .i64 ((f : Int) * (ne : Int) + (r : Int))) (by kernel_rfl) (by kernel_rfl) (ix_xs (e := 123) (bytes := 512) (f * ne + r) (by kernel_rfl) (by omega) (by omega))) rfl rfl rfl (pf_then pf_body) (by kernel_rfl) (fun ac A17 => ?_)
  refine r_take 13 (.pointer (some (ad.add ((f * ne + r) * 64)))) A17 T2 (g_assign (by kernel_rfl)) rfl rfl rfl (pf_then pf_body) (by kernel_rfl) (fun ac A18 => ?_)
  refine r_done (by kernel_rfl) ?_
  refine n_then ?_
  refine wp_ret ?_
  refine fin1 (.pointer (some (ad.add ((f * ne + r) * 64)))) Try.results73 A18 S4 (rv_tmp (by kernel_rfl)) ⟨?_, S4.kp⟩
  rfl

set_option maxRecDepth 100000 in
set_option maxHeartbeats 400000 in
theorem size_s (n : Int) (w0 : World) (hn : -100000 ≤ n ∧ n ≤ 100000) :
    Calls Try.prog 89 #[.int .i64 n] w0 fun e w' => e = .returned (.int .i64 (mx n (-n))) ∧ Below w0.heap.size w0 w' := by
  have S0 := St.start w0
  refine enter (n := 7) Try.func89 rfl rfl rfl (fun ac A0 => ?_)
  refine wp_seq ?_
  refine wp_region_lit ?_
  refine s_one (.int .i64 0) A0 S0 (g_assign (by kernel_rfl)) rfl (fun ac A1 => ?_)
  refine wpList_nil ?_
  refine n_then ?_
  refine wp_seq ?_
  refine wp_region_lit ?_
  refine s_one (.int .i64 n) A1 S0 (g_move (by kernel_rfl)) rfl (fun ac A2 => ?_)
  refine s_one (.int .i64 n) A2 S0 (g_move (by kernel_rfl)) rfl (fun ac A3 => ?_)
  refine s_one (.int .i64 (-n)) A3 S0 (g_un (u := .int .i64 n) (by kernel_rfl) (u_neg (by omega))) rfl (fun ac A4 => ?_)
  refine s_one (.int .i64 (mx n (-n))) A4 S0 (g_built (r := [(0, .int .i64 n), (0, .int .i64 (-n))]) (by kernel_rfl) (fun ty cs w => by show (do let x ← Builtin.max_ _ ty #[.int .i64 n, .int .i64 (-n)]; pure (Next.value x) : Sem Next).run _ w = _; rw [Sem.run_bind, run_max_mx]; rfl)) rfl (fun ac A5 => ?_)
  refine s_one (.int .i64 (mx n (-n))) A5 S0 (g_assign (by kernel_rfl)) rfl (fun ac A6 => ?_)
  refine wpList_nil ?_
  refine n_then ?_
  refine wp_ret ?_
  refine fin1 (.int .i64 (mx n (-n))) Try.results89 A6 S0 (rv_tmp (by kernel_rfl)) ⟨?_, S0.kp⟩
  rfl

/-- The greatest size of so many ints. -/
def gr (l : List Int) (i : Nat) : Nat → Int
  | 0 => 0
  | k + 1 => mx (gr l i k) (mx (nthI l (i + k)) (-(nthI l (i + k))))
theorem gr_range {l : List Int} (h : ∀ k, -2047 ≤ nthI l k ∧ nthI l k ≤ 2047) (i k : Nat) : 0 ≤ gr l i k ∧ gr l i k ≤ 2047 := by
  induction k with
  | zero => exact ⟨by simp [gr], by simp [gr]⟩
  | succ k ih =>
    have := h (i + k)
    unfold gr
    rw [mx_eq, mx_eq]
    omega

set_option maxRecDepth 100000 in
set_option maxHeartbeats 400000 in
theorem greatest_s (ad : Addr) (l : List Int) (i : Nat) (w0 : World) (hr : IReads w0 (some ad) l) (hi : i + 64 ≤ l.length) (hB : ∀ k, -2047 ≤ nthI l k ∧ nthI l k ≤ 2047) :
    Calls Try.prog 87 #[.pointer (some (ad.add i))] w0 fun e w' => e = .returned (.int .i64 (gr l i 64)) ∧ Below w0.heap.size w0 w' := by
  have S0 := St.start w0
  obtain ⟨m, hm⟩ : ∃ m, l.length = m := ⟨_, rfl⟩
  refine enter (n := 18) Try.func87 rfl rfl rfl (fun ac A0 => ?_)
  refine wp_seq ?_
  refine wp_region_lit ?_
  refine s_one (.int .i64 0) A0 S0 (g_assign (by kernel_rfl)) rfl (fun ac A1 => ?_)
  refine wpList_nil ?_
  refine n_then ?_
  refine wp_seq ?_
  refine wp_region_lit ?_
  refine s_one (.int .i64 0) A1 S0 (g_assign (by kernel_rfl)) rfl (fun ac A2 => ?_)
  refine wpList_nil ?_
  refine n_then ?_
  refine wp_seq ?_
  refine wp_seq ?_
  refine wp_region_lit ?_
  refine s_one (.pointer (some (ad.add i))) A2 S0 (g_move (by kernel_rfl)) rfl (fun ac A3 => ?_)
  refine s_one (.int .i64 0) A3 S0 (g_move (by kernel_rfl)) rfl (fun ac A4 => ?_)
  refine wpList_nil ?_
  refine n_then ?_
  refine wp_block ?_
  refine c_loopN (fun mm ac wc => ∃ (k : Nat), mm = 64 - k ∧ (k ≤ 64) ∧ Fr 18 ac [(0, .pointer (some (ad.add i))), (2, .int .i64 0), (6, .pointer (some (ad.add i))), (7, .int .i64 (k : Int)), (3, .int .i64 (gr l i k))] ∧ St w0 [] [] wc) _ ⟨0, rfl, by omega, (A4.slot (A4.slot (A4.slot (A4.slot (A4.slot A4.nil (v := .int .i64 0) (by kernel_rfl) rfl) (v := .int .i64 0) (by kernel_rfl) (congrArg (Value.int .i64) (by omega))) (v := .pointer (some (ad.add i))) (by kernel_rfl) rfl) (v := .int .i64 0) (by kernel_rfl) rfl) (v := .pointer (some (ad.add i))) (by kernel_rfl) rfl), S0.sub sub_all sub_all⟩ ?_
  rintro mm ac wc ⟨k, hm7, hk, A5, S6⟩
  have hb := hB (i + k)
  refine wp_seq ?_
  refine wp_region_lit ?_
  refine s_one (.bool (decide ((k : Int) < 64))) A5 S6 (g_bin (u := .int .i64 (k : Int)) (k := .int .i64 64) (by kernel_rfl) (by kernel_rfl) (fun _ => by kernel_rfl) (fun _ => by kernel_rfl)) rfl (fun ac A8 => ?_)
  refine wpList_nil ?_
  refine n_then ?_
  refine wp_seq ?_
  refine c_ifb (b := (decide ((k : Int) < 64))) A8 (by kernel_rfl) (fun h9 => ?_) (fun h9 => ?_)
  · have p10 := of_decide_eq_true h9
    refine wp_skip ?_
    refine n_then ?_
    refine wp_seq ?_
    refine wp_block ?_
    refine wp_seq ?_
    refine wp_region_lit ?_
    refine s_one (.pointer (some (ad.add i))) A8 S6 (g_nil (by kernel_rfl)) rfl (fun ac A11 => ?_)
    refine s_one (.pointer (some (ad.add (i + k)))) A11 S6 (g_index (u := .pointer (some (ad.add i))) (k := .int .i64 (k : Int)) (by kernel_rfl) (by kernel_rfl) (ix_xarr (len := 64) (size := 1) (y := i + k) k (by kernel_rfl) (by omega) (by omega) (by omega))) rfl (fun ac A12 => ?_)
    refine s_one (.int .i64 (nthI l (i + k))) A12 S6 (g_loadXI (l := l) (k := i + k) (by kernel_rfl) hr (by have hlen := hm; omega) (by kernel_rfl)) rfl (fun ac A13 => ?_)
    refine s_one (.int .i64 (nthI l (i + k))) A13 S6 (g_assign (by kernel_rfl)) rfl (fun ac A14 => ?_)
    refine wpList_nil ?_
    refine n_then ?_
    refine wp_region_lit ?_
    refine s_one (.int .i64 (gr l i k)) A14 S6 (g_move (by kernel_rfl)) rfl (fun ac A15 => ?_)
    refine s_one (.int .i64 (nthI l (i + k))) A15 S6 (g_move (by kernel_rfl)) rfl (fun ac A16 => ?_)
    refine s_call (fs := #[]) (cp := #[]) (r := [(0, .int .i64 (nthI l (i + k)))]) #[.int .i64 (nthI l (i + k))] (.int .i64 (mx (nthI l (i + k)) (-(nthI l (i + k))))) A16 S6 (size_s (nthI l (i + k)) _ (by omega)) Try.call89 (by kernel_rfl) (by kernel_rfl) (by kernel_rfl) rfl (fun ac wc A17 S18 => ?_)
    refine s_one (.int .i64 (mx (gr l i k) (mx (nthI l (i + k)) (-(nthI l (i + k)))))) A17 S18 (g_built (r := [(0, .int .i64 (gr l i k)), (0, .int .i64 (mx (nthI l (i + k)) (-(nthI l (i + k)))))]) (by kernel_rfl) (fun ty cs w => by show (do let x ← Builtin.max_ _ ty #[.int .i64 (gr l i k), .int .i64 (mx (nthI l (i + k)) (-(nthI l (i + k))))]; pure (Next.value x) : Sem Next).run _ w = _; rw [Sem.run_bind, run_max_mx]; rfl)) rfl (fun ac A20 => ?_)
    refine s_one (.int .i64 (mx (gr l i k) (mx (nthI l (i + k)) (-(nthI l (i + k)))))) A20 S18 (g_assign (by kernel_rfl)) rfl (fun ac A21 => ?_)
    refine wpList_nil ?_
    refine n_block ?_
    refine n_then ?_
    refine wp_region_lit ?_
    refine s_one (.int .i64 ((k : Int) + 1)) A21 S18 (g_bin (u := .int .i64 (k : Int)) (k := .int .i64 1) (by kernel_rfl) (by kernel_rfl) (fun _ => by kernel_rfl) (b_add (by omega))) rfl (fun ac A22 => ?_)
    refine s_one (.int .i64 ((k : Int) + 1)) A22 S18 (g_move (by kernel_rfl)) rfl (fun ac A23 => ?_)
    refine wpList_nil ?_
    refine n_then ?_
    refine ⟨_, ⟨k + 1, rfl, by omega, (A23.slot (A23.slot (A23.slot (A23.slot (A23.slot A23.nil (v := .int .i64 (mx (gr l i k) (mx (nthI l (i + k)) (-(nthI l (i + k)))))) (by kernel_rfl) rfl) (v := .int .i64 ((k : Int) + 1)) (by kernel_rfl) (congrArg (Value.int .i64) (by omega))) (v := .pointer (some (ad.add i))) (by kernel_rfl) rfl) (v := .int .i64 0) (by kernel_rfl) rfl) (v := .pointer (some (ad.add i))) (by kernel_rfl) rfl), S18.sub sub_all sub_all⟩, ?_⟩
    omega
  · have p24 := of_decide_eq_false h9
    refine wp_exit ?_
    refine x_then ?_
    refine x_then ?_
    refine x_hit ?_
    refine n_then ?_
    refine wp_seq ?_
    refine wp_region_lit ?_
    refine s_one (.int .i64 (gr l i k)) A8 S6 (g_move (by kernel_rfl)) rfl (fun ac A25 => ?_)
    refine s_one (.int .i64 (gr l i k)) A25 S6 (g_assign (by kernel_rfl)) rfl (fun ac A26 => ?_)
    refine wpList_nil ?_
    refine n_then ?_
    refine wp_ret ?_
    refine fin1 (.int .i64 (gr l i k)) Try.results87 A26 S6 (rv_tmp (by kernel_rfl)) ⟨?_, S6.kp⟩
    obtain rfl : k = 64 := by omega
    rfl

theorem fw_snoc {l : List Int} {k m : Nat} (h : k * 64 + 64 ≤ l.length) (hm : m = k + 1) : rowF (fw (l.take (k * 64))) ++ rowF (mkT (cutN l (k * 64) 64) 64) = rowF (fw (l.take (m * 64))) := by
  subst hm
  rw [mkT_fw (cutN_length _ _ _), rowF_app, fw_app, take_cutN h, Nat.succ_mul]

set_option maxRecDepth 100000 in
set_option maxHeartbeats 400000 in
theorem full_s (g ne m cap : Nat) (ad : Addr) (l : List Int) (w0 : World) (hb : Blk w0 g 137 #[.int .i64 (ne : Int), .slice (some ad) m cap]) (hl : l.length = m * 64) (hr : IReads w0 (some ad) l) (hm : m ≤ 1000) :
    Calls Try.prog 74 #[.pointer (some ⟨g, 0, none⟩)] w0 fun e w' => ∃ v, e = .returned (.agg #[.int .i64 (ne : Int), v]) ∧ Below w0.heap.size w0 w' ∧ w'.ownsRow w0.heap.size 36 1 v (m * 64) (rowF (fw l)) := by
  have S0 := St.start w0
  have S0 := S0.came hb (by simp)
  refine enter (n := 30) Try.func74 rfl rfl rfl (fun ac A0 => ?_)
  refine wp_seq ?_
  refine wp_region_lit ?_
  refine s_alloc (#[.int .i64 0, .slice none 0 0]) A0 S0 (by kernel_rfl) rfl (fun g3 ac wc A1 S2 => ?_)
  refine wpList_nil ?_
  refine n_then ?_
  refine wp_seq ?_
  refine wp_region_lit ?_
  refine s_one (.pointer (some ⟨g, 0, none⟩)) A1 S2 (g_move (by kernel_rfl)) rfl (fun ac A4 => ?_)
  refine s_one (.pointer (some ⟨g, 0, none⟩)) A4 S2 (g_nil (by kernel_rfl)) rfl (fun ac A5 => ?_)
  refine s_one (.pointer (some ⟨g, 0, none⟩)) A5 S2 (g_field (u := .pointer (some ⟨g, 0, none⟩)) (by kernel_rfl) (fun _ => by kernel_rfl)) rfl (fun ac A6 => ?_)
  refine s_one (.int .i64 (ne : Int)) A6 S2 (g_load (g := g) (off := 0) 1 (by kernel_rfl) rfl (by kernel_rfl)) rfl (fun ac A7 => ?_)
  refine s_one (.agg #[.int .i64 (ne : Int), .slice none 0 0]) A7 S2 (g_build (r := [(0, .int .i64 (ne : Int))]) (by kernel_rfl) (fun _ => by kernel_rfl)) rfl (fun ac A8 => ?_)
  refine s_alloc (#[.int .i64 0, .slice none 0 0]) A8 S2 (by kernel_rfl) rfl (fun g11 ac wc A9 S10 => ?_)
  refine s_store (g := g11) (off := 0) (v := .agg #[.int .i64 (ne : Int), .slice none 0 0]) 0 (#[.int .i64 (ne : Int), .slice none 0 0]) A9 S10 (by kernel_rfl) (by kernel_rfl) rfl (by kernel_rfl) (fun wc S13 => ?_)
  refine wpList_nil ?_
  refine n_then ?_
  refine wp_seq ?_
  refine wp_seq ?_
  have S0n := S13.nilRow 36 1
  refine wp_region_lit ?_
  refine s_one (.pointer (some ⟨g, 0, none⟩)) A9 S0n (g_move (by kernel_rfl)) rfl (fun ac A15 => ?_)
  refine s_one (.pointer (some ⟨g, 0, none⟩)) A15 S0n (g_nil (by kernel_rfl)) rfl (fun ac A16 => ?_)
  refine s_one (.pointer (some ⟨g, 1, none⟩)) A16 S0n (g_field (u := .pointer (some ⟨g, 0, none⟩)) (by kernel_rfl) (fun _ => by kernel_rfl)) rfl (fun ac A17 => ?_)
  refine s_one (.slice (some ad) m cap) A17 S0n (g_load (g := g) (off := 1) 2 (by kernel_rfl) rfl (by kernel_rfl)) rfl (fun ac A18 => ?_)
  refine s_one (.int .i64 (m : Int)) A18 S0n (g_built (r := [(0, .slice (some ad) m cap)]) (by kernel_rfl) (fun _ _ _ => by kernel_rfl)) rfl (fun ac A19 => ?_)
  refine s_one (.int .i64 0) A19 S0n (g_move (by kernel_rfl)) rfl (fun ac A20 => ?_)
  refine wpList_nil ?_
  refine n_then ?_
  refine wp_block ?_
  refine c_loopN (fun mm ac wc => ∃ (k : Nat) (v : Value), mm = m - k ∧ (k ≤ m) ∧ Fr 30 ac [(0, .pointer (some ⟨g, 0, none⟩)), (2, .pointer (some ⟨g3, 0, none⟩)), (7, .pointer (some ⟨g, 0, none⟩)), (8, .pointer (some ⟨g, 0, none⟩)), (9, .pointer (some ⟨g, 0, none⟩)), (10, .int .i64 (ne : Int)), (11, .agg #[.int .i64 (ne : Int), .slice none 0 0]), (3, .pointer (some ⟨g11, 0, none⟩)), (12, .pointer (some ⟨g, 0, none⟩)), (13, .pointer (some ⟨g, 0, none⟩)), (14, .pointer (some ⟨g, 1, none⟩)), (15, .slice (some ad) m cap), (16, .int .i64 (m : Int)), (17, .int .i64 (k : Int))] ∧ St w0 [⟨g11, 30, #[.int .i64 (ne : Int), v], true⟩, ⟨g3, 30, #[.int .i64 0, .slice none 0 0], true⟩, ⟨g, 137, #[.int .i64 (ne : Int), .slice (some ad) m cap], false⟩] [⟨v, 36, 1, (k * 64), (rowF (fw (l.take (k * 64))))⟩] wc) _ ⟨0, .slice none 0 0, rfl, by omega, (A20.slot (A20.slot (A20.slot (A20.slot (A20.slot (A20.slot (A20.slot (A20.slot (A20.slot (A20.slot (A20.slot (A20.slot (A20.slot (A20.slot A20.nil (v := .int .i64 0) (by kernel_rfl) (congrArg (Value.int .i64) (by omega))) (v := .int .i64 (m : Int)) (by kernel_rfl) rfl) (v := .slice (some ad) m cap) (by kernel_rfl) rfl) (v := .pointer (some ⟨g, 1, none⟩)) (by kernel_rfl) rfl) (v := .pointer (some ⟨g, 0, none⟩)) (by kernel_rfl) rfl) (v := .pointer (some ⟨g, 0, none⟩)) (by kernel_rfl) rfl) (v := .pointer (some ⟨g11, 0, none⟩)) (by kernel_rfl) rfl) (v := .agg #[.int .i64 (ne : Int), .slice none 0 0]) (by kernel_rfl) rfl) (v := .int .i64 (ne : Int)) (by kernel_rfl) rfl) (v := .pointer (some ⟨g, 0, none⟩)) (by kernel_rfl) rfl) (v := .pointer (some ⟨g, 0, none⟩)) (by kernel_rfl) rfl) (v := .pointer (some ⟨g, 0, none⟩)) (by kernel_rfl) rfl) (v := .pointer (some ⟨g3, 0, none⟩)) (by kernel_rfl) rfl) (v := .pointer (some ⟨g, 0, none⟩)) (by kernel_rfl) rfl), (St.rerow 0 (St.recell 0 S0n rfl (by rfl)) rfl ⟨rfl, rfl⟩).sub sub_all sub_all⟩ ?_
  rintro mm ac wc ⟨k, v, hm23, hk, A21, S22⟩
  refine wp_seq ?_
  refine wp_region_lit ?_
  refine s_one (.bool (decide ((k : Int) < (m : Int)))) A21 S22 (g_bin (u := .int .i64 (k : Int)) (k := .int .i64 (m : Int)) (by kernel_rfl) (by kernel_rfl) (fun _ => by kernel_rfl) (fun _ => by kernel_rfl)) rfl (fun ac A24 => ?_)
  refine wpList_nil ?_
  refine n_then ?_
  refine wp_seq ?_
  refine c_ifb (b := (decide ((k : Int) < (m : Int)))) A24 (by kernel_rfl) (fun h25 => ?_) (fun h25 => ?_)
  · have p26 := of_decide_eq_true h25
    refine wp_skip ?_
    refine n_then ?_
    refine wp_seq ?_
    refine wp_block ?_
    refine wp_seq ?_
    refine wp_region_lit ?_
    refine s_one (.pointer (some (ad.add (k * 64)))) A24 S22 (g_index (u := .slice (some ad) m cap) (k := .int .i64 (k : Int)) (by kernel_rfl) (by kernel_rfl) (ix_xs (e := 123) (bytes := 512) k (by kernel_rfl) (by omega) (by omega))) rfl (fun ac A27 => ?_)
    refine s_one (.agg (ints (cutN l (k * 64) 64))) A27 S22 (g_loadXN (l := l) (k := k * 64) 64 (by kernel_rfl) hr (by have hlen := hl; omega) (by kernel_rfl)) rfl (fun ac A28 => ?_)
    refine s_alloc (ints (List.replicate 64 0)) A28 S22 zero159 rfl (fun g31 ac wc A29 S30 => ?_)
    refine s_store (g := g31) (off := 0) (v := .agg (ints (cutN l (k * 64) 64))) 0 (ints (cutN l (k * 64) 64)) A29 S30 (by kernel_rfl) (by kernel_rfl) rfl (putVal_whole ((ints_size _).trans List.length_replicate) ((ints_size _).trans (cutN_length _ _ _)) ⟨⟨_, Try.underlying123, rfl⟩, by kernel_rfl⟩ (ints_one _)) (fun wc S33 => ?_)
    refine wpList_nil ?_
    refine n_then ?_
    refine wp_seq ?_
    refine wp_region_lit ?_
    refine s_one (.agg (ints (cutN l (k * 64) 64))) A29 S33 (g_loadW (g := g31) 0 (by kernel_rfl) rfl ((ints_size _).trans (cutN_length _ _ _)) ⟨⟨_, Try.underlying123, rfl⟩, by kernel_rfl⟩) rfl (fun ac A35 => ?_)
    refine s_call (fs := #[]) (cp := #[]) (r := [(0, .agg (ints (cutN l (k * 64) 64)))]) #[.agg (ints (cutN l (k * 64) 64))] (.agg (trc (mkT (cutN l (k * 64) 64) 64))) A35 S33 (traceOf_s (cutN l (k * 64) 64) _ (cutN_length _ _ _)) Try.call65 (by kernel_rfl) (by kernel_rfl) (by kernel_rfl) rfl (fun ac wc A36 S37 => ?_)
    refine s_alloc (trc zT) A36 S37 zero26 rfl (fun g41 ac wc A39 S40 => ?_)
    refine s_store (g := g41) (off := 0) (v := .agg (trc (mkT (cutN l (k * 64) 64) 64))) 0 (trc (mkT (cutN l (k * 64) 64) 64)) A39 S40 (by kernel_rfl) (by kernel_rfl) rfl (putVal_whole ((trc_size _).trans zT_length) ((trc_size _).trans (done_length _ _ _ _)) ⟨⟨_, Try.underlying38, rfl⟩, by kernel_rfl⟩ (trc_one _)) (fun wc S43 => ?_)
    refine wpList_nil ?_
    refine n_then ?_
    refine r_begin (w0 := w0) (by kernel_rfl) (S43.sub (sub_keep (sub_keep (sub_skip (sub_skip sub_all)))) sub_nil) (fun wc T45 B46 => ?_)
    have S47 := S43.kept B46
    refine r_take 0 (.pointer (some ⟨g11, 1, none⟩)) A39 T45 (g_field (u := .pointer (some ⟨g11, 0, none⟩)) (by kernel_rfl) (fun _ => by kernel_rfl)) rfl rfl rfl (pf_block (pf_then (pf_then (pf_block (pf_then pf_body))))) (by kernel_rfl) (fun ac A48 => ?_)
    refine r_take 2 (.slice (some ⟨g41, 0, none⟩) 64 64) A48 T45 (g_slice (u := .pointer (some ⟨g41, 0, none⟩)) (lo' := none) (hi' := none) (mx' := none) (by kernel_rfl) (by kernel_rfl) (by kernel_rfl) (by kernel_rfl) (fun _ => by kernel_rfl)) rfl rfl rfl (pf_block (pf_then (pf_then (pf_block (pf_then pf_body))))) (by kernel_rfl) (fun ac A49 => ?_)
    refine r_1 (i := 1) (by kernel_rfl) ?_
    refine rs_gives (v) A49 S47 (sub_keep (sub_keep (sub_skip (sub_skip sub_all)))) sub_nil (g_load (g := g11) (off := 1) 2 (by kernel_rfl) rfl (by kernel_rfl)) rfl rfl rfl (fun ac A50 => ?_)
    refine r_1 (i := 3) (by kernel_rfl) ?_
    refine rs_append (e := 36) (size := 1) (bytes := 4) (v := v) (g := g41) (m' := 64) (c := 64) 0 0 (rowF (mkT (cutN l (k * 64) 64) 64)) A50 S47 (sub_keep (sub_keep (sub_skip (sub_skip sub_all)))) (fun _ => sub_nil) (by kernel_rfl) (by kernel_rfl) (by kernel_rfl) rfl rfl (take_rowF (done_length _ _ _ _)) (ble_trc (done_length _ _ _ _)) (rowF_one _) (by omega) (by omega) rfl rfl rfl (fun v56 ac wc A54 S55 => ?_)
    obtain ⟨A57, cap58, rfl⟩ := row_slice (v := v56) (m := (k * 64) + 64) (S55.row 0 rfl)
    have T59 := S55.sub (sub_keep (sub_keep (sub_skip (sub_skip sub_all)))) sub_nil
    refine r_take 4 (.pointer (some ⟨g11, 1, none⟩)) A54 T59 (g_field (u := .pointer (some ⟨g11, 0, none⟩)) (by kernel_rfl) (fun _ => by kernel_rfl)) rfl rfl rfl (pf_block (pf_then (pf_then (pf_block (pf_then pf_body))))) (by kernel_rfl) (fun ac A60 => ?_)
    refine r_1 (i := 5) (by kernel_rfl) ?_
    refine rs_store (g := g11) (off := 1) (v := .slice A57 ((k * 64) + 64) cap58) 2 (#[.int .i64 (ne : Int), .slice A57 ((k * 64) + 64) cap58]) A60 S55 (sub_keep (sub_keep (sub_skip (sub_skip sub_all)))) sub_nil (by kernel_rfl) (by kernel_rfl) rfl (by kernel_rfl) rfl rfl (fun wc S62 => ?_)
    have T64 := S62.sub (sub_keep (sub_keep (sub_skip (sub_skip sub_all)))) sub_nil
    refine r_done (by kernel_rfl) ?_
    refine n_block ?_
    refine n_then ?_
    refine wp_region_lit ?_
    refine s_one (.int .i64 ((k : Int) + 1)) A60 S62 (g_bin (u := .int .i64 (k : Int)) (k := .int .i64 1) (by kernel_rfl) (by kernel_rfl) (fun _ => by kernel_rfl) (b_add (by omega))) rfl (fun ac A65 => ?_)
    refine s_one (.int .i64 ((k : Int) + 1)) A65 S62 (g_move (by kernel_rfl)) rfl (fun ac A66 => ?_)
    refine wpList_nil ?_
    refine n_then ?_
    refine ⟨_, ⟨k + 1, .slice A57 ((k * 64) + 64) cap58, rfl, by omega, (A66.slot (A66.slot (A66.slot (A66.slot (A66.slot (A66.slot (A66.slot (A66.slot (A66.slot (A66.slot (A66.slot (A66.slot (A66.slot (A66.slot A66.nil (v := .int .i64 ((k : Int) + 1)) (by kernel_rfl) (congrArg (Value.int .i64) (by omega))) (v := .int .i64 (m : Int)) (by kernel_rfl) rfl) (v := .slice (some ad) m cap) (by kernel_rfl) rfl) (v := .pointer (some ⟨g, 1, none⟩)) (by kernel_rfl) rfl) (v := .pointer (some ⟨g, 0, none⟩)) (by kernel_rfl) rfl) (v := .pointer (some ⟨g, 0, none⟩)) (by kernel_rfl) rfl) (v := .pointer (some ⟨g11, 0, none⟩)) (by kernel_rfl) rfl) (v := .agg #[.int .i64 (ne : Int), .slice none 0 0]) (by kernel_rfl) rfl) (v := .int .i64 (ne : Int)) (by kernel_rfl) rfl) (v := .pointer (some ⟨g, 0, none⟩)) (by kernel_rfl) rfl) (v := .pointer (some ⟨g, 0, none⟩)) (by kernel_rfl) rfl) (v := .pointer (some ⟨g, 0, none⟩)) (by kernel_rfl) rfl) (v := .pointer (some ⟨g3, 0, none⟩)) (by kernel_rfl) rfl) (v := .pointer (some ⟨g, 0, none⟩)) (by kernel_rfl) rfl), (St.rerow 0 (St.recell 2 S62 rfl (by rfl)) rfl ⟨by omega, fw_snoc (by omega) rfl⟩).sub (sub_skip (sub_skip sub_all)) sub_all⟩, ?_⟩
    omega
  · have p67 := of_decide_eq_false h25
    refine wp_exit ?_
    refine x_then ?_
    refine x_then ?_
    refine x_hit ?_
    refine n_then ?_
    refine wp_seq ?_
    refine wp_region_lit ?_
    refine s_one (.agg #[.int .i64 (ne : Int), v]) A24 S22 (g_load (g := g11) (off := 0) 0 (by kernel_rfl) rfl (by kernel_rfl)) rfl (fun ac A68 => ?_)
    obtain ⟨A69, cap70, rfl⟩ := row_slice (v := v) (m := (k * 64)) (S22.row 0 rfl)
    refine s_store (g := g3) (off := 0) (v := .agg #[.int .i64 (ne : Int), .slice A69 (k * 64) cap70]) 1 (#[.int .i64 (ne : Int), .slice A69 (k * 64) cap70]) A68 S22 (by kernel_rfl) (by kernel_rfl) rfl (by kernel_rfl) (fun wc S72 => ?_)
    refine wpList_nil ?_
    refine n_then ?_
    refine wp_ret ?_
    obtain rfl : m = k := by omega
    have SR : St w0 [⟨g11, 30, #[.int .i64 (ne : Int), .slice A69 (m * 64) cap70], true⟩, ⟨g3, 30, #[.int .i64 (ne : Int), .slice A69 (m * 64) cap70], true⟩, ⟨g, 137, #[.int .i64 (ne : Int), .slice (some ad) m cap], false⟩] [⟨.slice A69 (m * 64) cap70, 36, 1, (m * 64), (rowF (fw l))⟩] _ := St.rerow 0 S72 rfl ⟨rfl, by rw [List.take_of_length_le (by omega)]⟩
    refine fin1 (.agg #[.int .i64 (ne : Int), .slice A69 (m * 64) cap70]) Try.results74 A68 SR (rv_cell (g := g3) (off := 0) 1 (by kernel_rfl) rfl (by kernel_rfl)) ?_
    have bw := SR.kp
    have ow := SR.row 0 rfl
    exact ⟨_, rfl, bw, ow⟩

end Go.Proofs.Ytcijkniijomcjaa
