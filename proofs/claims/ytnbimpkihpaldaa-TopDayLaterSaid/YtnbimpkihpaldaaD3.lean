/- The book. -/
import Derived.Test.YtnbimpkihpaldaaD2
namespace Go.Proofs.Ytnbimpkihpaldaa
open Go.RowKit Go.Cpl

/-- Where a number stands first. -/
def ixI (l : List Int) (x : Int) : Int := if l.contains x = true then (l.findIdx (· == x) : Int) else -1
theorem ixI_y {l : List Int} {x : Int} {k : Nat} (hk : k < l.length) (h : nthI l k = x) (h2 : ∀ j, j < k → nthI l j ≠ x) : ixI l x = (k : Int) ∧ l.contains x = true := by
  have hc : l.contains x = true := List.contains_iff_mem.2 (by rw [← h]; exact nthI_mem hk)
  refine ⟨?_, hc⟩
  unfold ixI
  rw [if_pos hc]
  congr 1
  rw [List.findIdx_eq hk]
  refine ⟨by rw [← nthI_eq hk, h]; simp, fun j hj => ?_⟩
  have := h2 j hj
  rw [nthI_eq (by omega)] at this
  simpa using this
theorem ixI_n {l : List Int} {x : Int} (h2 : ∀ j, j < l.length → nthI l j ≠ x) : ixI l x = -1 ∧ l.contains x = false := by
  have hc : l.contains x = false := by
    cases q : l.contains x with
    | false => rfl
    | true =>
      obtain ⟨k, hk, e⟩ := List.getElem_of_mem (List.contains_iff_mem.1 q)
      exact absurd (by rw [nthI_eq hk, e]) (h2 k hk)
  refine ⟨?_, hc⟩
  unfold ixI
  rw [if_neg (by rw [hc]; decide)]
theorem ixI_ge (l : List Int) (x : Int) : decide (ixI l x ≥ 0) = l.contains x := by
  unfold ixI
  cases l.contains x with
  | true => exact decide_eq_true (by rw [if_pos rfl]; omega)
  | false => exact decide_eq_false (by rw [if_neg (by decide)]; omega)
theorem ne_snoc {l : List Int} {x : Int} {k : Nat} (h : ∀ j, j < k → nthI l j ≠ x) (hk : nthI l k ≠ x) : ∀ j, j < k + 1 → nthI l j ≠ x := by
  intro j hj
  rcases Nat.lt_or_ge j k with q | q
  · exact h j q
  · obtain rfl : j = k := by omega
    exact hk
theorem addF_k2 {ss : List Sp} {f : Nat → Ls} {mi st wa : Int} {k : Nat} (h : ¬ (k : Int) = st) (h2 : (decide (abI (wa - (f k).wa) > (spK ss k).wa) || (spK ss k).ne.contains st) = true) : setF (addF ss f mi st wa k) k ⟨(addF ss f mi st wa k k).dn, false, (addF ss f mi st wa k k).mi, (addF ss f mi st wa k k).wa⟩ = addF ss f mi st wa (k + 1) := by
  rw [addF_at]; exact addF_k h h2

set_option maxRecDepth 100000 in
set_option maxHeartbeats 400000 in
theorem Index_s (A : Option Addr) (n cap : Nat) (l : List Int) (x : Int) (w0 : World) (hr : IReads w0 A l) (hl : l.length = n * 1) (hm : n ≤ 9223372036854775807) :
    Calls Try.prog 52 #[.slice A n cap, .int .i64 x] w0 fun e w' => e = .returned (.int .i64 (ixI l x)) ∧ Below w0.heap.size w0 w' := by
  have S0 := St.start w0
  refine enter (n := 19) Try.func52 rfl rfl rfl (fun ac A0 => ?_)
  refine wp_seq ?_
  refine wp_region_lit ?_
  refine s_one (.int .i64 0) A0 S0 (g_assign (by kernel_rfl)) rfl (fun ac A1 => ?_)
  refine wpList_nil ?_
  refine n_then ?_
  refine wp_seq ?_
  refine wp_seq ?_
  refine wp_region_lit ?_
  refine s_one (.slice A n cap) A1 S0 (g_move (by kernel_rfl)) rfl (fun ac A2 => ?_)
  refine s_one (.int .i64 (n : Int)) A2 S0 (g_built (r := [(0, .slice A n cap)]) (by kernel_rfl) (fun _ _ _ => by kernel_rfl)) rfl (fun ac A3 => ?_)
  refine s_one (.int .i64 0) A3 S0 (g_move (by kernel_rfl)) rfl (fun ac A4 => ?_)
  refine wpList_nil ?_
  refine n_then ?_
  refine wp_block ?_
  refine c_loopN (fun mm ac wc => ∃ (k : Nat), mm = n - k ∧ (k ≤ n) ∧ (∀ j, j < k → nthI l j ≠ x) ∧ Fr 19 ac [(0, .slice A n cap), (1, .int .i64 x), (6, .slice A n cap), (7, .int .i64 (n : Int)), (8, .int .i64 (k : Int))] ∧ St w0 [] [] wc) _ ⟨0, rfl, Nat.zero_le _, fun j hj => absurd hj (Nat.not_lt_zero j), (A4.slot (A4.slot (A4.slot (A4.slot (A4.slot A4.nil (v := .int .i64 0) (by kernel_rfl) (congrArg (Value.int .i64) (by omega))) (v := .int .i64 (n : Int)) (by kernel_rfl) rfl) (v := .slice A n cap) (by kernel_rfl) rfl) (v := .int .i64 x) (by kernel_rfl) rfl) (v := .slice A n cap) (by kernel_rfl) rfl), S0.sub sub_all sub_all⟩ ?_
  rintro mm ac wc ⟨k, hm7, hk, hne, A5, S6⟩
  refine wp_seq ?_
  refine wp_region_lit ?_
  refine s_one (.bool (decide ((k : Int) < (n : Int)))) A5 S6 (g_bin (u := .int .i64 (k : Int)) (k := .int .i64 (n : Int)) (by kernel_rfl) (by kernel_rfl) (fun _ => by kernel_rfl) (fun _ => by kernel_rfl)) rfl (fun ac A8 => ?_)
  refine wpList_nil ?_
  refine n_then ?_
  refine wp_seq ?_
  refine c_ifb (b := (decide ((k : Int) < (n : Int)))) A8 (by kernel_rfl) (fun h9 => ?_) (fun h9 => ?_)
  · have p10 := of_decide_eq_true h9
    refine wp_skip ?_
    refine n_then ?_
    refine wp_seq ?_
    refine wp_block ?_
    refine wp_seq ?_
    refine wp_region_lit ?_
    refine s_one (.int .i64 (k : Int)) A8 S6 (g_move (by kernel_rfl)) rfl (fun ac A11 => ?_)
    refine s_one (.int .i64 (k : Int)) A11 S6 (g_assign (by kernel_rfl)) rfl (fun ac A12 => ?_)
    refine wpList_nil ?_
    refine n_then ?_
    refine wp_seq ?_
    refine wp_region_lit ?_
    refine s_one (.int .i64 x) A12 S6 (g_move (by kernel_rfl)) rfl (fun ac A13 => ?_)
    refine s_one (.slice A n cap) A13 S6 (g_move (by kernel_rfl)) rfl (fun ac A14 => ?_)
    refine s_one (.int .i64 (k : Int)) A14 S6 (g_move (by kernel_rfl)) rfl (fun ac A15 => ?_)
    obtain ⟨ad16, rfl, _⟩ := hr (k) (by have hlen := hl; omega)
    refine s_one (.pointer (some (ad16.add k))) A15 S6 (g_index (u := .slice (some ad16) n cap) (k := .int .i64 (k : Int)) (by kernel_rfl) (by kernel_rfl) (ix_x (e := 3) (bytes := 8) k (by kernel_rfl) (by omega) (by omega))) rfl (fun ac A17 => ?_)
    refine s_one (.int .i64 (nthI l k)) A17 S6 (g_loadXI (l := l) (k := k) (by kernel_rfl) hr (by have hlen := hl; omega) (by kernel_rfl)) rfl (fun ac A18 => ?_)
    refine s_one (.bool (decide (x = nthI l k))) A18 S6 (g_bin (u := .int .i64 x) (k := .int .i64 (nthI l k)) (by kernel_rfl) (by kernel_rfl) (fun _ => by kernel_rfl) b_eql) rfl (fun ac A19 => ?_)
    refine wpList_nil ?_
    refine n_then ?_
    refine c_ifb (b := (decide (x = nthI l k))) A19 (by kernel_rfl) (fun h20 => ?_) (fun h20 => ?_)
    · have p21 := of_decide_eq_true h20
      refine wp_seq ?_
      refine wp_region_lit ?_
      refine s_one (.int .i64 (k : Int)) A19 S6 (g_move (by kernel_rfl)) rfl (fun ac A22 => ?_)
      refine s_one (.int .i64 (k : Int)) A22 S6 (g_assign (by kernel_rfl)) rfl (fun ac A23 => ?_)
      refine wpList_nil ?_
      refine n_then ?_
      refine wp_ret ?_
      refine r_block ?_
      refine r_then ?_
      refine r_then ?_
      refine r_block ?_
      refine r_then ?_
      refine fin1 (.int .i64 (k : Int)) Try.results52 A23 S6 (rv_tmp (by kernel_rfl)) ⟨?_, S6.kp⟩
      rw [(ixI_y (by omega) p21.symm hne).1]
    · have p24 := of_decide_eq_false h20
      refine wp_skip ?_
      refine n_block ?_
      refine n_then ?_
      refine wp_region_lit ?_
      refine s_one (.int .i64 ((k : Int) + 1)) A19 S6 (g_bin (u := .int .i64 (k : Int)) (k := .int .i64 1) (by kernel_rfl) (by kernel_rfl) (fun _ => by kernel_rfl) (b_add (by omega))) rfl (fun ac A25 => ?_)
      refine s_one (.int .i64 ((k : Int) + 1)) A25 S6 (g_move (by kernel_rfl)) rfl (fun ac A26 => ?_)
      refine wpList_nil ?_
      refine n_then ?_
      refine ⟨_, ⟨k + 1, rfl, by omega, ne_snoc hne (fun e => p24 e.symm), (A26.slot (A26.slot (A26.slot (A26.slot (A26.slot A26.nil (v := .int .i64 ((k : Int) + 1)) (by kernel_rfl) (congrArg (Value.int .i64) (by omega))) (v := .int .i64 (n : Int)) (by kernel_rfl) rfl) (v := .slice (some ad16) n cap) (by kernel_rfl) (by first | rfl | simp)) (v := .int .i64 x) (by kernel_rfl) rfl) (v := .slice (some ad16) n cap) (by kernel_rfl) (by first | rfl | simp)), S6.sub sub_all sub_all⟩, ?_⟩
      omega
  · have p27 := of_decide_eq_false h9
    refine wp_exit ?_
    refine x_then ?_
    refine x_then ?_
    refine x_hit ?_
    refine n_then ?_
    refine wp_seq ?_
    refine wp_region_lit ?_
    refine s_one (.int .i64 (-1)) A8 S6 (g_assign (by kernel_rfl)) rfl (fun ac A28 => ?_)
    refine wpList_nil ?_
    refine n_then ?_
    refine wp_ret ?_
    refine fin1 (.int .i64 (-1)) Try.results52 A28 S6 (rv_tmp (by kernel_rfl)) ⟨?_, S6.kp⟩
    obtain rfl : k = n := by omega
    rw [(ixI_n (l := l) (x := x) (fun j hj => hne j (by omega))).1]

set_option maxRecDepth 100000 in
set_option maxHeartbeats 400000 in
theorem Contains_s (A : Option Addr) (n cap : Nat) (l : List Int) (x : Int) (w0 : World) (hr : IReads w0 A l) (hl : l.length = n * 1) (hm : n ≤ 9223372036854775807) :
    Calls Try.prog 48 #[.slice A n cap, .int .i64 x] w0 fun e w' => e = .returned (.bool (l.contains x)) ∧ Below w0.heap.size w0 w' := by
  have S0 := St.start w0
  refine enter (n := 9) Try.func48 rfl rfl rfl (fun ac A0 => ?_)
  refine wp_seq ?_
  refine wp_region_lit ?_
  refine s_one (.bool false) A0 S0 (g_assign (by kernel_rfl)) rfl (fun ac A1 => ?_)
  refine wpList_nil ?_
  refine n_then ?_
  refine wp_seq ?_
  refine wp_region_lit ?_
  refine s_one (.slice A n cap) A1 S0 (g_move (by kernel_rfl)) rfl (fun ac A2 => ?_)
  refine s_one (.int .i64 x) A2 S0 (g_move (by kernel_rfl)) rfl (fun ac A3 => ?_)
  refine s_call (fs := #[]) (cp := #[]) (r := [(0, .slice A n cap), (0, .int .i64 x)]) #[.slice A n cap, .int .i64 x] (.int .i64 (ixI l x)) A3 S0 (Index_s A n cap l x _ (hr.kept S0.kp) hl (by omega)) Try.call52 (by kernel_rfl) (by kernel_rfl) (by kernel_rfl) rfl (fun ac wc A4 S5 => ?_)
  refine s_one (.bool (decide (ixI l x ≥ 0))) A4 S5 (g_bin (u := .int .i64 (ixI l x)) (k := .int .i64 0) (by kernel_rfl) (by kernel_rfl) (fun _ => by kernel_rfl) (fun _ => by kernel_rfl)) rfl (fun ac A7 => ?_)
  refine s_one (.bool (decide (ixI l x ≥ 0))) A7 S5 (g_assign (by kernel_rfl)) rfl (fun ac A8 => ?_)
  refine wpList_nil ?_
  refine n_then ?_
  refine wp_ret ?_
  refine fin1 (.bool (decide (ixI l x ≥ 0))) Try.results48 A8 S5 (rv_tmp (by kernel_rfl)) ⟨?_, S5.kp⟩
  rw [ixI_ge]

set_option maxRecDepth 100000 in
set_option maxHeartbeats 400000 in
theorem Has_s (A : Option Addr) (n cap : Nat) (l : List Int) (x : Int) (w0 : World) (hr : IReads w0 A l) (hl : l.length = n * 1) (hm : n ≤ 9223372036854775807) :
    Calls Try.prog 50 #[.slice A n cap, .int .i64 x] w0 fun e w' => e = .returned (.bool (l.contains x)) ∧ Below w0.heap.size w0 w' := by
  have S0 := St.start w0
  refine enter (n := 18) Try.func50 rfl rfl rfl (fun ac A0 => ?_)
  refine wp_seq ?_
  refine wp_region_lit ?_
  refine s_one (.bool false) A0 S0 (g_assign (by kernel_rfl)) rfl (fun ac A1 => ?_)
  refine wpList_nil ?_
  refine n_then ?_
  refine wp_seq ?_
  refine wp_seq ?_
  refine wp_region_lit ?_
  refine s_one (.int .i64 0) A1 S0 (g_assign (by kernel_rfl)) rfl (fun ac A2 => ?_)
  refine wpList_nil ?_
  refine n_then ?_
  refine wp_block ?_
  refine c_loopN (fun mm ac wc => ∃ (k : Nat), mm = n - k ∧ (k ≤ n) ∧ (∀ j, j < k → nthI l j ≠ x) ∧ Fr 18 ac [(0, .slice A n cap), (1, .int .i64 x), (5, .int .i64 (k : Int))] ∧ St w0 [] [] wc) _ ⟨0, rfl, Nat.zero_le _, fun j hj => absurd hj (Nat.not_lt_zero j), (A2.slot (A2.slot (A2.slot A2.nil (v := .int .i64 0) (by kernel_rfl) (congrArg (Value.int .i64) (by omega))) (v := .int .i64 x) (by kernel_rfl) rfl) (v := .slice A n cap) (by kernel_rfl) rfl), S0.sub sub_all sub_all⟩ ?_
  rintro mm ac wc ⟨k, hm5, hk, hne, A3, S4⟩
  refine wp_seq ?_
  refine wp_seq ?_
  refine wp_region_lit ?_
  refine s_one (.int .i64 (k : Int)) A3 S4 (g_move (by kernel_rfl)) rfl (fun ac A6 => ?_)
  refine s_one (.slice A n cap) A6 S4 (g_move (by kernel_rfl)) rfl (fun ac A7 => ?_)
  refine s_one (.int .i64 (n : Int)) A7 S4 (g_built (r := [(0, .slice A n cap)]) (by kernel_rfl) (fun _ _ _ => by kernel_rfl)) rfl (fun ac A8 => ?_)
  refine s_one (.bool (decide ((k : Int) < (n : Int)))) A8 S4 (g_bin (u := .int .i64 (k : Int)) (k := .int .i64 (n : Int)) (by kernel_rfl) (by kernel_rfl) (fun _ => by kernel_rfl) (fun _ => by kernel_rfl)) rfl (fun ac A9 => ?_)
  refine wpList_nil ?_
  refine n_then ?_
  refine c_ifb (b := (decide ((k : Int) < (n : Int)))) A9 (by kernel_rfl) (fun h10 => ?_) (fun h10 => ?_)
  · have p11 := of_decide_eq_true h10
    refine wp_skip ?_
    refine n_then ?_
    refine wp_seq ?_
    refine wp_block ?_
    refine wp_seq ?_
    refine wp_region_lit ?_
    refine s_one (.slice A n cap) A9 S4 (g_move (by kernel_rfl)) rfl (fun ac A12 => ?_)
    refine s_one (.int .i64 (k : Int)) A12 S4 (g_move (by kernel_rfl)) rfl (fun ac A13 => ?_)
    obtain ⟨ad14, rfl, _⟩ := hr (k) (by have hlen := hl; omega)
    refine s_one (.pointer (some (ad14.add k))) A13 S4 (g_index (u := .slice (some ad14) n cap) (k := .int .i64 (k : Int)) (by kernel_rfl) (by kernel_rfl) (ix_x (e := 3) (bytes := 8) k (by kernel_rfl) (by omega) (by omega))) rfl (fun ac A15 => ?_)
    refine s_one (.int .i64 (nthI l k)) A15 S4 (g_loadXI (l := l) (k := k) (by kernel_rfl) hr (by have hlen := hl; omega) (by kernel_rfl)) rfl (fun ac A16 => ?_)
    refine s_one (.int .i64 x) A16 S4 (g_move (by kernel_rfl)) rfl (fun ac A17 => ?_)
    refine s_one (.bool (decide (nthI l k = x))) A17 S4 (g_bin (u := .int .i64 (nthI l k)) (k := .int .i64 x) (by kernel_rfl) (by kernel_rfl) (fun _ => by kernel_rfl) b_eql) rfl (fun ac A18 => ?_)
    refine wpList_nil ?_
    refine n_then ?_
    refine c_ifb (b := (decide (nthI l k = x))) A18 (by kernel_rfl) (fun h19 => ?_) (fun h19 => ?_)
    · have p20 := of_decide_eq_true h19
      refine wp_seq ?_
      refine wp_region_lit ?_
      refine s_one (.bool true) A18 S4 (g_assign (by kernel_rfl)) rfl (fun ac A21 => ?_)
      refine wpList_nil ?_
      refine n_then ?_
      refine wp_ret ?_
      refine r_block ?_
      refine r_then ?_
      refine r_then ?_
      refine r_block ?_
      refine r_then ?_
      refine fin1 (.bool true) Try.results50 A21 S4 (rv_tmp (by kernel_rfl)) ⟨?_, S4.kp⟩
      rw [(ixI_y (by omega) p20 hne).2]
    · have p22 := of_decide_eq_false h19
      refine wp_skip ?_
      refine n_block ?_
      refine n_then ?_
      refine wp_region_lit ?_
      refine s_one (.int .i64 (k : Int)) A18 S4 (g_move (by kernel_rfl)) rfl (fun ac A23 => ?_)
      refine s_one (.int .i64 ((k : Int) + 1)) A23 S4 (g_bin (u := .int .i64 (k : Int)) (k := .int .i64 1) (by kernel_rfl) (by kernel_rfl) (fun _ => by kernel_rfl) (b_add (by omega))) rfl (fun ac A24 => ?_)
      refine s_one (.int .i64 ((k : Int) + 1)) A24 S4 (g_assign (by kernel_rfl)) rfl (fun ac A25 => ?_)
      refine wpList_nil ?_
      refine n_then ?_
      refine ⟨_, ⟨k + 1, rfl, by omega, ne_snoc hne p22, (A25.slot (A25.slot (A25.slot A25.nil (v := .int .i64 ((k : Int) + 1)) (by kernel_rfl) (congrArg (Value.int .i64) (by omega))) (v := .int .i64 x) (by kernel_rfl) rfl) (v := .slice (some ad14) n cap) (by kernel_rfl) (by first | rfl | simp)), S4.sub sub_all sub_all⟩, ?_⟩
      omega
  · have p26 := of_decide_eq_false h10
    refine wp_exit ?_
    refine x_then ?_
    refine x_then ?_
    refine x_hit ?_
    refine n_then ?_
    refine wp_seq ?_
    refine wp_region_lit ?_
    refine s_one (.bool false) A9 S4 (g_assign (by kernel_rfl)) rfl (fun ac A27 => ?_)
    refine wpList_nil ?_
    refine n_then ?_
    refine wp_ret ?_
    refine fin1 (.bool false) Try.results50 A27 S4 (rv_tmp (by kernel_rfl)) ⟨?_, S4.kp⟩
    obtain rfl : k = n := by omega
    rw [(ixI_n (l := l) (x := x) (fun j hj => hne j (by omega))).2]

set_option maxRecDepth 100000 in
set_option maxHeartbeats 400000 in
theorem newBook_s (A : Option Addr) (cap : Nat) (ss : List Sp) (el : List Int) (w0 : World) (hn : ss.length ≤ 1000) :
    Calls Try.prog 31 #[.slice A ss.length cap] w0 fun e w' => ∃ u : Nat × Nat, e = .returned (.pointer (some ⟨u.1, 0, none⟩)) ∧ St w0 [⟨u.1, 81, #[.slice A ss.length cap, .slice (some (⟨u.2, 0, none⟩)) ss.length ss.length], true⟩] [⟨.slice (some (⟨u.2, 0, none⟩)) ss.length ss.length, 79, 4, ss.length, (lsX ss.length (bkF ss el 0))⟩] w' := by
  have S0 := St.start w0
  refine enter (n := 9) Try.func31 rfl rfl rfl (fun ac A0 => ?_)
  refine wp_seq ?_
  refine wp_region_lit ?_
  refine s_one (.pointer none) A0 S0 (g_assign (by kernel_rfl)) rfl (fun ac A1 => ?_)
  refine wpList_nil ?_
  refine n_then ?_
  refine wp_seq ?_
  refine wp_region_lit ?_
  refine s_one (.slice A ss.length cap) A1 S0 (g_move (by kernel_rfl)) rfl (fun ac A2 => ?_)
  refine s_one (.slice A ss.length cap) A2 S0 (g_move (by kernel_rfl)) rfl (fun ac A3 => ?_)
  refine s_one (.int .i64 (ss.length : Int)) A3 S0 (g_built (r := [(0, .slice A ss.length cap)]) (by kernel_rfl) (fun _ _ _ => by kernel_rfl)) rfl (fun ac A4 => ?_)
  refine s_makeRow (e := 79) (size := 4) (bytes := 24) (ss.length) #[.bool false, .bool false, .int .i64 0, .int .i64 0] (lsX ss.length (fun _ => bk0)) A4 S0 (by kernel_rfl) (by kernel_rfl) (by kernel_rfl) (by kernel_rfl) rfl rfl (by omega) (by omega) (made_ls ss.length) rfl (fun g7 ac wc A5 S6 => ?_)
  refine s_one (.agg #[.slice A ss.length cap, .slice (some (⟨g7, 0, none⟩)) ss.length ss.length]) A5 S6 (g_build (r := [(0, .slice A ss.length cap), (1, .slice (some (⟨g7, 0, none⟩)) ss.length ss.length)]) (by kernel_rfl) (fun _ => by kernel_rfl)) rfl (fun ac A8 => ?_)
  refine s_box (.agg #[.slice A ss.length cap, .slice (some (⟨g7, 0, none⟩)) ss.length ss.length]) A8 S6 (by kernel_rfl) rfl (fun g11 ac wc A9 S10 => ?_)
  replace S10 : St _ (⟨g11, 81, #[.slice A ss.length cap, .slice (some (⟨g7, 0, none⟩)) ss.length ss.length], true⟩ :: _) _ _ := S10
  refine s_one (.pointer (some ⟨g11, 0, none⟩)) A9 S10 (g_assign (by kernel_rfl)) rfl (fun ac A13 => ?_)
  refine wpList_nil ?_
  refine n_then ?_
  refine wp_ret ?_
  refine fin1 (.pointer (some ⟨g11, 0, none⟩)) Try.results31 A13 S10 (rv_tmp (by kernel_rfl)) ⟨(g11, g7), rfl, S10.sub sub_all sub_all⟩

end Go.Proofs.Ytnbimpkihpaldaa
