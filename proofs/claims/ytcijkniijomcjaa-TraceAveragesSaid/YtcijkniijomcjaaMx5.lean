/- Iterators over pairs and over parts. -/
import Derived.Test.YtcijkniijomcjaaMx
namespace Go.Proofs.Ytcijkniijomcjaa
open Go.RowKit Go.Cpl

theorem range_at {n k : Nat} (h : k < n) : List.range n = List.range k ++ k :: (List.range (n - (k + 1))).map (k + 1 + ·) := by
  obtain ⟨j, rfl⟩ : ∃ j, n = k + 1 + j := ⟨n - (k + 1), by omega⟩
  rw [List.range_add, List.range_succ, Nat.add_sub_cancel_left]
  simp

set_option maxRecDepth 100000 in
theorem all_seq (g n : Nat) (v : Value) (o : Bool) (hn : n ≤ 1000) : Seq Try.prog 86 #[.pointer (some ⟨g, 0, none⟩)] #[] (fun x : Nat × Nat => #[.int .i64 (x.1 : Int), .int .i64 (x.2 : Int)]) [⟨g, 137, #[.int .i64 (n : Int), v], o⟩] (pairsOf n) := by
  intro l J Jx W hG hAb hY hJ
  refine callsIn_wide.2 ?_
  refine enter (n := 27) Try.func86 rfl rfl rfl (fun ac A0 => ?_)
  have S0 := (St.came (St.start W) (hG _ (List.mem_singleton.2 rfl)) (by simp))
  refine wp_seq ?_
  refine wp_region_lit ?_
  refine s_one (.pointer (some ⟨g, 0, none⟩)) A0 S0 (g_move (by kernel_rfl)) rfl (fun ac A1 => ?_)
  refine s_one (.pointer (some ⟨g, 0, none⟩)) A1 S0 (g_nil (by kernel_rfl)) rfl (fun ac A2 => ?_)
  refine s_one (.pointer (some ⟨g, 0, none⟩)) A2 S0 (g_field (u := .pointer (some ⟨g, 0, none⟩)) (by kernel_rfl) (fun _ => by kernel_rfl)) rfl (fun ac A3 => ?_)
  refine s_one (.int .i64 (n : Int)) A3 S0 (g_load (g := g) (off := 0) 0 (by kernel_rfl) rfl (by kernel_rfl)) rfl (fun ac A4 => ?_)
  refine s_one (.int .i64 0) A4 S0 (g_move (by kernel_rfl)) rfl (fun ac A5 => ?_)
  refine wpList_nil ?_
  refine n_then ?_
  refine wp_block ?_
  refine c_loopN (fun mm ac wc => ∃ (i : Nat), mm = n - i ∧ (i ≤ n) ∧ (J (preP n i 0) wc) ∧ Fr 27 ac [(0, .pointer (some ⟨g, 0, none⟩)), (1, .func (.yield l) #[] #[]), (6, .pointer (some ⟨g, 0, none⟩)), (7, .pointer (some ⟨g, 0, none⟩)), (8, .pointer (some ⟨g, 0, none⟩)), (9, .int .i64 (n : Int)), (10, .int .i64 (i : Int))] ∧ St wc [⟨g, 137, #[.int .i64 (n : Int), v], false⟩] [] wc) _ ⟨0, rfl, Nat.zero_le _, hJ, (A5.slot (A5.slot (A5.slot (A5.slot (A5.slot (A5.slot (A5.slot A5.nil (v := .int .i64 0) (by kernel_rfl) (congrArg (Value.int .i64) (by omega))) (v := .int .i64 (n : Int)) (by kernel_rfl) rfl) (v := .pointer (some ⟨g, 0, none⟩)) (by kernel_rfl) rfl) (v := .pointer (some ⟨g, 0, none⟩)) (by kernel_rfl) rfl) (v := .pointer (some ⟨g, 0, none⟩)) (by kernel_rfl) rfl) (v := .func (.yield l) #[] #[]) (by kernel_rfl) rfl) (v := .pointer (some ⟨g, 0, none⟩)) (by kernel_rfl) rfl), S0.sub sub_all sub_all⟩ ?_
  rintro mm ac wc ⟨i, hm8, hi, hJ, A6, S7⟩
  refine wp_seq ?_
  refine wp_region_lit ?_
  refine s_one (.bool (decide ((i : Int) < (n : Int)))) A6 S7 (g_bin (u := .int .i64 (i : Int)) (k := .int .i64 (n : Int)) (by kernel_rfl) (by kernel_rfl) (fun _ => by kernel_rfl) (fun _ => by kernel_rfl)) rfl (fun ac A9 => ?_)
  refine wpList_nil ?_
  refine n_then ?_
  refine wp_seq ?_
  refine c_ifb (b := (decide ((i : Int) < (n : Int)))) A9 (by kernel_rfl) (fun h10 => ?_) (fun h10 => ?_)
  · have p11 := of_decide_eq_true h10
    refine wp_skip ?_
    refine n_then ?_
    refine wp_seq ?_
    refine wp_block ?_
    refine wp_seq ?_
    refine wp_region_lit ?_
    refine s_one (.int .i64 (i : Int)) A9 S7 (g_move (by kernel_rfl)) rfl (fun ac A12 => ?_)
    refine s_one (.int .i64 (i : Int)) A12 S7 (g_assign (by kernel_rfl)) rfl (fun ac A13 => ?_)
    refine wpList_nil ?_
    refine n_then ?_
    refine wp_seq ?_
    refine wp_region_lit ?_
    refine s_one (.pointer (some ⟨g, 0, none⟩)) A13 S7 (g_move (by kernel_rfl)) rfl (fun ac A14 => ?_)
    refine s_one (.pointer (some ⟨g, 0, none⟩)) A14 S7 (g_nil (by kernel_rfl)) rfl (fun ac A15 => ?_)
    refine s_one (.pointer (some ⟨g, 0, none⟩)) A15 S7 (g_field (u := .pointer (some ⟨g, 0, none⟩)) (by kernel_rfl) (fun _ => by kernel_rfl)) rfl (fun ac A16 => ?_)
    refine s_one (.int .i64 (n : Int)) A16 S7 (g_load (g := g) (off := 0) 0 (by kernel_rfl) rfl (by kernel_rfl)) rfl (fun ac A17 => ?_)
    refine s_one (.int .i64 0) A17 S7 (g_move (by kernel_rfl)) rfl (fun ac A18 => ?_)
    refine wpList_nil ?_
    refine n_then ?_
    refine wp_block ?_
    refine c_loopN (fun mm ac wc => ∃ (j : Nat), mm = n - j ∧ (j ≤ n) ∧ (J (preP n i j) wc) ∧ Fr 27 ac [(0, .pointer (some ⟨g, 0, none⟩)), (1, .func (.yield l) #[] #[]), (6, .pointer (some ⟨g, 0, none⟩)), (7, .pointer (some ⟨g, 0, none⟩)), (8, .pointer (some ⟨g, 0, none⟩)), (9, .int .i64 (n : Int)), (10, .int .i64 (i : Int)), (11, .bool (decide ((i : Int) < (n : Int)))), (12, .int .i64 (i : Int)), (4, .int .i64 (i : Int)), (13, .pointer (some ⟨g, 0, none⟩)), (14, .pointer (some ⟨g, 0, none⟩)), (15, .pointer (some ⟨g, 0, none⟩)), (16, .int .i64 (n : Int)), (17, .int .i64 (j : Int))] ∧ St wc [⟨g, 137, #[.int .i64 (n : Int), v], false⟩] [] wc) _ ⟨0, rfl, Nat.zero_le _, hJ, (A18.slot (A18.slot (A18.slot (A18.slot (A18.slot (A18.slot (A18.slot (A18.slot (A18.slot (A18.slot (A18.slot (A18.slot (A18.slot (A18.slot (A18.slot A18.nil (v := .int .i64 0) (by kernel_rfl) (congrArg (Value.int .i64) (by omega))) (v := .int .i64 (n : Int)) (by kernel_rfl) rfl) (v := .pointer (some ⟨g, 0, none⟩)) (by kernel_rfl) rfl) (v := .pointer (some ⟨g, 0, none⟩)) (by kernel_rfl) rfl) (v := .pointer (some ⟨g, 0, none⟩)) (by kernel_rfl) rfl) (v := .int .i64 (i : Int)) (by kernel_rfl) rfl) (v := .int .i64 (i : Int)) (by kernel_rfl) rfl) (v := .bool (decide ((i : Int) < (n : Int)))) (by kernel_rfl) rfl) (v := .int .i64 (i : Int)) (by kernel_rfl) rfl) (v := .int .i64 (n : Int)) (by kernel_rfl) rfl) (v := .pointer (some ⟨g, 0, none⟩)) (by kernel_rfl) rfl) (v := .pointer (some ⟨g, 0, none⟩)) (by kernel_rfl) rfl) (v := .pointer (some ⟨g, 0, none⟩)) (by kernel_rfl) rfl) (v := .func (.yield l) #[] #[]) (by kernel_rfl) rfl) (v := .pointer (some ⟨g, 0, none⟩)) (by kernel_rfl) rfl), S7.sub sub_all sub_all⟩ ?_
    rintro mm ac wc ⟨j, hm21, hj, hJ, A19, S20⟩
    refine wp_seq ?_
    refine wp_region_lit ?_
    refine s_one (.bool (decide ((j : Int) < (n : Int)))) A19 S20 (g_bin (u := .int .i64 (j : Int)) (k := .int .i64 (n : Int)) (by kernel_rfl) (by kernel_rfl) (fun _ => by kernel_rfl) (fun _ => by kernel_rfl)) rfl (fun ac A22 => ?_)
    refine wpList_nil ?_
    refine n_then ?_
    refine wp_seq ?_
    refine c_ifb (b := (decide ((j : Int) < (n : Int)))) A22 (by kernel_rfl) (fun h23 => ?_) (fun h23 => ?_)
    · have p24 := of_decide_eq_true h23
      refine wp_skip ?_
      refine n_then ?_
      refine wp_seq ?_
      refine wp_block ?_
      refine wp_seq ?_
      refine wp_region_lit ?_
      refine s_one (.int .i64 (j : Int)) A22 S20 (g_move (by kernel_rfl)) rfl (fun ac A25 => ?_)
      refine s_one (.int .i64 (j : Int)) A25 S20 (g_assign (by kernel_rfl)) rfl (fun ac A26 => ?_)
      refine wpList_nil ?_
      refine n_then ?_
      refine wp_seq ?_
      obtain ⟨rest, hx⟩ := pairs_at (n := n) (i := i) (j := j) (by omega) (by omega)
      refine y_region ?_
      refine y_one (.func (.yield l) #[] #[]) A26 S20 (g_move (by kernel_rfl)) rfl (fun ac A27 => ?_)
      refine y_one (.int .i64 (i : Int)) A27 S20 (g_move (by kernel_rfl)) rfl (fun ac A28 => ?_)
      refine y_one (.int .i64 (j : Int)) A28 S20 (g_move (by kernel_rfl)) rfl (fun ac A29 => ?_)
      refine y_call (r := [(0, .int .i64 (i : Int)), (0, .int .i64 (j : Int))]) #[.int .i64 (i : Int), .int .i64 (j : Int)] A29 (hY _ (i, j) _ _ hx hJ) (by rintro e w (⟨rfl, _⟩ | ⟨rfl, _⟩) <;> exact ⟨_, rfl⟩) (by kernel_rfl) (by kernel_rfl) rfl rfl (fun v ac wc hr A30 => ?_)
      rcases hr with ⟨he, hJ, hk⟩ | ⟨he, hx⟩
      · cases he
        have S31 := (St.came (St.start _) (hk _ (List.mem_singleton.2 rfl) (S20.get 0 (b := ⟨g, 137, #[.int .i64 (n : Int), v], false⟩) rfl)) (by simp))
        refine y_one (.bool false) A30 S31 (g_un (u := .bool true) (by kernel_rfl) (fun _ => by kernel_rfl)) rfl (fun ac A32 => ?_)
        refine y_nil ?_
        refine n_then ?_
        refine c_f (b := false) A32 (by kernel_rfl) rfl ?_
        refine wp_skip ?_
        refine n_block ?_
        refine n_then ?_
        refine wp_region_lit ?_
        refine s_one (.int .i64 ((j : Int) + 1)) A32 S31 (g_bin (u := .int .i64 (j : Int)) (k := .int .i64 1) (by kernel_rfl) (by kernel_rfl) (fun _ => by kernel_rfl) (b_add (by omega))) rfl (fun ac A33 => ?_)
        refine s_one (.int .i64 ((j : Int) + 1)) A33 S31 (g_move (by kernel_rfl)) rfl (fun ac A34 => ?_)
        refine wpList_nil ?_
        refine n_then ?_
        refine ⟨_, ⟨j + 1, rfl, by omega, by rw [← preP_succ]; exact hJ, (A34.slot (A34.slot (A34.slot (A34.slot (A34.slot (A34.slot (A34.slot (A34.slot (A34.slot (A34.slot (A34.slot (A34.slot (A34.slot (A34.slot (A34.slot A34.nil (v := .int .i64 ((j : Int) + 1)) (by kernel_rfl) (congrArg (Value.int .i64) (by omega))) (v := .int .i64 (n : Int)) (by kernel_rfl) rfl) (v := .pointer (some ⟨g, 0, none⟩)) (by kernel_rfl) rfl) (v := .pointer (some ⟨g, 0, none⟩)) (by kernel_rfl) rfl) (v := .pointer (some ⟨g, 0, none⟩)) (by kernel_rfl) rfl) (v := .int .i64 (i : Int)) (by kernel_rfl) rfl) (v := .int .i64 (i : Int)) (by kernel_rfl) rfl) (v := .bool (decide ((i : Int) < (n : Int)))) (by kernel_rfl) rfl) (v := .int .i64 (i : Int)) (by kernel_rfl) rfl) (v := .int .i64 (n : Int)) (by kernel_rfl) rfl) (v := .pointer (some ⟨g, 0, none⟩)) (by kernel_rfl) rfl) (v := .pointer (some ⟨g, 0, none⟩)) (by kernel_rfl) rfl) (v := .pointer (some ⟨g, 0, none⟩)) (by kernel_rfl) rfl) (v := .func (.yield l) #[] #[]) (by kernel_rfl) rfl) (v := .pointer (some ⟨g, 0, none⟩)) (by kernel_rfl) rfl), S31.sub sub_all sub_all⟩, ?_⟩
        omega
      · cases he
        have S35 := St.start wc
        refine y_one (.bool true) A30 S35 (g_un (u := .bool false) (by kernel_rfl) (fun _ => by kernel_rfl)) rfl (fun ac A36 => ?_)
        refine y_nil ?_
        refine n_then ?_
        refine c_t (b := true) A36 (by kernel_rfl) rfl ?_
        refine wp_ret ?_
        refine r_block ?_
        refine r_then ?_
        refine r_then ?_
        refine r_block ?_
        refine r_block ?_
        refine r_then ?_
        refine r_then ?_
        refine r_block ?_
        exact it_ret A36 Try.results86 ⟨⟨_, rfl⟩, .inr ⟨_, hx⟩⟩
    · have p37 := of_decide_eq_false h23
      refine wp_exit ?_
      refine x_then ?_
      refine x_then ?_
      refine x_hit ?_
      refine n_block ?_
      refine n_then ?_
      refine wp_region_lit ?_
      refine s_one (.int .i64 ((i : Int) + 1)) A22 S20 (g_bin (u := .int .i64 (i : Int)) (k := .int .i64 1) (by kernel_rfl) (by kernel_rfl) (fun _ => by kernel_rfl) (b_add (by omega))) rfl (fun ac A38 => ?_)
      refine s_one (.int .i64 ((i : Int) + 1)) A38 S20 (g_move (by kernel_rfl)) rfl (fun ac A39 => ?_)
      refine wpList_nil ?_
      refine n_then ?_
      have e : j = n := by omega
      rw [e] at hJ
      refine ⟨_, ⟨i + 1, rfl, by omega, by rw [← preP_row]; exact hJ, (A39.slot (A39.slot (A39.slot (A39.slot (A39.slot (A39.slot (A39.slot A39.nil (v := .int .i64 ((i : Int) + 1)) (by kernel_rfl) (congrArg (Value.int .i64) (by omega))) (v := .int .i64 (n : Int)) (by kernel_rfl) rfl) (v := .pointer (some ⟨g, 0, none⟩)) (by kernel_rfl) rfl) (v := .pointer (some ⟨g, 0, none⟩)) (by kernel_rfl) rfl) (v := .pointer (some ⟨g, 0, none⟩)) (by kernel_rfl) rfl) (v := .func (.yield l) #[] #[]) (by kernel_rfl) rfl) (v := .pointer (some ⟨g, 0, none⟩)) (by kernel_rfl) rfl), S20.sub sub_all sub_all⟩, ?_⟩
      omega
  · have p40 := of_decide_eq_false h10
    refine wp_exit ?_
    refine x_then ?_
    refine x_then ?_
    refine x_hit ?_
    have e : i = n := by omega
    rw [e] at hJ
    exact it_end A9 Try.results86 ⟨⟨_, rfl⟩, .inl hJ⟩

set_option maxRecDepth 100000 in
theorem chunkF_seq (g1 g2 : Nat) (o1 o2 : Bool) (ad : Addr) (m cap c N : Nat) (hc : 0 < c) (hm : m = N * c) (hmc : m ≤ cap) (hm1 : m ≤ 200000) : Seq Try.prog 111 #[] #[.pointer (some ⟨g1, 0, none⟩), .pointer (some ⟨g2, 0, none⟩)] (fun k : Nat => #[.slice (some (ad.add (k * c))) c c]) [⟨g1, 23, #[.slice (some ad) m cap], o1⟩, ⟨g2, 3, #[.int .i64 (c : Int)], o2⟩] (List.range N) := by
  intro l J Jx W hG hAb hY hJ
  refine callsIn_wide.2 ?_
  refine enter (n := 31) Try.func111 rfl rfl rfl (fun ac A0 => ?_)
  have S0 := (St.came (St.came (St.start W) (hG _ (List.mem_cons_of_mem _ (List.mem_singleton.2 rfl))) (by simp)) (hG _ (List.mem_cons_self ..)) (by simp))
  refine wp_seq ?_
  refine wp_region_lit ?_
  refine s_one (.int .i64 0) A0 S0 (g_assign (by kernel_rfl)) rfl (fun ac A1 => ?_)
  refine wpList_nil ?_
  refine n_then ?_
  refine wp_block ?_
  refine c_loopN (fun mm ac wc => ∃ (k : Nat), mm = N - k ∧ (k ≤ N) ∧ (J (List.range k) wc) ∧ Fr 31 ac [(0, .func (.yield l) #[] #[]), (1, .pointer (some ⟨g1, 0, none⟩)), (2, .pointer (some ⟨g2, 0, none⟩)), (4, .int .i64 ((k * c : Nat) : Int))] ∧ St wc [⟨g1, 23, #[.slice (some ad) m cap], false⟩, ⟨g2, 3, #[.int .i64 (c : Int)], false⟩] [] wc) _ ⟨0, rfl, Nat.zero_le _, hJ, (A1.slot (A1.slot (A1.slot (A1.slot A1.nil (v := .int .i64 0) (by kernel_rfl) (by simp)) (v := .pointer (some ⟨g2, 0, none⟩)) (by kernel_rfl) rfl) (v := .pointer (some ⟨g1, 0, none⟩)) (by kernel_rfl) rfl) (v := .func (.yield l) #[] #[]) (by kernel_rfl) rfl), S0.sub sub_all sub_all⟩ ?_
  rintro mm ac wc ⟨k, hm4, hk, hJ, A2, S3⟩
  have hkc : k < N → k * c + c ≤ m := fun h => by rw [hm, ← Nat.succ_mul]; exact Nat.mul_le_mul_right c h
  have hkn : N ≤ k → m ≤ k * c := fun h => by rw [hm]; exact Nat.mul_le_mul_right c h
  refine wp_seq ?_
  refine wp_seq ?_
  refine wp_region_lit ?_
  refine s_one (.int .i64 ((k * c : Nat) : Int)) A2 S3 (g_move (by kernel_rfl)) rfl (fun ac A5 => ?_)
  refine s_one (.slice (some ad) m cap) A5 S3 (g_load (g := g1) (off := 0) 0 (by kernel_rfl) rfl (by kernel_rfl)) rfl (fun ac A6 => ?_)
  refine s_one (.int .i64 ((m : Nat) : Int)) A6 S3 (g_built (r := [(0, .slice (some ad) m cap)]) (by kernel_rfl) (fun _ _ _ => by kernel_rfl)) rfl (fun ac A7 => ?_)
  refine s_one (.bool (decide (((k * c : Nat) : Int) < ((m : Nat) : Int)))) A7 S3 (g_bin (u := .int .i64 ((k * c : Nat) : Int)) (k := .int .i64 ((m : Nat) : Int)) (by kernel_rfl) (by kernel_rfl) (fun _ => by kernel_rfl) (fun _ => by kernel_rfl)) rfl (fun ac A8 => ?_)
  refine wpList_nil ?_
  refine n_then ?_
  refine c_ifb (b := (decide (((k * c : Nat) : Int) < ((m : Nat) : Int)))) A8 (by kernel_rfl) (fun h9 => ?_) (fun h9 => ?_)
  · have p10 := of_decide_eq_true h9
    refine wp_skip ?_
    refine n_then ?_
    refine wp_seq ?_
    refine wp_block ?_
    refine wp_seq ?_
    have hkN : k < N := by rcases Nat.lt_or_ge k N with q | q; exact q; have := hkn q; omega
    have hkc := hkc hkN
    have hx : List.range N = List.range k ++ k :: (List.range (N - (k + 1))).map (k + 1 + ·) := range_at hkN
    refine r_begin (w0 := _) (by kernel_rfl) (S3.sub sub_all sub_all) (fun wc T11 B12 => ?_)
    replace hJ := hAb _ _ _ hJ B12
    have S13 := S3.kept B12
    refine r_take 0 (.int .i64 (c : Int)) A8 T11 (g_load (g := g2) (off := 0) 1 (by kernel_rfl) rfl (by kernel_rfl)) rfl rfl rfl (pf_then (pf_block (pf_then (pf_then (pf_block pf_body))))) (by kernel_rfl) (fun ac A14 => ?_)
    refine r_take 1 (.slice (some ad) m cap) A14 T11 (g_load (g := g1) (off := 0) 0 (by kernel_rfl) rfl (by kernel_rfl)) rfl rfl rfl (pf_then (pf_block (pf_then (pf_then (pf_block pf_body))))) (by kernel_rfl) (fun ac A15 => ?_)
    refine r_take 2 (.int .i64 ((k * c : Nat) : Int)) A15 T11 (g_move (by kernel_rfl)) rfl rfl rfl (pf_then (pf_block (pf_then (pf_then (pf_block pf_body))))) (by kernel_rfl) (fun ac A16 => ?_)
    refine r_take 3 (.slice (some (ad.add (k * c))) (m - k * c) (cap - k * c)) A16 T11 (g_slice (u := .slice (some ad) m cap) (lo' := (some (.int .i64 ((k * c : Nat) : Int)))) (hi' := none) (mx' := none) (by kernel_rfl) (by kernel_rfl) (by kernel_rfl) (by kernel_rfl) (sl_from1 (e := 36) (b := 4) (i := k * c) (by kernel_rfl) (by omega) (by omega) rfl)) rfl rfl rfl (pf_then (pf_block (pf_then (pf_then (pf_block pf_body))))) (by kernel_rfl) (fun ac A17 => ?_)
    refine r_take 4 (.int .i64 (((m - k * c) : Nat) : Int)) A17 T11 (g_built (r := [(0, .slice (some (ad.add (k * c))) (m - k * c) (cap - k * c))]) (by kernel_rfl) (fun _ _ _ => by kernel_rfl)) rfl rfl rfl (pf_then (pf_block (pf_then (pf_then (pf_block pf_body))))) (by kernel_rfl) (fun ac A18 => ?_)
    refine r_take 5 (.int .i64 (mn (c : Int) (((m - k * c) : Nat) : Int))) A18 T11 (g_built (r := [(0, .int .i64 (c : Int)), (0, .int .i64 (((m - k * c) : Nat) : Int))]) (by kernel_rfl) (fun ty cs w => by show (do let x ← Builtin.min_ _ ty #[.int .i64 (c : Int), .int .i64 (((m - k * c) : Nat) : Int)]; pure (Next.value x) : Sem Next).run _ w = _; rw [Sem.run_bind, run_min_mn]; rfl)) rfl rfl rfl (pf_then (pf_block (pf_then (pf_then (pf_block pf_body))))) (by kernel_rfl) (fun ac A19 => ?_)
    refine r_take 6 (.int .i64 (mn (c : Int) (((m - k * c) : Nat) : Int))) A19 T11 (g_assign (by kernel_rfl)) rfl rfl rfl (pf_then (pf_block (pf_then (pf_then (pf_block pf_body))))) (by kernel_rfl) (fun ac A20 => ?_)
    refine r_done (by kernel_rfl) ?_
    refine n_then ?_
    refine wp_seq ?_
    have hmn : mn (c : Int) ((m - k * c) : Nat) = (c : Int) := by rw [mn_eq]; omega
    have AW1 := A20
    simp only [hmn] at AW1
    refine y_region ?_
    refine y_one (.func (.yield l) #[] #[]) AW1 S13 (g_move (by kernel_rfl)) rfl (fun ac A21 => ?_)
    refine y_one (.slice (some ad) m cap) A21 S13 (g_load (g := g1) (off := 0) 0 (by kernel_rfl) rfl (by kernel_rfl)) rfl (fun ac A22 => ?_)
    refine y_one (.int .i64 ((k * c : Nat) : Int)) A22 S13 (g_move (by kernel_rfl)) rfl (fun ac A23 => ?_)
    refine y_one (.int .i64 ((k * c : Nat) : Int)) A23 S13 (g_move (by kernel_rfl)) rfl (fun ac A24 => ?_)
    refine y_one (.int .i64 (c : Int)) A24 S13 (g_move (by kernel_rfl)) rfl (fun ac A25 => ?_)
    refine y_one (.int .i64 (((k * c : Nat) : Int) + (c : Int))) A25 S13 (g_bin (u := .int .i64 ((k * c : Nat) : Int)) (k := .int .i64 (c : Int)) (by kernel_rfl) (by kernel_rfl) (fun _ => by kernel_rfl) (b_add (by omega))) rfl (fun ac A26 => ?_)
    refine y_one (.int .i64 ((k * c : Nat) : Int)) A26 S13 (g_move (by kernel_rfl)) rfl (fun ac A27 => ?_)
    refine y_one (.int .i64 (c : Int)) A27 S13 (g_move (by kernel_rfl)) rfl (fun ac A28 => ?_)
    refine y_one (.int .i64 (((k * c : Nat) : Int) + (c : Int))) A28 S13 (g_bin (u := .int .i64 ((k * c : Nat) : Int)) (k := .int .i64 (c : Int)) (by kernel_rfl) (by kernel_rfl) (fun _ => by kernel_rfl) (b_add (by omega))) rfl (fun ac A29 => ?_)
    refine y_one (.slice (some (ad.add (k * c))) c c) A29 S13 (g_slice (u := .slice (some ad) m cap) (lo' := (some (.int .i64 ((k * c : Nat) : Int)))) (hi' := (some (.int .i64 (((k * c : Nat) : Int) + (c : Int))))) (mx' := (some (.int .i64 (((k * c : Nat) : Int) + (c : Int))))) (by kernel_rfl) (by kernel_rfl) (by kernel_rfl) (by kernel_rfl) (sl_cap (e := 36) (b := 4) (i := k * c) (k := c) (by kernel_rfl) hc (by omega) rfl (by omega) (by omega))) rfl (fun ac A30 => ?_)
    refine y_call (r := [(0, .slice (some (ad.add (k * c))) c c)]) #[.slice (some (ad.add (k * c))) c c] A30 (hY _ k _ _ hx hJ) (by rintro e w (⟨rfl, _⟩ | ⟨rfl, _⟩) <;> exact ⟨_, rfl⟩) (by kernel_rfl) (by kernel_rfl) rfl rfl (fun v ac wc hr A31 => ?_)
    rcases hr with ⟨he, hJ, hk⟩ | ⟨he, hx⟩
    · cases he
      have S32 := (St.came (St.came (St.start _) (hk _ (List.mem_cons_of_mem _ (List.mem_singleton.2 rfl)) (S13.get 1 (b := ⟨g2, 3, #[.int .i64 (c : Int)], false⟩) rfl)) (by simp)) (hk _ (List.mem_cons_self ..) (S13.get 0 (b := ⟨g1, 23, #[.slice (some ad) m cap], false⟩) rfl)) (by simp))
      refine y_one (.bool false) A31 S32 (g_un (u := .bool true) (by kernel_rfl) (fun _ => by kernel_rfl)) rfl (fun ac A33 => ?_)
      refine y_nil ?_
      refine n_then ?_
      refine c_f (b := false) A33 (by kernel_rfl) rfl ?_
      refine wp_skip ?_
      refine n_block ?_
      refine n_then ?_
      refine wp_region_lit ?_
      refine s_one (.int .i64 ((k * c : Nat) : Int)) A33 S32 (g_move (by kernel_rfl)) rfl (fun ac A34 => ?_)
      refine s_one (.int .i64 (c : Int)) A34 S32 (g_load (g := g2) (off := 0) 1 (by kernel_rfl) rfl (by kernel_rfl)) rfl (fun ac A35 => ?_)
      refine s_one (.int .i64 (((k * c : Nat) : Int) + (c : Int))) A35 S32 (g_bin (u := .int .i64 ((k * c : Nat) : Int)) (k := .int .i64 (c : Int)) (by kernel_rfl) (by kernel_rfl) (fun _ => by kernel_rfl) (b_add (by omega))) rfl (fun ac A36 => ?_)
      refine s_one (.int .i64 (((k * c : Nat) : Int) + (c : Int))) A36 S32 (g_assign (by kernel_rfl)) rfl (fun ac A37 => ?_)
      refine wpList_nil ?_
      refine n_then ?_
      refine ⟨_, ⟨k + 1, rfl, by omega, by rw [List.range_succ]; exact hJ, (A37.slot (A37.slot (A37.slot (A37.slot A37.nil (v := .int .i64 (((k * c : Nat) : Int) + (c : Int))) (by kernel_rfl) (congrArg (Value.int .i64) (by rw [Nat.succ_mul]; omega))) (v := .pointer (some ⟨g2, 0, none⟩)) (by kernel_rfl) rfl) (v := .pointer (some ⟨g1, 0, none⟩)) (by kernel_rfl) rfl) (v := .func (.yield l) #[] #[]) (by kernel_rfl) rfl), S32.sub sub_all sub_all⟩, ?_⟩
      omega
    · cases he
      have S38 := St.start wc
      refine y_one (.bool true) A31 S38 (g_un (u := .bool false) (by kernel_rfl) (fun _ => by kernel_rfl)) rfl (fun ac A39 => ?_)
      refine y_nil ?_
      refine n_then ?_
      refine c_t (b := true) A39 (by kernel_rfl) rfl ?_
      refine wp_ret ?_
      refine r_block ?_
      refine r_then ?_
      refine r_then ?_
      refine r_block ?_
      exact it_ret A39 Try.results111 ⟨⟨_, rfl⟩, .inr ⟨_, hx⟩⟩
  · have p40 := of_decide_eq_false h9
    refine wp_exit ?_
    refine x_then ?_
    refine x_then ?_
    refine x_hit ?_
    have e : k = N := by rcases Nat.lt_or_ge k N with q | q; have := hkc q; omega; omega
    rw [e] at hJ
    exact it_end A8 Try.results111 ⟨⟨_, rfl⟩, .inl hJ⟩

set_option maxRecDepth 100000 in
theorem chunkB_seq (g1 g2 : Nat) (o1 o2 : Bool) (ad : Addr) (m cap c N : Nat) (hc : 0 < c) (hm : m = N * c) (hmc : m ≤ cap) (hm1 : m ≤ 200000) : Seq Try.prog 108 #[] #[.pointer (some ⟨g1, 0, none⟩), .pointer (some ⟨g2, 0, none⟩)] (fun k : Nat => #[.slice (some (ad.add (k * c))) c c]) [⟨g1, 144, #[.slice (some ad) m cap], o1⟩, ⟨g2, 3, #[.int .i64 (c : Int)], o2⟩] (List.range N) := by
  intro l J Jx W hG hAb hY hJ
  refine callsIn_wide.2 ?_
  refine enter (n := 31) Try.func108 rfl rfl rfl (fun ac A0 => ?_)
  have S0 := (St.came (St.came (St.start W) (hG _ (List.mem_cons_of_mem _ (List.mem_singleton.2 rfl))) (by simp)) (hG _ (List.mem_cons_self ..)) (by simp))
  refine wp_seq ?_
  refine wp_region_lit ?_
  refine s_one (.int .i64 0) A0 S0 (g_assign (by kernel_rfl)) rfl (fun ac A1 => ?_)
  refine wpList_nil ?_
  refine n_then ?_
  refine wp_block ?_
  refine c_loopN (fun mm ac wc => ∃ (k : Nat), mm = N - k ∧ (k ≤ N) ∧ (J (List.range k) wc) ∧ Fr 31 ac [(0, .func (.yield l) #[] #[]), (1, .pointer (some ⟨g1, 0, none⟩)), (2, .pointer (some ⟨g2, 0, none⟩)), (4, .int .i64 ((k * c : Nat) : Int))] ∧ St wc [⟨g1, 144, #[.slice (some ad) m cap], false⟩, ⟨g2, 3, #[.int .i64 (c : Int)], false⟩] [] wc) _ ⟨0, rfl, Nat.zero_le _, hJ, (A1.slot (A1.slot (A1.slot (A1.slot A1.nil (v := .int .i64 0) (by kernel_rfl) (by simp)) (v := .pointer (some ⟨g2, 0, none⟩)) (by kernel_rfl) rfl) (v := .pointer (some ⟨g1, 0, none⟩)) (by kernel_rfl) rfl) (v := .func (.yield l) #[] #[]) (by kernel_rfl) rfl), S0.sub sub_all sub_all⟩ ?_
  rintro mm ac wc ⟨k, hm4, hk, hJ, A2, S3⟩
  have hkc : k < N → k * c + c ≤ m := fun h => by rw [hm, ← Nat.succ_mul]; exact Nat.mul_le_mul_right c h
  have hkn : N ≤ k → m ≤ k * c := fun h => by rw [hm]; exact Nat.mul_le_mul_right c h
  refine wp_seq ?_
  refine wp_seq ?_
  refine wp_region_lit ?_
  refine s_one (.int .i64 ((k * c : Nat) : Int)) A2 S3 (g_move (by kernel_rfl)) rfl (fun ac A5 => ?_)
  refine s_one (.slice (some ad) m cap) A5 S3 (g_load (g := g1) (off := 0) 0 (by kernel_rfl) rfl (by kernel_rfl)) rfl (fun ac A6 => ?_)
  refine s_one (.int .i64 ((m : Nat) : Int)) A6 S3 (g_built (r := [(0, .slice (some ad) m cap)]) (by kernel_rfl) (fun _ _ _ => by kernel_rfl)) rfl (fun ac A7 => ?_)
  refine s_one (.bool (decide (((k * c : Nat) : Int) < ((m : Nat) : Int)))) A7 S3 (g_bin (u := .int .i64 ((k * c : Nat) : Int)) (k := .int .i64 ((m : Nat) : Int)) (by kernel_rfl) (by kernel_rfl) (fun _ => by kernel_rfl) (fun _ => by kernel_rfl)) rfl (fun ac A8 => ?_)
  refine wpList_nil ?_
  refine n_then ?_
  refine c_ifb (b := (decide (((k * c : Nat) : Int) < ((m : Nat) : Int)))) A8 (by kernel_rfl) (fun h9 => ?_) (fun h9 => ?_)
  · have p10 := of_decide_eq_true h9
    refine wp_skip ?_
    refine n_then ?_
    refine wp_seq ?_
    refine wp_block ?_
    refine wp_seq ?_
    have hkN : k < N := by rcases Nat.lt_or_ge k N with q | q; exact q; have := hkn q; omega
    have hkc := hkc hkN
    have hx : List.range N = List.range k ++ k :: (List.range (N - (k + 1))).map (k + 1 + ·) := range_at hkN
    refine r_begin (w0 := _) (by kernel_rfl) (S3.sub sub_all sub_all) (fun wc T11 B12 => ?_)
    replace hJ := hAb _ _ _ hJ B12
    have S13 := S3.kept B12
    refine r_take 0 (.int .i64 (c : Int)) A8 T11 (g_load (g := g2) (off := 0) 1 (by kernel_rfl) rfl (by kernel_rfl)) rfl rfl rfl (pf_then (pf_block (pf_then (pf_then (pf_block pf_body))))) (by kernel_rfl) (fun ac A14 => ?_)
    refine r_take 1 (.slice (some ad) m cap) A14 T11 (g_load (g := g1) (off := 0) 0 (by kernel_rfl) rfl (by kernel_rfl)) rfl rfl rfl (pf_then (pf_block (pf_then (pf_then (pf_block pf_body))))) (by kernel_rfl) (fun ac A15 => ?_)
    refine r_take 2 (.int .i64 ((k * c : Nat) : Int)) A15 T11 (g_move (by kernel_rfl)) rfl rfl rfl (pf_then (pf_block (pf_then (pf_then (pf_block pf_body))))) (by kernel_rfl) (fun ac A16 => ?_)
    refine r_take 3 (.slice (some (ad.add (k * c))) (m - k * c) (cap - k * c)) A16 T11 (g_slice (u := .slice (some ad) m cap) (lo' := (some (.int .i64 ((k * c : Nat) : Int)))) (hi' := none) (mx' := none) (by kernel_rfl) (by kernel_rfl) (by kernel_rfl) (by kernel_rfl) (sl_from1 (e := 5) (b := 1) (i := k * c) (by kernel_rfl) (by omega) (by omega) rfl)) rfl rfl rfl (pf_then (pf_block (pf_then (pf_then (pf_block pf_body))))) (by kernel_rfl) (fun ac A17 => ?_)
    refine r_take 4 (.int .i64 (((m - k * c) : Nat) : Int)) A17 T11 (g_built (r := [(0, .slice (some (ad.add (k * c))) (m - k * c) (cap - k * c))]) (by kernel_rfl) (fun _ _ _ => by kernel_rfl)) rfl rfl rfl (pf_then (pf_block (pf_then (pf_then (pf_block pf_body))))) (by kernel_rfl) (fun ac A18 => ?_)
    refine r_take 5 (.int .i64 (mn (c : Int) (((m - k * c) : Nat) : Int))) A18 T11 (g_built (r := [(0, .int .i64 (c : Int)), (0, .int .i64 (((m - k * c) : Nat) : Int))]) (by kernel_rfl) (fun ty cs w => by show (do let x ← Builtin.min_ _ ty #[.int .i64 (c : Int), .int .i64 (((m - k * c) : Nat) : Int)]; pure (Next.value x) : Sem Next).run _ w = _; rw [Sem.run_bind, run_min_mn]; rfl)) rfl rfl rfl (pf_then (pf_block (pf_then (pf_then (pf_block pf_body))))) (by kernel_rfl) (fun ac A19 => ?_)
    refine r_take 6 (.int .i64 (mn (c : Int) (((m - k * c) : Nat) : Int))) A19 T11 (g_assign (by kernel_rfl)) rfl rfl rfl (pf_then (pf_block (pf_then (pf_then (pf_block pf_body))))) (by kernel_rfl) (fun ac A20 => ?_)
    refine r_done (by kernel_rfl) ?_
    refine n_then ?_
    refine wp_seq ?_
    have hmn : mn (c : Int) ((m - k * c) : Nat) = (c : Int) := by rw [mn_eq]; omega
    have AW2 := A20
    simp only [hmn] at AW2
    refine y_region ?_
    refine y_one (.func (.yield l) #[] #[]) AW2 S13 (g_move (by kernel_rfl)) rfl (fun ac A21 => ?_)
    refine y_one (.slice (some ad) m cap) A21 S13 (g_load (g := g1) (off := 0) 0 (by kernel_rfl) rfl (by kernel_rfl)) rfl (fun ac A22 => ?_)
    refine y_one (.int .i64 ((k * c : Nat) : Int)) A22 S13 (g_move (by kernel_rfl)) rfl (fun ac A23 => ?_)
    refine y_one (.int .i64 ((k * c : Nat) : Int)) A23 S13 (g_move (by kernel_rfl)) rfl (fun ac A24 => ?_)
    refine y_one (.int .i64 (c : Int)) A24 S13 (g_move (by kernel_rfl)) rfl (fun ac A25 => ?_)
    refine y_one (.int .i64 (((k * c : Nat) : Int) + (c : Int))) A25 S13 (g_bin (u := .int .i64 ((k * c : Nat) : Int)) (k := .int .i64 (c : Int)) (by kernel_rfl) (by kernel_rfl) (fun _ => by kernel_rfl) (b_add (by omega))) rfl (fun ac A26 => ?_)
    refine y_one (.int .i64 ((k * c : Nat) : Int)) A26 S13 (g_move (by kernel_rfl)) rfl (fun ac A27 => ?_)
    refine y_one (.int .i64 (c : Int)) A27 S13 (g_move (by kernel_rfl)) rfl (fun ac A28 => ?_)
    refine y_one (.int .i64 (((k * c : Nat) : Int) + (c : Int))) A28 S13 (g_bin (u := .int .i64 ((k * c : Nat) : Int)) (k := .int .i64 (c : Int)) (by kernel_rfl) (by kernel_rfl) (fun _ => by kernel_rfl) (b_add (by omega))) rfl (fun ac A29 => ?_)
    refine y_one (.slice (some (ad.add (k * c))) c c) A29 S13 (g_slice (u := .slice (some ad) m cap) (lo' := (some (.int .i64 ((k * c : Nat) : Int)))) (hi' := (some (.int .i64 (((k * c : Nat) : Int) + (c : Int))))) (mx' := (some (.int .i64 (((k * c : Nat) : Int) + (c : Int))))) (by kernel_rfl) (by kernel_rfl) (by kernel_rfl) (by kernel_rfl) (sl_cap (e := 5) (b := 1) (i := k * c) (k := c) (by kernel_rfl) hc (by omega) rfl (by omega) (by omega))) rfl (fun ac A30 => ?_)
    refine y_call (r := [(0, .slice (some (ad.add (k * c))) c c)]) #[.slice (some (ad.add (k * c))) c c] A30 (hY _ k _ _ hx hJ) (by rintro e w (⟨rfl, _⟩ | ⟨rfl, _⟩) <;> exact ⟨_, rfl⟩) (by kernel_rfl) (by kernel_rfl) rfl rfl (fun v ac wc hr A31 => ?_)
    rcases hr with ⟨he, hJ, hk⟩ | ⟨he, hx⟩
    · cases he
      have S32 := (St.came (St.came (St.start _) (hk _ (List.mem_cons_of_mem _ (List.mem_singleton.2 rfl)) (S13.get 1 (b := ⟨g2, 3, #[.int .i64 (c : Int)], false⟩) rfl)) (by simp)) (hk _ (List.mem_cons_self ..) (S13.get 0 (b := ⟨g1, 144, #[.slice (some ad) m cap], false⟩) rfl)) (by simp))
      refine y_one (.bool false) A31 S32 (g_un (u := .bool true) (by kernel_rfl) (fun _ => by kernel_rfl)) rfl (fun ac A33 => ?_)
      refine y_nil ?_
      refine n_then ?_
      refine c_f (b := false) A33 (by kernel_rfl) rfl ?_
      refine wp_skip ?_
      refine n_block ?_
      refine n_then ?_
      refine wp_region_lit ?_
      refine s_one (.int .i64 ((k * c : Nat) : Int)) A33 S32 (g_move (by kernel_rfl)) rfl (fun ac A34 => ?_)
      refine s_one (.int .i64 (c : Int)) A34 S32 (g_load (g := g2) (off := 0) 1 (by kernel_rfl) rfl (by kernel_rfl)) rfl (fun ac A35 => ?_)
      refine s_one (.int .i64 (((k * c : Nat) : Int) + (c : Int))) A35 S32 (g_bin (u := .int .i64 ((k * c : Nat) : Int)) (k := .int .i64 (c : Int)) (by kernel_rfl) (by kernel_rfl) (fun _ => by kernel_rfl) (b_add (by omega))) rfl (fun ac A36 => ?_)
      refine s_one (.int .i64 (((k * c : Nat) : Int) + (c : Int))) A36 S32 (g_assign (by kernel_rfl)) rfl (fun ac A37 => ?_)
      refine wpList_nil ?_
      refine n_then ?_
      refine ⟨_, ⟨k + 1, rfl, by omega, by rw [List.range_succ]; exact hJ, (A37.slot (A37.slot (A37.slot (A37.slot A37.nil (v := .int .i64 (((k * c : Nat) : Int) + (c : Int))) (by kernel_rfl) (congrArg (Value.int .i64) (by rw [Nat.succ_mul]; omega))) (v := .pointer (some ⟨g2, 0, none⟩)) (by kernel_rfl) rfl) (v := .pointer (some ⟨g1, 0, none⟩)) (by kernel_rfl) rfl) (v := .func (.yield l) #[] #[]) (by kernel_rfl) rfl), S32.sub sub_all sub_all⟩, ?_⟩
      omega
    · cases he
      have S38 := St.start wc
      refine y_one (.bool true) A31 S38 (g_un (u := .bool false) (by kernel_rfl) (fun _ => by kernel_rfl)) rfl (fun ac A39 => ?_)
      refine y_nil ?_
      refine n_then ?_
      refine c_t (b := true) A39 (by kernel_rfl) rfl ?_
      refine wp_ret ?_
      refine r_block ?_
      refine r_then ?_
      refine r_then ?_
      refine r_block ?_
      exact it_ret A39 Try.results108 ⟨⟨_, rfl⟩, .inr ⟨_, hx⟩⟩
  · have p40 := of_decide_eq_false h9
    refine wp_exit ?_
    refine x_then ?_
    refine x_then ?_
    refine x_hit ?_
    have e : k = N := by rcases Nat.lt_or_ge k N with q | q; have := hkc q; omega; omega
    rw [e] at hJ
    exact it_end A8 Try.results108 ⟨⟨_, rfl⟩, .inl hJ⟩

end Go.Proofs.Ytcijkniijomcjaa
