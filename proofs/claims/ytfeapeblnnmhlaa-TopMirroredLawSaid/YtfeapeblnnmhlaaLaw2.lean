/- Laws that are made. -/
import Derived.Test.YtfeapeblnnmhlaaLaw1
namespace Go.Proofs.Ytfeapeblnnmhlaa
open Go.RowKit Go.Cpl Go.Ray1

set_option maxRecDepth 100000 in
set_option maxHeartbeats 400000 in
theorem CopyInts_s (l : List Int) (A : Option Addr) (cap n : Nat) (w0 : World) (hn : l.length = n * 1) (hr : IReads w0 A l) (h1 : n ≤ 1000) :
    Calls Try.prog 21 #[.slice A n cap] w0 fun e w' => ∃ v, e = .returned (v) ∧ Below w0.heap.size w0 w' ∧ w'.ownsRow w0.heap.size 3 1 v n (rowI l) := by
  have S0 := St.start w0
  refine enter (n := 6) Try.func21 rfl rfl rfl (fun ac A0 => ?_)
  refine wp_seq ?_
  refine wp_region_lit ?_
  refine s_one (.slice none 0 0) A0 S0 (g_assign (by kernel_rfl)) rfl (fun ac A1 => ?_)
  refine wpList_nil ?_
  refine n_then ?_
  refine wp_seq ?_
  refine wp_region_lit ?_
  refine s_bs (e := 3) (r := []) (#[]) A1 S0 (by kernel_rfl) (by kernel_rfl) rfl (fun g4 ac wc A2 S3 => ?_)
  refine s_one (.slice A n cap) A2 S3 (g_move (by kernel_rfl)) rfl (fun ac A5 => ?_)
  have S6 : St w0 [] [⟨.slice (some ⟨g4, 0, none⟩) 0 0, 3, 1, 0, []⟩] _ := St.toRow S3 0 rfl rfl (by decide)
  refine s_appendX (e := 3) (size := 1) (bytes := 8) (v := .slice (some ⟨g4, 0, none⟩) 0 0) (m' := n) (c := cap) (l := l) 0 A5 S6 (by kernel_rfl) (by kernel_rfl) (by kernel_rfl) rfl (hr.kept S6.kp) (by have hlen := hn; omega) (by omega) (by omega) rfl (fun v9 ac wc A7 S8 => ?_)
  have S10 : St w0 [] [⟨v9, 3, 1, n, (rowI l)⟩] _ := St.rerow 0 S8 rfl ⟨Nat.zero_add _, List.nil_append _⟩
  refine s_one (v9) A7 S10 (g_assign (by kernel_rfl)) rfl (fun ac A11 => ?_)
  refine wpList_nil ?_
  refine n_then ?_
  refine wp_ret ?_
  obtain ⟨A12, cap13, rfl⟩ := row_slice (v := v9) (m := n) (S10.row 0 rfl)
  refine fin1 (.slice A12 n cap13) Try.results21 A11 S10 (rv_tmp (by kernel_rfl)) ?_
  have bw := S10.kp
  have ow := S10.row 0 rfl
  exact ⟨_, rfl, bw, ow⟩

set_option maxRecDepth 100000 in
set_option maxHeartbeats 400000 in
theorem CopySpots_s (l : List Int) (A : Option Addr) (cap n : Nat) (w0 : World) (hn : l.length = n * 2) (hr : IReads w0 A l) (h1 : n ≤ 1000) :
    Calls Try.prog 17 #[.slice A n cap] w0 fun e w' => ∃ v, e = .returned (v) ∧ Below w0.heap.size w0 w' ∧ w'.ownsRow w0.heap.size 28 2 v n (rowI l) := by
  have S0 := St.start w0
  refine enter (n := 6) Try.func17 rfl rfl rfl (fun ac A0 => ?_)
  refine wp_seq ?_
  refine wp_region_lit ?_
  refine s_one (.slice none 0 0) A0 S0 (g_assign (by kernel_rfl)) rfl (fun ac A1 => ?_)
  refine wpList_nil ?_
  refine n_then ?_
  refine wp_seq ?_
  refine wp_region_lit ?_
  refine s_bs (e := 28) (r := []) (#[]) A1 S0 (by kernel_rfl) (by kernel_rfl) rfl (fun g4 ac wc A2 S3 => ?_)
  refine s_one (.slice A n cap) A2 S3 (g_move (by kernel_rfl)) rfl (fun ac A5 => ?_)
  have S6 : St w0 [] [⟨.slice (some ⟨g4, 0, none⟩) 0 0, 28, 2, 0, []⟩] _ := St.toRow S3 0 rfl rfl (by decide)
  refine s_appendX (e := 28) (size := 2) (bytes := 16) (v := .slice (some ⟨g4, 0, none⟩) 0 0) (m' := n) (c := cap) (l := l) 0 A5 S6 (by kernel_rfl) (by kernel_rfl) (by kernel_rfl) rfl (hr.kept S6.kp) (by have hlen := hn; omega) (by omega) (by omega) rfl (fun v9 ac wc A7 S8 => ?_)
  have S10 : St w0 [] [⟨v9, 28, 2, n, (rowI l)⟩] _ := St.rerow 0 S8 rfl ⟨Nat.zero_add _, List.nil_append _⟩
  refine s_one (v9) A7 S10 (g_assign (by kernel_rfl)) rfl (fun ac A11 => ?_)
  refine wpList_nil ?_
  refine n_then ?_
  refine wp_ret ?_
  obtain ⟨A12, cap13, rfl⟩ := row_slice (v := v9) (m := n) (S10.row 0 rfl)
  refine fin1 (.slice A12 n cap13) Try.results17 A11 S10 (rv_tmp (by kernel_rfl)) ?_
  have bw := S10.kp
  have ow := S10.row 0 rfl
  exact ⟨_, rfl, bw, ow⟩

set_option maxRecDepth 100000 in
set_option maxHeartbeats 400000 in
theorem CopyArray_s (EA : Option Addr) (n ecap : Nat) (el : List Int) (mw md ms mt ck : Int) (w0 : World) (hne : el.length = n * 2) (hre : IReads w0 EA el) (hn1 : n ≤ 1000) :
    Calls Try.prog 7 #[.agg #[.slice EA n ecap, .int .i64 mw, .int .i64 md, .int .i64 ms, .int .i64 mt, .int .i64 ck]] w0 fun e w' => ∃ v, e = .returned (.agg #[v, .int .i64 mw, .int .i64 md, .int .i64 ms, .int .i64 mt, .int .i64 ck]) ∧ Below w0.heap.size w0 w' ∧ w'.ownsRow w0.heap.size 28 2 v n (rowI el) := by
  have S0 := St.start w0
  refine enter (n := 8) Try.func7 rfl rfl rfl (fun ac A0 => ?_)
  refine wp_seq ?_
  refine wp_region_lit ?_
  refine s_box (.agg #[.slice EA n ecap, .int .i64 mw, .int .i64 md, .int .i64 ms, .int .i64 mt, .int .i64 ck]) A0 S0 (by kernel_rfl) rfl (fun g3 ac wc A1 S2 => ?_)
  replace S2 : St _ (⟨g3, 26, #[.slice EA n ecap, .int .i64 mw, .int .i64 md, .int .i64 ms, .int .i64 mt, .int .i64 ck], true⟩ :: _) _ _ := S2
  refine s_alloc (#[.slice none 0 0, .int .i64 0, .int .i64 0, .int .i64 0, .int .i64 0, .int .i64 0]) A1 S2 (by kernel_rfl) rfl (fun g7 ac wc A5 S6 => ?_)
  refine wpList_nil ?_
  refine n_then ?_
  refine wp_seq ?_
  refine wp_region_lit ?_
  refine s_one (.pointer (some ⟨g3, 0, none⟩)) A5 S6 (g_field (u := .pointer (some ⟨g3, 0, none⟩)) (by kernel_rfl) (fun _ => by kernel_rfl)) rfl (fun ac A8 => ?_)
  refine s_one (.slice EA n ecap) A8 S6 (g_load (g := g3) (off := 0) 1 (by kernel_rfl) rfl (by kernel_rfl)) rfl (fun ac A9 => ?_)
  refine s_callRF (fs := #[]) (cp := #[]) (r := [(0, .slice EA n ecap)]) (fun v => v) #[.slice EA n ecap] A9 S6 (CopySpots_s el EA ecap n _ (by have hlen := hne; omega) (hre.kept S6.kp) (by omega)) Try.call17 (by kernel_rfl) (by kernel_rfl) (by kernel_rfl) rfl (fun v13 ac wc A10 S11 => ?_)
  obtain ⟨hl14, A15, cap16, rfl, hr17⟩ := rowI_reads2 (v := v13) (size := 2) (m := n) (l := el) (S11.row 0 rfl)
  refine s_one (.pointer (some ⟨g3, 0, none⟩)) A10 S11 (g_field (u := .pointer (some ⟨g3, 0, none⟩)) (by kernel_rfl) (fun _ => by kernel_rfl)) rfl (fun ac A18 => ?_)
  refine s_store (g := g3) (off := 0) (v := .slice A15 n cap16) 1 (#[.slice A15 n cap16, .int .i64 mw, .int .i64 md, .int .i64 ms, .int .i64 mt, .int .i64 ck]) A18 S11 (by kernel_rfl) (by kernel_rfl) rfl (by kernel_rfl) (fun wc S20 => ?_)
  refine wpList_nil ?_
  refine n_then ?_
  refine wp_seq ?_
  refine wp_region_lit ?_
  refine s_one (.agg #[.slice A15 n cap16, .int .i64 mw, .int .i64 md, .int .i64 ms, .int .i64 mt, .int .i64 ck]) A18 S20 (g_load (g := g3) (off := 0) 1 (by kernel_rfl) rfl (by kernel_rfl)) rfl (fun ac A22 => ?_)
  refine s_store (g := g7) (off := 0) (v := .agg #[.slice A15 n cap16, .int .i64 mw, .int .i64 md, .int .i64 ms, .int .i64 mt, .int .i64 ck]) 0 (#[.slice A15 n cap16, .int .i64 mw, .int .i64 md, .int .i64 ms, .int .i64 mt, .int .i64 ck]) A22 S20 (by kernel_rfl) (by kernel_rfl) rfl (by kernel_rfl) (fun wc S24 => ?_)
  refine wpList_nil ?_
  refine n_then ?_
  refine wp_ret ?_
  refine fin1 (.agg #[.slice A15 n cap16, .int .i64 mw, .int .i64 md, .int .i64 ms, .int .i64 mt, .int .i64 ck]) Try.results7 A22 S24 (rv_cell (g := g7) (off := 0) 0 (by kernel_rfl) rfl (by kernel_rfl)) ?_
  have bw := S24.kp
  have ow := S24.row 0 rfl
  exact ⟨_, rfl, bw, ow⟩

set_option maxRecDepth 100000 in
set_option maxHeartbeats 400000 in
theorem CopyLaw_s (TA : Option Addr) (m tcap : Nat) (tl : List Int) (lc : Int) (w0 : World) (hnt : tl.length = m * 1) (hrt : IReads w0 TA tl) (hm1 : m ≤ 1000) :
    Calls Try.prog 10 #[.agg #[.int .i64 lc, .slice TA m tcap]] w0 fun e w' => ∃ v, e = .returned (.agg #[.int .i64 lc, v]) ∧ Below w0.heap.size w0 w' ∧ w'.ownsRow w0.heap.size 3 1 v m (rowI tl) := by
  have S0 := St.start w0
  refine enter (n := 8) Try.func10 rfl rfl rfl (fun ac A0 => ?_)
  refine wp_seq ?_
  refine wp_region_lit ?_
  refine s_box (.agg #[.int .i64 lc, .slice TA m tcap]) A0 S0 (by kernel_rfl) rfl (fun g3 ac wc A1 S2 => ?_)
  replace S2 : St _ (⟨g3, 32, #[.int .i64 lc, .slice TA m tcap], true⟩ :: _) _ _ := S2
  refine s_alloc (#[.int .i64 0, .slice none 0 0]) A1 S2 (by kernel_rfl) rfl (fun g7 ac wc A5 S6 => ?_)
  refine wpList_nil ?_
  refine n_then ?_
  refine wp_seq ?_
  refine wp_region_lit ?_
  refine s_one (.pointer (some ⟨g3, 1, none⟩)) A5 S6 (g_field (u := .pointer (some ⟨g3, 0, none⟩)) (by kernel_rfl) (fun _ => by kernel_rfl)) rfl (fun ac A8 => ?_)
  refine s_one (.slice TA m tcap) A8 S6 (g_load (g := g3) (off := 1) 1 (by kernel_rfl) rfl (by kernel_rfl)) rfl (fun ac A9 => ?_)
  refine s_callRF (fs := #[]) (cp := #[]) (r := [(0, .slice TA m tcap)]) (fun v => v) #[.slice TA m tcap] A9 S6 (CopyInts_s tl TA tcap m _ (by have hlen := hnt; omega) (hrt.kept S6.kp) (by omega)) Try.call21 (by kernel_rfl) (by kernel_rfl) (by kernel_rfl) rfl (fun v13 ac wc A10 S11 => ?_)
  obtain ⟨hl14, A15, cap16, rfl, hr17⟩ := rowI_reads2 (v := v13) (size := 1) (m := m) (l := tl) (S11.row 0 rfl)
  refine s_one (.pointer (some ⟨g3, 1, none⟩)) A10 S11 (g_field (u := .pointer (some ⟨g3, 0, none⟩)) (by kernel_rfl) (fun _ => by kernel_rfl)) rfl (fun ac A18 => ?_)
  refine s_store (g := g3) (off := 1) (v := .slice A15 m cap16) 1 (#[.int .i64 lc, .slice A15 m cap16]) A18 S11 (by kernel_rfl) (by kernel_rfl) rfl (by kernel_rfl) (fun wc S20 => ?_)
  refine wpList_nil ?_
  refine n_then ?_
  refine wp_seq ?_
  refine wp_region_lit ?_
  refine s_one (.agg #[.int .i64 lc, .slice A15 m cap16]) A18 S20 (g_load (g := g3) (off := 0) 1 (by kernel_rfl) rfl (by kernel_rfl)) rfl (fun ac A22 => ?_)
  refine s_store (g := g7) (off := 0) (v := .agg #[.int .i64 lc, .slice A15 m cap16]) 0 (#[.int .i64 lc, .slice A15 m cap16]) A22 S20 (by kernel_rfl) (by kernel_rfl) rfl (by kernel_rfl) (fun wc S24 => ?_)
  refine wpList_nil ?_
  refine n_then ?_
  refine wp_ret ?_
  refine fin1 (.agg #[.int .i64 lc, .slice A15 m cap16]) Try.results10 A22 S24 (rv_cell (g := g7) (off := 0) 0 (by kernel_rfl) rfl (by kernel_rfl)) ?_
  have bw := S24.kp
  have ow := S24.row 0 rfl
  exact ⟨_, rfl, bw, ow⟩

/-- Ticks, one by one; an error if one is too great. -/
def tkF (T : Nat → Int) : Nat → List Int
  | 0 => []
  | k + 1 => tkF T k ++ [T k]
theorem tkF_length (T : Nat → Int) : ∀ m, (tkF T m).length = m
  | 0 => rfl
  | m + 1 => by simp only [tkF, List.length_append, tkF_length T m, List.length_cons, List.length_nil]
theorem nthI_left {l r : List Int} {i : Nat} (h : i < l.length) : nthI (l ++ r) i = nthI l i := by
  rw [nthI_eq (by rw [List.length_append]; omega), nthI_eq h, List.getElem_append_left h]
theorem nthI_right {l r : List Int} {i : Nat} (h : i < r.length) : nthI (l ++ r) (l.length + i) = nthI r i := by
  rw [nthI_eq (by rw [List.length_append]; omega), nthI_eq h, List.getElem_append_right (by omega)]
  simp
theorem tkF_nth (T : Nat → Int) : ∀ m j : Nat, j < m → nthI (tkF T m) j = T j
  | 0, j, hj => by omega
  | m + 1, j, hj => by
    have hl := tkF_length T m
    simp only [tkF]
    by_cases e : j = m
    · subst e
      have := nthI_right (l := tkF T j) (r := [T j]) (i := 0) (by simp)
      rw [hl] at this
      exact this
    · rw [nthI_left (by omega)]; exact tkF_nth T m j (by omega)
theorem tkF_snoc (T : Nat → Int) (k : Nat) : rowI (tkF T k) ++ [.int .i64 (T k)] = rowI (tkF T (k + 1)) := rowI_app (tkF T k) [T k]
def ovE (T : Nat → Int) (k : Nat) : Int := if T k > 1000000 then 8 else 0
theorem ovE_y {T : Nat → Int} {k : Nat} (h : T k > 1000000) : ovE T k = 8 := if_pos h
theorem ovE_n {T : Nat → Int} {k : Nat} (h : ¬ T k > 1000000) : ovE T k = 0 := if_neg h
theorem ovE_0 {T : Nat → Int} {k : Nat} (h : ovE T k = 0) : T k ≤ 1000000 := by
  unfold ovE at h
  by_cases z : T k > 1000000
  · rw [if_pos z] at h; simp at h
  · omega
def bN (E : Int) (n : Nat) : Nat := if E = 0 then n else 0
def bL (E : Int) (l : List Int) : List Int := if E = 0 then l else []
theorem b_0 {E : Int} (h : E = 0) (n : Nat) (l : List Int) : bN E n = n ∧ bL E l = l := ⟨if_pos h, if_pos h⟩
theorem b_n {E : Int} (h : E ≠ 0) (n : Nat) (l : List Int) : bN E n = 0 ∧ bL E l = [] := ⟨if_neg h, if_neg h⟩
/-- The ticks of a law with another clock. -/
def rcT (tl : List Int) (lc clk : Int) (k : Nat) : Int := if nthI tl k ≥ 0 then rnd (nthI tl k * lc) clk else -1
theorem tp_bd {a b : Int} (h1 : -1 ≤ a ∧ a ≤ 1000000) (h2 : 1 ≤ b ∧ b ≤ 1000000) : -1000000 ≤ a * b ∧ a * b ≤ 1000000000000 := by
  have p := Int.mul_le_mul_of_nonneg_right h1.2 (show 0 ≤ b by omega)
  have q := Int.mul_le_mul_of_nonneg_right h1.1 (show 0 ≤ b by omega)
  omega
/-- The ticks of a focus. -/
def fcT (rs : List Int) (last ck : Int) (k : Nat) : Int := rnd (last - nthI rs k) ck
/-- The greatest number. -/
def mxL (l : List Int) : Nat → Int
  | 0 => nthI l 0
  | k + 1 => mx (mxL l k) (nthI l (k + 1))
theorem mxL_ge (l : List Int) : ∀ k i : Nat, i ≤ k → nthI l i ≤ mxL l k
  | 0, i, h => by
    obtain rfl : i = 0 := by omega
    exact Int.le_refl _
  | k + 1, i, h => by
    simp only [mxL]; rw [mx_eq]
    by_cases e : i = k + 1
    · subst e; omega
    · have := mxL_ge l k i (by omega); omega
theorem mxL_le {l : List Int} {B : Int} : ∀ k : Nat, (∀ i, i ≤ k → nthI l i ≤ B) → mxL l k ≤ B
  | 0, h => h 0 (by omega)
  | k + 1, h => by
    have a := mxL_le k fun i hi => h i (by omega)
    have b := h (k + 1) (by omega)
    simp only [mxL]; rw [mx_eq]; omega

set_option maxRecDepth 100000 in
set_option maxHeartbeats 400000 in
theorem Max_s (l : List Int) (A : Option Addr) (cap n : Nat) (w0 : World) (hn : l.length = n * 1) (hr : IReads w0 A l) (h1 : 1 ≤ n) (h2 : n ≤ 1000) :
    Calls Try.prog 32 #[.slice A n cap] w0 fun e w' => e = .returned (.int .i64 (mxL l (n - 1))) ∧ Below w0.heap.size w0 w' := by
  have S0 := St.start w0
  refine enter (n := 25) Try.func32 rfl rfl rfl (fun ac A0 => ?_)
  refine wp_seq ?_
  refine wp_region_lit ?_
  refine s_one (.int .i64 0) A0 S0 (g_assign (by kernel_rfl)) rfl (fun ac A1 => ?_)
  refine wpList_nil ?_
  refine n_then ?_
  refine wp_seq ?_
  refine wp_seq ?_
  refine wp_region_lit ?_
  refine s_one (.slice A n cap) A1 S0 (g_move (by kernel_rfl)) rfl (fun ac A2 => ?_)
  refine s_one (.int .i64 (n : Int)) A2 S0 (g_built (r := [(0, .slice A n cap)]) (by kernel_rfl) (fun _ _ _ => by kernel_rfl)) rfl (fun ac A3 => ?_)
  refine s_one (.bool (decide ((n : Int) < 1))) A3 S0 (g_bin (u := .int .i64 (n : Int)) (k := .int .i64 1) (by kernel_rfl) (by kernel_rfl) (fun _ => by kernel_rfl) (fun _ => by kernel_rfl)) rfl (fun ac A4 => ?_)
  refine wpList_nil ?_
  refine n_then ?_
  refine c_f (b := (decide ((n : Int) < 1))) A4 (by kernel_rfl) (decide_eq_false (by omega)) ?_
  refine wp_skip ?_
  refine n_then ?_
  refine wp_seq ?_
  refine wp_region_lit ?_
  refine s_one (.slice A n cap) A4 S0 (g_move (by kernel_rfl)) rfl (fun ac A5 => ?_)
  obtain ⟨ad6, rfl, _⟩ := hr (0) (by have hlen := hn; omega)
  refine s_one (.pointer (some (ad6.add 0))) A5 S0 (g_index (u := .slice (some ad6) n cap) (k := .int .i64 0) (by kernel_rfl) (by kernel_rfl) (ix_x (e := 3) (bytes := 8) 0 (by kernel_rfl) (by omega) (by omega))) rfl (fun ac A7 => ?_)
  refine s_one (.int .i64 (nthI l 0)) A7 S0 (g_loadXI (l := l) (k := 0) (by kernel_rfl) hr (by have hlen := hn; omega) (by kernel_rfl)) rfl (fun ac A8 => ?_)
  refine s_one (.int .i64 (nthI l 0)) A8 S0 (g_assign (by kernel_rfl)) rfl (fun ac A9 => ?_)
  refine wpList_nil ?_
  refine n_then ?_
  refine wp_seq ?_
  refine wp_seq ?_
  refine wp_region_lit ?_
  refine s_one (.int .i64 1) A9 S0 (g_assign (by kernel_rfl)) rfl (fun ac A10 => ?_)
  refine wpList_nil ?_
  refine n_then ?_
  refine wp_block ?_
  refine c_loopN (fun mm ac wc => ∃ (j : Nat), mm = n - (j + 1) ∧ (j + 1 ≤ n) ∧ Fr 25 ac [(0, .slice (some ad6) n cap), (2, .int .i64 0), (5, .slice (some ad6) n cap), (6, .int .i64 (n : Int)), (7, .bool (decide ((n : Int) < 1))), (9, .slice (some ad6) n cap), (10, .pointer (some (ad6.add 0))), (11, .int .i64 (nthI l 0)), (4, .int .i64 ((j : Int) + 1)), (3, .int .i64 (mxL l j))] ∧ St w0 [] [] wc) _ ⟨0, rfl, by omega, (A10.slot (A10.slot (A10.slot (A10.slot (A10.slot (A10.slot (A10.slot (A10.slot (A10.slot (A10.slot A10.nil (v := .int .i64 (nthI l 0)) (by kernel_rfl) rfl) (v := .int .i64 1) (by kernel_rfl) (congrArg (Value.int .i64) (by omega))) (v := .int .i64 (nthI l 0)) (by kernel_rfl) rfl) (v := .pointer (some (ad6.add 0))) (by kernel_rfl) rfl) (v := .slice (some ad6) n cap) (by kernel_rfl) rfl) (v := .bool (decide ((n : Int) < 1))) (by kernel_rfl) rfl) (v := .int .i64 (n : Int)) (by kernel_rfl) rfl) (v := .slice (some ad6) n cap) (by kernel_rfl) rfl) (v := .int .i64 0) (by kernel_rfl) rfl) (v := .slice (some ad6) n cap) (by kernel_rfl) rfl), S0.sub sub_all sub_all⟩ ?_
  rintro mm ac wc ⟨j, hm13, hj, A11, S12⟩
  refine wp_seq ?_
  refine wp_seq ?_
  refine wp_region_lit ?_
  refine s_one (.int .i64 ((j : Int) + 1)) A11 S12 (g_move (by kernel_rfl)) rfl (fun ac A14 => ?_)
  refine s_one (.slice (some ad6) n cap) A14 S12 (g_move (by kernel_rfl)) rfl (fun ac A15 => ?_)
  refine s_one (.int .i64 (n : Int)) A15 S12 (g_built (r := [(0, .slice (some ad6) n cap)]) (by kernel_rfl) (fun _ _ _ => by kernel_rfl)) rfl (fun ac A16 => ?_)
  refine s_one (.bool (decide ((j : Int) + 1 < (n : Int)))) A16 S12 (g_bin (u := .int .i64 ((j : Int) + 1)) (k := .int .i64 (n : Int)) (by kernel_rfl) (by kernel_rfl) (fun _ => by kernel_rfl) (fun _ => by kernel_rfl)) rfl (fun ac A17 => ?_)
  refine wpList_nil ?_
  refine n_then ?_
  refine c_ifb (b := (decide ((j : Int) + 1 < (n : Int)))) A17 (by kernel_rfl) (fun h18 => ?_) (fun h18 => ?_)
  · have p19 := of_decide_eq_true h18
    refine wp_skip ?_
    refine n_then ?_
    refine wp_seq ?_
    refine wp_block ?_
    refine wp_region_lit ?_
    refine s_one (.int .i64 (mxL l j)) A17 S12 (g_move (by kernel_rfl)) rfl (fun ac A20 => ?_)
    refine s_one (.slice (some ad6) n cap) A20 S12 (g_move (by kernel_rfl)) rfl (fun ac A21 => ?_)
    refine s_one (.int .i64 ((j : Int) + 1)) A21 S12 (g_move (by kernel_rfl)) rfl (fun ac A22 => ?_)
    refine s_one (.pointer (some (ad6.add (j + 1)))) A22 S12 (g_index (u := .slice (some ad6) n cap) (k := .int .i64 ((j : Int) + 1)) (by kernel_rfl) (by kernel_rfl) (ix_x (e := 3) (bytes := 8) (j + 1) (by kernel_rfl) (by omega) (by omega))) rfl (fun ac A23 => ?_)
    refine s_one (.int .i64 (nthI l (j + 1))) A23 S12 (g_loadXI (l := l) (k := j + 1) (by kernel_rfl) hr (by have hlen := hn; omega) (by kernel_rfl)) rfl (fun ac A24 => ?_)
    refine s_one (.int .i64 (mx (mxL l j) (nthI l (j + 1)))) A24 S12 (g_built (r := [(0, .int .i64 (mxL l j)), (0, .int .i64 (nthI l (j + 1)))]) (by kernel_rfl) (fun ty cs w => by show (do let x ← Builtin.max_ _ ty #[.int .i64 (mxL l j), .int .i64 (nthI l (j + 1))]; pure (Next.value x) : Sem Next).run _ w = _; rw [Sem.run_bind, run_max_mx]; rfl)) rfl (fun ac A25 => ?_)
    refine s_one (.int .i64 (mx (mxL l j) (nthI l (j + 1)))) A25 S12 (g_assign (by kernel_rfl)) rfl (fun ac A26 => ?_)
    refine wpList_nil ?_
    refine n_block ?_
    refine n_then ?_
    refine wp_region_lit ?_
    refine s_one (.int .i64 ((j : Int) + 1)) A26 S12 (g_move (by kernel_rfl)) rfl (fun ac A27 => ?_)
    refine s_one (.int .i64 ((j : Int) + 1 + 1)) A27 S12 (g_bin (u := .int .i64 ((j : Int) + 1)) (k := .int .i64 1) (by kernel_rfl) (by kernel_rfl) (fun _ => by kernel_rfl) (b_add (by omega))) rfl (fun ac A28 => ?_)
    refine s_one (.int .i64 ((j : Int) + 1 + 1)) A28 S12 (g_assign (by kernel_rfl)) rfl (fun ac A29 => ?_)
    refine wpList_nil ?_
    refine n_then ?_
    refine ⟨_, ⟨j + 1, rfl, by omega, (A29.slot (A29.slot (A29.slot (A29.slot (A29.slot (A29.slot (A29.slot (A29.slot (A29.slot (A29.slot A29.nil (v := .int .i64 (mx (mxL l j) (nthI l (j + 1)))) (by kernel_rfl) rfl) (v := .int .i64 ((j : Int) + 1 + 1)) (by kernel_rfl) (congrArg (Value.int .i64) (by omega))) (v := .int .i64 (nthI l 0)) (by kernel_rfl) rfl) (v := .pointer (some (ad6.add 0))) (by kernel_rfl) rfl) (v := .slice (some ad6) n cap) (by kernel_rfl) rfl) (v := .bool (decide ((n : Int) < 1))) (by kernel_rfl) rfl) (v := .int .i64 (n : Int)) (by kernel_rfl) rfl) (v := .slice (some ad6) n cap) (by kernel_rfl) rfl) (v := .int .i64 0) (by kernel_rfl) rfl) (v := .slice (some ad6) n cap) (by kernel_rfl) rfl), S12.sub sub_all sub_all⟩, ?_⟩
    omega
  · have p30 := of_decide_eq_false h18
    refine wp_exit ?_
    refine x_then ?_
    refine x_then ?_
    refine x_hit ?_
    refine n_then ?_
    refine wp_seq ?_
    refine wp_region_lit ?_
    refine s_one (.int .i64 (mxL l j)) A17 S12 (g_move (by kernel_rfl)) rfl (fun ac A31 => ?_)
    refine s_one (.int .i64 (mxL l j)) A31 S12 (g_assign (by kernel_rfl)) rfl (fun ac A32 => ?_)
    refine wpList_nil ?_
    refine n_then ?_
    refine wp_ret ?_
    refine fin1 (.int .i64 (mxL l j)) Try.results32 A32 S12 (rv_tmp (by kernel_rfl)) ⟨?_, S12.kp⟩
    rw [show n - 1 = j by omega]

set_option maxRecDepth 100000 in
set_option maxHeartbeats 400000 in
theorem recast1_s (i tk : Int) (gp gq : Nat) (TA : Option Addr) (m tcap : Nat) (lc clk : Int) (w0 : World) (b2 : Blk w0 gp 32 #[.int .i64 lc, .slice TA m tcap]) (b3 : Blk w0 gq 3 #[.int .i64 clk]) (hc1 : 1 ≤ lc ∧ lc ≤ 1000000) (hc2 : 1 ≤ clk ∧ clk ≤ 1000000) (ht : -1 ≤ tk ∧ tk ≤ 1000000) :
    Calls Try.prog 26 #[.int .i64 i, .int .i64 tk, .pointer (some ⟨gp, 0, none⟩), .pointer (some ⟨gq, 0, none⟩)] w0 fun e w' => e = .returned (.int .i64 (rnd (tk * lc) clk)) ∧ Below w0.heap.size w0 w' := by
  have S0 := St.start w0
  have S0 := S0.came b3 (by simp)
  have S0 := S0.came b2 (by simp)
  have q := tp_bd ht hc1
  refine enter (n := 13) Try.func26 rfl rfl rfl (fun ac A0 => ?_)
  refine wp_seq ?_
  refine wp_region_lit ?_
  refine s_one (.int .i64 0) A0 S0 (g_assign (by kernel_rfl)) rfl (fun ac A1 => ?_)
  refine wpList_nil ?_
  refine n_then ?_
  refine wp_seq ?_
  refine wp_region_lit ?_
  refine s_one (.int .i64 tk) A1 S0 (g_move (by kernel_rfl)) rfl (fun ac A2 => ?_)
  refine s_one (.pointer (some ⟨gp, 0, none⟩)) A2 S0 (g_field (u := .pointer (some ⟨gp, 0, none⟩)) (by kernel_rfl) (fun _ => by kernel_rfl)) rfl (fun ac A3 => ?_)
  refine s_one (.int .i64 lc) A3 S0 (g_load (g := gp) (off := 0) 0 (by kernel_rfl) rfl (by kernel_rfl)) rfl (fun ac A4 => ?_)
  refine s_one (.int .i64 (tk * lc)) A4 S0 (g_bin (u := .int .i64 tk) (k := .int .i64 lc) (by kernel_rfl) (by kernel_rfl) (fun _ => by kernel_rfl) (b_mul (by omega))) rfl (fun ac A5 => ?_)
  refine s_one (.int .i64 clk) A5 S0 (g_load (g := gq) (off := 0) 1 (by kernel_rfl) rfl (by kernel_rfl)) rfl (fun ac A6 => ?_)
  refine s_call (fs := #[]) (cp := #[]) (r := [(0, .int .i64 (tk * lc)), (0, .int .i64 clk)]) #[.int .i64 (tk * lc), .int .i64 clk] (.int .i64 (rnd (tk * lc) clk)) A6 S0 (rounded_s (tk * lc) clk _ (by omega) (by omega) (by omega) (by omega)) Try.call27 (by kernel_rfl) (by kernel_rfl) (by kernel_rfl) rfl (fun ac wc A7 S8 => ?_)
  refine s_one (.int .i64 (rnd (tk * lc) clk)) A7 S8 (g_assign (by kernel_rfl)) rfl (fun ac A10 => ?_)
  refine wpList_nil ?_
  refine n_then ?_
  refine wp_ret ?_
  refine fin1 (.int .i64 (rnd (tk * lc) clk)) Try.results26 A10 S8 (rv_tmp (by kernel_rfl)) ⟨?_, S8.kp⟩
  rfl

set_option maxRecDepth 100000 in
set_option maxHeartbeats 400000 in
theorem changed1_s (k : Nat) (gl gt gp gq : Nat) (TA : Option Addr) (m tcap : Nat) (tl : List Int) (lc clk : Int) (w0 : World) (bl : Blk w0 gl 32 #[.int .i64 lc, .slice TA m tcap]) (bt : Blk w0 gt 65 #[.func (.func 26) #[] #[.pointer (some ⟨gp, 0, none⟩), .pointer (some ⟨gq, 0, none⟩)]]) (b2 : Blk w0 gp 32 #[.int .i64 lc, .slice TA m tcap]) (b3 : Blk w0 gq 3 #[.int .i64 clk]) (hnt : tl.length = m * 1) (hrt : IReads w0 TA tl) (hc1 : 1 ≤ lc ∧ lc ≤ 1000000) (hc2 : 1 ≤ clk ∧ clk ≤ 1000000) (htk : ∀ i, i < m → tkE tl i = 0) (hk : k < m) :
    Calls Try.prog 39 #[.int .i64 (k : Int), .pointer (some ⟨gl, 0, none⟩), .pointer (some ⟨gt, 0, none⟩)] w0 fun e w' => e = .returned (.int .i64 (rcT tl lc clk k)) ∧ Below w0.heap.size w0 w' := by
  have S0 := St.start w0
  have S0 := S0.came b3 (by simp)
  have S0 := S0.came b2 (by simp)
  have S0 := S0.came bt (by simp)
  have S0 := S0.came bl (by simp)
  have hk0 := tkE_0 (htk k hk)
  refine enter (n := 20) Try.func39 rfl rfl rfl (fun ac A0 => ?_)
  refine wp_seq ?_
  refine wp_region_lit ?_
  refine s_one (.int .i64 0) A0 S0 (g_assign (by kernel_rfl)) rfl (fun ac A1 => ?_)
  refine wpList_nil ?_
  refine n_then ?_
  refine wp_seq ?_
  refine wp_seq ?_
  refine wp_region_lit ?_
  refine s_one (.pointer (some ⟨gl, 1, none⟩)) A1 S0 (g_field (u := .pointer (some ⟨gl, 0, none⟩)) (by kernel_rfl) (fun _ => by kernel_rfl)) rfl (fun ac A2 => ?_)
  refine s_one (.slice TA m tcap) A2 S0 (g_load (g := gl) (off := 1) 0 (by kernel_rfl) rfl (by kernel_rfl)) rfl (fun ac A3 => ?_)
  refine s_one (.int .i64 (k : Int)) A3 S0 (g_move (by kernel_rfl)) rfl (fun ac A4 => ?_)
  obtain ⟨ad5, rfl, _⟩ := hrt (k) (by have hlen := hnt; omega)
  refine s_one (.pointer (some (ad5.add k))) A4 S0 (g_index (u := .slice (some ad5) m tcap) (k := .int .i64 (k : Int)) (by kernel_rfl) (by kernel_rfl) (ix_x (e := 3) (bytes := 8) k (by kernel_rfl) (by omega) (by omega))) rfl (fun ac A6 => ?_)
  refine s_one (.int .i64 (nthI tl k)) A6 S0 (g_loadXI (l := tl) (k := k) (by kernel_rfl) hrt (by have hlen := hnt; omega) (by kernel_rfl)) rfl (fun ac A7 => ?_)
  refine s_call (fs := #[]) (cp := #[]) (r := [(0, .int .i64 (nthI tl k))]) #[.int .i64 (nthI tl k)] (.bool (decide ((nthI tl k) ≥ 0))) A7 S0 (sends_s (nthI tl k) _) Try.call40 (by kernel_rfl) (by kernel_rfl) (by kernel_rfl) rfl (fun ac wc A8 S9 => ?_)
  refine s_one (.bool (!(decide ((nthI tl k) ≥ 0)))) A8 S9 (g_un (u := .bool (decide ((nthI tl k) ≥ 0))) (by kernel_rfl) (fun _ => by kernel_rfl)) rfl (fun ac A11 => ?_)
  refine wpList_nil ?_
  refine n_then ?_
  refine c_ifb (b := (!(decide ((nthI tl k) ≥ 0)))) A11 (by kernel_rfl) (fun h12 => ?_) (fun h12 => ?_)
  · have h13 : decide ((nthI tl k) ≥ 0) = false := by simpa using h12
    have p14 := of_decide_eq_false h13
    have hz : rcT tl lc clk k = -1 := if_neg (of_decide_eq_false h13)
    refine wp_seq ?_
    refine wp_region_lit ?_
    refine s_one (.int .i64 (-1)) A11 S9 (g_assign (by kernel_rfl)) rfl (fun ac A15 => ?_)
    refine wpList_nil ?_
    refine n_then ?_
    refine wp_ret ?_
    refine r_then ?_
    refine fin1 (.int .i64 (-1)) Try.results39 A15 S9 (rv_tmp (by kernel_rfl)) ⟨?_, S9.kp⟩
    rw [hz]
  · have h16 : decide ((nthI tl k) ≥ 0) = true := by simpa using h12
    have p17 := of_decide_eq_true h16
    have hz : rcT tl lc clk k = rnd (nthI tl k * lc) clk := if_pos (of_decide_eq_true h16)
    refine wp_skip ?_
    refine n_then ?_
    refine wp_seq ?_
    refine r_begin (w0 := w0) (by kernel_rfl) (S9.sub sub_all sub_all) (fun wc T18 B19 => ?_)
    have S20 := S9.kept B19
    refine r_take 0 (.func (.func 26) #[] #[.pointer (some ⟨gp, 0, none⟩), .pointer (some ⟨gq, 0, none⟩)]) A11 T18 (g_load (g := gt) (off := 0) 1 (by kernel_rfl) rfl (by kernel_rfl)) rfl rfl rfl (pf_then pf_body) (by kernel_rfl) (fun ac A21 => ?_)
    refine r_take 1 (.int .i64 (k : Int)) A21 T18 (g_move (by kernel_rfl)) rfl rfl rfl (pf_then pf_body) (by kernel_rfl) (fun ac A22 => ?_)
    refine r_take 2 (.pointer (some ⟨gl, 1, none⟩)) A22 T18 (g_field (u := .pointer (some ⟨gl, 0, none⟩)) (by kernel_rfl) (fun _ => by kernel_rfl)) rfl rfl rfl (pf_then pf_body) (by kernel_rfl) (fun ac A23 => ?_)
    refine r_take 3 (.slice (some ad5) m tcap) A23 T18 (g_load (g := gl) (off := 1) 0 (by kernel_rfl) rfl (by kernel_rfl)) rfl rfl rfl (pf_then pf_body) (by kernel_rfl) (fun ac A24 => ?_)
    refine r_take 4 (.int .i64 (k : Int)) A24 T18 (g_move (by kernel_rfl)) rfl rfl rfl (pf_then pf_body) (by kernel_rfl) (fun ac A25 => ?_)
    refine r_take 5 (.pointer (some (ad5.add k))) A25 T18 (g_index (u := .slice (some ad5) m tcap) (k := .int .i64 (k : Int)) (by kernel_rfl) (by kernel_rfl) (ix_x (e := 3) (bytes := 8) k (by kernel_rfl) (by omega) (by omega))) rfl rfl rfl (pf_then pf_body) (by kernel_rfl) (fun ac A26 => ?_)
    refine r_take 6 (.int .i64 (nthI tl k)) A26 T18 (g_loadXI (l := tl) (k := k) (by kernel_rfl) hrt (by have hlen := hnt; omega) (by kernel_rfl)) rfl rfl rfl (pf_then pf_body) (by kernel_rfl) (fun ac A27 => ?_)
    refine r_1 (i := 7) (by kernel_rfl) ?_
    refine rs_call (fs := #[]) (cp := #[.pointer (some ⟨gp, 0, none⟩), .pointer (some ⟨gq, 0, none⟩)]) (r := [(0, .int .i64 (k : Int)), (0, .int .i64 (nthI tl k))]) #[.int .i64 (k : Int), .int .i64 (nthI tl k), .pointer (some ⟨gp, 0, none⟩), .pointer (some ⟨gq, 0, none⟩)] (.int .i64 (rnd ((nthI tl k) * lc) clk)) A27 S20 sub_all sub_all (recast1_s (k : Int) (nthI tl k) gp gq (some ad5) m tcap lc clk _ (S20.get 2 rfl) (S20.get 3 rfl) (by omega) (by omega) (by omega)) Try.call26 rfl rfl (by kernel_rfl) (by kernel_rfl) (by kernel_rfl) rfl (fun ac wc A28 S29 => ?_)
    have T31 := S29.sub sub_all sub_all
    refine r_take 8 (.int .i64 (rnd ((nthI tl k) * lc) clk)) A28 T31 (g_assign (by kernel_rfl)) rfl rfl rfl (pf_then pf_body) (by kernel_rfl) (fun ac A32 => ?_)
    refine r_done (by kernel_rfl) ?_
    refine n_then ?_
    refine wp_ret ?_
    refine fin1 (.int .i64 (rnd ((nthI tl k) * lc) clk)) Try.results39 A32 S29 (rv_tmp (by kernel_rfl)) ⟨?_, S29.kp⟩
    rw [hz]

theorem bL_len (E : Int) {l : List Int} {n : Nat} (h : l.length = n) : (bL E l).length = bN E n * 1 := by
  unfold bL bN; split
  · omega
  · rfl

set_option maxRecDepth 100000 in
set_option maxHeartbeats 400000 in
theorem builtC_s (bc : Int) (n : Nat) (gl gt gp gq : Nat) (TA : Option Addr) (m tcap : Nat) (tl : List Int) (lc clk : Int) (w0 : World) (bl : Blk w0 gl 32 #[.int .i64 lc, .slice TA m tcap]) (bt : Blk w0 gt 65 #[.func (.func 26) #[] #[.pointer (some ⟨gp, 0, none⟩), .pointer (some ⟨gq, 0, none⟩)]]) (b2 : Blk w0 gp 32 #[.int .i64 lc, .slice TA m tcap]) (b3 : Blk w0 gq 3 #[.int .i64 clk]) (hnt : tl.length = m * 1) (hrt : IReads w0 TA tl) (hc1 : 1 ≤ lc ∧ lc ≤ 1000000) (hc2 : 1 ≤ clk ∧ clk ≤ 1000000) (htk : ∀ i, i < m → tkE tl i = 0) (hn9 : n ≤ 1000) (hnm : n ≤ m) :
    Calls Try.prog 33 #[.int .i64 bc, .int .i64 (n : Int), .func (.func 39) #[] #[.pointer (some ⟨gl, 0, none⟩), .pointer (some ⟨gt, 0, none⟩)]] w0 fun e w' => ∃ v, e = .returned (.tuple #[.agg #[.int .i64 (zv (feT (ovE (rcT tl lc clk)) n) bc), v], .int .i64 (feT (ovE (rcT tl lc clk)) n)]) ∧ Below w0.heap.size w0 w' ∧ w'.ownsRow w0.heap.size 3 1 v (bN (feT (ovE (rcT tl lc clk)) n) n) (rowI (bL (feT (ovE (rcT tl lc clk)) n) (tkF (rcT tl lc clk) n))) := by
  have S0 := St.start w0
  have S0 := S0.came b3 (by simp)
  have S0 := S0.came b2 (by simp)
  have S0 := S0.came bt (by simp)
  have S0 := S0.came bl (by simp)
  refine enter (n := 31) Try.func33 rfl rfl rfl (fun ac A0 => ?_)
  refine wp_seq ?_
  refine wp_region_lit ?_
  refine s_alloc (#[.int .i64 0, .slice none 0 0]) A0 S0 (by kernel_rfl) rfl (fun g3 ac wc A1 S2 => ?_)
  refine s_one (.int .i64 0) A1 S2 (g_assign (by kernel_rfl)) rfl (fun ac A4 => ?_)
  refine wpList_nil ?_
  refine n_then ?_
  refine wp_seq ?_
  refine wp_region_lit ?_
  refine s_one (.int .i64 bc) A4 S2 (g_move (by kernel_rfl)) rfl (fun ac A5 => ?_)
  refine s_one (.agg #[.int .i64 bc, .slice none 0 0]) A5 S2 (g_build (r := [(0, .int .i64 bc)]) (by kernel_rfl) (fun _ => by kernel_rfl)) rfl (fun ac A6 => ?_)
  refine s_alloc (#[.int .i64 0, .slice none 0 0]) A6 S2 (by kernel_rfl) rfl (fun g9 ac wc A7 S8 => ?_)
  refine s_store (g := g9) (off := 0) (v := .agg #[.int .i64 bc, .slice none 0 0]) 0 (#[.int .i64 bc, .slice none 0 0]) A7 S8 (by kernel_rfl) (by kernel_rfl) rfl (by kernel_rfl) (fun wc S11 => ?_)
  refine wpList_nil ?_
  refine n_then ?_
  refine wp_seq ?_
  refine wp_seq ?_
  have SN0 := S11.nilRow 3 1
  refine wp_region_lit ?_
  refine s_one (.int .i64 (n : Int)) A7 SN0 (g_move (by kernel_rfl)) rfl (fun ac A13 => ?_)
  refine s_one (.int .i64 0) A13 SN0 (g_move (by kernel_rfl)) rfl (fun ac A14 => ?_)
  refine wpList_nil ?_
  refine n_then ?_
  refine wp_block ?_
  refine c_loopN (fun mm ac wc => ∃ (k : Nat) (v : Value), mm = n - k ∧ (k ≤ n) ∧ (∀ i, i < k → ovE (rcT tl lc clk) i = 0) ∧ Fr 31 ac [(0, .int .i64 bc), (1, .int .i64 (n : Int)), (2, .func (.func 39) #[] #[.pointer (some ⟨gl, 0, none⟩), .pointer (some ⟨gt, 0, none⟩)]), (6, .pointer (some ⟨g3, 0, none⟩)), (11, .int .i64 bc), (12, .agg #[.int .i64 bc, .slice none 0 0]), (8, .pointer (some ⟨g9, 0, none⟩)), (13, .int .i64 (n : Int)), (14, .int .i64 (k : Int))] ∧ St w0 [⟨g9, 32, #[.int .i64 bc, v], true⟩, ⟨g3, 32, #[.int .i64 0, .slice none 0 0], true⟩, ⟨gl, 32, #[.int .i64 lc, .slice TA m tcap], false⟩, ⟨gt, 65, #[.func (.func 26) #[] #[.pointer (some ⟨gp, 0, none⟩), .pointer (some ⟨gq, 0, none⟩)]], false⟩, ⟨gp, 32, #[.int .i64 lc, .slice TA m tcap], false⟩, ⟨gq, 3, #[.int .i64 clk], false⟩] [⟨v, 3, 1, k, (rowI (tkF (rcT tl lc clk) k))⟩] wc) _ ⟨0, .slice none 0 0, rfl, (by omega), (fun i hi => absurd hi (by omega)), (A14.slot (A14.slot (A14.slot (A14.slot (A14.slot (A14.slot (A14.slot (A14.slot (A14.slot A14.nil (v := .int .i64 0) (by kernel_rfl) (congrArg (Value.int .i64) (by omega))) (v := .int .i64 (n : Int)) (by kernel_rfl) rfl) (v := .pointer (some ⟨g9, 0, none⟩)) (by kernel_rfl) rfl) (v := .agg #[.int .i64 bc, .slice none 0 0]) (by kernel_rfl) rfl) (v := .int .i64 bc) (by kernel_rfl) rfl) (v := .pointer (some ⟨g3, 0, none⟩)) (by kernel_rfl) rfl) (v := .func (.func 39) #[] #[.pointer (some ⟨gl, 0, none⟩), .pointer (some ⟨gt, 0, none⟩)]) (by kernel_rfl) rfl) (v := .int .i64 (n : Int)) (by kernel_rfl) rfl) (v := .int .i64 bc) (by kernel_rfl) rfl), (St.rerow 0 (St.recell 0 SN0 rfl (by rfl)) rfl ⟨rfl, rfl⟩).sub sub_all sub_all⟩ ?_
  rintro mm ac wc ⟨k, v, hm17, hk, ha, A15, S16⟩
  refine wp_seq ?_
  refine wp_region_lit ?_
  refine s_one (.bool (decide ((k : Int) < (n : Int)))) A15 S16 (g_bin (u := .int .i64 (k : Int)) (k := .int .i64 (n : Int)) (by kernel_rfl) (by kernel_rfl) (fun _ => by kernel_rfl) (fun _ => by kernel_rfl)) rfl (fun ac A18 => ?_)
  refine wpList_nil ?_
  refine n_then ?_
  refine wp_seq ?_
  refine c_ifb (b := (decide ((k : Int) < (n : Int)))) A18 (by kernel_rfl) (fun h19 => ?_) (fun h19 => ?_)
  · have p20 := of_decide_eq_true h19
    refine wp_skip ?_
    refine n_then ?_
    refine wp_seq ?_
    refine wp_block ?_
    refine wp_seq ?_
    refine wp_region_lit ?_
    refine s_one (.int .i64 (k : Int)) A18 S16 (g_move (by kernel_rfl)) rfl (fun ac A21 => ?_)
    refine s_one (.int .i64 (k : Int)) A21 S16 (g_assign (by kernel_rfl)) rfl (fun ac A22 => ?_)
    refine wpList_nil ?_
    refine n_then ?_
    refine wp_seq ?_
    refine wp_region_lit ?_
    refine s_one (.func (.func 39) #[] #[.pointer (some ⟨gl, 0, none⟩), .pointer (some ⟨gt, 0, none⟩)]) A22 S16 (g_move (by kernel_rfl)) rfl (fun ac A23 => ?_)
    refine s_one (.int .i64 (k : Int)) A23 S16 (g_move (by kernel_rfl)) rfl (fun ac A24 => ?_)
    refine s_call (fs := #[]) (cp := #[.pointer (some ⟨gl, 0, none⟩), .pointer (some ⟨gt, 0, none⟩)]) (r := [(0, .int .i64 (k : Int))]) #[.int .i64 (k : Int), .pointer (some ⟨gl, 0, none⟩), .pointer (some ⟨gt, 0, none⟩)] (.int .i64 (rcT tl lc clk k)) A24 S16 (changed1_s k gl gt gp gq TA m tcap tl lc clk _ (S16.get 2 rfl) (S16.get 3 rfl) (S16.get 4 rfl) (S16.get 5 rfl) (by have hlen := hnt; omega) (hrt.kept S16.kp) (by omega) (by omega) htk (by omega)) Try.call39 (by kernel_rfl) (by kernel_rfl) (by kernel_rfl) rfl (fun ac wc A25 S26 => ?_)
    refine s_one (.int .i64 (rcT tl lc clk k)) A25 S26 (g_assign (by kernel_rfl)) rfl (fun ac A28 => ?_)
    refine wpList_nil ?_
    refine n_then ?_
    refine wp_seq ?_
    refine wp_seq ?_
    refine wp_region_lit ?_
    refine s_one (.int .i64 (rcT tl lc clk k)) A28 S26 (g_move (by kernel_rfl)) rfl (fun ac A29 => ?_)
    refine s_one (.bool (decide (rcT tl lc clk k > 1000000))) A29 S26 (g_bin (u := .int .i64 (rcT tl lc clk k)) (k := .int .i64 1000000) (by kernel_rfl) (by kernel_rfl) (fun _ => by kernel_rfl) (fun _ => by kernel_rfl)) rfl (fun ac A30 => ?_)
    refine wpList_nil ?_
    refine n_then ?_
    refine c_ifb (b := (decide (rcT tl lc clk k > 1000000))) A30 (by kernel_rfl) (fun h31 => ?_) (fun h31 => ?_)
    · have p32 := of_decide_eq_true h31
      have hz : ovE (rcT tl lc clk) k = 8 := ovE_y (of_decide_eq_true h31)
      refine wp_seq ?_
      refine wp_region_lit ?_
      refine s_one (.agg #[.int .i64 0, .slice none 0 0]) A30 S26 (g_build (r := []) (by kernel_rfl) (fun _ => by kernel_rfl)) rfl (fun ac A33 => ?_)
      refine s_store (g := g3) (off := 0) (v := .agg #[.int .i64 0, .slice none 0 0]) 1 (#[.int .i64 0, .slice none 0 0]) A33 S26 (by kernel_rfl) (by kernel_rfl) rfl (by kernel_rfl) (fun wc S35 => ?_)
      refine s_one (.int .i64 8) A33 S35 (g_assign (by kernel_rfl)) rfl (fun ac A37 => ?_)
      refine wpList_nil ?_
      refine n_then ?_
      refine wp_ret ?_
      refine r_then ?_
      refine r_block ?_
      refine r_then ?_
      refine r_then ?_
      refine r_block ?_
      refine r_then ?_
      have S38 := S35.nilRow 3 1
      refine fin2 (.agg #[.int .i64 0, .slice none 0 0]) (.int .i64 8) Try.results33 A37 S38 (rv_cell (g := g3) (off := 0) 1 (by kernel_rfl) rfl (by kernel_rfl)) (rv_tmp (by kernel_rfl)) ?_
      have bw := S38.kp
      have ow := S38.row 0 rfl
      have er : (feT (ovE (rcT tl lc clk)) n) = 8 := (feT_at ha (by rw [hz]; decide) (by omega)).1.trans hz
      rw [zv_n (by rw [er]; decide), (b_n (by rw [er]; decide) n (tkF (rcT tl lc clk) n)).1, (b_n (by rw [er]; decide) n (tkF (rcT tl lc clk) n)).2, er]
      exact ⟨_, rfl, bw, ow⟩
    · have p39 := of_decide_eq_false h31
      have hz : ovE (rcT tl lc clk) k = 0 := ovE_n (of_decide_eq_false h31)
      refine wp_skip ?_
      refine n_then ?_
      refine wp_region_lit ?_
      refine s_one (.pointer (some ⟨g9, 1, none⟩)) A30 S26 (g_field (u := .pointer (some ⟨g9, 0, none⟩)) (by kernel_rfl) (fun _ => by kernel_rfl)) rfl (fun ac A40 => ?_)
      refine s_one (v) A40 S26 (g_load (g := g9) (off := 1) 0 (by kernel_rfl) rfl (by kernel_rfl)) rfl (fun ac A41 => ?_)
      refine s_one (.int .i64 (rcT tl lc clk k)) A41 S26 (g_move (by kernel_rfl)) rfl (fun ac A42 => ?_)
      refine s_bs (e := 3) (r := [(0, .int .i64 (rcT tl lc clk k))]) (#[.int .i64 (rcT tl lc clk k)]) A42 S26 (by kernel_rfl) (by kernel_rfl) rfl (fun g45 ac wc A43 S44 => ?_)
      refine s_append (e := 3) (size := 1) (bytes := 8) (v := v) (g := g45) (m' := 1) (c := 1) 0 0 [.int .i64 (rcT tl lc clk k)] A43 S44 (by kernel_rfl) (by kernel_rfl) (by kernel_rfl) rfl rfl (by kernel_rfl) rfl (by kernel_rfl) (by omega) (by omega) rfl (fun v49 ac wc A46 S47 => ?_)
      refine s_one (.pointer (some ⟨g9, 1, none⟩)) A46 S47 (g_field (u := .pointer (some ⟨g9, 0, none⟩)) (by kernel_rfl) (fun _ => by kernel_rfl)) rfl (fun ac A50 => ?_)
      obtain ⟨A51, cap52, rfl⟩ := row_slice (v := v49) (m := k + 1) (S47.row 0 rfl)
      refine s_store (g := g9) (off := 1) (v := .slice A51 (k + 1) cap52) 1 (#[.int .i64 bc, .slice A51 (k + 1) cap52]) A50 S47 (by kernel_rfl) (by kernel_rfl) rfl (by kernel_rfl) (fun wc S54 => ?_)
      refine wpList_nil ?_
      refine n_block ?_
      refine n_then ?_
      refine wp_region_lit ?_
      refine s_one (.int .i64 ((k : Int) + 1)) A50 S54 (g_bin (u := .int .i64 (k : Int)) (k := .int .i64 1) (by kernel_rfl) (by kernel_rfl) (fun _ => by kernel_rfl) (b_add (by omega))) rfl (fun ac A56 => ?_)
      refine s_one (.int .i64 ((k : Int) + 1)) A56 S54 (g_move (by kernel_rfl)) rfl (fun ac A57 => ?_)
      refine wpList_nil ?_
      refine n_then ?_
      refine ⟨_, ⟨k + 1, (.slice A51 (k + 1) cap52), rfl, (by omega), (all_step ha hz), (A57.slot (A57.slot (A57.slot (A57.slot (A57.slot (A57.slot (A57.slot (A57.slot (A57.slot A57.nil (v := .int .i64 ((k : Int) + 1)) (by kernel_rfl) (congrArg (Value.int .i64) (by omega))) (v := .int .i64 (n : Int)) (by kernel_rfl) rfl) (v := .pointer (some ⟨g9, 0, none⟩)) (by kernel_rfl) rfl) (v := .agg #[.int .i64 bc, .slice none 0 0]) (by kernel_rfl) rfl) (v := .int .i64 bc) (by kernel_rfl) rfl) (v := .pointer (some ⟨g3, 0, none⟩)) (by kernel_rfl) rfl) (v := .func (.func 39) #[] #[.pointer (some ⟨gl, 0, none⟩), .pointer (some ⟨gt, 0, none⟩)]) (by kernel_rfl) rfl) (v := .int .i64 (n : Int)) (by kernel_rfl) rfl) (v := .int .i64 bc) (by kernel_rfl) rfl), (St.rerow 0 (St.recell 1 S54 rfl (by rfl)) rfl ⟨rfl, tkF_snoc (rcT tl lc clk) k⟩).sub (sub_skip sub_all) sub_all⟩, ?_⟩
      omega
  · have p58 := of_decide_eq_false h19
    refine wp_exit ?_
    refine x_then ?_
    refine x_then ?_
    refine x_hit ?_
    refine n_then ?_
    refine wp_seq ?_
    refine wp_region_lit ?_
    refine s_one (.agg #[.int .i64 bc, v]) A18 S16 (g_load (g := g9) (off := 0) 0 (by kernel_rfl) rfl (by kernel_rfl)) rfl (fun ac A59 => ?_)
    obtain ⟨A60, cap61, rfl⟩ := row_slice (v := v) (m := k) (S16.row 0 rfl)
    refine s_store (g := g3) (off := 0) (v := .agg #[.int .i64 bc, .slice A60 k cap61]) 1 (#[.int .i64 bc, .slice A60 k cap61]) A59 S16 (by kernel_rfl) (by kernel_rfl) rfl (by kernel_rfl) (fun wc S63 => ?_)
    refine s_one (.int .i64 0) A59 S63 (g_assign (by kernel_rfl)) rfl (fun ac A65 => ?_)
    refine wpList_nil ?_
    refine n_then ?_
    refine wp_ret ?_
    refine fin2 (.agg #[.int .i64 bc, .slice A60 k cap61]) (.int .i64 0) Try.results33 A65 S63 (rv_cell (g := g3) (off := 0) 1 (by kernel_rfl) rfl (by kernel_rfl)) (rv_tmp (by kernel_rfl)) ?_
    have bw := S63.kp
    have ow := S63.row 0 rfl
    have hke : k = n := by omega
    rw [hke] at ow ha ⊢
    have er : (feT (ovE (rcT tl lc clk)) n) = 0 := (feT_0 ha).1
    rw [zv_0 er, (b_0 er n (tkF (rcT tl lc clk) n)).1, (b_0 er n (tkF (rcT tl lc clk) n)).2, er]
    exact ⟨_, rfl, bw, ow⟩

end Go.Proofs.Ytfeapeblnnmhlaa
