/- Elements of matrices: for all arguments. -/
import Derived.Test.YtcijkniijomcjaaMx13
namespace Go.Proofs.Ytcijkniijomcjaa
open Go.RowKit Go.Cpl

def mxE (l : List Int) (n e : Nat) : Nat → Int
  | 0 => 0
  | k + 1 => mx (mx (mxE l n e k) (gr l ((e * n + k) * 64) 64)) (gr l ((k * n + e) * 64) 64)
def rdeads (l : List Int) (n : Nat) (lv : Int) (k : Nat) : List Int := ((List.range k).filter fun e => decide (mxE l n e n ≤ lv)).map fun (e : Nat) => (e : Int)
theorem rdeads_len (l : List Int) (n : Nat) (lv : Int) (k : Nat) : (rdeads l n lv k).length ≤ k := by
  unfold rdeads
  rw [List.length_map]
  have := List.length_filter_le (fun e => decide (mxE l n e n ≤ lv)) (List.range k)
  simpa using this
theorem rdeads_y {l : List Int} {n : Nat} {lv : Int} {k : Nat} (h : mxE l n k n ≤ lv) : rdeads l n lv (k + 1) = rdeads l n lv k ++ [(k : Int)] := by simp [rdeads, List.range_succ, h]
theorem rdeads_n {l : List Int} {n : Nat} {lv : Int} {k : Nat} (h : ¬ mxE l n k n ≤ lv) : rdeads l n lv (k + 1) = rdeads l n lv k := by simp [rdeads, List.range_succ]; omega
theorem mxE_le {l : List Int} {n e : Nat} {lv : Int} (h0 : 0 ≤ lv) : ∀ k, mxE l n e k ≤ lv ↔ ∀ i, i < k → gr l ((e * n + i) * 64) 64 ≤ lv ∧ gr l ((i * n + e) * 64) 64 ≤ lv := by
  intro k
  induction k with
  | zero => exact ⟨fun _ i hi => absurd hi (Nat.not_lt_zero i), fun _ => h0⟩
  | succ k ih =>
    unfold mxE
    rw [mx_eq, mx_eq]
    constructor
    · intro h i hi
      rcases Nat.lt_or_ge i k with q | q
      · exact (ih.1 (by omega)) i q
      · obtain rfl : i = k := by omega
        omega
    · intro h
      have h1 := ih.2 (fun i hi => h i (by omega))
      have h2 := h k (by omega)
      omega
theorem mem_pairs {n : Nat} {p : Nat × Nat} : p ∈ pairsOf n ↔ p.1 < n ∧ p.2 < n := by
  constructor
  · intro h
    obtain ⟨s, t, e⟩ := List.append_of_mem h
    have := pairs_next e
    exact ⟨this.1, this.2.1⟩
  · intro h
    obtain ⟨rest, e⟩ := pairs_at h.1 h.2
    rw [e]; simp
theorem deads_eq (l : List Int) (n : Nat) {lv : Int} (h0 : 0 ≤ lv) : deads (alv l n lv (pairsOf n)) n = rdeads l n lv n := by
  unfold deads rdeads
  congr 1
  apply List.filter_congr
  intro e he
  have hen : e < n := List.mem_range.1 he
  rw [nthB_eq (by rw [alv_length]; exact hen)]
  simp only [alv, List.getElem_map, List.getElem_range]
  rw [Bool.eq_iff_iff, decide_eq_true_iff, mxE_le h0 n, Bool.not_eq_true', List.any_eq_false]
  constructor
  · intro h i hi
    have h1 := h (e, i) (mem_pairs.2 ⟨hen, hi⟩)
    have h2 := h (i, e) (mem_pairs.2 ⟨hi, hen⟩)
    simp [bigB] at h1 h2
    omega
  · intro h p hp
    have hm := mem_pairs.1 hp
    simp only [bigB, Bool.and_eq_true, decide_eq_true_iff, Bool.or_eq_true, beq_iff_eq, not_and, not_or]
    intro hb
    constructor
    · intro e1
      have := h p.2 hm.2
      rw [← e1] at this
      omega
    · intro e2
      have := h p.1 hm.1
      rw [← e2] at this
      omega

set_option maxRecDepth 100000 in
set_option maxHeartbeats 400000 in
theorem refDeadElements_ok (ne n cap : Nat) (A : Option Addr) (xs : List Nat) (lv : Int) (w0 : World) (hn : xs.length = n) (hr : FReads w0 A xs) (hm : n ≤ 1000) (h1 : 1 ≤ ne) (hne : n = ne * ne * 64) (h0 : (mxC (ne : Int) xs).2 = 0) :
    Calls Try.prog 41 #[.agg #[.int .i64 (ne : Int), .slice A n cap], .int .i64 lv] w0 fun e w' => ∃ v, e = .returned (v) ∧ Below w0.heap.size w0 w' ∧ w'.ownsRow w0.heap.size 3 1 v ((rdeads (mi xs) ne lv ne).length) (rowI (rdeads (mi xs) ne lv ne)) := by
  have S0 := St.start w0
  have hR : Right xs := right_of (mxC_0 h0).2.2
  have hpos : 0 < ne * ne := Nat.mul_pos h1 h1
  have hne3 : ne ≤ 3 := by rcases Nat.lt_or_ge 3 ne with q | q; have := Nat.mul_le_mul q q; omega; exact q
  have hee : ne * ne ≤ 15 := by omega
  refine enter (n := 43) Try.func41 rfl rfl rfl (fun ac A0 => ?_)
  refine wp_seq ?_
  refine wp_region_lit ?_
  refine s_box (.agg #[.int .i64 (ne : Int), .slice A n cap]) A0 S0 (by kernel_rfl) rfl (fun g3 ac wc A1 S2 => ?_)
  replace S2 : St _ (⟨g3, 30, #[.int .i64 (ne : Int), .slice A n cap], true⟩ :: _) _ _ := S2
  refine s_one (.slice none 0 0) A1 S2 (g_assign (by kernel_rfl)) rfl (fun ac A5 => ?_)
  refine wpList_nil ?_
  refine n_then ?_
  refine wp_seq ?_
  refine wp_region_lit ?_
  refine s_one (.slice none 0 0) A5 S2 (g_assign (by kernel_rfl)) rfl (fun ac A6 => ?_)
  refine wpList_nil ?_
  refine n_then ?_
  refine wp_seq ?_
  refine wp_seq ?_
  refine wp_region_lit ?_
  refine s_one (.int .i64 0) A6 S2 (g_assign (by kernel_rfl)) rfl (fun ac A7 => ?_)
  refine wpList_nil ?_
  refine n_then ?_
  refine wp_block ?_
  have S8 := S2.nilRow 3 1
  refine c_loopN (fun mm ac wc => ∃ (i : Nat) (v : Value), mm = ne - i ∧ (i ≤ ne) ∧ Fr 43 ac [(0, .agg #[.int .i64 (ne : Int), .slice A n cap]), (1, .int .i64 lv), (2, .pointer (some ⟨g3, 0, none⟩)), (4, .slice none 0 0), (6, .int .i64 (i : Int)), (5, v)] ∧ St w0 [⟨g3, 30, #[.int .i64 (ne : Int), .slice A n cap], true⟩] [⟨v, 3, 1, ((rdeads (mi xs) ne lv i).length), (rowI (rdeads (mi xs) ne lv i))⟩] wc) _ ⟨0, .slice none 0 0, rfl, Nat.zero_le _, (A7.slot (A7.slot (A7.slot (A7.slot (A7.slot (A7.slot A7.nil (v := .slice none 0 0) (by kernel_rfl) (by first | rfl | simp)) (v := .int .i64 0) (by kernel_rfl) (congrArg (Value.int .i64) (by omega))) (v := .slice none 0 0) (by kernel_rfl) rfl) (v := .pointer (some ⟨g3, 0, none⟩)) (by kernel_rfl) rfl) (v := .int .i64 lv) (by kernel_rfl) rfl) (v := .agg #[.int .i64 (ne : Int), .slice A n cap]) (by kernel_rfl) rfl), (St.rerow 0 S8 rfl ⟨rfl, rfl⟩).sub sub_all sub_all⟩ ?_
  rintro mm ac wc ⟨i, v, hm11, hi, A9, S10⟩
  have hdl := rdeads_len (mi xs) ne lv i
  refine wp_seq ?_
  refine wp_seq ?_
  refine wp_region_lit ?_
  refine s_one (.int .i64 (i : Int)) A9 S10 (g_move (by kernel_rfl)) rfl (fun ac A12 => ?_)
  refine s_one (.pointer (some ⟨g3, 0, none⟩)) A12 S10 (g_field (u := .pointer (some ⟨g3, 0, none⟩)) (by kernel_rfl) (fun _ => by kernel_rfl)) rfl (fun ac A13 => ?_)
  refine s_one (.int .i64 (ne : Int)) A13 S10 (g_load (g := g3) (off := 0) 0 (by kernel_rfl) rfl (by kernel_rfl)) rfl (fun ac A14 => ?_)
  refine s_one (.bool (decide ((i : Int) < (ne : Int)))) A14 S10 (g_bin (u := .int .i64 (i : Int)) (k := .int .i64 (ne : Int)) (by kernel_rfl) (by kernel_rfl) (fun _ => by kernel_rfl) (fun _ => by kernel_rfl)) rfl (fun ac A15 => ?_)
  refine wpList_nil ?_
  refine n_then ?_
  refine c_ifb (b := (decide ((i : Int) < (ne : Int)))) A15 (by kernel_rfl) (fun h16 => ?_) (fun h16 => ?_)
  · have p17 := of_decide_eq_true h16
    refine wp_skip ?_
    refine n_then ?_
    refine wp_seq ?_
    refine wp_block ?_
    refine wp_seq ?_
    refine wp_region_lit ?_
    refine s_one (.int .i64 0) A15 S10 (g_assign (by kernel_rfl)) rfl (fun ac A18 => ?_)
    refine wpList_nil ?_
    refine n_then ?_
    refine wp_seq ?_
    refine wp_seq ?_
    refine wp_region_lit ?_
    refine s_one (.int .i64 0) A18 S10 (g_assign (by kernel_rfl)) rfl (fun ac A19 => ?_)
    refine wpList_nil ?_
    refine n_then ?_
    refine wp_block ?_
    refine c_loopN (fun mm ac wc => ∃ (j : Nat), mm = ne - j ∧ (j ≤ ne) ∧ Fr 43 ac [(0, .agg #[.int .i64 (ne : Int), .slice A n cap]), (1, .int .i64 lv), (2, .pointer (some ⟨g3, 0, none⟩)), (4, .slice none 0 0), (6, .int .i64 (i : Int)), (5, v), (9, .int .i64 (i : Int)), (10, .pointer (some ⟨g3, 0, none⟩)), (11, .int .i64 (ne : Int)), (12, .bool (decide ((i : Int) < (ne : Int)))), (8, .int .i64 (j : Int)), (7, .int .i64 (mxE (mi xs) ne i j))] ∧ St w0 [⟨g3, 30, #[.int .i64 (ne : Int), .slice A n cap], true⟩] [⟨v, 3, 1, ((rdeads (mi xs) ne lv i).length), (rowI (rdeads (mi xs) ne lv i))⟩] wc) _ ⟨0, rfl, Nat.zero_le _, (A19.slot (A19.slot (A19.slot (A19.slot (A19.slot (A19.slot (A19.slot (A19.slot (A19.slot (A19.slot (A19.slot (A19.slot A19.nil (v := .int .i64 0) (by kernel_rfl) rfl) (v := .int .i64 0) (by kernel_rfl) (congrArg (Value.int .i64) (by omega))) (v := .bool (decide ((i : Int) < (ne : Int)))) (by kernel_rfl) rfl) (v := .int .i64 (ne : Int)) (by kernel_rfl) rfl) (v := .pointer (some ⟨g3, 0, none⟩)) (by kernel_rfl) rfl) (v := .int .i64 (i : Int)) (by kernel_rfl) rfl) (v := v) (by kernel_rfl) rfl) (v := .int .i64 (i : Int)) (by kernel_rfl) rfl) (v := .slice none 0 0) (by kernel_rfl) rfl) (v := .pointer (some ⟨g3, 0, none⟩)) (by kernel_rfl) rfl) (v := .int .i64 lv) (by kernel_rfl) rfl) (v := .agg #[.int .i64 (ne : Int), .slice A n cap]) (by kernel_rfl) rfl), S10.sub sub_all sub_all⟩ ?_
    rintro mm ac wc ⟨j, hm22, hj, A20, S21⟩
    refine wp_seq ?_
    refine wp_seq ?_
    refine wp_region_lit ?_
    refine s_one (.int .i64 (j : Int)) A20 S21 (g_move (by kernel_rfl)) rfl (fun ac A23 => ?_)
    refine s_one (.pointer (some ⟨g3, 0, none⟩)) A23 S21 (g_field (u := .pointer (some ⟨g3, 0, none⟩)) (by kernel_rfl) (fun _ => by kernel_rfl)) rfl (fun ac A24 => ?_)
    refine s_one (.int .i64 (ne : Int)) A24 S21 (g_load (g := g3) (off := 0) 0 (by kernel_rfl) rfl (by kernel_rfl)) rfl (fun ac A25 => ?_)
    refine s_one (.bool (decide ((j : Int) < (ne : Int)))) A25 S21 (g_bin (u := .int .i64 (j : Int)) (k := .int .i64 (ne : Int)) (by kernel_rfl) (by kernel_rfl) (fun _ => by kernel_rfl) (fun _ => by kernel_rfl)) rfl (fun ac A26 => ?_)
    refine wpList_nil ?_
    refine n_then ?_
    refine c_ifb (b := (decide ((j : Int) < (ne : Int)))) A26 (by kernel_rfl) (fun h27 => ?_) (fun h27 => ?_)
    · have p28 := of_decide_eq_true h27
      refine wp_skip ?_
      refine n_then ?_
      refine wp_seq ?_
      refine wp_block ?_
      refine r_begin (w0 := w0) (by kernel_rfl) (S21.sub sub_all sub_all) (fun wc T29 B30 => ?_)
      have S31 := S21.kept B30
      refine r_take 0 (.int .i64 (mxE (mi xs) ne i j)) A26 T29 (g_move (by kernel_rfl)) rfl rfl rfl (pf_block (pf_then (pf_then (pf_block (pf_then (pf_block (pf_then (pf_then (pf_block (pf_then pf_body)))))))))) (by kernel_rfl) (fun ac A32 => ?_)
      refine r_take 1 (.agg #[.int .i64 (ne : Int), .slice A n cap]) A32 T29 (g_load (g := g3) (off := 0) 0 (by kernel_rfl) rfl (by kernel_rfl)) rfl rfl rfl (pf_block (pf_then (pf_then (pf_block (pf_then (pf_block (pf_then (pf_then (pf_block (pf_then pf_body)))))))))) (by kernel_rfl) (fun ac A33 => ?_)
      refine r_take 2 (.int .i64 (i : Int)) A33 T29 (g_move (by kernel_rfl)) rfl rfl rfl (pf_block (pf_then (pf_then (pf_block (pf_then (pf_block (pf_then (pf_then (pf_block (pf_then pf_body)))))))))) (by kernel_rfl) (fun ac A34 => ?_)
      refine r_take 3 (.int .i64 (j : Int)) A34 T29 (g_move (by kernel_rfl)) rfl rfl rfl (pf_block (pf_then (pf_then (pf_block (pf_then (pf_block (pf_then (pf_then (pf_block (pf_then pf_body)))))))))) (by kernel_rfl) (fun ac A35 => ?_)
      refine r_take 4 (.agg #[.int .i64 (i : Int), .int .i64 (j : Int)]) A35 T29 (g_build (r := [(0, .int .i64 (i : Int)), (1, .int .i64 (j : Int))]) (by kernel_rfl) (fun _ => by kernel_rfl)) rfl rfl rfl (pf_block (pf_then (pf_then (pf_block (pf_then (pf_block (pf_then (pf_then (pf_block (pf_then pf_body)))))))))) (by kernel_rfl) (fun ac A36 => ?_)
      refine r_take 7 (.agg #[.int .i64 (ne : Int), .slice A n cap]) A36 T29 (g_load (g := g3) (off := 0) 0 (by kernel_rfl) rfl (by kernel_rfl)) rfl rfl rfl (pf_block (pf_then (pf_then (pf_block (pf_then (pf_block (pf_then (pf_then (pf_block (pf_then pf_body)))))))))) (by kernel_rfl) (fun ac A37 => ?_)
      refine r_take 8 (.int .i64 (j : Int)) A37 T29 (g_move (by kernel_rfl)) rfl rfl rfl (pf_block (pf_then (pf_then (pf_block (pf_then (pf_block (pf_then (pf_then (pf_block (pf_then pf_body)))))))))) (by kernel_rfl) (fun ac A38 => ?_)
      refine r_take 9 (.int .i64 (i : Int)) A38 T29 (g_move (by kernel_rfl)) rfl rfl rfl (pf_block (pf_then (pf_then (pf_block (pf_then (pf_block (pf_then (pf_then (pf_block (pf_then pf_body)))))))))) (by kernel_rfl) (fun ac A39 => ?_)
      refine r_take 10 (.agg #[.int .i64 (j : Int), .int .i64 (i : Int)]) A39 T29 (g_build (r := [(0, .int .i64 (j : Int)), (1, .int .i64 (i : Int))]) (by kernel_rfl) (fun _ => by kernel_rfl)) rfl rfl rfl (pf_block (pf_then (pf_then (pf_block (pf_then (pf_block (pf_then (pf_then (pf_block (pf_then pf_body)))))))))) (by kernel_rfl) (fun ac A40 => ?_)
      refine r_1 (i := 5) (by kernel_rfl) ?_
      refine rs_call (fs := #[]) (cp := #[]) (r := [(0, .agg #[.int .i64 (ne : Int), .slice A n cap]), (0, .agg #[.int .i64 (i : Int), .int .i64 (j : Int)])]) #[.agg #[.int .i64 (ne : Int), .slice A n cap], .agg #[.int .i64 (i : Int), .int .i64 (j : Int)]] (.agg (trc (mkT (nums (cutF xs (toI (ne : Int) (i : Int) (j : Int)) 64)) 64))) A40 S31 sub_all sub_all (refTraceOf_s (ne : Int) A n cap xs (i : Int) (j : Int) _ hn (hr.kept S31.kp) (by omega) (fo2_0 h0 (pairE_nat (by omega) (by omega) (by omega)))) Try.call20 rfl rfl (by kernel_rfl) (by kernel_rfl) (by kernel_rfl) rfl (fun ac wc A41 S42 => ?_)
      have T44 := S42.sub sub_all sub_all
      refine r_1 (i := 6) (by kernel_rfl) ?_
      refine rs_call (fs := #[]) (cp := #[]) (r := [(0, .agg (trc (mkT (nums (cutF xs (toI (ne : Int) (i : Int) (j : Int)) 64)) 64)))]) #[.agg (trc (mkT (nums (cutF xs (toI (ne : Int) (i : Int) (j : Int)) 64)) 64))] (.int .i64 (gr (mi xs) ((i * ne + j) * 64) 64)) A41 S42 sub_all sub_all (most_at xs ne i j _ hR (by have hlen := hn; have hpl := pair_lt (n := ne) (f := i) (r := j) (by omega) (by omega); omega)) Try.call88 rfl rfl (by kernel_rfl) (by kernel_rfl) (by kernel_rfl) rfl (fun ac wc A45 S46 => ?_)
      have T48 := S46.sub sub_all sub_all
      refine r_1 (i := 11) (by kernel_rfl) ?_
      refine rs_call (fs := #[]) (cp := #[]) (r := [(0, .agg #[.int .i64 (ne : Int), .slice A n cap]), (0, .agg #[.int .i64 (j : Int), .int .i64 (i : Int)])]) #[.agg #[.int .i64 (ne : Int), .slice A n cap], .agg #[.int .i64 (j : Int), .int .i64 (i : Int)]] (.agg (trc (mkT (nums (cutF xs (toI (ne : Int) (j : Int) (i : Int)) 64)) 64))) A45 S46 sub_all sub_all (refTraceOf_s (ne : Int) A n cap xs (j : Int) (i : Int) _ hn (hr.kept S46.kp) (by omega) (fo2_0 h0 (pairE_nat (by omega) (by omega) (by omega)))) Try.call20 rfl rfl (by kernel_rfl) (by kernel_rfl) (by kernel_rfl) rfl (fun ac wc A49 S50 => ?_)
      have T52 := S50.sub sub_all sub_all
      refine r_1 (i := 12) (by kernel_rfl) ?_
      refine rs_call (fs := #[]) (cp := #[]) (r := [(0, .agg (trc (mkT (nums (cutF xs (toI (ne : Int) (j : Int) (i : Int)) 64)) 64)))]) #[.agg (trc (mkT (nums (cutF xs (toI (ne : Int) (j : Int) (i : Int)) 64)) 64))] (.int .i64 (gr (mi xs) ((j * ne + i) * 64) 64)) A49 S50 sub_all sub_all (most_at xs ne j i _ hR (by have hlen := hn; have hpl := pair_lt (n := ne) (f := j) (r := i) (by omega) (by omega); omega)) Try.call88 rfl rfl (by kernel_rfl) (by kernel_rfl) (by kernel_rfl) rfl (fun ac wc A53 S54 => ?_)
      have T56 := S54.sub sub_all sub_all
      refine r_take 13 (.int .i64 (mx (mx (mxE (mi xs) ne i j) (gr (mi xs) ((i * ne + j) * 64) 64)) (gr (mi xs) ((j * ne + i) * 64) 64))) A53 T56 (g_built (r := [(0, .int .i64 (mxE (mi xs) ne i j)), (0, .int .i64 (gr (mi xs) ((i * ne + j) * 64) 64)), (0, .int .i64 (gr (mi xs) ((j * ne + i) * 64) 64))]) (by kernel_rfl) (fun ty cs w => by show (do let x ← Builtin.max_ _ ty #[.int .i64 (mxE (mi xs) ne i j), .int .i64 (gr (mi xs) ((i * ne + j) * 64) 64), .int .i64 (gr (mi xs) ((j * ne + i) * 64) 64)]; pure (Next.value x) : Sem Next).run _ w = _; rw [Sem.run_bind, run_max_mx3]; rfl)) rfl rfl rfl (pf_block (pf_then (pf_then (pf_block (pf_then (pf_block (pf_then (pf_then (pf_block (pf_then pf_body)))))))))) (by kernel_rfl) (fun ac A57 => ?_)
      refine r_take 14 (.int .i64 (mx (mx (mxE (mi xs) ne i j) (gr (mi xs) ((i * ne + j) * 64) 64)) (gr (mi xs) ((j * ne + i) * 64) 64))) A57 T56 (g_assign (by kernel_rfl)) rfl rfl rfl (pf_block (pf_then (pf_then (pf_block (pf_then (pf_block (pf_then (pf_then (pf_block (pf_then pf_body)))))))))) (by kernel_rfl) (fun ac A58 => ?_)
      refine r_done (by kernel_rfl) ?_
      refine n_block ?_
      refine n_then ?_
      refine wp_region_lit ?_
      refine s_one (.int .i64 (j : Int)) A58 S54 (g_move (by kernel_rfl)) rfl (fun ac A59 => ?_)
      refine s_one (.int .i64 ((j : Int) + 1)) A59 S54 (g_bin (u := .int .i64 (j : Int)) (k := .int .i64 1) (by kernel_rfl) (by kernel_rfl) (fun _ => by kernel_rfl) (b_add (by omega))) rfl (fun ac A60 => ?_)
      refine s_one (.int .i64 ((j : Int) + 1)) A60 S54 (g_assign (by kernel_rfl)) rfl (fun ac A61 => ?_)
      refine wpList_nil ?_
      refine n_then ?_
      refine ⟨_, ⟨j + 1, rfl, by omega, (A61.slot (A61.slot (A61.slot (A61.slot (A61.slot (A61.slot (A61.slot (A61.slot (A61.slot (A61.slot (A61.slot (A61.slot A61.nil (v := .int .i64 (mx (mx (mxE (mi xs) ne i j) (gr (mi xs) ((i * ne + j) * 64) 64)) (gr (mi xs) ((j * ne + i) * 64) 64))) (by kernel_rfl) rfl) (v := .int .i64 ((j : Int) + 1)) (by kernel_rfl) (congrArg (Value.int .i64) (by omega))) (v := .bool (decide ((i : Int) < (ne : Int)))) (by kernel_rfl) rfl) (v := .int .i64 (ne : Int)) (by kernel_rfl) rfl) (v := .pointer (some ⟨g3, 0, none⟩)) (by kernel_rfl) rfl) (v := .int .i64 (i : Int)) (by kernel_rfl) rfl) (v := v) (by kernel_rfl) rfl) (v := .int .i64 (i : Int)) (by kernel_rfl) rfl) (v := .slice none 0 0) (by kernel_rfl) rfl) (v := .pointer (some ⟨g3, 0, none⟩)) (by kernel_rfl) rfl) (v := .int .i64 lv) (by kernel_rfl) rfl) (v := .agg #[.int .i64 (ne : Int), .slice A n cap]) (by kernel_rfl) rfl), S54.sub sub_all sub_all⟩, ?_⟩
      omega
    · have p62 := of_decide_eq_false h27
      refine wp_exit ?_
      refine x_then ?_
      refine x_then ?_
      refine x_hit ?_
      refine n_then ?_
      refine wp_seq ?_
      have ej : j = ne := by omega
      refine wp_region_lit ?_
      refine s_one (.int .i64 (mxE (mi xs) ne i j)) A26 S21 (g_move (by kernel_rfl)) rfl (fun ac A63 => ?_)
      refine s_one (.int .i64 lv) A63 S21 (g_move (by kernel_rfl)) rfl (fun ac A64 => ?_)
      refine s_one (.bool (decide (mxE (mi xs) ne i j ≤ lv))) A64 S21 (g_bin (u := .int .i64 (mxE (mi xs) ne i j)) (k := .int .i64 lv) (by kernel_rfl) (by kernel_rfl) (fun _ => by kernel_rfl) (fun _ => by kernel_rfl)) rfl (fun ac A65 => ?_)
      refine wpList_nil ?_
      refine n_then ?_
      refine c_ifb (b := (decide (mxE (mi xs) ne i j ≤ lv))) A65 (by kernel_rfl) (fun h66 => ?_) (fun h66 => ?_)
      · have p67 := of_decide_eq_true h66
        refine wp_region_lit ?_
        refine s_one (v) A65 S21 (g_move (by kernel_rfl)) rfl (fun ac A68 => ?_)
        refine s_one (.int .i64 (i : Int)) A68 S21 (g_move (by kernel_rfl)) rfl (fun ac A69 => ?_)
        refine s_bs (e := 3) (r := [(0, .int .i64 (i : Int))]) (#[.int .i64 (i : Int)]) A69 S21 (by kernel_rfl) (by kernel_rfl) rfl (fun g72 ac wc A70 S71 => ?_)
        refine s_append (e := 3) (size := 1) (bytes := 8) (v := v) (g := g72) (m' := 1) (c := 1) 0 0 [.int .i64 (i : Int)] A70 S71 (by kernel_rfl) (by kernel_rfl) (by kernel_rfl) rfl rfl (by kernel_rfl) rfl (by kernel_rfl) (by omega) (by omega) rfl (fun v76 ac wc A73 S74 => ?_)
        refine s_one (v76) A73 S74 (g_assign (by kernel_rfl)) rfl (fun ac A77 => ?_)
        refine wpList_nil ?_
        refine n_block ?_
        refine n_then ?_
        refine wp_region_lit ?_
        refine s_one (.int .i64 (i : Int)) A77 S74 (g_move (by kernel_rfl)) rfl (fun ac A78 => ?_)
        refine s_one (.int .i64 ((i : Int) + 1)) A78 S74 (g_bin (u := .int .i64 (i : Int)) (k := .int .i64 1) (by kernel_rfl) (by kernel_rfl) (fun _ => by kernel_rfl) (b_add (by omega))) rfl (fun ac A79 => ?_)
        refine s_one (.int .i64 ((i : Int) + 1)) A79 S74 (g_assign (by kernel_rfl)) rfl (fun ac A80 => ?_)
        refine wpList_nil ?_
        refine n_then ?_
        refine ⟨_, ⟨i + 1, v76, rfl, by omega, (A80.slot (A80.slot (A80.slot (A80.slot (A80.slot (A80.slot A80.nil (v := v76) (by kernel_rfl) rfl) (v := .int .i64 ((i : Int) + 1)) (by kernel_rfl) (congrArg (Value.int .i64) (by omega))) (v := .slice none 0 0) (by kernel_rfl) rfl) (v := .pointer (some ⟨g3, 0, none⟩)) (by kernel_rfl) rfl) (v := .int .i64 lv) (by kernel_rfl) rfl) (v := .agg #[.int .i64 (ne : Int), .slice A n cap]) (by kernel_rfl) rfl), (St.rerow 0 S74 rfl ⟨by rw [rdeads_y (ej ▸ p67), List.length_append]; rfl, by rw [rdeads_y (ej ▸ p67)]; exact rowI_one_snoc _ _⟩).sub (sub_skip sub_all) sub_all⟩, ?_⟩
        omega
      · have p81 := of_decide_eq_false h66
        refine wp_skip ?_
        refine n_block ?_
        refine n_then ?_
        refine wp_region_lit ?_
        refine s_one (.int .i64 (i : Int)) A65 S21 (g_move (by kernel_rfl)) rfl (fun ac A82 => ?_)
        refine s_one (.int .i64 ((i : Int) + 1)) A82 S21 (g_bin (u := .int .i64 (i : Int)) (k := .int .i64 1) (by kernel_rfl) (by kernel_rfl) (fun _ => by kernel_rfl) (b_add (by omega))) rfl (fun ac A83 => ?_)
        refine s_one (.int .i64 ((i : Int) + 1)) A83 S21 (g_assign (by kernel_rfl)) rfl (fun ac A84 => ?_)
        refine wpList_nil ?_
        refine n_then ?_
        refine ⟨_, ⟨i + 1, v, rfl, by omega, (A84.slot (A84.slot (A84.slot (A84.slot (A84.slot (A84.slot A84.nil (v := v) (by kernel_rfl) rfl) (v := .int .i64 ((i : Int) + 1)) (by kernel_rfl) (congrArg (Value.int .i64) (by omega))) (v := .slice none 0 0) (by kernel_rfl) rfl) (v := .pointer (some ⟨g3, 0, none⟩)) (by kernel_rfl) rfl) (v := .int .i64 lv) (by kernel_rfl) rfl) (v := .agg #[.int .i64 (ne : Int), .slice A n cap]) (by kernel_rfl) rfl), (St.rerow 0 S21 rfl ⟨by rw [rdeads_n (ej ▸ p81)], by rw [rdeads_n (ej ▸ p81)]⟩).sub sub_all sub_all⟩, ?_⟩
        omega
  · have p85 := of_decide_eq_false h16
    refine wp_exit ?_
    refine x_then ?_
    refine x_then ?_
    refine x_hit ?_
    refine n_then ?_
    refine wp_seq ?_
    refine wp_region_lit ?_
    refine s_one (v) A15 S10 (g_move (by kernel_rfl)) rfl (fun ac A86 => ?_)
    refine s_one (v) A86 S10 (g_assign (by kernel_rfl)) rfl (fun ac A87 => ?_)
    refine wpList_nil ?_
    refine n_then ?_
    refine wp_ret ?_
    have ei : i = ne := by omega
    have SR : St w0 [⟨g3, 30, #[.int .i64 (ne : Int), .slice A n cap], true⟩] [⟨v, 3, 1, ((rdeads (mi xs) ne lv ne).length), (rowI (rdeads (mi xs) ne lv ne))⟩] _ := St.rerow 0 S10 rfl ⟨by rw [ei], by rw [ei]⟩
    obtain ⟨A88, cap89, rfl⟩ := row_slice (v := v) (m := (rdeads (mi xs) ne lv ne).length) (SR.row 0 rfl)
    refine fin1 (.slice A88 ((rdeads (mi xs) ne lv ne).length) cap89) Try.results41 A87 SR (rv_tmp (by kernel_rfl)) ?_
    have bw := SR.kp
    have ow := SR.row 0 rfl
    exact ⟨_, rfl, bw, ow⟩

def saW (el : Int) (xs : List Nat) : List (Nat × Nat) := if (mxC el xs).2 = 0 then (pairsOf el.toNat).filter (satB (mi xs) el.toNat) else []
def deW (el : Int) (xs : List Nat) (lv : Int) : List Int := if (mxC el xs).2 = 0 ∧ inB lv 0 2047 = true then deads (alv (mi xs) el.toNat lv (pairsOf el.toNat)) el.toNat else []
def deZ (el : Int) (xs : List Nat) (lv : Int) : Int := if (mxC el xs).2 = 0 then (if inB lv 0 2047 = true then 0 else 2) else (mxC el xs).2
theorem pairs_len (n : Nat) : (pairsOf n).length = n * n := by rw [pairsOf, preP_length, Nat.add_zero]
theorem el_le {el : Int} {xs : List Nat} (h : (mxC el xs).2 = 0) : el.toNat ≤ 16 := by have := (mxC_0 h).1; omega
theorem saW_le (el : Int) (xs : List Nat) : (saW el xs).length ≤ 256 := by
  unfold saW
  split
  · rename_i h
    have h1 := sel_len (B := satB (mi xs) el.toNat) (pairsOf el.toNat)
    rw [pairs_len] at h1
    have h2 := el_le h
    have h3 := Nat.mul_le_mul h2 h2
    omega
  · simp
theorem deW_le (el : Int) (xs : List Nat) (lv : Int) : (deW el xs lv).length ≤ 16 := by
  unfold deW
  split
  · rename_i h
    have h1 := deads_len (alv (mi xs) el.toNat lv (pairsOf el.toNat)) el.toNat
    have h2 := el_le h.1
    omega
  · simp
theorem saW_n {el : Int} {xs : List Nat} (h : ¬ (mxC el xs).2 = 0) : saW el xs = [] := if_neg h
theorem deW_n {el : Int} {xs : List Nat} {lv : Int} (h : ¬ (mxC el xs).2 = 0) : deW el xs lv = [] := if_neg fun q => h q.1
theorem deW_r {el : Int} {xs : List Nat} {lv : Int} (h : inB lv 0 2047 = false) : deW el xs lv = [] := if_neg fun q => by rw [h] at q; exact absurd q.2 (by decide)
theorem deZ_n {el : Int} {xs : List Nat} {lv : Int} (h : ¬ (mxC el xs).2 = 0) : deZ el xs lv = (mxC el xs).2 := if_neg h
theorem deZ_r {el : Int} {xs : List Nat} {lv : Int} (h : (mxC el xs).2 = 0) (h2 : inB lv 0 2047 = false) : deZ el xs lv = 2 := by unfold deZ; rw [if_pos h, h2]; rfl
theorem deZ_y {el : Int} {xs : List Nat} {lv : Int} (h : (mxC el xs).2 = 0) (h2 : inB lv 0 2047 = true) : deZ el xs lv = 0 := by unfold deZ; rw [if_pos h, h2]; rfl
theorem ownsRow_nil' {w : World} {B : Nat} {e : TypeId} {size : Nat} : w.ownsRow B e size (.slice none 0 0) 0 [] := World.ownsRow_nil _ _ _ _
theorem Saturated_s (el : Int) (A : Option Addr) (n cap : Nat) (xs : List Nat) (w0 : World) (hn : xs.length = n) (hr : FReads w0 A xs) (hm : n ≤ 1000) (hcp : n ≤ cap) :
    Calls Try.prog 36 #[.agg #[.int .i64 el, .slice A n cap]] w0 fun e w' => ∃ v, e = .returned (.tuple #[v, .int .i64 (mxC el xs).2]) ∧ Below w0.heap.size w0 w' ∧ w'.ownsRow w0.heap.size 26 2 v (saW el xs).length (rowI (flP (saW el xs))) := by
  by_cases h0 : (mxC el xs).2 = 0
  · rw [saW, if_pos h0, h0]
    obtain ⟨he1, he2, he3⟩ := mxC_0 h0
    have hsq := sq_bd he1
    obtain ⟨ne, rfl⟩ := Int.eq_ofNat_of_zero_le (show 0 ≤ el by omega)
    have hne : n = ne * ne * 64 := by
      have e : ((ne * ne : Nat) : Int) = (ne : Int) * (ne : Int) := Int.natCast_mul _ _
      omega
    obtain ⟨ad, rfl, _⟩ := hr 0 (by omega)
    exact Saturated_ok ne n cap ad xs w0 hn hr hm hcp (by omega) hne h0
  · rw [saW_n h0]
    refine (Saturated_err el A n cap xs w0 hn hr hm h0).mono ?_
    rintro e w' ⟨rfl, hb⟩
    exact ⟨_, rfl, hb, ownsRow_nil'⟩
theorem DeadElements_s (el : Int) (A : Option Addr) (n cap : Nat) (xs : List Nat) (lv : Int) (w0 : World) (hn : xs.length = n) (hr : FReads w0 A xs) (hm : n ≤ 1000) (hcp : n ≤ cap) :
    Calls Try.prog 35 #[.agg #[.int .i64 el, .slice A n cap], .int .i64 lv] w0 fun e w' => ∃ v, e = .returned (.tuple #[v, .int .i64 (deZ el xs lv)]) ∧ Below w0.heap.size w0 w' ∧ w'.ownsRow w0.heap.size 3 1 v (deW el xs lv).length (rowI (deW el xs lv)) := by
  by_cases h0 : (mxC el xs).2 = 0
  · cases hlv : inB lv 0 2047 with
    | true =>
      rw [deZ_y h0 hlv, deW, if_pos ⟨h0, hlv⟩]
      obtain ⟨he1, he2, he3⟩ := mxC_0 h0
      have hsq := sq_bd he1
      obtain ⟨ne, rfl⟩ := Int.eq_ofNat_of_zero_le (show 0 ≤ el by omega)
      have hne : n = ne * ne * 64 := by
        have e : ((ne * ne : Nat) : Int) = (ne : Int) * (ne : Int) := Int.natCast_mul _ _
        omega
      obtain ⟨ad, rfl, _⟩ := hr 0 (by omega)
      exact DeadElements_ok ne n cap ad xs lv w0 hn hr hm hcp (by omega) hne h0 hlv
    | false =>
      rw [deZ_r h0 hlv, deW_r hlv]
      obtain ⟨he1, he2, he3⟩ := mxC_0 h0
      have hsq := sq_bd he1
      obtain ⟨ne, rfl⟩ := Int.eq_ofNat_of_zero_le (show 0 ≤ el by omega)
      have hne : n = ne * ne * 64 := by
        have e : ((ne * ne : Nat) : Int) = (ne : Int) * (ne : Int) := Int.natCast_mul _ _
        omega
      obtain ⟨ad, rfl, _⟩ := hr 0 (by omega)
      refine (DeadElements_lv ne n cap ad xs lv w0 hn hr hm hcp (by omega) hne h0 hlv).mono ?_
      rintro e w' ⟨rfl, hb⟩
      exact ⟨_, rfl, hb, ownsRow_nil'⟩
  · rw [deZ_n h0, deW_n h0]
    refine (DeadElements_err el A n cap xs lv w0 hn hr hm h0).mono ?_
    rintro e w' ⟨rfl, hb⟩
    exact ⟨_, rfl, hb, ownsRow_nil'⟩
theorem refSaturated_s (el : Int) (A : Option Addr) (n cap : Nat) (xs : List Nat) (w0 : World) (hn : xs.length = n) (hr : FReads w0 A xs) (hm : n ≤ 1000) (h0 : (mxC el xs).2 = 0) :
    Calls Try.prog 38 #[.agg #[.int .i64 el, .slice A n cap]] w0 fun e w' => ∃ v, e = .returned v ∧ Below w0.heap.size w0 w' ∧ w'.ownsRow w0.heap.size 26 2 v (saW el xs).length (rowI (flP (saW el xs))) := by
  rw [saW, if_pos h0]
  obtain ⟨he1, he2, he3⟩ := mxC_0 h0
  have hsq := sq_bd he1
  obtain ⟨ne, rfl⟩ := Int.eq_ofNat_of_zero_le (show 0 ≤ el by omega)
  have hne : n = ne * ne * 64 := by
    have e : ((ne * ne : Nat) : Int) = (ne : Int) * (ne : Int) := Int.natCast_mul _ _
    omega
  obtain ⟨ad, rfl, _⟩ := hr 0 (by omega)
  exact refSaturated_ok ne n cap (some ad) xs w0 hn hr hm (by omega) hne h0
theorem refDeadElements_s (el : Int) (A : Option Addr) (n cap : Nat) (xs : List Nat) (lv : Int) (w0 : World) (hn : xs.length = n) (hr : FReads w0 A xs) (hm : n ≤ 1000) (h0 : (mxC el xs).2 = 0) (hlv : inB lv 0 2047 = true) :
    Calls Try.prog 41 #[.agg #[.int .i64 el, .slice A n cap], .int .i64 lv] w0 fun e w' => ∃ v, e = .returned v ∧ Below w0.heap.size w0 w' ∧ w'.ownsRow w0.heap.size 3 1 v (deW el xs lv).length (rowI (deW el xs lv)) := by
  rw [deW, if_pos ⟨h0, hlv⟩, deads_eq _ _ (inB_true.1 hlv).1]
  obtain ⟨he1, he2, he3⟩ := mxC_0 h0
  have hsq := sq_bd he1
  obtain ⟨ne, rfl⟩ := Int.eq_ofNat_of_zero_le (show 0 ≤ el by omega)
  have hne : n = ne * ne * 64 := by
    have e : ((ne * ne : Nat) : Int) = (ne : Int) * (ne : Int) := Int.natCast_mul _ _
    omega
  obtain ⟨ad, rfl, _⟩ := hr 0 (by omega)
  exact refDeadElements_ok ne n cap (some ad) xs lv w0 hn hr hm (by omega) hne h0

end Go.Proofs.Ytcijkniijomcjaa
