/- The walk of TraceGains: it returns true. -/
import Derived.Test.YtfooefkgdcjlhaaGains
import Derived.Test.YtfooefkgdcjlhaaArgs
namespace Go.Proofs.Ytfooefkgdcjlhaa
open Go.RowKit Go.Cpl

theorem gn_bad {xs : List Nat} (p q : Int) (h : (firstErr xs 0).2 ≠ 0) : gnRes xs p q = (zT, 0, (firstErr xs 0).2) := if_pos h
theorem gn_err {xs : List Nat} {p q : Int} (h : (firstErr xs 0).2 = 0) (h2 : refGainErr_a_r p q ≠ 0) : gnRes xs p q = (zT, 0, refGainErr_a_r p q) := by
  unfold gnRes refGainErr_a_r at *
  rw [if_neg (by rw [h]; simp)]
  cases a : isLow p q with
  | false => rfl
  | true =>
    rw [if_pos rfl]
    rw [a] at h2
    cases b : inB p 0 1000 with
    | false => simp
    | true =>
      rw [b] at h2
      by_cases c : q > 1000
      · rw [if_neg (by omega)]; simp [c]
      · simp [c] at h2
theorem gn_ok {xs : List Nat} {p q : Int} (h : (firstErr xs 0).2 = 0) (h2 : refGainErr_a_r p q = 0) : gnRes xs p q = (mkT (gnL (nums xs) p q) 64, gnC (nums xs) p q 64, 0) ∧ (0 ≤ p ∧ p ≤ 1000) ∧ 1 ≤ q ∧ q ≤ 1000 := by
  unfold gnRes refGainErr_a_r at *
  rw [if_neg (by rw [h]; simp)]
  cases a : isLow p q with
  | false => rw [a] at h2; simp at h2
  | true =>
    have := isLow_pos a
    rw [if_pos rfl]
    rw [a] at h2
    cases b : inB p 0 1000 with
    | false => rw [b] at h2; simp at h2
    | true =>
      have := inB_true.1 b
      rw [b] at h2
      by_cases c : q > 1000
      · simp [c] at h2
      · rw [if_pos ⟨rfl, by omega⟩]; exact ⟨rfl, this, by omega, by omega⟩
theorem one_err : refGainErr_a_r 1 1 = 0 := by
  have e : isLow 1 1 = true := by
    unfold isLow; rw [euc_step (by omega), show Int.tmod 1 1 = 0 by decide, euc_zero]; decide
  unfold refGainErr_a_r; rw [e]; decide
theorem one_N {x : List Int} (k : Nat) : gnN x 1 1 k = nthI x k := by unfold gnN rounded_a_r; omega
theorem one_F {x : List Int} (h : Small x) (k : Nat) : gnF x 1 1 k = nthI x k := by unfold gnF; rw [one_N, mx_eq, mn_eq]; have := h k; omega
theorem one_C {x : List Int} (h : Small x) : ∀ k, gnC x 1 1 k = 0
  | 0 => rfl
  | k + 1 => by simp only [gnC]; rw [one_C h k, one_F h, one_N]; simp
theorem one_L {x : List Int} (hl : x.length = 64) (h : Small x) : gnL x 1 1 = x := by
  apply List.ext_getElem
  · rw [gnL_length, hl]
  · intro i h1 h2
    simp only [gnL, List.getElem_map, List.getElem_range]
    rw [one_F h, nthI_eq h2]
theorem cut_bd (l : List Int) (k : Nat) : (nthI (cuts l) k).natAbs < 16777216 := by
  by_cases h : k < (cuts l).length
  · rw [nthI_eq h]; simp only [cuts, List.getElem_map, cutI]; rw [mx_eq, mn_eq]; omega
  · rw [nthI_out (by omega)]; decide
theorem mk_again (l : List Int) (n : Nat) : mkT (nums (mkT (cuts l) n)) 64 = mkT (cuts l) n := by
  apply List.ext_getElem
  · rw [mkT_length, mkT_length]
  · intro i h1 h2
    rw [mkT_length] at h2
    have e : ∀ (x : List Int) (m : Nat) (h : i < (mkT x m).length), (mkT x m)[i] = if i < m then floatOfInt .f32 (nthI x i) else 0 := fun x m h => by simp [mkT, done]
    rw [e, e, if_pos h2]
    have e2 : nthI (nums (mkT (cuts l) n)) i = num (nth (mkT (cuts l) n) i) := by
      rw [nthI_eq (by rw [nums_length]; exact h2)]; simp [nums]
    rw [e2, show nth (mkT (cuts l) n) i = if i < n then floatOfInt .f32 (nthI (cuts l) i) else 0 from mk_done h2]
    split
    · rw [num_of _ (cut_bd _ _)]
    · have e0 : floatOfInt .f32 0 = 0 := by kernel_rfl
      have e1 := num_of 0 (by decide)
      rw [e0] at e1
      rw [e1, e0]
theorem gn_one {l : List Int} {n : Nat} (h : (firstErr (mkT (cuts l) n) 0).2 = 0) : gnRes (mkT (cuts l) n) 1 1 = (mkT (cuts l) n, 0, 0) := by
  have s : Small (nums (mkT (cuts l) n)) := nums_range (mkT_length _ _) (right_of h)
  rw [(gn_ok h one_err).1, one_C s, one_L (nums_length _) s, mk_again]

set_option maxRecDepth 100000 in
set_option maxHeartbeats 400000 in
theorem TraceGains_s (l : List Int) (A : Option Addr) (cap n : Nat) (p q : Int) (w0 : World) (hn : l.length = n) (hr : IReads w0 A l) (iq : q ≤ 9223372036854775807) :
    Calls Try.prog 9 #[.slice A n cap, .agg #[.int .i64 p, .int .i64 q]] w0 fun e w' => e = .returned (.bool true) ∧ Below w0.heap.size w0 w' := by
  have S0 := St.start w0
  refine enter (n := 91) Try.func9 rfl rfl rfl (fun ac A0 => ?_)
  refine wp_seq ?_
  refine wp_region_lit ?_
  refine s_box (.agg #[.int .i64 p, .int .i64 q]) A0 S0 (by kernel_rfl) rfl (fun g3 ac wc A1 S2 => ?_)
  replace S2 : St _ (⟨g3, 81, #[.int .i64 p, .int .i64 q], true⟩ :: _) _ _ := S2
  refine s_one (.bool false) A1 S2 (g_assign (by kernel_rfl)) rfl (fun ac A5 => ?_)
  refine wpList_nil ?_
  refine n_then ?_
  refine wp_seq ?_
  refine wp_seq ?_
  refine wp_region_lit ?_
  refine s_call (fs := #[]) (cp := #[]) (r := []) #[] (.bool true) A5 S2 (awake_any _) Try.call13 (by kernel_rfl) (by kernel_rfl) (by kernel_rfl) rfl (fun ac wc A6 S7 => ?_)
  refine s_one (.bool false) A6 S7 (g_un (u := .bool true) (by kernel_rfl) (fun _ => by kernel_rfl)) rfl (fun ac A9 => ?_)
  refine wpList_nil ?_
  refine n_then ?_
  refine c_f (b := false) A9 (by kernel_rfl) rfl ?_
  refine wp_skip ?_
  refine n_then ?_
  refine wp_seq ?_
  refine wp_seq ?_
  refine wp_region_lit ?_
  refine s_one (.slice A n cap) A9 S7 (g_move (by kernel_rfl)) rfl (fun ac A10 => ?_)
  refine s_one (.int .i64 (n : Int)) A10 S7 (g_built (r := [(0, .slice A n cap)]) (by kernel_rfl) (fun _ _ _ => by kernel_rfl)) rfl (fun ac A11 => ?_)
  refine s_one (.bool (decide ((n : Int) > 64))) A11 S7 (g_bin (u := .int .i64 (n : Int)) (k := .int .i64 64) (by kernel_rfl) (by kernel_rfl) (fun _ => by kernel_rfl) (fun _ => by kernel_rfl)) rfl (fun ac A12 => ?_)
  refine wpList_nil ?_
  refine n_then ?_
  refine c_ifb (b := (decide ((n : Int) > 64))) A12 (by kernel_rfl) (fun h13 => ?_) (fun h13 => ?_)
  · have p14 := of_decide_eq_true h13
    refine wp_seq ?_
    refine wp_region_lit ?_
    refine s_one (.bool true) A12 S7 (g_assign (by kernel_rfl)) rfl (fun ac A15 => ?_)
    refine wpList_nil ?_
    refine n_then ?_
    refine wp_ret ?_
    refine r_then ?_
    refine fin1 (.bool true) Try.results9 A15 S7 (rv_tmp (by kernel_rfl)) ⟨?_, S7.kp⟩
    rfl
  · have p16 := of_decide_eq_false h13
    refine wp_skip ?_
    refine n_then ?_
    refine wp_seq ?_
    refine wp_region_lit ?_
    refine s_one (.slice A n cap) A12 S7 (g_move (by kernel_rfl)) rfl (fun ac A17 => ?_)
    refine s_call (fs := #[]) (cp := #[]) (r := [(0, .slice A n cap)]) #[.slice A n cap] (.agg (trc (mkT (cuts l) n))) A17 S7 (made_s l A cap n _ hn (hr.kept S7.kp) (by omega)) Try.call16 (by kernel_rfl) (by kernel_rfl) (by kernel_rfl) rfl (fun ac wc A18 S19 => ?_)
    refine s_alloc (trc zT) A18 S19 zero26 rfl (fun g23 ac wc A21 S22 => ?_)
    refine s_store (g := g23) (off := 0) (v := .agg (trc (mkT (cuts l) n))) 0 (trc (mkT (cuts l) n)) A21 S22 (by kernel_rfl) (by kernel_rfl) rfl (putVal_whole ((trc_size _).trans zT_length) ((trc_size _).trans (done_length _ _ _ _)) ⟨⟨_, Try.underlying26, rfl⟩, by kernel_rfl⟩ (trc_one _)) (fun wc S25 => ?_)
    refine wpList_nil ?_
    refine n_then ?_
    refine wp_seq ?_
    refine wp_region_lit ?_
    refine s_one (.agg (trc (mkT (cuts l) n))) A21 S25 (g_loadW (g := g23) 0 (by kernel_rfl) rfl ((trc_size _).trans (done_length _ _ _ _)) ⟨⟨_, Try.underlying26, rfl⟩, by kernel_rfl⟩) rfl (fun ac A27 => ?_)
    refine s_one (.agg #[.int .i64 p, .int .i64 q]) A27 S25 (g_load (g := g3) (off := 0) 1 (by kernel_rfl) rfl (by kernel_rfl)) rfl (fun ac A28 => ?_)
    refine s_call (fs := #[]) (cp := #[]) (r := [(0, .agg (trc (mkT (cuts l) n))), (0, .agg #[.int .i64 p, .int .i64 q])]) #[.agg (trc (mkT (cuts l) n)), .agg #[.int .i64 p, .int .i64 q]] (.tuple #[.agg (trc ((gnRes (mkT (cuts l) n) p q).1)), .int .i64 ((gnRes (mkT (cuts l) n) p q).2.1), .int .i64 ((gnRes (mkT (cuts l) n) p q).2.2)]) A28 S25 (Gained_s (mkT (cuts l) n) p q _ (done_length _ _ _ _)) Try.call40 (by kernel_rfl) (by kernel_rfl) (by kernel_rfl) rfl (fun ac wc A29 S30 => ?_)
    refine s_one (.tuple #[.agg (trc ((gnRes (mkT (cuts l) n) p q).1)), .int .i64 ((gnRes (mkT (cuts l) n) p q).2.1), .int .i64 ((gnRes (mkT (cuts l) n) p q).2.2)]) A29 S30 (g_move (by kernel_rfl)) rfl (fun ac A32 => ?_)
    refine s_one (.agg (trc ((gnRes (mkT (cuts l) n) p q).1))) A32 S30 (g_extract (u := .tuple #[.agg (trc ((gnRes (mkT (cuts l) n) p q).1)), .int .i64 ((gnRes (mkT (cuts l) n) p q).2.1), .int .i64 ((gnRes (mkT (cuts l) n) p q).2.2)]) (by kernel_rfl) (fun _ => by kernel_rfl)) rfl (fun ac A33 => ?_)
    refine s_one (.int .i64 ((gnRes (mkT (cuts l) n) p q).2.1)) A33 S30 (g_extract (u := .tuple #[.agg (trc ((gnRes (mkT (cuts l) n) p q).1)), .int .i64 ((gnRes (mkT (cuts l) n) p q).2.1), .int .i64 ((gnRes (mkT (cuts l) n) p q).2.2)]) (by kernel_rfl) (fun _ => by kernel_rfl)) rfl (fun ac A34 => ?_)
    refine s_one (.int .i64 ((gnRes (mkT (cuts l) n) p q).2.2)) A34 S30 (g_extract (u := .tuple #[.agg (trc ((gnRes (mkT (cuts l) n) p q).1)), .int .i64 ((gnRes (mkT (cuts l) n) p q).2.1), .int .i64 ((gnRes (mkT (cuts l) n) p q).2.2)]) (by kernel_rfl) (fun _ => by kernel_rfl)) rfl (fun ac A35 => ?_)
    refine s_alloc (trc zT) A35 S30 zero26 rfl (fun g38 ac wc A36 S37 => ?_)
    refine s_store (g := g38) (off := 0) (v := .agg (trc ((gnRes (mkT (cuts l) n) p q).1))) 0 (trc ((gnRes (mkT (cuts l) n) p q).1)) A36 S37 (by kernel_rfl) (by kernel_rfl) rfl (putVal_whole ((trc_size _).trans zT_length) ((trc_size _).trans (gnRes_length _ _ _)) ⟨⟨_, Try.underlying26, rfl⟩, by kernel_rfl⟩ (trc_one _)) (fun wc S40 => ?_)
    refine s_one (.int .i64 ((gnRes (mkT (cuts l) n) p q).2.1)) A36 S40 (g_assign (by kernel_rfl)) rfl (fun ac A42 => ?_)
    refine s_one (.int .i64 ((gnRes (mkT (cuts l) n) p q).2.2)) A42 S40 (g_assign (by kernel_rfl)) rfl (fun ac A43 => ?_)
    refine wpList_nil ?_
    refine n_then ?_
    refine wp_seq ?_
    refine wp_region_lit ?_
    refine s_one (.agg (trc (mkT (cuts l) n))) A43 S40 (g_loadW (g := g23) 1 (by kernel_rfl) rfl ((trc_size _).trans (done_length _ _ _ _)) ⟨⟨_, Try.underlying26, rfl⟩, by kernel_rfl⟩) rfl (fun ac A44 => ?_)
    refine s_call (fs := #[]) (cp := #[]) (r := [(0, .agg (trc (mkT (cuts l) n)))]) #[.agg (trc (mkT (cuts l) n))] (.tuple #[.int .i64 ((firstErr (mkT (cuts l) n) 0).1 : Int), .int .i64 ((firstErr (mkT (cuts l) n) 0).2)]) A44 S40 (refCheckTrace_any (mkT (cuts l) n) _ (done_length _ _ _ _)) Try.call15 (by kernel_rfl) (by kernel_rfl) (by kernel_rfl) rfl (fun ac wc A45 S46 => ?_)
    refine s_one (.tuple #[.int .i64 ((firstErr (mkT (cuts l) n) 0).1 : Int), .int .i64 ((firstErr (mkT (cuts l) n) 0).2)]) A45 S46 (g_move (by kernel_rfl)) rfl (fun ac A48 => ?_)
    refine s_one (.int .i64 ((firstErr (mkT (cuts l) n) 0).1 : Int)) A48 S46 (g_extract (u := .tuple #[.int .i64 ((firstErr (mkT (cuts l) n) 0).1 : Int), .int .i64 ((firstErr (mkT (cuts l) n) 0).2)]) (by kernel_rfl) (fun _ => by kernel_rfl)) rfl (fun ac A49 => ?_)
    refine s_one (.int .i64 ((firstErr (mkT (cuts l) n) 0).2)) A49 S46 (g_extract (u := .tuple #[.int .i64 ((firstErr (mkT (cuts l) n) 0).1 : Int), .int .i64 ((firstErr (mkT (cuts l) n) 0).2)]) (by kernel_rfl) (fun _ => by kernel_rfl)) rfl (fun ac A50 => ?_)
    refine s_one (.int .i64 ((firstErr (mkT (cuts l) n) 0).1 : Int)) A50 S46 (g_assign (by kernel_rfl)) rfl (fun ac A51 => ?_)
    refine s_one (.int .i64 ((firstErr (mkT (cuts l) n) 0).2)) A51 S46 (g_assign (by kernel_rfl)) rfl (fun ac A52 => ?_)
    refine wpList_nil ?_
    refine n_then ?_
    refine wp_seq ?_
    refine wp_seq ?_
    refine wp_region_lit ?_
    refine s_one (.int .i64 ((firstErr (mkT (cuts l) n) 0).2)) A52 S46 (g_move (by kernel_rfl)) rfl (fun ac A53 => ?_)
    refine s_one (.bool (decide ((firstErr (mkT (cuts l) n) 0).2 = 0))) A53 S46 (g_bin (u := .int .i64 ((firstErr (mkT (cuts l) n) 0).2)) (k := .int .i64 0) (by kernel_rfl) (by kernel_rfl) (fun _ => by kernel_rfl) b_eql) rfl (fun ac A54 => ?_)
    refine wpList_nil ?_
    refine n_then ?_
    refine c_ifb (b := (decide ((firstErr (mkT (cuts l) n) 0).2 = 0))) A54 (by kernel_rfl) (fun h55 => ?_) (fun h55 => ?_)
    · have p56 := of_decide_eq_true h55
      refine wp_region_lit ?_
      refine s_one (.agg #[.int .i64 p, .int .i64 q]) A54 S46 (g_load (g := g3) (off := 0) 2 (by kernel_rfl) rfl (by kernel_rfl)) rfl (fun ac A57 => ?_)
      refine s_call (fs := #[]) (cp := #[]) (r := [(0, .agg #[.int .i64 p, .int .i64 q])]) #[.agg #[.int .i64 p, .int .i64 q]] (.int .i64 (refGainErr_a_r p q)) A57 S46 (refGainErr_a p q _ (by omega)) Try.call41 (by kernel_rfl) (by kernel_rfl) (by kernel_rfl) rfl (fun ac wc A58 S59 => ?_)
      refine s_one (.int .i64 (refGainErr_a_r p q)) A58 S59 (g_assign (by kernel_rfl)) rfl (fun ac A61 => ?_)
      refine wpList_nil ?_
      refine n_then ?_
      refine wp_seq ?_
      refine wp_region_lit ?_
      refine s_alloc (trc zT) A61 S59 zero26 rfl (fun g64 ac wc A62 S63 => ?_)
      refine wpList_nil ?_
      refine n_then ?_
      refine wp_seq ?_
      refine wp_region_lit ?_
      refine s_one (.int .i64 0) A62 S63 (g_assign (by kernel_rfl)) rfl (fun ac A65 => ?_)
      refine wpList_nil ?_
      refine n_then ?_
      refine wp_seq ?_
      refine wp_seq ?_
      refine wp_region_lit ?_
      refine s_one (.int .i64 (refGainErr_a_r p q)) A65 S63 (g_move (by kernel_rfl)) rfl (fun ac A66 => ?_)
      refine s_one (.bool (decide ((refGainErr_a_r p q) = 0))) A66 S63 (g_bin (u := .int .i64 (refGainErr_a_r p q)) (k := .int .i64 0) (by kernel_rfl) (by kernel_rfl) (fun _ => by kernel_rfl) b_eql) rfl (fun ac A67 => ?_)
      refine wpList_nil ?_
      refine n_then ?_
      refine c_ifb (b := (decide ((refGainErr_a_r p q) = 0))) A67 (by kernel_rfl) (fun h68 => ?_) (fun h68 => ?_)
      · have p69 := of_decide_eq_true h68
        have hg := (gn_ok (xs := mkT (cuts l) n) (p := p) (q := q) (by omega) (by simpa using h68)).2
        refine wp_region_lit ?_
        refine s_one (.agg (trc (mkT (cuts l) n))) A67 S63 (g_loadW (g := g23) 2 (by kernel_rfl) rfl ((trc_size _).trans (done_length _ _ _ _)) ⟨⟨_, Try.underlying26, rfl⟩, by kernel_rfl⟩) rfl (fun ac A70 => ?_)
        refine s_one (.agg #[.int .i64 p, .int .i64 q]) A70 S63 (g_load (g := g3) (off := 0) 3 (by kernel_rfl) rfl (by kernel_rfl)) rfl (fun ac A71 => ?_)
        refine s_call (fs := #[]) (cp := #[]) (r := [(0, .agg (trc (mkT (cuts l) n))), (0, .agg #[.int .i64 p, .int .i64 q])]) #[.agg (trc (mkT (cuts l) n)), .agg #[.int .i64 p, .int .i64 q]] (.tuple #[.agg (trc (mkT (gnL (nums (mkT (cuts l) n)) p q) 64)), .int .i64 (gnC (nums (mkT (cuts l) n)) p q 64)]) A71 S63 (refGained_s (mkT (cuts l) n) p q _ (done_length _ _ _ _) (right_of (by omega)) (by omega) (by omega) (by omega) (by omega)) Try.call42 (by kernel_rfl) (by kernel_rfl) (by kernel_rfl) rfl (fun ac wc A72 S73 => ?_)
        refine s_one (.tuple #[.agg (trc (mkT (gnL (nums (mkT (cuts l) n)) p q) 64)), .int .i64 (gnC (nums (mkT (cuts l) n)) p q 64)]) A72 S73 (g_move (by kernel_rfl)) rfl (fun ac A75 => ?_)
        refine s_one (.agg (trc (mkT (gnL (nums (mkT (cuts l) n)) p q) 64))) A75 S73 (g_extract (u := .tuple #[.agg (trc (mkT (gnL (nums (mkT (cuts l) n)) p q) 64)), .int .i64 (gnC (nums (mkT (cuts l) n)) p q 64)]) (by kernel_rfl) (fun _ => by kernel_rfl)) rfl (fun ac A76 => ?_)
        refine s_one (.int .i64 (gnC (nums (mkT (cuts l) n)) p q 64)) A76 S73 (g_extract (u := .tuple #[.agg (trc (mkT (gnL (nums (mkT (cuts l) n)) p q) 64)), .int .i64 (gnC (nums (mkT (cuts l) n)) p q 64)]) (by kernel_rfl) (fun _ => by kernel_rfl)) rfl (fun ac A77 => ?_)
        refine s_store (g := g64) (off := 0) (v := .agg (trc (mkT (gnL (nums (mkT (cuts l) n)) p q) 64))) 0 (trc (mkT (gnL (nums (mkT (cuts l) n)) p q) 64)) A77 S73 (by kernel_rfl) (by kernel_rfl) rfl (putVal_whole ((trc_size _).trans zT_length) ((trc_size _).trans (mkT_length _ _)) ⟨⟨_, Try.underlying26, rfl⟩, by kernel_rfl⟩ (trc_one _)) (fun wc S79 => ?_)
        refine s_one (.int .i64 (gnC (nums (mkT (cuts l) n)) p q 64)) A77 S79 (g_assign (by kernel_rfl)) rfl (fun ac A81 => ?_)
        refine wpList_nil ?_
        refine n_then ?_
        refine wp_seq ?_
        refine wp_seq ?_
        refine wp_region_lit ?_
        refine s_one (.int .i64 ((gnRes (mkT (cuts l) n) p q).2.2)) A81 S79 (g_move (by kernel_rfl)) rfl (fun ac A82 => ?_)
        refine s_one (.int .i64 (refGainErr_a_r p q)) A82 S79 (g_move (by kernel_rfl)) rfl (fun ac A83 => ?_)
        refine s_one (.bool (decide ((gnRes (mkT (cuts l) n) p q).2.2 ≠ (refGainErr_a_r p q)))) A83 S79 (g_bin (u := .int .i64 ((gnRes (mkT (cuts l) n) p q).2.2)) (k := .int .i64 (refGainErr_a_r p q)) (by kernel_rfl) (by kernel_rfl) (fun _ => by kernel_rfl) b_neq) rfl (fun ac A84 => ?_)
        refine s_one (.bool (decide ((gnRes (mkT (cuts l) n) p q).2.2 ≠ (refGainErr_a_r p q)))) A84 S79 (g_move (by kernel_rfl)) rfl (fun ac A85 => ?_)
        refine s_want (dj := 52) (b := (decide ((gnRes (mkT (cuts l) n) p q).2.2 ≠ (refGainErr_a_r p q)))) A85 (by kernel_rfl) (by kernel_rfl) (decide_eq_false (fun h => h (by (rw [(gn_ok (by omega) (by omega)).1]) <;> (show (0 : Int) = _; omega)))) ?_
        refine s_one (.agg (trc ((gnRes (mkT (cuts l) n) p q).1))) A85 S79 (g_loadW (g := g38) 1 (by kernel_rfl) rfl ((trc_size _).trans (gnRes_length _ _ _)) ⟨⟨_, Try.underlying26, rfl⟩, by kernel_rfl⟩) rfl (fun ac A86 => ?_)
        refine s_want (dj := 52) (b := (decide ((gnRes (mkT (cuts l) n) p q).2.2 ≠ (refGainErr_a_r p q)))) A86 (by kernel_rfl) (by kernel_rfl) (decide_eq_false (fun h => h (by (rw [(gn_ok (by omega) (by omega)).1]) <;> (show (0 : Int) = _; omega)))) ?_
        refine s_one (.agg (trc (mkT (gnL (nums (mkT (cuts l) n)) p q) 64))) A86 S79 (g_loadW (g := g64) 0 (by kernel_rfl) rfl ((trc_size _).trans (mkT_length _ _)) ⟨⟨_, Try.underlying26, rfl⟩, by kernel_rfl⟩) rfl (fun ac A87 => ?_)
        refine s_want (dj := 52) (b := (decide ((gnRes (mkT (cuts l) n) p q).2.2 ≠ (refGainErr_a_r p q)))) A87 (by kernel_rfl) (by kernel_rfl) (decide_eq_false (fun h => h (by (rw [(gn_ok (by omega) (by omega)).1]) <;> (show (0 : Int) = _; omega)))) ?_
        refine s_call (fs := #[]) (cp := #[]) (r := [(0, .agg (trc ((gnRes (mkT (cuts l) n) p q).1))), (0, .agg (trc (mkT (gnL (nums (mkT (cuts l) n)) p q) 64)))]) #[.agg (trc ((gnRes (mkT (cuts l) n) p q).1)), .agg (trc (mkT (gnL (nums (mkT (cuts l) n)) p q) 64))] (.bool true) A87 S79 (SameTrace_eq ((gnRes (mkT (cuts l) n) p q).1) (mkT (gnL (nums (mkT (cuts l) n)) p q) 64) (by rw [(gn_ok (by omega) (by omega)).1]) _ (gnRes_length _ _ _)) Try.call43 (by kernel_rfl) (by kernel_rfl) (by kernel_rfl) rfl (fun ac wc A88 S89 => ?_)
        refine s_want (dj := 52) (b := (decide ((gnRes (mkT (cuts l) n) p q).2.2 ≠ (refGainErr_a_r p q)))) A88 (by kernel_rfl) (by kernel_rfl) (decide_eq_false (fun h => h (by (rw [(gn_ok (by omega) (by omega)).1]) <;> (show (0 : Int) = _; omega)))) ?_
        refine s_one (.bool false) A88 S89 (g_un (u := .bool true) (by kernel_rfl) (fun _ => by kernel_rfl)) rfl (fun ac A91 => ?_)
        refine s_one (.bool false) A91 S89 (g_pick_f (b := (decide ((gnRes (mkT (cuts l) n) p q).2.2 ≠ (refGainErr_a_r p q)))) (by kernel_rfl) (decide_eq_false (fun h => h (by (rw [(gn_ok (by omega) (by omega)).1]) <;> (show (0 : Int) = _; omega)))) (by kernel_rfl)) rfl (fun ac A92 => ?_)
        refine s_one (.bool false) A92 S89 (g_move (by kernel_rfl)) rfl (fun ac A93 => ?_)
        refine s_want (dj := 58) (b := false) A93 (by kernel_rfl) (by kernel_rfl) rfl ?_
        refine s_one (.int .i64 ((gnRes (mkT (cuts l) n) p q).2.1)) A93 S89 (g_move (by kernel_rfl)) rfl (fun ac A94 => ?_)
        refine s_want (dj := 58) (b := false) A94 (by kernel_rfl) (by kernel_rfl) rfl ?_
        refine s_one (.int .i64 (gnC (nums (mkT (cuts l) n)) p q 64)) A94 S89 (g_move (by kernel_rfl)) rfl (fun ac A95 => ?_)
        refine s_want (dj := 58) (b := false) A95 (by kernel_rfl) (by kernel_rfl) rfl ?_
        refine s_one (.bool (decide ((gnRes (mkT (cuts l) n) p q).2.1 ≠ gnC (nums (mkT (cuts l) n)) p q 64))) A95 S89 (g_bin (u := .int .i64 ((gnRes (mkT (cuts l) n) p q).2.1)) (k := .int .i64 (gnC (nums (mkT (cuts l) n)) p q 64)) (by kernel_rfl) (by kernel_rfl) (fun _ => by kernel_rfl) b_neq) rfl (fun ac A96 => ?_)
        refine s_one (.bool (decide ((gnRes (mkT (cuts l) n) p q).2.1 ≠ gnC (nums (mkT (cuts l) n)) p q 64))) A96 S89 (g_pick_f (b := false) (by kernel_rfl) rfl (by kernel_rfl)) rfl (fun ac A97 => ?_)
        refine wpList_nil ?_
        refine n_then ?_
        refine c_f (b := (decide ((gnRes (mkT (cuts l) n) p q).2.1 ≠ gnC (nums (mkT (cuts l) n)) p q 64))) A97 (by kernel_rfl) (decide_eq_false (fun h => h (by (rw [(gn_ok (by omega) (by omega)).1]) <;> (show (0 : Int) = _; omega)))) ?_
        refine wp_skip ?_
        refine n_then ?_
        refine wp_seq ?_
        refine r_begin (w0 := w0) (by kernel_rfl) (S89.sub sub_all sub_all) (fun wc T98 B99 => ?_)
        have S100 := S89.kept B99
        refine r_take 0 (.agg (trc (mkT (cuts l) n))) A97 T98 (g_loadW (g := g23) 2 (by kernel_rfl) rfl ((trc_size _).trans (done_length _ _ _ _)) ⟨⟨_, Try.underlying26, rfl⟩, by kernel_rfl⟩) rfl rfl rfl (pf_then pf_body) (by kernel_rfl) (fun ac A101 => ?_)
        refine r_2 (i := 1) (j := 7) (by kernel_rfl) ?_ ?_
        · refine rs_call (fs := #[]) (cp := #[]) (r := [(0, .int .i64 1)]) #[.int .i64 1] (.agg #[.int .i64 1, .int .i64 1]) A101 S100 sub_all sub_all (Whole_s 1 _) Try.call44 rfl rfl (by kernel_rfl) (by kernel_rfl) (by kernel_rfl) rfl (fun ac wc A102 S103 => ?_)
          have T105 := S103.sub sub_all sub_all
          refine r_2 (i := 2) (j := 7) (by kernel_rfl) ?_ ?_
          · refine rs_call (fs := #[]) (cp := #[]) (r := [(0, .agg (trc (mkT (cuts l) n))), (0, .agg #[.int .i64 1, .int .i64 1])]) #[.agg (trc (mkT (cuts l) n)), .agg #[.int .i64 1, .int .i64 1]] (.tuple #[.agg (trc ((gnRes (mkT (cuts l) n) 1 1).1)), .int .i64 ((gnRes (mkT (cuts l) n) 1 1).2.1), .int .i64 ((gnRes (mkT (cuts l) n) 1 1).2.2)]) A102 S103 sub_all sub_all (Gained_s (mkT (cuts l) n) 1 1 _ (done_length _ _ _ _)) Try.call40 rfl rfl (by kernel_rfl) (by kernel_rfl) (by kernel_rfl) rfl (fun ac wc A106 S107 => ?_)
            have T109 := S107.sub sub_all sub_all
            refine r_take 3 (.tuple #[.agg (trc ((gnRes (mkT (cuts l) n) 1 1).1)), .int .i64 ((gnRes (mkT (cuts l) n) 1 1).2.1), .int .i64 ((gnRes (mkT (cuts l) n) 1 1).2.2)]) A106 T109 (g_move (by kernel_rfl)) rfl rfl rfl (pf_then pf_body) (by kernel_rfl) (fun ac A110 => ?_)
            refine r_take 4 (.agg (trc ((gnRes (mkT (cuts l) n) 1 1).1))) A110 T109 (g_extract (u := .tuple #[.agg (trc ((gnRes (mkT (cuts l) n) 1 1).1)), .int .i64 ((gnRes (mkT (cuts l) n) 1 1).2.1), .int .i64 ((gnRes (mkT (cuts l) n) 1 1).2.2)]) (by kernel_rfl) (fun _ => by kernel_rfl)) rfl rfl rfl (pf_then pf_body) (by kernel_rfl) (fun ac A111 => ?_)
            refine r_take 5 (.int .i64 ((gnRes (mkT (cuts l) n) 1 1).2.1)) A111 T109 (g_extract (u := .tuple #[.agg (trc ((gnRes (mkT (cuts l) n) 1 1).1)), .int .i64 ((gnRes (mkT (cuts l) n) 1 1).2.1), .int .i64 ((gnRes (mkT (cuts l) n) 1 1).2.2)]) (by kernel_rfl) (fun _ => by kernel_rfl)) rfl rfl rfl (pf_then pf_body) (by kernel_rfl) (fun ac A112 => ?_)
            refine r_take 6 (.int .i64 ((gnRes (mkT (cuts l) n) 1 1).2.2)) A112 T109 (g_extract (u := .tuple #[.agg (trc ((gnRes (mkT (cuts l) n) 1 1).1)), .int .i64 ((gnRes (mkT (cuts l) n) 1 1).2.1), .int .i64 ((gnRes (mkT (cuts l) n) 1 1).2.2)]) (by kernel_rfl) (fun _ => by kernel_rfl)) rfl rfl rfl (pf_then pf_body) (by kernel_rfl) (fun ac A113 => ?_)
            refine r_1 (i := 7) (by kernel_rfl) ?_
            refine rs_alloc (trc zT) A113 S107 sub_all sub_all zero26 rfl rfl rfl (fun g116 ac wc A114 S115 => ?_)
            have T117 := S115.sub (sub_skip sub_all) sub_all
            refine r_1 (i := 8) (by kernel_rfl) ?_
            refine rs_store (g := g116) (off := 0) (v := .agg (trc ((gnRes (mkT (cuts l) n) 1 1).1))) 0 (trc ((gnRes (mkT (cuts l) n) 1 1).1)) A114 S115 (sub_skip sub_all) sub_all (by kernel_rfl) (by kernel_rfl) rfl (putVal_whole ((trc_size _).trans zT_length) ((trc_size _).trans (gnRes_length _ _ _)) ⟨⟨_, Try.underlying26, rfl⟩, by kernel_rfl⟩ (trc_one _)) rfl rfl (fun wc S119 => ?_)
            have T121 := S119.sub (sub_skip sub_all) sub_all
            refine r_take 9 (.int .i64 ((gnRes (mkT (cuts l) n) 1 1).2.1)) A114 T121 (g_assign (by kernel_rfl)) rfl rfl rfl (pf_then pf_body) (by kernel_rfl) (fun ac A122 => ?_)
            refine r_take 10 (.int .i64 ((gnRes (mkT (cuts l) n) 1 1).2.2)) A122 T121 (g_assign (by kernel_rfl)) rfl rfl rfl (pf_then pf_body) (by kernel_rfl) (fun ac A123 => ?_)
            refine r_done (by kernel_rfl) ?_
            refine n_then ?_
            refine wp_seq ?_
            refine wp_region_lit ?_
            refine s_one (.agg (trc (mkT (cuts l) n))) A123 S119 (g_loadW (g := g23) 3 (by kernel_rfl) rfl ((trc_size _).trans (done_length _ _ _ _)) ⟨⟨_, Try.underlying26, rfl⟩, by kernel_rfl⟩) rfl (fun ac A124 => ?_)
            refine s_call (fs := #[]) (cp := #[]) (r := [(0, .agg (trc (mkT (cuts l) n)))]) #[.agg (trc (mkT (cuts l) n))] (.tuple #[.int .i64 ((firstErr (mkT (cuts l) n) 0).1 : Int), .int .i64 ((firstErr (mkT (cuts l) n) 0).2)]) A124 S119 (refCheckTrace_any (mkT (cuts l) n) _ (done_length _ _ _ _)) Try.call15 (by kernel_rfl) (by kernel_rfl) (by kernel_rfl) rfl (fun ac wc A125 S126 => ?_)
            refine s_one (.tuple #[.int .i64 ((firstErr (mkT (cuts l) n) 0).1 : Int), .int .i64 ((firstErr (mkT (cuts l) n) 0).2)]) A125 S126 (g_move (by kernel_rfl)) rfl (fun ac A128 => ?_)
            refine s_one (.int .i64 ((firstErr (mkT (cuts l) n) 0).1 : Int)) A128 S126 (g_extract (u := .tuple #[.int .i64 ((firstErr (mkT (cuts l) n) 0).1 : Int), .int .i64 ((firstErr (mkT (cuts l) n) 0).2)]) (by kernel_rfl) (fun _ => by kernel_rfl)) rfl (fun ac A129 => ?_)
            refine s_one (.int .i64 ((firstErr (mkT (cuts l) n) 0).2)) A129 S126 (g_extract (u := .tuple #[.int .i64 ((firstErr (mkT (cuts l) n) 0).1 : Int), .int .i64 ((firstErr (mkT (cuts l) n) 0).2)]) (by kernel_rfl) (fun _ => by kernel_rfl)) rfl (fun ac A130 => ?_)
            refine s_one (.int .i64 ((firstErr (mkT (cuts l) n) 0).1 : Int)) A130 S126 (g_assign (by kernel_rfl)) rfl (fun ac A131 => ?_)
            refine s_one (.int .i64 ((firstErr (mkT (cuts l) n) 0).2)) A131 S126 (g_assign (by kernel_rfl)) rfl (fun ac A132 => ?_)
            refine wpList_nil ?_
            refine n_then ?_
            refine wp_seq ?_
            refine wp_region_lit ?_
            refine s_one (.int .i64 ((gnRes (mkT (cuts l) n) 1 1).2.2)) A132 S126 (g_move (by kernel_rfl)) rfl (fun ac A133 => ?_)
            refine s_one (.int .i64 ((firstErr (mkT (cuts l) n) 0).2)) A133 S126 (g_move (by kernel_rfl)) rfl (fun ac A134 => ?_)
            refine s_one (.bool (decide ((gnRes (mkT (cuts l) n) 1 1).2.2 = (firstErr (mkT (cuts l) n) 0).2))) A134 S126 (g_bin (u := .int .i64 ((gnRes (mkT (cuts l) n) 1 1).2.2)) (k := .int .i64 ((firstErr (mkT (cuts l) n) 0).2)) (by kernel_rfl) (by kernel_rfl) (fun _ => by kernel_rfl) b_eql) rfl (fun ac A135 => ?_)
            refine s_one (.bool (decide ((gnRes (mkT (cuts l) n) 1 1).2.2 = (firstErr (mkT (cuts l) n) 0).2))) A135 S126 (g_move (by kernel_rfl)) rfl (fun ac A136 => ?_)
            refine s_want (dj := 78) (b := (decide ((gnRes (mkT (cuts l) n) 1 1).2.2 = (firstErr (mkT (cuts l) n) 0).2))) A136 (by kernel_rfl) (by kernel_rfl) (decide_eq_true (by (rw [gn_one (by omega)]) <;> (show (0 : Int) = _; omega))) ?_
            refine s_one (.int .i64 ((gnRes (mkT (cuts l) n) 1 1).2.1)) A136 S126 (g_move (by kernel_rfl)) rfl (fun ac A137 => ?_)
            refine s_want (dj := 78) (b := (decide ((gnRes (mkT (cuts l) n) 1 1).2.2 = (firstErr (mkT (cuts l) n) 0).2))) A137 (by kernel_rfl) (by kernel_rfl) (decide_eq_true (by (rw [gn_one (by omega)]) <;> (show (0 : Int) = _; omega))) ?_
            refine s_one (.bool (decide ((gnRes (mkT (cuts l) n) 1 1).2.1 = 0))) A137 S126 (g_bin (u := .int .i64 ((gnRes (mkT (cuts l) n) 1 1).2.1)) (k := .int .i64 0) (by kernel_rfl) (by kernel_rfl) (fun _ => by kernel_rfl) b_eql) rfl (fun ac A138 => ?_)
            refine s_one (.bool (decide ((gnRes (mkT (cuts l) n) 1 1).2.1 = 0))) A138 S126 (g_pick_t (b := (decide ((gnRes (mkT (cuts l) n) 1 1).2.2 = (firstErr (mkT (cuts l) n) 0).2))) (by kernel_rfl) (decide_eq_true (by (rw [gn_one (by omega)]) <;> (show (0 : Int) = _; omega))) (by kernel_rfl)) rfl (fun ac A139 => ?_)
            refine s_one (.bool (decide ((gnRes (mkT (cuts l) n) 1 1).2.1 = 0))) A139 S126 (g_move (by kernel_rfl)) rfl (fun ac A140 => ?_)
            refine s_want (dj := 82) (b := (decide ((gnRes (mkT (cuts l) n) 1 1).2.1 = 0))) A140 (by kernel_rfl) (by kernel_rfl) (decide_eq_true (by (rw [gn_one (by omega)]) <;> (show (0 : Int) = _; omega))) ?_
            refine s_one (.int .i64 ((firstErr (mkT (cuts l) n) 0).2)) A140 S126 (g_move (by kernel_rfl)) rfl (fun ac A141 => ?_)
            refine s_want (dj := 82) (b := (decide ((gnRes (mkT (cuts l) n) 1 1).2.1 = 0))) A141 (by kernel_rfl) (by kernel_rfl) (decide_eq_true (by (rw [gn_one (by omega)]) <;> (show (0 : Int) = _; omega))) ?_
            refine s_one (.bool (decide ((firstErr (mkT (cuts l) n) 0).2 ≠ 0))) A141 S126 (g_bin (u := .int .i64 ((firstErr (mkT (cuts l) n) 0).2)) (k := .int .i64 0) (by kernel_rfl) (by kernel_rfl) (fun _ => by kernel_rfl) b_neq) rfl (fun ac A142 => ?_)
            refine s_want (dj := 82) (b := (decide ((gnRes (mkT (cuts l) n) 1 1).2.1 = 0))) A142 (by kernel_rfl) (by kernel_rfl) (decide_eq_true (by (rw [gn_one (by omega)]) <;> (show (0 : Int) = _; omega))) ?_
            refine s_one (.bool (decide ((firstErr (mkT (cuts l) n) 0).2 ≠ 0))) A142 S126 (g_move (by kernel_rfl)) rfl (fun ac A143 => ?_)
            refine s_want (dj := 85) (b := (decide ((firstErr (mkT (cuts l) n) 0).2 ≠ 0))) A143 (by kernel_rfl) (by kernel_rfl) (decide_eq_false (by omega)) ?_
            refine s_one (.agg (trc ((gnRes (mkT (cuts l) n) 1 1).1))) A143 S126 (g_loadW (g := g116) 0 (by kernel_rfl) rfl ((trc_size _).trans (gnRes_length _ _ _)) ⟨⟨_, Try.underlying26, rfl⟩, by kernel_rfl⟩) rfl (fun ac A144 => ?_)
            refine s_want (dj := 85) (b := (decide ((firstErr (mkT (cuts l) n) 0).2 ≠ 0))) A144 (by kernel_rfl) (by kernel_rfl) (decide_eq_false (by omega)) ?_
            refine s_one (.agg (trc (mkT (cuts l) n))) A144 S126 (g_loadW (g := g23) 3 (by kernel_rfl) rfl ((trc_size _).trans (done_length _ _ _ _)) ⟨⟨_, Try.underlying26, rfl⟩, by kernel_rfl⟩) rfl (fun ac A145 => ?_)
            refine s_want (dj := 85) (b := (decide ((firstErr (mkT (cuts l) n) 0).2 ≠ 0))) A145 (by kernel_rfl) (by kernel_rfl) (decide_eq_false (by omega)) ?_
            refine s_call (fs := #[]) (cp := #[]) (r := [(0, .agg (trc ((gnRes (mkT (cuts l) n) 1 1).1))), (0, .agg (trc (mkT (cuts l) n)))]) #[.agg (trc ((gnRes (mkT (cuts l) n) 1 1).1)), .agg (trc (mkT (cuts l) n))] (.bool true) A145 S126 (SameTrace_eq ((gnRes (mkT (cuts l) n) 1 1).1) (mkT (cuts l) n) (by rw [gn_one (by omega)]) _ (gnRes_length _ _ _)) Try.call43 (by kernel_rfl) (by kernel_rfl) (by kernel_rfl) rfl (fun ac wc A146 S147 => ?_)
            refine s_want (dj := 82) (b := (decide ((gnRes (mkT (cuts l) n) 1 1).2.1 = 0))) A146 (by kernel_rfl) (by kernel_rfl) (decide_eq_true (by (rw [gn_one (by omega)]) <;> (show (0 : Int) = _; omega))) ?_
            refine s_one (.bool true) A146 S147 (g_pick_f (b := (decide ((firstErr (mkT (cuts l) n) 0).2 ≠ 0))) (by kernel_rfl) (decide_eq_false (by omega)) (by kernel_rfl)) rfl (fun ac A149 => ?_)
            refine s_one (.bool true) A149 S147 (g_pick_t (b := (decide ((gnRes (mkT (cuts l) n) 1 1).2.1 = 0))) (by kernel_rfl) (decide_eq_true (by (rw [gn_one (by omega)]) <;> (show (0 : Int) = _; omega))) (by kernel_rfl)) rfl (fun ac A150 => ?_)
            refine s_one (.bool true) A150 S147 (g_assign (by kernel_rfl)) rfl (fun ac A151 => ?_)
            refine wpList_nil ?_
            refine n_then ?_
            refine wp_ret ?_
            refine fin1 (.bool true) Try.results9 A151 S147 (rv_tmp (by kernel_rfl)) ⟨?_, S147.kp⟩
            rfl
          · refine rs_alloc (trc zT) A102 S103 sub_all sub_all zero26 rfl rfl rfl (fun g154 ac wc A152 S153 => ?_)
            have T155 := S153.sub (sub_skip sub_all) sub_all
            refine r_1 (i := 2) (by kernel_rfl) ?_
            refine rs_call (fs := #[]) (cp := #[]) (r := [(0, .agg (trc (mkT (cuts l) n))), (0, .agg #[.int .i64 1, .int .i64 1])]) #[.agg (trc (mkT (cuts l) n)), .agg #[.int .i64 1, .int .i64 1]] (.tuple #[.agg (trc ((gnRes (mkT (cuts l) n) 1 1).1)), .int .i64 ((gnRes (mkT (cuts l) n) 1 1).2.1), .int .i64 ((gnRes (mkT (cuts l) n) 1 1).2.2)]) A152 S153 (sub_skip sub_all) sub_all (Gained_s (mkT (cuts l) n) 1 1 _ (done_length _ _ _ _)) Try.call40 rfl rfl (by kernel_rfl) (by kernel_rfl) (by kernel_rfl) rfl (fun ac wc A156 S157 => ?_)
            have T159 := S157.sub (sub_skip sub_all) sub_all
            refine r_take 3 (.tuple #[.agg (trc ((gnRes (mkT (cuts l) n) 1 1).1)), .int .i64 ((gnRes (mkT (cuts l) n) 1 1).2.1), .int .i64 ((gnRes (mkT (cuts l) n) 1 1).2.2)]) A156 T159 (g_move (by kernel_rfl)) rfl rfl rfl (pf_then pf_body) (by kernel_rfl) (fun ac A160 => ?_)
            refine r_take 4 (.agg (trc ((gnRes (mkT (cuts l) n) 1 1).1))) A160 T159 (g_extract (u := .tuple #[.agg (trc ((gnRes (mkT (cuts l) n) 1 1).1)), .int .i64 ((gnRes (mkT (cuts l) n) 1 1).2.1), .int .i64 ((gnRes (mkT (cuts l) n) 1 1).2.2)]) (by kernel_rfl) (fun _ => by kernel_rfl)) rfl rfl rfl (pf_then pf_body) (by kernel_rfl) (fun ac A161 => ?_)
            refine r_take 5 (.int .i64 ((gnRes (mkT (cuts l) n) 1 1).2.1)) A161 T159 (g_extract (u := .tuple #[.agg (trc ((gnRes (mkT (cuts l) n) 1 1).1)), .int .i64 ((gnRes (mkT (cuts l) n) 1 1).2.1), .int .i64 ((gnRes (mkT (cuts l) n) 1 1).2.2)]) (by kernel_rfl) (fun _ => by kernel_rfl)) rfl rfl rfl (pf_then pf_body) (by kernel_rfl) (fun ac A162 => ?_)
            refine r_take 6 (.int .i64 ((gnRes (mkT (cuts l) n) 1 1).2.2)) A162 T159 (g_extract (u := .tuple #[.agg (trc ((gnRes (mkT (cuts l) n) 1 1).1)), .int .i64 ((gnRes (mkT (cuts l) n) 1 1).2.1), .int .i64 ((gnRes (mkT (cuts l) n) 1 1).2.2)]) (by kernel_rfl) (fun _ => by kernel_rfl)) rfl rfl rfl (pf_then pf_body) (by kernel_rfl) (fun ac A163 => ?_)
            refine r_1 (i := 8) (by kernel_rfl) ?_
            refine rs_store (g := g154) (off := 0) (v := .agg (trc ((gnRes (mkT (cuts l) n) 1 1).1))) 0 (trc ((gnRes (mkT (cuts l) n) 1 1).1)) A163 S157 (sub_skip sub_all) sub_all (by kernel_rfl) (by kernel_rfl) rfl (putVal_whole ((trc_size _).trans zT_length) ((trc_size _).trans (gnRes_length _ _ _)) ⟨⟨_, Try.underlying26, rfl⟩, by kernel_rfl⟩ (trc_one _)) rfl rfl (fun wc S165 => ?_)
            have T167 := S165.sub (sub_skip sub_all) sub_all
            refine r_take 9 (.int .i64 ((gnRes (mkT (cuts l) n) 1 1).2.1)) A163 T167 (g_assign (by kernel_rfl)) rfl rfl rfl (pf_then pf_body) (by kernel_rfl) (fun ac A168 => ?_)
            refine r_take 10 (.int .i64 ((gnRes (mkT (cuts l) n) 1 1).2.2)) A168 T167 (g_assign (by kernel_rfl)) rfl rfl rfl (pf_then pf_body) (by kernel_rfl) (fun ac A169 => ?_)
            refine r_done (by kernel_rfl) ?_
            refine n_then ?_
            refine wp_seq ?_
            refine wp_region_lit ?_
            refine s_one (.agg (trc (mkT (cuts l) n))) A169 S165 (g_loadW (g := g23) 3 (by kernel_rfl) rfl ((trc_size _).trans (done_length _ _ _ _)) ⟨⟨_, Try.underlying26, rfl⟩, by kernel_rfl⟩) rfl (fun ac A170 => ?_)
            refine s_call (fs := #[]) (cp := #[]) (r := [(0, .agg (trc (mkT (cuts l) n)))]) #[.agg (trc (mkT (cuts l) n))] (.tuple #[.int .i64 ((firstErr (mkT (cuts l) n) 0).1 : Int), .int .i64 ((firstErr (mkT (cuts l) n) 0).2)]) A170 S165 (refCheckTrace_any (mkT (cuts l) n) _ (done_length _ _ _ _)) Try.call15 (by kernel_rfl) (by kernel_rfl) (by kernel_rfl) rfl (fun ac wc A171 S172 => ?_)
            refine s_one (.tuple #[.int .i64 ((firstErr (mkT (cuts l) n) 0).1 : Int), .int .i64 ((firstErr (mkT (cuts l) n) 0).2)]) A171 S172 (g_move (by kernel_rfl)) rfl (fun ac A174 => ?_)
            refine s_one (.int .i64 ((firstErr (mkT (cuts l) n) 0).1 : Int)) A174 S172 (g_extract (u := .tuple #[.int .i64 ((firstErr (mkT (cuts l) n) 0).1 : Int), .int .i64 ((firstErr (mkT (cuts l) n) 0).2)]) (by kernel_rfl) (fun _ => by kernel_rfl)) rfl (fun ac A175 => ?_)
            refine s_one (.int .i64 ((firstErr (mkT (cuts l) n) 0).2)) A175 S172 (g_extract (u := .tuple #[.int .i64 ((firstErr (mkT (cuts l) n) 0).1 : Int), .int .i64 ((firstErr (mkT (cuts l) n) 0).2)]) (by kernel_rfl) (fun _ => by kernel_rfl)) rfl (fun ac A176 => ?_)
            refine s_one (.int .i64 ((firstErr (mkT (cuts l) n) 0).1 : Int)) A176 S172 (g_assign (by kernel_rfl)) rfl (fun ac A177 => ?_)
            refine s_one (.int .i64 ((firstErr (mkT (cuts l) n) 0).2)) A177 S172 (g_assign (by kernel_rfl)) rfl (fun ac A178 => ?_)
            refine wpList_nil ?_
            refine n_then ?_
            refine wp_seq ?_
            refine wp_region_lit ?_
            refine s_one (.int .i64 ((gnRes (mkT (cuts l) n) 1 1).2.2)) A178 S172 (g_move (by kernel_rfl)) rfl (fun ac A179 => ?_)
            refine s_one (.int .i64 ((firstErr (mkT (cuts l) n) 0).2)) A179 S172 (g_move (by kernel_rfl)) rfl (fun ac A180 => ?_)
            refine s_one (.bool (decide ((gnRes (mkT (cuts l) n) 1 1).2.2 = (firstErr (mkT (cuts l) n) 0).2))) A180 S172 (g_bin (u := .int .i64 ((gnRes (mkT (cuts l) n) 1 1).2.2)) (k := .int .i64 ((firstErr (mkT (cuts l) n) 0).2)) (by kernel_rfl) (by kernel_rfl) (fun _ => by kernel_rfl) b_eql) rfl (fun ac A181 => ?_)
            refine s_one (.bool (decide ((gnRes (mkT (cuts l) n) 1 1).2.2 = (firstErr (mkT (cuts l) n) 0).2))) A181 S172 (g_move (by kernel_rfl)) rfl (fun ac A182 => ?_)
            refine s_want (dj := 78) (b := (decide ((gnRes (mkT (cuts l) n) 1 1).2.2 = (firstErr (mkT (cuts l) n) 0).2))) A182 (by kernel_rfl) (by kernel_rfl) (decide_eq_true (by (rw [gn_one (by omega)]) <;> (show (0 : Int) = _; omega))) ?_
            refine s_one (.int .i64 ((gnRes (mkT (cuts l) n) 1 1).2.1)) A182 S172 (g_move (by kernel_rfl)) rfl (fun ac A183 => ?_)
            refine s_want (dj := 78) (b := (decide ((gnRes (mkT (cuts l) n) 1 1).2.2 = (firstErr (mkT (cuts l) n) 0).2))) A183 (by kernel_rfl) (by kernel_rfl) (decide_eq_true (by (rw [gn_one (by omega)]) <;> (show (0 : Int) = _; omega))) ?_
            refine s_one (.bool (decide ((gnRes (mkT (cuts l) n) 1 1).2.1 = 0))) A183 S172 (g_bin (u := .int .i64 ((gnRes (mkT (cuts l) n) 1 1).2.1)) (k := .int .i64 0) (by kernel_rfl) (by kernel_rfl) (fun _ => by kernel_rfl) b_eql) rfl (fun ac A184 => ?_)
            refine s_one (.bool (decide ((gnRes (mkT (cuts l) n) 1 1).2.1 = 0))) A184 S172 (g_pick_t (b := (decide ((gnRes (mkT (cuts l) n) 1 1).2.2 = (firstErr (mkT (cuts l) n) 0).2))) (by kernel_rfl) (decide_eq_true (by (rw [gn_one (by omega)]) <;> (show (0 : Int) = _; omega))) (by kernel_rfl)) rfl (fun ac A185 => ?_)
            refine s_one (.bool (decide ((gnRes (mkT (cuts l) n) 1 1).2.1 = 0))) A185 S172 (g_move (by kernel_rfl)) rfl (fun ac A186 => ?_)
            refine s_want (dj := 82) (b := (decide ((gnRes (mkT (cuts l) n) 1 1).2.1 = 0))) A186 (by kernel_rfl) (by kernel_rfl) (decide_eq_true (by (rw [gn_one (by omega)]) <;> (show (0 : Int) = _; omega))) ?_
            refine s_one (.int .i64 ((firstErr (mkT (cuts l) n) 0).2)) A186 S172 (g_move (by kernel_rfl)) rfl (fun ac A187 => ?_)
            refine s_want (dj := 82) (b := (decide ((gnRes (mkT (cuts l) n) 1 1).2.1 = 0))) A187 (by kernel_rfl) (by kernel_rfl) (decide_eq_true (by (rw [gn_one (by omega)]) <;> (show (0 : Int) = _; omega))) ?_
            refine s_one (.bool (decide ((firstErr (mkT (cuts l) n) 0).2 ≠ 0))) A187 S172 (g_bin (u := .int .i64 ((firstErr (mkT (cuts l) n) 0).2)) (k := .int .i64 0) (by kernel_rfl) (by kernel_rfl) (fun _ => by kernel_rfl) b_neq) rfl (fun ac A188 => ?_)
            refine s_want (dj := 82) (b := (decide ((gnRes (mkT (cuts l) n) 1 1).2.1 = 0))) A188 (by kernel_rfl) (by kernel_rfl) (decide_eq_true (by (rw [gn_one (by omega)]) <;> (show (0 : Int) = _; omega))) ?_
            refine s_one (.bool (decide ((firstErr (mkT (cuts l) n) 0).2 ≠ 0))) A188 S172 (g_move (by kernel_rfl)) rfl (fun ac A189 => ?_)
            refine s_want (dj := 85) (b := (decide ((firstErr (mkT (cuts l) n) 0).2 ≠ 0))) A189 (by kernel_rfl) (by kernel_rfl) (decide_eq_false (by omega)) ?_
            refine s_one (.agg (trc ((gnRes (mkT (cuts l) n) 1 1).1))) A189 S172 (g_loadW (g := g154) 0 (by kernel_rfl) rfl ((trc_size _).trans (gnRes_length _ _ _)) ⟨⟨_, Try.underlying26, rfl⟩, by kernel_rfl⟩) rfl (fun ac A190 => ?_)
            refine s_want (dj := 85) (b := (decide ((firstErr (mkT (cuts l) n) 0).2 ≠ 0))) A190 (by kernel_rfl) (by kernel_rfl) (decide_eq_false (by omega)) ?_
            refine s_one (.agg (trc (mkT (cuts l) n))) A190 S172 (g_loadW (g := g23) 3 (by kernel_rfl) rfl ((trc_size _).trans (done_length _ _ _ _)) ⟨⟨_, Try.underlying26, rfl⟩, by kernel_rfl⟩) rfl (fun ac A191 => ?_)
            refine s_want (dj := 85) (b := (decide ((firstErr (mkT (cuts l) n) 0).2 ≠ 0))) A191 (by kernel_rfl) (by kernel_rfl) (decide_eq_false (by omega)) ?_
            refine s_call (fs := #[]) (cp := #[]) (r := [(0, .agg (trc ((gnRes (mkT (cuts l) n) 1 1).1))), (0, .agg (trc (mkT (cuts l) n)))]) #[.agg (trc ((gnRes (mkT (cuts l) n) 1 1).1)), .agg (trc (mkT (cuts l) n))] (.bool true) A191 S172 (SameTrace_eq ((gnRes (mkT (cuts l) n) 1 1).1) (mkT (cuts l) n) (by rw [gn_one (by omega)]) _ (gnRes_length _ _ _)) Try.call43 (by kernel_rfl) (by kernel_rfl) (by kernel_rfl) rfl (fun ac wc A192 S193 => ?_)
            refine s_want (dj := 82) (b := (decide ((gnRes (mkT (cuts l) n) 1 1).2.1 = 0))) A192 (by kernel_rfl) (by kernel_rfl) (decide_eq_true (by (rw [gn_one (by omega)]) <;> (show (0 : Int) = _; omega))) ?_
            refine s_one (.bool true) A192 S193 (g_pick_f (b := (decide ((firstErr (mkT (cuts l) n) 0).2 ≠ 0))) (by kernel_rfl) (decide_eq_false (by omega)) (by kernel_rfl)) rfl (fun ac A195 => ?_)
            refine s_one (.bool true) A195 S193 (g_pick_t (b := (decide ((gnRes (mkT (cuts l) n) 1 1).2.1 = 0))) (by kernel_rfl) (decide_eq_true (by (rw [gn_one (by omega)]) <;> (show (0 : Int) = _; omega))) (by kernel_rfl)) rfl (fun ac A196 => ?_)
            refine s_one (.bool true) A196 S193 (g_assign (by kernel_rfl)) rfl (fun ac A197 => ?_)
            refine wpList_nil ?_
            refine n_then ?_
            refine wp_ret ?_
            refine fin1 (.bool true) Try.results9 A197 S193 (rv_tmp (by kernel_rfl)) ⟨?_, S193.kp⟩
            rfl
        · refine rs_alloc (trc zT) A101 S100 sub_all sub_all zero26 rfl rfl rfl (fun g200 ac wc A198 S199 => ?_)
          have T201 := S199.sub (sub_skip sub_all) sub_all
          refine r_1 (i := 1) (by kernel_rfl) ?_
          refine rs_call (fs := #[]) (cp := #[]) (r := [(0, .int .i64 1)]) #[.int .i64 1] (.agg #[.int .i64 1, .int .i64 1]) A198 S199 (sub_skip sub_all) sub_all (Whole_s 1 _) Try.call44 rfl rfl (by kernel_rfl) (by kernel_rfl) (by kernel_rfl) rfl (fun ac wc A202 S203 => ?_)
          have T205 := S203.sub (sub_skip sub_all) sub_all
          refine r_1 (i := 2) (by kernel_rfl) ?_
          refine rs_call (fs := #[]) (cp := #[]) (r := [(0, .agg (trc (mkT (cuts l) n))), (0, .agg #[.int .i64 1, .int .i64 1])]) #[.agg (trc (mkT (cuts l) n)), .agg #[.int .i64 1, .int .i64 1]] (.tuple #[.agg (trc ((gnRes (mkT (cuts l) n) 1 1).1)), .int .i64 ((gnRes (mkT (cuts l) n) 1 1).2.1), .int .i64 ((gnRes (mkT (cuts l) n) 1 1).2.2)]) A202 S203 (sub_skip sub_all) sub_all (Gained_s (mkT (cuts l) n) 1 1 _ (done_length _ _ _ _)) Try.call40 rfl rfl (by kernel_rfl) (by kernel_rfl) (by kernel_rfl) rfl (fun ac wc A206 S207 => ?_)
          have T209 := S207.sub (sub_skip sub_all) sub_all
          refine r_take 3 (.tuple #[.agg (trc ((gnRes (mkT (cuts l) n) 1 1).1)), .int .i64 ((gnRes (mkT (cuts l) n) 1 1).2.1), .int .i64 ((gnRes (mkT (cuts l) n) 1 1).2.2)]) A206 T209 (g_move (by kernel_rfl)) rfl rfl rfl (pf_then pf_body) (by kernel_rfl) (fun ac A210 => ?_)
          refine r_take 4 (.agg (trc ((gnRes (mkT (cuts l) n) 1 1).1))) A210 T209 (g_extract (u := .tuple #[.agg (trc ((gnRes (mkT (cuts l) n) 1 1).1)), .int .i64 ((gnRes (mkT (cuts l) n) 1 1).2.1), .int .i64 ((gnRes (mkT (cuts l) n) 1 1).2.2)]) (by kernel_rfl) (fun _ => by kernel_rfl)) rfl rfl rfl (pf_then pf_body) (by kernel_rfl) (fun ac A211 => ?_)
          refine r_take 5 (.int .i64 ((gnRes (mkT (cuts l) n) 1 1).2.1)) A211 T209 (g_extract (u := .tuple #[.agg (trc ((gnRes (mkT (cuts l) n) 1 1).1)), .int .i64 ((gnRes (mkT (cuts l) n) 1 1).2.1), .int .i64 ((gnRes (mkT (cuts l) n) 1 1).2.2)]) (by kernel_rfl) (fun _ => by kernel_rfl)) rfl rfl rfl (pf_then pf_body) (by kernel_rfl) (fun ac A212 => ?_)
          refine r_take 6 (.int .i64 ((gnRes (mkT (cuts l) n) 1 1).2.2)) A212 T209 (g_extract (u := .tuple #[.agg (trc ((gnRes (mkT (cuts l) n) 1 1).1)), .int .i64 ((gnRes (mkT (cuts l) n) 1 1).2.1), .int .i64 ((gnRes (mkT (cuts l) n) 1 1).2.2)]) (by kernel_rfl) (fun _ => by kernel_rfl)) rfl rfl rfl (pf_then pf_body) (by kernel_rfl) (fun ac A213 => ?_)
          refine r_1 (i := 8) (by kernel_rfl) ?_
          refine rs_store (g := g200) (off := 0) (v := .agg (trc ((gnRes (mkT (cuts l) n) 1 1).1))) 0 (trc ((gnRes (mkT (cuts l) n) 1 1).1)) A213 S207 (sub_skip sub_all) sub_all (by kernel_rfl) (by kernel_rfl) rfl (putVal_whole ((trc_size _).trans zT_length) ((trc_size _).trans (gnRes_length _ _ _)) ⟨⟨_, Try.underlying26, rfl⟩, by kernel_rfl⟩ (trc_one _)) rfl rfl (fun wc S215 => ?_)
          have T217 := S215.sub (sub_skip sub_all) sub_all
          refine r_take 9 (.int .i64 ((gnRes (mkT (cuts l) n) 1 1).2.1)) A213 T217 (g_assign (by kernel_rfl)) rfl rfl rfl (pf_then pf_body) (by kernel_rfl) (fun ac A218 => ?_)
          refine r_take 10 (.int .i64 ((gnRes (mkT (cuts l) n) 1 1).2.2)) A218 T217 (g_assign (by kernel_rfl)) rfl rfl rfl (pf_then pf_body) (by kernel_rfl) (fun ac A219 => ?_)
          refine r_done (by kernel_rfl) ?_
          refine n_then ?_
          refine wp_seq ?_
          refine wp_region_lit ?_
          refine s_one (.agg (trc (mkT (cuts l) n))) A219 S215 (g_loadW (g := g23) 3 (by kernel_rfl) rfl ((trc_size _).trans (done_length _ _ _ _)) ⟨⟨_, Try.underlying26, rfl⟩, by kernel_rfl⟩) rfl (fun ac A220 => ?_)
          refine s_call (fs := #[]) (cp := #[]) (r := [(0, .agg (trc (mkT (cuts l) n)))]) #[.agg (trc (mkT (cuts l) n))] (.tuple #[.int .i64 ((firstErr (mkT (cuts l) n) 0).1 : Int), .int .i64 ((firstErr (mkT (cuts l) n) 0).2)]) A220 S215 (refCheckTrace_any (mkT (cuts l) n) _ (done_length _ _ _ _)) Try.call15 (by kernel_rfl) (by kernel_rfl) (by kernel_rfl) rfl (fun ac wc A221 S222 => ?_)
          refine s_one (.tuple #[.int .i64 ((firstErr (mkT (cuts l) n) 0).1 : Int), .int .i64 ((firstErr (mkT (cuts l) n) 0).2)]) A221 S222 (g_move (by kernel_rfl)) rfl (fun ac A224 => ?_)
          refine s_one (.int .i64 ((firstErr (mkT (cuts l) n) 0).1 : Int)) A224 S222 (g_extract (u := .tuple #[.int .i64 ((firstErr (mkT (cuts l) n) 0).1 : Int), .int .i64 ((firstErr (mkT (cuts l) n) 0).2)]) (by kernel_rfl) (fun _ => by kernel_rfl)) rfl (fun ac A225 => ?_)
          refine s_one (.int .i64 ((firstErr (mkT (cuts l) n) 0).2)) A225 S222 (g_extract (u := .tuple #[.int .i64 ((firstErr (mkT (cuts l) n) 0).1 : Int), .int .i64 ((firstErr (mkT (cuts l) n) 0).2)]) (by kernel_rfl) (fun _ => by kernel_rfl)) rfl (fun ac A226 => ?_)
          refine s_one (.int .i64 ((firstErr (mkT (cuts l) n) 0).1 : Int)) A226 S222 (g_assign (by kernel_rfl)) rfl (fun ac A227 => ?_)
          refine s_one (.int .i64 ((firstErr (mkT (cuts l) n) 0).2)) A227 S222 (g_assign (by kernel_rfl)) rfl (fun ac A228 => ?_)
          refine wpList_nil ?_
          refine n_then ?_
          refine wp_seq ?_
          refine wp_region_lit ?_
          refine s_one (.int .i64 ((gnRes (mkT (cuts l) n) 1 1).2.2)) A228 S222 (g_move (by kernel_rfl)) rfl (fun ac A229 => ?_)
          refine s_one (.int .i64 ((firstErr (mkT (cuts l) n) 0).2)) A229 S222 (g_move (by kernel_rfl)) rfl (fun ac A230 => ?_)
          refine s_one (.bool (decide ((gnRes (mkT (cuts l) n) 1 1).2.2 = (firstErr (mkT (cuts l) n) 0).2))) A230 S222 (g_bin (u := .int .i64 ((gnRes (mkT (cuts l) n) 1 1).2.2)) (k := .int .i64 ((firstErr (mkT (cuts l) n) 0).2)) (by kernel_rfl) (by kernel_rfl) (fun _ => by kernel_rfl) b_eql) rfl (fun ac A231 => ?_)
          refine s_one (.bool (decide ((gnRes (mkT (cuts l) n) 1 1).2.2 = (firstErr (mkT (cuts l) n) 0).2))) A231 S222 (g_move (by kernel_rfl)) rfl (fun ac A232 => ?_)
          refine s_want (dj := 78) (b := (decide ((gnRes (mkT (cuts l) n) 1 1).2.2 = (firstErr (mkT (cuts l) n) 0).2))) A232 (by kernel_rfl) (by kernel_rfl) (decide_eq_true (by (rw [gn_one (by omega)]) <;> (show (0 : Int) = _; omega))) ?_
          refine s_one (.int .i64 ((gnRes (mkT (cuts l) n) 1 1).2.1)) A232 S222 (g_move (by kernel_rfl)) rfl (fun ac A233 => ?_)
          refine s_want (dj := 78) (b := (decide ((gnRes (mkT (cuts l) n) 1 1).2.2 = (firstErr (mkT (cuts l) n) 0).2))) A233 (by kernel_rfl) (by kernel_rfl) (decide_eq_true (by (rw [gn_one (by omega)]) <;> (show (0 : Int) = _; omega))) ?_
          refine s_one (.bool (decide ((gnRes (mkT (cuts l) n) 1 1).2.1 = 0))) A233 S222 (g_bin (u := .int .i64 ((gnRes (mkT (cuts l) n) 1 1).2.1)) (k := .int .i64 0) (by kernel_rfl) (by kernel_rfl) (fun _ => by kernel_rfl) b_eql) rfl (fun ac A234 => ?_)
          refine s_one (.bool (decide ((gnRes (mkT (cuts l) n) 1 1).2.1 = 0))) A234 S222 (g_pick_t (b := (decide ((gnRes (mkT (cuts l) n) 1 1).2.2 = (firstErr (mkT (cuts l) n) 0).2))) (by kernel_rfl) (decide_eq_true (by (rw [gn_one (by omega)]) <;> (show (0 : Int) = _; omega))) (by kernel_rfl)) rfl (fun ac A235 => ?_)
          refine s_one (.bool (decide ((gnRes (mkT (cuts l) n) 1 1).2.1 = 0))) A235 S222 (g_move (by kernel_rfl)) rfl (fun ac A236 => ?_)
          refine s_want (dj := 82) (b := (decide ((gnRes (mkT (cuts l) n) 1 1).2.1 = 0))) A236 (by kernel_rfl) (by kernel_rfl) (decide_eq_true (by (rw [gn_one (by omega)]) <;> (show (0 : Int) = _; omega))) ?_
          refine s_one (.int .i64 ((firstErr (mkT (cuts l) n) 0).2)) A236 S222 (g_move (by kernel_rfl)) rfl (fun ac A237 => ?_)
          refine s_want (dj := 82) (b := (decide ((gnRes (mkT (cuts l) n) 1 1).2.1 = 0))) A237 (by kernel_rfl) (by kernel_rfl) (decide_eq_true (by (rw [gn_one (by omega)]) <;> (show (0 : Int) = _; omega))) ?_
          refine s_one (.bool (decide ((firstErr (mkT (cuts l) n) 0).2 ≠ 0))) A237 S222 (g_bin (u := .int .i64 ((firstErr (mkT (cuts l) n) 0).2)) (k := .int .i64 0) (by kernel_rfl) (by kernel_rfl) (fun _ => by kernel_rfl) b_neq) rfl (fun ac A238 => ?_)
          refine s_want (dj := 82) (b := (decide ((gnRes (mkT (cuts l) n) 1 1).2.1 = 0))) A238 (by kernel_rfl) (by kernel_rfl) (decide_eq_true (by (rw [gn_one (by omega)]) <;> (show (0 : Int) = _; omega))) ?_
          refine s_one (.bool (decide ((firstErr (mkT (cuts l) n) 0).2 ≠ 0))) A238 S222 (g_move (by kernel_rfl)) rfl (fun ac A239 => ?_)
          refine s_want (dj := 85) (b := (decide ((firstErr (mkT (cuts l) n) 0).2 ≠ 0))) A239 (by kernel_rfl) (by kernel_rfl) (decide_eq_false (by omega)) ?_
          refine s_one (.agg (trc ((gnRes (mkT (cuts l) n) 1 1).1))) A239 S222 (g_loadW (g := g200) 0 (by kernel_rfl) rfl ((trc_size _).trans (gnRes_length _ _ _)) ⟨⟨_, Try.underlying26, rfl⟩, by kernel_rfl⟩) rfl (fun ac A240 => ?_)
          refine s_want (dj := 85) (b := (decide ((firstErr (mkT (cuts l) n) 0).2 ≠ 0))) A240 (by kernel_rfl) (by kernel_rfl) (decide_eq_false (by omega)) ?_
          refine s_one (.agg (trc (mkT (cuts l) n))) A240 S222 (g_loadW (g := g23) 3 (by kernel_rfl) rfl ((trc_size _).trans (done_length _ _ _ _)) ⟨⟨_, Try.underlying26, rfl⟩, by kernel_rfl⟩) rfl (fun ac A241 => ?_)
          refine s_want (dj := 85) (b := (decide ((firstErr (mkT (cuts l) n) 0).2 ≠ 0))) A241 (by kernel_rfl) (by kernel_rfl) (decide_eq_false (by omega)) ?_
          refine s_call (fs := #[]) (cp := #[]) (r := [(0, .agg (trc ((gnRes (mkT (cuts l) n) 1 1).1))), (0, .agg (trc (mkT (cuts l) n)))]) #[.agg (trc ((gnRes (mkT (cuts l) n) 1 1).1)), .agg (trc (mkT (cuts l) n))] (.bool true) A241 S222 (SameTrace_eq ((gnRes (mkT (cuts l) n) 1 1).1) (mkT (cuts l) n) (by rw [gn_one (by omega)]) _ (gnRes_length _ _ _)) Try.call43 (by kernel_rfl) (by kernel_rfl) (by kernel_rfl) rfl (fun ac wc A242 S243 => ?_)
          refine s_want (dj := 82) (b := (decide ((gnRes (mkT (cuts l) n) 1 1).2.1 = 0))) A242 (by kernel_rfl) (by kernel_rfl) (decide_eq_true (by (rw [gn_one (by omega)]) <;> (show (0 : Int) = _; omega))) ?_
          refine s_one (.bool true) A242 S243 (g_pick_f (b := (decide ((firstErr (mkT (cuts l) n) 0).2 ≠ 0))) (by kernel_rfl) (decide_eq_false (by omega)) (by kernel_rfl)) rfl (fun ac A245 => ?_)
          refine s_one (.bool true) A245 S243 (g_pick_t (b := (decide ((gnRes (mkT (cuts l) n) 1 1).2.1 = 0))) (by kernel_rfl) (decide_eq_true (by (rw [gn_one (by omega)]) <;> (show (0 : Int) = _; omega))) (by kernel_rfl)) rfl (fun ac A246 => ?_)
          refine s_one (.bool true) A246 S243 (g_assign (by kernel_rfl)) rfl (fun ac A247 => ?_)
          refine wpList_nil ?_
          refine n_then ?_
          refine wp_ret ?_
          refine fin1 (.bool true) Try.results9 A247 S243 (rv_tmp (by kernel_rfl)) ⟨?_, S243.kp⟩
          rfl
      · have p248 := of_decide_eq_false h68
        refine wp_skip ?_
        refine n_then ?_
        refine wp_seq ?_
        refine wp_seq ?_
        refine wp_region_lit ?_
        refine s_one (.int .i64 ((gnRes (mkT (cuts l) n) p q).2.2)) A67 S63 (g_move (by kernel_rfl)) rfl (fun ac A249 => ?_)
        refine s_one (.int .i64 (refGainErr_a_r p q)) A249 S63 (g_move (by kernel_rfl)) rfl (fun ac A250 => ?_)
        refine s_one (.bool (decide ((gnRes (mkT (cuts l) n) p q).2.2 ≠ (refGainErr_a_r p q)))) A250 S63 (g_bin (u := .int .i64 ((gnRes (mkT (cuts l) n) p q).2.2)) (k := .int .i64 (refGainErr_a_r p q)) (by kernel_rfl) (by kernel_rfl) (fun _ => by kernel_rfl) b_neq) rfl (fun ac A251 => ?_)
        refine s_one (.bool (decide ((gnRes (mkT (cuts l) n) p q).2.2 ≠ (refGainErr_a_r p q)))) A251 S63 (g_move (by kernel_rfl)) rfl (fun ac A252 => ?_)
        refine s_want (dj := 52) (b := (decide ((gnRes (mkT (cuts l) n) p q).2.2 ≠ (refGainErr_a_r p q)))) A252 (by kernel_rfl) (by kernel_rfl) (decide_eq_false (fun h => h (by rw [gn_err (by omega) p248]))) ?_
        refine s_one (.agg (trc ((gnRes (mkT (cuts l) n) p q).1))) A252 S63 (g_loadW (g := g38) 1 (by kernel_rfl) rfl ((trc_size _).trans (gnRes_length _ _ _)) ⟨⟨_, Try.underlying26, rfl⟩, by kernel_rfl⟩) rfl (fun ac A253 => ?_)
        refine s_want (dj := 52) (b := (decide ((gnRes (mkT (cuts l) n) p q).2.2 ≠ (refGainErr_a_r p q)))) A253 (by kernel_rfl) (by kernel_rfl) (decide_eq_false (fun h => h (by rw [gn_err (by omega) p248]))) ?_
        refine s_one (.agg (trc zT)) A253 S63 (g_loadW (g := g64) 0 (by kernel_rfl) rfl ((trc_size _).trans zT_length) ⟨⟨_, Try.underlying26, rfl⟩, by kernel_rfl⟩) rfl (fun ac A254 => ?_)
        refine s_want (dj := 52) (b := (decide ((gnRes (mkT (cuts l) n) p q).2.2 ≠ (refGainErr_a_r p q)))) A254 (by kernel_rfl) (by kernel_rfl) (decide_eq_false (fun h => h (by rw [gn_err (by omega) p248]))) ?_
        refine s_call (fs := #[]) (cp := #[]) (r := [(0, .agg (trc ((gnRes (mkT (cuts l) n) p q).1))), (0, .agg (trc zT))]) #[.agg (trc ((gnRes (mkT (cuts l) n) p q).1)), .agg (trc zT)] (.bool true) A254 S63 (SameTrace_eq ((gnRes (mkT (cuts l) n) p q).1) zT (by rw [gn_err (by omega) p248]) _ (gnRes_length _ _ _)) Try.call43 (by kernel_rfl) (by kernel_rfl) (by kernel_rfl) rfl (fun ac wc A255 S256 => ?_)
        refine s_want (dj := 52) (b := (decide ((gnRes (mkT (cuts l) n) p q).2.2 ≠ (refGainErr_a_r p q)))) A255 (by kernel_rfl) (by kernel_rfl) (decide_eq_false (fun h => h (by rw [gn_err (by omega) p248]))) ?_
        refine s_one (.bool false) A255 S256 (g_un (u := .bool true) (by kernel_rfl) (fun _ => by kernel_rfl)) rfl (fun ac A258 => ?_)
        refine s_one (.bool false) A258 S256 (g_pick_f (b := (decide ((gnRes (mkT (cuts l) n) p q).2.2 ≠ (refGainErr_a_r p q)))) (by kernel_rfl) (decide_eq_false (fun h => h (by rw [gn_err (by omega) p248]))) (by kernel_rfl)) rfl (fun ac A259 => ?_)
        refine s_one (.bool false) A259 S256 (g_move (by kernel_rfl)) rfl (fun ac A260 => ?_)
        refine s_want (dj := 58) (b := false) A260 (by kernel_rfl) (by kernel_rfl) rfl ?_
        refine s_one (.int .i64 ((gnRes (mkT (cuts l) n) p q).2.1)) A260 S256 (g_move (by kernel_rfl)) rfl (fun ac A261 => ?_)
        refine s_want (dj := 58) (b := false) A261 (by kernel_rfl) (by kernel_rfl) rfl ?_
        refine s_one (.int .i64 0) A261 S256 (g_move (by kernel_rfl)) rfl (fun ac A262 => ?_)
        refine s_want (dj := 58) (b := false) A262 (by kernel_rfl) (by kernel_rfl) rfl ?_
        refine s_one (.bool (decide ((gnRes (mkT (cuts l) n) p q).2.1 ≠ 0))) A262 S256 (g_bin (u := .int .i64 ((gnRes (mkT (cuts l) n) p q).2.1)) (k := .int .i64 0) (by kernel_rfl) (by kernel_rfl) (fun _ => by kernel_rfl) b_neq) rfl (fun ac A263 => ?_)
        refine s_one (.bool (decide ((gnRes (mkT (cuts l) n) p q).2.1 ≠ 0))) A263 S256 (g_pick_f (b := false) (by kernel_rfl) rfl (by kernel_rfl)) rfl (fun ac A264 => ?_)
        refine wpList_nil ?_
        refine n_then ?_
        refine c_f (b := (decide ((gnRes (mkT (cuts l) n) p q).2.1 ≠ 0))) A264 (by kernel_rfl) (decide_eq_false (fun h => h (by rw [gn_err (by omega) p248]))) ?_
        refine wp_skip ?_
        refine n_then ?_
        refine wp_seq ?_
        refine r_begin (w0 := w0) (by kernel_rfl) (S256.sub sub_all sub_all) (fun wc T265 B266 => ?_)
        have S267 := S256.kept B266
        refine r_take 0 (.agg (trc (mkT (cuts l) n))) A264 T265 (g_loadW (g := g23) 2 (by kernel_rfl) rfl ((trc_size _).trans (done_length _ _ _ _)) ⟨⟨_, Try.underlying26, rfl⟩, by kernel_rfl⟩) rfl rfl rfl (pf_then pf_body) (by kernel_rfl) (fun ac A268 => ?_)
        refine r_2 (i := 1) (j := 7) (by kernel_rfl) ?_ ?_
        · refine rs_call (fs := #[]) (cp := #[]) (r := [(0, .int .i64 1)]) #[.int .i64 1] (.agg #[.int .i64 1, .int .i64 1]) A268 S267 sub_all sub_all (Whole_s 1 _) Try.call44 rfl rfl (by kernel_rfl) (by kernel_rfl) (by kernel_rfl) rfl (fun ac wc A269 S270 => ?_)
          have T272 := S270.sub sub_all sub_all
          refine r_2 (i := 2) (j := 7) (by kernel_rfl) ?_ ?_
          · refine rs_call (fs := #[]) (cp := #[]) (r := [(0, .agg (trc (mkT (cuts l) n))), (0, .agg #[.int .i64 1, .int .i64 1])]) #[.agg (trc (mkT (cuts l) n)), .agg #[.int .i64 1, .int .i64 1]] (.tuple #[.agg (trc ((gnRes (mkT (cuts l) n) 1 1).1)), .int .i64 ((gnRes (mkT (cuts l) n) 1 1).2.1), .int .i64 ((gnRes (mkT (cuts l) n) 1 1).2.2)]) A269 S270 sub_all sub_all (Gained_s (mkT (cuts l) n) 1 1 _ (done_length _ _ _ _)) Try.call40 rfl rfl (by kernel_rfl) (by kernel_rfl) (by kernel_rfl) rfl (fun ac wc A273 S274 => ?_)
            have T276 := S274.sub sub_all sub_all
            refine r_take 3 (.tuple #[.agg (trc ((gnRes (mkT (cuts l) n) 1 1).1)), .int .i64 ((gnRes (mkT (cuts l) n) 1 1).2.1), .int .i64 ((gnRes (mkT (cuts l) n) 1 1).2.2)]) A273 T276 (g_move (by kernel_rfl)) rfl rfl rfl (pf_then pf_body) (by kernel_rfl) (fun ac A277 => ?_)
            refine r_take 4 (.agg (trc ((gnRes (mkT (cuts l) n) 1 1).1))) A277 T276 (g_extract (u := .tuple #[.agg (trc ((gnRes (mkT (cuts l) n) 1 1).1)), .int .i64 ((gnRes (mkT (cuts l) n) 1 1).2.1), .int .i64 ((gnRes (mkT (cuts l) n) 1 1).2.2)]) (by kernel_rfl) (fun _ => by kernel_rfl)) rfl rfl rfl (pf_then pf_body) (by kernel_rfl) (fun ac A278 => ?_)
            refine r_take 5 (.int .i64 ((gnRes (mkT (cuts l) n) 1 1).2.1)) A278 T276 (g_extract (u := .tuple #[.agg (trc ((gnRes (mkT (cuts l) n) 1 1).1)), .int .i64 ((gnRes (mkT (cuts l) n) 1 1).2.1), .int .i64 ((gnRes (mkT (cuts l) n) 1 1).2.2)]) (by kernel_rfl) (fun _ => by kernel_rfl)) rfl rfl rfl (pf_then pf_body) (by kernel_rfl) (fun ac A279 => ?_)
            refine r_take 6 (.int .i64 ((gnRes (mkT (cuts l) n) 1 1).2.2)) A279 T276 (g_extract (u := .tuple #[.agg (trc ((gnRes (mkT (cuts l) n) 1 1).1)), .int .i64 ((gnRes (mkT (cuts l) n) 1 1).2.1), .int .i64 ((gnRes (mkT (cuts l) n) 1 1).2.2)]) (by kernel_rfl) (fun _ => by kernel_rfl)) rfl rfl rfl (pf_then pf_body) (by kernel_rfl) (fun ac A280 => ?_)
            refine r_1 (i := 7) (by kernel_rfl) ?_
            refine rs_alloc (trc zT) A280 S274 sub_all sub_all zero26 rfl rfl rfl (fun g283 ac wc A281 S282 => ?_)
            have T284 := S282.sub (sub_skip sub_all) sub_all
            refine r_1 (i := 8) (by kernel_rfl) ?_
            refine rs_store (g := g283) (off := 0) (v := .agg (trc ((gnRes (mkT (cuts l) n) 1 1).1))) 0 (trc ((gnRes (mkT (cuts l) n) 1 1).1)) A281 S282 (sub_skip sub_all) sub_all (by kernel_rfl) (by kernel_rfl) rfl (putVal_whole ((trc_size _).trans zT_length) ((trc_size _).trans (gnRes_length _ _ _)) ⟨⟨_, Try.underlying26, rfl⟩, by kernel_rfl⟩ (trc_one _)) rfl rfl (fun wc S286 => ?_)
            have T288 := S286.sub (sub_skip sub_all) sub_all
            refine r_take 9 (.int .i64 ((gnRes (mkT (cuts l) n) 1 1).2.1)) A281 T288 (g_assign (by kernel_rfl)) rfl rfl rfl (pf_then pf_body) (by kernel_rfl) (fun ac A289 => ?_)
            refine r_take 10 (.int .i64 ((gnRes (mkT (cuts l) n) 1 1).2.2)) A289 T288 (g_assign (by kernel_rfl)) rfl rfl rfl (pf_then pf_body) (by kernel_rfl) (fun ac A290 => ?_)
            refine r_done (by kernel_rfl) ?_
            refine n_then ?_
            refine wp_seq ?_
            refine wp_region_lit ?_
            refine s_one (.agg (trc (mkT (cuts l) n))) A290 S286 (g_loadW (g := g23) 3 (by kernel_rfl) rfl ((trc_size _).trans (done_length _ _ _ _)) ⟨⟨_, Try.underlying26, rfl⟩, by kernel_rfl⟩) rfl (fun ac A291 => ?_)
            refine s_call (fs := #[]) (cp := #[]) (r := [(0, .agg (trc (mkT (cuts l) n)))]) #[.agg (trc (mkT (cuts l) n))] (.tuple #[.int .i64 ((firstErr (mkT (cuts l) n) 0).1 : Int), .int .i64 ((firstErr (mkT (cuts l) n) 0).2)]) A291 S286 (refCheckTrace_any (mkT (cuts l) n) _ (done_length _ _ _ _)) Try.call15 (by kernel_rfl) (by kernel_rfl) (by kernel_rfl) rfl (fun ac wc A292 S293 => ?_)
            refine s_one (.tuple #[.int .i64 ((firstErr (mkT (cuts l) n) 0).1 : Int), .int .i64 ((firstErr (mkT (cuts l) n) 0).2)]) A292 S293 (g_move (by kernel_rfl)) rfl (fun ac A295 => ?_)
            refine s_one (.int .i64 ((firstErr (mkT (cuts l) n) 0).1 : Int)) A295 S293 (g_extract (u := .tuple #[.int .i64 ((firstErr (mkT (cuts l) n) 0).1 : Int), .int .i64 ((firstErr (mkT (cuts l) n) 0).2)]) (by kernel_rfl) (fun _ => by kernel_rfl)) rfl (fun ac A296 => ?_)
            refine s_one (.int .i64 ((firstErr (mkT (cuts l) n) 0).2)) A296 S293 (g_extract (u := .tuple #[.int .i64 ((firstErr (mkT (cuts l) n) 0).1 : Int), .int .i64 ((firstErr (mkT (cuts l) n) 0).2)]) (by kernel_rfl) (fun _ => by kernel_rfl)) rfl (fun ac A297 => ?_)
            refine s_one (.int .i64 ((firstErr (mkT (cuts l) n) 0).1 : Int)) A297 S293 (g_assign (by kernel_rfl)) rfl (fun ac A298 => ?_)
            refine s_one (.int .i64 ((firstErr (mkT (cuts l) n) 0).2)) A298 S293 (g_assign (by kernel_rfl)) rfl (fun ac A299 => ?_)
            refine wpList_nil ?_
            refine n_then ?_
            refine wp_seq ?_
            refine wp_region_lit ?_
            refine s_one (.int .i64 ((gnRes (mkT (cuts l) n) 1 1).2.2)) A299 S293 (g_move (by kernel_rfl)) rfl (fun ac A300 => ?_)
            refine s_one (.int .i64 ((firstErr (mkT (cuts l) n) 0).2)) A300 S293 (g_move (by kernel_rfl)) rfl (fun ac A301 => ?_)
            refine s_one (.bool (decide ((gnRes (mkT (cuts l) n) 1 1).2.2 = (firstErr (mkT (cuts l) n) 0).2))) A301 S293 (g_bin (u := .int .i64 ((gnRes (mkT (cuts l) n) 1 1).2.2)) (k := .int .i64 ((firstErr (mkT (cuts l) n) 0).2)) (by kernel_rfl) (by kernel_rfl) (fun _ => by kernel_rfl) b_eql) rfl (fun ac A302 => ?_)
            refine s_one (.bool (decide ((gnRes (mkT (cuts l) n) 1 1).2.2 = (firstErr (mkT (cuts l) n) 0).2))) A302 S293 (g_move (by kernel_rfl)) rfl (fun ac A303 => ?_)
            refine s_want (dj := 78) (b := (decide ((gnRes (mkT (cuts l) n) 1 1).2.2 = (firstErr (mkT (cuts l) n) 0).2))) A303 (by kernel_rfl) (by kernel_rfl) (decide_eq_true (by (rw [gn_one (by omega)]) <;> (show (0 : Int) = _; omega))) ?_
            refine s_one (.int .i64 ((gnRes (mkT (cuts l) n) 1 1).2.1)) A303 S293 (g_move (by kernel_rfl)) rfl (fun ac A304 => ?_)
            refine s_want (dj := 78) (b := (decide ((gnRes (mkT (cuts l) n) 1 1).2.2 = (firstErr (mkT (cuts l) n) 0).2))) A304 (by kernel_rfl) (by kernel_rfl) (decide_eq_true (by (rw [gn_one (by omega)]) <;> (show (0 : Int) = _; omega))) ?_
            refine s_one (.bool (decide ((gnRes (mkT (cuts l) n) 1 1).2.1 = 0))) A304 S293 (g_bin (u := .int .i64 ((gnRes (mkT (cuts l) n) 1 1).2.1)) (k := .int .i64 0) (by kernel_rfl) (by kernel_rfl) (fun _ => by kernel_rfl) b_eql) rfl (fun ac A305 => ?_)
            refine s_one (.bool (decide ((gnRes (mkT (cuts l) n) 1 1).2.1 = 0))) A305 S293 (g_pick_t (b := (decide ((gnRes (mkT (cuts l) n) 1 1).2.2 = (firstErr (mkT (cuts l) n) 0).2))) (by kernel_rfl) (decide_eq_true (by (rw [gn_one (by omega)]) <;> (show (0 : Int) = _; omega))) (by kernel_rfl)) rfl (fun ac A306 => ?_)
            refine s_one (.bool (decide ((gnRes (mkT (cuts l) n) 1 1).2.1 = 0))) A306 S293 (g_move (by kernel_rfl)) rfl (fun ac A307 => ?_)
            refine s_want (dj := 82) (b := (decide ((gnRes (mkT (cuts l) n) 1 1).2.1 = 0))) A307 (by kernel_rfl) (by kernel_rfl) (decide_eq_true (by (rw [gn_one (by omega)]) <;> (show (0 : Int) = _; omega))) ?_
            refine s_one (.int .i64 ((firstErr (mkT (cuts l) n) 0).2)) A307 S293 (g_move (by kernel_rfl)) rfl (fun ac A308 => ?_)
            refine s_want (dj := 82) (b := (decide ((gnRes (mkT (cuts l) n) 1 1).2.1 = 0))) A308 (by kernel_rfl) (by kernel_rfl) (decide_eq_true (by (rw [gn_one (by omega)]) <;> (show (0 : Int) = _; omega))) ?_
            refine s_one (.bool (decide ((firstErr (mkT (cuts l) n) 0).2 ≠ 0))) A308 S293 (g_bin (u := .int .i64 ((firstErr (mkT (cuts l) n) 0).2)) (k := .int .i64 0) (by kernel_rfl) (by kernel_rfl) (fun _ => by kernel_rfl) b_neq) rfl (fun ac A309 => ?_)
            refine s_want (dj := 82) (b := (decide ((gnRes (mkT (cuts l) n) 1 1).2.1 = 0))) A309 (by kernel_rfl) (by kernel_rfl) (decide_eq_true (by (rw [gn_one (by omega)]) <;> (show (0 : Int) = _; omega))) ?_
            refine s_one (.bool (decide ((firstErr (mkT (cuts l) n) 0).2 ≠ 0))) A309 S293 (g_move (by kernel_rfl)) rfl (fun ac A310 => ?_)
            refine s_want (dj := 85) (b := (decide ((firstErr (mkT (cuts l) n) 0).2 ≠ 0))) A310 (by kernel_rfl) (by kernel_rfl) (decide_eq_false (by omega)) ?_
            refine s_one (.agg (trc ((gnRes (mkT (cuts l) n) 1 1).1))) A310 S293 (g_loadW (g := g283) 0 (by kernel_rfl) rfl ((trc_size _).trans (gnRes_length _ _ _)) ⟨⟨_, Try.underlying26, rfl⟩, by kernel_rfl⟩) rfl (fun ac A311 => ?_)
            refine s_want (dj := 85) (b := (decide ((firstErr (mkT (cuts l) n) 0).2 ≠ 0))) A311 (by kernel_rfl) (by kernel_rfl) (decide_eq_false (by omega)) ?_
            refine s_one (.agg (trc (mkT (cuts l) n))) A311 S293 (g_loadW (g := g23) 3 (by kernel_rfl) rfl ((trc_size _).trans (done_length _ _ _ _)) ⟨⟨_, Try.underlying26, rfl⟩, by kernel_rfl⟩) rfl (fun ac A312 => ?_)
            refine s_want (dj := 85) (b := (decide ((firstErr (mkT (cuts l) n) 0).2 ≠ 0))) A312 (by kernel_rfl) (by kernel_rfl) (decide_eq_false (by omega)) ?_
            refine s_call (fs := #[]) (cp := #[]) (r := [(0, .agg (trc ((gnRes (mkT (cuts l) n) 1 1).1))), (0, .agg (trc (mkT (cuts l) n)))]) #[.agg (trc ((gnRes (mkT (cuts l) n) 1 1).1)), .agg (trc (mkT (cuts l) n))] (.bool true) A312 S293 (SameTrace_eq ((gnRes (mkT (cuts l) n) 1 1).1) (mkT (cuts l) n) (by rw [gn_one (by omega)]) _ (gnRes_length _ _ _)) Try.call43 (by kernel_rfl) (by kernel_rfl) (by kernel_rfl) rfl (fun ac wc A313 S314 => ?_)
            refine s_want (dj := 82) (b := (decide ((gnRes (mkT (cuts l) n) 1 1).2.1 = 0))) A313 (by kernel_rfl) (by kernel_rfl) (decide_eq_true (by (rw [gn_one (by omega)]) <;> (show (0 : Int) = _; omega))) ?_
            refine s_one (.bool true) A313 S314 (g_pick_f (b := (decide ((firstErr (mkT (cuts l) n) 0).2 ≠ 0))) (by kernel_rfl) (decide_eq_false (by omega)) (by kernel_rfl)) rfl (fun ac A316 => ?_)
            refine s_one (.bool true) A316 S314 (g_pick_t (b := (decide ((gnRes (mkT (cuts l) n) 1 1).2.1 = 0))) (by kernel_rfl) (decide_eq_true (by (rw [gn_one (by omega)]) <;> (show (0 : Int) = _; omega))) (by kernel_rfl)) rfl (fun ac A317 => ?_)
            refine s_one (.bool true) A317 S314 (g_assign (by kernel_rfl)) rfl (fun ac A318 => ?_)
            refine wpList_nil ?_
            refine n_then ?_
            refine wp_ret ?_
            refine fin1 (.bool true) Try.results9 A318 S314 (rv_tmp (by kernel_rfl)) ⟨?_, S314.kp⟩
            rfl
          · refine rs_alloc (trc zT) A269 S270 sub_all sub_all zero26 rfl rfl rfl (fun g321 ac wc A319 S320 => ?_)
            have T322 := S320.sub (sub_skip sub_all) sub_all
            refine r_1 (i := 2) (by kernel_rfl) ?_
            refine rs_call (fs := #[]) (cp := #[]) (r := [(0, .agg (trc (mkT (cuts l) n))), (0, .agg #[.int .i64 1, .int .i64 1])]) #[.agg (trc (mkT (cuts l) n)), .agg #[.int .i64 1, .int .i64 1]] (.tuple #[.agg (trc ((gnRes (mkT (cuts l) n) 1 1).1)), .int .i64 ((gnRes (mkT (cuts l) n) 1 1).2.1), .int .i64 ((gnRes (mkT (cuts l) n) 1 1).2.2)]) A319 S320 (sub_skip sub_all) sub_all (Gained_s (mkT (cuts l) n) 1 1 _ (done_length _ _ _ _)) Try.call40 rfl rfl (by kernel_rfl) (by kernel_rfl) (by kernel_rfl) rfl (fun ac wc A323 S324 => ?_)
            have T326 := S324.sub (sub_skip sub_all) sub_all
            refine r_take 3 (.tuple #[.agg (trc ((gnRes (mkT (cuts l) n) 1 1).1)), .int .i64 ((gnRes (mkT (cuts l) n) 1 1).2.1), .int .i64 ((gnRes (mkT (cuts l) n) 1 1).2.2)]) A323 T326 (g_move (by kernel_rfl)) rfl rfl rfl (pf_then pf_body) (by kernel_rfl) (fun ac A327 => ?_)
            refine r_take 4 (.agg (trc ((gnRes (mkT (cuts l) n) 1 1).1))) A327 T326 (g_extract (u := .tuple #[.agg (trc ((gnRes (mkT (cuts l) n) 1 1).1)), .int .i64 ((gnRes (mkT (cuts l) n) 1 1).2.1), .int .i64 ((gnRes (mkT (cuts l) n) 1 1).2.2)]) (by kernel_rfl) (fun _ => by kernel_rfl)) rfl rfl rfl (pf_then pf_body) (by kernel_rfl) (fun ac A328 => ?_)
            refine r_take 5 (.int .i64 ((gnRes (mkT (cuts l) n) 1 1).2.1)) A328 T326 (g_extract (u := .tuple #[.agg (trc ((gnRes (mkT (cuts l) n) 1 1).1)), .int .i64 ((gnRes (mkT (cuts l) n) 1 1).2.1), .int .i64 ((gnRes (mkT (cuts l) n) 1 1).2.2)]) (by kernel_rfl) (fun _ => by kernel_rfl)) rfl rfl rfl (pf_then pf_body) (by kernel_rfl) (fun ac A329 => ?_)
            refine r_take 6 (.int .i64 ((gnRes (mkT (cuts l) n) 1 1).2.2)) A329 T326 (g_extract (u := .tuple #[.agg (trc ((gnRes (mkT (cuts l) n) 1 1).1)), .int .i64 ((gnRes (mkT (cuts l) n) 1 1).2.1), .int .i64 ((gnRes (mkT (cuts l) n) 1 1).2.2)]) (by kernel_rfl) (fun _ => by kernel_rfl)) rfl rfl rfl (pf_then pf_body) (by kernel_rfl) (fun ac A330 => ?_)
            refine r_1 (i := 8) (by kernel_rfl) ?_
            refine rs_store (g := g321) (off := 0) (v := .agg (trc ((gnRes (mkT (cuts l) n) 1 1).1))) 0 (trc ((gnRes (mkT (cuts l) n) 1 1).1)) A330 S324 (sub_skip sub_all) sub_all (by kernel_rfl) (by kernel_rfl) rfl (putVal_whole ((trc_size _).trans zT_length) ((trc_size _).trans (gnRes_length _ _ _)) ⟨⟨_, Try.underlying26, rfl⟩, by kernel_rfl⟩ (trc_one _)) rfl rfl (fun wc S332 => ?_)
            have T334 := S332.sub (sub_skip sub_all) sub_all
            refine r_take 9 (.int .i64 ((gnRes (mkT (cuts l) n) 1 1).2.1)) A330 T334 (g_assign (by kernel_rfl)) rfl rfl rfl (pf_then pf_body) (by kernel_rfl) (fun ac A335 => ?_)
            refine r_take 10 (.int .i64 ((gnRes (mkT (cuts l) n) 1 1).2.2)) A335 T334 (g_assign (by kernel_rfl)) rfl rfl rfl (pf_then pf_body) (by kernel_rfl) (fun ac A336 => ?_)
            refine r_done (by kernel_rfl) ?_
            refine n_then ?_
            refine wp_seq ?_
            refine wp_region_lit ?_
            refine s_one (.agg (trc (mkT (cuts l) n))) A336 S332 (g_loadW (g := g23) 3 (by kernel_rfl) rfl ((trc_size _).trans (done_length _ _ _ _)) ⟨⟨_, Try.underlying26, rfl⟩, by kernel_rfl⟩) rfl (fun ac A337 => ?_)
            refine s_call (fs := #[]) (cp := #[]) (r := [(0, .agg (trc (mkT (cuts l) n)))]) #[.agg (trc (mkT (cuts l) n))] (.tuple #[.int .i64 ((firstErr (mkT (cuts l) n) 0).1 : Int), .int .i64 ((firstErr (mkT (cuts l) n) 0).2)]) A337 S332 (refCheckTrace_any (mkT (cuts l) n) _ (done_length _ _ _ _)) Try.call15 (by kernel_rfl) (by kernel_rfl) (by kernel_rfl) rfl (fun ac wc A338 S339 => ?_)
            refine s_one (.tuple #[.int .i64 ((firstErr (mkT (cuts l) n) 0).1 : Int), .int .i64 ((firstErr (mkT (cuts l) n) 0).2)]) A338 S339 (g_move (by kernel_rfl)) rfl (fun ac A341 => ?_)
            refine s_one (.int .i64 ((firstErr (mkT (cuts l) n) 0).1 : Int)) A341 S339 (g_extract (u := .tuple #[.int .i64 ((firstErr (mkT (cuts l) n) 0).1 : Int), .int .i64 ((firstErr (mkT (cuts l) n) 0).2)]) (by kernel_rfl) (fun _ => by kernel_rfl)) rfl (fun ac A342 => ?_)
            refine s_one (.int .i64 ((firstErr (mkT (cuts l) n) 0).2)) A342 S339 (g_extract (u := .tuple #[.int .i64 ((firstErr (mkT (cuts l) n) 0).1 : Int), .int .i64 ((firstErr (mkT (cuts l) n) 0).2)]) (by kernel_rfl) (fun _ => by kernel_rfl)) rfl (fun ac A343 => ?_)
            refine s_one (.int .i64 ((firstErr (mkT (cuts l) n) 0).1 : Int)) A343 S339 (g_assign (by kernel_rfl)) rfl (fun ac A344 => ?_)
            refine s_one (.int .i64 ((firstErr (mkT (cuts l) n) 0).2)) A344 S339 (g_assign (by kernel_rfl)) rfl (fun ac A345 => ?_)
            refine wpList_nil ?_
            refine n_then ?_
            refine wp_seq ?_
            refine wp_region_lit ?_
            refine s_one (.int .i64 ((gnRes (mkT (cuts l) n) 1 1).2.2)) A345 S339 (g_move (by kernel_rfl)) rfl (fun ac A346 => ?_)
            refine s_one (.int .i64 ((firstErr (mkT (cuts l) n) 0).2)) A346 S339 (g_move (by kernel_rfl)) rfl (fun ac A347 => ?_)
            refine s_one (.bool (decide ((gnRes (mkT (cuts l) n) 1 1).2.2 = (firstErr (mkT (cuts l) n) 0).2))) A347 S339 (g_bin (u := .int .i64 ((gnRes (mkT (cuts l) n) 1 1).2.2)) (k := .int .i64 ((firstErr (mkT (cuts l) n) 0).2)) (by kernel_rfl) (by kernel_rfl) (fun _ => by kernel_rfl) b_eql) rfl (fun ac A348 => ?_)
            refine s_one (.bool (decide ((gnRes (mkT (cuts l) n) 1 1).2.2 = (firstErr (mkT (cuts l) n) 0).2))) A348 S339 (g_move (by kernel_rfl)) rfl (fun ac A349 => ?_)
            refine s_want (dj := 78) (b := (decide ((gnRes (mkT (cuts l) n) 1 1).2.2 = (firstErr (mkT (cuts l) n) 0).2))) A349 (by kernel_rfl) (by kernel_rfl) (decide_eq_true (by (rw [gn_one (by omega)]) <;> (show (0 : Int) = _; omega))) ?_
            refine s_one (.int .i64 ((gnRes (mkT (cuts l) n) 1 1).2.1)) A349 S339 (g_move (by kernel_rfl)) rfl (fun ac A350 => ?_)
            refine s_want (dj := 78) (b := (decide ((gnRes (mkT (cuts l) n) 1 1).2.2 = (firstErr (mkT (cuts l) n) 0).2))) A350 (by kernel_rfl) (by kernel_rfl) (decide_eq_true (by (rw [gn_one (by omega)]) <;> (show (0 : Int) = _; omega))) ?_
            refine s_one (.bool (decide ((gnRes (mkT (cuts l) n) 1 1).2.1 = 0))) A350 S339 (g_bin (u := .int .i64 ((gnRes (mkT (cuts l) n) 1 1).2.1)) (k := .int .i64 0) (by kernel_rfl) (by kernel_rfl) (fun _ => by kernel_rfl) b_eql) rfl (fun ac A351 => ?_)
            refine s_one (.bool (decide ((gnRes (mkT (cuts l) n) 1 1).2.1 = 0))) A351 S339 (g_pick_t (b := (decide ((gnRes (mkT (cuts l) n) 1 1).2.2 = (firstErr (mkT (cuts l) n) 0).2))) (by kernel_rfl) (decide_eq_true (by (rw [gn_one (by omega)]) <;> (show (0 : Int) = _; omega))) (by kernel_rfl)) rfl (fun ac A352 => ?_)
            refine s_one (.bool (decide ((gnRes (mkT (cuts l) n) 1 1).2.1 = 0))) A352 S339 (g_move (by kernel_rfl)) rfl (fun ac A353 => ?_)
            refine s_want (dj := 82) (b := (decide ((gnRes (mkT (cuts l) n) 1 1).2.1 = 0))) A353 (by kernel_rfl) (by kernel_rfl) (decide_eq_true (by (rw [gn_one (by omega)]) <;> (show (0 : Int) = _; omega))) ?_
            refine s_one (.int .i64 ((firstErr (mkT (cuts l) n) 0).2)) A353 S339 (g_move (by kernel_rfl)) rfl (fun ac A354 => ?_)
            refine s_want (dj := 82) (b := (decide ((gnRes (mkT (cuts l) n) 1 1).2.1 = 0))) A354 (by kernel_rfl) (by kernel_rfl) (decide_eq_true (by (rw [gn_one (by omega)]) <;> (show (0 : Int) = _; omega))) ?_
            refine s_one (.bool (decide ((firstErr (mkT (cuts l) n) 0).2 ≠ 0))) A354 S339 (g_bin (u := .int .i64 ((firstErr (mkT (cuts l) n) 0).2)) (k := .int .i64 0) (by kernel_rfl) (by kernel_rfl) (fun _ => by kernel_rfl) b_neq) rfl (fun ac A355 => ?_)
            refine s_want (dj := 82) (b := (decide ((gnRes (mkT (cuts l) n) 1 1).2.1 = 0))) A355 (by kernel_rfl) (by kernel_rfl) (decide_eq_true (by (rw [gn_one (by omega)]) <;> (show (0 : Int) = _; omega))) ?_
            refine s_one (.bool (decide ((firstErr (mkT (cuts l) n) 0).2 ≠ 0))) A355 S339 (g_move (by kernel_rfl)) rfl (fun ac A356 => ?_)
            refine s_want (dj := 85) (b := (decide ((firstErr (mkT (cuts l) n) 0).2 ≠ 0))) A356 (by kernel_rfl) (by kernel_rfl) (decide_eq_false (by omega)) ?_
            refine s_one (.agg (trc ((gnRes (mkT (cuts l) n) 1 1).1))) A356 S339 (g_loadW (g := g321) 0 (by kernel_rfl) rfl ((trc_size _).trans (gnRes_length _ _ _)) ⟨⟨_, Try.underlying26, rfl⟩, by kernel_rfl⟩) rfl (fun ac A357 => ?_)
            refine s_want (dj := 85) (b := (decide ((firstErr (mkT (cuts l) n) 0).2 ≠ 0))) A357 (by kernel_rfl) (by kernel_rfl) (decide_eq_false (by omega)) ?_
            refine s_one (.agg (trc (mkT (cuts l) n))) A357 S339 (g_loadW (g := g23) 3 (by kernel_rfl) rfl ((trc_size _).trans (done_length _ _ _ _)) ⟨⟨_, Try.underlying26, rfl⟩, by kernel_rfl⟩) rfl (fun ac A358 => ?_)
            refine s_want (dj := 85) (b := (decide ((firstErr (mkT (cuts l) n) 0).2 ≠ 0))) A358 (by kernel_rfl) (by kernel_rfl) (decide_eq_false (by omega)) ?_
            refine s_call (fs := #[]) (cp := #[]) (r := [(0, .agg (trc ((gnRes (mkT (cuts l) n) 1 1).1))), (0, .agg (trc (mkT (cuts l) n)))]) #[.agg (trc ((gnRes (mkT (cuts l) n) 1 1).1)), .agg (trc (mkT (cuts l) n))] (.bool true) A358 S339 (SameTrace_eq ((gnRes (mkT (cuts l) n) 1 1).1) (mkT (cuts l) n) (by rw [gn_one (by omega)]) _ (gnRes_length _ _ _)) Try.call43 (by kernel_rfl) (by kernel_rfl) (by kernel_rfl) rfl (fun ac wc A359 S360 => ?_)
            refine s_want (dj := 82) (b := (decide ((gnRes (mkT (cuts l) n) 1 1).2.1 = 0))) A359 (by kernel_rfl) (by kernel_rfl) (decide_eq_true (by (rw [gn_one (by omega)]) <;> (show (0 : Int) = _; omega))) ?_
            refine s_one (.bool true) A359 S360 (g_pick_f (b := (decide ((firstErr (mkT (cuts l) n) 0).2 ≠ 0))) (by kernel_rfl) (decide_eq_false (by omega)) (by kernel_rfl)) rfl (fun ac A362 => ?_)
            refine s_one (.bool true) A362 S360 (g_pick_t (b := (decide ((gnRes (mkT (cuts l) n) 1 1).2.1 = 0))) (by kernel_rfl) (decide_eq_true (by (rw [gn_one (by omega)]) <;> (show (0 : Int) = _; omega))) (by kernel_rfl)) rfl (fun ac A363 => ?_)
            refine s_one (.bool true) A363 S360 (g_assign (by kernel_rfl)) rfl (fun ac A364 => ?_)
            refine wpList_nil ?_
            refine n_then ?_
            refine wp_ret ?_
            refine fin1 (.bool true) Try.results9 A364 S360 (rv_tmp (by kernel_rfl)) ⟨?_, S360.kp⟩
            rfl
        · refine rs_alloc (trc zT) A268 S267 sub_all sub_all zero26 rfl rfl rfl (fun g367 ac wc A365 S366 => ?_)
          have T368 := S366.sub (sub_skip sub_all) sub_all
          refine r_1 (i := 1) (by kernel_rfl) ?_
          refine rs_call (fs := #[]) (cp := #[]) (r := [(0, .int .i64 1)]) #[.int .i64 1] (.agg #[.int .i64 1, .int .i64 1]) A365 S366 (sub_skip sub_all) sub_all (Whole_s 1 _) Try.call44 rfl rfl (by kernel_rfl) (by kernel_rfl) (by kernel_rfl) rfl (fun ac wc A369 S370 => ?_)
          have T372 := S370.sub (sub_skip sub_all) sub_all
          refine r_1 (i := 2) (by kernel_rfl) ?_
          refine rs_call (fs := #[]) (cp := #[]) (r := [(0, .agg (trc (mkT (cuts l) n))), (0, .agg #[.int .i64 1, .int .i64 1])]) #[.agg (trc (mkT (cuts l) n)), .agg #[.int .i64 1, .int .i64 1]] (.tuple #[.agg (trc ((gnRes (mkT (cuts l) n) 1 1).1)), .int .i64 ((gnRes (mkT (cuts l) n) 1 1).2.1), .int .i64 ((gnRes (mkT (cuts l) n) 1 1).2.2)]) A369 S370 (sub_skip sub_all) sub_all (Gained_s (mkT (cuts l) n) 1 1 _ (done_length _ _ _ _)) Try.call40 rfl rfl (by kernel_rfl) (by kernel_rfl) (by kernel_rfl) rfl (fun ac wc A373 S374 => ?_)
          have T376 := S374.sub (sub_skip sub_all) sub_all
          refine r_take 3 (.tuple #[.agg (trc ((gnRes (mkT (cuts l) n) 1 1).1)), .int .i64 ((gnRes (mkT (cuts l) n) 1 1).2.1), .int .i64 ((gnRes (mkT (cuts l) n) 1 1).2.2)]) A373 T376 (g_move (by kernel_rfl)) rfl rfl rfl (pf_then pf_body) (by kernel_rfl) (fun ac A377 => ?_)
          refine r_take 4 (.agg (trc ((gnRes (mkT (cuts l) n) 1 1).1))) A377 T376 (g_extract (u := .tuple #[.agg (trc ((gnRes (mkT (cuts l) n) 1 1).1)), .int .i64 ((gnRes (mkT (cuts l) n) 1 1).2.1), .int .i64 ((gnRes (mkT (cuts l) n) 1 1).2.2)]) (by kernel_rfl) (fun _ => by kernel_rfl)) rfl rfl rfl (pf_then pf_body) (by kernel_rfl) (fun ac A378 => ?_)
          refine r_take 5 (.int .i64 ((gnRes (mkT (cuts l) n) 1 1).2.1)) A378 T376 (g_extract (u := .tuple #[.agg (trc ((gnRes (mkT (cuts l) n) 1 1).1)), .int .i64 ((gnRes (mkT (cuts l) n) 1 1).2.1), .int .i64 ((gnRes (mkT (cuts l) n) 1 1).2.2)]) (by kernel_rfl) (fun _ => by kernel_rfl)) rfl rfl rfl (pf_then pf_body) (by kernel_rfl) (fun ac A379 => ?_)
          refine r_take 6 (.int .i64 ((gnRes (mkT (cuts l) n) 1 1).2.2)) A379 T376 (g_extract (u := .tuple #[.agg (trc ((gnRes (mkT (cuts l) n) 1 1).1)), .int .i64 ((gnRes (mkT (cuts l) n) 1 1).2.1), .int .i64 ((gnRes (mkT (cuts l) n) 1 1).2.2)]) (by kernel_rfl) (fun _ => by kernel_rfl)) rfl rfl rfl (pf_then pf_body) (by kernel_rfl) (fun ac A380 => ?_)
          refine r_1 (i := 8) (by kernel_rfl) ?_
          refine rs_store (g := g367) (off := 0) (v := .agg (trc ((gnRes (mkT (cuts l) n) 1 1).1))) 0 (trc ((gnRes (mkT (cuts l) n) 1 1).1)) A380 S374 (sub_skip sub_all) sub_all (by kernel_rfl) (by kernel_rfl) rfl (putVal_whole ((trc_size _).trans zT_length) ((trc_size _).trans (gnRes_length _ _ _)) ⟨⟨_, Try.underlying26, rfl⟩, by kernel_rfl⟩ (trc_one _)) rfl rfl (fun wc S382 => ?_)
          have T384 := S382.sub (sub_skip sub_all) sub_all
          refine r_take 9 (.int .i64 ((gnRes (mkT (cuts l) n) 1 1).2.1)) A380 T384 (g_assign (by kernel_rfl)) rfl rfl rfl (pf_then pf_body) (by kernel_rfl) (fun ac A385 => ?_)
          refine r_take 10 (.int .i64 ((gnRes (mkT (cuts l) n) 1 1).2.2)) A385 T384 (g_assign (by kernel_rfl)) rfl rfl rfl (pf_then pf_body) (by kernel_rfl) (fun ac A386 => ?_)
          refine r_done (by kernel_rfl) ?_
          refine n_then ?_
          refine wp_seq ?_
          refine wp_region_lit ?_
          refine s_one (.agg (trc (mkT (cuts l) n))) A386 S382 (g_loadW (g := g23) 3 (by kernel_rfl) rfl ((trc_size _).trans (done_length _ _ _ _)) ⟨⟨_, Try.underlying26, rfl⟩, by kernel_rfl⟩) rfl (fun ac A387 => ?_)
          refine s_call (fs := #[]) (cp := #[]) (r := [(0, .agg (trc (mkT (cuts l) n)))]) #[.agg (trc (mkT (cuts l) n))] (.tuple #[.int .i64 ((firstErr (mkT (cuts l) n) 0).1 : Int), .int .i64 ((firstErr (mkT (cuts l) n) 0).2)]) A387 S382 (refCheckTrace_any (mkT (cuts l) n) _ (done_length _ _ _ _)) Try.call15 (by kernel_rfl) (by kernel_rfl) (by kernel_rfl) rfl (fun ac wc A388 S389 => ?_)
          refine s_one (.tuple #[.int .i64 ((firstErr (mkT (cuts l) n) 0).1 : Int), .int .i64 ((firstErr (mkT (cuts l) n) 0).2)]) A388 S389 (g_move (by kernel_rfl)) rfl (fun ac A391 => ?_)
          refine s_one (.int .i64 ((firstErr (mkT (cuts l) n) 0).1 : Int)) A391 S389 (g_extract (u := .tuple #[.int .i64 ((firstErr (mkT (cuts l) n) 0).1 : Int), .int .i64 ((firstErr (mkT (cuts l) n) 0).2)]) (by kernel_rfl) (fun _ => by kernel_rfl)) rfl (fun ac A392 => ?_)
          refine s_one (.int .i64 ((firstErr (mkT (cuts l) n) 0).2)) A392 S389 (g_extract (u := .tuple #[.int .i64 ((firstErr (mkT (cuts l) n) 0).1 : Int), .int .i64 ((firstErr (mkT (cuts l) n) 0).2)]) (by kernel_rfl) (fun _ => by kernel_rfl)) rfl (fun ac A393 => ?_)
          refine s_one (.int .i64 ((firstErr (mkT (cuts l) n) 0).1 : Int)) A393 S389 (g_assign (by kernel_rfl)) rfl (fun ac A394 => ?_)
          refine s_one (.int .i64 ((firstErr (mkT (cuts l) n) 0).2)) A394 S389 (g_assign (by kernel_rfl)) rfl (fun ac A395 => ?_)
          refine wpList_nil ?_
          refine n_then ?_
          refine wp_seq ?_
          refine wp_region_lit ?_
          refine s_one (.int .i64 ((gnRes (mkT (cuts l) n) 1 1).2.2)) A395 S389 (g_move (by kernel_rfl)) rfl (fun ac A396 => ?_)
          refine s_one (.int .i64 ((firstErr (mkT (cuts l) n) 0).2)) A396 S389 (g_move (by kernel_rfl)) rfl (fun ac A397 => ?_)
          refine s_one (.bool (decide ((gnRes (mkT (cuts l) n) 1 1).2.2 = (firstErr (mkT (cuts l) n) 0).2))) A397 S389 (g_bin (u := .int .i64 ((gnRes (mkT (cuts l) n) 1 1).2.2)) (k := .int .i64 ((firstErr (mkT (cuts l) n) 0).2)) (by kernel_rfl) (by kernel_rfl) (fun _ => by kernel_rfl) b_eql) rfl (fun ac A398 => ?_)
          refine s_one (.bool (decide ((gnRes (mkT (cuts l) n) 1 1).2.2 = (firstErr (mkT (cuts l) n) 0).2))) A398 S389 (g_move (by kernel_rfl)) rfl (fun ac A399 => ?_)
          refine s_want (dj := 78) (b := (decide ((gnRes (mkT (cuts l) n) 1 1).2.2 = (firstErr (mkT (cuts l) n) 0).2))) A399 (by kernel_rfl) (by kernel_rfl) (decide_eq_true (by (rw [gn_one (by omega)]) <;> (show (0 : Int) = _; omega))) ?_
          refine s_one (.int .i64 ((gnRes (mkT (cuts l) n) 1 1).2.1)) A399 S389 (g_move (by kernel_rfl)) rfl (fun ac A400 => ?_)
          refine s_want (dj := 78) (b := (decide ((gnRes (mkT (cuts l) n) 1 1).2.2 = (firstErr (mkT (cuts l) n) 0).2))) A400 (by kernel_rfl) (by kernel_rfl) (decide_eq_true (by (rw [gn_one (by omega)]) <;> (show (0 : Int) = _; omega))) ?_
          refine s_one (.bool (decide ((gnRes (mkT (cuts l) n) 1 1).2.1 = 0))) A400 S389 (g_bin (u := .int .i64 ((gnRes (mkT (cuts l) n) 1 1).2.1)) (k := .int .i64 0) (by kernel_rfl) (by kernel_rfl) (fun _ => by kernel_rfl) b_eql) rfl (fun ac A401 => ?_)
          refine s_one (.bool (decide ((gnRes (mkT (cuts l) n) 1 1).2.1 = 0))) A401 S389 (g_pick_t (b := (decide ((gnRes (mkT (cuts l) n) 1 1).2.2 = (firstErr (mkT (cuts l) n) 0).2))) (by kernel_rfl) (decide_eq_true (by (rw [gn_one (by omega)]) <;> (show (0 : Int) = _; omega))) (by kernel_rfl)) rfl (fun ac A402 => ?_)
          refine s_one (.bool (decide ((gnRes (mkT (cuts l) n) 1 1).2.1 = 0))) A402 S389 (g_move (by kernel_rfl)) rfl (fun ac A403 => ?_)
          refine s_want (dj := 82) (b := (decide ((gnRes (mkT (cuts l) n) 1 1).2.1 = 0))) A403 (by kernel_rfl) (by kernel_rfl) (decide_eq_true (by (rw [gn_one (by omega)]) <;> (show (0 : Int) = _; omega))) ?_
          refine s_one (.int .i64 ((firstErr (mkT (cuts l) n) 0).2)) A403 S389 (g_move (by kernel_rfl)) rfl (fun ac A404 => ?_)
          refine s_want (dj := 82) (b := (decide ((gnRes (mkT (cuts l) n) 1 1).2.1 = 0))) A404 (by kernel_rfl) (by kernel_rfl) (decide_eq_true (by (rw [gn_one (by omega)]) <;> (show (0 : Int) = _; omega))) ?_
          refine s_one (.bool (decide ((firstErr (mkT (cuts l) n) 0).2 ≠ 0))) A404 S389 (g_bin (u := .int .i64 ((firstErr (mkT (cuts l) n) 0).2)) (k := .int .i64 0) (by kernel_rfl) (by kernel_rfl) (fun _ => by kernel_rfl) b_neq) rfl (fun ac A405 => ?_)
          refine s_want (dj := 82) (b := (decide ((gnRes (mkT (cuts l) n) 1 1).2.1 = 0))) A405 (by kernel_rfl) (by kernel_rfl) (decide_eq_true (by (rw [gn_one (by omega)]) <;> (show (0 : Int) = _; omega))) ?_
          refine s_one (.bool (decide ((firstErr (mkT (cuts l) n) 0).2 ≠ 0))) A405 S389 (g_move (by kernel_rfl)) rfl (fun ac A406 => ?_)
          refine s_want (dj := 85) (b := (decide ((firstErr (mkT (cuts l) n) 0).2 ≠ 0))) A406 (by kernel_rfl) (by kernel_rfl) (decide_eq_false (by omega)) ?_
          refine s_one (.agg (trc ((gnRes (mkT (cuts l) n) 1 1).1))) A406 S389 (g_loadW (g := g367) 0 (by kernel_rfl) rfl ((trc_size _).trans (gnRes_length _ _ _)) ⟨⟨_, Try.underlying26, rfl⟩, by kernel_rfl⟩) rfl (fun ac A407 => ?_)
          refine s_want (dj := 85) (b := (decide ((firstErr (mkT (cuts l) n) 0).2 ≠ 0))) A407 (by kernel_rfl) (by kernel_rfl) (decide_eq_false (by omega)) ?_
          refine s_one (.agg (trc (mkT (cuts l) n))) A407 S389 (g_loadW (g := g23) 3 (by kernel_rfl) rfl ((trc_size _).trans (done_length _ _ _ _)) ⟨⟨_, Try.underlying26, rfl⟩, by kernel_rfl⟩) rfl (fun ac A408 => ?_)
          refine s_want (dj := 85) (b := (decide ((firstErr (mkT (cuts l) n) 0).2 ≠ 0))) A408 (by kernel_rfl) (by kernel_rfl) (decide_eq_false (by omega)) ?_
          refine s_call (fs := #[]) (cp := #[]) (r := [(0, .agg (trc ((gnRes (mkT (cuts l) n) 1 1).1))), (0, .agg (trc (mkT (cuts l) n)))]) #[.agg (trc ((gnRes (mkT (cuts l) n) 1 1).1)), .agg (trc (mkT (cuts l) n))] (.bool true) A408 S389 (SameTrace_eq ((gnRes (mkT (cuts l) n) 1 1).1) (mkT (cuts l) n) (by rw [gn_one (by omega)]) _ (gnRes_length _ _ _)) Try.call43 (by kernel_rfl) (by kernel_rfl) (by kernel_rfl) rfl (fun ac wc A409 S410 => ?_)
          refine s_want (dj := 82) (b := (decide ((gnRes (mkT (cuts l) n) 1 1).2.1 = 0))) A409 (by kernel_rfl) (by kernel_rfl) (decide_eq_true (by (rw [gn_one (by omega)]) <;> (show (0 : Int) = _; omega))) ?_
          refine s_one (.bool true) A409 S410 (g_pick_f (b := (decide ((firstErr (mkT (cuts l) n) 0).2 ≠ 0))) (by kernel_rfl) (decide_eq_false (by omega)) (by kernel_rfl)) rfl (fun ac A412 => ?_)
          refine s_one (.bool true) A412 S410 (g_pick_t (b := (decide ((gnRes (mkT (cuts l) n) 1 1).2.1 = 0))) (by kernel_rfl) (decide_eq_true (by (rw [gn_one (by omega)]) <;> (show (0 : Int) = _; omega))) (by kernel_rfl)) rfl (fun ac A413 => ?_)
          refine s_one (.bool true) A413 S410 (g_assign (by kernel_rfl)) rfl (fun ac A414 => ?_)
          refine wpList_nil ?_
          refine n_then ?_
          refine wp_ret ?_
          refine fin1 (.bool true) Try.results9 A414 S410 (rv_tmp (by kernel_rfl)) ⟨?_, S410.kp⟩
          rfl
    · have p415 := of_decide_eq_false h55
      refine wp_skip ?_
      refine n_then ?_
      refine wp_seq ?_
      refine wp_region_lit ?_
      refine s_alloc (trc zT) A54 S46 zero26 rfl (fun g418 ac wc A416 S417 => ?_)
      refine wpList_nil ?_
      refine n_then ?_
      refine wp_seq ?_
      refine wp_region_lit ?_
      refine s_one (.int .i64 0) A416 S417 (g_assign (by kernel_rfl)) rfl (fun ac A419 => ?_)
      refine wpList_nil ?_
      refine n_then ?_
      refine wp_seq ?_
      refine wp_seq ?_
      refine wp_region_lit ?_
      refine s_one (.int .i64 ((firstErr (mkT (cuts l) n) 0).2)) A419 S417 (g_move (by kernel_rfl)) rfl (fun ac A420 => ?_)
      refine s_one (.bool (decide ((firstErr (mkT (cuts l) n) 0).2 = 0))) A420 S417 (g_bin (u := .int .i64 ((firstErr (mkT (cuts l) n) 0).2)) (k := .int .i64 0) (by kernel_rfl) (by kernel_rfl) (fun _ => by kernel_rfl) b_eql) rfl (fun ac A421 => ?_)
      refine wpList_nil ?_
      refine n_then ?_
      refine c_f (b := (decide ((firstErr (mkT (cuts l) n) 0).2 = 0))) A421 (by kernel_rfl) h55 ?_
      refine wp_skip ?_
      refine n_then ?_
      refine wp_seq ?_
      refine wp_seq ?_
      refine wp_region_lit ?_
      refine s_one (.int .i64 ((gnRes (mkT (cuts l) n) p q).2.2)) A421 S417 (g_move (by kernel_rfl)) rfl (fun ac A422 => ?_)
      refine s_one (.int .i64 ((firstErr (mkT (cuts l) n) 0).2)) A422 S417 (g_move (by kernel_rfl)) rfl (fun ac A423 => ?_)
      refine s_one (.bool (decide ((gnRes (mkT (cuts l) n) p q).2.2 ≠ (firstErr (mkT (cuts l) n) 0).2))) A423 S417 (g_bin (u := .int .i64 ((gnRes (mkT (cuts l) n) p q).2.2)) (k := .int .i64 ((firstErr (mkT (cuts l) n) 0).2)) (by kernel_rfl) (by kernel_rfl) (fun _ => by kernel_rfl) b_neq) rfl (fun ac A424 => ?_)
      refine s_one (.bool (decide ((gnRes (mkT (cuts l) n) p q).2.2 ≠ (firstErr (mkT (cuts l) n) 0).2))) A424 S417 (g_move (by kernel_rfl)) rfl (fun ac A425 => ?_)
      refine s_want (dj := 52) (b := (decide ((gnRes (mkT (cuts l) n) p q).2.2 ≠ (firstErr (mkT (cuts l) n) 0).2))) A425 (by kernel_rfl) (by kernel_rfl) (decide_eq_false (fun h => h (by rw [gn_bad _ _ p415]))) ?_
      refine s_one (.agg (trc ((gnRes (mkT (cuts l) n) p q).1))) A425 S417 (g_loadW (g := g38) 1 (by kernel_rfl) rfl ((trc_size _).trans (gnRes_length _ _ _)) ⟨⟨_, Try.underlying26, rfl⟩, by kernel_rfl⟩) rfl (fun ac A426 => ?_)
      refine s_want (dj := 52) (b := (decide ((gnRes (mkT (cuts l) n) p q).2.2 ≠ (firstErr (mkT (cuts l) n) 0).2))) A426 (by kernel_rfl) (by kernel_rfl) (decide_eq_false (fun h => h (by rw [gn_bad _ _ p415]))) ?_
      refine s_one (.agg (trc zT)) A426 S417 (g_loadW (g := g418) 0 (by kernel_rfl) rfl ((trc_size _).trans zT_length) ⟨⟨_, Try.underlying26, rfl⟩, by kernel_rfl⟩) rfl (fun ac A427 => ?_)
      refine s_want (dj := 52) (b := (decide ((gnRes (mkT (cuts l) n) p q).2.2 ≠ (firstErr (mkT (cuts l) n) 0).2))) A427 (by kernel_rfl) (by kernel_rfl) (decide_eq_false (fun h => h (by rw [gn_bad _ _ p415]))) ?_
      refine s_call (fs := #[]) (cp := #[]) (r := [(0, .agg (trc ((gnRes (mkT (cuts l) n) p q).1))), (0, .agg (trc zT))]) #[.agg (trc ((gnRes (mkT (cuts l) n) p q).1)), .agg (trc zT)] (.bool true) A427 S417 (SameTrace_eq ((gnRes (mkT (cuts l) n) p q).1) zT (by rw [gn_bad _ _ p415]) _ (gnRes_length _ _ _)) Try.call43 (by kernel_rfl) (by kernel_rfl) (by kernel_rfl) rfl (fun ac wc A428 S429 => ?_)
      refine s_want (dj := 52) (b := (decide ((gnRes (mkT (cuts l) n) p q).2.2 ≠ (firstErr (mkT (cuts l) n) 0).2))) A428 (by kernel_rfl) (by kernel_rfl) (decide_eq_false (fun h => h (by rw [gn_bad _ _ p415]))) ?_
      refine s_one (.bool false) A428 S429 (g_un (u := .bool true) (by kernel_rfl) (fun _ => by kernel_rfl)) rfl (fun ac A431 => ?_)
      refine s_one (.bool false) A431 S429 (g_pick_f (b := (decide ((gnRes (mkT (cuts l) n) p q).2.2 ≠ (firstErr (mkT (cuts l) n) 0).2))) (by kernel_rfl) (decide_eq_false (fun h => h (by rw [gn_bad _ _ p415]))) (by kernel_rfl)) rfl (fun ac A432 => ?_)
      refine s_one (.bool false) A432 S429 (g_move (by kernel_rfl)) rfl (fun ac A433 => ?_)
      refine s_want (dj := 58) (b := false) A433 (by kernel_rfl) (by kernel_rfl) rfl ?_
      refine s_one (.int .i64 ((gnRes (mkT (cuts l) n) p q).2.1)) A433 S429 (g_move (by kernel_rfl)) rfl (fun ac A434 => ?_)
      refine s_want (dj := 58) (b := false) A434 (by kernel_rfl) (by kernel_rfl) rfl ?_
      refine s_one (.int .i64 0) A434 S429 (g_move (by kernel_rfl)) rfl (fun ac A435 => ?_)
      refine s_want (dj := 58) (b := false) A435 (by kernel_rfl) (by kernel_rfl) rfl ?_
      refine s_one (.bool (decide ((gnRes (mkT (cuts l) n) p q).2.1 ≠ 0))) A435 S429 (g_bin (u := .int .i64 ((gnRes (mkT (cuts l) n) p q).2.1)) (k := .int .i64 0) (by kernel_rfl) (by kernel_rfl) (fun _ => by kernel_rfl) b_neq) rfl (fun ac A436 => ?_)
      refine s_one (.bool (decide ((gnRes (mkT (cuts l) n) p q).2.1 ≠ 0))) A436 S429 (g_pick_f (b := false) (by kernel_rfl) rfl (by kernel_rfl)) rfl (fun ac A437 => ?_)
      refine wpList_nil ?_
      refine n_then ?_
      refine c_f (b := (decide ((gnRes (mkT (cuts l) n) p q).2.1 ≠ 0))) A437 (by kernel_rfl) (decide_eq_false (fun h => h (by rw [gn_bad _ _ p415]))) ?_
      refine wp_skip ?_
      refine n_then ?_
      refine wp_seq ?_
      refine r_begin (w0 := w0) (by kernel_rfl) (S429.sub sub_all sub_all) (fun wc T438 B439 => ?_)
      have S440 := S429.kept B439
      refine r_take 0 (.agg (trc (mkT (cuts l) n))) A437 T438 (g_loadW (g := g23) 2 (by kernel_rfl) rfl ((trc_size _).trans (done_length _ _ _ _)) ⟨⟨_, Try.underlying26, rfl⟩, by kernel_rfl⟩) rfl rfl rfl (pf_then pf_body) (by kernel_rfl) (fun ac A441 => ?_)
      refine r_2 (i := 1) (j := 7) (by kernel_rfl) ?_ ?_
      · refine rs_call (fs := #[]) (cp := #[]) (r := [(0, .int .i64 1)]) #[.int .i64 1] (.agg #[.int .i64 1, .int .i64 1]) A441 S440 sub_all sub_all (Whole_s 1 _) Try.call44 rfl rfl (by kernel_rfl) (by kernel_rfl) (by kernel_rfl) rfl (fun ac wc A442 S443 => ?_)
        have T445 := S443.sub sub_all sub_all
        refine r_2 (i := 2) (j := 7) (by kernel_rfl) ?_ ?_
        · refine rs_call (fs := #[]) (cp := #[]) (r := [(0, .agg (trc (mkT (cuts l) n))), (0, .agg #[.int .i64 1, .int .i64 1])]) #[.agg (trc (mkT (cuts l) n)), .agg #[.int .i64 1, .int .i64 1]] (.tuple #[.agg (trc ((gnRes (mkT (cuts l) n) 1 1).1)), .int .i64 ((gnRes (mkT (cuts l) n) 1 1).2.1), .int .i64 ((gnRes (mkT (cuts l) n) 1 1).2.2)]) A442 S443 sub_all sub_all (Gained_s (mkT (cuts l) n) 1 1 _ (done_length _ _ _ _)) Try.call40 rfl rfl (by kernel_rfl) (by kernel_rfl) (by kernel_rfl) rfl (fun ac wc A446 S447 => ?_)
          have T449 := S447.sub sub_all sub_all
          refine r_take 3 (.tuple #[.agg (trc ((gnRes (mkT (cuts l) n) 1 1).1)), .int .i64 ((gnRes (mkT (cuts l) n) 1 1).2.1), .int .i64 ((gnRes (mkT (cuts l) n) 1 1).2.2)]) A446 T449 (g_move (by kernel_rfl)) rfl rfl rfl (pf_then pf_body) (by kernel_rfl) (fun ac A450 => ?_)
          refine r_take 4 (.agg (trc ((gnRes (mkT (cuts l) n) 1 1).1))) A450 T449 (g_extract (u := .tuple #[.agg (trc ((gnRes (mkT (cuts l) n) 1 1).1)), .int .i64 ((gnRes (mkT (cuts l) n) 1 1).2.1), .int .i64 ((gnRes (mkT (cuts l) n) 1 1).2.2)]) (by kernel_rfl) (fun _ => by kernel_rfl)) rfl rfl rfl (pf_then pf_body) (by kernel_rfl) (fun ac A451 => ?_)
          refine r_take 5 (.int .i64 ((gnRes (mkT (cuts l) n) 1 1).2.1)) A451 T449 (g_extract (u := .tuple #[.agg (trc ((gnRes (mkT (cuts l) n) 1 1).1)), .int .i64 ((gnRes (mkT (cuts l) n) 1 1).2.1), .int .i64 ((gnRes (mkT (cuts l) n) 1 1).2.2)]) (by kernel_rfl) (fun _ => by kernel_rfl)) rfl rfl rfl (pf_then pf_body) (by kernel_rfl) (fun ac A452 => ?_)
          refine r_take 6 (.int .i64 ((gnRes (mkT (cuts l) n) 1 1).2.2)) A452 T449 (g_extract (u := .tuple #[.agg (trc ((gnRes (mkT (cuts l) n) 1 1).1)), .int .i64 ((gnRes (mkT (cuts l) n) 1 1).2.1), .int .i64 ((gnRes (mkT (cuts l) n) 1 1).2.2)]) (by kernel_rfl) (fun _ => by kernel_rfl)) rfl rfl rfl (pf_then pf_body) (by kernel_rfl) (fun ac A453 => ?_)
          refine r_1 (i := 7) (by kernel_rfl) ?_
          refine rs_alloc (trc zT) A453 S447 sub_all sub_all zero26 rfl rfl rfl (fun g456 ac wc A454 S455 => ?_)
          have T457 := S455.sub (sub_skip sub_all) sub_all
          refine r_1 (i := 8) (by kernel_rfl) ?_
          refine rs_store (g := g456) (off := 0) (v := .agg (trc ((gnRes (mkT (cuts l) n) 1 1).1))) 0 (trc ((gnRes (mkT (cuts l) n) 1 1).1)) A454 S455 (sub_skip sub_all) sub_all (by kernel_rfl) (by kernel_rfl) rfl (putVal_whole ((trc_size _).trans zT_length) ((trc_size _).trans (gnRes_length _ _ _)) ⟨⟨_, Try.underlying26, rfl⟩, by kernel_rfl⟩ (trc_one _)) rfl rfl (fun wc S459 => ?_)
          have T461 := S459.sub (sub_skip sub_all) sub_all
          refine r_take 9 (.int .i64 ((gnRes (mkT (cuts l) n) 1 1).2.1)) A454 T461 (g_assign (by kernel_rfl)) rfl rfl rfl (pf_then pf_body) (by kernel_rfl) (fun ac A462 => ?_)
          refine r_take 10 (.int .i64 ((gnRes (mkT (cuts l) n) 1 1).2.2)) A462 T461 (g_assign (by kernel_rfl)) rfl rfl rfl (pf_then pf_body) (by kernel_rfl) (fun ac A463 => ?_)
          refine r_done (by kernel_rfl) ?_
          refine n_then ?_
          refine wp_seq ?_
          refine wp_region_lit ?_
          refine s_one (.agg (trc (mkT (cuts l) n))) A463 S459 (g_loadW (g := g23) 3 (by kernel_rfl) rfl ((trc_size _).trans (done_length _ _ _ _)) ⟨⟨_, Try.underlying26, rfl⟩, by kernel_rfl⟩) rfl (fun ac A464 => ?_)
          refine s_call (fs := #[]) (cp := #[]) (r := [(0, .agg (trc (mkT (cuts l) n)))]) #[.agg (trc (mkT (cuts l) n))] (.tuple #[.int .i64 ((firstErr (mkT (cuts l) n) 0).1 : Int), .int .i64 ((firstErr (mkT (cuts l) n) 0).2)]) A464 S459 (refCheckTrace_any (mkT (cuts l) n) _ (done_length _ _ _ _)) Try.call15 (by kernel_rfl) (by kernel_rfl) (by kernel_rfl) rfl (fun ac wc A465 S466 => ?_)
          refine s_one (.tuple #[.int .i64 ((firstErr (mkT (cuts l) n) 0).1 : Int), .int .i64 ((firstErr (mkT (cuts l) n) 0).2)]) A465 S466 (g_move (by kernel_rfl)) rfl (fun ac A468 => ?_)
          refine s_one (.int .i64 ((firstErr (mkT (cuts l) n) 0).1 : Int)) A468 S466 (g_extract (u := .tuple #[.int .i64 ((firstErr (mkT (cuts l) n) 0).1 : Int), .int .i64 ((firstErr (mkT (cuts l) n) 0).2)]) (by kernel_rfl) (fun _ => by kernel_rfl)) rfl (fun ac A469 => ?_)
          refine s_one (.int .i64 ((firstErr (mkT (cuts l) n) 0).2)) A469 S466 (g_extract (u := .tuple #[.int .i64 ((firstErr (mkT (cuts l) n) 0).1 : Int), .int .i64 ((firstErr (mkT (cuts l) n) 0).2)]) (by kernel_rfl) (fun _ => by kernel_rfl)) rfl (fun ac A470 => ?_)
          refine s_one (.int .i64 ((firstErr (mkT (cuts l) n) 0).1 : Int)) A470 S466 (g_assign (by kernel_rfl)) rfl (fun ac A471 => ?_)
          refine s_one (.int .i64 ((firstErr (mkT (cuts l) n) 0).2)) A471 S466 (g_assign (by kernel_rfl)) rfl (fun ac A472 => ?_)
          refine wpList_nil ?_
          refine n_then ?_
          refine wp_seq ?_
          refine wp_region_lit ?_
          refine s_one (.int .i64 ((gnRes (mkT (cuts l) n) 1 1).2.2)) A472 S466 (g_move (by kernel_rfl)) rfl (fun ac A473 => ?_)
          refine s_one (.int .i64 ((firstErr (mkT (cuts l) n) 0).2)) A473 S466 (g_move (by kernel_rfl)) rfl (fun ac A474 => ?_)
          refine s_one (.bool (decide ((gnRes (mkT (cuts l) n) 1 1).2.2 = (firstErr (mkT (cuts l) n) 0).2))) A474 S466 (g_bin (u := .int .i64 ((gnRes (mkT (cuts l) n) 1 1).2.2)) (k := .int .i64 ((firstErr (mkT (cuts l) n) 0).2)) (by kernel_rfl) (by kernel_rfl) (fun _ => by kernel_rfl) b_eql) rfl (fun ac A475 => ?_)
          refine s_one (.bool (decide ((gnRes (mkT (cuts l) n) 1 1).2.2 = (firstErr (mkT (cuts l) n) 0).2))) A475 S466 (g_move (by kernel_rfl)) rfl (fun ac A476 => ?_)
          refine s_want (dj := 78) (b := (decide ((gnRes (mkT (cuts l) n) 1 1).2.2 = (firstErr (mkT (cuts l) n) 0).2))) A476 (by kernel_rfl) (by kernel_rfl) (decide_eq_true (by rw [gn_bad _ _ p415])) ?_
          refine s_one (.int .i64 ((gnRes (mkT (cuts l) n) 1 1).2.1)) A476 S466 (g_move (by kernel_rfl)) rfl (fun ac A477 => ?_)
          refine s_want (dj := 78) (b := (decide ((gnRes (mkT (cuts l) n) 1 1).2.2 = (firstErr (mkT (cuts l) n) 0).2))) A477 (by kernel_rfl) (by kernel_rfl) (decide_eq_true (by rw [gn_bad _ _ p415])) ?_
          refine s_one (.bool (decide ((gnRes (mkT (cuts l) n) 1 1).2.1 = 0))) A477 S466 (g_bin (u := .int .i64 ((gnRes (mkT (cuts l) n) 1 1).2.1)) (k := .int .i64 0) (by kernel_rfl) (by kernel_rfl) (fun _ => by kernel_rfl) b_eql) rfl (fun ac A478 => ?_)
          refine s_one (.bool (decide ((gnRes (mkT (cuts l) n) 1 1).2.1 = 0))) A478 S466 (g_pick_t (b := (decide ((gnRes (mkT (cuts l) n) 1 1).2.2 = (firstErr (mkT (cuts l) n) 0).2))) (by kernel_rfl) (decide_eq_true (by rw [gn_bad _ _ p415])) (by kernel_rfl)) rfl (fun ac A479 => ?_)
          refine s_one (.bool (decide ((gnRes (mkT (cuts l) n) 1 1).2.1 = 0))) A479 S466 (g_move (by kernel_rfl)) rfl (fun ac A480 => ?_)
          refine s_want (dj := 82) (b := (decide ((gnRes (mkT (cuts l) n) 1 1).2.1 = 0))) A480 (by kernel_rfl) (by kernel_rfl) (decide_eq_true (by rw [gn_bad _ _ p415])) ?_
          refine s_one (.int .i64 ((firstErr (mkT (cuts l) n) 0).2)) A480 S466 (g_move (by kernel_rfl)) rfl (fun ac A481 => ?_)
          refine s_want (dj := 82) (b := (decide ((gnRes (mkT (cuts l) n) 1 1).2.1 = 0))) A481 (by kernel_rfl) (by kernel_rfl) (decide_eq_true (by rw [gn_bad _ _ p415])) ?_
          refine s_one (.bool (decide ((firstErr (mkT (cuts l) n) 0).2 ≠ 0))) A481 S466 (g_bin (u := .int .i64 ((firstErr (mkT (cuts l) n) 0).2)) (k := .int .i64 0) (by kernel_rfl) (by kernel_rfl) (fun _ => by kernel_rfl) b_neq) rfl (fun ac A482 => ?_)
          refine s_want (dj := 82) (b := (decide ((gnRes (mkT (cuts l) n) 1 1).2.1 = 0))) A482 (by kernel_rfl) (by kernel_rfl) (decide_eq_true (by rw [gn_bad _ _ p415])) ?_
          refine s_one (.bool (decide ((firstErr (mkT (cuts l) n) 0).2 ≠ 0))) A482 S466 (g_move (by kernel_rfl)) rfl (fun ac A483 => ?_)
          refine s_not (dj := 85) (b := (decide ((firstErr (mkT (cuts l) n) 0).2 ≠ 0))) A483 (by kernel_rfl) (by kernel_rfl) (decide_eq_true (by omega)) rfl (fun ac A484 => ?_)
          refine s_not (dj := 85) (b := (decide ((firstErr (mkT (cuts l) n) 0).2 ≠ 0))) A484 (by kernel_rfl) (by kernel_rfl) (decide_eq_true (by omega)) rfl (fun ac A485 => ?_)
          refine s_not (dj := 85) (b := (decide ((firstErr (mkT (cuts l) n) 0).2 ≠ 0))) A485 (by kernel_rfl) (by kernel_rfl) (decide_eq_true (by omega)) rfl (fun ac A486 => ?_)
          refine s_want (dj := 82) (b := (decide ((gnRes (mkT (cuts l) n) 1 1).2.1 = 0))) A486 (by kernel_rfl) (by kernel_rfl) (decide_eq_true (by rw [gn_bad _ _ p415])) ?_
          refine s_one (.bool true) A486 S466 (g_pick_t (b := (decide ((firstErr (mkT (cuts l) n) 0).2 ≠ 0))) (by kernel_rfl) (decide_eq_true (by omega)) (by kernel_rfl)) rfl (fun ac A487 => ?_)
          refine s_one (.bool true) A487 S466 (g_pick_t (b := (decide ((gnRes (mkT (cuts l) n) 1 1).2.1 = 0))) (by kernel_rfl) (decide_eq_true (by rw [gn_bad _ _ p415])) (by kernel_rfl)) rfl (fun ac A488 => ?_)
          refine s_one (.bool true) A488 S466 (g_assign (by kernel_rfl)) rfl (fun ac A489 => ?_)
          refine wpList_nil ?_
          refine n_then ?_
          refine wp_ret ?_
          refine fin1 (.bool true) Try.results9 A489 S466 (rv_tmp (by kernel_rfl)) ⟨?_, S466.kp⟩
          rfl
        · refine rs_alloc (trc zT) A442 S443 sub_all sub_all zero26 rfl rfl rfl (fun g492 ac wc A490 S491 => ?_)
          have T493 := S491.sub (sub_skip sub_all) sub_all
          refine r_1 (i := 2) (by kernel_rfl) ?_
          refine rs_call (fs := #[]) (cp := #[]) (r := [(0, .agg (trc (mkT (cuts l) n))), (0, .agg #[.int .i64 1, .int .i64 1])]) #[.agg (trc (mkT (cuts l) n)), .agg #[.int .i64 1, .int .i64 1]] (.tuple #[.agg (trc ((gnRes (mkT (cuts l) n) 1 1).1)), .int .i64 ((gnRes (mkT (cuts l) n) 1 1).2.1), .int .i64 ((gnRes (mkT (cuts l) n) 1 1).2.2)]) A490 S491 (sub_skip sub_all) sub_all (Gained_s (mkT (cuts l) n) 1 1 _ (done_length _ _ _ _)) Try.call40 rfl rfl (by kernel_rfl) (by kernel_rfl) (by kernel_rfl) rfl (fun ac wc A494 S495 => ?_)
          have T497 := S495.sub (sub_skip sub_all) sub_all
          refine r_take 3 (.tuple #[.agg (trc ((gnRes (mkT (cuts l) n) 1 1).1)), .int .i64 ((gnRes (mkT (cuts l) n) 1 1).2.1), .int .i64 ((gnRes (mkT (cuts l) n) 1 1).2.2)]) A494 T497 (g_move (by kernel_rfl)) rfl rfl rfl (pf_then pf_body) (by kernel_rfl) (fun ac A498 => ?_)
          refine r_take 4 (.agg (trc ((gnRes (mkT (cuts l) n) 1 1).1))) A498 T497 (g_extract (u := .tuple #[.agg (trc ((gnRes (mkT (cuts l) n) 1 1).1)), .int .i64 ((gnRes (mkT (cuts l) n) 1 1).2.1), .int .i64 ((gnRes (mkT (cuts l) n) 1 1).2.2)]) (by kernel_rfl) (fun _ => by kernel_rfl)) rfl rfl rfl (pf_then pf_body) (by kernel_rfl) (fun ac A499 => ?_)
          refine r_take 5 (.int .i64 ((gnRes (mkT (cuts l) n) 1 1).2.1)) A499 T497 (g_extract (u := .tuple #[.agg (trc ((gnRes (mkT (cuts l) n) 1 1).1)), .int .i64 ((gnRes (mkT (cuts l) n) 1 1).2.1), .int .i64 ((gnRes (mkT (cuts l) n) 1 1).2.2)]) (by kernel_rfl) (fun _ => by kernel_rfl)) rfl rfl rfl (pf_then pf_body) (by kernel_rfl) (fun ac A500 => ?_)
          refine r_take 6 (.int .i64 ((gnRes (mkT (cuts l) n) 1 1).2.2)) A500 T497 (g_extract (u := .tuple #[.agg (trc ((gnRes (mkT (cuts l) n) 1 1).1)), .int .i64 ((gnRes (mkT (cuts l) n) 1 1).2.1), .int .i64 ((gnRes (mkT (cuts l) n) 1 1).2.2)]) (by kernel_rfl) (fun _ => by kernel_rfl)) rfl rfl rfl (pf_then pf_body) (by kernel_rfl) (fun ac A501 => ?_)
          refine r_1 (i := 8) (by kernel_rfl) ?_
          refine rs_store (g := g492) (off := 0) (v := .agg (trc ((gnRes (mkT (cuts l) n) 1 1).1))) 0 (trc ((gnRes (mkT (cuts l) n) 1 1).1)) A501 S495 (sub_skip sub_all) sub_all (by kernel_rfl) (by kernel_rfl) rfl (putVal_whole ((trc_size _).trans zT_length) ((trc_size _).trans (gnRes_length _ _ _)) ⟨⟨_, Try.underlying26, rfl⟩, by kernel_rfl⟩ (trc_one _)) rfl rfl (fun wc S503 => ?_)
          have T505 := S503.sub (sub_skip sub_all) sub_all
          refine r_take 9 (.int .i64 ((gnRes (mkT (cuts l) n) 1 1).2.1)) A501 T505 (g_assign (by kernel_rfl)) rfl rfl rfl (pf_then pf_body) (by kernel_rfl) (fun ac A506 => ?_)
          refine r_take 10 (.int .i64 ((gnRes (mkT (cuts l) n) 1 1).2.2)) A506 T505 (g_assign (by kernel_rfl)) rfl rfl rfl (pf_then pf_body) (by kernel_rfl) (fun ac A507 => ?_)
          refine r_done (by kernel_rfl) ?_
          refine n_then ?_
          refine wp_seq ?_
          refine wp_region_lit ?_
          refine s_one (.agg (trc (mkT (cuts l) n))) A507 S503 (g_loadW (g := g23) 3 (by kernel_rfl) rfl ((trc_size _).trans (done_length _ _ _ _)) ⟨⟨_, Try.underlying26, rfl⟩, by kernel_rfl⟩) rfl (fun ac A508 => ?_)
          refine s_call (fs := #[]) (cp := #[]) (r := [(0, .agg (trc (mkT (cuts l) n)))]) #[.agg (trc (mkT (cuts l) n))] (.tuple #[.int .i64 ((firstErr (mkT (cuts l) n) 0).1 : Int), .int .i64 ((firstErr (mkT (cuts l) n) 0).2)]) A508 S503 (refCheckTrace_any (mkT (cuts l) n) _ (done_length _ _ _ _)) Try.call15 (by kernel_rfl) (by kernel_rfl) (by kernel_rfl) rfl (fun ac wc A509 S510 => ?_)
          refine s_one (.tuple #[.int .i64 ((firstErr (mkT (cuts l) n) 0).1 : Int), .int .i64 ((firstErr (mkT (cuts l) n) 0).2)]) A509 S510 (g_move (by kernel_rfl)) rfl (fun ac A512 => ?_)
          refine s_one (.int .i64 ((firstErr (mkT (cuts l) n) 0).1 : Int)) A512 S510 (g_extract (u := .tuple #[.int .i64 ((firstErr (mkT (cuts l) n) 0).1 : Int), .int .i64 ((firstErr (mkT (cuts l) n) 0).2)]) (by kernel_rfl) (fun _ => by kernel_rfl)) rfl (fun ac A513 => ?_)
          refine s_one (.int .i64 ((firstErr (mkT (cuts l) n) 0).2)) A513 S510 (g_extract (u := .tuple #[.int .i64 ((firstErr (mkT (cuts l) n) 0).1 : Int), .int .i64 ((firstErr (mkT (cuts l) n) 0).2)]) (by kernel_rfl) (fun _ => by kernel_rfl)) rfl (fun ac A514 => ?_)
          refine s_one (.int .i64 ((firstErr (mkT (cuts l) n) 0).1 : Int)) A514 S510 (g_assign (by kernel_rfl)) rfl (fun ac A515 => ?_)
          refine s_one (.int .i64 ((firstErr (mkT (cuts l) n) 0).2)) A515 S510 (g_assign (by kernel_rfl)) rfl (fun ac A516 => ?_)
          refine wpList_nil ?_
          refine n_then ?_
          refine wp_seq ?_
          refine wp_region_lit ?_
          refine s_one (.int .i64 ((gnRes (mkT (cuts l) n) 1 1).2.2)) A516 S510 (g_move (by kernel_rfl)) rfl (fun ac A517 => ?_)
          refine s_one (.int .i64 ((firstErr (mkT (cuts l) n) 0).2)) A517 S510 (g_move (by kernel_rfl)) rfl (fun ac A518 => ?_)
          refine s_one (.bool (decide ((gnRes (mkT (cuts l) n) 1 1).2.2 = (firstErr (mkT (cuts l) n) 0).2))) A518 S510 (g_bin (u := .int .i64 ((gnRes (mkT (cuts l) n) 1 1).2.2)) (k := .int .i64 ((firstErr (mkT (cuts l) n) 0).2)) (by kernel_rfl) (by kernel_rfl) (fun _ => by kernel_rfl) b_eql) rfl (fun ac A519 => ?_)
          refine s_one (.bool (decide ((gnRes (mkT (cuts l) n) 1 1).2.2 = (firstErr (mkT (cuts l) n) 0).2))) A519 S510 (g_move (by kernel_rfl)) rfl (fun ac A520 => ?_)
          refine s_want (dj := 78) (b := (decide ((gnRes (mkT (cuts l) n) 1 1).2.2 = (firstErr (mkT (cuts l) n) 0).2))) A520 (by kernel_rfl) (by kernel_rfl) (decide_eq_true (by rw [gn_bad _ _ p415])) ?_
          refine s_one (.int .i64 ((gnRes (mkT (cuts l) n) 1 1).2.1)) A520 S510 (g_move (by kernel_rfl)) rfl (fun ac A521 => ?_)
          refine s_want (dj := 78) (b := (decide ((gnRes (mkT (cuts l) n) 1 1).2.2 = (firstErr (mkT (cuts l) n) 0).2))) A521 (by kernel_rfl) (by kernel_rfl) (decide_eq_true (by rw [gn_bad _ _ p415])) ?_
          refine s_one (.bool (decide ((gnRes (mkT (cuts l) n) 1 1).2.1 = 0))) A521 S510 (g_bin (u := .int .i64 ((gnRes (mkT (cuts l) n) 1 1).2.1)) (k := .int .i64 0) (by kernel_rfl) (by kernel_rfl) (fun _ => by kernel_rfl) b_eql) rfl (fun ac A522 => ?_)
          refine s_one (.bool (decide ((gnRes (mkT (cuts l) n) 1 1).2.1 = 0))) A522 S510 (g_pick_t (b := (decide ((gnRes (mkT (cuts l) n) 1 1).2.2 = (firstErr (mkT (cuts l) n) 0).2))) (by kernel_rfl) (decide_eq_true (by rw [gn_bad _ _ p415])) (by kernel_rfl)) rfl (fun ac A523 => ?_)
          refine s_one (.bool (decide ((gnRes (mkT (cuts l) n) 1 1).2.1 = 0))) A523 S510 (g_move (by kernel_rfl)) rfl (fun ac A524 => ?_)
          refine s_want (dj := 82) (b := (decide ((gnRes (mkT (cuts l) n) 1 1).2.1 = 0))) A524 (by kernel_rfl) (by kernel_rfl) (decide_eq_true (by rw [gn_bad _ _ p415])) ?_
          refine s_one (.int .i64 ((firstErr (mkT (cuts l) n) 0).2)) A524 S510 (g_move (by kernel_rfl)) rfl (fun ac A525 => ?_)
          refine s_want (dj := 82) (b := (decide ((gnRes (mkT (cuts l) n) 1 1).2.1 = 0))) A525 (by kernel_rfl) (by kernel_rfl) (decide_eq_true (by rw [gn_bad _ _ p415])) ?_
          refine s_one (.bool (decide ((firstErr (mkT (cuts l) n) 0).2 ≠ 0))) A525 S510 (g_bin (u := .int .i64 ((firstErr (mkT (cuts l) n) 0).2)) (k := .int .i64 0) (by kernel_rfl) (by kernel_rfl) (fun _ => by kernel_rfl) b_neq) rfl (fun ac A526 => ?_)
          refine s_want (dj := 82) (b := (decide ((gnRes (mkT (cuts l) n) 1 1).2.1 = 0))) A526 (by kernel_rfl) (by kernel_rfl) (decide_eq_true (by rw [gn_bad _ _ p415])) ?_
          refine s_one (.bool (decide ((firstErr (mkT (cuts l) n) 0).2 ≠ 0))) A526 S510 (g_move (by kernel_rfl)) rfl (fun ac A527 => ?_)
          refine s_not (dj := 85) (b := (decide ((firstErr (mkT (cuts l) n) 0).2 ≠ 0))) A527 (by kernel_rfl) (by kernel_rfl) (decide_eq_true (by omega)) rfl (fun ac A528 => ?_)
          refine s_not (dj := 85) (b := (decide ((firstErr (mkT (cuts l) n) 0).2 ≠ 0))) A528 (by kernel_rfl) (by kernel_rfl) (decide_eq_true (by omega)) rfl (fun ac A529 => ?_)
          refine s_not (dj := 85) (b := (decide ((firstErr (mkT (cuts l) n) 0).2 ≠ 0))) A529 (by kernel_rfl) (by kernel_rfl) (decide_eq_true (by omega)) rfl (fun ac A530 => ?_)
          refine s_want (dj := 82) (b := (decide ((gnRes (mkT (cuts l) n) 1 1).2.1 = 0))) A530 (by kernel_rfl) (by kernel_rfl) (decide_eq_true (by rw [gn_bad _ _ p415])) ?_
          refine s_one (.bool true) A530 S510 (g_pick_t (b := (decide ((firstErr (mkT (cuts l) n) 0).2 ≠ 0))) (by kernel_rfl) (decide_eq_true (by omega)) (by kernel_rfl)) rfl (fun ac A531 => ?_)
          refine s_one (.bool true) A531 S510 (g_pick_t (b := (decide ((gnRes (mkT (cuts l) n) 1 1).2.1 = 0))) (by kernel_rfl) (decide_eq_true (by rw [gn_bad _ _ p415])) (by kernel_rfl)) rfl (fun ac A532 => ?_)
          refine s_one (.bool true) A532 S510 (g_assign (by kernel_rfl)) rfl (fun ac A533 => ?_)
          refine wpList_nil ?_
          refine n_then ?_
          refine wp_ret ?_
          refine fin1 (.bool true) Try.results9 A533 S510 (rv_tmp (by kernel_rfl)) ⟨?_, S510.kp⟩
          rfl
      · refine rs_alloc (trc zT) A441 S440 sub_all sub_all zero26 rfl rfl rfl (fun g536 ac wc A534 S535 => ?_)
        have T537 := S535.sub (sub_skip sub_all) sub_all
        refine r_1 (i := 1) (by kernel_rfl) ?_
        refine rs_call (fs := #[]) (cp := #[]) (r := [(0, .int .i64 1)]) #[.int .i64 1] (.agg #[.int .i64 1, .int .i64 1]) A534 S535 (sub_skip sub_all) sub_all (Whole_s 1 _) Try.call44 rfl rfl (by kernel_rfl) (by kernel_rfl) (by kernel_rfl) rfl (fun ac wc A538 S539 => ?_)
        have T541 := S539.sub (sub_skip sub_all) sub_all
        refine r_1 (i := 2) (by kernel_rfl) ?_
        refine rs_call (fs := #[]) (cp := #[]) (r := [(0, .agg (trc (mkT (cuts l) n))), (0, .agg #[.int .i64 1, .int .i64 1])]) #[.agg (trc (mkT (cuts l) n)), .agg #[.int .i64 1, .int .i64 1]] (.tuple #[.agg (trc ((gnRes (mkT (cuts l) n) 1 1).1)), .int .i64 ((gnRes (mkT (cuts l) n) 1 1).2.1), .int .i64 ((gnRes (mkT (cuts l) n) 1 1).2.2)]) A538 S539 (sub_skip sub_all) sub_all (Gained_s (mkT (cuts l) n) 1 1 _ (done_length _ _ _ _)) Try.call40 rfl rfl (by kernel_rfl) (by kernel_rfl) (by kernel_rfl) rfl (fun ac wc A542 S543 => ?_)
        have T545 := S543.sub (sub_skip sub_all) sub_all
        refine r_take 3 (.tuple #[.agg (trc ((gnRes (mkT (cuts l) n) 1 1).1)), .int .i64 ((gnRes (mkT (cuts l) n) 1 1).2.1), .int .i64 ((gnRes (mkT (cuts l) n) 1 1).2.2)]) A542 T545 (g_move (by kernel_rfl)) rfl rfl rfl (pf_then pf_body) (by kernel_rfl) (fun ac A546 => ?_)
        refine r_take 4 (.agg (trc ((gnRes (mkT (cuts l) n) 1 1).1))) A546 T545 (g_extract (u := .tuple #[.agg (trc ((gnRes (mkT (cuts l) n) 1 1).1)), .int .i64 ((gnRes (mkT (cuts l) n) 1 1).2.1), .int .i64 ((gnRes (mkT (cuts l) n) 1 1).2.2)]) (by kernel_rfl) (fun _ => by kernel_rfl)) rfl rfl rfl (pf_then pf_body) (by kernel_rfl) (fun ac A547 => ?_)
        refine r_take 5 (.int .i64 ((gnRes (mkT (cuts l) n) 1 1).2.1)) A547 T545 (g_extract (u := .tuple #[.agg (trc ((gnRes (mkT (cuts l) n) 1 1).1)), .int .i64 ((gnRes (mkT (cuts l) n) 1 1).2.1), .int .i64 ((gnRes (mkT (cuts l) n) 1 1).2.2)]) (by kernel_rfl) (fun _ => by kernel_rfl)) rfl rfl rfl (pf_then pf_body) (by kernel_rfl) (fun ac A548 => ?_)
        refine r_take 6 (.int .i64 ((gnRes (mkT (cuts l) n) 1 1).2.2)) A548 T545 (g_extract (u := .tuple #[.agg (trc ((gnRes (mkT (cuts l) n) 1 1).1)), .int .i64 ((gnRes (mkT (cuts l) n) 1 1).2.1), .int .i64 ((gnRes (mkT (cuts l) n) 1 1).2.2)]) (by kernel_rfl) (fun _ => by kernel_rfl)) rfl rfl rfl (pf_then pf_body) (by kernel_rfl) (fun ac A549 => ?_)
        refine r_1 (i := 8) (by kernel_rfl) ?_
        refine rs_store (g := g536) (off := 0) (v := .agg (trc ((gnRes (mkT (cuts l) n) 1 1).1))) 0 (trc ((gnRes (mkT (cuts l) n) 1 1).1)) A549 S543 (sub_skip sub_all) sub_all (by kernel_rfl) (by kernel_rfl) rfl (putVal_whole ((trc_size _).trans zT_length) ((trc_size _).trans (gnRes_length _ _ _)) ⟨⟨_, Try.underlying26, rfl⟩, by kernel_rfl⟩ (trc_one _)) rfl rfl (fun wc S551 => ?_)
        have T553 := S551.sub (sub_skip sub_all) sub_all
        refine r_take 9 (.int .i64 ((gnRes (mkT (cuts l) n) 1 1).2.1)) A549 T553 (g_assign (by kernel_rfl)) rfl rfl rfl (pf_then pf_body) (by kernel_rfl) (fun ac A554 => ?_)
        refine r_take 10 (.int .i64 ((gnRes (mkT (cuts l) n) 1 1).2.2)) A554 T553 (g_assign (by kernel_rfl)) rfl rfl rfl (pf_then pf_body) (by kernel_rfl) (fun ac A555 => ?_)
        refine r_done (by kernel_rfl) ?_
        refine n_then ?_
        refine wp_seq ?_
        refine wp_region_lit ?_
        refine s_one (.agg (trc (mkT (cuts l) n))) A555 S551 (g_loadW (g := g23) 3 (by kernel_rfl) rfl ((trc_size _).trans (done_length _ _ _ _)) ⟨⟨_, Try.underlying26, rfl⟩, by kernel_rfl⟩) rfl (fun ac A556 => ?_)
        refine s_call (fs := #[]) (cp := #[]) (r := [(0, .agg (trc (mkT (cuts l) n)))]) #[.agg (trc (mkT (cuts l) n))] (.tuple #[.int .i64 ((firstErr (mkT (cuts l) n) 0).1 : Int), .int .i64 ((firstErr (mkT (cuts l) n) 0).2)]) A556 S551 (refCheckTrace_any (mkT (cuts l) n) _ (done_length _ _ _ _)) Try.call15 (by kernel_rfl) (by kernel_rfl) (by kernel_rfl) rfl (fun ac wc A557 S558 => ?_)
        refine s_one (.tuple #[.int .i64 ((firstErr (mkT (cuts l) n) 0).1 : Int), .int .i64 ((firstErr (mkT (cuts l) n) 0).2)]) A557 S558 (g_move (by kernel_rfl)) rfl (fun ac A560 => ?_)
        refine s_one (.int .i64 ((firstErr (mkT (cuts l) n) 0).1 : Int)) A560 S558 (g_extract (u := .tuple #[.int .i64 ((firstErr (mkT (cuts l) n) 0).1 : Int), .int .i64 ((firstErr (mkT (cuts l) n) 0).2)]) (by kernel_rfl) (fun _ => by kernel_rfl)) rfl (fun ac A561 => ?_)
        refine s_one (.int .i64 ((firstErr (mkT (cuts l) n) 0).2)) A561 S558 (g_extract (u := .tuple #[.int .i64 ((firstErr (mkT (cuts l) n) 0).1 : Int), .int .i64 ((firstErr (mkT (cuts l) n) 0).2)]) (by kernel_rfl) (fun _ => by kernel_rfl)) rfl (fun ac A562 => ?_)
        refine s_one (.int .i64 ((firstErr (mkT (cuts l) n) 0).1 : Int)) A562 S558 (g_assign (by kernel_rfl)) rfl (fun ac A563 => ?_)
        refine s_one (.int .i64 ((firstErr (mkT (cuts l) n) 0).2)) A563 S558 (g_assign (by kernel_rfl)) rfl (fun ac A564 => ?_)
        refine wpList_nil ?_
        refine n_then ?_
        refine wp_seq ?_
        refine wp_region_lit ?_
        refine s_one (.int .i64 ((gnRes (mkT (cuts l) n) 1 1).2.2)) A564 S558 (g_move (by kernel_rfl)) rfl (fun ac A565 => ?_)
        refine s_one (.int .i64 ((firstErr (mkT (cuts l) n) 0).2)) A565 S558 (g_move (by kernel_rfl)) rfl (fun ac A566 => ?_)
        refine s_one (.bool (decide ((gnRes (mkT (cuts l) n) 1 1).2.2 = (firstErr (mkT (cuts l) n) 0).2))) A566 S558 (g_bin (u := .int .i64 ((gnRes (mkT (cuts l) n) 1 1).2.2)) (k := .int .i64 ((firstErr (mkT (cuts l) n) 0).2)) (by kernel_rfl) (by kernel_rfl) (fun _ => by kernel_rfl) b_eql) rfl (fun ac A567 => ?_)
        refine s_one (.bool (decide ((gnRes (mkT (cuts l) n) 1 1).2.2 = (firstErr (mkT (cuts l) n) 0).2))) A567 S558 (g_move (by kernel_rfl)) rfl (fun ac A568 => ?_)
        refine s_want (dj := 78) (b := (decide ((gnRes (mkT (cuts l) n) 1 1).2.2 = (firstErr (mkT (cuts l) n) 0).2))) A568 (by kernel_rfl) (by kernel_rfl) (decide_eq_true (by rw [gn_bad _ _ p415])) ?_
        refine s_one (.int .i64 ((gnRes (mkT (cuts l) n) 1 1).2.1)) A568 S558 (g_move (by kernel_rfl)) rfl (fun ac A569 => ?_)
        refine s_want (dj := 78) (b := (decide ((gnRes (mkT (cuts l) n) 1 1).2.2 = (firstErr (mkT (cuts l) n) 0).2))) A569 (by kernel_rfl) (by kernel_rfl) (decide_eq_true (by rw [gn_bad _ _ p415])) ?_
        refine s_one (.bool (decide ((gnRes (mkT (cuts l) n) 1 1).2.1 = 0))) A569 S558 (g_bin (u := .int .i64 ((gnRes (mkT (cuts l) n) 1 1).2.1)) (k := .int .i64 0) (by kernel_rfl) (by kernel_rfl) (fun _ => by kernel_rfl) b_eql) rfl (fun ac A570 => ?_)
        refine s_one (.bool (decide ((gnRes (mkT (cuts l) n) 1 1).2.1 = 0))) A570 S558 (g_pick_t (b := (decide ((gnRes (mkT (cuts l) n) 1 1).2.2 = (firstErr (mkT (cuts l) n) 0).2))) (by kernel_rfl) (decide_eq_true (by rw [gn_bad _ _ p415])) (by kernel_rfl)) rfl (fun ac A571 => ?_)
        refine s_one (.bool (decide ((gnRes (mkT (cuts l) n) 1 1).2.1 = 0))) A571 S558 (g_move (by kernel_rfl)) rfl (fun ac A572 => ?_)
        refine s_want (dj := 82) (b := (decide ((gnRes (mkT (cuts l) n) 1 1).2.1 = 0))) A572 (by kernel_rfl) (by kernel_rfl) (decide_eq_true (by rw [gn_bad _ _ p415])) ?_
        refine s_one (.int .i64 ((firstErr (mkT (cuts l) n) 0).2)) A572 S558 (g_move (by kernel_rfl)) rfl (fun ac A573 => ?_)
        refine s_want (dj := 82) (b := (decide ((gnRes (mkT (cuts l) n) 1 1).2.1 = 0))) A573 (by kernel_rfl) (by kernel_rfl) (decide_eq_true (by rw [gn_bad _ _ p415])) ?_
        refine s_one (.bool (decide ((firstErr (mkT (cuts l) n) 0).2 ≠ 0))) A573 S558 (g_bin (u := .int .i64 ((firstErr (mkT (cuts l) n) 0).2)) (k := .int .i64 0) (by kernel_rfl) (by kernel_rfl) (fun _ => by kernel_rfl) b_neq) rfl (fun ac A574 => ?_)
        refine s_want (dj := 82) (b := (decide ((gnRes (mkT (cuts l) n) 1 1).2.1 = 0))) A574 (by kernel_rfl) (by kernel_rfl) (decide_eq_true (by rw [gn_bad _ _ p415])) ?_
        refine s_one (.bool (decide ((firstErr (mkT (cuts l) n) 0).2 ≠ 0))) A574 S558 (g_move (by kernel_rfl)) rfl (fun ac A575 => ?_)
        refine s_not (dj := 85) (b := (decide ((firstErr (mkT (cuts l) n) 0).2 ≠ 0))) A575 (by kernel_rfl) (by kernel_rfl) (decide_eq_true (by omega)) rfl (fun ac A576 => ?_)
        refine s_not (dj := 85) (b := (decide ((firstErr (mkT (cuts l) n) 0).2 ≠ 0))) A576 (by kernel_rfl) (by kernel_rfl) (decide_eq_true (by omega)) rfl (fun ac A577 => ?_)
        refine s_not (dj := 85) (b := (decide ((firstErr (mkT (cuts l) n) 0).2 ≠ 0))) A577 (by kernel_rfl) (by kernel_rfl) (decide_eq_true (by omega)) rfl (fun ac A578 => ?_)
        refine s_want (dj := 82) (b := (decide ((gnRes (mkT (cuts l) n) 1 1).2.1 = 0))) A578 (by kernel_rfl) (by kernel_rfl) (decide_eq_true (by rw [gn_bad _ _ p415])) ?_
        refine s_one (.bool true) A578 S558 (g_pick_t (b := (decide ((firstErr (mkT (cuts l) n) 0).2 ≠ 0))) (by kernel_rfl) (decide_eq_true (by omega)) (by kernel_rfl)) rfl (fun ac A579 => ?_)
        refine s_one (.bool true) A579 S558 (g_pick_t (b := (decide ((gnRes (mkT (cuts l) n) 1 1).2.1 = 0))) (by kernel_rfl) (decide_eq_true (by rw [gn_bad _ _ p415])) (by kernel_rfl)) rfl (fun ac A580 => ?_)
        refine s_one (.bool true) A580 S558 (g_assign (by kernel_rfl)) rfl (fun ac A581 => ?_)
        refine wpList_nil ?_
        refine n_then ?_
        refine wp_ret ?_
        refine fin1 (.bool true) Try.results9 A581 S558 (rv_tmp (by kernel_rfl)) ⟨?_, S558.kp⟩
        rfl

end Go.Proofs.Ytfooefkgdcjlhaa
