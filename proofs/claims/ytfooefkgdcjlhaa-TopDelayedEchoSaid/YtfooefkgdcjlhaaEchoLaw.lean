/- The walk of TopDelayedEcho: it returns true. -/
import Derived.Test.YtfooefkgdcjlhaaEcho
import Derived.Test.YtfooefkgdcjlhaaAwake
import Derived.Test.YtfooefkgdcjlhaaRow
import Derived.Test.YtfooefkgdcjlhaaArgs
namespace Go.Proofs.Ytfooefkgdcjlhaa
open Go.RowKit Go.Cpl

theorem Gained_e {l : List Int} {n : Nat} (g : Int) (w : World) (hn : l.length = n) (hl : ∀ i : Nat, i < n → -200 ≤ nthI l i ∧ nthI l i ≤ 200) (h1 : 1 ≤ g) (h10 : g ≤ 10) :
    Calls Try.prog 40 #[.agg (trc (mkT (ecP l) 64)), .agg #[.int .i64 g, .int .i64 1]] w fun e w' => e = .returned (.tuple #[.agg (trc (mkT (scL (ecP l) g) 64)), .int .i64 0, .int .i64 0]) ∧ Below w.heap.size w w' := by
  have := Gained_s (mkT (ecP l) 64) g 1 w (mkT_length _ _)
  rw [ec_gain (ecP_length _) (ecP_bd hn hl) h1 h10] at this
  exact this
theorem Shifted_mk (x : List Int) (b : Int) (w : World) (hl : x.length = 64) (h : Small x) (h2 : inB b (-64) 64 = true) :
    Calls Try.prog 30 #[.agg (trc (mkT x 64)), .int .i64 b] w fun e w' => e = .returned (.tuple #[.agg (trc (mkT (shL x b) 64)), .int .i64 0]) ∧ Below w.heap.size w w' := by
  have := Shifted_s (mkT x 64) b w (mkT_length _ _)
  rw [sh_r (mkT_right h) h2, mkT_nums hl h] at this
  exact this
theorem Envelope_mk (x : List Int) (w : World) (hl : x.length = 64) (h : Small x) :
    Calls Try.prog 18 #[.agg (trc (mkT x 64))] w fun e w' => e = .returned (.tuple #[.agg (ints (sqL x)), .int .i64 0]) ∧ Below w.heap.size w w' := by
  have := Envelope_s (mkT x 64) w (mkT_length _ _)
  unfold enRes at this
  rw [if_pos (mkT_right h), mkT_right h, mkT_nums hl h] at this
  exact this
theorem PeakIn_30 (x : List Int) (w : World) (hl : x.length = 64) (h : Small x) :
    Calls Try.prog 23 #[.agg (trc (mkT x 64)), .agg #[.int .i64 0, .int .i64 30]] w fun e w' => e = .returned (.tuple #[.agg #[.int .i64 (peakOf x 0 30).1, .int .i64 (peakOf x 0 30).2], .int .i64 0]) ∧ Below w.heap.size w w' := by
  have := PeakIn_right (mkT x 64) 0 30 w (mkT_length _ _) (mkT_right h) (by omega) (by omega)
  rw [mkT_nums hl h] at this
  exact this
theorem PeakIn_60 (x : List Int) (w : World) (hl : x.length = 64) (h : Small x) :
    Calls Try.prog 23 #[.agg (trc (mkT x 64)), .agg #[.int .i64 0, .int .i64 60]] w fun e w' => e = .returned (.tuple #[.agg #[.int .i64 (peakOf x 0 60).1, .int .i64 (peakOf x 0 60).2], .int .i64 0]) ∧ Below w.heap.size w w' := by
  have := PeakIn_right (mkT x 64) 0 60 w (mkT_length _ _) (mkT_right h) (by omega) (by omega)
  rw [mkT_nums hl h] at this
  exact this
theorem LagOf_mk (x y : List Int) (w : World) (hl : x.length = 64) (h : Small x) (hl2 : y.length = 64) (h2 : Small y) :
    Calls Try.prog 28 #[.agg (trc (mkT x 64)), .agg (trc (mkT y 64)), .int .i64 25] w fun e w' => e = .returned (.tuple #[.int .i64 (lagOf x y 25), .int .i64 0]) ∧ Below w.heap.size w w' := by
  have := LagOf_any (mkT x 64) (mkT y 64) 25 w (mkT_length _ _) (mkT_length _ _)
  have e : lagRes (mkT x 64) (mkT y 64) 25 = (lagOf x y 25, 0) := by
    have i : inB 25 0 32 = true := by decide
    unfold lagRes; rw [fo_0 (mkT_right h), if_pos (mkT_right h2), i, if_pos rfl, mkT_nums hl h, mkT_nums hl2 h2, show (25 : Int).toNat = 25 from rfl]
  rw [e] at this
  dsimp only at this
  exact this
theorem sq_late2 {x : List Int} {g : Int} {b k : Nat} (h : (k : Int) + (b : Int) < 61) : nthI (sqL (shL (scL x g) b)) ((k : Int) + (b : Int)).toNat = g * g * nthI (sqL x) k := by
  rw [show ((k : Int) + (b : Int)).toNat = k + b by omega, sqL_at (by omega), sqL_at (by omega), sq_late (by omega)]
theorem sqL_bd {x : List Int} (h : Small x) (k : Nat) : 0 ≤ nthI (sqL x) k ∧ nthI (sqL x) k ≤ 33521672 := by
  by_cases q : k < 61
  · rw [sqL_at q]; exact sqP_bound h k
  · rw [nthI_out (by rw [sqL_length]; omega)]; omega
theorem peak_bd {x : List Int} (h : Small x) (n : Nat) : (0 ≤ (peakOf x 0 n).1 ∧ (peakOf x 0 n).1 ≤ (n : Int)) ∧ 0 ≤ (peakOf x 0 n).2 ∧ (peakOf x 0 n).2 ≤ 33521672 := by
  rw [peakOf_to]
  obtain ⟨h1, h2, i, _, h4⟩ := pkTo_bd x n
  rw [h4]
  exact ⟨⟨h1, h2⟩, sqP_bound h i⟩
theorem nz_t {l : List Int} {k : Nat} (h : nz l k = true) : true = nz l (k + 1) := by simp only [nz]; rw [h]; rfl
theorem nz_f {l : List Int} {k : Nat} (h : nz l k = false) : decide (nthI l k ≠ 0) = nz l (k + 1) := by simp only [nz]; rw [h]; rfl
theorem bd_step {l : List Int} {k : Nat} (h : ∀ i : Nat, i < k → -200 ≤ nthI l i ∧ nthI l i ≤ 200) (hk : -200 ≤ nthI l k ∧ nthI l k ≤ 200) : ∀ i : Nat, i < k + 1 → -200 ≤ nthI l i ∧ nthI l i ≤ 200 := by
  intro i hi
  by_cases e : i = k
  · subst e; exact hk
  · exact h i (by omega)
theorem ecX_snoc {l : List Int} {k : Nat} (h : k < l.length) : rowI (ecX (l.take k)) ++ [.int .i64 (nthI l k)] = rowI (ecX (l.take (k + 1))) := by
  rw [rowI_snoc, take_snocI h]
  rfl

set_option maxRecDepth 100000 in
set_option maxHeartbeats 400000 in
theorem traced_s  (w0 : World) :
    Calls Try.prog 46 #[] w0 fun e w' => e = .returned (.bool true) ∧ Below w0.heap.size w0 w' := by
  have S0 := St.start w0
  refine enter (n := 32) Try.func46 rfl rfl rfl (fun ac A0 => ?_)
  refine wp_seq ?_
  refine wp_region_lit ?_
  refine s_one (.bool false) A0 S0 (g_assign (by kernel_rfl)) rfl (fun ac A1 => ?_)
  refine wpList_nil ?_
  refine n_then ?_
  refine wp_seq ?_
  refine wp_region_lit ?_
  refine s_call (fs := #[]) (cp := #[]) (r := [(0, .int .i64 10), (0, .int .i64 100)]) #[.int .i64 10, .int .i64 100] (.agg (trc s1)) A1 S0 (c_sp1 _) Try.call50 (by kernel_rfl) (by kernel_rfl) (by kernel_rfl) rfl (fun ac wc A2 S3 => ?_)
  refine s_one (.agg #[.int .i64 0, .int .i64 60]) A2 S3 (g_build (r := [(1, .int .i64 60)]) (by kernel_rfl) (fun _ => by kernel_rfl)) rfl (fun ac A5 => ?_)
  refine s_call (fs := #[]) (cp := #[]) (r := [(0, .agg (trc s1)), (0, .agg #[.int .i64 0, .int .i64 60])]) #[.agg (trc s1), .agg #[.int .i64 0, .int .i64 60]] (.tuple #[.agg #[.int .i64 7, .int .i64 10000], .int .i64 0]) A5 S3 (c_peak _) Try.call23 (by kernel_rfl) (by kernel_rfl) (by kernel_rfl) rfl (fun ac wc A6 S7 => ?_)
  refine s_one (.tuple #[.agg #[.int .i64 7, .int .i64 10000], .int .i64 0]) A6 S7 (g_move (by kernel_rfl)) rfl (fun ac A9 => ?_)
  refine s_one (.agg #[.int .i64 7, .int .i64 10000]) A9 S7 (g_extract (u := .tuple #[.agg #[.int .i64 7, .int .i64 10000], .int .i64 0]) (by kernel_rfl) (fun _ => by kernel_rfl)) rfl (fun ac A10 => ?_)
  refine s_one (.int .i64 0) A10 S7 (g_extract (u := .tuple #[.agg #[.int .i64 7, .int .i64 10000], .int .i64 0]) (by kernel_rfl) (fun _ => by kernel_rfl)) rfl (fun ac A11 => ?_)
  refine s_alloc (#[.int .i64 0, .int .i64 0]) A11 S7 (by kernel_rfl) rfl (fun g14 ac wc A12 S13 => ?_)
  refine s_store (g := g14) (off := 0) (v := .agg #[.int .i64 7, .int .i64 10000]) 0 (#[.int .i64 7, .int .i64 10000]) A12 S13 (by kernel_rfl) (by kernel_rfl) rfl (by kernel_rfl) (fun wc S16 => ?_)
  refine s_one (.int .i64 0) A12 S16 (g_assign (by kernel_rfl)) rfl (fun ac A18 => ?_)
  refine wpList_nil ?_
  refine n_then ?_
  refine wp_seq ?_
  refine wp_region_lit ?_
  refine s_call (fs := #[]) (cp := #[]) (r := [(0, .int .i64 10), (0, .int .i64 100)]) #[.int .i64 10, .int .i64 100] (.agg (trc s1)) A18 S16 (c_sp1 _) Try.call50 (by kernel_rfl) (by kernel_rfl) (by kernel_rfl) rfl (fun ac wc A19 S20 => ?_)
  refine s_call (fs := #[]) (cp := #[]) (r := [(0, .int .i64 13), (0, .int .i64 50)]) #[.int .i64 13, .int .i64 50] (.agg (trc s2)) A19 S20 (c_sp2 _) Try.call50 (by kernel_rfl) (by kernel_rfl) (by kernel_rfl) rfl (fun ac wc A22 S23 => ?_)
  refine s_call (fs := #[]) (cp := #[]) (r := [(0, .agg (trc s1)), (0, .agg (trc s2)), (0, .int .i64 5)]) #[.agg (trc s1), .agg (trc s2), .int .i64 5] (.tuple #[.int .i64 3, .int .i64 0]) A22 S23 (c_lag _) Try.call28 (by kernel_rfl) (by kernel_rfl) (by kernel_rfl) rfl (fun ac wc A25 S26 => ?_)
  refine s_one (.tuple #[.int .i64 3, .int .i64 0]) A25 S26 (g_move (by kernel_rfl)) rfl (fun ac A28 => ?_)
  refine s_one (.int .i64 3) A28 S26 (g_extract (u := .tuple #[.int .i64 3, .int .i64 0]) (by kernel_rfl) (fun _ => by kernel_rfl)) rfl (fun ac A29 => ?_)
  refine s_one (.int .i64 0) A29 S26 (g_extract (u := .tuple #[.int .i64 3, .int .i64 0]) (by kernel_rfl) (fun _ => by kernel_rfl)) rfl (fun ac A30 => ?_)
  refine s_one (.int .i64 3) A30 S26 (g_assign (by kernel_rfl)) rfl (fun ac A31 => ?_)
  refine s_one (.int .i64 0) A31 S26 (g_assign (by kernel_rfl)) rfl (fun ac A32 => ?_)
  refine wpList_nil ?_
  refine n_then ?_
  refine wp_seq ?_
  refine wp_region_lit ?_
  refine s_one (.int .i64 0) A32 S26 (g_move (by kernel_rfl)) rfl (fun ac A33 => ?_)
  refine s_one (.bool (decide (0 = 0))) A33 S26 (g_bin (u := .int .i64 0) (k := .int .i64 0) (by kernel_rfl) (by kernel_rfl) (fun _ => by kernel_rfl) b_eql) rfl (fun ac A34 => ?_)
  refine s_one (.bool (decide (0 = 0))) A34 S26 (g_move (by kernel_rfl)) rfl (fun ac A35 => ?_)
  refine s_want (dj := 19) (b := (decide (0 = 0))) A35 (by kernel_rfl) (by kernel_rfl) (by decide) ?_
  refine s_one (.agg #[.int .i64 7, .int .i64 10000]) A35 S26 (g_load (g := g14) (off := 0) 0 (by kernel_rfl) rfl (by kernel_rfl)) rfl (fun ac A36 => ?_)
  refine s_want (dj := 19) (b := (decide (0 = 0))) A36 (by kernel_rfl) (by kernel_rfl) (by decide) ?_
  refine s_one (.agg #[.int .i64 7, .int .i64 10000]) A36 S26 (g_build (r := [(0, .int .i64 7), (1, .int .i64 10000)]) (by kernel_rfl) (fun _ => by kernel_rfl)) rfl (fun ac A37 => ?_)
  refine s_want (dj := 19) (b := (decide (0 = 0))) A37 (by kernel_rfl) (by kernel_rfl) (by decide) ?_
  refine s_one (.bool (decide ([7, 10000] = [7, 10000]))) A37 S26 (g_bin (u := .agg #[.int .i64 7, .int .i64 10000]) (k := .agg #[.int .i64 7, .int .i64 10000]) (by kernel_rfl) (by kernel_rfl) (fun _ => by kernel_rfl) (q_struct (n := 2) [7, 10000] [7, 10000] (by kernel_rfl) rfl rfl)) rfl (fun ac A38 => ?_)
  refine s_one (.bool (decide ([7, 10000] = [7, 10000]))) A38 S26 (g_pick_t (b := (decide (0 = 0))) (by kernel_rfl) (by decide) (by kernel_rfl)) rfl (fun ac A39 => ?_)
  refine s_one (.bool (decide ([7, 10000] = [7, 10000]))) A39 S26 (g_move (by kernel_rfl)) rfl (fun ac A40 => ?_)
  refine s_want (dj := 24) (b := (decide ([7, 10000] = [7, 10000]))) A40 (by kernel_rfl) (by kernel_rfl) (decide_eq_true rfl) ?_
  refine s_one (.int .i64 0) A40 S26 (g_move (by kernel_rfl)) rfl (fun ac A41 => ?_)
  refine s_want (dj := 24) (b := (decide ([7, 10000] = [7, 10000]))) A41 (by kernel_rfl) (by kernel_rfl) (decide_eq_true rfl) ?_
  refine s_one (.bool (decide (0 = 0))) A41 S26 (g_bin (u := .int .i64 0) (k := .int .i64 0) (by kernel_rfl) (by kernel_rfl) (fun _ => by kernel_rfl) b_eql) rfl (fun ac A42 => ?_)
  refine s_one (.bool (decide (0 = 0))) A42 S26 (g_pick_t (b := (decide ([7, 10000] = [7, 10000]))) (by kernel_rfl) (decide_eq_true rfl) (by kernel_rfl)) rfl (fun ac A43 => ?_)
  refine s_one (.bool (decide (0 = 0))) A43 S26 (g_move (by kernel_rfl)) rfl (fun ac A44 => ?_)
  refine s_want (dj := 28) (b := (decide (0 = 0))) A44 (by kernel_rfl) (by kernel_rfl) (by decide) ?_
  refine s_one (.int .i64 3) A44 S26 (g_move (by kernel_rfl)) rfl (fun ac A45 => ?_)
  refine s_want (dj := 28) (b := (decide (0 = 0))) A45 (by kernel_rfl) (by kernel_rfl) (by decide) ?_
  refine s_one (.bool (decide (3 = 3))) A45 S26 (g_bin (u := .int .i64 3) (k := .int .i64 3) (by kernel_rfl) (by kernel_rfl) (fun _ => by kernel_rfl) b_eql) rfl (fun ac A46 => ?_)
  refine s_one (.bool (decide (3 = 3))) A46 S26 (g_pick_t (b := (decide (0 = 0))) (by kernel_rfl) (by decide) (by kernel_rfl)) rfl (fun ac A47 => ?_)
  refine s_one (.bool (decide (3 = 3))) A47 S26 (g_assign (by kernel_rfl)) rfl (fun ac A48 => ?_)
  refine wpList_nil ?_
  refine n_then ?_
  refine wp_ret ?_
  refine fin1 (.bool (decide (3 = 3))) Try.results46 A48 S26 (rv_tmp (by kernel_rfl)) ⟨?_, S26.kp⟩
  exact congrArg (fun b => Ending.returned (Value.bool b)) (by decide)

set_option maxRecDepth 100000 in
set_option maxHeartbeats 400000 in
theorem TopDelayedEcho_s (l : List Int) (A : Option Addr) (cap n : Nat) (b g : Int) (w0 : World) (hn : l.length = n) (hr : IReads w0 A l) :
    Calls Try.prog 11 #[.slice A n cap, .int .i64 b, .int .i64 g] w0 fun e w' => e = .returned (.bool true) ∧ Below w0.heap.size w0 w' := by
  have S0 := St.start w0
  have HR : ∀ k, k < n → ∃ ad, A = some ad ∧ w0.cell? (ad.add k) = some (.int .i64 (nthI l k)) := fun k hk => hr k (by omega)
  refine enter (n := 183) Try.func11 rfl rfl rfl (fun ac A0 => ?_)
  refine wp_seq ?_
  refine wp_region_lit ?_
  refine s_one (.bool false) A0 S0 (g_assign (by kernel_rfl)) rfl (fun ac A1 => ?_)
  refine wpList_nil ?_
  refine n_then ?_
  refine wp_seq ?_
  refine wp_seq ?_
  refine wp_region_lit ?_
  refine s_call (fs := #[]) (cp := #[]) (r := []) #[] (.bool true) A1 S0 (traced_s _) Try.call46 (by kernel_rfl) (by kernel_rfl) (by kernel_rfl) rfl (fun ac wc A2 S3 => ?_)
  refine s_one (.bool false) A2 S3 (g_un (u := .bool true) (by kernel_rfl) (fun _ => by kernel_rfl)) rfl (fun ac A5 => ?_)
  refine wpList_nil ?_
  refine n_then ?_
  refine c_f (b := false) A5 (by kernel_rfl) rfl ?_
  refine wp_skip ?_
  refine n_then ?_
  refine wp_seq ?_
  refine wp_seq ?_
  refine c_cut (fun ac wc => Fr 183 ac [(41, .bool ((decide ((n : Int) > 20)) || ((!(inB b 0 20)) || (!(inB g 1 10))))), (0, .slice A n cap), (1, .int .i64 b), (2, .int .i64 g), (6, .bool false), (27, .bool true), (28, .bool false)] ∧ St w0 [] [] wc) ?_ ?_
  · refine wp_region_lit ?_
    refine s_one (.slice A n cap) A5 S3 (g_move (by kernel_rfl)) rfl (fun ac A6 => ?_)
    refine s_one (.int .i64 (n : Int)) A6 S3 (g_built (r := [(0, .slice A n cap)]) (by kernel_rfl) (fun _ _ _ => by kernel_rfl)) rfl (fun ac A7 => ?_)
    refine s_one (.bool (decide ((n : Int) > 20))) A7 S3 (g_bin (u := .int .i64 (n : Int)) (k := .int .i64 20) (by kernel_rfl) (by kernel_rfl) (fun _ => by kernel_rfl) (fun _ => by kernel_rfl)) rfl (fun ac A8 => ?_)
    refine s_one (.bool (decide ((n : Int) > 20))) A8 S3 (g_move (by kernel_rfl)) rfl (fun ac A9 => ?_)
    refine by_bool (decide ((n : Int) > 20)) (fun h10 => ?_) (fun h10 => ?_)
    · have p11 := of_decide_eq_true h10
      refine s_not (dj := 32) (b := (decide ((n : Int) > 20))) A9 (by kernel_rfl) (by kernel_rfl) h10 rfl (fun ac A12 => ?_)
      refine s_not (dj := 32) (b := (decide ((n : Int) > 20))) A12 (by kernel_rfl) (by kernel_rfl) h10 rfl (fun ac A13 => ?_)
      refine s_not (dj := 32) (b := (decide ((n : Int) > 20))) A13 (by kernel_rfl) (by kernel_rfl) h10 rfl (fun ac A14 => ?_)
      refine s_one (.bool true) A14 S3 (g_pick_t (b := (decide ((n : Int) > 20))) (by kernel_rfl) h10 (by kernel_rfl)) rfl (fun ac A15 => ?_)
      refine s_one (.bool true) A15 S3 (g_move (by kernel_rfl)) rfl (fun ac A16 => ?_)
      refine s_not (dj := 37) (b := true) A16 (by kernel_rfl) (by kernel_rfl) rfl rfl (fun ac A17 => ?_)
      refine s_not (dj := 37) (b := true) A17 (by kernel_rfl) (by kernel_rfl) rfl rfl (fun ac A18 => ?_)
      refine s_not (dj := 37) (b := true) A18 (by kernel_rfl) (by kernel_rfl) rfl rfl (fun ac A19 => ?_)
      refine s_one (.bool true) A19 S3 (g_pick_t (b := true) (by kernel_rfl) rfl (by kernel_rfl)) rfl (fun ac A20 => ?_)
      refine wpList_nil ?_
      refine n_then ?_
      exact ⟨(A20.slot (A20.slot (A20.slot (A20.slot (A20.slot (A20.slot (A20.slot A20.nil (v := .bool false) (by kernel_rfl) rfl) (v := .bool true) (by kernel_rfl) rfl) (v := .bool false) (by kernel_rfl) rfl) (v := .int .i64 g) (by kernel_rfl) rfl) (v := .int .i64 b) (by kernel_rfl) rfl) (v := .slice A n cap) (by kernel_rfl) rfl) (v := .bool true) (by kernel_rfl) (congrArg Value.bool (b_ot1 h10).symm)), S3.sub sub_all sub_all⟩
    · have p21 := of_decide_eq_false h10
      refine s_want (dj := 32) (b := (decide ((n : Int) > 20))) A9 (by kernel_rfl) (by kernel_rfl) h10 ?_
      refine s_one (.int .i64 b) A9 S3 (g_move (by kernel_rfl)) rfl (fun ac A22 => ?_)
      refine s_want (dj := 32) (b := (decide ((n : Int) > 20))) A22 (by kernel_rfl) (by kernel_rfl) h10 ?_
      refine s_call (fs := #[]) (cp := #[]) (r := [(0, .int .i64 b), (0, .int .i64 0), (0, .int .i64 20)]) #[.int .i64 b, .int .i64 0, .int .i64 20] (.bool (inB b 0 20)) A22 S3 (sameB (Within_any b 0 20 _)) Try.call22 (by kernel_rfl) (by kernel_rfl) (by kernel_rfl) rfl (fun ac wc A23 S24 => ?_)
      refine s_want (dj := 32) (b := (decide ((n : Int) > 20))) A23 (by kernel_rfl) (by kernel_rfl) h10 ?_
      refine s_one (.bool (!(inB b 0 20))) A23 S24 (g_un (u := .bool (inB b 0 20)) (by kernel_rfl) (fun _ => by kernel_rfl)) rfl (fun ac A26 => ?_)
      refine s_one (.bool (!(inB b 0 20))) A26 S24 (g_pick_f (b := (decide ((n : Int) > 20))) (by kernel_rfl) h10 (by kernel_rfl)) rfl (fun ac A27 => ?_)
      refine s_one (.bool (!(inB b 0 20))) A27 S24 (g_move (by kernel_rfl)) rfl (fun ac A28 => ?_)
      refine by_bool (!(inB b 0 20)) (fun h29 => ?_) (fun h29 => ?_)
      · have h30 : inB b 0 20 = false := by simpa using h29
        refine s_not (dj := 37) (b := (!(inB b 0 20))) A28 (by kernel_rfl) (by kernel_rfl) h29 rfl (fun ac A31 => ?_)
        refine s_not (dj := 37) (b := (!(inB b 0 20))) A31 (by kernel_rfl) (by kernel_rfl) h29 rfl (fun ac A32 => ?_)
        refine s_not (dj := 37) (b := (!(inB b 0 20))) A32 (by kernel_rfl) (by kernel_rfl) h29 rfl (fun ac A33 => ?_)
        refine s_one (.bool true) A33 S24 (g_pick_t (b := (!(inB b 0 20))) (by kernel_rfl) h29 (by kernel_rfl)) rfl (fun ac A34 => ?_)
        refine wpList_nil ?_
        refine n_then ?_
        exact ⟨(A34.slot (A34.slot (A34.slot (A34.slot (A34.slot (A34.slot (A34.slot A34.nil (v := .bool false) (by kernel_rfl) rfl) (v := .bool true) (by kernel_rfl) rfl) (v := .bool false) (by kernel_rfl) rfl) (v := .int .i64 g) (by kernel_rfl) rfl) (v := .int .i64 b) (by kernel_rfl) rfl) (v := .slice A n cap) (by kernel_rfl) rfl) (v := .bool true) (by kernel_rfl) (congrArg Value.bool (b_ot2 (b_ot1 h29)).symm)), S24.sub sub_all sub_all⟩
      · have h35 : inB b 0 20 = true := by simpa using h29
        have hb := inB_true.1 h35
        refine s_want (dj := 37) (b := (!(inB b 0 20))) A28 (by kernel_rfl) (by kernel_rfl) h29 ?_
        refine s_one (.int .i64 g) A28 S24 (g_move (by kernel_rfl)) rfl (fun ac A36 => ?_)
        refine s_want (dj := 37) (b := (!(inB b 0 20))) A36 (by kernel_rfl) (by kernel_rfl) h29 ?_
        refine s_call (fs := #[]) (cp := #[]) (r := [(0, .int .i64 g), (0, .int .i64 1), (0, .int .i64 10)]) #[.int .i64 g, .int .i64 1, .int .i64 10] (.bool (inB g 1 10)) A36 S24 (sameB (Within_any g 1 10 _)) Try.call22 (by kernel_rfl) (by kernel_rfl) (by kernel_rfl) rfl (fun ac wc A37 S38 => ?_)
        refine s_want (dj := 37) (b := (!(inB b 0 20))) A37 (by kernel_rfl) (by kernel_rfl) h29 ?_
        refine s_one (.bool (!(inB g 1 10))) A37 S38 (g_un (u := .bool (inB g 1 10)) (by kernel_rfl) (fun _ => by kernel_rfl)) rfl (fun ac A40 => ?_)
        refine s_one (.bool (!(inB g 1 10))) A40 S38 (g_pick_f (b := (!(inB b 0 20))) (by kernel_rfl) h29 (by kernel_rfl)) rfl (fun ac A41 => ?_)
        refine wpList_nil ?_
        refine n_then ?_
        exact ⟨(A41.slot (A41.slot (A41.slot (A41.slot (A41.slot (A41.slot (A41.slot A41.nil (v := .bool false) (by kernel_rfl) rfl) (v := .bool true) (by kernel_rfl) rfl) (v := .bool false) (by kernel_rfl) rfl) (v := .int .i64 g) (by kernel_rfl) rfl) (v := .int .i64 b) (by kernel_rfl) rfl) (v := .slice A n cap) (by kernel_rfl) rfl) (v := .bool (!(inB g 1 10))) (by kernel_rfl) (congrArg Value.bool (b_or_f h10 (b_or_f h29 (Eq.refl (!(inB g 1 10))))).symm)), S38.sub sub_all sub_all⟩
  · rintro ac wc ⟨A42, S43⟩
    refine n_then ?_
    refine c_ifb (b := ((decide ((n : Int) > 20)) || ((!(inB b 0 20)) || (!(inB g 1 10))))) A42 (by kernel_rfl) (fun h44 => ?_) (fun h44 => ?_)
    · refine wp_seq ?_
      refine wp_region_lit ?_
      refine s_one (.bool true) A42 S43 (g_assign (by kernel_rfl)) rfl (fun ac A45 => ?_)
      refine wpList_nil ?_
      refine n_then ?_
      refine wp_ret ?_
      refine r_then ?_
      refine fin1 (.bool true) Try.results11 A45 S43 (rv_tmp (by kernel_rfl)) ⟨?_, S43.kp⟩
      rfl
    · have h46 := (Bool.or_eq_false_iff.1 h44).1
      have p47 := of_decide_eq_false h46
      have h48 := (Bool.or_eq_false_iff.1 h44).2
      have h49 := (Bool.or_eq_false_iff.1 h48).1
      have h50 : inB b 0 20 = true := by simpa using h49
      have hb := inB_true.1 h50
      have h51 := (Bool.or_eq_false_iff.1 h48).2
      have h52 : inB g 1 10 = true := by simpa using h51
      have hg := inB_true.1 h52
      have hgg := mul_bd (x := g) (y := g) (a := 10) (b := 10) (by omega) (by omega) (by omega) (by omega)
      refine wp_skip ?_
      refine n_then ?_
      refine wp_seq ?_
      obtain ⟨bn, rfl⟩ : ∃ bn : Nat, b = (bn : Int) := ⟨b.toNat, by omega⟩
      refine wp_region_lit ?_
      refine s_bs (e := 3) (r := [(0, .int .i64 0), (1, .int .i64 0), (2, .int .i64 0)]) (#[.int .i64 0, .int .i64 0, .int .i64 0]) A42 S43 (by kernel_rfl) (by kernel_rfl) rfl (fun g55 ac wc A53 S54 => ?_)
      refine s_one (.slice (some ⟨g55, 0, none⟩) 3 3) A53 S54 (g_assign (by kernel_rfl)) rfl (fun ac A56 => ?_)
      refine s_one (.bool false) A56 S54 (g_assign (by kernel_rfl)) rfl (fun ac A57 => ?_)
      refine wpList_nil ?_
      refine n_then ?_
      refine wp_seq ?_
      refine wp_seq ?_
      refine wp_region_lit ?_
      refine s_one (.int .i64 0) A57 S54 (g_assign (by kernel_rfl)) rfl (fun ac A58 => ?_)
      refine wpList_nil ?_
      refine n_then ?_
      refine wp_block ?_
      have S59 : St w0 [] [⟨.slice (some ⟨g55, 0, none⟩) 3 3, 3, 1, 3, [.int .i64 0, .int .i64 0, .int .i64 0]⟩] _ := St.toRow S54 0 rfl rfl (by decide)
      refine c_loopN (fun mm ac wc => ∃ (k : Nat) (v : Value), mm = n - k ∧ (k ≤ n) ∧ (∀ i : Nat, i < k → -200 ≤ nthI l i ∧ nthI l i ≤ 200) ∧ Fr 183 ac [(0, .slice A n cap), (1, .int .i64 (bn : Int)), (2, .int .i64 g), (27, .bool true), (28, .bool false), (41, .bool ((decide ((n : Int) > 20)) || ((!(inB (bn : Int) 0 20)) || (!(inB g 1 10))))), (42, .slice (some ⟨g55, 0, none⟩) 3 3), (9, .int .i64 (k : Int)), (7, v), (8, .bool (nz l k))] ∧ St w0 [] [⟨v, 3, 1, (3 + k), (rowI (ecX (l.take k)))⟩] wc) _ ⟨0, .slice (some ⟨g55, 0, none⟩) 3 3, rfl, (by omega), (fun i hi => by omega), (A58.slot (A58.slot (A58.slot (A58.slot (A58.slot (A58.slot (A58.slot (A58.slot (A58.slot (A58.slot A58.nil (v := .bool false) (by kernel_rfl) rfl) (v := .slice (some ⟨g55, 0, none⟩) 3 3) (by kernel_rfl) rfl) (v := .int .i64 0) (by kernel_rfl) (congrArg (Value.int .i64) (by omega))) (v := .slice (some ⟨g55, 0, none⟩) 3 3) (by kernel_rfl) rfl) (v := .bool ((decide ((n : Int) > 20)) || ((!(inB (bn : Int) 0 20)) || (!(inB g 1 10))))) (by kernel_rfl) rfl) (v := .bool false) (by kernel_rfl) rfl) (v := .bool true) (by kernel_rfl) rfl) (v := .int .i64 g) (by kernel_rfl) rfl) (v := .int .i64 (bn : Int)) (by kernel_rfl) rfl) (v := .slice A n cap) (by kernel_rfl) rfl), (St.rerow 0 S59 rfl ⟨rfl, rfl⟩).sub sub_all sub_all⟩ ?_
      rintro mm ac wc ⟨k, v, hm62, hk, hl, A60, S61⟩
      refine wp_seq ?_
      refine wp_seq ?_
      refine wp_region_lit ?_
      refine s_one (.int .i64 (k : Int)) A60 S61 (g_move (by kernel_rfl)) rfl (fun ac A63 => ?_)
      refine s_one (.slice A n cap) A63 S61 (g_move (by kernel_rfl)) rfl (fun ac A64 => ?_)
      refine s_one (.int .i64 (n : Int)) A64 S61 (g_built (r := [(0, .slice A n cap)]) (by kernel_rfl) (fun _ _ _ => by kernel_rfl)) rfl (fun ac A65 => ?_)
      refine s_one (.bool (decide ((k : Int) < (n : Int)))) A65 S61 (g_bin (u := .int .i64 (k : Int)) (k := .int .i64 (n : Int)) (by kernel_rfl) (by kernel_rfl) (fun _ => by kernel_rfl) (fun _ => by kernel_rfl)) rfl (fun ac A66 => ?_)
      refine wpList_nil ?_
      refine n_then ?_
      refine c_ifb (b := (decide ((k : Int) < (n : Int)))) A66 (by kernel_rfl) (fun h67 => ?_) (fun h67 => ?_)
      · have p68 := of_decide_eq_true h67
        refine wp_skip ?_
        refine n_then ?_
        refine wp_seq ?_
        refine wp_block ?_
        refine wp_seq ?_
        refine wp_seq ?_
        refine wp_region_lit ?_
        refine s_one (.slice A n cap) A66 S61 (g_move (by kernel_rfl)) rfl (fun ac A69 => ?_)
        refine s_one (.int .i64 (k : Int)) A69 S61 (g_move (by kernel_rfl)) rfl (fun ac A70 => ?_)
        obtain ⟨ad71, rfl, hc72⟩ := HR k (by omega)
        refine s_one (.pointer (some (ad71.add k))) A70 S61 (g_index (u := .slice (some ad71) n cap) (k := .int .i64 (k : Int)) (by kernel_rfl) (by kernel_rfl) (ix_x (e := 3) (bytes := 8) k (by kernel_rfl) (by omega) (by omega))) rfl (fun ac A73 => ?_)
        refine s_one (.int .i64 (nthI l k)) A73 S61 (g_loadX (by kernel_rfl) hc72 (by kernel_rfl)) rfl (fun ac A74 => ?_)
        refine s_call (fs := #[]) (cp := #[]) (r := [(0, .int .i64 (nthI l k)), (0, .int .i64 (-200)), (0, .int .i64 200)]) #[.int .i64 (nthI l k), .int .i64 (-200), .int .i64 200] (.bool (inB (nthI l k) (-200) 200)) A74 S61 (sameB (Within_any (nthI l k) (-200) 200 _)) Try.call22 (by kernel_rfl) (by kernel_rfl) (by kernel_rfl) rfl (fun ac wc A75 S76 => ?_)
        refine s_one (.bool (!(inB (nthI l k) (-200) 200))) A75 S76 (g_un (u := .bool (inB (nthI l k) (-200) 200)) (by kernel_rfl) (fun _ => by kernel_rfl)) rfl (fun ac A78 => ?_)
        refine wpList_nil ?_
        refine n_then ?_
        refine c_ifb (b := (!(inB (nthI l k) (-200) 200))) A78 (by kernel_rfl) (fun h79 => ?_) (fun h79 => ?_)
        · have h80 : inB (nthI l k) (-200) 200 = false := by simpa using h79
          refine wp_seq ?_
          refine wp_region_lit ?_
          refine s_one (.bool true) A78 S76 (g_assign (by kernel_rfl)) rfl (fun ac A81 => ?_)
          refine wpList_nil ?_
          refine n_then ?_
          refine wp_ret ?_
          refine r_then ?_
          refine r_block ?_
          refine r_then ?_
          refine r_then ?_
          refine r_block ?_
          refine r_then ?_
          refine fin1 (.bool true) Try.results11 A81 S76 (rv_tmp (by kernel_rfl)) ⟨?_, S76.kp⟩
          rfl
        · have h82 : inB (nthI l k) (-200) 200 = true := by simpa using h79
          have hv := inB_true.1 h82
          refine wp_skip ?_
          refine n_then ?_
          refine r_begin (w0 := w0) (by kernel_rfl) (S76.sub sub_all sub_nil) (fun wc T83 B84 => ?_)
          have S85 := S76.kept B84
          refine r_take 0 (v) A78 T83 (g_move (by kernel_rfl)) rfl rfl rfl (pf_block (pf_then (pf_then (pf_block (pf_then pf_body))))) (by kernel_rfl) (fun ac A86 => ?_)
          refine r_take 1 (.slice (some ad71) n cap) A86 T83 (g_move (by kernel_rfl)) rfl rfl rfl (pf_block (pf_then (pf_then (pf_block (pf_then pf_body))))) (by kernel_rfl) (fun ac A87 => ?_)
          refine r_take 2 (.int .i64 (k : Int)) A87 T83 (g_move (by kernel_rfl)) rfl rfl rfl (pf_block (pf_then (pf_then (pf_block (pf_then pf_body))))) (by kernel_rfl) (fun ac A88 => ?_)
          obtain ⟨ad90, e91, hc89⟩ := HR k (by omega)
          obtain rfl := Option.some.inj e91
          refine r_take 3 (.pointer (some (ad71.add k))) A88 T83 (g_index (u := .slice (some ad71) n cap) (k := .int .i64 (k : Int)) (by kernel_rfl) (by kernel_rfl) (ix_x (e := 3) (bytes := 8) k (by kernel_rfl) (by omega) (by omega))) rfl rfl rfl (pf_block (pf_then (pf_then (pf_block (pf_then pf_body))))) (by kernel_rfl) (fun ac A92 => ?_)
          refine r_take 4 (.int .i64 (nthI l k)) A92 T83 (g_loadX (by kernel_rfl) hc89 (by kernel_rfl)) rfl rfl rfl (pf_block (pf_then (pf_then (pf_block (pf_then pf_body))))) (by kernel_rfl) (fun ac A93 => ?_)
          refine r_take 7 (.bool (nz l k)) A93 T83 (g_move (by kernel_rfl)) rfl rfl rfl (pf_block (pf_then (pf_then (pf_block (pf_then pf_body))))) (by kernel_rfl) (fun ac A94 => ?_)
          refine r_1 (i := 5) (by kernel_rfl) ?_
          refine rs_bs (e := 3) (r := [(0, .int .i64 (nthI l k))]) (#[.int .i64 (nthI l k)]) A94 S85 sub_all sub_nil (by kernel_rfl) (by kernel_rfl) rfl rfl rfl (fun g97 ac wc A95 S96 => ?_)
          have T98 := S96.sub sub_nil sub_nil
          refine r_1 (i := 6) (by kernel_rfl) ?_
          refine rs_append (e := 3) (size := 1) (bytes := 8) (v := v) (g := g97) (m' := 1) (c := 1) 0 0 [.int .i64 (nthI l k)] A95 S96 sub_nil (fun _ => sub_nil) (by kernel_rfl) (by kernel_rfl) (by kernel_rfl) rfl rfl (by kernel_rfl) rfl (by kernel_rfl) (by omega) (by omega) rfl rfl rfl (fun v103 ac wc A99 S100 => ?_)
          have T102 := S100.sub sub_nil sub_nil
          refine r_take 8 (.bool (nz l k)) A99 T102 (g_move (by kernel_rfl)) rfl rfl rfl (pf_block (pf_then (pf_then (pf_block (pf_then pf_body))))) (by kernel_rfl) (fun ac A104 => ?_)
          refine by_bool (nz l k) (fun h105 => ?_) (fun h105 => ?_)
          · refine r_skip 9 A104 T102 rfl (want_f (dj := 63) (b := (nz l k)) A104 rfl (by kernel_rfl) (by kernel_rfl) h105) rfl (pf_block (pf_then (pf_then (pf_block (pf_then pf_body))))) (by kernel_rfl) (fun ac A106 => ?_)
            refine r_skip 10 A106 T102 rfl (want_f (dj := 63) (b := (nz l k)) A106 rfl (by kernel_rfl) (by kernel_rfl) h105) rfl (pf_block (pf_then (pf_then (pf_block (pf_then pf_body))))) (by kernel_rfl) (fun ac A107 => ?_)
            refine r_skip 11 A107 T102 rfl (want_f (dj := 63) (b := (nz l k)) A107 rfl (by kernel_rfl) (by kernel_rfl) h105) rfl (pf_block (pf_then (pf_then (pf_block (pf_then pf_body))))) (by kernel_rfl) (fun ac A108 => ?_)
            refine r_skip 12 A108 T102 rfl (want_f (dj := 63) (b := (nz l k)) A108 rfl (by kernel_rfl) (by kernel_rfl) h105) rfl (pf_block (pf_then (pf_then (pf_block (pf_then pf_body))))) (by kernel_rfl) (fun ac A109 => ?_)
            refine r_skip 13 A109 T102 rfl (want_f (dj := 63) (b := (nz l k)) A109 rfl (by kernel_rfl) (by kernel_rfl) h105) rfl (pf_block (pf_then (pf_then (pf_block (pf_then pf_body))))) (by kernel_rfl) (fun ac A110 => ?_)
            refine r_take 14 (.bool true) A110 T102 (g_pick_t (b := (nz l k)) (by kernel_rfl) h105 (by kernel_rfl)) rfl rfl rfl (pf_block (pf_then (pf_then (pf_block (pf_then pf_body))))) (by kernel_rfl) (fun ac A111 => ?_)
            refine r_take 15 (v103) A111 T102 (g_assign (by kernel_rfl)) rfl rfl rfl (pf_block (pf_then (pf_then (pf_block (pf_then pf_body))))) (by kernel_rfl) (fun ac A112 => ?_)
            refine r_take 16 (.bool true) A112 T102 (g_assign (by kernel_rfl)) rfl rfl rfl (pf_block (pf_then (pf_then (pf_block (pf_then pf_body))))) (by kernel_rfl) (fun ac A113 => ?_)
            refine r_done (by kernel_rfl) ?_
            refine n_block ?_
            refine n_then ?_
            refine wp_region_lit ?_
            refine s_one (.int .i64 (k : Int)) A113 S100 (g_move (by kernel_rfl)) rfl (fun ac A114 => ?_)
            refine s_one (.int .i64 ((k : Int) + 1)) A114 S100 (g_bin (u := .int .i64 (k : Int)) (k := .int .i64 1) (by kernel_rfl) (by kernel_rfl) (fun _ => by kernel_rfl) (b_add (by omega))) rfl (fun ac A115 => ?_)
            refine s_one (.int .i64 ((k : Int) + 1)) A115 S100 (g_assign (by kernel_rfl)) rfl (fun ac A116 => ?_)
            refine wpList_nil ?_
            refine n_then ?_
            refine ⟨_, ⟨k + 1, v103, rfl, (by omega), (bd_step hl hv), (A116.slot (A116.slot (A116.slot (A116.slot (A116.slot (A116.slot (A116.slot (A116.slot (A116.slot (A116.slot A116.nil (v := .bool true) (by kernel_rfl) (congrArg Value.bool (nz_t h105))) (v := v103) (by kernel_rfl) rfl) (v := .int .i64 ((k : Int) + 1)) (by kernel_rfl) (congrArg (Value.int .i64) (by omega))) (v := .slice (some ⟨g55, 0, none⟩) 3 3) (by kernel_rfl) rfl) (v := .bool ((decide ((n : Int) > 20)) || ((!(inB (bn : Int) 0 20)) || (!(inB g 1 10))))) (by kernel_rfl) rfl) (v := .bool false) (by kernel_rfl) rfl) (v := .bool true) (by kernel_rfl) rfl) (v := .int .i64 g) (by kernel_rfl) rfl) (v := .int .i64 (bn : Int)) (by kernel_rfl) rfl) (v := .slice (some ad71) n cap) (by kernel_rfl) (by first | rfl | simp)), (St.rerow 0 S100 rfl ⟨by omega, ecX_snoc (by omega)⟩).sub sub_nil sub_all⟩, ?_⟩
            omega
          · refine r_take 9 (.slice (some ad71) n cap) A104 T102 (g_move (by kernel_rfl)) rfl (want_t (dj := 63) (b := (nz l k)) A104 rfl (by kernel_rfl) (by kernel_rfl) h105) rfl (pf_block (pf_then (pf_then (pf_block (pf_then pf_body))))) (by kernel_rfl) (fun ac A117 => ?_)
            refine r_take 10 (.int .i64 (k : Int)) A117 T102 (g_move (by kernel_rfl)) rfl (want_t (dj := 63) (b := (nz l k)) A117 rfl (by kernel_rfl) (by kernel_rfl) h105) rfl (pf_block (pf_then (pf_then (pf_block (pf_then pf_body))))) (by kernel_rfl) (fun ac A118 => ?_)
            obtain ⟨ad120, e121, hc119⟩ := HR k (by omega)
            obtain rfl := Option.some.inj e121
            refine r_take 11 (.pointer (some (ad71.add k))) A118 T102 (g_index (u := .slice (some ad71) n cap) (k := .int .i64 (k : Int)) (by kernel_rfl) (by kernel_rfl) (ix_x (e := 3) (bytes := 8) k (by kernel_rfl) (by omega) (by omega))) rfl (want_t (dj := 63) (b := (nz l k)) A118 rfl (by kernel_rfl) (by kernel_rfl) h105) rfl (pf_block (pf_then (pf_then (pf_block (pf_then pf_body))))) (by kernel_rfl) (fun ac A122 => ?_)
            refine r_take 12 (.int .i64 (nthI l k)) A122 T102 (g_loadX (by kernel_rfl) hc119 (by kernel_rfl)) rfl (want_t (dj := 63) (b := (nz l k)) A122 rfl (by kernel_rfl) (by kernel_rfl) h105) rfl (pf_block (pf_then (pf_then (pf_block (pf_then pf_body))))) (by kernel_rfl) (fun ac A123 => ?_)
            refine r_take 13 (.bool (decide (nthI l k ≠ 0))) A123 T102 (g_bin (u := .int .i64 (nthI l k)) (k := .int .i64 0) (by kernel_rfl) (by kernel_rfl) (fun _ => by kernel_rfl) b_neq) rfl (want_t (dj := 63) (b := (nz l k)) A123 rfl (by kernel_rfl) (by kernel_rfl) h105) rfl (pf_block (pf_then (pf_then (pf_block (pf_then pf_body))))) (by kernel_rfl) (fun ac A124 => ?_)
            refine r_take 14 (.bool (decide (nthI l k ≠ 0))) A124 T102 (g_pick_f (b := (nz l k)) (by kernel_rfl) h105 (by kernel_rfl)) rfl rfl rfl (pf_block (pf_then (pf_then (pf_block (pf_then pf_body))))) (by kernel_rfl) (fun ac A125 => ?_)
            refine r_take 15 (v103) A125 T102 (g_assign (by kernel_rfl)) rfl rfl rfl (pf_block (pf_then (pf_then (pf_block (pf_then pf_body))))) (by kernel_rfl) (fun ac A126 => ?_)
            refine r_take 16 (.bool (decide (nthI l k ≠ 0))) A126 T102 (g_assign (by kernel_rfl)) rfl rfl rfl (pf_block (pf_then (pf_then (pf_block (pf_then pf_body))))) (by kernel_rfl) (fun ac A127 => ?_)
            refine r_done (by kernel_rfl) ?_
            refine n_block ?_
            refine n_then ?_
            refine wp_region_lit ?_
            refine s_one (.int .i64 (k : Int)) A127 S100 (g_move (by kernel_rfl)) rfl (fun ac A128 => ?_)
            refine s_one (.int .i64 ((k : Int) + 1)) A128 S100 (g_bin (u := .int .i64 (k : Int)) (k := .int .i64 1) (by kernel_rfl) (by kernel_rfl) (fun _ => by kernel_rfl) (b_add (by omega))) rfl (fun ac A129 => ?_)
            refine s_one (.int .i64 ((k : Int) + 1)) A129 S100 (g_assign (by kernel_rfl)) rfl (fun ac A130 => ?_)
            refine wpList_nil ?_
            refine n_then ?_
            refine ⟨_, ⟨k + 1, v103, rfl, (by omega), (bd_step hl hv), (A130.slot (A130.slot (A130.slot (A130.slot (A130.slot (A130.slot (A130.slot (A130.slot (A130.slot (A130.slot A130.nil (v := .bool (decide (nthI l k ≠ 0))) (by kernel_rfl) (congrArg Value.bool (nz_f h105))) (v := v103) (by kernel_rfl) rfl) (v := .int .i64 ((k : Int) + 1)) (by kernel_rfl) (congrArg (Value.int .i64) (by omega))) (v := .slice (some ⟨g55, 0, none⟩) 3 3) (by kernel_rfl) rfl) (v := .bool ((decide ((n : Int) > 20)) || ((!(inB (bn : Int) 0 20)) || (!(inB g 1 10))))) (by kernel_rfl) rfl) (v := .bool false) (by kernel_rfl) rfl) (v := .bool true) (by kernel_rfl) rfl) (v := .int .i64 g) (by kernel_rfl) rfl) (v := .int .i64 (bn : Int)) (by kernel_rfl) rfl) (v := .slice (some ad71) n cap) (by kernel_rfl) (by first | rfl | simp)), (St.rerow 0 S100 rfl ⟨by omega, ecX_snoc (by omega)⟩).sub sub_nil sub_all⟩, ?_⟩
            omega
      · have p131 := of_decide_eq_false h67
        refine wp_exit ?_
        refine x_then ?_
        refine x_then ?_
        refine x_hit ?_
        refine n_then ?_
        refine wp_seq ?_
        obtain rfl : n = k := by omega
        rw [List.take_of_length_le (Nat.le_of_eq hn)] at S61
        refine wp_region_lit ?_
        refine s_one (v) A66 S61 (g_move (by kernel_rfl)) rfl (fun ac A132 => ?_)
        obtain ⟨hl138, A136, cap137, rfl, hR139⟩ := rowI_reads (v := v) (m := 3 + n) (l := (ecX l)) (S61.row 0 rfl)
        refine s_call (fs := #[]) (cp := #[]) (r := [(0, .slice A136 (3 + n) cap137)]) #[.slice A136 (3 + n) cap137] (.agg (trc (mkT (ecX l) (3 + n)))) A132 S61 (Trace_s (ecX l) A136 cap137 (3 + n) _ hl138 hR139 (by omega)) Try.call47 (by kernel_rfl) (by kernel_rfl) (by kernel_rfl) rfl (fun ac wc A133 S134 => ?_)
        refine s_alloc (trc zT) A133 S134 zero26 rfl (fun g142 ac wc A140 S141 => ?_)
        refine s_store (g := g142) (off := 0) (v := .agg (trc (mkT (ecX l) (3 + n)))) 0 (trc (mkT (ecX l) (3 + n))) A140 S141 (by kernel_rfl) (by kernel_rfl) rfl (putVal_whole ((trc_size _).trans zT_length) ((trc_size _).trans (done_length _ _ _ _)) ⟨⟨_, Try.underlying26, rfl⟩, by kernel_rfl⟩ (trc_one _)) (fun wc S144 => ?_)
        refine wpList_nil ?_
        refine n_then ?_
        refine wp_seq ?_
        have SX0 := S144
        rw [ec_mk hn] at SX0
        have SX : St w0 [⟨g142, 26, (trc (mkT (ecP l) 64)), true⟩] [] _ := SX0.sub sub_all sub_nil
        have sp := ecP_small hn hl
        have sc := scL_small (ecP_bd hn hl) hg.1 hg.2
        have ss := shL_small sc (bn : Int)
        refine r_begin (w0 := w0) (by kernel_rfl) (SX.sub sub_all sub_all) (fun wc T146 B147 => ?_)
        have S148 := SX.kept B147
        refine r_take 0 (.agg (trc (mkT (ecP l) 64))) A140 T146 (g_loadW (g := g142) 0 (by kernel_rfl) rfl ((trc_size _).trans (mkT_length _ _)) ⟨⟨_, Try.underlying26, rfl⟩, by kernel_rfl⟩) rfl rfl rfl (pf_then pf_body) (by kernel_rfl) (fun ac A149 => ?_)
        refine r_take 1 (.int .i64 g) A149 T146 (g_move (by kernel_rfl)) rfl rfl rfl (pf_then pf_body) (by kernel_rfl) (fun ac A150 => ?_)
        refine r_2 (i := 2) (j := 8) (by kernel_rfl) ?_ ?_
        · refine rs_call (fs := #[]) (cp := #[]) (r := [(0, .int .i64 g)]) #[.int .i64 g] (.agg #[.int .i64 g, .int .i64 1]) A150 S148 sub_all sub_all (Whole_s g _) Try.call44 rfl rfl (by kernel_rfl) (by kernel_rfl) (by kernel_rfl) rfl (fun ac wc A151 S152 => ?_)
          have T154 := S152.sub sub_all sub_all
          refine r_2 (i := 3) (j := 8) (by kernel_rfl) ?_ ?_
          · refine rs_call (fs := #[]) (cp := #[]) (r := [(0, .agg (trc (mkT (ecP l) 64))), (0, .agg #[.int .i64 g, .int .i64 1])]) #[.agg (trc (mkT (ecP l) 64)), .agg #[.int .i64 g, .int .i64 1]] (.tuple #[.agg (trc (mkT (scL (ecP l) g) 64)), .int .i64 0, .int .i64 0]) A151 S152 sub_all sub_all (Gained_e g _ hn hl hg.1 hg.2) Try.call40 rfl rfl (by kernel_rfl) (by kernel_rfl) (by kernel_rfl) rfl (fun ac wc A155 S156 => ?_)
            have T158 := S156.sub sub_all sub_all
            refine r_take 4 (.tuple #[.agg (trc (mkT (scL (ecP l) g) 64)), .int .i64 0, .int .i64 0]) A155 T158 (g_move (by kernel_rfl)) rfl rfl rfl (pf_then pf_body) (by kernel_rfl) (fun ac A159 => ?_)
            refine r_take 5 (.agg (trc (mkT (scL (ecP l) g) 64))) A159 T158 (g_extract (u := .tuple #[.agg (trc (mkT (scL (ecP l) g) 64)), .int .i64 0, .int .i64 0]) (by kernel_rfl) (fun _ => by kernel_rfl)) rfl rfl rfl (pf_then pf_body) (by kernel_rfl) (fun ac A160 => ?_)
            refine r_take 6 (.int .i64 0) A160 T158 (g_extract (u := .tuple #[.agg (trc (mkT (scL (ecP l) g) 64)), .int .i64 0, .int .i64 0]) (by kernel_rfl) (fun _ => by kernel_rfl)) rfl rfl rfl (pf_then pf_body) (by kernel_rfl) (fun ac A161 => ?_)
            refine r_take 7 (.int .i64 0) A161 T158 (g_extract (u := .tuple #[.agg (trc (mkT (scL (ecP l) g) 64)), .int .i64 0, .int .i64 0]) (by kernel_rfl) (fun _ => by kernel_rfl)) rfl rfl rfl (pf_then pf_body) (by kernel_rfl) (fun ac A162 => ?_)
            refine r_1 (i := 8) (by kernel_rfl) ?_
            refine rs_alloc (trc zT) A162 S156 sub_all sub_all zero26 rfl rfl rfl (fun g165 ac wc A163 S164 => ?_)
            have T166 := S164.sub (sub_skip sub_all) sub_all
            refine r_1 (i := 9) (by kernel_rfl) ?_
            refine rs_store (g := g165) (off := 0) (v := .agg (trc (mkT (scL (ecP l) g) 64))) 0 (trc (mkT (scL (ecP l) g) 64)) A163 S164 (sub_skip sub_all) sub_all (by kernel_rfl) (by kernel_rfl) rfl (putVal_whole ((trc_size _).trans zT_length) ((trc_size _).trans (mkT_length _ _)) ⟨⟨_, Try.underlying26, rfl⟩, by kernel_rfl⟩ (trc_one _)) rfl rfl (fun wc S168 => ?_)
            have T170 := S168.sub (sub_skip sub_all) sub_all
            refine r_take 10 (.int .i64 0) A163 T170 (g_assign (by kernel_rfl)) rfl rfl rfl (pf_then pf_body) (by kernel_rfl) (fun ac A171 => ?_)
            refine r_take 11 (.int .i64 0) A171 T170 (g_assign (by kernel_rfl)) rfl rfl rfl (pf_then pf_body) (by kernel_rfl) (fun ac A172 => ?_)
            refine r_done (by kernel_rfl) ?_
            refine n_then ?_
            refine wp_seq ?_
            refine wp_region_lit ?_
            refine s_one (.agg (trc (mkT (scL (ecP l) g) 64))) A172 S168 (g_loadW (g := g165) 0 (by kernel_rfl) rfl ((trc_size _).trans (mkT_length _ _)) ⟨⟨_, Try.underlying26, rfl⟩, by kernel_rfl⟩) rfl (fun ac A173 => ?_)
            refine s_one (.int .i64 (bn : Int)) A173 S168 (g_move (by kernel_rfl)) rfl (fun ac A174 => ?_)
            refine s_call (fs := #[]) (cp := #[]) (r := [(0, .agg (trc (mkT (scL (ecP l) g) 64))), (0, .int .i64 (bn : Int))]) #[.agg (trc (mkT (scL (ecP l) g) 64)), .int .i64 (bn : Int)] (.tuple #[.agg (trc (mkT (shL (scL (ecP l) g) (bn : Int)) 64)), .int .i64 0]) A174 S168 (Shifted_mk (scL (ecP l) g) (bn : Int) _ (scL_length _ _) sc (inB_true.2 (by omega))) Try.call30 (by kernel_rfl) (by kernel_rfl) (by kernel_rfl) rfl (fun ac wc A175 S176 => ?_)
            refine s_one (.tuple #[.agg (trc (mkT (shL (scL (ecP l) g) (bn : Int)) 64)), .int .i64 0]) A175 S176 (g_move (by kernel_rfl)) rfl (fun ac A178 => ?_)
            refine s_one (.agg (trc (mkT (shL (scL (ecP l) g) (bn : Int)) 64))) A178 S176 (g_extract (u := .tuple #[.agg (trc (mkT (shL (scL (ecP l) g) (bn : Int)) 64)), .int .i64 0]) (by kernel_rfl) (fun _ => by kernel_rfl)) rfl (fun ac A179 => ?_)
            refine s_one (.int .i64 0) A179 S176 (g_extract (u := .tuple #[.agg (trc (mkT (shL (scL (ecP l) g) (bn : Int)) 64)), .int .i64 0]) (by kernel_rfl) (fun _ => by kernel_rfl)) rfl (fun ac A180 => ?_)
            refine s_alloc (trc zT) A180 S176 zero26 rfl (fun g183 ac wc A181 S182 => ?_)
            refine s_store (g := g183) (off := 0) (v := .agg (trc (mkT (shL (scL (ecP l) g) (bn : Int)) 64))) 0 (trc (mkT (shL (scL (ecP l) g) (bn : Int)) 64)) A181 S182 (by kernel_rfl) (by kernel_rfl) rfl (putVal_whole ((trc_size _).trans zT_length) ((trc_size _).trans (mkT_length _ _)) ⟨⟨_, Try.underlying26, rfl⟩, by kernel_rfl⟩ (trc_one _)) (fun wc S185 => ?_)
            refine s_one (.int .i64 0) A181 S185 (g_assign (by kernel_rfl)) rfl (fun ac A187 => ?_)
            refine wpList_nil ?_
            refine n_then ?_
            refine wp_seq ?_
            refine wp_region_lit ?_
            refine s_one (.agg (trc (mkT (ecP l) 64))) A187 S185 (g_loadW (g := g142) 2 (by kernel_rfl) rfl ((trc_size _).trans (mkT_length _ _)) ⟨⟨_, Try.underlying26, rfl⟩, by kernel_rfl⟩) rfl (fun ac A188 => ?_)
            refine s_call (fs := #[]) (cp := #[]) (r := [(0, .agg (trc (mkT (ecP l) 64)))]) #[.agg (trc (mkT (ecP l) 64))] (.tuple #[.agg (ints (sqL (ecP l))), .int .i64 0]) A188 S185 (Envelope_mk (ecP l) _ (ecP_length _) sp) Try.call18 (by kernel_rfl) (by kernel_rfl) (by kernel_rfl) rfl (fun ac wc A189 S190 => ?_)
            refine s_one (.tuple #[.agg (ints (sqL (ecP l))), .int .i64 0]) A189 S190 (g_move (by kernel_rfl)) rfl (fun ac A192 => ?_)
            refine s_one (.agg (ints (sqL (ecP l)))) A192 S190 (g_extract (u := .tuple #[.agg (ints (sqL (ecP l))), .int .i64 0]) (by kernel_rfl) (fun _ => by kernel_rfl)) rfl (fun ac A193 => ?_)
            refine s_one (.int .i64 0) A193 S190 (g_extract (u := .tuple #[.agg (ints (sqL (ecP l))), .int .i64 0]) (by kernel_rfl) (fun _ => by kernel_rfl)) rfl (fun ac A194 => ?_)
            refine s_alloc (ints (List.replicate 61 0)) A194 S190 zero61 rfl (fun g197 ac wc A195 S196 => ?_)
            refine s_store (g := g197) (off := 0) (v := .agg (ints (sqL (ecP l)))) 0 (ints (sqL (ecP l))) A195 S196 (by kernel_rfl) (by kernel_rfl) rfl (putVal_whole ((ints_size _).trans List.length_replicate) ((ints_size _).trans (sqL_length _)) ⟨⟨_, Try.underlying39, rfl⟩, by kernel_rfl⟩ (ints_one _)) (fun wc S199 => ?_)
            refine s_one (.int .i64 0) A195 S199 (g_assign (by kernel_rfl)) rfl (fun ac A201 => ?_)
            refine wpList_nil ?_
            refine n_then ?_
            refine wp_seq ?_
            refine wp_region_lit ?_
            refine s_one (.agg (trc (mkT (shL (scL (ecP l) g) (bn : Int)) 64))) A201 S199 (g_loadW (g := g183) 1 (by kernel_rfl) rfl ((trc_size _).trans (mkT_length _ _)) ⟨⟨_, Try.underlying26, rfl⟩, by kernel_rfl⟩) rfl (fun ac A202 => ?_)
            refine s_call (fs := #[]) (cp := #[]) (r := [(0, .agg (trc (mkT (shL (scL (ecP l) g) (bn : Int)) 64)))]) #[.agg (trc (mkT (shL (scL (ecP l) g) (bn : Int)) 64))] (.tuple #[.agg (ints (sqL (shL (scL (ecP l) g) (bn : Int)))), .int .i64 0]) A202 S199 (Envelope_mk (shL (scL (ecP l) g) (bn : Int)) _ (shL_length _ _) ss) Try.call18 (by kernel_rfl) (by kernel_rfl) (by kernel_rfl) rfl (fun ac wc A203 S204 => ?_)
            refine s_one (.tuple #[.agg (ints (sqL (shL (scL (ecP l) g) (bn : Int)))), .int .i64 0]) A203 S204 (g_move (by kernel_rfl)) rfl (fun ac A206 => ?_)
            refine s_one (.agg (ints (sqL (shL (scL (ecP l) g) (bn : Int))))) A206 S204 (g_extract (u := .tuple #[.agg (ints (sqL (shL (scL (ecP l) g) (bn : Int)))), .int .i64 0]) (by kernel_rfl) (fun _ => by kernel_rfl)) rfl (fun ac A207 => ?_)
            refine s_one (.int .i64 0) A207 S204 (g_extract (u := .tuple #[.agg (ints (sqL (shL (scL (ecP l) g) (bn : Int)))), .int .i64 0]) (by kernel_rfl) (fun _ => by kernel_rfl)) rfl (fun ac A208 => ?_)
            refine s_alloc (ints (List.replicate 61 0)) A208 S204 zero61 rfl (fun g211 ac wc A209 S210 => ?_)
            refine s_store (g := g211) (off := 0) (v := .agg (ints (sqL (shL (scL (ecP l) g) (bn : Int))))) 0 (ints (sqL (shL (scL (ecP l) g) (bn : Int)))) A209 S210 (by kernel_rfl) (by kernel_rfl) rfl (putVal_whole ((ints_size _).trans List.length_replicate) ((ints_size _).trans (sqL_length _)) ⟨⟨_, Try.underlying39, rfl⟩, by kernel_rfl⟩ (ints_one _)) (fun wc S213 => ?_)
            refine s_one (.int .i64 0) A209 S213 (g_assign (by kernel_rfl)) rfl (fun ac A215 => ?_)
            refine wpList_nil ?_
            refine n_then ?_
            refine wp_seq ?_
            refine wp_seq ?_
            refine wp_region_lit ?_
            refine s_one (.int .i64 0) A215 S213 (g_move (by kernel_rfl)) rfl (fun ac A216 => ?_)
            refine s_one (.bool (decide (0 ≠ 0))) A216 S213 (g_bin (u := .int .i64 0) (k := .int .i64 0) (by kernel_rfl) (by kernel_rfl) (fun _ => by kernel_rfl) b_neq) rfl (fun ac A217 => ?_)
            refine s_one (.bool (decide (0 ≠ 0))) A217 S213 (g_move (by kernel_rfl)) rfl (fun ac A218 => ?_)
            refine s_want (dj := 98) (b := (decide (0 ≠ 0))) A218 (by kernel_rfl) (by kernel_rfl) (by decide) ?_
            refine s_one (.int .i64 0) A218 S213 (g_move (by kernel_rfl)) rfl (fun ac A219 => ?_)
            refine s_want (dj := 98) (b := (decide (0 ≠ 0))) A219 (by kernel_rfl) (by kernel_rfl) (by decide) ?_
            refine s_one (.bool (decide (0 ≠ 0))) A219 S213 (g_bin (u := .int .i64 0) (k := .int .i64 0) (by kernel_rfl) (by kernel_rfl) (fun _ => by kernel_rfl) b_neq) rfl (fun ac A220 => ?_)
            refine s_one (.bool (decide (0 ≠ 0))) A220 S213 (g_pick_f (b := (decide (0 ≠ 0))) (by kernel_rfl) (by decide) (by kernel_rfl)) rfl (fun ac A221 => ?_)
            refine s_one (.bool (decide (0 ≠ 0))) A221 S213 (g_move (by kernel_rfl)) rfl (fun ac A222 => ?_)
            refine s_want (dj := 102) (b := (decide (0 ≠ 0))) A222 (by kernel_rfl) (by kernel_rfl) (by decide) ?_
            refine s_one (.int .i64 0) A222 S213 (g_move (by kernel_rfl)) rfl (fun ac A223 => ?_)
            refine s_want (dj := 102) (b := (decide (0 ≠ 0))) A223 (by kernel_rfl) (by kernel_rfl) (by decide) ?_
            refine s_one (.bool (decide (0 ≠ 0))) A223 S213 (g_bin (u := .int .i64 0) (k := .int .i64 0) (by kernel_rfl) (by kernel_rfl) (fun _ => by kernel_rfl) b_neq) rfl (fun ac A224 => ?_)
            refine s_one (.bool (decide (0 ≠ 0))) A224 S213 (g_pick_f (b := (decide (0 ≠ 0))) (by kernel_rfl) (by decide) (by kernel_rfl)) rfl (fun ac A225 => ?_)
            refine s_one (.bool (decide (0 ≠ 0))) A225 S213 (g_move (by kernel_rfl)) rfl (fun ac A226 => ?_)
            refine s_want (dj := 106) (b := (decide (0 ≠ 0))) A226 (by kernel_rfl) (by kernel_rfl) (by decide) ?_
            refine s_one (.int .i64 0) A226 S213 (g_move (by kernel_rfl)) rfl (fun ac A227 => ?_)
            refine s_want (dj := 106) (b := (decide (0 ≠ 0))) A227 (by kernel_rfl) (by kernel_rfl) (by decide) ?_
            refine s_one (.bool (decide (0 ≠ 0))) A227 S213 (g_bin (u := .int .i64 0) (k := .int .i64 0) (by kernel_rfl) (by kernel_rfl) (fun _ => by kernel_rfl) b_neq) rfl (fun ac A228 => ?_)
            refine s_one (.bool (decide (0 ≠ 0))) A228 S213 (g_pick_f (b := (decide (0 ≠ 0))) (by kernel_rfl) (by decide) (by kernel_rfl)) rfl (fun ac A229 => ?_)
            refine s_one (.bool (decide (0 ≠ 0))) A229 S213 (g_move (by kernel_rfl)) rfl (fun ac A230 => ?_)
            refine s_want (dj := 110) (b := (decide (0 ≠ 0))) A230 (by kernel_rfl) (by kernel_rfl) (by decide) ?_
            refine s_one (.int .i64 0) A230 S213 (g_move (by kernel_rfl)) rfl (fun ac A231 => ?_)
            refine s_want (dj := 110) (b := (decide (0 ≠ 0))) A231 (by kernel_rfl) (by kernel_rfl) (by decide) ?_
            refine s_one (.bool (decide (0 ≠ 0))) A231 S213 (g_bin (u := .int .i64 0) (k := .int .i64 0) (by kernel_rfl) (by kernel_rfl) (fun _ => by kernel_rfl) b_neq) rfl (fun ac A232 => ?_)
            refine s_one (.bool (decide (0 ≠ 0))) A232 S213 (g_pick_f (b := (decide (0 ≠ 0))) (by kernel_rfl) (by decide) (by kernel_rfl)) rfl (fun ac A233 => ?_)
            refine wpList_nil ?_
            refine n_then ?_
            refine c_f (b := (decide (0 ≠ 0))) A233 (by kernel_rfl) (by decide) ?_
            refine wp_skip ?_
            refine n_then ?_
            refine wp_seq ?_
            refine wp_seq ?_
            refine wp_region_lit ?_
            refine s_one (.int .i64 0) A233 S213 (g_assign (by kernel_rfl)) rfl (fun ac A234 => ?_)
            refine wpList_nil ?_
            refine n_then ?_
            refine wp_block ?_
            refine c_loopN (fun mm ac wc => ∃ (k : Nat), mm = 61 - k ∧ ((k : Int) + (bn : Int) ≤ 61) ∧ Fr 183 ac [(0, .slice A n cap), (1, .int .i64 (bn : Int)), (2, .int .i64 g), (27, .bool true), (28, .bool false), (41, .bool ((decide ((n : Int) > 20)) || ((!(inB (bn : Int) 0 20)) || (!(inB g 1 10))))), (42, .slice (some ⟨g55, 0, none⟩) 3 3), (9, .int .i64 (n : Int)), (7, .slice A136 (3 + n) cap137), (8, .bool (nz l n)), (43, .int .i64 (n : Int)), (44, .slice A n cap), (45, .int .i64 (n : Int)), (46, .bool (decide ((n : Int) < (n : Int)))), (70, .slice A136 (3 + n) cap137), (71, .agg (trc (mkT (ecX l) (3 + n)))), (10, .pointer (some ⟨g142, 0, none⟩)), (73, .agg (trc (mkT (ecP l) 64))), (74, .int .i64 g), (75, .agg #[.int .i64 g, .int .i64 1]), (76, .tuple #[.agg (trc (mkT (scL (ecP l) g) 64)), .int .i64 0, .int .i64 0]), (72, .tuple #[.agg (trc (mkT (scL (ecP l) g) 64)), .int .i64 0, .int .i64 0]), (77, .agg (trc (mkT (scL (ecP l) g) 64))), (78, .int .i64 0), (79, .int .i64 0), (11, .pointer (some ⟨g165, 0, none⟩)), (12, .int .i64 0), (13, .int .i64 0), (81, .agg (trc (mkT (scL (ecP l) g) 64))), (82, .int .i64 (bn : Int)), (83, .tuple #[.agg (trc (mkT (shL (scL (ecP l) g) (bn : Int)) 64)), .int .i64 0]), (80, .tuple #[.agg (trc (mkT (shL (scL (ecP l) g) (bn : Int)) 64)), .int .i64 0]), (84, .agg (trc (mkT (shL (scL (ecP l) g) (bn : Int)) 64))), (85, .int .i64 0), (14, .pointer (some ⟨g183, 0, none⟩)), (15, .int .i64 0), (87, .agg (trc (mkT (ecP l) 64))), (88, .tuple #[.agg (ints (sqL (ecP l))), .int .i64 0]), (86, .tuple #[.agg (ints (sqL (ecP l))), .int .i64 0]), (89, .agg (ints (sqL (ecP l)))), (90, .int .i64 0), (16, .pointer (some ⟨g197, 0, none⟩)), (17, .int .i64 0), (92, .agg (trc (mkT (shL (scL (ecP l) g) (bn : Int)) 64))), (93, .tuple #[.agg (ints (sqL (shL (scL (ecP l) g) (bn : Int)))), .int .i64 0]), (91, .tuple #[.agg (ints (sqL (shL (scL (ecP l) g) (bn : Int)))), .int .i64 0]), (94, .agg (ints (sqL (shL (scL (ecP l) g) (bn : Int))))), (95, .int .i64 0), (18, .pointer (some ⟨g211, 0, none⟩)), (19, .int .i64 0), (96, .int .i64 0), (97, .bool (decide (0 ≠ 0))), (98, .bool (decide (0 ≠ 0))), (99, .int .i64 0), (100, .bool (decide (0 ≠ 0))), (101, .bool (decide (0 ≠ 0))), (102, .bool (decide (0 ≠ 0))), (103, .int .i64 0), (104, .bool (decide (0 ≠ 0))), (105, .bool (decide (0 ≠ 0))), (106, .bool (decide (0 ≠ 0))), (107, .int .i64 0), (108, .bool (decide (0 ≠ 0))), (109, .bool (decide (0 ≠ 0))), (110, .bool (decide (0 ≠ 0))), (111, .int .i64 0), (112, .bool (decide (0 ≠ 0))), (113, .bool (decide (0 ≠ 0))), (20, .int .i64 (k : Int))] ∧ St w0 [⟨g211, 39, (ints (sqL (shL (scL (ecP l) g) (bn : Int)))), true⟩, ⟨g197, 39, (ints (sqL (ecP l))), true⟩, ⟨g183, 26, (trc (mkT (shL (scL (ecP l) g) (bn : Int)) 64)), true⟩, ⟨g165, 26, (trc (mkT (scL (ecP l) g) 64)), true⟩, ⟨g142, 26, (trc (mkT (ecP l) 64)), true⟩] [] wc) _ ⟨0, rfl, by omega, (A234.slot (A234.slot (A234.slot (A234.slot (A234.slot (A234.slot (A234.slot (A234.slot (A234.slot (A234.slot (A234.slot (A234.slot (A234.slot (A234.slot (A234.slot (A234.slot (A234.slot (A234.slot (A234.slot (A234.slot (A234.slot (A234.slot (A234.slot (A234.slot (A234.slot (A234.slot (A234.slot (A234.slot (A234.slot (A234.slot (A234.slot (A234.slot (A234.slot (A234.slot (A234.slot (A234.slot (A234.slot (A234.slot (A234.slot (A234.slot (A234.slot (A234.slot (A234.slot (A234.slot (A234.slot (A234.slot (A234.slot (A234.slot (A234.slot (A234.slot (A234.slot (A234.slot (A234.slot (A234.slot (A234.slot (A234.slot (A234.slot (A234.slot (A234.slot (A234.slot (A234.slot (A234.slot (A234.slot (A234.slot (A234.slot (A234.slot (A234.slot (A234.slot (A234.slot A234.nil (v := .int .i64 0) (by kernel_rfl) (congrArg (Value.int .i64) (by omega))) (v := .bool (decide (0 ≠ 0))) (by kernel_rfl) rfl) (v := .bool (decide (0 ≠ 0))) (by kernel_rfl) rfl) (v := .int .i64 0) (by kernel_rfl) rfl) (v := .bool (decide (0 ≠ 0))) (by kernel_rfl) rfl) (v := .bool (decide (0 ≠ 0))) (by kernel_rfl) rfl) (v := .bool (decide (0 ≠ 0))) (by kernel_rfl) rfl) (v := .int .i64 0) (by kernel_rfl) rfl) (v := .bool (decide (0 ≠ 0))) (by kernel_rfl) rfl) (v := .bool (decide (0 ≠ 0))) (by kernel_rfl) rfl) (v := .bool (decide (0 ≠ 0))) (by kernel_rfl) rfl) (v := .int .i64 0) (by kernel_rfl) rfl) (v := .bool (decide (0 ≠ 0))) (by kernel_rfl) rfl) (v := .bool (decide (0 ≠ 0))) (by kernel_rfl) rfl) (v := .bool (decide (0 ≠ 0))) (by kernel_rfl) rfl) (v := .int .i64 0) (by kernel_rfl) rfl) (v := .bool (decide (0 ≠ 0))) (by kernel_rfl) rfl) (v := .bool (decide (0 ≠ 0))) (by kernel_rfl) rfl) (v := .int .i64 0) (by kernel_rfl) rfl) (v := .int .i64 0) (by kernel_rfl) rfl) (v := .pointer (some ⟨g211, 0, none⟩)) (by kernel_rfl) rfl) (v := .int .i64 0) (by kernel_rfl) rfl) (v := .agg (ints (sqL (shL (scL (ecP l) g) (bn : Int))))) (by kernel_rfl) rfl) (v := .tuple #[.agg (ints (sqL (shL (scL (ecP l) g) (bn : Int)))), .int .i64 0]) (by kernel_rfl) rfl) (v := .tuple #[.agg (ints (sqL (shL (scL (ecP l) g) (bn : Int)))), .int .i64 0]) (by kernel_rfl) rfl) (v := .agg (trc (mkT (shL (scL (ecP l) g) (bn : Int)) 64))) (by kernel_rfl) rfl) (v := .int .i64 0) (by kernel_rfl) rfl) (v := .pointer (some ⟨g197, 0, none⟩)) (by kernel_rfl) rfl) (v := .int .i64 0) (by kernel_rfl) rfl) (v := .agg (ints (sqL (ecP l)))) (by kernel_rfl) rfl) (v := .tuple #[.agg (ints (sqL (ecP l))), .int .i64 0]) (by kernel_rfl) rfl) (v := .tuple #[.agg (ints (sqL (ecP l))), .int .i64 0]) (by kernel_rfl) rfl) (v := .agg (trc (mkT (ecP l) 64))) (by kernel_rfl) rfl) (v := .int .i64 0) (by kernel_rfl) rfl) (v := .pointer (some ⟨g183, 0, none⟩)) (by kernel_rfl) rfl) (v := .int .i64 0) (by kernel_rfl) rfl) (v := .agg (trc (mkT (shL (scL (ecP l) g) (bn : Int)) 64))) (by kernel_rfl) rfl) (v := .tuple #[.agg (trc (mkT (shL (scL (ecP l) g) (bn : Int)) 64)), .int .i64 0]) (by kernel_rfl) rfl) (v := .tuple #[.agg (trc (mkT (shL (scL (ecP l) g) (bn : Int)) 64)), .int .i64 0]) (by kernel_rfl) rfl) (v := .int .i64 (bn : Int)) (by kernel_rfl) rfl) (v := .agg (trc (mkT (scL (ecP l) g) 64))) (by kernel_rfl) rfl) (v := .int .i64 0) (by kernel_rfl) rfl) (v := .int .i64 0) (by kernel_rfl) rfl) (v := .pointer (some ⟨g165, 0, none⟩)) (by kernel_rfl) rfl) (v := .int .i64 0) (by kernel_rfl) rfl) (v := .int .i64 0) (by kernel_rfl) rfl) (v := .agg (trc (mkT (scL (ecP l) g) 64))) (by kernel_rfl) rfl) (v := .tuple #[.agg (trc (mkT (scL (ecP l) g) 64)), .int .i64 0, .int .i64 0]) (by kernel_rfl) rfl) (v := .tuple #[.agg (trc (mkT (scL (ecP l) g) 64)), .int .i64 0, .int .i64 0]) (by kernel_rfl) rfl) (v := .agg #[.int .i64 g, .int .i64 1]) (by kernel_rfl) rfl) (v := .int .i64 g) (by kernel_rfl) rfl) (v := .agg (trc (mkT (ecP l) 64))) (by kernel_rfl) rfl) (v := .pointer (some ⟨g142, 0, none⟩)) (by kernel_rfl) rfl) (v := .agg (trc (mkT (ecX l) (3 + n)))) (by kernel_rfl) rfl) (v := .slice A136 (3 + n) cap137) (by kernel_rfl) rfl) (v := .bool (decide ((n : Int) < (n : Int)))) (by kernel_rfl) rfl) (v := .int .i64 (n : Int)) (by kernel_rfl) rfl) (v := .slice A n cap) (by kernel_rfl) rfl) (v := .int .i64 (n : Int)) (by kernel_rfl) rfl) (v := .bool (nz l n)) (by kernel_rfl) rfl) (v := .slice A136 (3 + n) cap137) (by kernel_rfl) rfl) (v := .int .i64 (n : Int)) (by kernel_rfl) rfl) (v := .slice (some ⟨g55, 0, none⟩) 3 3) (by kernel_rfl) rfl) (v := .bool ((decide ((n : Int) > 20)) || ((!(inB (bn : Int) 0 20)) || (!(inB g 1 10))))) (by kernel_rfl) rfl) (v := .bool false) (by kernel_rfl) rfl) (v := .bool true) (by kernel_rfl) rfl) (v := .int .i64 g) (by kernel_rfl) rfl) (v := .int .i64 (bn : Int)) (by kernel_rfl) rfl) (v := .slice A n cap) (by kernel_rfl) rfl), S213.sub sub_all sub_all⟩ ?_
            rintro mm ac wc ⟨k, hm237, hk, A235, S236⟩
            have q1 := sqL_bd sp k
            have q2 := mul_bd (x := g * g) (y := nthI (sqL (ecP l)) k) (a := 100) (b := 33521672) (by omega) (by omega) (by omega) (by omega)
            refine wp_seq ?_
            refine wp_seq ?_
            refine wp_region_lit ?_
            refine s_one (.int .i64 (k : Int)) A235 S236 (g_move (by kernel_rfl)) rfl (fun ac A238 => ?_)
            refine s_one (.int .i64 (bn : Int)) A238 S236 (g_move (by kernel_rfl)) rfl (fun ac A239 => ?_)
            refine s_one (.int .i64 ((k : Int) + (bn : Int))) A239 S236 (g_bin (u := .int .i64 (k : Int)) (k := .int .i64 (bn : Int)) (by kernel_rfl) (by kernel_rfl) (fun _ => by kernel_rfl) (b_add (by omega))) rfl (fun ac A240 => ?_)
            refine s_one (.bool (decide ((k : Int) + (bn : Int) < 61))) A240 S236 (g_bin (u := .int .i64 ((k : Int) + (bn : Int))) (k := .int .i64 61) (by kernel_rfl) (by kernel_rfl) (fun _ => by kernel_rfl) (fun _ => by kernel_rfl)) rfl (fun ac A241 => ?_)
            refine wpList_nil ?_
            refine n_then ?_
            refine c_ifb (b := (decide ((k : Int) + (bn : Int) < 61))) A241 (by kernel_rfl) (fun h242 => ?_) (fun h242 => ?_)
            · have p243 := of_decide_eq_true h242
              refine wp_skip ?_
              refine n_then ?_
              refine wp_seq ?_
              refine wp_block ?_
              refine wp_seq ?_
              refine r_begin (w0 := w0) (by kernel_rfl) (S236.sub sub_all sub_all) (fun wc T244 B245 => ?_)
              have S246 := S236.kept B245
              refine r_take 0 (.int .i64 (k : Int)) A241 T244 (g_move (by kernel_rfl)) rfl rfl rfl (pf_then (pf_block (pf_then (pf_then (pf_block (pf_then pf_body)))))) (by kernel_rfl) (fun ac A247 => ?_)
              refine r_take 1 (.int .i64 (bn : Int)) A247 T244 (g_move (by kernel_rfl)) rfl rfl rfl (pf_then (pf_block (pf_then (pf_then (pf_block (pf_then pf_body)))))) (by kernel_rfl) (fun ac A248 => ?_)
              refine r_take 2 (.int .i64 ((k : Int) + (bn : Int))) A248 T244 (g_bin (u := .int .i64 (k : Int)) (k := .int .i64 (bn : Int)) (by kernel_rfl) (by kernel_rfl) (fun _ => by kernel_rfl) (b_add (by omega))) rfl rfl rfl (pf_then (pf_block (pf_then (pf_then (pf_block (pf_then pf_body)))))) (by kernel_rfl) (fun ac A249 => ?_)
              refine r_take 3 (.pointer (some ⟨g211, ((k : Int) + (bn : Int)).toNat, none⟩)) A249 T244 (g_index (u := .pointer (some ⟨g211, 0, none⟩)) (k := .int .i64 ((k : Int) + (bn : Int))) (by kernel_rfl) (by kernel_rfl) (ix_arr1 (((k : Int) + (bn : Int)).toNat) (len := 61) (by kernel_rfl) (by omega) (by omega))) rfl rfl rfl (pf_then (pf_block (pf_then (pf_then (pf_block (pf_then pf_body)))))) (by kernel_rfl) (fun ac A250 => ?_)
              refine r_take 4 (.int .i64 (nthI (sqL (shL (scL (ecP l) g) (bn : Int))) (((k : Int) + (bn : Int)).toNat))) A250 T244 (g_load (g := g211) (off := ((k : Int) + (bn : Int)).toNat) 0 (by kernel_rfl) rfl (rv_of (by kernel_rfl) (ints_get (by rw [(sqL_length _)]; omega)))) rfl rfl rfl (pf_then (pf_block (pf_then (pf_then (pf_block (pf_then pf_body)))))) (by kernel_rfl) (fun ac A251 => ?_)
              refine r_take 5 (.int .i64 g) A251 T244 (g_move (by kernel_rfl)) rfl rfl rfl (pf_then (pf_block (pf_then (pf_then (pf_block (pf_then pf_body)))))) (by kernel_rfl) (fun ac A252 => ?_)
              refine r_take 6 (.int .i64 g) A252 T244 (g_move (by kernel_rfl)) rfl rfl rfl (pf_then (pf_block (pf_then (pf_then (pf_block (pf_then pf_body)))))) (by kernel_rfl) (fun ac A253 => ?_)
              refine r_take 7 (.int .i64 (g * g)) A253 T244 (g_bin (u := .int .i64 g) (k := .int .i64 g) (by kernel_rfl) (by kernel_rfl) (fun _ => by kernel_rfl) (b_mul (by omega))) rfl rfl rfl (pf_then (pf_block (pf_then (pf_then (pf_block (pf_then pf_body)))))) (by kernel_rfl) (fun ac A254 => ?_)
              refine r_take 8 (.int .i64 (k : Int)) A254 T244 (g_move (by kernel_rfl)) rfl rfl rfl (pf_then (pf_block (pf_then (pf_then (pf_block (pf_then pf_body)))))) (by kernel_rfl) (fun ac A255 => ?_)
              refine r_take 9 (.pointer (some ⟨g197, k, none⟩)) A255 T244 (g_index (u := .pointer (some ⟨g197, 0, none⟩)) (k := .int .i64 (k : Int)) (by kernel_rfl) (by kernel_rfl) (ix_arr1 k (len := 61) (by kernel_rfl) (by omega) (by omega))) rfl rfl rfl (pf_then (pf_block (pf_then (pf_then (pf_block (pf_then pf_body)))))) (by kernel_rfl) (fun ac A256 => ?_)
              refine r_take 10 (.int .i64 (nthI (sqL (ecP l)) k)) A256 T244 (g_load (g := g197) (off := k) 1 (by kernel_rfl) rfl (rv_of (by kernel_rfl) (ints_get (by rw [(sqL_length _)]; omega)))) rfl rfl rfl (pf_then (pf_block (pf_then (pf_then (pf_block (pf_then pf_body)))))) (by kernel_rfl) (fun ac A257 => ?_)
              refine r_take 11 (.int .i64 ((g * g) * (nthI (sqL (ecP l)) k))) A257 T244 (g_bin (u := .int .i64 (g * g)) (k := .int .i64 (nthI (sqL (ecP l)) k)) (by kernel_rfl) (by kernel_rfl) (fun _ => by kernel_rfl) (b_mul (by omega))) rfl rfl rfl (pf_then (pf_block (pf_then (pf_then (pf_block (pf_then pf_body)))))) (by kernel_rfl) (fun ac A258 => ?_)
              refine r_take 12 (.bool (decide (nthI (sqL (shL (scL (ecP l) g) (bn : Int))) (((k : Int) + (bn : Int)).toNat) ≠ (g * g) * (nthI (sqL (ecP l)) k)))) A258 T244 (g_bin (u := .int .i64 (nthI (sqL (shL (scL (ecP l) g) (bn : Int))) (((k : Int) + (bn : Int)).toNat))) (k := .int .i64 ((g * g) * (nthI (sqL (ecP l)) k))) (by kernel_rfl) (by kernel_rfl) (fun _ => by kernel_rfl) b_neq) rfl rfl rfl (pf_then (pf_block (pf_then (pf_then (pf_block (pf_then pf_body)))))) (by kernel_rfl) (fun ac A259 => ?_)
              refine r_done (by kernel_rfl) ?_
              refine n_then ?_
              refine c_f (b := (decide (nthI (sqL (shL (scL (ecP l) g) (bn : Int))) (((k : Int) + (bn : Int)).toNat) ≠ (g * g) * (nthI (sqL (ecP l)) k)))) A259 (by kernel_rfl) (decide_eq_false (fun h => h (sq_late2 (by omega)))) ?_
              refine wp_skip ?_
              refine n_block ?_
              refine n_then ?_
              refine wp_region_lit ?_
              refine s_one (.int .i64 (k : Int)) A259 S246 (g_move (by kernel_rfl)) rfl (fun ac A260 => ?_)
              refine s_one (.int .i64 ((k : Int) + 1)) A260 S246 (g_bin (u := .int .i64 (k : Int)) (k := .int .i64 1) (by kernel_rfl) (by kernel_rfl) (fun _ => by kernel_rfl) (b_add (by omega))) rfl (fun ac A261 => ?_)
              refine s_one (.int .i64 ((k : Int) + 1)) A261 S246 (g_assign (by kernel_rfl)) rfl (fun ac A262 => ?_)
              refine wpList_nil ?_
              refine n_then ?_
              refine ⟨_, ⟨k + 1, rfl, by omega, (A262.slot (A262.slot (A262.slot (A262.slot (A262.slot (A262.slot (A262.slot (A262.slot (A262.slot (A262.slot (A262.slot (A262.slot (A262.slot (A262.slot (A262.slot (A262.slot (A262.slot (A262.slot (A262.slot (A262.slot (A262.slot (A262.slot (A262.slot (A262.slot (A262.slot (A262.slot (A262.slot (A262.slot (A262.slot (A262.slot (A262.slot (A262.slot (A262.slot (A262.slot (A262.slot (A262.slot (A262.slot (A262.slot (A262.slot (A262.slot (A262.slot (A262.slot (A262.slot (A262.slot (A262.slot (A262.slot (A262.slot (A262.slot (A262.slot (A262.slot (A262.slot (A262.slot (A262.slot (A262.slot (A262.slot (A262.slot (A262.slot (A262.slot (A262.slot (A262.slot (A262.slot (A262.slot (A262.slot (A262.slot (A262.slot (A262.slot (A262.slot (A262.slot (A262.slot A262.nil (v := .int .i64 ((k : Int) + 1)) (by kernel_rfl) (congrArg (Value.int .i64) (by omega))) (v := .bool (decide (0 ≠ 0))) (by kernel_rfl) rfl) (v := .bool (decide (0 ≠ 0))) (by kernel_rfl) rfl) (v := .int .i64 0) (by kernel_rfl) rfl) (v := .bool (decide (0 ≠ 0))) (by kernel_rfl) rfl) (v := .bool (decide (0 ≠ 0))) (by kernel_rfl) rfl) (v := .bool (decide (0 ≠ 0))) (by kernel_rfl) rfl) (v := .int .i64 0) (by kernel_rfl) rfl) (v := .bool (decide (0 ≠ 0))) (by kernel_rfl) rfl) (v := .bool (decide (0 ≠ 0))) (by kernel_rfl) rfl) (v := .bool (decide (0 ≠ 0))) (by kernel_rfl) rfl) (v := .int .i64 0) (by kernel_rfl) rfl) (v := .bool (decide (0 ≠ 0))) (by kernel_rfl) rfl) (v := .bool (decide (0 ≠ 0))) (by kernel_rfl) rfl) (v := .bool (decide (0 ≠ 0))) (by kernel_rfl) rfl) (v := .int .i64 0) (by kernel_rfl) rfl) (v := .bool (decide (0 ≠ 0))) (by kernel_rfl) rfl) (v := .bool (decide (0 ≠ 0))) (by kernel_rfl) rfl) (v := .int .i64 0) (by kernel_rfl) rfl) (v := .int .i64 0) (by kernel_rfl) rfl) (v := .pointer (some ⟨g211, 0, none⟩)) (by kernel_rfl) rfl) (v := .int .i64 0) (by kernel_rfl) rfl) (v := .agg (ints (sqL (shL (scL (ecP l) g) (bn : Int))))) (by kernel_rfl) rfl) (v := .tuple #[.agg (ints (sqL (shL (scL (ecP l) g) (bn : Int)))), .int .i64 0]) (by kernel_rfl) rfl) (v := .tuple #[.agg (ints (sqL (shL (scL (ecP l) g) (bn : Int)))), .int .i64 0]) (by kernel_rfl) rfl) (v := .agg (trc (mkT (shL (scL (ecP l) g) (bn : Int)) 64))) (by kernel_rfl) rfl) (v := .int .i64 0) (by kernel_rfl) rfl) (v := .pointer (some ⟨g197, 0, none⟩)) (by kernel_rfl) rfl) (v := .int .i64 0) (by kernel_rfl) rfl) (v := .agg (ints (sqL (ecP l)))) (by kernel_rfl) rfl) (v := .tuple #[.agg (ints (sqL (ecP l))), .int .i64 0]) (by kernel_rfl) rfl) (v := .tuple #[.agg (ints (sqL (ecP l))), .int .i64 0]) (by kernel_rfl) rfl) (v := .agg (trc (mkT (ecP l) 64))) (by kernel_rfl) rfl) (v := .int .i64 0) (by kernel_rfl) rfl) (v := .pointer (some ⟨g183, 0, none⟩)) (by kernel_rfl) rfl) (v := .int .i64 0) (by kernel_rfl) rfl) (v := .agg (trc (mkT (shL (scL (ecP l) g) (bn : Int)) 64))) (by kernel_rfl) rfl) (v := .tuple #[.agg (trc (mkT (shL (scL (ecP l) g) (bn : Int)) 64)), .int .i64 0]) (by kernel_rfl) rfl) (v := .tuple #[.agg (trc (mkT (shL (scL (ecP l) g) (bn : Int)) 64)), .int .i64 0]) (by kernel_rfl) rfl) (v := .int .i64 (bn : Int)) (by kernel_rfl) rfl) (v := .agg (trc (mkT (scL (ecP l) g) 64))) (by kernel_rfl) rfl) (v := .int .i64 0) (by kernel_rfl) rfl) (v := .int .i64 0) (by kernel_rfl) rfl) (v := .pointer (some ⟨g165, 0, none⟩)) (by kernel_rfl) rfl) (v := .int .i64 0) (by kernel_rfl) rfl) (v := .int .i64 0) (by kernel_rfl) rfl) (v := .agg (trc (mkT (scL (ecP l) g) 64))) (by kernel_rfl) rfl) (v := .tuple #[.agg (trc (mkT (scL (ecP l) g) 64)), .int .i64 0, .int .i64 0]) (by kernel_rfl) rfl) (v := .tuple #[.agg (trc (mkT (scL (ecP l) g) 64)), .int .i64 0, .int .i64 0]) (by kernel_rfl) rfl) (v := .agg #[.int .i64 g, .int .i64 1]) (by kernel_rfl) rfl) (v := .int .i64 g) (by kernel_rfl) rfl) (v := .agg (trc (mkT (ecP l) 64))) (by kernel_rfl) rfl) (v := .pointer (some ⟨g142, 0, none⟩)) (by kernel_rfl) rfl) (v := .agg (trc (mkT (ecX l) (3 + n)))) (by kernel_rfl) rfl) (v := .slice A136 (3 + n) cap137) (by kernel_rfl) rfl) (v := .bool (decide ((n : Int) < (n : Int)))) (by kernel_rfl) rfl) (v := .int .i64 (n : Int)) (by kernel_rfl) rfl) (v := .slice A n cap) (by kernel_rfl) rfl) (v := .int .i64 (n : Int)) (by kernel_rfl) rfl) (v := .bool (nz l n)) (by kernel_rfl) rfl) (v := .slice A136 (3 + n) cap137) (by kernel_rfl) rfl) (v := .int .i64 (n : Int)) (by kernel_rfl) rfl) (v := .slice (some ⟨g55, 0, none⟩) 3 3) (by kernel_rfl) rfl) (v := .bool ((decide ((n : Int) > 20)) || ((!(inB (bn : Int) 0 20)) || (!(inB g 1 10))))) (by kernel_rfl) rfl) (v := .bool false) (by kernel_rfl) rfl) (v := .bool true) (by kernel_rfl) rfl) (v := .int .i64 g) (by kernel_rfl) rfl) (v := .int .i64 (bn : Int)) (by kernel_rfl) rfl) (v := .slice A n cap) (by kernel_rfl) rfl), S246.sub sub_all sub_all⟩, ?_⟩
              omega
            · have p263 := of_decide_eq_false h242
              refine wp_exit ?_
              refine x_then ?_
              refine x_then ?_
              refine x_hit ?_
              refine n_then ?_
              refine wp_seq ?_
              refine wp_seq ?_
              refine wp_region_lit ?_
              refine s_one (.bool (nz l n)) A241 S236 (g_move (by kernel_rfl)) rfl (fun ac A264 => ?_)
              refine s_one (.bool (!(nz l n))) A264 S236 (g_un (u := .bool (nz l n)) (by kernel_rfl) (fun _ => by kernel_rfl)) rfl (fun ac A265 => ?_)
              refine wpList_nil ?_
              refine n_then ?_
              refine c_ifb (b := (!(nz l n))) A265 (by kernel_rfl) (fun h266 => ?_) (fun h266 => ?_)
              · have h267 : nz l n = false := by simpa using h266
                refine wp_seq ?_
                refine wp_region_lit ?_
                refine s_one (.bool true) A265 S236 (g_assign (by kernel_rfl)) rfl (fun ac A268 => ?_)
                refine wpList_nil ?_
                refine n_then ?_
                refine wp_ret ?_
                refine r_then ?_
                refine fin1 (.bool true) Try.results11 A268 S236 (rv_tmp (by kernel_rfl)) ⟨?_, S236.kp⟩
                rfl
              · have h269 : nz l n = true := by simpa using h266
                have hnz := h269
                refine wp_skip ?_
                refine n_then ?_
                refine wp_seq ?_
                have q3 := peak_bd sp 30
                have q4 := mul_bd (x := g * g) (y := (peakOf (ecP l) 0 30).2) (a := 100) (b := 33521672) (by omega) (by omega) (by omega) (by omega)
                have ek := ec_peak (g := g) (b := bn) hn (by omega) hg.1 (by omega) hnz
                have eg := ec_lag (g := g) (b := bn) (by omega) (fun i hi => ecP_far hn (by omega) hi) hg.1 (ec_some hn (by omega) hnz)
                refine wp_region_lit ?_
                refine s_one (.agg (trc (mkT (ecP l) 64))) A265 S236 (g_loadW (g := g142) 4 (by kernel_rfl) rfl ((trc_size _).trans (mkT_length _ _)) ⟨⟨_, Try.underlying26, rfl⟩, by kernel_rfl⟩) rfl (fun ac A270 => ?_)
                refine s_one (.agg #[.int .i64 0, .int .i64 30]) A270 S236 (g_build (r := [(1, .int .i64 30)]) (by kernel_rfl) (fun _ => by kernel_rfl)) rfl (fun ac A271 => ?_)
                refine s_call (fs := #[]) (cp := #[]) (r := [(0, .agg (trc (mkT (ecP l) 64))), (0, .agg #[.int .i64 0, .int .i64 30])]) #[.agg (trc (mkT (ecP l) 64)), .agg #[.int .i64 0, .int .i64 30]] (.tuple #[.agg #[.int .i64 ((peakOf (ecP l) 0 30).1), .int .i64 ((peakOf (ecP l) 0 30).2)], .int .i64 0]) A271 S236 (PeakIn_30 (ecP l) _ (ecP_length _) sp) Try.call23 (by kernel_rfl) (by kernel_rfl) (by kernel_rfl) rfl (fun ac wc A272 S273 => ?_)
                refine s_one (.tuple #[.agg #[.int .i64 ((peakOf (ecP l) 0 30).1), .int .i64 ((peakOf (ecP l) 0 30).2)], .int .i64 0]) A272 S273 (g_move (by kernel_rfl)) rfl (fun ac A275 => ?_)
                refine s_one (.agg #[.int .i64 ((peakOf (ecP l) 0 30).1), .int .i64 ((peakOf (ecP l) 0 30).2)]) A275 S273 (g_extract (u := .tuple #[.agg #[.int .i64 ((peakOf (ecP l) 0 30).1), .int .i64 ((peakOf (ecP l) 0 30).2)], .int .i64 0]) (by kernel_rfl) (fun _ => by kernel_rfl)) rfl (fun ac A276 => ?_)
                refine s_one (.int .i64 0) A276 S273 (g_extract (u := .tuple #[.agg #[.int .i64 ((peakOf (ecP l) 0 30).1), .int .i64 ((peakOf (ecP l) 0 30).2)], .int .i64 0]) (by kernel_rfl) (fun _ => by kernel_rfl)) rfl (fun ac A277 => ?_)
                refine s_alloc (#[.int .i64 0, .int .i64 0]) A277 S273 (by kernel_rfl) rfl (fun g280 ac wc A278 S279 => ?_)
                refine s_store (g := g280) (off := 0) (v := .agg #[.int .i64 ((peakOf (ecP l) 0 30).1), .int .i64 ((peakOf (ecP l) 0 30).2)]) 0 (#[.int .i64 ((peakOf (ecP l) 0 30).1), .int .i64 ((peakOf (ecP l) 0 30).2)]) A278 S279 (by kernel_rfl) (by kernel_rfl) rfl (by kernel_rfl) (fun wc S282 => ?_)
                refine s_one (.int .i64 0) A278 S282 (g_assign (by kernel_rfl)) rfl (fun ac A284 => ?_)
                refine wpList_nil ?_
                refine n_then ?_
                refine wp_seq ?_
                refine wp_region_lit ?_
                refine s_one (.agg (trc (mkT (shL (scL (ecP l) g) (bn : Int)) 64))) A284 S282 (g_loadW (g := g183) 3 (by kernel_rfl) rfl ((trc_size _).trans (mkT_length _ _)) ⟨⟨_, Try.underlying26, rfl⟩, by kernel_rfl⟩) rfl (fun ac A285 => ?_)
                refine s_one (.agg #[.int .i64 0, .int .i64 60]) A285 S282 (g_build (r := [(1, .int .i64 60)]) (by kernel_rfl) (fun _ => by kernel_rfl)) rfl (fun ac A286 => ?_)
                refine s_call (fs := #[]) (cp := #[]) (r := [(0, .agg (trc (mkT (shL (scL (ecP l) g) (bn : Int)) 64))), (0, .agg #[.int .i64 0, .int .i64 60])]) #[.agg (trc (mkT (shL (scL (ecP l) g) (bn : Int)) 64)), .agg #[.int .i64 0, .int .i64 60]] (.tuple #[.agg #[.int .i64 ((peakOf (shL (scL (ecP l) g) (bn : Int)) 0 60).1), .int .i64 ((peakOf (shL (scL (ecP l) g) (bn : Int)) 0 60).2)], .int .i64 0]) A286 S282 (PeakIn_60 (shL (scL (ecP l) g) (bn : Int)) _ (shL_length _ _) ss) Try.call23 (by kernel_rfl) (by kernel_rfl) (by kernel_rfl) rfl (fun ac wc A287 S288 => ?_)
                refine s_one (.tuple #[.agg #[.int .i64 ((peakOf (shL (scL (ecP l) g) (bn : Int)) 0 60).1), .int .i64 ((peakOf (shL (scL (ecP l) g) (bn : Int)) 0 60).2)], .int .i64 0]) A287 S288 (g_move (by kernel_rfl)) rfl (fun ac A290 => ?_)
                refine s_one (.agg #[.int .i64 ((peakOf (shL (scL (ecP l) g) (bn : Int)) 0 60).1), .int .i64 ((peakOf (shL (scL (ecP l) g) (bn : Int)) 0 60).2)]) A290 S288 (g_extract (u := .tuple #[.agg #[.int .i64 ((peakOf (shL (scL (ecP l) g) (bn : Int)) 0 60).1), .int .i64 ((peakOf (shL (scL (ecP l) g) (bn : Int)) 0 60).2)], .int .i64 0]) (by kernel_rfl) (fun _ => by kernel_rfl)) rfl (fun ac A291 => ?_)
                refine s_one (.int .i64 0) A291 S288 (g_extract (u := .tuple #[.agg #[.int .i64 ((peakOf (shL (scL (ecP l) g) (bn : Int)) 0 60).1), .int .i64 ((peakOf (shL (scL (ecP l) g) (bn : Int)) 0 60).2)], .int .i64 0]) (by kernel_rfl) (fun _ => by kernel_rfl)) rfl (fun ac A292 => ?_)
                refine s_alloc (#[.int .i64 0, .int .i64 0]) A292 S288 (by kernel_rfl) rfl (fun g295 ac wc A293 S294 => ?_)
                refine s_store (g := g295) (off := 0) (v := .agg #[.int .i64 ((peakOf (shL (scL (ecP l) g) (bn : Int)) 0 60).1), .int .i64 ((peakOf (shL (scL (ecP l) g) (bn : Int)) 0 60).2)]) 0 (#[.int .i64 ((peakOf (shL (scL (ecP l) g) (bn : Int)) 0 60).1), .int .i64 ((peakOf (shL (scL (ecP l) g) (bn : Int)) 0 60).2)]) A293 S294 (by kernel_rfl) (by kernel_rfl) rfl (by kernel_rfl) (fun wc S297 => ?_)
                refine s_one (.int .i64 0) A293 S297 (g_assign (by kernel_rfl)) rfl (fun ac A299 => ?_)
                refine wpList_nil ?_
                refine n_then ?_
                refine wp_seq ?_
                refine wp_region_lit ?_
                refine s_one (.agg (trc (mkT (ecP l) 64))) A299 S297 (g_loadW (g := g142) 6 (by kernel_rfl) rfl ((trc_size _).trans (mkT_length _ _)) ⟨⟨_, Try.underlying26, rfl⟩, by kernel_rfl⟩) rfl (fun ac A300 => ?_)
                refine s_one (.agg (trc (mkT (shL (scL (ecP l) g) (bn : Int)) 64))) A300 S297 (g_loadW (g := g183) 4 (by kernel_rfl) rfl ((trc_size _).trans (mkT_length _ _)) ⟨⟨_, Try.underlying26, rfl⟩, by kernel_rfl⟩) rfl (fun ac A301 => ?_)
                refine s_call (fs := #[]) (cp := #[]) (r := [(0, .agg (trc (mkT (ecP l) 64))), (0, .agg (trc (mkT (shL (scL (ecP l) g) (bn : Int)) 64))), (0, .int .i64 25)]) #[.agg (trc (mkT (ecP l) 64)), .agg (trc (mkT (shL (scL (ecP l) g) (bn : Int)) 64)), .int .i64 25] (.tuple #[.int .i64 (lagOf (ecP l) (shL (scL (ecP l) g) (bn : Int)) 25), .int .i64 0]) A301 S297 (LagOf_mk (ecP l) (shL (scL (ecP l) g) (bn : Int)) _ (ecP_length _) sp (shL_length _ _) ss) Try.call28 (by kernel_rfl) (by kernel_rfl) (by kernel_rfl) rfl (fun ac wc A302 S303 => ?_)
                refine s_one (.tuple #[.int .i64 (lagOf (ecP l) (shL (scL (ecP l) g) (bn : Int)) 25), .int .i64 0]) A302 S303 (g_move (by kernel_rfl)) rfl (fun ac A305 => ?_)
                refine s_one (.int .i64 (lagOf (ecP l) (shL (scL (ecP l) g) (bn : Int)) 25)) A305 S303 (g_extract (u := .tuple #[.int .i64 (lagOf (ecP l) (shL (scL (ecP l) g) (bn : Int)) 25), .int .i64 0]) (by kernel_rfl) (fun _ => by kernel_rfl)) rfl (fun ac A306 => ?_)
                refine s_one (.int .i64 0) A306 S303 (g_extract (u := .tuple #[.int .i64 (lagOf (ecP l) (shL (scL (ecP l) g) (bn : Int)) 25), .int .i64 0]) (by kernel_rfl) (fun _ => by kernel_rfl)) rfl (fun ac A307 => ?_)
                refine s_one (.int .i64 (lagOf (ecP l) (shL (scL (ecP l) g) (bn : Int)) 25)) A307 S303 (g_assign (by kernel_rfl)) rfl (fun ac A308 => ?_)
                refine s_one (.int .i64 0) A308 S303 (g_assign (by kernel_rfl)) rfl (fun ac A309 => ?_)
                refine wpList_nil ?_
                refine n_then ?_
                refine wp_seq ?_
                refine wp_region_lit ?_
                refine s_one (.int .i64 0) A309 S303 (g_move (by kernel_rfl)) rfl (fun ac A310 => ?_)
                refine s_one (.bool (decide (0 = 0))) A310 S303 (g_bin (u := .int .i64 0) (k := .int .i64 0) (by kernel_rfl) (by kernel_rfl) (fun _ => by kernel_rfl) b_eql) rfl (fun ac A311 => ?_)
                refine s_one (.bool (decide (0 = 0))) A311 S303 (g_move (by kernel_rfl)) rfl (fun ac A312 => ?_)
                refine s_want (dj := 155) (b := (decide (0 = 0))) A312 (by kernel_rfl) (by kernel_rfl) (by decide) ?_
                refine s_one (.int .i64 0) A312 S303 (g_move (by kernel_rfl)) rfl (fun ac A313 => ?_)
                refine s_want (dj := 155) (b := (decide (0 = 0))) A313 (by kernel_rfl) (by kernel_rfl) (by decide) ?_
                refine s_one (.bool (decide (0 = 0))) A313 S303 (g_bin (u := .int .i64 0) (k := .int .i64 0) (by kernel_rfl) (by kernel_rfl) (fun _ => by kernel_rfl) b_eql) rfl (fun ac A314 => ?_)
                refine s_one (.bool (decide (0 = 0))) A314 S303 (g_pick_t (b := (decide (0 = 0))) (by kernel_rfl) (by decide) (by kernel_rfl)) rfl (fun ac A315 => ?_)
                refine s_one (.bool (decide (0 = 0))) A315 S303 (g_move (by kernel_rfl)) rfl (fun ac A316 => ?_)
                refine s_want (dj := 159) (b := (decide (0 = 0))) A316 (by kernel_rfl) (by kernel_rfl) (by decide) ?_
                refine s_one (.agg #[.int .i64 ((peakOf (shL (scL (ecP l) g) (bn : Int)) 0 60).1), .int .i64 ((peakOf (shL (scL (ecP l) g) (bn : Int)) 0 60).2)]) A316 S303 (g_load (g := g295) (off := 0) 0 (by kernel_rfl) rfl (by kernel_rfl)) rfl (fun ac A317 => ?_)
                refine s_want (dj := 159) (b := (decide (0 = 0))) A317 (by kernel_rfl) (by kernel_rfl) (by decide) ?_
                refine s_one (.pointer (some ⟨g280, 0, none⟩)) A317 S303 (g_field (u := .pointer (some ⟨g280, 0, none⟩)) (by kernel_rfl) (fun _ => by kernel_rfl)) rfl (fun ac A318 => ?_)
                refine s_want (dj := 159) (b := (decide (0 = 0))) A318 (by kernel_rfl) (by kernel_rfl) (by decide) ?_
                refine s_one (.int .i64 ((peakOf (ecP l) 0 30).1)) A318 S303 (g_load (g := g280) (off := 0) 1 (by kernel_rfl) rfl (by kernel_rfl)) rfl (fun ac A319 => ?_)
                refine s_want (dj := 159) (b := (decide (0 = 0))) A319 (by kernel_rfl) (by kernel_rfl) (by decide) ?_
                refine s_one (.int .i64 (bn : Int)) A319 S303 (g_move (by kernel_rfl)) rfl (fun ac A320 => ?_)
                refine s_want (dj := 159) (b := (decide (0 = 0))) A320 (by kernel_rfl) (by kernel_rfl) (by decide) ?_
                refine s_one (.int .i64 ((peakOf (ecP l) 0 30).1 + (bn : Int))) A320 S303 (g_bin (u := .int .i64 ((peakOf (ecP l) 0 30).1)) (k := .int .i64 (bn : Int)) (by kernel_rfl) (by kernel_rfl) (fun _ => by kernel_rfl) (b_add (by omega))) rfl (fun ac A321 => ?_)
                refine s_want (dj := 159) (b := (decide (0 = 0))) A321 (by kernel_rfl) (by kernel_rfl) (by decide) ?_
                refine s_one (.int .i64 g) A321 S303 (g_move (by kernel_rfl)) rfl (fun ac A322 => ?_)
                refine s_want (dj := 159) (b := (decide (0 = 0))) A322 (by kernel_rfl) (by kernel_rfl) (by decide) ?_
                refine s_one (.int .i64 g) A322 S303 (g_move (by kernel_rfl)) rfl (fun ac A323 => ?_)
                refine s_want (dj := 159) (b := (decide (0 = 0))) A323 (by kernel_rfl) (by kernel_rfl) (by decide) ?_
                refine s_one (.int .i64 (g * g)) A323 S303 (g_bin (u := .int .i64 g) (k := .int .i64 g) (by kernel_rfl) (by kernel_rfl) (fun _ => by kernel_rfl) (b_mul (by omega))) rfl (fun ac A324 => ?_)
                refine s_want (dj := 159) (b := (decide (0 = 0))) A324 (by kernel_rfl) (by kernel_rfl) (by decide) ?_
                refine s_one (.pointer (some ⟨g280, 1, none⟩)) A324 S303 (g_field (u := .pointer (some ⟨g280, 0, none⟩)) (by kernel_rfl) (fun _ => by kernel_rfl)) rfl (fun ac A325 => ?_)
                refine s_want (dj := 159) (b := (decide (0 = 0))) A325 (by kernel_rfl) (by kernel_rfl) (by decide) ?_
                refine s_one (.int .i64 ((peakOf (ecP l) 0 30).2)) A325 S303 (g_load (g := g280) (off := 1) 1 (by kernel_rfl) rfl (by kernel_rfl)) rfl (fun ac A326 => ?_)
                refine s_want (dj := 159) (b := (decide (0 = 0))) A326 (by kernel_rfl) (by kernel_rfl) (by decide) ?_
                refine s_one (.int .i64 ((g * g) * ((peakOf (ecP l) 0 30).2))) A326 S303 (g_bin (u := .int .i64 (g * g)) (k := .int .i64 ((peakOf (ecP l) 0 30).2)) (by kernel_rfl) (by kernel_rfl) (fun _ => by kernel_rfl) (b_mul (by omega))) rfl (fun ac A327 => ?_)
                refine s_want (dj := 159) (b := (decide (0 = 0))) A327 (by kernel_rfl) (by kernel_rfl) (by decide) ?_
                refine s_one (.agg #[.int .i64 ((peakOf (ecP l) 0 30).1 + (bn : Int)), .int .i64 ((g * g) * ((peakOf (ecP l) 0 30).2))]) A327 S303 (g_build (r := [(0, .int .i64 ((peakOf (ecP l) 0 30).1 + (bn : Int))), (1, .int .i64 ((g * g) * ((peakOf (ecP l) 0 30).2)))]) (by kernel_rfl) (fun _ => by kernel_rfl)) rfl (fun ac A328 => ?_)
                refine s_want (dj := 159) (b := (decide (0 = 0))) A328 (by kernel_rfl) (by kernel_rfl) (by decide) ?_
                refine s_one (.bool (decide ([(peakOf (shL (scL (ecP l) g) (bn : Int)) 0 60).1, (peakOf (shL (scL (ecP l) g) (bn : Int)) 0 60).2] = [(peakOf (ecP l) 0 30).1 + (bn : Int), (g * g) * ((peakOf (ecP l) 0 30).2)]))) A328 S303 (g_bin (u := .agg #[.int .i64 ((peakOf (shL (scL (ecP l) g) (bn : Int)) 0 60).1), .int .i64 ((peakOf (shL (scL (ecP l) g) (bn : Int)) 0 60).2)]) (k := .agg #[.int .i64 ((peakOf (ecP l) 0 30).1 + (bn : Int)), .int .i64 ((g * g) * ((peakOf (ecP l) 0 30).2))]) (by kernel_rfl) (by kernel_rfl) (fun _ => by kernel_rfl) (q_struct (n := 2) [(peakOf (shL (scL (ecP l) g) (bn : Int)) 0 60).1, (peakOf (shL (scL (ecP l) g) (bn : Int)) 0 60).2] [(peakOf (ecP l) 0 30).1 + (bn : Int), (g * g) * ((peakOf (ecP l) 0 30).2)] (by kernel_rfl) rfl rfl)) rfl (fun ac A329 => ?_)
                refine s_one (.bool (decide ([(peakOf (shL (scL (ecP l) g) (bn : Int)) 0 60).1, (peakOf (shL (scL (ecP l) g) (bn : Int)) 0 60).2] = [(peakOf (ecP l) 0 30).1 + (bn : Int), (g * g) * ((peakOf (ecP l) 0 30).2)]))) A329 S303 (g_pick_t (b := (decide (0 = 0))) (by kernel_rfl) (by decide) (by kernel_rfl)) rfl (fun ac A330 => ?_)
                refine s_one (.bool (decide ([(peakOf (shL (scL (ecP l) g) (bn : Int)) 0 60).1, (peakOf (shL (scL (ecP l) g) (bn : Int)) 0 60).2] = [(peakOf (ecP l) 0 30).1 + (bn : Int), (g * g) * ((peakOf (ecP l) 0 30).2)]))) A330 S303 (g_move (by kernel_rfl)) rfl (fun ac A331 => ?_)
                refine s_want (dj := 174) (b := (decide ([(peakOf (shL (scL (ecP l) g) (bn : Int)) 0 60).1, (peakOf (shL (scL (ecP l) g) (bn : Int)) 0 60).2] = [(peakOf (ecP l) 0 30).1 + (bn : Int), (g * g) * ((peakOf (ecP l) 0 30).2)]))) A331 (by kernel_rfl) (by kernel_rfl) (decide_eq_true (by rw [ek])) ?_
                refine s_one (.int .i64 0) A331 S303 (g_move (by kernel_rfl)) rfl (fun ac A332 => ?_)
                refine s_want (dj := 174) (b := (decide ([(peakOf (shL (scL (ecP l) g) (bn : Int)) 0 60).1, (peakOf (shL (scL (ecP l) g) (bn : Int)) 0 60).2] = [(peakOf (ecP l) 0 30).1 + (bn : Int), (g * g) * ((peakOf (ecP l) 0 30).2)]))) A332 (by kernel_rfl) (by kernel_rfl) (decide_eq_true (by rw [ek])) ?_
                refine s_one (.bool (decide (0 = 0))) A332 S303 (g_bin (u := .int .i64 0) (k := .int .i64 0) (by kernel_rfl) (by kernel_rfl) (fun _ => by kernel_rfl) b_eql) rfl (fun ac A333 => ?_)
                refine s_one (.bool (decide (0 = 0))) A333 S303 (g_pick_t (b := (decide ([(peakOf (shL (scL (ecP l) g) (bn : Int)) 0 60).1, (peakOf (shL (scL (ecP l) g) (bn : Int)) 0 60).2] = [(peakOf (ecP l) 0 30).1 + (bn : Int), (g * g) * ((peakOf (ecP l) 0 30).2)]))) (by kernel_rfl) (decide_eq_true (by rw [ek])) (by kernel_rfl)) rfl (fun ac A334 => ?_)
                refine s_one (.bool (decide (0 = 0))) A334 S303 (g_move (by kernel_rfl)) rfl (fun ac A335 => ?_)
                refine s_want (dj := 178) (b := (decide (0 = 0))) A335 (by kernel_rfl) (by kernel_rfl) (by decide) ?_
                refine s_one (.int .i64 (lagOf (ecP l) (shL (scL (ecP l) g) (bn : Int)) 25)) A335 S303 (g_move (by kernel_rfl)) rfl (fun ac A336 => ?_)
                refine s_want (dj := 178) (b := (decide (0 = 0))) A336 (by kernel_rfl) (by kernel_rfl) (by decide) ?_
                refine s_one (.int .i64 (bn : Int)) A336 S303 (g_move (by kernel_rfl)) rfl (fun ac A337 => ?_)
                refine s_want (dj := 178) (b := (decide (0 = 0))) A337 (by kernel_rfl) (by kernel_rfl) (by decide) ?_
                refine s_one (.bool (decide (lagOf (ecP l) (shL (scL (ecP l) g) (bn : Int)) 25 = (bn : Int)))) A337 S303 (g_bin (u := .int .i64 (lagOf (ecP l) (shL (scL (ecP l) g) (bn : Int)) 25)) (k := .int .i64 (bn : Int)) (by kernel_rfl) (by kernel_rfl) (fun _ => by kernel_rfl) b_eql) rfl (fun ac A338 => ?_)
                refine s_one (.bool (decide (lagOf (ecP l) (shL (scL (ecP l) g) (bn : Int)) 25 = (bn : Int)))) A338 S303 (g_pick_t (b := (decide (0 = 0))) (by kernel_rfl) (by decide) (by kernel_rfl)) rfl (fun ac A339 => ?_)
                refine s_one (.bool (decide (lagOf (ecP l) (shL (scL (ecP l) g) (bn : Int)) 25 = (bn : Int)))) A339 S303 (g_assign (by kernel_rfl)) rfl (fun ac A340 => ?_)
                refine wpList_nil ?_
                refine n_then ?_
                refine wp_ret ?_
                refine fin1 (.bool (decide (lagOf (ecP l) (shL (scL (ecP l) g) (bn : Int)) 25 = (bn : Int)))) Try.results11 A340 S303 (rv_tmp (by kernel_rfl)) ⟨?_, S303.kp⟩
                exact congrArg (fun b => Ending.returned (Value.bool b)) (decide_eq_true eg)
          · refine rs_alloc (trc zT) A151 S152 sub_all sub_all zero26 rfl rfl rfl (fun g343 ac wc A341 S342 => ?_)
            have T344 := S342.sub (sub_skip sub_all) sub_all
            refine r_1 (i := 3) (by kernel_rfl) ?_
            refine rs_call (fs := #[]) (cp := #[]) (r := [(0, .agg (trc (mkT (ecP l) 64))), (0, .agg #[.int .i64 g, .int .i64 1])]) #[.agg (trc (mkT (ecP l) 64)), .agg #[.int .i64 g, .int .i64 1]] (.tuple #[.agg (trc (mkT (scL (ecP l) g) 64)), .int .i64 0, .int .i64 0]) A341 S342 (sub_skip sub_all) sub_all (Gained_e g _ hn hl hg.1 hg.2) Try.call40 rfl rfl (by kernel_rfl) (by kernel_rfl) (by kernel_rfl) rfl (fun ac wc A345 S346 => ?_)
            have T348 := S346.sub (sub_skip sub_all) sub_all
            refine r_take 4 (.tuple #[.agg (trc (mkT (scL (ecP l) g) 64)), .int .i64 0, .int .i64 0]) A345 T348 (g_move (by kernel_rfl)) rfl rfl rfl (pf_then pf_body) (by kernel_rfl) (fun ac A349 => ?_)
            refine r_take 5 (.agg (trc (mkT (scL (ecP l) g) 64))) A349 T348 (g_extract (u := .tuple #[.agg (trc (mkT (scL (ecP l) g) 64)), .int .i64 0, .int .i64 0]) (by kernel_rfl) (fun _ => by kernel_rfl)) rfl rfl rfl (pf_then pf_body) (by kernel_rfl) (fun ac A350 => ?_)
            refine r_take 6 (.int .i64 0) A350 T348 (g_extract (u := .tuple #[.agg (trc (mkT (scL (ecP l) g) 64)), .int .i64 0, .int .i64 0]) (by kernel_rfl) (fun _ => by kernel_rfl)) rfl rfl rfl (pf_then pf_body) (by kernel_rfl) (fun ac A351 => ?_)
            refine r_take 7 (.int .i64 0) A351 T348 (g_extract (u := .tuple #[.agg (trc (mkT (scL (ecP l) g) 64)), .int .i64 0, .int .i64 0]) (by kernel_rfl) (fun _ => by kernel_rfl)) rfl rfl rfl (pf_then pf_body) (by kernel_rfl) (fun ac A352 => ?_)
            refine r_1 (i := 9) (by kernel_rfl) ?_
            refine rs_store (g := g343) (off := 0) (v := .agg (trc (mkT (scL (ecP l) g) 64))) 0 (trc (mkT (scL (ecP l) g) 64)) A352 S346 (sub_skip sub_all) sub_all (by kernel_rfl) (by kernel_rfl) rfl (putVal_whole ((trc_size _).trans zT_length) ((trc_size _).trans (mkT_length _ _)) ⟨⟨_, Try.underlying26, rfl⟩, by kernel_rfl⟩ (trc_one _)) rfl rfl (fun wc S354 => ?_)
            have T356 := S354.sub (sub_skip sub_all) sub_all
            refine r_take 10 (.int .i64 0) A352 T356 (g_assign (by kernel_rfl)) rfl rfl rfl (pf_then pf_body) (by kernel_rfl) (fun ac A357 => ?_)
            refine r_take 11 (.int .i64 0) A357 T356 (g_assign (by kernel_rfl)) rfl rfl rfl (pf_then pf_body) (by kernel_rfl) (fun ac A358 => ?_)
            refine r_done (by kernel_rfl) ?_
            refine n_then ?_
            refine wp_seq ?_
            refine wp_region_lit ?_
            refine s_one (.agg (trc (mkT (scL (ecP l) g) 64))) A358 S354 (g_loadW (g := g343) 0 (by kernel_rfl) rfl ((trc_size _).trans (mkT_length _ _)) ⟨⟨_, Try.underlying26, rfl⟩, by kernel_rfl⟩) rfl (fun ac A359 => ?_)
            refine s_one (.int .i64 (bn : Int)) A359 S354 (g_move (by kernel_rfl)) rfl (fun ac A360 => ?_)
            refine s_call (fs := #[]) (cp := #[]) (r := [(0, .agg (trc (mkT (scL (ecP l) g) 64))), (0, .int .i64 (bn : Int))]) #[.agg (trc (mkT (scL (ecP l) g) 64)), .int .i64 (bn : Int)] (.tuple #[.agg (trc (mkT (shL (scL (ecP l) g) (bn : Int)) 64)), .int .i64 0]) A360 S354 (Shifted_mk (scL (ecP l) g) (bn : Int) _ (scL_length _ _) sc (inB_true.2 (by omega))) Try.call30 (by kernel_rfl) (by kernel_rfl) (by kernel_rfl) rfl (fun ac wc A361 S362 => ?_)
            refine s_one (.tuple #[.agg (trc (mkT (shL (scL (ecP l) g) (bn : Int)) 64)), .int .i64 0]) A361 S362 (g_move (by kernel_rfl)) rfl (fun ac A364 => ?_)
            refine s_one (.agg (trc (mkT (shL (scL (ecP l) g) (bn : Int)) 64))) A364 S362 (g_extract (u := .tuple #[.agg (trc (mkT (shL (scL (ecP l) g) (bn : Int)) 64)), .int .i64 0]) (by kernel_rfl) (fun _ => by kernel_rfl)) rfl (fun ac A365 => ?_)
            refine s_one (.int .i64 0) A365 S362 (g_extract (u := .tuple #[.agg (trc (mkT (shL (scL (ecP l) g) (bn : Int)) 64)), .int .i64 0]) (by kernel_rfl) (fun _ => by kernel_rfl)) rfl (fun ac A366 => ?_)
            refine s_alloc (trc zT) A366 S362 zero26 rfl (fun g369 ac wc A367 S368 => ?_)
            refine s_store (g := g369) (off := 0) (v := .agg (trc (mkT (shL (scL (ecP l) g) (bn : Int)) 64))) 0 (trc (mkT (shL (scL (ecP l) g) (bn : Int)) 64)) A367 S368 (by kernel_rfl) (by kernel_rfl) rfl (putVal_whole ((trc_size _).trans zT_length) ((trc_size _).trans (mkT_length _ _)) ⟨⟨_, Try.underlying26, rfl⟩, by kernel_rfl⟩ (trc_one _)) (fun wc S371 => ?_)
            refine s_one (.int .i64 0) A367 S371 (g_assign (by kernel_rfl)) rfl (fun ac A373 => ?_)
            refine wpList_nil ?_
            refine n_then ?_
            refine wp_seq ?_
            refine wp_region_lit ?_
            refine s_one (.agg (trc (mkT (ecP l) 64))) A373 S371 (g_loadW (g := g142) 2 (by kernel_rfl) rfl ((trc_size _).trans (mkT_length _ _)) ⟨⟨_, Try.underlying26, rfl⟩, by kernel_rfl⟩) rfl (fun ac A374 => ?_)
            refine s_call (fs := #[]) (cp := #[]) (r := [(0, .agg (trc (mkT (ecP l) 64)))]) #[.agg (trc (mkT (ecP l) 64))] (.tuple #[.agg (ints (sqL (ecP l))), .int .i64 0]) A374 S371 (Envelope_mk (ecP l) _ (ecP_length _) sp) Try.call18 (by kernel_rfl) (by kernel_rfl) (by kernel_rfl) rfl (fun ac wc A375 S376 => ?_)
            refine s_one (.tuple #[.agg (ints (sqL (ecP l))), .int .i64 0]) A375 S376 (g_move (by kernel_rfl)) rfl (fun ac A378 => ?_)
            refine s_one (.agg (ints (sqL (ecP l)))) A378 S376 (g_extract (u := .tuple #[.agg (ints (sqL (ecP l))), .int .i64 0]) (by kernel_rfl) (fun _ => by kernel_rfl)) rfl (fun ac A379 => ?_)
            refine s_one (.int .i64 0) A379 S376 (g_extract (u := .tuple #[.agg (ints (sqL (ecP l))), .int .i64 0]) (by kernel_rfl) (fun _ => by kernel_rfl)) rfl (fun ac A380 => ?_)
            refine s_alloc (ints (List.replicate 61 0)) A380 S376 zero61 rfl (fun g383 ac wc A381 S382 => ?_)
            refine s_store (g := g383) (off := 0) (v := .agg (ints (sqL (ecP l)))) 0 (ints (sqL (ecP l))) A381 S382 (by kernel_rfl) (by kernel_rfl) rfl (putVal_whole ((ints_size _).trans List.length_replicate) ((ints_size _).trans (sqL_length _)) ⟨⟨_, Try.underlying39, rfl⟩, by kernel_rfl⟩ (ints_one _)) (fun wc S385 => ?_)
            refine s_one (.int .i64 0) A381 S385 (g_assign (by kernel_rfl)) rfl (fun ac A387 => ?_)
            refine wpList_nil ?_
            refine n_then ?_
            refine wp_seq ?_
            refine wp_region_lit ?_
            refine s_one (.agg (trc (mkT (shL (scL (ecP l) g) (bn : Int)) 64))) A387 S385 (g_loadW (g := g369) 1 (by kernel_rfl) rfl ((trc_size _).trans (mkT_length _ _)) ⟨⟨_, Try.underlying26, rfl⟩, by kernel_rfl⟩) rfl (fun ac A388 => ?_)
            refine s_call (fs := #[]) (cp := #[]) (r := [(0, .agg (trc (mkT (shL (scL (ecP l) g) (bn : Int)) 64)))]) #[.agg (trc (mkT (shL (scL (ecP l) g) (bn : Int)) 64))] (.tuple #[.agg (ints (sqL (shL (scL (ecP l) g) (bn : Int)))), .int .i64 0]) A388 S385 (Envelope_mk (shL (scL (ecP l) g) (bn : Int)) _ (shL_length _ _) ss) Try.call18 (by kernel_rfl) (by kernel_rfl) (by kernel_rfl) rfl (fun ac wc A389 S390 => ?_)
            refine s_one (.tuple #[.agg (ints (sqL (shL (scL (ecP l) g) (bn : Int)))), .int .i64 0]) A389 S390 (g_move (by kernel_rfl)) rfl (fun ac A392 => ?_)
            refine s_one (.agg (ints (sqL (shL (scL (ecP l) g) (bn : Int))))) A392 S390 (g_extract (u := .tuple #[.agg (ints (sqL (shL (scL (ecP l) g) (bn : Int)))), .int .i64 0]) (by kernel_rfl) (fun _ => by kernel_rfl)) rfl (fun ac A393 => ?_)
            refine s_one (.int .i64 0) A393 S390 (g_extract (u := .tuple #[.agg (ints (sqL (shL (scL (ecP l) g) (bn : Int)))), .int .i64 0]) (by kernel_rfl) (fun _ => by kernel_rfl)) rfl (fun ac A394 => ?_)
            refine s_alloc (ints (List.replicate 61 0)) A394 S390 zero61 rfl (fun g397 ac wc A395 S396 => ?_)
            refine s_store (g := g397) (off := 0) (v := .agg (ints (sqL (shL (scL (ecP l) g) (bn : Int))))) 0 (ints (sqL (shL (scL (ecP l) g) (bn : Int)))) A395 S396 (by kernel_rfl) (by kernel_rfl) rfl (putVal_whole ((ints_size _).trans List.length_replicate) ((ints_size _).trans (sqL_length _)) ⟨⟨_, Try.underlying39, rfl⟩, by kernel_rfl⟩ (ints_one _)) (fun wc S399 => ?_)
            refine s_one (.int .i64 0) A395 S399 (g_assign (by kernel_rfl)) rfl (fun ac A401 => ?_)
            refine wpList_nil ?_
            refine n_then ?_
            refine wp_seq ?_
            refine wp_seq ?_
            refine wp_region_lit ?_
            refine s_one (.int .i64 0) A401 S399 (g_move (by kernel_rfl)) rfl (fun ac A402 => ?_)
            refine s_one (.bool (decide (0 ≠ 0))) A402 S399 (g_bin (u := .int .i64 0) (k := .int .i64 0) (by kernel_rfl) (by kernel_rfl) (fun _ => by kernel_rfl) b_neq) rfl (fun ac A403 => ?_)
            refine s_one (.bool (decide (0 ≠ 0))) A403 S399 (g_move (by kernel_rfl)) rfl (fun ac A404 => ?_)
            refine s_want (dj := 98) (b := (decide (0 ≠ 0))) A404 (by kernel_rfl) (by kernel_rfl) (by decide) ?_
            refine s_one (.int .i64 0) A404 S399 (g_move (by kernel_rfl)) rfl (fun ac A405 => ?_)
            refine s_want (dj := 98) (b := (decide (0 ≠ 0))) A405 (by kernel_rfl) (by kernel_rfl) (by decide) ?_
            refine s_one (.bool (decide (0 ≠ 0))) A405 S399 (g_bin (u := .int .i64 0) (k := .int .i64 0) (by kernel_rfl) (by kernel_rfl) (fun _ => by kernel_rfl) b_neq) rfl (fun ac A406 => ?_)
            refine s_one (.bool (decide (0 ≠ 0))) A406 S399 (g_pick_f (b := (decide (0 ≠ 0))) (by kernel_rfl) (by decide) (by kernel_rfl)) rfl (fun ac A407 => ?_)
            refine s_one (.bool (decide (0 ≠ 0))) A407 S399 (g_move (by kernel_rfl)) rfl (fun ac A408 => ?_)
            refine s_want (dj := 102) (b := (decide (0 ≠ 0))) A408 (by kernel_rfl) (by kernel_rfl) (by decide) ?_
            refine s_one (.int .i64 0) A408 S399 (g_move (by kernel_rfl)) rfl (fun ac A409 => ?_)
            refine s_want (dj := 102) (b := (decide (0 ≠ 0))) A409 (by kernel_rfl) (by kernel_rfl) (by decide) ?_
            refine s_one (.bool (decide (0 ≠ 0))) A409 S399 (g_bin (u := .int .i64 0) (k := .int .i64 0) (by kernel_rfl) (by kernel_rfl) (fun _ => by kernel_rfl) b_neq) rfl (fun ac A410 => ?_)
            refine s_one (.bool (decide (0 ≠ 0))) A410 S399 (g_pick_f (b := (decide (0 ≠ 0))) (by kernel_rfl) (by decide) (by kernel_rfl)) rfl (fun ac A411 => ?_)
            refine s_one (.bool (decide (0 ≠ 0))) A411 S399 (g_move (by kernel_rfl)) rfl (fun ac A412 => ?_)
            refine s_want (dj := 106) (b := (decide (0 ≠ 0))) A412 (by kernel_rfl) (by kernel_rfl) (by decide) ?_
            refine s_one (.int .i64 0) A412 S399 (g_move (by kernel_rfl)) rfl (fun ac A413 => ?_)
            refine s_want (dj := 106) (b := (decide (0 ≠ 0))) A413 (by kernel_rfl) (by kernel_rfl) (by decide) ?_
            refine s_one (.bool (decide (0 ≠ 0))) A413 S399 (g_bin (u := .int .i64 0) (k := .int .i64 0) (by kernel_rfl) (by kernel_rfl) (fun _ => by kernel_rfl) b_neq) rfl (fun ac A414 => ?_)
            refine s_one (.bool (decide (0 ≠ 0))) A414 S399 (g_pick_f (b := (decide (0 ≠ 0))) (by kernel_rfl) (by decide) (by kernel_rfl)) rfl (fun ac A415 => ?_)
            refine s_one (.bool (decide (0 ≠ 0))) A415 S399 (g_move (by kernel_rfl)) rfl (fun ac A416 => ?_)
            refine s_want (dj := 110) (b := (decide (0 ≠ 0))) A416 (by kernel_rfl) (by kernel_rfl) (by decide) ?_
            refine s_one (.int .i64 0) A416 S399 (g_move (by kernel_rfl)) rfl (fun ac A417 => ?_)
            refine s_want (dj := 110) (b := (decide (0 ≠ 0))) A417 (by kernel_rfl) (by kernel_rfl) (by decide) ?_
            refine s_one (.bool (decide (0 ≠ 0))) A417 S399 (g_bin (u := .int .i64 0) (k := .int .i64 0) (by kernel_rfl) (by kernel_rfl) (fun _ => by kernel_rfl) b_neq) rfl (fun ac A418 => ?_)
            refine s_one (.bool (decide (0 ≠ 0))) A418 S399 (g_pick_f (b := (decide (0 ≠ 0))) (by kernel_rfl) (by decide) (by kernel_rfl)) rfl (fun ac A419 => ?_)
            refine wpList_nil ?_
            refine n_then ?_
            refine c_f (b := (decide (0 ≠ 0))) A419 (by kernel_rfl) (by decide) ?_
            refine wp_skip ?_
            refine n_then ?_
            refine wp_seq ?_
            refine wp_seq ?_
            refine wp_region_lit ?_
            refine s_one (.int .i64 0) A419 S399 (g_assign (by kernel_rfl)) rfl (fun ac A420 => ?_)
            refine wpList_nil ?_
            refine n_then ?_
            refine wp_block ?_
            refine c_loopN (fun mm ac wc => ∃ (k : Nat), mm = 61 - k ∧ ((k : Int) + (bn : Int) ≤ 61) ∧ Fr 183 ac [(0, .slice A n cap), (1, .int .i64 (bn : Int)), (2, .int .i64 g), (27, .bool true), (28, .bool false), (41, .bool ((decide ((n : Int) > 20)) || ((!(inB (bn : Int) 0 20)) || (!(inB g 1 10))))), (42, .slice (some ⟨g55, 0, none⟩) 3 3), (9, .int .i64 (n : Int)), (7, .slice A136 (3 + n) cap137), (8, .bool (nz l n)), (43, .int .i64 (n : Int)), (44, .slice A n cap), (45, .int .i64 (n : Int)), (46, .bool (decide ((n : Int) < (n : Int)))), (70, .slice A136 (3 + n) cap137), (71, .agg (trc (mkT (ecX l) (3 + n)))), (10, .pointer (some ⟨g142, 0, none⟩)), (73, .agg (trc (mkT (ecP l) 64))), (74, .int .i64 g), (75, .agg #[.int .i64 g, .int .i64 1]), (11, .pointer (some ⟨g343, 0, none⟩)), (76, .tuple #[.agg (trc (mkT (scL (ecP l) g) 64)), .int .i64 0, .int .i64 0]), (72, .tuple #[.agg (trc (mkT (scL (ecP l) g) 64)), .int .i64 0, .int .i64 0]), (77, .agg (trc (mkT (scL (ecP l) g) 64))), (78, .int .i64 0), (79, .int .i64 0), (12, .int .i64 0), (13, .int .i64 0), (81, .agg (trc (mkT (scL (ecP l) g) 64))), (82, .int .i64 (bn : Int)), (83, .tuple #[.agg (trc (mkT (shL (scL (ecP l) g) (bn : Int)) 64)), .int .i64 0]), (80, .tuple #[.agg (trc (mkT (shL (scL (ecP l) g) (bn : Int)) 64)), .int .i64 0]), (84, .agg (trc (mkT (shL (scL (ecP l) g) (bn : Int)) 64))), (85, .int .i64 0), (14, .pointer (some ⟨g369, 0, none⟩)), (15, .int .i64 0), (87, .agg (trc (mkT (ecP l) 64))), (88, .tuple #[.agg (ints (sqL (ecP l))), .int .i64 0]), (86, .tuple #[.agg (ints (sqL (ecP l))), .int .i64 0]), (89, .agg (ints (sqL (ecP l)))), (90, .int .i64 0), (16, .pointer (some ⟨g383, 0, none⟩)), (17, .int .i64 0), (92, .agg (trc (mkT (shL (scL (ecP l) g) (bn : Int)) 64))), (93, .tuple #[.agg (ints (sqL (shL (scL (ecP l) g) (bn : Int)))), .int .i64 0]), (91, .tuple #[.agg (ints (sqL (shL (scL (ecP l) g) (bn : Int)))), .int .i64 0]), (94, .agg (ints (sqL (shL (scL (ecP l) g) (bn : Int))))), (95, .int .i64 0), (18, .pointer (some ⟨g397, 0, none⟩)), (19, .int .i64 0), (96, .int .i64 0), (97, .bool (decide (0 ≠ 0))), (98, .bool (decide (0 ≠ 0))), (99, .int .i64 0), (100, .bool (decide (0 ≠ 0))), (101, .bool (decide (0 ≠ 0))), (102, .bool (decide (0 ≠ 0))), (103, .int .i64 0), (104, .bool (decide (0 ≠ 0))), (105, .bool (decide (0 ≠ 0))), (106, .bool (decide (0 ≠ 0))), (107, .int .i64 0), (108, .bool (decide (0 ≠ 0))), (109, .bool (decide (0 ≠ 0))), (110, .bool (decide (0 ≠ 0))), (111, .int .i64 0), (112, .bool (decide (0 ≠ 0))), (113, .bool (decide (0 ≠ 0))), (20, .int .i64 (k : Int))] ∧ St w0 [⟨g397, 39, (ints (sqL (shL (scL (ecP l) g) (bn : Int)))), true⟩, ⟨g383, 39, (ints (sqL (ecP l))), true⟩, ⟨g369, 26, (trc (mkT (shL (scL (ecP l) g) (bn : Int)) 64)), true⟩, ⟨g343, 26, (trc (mkT (scL (ecP l) g) 64)), true⟩, ⟨g142, 26, (trc (mkT (ecP l) 64)), true⟩] [] wc) _ ⟨0, rfl, by omega, (A420.slot (A420.slot (A420.slot (A420.slot (A420.slot (A420.slot (A420.slot (A420.slot (A420.slot (A420.slot (A420.slot (A420.slot (A420.slot (A420.slot (A420.slot (A420.slot (A420.slot (A420.slot (A420.slot (A420.slot (A420.slot (A420.slot (A420.slot (A420.slot (A420.slot (A420.slot (A420.slot (A420.slot (A420.slot (A420.slot (A420.slot (A420.slot (A420.slot (A420.slot (A420.slot (A420.slot (A420.slot (A420.slot (A420.slot (A420.slot (A420.slot (A420.slot (A420.slot (A420.slot (A420.slot (A420.slot (A420.slot (A420.slot (A420.slot (A420.slot (A420.slot (A420.slot (A420.slot (A420.slot (A420.slot (A420.slot (A420.slot (A420.slot (A420.slot (A420.slot (A420.slot (A420.slot (A420.slot (A420.slot (A420.slot (A420.slot (A420.slot (A420.slot (A420.slot A420.nil (v := .int .i64 0) (by kernel_rfl) (congrArg (Value.int .i64) (by omega))) (v := .bool (decide (0 ≠ 0))) (by kernel_rfl) rfl) (v := .bool (decide (0 ≠ 0))) (by kernel_rfl) rfl) (v := .int .i64 0) (by kernel_rfl) rfl) (v := .bool (decide (0 ≠ 0))) (by kernel_rfl) rfl) (v := .bool (decide (0 ≠ 0))) (by kernel_rfl) rfl) (v := .bool (decide (0 ≠ 0))) (by kernel_rfl) rfl) (v := .int .i64 0) (by kernel_rfl) rfl) (v := .bool (decide (0 ≠ 0))) (by kernel_rfl) rfl) (v := .bool (decide (0 ≠ 0))) (by kernel_rfl) rfl) (v := .bool (decide (0 ≠ 0))) (by kernel_rfl) rfl) (v := .int .i64 0) (by kernel_rfl) rfl) (v := .bool (decide (0 ≠ 0))) (by kernel_rfl) rfl) (v := .bool (decide (0 ≠ 0))) (by kernel_rfl) rfl) (v := .bool (decide (0 ≠ 0))) (by kernel_rfl) rfl) (v := .int .i64 0) (by kernel_rfl) rfl) (v := .bool (decide (0 ≠ 0))) (by kernel_rfl) rfl) (v := .bool (decide (0 ≠ 0))) (by kernel_rfl) rfl) (v := .int .i64 0) (by kernel_rfl) rfl) (v := .int .i64 0) (by kernel_rfl) rfl) (v := .pointer (some ⟨g397, 0, none⟩)) (by kernel_rfl) rfl) (v := .int .i64 0) (by kernel_rfl) rfl) (v := .agg (ints (sqL (shL (scL (ecP l) g) (bn : Int))))) (by kernel_rfl) rfl) (v := .tuple #[.agg (ints (sqL (shL (scL (ecP l) g) (bn : Int)))), .int .i64 0]) (by kernel_rfl) rfl) (v := .tuple #[.agg (ints (sqL (shL (scL (ecP l) g) (bn : Int)))), .int .i64 0]) (by kernel_rfl) rfl) (v := .agg (trc (mkT (shL (scL (ecP l) g) (bn : Int)) 64))) (by kernel_rfl) rfl) (v := .int .i64 0) (by kernel_rfl) rfl) (v := .pointer (some ⟨g383, 0, none⟩)) (by kernel_rfl) rfl) (v := .int .i64 0) (by kernel_rfl) rfl) (v := .agg (ints (sqL (ecP l)))) (by kernel_rfl) rfl) (v := .tuple #[.agg (ints (sqL (ecP l))), .int .i64 0]) (by kernel_rfl) rfl) (v := .tuple #[.agg (ints (sqL (ecP l))), .int .i64 0]) (by kernel_rfl) rfl) (v := .agg (trc (mkT (ecP l) 64))) (by kernel_rfl) rfl) (v := .int .i64 0) (by kernel_rfl) rfl) (v := .pointer (some ⟨g369, 0, none⟩)) (by kernel_rfl) rfl) (v := .int .i64 0) (by kernel_rfl) rfl) (v := .agg (trc (mkT (shL (scL (ecP l) g) (bn : Int)) 64))) (by kernel_rfl) rfl) (v := .tuple #[.agg (trc (mkT (shL (scL (ecP l) g) (bn : Int)) 64)), .int .i64 0]) (by kernel_rfl) rfl) (v := .tuple #[.agg (trc (mkT (shL (scL (ecP l) g) (bn : Int)) 64)), .int .i64 0]) (by kernel_rfl) rfl) (v := .int .i64 (bn : Int)) (by kernel_rfl) rfl) (v := .agg (trc (mkT (scL (ecP l) g) 64))) (by kernel_rfl) rfl) (v := .int .i64 0) (by kernel_rfl) rfl) (v := .int .i64 0) (by kernel_rfl) rfl) (v := .int .i64 0) (by kernel_rfl) rfl) (v := .int .i64 0) (by kernel_rfl) rfl) (v := .agg (trc (mkT (scL (ecP l) g) 64))) (by kernel_rfl) rfl) (v := .tuple #[.agg (trc (mkT (scL (ecP l) g) 64)), .int .i64 0, .int .i64 0]) (by kernel_rfl) rfl) (v := .tuple #[.agg (trc (mkT (scL (ecP l) g) 64)), .int .i64 0, .int .i64 0]) (by kernel_rfl) rfl) (v := .pointer (some ⟨g343, 0, none⟩)) (by kernel_rfl) rfl) (v := .agg #[.int .i64 g, .int .i64 1]) (by kernel_rfl) rfl) (v := .int .i64 g) (by kernel_rfl) rfl) (v := .agg (trc (mkT (ecP l) 64))) (by kernel_rfl) rfl) (v := .pointer (some ⟨g142, 0, none⟩)) (by kernel_rfl) rfl) (v := .agg (trc (mkT (ecX l) (3 + n)))) (by kernel_rfl) rfl) (v := .slice A136 (3 + n) cap137) (by kernel_rfl) rfl) (v := .bool (decide ((n : Int) < (n : Int)))) (by kernel_rfl) rfl) (v := .int .i64 (n : Int)) (by kernel_rfl) rfl) (v := .slice A n cap) (by kernel_rfl) rfl) (v := .int .i64 (n : Int)) (by kernel_rfl) rfl) (v := .bool (nz l n)) (by kernel_rfl) rfl) (v := .slice A136 (3 + n) cap137) (by kernel_rfl) rfl) (v := .int .i64 (n : Int)) (by kernel_rfl) rfl) (v := .slice (some ⟨g55, 0, none⟩) 3 3) (by kernel_rfl) rfl) (v := .bool ((decide ((n : Int) > 20)) || ((!(inB (bn : Int) 0 20)) || (!(inB g 1 10))))) (by kernel_rfl) rfl) (v := .bool false) (by kernel_rfl) rfl) (v := .bool true) (by kernel_rfl) rfl) (v := .int .i64 g) (by kernel_rfl) rfl) (v := .int .i64 (bn : Int)) (by kernel_rfl) rfl) (v := .slice A n cap) (by kernel_rfl) rfl), S399.sub sub_all sub_all⟩ ?_
            rintro mm ac wc ⟨k, hm423, hk, A421, S422⟩
            have q1 := sqL_bd sp k
            have q2 := mul_bd (x := g * g) (y := nthI (sqL (ecP l)) k) (a := 100) (b := 33521672) (by omega) (by omega) (by omega) (by omega)
            refine wp_seq ?_
            refine wp_seq ?_
            refine wp_region_lit ?_
            refine s_one (.int .i64 (k : Int)) A421 S422 (g_move (by kernel_rfl)) rfl (fun ac A424 => ?_)
            refine s_one (.int .i64 (bn : Int)) A424 S422 (g_move (by kernel_rfl)) rfl (fun ac A425 => ?_)
            refine s_one (.int .i64 ((k : Int) + (bn : Int))) A425 S422 (g_bin (u := .int .i64 (k : Int)) (k := .int .i64 (bn : Int)) (by kernel_rfl) (by kernel_rfl) (fun _ => by kernel_rfl) (b_add (by omega))) rfl (fun ac A426 => ?_)
            refine s_one (.bool (decide ((k : Int) + (bn : Int) < 61))) A426 S422 (g_bin (u := .int .i64 ((k : Int) + (bn : Int))) (k := .int .i64 61) (by kernel_rfl) (by kernel_rfl) (fun _ => by kernel_rfl) (fun _ => by kernel_rfl)) rfl (fun ac A427 => ?_)
            refine wpList_nil ?_
            refine n_then ?_
            refine c_ifb (b := (decide ((k : Int) + (bn : Int) < 61))) A427 (by kernel_rfl) (fun h428 => ?_) (fun h428 => ?_)
            · have p429 := of_decide_eq_true h428
              refine wp_skip ?_
              refine n_then ?_
              refine wp_seq ?_
              refine wp_block ?_
              refine wp_seq ?_
              refine r_begin (w0 := w0) (by kernel_rfl) (S422.sub sub_all sub_all) (fun wc T430 B431 => ?_)
              have S432 := S422.kept B431
              refine r_take 0 (.int .i64 (k : Int)) A427 T430 (g_move (by kernel_rfl)) rfl rfl rfl (pf_then (pf_block (pf_then (pf_then (pf_block (pf_then pf_body)))))) (by kernel_rfl) (fun ac A433 => ?_)
              refine r_take 1 (.int .i64 (bn : Int)) A433 T430 (g_move (by kernel_rfl)) rfl rfl rfl (pf_then (pf_block (pf_then (pf_then (pf_block (pf_then pf_body)))))) (by kernel_rfl) (fun ac A434 => ?_)
              refine r_take 2 (.int .i64 ((k : Int) + (bn : Int))) A434 T430 (g_bin (u := .int .i64 (k : Int)) (k := .int .i64 (bn : Int)) (by kernel_rfl) (by kernel_rfl) (fun _ => by kernel_rfl) (b_add (by omega))) rfl rfl rfl (pf_then (pf_block (pf_then (pf_then (pf_block (pf_then pf_body)))))) (by kernel_rfl) (fun ac A435 => ?_)
              refine r_take 3 (.pointer (some ⟨g397, ((k : Int) + (bn : Int)).toNat, none⟩)) A435 T430 (g_index (u := .pointer (some ⟨g397, 0, none⟩)) (k := .int .i64 ((k : Int) + (bn : Int))) (by kernel_rfl) (by kernel_rfl) (ix_arr1 (((k : Int) + (bn : Int)).toNat) (len := 61) (by kernel_rfl) (by omega) (by omega))) rfl rfl rfl (pf_then (pf_block (pf_then (pf_then (pf_block (pf_then pf_body)))))) (by kernel_rfl) (fun ac A436 => ?_)
              refine r_take 4 (.int .i64 (nthI (sqL (shL (scL (ecP l) g) (bn : Int))) (((k : Int) + (bn : Int)).toNat))) A436 T430 (g_load (g := g397) (off := ((k : Int) + (bn : Int)).toNat) 0 (by kernel_rfl) rfl (rv_of (by kernel_rfl) (ints_get (by rw [(sqL_length _)]; omega)))) rfl rfl rfl (pf_then (pf_block (pf_then (pf_then (pf_block (pf_then pf_body)))))) (by kernel_rfl) (fun ac A437 => ?_)
              refine r_take 5 (.int .i64 g) A437 T430 (g_move (by kernel_rfl)) rfl rfl rfl (pf_then (pf_block (pf_then (pf_then (pf_block (pf_then pf_body)))))) (by kernel_rfl) (fun ac A438 => ?_)
              refine r_take 6 (.int .i64 g) A438 T430 (g_move (by kernel_rfl)) rfl rfl rfl (pf_then (pf_block (pf_then (pf_then (pf_block (pf_then pf_body)))))) (by kernel_rfl) (fun ac A439 => ?_)
              refine r_take 7 (.int .i64 (g * g)) A439 T430 (g_bin (u := .int .i64 g) (k := .int .i64 g) (by kernel_rfl) (by kernel_rfl) (fun _ => by kernel_rfl) (b_mul (by omega))) rfl rfl rfl (pf_then (pf_block (pf_then (pf_then (pf_block (pf_then pf_body)))))) (by kernel_rfl) (fun ac A440 => ?_)
              refine r_take 8 (.int .i64 (k : Int)) A440 T430 (g_move (by kernel_rfl)) rfl rfl rfl (pf_then (pf_block (pf_then (pf_then (pf_block (pf_then pf_body)))))) (by kernel_rfl) (fun ac A441 => ?_)
              refine r_take 9 (.pointer (some ⟨g383, k, none⟩)) A441 T430 (g_index (u := .pointer (some ⟨g383, 0, none⟩)) (k := .int .i64 (k : Int)) (by kernel_rfl) (by kernel_rfl) (ix_arr1 k (len := 61) (by kernel_rfl) (by omega) (by omega))) rfl rfl rfl (pf_then (pf_block (pf_then (pf_then (pf_block (pf_then pf_body)))))) (by kernel_rfl) (fun ac A442 => ?_)
              refine r_take 10 (.int .i64 (nthI (sqL (ecP l)) k)) A442 T430 (g_load (g := g383) (off := k) 1 (by kernel_rfl) rfl (rv_of (by kernel_rfl) (ints_get (by rw [(sqL_length _)]; omega)))) rfl rfl rfl (pf_then (pf_block (pf_then (pf_then (pf_block (pf_then pf_body)))))) (by kernel_rfl) (fun ac A443 => ?_)
              refine r_take 11 (.int .i64 ((g * g) * (nthI (sqL (ecP l)) k))) A443 T430 (g_bin (u := .int .i64 (g * g)) (k := .int .i64 (nthI (sqL (ecP l)) k)) (by kernel_rfl) (by kernel_rfl) (fun _ => by kernel_rfl) (b_mul (by omega))) rfl rfl rfl (pf_then (pf_block (pf_then (pf_then (pf_block (pf_then pf_body)))))) (by kernel_rfl) (fun ac A444 => ?_)
              refine r_take 12 (.bool (decide (nthI (sqL (shL (scL (ecP l) g) (bn : Int))) (((k : Int) + (bn : Int)).toNat) ≠ (g * g) * (nthI (sqL (ecP l)) k)))) A444 T430 (g_bin (u := .int .i64 (nthI (sqL (shL (scL (ecP l) g) (bn : Int))) (((k : Int) + (bn : Int)).toNat))) (k := .int .i64 ((g * g) * (nthI (sqL (ecP l)) k))) (by kernel_rfl) (by kernel_rfl) (fun _ => by kernel_rfl) b_neq) rfl rfl rfl (pf_then (pf_block (pf_then (pf_then (pf_block (pf_then pf_body)))))) (by kernel_rfl) (fun ac A445 => ?_)
              refine r_done (by kernel_rfl) ?_
              refine n_then ?_
              refine c_f (b := (decide (nthI (sqL (shL (scL (ecP l) g) (bn : Int))) (((k : Int) + (bn : Int)).toNat) ≠ (g * g) * (nthI (sqL (ecP l)) k)))) A445 (by kernel_rfl) (decide_eq_false (fun h => h (sq_late2 (by omega)))) ?_
              refine wp_skip ?_
              refine n_block ?_
              refine n_then ?_
              refine wp_region_lit ?_
              refine s_one (.int .i64 (k : Int)) A445 S432 (g_move (by kernel_rfl)) rfl (fun ac A446 => ?_)
              refine s_one (.int .i64 ((k : Int) + 1)) A446 S432 (g_bin (u := .int .i64 (k : Int)) (k := .int .i64 1) (by kernel_rfl) (by kernel_rfl) (fun _ => by kernel_rfl) (b_add (by omega))) rfl (fun ac A447 => ?_)
              refine s_one (.int .i64 ((k : Int) + 1)) A447 S432 (g_assign (by kernel_rfl)) rfl (fun ac A448 => ?_)
              refine wpList_nil ?_
              refine n_then ?_
              refine ⟨_, ⟨k + 1, rfl, by omega, (A448.slot (A448.slot (A448.slot (A448.slot (A448.slot (A448.slot (A448.slot (A448.slot (A448.slot (A448.slot (A448.slot (A448.slot (A448.slot (A448.slot (A448.slot (A448.slot (A448.slot (A448.slot (A448.slot (A448.slot (A448.slot (A448.slot (A448.slot (A448.slot (A448.slot (A448.slot (A448.slot (A448.slot (A448.slot (A448.slot (A448.slot (A448.slot (A448.slot (A448.slot (A448.slot (A448.slot (A448.slot (A448.slot (A448.slot (A448.slot (A448.slot (A448.slot (A448.slot (A448.slot (A448.slot (A448.slot (A448.slot (A448.slot (A448.slot (A448.slot (A448.slot (A448.slot (A448.slot (A448.slot (A448.slot (A448.slot (A448.slot (A448.slot (A448.slot (A448.slot (A448.slot (A448.slot (A448.slot (A448.slot (A448.slot (A448.slot (A448.slot (A448.slot (A448.slot A448.nil (v := .int .i64 ((k : Int) + 1)) (by kernel_rfl) (congrArg (Value.int .i64) (by omega))) (v := .bool (decide (0 ≠ 0))) (by kernel_rfl) rfl) (v := .bool (decide (0 ≠ 0))) (by kernel_rfl) rfl) (v := .int .i64 0) (by kernel_rfl) rfl) (v := .bool (decide (0 ≠ 0))) (by kernel_rfl) rfl) (v := .bool (decide (0 ≠ 0))) (by kernel_rfl) rfl) (v := .bool (decide (0 ≠ 0))) (by kernel_rfl) rfl) (v := .int .i64 0) (by kernel_rfl) rfl) (v := .bool (decide (0 ≠ 0))) (by kernel_rfl) rfl) (v := .bool (decide (0 ≠ 0))) (by kernel_rfl) rfl) (v := .bool (decide (0 ≠ 0))) (by kernel_rfl) rfl) (v := .int .i64 0) (by kernel_rfl) rfl) (v := .bool (decide (0 ≠ 0))) (by kernel_rfl) rfl) (v := .bool (decide (0 ≠ 0))) (by kernel_rfl) rfl) (v := .bool (decide (0 ≠ 0))) (by kernel_rfl) rfl) (v := .int .i64 0) (by kernel_rfl) rfl) (v := .bool (decide (0 ≠ 0))) (by kernel_rfl) rfl) (v := .bool (decide (0 ≠ 0))) (by kernel_rfl) rfl) (v := .int .i64 0) (by kernel_rfl) rfl) (v := .int .i64 0) (by kernel_rfl) rfl) (v := .pointer (some ⟨g397, 0, none⟩)) (by kernel_rfl) rfl) (v := .int .i64 0) (by kernel_rfl) rfl) (v := .agg (ints (sqL (shL (scL (ecP l) g) (bn : Int))))) (by kernel_rfl) rfl) (v := .tuple #[.agg (ints (sqL (shL (scL (ecP l) g) (bn : Int)))), .int .i64 0]) (by kernel_rfl) rfl) (v := .tuple #[.agg (ints (sqL (shL (scL (ecP l) g) (bn : Int)))), .int .i64 0]) (by kernel_rfl) rfl) (v := .agg (trc (mkT (shL (scL (ecP l) g) (bn : Int)) 64))) (by kernel_rfl) rfl) (v := .int .i64 0) (by kernel_rfl) rfl) (v := .pointer (some ⟨g383, 0, none⟩)) (by kernel_rfl) rfl) (v := .int .i64 0) (by kernel_rfl) rfl) (v := .agg (ints (sqL (ecP l)))) (by kernel_rfl) rfl) (v := .tuple #[.agg (ints (sqL (ecP l))), .int .i64 0]) (by kernel_rfl) rfl) (v := .tuple #[.agg (ints (sqL (ecP l))), .int .i64 0]) (by kernel_rfl) rfl) (v := .agg (trc (mkT (ecP l) 64))) (by kernel_rfl) rfl) (v := .int .i64 0) (by kernel_rfl) rfl) (v := .pointer (some ⟨g369, 0, none⟩)) (by kernel_rfl) rfl) (v := .int .i64 0) (by kernel_rfl) rfl) (v := .agg (trc (mkT (shL (scL (ecP l) g) (bn : Int)) 64))) (by kernel_rfl) rfl) (v := .tuple #[.agg (trc (mkT (shL (scL (ecP l) g) (bn : Int)) 64)), .int .i64 0]) (by kernel_rfl) rfl) (v := .tuple #[.agg (trc (mkT (shL (scL (ecP l) g) (bn : Int)) 64)), .int .i64 0]) (by kernel_rfl) rfl) (v := .int .i64 (bn : Int)) (by kernel_rfl) rfl) (v := .agg (trc (mkT (scL (ecP l) g) 64))) (by kernel_rfl) rfl) (v := .int .i64 0) (by kernel_rfl) rfl) (v := .int .i64 0) (by kernel_rfl) rfl) (v := .int .i64 0) (by kernel_rfl) rfl) (v := .int .i64 0) (by kernel_rfl) rfl) (v := .agg (trc (mkT (scL (ecP l) g) 64))) (by kernel_rfl) rfl) (v := .tuple #[.agg (trc (mkT (scL (ecP l) g) 64)), .int .i64 0, .int .i64 0]) (by kernel_rfl) rfl) (v := .tuple #[.agg (trc (mkT (scL (ecP l) g) 64)), .int .i64 0, .int .i64 0]) (by kernel_rfl) rfl) (v := .pointer (some ⟨g343, 0, none⟩)) (by kernel_rfl) rfl) (v := .agg #[.int .i64 g, .int .i64 1]) (by kernel_rfl) rfl) (v := .int .i64 g) (by kernel_rfl) rfl) (v := .agg (trc (mkT (ecP l) 64))) (by kernel_rfl) rfl) (v := .pointer (some ⟨g142, 0, none⟩)) (by kernel_rfl) rfl) (v := .agg (trc (mkT (ecX l) (3 + n)))) (by kernel_rfl) rfl) (v := .slice A136 (3 + n) cap137) (by kernel_rfl) rfl) (v := .bool (decide ((n : Int) < (n : Int)))) (by kernel_rfl) rfl) (v := .int .i64 (n : Int)) (by kernel_rfl) rfl) (v := .slice A n cap) (by kernel_rfl) rfl) (v := .int .i64 (n : Int)) (by kernel_rfl) rfl) (v := .bool (nz l n)) (by kernel_rfl) rfl) (v := .slice A136 (3 + n) cap137) (by kernel_rfl) rfl) (v := .int .i64 (n : Int)) (by kernel_rfl) rfl) (v := .slice (some ⟨g55, 0, none⟩) 3 3) (by kernel_rfl) rfl) (v := .bool ((decide ((n : Int) > 20)) || ((!(inB (bn : Int) 0 20)) || (!(inB g 1 10))))) (by kernel_rfl) rfl) (v := .bool false) (by kernel_rfl) rfl) (v := .bool true) (by kernel_rfl) rfl) (v := .int .i64 g) (by kernel_rfl) rfl) (v := .int .i64 (bn : Int)) (by kernel_rfl) rfl) (v := .slice A n cap) (by kernel_rfl) rfl), S432.sub sub_all sub_all⟩, ?_⟩
              omega
            · have p449 := of_decide_eq_false h428
              refine wp_exit ?_
              refine x_then ?_
              refine x_then ?_
              refine x_hit ?_
              refine n_then ?_
              refine wp_seq ?_
              refine wp_seq ?_
              refine wp_region_lit ?_
              refine s_one (.bool (nz l n)) A427 S422 (g_move (by kernel_rfl)) rfl (fun ac A450 => ?_)
              refine s_one (.bool (!(nz l n))) A450 S422 (g_un (u := .bool (nz l n)) (by kernel_rfl) (fun _ => by kernel_rfl)) rfl (fun ac A451 => ?_)
              refine wpList_nil ?_
              refine n_then ?_
              refine c_ifb (b := (!(nz l n))) A451 (by kernel_rfl) (fun h452 => ?_) (fun h452 => ?_)
              · have h453 : nz l n = false := by simpa using h452
                refine wp_seq ?_
                refine wp_region_lit ?_
                refine s_one (.bool true) A451 S422 (g_assign (by kernel_rfl)) rfl (fun ac A454 => ?_)
                refine wpList_nil ?_
                refine n_then ?_
                refine wp_ret ?_
                refine r_then ?_
                refine fin1 (.bool true) Try.results11 A454 S422 (rv_tmp (by kernel_rfl)) ⟨?_, S422.kp⟩
                rfl
              · have h455 : nz l n = true := by simpa using h452
                have hnz := h455
                refine wp_skip ?_
                refine n_then ?_
                refine wp_seq ?_
                have q3 := peak_bd sp 30
                have q4 := mul_bd (x := g * g) (y := (peakOf (ecP l) 0 30).2) (a := 100) (b := 33521672) (by omega) (by omega) (by omega) (by omega)
                have ek := ec_peak (g := g) (b := bn) hn (by omega) hg.1 (by omega) hnz
                have eg := ec_lag (g := g) (b := bn) (by omega) (fun i hi => ecP_far hn (by omega) hi) hg.1 (ec_some hn (by omega) hnz)
                refine wp_region_lit ?_
                refine s_one (.agg (trc (mkT (ecP l) 64))) A451 S422 (g_loadW (g := g142) 4 (by kernel_rfl) rfl ((trc_size _).trans (mkT_length _ _)) ⟨⟨_, Try.underlying26, rfl⟩, by kernel_rfl⟩) rfl (fun ac A456 => ?_)
                refine s_one (.agg #[.int .i64 0, .int .i64 30]) A456 S422 (g_build (r := [(1, .int .i64 30)]) (by kernel_rfl) (fun _ => by kernel_rfl)) rfl (fun ac A457 => ?_)
                refine s_call (fs := #[]) (cp := #[]) (r := [(0, .agg (trc (mkT (ecP l) 64))), (0, .agg #[.int .i64 0, .int .i64 30])]) #[.agg (trc (mkT (ecP l) 64)), .agg #[.int .i64 0, .int .i64 30]] (.tuple #[.agg #[.int .i64 ((peakOf (ecP l) 0 30).1), .int .i64 ((peakOf (ecP l) 0 30).2)], .int .i64 0]) A457 S422 (PeakIn_30 (ecP l) _ (ecP_length _) sp) Try.call23 (by kernel_rfl) (by kernel_rfl) (by kernel_rfl) rfl (fun ac wc A458 S459 => ?_)
                refine s_one (.tuple #[.agg #[.int .i64 ((peakOf (ecP l) 0 30).1), .int .i64 ((peakOf (ecP l) 0 30).2)], .int .i64 0]) A458 S459 (g_move (by kernel_rfl)) rfl (fun ac A461 => ?_)
                refine s_one (.agg #[.int .i64 ((peakOf (ecP l) 0 30).1), .int .i64 ((peakOf (ecP l) 0 30).2)]) A461 S459 (g_extract (u := .tuple #[.agg #[.int .i64 ((peakOf (ecP l) 0 30).1), .int .i64 ((peakOf (ecP l) 0 30).2)], .int .i64 0]) (by kernel_rfl) (fun _ => by kernel_rfl)) rfl (fun ac A462 => ?_)
                refine s_one (.int .i64 0) A462 S459 (g_extract (u := .tuple #[.agg #[.int .i64 ((peakOf (ecP l) 0 30).1), .int .i64 ((peakOf (ecP l) 0 30).2)], .int .i64 0]) (by kernel_rfl) (fun _ => by kernel_rfl)) rfl (fun ac A463 => ?_)
                refine s_alloc (#[.int .i64 0, .int .i64 0]) A463 S459 (by kernel_rfl) rfl (fun g466 ac wc A464 S465 => ?_)
                refine s_store (g := g466) (off := 0) (v := .agg #[.int .i64 ((peakOf (ecP l) 0 30).1), .int .i64 ((peakOf (ecP l) 0 30).2)]) 0 (#[.int .i64 ((peakOf (ecP l) 0 30).1), .int .i64 ((peakOf (ecP l) 0 30).2)]) A464 S465 (by kernel_rfl) (by kernel_rfl) rfl (by kernel_rfl) (fun wc S468 => ?_)
                refine s_one (.int .i64 0) A464 S468 (g_assign (by kernel_rfl)) rfl (fun ac A470 => ?_)
                refine wpList_nil ?_
                refine n_then ?_
                refine wp_seq ?_
                refine wp_region_lit ?_
                refine s_one (.agg (trc (mkT (shL (scL (ecP l) g) (bn : Int)) 64))) A470 S468 (g_loadW (g := g369) 3 (by kernel_rfl) rfl ((trc_size _).trans (mkT_length _ _)) ⟨⟨_, Try.underlying26, rfl⟩, by kernel_rfl⟩) rfl (fun ac A471 => ?_)
                refine s_one (.agg #[.int .i64 0, .int .i64 60]) A471 S468 (g_build (r := [(1, .int .i64 60)]) (by kernel_rfl) (fun _ => by kernel_rfl)) rfl (fun ac A472 => ?_)
                refine s_call (fs := #[]) (cp := #[]) (r := [(0, .agg (trc (mkT (shL (scL (ecP l) g) (bn : Int)) 64))), (0, .agg #[.int .i64 0, .int .i64 60])]) #[.agg (trc (mkT (shL (scL (ecP l) g) (bn : Int)) 64)), .agg #[.int .i64 0, .int .i64 60]] (.tuple #[.agg #[.int .i64 ((peakOf (shL (scL (ecP l) g) (bn : Int)) 0 60).1), .int .i64 ((peakOf (shL (scL (ecP l) g) (bn : Int)) 0 60).2)], .int .i64 0]) A472 S468 (PeakIn_60 (shL (scL (ecP l) g) (bn : Int)) _ (shL_length _ _) ss) Try.call23 (by kernel_rfl) (by kernel_rfl) (by kernel_rfl) rfl (fun ac wc A473 S474 => ?_)
                refine s_one (.tuple #[.agg #[.int .i64 ((peakOf (shL (scL (ecP l) g) (bn : Int)) 0 60).1), .int .i64 ((peakOf (shL (scL (ecP l) g) (bn : Int)) 0 60).2)], .int .i64 0]) A473 S474 (g_move (by kernel_rfl)) rfl (fun ac A476 => ?_)
                refine s_one (.agg #[.int .i64 ((peakOf (shL (scL (ecP l) g) (bn : Int)) 0 60).1), .int .i64 ((peakOf (shL (scL (ecP l) g) (bn : Int)) 0 60).2)]) A476 S474 (g_extract (u := .tuple #[.agg #[.int .i64 ((peakOf (shL (scL (ecP l) g) (bn : Int)) 0 60).1), .int .i64 ((peakOf (shL (scL (ecP l) g) (bn : Int)) 0 60).2)], .int .i64 0]) (by kernel_rfl) (fun _ => by kernel_rfl)) rfl (fun ac A477 => ?_)
                refine s_one (.int .i64 0) A477 S474 (g_extract (u := .tuple #[.agg #[.int .i64 ((peakOf (shL (scL (ecP l) g) (bn : Int)) 0 60).1), .int .i64 ((peakOf (shL (scL (ecP l) g) (bn : Int)) 0 60).2)], .int .i64 0]) (by kernel_rfl) (fun _ => by kernel_rfl)) rfl (fun ac A478 => ?_)
                refine s_alloc (#[.int .i64 0, .int .i64 0]) A478 S474 (by kernel_rfl) rfl (fun g481 ac wc A479 S480 => ?_)
                refine s_store (g := g481) (off := 0) (v := .agg #[.int .i64 ((peakOf (shL (scL (ecP l) g) (bn : Int)) 0 60).1), .int .i64 ((peakOf (shL (scL (ecP l) g) (bn : Int)) 0 60).2)]) 0 (#[.int .i64 ((peakOf (shL (scL (ecP l) g) (bn : Int)) 0 60).1), .int .i64 ((peakOf (shL (scL (ecP l) g) (bn : Int)) 0 60).2)]) A479 S480 (by kernel_rfl) (by kernel_rfl) rfl (by kernel_rfl) (fun wc S483 => ?_)
                refine s_one (.int .i64 0) A479 S483 (g_assign (by kernel_rfl)) rfl (fun ac A485 => ?_)
                refine wpList_nil ?_
                refine n_then ?_
                refine wp_seq ?_
                refine wp_region_lit ?_
                refine s_one (.agg (trc (mkT (ecP l) 64))) A485 S483 (g_loadW (g := g142) 6 (by kernel_rfl) rfl ((trc_size _).trans (mkT_length _ _)) ⟨⟨_, Try.underlying26, rfl⟩, by kernel_rfl⟩) rfl (fun ac A486 => ?_)
                refine s_one (.agg (trc (mkT (shL (scL (ecP l) g) (bn : Int)) 64))) A486 S483 (g_loadW (g := g369) 4 (by kernel_rfl) rfl ((trc_size _).trans (mkT_length _ _)) ⟨⟨_, Try.underlying26, rfl⟩, by kernel_rfl⟩) rfl (fun ac A487 => ?_)
                refine s_call (fs := #[]) (cp := #[]) (r := [(0, .agg (trc (mkT (ecP l) 64))), (0, .agg (trc (mkT (shL (scL (ecP l) g) (bn : Int)) 64))), (0, .int .i64 25)]) #[.agg (trc (mkT (ecP l) 64)), .agg (trc (mkT (shL (scL (ecP l) g) (bn : Int)) 64)), .int .i64 25] (.tuple #[.int .i64 (lagOf (ecP l) (shL (scL (ecP l) g) (bn : Int)) 25), .int .i64 0]) A487 S483 (LagOf_mk (ecP l) (shL (scL (ecP l) g) (bn : Int)) _ (ecP_length _) sp (shL_length _ _) ss) Try.call28 (by kernel_rfl) (by kernel_rfl) (by kernel_rfl) rfl (fun ac wc A488 S489 => ?_)
                refine s_one (.tuple #[.int .i64 (lagOf (ecP l) (shL (scL (ecP l) g) (bn : Int)) 25), .int .i64 0]) A488 S489 (g_move (by kernel_rfl)) rfl (fun ac A491 => ?_)
                refine s_one (.int .i64 (lagOf (ecP l) (shL (scL (ecP l) g) (bn : Int)) 25)) A491 S489 (g_extract (u := .tuple #[.int .i64 (lagOf (ecP l) (shL (scL (ecP l) g) (bn : Int)) 25), .int .i64 0]) (by kernel_rfl) (fun _ => by kernel_rfl)) rfl (fun ac A492 => ?_)
                refine s_one (.int .i64 0) A492 S489 (g_extract (u := .tuple #[.int .i64 (lagOf (ecP l) (shL (scL (ecP l) g) (bn : Int)) 25), .int .i64 0]) (by kernel_rfl) (fun _ => by kernel_rfl)) rfl (fun ac A493 => ?_)
                refine s_one (.int .i64 (lagOf (ecP l) (shL (scL (ecP l) g) (bn : Int)) 25)) A493 S489 (g_assign (by kernel_rfl)) rfl (fun ac A494 => ?_)
                refine s_one (.int .i64 0) A494 S489 (g_assign (by kernel_rfl)) rfl (fun ac A495 => ?_)
                refine wpList_nil ?_
                refine n_then ?_
                refine wp_seq ?_
                refine wp_region_lit ?_
                refine s_one (.int .i64 0) A495 S489 (g_move (by kernel_rfl)) rfl (fun ac A496 => ?_)
                refine s_one (.bool (decide (0 = 0))) A496 S489 (g_bin (u := .int .i64 0) (k := .int .i64 0) (by kernel_rfl) (by kernel_rfl) (fun _ => by kernel_rfl) b_eql) rfl (fun ac A497 => ?_)
                refine s_one (.bool (decide (0 = 0))) A497 S489 (g_move (by kernel_rfl)) rfl (fun ac A498 => ?_)
                refine s_want (dj := 155) (b := (decide (0 = 0))) A498 (by kernel_rfl) (by kernel_rfl) (by decide) ?_
                refine s_one (.int .i64 0) A498 S489 (g_move (by kernel_rfl)) rfl (fun ac A499 => ?_)
                refine s_want (dj := 155) (b := (decide (0 = 0))) A499 (by kernel_rfl) (by kernel_rfl) (by decide) ?_
                refine s_one (.bool (decide (0 = 0))) A499 S489 (g_bin (u := .int .i64 0) (k := .int .i64 0) (by kernel_rfl) (by kernel_rfl) (fun _ => by kernel_rfl) b_eql) rfl (fun ac A500 => ?_)
                refine s_one (.bool (decide (0 = 0))) A500 S489 (g_pick_t (b := (decide (0 = 0))) (by kernel_rfl) (by decide) (by kernel_rfl)) rfl (fun ac A501 => ?_)
                refine s_one (.bool (decide (0 = 0))) A501 S489 (g_move (by kernel_rfl)) rfl (fun ac A502 => ?_)
                refine s_want (dj := 159) (b := (decide (0 = 0))) A502 (by kernel_rfl) (by kernel_rfl) (by decide) ?_
                refine s_one (.agg #[.int .i64 ((peakOf (shL (scL (ecP l) g) (bn : Int)) 0 60).1), .int .i64 ((peakOf (shL (scL (ecP l) g) (bn : Int)) 0 60).2)]) A502 S489 (g_load (g := g481) (off := 0) 0 (by kernel_rfl) rfl (by kernel_rfl)) rfl (fun ac A503 => ?_)
                refine s_want (dj := 159) (b := (decide (0 = 0))) A503 (by kernel_rfl) (by kernel_rfl) (by decide) ?_
                refine s_one (.pointer (some ⟨g466, 0, none⟩)) A503 S489 (g_field (u := .pointer (some ⟨g466, 0, none⟩)) (by kernel_rfl) (fun _ => by kernel_rfl)) rfl (fun ac A504 => ?_)
                refine s_want (dj := 159) (b := (decide (0 = 0))) A504 (by kernel_rfl) (by kernel_rfl) (by decide) ?_
                refine s_one (.int .i64 ((peakOf (ecP l) 0 30).1)) A504 S489 (g_load (g := g466) (off := 0) 1 (by kernel_rfl) rfl (by kernel_rfl)) rfl (fun ac A505 => ?_)
                refine s_want (dj := 159) (b := (decide (0 = 0))) A505 (by kernel_rfl) (by kernel_rfl) (by decide) ?_
                refine s_one (.int .i64 (bn : Int)) A505 S489 (g_move (by kernel_rfl)) rfl (fun ac A506 => ?_)
                refine s_want (dj := 159) (b := (decide (0 = 0))) A506 (by kernel_rfl) (by kernel_rfl) (by decide) ?_
                refine s_one (.int .i64 ((peakOf (ecP l) 0 30).1 + (bn : Int))) A506 S489 (g_bin (u := .int .i64 ((peakOf (ecP l) 0 30).1)) (k := .int .i64 (bn : Int)) (by kernel_rfl) (by kernel_rfl) (fun _ => by kernel_rfl) (b_add (by omega))) rfl (fun ac A507 => ?_)
                refine s_want (dj := 159) (b := (decide (0 = 0))) A507 (by kernel_rfl) (by kernel_rfl) (by decide) ?_
                refine s_one (.int .i64 g) A507 S489 (g_move (by kernel_rfl)) rfl (fun ac A508 => ?_)
                refine s_want (dj := 159) (b := (decide (0 = 0))) A508 (by kernel_rfl) (by kernel_rfl) (by decide) ?_
                refine s_one (.int .i64 g) A508 S489 (g_move (by kernel_rfl)) rfl (fun ac A509 => ?_)
                refine s_want (dj := 159) (b := (decide (0 = 0))) A509 (by kernel_rfl) (by kernel_rfl) (by decide) ?_
                refine s_one (.int .i64 (g * g)) A509 S489 (g_bin (u := .int .i64 g) (k := .int .i64 g) (by kernel_rfl) (by kernel_rfl) (fun _ => by kernel_rfl) (b_mul (by omega))) rfl (fun ac A510 => ?_)
                refine s_want (dj := 159) (b := (decide (0 = 0))) A510 (by kernel_rfl) (by kernel_rfl) (by decide) ?_
                refine s_one (.pointer (some ⟨g466, 1, none⟩)) A510 S489 (g_field (u := .pointer (some ⟨g466, 0, none⟩)) (by kernel_rfl) (fun _ => by kernel_rfl)) rfl (fun ac A511 => ?_)
                refine s_want (dj := 159) (b := (decide (0 = 0))) A511 (by kernel_rfl) (by kernel_rfl) (by decide) ?_
                refine s_one (.int .i64 ((peakOf (ecP l) 0 30).2)) A511 S489 (g_load (g := g466) (off := 1) 1 (by kernel_rfl) rfl (by kernel_rfl)) rfl (fun ac A512 => ?_)
                refine s_want (dj := 159) (b := (decide (0 = 0))) A512 (by kernel_rfl) (by kernel_rfl) (by decide) ?_
                refine s_one (.int .i64 ((g * g) * ((peakOf (ecP l) 0 30).2))) A512 S489 (g_bin (u := .int .i64 (g * g)) (k := .int .i64 ((peakOf (ecP l) 0 30).2)) (by kernel_rfl) (by kernel_rfl) (fun _ => by kernel_rfl) (b_mul (by omega))) rfl (fun ac A513 => ?_)
                refine s_want (dj := 159) (b := (decide (0 = 0))) A513 (by kernel_rfl) (by kernel_rfl) (by decide) ?_
                refine s_one (.agg #[.int .i64 ((peakOf (ecP l) 0 30).1 + (bn : Int)), .int .i64 ((g * g) * ((peakOf (ecP l) 0 30).2))]) A513 S489 (g_build (r := [(0, .int .i64 ((peakOf (ecP l) 0 30).1 + (bn : Int))), (1, .int .i64 ((g * g) * ((peakOf (ecP l) 0 30).2)))]) (by kernel_rfl) (fun _ => by kernel_rfl)) rfl (fun ac A514 => ?_)
                refine s_want (dj := 159) (b := (decide (0 = 0))) A514 (by kernel_rfl) (by kernel_rfl) (by decide) ?_
                refine s_one (.bool (decide ([(peakOf (shL (scL (ecP l) g) (bn : Int)) 0 60).1, (peakOf (shL (scL (ecP l) g) (bn : Int)) 0 60).2] = [(peakOf (ecP l) 0 30).1 + (bn : Int), (g * g) * ((peakOf (ecP l) 0 30).2)]))) A514 S489 (g_bin (u := .agg #[.int .i64 ((peakOf (shL (scL (ecP l) g) (bn : Int)) 0 60).1), .int .i64 ((peakOf (shL (scL (ecP l) g) (bn : Int)) 0 60).2)]) (k := .agg #[.int .i64 ((peakOf (ecP l) 0 30).1 + (bn : Int)), .int .i64 ((g * g) * ((peakOf (ecP l) 0 30).2))]) (by kernel_rfl) (by kernel_rfl) (fun _ => by kernel_rfl) (q_struct (n := 2) [(peakOf (shL (scL (ecP l) g) (bn : Int)) 0 60).1, (peakOf (shL (scL (ecP l) g) (bn : Int)) 0 60).2] [(peakOf (ecP l) 0 30).1 + (bn : Int), (g * g) * ((peakOf (ecP l) 0 30).2)] (by kernel_rfl) rfl rfl)) rfl (fun ac A515 => ?_)
                refine s_one (.bool (decide ([(peakOf (shL (scL (ecP l) g) (bn : Int)) 0 60).1, (peakOf (shL (scL (ecP l) g) (bn : Int)) 0 60).2] = [(peakOf (ecP l) 0 30).1 + (bn : Int), (g * g) * ((peakOf (ecP l) 0 30).2)]))) A515 S489 (g_pick_t (b := (decide (0 = 0))) (by kernel_rfl) (by decide) (by kernel_rfl)) rfl (fun ac A516 => ?_)
                refine s_one (.bool (decide ([(peakOf (shL (scL (ecP l) g) (bn : Int)) 0 60).1, (peakOf (shL (scL (ecP l) g) (bn : Int)) 0 60).2] = [(peakOf (ecP l) 0 30).1 + (bn : Int), (g * g) * ((peakOf (ecP l) 0 30).2)]))) A516 S489 (g_move (by kernel_rfl)) rfl (fun ac A517 => ?_)
                refine s_want (dj := 174) (b := (decide ([(peakOf (shL (scL (ecP l) g) (bn : Int)) 0 60).1, (peakOf (shL (scL (ecP l) g) (bn : Int)) 0 60).2] = [(peakOf (ecP l) 0 30).1 + (bn : Int), (g * g) * ((peakOf (ecP l) 0 30).2)]))) A517 (by kernel_rfl) (by kernel_rfl) (decide_eq_true (by rw [ek])) ?_
                refine s_one (.int .i64 0) A517 S489 (g_move (by kernel_rfl)) rfl (fun ac A518 => ?_)
                refine s_want (dj := 174) (b := (decide ([(peakOf (shL (scL (ecP l) g) (bn : Int)) 0 60).1, (peakOf (shL (scL (ecP l) g) (bn : Int)) 0 60).2] = [(peakOf (ecP l) 0 30).1 + (bn : Int), (g * g) * ((peakOf (ecP l) 0 30).2)]))) A518 (by kernel_rfl) (by kernel_rfl) (decide_eq_true (by rw [ek])) ?_
                refine s_one (.bool (decide (0 = 0))) A518 S489 (g_bin (u := .int .i64 0) (k := .int .i64 0) (by kernel_rfl) (by kernel_rfl) (fun _ => by kernel_rfl) b_eql) rfl (fun ac A519 => ?_)
                refine s_one (.bool (decide (0 = 0))) A519 S489 (g_pick_t (b := (decide ([(peakOf (shL (scL (ecP l) g) (bn : Int)) 0 60).1, (peakOf (shL (scL (ecP l) g) (bn : Int)) 0 60).2] = [(peakOf (ecP l) 0 30).1 + (bn : Int), (g * g) * ((peakOf (ecP l) 0 30).2)]))) (by kernel_rfl) (decide_eq_true (by rw [ek])) (by kernel_rfl)) rfl (fun ac A520 => ?_)
                refine s_one (.bool (decide (0 = 0))) A520 S489 (g_move (by kernel_rfl)) rfl (fun ac A521 => ?_)
                refine s_want (dj := 178) (b := (decide (0 = 0))) A521 (by kernel_rfl) (by kernel_rfl) (by decide) ?_
                refine s_one (.int .i64 (lagOf (ecP l) (shL (scL (ecP l) g) (bn : Int)) 25)) A521 S489 (g_move (by kernel_rfl)) rfl (fun ac A522 => ?_)
                refine s_want (dj := 178) (b := (decide (0 = 0))) A522 (by kernel_rfl) (by kernel_rfl) (by decide) ?_
                refine s_one (.int .i64 (bn : Int)) A522 S489 (g_move (by kernel_rfl)) rfl (fun ac A523 => ?_)
                refine s_want (dj := 178) (b := (decide (0 = 0))) A523 (by kernel_rfl) (by kernel_rfl) (by decide) ?_
                refine s_one (.bool (decide (lagOf (ecP l) (shL (scL (ecP l) g) (bn : Int)) 25 = (bn : Int)))) A523 S489 (g_bin (u := .int .i64 (lagOf (ecP l) (shL (scL (ecP l) g) (bn : Int)) 25)) (k := .int .i64 (bn : Int)) (by kernel_rfl) (by kernel_rfl) (fun _ => by kernel_rfl) b_eql) rfl (fun ac A524 => ?_)
                refine s_one (.bool (decide (lagOf (ecP l) (shL (scL (ecP l) g) (bn : Int)) 25 = (bn : Int)))) A524 S489 (g_pick_t (b := (decide (0 = 0))) (by kernel_rfl) (by decide) (by kernel_rfl)) rfl (fun ac A525 => ?_)
                refine s_one (.bool (decide (lagOf (ecP l) (shL (scL (ecP l) g) (bn : Int)) 25 = (bn : Int)))) A525 S489 (g_assign (by kernel_rfl)) rfl (fun ac A526 => ?_)
                refine wpList_nil ?_
                refine n_then ?_
                refine wp_ret ?_
                refine fin1 (.bool (decide (lagOf (ecP l) (shL (scL (ecP l) g) (bn : Int)) 25 = (bn : Int)))) Try.results11 A526 S489 (rv_tmp (by kernel_rfl)) ⟨?_, S489.kp⟩
                exact congrArg (fun b => Ending.returned (Value.bool b)) (decide_eq_true eg)
        · refine rs_alloc (trc zT) A150 S148 sub_all sub_all zero26 rfl rfl rfl (fun g529 ac wc A527 S528 => ?_)
          have T530 := S528.sub (sub_skip sub_all) sub_all
          refine r_1 (i := 2) (by kernel_rfl) ?_
          refine rs_call (fs := #[]) (cp := #[]) (r := [(0, .int .i64 g)]) #[.int .i64 g] (.agg #[.int .i64 g, .int .i64 1]) A527 S528 (sub_skip sub_all) sub_all (Whole_s g _) Try.call44 rfl rfl (by kernel_rfl) (by kernel_rfl) (by kernel_rfl) rfl (fun ac wc A531 S532 => ?_)
          have T534 := S532.sub (sub_skip sub_all) sub_all
          refine r_1 (i := 3) (by kernel_rfl) ?_
          refine rs_call (fs := #[]) (cp := #[]) (r := [(0, .agg (trc (mkT (ecP l) 64))), (0, .agg #[.int .i64 g, .int .i64 1])]) #[.agg (trc (mkT (ecP l) 64)), .agg #[.int .i64 g, .int .i64 1]] (.tuple #[.agg (trc (mkT (scL (ecP l) g) 64)), .int .i64 0, .int .i64 0]) A531 S532 (sub_skip sub_all) sub_all (Gained_e g _ hn hl hg.1 hg.2) Try.call40 rfl rfl (by kernel_rfl) (by kernel_rfl) (by kernel_rfl) rfl (fun ac wc A535 S536 => ?_)
          have T538 := S536.sub (sub_skip sub_all) sub_all
          refine r_take 4 (.tuple #[.agg (trc (mkT (scL (ecP l) g) 64)), .int .i64 0, .int .i64 0]) A535 T538 (g_move (by kernel_rfl)) rfl rfl rfl (pf_then pf_body) (by kernel_rfl) (fun ac A539 => ?_)
          refine r_take 5 (.agg (trc (mkT (scL (ecP l) g) 64))) A539 T538 (g_extract (u := .tuple #[.agg (trc (mkT (scL (ecP l) g) 64)), .int .i64 0, .int .i64 0]) (by kernel_rfl) (fun _ => by kernel_rfl)) rfl rfl rfl (pf_then pf_body) (by kernel_rfl) (fun ac A540 => ?_)
          refine r_take 6 (.int .i64 0) A540 T538 (g_extract (u := .tuple #[.agg (trc (mkT (scL (ecP l) g) 64)), .int .i64 0, .int .i64 0]) (by kernel_rfl) (fun _ => by kernel_rfl)) rfl rfl rfl (pf_then pf_body) (by kernel_rfl) (fun ac A541 => ?_)
          refine r_take 7 (.int .i64 0) A541 T538 (g_extract (u := .tuple #[.agg (trc (mkT (scL (ecP l) g) 64)), .int .i64 0, .int .i64 0]) (by kernel_rfl) (fun _ => by kernel_rfl)) rfl rfl rfl (pf_then pf_body) (by kernel_rfl) (fun ac A542 => ?_)
          refine r_1 (i := 9) (by kernel_rfl) ?_
          refine rs_store (g := g529) (off := 0) (v := .agg (trc (mkT (scL (ecP l) g) 64))) 0 (trc (mkT (scL (ecP l) g) 64)) A542 S536 (sub_skip sub_all) sub_all (by kernel_rfl) (by kernel_rfl) rfl (putVal_whole ((trc_size _).trans zT_length) ((trc_size _).trans (mkT_length _ _)) ⟨⟨_, Try.underlying26, rfl⟩, by kernel_rfl⟩ (trc_one _)) rfl rfl (fun wc S544 => ?_)
          have T546 := S544.sub (sub_skip sub_all) sub_all
          refine r_take 10 (.int .i64 0) A542 T546 (g_assign (by kernel_rfl)) rfl rfl rfl (pf_then pf_body) (by kernel_rfl) (fun ac A547 => ?_)
          refine r_take 11 (.int .i64 0) A547 T546 (g_assign (by kernel_rfl)) rfl rfl rfl (pf_then pf_body) (by kernel_rfl) (fun ac A548 => ?_)
          refine r_done (by kernel_rfl) ?_
          refine n_then ?_
          refine wp_seq ?_
          refine wp_region_lit ?_
          refine s_one (.agg (trc (mkT (scL (ecP l) g) 64))) A548 S544 (g_loadW (g := g529) 0 (by kernel_rfl) rfl ((trc_size _).trans (mkT_length _ _)) ⟨⟨_, Try.underlying26, rfl⟩, by kernel_rfl⟩) rfl (fun ac A549 => ?_)
          refine s_one (.int .i64 (bn : Int)) A549 S544 (g_move (by kernel_rfl)) rfl (fun ac A550 => ?_)
          refine s_call (fs := #[]) (cp := #[]) (r := [(0, .agg (trc (mkT (scL (ecP l) g) 64))), (0, .int .i64 (bn : Int))]) #[.agg (trc (mkT (scL (ecP l) g) 64)), .int .i64 (bn : Int)] (.tuple #[.agg (trc (mkT (shL (scL (ecP l) g) (bn : Int)) 64)), .int .i64 0]) A550 S544 (Shifted_mk (scL (ecP l) g) (bn : Int) _ (scL_length _ _) sc (inB_true.2 (by omega))) Try.call30 (by kernel_rfl) (by kernel_rfl) (by kernel_rfl) rfl (fun ac wc A551 S552 => ?_)
          refine s_one (.tuple #[.agg (trc (mkT (shL (scL (ecP l) g) (bn : Int)) 64)), .int .i64 0]) A551 S552 (g_move (by kernel_rfl)) rfl (fun ac A554 => ?_)
          refine s_one (.agg (trc (mkT (shL (scL (ecP l) g) (bn : Int)) 64))) A554 S552 (g_extract (u := .tuple #[.agg (trc (mkT (shL (scL (ecP l) g) (bn : Int)) 64)), .int .i64 0]) (by kernel_rfl) (fun _ => by kernel_rfl)) rfl (fun ac A555 => ?_)
          refine s_one (.int .i64 0) A555 S552 (g_extract (u := .tuple #[.agg (trc (mkT (shL (scL (ecP l) g) (bn : Int)) 64)), .int .i64 0]) (by kernel_rfl) (fun _ => by kernel_rfl)) rfl (fun ac A556 => ?_)
          refine s_alloc (trc zT) A556 S552 zero26 rfl (fun g559 ac wc A557 S558 => ?_)
          refine s_store (g := g559) (off := 0) (v := .agg (trc (mkT (shL (scL (ecP l) g) (bn : Int)) 64))) 0 (trc (mkT (shL (scL (ecP l) g) (bn : Int)) 64)) A557 S558 (by kernel_rfl) (by kernel_rfl) rfl (putVal_whole ((trc_size _).trans zT_length) ((trc_size _).trans (mkT_length _ _)) ⟨⟨_, Try.underlying26, rfl⟩, by kernel_rfl⟩ (trc_one _)) (fun wc S561 => ?_)
          refine s_one (.int .i64 0) A557 S561 (g_assign (by kernel_rfl)) rfl (fun ac A563 => ?_)
          refine wpList_nil ?_
          refine n_then ?_
          refine wp_seq ?_
          refine wp_region_lit ?_
          refine s_one (.agg (trc (mkT (ecP l) 64))) A563 S561 (g_loadW (g := g142) 2 (by kernel_rfl) rfl ((trc_size _).trans (mkT_length _ _)) ⟨⟨_, Try.underlying26, rfl⟩, by kernel_rfl⟩) rfl (fun ac A564 => ?_)
          refine s_call (fs := #[]) (cp := #[]) (r := [(0, .agg (trc (mkT (ecP l) 64)))]) #[.agg (trc (mkT (ecP l) 64))] (.tuple #[.agg (ints (sqL (ecP l))), .int .i64 0]) A564 S561 (Envelope_mk (ecP l) _ (ecP_length _) sp) Try.call18 (by kernel_rfl) (by kernel_rfl) (by kernel_rfl) rfl (fun ac wc A565 S566 => ?_)
          refine s_one (.tuple #[.agg (ints (sqL (ecP l))), .int .i64 0]) A565 S566 (g_move (by kernel_rfl)) rfl (fun ac A568 => ?_)
          refine s_one (.agg (ints (sqL (ecP l)))) A568 S566 (g_extract (u := .tuple #[.agg (ints (sqL (ecP l))), .int .i64 0]) (by kernel_rfl) (fun _ => by kernel_rfl)) rfl (fun ac A569 => ?_)
          refine s_one (.int .i64 0) A569 S566 (g_extract (u := .tuple #[.agg (ints (sqL (ecP l))), .int .i64 0]) (by kernel_rfl) (fun _ => by kernel_rfl)) rfl (fun ac A570 => ?_)
          refine s_alloc (ints (List.replicate 61 0)) A570 S566 zero61 rfl (fun g573 ac wc A571 S572 => ?_)
          refine s_store (g := g573) (off := 0) (v := .agg (ints (sqL (ecP l)))) 0 (ints (sqL (ecP l))) A571 S572 (by kernel_rfl) (by kernel_rfl) rfl (putVal_whole ((ints_size _).trans List.length_replicate) ((ints_size _).trans (sqL_length _)) ⟨⟨_, Try.underlying39, rfl⟩, by kernel_rfl⟩ (ints_one _)) (fun wc S575 => ?_)
          refine s_one (.int .i64 0) A571 S575 (g_assign (by kernel_rfl)) rfl (fun ac A577 => ?_)
          refine wpList_nil ?_
          refine n_then ?_
          refine wp_seq ?_
          refine wp_region_lit ?_
          refine s_one (.agg (trc (mkT (shL (scL (ecP l) g) (bn : Int)) 64))) A577 S575 (g_loadW (g := g559) 1 (by kernel_rfl) rfl ((trc_size _).trans (mkT_length _ _)) ⟨⟨_, Try.underlying26, rfl⟩, by kernel_rfl⟩) rfl (fun ac A578 => ?_)
          refine s_call (fs := #[]) (cp := #[]) (r := [(0, .agg (trc (mkT (shL (scL (ecP l) g) (bn : Int)) 64)))]) #[.agg (trc (mkT (shL (scL (ecP l) g) (bn : Int)) 64))] (.tuple #[.agg (ints (sqL (shL (scL (ecP l) g) (bn : Int)))), .int .i64 0]) A578 S575 (Envelope_mk (shL (scL (ecP l) g) (bn : Int)) _ (shL_length _ _) ss) Try.call18 (by kernel_rfl) (by kernel_rfl) (by kernel_rfl) rfl (fun ac wc A579 S580 => ?_)
          refine s_one (.tuple #[.agg (ints (sqL (shL (scL (ecP l) g) (bn : Int)))), .int .i64 0]) A579 S580 (g_move (by kernel_rfl)) rfl (fun ac A582 => ?_)
          refine s_one (.agg (ints (sqL (shL (scL (ecP l) g) (bn : Int))))) A582 S580 (g_extract (u := .tuple #[.agg (ints (sqL (shL (scL (ecP l) g) (bn : Int)))), .int .i64 0]) (by kernel_rfl) (fun _ => by kernel_rfl)) rfl (fun ac A583 => ?_)
          refine s_one (.int .i64 0) A583 S580 (g_extract (u := .tuple #[.agg (ints (sqL (shL (scL (ecP l) g) (bn : Int)))), .int .i64 0]) (by kernel_rfl) (fun _ => by kernel_rfl)) rfl (fun ac A584 => ?_)
          refine s_alloc (ints (List.replicate 61 0)) A584 S580 zero61 rfl (fun g587 ac wc A585 S586 => ?_)
          refine s_store (g := g587) (off := 0) (v := .agg (ints (sqL (shL (scL (ecP l) g) (bn : Int))))) 0 (ints (sqL (shL (scL (ecP l) g) (bn : Int)))) A585 S586 (by kernel_rfl) (by kernel_rfl) rfl (putVal_whole ((ints_size _).trans List.length_replicate) ((ints_size _).trans (sqL_length _)) ⟨⟨_, Try.underlying39, rfl⟩, by kernel_rfl⟩ (ints_one _)) (fun wc S589 => ?_)
          refine s_one (.int .i64 0) A585 S589 (g_assign (by kernel_rfl)) rfl (fun ac A591 => ?_)
          refine wpList_nil ?_
          refine n_then ?_
          refine wp_seq ?_
          refine wp_seq ?_
          refine wp_region_lit ?_
          refine s_one (.int .i64 0) A591 S589 (g_move (by kernel_rfl)) rfl (fun ac A592 => ?_)
          refine s_one (.bool (decide (0 ≠ 0))) A592 S589 (g_bin (u := .int .i64 0) (k := .int .i64 0) (by kernel_rfl) (by kernel_rfl) (fun _ => by kernel_rfl) b_neq) rfl (fun ac A593 => ?_)
          refine s_one (.bool (decide (0 ≠ 0))) A593 S589 (g_move (by kernel_rfl)) rfl (fun ac A594 => ?_)
          refine s_want (dj := 98) (b := (decide (0 ≠ 0))) A594 (by kernel_rfl) (by kernel_rfl) (by decide) ?_
          refine s_one (.int .i64 0) A594 S589 (g_move (by kernel_rfl)) rfl (fun ac A595 => ?_)
          refine s_want (dj := 98) (b := (decide (0 ≠ 0))) A595 (by kernel_rfl) (by kernel_rfl) (by decide) ?_
          refine s_one (.bool (decide (0 ≠ 0))) A595 S589 (g_bin (u := .int .i64 0) (k := .int .i64 0) (by kernel_rfl) (by kernel_rfl) (fun _ => by kernel_rfl) b_neq) rfl (fun ac A596 => ?_)
          refine s_one (.bool (decide (0 ≠ 0))) A596 S589 (g_pick_f (b := (decide (0 ≠ 0))) (by kernel_rfl) (by decide) (by kernel_rfl)) rfl (fun ac A597 => ?_)
          refine s_one (.bool (decide (0 ≠ 0))) A597 S589 (g_move (by kernel_rfl)) rfl (fun ac A598 => ?_)
          refine s_want (dj := 102) (b := (decide (0 ≠ 0))) A598 (by kernel_rfl) (by kernel_rfl) (by decide) ?_
          refine s_one (.int .i64 0) A598 S589 (g_move (by kernel_rfl)) rfl (fun ac A599 => ?_)
          refine s_want (dj := 102) (b := (decide (0 ≠ 0))) A599 (by kernel_rfl) (by kernel_rfl) (by decide) ?_
          refine s_one (.bool (decide (0 ≠ 0))) A599 S589 (g_bin (u := .int .i64 0) (k := .int .i64 0) (by kernel_rfl) (by kernel_rfl) (fun _ => by kernel_rfl) b_neq) rfl (fun ac A600 => ?_)
          refine s_one (.bool (decide (0 ≠ 0))) A600 S589 (g_pick_f (b := (decide (0 ≠ 0))) (by kernel_rfl) (by decide) (by kernel_rfl)) rfl (fun ac A601 => ?_)
          refine s_one (.bool (decide (0 ≠ 0))) A601 S589 (g_move (by kernel_rfl)) rfl (fun ac A602 => ?_)
          refine s_want (dj := 106) (b := (decide (0 ≠ 0))) A602 (by kernel_rfl) (by kernel_rfl) (by decide) ?_
          refine s_one (.int .i64 0) A602 S589 (g_move (by kernel_rfl)) rfl (fun ac A603 => ?_)
          refine s_want (dj := 106) (b := (decide (0 ≠ 0))) A603 (by kernel_rfl) (by kernel_rfl) (by decide) ?_
          refine s_one (.bool (decide (0 ≠ 0))) A603 S589 (g_bin (u := .int .i64 0) (k := .int .i64 0) (by kernel_rfl) (by kernel_rfl) (fun _ => by kernel_rfl) b_neq) rfl (fun ac A604 => ?_)
          refine s_one (.bool (decide (0 ≠ 0))) A604 S589 (g_pick_f (b := (decide (0 ≠ 0))) (by kernel_rfl) (by decide) (by kernel_rfl)) rfl (fun ac A605 => ?_)
          refine s_one (.bool (decide (0 ≠ 0))) A605 S589 (g_move (by kernel_rfl)) rfl (fun ac A606 => ?_)
          refine s_want (dj := 110) (b := (decide (0 ≠ 0))) A606 (by kernel_rfl) (by kernel_rfl) (by decide) ?_
          refine s_one (.int .i64 0) A606 S589 (g_move (by kernel_rfl)) rfl (fun ac A607 => ?_)
          refine s_want (dj := 110) (b := (decide (0 ≠ 0))) A607 (by kernel_rfl) (by kernel_rfl) (by decide) ?_
          refine s_one (.bool (decide (0 ≠ 0))) A607 S589 (g_bin (u := .int .i64 0) (k := .int .i64 0) (by kernel_rfl) (by kernel_rfl) (fun _ => by kernel_rfl) b_neq) rfl (fun ac A608 => ?_)
          refine s_one (.bool (decide (0 ≠ 0))) A608 S589 (g_pick_f (b := (decide (0 ≠ 0))) (by kernel_rfl) (by decide) (by kernel_rfl)) rfl (fun ac A609 => ?_)
          refine wpList_nil ?_
          refine n_then ?_
          refine c_f (b := (decide (0 ≠ 0))) A609 (by kernel_rfl) (by decide) ?_
          refine wp_skip ?_
          refine n_then ?_
          refine wp_seq ?_
          refine wp_seq ?_
          refine wp_region_lit ?_
          refine s_one (.int .i64 0) A609 S589 (g_assign (by kernel_rfl)) rfl (fun ac A610 => ?_)
          refine wpList_nil ?_
          refine n_then ?_
          refine wp_block ?_
          refine c_loopN (fun mm ac wc => ∃ (k : Nat), mm = 61 - k ∧ ((k : Int) + (bn : Int) ≤ 61) ∧ Fr 183 ac [(0, .slice A n cap), (1, .int .i64 (bn : Int)), (2, .int .i64 g), (27, .bool true), (28, .bool false), (41, .bool ((decide ((n : Int) > 20)) || ((!(inB (bn : Int) 0 20)) || (!(inB g 1 10))))), (42, .slice (some ⟨g55, 0, none⟩) 3 3), (9, .int .i64 (n : Int)), (7, .slice A136 (3 + n) cap137), (8, .bool (nz l n)), (43, .int .i64 (n : Int)), (44, .slice A n cap), (45, .int .i64 (n : Int)), (46, .bool (decide ((n : Int) < (n : Int)))), (70, .slice A136 (3 + n) cap137), (71, .agg (trc (mkT (ecX l) (3 + n)))), (10, .pointer (some ⟨g142, 0, none⟩)), (73, .agg (trc (mkT (ecP l) 64))), (74, .int .i64 g), (11, .pointer (some ⟨g529, 0, none⟩)), (75, .agg #[.int .i64 g, .int .i64 1]), (76, .tuple #[.agg (trc (mkT (scL (ecP l) g) 64)), .int .i64 0, .int .i64 0]), (72, .tuple #[.agg (trc (mkT (scL (ecP l) g) 64)), .int .i64 0, .int .i64 0]), (77, .agg (trc (mkT (scL (ecP l) g) 64))), (78, .int .i64 0), (79, .int .i64 0), (12, .int .i64 0), (13, .int .i64 0), (81, .agg (trc (mkT (scL (ecP l) g) 64))), (82, .int .i64 (bn : Int)), (83, .tuple #[.agg (trc (mkT (shL (scL (ecP l) g) (bn : Int)) 64)), .int .i64 0]), (80, .tuple #[.agg (trc (mkT (shL (scL (ecP l) g) (bn : Int)) 64)), .int .i64 0]), (84, .agg (trc (mkT (shL (scL (ecP l) g) (bn : Int)) 64))), (85, .int .i64 0), (14, .pointer (some ⟨g559, 0, none⟩)), (15, .int .i64 0), (87, .agg (trc (mkT (ecP l) 64))), (88, .tuple #[.agg (ints (sqL (ecP l))), .int .i64 0]), (86, .tuple #[.agg (ints (sqL (ecP l))), .int .i64 0]), (89, .agg (ints (sqL (ecP l)))), (90, .int .i64 0), (16, .pointer (some ⟨g573, 0, none⟩)), (17, .int .i64 0), (92, .agg (trc (mkT (shL (scL (ecP l) g) (bn : Int)) 64))), (93, .tuple #[.agg (ints (sqL (shL (scL (ecP l) g) (bn : Int)))), .int .i64 0]), (91, .tuple #[.agg (ints (sqL (shL (scL (ecP l) g) (bn : Int)))), .int .i64 0]), (94, .agg (ints (sqL (shL (scL (ecP l) g) (bn : Int))))), (95, .int .i64 0), (18, .pointer (some ⟨g587, 0, none⟩)), (19, .int .i64 0), (96, .int .i64 0), (97, .bool (decide (0 ≠ 0))), (98, .bool (decide (0 ≠ 0))), (99, .int .i64 0), (100, .bool (decide (0 ≠ 0))), (101, .bool (decide (0 ≠ 0))), (102, .bool (decide (0 ≠ 0))), (103, .int .i64 0), (104, .bool (decide (0 ≠ 0))), (105, .bool (decide (0 ≠ 0))), (106, .bool (decide (0 ≠ 0))), (107, .int .i64 0), (108, .bool (decide (0 ≠ 0))), (109, .bool (decide (0 ≠ 0))), (110, .bool (decide (0 ≠ 0))), (111, .int .i64 0), (112, .bool (decide (0 ≠ 0))), (113, .bool (decide (0 ≠ 0))), (20, .int .i64 (k : Int))] ∧ St w0 [⟨g587, 39, (ints (sqL (shL (scL (ecP l) g) (bn : Int)))), true⟩, ⟨g573, 39, (ints (sqL (ecP l))), true⟩, ⟨g559, 26, (trc (mkT (shL (scL (ecP l) g) (bn : Int)) 64)), true⟩, ⟨g529, 26, (trc (mkT (scL (ecP l) g) 64)), true⟩, ⟨g142, 26, (trc (mkT (ecP l) 64)), true⟩] [] wc) _ ⟨0, rfl, by omega, (A610.slot (A610.slot (A610.slot (A610.slot (A610.slot (A610.slot (A610.slot (A610.slot (A610.slot (A610.slot (A610.slot (A610.slot (A610.slot (A610.slot (A610.slot (A610.slot (A610.slot (A610.slot (A610.slot (A610.slot (A610.slot (A610.slot (A610.slot (A610.slot (A610.slot (A610.slot (A610.slot (A610.slot (A610.slot (A610.slot (A610.slot (A610.slot (A610.slot (A610.slot (A610.slot (A610.slot (A610.slot (A610.slot (A610.slot (A610.slot (A610.slot (A610.slot (A610.slot (A610.slot (A610.slot (A610.slot (A610.slot (A610.slot (A610.slot (A610.slot (A610.slot (A610.slot (A610.slot (A610.slot (A610.slot (A610.slot (A610.slot (A610.slot (A610.slot (A610.slot (A610.slot (A610.slot (A610.slot (A610.slot (A610.slot (A610.slot (A610.slot (A610.slot (A610.slot A610.nil (v := .int .i64 0) (by kernel_rfl) (congrArg (Value.int .i64) (by omega))) (v := .bool (decide (0 ≠ 0))) (by kernel_rfl) rfl) (v := .bool (decide (0 ≠ 0))) (by kernel_rfl) rfl) (v := .int .i64 0) (by kernel_rfl) rfl) (v := .bool (decide (0 ≠ 0))) (by kernel_rfl) rfl) (v := .bool (decide (0 ≠ 0))) (by kernel_rfl) rfl) (v := .bool (decide (0 ≠ 0))) (by kernel_rfl) rfl) (v := .int .i64 0) (by kernel_rfl) rfl) (v := .bool (decide (0 ≠ 0))) (by kernel_rfl) rfl) (v := .bool (decide (0 ≠ 0))) (by kernel_rfl) rfl) (v := .bool (decide (0 ≠ 0))) (by kernel_rfl) rfl) (v := .int .i64 0) (by kernel_rfl) rfl) (v := .bool (decide (0 ≠ 0))) (by kernel_rfl) rfl) (v := .bool (decide (0 ≠ 0))) (by kernel_rfl) rfl) (v := .bool (decide (0 ≠ 0))) (by kernel_rfl) rfl) (v := .int .i64 0) (by kernel_rfl) rfl) (v := .bool (decide (0 ≠ 0))) (by kernel_rfl) rfl) (v := .bool (decide (0 ≠ 0))) (by kernel_rfl) rfl) (v := .int .i64 0) (by kernel_rfl) rfl) (v := .int .i64 0) (by kernel_rfl) rfl) (v := .pointer (some ⟨g587, 0, none⟩)) (by kernel_rfl) rfl) (v := .int .i64 0) (by kernel_rfl) rfl) (v := .agg (ints (sqL (shL (scL (ecP l) g) (bn : Int))))) (by kernel_rfl) rfl) (v := .tuple #[.agg (ints (sqL (shL (scL (ecP l) g) (bn : Int)))), .int .i64 0]) (by kernel_rfl) rfl) (v := .tuple #[.agg (ints (sqL (shL (scL (ecP l) g) (bn : Int)))), .int .i64 0]) (by kernel_rfl) rfl) (v := .agg (trc (mkT (shL (scL (ecP l) g) (bn : Int)) 64))) (by kernel_rfl) rfl) (v := .int .i64 0) (by kernel_rfl) rfl) (v := .pointer (some ⟨g573, 0, none⟩)) (by kernel_rfl) rfl) (v := .int .i64 0) (by kernel_rfl) rfl) (v := .agg (ints (sqL (ecP l)))) (by kernel_rfl) rfl) (v := .tuple #[.agg (ints (sqL (ecP l))), .int .i64 0]) (by kernel_rfl) rfl) (v := .tuple #[.agg (ints (sqL (ecP l))), .int .i64 0]) (by kernel_rfl) rfl) (v := .agg (trc (mkT (ecP l) 64))) (by kernel_rfl) rfl) (v := .int .i64 0) (by kernel_rfl) rfl) (v := .pointer (some ⟨g559, 0, none⟩)) (by kernel_rfl) rfl) (v := .int .i64 0) (by kernel_rfl) rfl) (v := .agg (trc (mkT (shL (scL (ecP l) g) (bn : Int)) 64))) (by kernel_rfl) rfl) (v := .tuple #[.agg (trc (mkT (shL (scL (ecP l) g) (bn : Int)) 64)), .int .i64 0]) (by kernel_rfl) rfl) (v := .tuple #[.agg (trc (mkT (shL (scL (ecP l) g) (bn : Int)) 64)), .int .i64 0]) (by kernel_rfl) rfl) (v := .int .i64 (bn : Int)) (by kernel_rfl) rfl) (v := .agg (trc (mkT (scL (ecP l) g) 64))) (by kernel_rfl) rfl) (v := .int .i64 0) (by kernel_rfl) rfl) (v := .int .i64 0) (by kernel_rfl) rfl) (v := .int .i64 0) (by kernel_rfl) rfl) (v := .int .i64 0) (by kernel_rfl) rfl) (v := .agg (trc (mkT (scL (ecP l) g) 64))) (by kernel_rfl) rfl) (v := .tuple #[.agg (trc (mkT (scL (ecP l) g) 64)), .int .i64 0, .int .i64 0]) (by kernel_rfl) rfl) (v := .tuple #[.agg (trc (mkT (scL (ecP l) g) 64)), .int .i64 0, .int .i64 0]) (by kernel_rfl) rfl) (v := .agg #[.int .i64 g, .int .i64 1]) (by kernel_rfl) rfl) (v := .pointer (some ⟨g529, 0, none⟩)) (by kernel_rfl) rfl) (v := .int .i64 g) (by kernel_rfl) rfl) (v := .agg (trc (mkT (ecP l) 64))) (by kernel_rfl) rfl) (v := .pointer (some ⟨g142, 0, none⟩)) (by kernel_rfl) rfl) (v := .agg (trc (mkT (ecX l) (3 + n)))) (by kernel_rfl) rfl) (v := .slice A136 (3 + n) cap137) (by kernel_rfl) rfl) (v := .bool (decide ((n : Int) < (n : Int)))) (by kernel_rfl) rfl) (v := .int .i64 (n : Int)) (by kernel_rfl) rfl) (v := .slice A n cap) (by kernel_rfl) rfl) (v := .int .i64 (n : Int)) (by kernel_rfl) rfl) (v := .bool (nz l n)) (by kernel_rfl) rfl) (v := .slice A136 (3 + n) cap137) (by kernel_rfl) rfl) (v := .int .i64 (n : Int)) (by kernel_rfl) rfl) (v := .slice (some ⟨g55, 0, none⟩) 3 3) (by kernel_rfl) rfl) (v := .bool ((decide ((n : Int) > 20)) || ((!(inB (bn : Int) 0 20)) || (!(inB g 1 10))))) (by kernel_rfl) rfl) (v := .bool false) (by kernel_rfl) rfl) (v := .bool true) (by kernel_rfl) rfl) (v := .int .i64 g) (by kernel_rfl) rfl) (v := .int .i64 (bn : Int)) (by kernel_rfl) rfl) (v := .slice A n cap) (by kernel_rfl) rfl), S589.sub sub_all sub_all⟩ ?_
          rintro mm ac wc ⟨k, hm613, hk, A611, S612⟩
          have q1 := sqL_bd sp k
          have q2 := mul_bd (x := g * g) (y := nthI (sqL (ecP l)) k) (a := 100) (b := 33521672) (by omega) (by omega) (by omega) (by omega)
          refine wp_seq ?_
          refine wp_seq ?_
          refine wp_region_lit ?_
          refine s_one (.int .i64 (k : Int)) A611 S612 (g_move (by kernel_rfl)) rfl (fun ac A614 => ?_)
          refine s_one (.int .i64 (bn : Int)) A614 S612 (g_move (by kernel_rfl)) rfl (fun ac A615 => ?_)
          refine s_one (.int .i64 ((k : Int) + (bn : Int))) A615 S612 (g_bin (u := .int .i64 (k : Int)) (k := .int .i64 (bn : Int)) (by kernel_rfl) (by kernel_rfl) (fun _ => by kernel_rfl) (b_add (by omega))) rfl (fun ac A616 => ?_)
          refine s_one (.bool (decide ((k : Int) + (bn : Int) < 61))) A616 S612 (g_bin (u := .int .i64 ((k : Int) + (bn : Int))) (k := .int .i64 61) (by kernel_rfl) (by kernel_rfl) (fun _ => by kernel_rfl) (fun _ => by kernel_rfl)) rfl (fun ac A617 => ?_)
          refine wpList_nil ?_
          refine n_then ?_
          refine c_ifb (b := (decide ((k : Int) + (bn : Int) < 61))) A617 (by kernel_rfl) (fun h618 => ?_) (fun h618 => ?_)
          · have p619 := of_decide_eq_true h618
            refine wp_skip ?_
            refine n_then ?_
            refine wp_seq ?_
            refine wp_block ?_
            refine wp_seq ?_
            refine r_begin (w0 := w0) (by kernel_rfl) (S612.sub sub_all sub_all) (fun wc T620 B621 => ?_)
            have S622 := S612.kept B621
            refine r_take 0 (.int .i64 (k : Int)) A617 T620 (g_move (by kernel_rfl)) rfl rfl rfl (pf_then (pf_block (pf_then (pf_then (pf_block (pf_then pf_body)))))) (by kernel_rfl) (fun ac A623 => ?_)
            refine r_take 1 (.int .i64 (bn : Int)) A623 T620 (g_move (by kernel_rfl)) rfl rfl rfl (pf_then (pf_block (pf_then (pf_then (pf_block (pf_then pf_body)))))) (by kernel_rfl) (fun ac A624 => ?_)
            refine r_take 2 (.int .i64 ((k : Int) + (bn : Int))) A624 T620 (g_bin (u := .int .i64 (k : Int)) (k := .int .i64 (bn : Int)) (by kernel_rfl) (by kernel_rfl) (fun _ => by kernel_rfl) (b_add (by omega))) rfl rfl rfl (pf_then (pf_block (pf_then (pf_then (pf_block (pf_then pf_body)))))) (by kernel_rfl) (fun ac A625 => ?_)
            refine r_take 3 (.pointer (some ⟨g587, ((k : Int) + (bn : Int)).toNat, none⟩)) A625 T620 (g_index (u := .pointer (some ⟨g587, 0, none⟩)) (k := .int .i64 ((k : Int) + (bn : Int))) (by kernel_rfl) (by kernel_rfl) (ix_arr1 (((k : Int) + (bn : Int)).toNat) (len := 61) (by kernel_rfl) (by omega) (by omega))) rfl rfl rfl (pf_then (pf_block (pf_then (pf_then (pf_block (pf_then pf_body)))))) (by kernel_rfl) (fun ac A626 => ?_)
            refine r_take 4 (.int .i64 (nthI (sqL (shL (scL (ecP l) g) (bn : Int))) (((k : Int) + (bn : Int)).toNat))) A626 T620 (g_load (g := g587) (off := ((k : Int) + (bn : Int)).toNat) 0 (by kernel_rfl) rfl (rv_of (by kernel_rfl) (ints_get (by rw [(sqL_length _)]; omega)))) rfl rfl rfl (pf_then (pf_block (pf_then (pf_then (pf_block (pf_then pf_body)))))) (by kernel_rfl) (fun ac A627 => ?_)
            refine r_take 5 (.int .i64 g) A627 T620 (g_move (by kernel_rfl)) rfl rfl rfl (pf_then (pf_block (pf_then (pf_then (pf_block (pf_then pf_body)))))) (by kernel_rfl) (fun ac A628 => ?_)
            refine r_take 6 (.int .i64 g) A628 T620 (g_move (by kernel_rfl)) rfl rfl rfl (pf_then (pf_block (pf_then (pf_then (pf_block (pf_then pf_body)))))) (by kernel_rfl) (fun ac A629 => ?_)
            refine r_take 7 (.int .i64 (g * g)) A629 T620 (g_bin (u := .int .i64 g) (k := .int .i64 g) (by kernel_rfl) (by kernel_rfl) (fun _ => by kernel_rfl) (b_mul (by omega))) rfl rfl rfl (pf_then (pf_block (pf_then (pf_then (pf_block (pf_then pf_body)))))) (by kernel_rfl) (fun ac A630 => ?_)
            refine r_take 8 (.int .i64 (k : Int)) A630 T620 (g_move (by kernel_rfl)) rfl rfl rfl (pf_then (pf_block (pf_then (pf_then (pf_block (pf_then pf_body)))))) (by kernel_rfl) (fun ac A631 => ?_)
            refine r_take 9 (.pointer (some ⟨g573, k, none⟩)) A631 T620 (g_index (u := .pointer (some ⟨g573, 0, none⟩)) (k := .int .i64 (k : Int)) (by kernel_rfl) (by kernel_rfl) (ix_arr1 k (len := 61) (by kernel_rfl) (by omega) (by omega))) rfl rfl rfl (pf_then (pf_block (pf_then (pf_then (pf_block (pf_then pf_body)))))) (by kernel_rfl) (fun ac A632 => ?_)
            refine r_take 10 (.int .i64 (nthI (sqL (ecP l)) k)) A632 T620 (g_load (g := g573) (off := k) 1 (by kernel_rfl) rfl (rv_of (by kernel_rfl) (ints_get (by rw [(sqL_length _)]; omega)))) rfl rfl rfl (pf_then (pf_block (pf_then (pf_then (pf_block (pf_then pf_body)))))) (by kernel_rfl) (fun ac A633 => ?_)
            refine r_take 11 (.int .i64 ((g * g) * (nthI (sqL (ecP l)) k))) A633 T620 (g_bin (u := .int .i64 (g * g)) (k := .int .i64 (nthI (sqL (ecP l)) k)) (by kernel_rfl) (by kernel_rfl) (fun _ => by kernel_rfl) (b_mul (by omega))) rfl rfl rfl (pf_then (pf_block (pf_then (pf_then (pf_block (pf_then pf_body)))))) (by kernel_rfl) (fun ac A634 => ?_)
            refine r_take 12 (.bool (decide (nthI (sqL (shL (scL (ecP l) g) (bn : Int))) (((k : Int) + (bn : Int)).toNat) ≠ (g * g) * (nthI (sqL (ecP l)) k)))) A634 T620 (g_bin (u := .int .i64 (nthI (sqL (shL (scL (ecP l) g) (bn : Int))) (((k : Int) + (bn : Int)).toNat))) (k := .int .i64 ((g * g) * (nthI (sqL (ecP l)) k))) (by kernel_rfl) (by kernel_rfl) (fun _ => by kernel_rfl) b_neq) rfl rfl rfl (pf_then (pf_block (pf_then (pf_then (pf_block (pf_then pf_body)))))) (by kernel_rfl) (fun ac A635 => ?_)
            refine r_done (by kernel_rfl) ?_
            refine n_then ?_
            refine c_f (b := (decide (nthI (sqL (shL (scL (ecP l) g) (bn : Int))) (((k : Int) + (bn : Int)).toNat) ≠ (g * g) * (nthI (sqL (ecP l)) k)))) A635 (by kernel_rfl) (decide_eq_false (fun h => h (sq_late2 (by omega)))) ?_
            refine wp_skip ?_
            refine n_block ?_
            refine n_then ?_
            refine wp_region_lit ?_
            refine s_one (.int .i64 (k : Int)) A635 S622 (g_move (by kernel_rfl)) rfl (fun ac A636 => ?_)
            refine s_one (.int .i64 ((k : Int) + 1)) A636 S622 (g_bin (u := .int .i64 (k : Int)) (k := .int .i64 1) (by kernel_rfl) (by kernel_rfl) (fun _ => by kernel_rfl) (b_add (by omega))) rfl (fun ac A637 => ?_)
            refine s_one (.int .i64 ((k : Int) + 1)) A637 S622 (g_assign (by kernel_rfl)) rfl (fun ac A638 => ?_)
            refine wpList_nil ?_
            refine n_then ?_
            refine ⟨_, ⟨k + 1, rfl, by omega, (A638.slot (A638.slot (A638.slot (A638.slot (A638.slot (A638.slot (A638.slot (A638.slot (A638.slot (A638.slot (A638.slot (A638.slot (A638.slot (A638.slot (A638.slot (A638.slot (A638.slot (A638.slot (A638.slot (A638.slot (A638.slot (A638.slot (A638.slot (A638.slot (A638.slot (A638.slot (A638.slot (A638.slot (A638.slot (A638.slot (A638.slot (A638.slot (A638.slot (A638.slot (A638.slot (A638.slot (A638.slot (A638.slot (A638.slot (A638.slot (A638.slot (A638.slot (A638.slot (A638.slot (A638.slot (A638.slot (A638.slot (A638.slot (A638.slot (A638.slot (A638.slot (A638.slot (A638.slot (A638.slot (A638.slot (A638.slot (A638.slot (A638.slot (A638.slot (A638.slot (A638.slot (A638.slot (A638.slot (A638.slot (A638.slot (A638.slot (A638.slot (A638.slot (A638.slot A638.nil (v := .int .i64 ((k : Int) + 1)) (by kernel_rfl) (congrArg (Value.int .i64) (by omega))) (v := .bool (decide (0 ≠ 0))) (by kernel_rfl) rfl) (v := .bool (decide (0 ≠ 0))) (by kernel_rfl) rfl) (v := .int .i64 0) (by kernel_rfl) rfl) (v := .bool (decide (0 ≠ 0))) (by kernel_rfl) rfl) (v := .bool (decide (0 ≠ 0))) (by kernel_rfl) rfl) (v := .bool (decide (0 ≠ 0))) (by kernel_rfl) rfl) (v := .int .i64 0) (by kernel_rfl) rfl) (v := .bool (decide (0 ≠ 0))) (by kernel_rfl) rfl) (v := .bool (decide (0 ≠ 0))) (by kernel_rfl) rfl) (v := .bool (decide (0 ≠ 0))) (by kernel_rfl) rfl) (v := .int .i64 0) (by kernel_rfl) rfl) (v := .bool (decide (0 ≠ 0))) (by kernel_rfl) rfl) (v := .bool (decide (0 ≠ 0))) (by kernel_rfl) rfl) (v := .bool (decide (0 ≠ 0))) (by kernel_rfl) rfl) (v := .int .i64 0) (by kernel_rfl) rfl) (v := .bool (decide (0 ≠ 0))) (by kernel_rfl) rfl) (v := .bool (decide (0 ≠ 0))) (by kernel_rfl) rfl) (v := .int .i64 0) (by kernel_rfl) rfl) (v := .int .i64 0) (by kernel_rfl) rfl) (v := .pointer (some ⟨g587, 0, none⟩)) (by kernel_rfl) rfl) (v := .int .i64 0) (by kernel_rfl) rfl) (v := .agg (ints (sqL (shL (scL (ecP l) g) (bn : Int))))) (by kernel_rfl) rfl) (v := .tuple #[.agg (ints (sqL (shL (scL (ecP l) g) (bn : Int)))), .int .i64 0]) (by kernel_rfl) rfl) (v := .tuple #[.agg (ints (sqL (shL (scL (ecP l) g) (bn : Int)))), .int .i64 0]) (by kernel_rfl) rfl) (v := .agg (trc (mkT (shL (scL (ecP l) g) (bn : Int)) 64))) (by kernel_rfl) rfl) (v := .int .i64 0) (by kernel_rfl) rfl) (v := .pointer (some ⟨g573, 0, none⟩)) (by kernel_rfl) rfl) (v := .int .i64 0) (by kernel_rfl) rfl) (v := .agg (ints (sqL (ecP l)))) (by kernel_rfl) rfl) (v := .tuple #[.agg (ints (sqL (ecP l))), .int .i64 0]) (by kernel_rfl) rfl) (v := .tuple #[.agg (ints (sqL (ecP l))), .int .i64 0]) (by kernel_rfl) rfl) (v := .agg (trc (mkT (ecP l) 64))) (by kernel_rfl) rfl) (v := .int .i64 0) (by kernel_rfl) rfl) (v := .pointer (some ⟨g559, 0, none⟩)) (by kernel_rfl) rfl) (v := .int .i64 0) (by kernel_rfl) rfl) (v := .agg (trc (mkT (shL (scL (ecP l) g) (bn : Int)) 64))) (by kernel_rfl) rfl) (v := .tuple #[.agg (trc (mkT (shL (scL (ecP l) g) (bn : Int)) 64)), .int .i64 0]) (by kernel_rfl) rfl) (v := .tuple #[.agg (trc (mkT (shL (scL (ecP l) g) (bn : Int)) 64)), .int .i64 0]) (by kernel_rfl) rfl) (v := .int .i64 (bn : Int)) (by kernel_rfl) rfl) (v := .agg (trc (mkT (scL (ecP l) g) 64))) (by kernel_rfl) rfl) (v := .int .i64 0) (by kernel_rfl) rfl) (v := .int .i64 0) (by kernel_rfl) rfl) (v := .int .i64 0) (by kernel_rfl) rfl) (v := .int .i64 0) (by kernel_rfl) rfl) (v := .agg (trc (mkT (scL (ecP l) g) 64))) (by kernel_rfl) rfl) (v := .tuple #[.agg (trc (mkT (scL (ecP l) g) 64)), .int .i64 0, .int .i64 0]) (by kernel_rfl) rfl) (v := .tuple #[.agg (trc (mkT (scL (ecP l) g) 64)), .int .i64 0, .int .i64 0]) (by kernel_rfl) rfl) (v := .agg #[.int .i64 g, .int .i64 1]) (by kernel_rfl) rfl) (v := .pointer (some ⟨g529, 0, none⟩)) (by kernel_rfl) rfl) (v := .int .i64 g) (by kernel_rfl) rfl) (v := .agg (trc (mkT (ecP l) 64))) (by kernel_rfl) rfl) (v := .pointer (some ⟨g142, 0, none⟩)) (by kernel_rfl) rfl) (v := .agg (trc (mkT (ecX l) (3 + n)))) (by kernel_rfl) rfl) (v := .slice A136 (3 + n) cap137) (by kernel_rfl) rfl) (v := .bool (decide ((n : Int) < (n : Int)))) (by kernel_rfl) rfl) (v := .int .i64 (n : Int)) (by kernel_rfl) rfl) (v := .slice A n cap) (by kernel_rfl) rfl) (v := .int .i64 (n : Int)) (by kernel_rfl) rfl) (v := .bool (nz l n)) (by kernel_rfl) rfl) (v := .slice A136 (3 + n) cap137) (by kernel_rfl) rfl) (v := .int .i64 (n : Int)) (by kernel_rfl) rfl) (v := .slice (some ⟨g55, 0, none⟩) 3 3) (by kernel_rfl) rfl) (v := .bool ((decide ((n : Int) > 20)) || ((!(inB (bn : Int) 0 20)) || (!(inB g 1 10))))) (by kernel_rfl) rfl) (v := .bool false) (by kernel_rfl) rfl) (v := .bool true) (by kernel_rfl) rfl) (v := .int .i64 g) (by kernel_rfl) rfl) (v := .int .i64 (bn : Int)) (by kernel_rfl) rfl) (v := .slice A n cap) (by kernel_rfl) rfl), S622.sub sub_all sub_all⟩, ?_⟩
            omega
          · have p639 := of_decide_eq_false h618
            refine wp_exit ?_
            refine x_then ?_
            refine x_then ?_
            refine x_hit ?_
            refine n_then ?_
            refine wp_seq ?_
            refine wp_seq ?_
            refine wp_region_lit ?_
            refine s_one (.bool (nz l n)) A617 S612 (g_move (by kernel_rfl)) rfl (fun ac A640 => ?_)
            refine s_one (.bool (!(nz l n))) A640 S612 (g_un (u := .bool (nz l n)) (by kernel_rfl) (fun _ => by kernel_rfl)) rfl (fun ac A641 => ?_)
            refine wpList_nil ?_
            refine n_then ?_
            refine c_ifb (b := (!(nz l n))) A641 (by kernel_rfl) (fun h642 => ?_) (fun h642 => ?_)
            · have h643 : nz l n = false := by simpa using h642
              refine wp_seq ?_
              refine wp_region_lit ?_
              refine s_one (.bool true) A641 S612 (g_assign (by kernel_rfl)) rfl (fun ac A644 => ?_)
              refine wpList_nil ?_
              refine n_then ?_
              refine wp_ret ?_
              refine r_then ?_
              refine fin1 (.bool true) Try.results11 A644 S612 (rv_tmp (by kernel_rfl)) ⟨?_, S612.kp⟩
              rfl
            · have h645 : nz l n = true := by simpa using h642
              have hnz := h645
              refine wp_skip ?_
              refine n_then ?_
              refine wp_seq ?_
              have q3 := peak_bd sp 30
              have q4 := mul_bd (x := g * g) (y := (peakOf (ecP l) 0 30).2) (a := 100) (b := 33521672) (by omega) (by omega) (by omega) (by omega)
              have ek := ec_peak (g := g) (b := bn) hn (by omega) hg.1 (by omega) hnz
              have eg := ec_lag (g := g) (b := bn) (by omega) (fun i hi => ecP_far hn (by omega) hi) hg.1 (ec_some hn (by omega) hnz)
              refine wp_region_lit ?_
              refine s_one (.agg (trc (mkT (ecP l) 64))) A641 S612 (g_loadW (g := g142) 4 (by kernel_rfl) rfl ((trc_size _).trans (mkT_length _ _)) ⟨⟨_, Try.underlying26, rfl⟩, by kernel_rfl⟩) rfl (fun ac A646 => ?_)
              refine s_one (.agg #[.int .i64 0, .int .i64 30]) A646 S612 (g_build (r := [(1, .int .i64 30)]) (by kernel_rfl) (fun _ => by kernel_rfl)) rfl (fun ac A647 => ?_)
              refine s_call (fs := #[]) (cp := #[]) (r := [(0, .agg (trc (mkT (ecP l) 64))), (0, .agg #[.int .i64 0, .int .i64 30])]) #[.agg (trc (mkT (ecP l) 64)), .agg #[.int .i64 0, .int .i64 30]] (.tuple #[.agg #[.int .i64 ((peakOf (ecP l) 0 30).1), .int .i64 ((peakOf (ecP l) 0 30).2)], .int .i64 0]) A647 S612 (PeakIn_30 (ecP l) _ (ecP_length _) sp) Try.call23 (by kernel_rfl) (by kernel_rfl) (by kernel_rfl) rfl (fun ac wc A648 S649 => ?_)
              refine s_one (.tuple #[.agg #[.int .i64 ((peakOf (ecP l) 0 30).1), .int .i64 ((peakOf (ecP l) 0 30).2)], .int .i64 0]) A648 S649 (g_move (by kernel_rfl)) rfl (fun ac A651 => ?_)
              refine s_one (.agg #[.int .i64 ((peakOf (ecP l) 0 30).1), .int .i64 ((peakOf (ecP l) 0 30).2)]) A651 S649 (g_extract (u := .tuple #[.agg #[.int .i64 ((peakOf (ecP l) 0 30).1), .int .i64 ((peakOf (ecP l) 0 30).2)], .int .i64 0]) (by kernel_rfl) (fun _ => by kernel_rfl)) rfl (fun ac A652 => ?_)
              refine s_one (.int .i64 0) A652 S649 (g_extract (u := .tuple #[.agg #[.int .i64 ((peakOf (ecP l) 0 30).1), .int .i64 ((peakOf (ecP l) 0 30).2)], .int .i64 0]) (by kernel_rfl) (fun _ => by kernel_rfl)) rfl (fun ac A653 => ?_)
              refine s_alloc (#[.int .i64 0, .int .i64 0]) A653 S649 (by kernel_rfl) rfl (fun g656 ac wc A654 S655 => ?_)
              refine s_store (g := g656) (off := 0) (v := .agg #[.int .i64 ((peakOf (ecP l) 0 30).1), .int .i64 ((peakOf (ecP l) 0 30).2)]) 0 (#[.int .i64 ((peakOf (ecP l) 0 30).1), .int .i64 ((peakOf (ecP l) 0 30).2)]) A654 S655 (by kernel_rfl) (by kernel_rfl) rfl (by kernel_rfl) (fun wc S658 => ?_)
              refine s_one (.int .i64 0) A654 S658 (g_assign (by kernel_rfl)) rfl (fun ac A660 => ?_)
              refine wpList_nil ?_
              refine n_then ?_
              refine wp_seq ?_
              refine wp_region_lit ?_
              refine s_one (.agg (trc (mkT (shL (scL (ecP l) g) (bn : Int)) 64))) A660 S658 (g_loadW (g := g559) 3 (by kernel_rfl) rfl ((trc_size _).trans (mkT_length _ _)) ⟨⟨_, Try.underlying26, rfl⟩, by kernel_rfl⟩) rfl (fun ac A661 => ?_)
              refine s_one (.agg #[.int .i64 0, .int .i64 60]) A661 S658 (g_build (r := [(1, .int .i64 60)]) (by kernel_rfl) (fun _ => by kernel_rfl)) rfl (fun ac A662 => ?_)
              refine s_call (fs := #[]) (cp := #[]) (r := [(0, .agg (trc (mkT (shL (scL (ecP l) g) (bn : Int)) 64))), (0, .agg #[.int .i64 0, .int .i64 60])]) #[.agg (trc (mkT (shL (scL (ecP l) g) (bn : Int)) 64)), .agg #[.int .i64 0, .int .i64 60]] (.tuple #[.agg #[.int .i64 ((peakOf (shL (scL (ecP l) g) (bn : Int)) 0 60).1), .int .i64 ((peakOf (shL (scL (ecP l) g) (bn : Int)) 0 60).2)], .int .i64 0]) A662 S658 (PeakIn_60 (shL (scL (ecP l) g) (bn : Int)) _ (shL_length _ _) ss) Try.call23 (by kernel_rfl) (by kernel_rfl) (by kernel_rfl) rfl (fun ac wc A663 S664 => ?_)
              refine s_one (.tuple #[.agg #[.int .i64 ((peakOf (shL (scL (ecP l) g) (bn : Int)) 0 60).1), .int .i64 ((peakOf (shL (scL (ecP l) g) (bn : Int)) 0 60).2)], .int .i64 0]) A663 S664 (g_move (by kernel_rfl)) rfl (fun ac A666 => ?_)
              refine s_one (.agg #[.int .i64 ((peakOf (shL (scL (ecP l) g) (bn : Int)) 0 60).1), .int .i64 ((peakOf (shL (scL (ecP l) g) (bn : Int)) 0 60).2)]) A666 S664 (g_extract (u := .tuple #[.agg #[.int .i64 ((peakOf (shL (scL (ecP l) g) (bn : Int)) 0 60).1), .int .i64 ((peakOf (shL (scL (ecP l) g) (bn : Int)) 0 60).2)], .int .i64 0]) (by kernel_rfl) (fun _ => by kernel_rfl)) rfl (fun ac A667 => ?_)
              refine s_one (.int .i64 0) A667 S664 (g_extract (u := .tuple #[.agg #[.int .i64 ((peakOf (shL (scL (ecP l) g) (bn : Int)) 0 60).1), .int .i64 ((peakOf (shL (scL (ecP l) g) (bn : Int)) 0 60).2)], .int .i64 0]) (by kernel_rfl) (fun _ => by kernel_rfl)) rfl (fun ac A668 => ?_)
              refine s_alloc (#[.int .i64 0, .int .i64 0]) A668 S664 (by kernel_rfl) rfl (fun g671 ac wc A669 S670 => ?_)
              refine s_store (g := g671) (off := 0) (v := .agg #[.int .i64 ((peakOf (shL (scL (ecP l) g) (bn : Int)) 0 60).1), .int .i64 ((peakOf (shL (scL (ecP l) g) (bn : Int)) 0 60).2)]) 0 (#[.int .i64 ((peakOf (shL (scL (ecP l) g) (bn : Int)) 0 60).1), .int .i64 ((peakOf (shL (scL (ecP l) g) (bn : Int)) 0 60).2)]) A669 S670 (by kernel_rfl) (by kernel_rfl) rfl (by kernel_rfl) (fun wc S673 => ?_)
              refine s_one (.int .i64 0) A669 S673 (g_assign (by kernel_rfl)) rfl (fun ac A675 => ?_)
              refine wpList_nil ?_
              refine n_then ?_
              refine wp_seq ?_
              refine wp_region_lit ?_
              refine s_one (.agg (trc (mkT (ecP l) 64))) A675 S673 (g_loadW (g := g142) 6 (by kernel_rfl) rfl ((trc_size _).trans (mkT_length _ _)) ⟨⟨_, Try.underlying26, rfl⟩, by kernel_rfl⟩) rfl (fun ac A676 => ?_)
              refine s_one (.agg (trc (mkT (shL (scL (ecP l) g) (bn : Int)) 64))) A676 S673 (g_loadW (g := g559) 4 (by kernel_rfl) rfl ((trc_size _).trans (mkT_length _ _)) ⟨⟨_, Try.underlying26, rfl⟩, by kernel_rfl⟩) rfl (fun ac A677 => ?_)
              refine s_call (fs := #[]) (cp := #[]) (r := [(0, .agg (trc (mkT (ecP l) 64))), (0, .agg (trc (mkT (shL (scL (ecP l) g) (bn : Int)) 64))), (0, .int .i64 25)]) #[.agg (trc (mkT (ecP l) 64)), .agg (trc (mkT (shL (scL (ecP l) g) (bn : Int)) 64)), .int .i64 25] (.tuple #[.int .i64 (lagOf (ecP l) (shL (scL (ecP l) g) (bn : Int)) 25), .int .i64 0]) A677 S673 (LagOf_mk (ecP l) (shL (scL (ecP l) g) (bn : Int)) _ (ecP_length _) sp (shL_length _ _) ss) Try.call28 (by kernel_rfl) (by kernel_rfl) (by kernel_rfl) rfl (fun ac wc A678 S679 => ?_)
              refine s_one (.tuple #[.int .i64 (lagOf (ecP l) (shL (scL (ecP l) g) (bn : Int)) 25), .int .i64 0]) A678 S679 (g_move (by kernel_rfl)) rfl (fun ac A681 => ?_)
              refine s_one (.int .i64 (lagOf (ecP l) (shL (scL (ecP l) g) (bn : Int)) 25)) A681 S679 (g_extract (u := .tuple #[.int .i64 (lagOf (ecP l) (shL (scL (ecP l) g) (bn : Int)) 25), .int .i64 0]) (by kernel_rfl) (fun _ => by kernel_rfl)) rfl (fun ac A682 => ?_)
              refine s_one (.int .i64 0) A682 S679 (g_extract (u := .tuple #[.int .i64 (lagOf (ecP l) (shL (scL (ecP l) g) (bn : Int)) 25), .int .i64 0]) (by kernel_rfl) (fun _ => by kernel_rfl)) rfl (fun ac A683 => ?_)
              refine s_one (.int .i64 (lagOf (ecP l) (shL (scL (ecP l) g) (bn : Int)) 25)) A683 S679 (g_assign (by kernel_rfl)) rfl (fun ac A684 => ?_)
              refine s_one (.int .i64 0) A684 S679 (g_assign (by kernel_rfl)) rfl (fun ac A685 => ?_)
              refine wpList_nil ?_
              refine n_then ?_
              refine wp_seq ?_
              refine wp_region_lit ?_
              refine s_one (.int .i64 0) A685 S679 (g_move (by kernel_rfl)) rfl (fun ac A686 => ?_)
              refine s_one (.bool (decide (0 = 0))) A686 S679 (g_bin (u := .int .i64 0) (k := .int .i64 0) (by kernel_rfl) (by kernel_rfl) (fun _ => by kernel_rfl) b_eql) rfl (fun ac A687 => ?_)
              refine s_one (.bool (decide (0 = 0))) A687 S679 (g_move (by kernel_rfl)) rfl (fun ac A688 => ?_)
              refine s_want (dj := 155) (b := (decide (0 = 0))) A688 (by kernel_rfl) (by kernel_rfl) (by decide) ?_
              refine s_one (.int .i64 0) A688 S679 (g_move (by kernel_rfl)) rfl (fun ac A689 => ?_)
              refine s_want (dj := 155) (b := (decide (0 = 0))) A689 (by kernel_rfl) (by kernel_rfl) (by decide) ?_
              refine s_one (.bool (decide (0 = 0))) A689 S679 (g_bin (u := .int .i64 0) (k := .int .i64 0) (by kernel_rfl) (by kernel_rfl) (fun _ => by kernel_rfl) b_eql) rfl (fun ac A690 => ?_)
              refine s_one (.bool (decide (0 = 0))) A690 S679 (g_pick_t (b := (decide (0 = 0))) (by kernel_rfl) (by decide) (by kernel_rfl)) rfl (fun ac A691 => ?_)
              refine s_one (.bool (decide (0 = 0))) A691 S679 (g_move (by kernel_rfl)) rfl (fun ac A692 => ?_)
              refine s_want (dj := 159) (b := (decide (0 = 0))) A692 (by kernel_rfl) (by kernel_rfl) (by decide) ?_
              refine s_one (.agg #[.int .i64 ((peakOf (shL (scL (ecP l) g) (bn : Int)) 0 60).1), .int .i64 ((peakOf (shL (scL (ecP l) g) (bn : Int)) 0 60).2)]) A692 S679 (g_load (g := g671) (off := 0) 0 (by kernel_rfl) rfl (by kernel_rfl)) rfl (fun ac A693 => ?_)
              refine s_want (dj := 159) (b := (decide (0 = 0))) A693 (by kernel_rfl) (by kernel_rfl) (by decide) ?_
              refine s_one (.pointer (some ⟨g656, 0, none⟩)) A693 S679 (g_field (u := .pointer (some ⟨g656, 0, none⟩)) (by kernel_rfl) (fun _ => by kernel_rfl)) rfl (fun ac A694 => ?_)
              refine s_want (dj := 159) (b := (decide (0 = 0))) A694 (by kernel_rfl) (by kernel_rfl) (by decide) ?_
              refine s_one (.int .i64 ((peakOf (ecP l) 0 30).1)) A694 S679 (g_load (g := g656) (off := 0) 1 (by kernel_rfl) rfl (by kernel_rfl)) rfl (fun ac A695 => ?_)
              refine s_want (dj := 159) (b := (decide (0 = 0))) A695 (by kernel_rfl) (by kernel_rfl) (by decide) ?_
              refine s_one (.int .i64 (bn : Int)) A695 S679 (g_move (by kernel_rfl)) rfl (fun ac A696 => ?_)
              refine s_want (dj := 159) (b := (decide (0 = 0))) A696 (by kernel_rfl) (by kernel_rfl) (by decide) ?_
              refine s_one (.int .i64 ((peakOf (ecP l) 0 30).1 + (bn : Int))) A696 S679 (g_bin (u := .int .i64 ((peakOf (ecP l) 0 30).1)) (k := .int .i64 (bn : Int)) (by kernel_rfl) (by kernel_rfl) (fun _ => by kernel_rfl) (b_add (by omega))) rfl (fun ac A697 => ?_)
              refine s_want (dj := 159) (b := (decide (0 = 0))) A697 (by kernel_rfl) (by kernel_rfl) (by decide) ?_
              refine s_one (.int .i64 g) A697 S679 (g_move (by kernel_rfl)) rfl (fun ac A698 => ?_)
              refine s_want (dj := 159) (b := (decide (0 = 0))) A698 (by kernel_rfl) (by kernel_rfl) (by decide) ?_
              refine s_one (.int .i64 g) A698 S679 (g_move (by kernel_rfl)) rfl (fun ac A699 => ?_)
              refine s_want (dj := 159) (b := (decide (0 = 0))) A699 (by kernel_rfl) (by kernel_rfl) (by decide) ?_
              refine s_one (.int .i64 (g * g)) A699 S679 (g_bin (u := .int .i64 g) (k := .int .i64 g) (by kernel_rfl) (by kernel_rfl) (fun _ => by kernel_rfl) (b_mul (by omega))) rfl (fun ac A700 => ?_)
              refine s_want (dj := 159) (b := (decide (0 = 0))) A700 (by kernel_rfl) (by kernel_rfl) (by decide) ?_
              refine s_one (.pointer (some ⟨g656, 1, none⟩)) A700 S679 (g_field (u := .pointer (some ⟨g656, 0, none⟩)) (by kernel_rfl) (fun _ => by kernel_rfl)) rfl (fun ac A701 => ?_)
              refine s_want (dj := 159) (b := (decide (0 = 0))) A701 (by kernel_rfl) (by kernel_rfl) (by decide) ?_
              refine s_one (.int .i64 ((peakOf (ecP l) 0 30).2)) A701 S679 (g_load (g := g656) (off := 1) 1 (by kernel_rfl) rfl (by kernel_rfl)) rfl (fun ac A702 => ?_)
              refine s_want (dj := 159) (b := (decide (0 = 0))) A702 (by kernel_rfl) (by kernel_rfl) (by decide) ?_
              refine s_one (.int .i64 ((g * g) * ((peakOf (ecP l) 0 30).2))) A702 S679 (g_bin (u := .int .i64 (g * g)) (k := .int .i64 ((peakOf (ecP l) 0 30).2)) (by kernel_rfl) (by kernel_rfl) (fun _ => by kernel_rfl) (b_mul (by omega))) rfl (fun ac A703 => ?_)
              refine s_want (dj := 159) (b := (decide (0 = 0))) A703 (by kernel_rfl) (by kernel_rfl) (by decide) ?_
              refine s_one (.agg #[.int .i64 ((peakOf (ecP l) 0 30).1 + (bn : Int)), .int .i64 ((g * g) * ((peakOf (ecP l) 0 30).2))]) A703 S679 (g_build (r := [(0, .int .i64 ((peakOf (ecP l) 0 30).1 + (bn : Int))), (1, .int .i64 ((g * g) * ((peakOf (ecP l) 0 30).2)))]) (by kernel_rfl) (fun _ => by kernel_rfl)) rfl (fun ac A704 => ?_)
              refine s_want (dj := 159) (b := (decide (0 = 0))) A704 (by kernel_rfl) (by kernel_rfl) (by decide) ?_
              refine s_one (.bool (decide ([(peakOf (shL (scL (ecP l) g) (bn : Int)) 0 60).1, (peakOf (shL (scL (ecP l) g) (bn : Int)) 0 60).2] = [(peakOf (ecP l) 0 30).1 + (bn : Int), (g * g) * ((peakOf (ecP l) 0 30).2)]))) A704 S679 (g_bin (u := .agg #[.int .i64 ((peakOf (shL (scL (ecP l) g) (bn : Int)) 0 60).1), .int .i64 ((peakOf (shL (scL (ecP l) g) (bn : Int)) 0 60).2)]) (k := .agg #[.int .i64 ((peakOf (ecP l) 0 30).1 + (bn : Int)), .int .i64 ((g * g) * ((peakOf (ecP l) 0 30).2))]) (by kernel_rfl) (by kernel_rfl) (fun _ => by kernel_rfl) (q_struct (n := 2) [(peakOf (shL (scL (ecP l) g) (bn : Int)) 0 60).1, (peakOf (shL (scL (ecP l) g) (bn : Int)) 0 60).2] [(peakOf (ecP l) 0 30).1 + (bn : Int), (g * g) * ((peakOf (ecP l) 0 30).2)] (by kernel_rfl) rfl rfl)) rfl (fun ac A705 => ?_)
              refine s_one (.bool (decide ([(peakOf (shL (scL (ecP l) g) (bn : Int)) 0 60).1, (peakOf (shL (scL (ecP l) g) (bn : Int)) 0 60).2] = [(peakOf (ecP l) 0 30).1 + (bn : Int), (g * g) * ((peakOf (ecP l) 0 30).2)]))) A705 S679 (g_pick_t (b := (decide (0 = 0))) (by kernel_rfl) (by decide) (by kernel_rfl)) rfl (fun ac A706 => ?_)
              refine s_one (.bool (decide ([(peakOf (shL (scL (ecP l) g) (bn : Int)) 0 60).1, (peakOf (shL (scL (ecP l) g) (bn : Int)) 0 60).2] = [(peakOf (ecP l) 0 30).1 + (bn : Int), (g * g) * ((peakOf (ecP l) 0 30).2)]))) A706 S679 (g_move (by kernel_rfl)) rfl (fun ac A707 => ?_)
              refine s_want (dj := 174) (b := (decide ([(peakOf (shL (scL (ecP l) g) (bn : Int)) 0 60).1, (peakOf (shL (scL (ecP l) g) (bn : Int)) 0 60).2] = [(peakOf (ecP l) 0 30).1 + (bn : Int), (g * g) * ((peakOf (ecP l) 0 30).2)]))) A707 (by kernel_rfl) (by kernel_rfl) (decide_eq_true (by rw [ek])) ?_
              refine s_one (.int .i64 0) A707 S679 (g_move (by kernel_rfl)) rfl (fun ac A708 => ?_)
              refine s_want (dj := 174) (b := (decide ([(peakOf (shL (scL (ecP l) g) (bn : Int)) 0 60).1, (peakOf (shL (scL (ecP l) g) (bn : Int)) 0 60).2] = [(peakOf (ecP l) 0 30).1 + (bn : Int), (g * g) * ((peakOf (ecP l) 0 30).2)]))) A708 (by kernel_rfl) (by kernel_rfl) (decide_eq_true (by rw [ek])) ?_
              refine s_one (.bool (decide (0 = 0))) A708 S679 (g_bin (u := .int .i64 0) (k := .int .i64 0) (by kernel_rfl) (by kernel_rfl) (fun _ => by kernel_rfl) b_eql) rfl (fun ac A709 => ?_)
              refine s_one (.bool (decide (0 = 0))) A709 S679 (g_pick_t (b := (decide ([(peakOf (shL (scL (ecP l) g) (bn : Int)) 0 60).1, (peakOf (shL (scL (ecP l) g) (bn : Int)) 0 60).2] = [(peakOf (ecP l) 0 30).1 + (bn : Int), (g * g) * ((peakOf (ecP l) 0 30).2)]))) (by kernel_rfl) (decide_eq_true (by rw [ek])) (by kernel_rfl)) rfl (fun ac A710 => ?_)
              refine s_one (.bool (decide (0 = 0))) A710 S679 (g_move (by kernel_rfl)) rfl (fun ac A711 => ?_)
              refine s_want (dj := 178) (b := (decide (0 = 0))) A711 (by kernel_rfl) (by kernel_rfl) (by decide) ?_
              refine s_one (.int .i64 (lagOf (ecP l) (shL (scL (ecP l) g) (bn : Int)) 25)) A711 S679 (g_move (by kernel_rfl)) rfl (fun ac A712 => ?_)
              refine s_want (dj := 178) (b := (decide (0 = 0))) A712 (by kernel_rfl) (by kernel_rfl) (by decide) ?_
              refine s_one (.int .i64 (bn : Int)) A712 S679 (g_move (by kernel_rfl)) rfl (fun ac A713 => ?_)
              refine s_want (dj := 178) (b := (decide (0 = 0))) A713 (by kernel_rfl) (by kernel_rfl) (by decide) ?_
              refine s_one (.bool (decide (lagOf (ecP l) (shL (scL (ecP l) g) (bn : Int)) 25 = (bn : Int)))) A713 S679 (g_bin (u := .int .i64 (lagOf (ecP l) (shL (scL (ecP l) g) (bn : Int)) 25)) (k := .int .i64 (bn : Int)) (by kernel_rfl) (by kernel_rfl) (fun _ => by kernel_rfl) b_eql) rfl (fun ac A714 => ?_)
              refine s_one (.bool (decide (lagOf (ecP l) (shL (scL (ecP l) g) (bn : Int)) 25 = (bn : Int)))) A714 S679 (g_pick_t (b := (decide (0 = 0))) (by kernel_rfl) (by decide) (by kernel_rfl)) rfl (fun ac A715 => ?_)
              refine s_one (.bool (decide (lagOf (ecP l) (shL (scL (ecP l) g) (bn : Int)) 25 = (bn : Int)))) A715 S679 (g_assign (by kernel_rfl)) rfl (fun ac A716 => ?_)
              refine wpList_nil ?_
              refine n_then ?_
              refine wp_ret ?_
              refine fin1 (.bool (decide (lagOf (ecP l) (shL (scL (ecP l) g) (bn : Int)) 25 = (bn : Int)))) Try.results11 A716 S679 (rv_tmp (by kernel_rfl)) ⟨?_, S679.kp⟩
              exact congrArg (fun b => Ending.returned (Value.bool b)) (decide_eq_true eg)

end Go.Proofs.Ytfooefkgdcjlhaa
