/- The reference's functions on traces. -/
import Derived.Test.YtcijkniijomcjaaArr
import Derived.Test.YtcijkniijomcjaaAnalytic
namespace Go.Proofs.Ytcijkniijomcjaa
open Go.RowKit Go.Cpl

/-- The trace of numbers. -/
def mkT (l : List Int) (n : Nat) : List Nat := done 0 (fun i => floatOfInt .f32 (nthI l i)) 64 n

set_option maxRecDepth 100000 in
set_option maxHeartbeats 400000 in
theorem Trace_s (l : List Int) (A : Option Addr) (cap n : Nat) (w0 : World) (hn : l.length = n) (hr : IReads w0 A l) (h64 : n ≤ 64) :
    Calls Try.prog 70 #[.slice A n cap] w0 fun e w' => e = .returned (.agg (trc (mkT l n))) ∧ Below w0.heap.size w0 w' := by
  have S0 := St.start w0
  have HR : ∀ k, k < n → ∃ ad, A = some ad ∧ w0.cell? (ad.add k) = some (.int .i64 (nthI l k)) := fun k hk => hr k (by omega)
  refine enter (n := 23) Try.func70 rfl rfl rfl (fun ac A0 => ?_)
  refine wp_seq ?_
  refine wp_region_lit ?_
  refine s_alloc (trc (List.replicate 64 0)) A0 S0 zero26 rfl (fun g3 ac wc A1 S2 => ?_)
  refine wpList_nil ?_
  refine n_then ?_
  refine wp_seq ?_
  refine wp_region_lit ?_
  refine s_alloc (trc (List.replicate 64 0)) A1 S2 zero26 rfl (fun g6 ac wc A4 S5 => ?_)
  refine wpList_nil ?_
  refine n_then ?_
  refine wp_seq ?_
  refine wp_seq ?_
  refine wp_region_lit ?_
  refine s_one (.int .i64 0) A4 S5 (g_assign (by kernel_rfl)) rfl (fun ac A7 => ?_)
  refine wpList_nil ?_
  refine n_then ?_
  refine wp_block ?_
  refine c_loopN (fun mm ac wc => ∃ (k : Nat), mm = 64 - k ∧ (k ≤ n) ∧ Fr 23 ac [(0, .slice A n cap), (2, .pointer (some ⟨g3, 0, none⟩)), (3, .pointer (some ⟨g6, 0, none⟩)), (4, .int .i64 (k : Int))] ∧ St w0 [⟨g6, 38, (trc (done 0 (fun i => floatOfInt .f32 (nthI l i)) 64 k)), true⟩, ⟨g3, 38, (trc (List.replicate 64 0)), true⟩] [] wc) _ ⟨0, rfl, by omega, (A7.slot (A7.slot (A7.slot (A7.slot A7.nil (v := .int .i64 0) (by kernel_rfl) (congrArg (Value.int .i64) (by omega))) (v := .pointer (some ⟨g6, 0, none⟩)) (by kernel_rfl) rfl) (v := .pointer (some ⟨g3, 0, none⟩)) (by kernel_rfl) rfl) (v := .slice A n cap) (by kernel_rfl) rfl), (St.recell 0 S5 rfl (congrArg trc (done_zero 0 (fun i => floatOfInt .f32 (nthI l i)) 64).symm)).sub sub_all sub_all⟩ ?_
  rintro mm ac wc ⟨k, hm10, hk, A8, S9⟩
  refine wp_seq ?_
  refine wp_seq ?_
  refine c_cut (fun ac wc => Fr 23 ac [(12, .bool ((decide ((k : Int) < 64)) && (decide ((k : Int) < (n : Int))))), (0, .slice A n cap), (2, .pointer (some ⟨g3, 0, none⟩)), (3, .pointer (some ⟨g6, 0, none⟩)), (4, .int .i64 (k : Int))] ∧ St w0 [⟨g6, 38, (trc (done 0 (fun i => floatOfInt .f32 (nthI l i)) 64 k)), true⟩, ⟨g3, 38, (trc (List.replicate 64 0)), true⟩] [] wc) ?_ ?_
  · refine wp_region_lit ?_
    refine s_one (.int .i64 (k : Int)) A8 S9 (g_move (by kernel_rfl)) rfl (fun ac A11 => ?_)
    refine s_one (.bool (decide ((k : Int) < 64))) A11 S9 (g_bin (u := .int .i64 (k : Int)) (k := .int .i64 64) (by kernel_rfl) (by kernel_rfl) (fun _ => by kernel_rfl) (fun _ => by kernel_rfl)) rfl (fun ac A12 => ?_)
    refine s_one (.bool (decide ((k : Int) < 64))) A12 S9 (g_move (by kernel_rfl)) rfl (fun ac A13 => ?_)
    refine by_bool (decide ((k : Int) < 64)) (fun h14 => ?_) (fun h14 => ?_)
    · have p15 := of_decide_eq_true h14
      refine s_want (dj := 7) (b := (decide ((k : Int) < 64))) A13 (by kernel_rfl) (by kernel_rfl) h14 ?_
      refine s_one (.int .i64 (k : Int)) A13 S9 (g_move (by kernel_rfl)) rfl (fun ac A16 => ?_)
      refine s_want (dj := 7) (b := (decide ((k : Int) < 64))) A16 (by kernel_rfl) (by kernel_rfl) h14 ?_
      refine s_one (.slice A n cap) A16 S9 (g_move (by kernel_rfl)) rfl (fun ac A17 => ?_)
      refine s_want (dj := 7) (b := (decide ((k : Int) < 64))) A17 (by kernel_rfl) (by kernel_rfl) h14 ?_
      refine s_one (.int .i64 (n : Int)) A17 S9 (g_built (r := [(0, .slice A n cap)]) (by kernel_rfl) (fun _ _ _ => by kernel_rfl)) rfl (fun ac A18 => ?_)
      refine s_want (dj := 7) (b := (decide ((k : Int) < 64))) A18 (by kernel_rfl) (by kernel_rfl) h14 ?_
      refine s_one (.bool (decide ((k : Int) < (n : Int)))) A18 S9 (g_bin (u := .int .i64 (k : Int)) (k := .int .i64 (n : Int)) (by kernel_rfl) (by kernel_rfl) (fun _ => by kernel_rfl) (fun _ => by kernel_rfl)) rfl (fun ac A19 => ?_)
      refine s_one (.bool (decide ((k : Int) < (n : Int)))) A19 S9 (g_pick_t (b := (decide ((k : Int) < 64))) (by kernel_rfl) h14 (by kernel_rfl)) rfl (fun ac A20 => ?_)
      refine wpList_nil ?_
      refine n_then ?_
      exact ⟨(A20.slot (A20.slot (A20.slot (A20.slot (A20.slot A20.nil (v := .int .i64 (k : Int)) (by kernel_rfl) rfl) (v := .pointer (some ⟨g6, 0, none⟩)) (by kernel_rfl) rfl) (v := .pointer (some ⟨g3, 0, none⟩)) (by kernel_rfl) rfl) (v := .slice A n cap) (by kernel_rfl) rfl) (v := .bool (decide ((k : Int) < (n : Int)))) (by kernel_rfl) (congrArg Value.bool (b_and_t h14 (Eq.refl (decide ((k : Int) < (n : Int))))).symm)), S9.sub sub_all sub_all⟩
    · have p21 := of_decide_eq_false h14
      refine s_not (dj := 7) (b := (decide ((k : Int) < 64))) A13 (by kernel_rfl) (by kernel_rfl) h14 rfl (fun ac A22 => ?_)
      refine s_not (dj := 7) (b := (decide ((k : Int) < 64))) A22 (by kernel_rfl) (by kernel_rfl) h14 rfl (fun ac A23 => ?_)
      refine s_not (dj := 7) (b := (decide ((k : Int) < 64))) A23 (by kernel_rfl) (by kernel_rfl) h14 rfl (fun ac A24 => ?_)
      refine s_not (dj := 7) (b := (decide ((k : Int) < 64))) A24 (by kernel_rfl) (by kernel_rfl) h14 rfl (fun ac A25 => ?_)
      refine s_one (.bool false) A25 S9 (g_pick_f (b := (decide ((k : Int) < 64))) (by kernel_rfl) h14 (by kernel_rfl)) rfl (fun ac A26 => ?_)
      refine wpList_nil ?_
      refine n_then ?_
      exact ⟨(A26.slot (A26.slot (A26.slot (A26.slot (A26.slot A26.nil (v := .int .i64 (k : Int)) (by kernel_rfl) rfl) (v := .pointer (some ⟨g6, 0, none⟩)) (by kernel_rfl) rfl) (v := .pointer (some ⟨g3, 0, none⟩)) (by kernel_rfl) rfl) (v := .slice A n cap) (by kernel_rfl) rfl) (v := .bool false) (by kernel_rfl) (congrArg Value.bool (b_af1 h14).symm)), S9.sub sub_all sub_all⟩
  · rintro ac wc ⟨A27, S28⟩
    refine n_then ?_
    refine c_ifb (b := ((decide ((k : Int) < 64)) && (decide ((k : Int) < (n : Int))))) A27 (by kernel_rfl) (fun h29 => ?_) (fun h29 => ?_)
    · have h30 := (Bool.and_eq_true_iff.1 h29).1
      have p31 := of_decide_eq_true h30
      have h32 := (Bool.and_eq_true_iff.1 h29).2
      have p33 := of_decide_eq_true h32
      refine wp_skip ?_
      refine n_then ?_
      refine wp_seq ?_
      refine wp_block ?_
      refine wp_region_lit ?_
      refine s_one (.int .i64 (k : Int)) A27 S28 (g_move (by kernel_rfl)) rfl (fun ac A34 => ?_)
      refine s_one (.slice A n cap) A34 S28 (g_move (by kernel_rfl)) rfl (fun ac A35 => ?_)
      refine s_one (.int .i64 (k : Int)) A35 S28 (g_move (by kernel_rfl)) rfl (fun ac A36 => ?_)
      obtain ⟨ad37, rfl, hc38⟩ := HR k (by omega)
      refine s_one (.pointer (some (ad37.add k))) A36 S28 (g_index (u := .slice (some ad37) n cap) (k := .int .i64 (k : Int)) (by kernel_rfl) (by kernel_rfl) (ix_x (e := 3) (bytes := 8) k (by kernel_rfl) (by omega) (by omega))) rfl (fun ac A39 => ?_)
      refine s_one (.int .i64 (nthI l k)) A39 S28 (g_loadX (by kernel_rfl) hc38 (by kernel_rfl)) rfl (fun ac A40 => ?_)
      refine s_one (.float .f32 (floatOfInt .f32 (nthI l k))) A40 S28 (g_conv (u := .int .i64 (nthI l k)) (by kernel_rfl) (fun _ => by kernel_rfl)) rfl (fun ac A41 => ?_)
      refine s_one (.pointer (some ⟨g6, k, none⟩)) A41 S28 (g_index (u := .pointer (some ⟨g6, 0, none⟩)) (k := .int .i64 (k : Int)) (by kernel_rfl) (by kernel_rfl) (ix_arr1 k (len := 64) (by kernel_rfl) (by omega) (by omega))) rfl (fun ac A42 => ?_)
      refine s_store (g := g6) (off := k) (v := .float .f32 (floatOfInt .f32 (nthI l k))) 0 (trc ((done 0 (fun i => floatOfInt .f32 (nthI l i)) 64 k).set k (floatOfInt .f32 (nthI l k)))) A42 S28 (by kernel_rfl) (by kernel_rfl) rfl ((pv_of (by kernel_rfl) rfl (by rw [trc_size, done_length _ _ _ _]; omega)).trans (congrArg some (trc_set (done 0 (fun i => floatOfInt .f32 (nthI l i)) 64 k) k (floatOfInt .f32 (nthI l k))))) (fun wc S44 => ?_)
      refine wpList_nil ?_
      refine n_block ?_
      refine n_then ?_
      refine wp_region_lit ?_
      refine s_one (.int .i64 (k : Int)) A42 S44 (g_move (by kernel_rfl)) rfl (fun ac A46 => ?_)
      refine s_one (.int .i64 ((k : Int) + 1)) A46 S44 (g_bin (u := .int .i64 (k : Int)) (k := .int .i64 1) (by kernel_rfl) (by kernel_rfl) (fun _ => by kernel_rfl) (b_add (by omega))) rfl (fun ac A47 => ?_)
      refine s_one (.int .i64 ((k : Int) + 1)) A47 S44 (g_assign (by kernel_rfl)) rfl (fun ac A48 => ?_)
      refine wpList_nil ?_
      refine n_then ?_
      refine ⟨_, ⟨k + 1, rfl, by omega, (A48.slot (A48.slot (A48.slot (A48.slot A48.nil (v := .int .i64 ((k : Int) + 1)) (by kernel_rfl) (congrArg (Value.int .i64) (by omega))) (v := .pointer (some ⟨g6, 0, none⟩)) (by kernel_rfl) rfl) (v := .pointer (some ⟨g3, 0, none⟩)) (by kernel_rfl) rfl) (v := .slice (some ad37) n cap) (by kernel_rfl) (by first | rfl | simp)), (St.recell 0 S44 rfl (congrArg trc (done_set 0 (fun i => floatOfInt .f32 (nthI l i)) 64 k))).sub sub_all sub_all⟩, ?_⟩
      omega
    · refine wp_exit ?_
      refine x_then ?_
      refine x_then ?_
      refine x_hit ?_
      refine n_then ?_
      refine wp_seq ?_
      refine wp_region_lit ?_
      refine s_one (.agg (trc (done 0 (fun i => floatOfInt .f32 (nthI l i)) 64 k))) A27 S28 (g_loadW (g := g6) 0 (by kernel_rfl) rfl ((trc_size _).trans (done_length _ _ _ _)) ⟨⟨_, Try.underlying38, rfl⟩, by kernel_rfl⟩) rfl (fun ac A49 => ?_)
      refine s_store (g := g3) (off := 0) (v := .agg (trc (done 0 (fun i => floatOfInt .f32 (nthI l i)) 64 k))) 1 (trc (done 0 (fun i => floatOfInt .f32 (nthI l i)) 64 k)) A49 S28 (by kernel_rfl) (by kernel_rfl) rfl (putVal_whole ((trc_size _).trans List.length_replicate) ((trc_size _).trans (done_length _ _ _ _)) ⟨⟨_, Try.underlying38, rfl⟩, by kernel_rfl⟩ (trc_one _)) (fun wc S51 => ?_)
      refine wpList_nil ?_
      refine n_then ?_
      refine wp_ret ?_
      refine fin1 (.agg (trc (done 0 (fun i => floatOfInt .f32 (nthI l i)) 64 k))) Try.results70 A49 S51 (rv_cell (g := g3) (off := 0) 1 (by kernel_rfl) rfl (rowVal_whole ((trc_size _).trans (done_length _ _ _ _)) ⟨⟨_, Try.underlying38, rfl⟩, by kernel_rfl⟩)) ⟨?_, S51.kp⟩
      have e : k = n := by simp at h29; omega
      rw [e]; rfl

def cutI (x : Int) : Int := mx (-4000) (mn 4000 x)
def cuts (l : List Int) : List Int := l.map cutI
theorem cuts_length (l : List Int) : (cuts l).length = l.length := by simp [cuts]
theorem cuts_snoc {l : List Int} {k : Nat} (h : k < l.length) : rowI ((cuts l).take k) ++ [.int .i64 (mx (-4000) (mn 4000 (nthI l k)))] = rowI ((cuts l).take (k + 1)) := by
  have e : nthI (cuts l) k = mx (-4000) (mn 4000 (nthI l k)) := by
    rw [nthI_eq (show k < (cuts l).length by rw [cuts_length]; exact h), nthI_eq h]
    simp [cuts, cutI]
  rw [rowI_snoc, take_snocI (by rw [cuts_length]; exact h), e]

set_option maxRecDepth 100000 in
set_option maxHeartbeats 400000 in
theorem made_s (l : List Int) (A : Option Addr) (cap n : Nat) (w0 : World) (hn : l.length = n) (hr : IReads w0 A l) (h64 : n ≤ 64) :
    Calls Try.prog 21 #[.slice A n cap] w0 fun e w' => e = .returned (.agg (trc (mkT (cuts l) n))) ∧ Below w0.heap.size w0 w' := by
  have S0 := St.start w0
  have HR : ∀ k, k < n → ∃ ad, A = some ad ∧ w0.cell? (ad.add k) = some (.int .i64 (nthI l k)) := fun k hk => hr k (by omega)
  refine enter (n := 22) Try.func21 rfl rfl rfl (fun ac A0 => ?_)
  refine wp_seq ?_
  refine wp_region_lit ?_
  refine s_alloc (trc (List.replicate 64 0)) A0 S0 zero26 rfl (fun g3 ac wc A1 S2 => ?_)
  refine wpList_nil ?_
  refine n_then ?_
  refine wp_seq ?_
  refine wp_region_lit ?_
  refine s_one (.slice none 0 0) A1 S2 (g_assign (by kernel_rfl)) rfl (fun ac A4 => ?_)
  refine wpList_nil ?_
  refine n_then ?_
  refine wp_seq ?_
  refine wp_seq ?_
  refine wp_region_lit ?_
  refine s_one (.int .i64 0) A4 S2 (g_assign (by kernel_rfl)) rfl (fun ac A5 => ?_)
  refine wpList_nil ?_
  refine n_then ?_
  refine wp_block ?_
  have S6 := S2.nilRow 3 1
  refine c_loopN (fun mm ac wc => ∃ (k : Nat) (v : Value), mm = n - k ∧ (k ≤ n) ∧ Fr 22 ac [(0, .slice A n cap), (2, .pointer (some ⟨g3, 0, none⟩)), (4, .int .i64 (k : Int)), (3, v)] ∧ St w0 [⟨g3, 38, (trc (List.replicate 64 0)), true⟩] [⟨v, 3, 1, k, (rowI ((cuts l).take k))⟩] wc) _ ⟨0, .slice none 0 0, rfl, by omega, (A5.slot (A5.slot (A5.slot (A5.slot A5.nil (v := .slice none 0 0) (by kernel_rfl) (by first | rfl | simp)) (v := .int .i64 0) (by kernel_rfl) (congrArg (Value.int .i64) (by omega))) (v := .pointer (some ⟨g3, 0, none⟩)) (by kernel_rfl) rfl) (v := .slice A n cap) (by kernel_rfl) rfl), (St.rerow 0 S6 rfl ⟨rfl, rfl⟩).sub sub_all sub_all⟩ ?_
  rintro mm ac wc ⟨k, v, hm9, hk, A7, S8⟩
  refine wp_seq ?_
  refine wp_seq ?_
  refine wp_region_lit ?_
  refine s_one (.int .i64 (k : Int)) A7 S8 (g_move (by kernel_rfl)) rfl (fun ac A10 => ?_)
  refine s_one (.slice A n cap) A10 S8 (g_move (by kernel_rfl)) rfl (fun ac A11 => ?_)
  refine s_one (.int .i64 (n : Int)) A11 S8 (g_built (r := [(0, .slice A n cap)]) (by kernel_rfl) (fun _ _ _ => by kernel_rfl)) rfl (fun ac A12 => ?_)
  refine s_one (.bool (decide ((k : Int) < (n : Int)))) A12 S8 (g_bin (u := .int .i64 (k : Int)) (k := .int .i64 (n : Int)) (by kernel_rfl) (by kernel_rfl) (fun _ => by kernel_rfl) (fun _ => by kernel_rfl)) rfl (fun ac A13 => ?_)
  refine wpList_nil ?_
  refine n_then ?_
  refine c_ifb (b := (decide ((k : Int) < (n : Int)))) A13 (by kernel_rfl) (fun h14 => ?_) (fun h14 => ?_)
  · have p15 := of_decide_eq_true h14
    refine wp_skip ?_
    refine n_then ?_
    refine wp_seq ?_
    refine wp_block ?_
    refine wp_region_lit ?_
    refine s_one (v) A13 S8 (g_move (by kernel_rfl)) rfl (fun ac A16 => ?_)
    refine s_one (.slice A n cap) A16 S8 (g_move (by kernel_rfl)) rfl (fun ac A17 => ?_)
    refine s_one (.int .i64 (k : Int)) A17 S8 (g_move (by kernel_rfl)) rfl (fun ac A18 => ?_)
    obtain ⟨ad19, rfl, hc20⟩ := HR k (by omega)
    refine s_one (.pointer (some (ad19.add k))) A18 S8 (g_index (u := .slice (some ad19) n cap) (k := .int .i64 (k : Int)) (by kernel_rfl) (by kernel_rfl) (ix_x (e := 3) (bytes := 8) k (by kernel_rfl) (by omega) (by omega))) rfl (fun ac A21 => ?_)
    refine s_one (.int .i64 (nthI l k)) A21 S8 (g_loadX (by kernel_rfl) hc20 (by kernel_rfl)) rfl (fun ac A22 => ?_)
    refine s_one (.int .i64 (mn 4000 (nthI l k))) A22 S8 (g_built (r := [(0, .int .i64 4000), (0, .int .i64 (nthI l k))]) (by kernel_rfl) (fun ty cs w => by show (do let x ← Builtin.min_ _ ty #[.int .i64 4000, .int .i64 (nthI l k)]; pure (Next.value x) : Sem Next).run _ w = _; rw [Sem.run_bind, run_min_mn]; rfl)) rfl (fun ac A23 => ?_)
    refine s_one (.int .i64 (mx (-4000) (mn 4000 (nthI l k)))) A23 S8 (g_built (r := [(0, .int .i64 (-4000)), (0, .int .i64 (mn 4000 (nthI l k)))]) (by kernel_rfl) (fun ty cs w => by show (do let x ← Builtin.max_ _ ty #[.int .i64 (-4000), .int .i64 (mn 4000 (nthI l k))]; pure (Next.value x) : Sem Next).run _ w = _; rw [Sem.run_bind, run_max_mx]; rfl)) rfl (fun ac A24 => ?_)
    refine s_bs (e := 3) (r := [(0, .int .i64 (mx (-4000) (mn 4000 (nthI l k))))]) (#[.int .i64 (mx (-4000) (mn 4000 (nthI l k)))]) A24 S8 (by kernel_rfl) (by kernel_rfl) rfl (fun g27 ac wc A25 S26 => ?_)
    refine s_append (e := 3) (size := 1) (bytes := 8) (v := v) (g := g27) (m' := 1) (c := 1) 0 0 [.int .i64 (mx (-4000) (mn 4000 (nthI l k)))] A25 S26 (by kernel_rfl) (by kernel_rfl) (by kernel_rfl) rfl rfl (by kernel_rfl) rfl (by kernel_rfl) (by omega) (by omega) rfl (fun v31 ac wc A28 S29 => ?_)
    refine s_one (v31) A28 S29 (g_assign (by kernel_rfl)) rfl (fun ac A32 => ?_)
    refine wpList_nil ?_
    refine n_block ?_
    refine n_then ?_
    refine wp_region_lit ?_
    refine s_one (.int .i64 (k : Int)) A32 S29 (g_move (by kernel_rfl)) rfl (fun ac A33 => ?_)
    refine s_one (.int .i64 ((k : Int) + 1)) A33 S29 (g_bin (u := .int .i64 (k : Int)) (k := .int .i64 1) (by kernel_rfl) (by kernel_rfl) (fun _ => by kernel_rfl) (b_add (by omega))) rfl (fun ac A34 => ?_)
    refine s_one (.int .i64 ((k : Int) + 1)) A34 S29 (g_assign (by kernel_rfl)) rfl (fun ac A35 => ?_)
    refine wpList_nil ?_
    refine n_then ?_
    refine ⟨_, ⟨k + 1, v31, rfl, by omega, (A35.slot (A35.slot (A35.slot (A35.slot A35.nil (v := v31) (by kernel_rfl) rfl) (v := .int .i64 ((k : Int) + 1)) (by kernel_rfl) (congrArg (Value.int .i64) (by omega))) (v := .pointer (some ⟨g3, 0, none⟩)) (by kernel_rfl) rfl) (v := .slice (some ad19) n cap) (by kernel_rfl) (by first | rfl | simp)), (St.rerow 0 S29 rfl ⟨rfl, cuts_snoc (by omega)⟩).sub (sub_skip sub_all) sub_all⟩, ?_⟩
    omega
  · have p36 := of_decide_eq_false h14
    refine wp_exit ?_
    refine x_then ?_
    refine x_then ?_
    refine x_hit ?_
    refine n_then ?_
    refine wp_seq ?_
    refine wp_region_lit ?_
    refine s_one (v) A13 S8 (g_move (by kernel_rfl)) rfl (fun ac A37 => ?_)
    obtain ⟨hl43, A41, cap42, rfl, hR44⟩ := rowI_reads (v := v) (m := k) (l := ((cuts l).take k)) (S8.row 0 rfl)
    refine s_call (fs := #[]) (cp := #[]) (r := [(0, .slice A41 k cap42)]) #[.slice A41 k cap42] (.agg (trc (mkT ((cuts l).take k) k))) A37 S8 (Trace_s ((cuts l).take k) A41 cap42 k _ hl43 hR44 (by omega)) Try.call70 (by kernel_rfl) (by kernel_rfl) (by kernel_rfl) rfl (fun ac wc A38 S39 => ?_)
    refine s_store (g := g3) (off := 0) (v := .agg (trc (mkT ((cuts l).take k) k))) 0 (trc (mkT ((cuts l).take k) k)) A38 S39 (by kernel_rfl) (by kernel_rfl) rfl (putVal_whole ((trc_size _).trans List.length_replicate) ((trc_size _).trans (done_length _ _ _ _)) ⟨⟨_, Try.underlying38, rfl⟩, by kernel_rfl⟩ (trc_one _)) (fun wc S46 => ?_)
    refine wpList_nil ?_
    refine n_then ?_
    refine wp_ret ?_
    refine fin1 (.agg (trc (mkT ((cuts l).take k) k))) Try.results21 A38 S46 (rv_cell (g := g3) (off := 0) 0 (by kernel_rfl) rfl (rowVal_whole ((trc_size _).trans (done_length _ _ _ _)) ⟨⟨_, Try.underlying38, rfl⟩, by kernel_rfl⟩)) ⟨?_, S46.kp⟩
    have e : k = n := by omega
    rw [e, List.take_of_length_le (by rw [cuts_length]; omega)]

theorem nums_snoc {xs : List Nat} {k : Nat} (h : k < 64) : rowI ((nums xs).take k) ++ [.int .i64 (num (nth xs k))] = rowI ((nums xs).take (k + 1)) := by
  have e : nthI (nums xs) k = num (nth xs k) := by
    rw [nthI_eq (show k < (nums xs).length by rw [nums_length]; exact h)]
    simp [nums]
  rw [rowI_snoc, take_snocI (by rw [nums_length]; exact h), e]

set_option maxRecDepth 100000 in
set_option maxHeartbeats 400000 in
theorem Ints_s (xs : List Nat) (w0 : World) (hl : xs.length = 64) (h0 : Right xs) :
    Calls Try.prog 90 #[.agg (trc xs)] w0 fun e w' => ∃ v, e = .returned v ∧ Below w0.heap.size w0 w' ∧ w'.ownsRow w0.heap.size 3 1 v 64 (rowI (nums xs)) := by
  have S0 := St.start w0
  have HR : ∀ k, k < 64 → sErr (nth xs k) = 0 := fun k hk => h0.at_ (by omega)
  refine enter (n := 17) Try.func90 rfl rfl rfl (fun ac A0 => ?_)
  refine wp_seq ?_
  refine wp_region_lit ?_
  refine s_box (.agg (trc xs)) A0 S0 (by kernel_rfl) rfl (fun g3 ac wc A1 S2 => ?_)
  replace S2 : St _ (⟨g3, 38, (trc xs), true⟩ :: _) _ _ := S2
  refine s_one (.slice none 0 0) A1 S2 (g_assign (by kernel_rfl)) rfl (fun ac A5 => ?_)
  refine wpList_nil ?_
  refine n_then ?_
  refine wp_seq ?_
  refine wp_region_lit ?_
  refine s_one (.slice none 0 0) A5 S2 (g_assign (by kernel_rfl)) rfl (fun ac A6 => ?_)
  refine wpList_nil ?_
  refine n_then ?_
  refine wp_seq ?_
  refine wp_seq ?_
  refine wp_region_lit ?_
  refine s_one (.int .i64 0) A6 S2 (g_assign (by kernel_rfl)) rfl (fun ac A7 => ?_)
  refine wpList_nil ?_
  refine n_then ?_
  refine wp_block ?_
  have S8 := S2.nilRow 3 1
  refine c_loopN (fun mm ac wc => ∃ (k : Nat) (v : Value), mm = 64 - k ∧ (k ≤ 64) ∧ Fr 17 ac [(0, .agg (trc xs)), (1, .pointer (some ⟨g3, 0, none⟩)), (2, .slice none 0 0), (4, .int .i64 (k : Int)), (3, v)] ∧ St w0 [⟨g3, 38, (trc xs), true⟩] [⟨v, 3, 1, k, (rowI ((nums xs).take k))⟩] wc) _ ⟨0, .slice none 0 0, rfl, by omega, (A7.slot (A7.slot (A7.slot (A7.slot (A7.slot A7.nil (v := .slice none 0 0) (by kernel_rfl) (by first | rfl | simp)) (v := .int .i64 0) (by kernel_rfl) (congrArg (Value.int .i64) (by omega))) (v := .slice none 0 0) (by kernel_rfl) rfl) (v := .pointer (some ⟨g3, 0, none⟩)) (by kernel_rfl) rfl) (v := .agg (trc xs)) (by kernel_rfl) rfl), (St.rerow 0 S8 rfl ⟨rfl, rfl⟩).sub sub_all sub_all⟩ ?_
  rintro mm ac wc ⟨k, v, hm11, hk, A9, S10⟩
  refine wp_seq ?_
  refine wp_seq ?_
  refine wp_region_lit ?_
  refine s_one (.int .i64 (k : Int)) A9 S10 (g_move (by kernel_rfl)) rfl (fun ac A12 => ?_)
  refine s_one (.bool (decide ((k : Int) < 64))) A12 S10 (g_bin (u := .int .i64 (k : Int)) (k := .int .i64 64) (by kernel_rfl) (by kernel_rfl) (fun _ => by kernel_rfl) (fun _ => by kernel_rfl)) rfl (fun ac A13 => ?_)
  refine wpList_nil ?_
  refine n_then ?_
  refine c_ifb (b := (decide ((k : Int) < 64))) A13 (by kernel_rfl) (fun h14 => ?_) (fun h14 => ?_)
  · have p15 := of_decide_eq_true h14
    refine wp_skip ?_
    refine n_then ?_
    refine wp_seq ?_
    refine wp_block ?_
    refine wp_region_lit ?_
    refine s_one (v) A13 S10 (g_move (by kernel_rfl)) rfl (fun ac A16 => ?_)
    refine s_one (.int .i64 (k : Int)) A16 S10 (g_move (by kernel_rfl)) rfl (fun ac A17 => ?_)
    refine s_one (.pointer (some ⟨g3, k, none⟩)) A17 S10 (g_index (u := .pointer (some ⟨g3, 0, none⟩)) (k := .int .i64 (k : Int)) (by kernel_rfl) (by kernel_rfl) (ix_arr1 k (len := 64) (by kernel_rfl) (by omega) (by omega))) rfl (fun ac A18 => ?_)
    refine s_one (.float .f32 (nth xs k)) A18 S10 (g_load (g := g3) (off := k) 0 (by kernel_rfl) rfl (rv_of (by kernel_rfl) (trc_get (by rw [hl]; omega)))) rfl (fun ac A19 => ?_)
    refine s_one (.int .i64 (num (nth xs k))) A19 S10 (g_conv (u := .float .f32 (nth xs k)) (by kernel_rfl) (run_toInt (HR _ (by omega)))) rfl (fun ac A20 => ?_)
    refine s_bs (e := 3) (r := [(0, .int .i64 (num (nth xs k)))]) (#[.int .i64 (num (nth xs k))]) A20 S10 (by kernel_rfl) (by kernel_rfl) rfl (fun g23 ac wc A21 S22 => ?_)
    refine s_append (e := 3) (size := 1) (bytes := 8) (v := v) (g := g23) (m' := 1) (c := 1) 0 0 [.int .i64 (num (nth xs k))] A21 S22 (by kernel_rfl) (by kernel_rfl) (by kernel_rfl) rfl rfl (by kernel_rfl) rfl (by kernel_rfl) (by omega) (by omega) rfl (fun v27 ac wc A24 S25 => ?_)
    refine s_one (v27) A24 S25 (g_assign (by kernel_rfl)) rfl (fun ac A28 => ?_)
    refine wpList_nil ?_
    refine n_block ?_
    refine n_then ?_
    refine wp_region_lit ?_
    refine s_one (.int .i64 (k : Int)) A28 S25 (g_move (by kernel_rfl)) rfl (fun ac A29 => ?_)
    refine s_one (.int .i64 ((k : Int) + 1)) A29 S25 (g_bin (u := .int .i64 (k : Int)) (k := .int .i64 1) (by kernel_rfl) (by kernel_rfl) (fun _ => by kernel_rfl) (b_add (by omega))) rfl (fun ac A30 => ?_)
    refine s_one (.int .i64 ((k : Int) + 1)) A30 S25 (g_assign (by kernel_rfl)) rfl (fun ac A31 => ?_)
    refine wpList_nil ?_
    refine n_then ?_
    refine ⟨_, ⟨k + 1, v27, rfl, by omega, (A31.slot (A31.slot (A31.slot (A31.slot (A31.slot A31.nil (v := v27) (by kernel_rfl) rfl) (v := .int .i64 ((k : Int) + 1)) (by kernel_rfl) (congrArg (Value.int .i64) (by omega))) (v := .slice none 0 0) (by kernel_rfl) rfl) (v := .pointer (some ⟨g3, 0, none⟩)) (by kernel_rfl) rfl) (v := .agg (trc xs)) (by kernel_rfl) rfl), (St.rerow 0 S25 rfl ⟨rfl, nums_snoc (by omega)⟩).sub (sub_skip sub_all) sub_all⟩, ?_⟩
    omega
  · have p32 := of_decide_eq_false h14
    refine wp_exit ?_
    refine x_then ?_
    refine x_then ?_
    refine x_hit ?_
    refine n_then ?_
    refine wp_seq ?_
    refine wp_region_lit ?_
    refine s_one (v) A13 S10 (g_move (by kernel_rfl)) rfl (fun ac A33 => ?_)
    refine s_one (v) A33 S10 (g_assign (by kernel_rfl)) rfl (fun ac A34 => ?_)
    refine wpList_nil ?_
    refine n_then ?_
    refine wp_ret ?_
    refine finR 0 (v) Try.results90 A34 S10 (by kernel_rfl) rfl (fun w' hb ho => ⟨_, rfl, hb, ?_⟩)
    obtain rfl : k = 64 := by omega
    rw [List.take_of_length_le (by rw [nums_length]; omega)] at ho
    exact ho

theorem parts_snoc {l : List Int} {k : Nat} (h : k < 61) : rowP ((partsL l).take k) ++ [.int .i64 (nthI l k - nthI l (k + 2)), .int .i64 (nthI l (k + 1) - nthI l (k + 3))] = rowP ((partsL l).take (k + 1)) := by
  rw [rowP_snoc, List.take_add_one, List.getElem?_eq_getElem (by rw [partsL_length]; exact h)]
  simp [partsL, reP, imP]

end Go.Proofs.Ytcijkniijomcjaa
