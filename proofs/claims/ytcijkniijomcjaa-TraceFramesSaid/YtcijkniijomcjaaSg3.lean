/- Texts of the proof of TraceFrames, put together (part 3): Refs, Peak, Lag, Times, Awake, Mat2, Mat3. -/
import Derived.Test.YtcijkniijomcjaaSg2
import Derived.Deep.DeepCutAuto
/- The reference's functions on traces. -/
namespace Go.Proofs.Ytcijkniijomcjaa
open Go.RowKit Go.Cpl

/-- The trace of numbers. -/
def mkT (l : List Int) (n : Nat) : List Nat := done 0 (fun i => floatOfInt .f32 (nthI l i)) 64 n

set_option maxRecDepth 100000 in
set_option maxHeartbeats 400000 in
theorem Trace_s (l : List Int) (A : Option Addr) (cap n : Nat) (w0 : World) (hn : l.length = n) (hr : IReads w0 A l) (h64 : n ≤ 64) :
    Calls Try.prog 70 #[.slice A n cap] w0 fun e w' => e = .returned (.agg (trc (mkT l n))) ∧ Below w0.heap.size w0 w' := by
  have S0 := St.start w0
  have HR : ∀ k, k < n → ∃ ad, A = some ad ∧ w0.cell? (ad.add k) = some (.int .i64 (nthI l k)) := fun k hk => hr k (by omega)
  refine enter (n := 23) Try.func70 rfl rfl rfl (fun ac A0 => ?_)
  refine wp_seq ?_
  refine wp_region_lit ?_
  refine s_alloc (trc (List.replicate 64 0)) A0 S0 zero26 rfl (fun g3 ac wc A1 S2 => ?_)
  refine wpList_nil ?_
  refine n_then ?_
  refine wp_seq ?_
  refine wp_region_lit ?_
  refine s_alloc (trc (List.replicate 64 0)) A1 S2 zero26 rfl (fun g6 ac wc A4 S5 => ?_)
  refine wpList_nil ?_
  refine n_then ?_
  refine wp_seq ?_
  refine wp_seq ?_
  refine wp_region_lit ?_
  refine s_one (.int .i64 0) A4 S5 (g_assign (by kernel_rfl)) rfl (fun ac A7 => ?_)
  refine wpList_nil ?_
  refine n_then ?_
  refine wp_block ?_
  refine c_loopN (fun mm ac wc => ∃ (k : Nat), mm = 64 - k ∧ (k ≤ n) ∧ Fr 23 ac [(0, .slice A n cap), (2, .pointer (some ⟨g3, 0, none⟩)), (3, .pointer (some ⟨g6, 0, none⟩)), (4, .int .i64 (k : Int))] ∧ St w0 [⟨g6, 38, (trc (done 0 (fun i => floatOfInt .f32 (nthI l i)) 64 k)), true⟩, ⟨g3, 38, (trc (List.replicate 64 0)), true⟩] [] wc) _ ⟨0, rfl, by omega, (A7.slot (A7.slot (A7.slot (A7.slot A7.nil (v := .int .i64 0) (by kernel_rfl) (congrArg (Value.int .i64) (by omega))) (v := .pointer (some ⟨g6, 0, none⟩)) (by kernel_rfl) rfl) (v := .pointer (some ⟨g3, 0, none⟩)) (by kernel_rfl) rfl) (v := .slice A n cap) (by kernel_rfl) rfl), (St.recell 0 S5 rfl (congrArg trc (done_zero 0 (fun i => floatOfInt .f32 (nthI l i)) 64).symm)).sub sub_all sub_all⟩ ?_
  rintro mm ac wc ⟨k, hm10, hk, A8, S9⟩
  refine wp_seq ?_
  refine wp_seq ?_
  refine c_cut (fun ac wc => Fr 23 ac [(12, .bool ((decide ((k : Int) < 64)) && (decide ((k : Int) < (n : Int))))), (0, .slice A n cap), (2, .pointer (some ⟨g3, 0, none⟩)), (3, .pointer (some ⟨g6, 0, none⟩)), (4, .int .i64 (k : Int))] ∧ St w0 [⟨g6, 38, (trc (done 0 (fun i => floatOfInt .f32 (nthI l i)) 64 k)), true⟩, ⟨g3, 38, (trc (List.replicate 64 0)), true⟩] [] wc) ?_ ?_
  · refine wp_region_lit ?_
    refine s_one (.int .i64 (k : Int)) A8 S9 (g_move (by kernel_rfl)) rfl (fun ac A11 => ?_)
    refine s_one (.bool (decide ((k : Int) < 64))) A11 S9 (g_bin (u := .int .i64 (k : Int)) (k := .int .i64 64) (by kernel_rfl) (by kernel_rfl) (fun _ => by kernel_rfl) (fun _ => by kernel_rfl)) rfl (fun ac A12 => ?_)
    refine s_one (.bool (decide ((k : Int) < 64))) A12 S9 (g_move (by kernel_rfl)) rfl (fun ac A13 => ?_)
    refine by_bool (decide ((k : Int) < 64)) (fun h14 => ?_) (fun h14 => ?_)
    · have p15 := of_decide_eq_true h14
      refine s_want (dj := 7) (b := (decide ((k : Int) < 64))) A13 (by kernel_rfl) (by kernel_rfl) h14 ?_
      refine s_one (.int .i64 (k : Int)) A13 S9 (g_move (by kernel_rfl)) rfl (fun ac A16 => ?_)
      refine s_want (dj := 7) (b := (decide ((k : Int) < 64))) A16 (by kernel_rfl) (by kernel_rfl) h14 ?_
      refine s_one (.slice A n cap) A16 S9 (g_move (by kernel_rfl)) rfl (fun ac A17 => ?_)
      refine s_want (dj := 7) (b := (decide ((k : Int) < 64))) A17 (by kernel_rfl) (by kernel_rfl) h14 ?_
      refine s_one (.int .i64 (n : Int)) A17 S9 (g_built (r := [(0, .slice A n cap)]) (by kernel_rfl) (fun _ _ _ => by kernel_rfl)) rfl (fun ac A18 => ?_)
      refine s_want (dj := 7) (b := (decide ((k : Int) < 64))) A18 (by kernel_rfl) (by kernel_rfl) h14 ?_
      refine s_one (.bool (decide ((k : Int) < (n : Int)))) A18 S9 (g_bin (u := .int .i64 (k : Int)) (k := .int .i64 (n : Int)) (by kernel_rfl) (by kernel_rfl) (fun _ => by kernel_rfl) (fun _ => by kernel_rfl)) rfl (fun ac A19 => ?_)
      refine s_one (.bool (decide ((k : Int) < (n : Int)))) A19 S9 (g_pick_t (b := (decide ((k : Int) < 64))) (by kernel_rfl) h14 (by kernel_rfl)) rfl (fun ac A20 => ?_)
      refine wpList_nil ?_
      refine n_then ?_
      exact ⟨(A20.slot (A20.slot (A20.slot (A20.slot (A20.slot A20.nil (v := .int .i64 (k : Int)) (by kernel_rfl) rfl) (v := .pointer (some ⟨g6, 0, none⟩)) (by kernel_rfl) rfl) (v := .pointer (some ⟨g3, 0, none⟩)) (by kernel_rfl) rfl) (v := .slice A n cap) (by kernel_rfl) rfl) (v := .bool (decide ((k : Int) < (n : Int)))) (by kernel_rfl) (congrArg Value.bool (b_and_t h14 (Eq.refl (decide ((k : Int) < (n : Int))))).symm)), S9.sub sub_all sub_all⟩
    · have p21 := of_decide_eq_false h14
      refine s_not (dj := 7) (b := (decide ((k : Int) < 64))) A13 (by kernel_rfl) (by kernel_rfl) h14 rfl (fun ac A22 => ?_)
      refine s_not (dj := 7) (b := (decide ((k : Int) < 64))) A22 (by kernel_rfl) (by kernel_rfl) h14 rfl (fun ac A23 => ?_)
      refine s_not (dj := 7) (b := (decide ((k : Int) < 64))) A23 (by kernel_rfl) (by kernel_rfl) h14 rfl (fun ac A24 => ?_)
      refine s_not (dj := 7) (b := (decide ((k : Int) < 64))) A24 (by kernel_rfl) (by kernel_rfl) h14 rfl (fun ac A25 => ?_)
      refine s_one (.bool false) A25 S9 (g_pick_f (b := (decide ((k : Int) < 64))) (by kernel_rfl) h14 (by kernel_rfl)) rfl (fun ac A26 => ?_)
      refine wpList_nil ?_
      refine n_then ?_
      exact ⟨(A26.slot (A26.slot (A26.slot (A26.slot (A26.slot A26.nil (v := .int .i64 (k : Int)) (by kernel_rfl) rfl) (v := .pointer (some ⟨g6, 0, none⟩)) (by kernel_rfl) rfl) (v := .pointer (some ⟨g3, 0, none⟩)) (by kernel_rfl) rfl) (v := .slice A n cap) (by kernel_rfl) rfl) (v := .bool false) (by kernel_rfl) (congrArg Value.bool (b_af1 h14).symm)), S9.sub sub_all sub_all⟩
  · rintro ac wc ⟨A27, S28⟩
    refine n_then ?_
    refine c_ifb (b := ((decide ((k : Int) < 64)) && (decide ((k : Int) < (n : Int))))) A27 (by kernel_rfl) (fun h29 => ?_) (fun h29 => ?_)
    · have h30 := (Bool.and_eq_true_iff.1 h29).1
      have p31 := of_decide_eq_true h30
      have h32 := (Bool.and_eq_true_iff.1 h29).2
      have p33 := of_decide_eq_true h32
      refine wp_skip ?_
      refine n_then ?_
      refine wp_seq ?_
      refine wp_block ?_
      refine wp_region_lit ?_
      refine s_one (.int .i64 (k : Int)) A27 S28 (g_move (by kernel_rfl)) rfl (fun ac A34 => ?_)
      refine s_one (.slice A n cap) A34 S28 (g_move (by kernel_rfl)) rfl (fun ac A35 => ?_)
      refine s_one (.int .i64 (k : Int)) A35 S28 (g_move (by kernel_rfl)) rfl (fun ac A36 => ?_)
      obtain ⟨ad37, rfl, hc38⟩ := HR k (by omega)
      refine s_one (.pointer (some (ad37.add k))) A36 S28 (g_index (u := .slice (some ad37) n cap) (k := .int .i64 (k : Int)) (by kernel_rfl) (by kernel_rfl) (ix_x (e := 3) (bytes := 8) k (by kernel_rfl) (by omega) (by omega))) rfl (fun ac A39 => ?_)
      refine s_one (.int .i64 (nthI l k)) A39 S28 (g_loadX (by kernel_rfl) hc38 (by kernel_rfl)) rfl (fun ac A40 => ?_)
      refine s_one (.float .f32 (floatOfInt .f32 (nthI l k))) A40 S28 (g_conv (u := .int .i64 (nthI l k)) (by kernel_rfl) (fun _ => by kernel_rfl)) rfl (fun ac A41 => ?_)
      refine s_one (.pointer (some ⟨g6, k, none⟩)) A41 S28 (g_index (u := .pointer (some ⟨g6, 0, none⟩)) (k := .int .i64 (k : Int)) (by kernel_rfl) (by kernel_rfl) (ix_arr1 k (len := 64) (by kernel_rfl) (by omega) (by omega))) rfl (fun ac A42 => ?_)
      refine s_store (g := g6) (off := k) (v := .float .f32 (floatOfInt .f32 (nthI l k))) 0 (trc ((done 0 (fun i => floatOfInt .f32 (nthI l i)) 64 k).set k (floatOfInt .f32 (nthI l k)))) A42 S28 (by kernel_rfl) (by kernel_rfl) rfl ((pv_of (by kernel_rfl) rfl (by rw [trc_size, done_length _ _ _ _]; omega)).trans (congrArg some (trc_set (done 0 (fun i => floatOfInt .f32 (nthI l i)) 64 k) k (floatOfInt .f32 (nthI l k))))) (fun wc S44 => ?_)
      refine wpList_nil ?_
      refine n_block ?_
      refine n_then ?_
      refine wp_region_lit ?_
      refine s_one (.int .i64 (k : Int)) A42 S44 (g_move (by kernel_rfl)) rfl (fun ac A46 => ?_)
      refine s_one (.int .i64 ((k : Int) + 1)) A46 S44 (g_bin (u := .int .i64 (k : Int)) (k := .int .i64 1) (by kernel_rfl) (by kernel_rfl) (fun _ => by kernel_rfl) (b_add (by omega))) rfl (fun ac A47 => ?_)
      refine s_one (.int .i64 ((k : Int) + 1)) A47 S44 (g_assign (by kernel_rfl)) rfl (fun ac A48 => ?_)
      refine wpList_nil ?_
      refine n_then ?_
      refine ⟨_, ⟨k + 1, rfl, by omega, (A48.slot (A48.slot (A48.slot (A48.slot A48.nil (v := .int .i64 ((k : Int) + 1)) (by kernel_rfl) (congrArg (Value.int .i64) (by omega))) (v := .pointer (some ⟨g6, 0, none⟩)) (by kernel_rfl) rfl) (v := .pointer (some ⟨g3, 0, none⟩)) (by kernel_rfl) rfl) (v := .slice (some ad37) n cap) (by kernel_rfl) (by first | rfl | simp)), (St.recell 0 S44 rfl (congrArg trc (done_set 0 (fun i => floatOfInt .f32 (nthI l i)) 64 k))).sub sub_all sub_all⟩, ?_⟩
      omega
    · refine wp_exit ?_
      refine x_then ?_
      refine x_then ?_
      refine x_hit ?_
      refine n_then ?_
      refine wp_seq ?_
      refine wp_region_lit ?_
      refine s_one (.agg (trc (done 0 (fun i => floatOfInt .f32 (nthI l i)) 64 k))) A27 S28 (g_loadW (g := g6) 0 (by kernel_rfl) rfl ((trc_size _).trans (done_length _ _ _ _)) ⟨⟨_, Try.underlying38, rfl⟩, by kernel_rfl⟩) rfl (fun ac A49 => ?_)
      refine s_store (g := g3) (off := 0) (v := .agg (trc (done 0 (fun i => floatOfInt .f32 (nthI l i)) 64 k))) 1 (trc (done 0 (fun i => floatOfInt .f32 (nthI l i)) 64 k)) A49 S28 (by kernel_rfl) (by kernel_rfl) rfl (putVal_whole ((trc_size _).trans List.length_replicate) ((trc_size _).trans (done_length _ _ _ _)) ⟨⟨_, Try.underlying38, rfl⟩, by kernel_rfl⟩ (trc_one _)) (fun wc S51 => ?_)
      refine wpList_nil ?_
      refine n_then ?_
      refine wp_ret ?_
      refine fin1 (.agg (trc (done 0 (fun i => floatOfInt .f32 (nthI l i)) 64 k))) Try.results70 A49 S51 (rv_cell (g := g3) (off := 0) 1 (by kernel_rfl) rfl (rowVal_whole ((trc_size _).trans (done_length _ _ _ _)) ⟨⟨_, Try.underlying38, rfl⟩, by kernel_rfl⟩)) ⟨?_, S51.kp⟩
      have e : k = n := by simp at h29; omega
      rw [e]; rfl

def cutI (x : Int) : Int := mx (-4000) (mn 4000 x)
def cuts (l : List Int) : List Int := l.map cutI
theorem cuts_length (l : List Int) : (cuts l).length = l.length := by simp [cuts]
theorem cuts_snoc {l : List Int} {k : Nat} (h : k < l.length) : rowI ((cuts l).take k) ++ [.int .i64 (mx (-4000) (mn 4000 (nthI l k)))] = rowI ((cuts l).take (k + 1)) := by
  have e : nthI (cuts l) k = mx (-4000) (mn 4000 (nthI l k)) := by
    rw [nthI_eq (show k < (cuts l).length by rw [cuts_length]; exact h), nthI_eq h]
    simp [cuts, cutI]
  rw [rowI_snoc, take_snocI (by rw [cuts_length]; exact h), e]

set_option maxRecDepth 100000 in
set_option maxHeartbeats 400000 in
theorem made_s (l : List Int) (A : Option Addr) (cap n : Nat) (w0 : World) (hn : l.length = n) (hr : IReads w0 A l) (h64 : n ≤ 64) :
    Calls Try.prog 21 #[.slice A n cap] w0 fun e w' => e = .returned (.agg (trc (mkT (cuts l) n))) ∧ Below w0.heap.size w0 w' := by
  have S0 := St.start w0
  have HR : ∀ k, k < n → ∃ ad, A = some ad ∧ w0.cell? (ad.add k) = some (.int .i64 (nthI l k)) := fun k hk => hr k (by omega)
  refine enter (n := 22) Try.func21 rfl rfl rfl (fun ac A0 => ?_)
  refine wp_seq ?_
  refine wp_region_lit ?_
  refine s_alloc (trc (List.replicate 64 0)) A0 S0 zero26 rfl (fun g3 ac wc A1 S2 => ?_)
  refine wpList_nil ?_
  refine n_then ?_
  refine wp_seq ?_
  refine wp_region_lit ?_
  refine s_one (.slice none 0 0) A1 S2 (g_assign (by kernel_rfl)) rfl (fun ac A4 => ?_)
  refine wpList_nil ?_
  refine n_then ?_
  refine wp_seq ?_
  refine wp_seq ?_
  refine wp_region_lit ?_
  refine s_one (.int .i64 0) A4 S2 (g_assign (by kernel_rfl)) rfl (fun ac A5 => ?_)
  refine wpList_nil ?_
  refine n_then ?_
  refine wp_block ?_
  have S6 := S2.nilRow 3 1
  refine c_loopN (fun mm ac wc => ∃ (k : Nat) (v : Value), mm = n - k ∧ (k ≤ n) ∧ Fr 22 ac [(0, .slice A n cap), (2, .pointer (some ⟨g3, 0, none⟩)), (4, .int .i64 (k : Int)), (3, v)] ∧ St w0 [⟨g3, 38, (trc (List.replicate 64 0)), true⟩] [⟨v, 3, 1, k, (rowI ((cuts l).take k))⟩] wc) _ ⟨0, .slice none 0 0, rfl, by omega, (A5.slot (A5.slot (A5.slot (A5.slot A5.nil (v := .slice none 0 0) (by kernel_rfl) (by first | rfl | simp)) (v := .int .i64 0) (by kernel_rfl) (congrArg (Value.int .i64) (by omega))) (v := .pointer (some ⟨g3, 0, none⟩)) (by kernel_rfl) rfl) (v := .slice A n cap) (by kernel_rfl) rfl), (St.rerow 0 S6 rfl ⟨rfl, rfl⟩).sub sub_all sub_all⟩ ?_
  rintro mm ac wc ⟨k, v, hm9, hk, A7, S8⟩
  refine wp_seq ?_
  refine wp_seq ?_
  refine wp_region_lit ?_
  refine s_one (.int .i64 (k : Int)) A7 S8 (g_move (by kernel_rfl)) rfl (fun ac A10 => ?_)
  refine s_one (.slice A n cap) A10 S8 (g_move (by kernel_rfl)) rfl (fun ac A11 => ?_)
  refine s_one (.int .i64 (n : Int)) A11 S8 (g_built (r := [(0, .slice A n cap)]) (by kernel_rfl) (fun _ _ _ => by kernel_rfl)) rfl (fun ac A12 => ?_)
  refine s_one (.bool (decide ((k : Int) < (n : Int)))) A12 S8 (g_bin (u := .int .i64 (k : Int)) (k := .int .i64 (n : Int)) (by kernel_rfl) (by kernel_rfl) (fun _ => by kernel_rfl) (fun _ => by kernel_rfl)) rfl (fun ac A13 => ?_)
  refine wpList_nil ?_
  refine n_then ?_
  refine c_ifb (b := (decide ((k : Int) < (n : Int)))) A13 (by kernel_rfl) (fun h14 => ?_) (fun h14 => ?_)
  · have p15 := of_decide_eq_true h14
    refine wp_skip ?_
    refine n_then ?_
    refine wp_seq ?_
    refine wp_block ?_
    refine wp_region_lit ?_
    refine s_one (v) A13 S8 (g_move (by kernel_rfl)) rfl (fun ac A16 => ?_)
    refine s_one (.slice A n cap) A16 S8 (g_move (by kernel_rfl)) rfl (fun ac A17 => ?_)
    refine s_one (.int .i64 (k : Int)) A17 S8 (g_move (by kernel_rfl)) rfl (fun ac A18 => ?_)
    obtain ⟨ad19, rfl, hc20⟩ := HR k (by omega)
    refine s_one (.pointer (some (ad19.add k))) A18 S8 (g_index (u := .slice (some ad19) n cap) (k := .int .i64 (k : Int)) (by kernel_rfl) (by kernel_rfl) (ix_x (e := 3) (bytes := 8) k (by kernel_rfl) (by omega) (by omega))) rfl (fun ac A21 => ?_)
    refine s_one (.int .i64 (nthI l k)) A21 S8 (g_loadX (by kernel_rfl) hc20 (by kernel_rfl)) rfl (fun ac A22 => ?_)
    refine s_one (.int .i64 (mn 4000 (nthI l k))) A22 S8 (g_built (r := [(0, .int .i64 4000), (0, .int .i64 (nthI l k))]) (by kernel_rfl) (fun ty cs w => by show (do let x ← Builtin.min_ _ ty #[.int .i64 4000, .int .i64 (nthI l k)]; pure (Next.value x) : Sem Next).run _ w = _; rw [Sem.run_bind, run_min_mn]; rfl)) rfl (fun ac A23 => ?_)
    refine s_one (.int .i64 (mx (-4000) (mn 4000 (nthI l k)))) A23 S8 (g_built (r := [(0, .int .i64 (-4000)), (0, .int .i64 (mn 4000 (nthI l k)))]) (by kernel_rfl) (fun ty cs w => by show (do let x ← Builtin.max_ _ ty #[.int .i64 (-4000), .int .i64 (mn 4000 (nthI l k))]; pure (Next.value x) : Sem Next).run _ w = _; rw [Sem.run_bind, run_max_mx]; rfl)) rfl (fun ac A24 => ?_)
    refine s_bs (e := 3) (r := [(0, .int .i64 (mx (-4000) (mn 4000 (nthI l k))))]) (#[.int .i64 (mx (-4000) (mn 4000 (nthI l k)))]) A24 S8 (by kernel_rfl) (by kernel_rfl) rfl (fun g27 ac wc A25 S26 => ?_)
    refine s_append (e := 3) (size := 1) (bytes := 8) (v := v) (g := g27) (m' := 1) (c := 1) 0 0 [.int .i64 (mx (-4000) (mn 4000 (nthI l k)))] A25 S26 (by kernel_rfl) (by kernel_rfl) (by kernel_rfl) rfl rfl (by kernel_rfl) rfl (by kernel_rfl) (by omega) (by omega) rfl (fun v31 ac wc A28 S29 => ?_)
    refine s_one (v31) A28 S29 (g_assign (by kernel_rfl)) rfl (fun ac A32 => ?_)
    refine wpList_nil ?_
    refine n_block ?_
    refine n_then ?_
    refine wp_region_lit ?_
    refine s_one (.int .i64 (k : Int)) A32 S29 (g_move (by kernel_rfl)) rfl (fun ac A33 => ?_)
    refine s_one (.int .i64 ((k : Int) + 1)) A33 S29 (g_bin (u := .int .i64 (k : Int)) (k := .int .i64 1) (by kernel_rfl) (by kernel_rfl) (fun _ => by kernel_rfl) (b_add (by omega))) rfl (fun ac A34 => ?_)
    refine s_one (.int .i64 ((k : Int) + 1)) A34 S29 (g_assign (by kernel_rfl)) rfl (fun ac A35 => ?_)
    refine wpList_nil ?_
    refine n_then ?_
    refine ⟨_, ⟨k + 1, v31, rfl, by omega, (A35.slot (A35.slot (A35.slot (A35.slot A35.nil (v := v31) (by kernel_rfl) rfl) (v := .int .i64 ((k : Int) + 1)) (by kernel_rfl) (congrArg (Value.int .i64) (by omega))) (v := .pointer (some ⟨g3, 0, none⟩)) (by kernel_rfl) rfl) (v := .slice (some ad19) n cap) (by kernel_rfl) (by first | rfl | simp)), (St.rerow 0 S29 rfl ⟨rfl, cuts_snoc (by omega)⟩).sub (sub_skip sub_all) sub_all⟩, ?_⟩
    omega
  · have p36 := of_decide_eq_false h14
    refine wp_exit ?_
    refine x_then ?_
    refine x_then ?_
    refine x_hit ?_
    refine n_then ?_
    refine wp_seq ?_
    refine wp_region_lit ?_
    refine s_one (v) A13 S8 (g_move (by kernel_rfl)) rfl (fun ac A37 => ?_)
    obtain ⟨hl43, A41, cap42, rfl, hR44⟩ := rowI_reads (v := v) (m := k) (l := ((cuts l).take k)) (S8.row 0 rfl)
    refine s_call (fs := #[]) (cp := #[]) (r := [(0, .slice A41 k cap42)]) #[.slice A41 k cap42] (.agg (trc (mkT ((cuts l).take k) k))) A37 S8 (Trace_s ((cuts l).take k) A41 cap42 k _ hl43 hR44 (by omega)) Try.call70 (by kernel_rfl) (by kernel_rfl) (by kernel_rfl) rfl (fun ac wc A38 S39 => ?_)
    refine s_store (g := g3) (off := 0) (v := .agg (trc (mkT ((cuts l).take k) k))) 0 (trc (mkT ((cuts l).take k) k)) A38 S39 (by kernel_rfl) (by kernel_rfl) rfl (putVal_whole ((trc_size _).trans List.length_replicate) ((trc_size _).trans (done_length _ _ _ _)) ⟨⟨_, Try.underlying38, rfl⟩, by kernel_rfl⟩ (trc_one _)) (fun wc S46 => ?_)
    refine wpList_nil ?_
    refine n_then ?_
    refine wp_ret ?_
    refine fin1 (.agg (trc (mkT ((cuts l).take k) k))) Try.results21 A38 S46 (rv_cell (g := g3) (off := 0) 0 (by kernel_rfl) rfl (rowVal_whole ((trc_size _).trans (done_length _ _ _ _)) ⟨⟨_, Try.underlying38, rfl⟩, by kernel_rfl⟩)) ⟨?_, S46.kp⟩
    have e : k = n := by omega
    rw [e, List.take_of_length_le (by rw [cuts_length]; omega)]

theorem nums_snoc {xs : List Nat} {k : Nat} (h : k < 64) : rowI ((nums xs).take k) ++ [.int .i64 (num (nth xs k))] = rowI ((nums xs).take (k + 1)) := by
  have e : nthI (nums xs) k = num (nth xs k) := by
    rw [nthI_eq (show k < (nums xs).length by rw [nums_length]; exact h)]
    simp [nums]
  rw [rowI_snoc, take_snocI (by rw [nums_length]; exact h), e]

set_option maxRecDepth 100000 in
set_option maxHeartbeats 400000 in
theorem Ints_s (xs : List Nat) (w0 : World) (hl : xs.length = 64) (h0 : Right xs) :
    Calls Try.prog 90 #[.agg (trc xs)] w0 fun e w' => ∃ v, e = .returned v ∧ Below w0.heap.size w0 w' ∧ w'.ownsRow w0.heap.size 3 1 v 64 (rowI (nums xs)) := by
  have S0 := St.start w0
  have HR : ∀ k, k < 64 → sErr (nth xs k) = 0 := fun k hk => h0.at_ (by omega)
  refine enter (n := 17) Try.func90 rfl rfl rfl (fun ac A0 => ?_)
  refine wp_seq ?_
  refine wp_region_lit ?_
  refine s_box (.agg (trc xs)) A0 S0 (by kernel_rfl) rfl (fun g3 ac wc A1 S2 => ?_)
  replace S2 : St _ (⟨g3, 38, (trc xs), true⟩ :: _) _ _ := S2
  refine s_one (.slice none 0 0) A1 S2 (g_assign (by kernel_rfl)) rfl (fun ac A5 => ?_)
  refine wpList_nil ?_
  refine n_then ?_
  refine wp_seq ?_
  refine wp_region_lit ?_
  refine s_one (.slice none 0 0) A5 S2 (g_assign (by kernel_rfl)) rfl (fun ac A6 => ?_)
  refine wpList_nil ?_
  refine n_then ?_
  refine wp_seq ?_
  refine wp_seq ?_
  refine wp_region_lit ?_
  refine s_one (.int .i64 0) A6 S2 (g_assign (by kernel_rfl)) rfl (fun ac A7 => ?_)
  refine wpList_nil ?_
  refine n_then ?_
  refine wp_block ?_
  have S8 := S2.nilRow 3 1
  refine c_loopN (fun mm ac wc => ∃ (k : Nat) (v : Value), mm = 64 - k ∧ (k ≤ 64) ∧ Fr 17 ac [(0, .agg (trc xs)), (1, .pointer (some ⟨g3, 0, none⟩)), (2, .slice none 0 0), (4, .int .i64 (k : Int)), (3, v)] ∧ St w0 [⟨g3, 38, (trc xs), true⟩] [⟨v, 3, 1, k, (rowI ((nums xs).take k))⟩] wc) _ ⟨0, .slice none 0 0, rfl, by omega, (A7.slot (A7.slot (A7.slot (A7.slot (A7.slot A7.nil (v := .slice none 0 0) (by kernel_rfl) (by first | rfl | simp)) (v := .int .i64 0) (by kernel_rfl) (congrArg (Value.int .i64) (by omega))) (v := .slice none 0 0) (by kernel_rfl) rfl) (v := .pointer (some ⟨g3, 0, none⟩)) (by kernel_rfl) rfl) (v := .agg (trc xs)) (by kernel_rfl) rfl), (St.rerow 0 S8 rfl ⟨rfl, rfl⟩).sub sub_all sub_all⟩ ?_
  rintro mm ac wc ⟨k, v, hm11, hk, A9, S10⟩
  refine wp_seq ?_
  refine wp_seq ?_
  refine wp_region_lit ?_
  refine s_one (.int .i64 (k : Int)) A9 S10 (g_move (by kernel_rfl)) rfl (fun ac A12 => ?_)
  refine s_one (.bool (decide ((k : Int) < 64))) A12 S10 (g_bin (u := .int .i64 (k : Int)) (k := .int .i64 64) (by kernel_rfl) (by kernel_rfl) (fun _ => by kernel_rfl) (fun _ => by kernel_rfl)) rfl (fun ac A13 => ?_)
  refine wpList_nil ?_
  refine n_then ?_
  refine c_ifb (b := (decide ((k : Int) < 64))) A13 (by kernel_rfl) (fun h14 => ?_) (fun h14 => ?_)
  · have p15 := of_decide_eq_true h14
    refine wp_skip ?_
    refine n_then ?_
    refine wp_seq ?_
    refine wp_block ?_
    refine wp_region_lit ?_
    refine s_one (v) A13 S10 (g_move (by kernel_rfl)) rfl (fun ac A16 => ?_)
    refine s_one (.int .i64 (k : Int)) A16 S10 (g_move (by kernel_rfl)) rfl (fun ac A17 => ?_)
    refine s_one (.pointer (some ⟨g3, k, none⟩)) A17 S10 (g_index (u := .pointer (some ⟨g3, 0, none⟩)) (k := .int .i64 (k : Int)) (by kernel_rfl) (by kernel_rfl) (ix_arr1 k (len := 64) (by kernel_rfl) (by omega) (by omega))) rfl (fun ac A18 => ?_)
    refine s_one (.float .f32 (nth xs k)) A18 S10 (g_load (g := g3) (off := k) 0 (by kernel_rfl) rfl (rv_of (by kernel_rfl) (trc_get (by rw [hl]; omega)))) rfl (fun ac A19 => ?_)
    refine s_one (.int .i64 (num (nth xs k))) A19 S10 (g_conv (u := .float .f32 (nth xs k)) (by kernel_rfl) (run_toInt (HR _ (by omega)))) rfl (fun ac A20 => ?_)
    refine s_bs (e := 3) (r := [(0, .int .i64 (num (nth xs k)))]) (#[.int .i64 (num (nth xs k))]) A20 S10 (by kernel_rfl) (by kernel_rfl) rfl (fun g23 ac wc A21 S22 => ?_)
    refine s_append (e := 3) (size := 1) (bytes := 8) (v := v) (g := g23) (m' := 1) (c := 1) 0 0 [.int .i64 (num (nth xs k))] A21 S22 (by kernel_rfl) (by kernel_rfl) (by kernel_rfl) rfl rfl (by kernel_rfl) rfl (by kernel_rfl) (by omega) (by omega) rfl (fun v27 ac wc A24 S25 => ?_)
    refine s_one (v27) A24 S25 (g_assign (by kernel_rfl)) rfl (fun ac A28 => ?_)
    refine wpList_nil ?_
    refine n_block ?_
    refine n_then ?_
    refine wp_region_lit ?_
    refine s_one (.int .i64 (k : Int)) A28 S25 (g_move (by kernel_rfl)) rfl (fun ac A29 => ?_)
    refine s_one (.int .i64 ((k : Int) + 1)) A29 S25 (g_bin (u := .int .i64 (k : Int)) (k := .int .i64 1) (by kernel_rfl) (by kernel_rfl) (fun _ => by kernel_rfl) (b_add (by omega))) rfl (fun ac A30 => ?_)
    refine s_one (.int .i64 ((k : Int) + 1)) A30 S25 (g_assign (by kernel_rfl)) rfl (fun ac A31 => ?_)
    refine wpList_nil ?_
    refine n_then ?_
    refine ⟨_, ⟨k + 1, v27, rfl, by omega, (A31.slot (A31.slot (A31.slot (A31.slot (A31.slot A31.nil (v := v27) (by kernel_rfl) rfl) (v := .int .i64 ((k : Int) + 1)) (by kernel_rfl) (congrArg (Value.int .i64) (by omega))) (v := .slice none 0 0) (by kernel_rfl) rfl) (v := .pointer (some ⟨g3, 0, none⟩)) (by kernel_rfl) rfl) (v := .agg (trc xs)) (by kernel_rfl) rfl), (St.rerow 0 S25 rfl ⟨rfl, nums_snoc (by omega)⟩).sub (sub_skip sub_all) sub_all⟩, ?_⟩
    omega
  · have p32 := of_decide_eq_false h14
    refine wp_exit ?_
    refine x_then ?_
    refine x_then ?_
    refine x_hit ?_
    refine n_then ?_
    refine wp_seq ?_
    refine wp_region_lit ?_
    refine s_one (v) A13 S10 (g_move (by kernel_rfl)) rfl (fun ac A33 => ?_)
    refine s_one (v) A33 S10 (g_assign (by kernel_rfl)) rfl (fun ac A34 => ?_)
    refine wpList_nil ?_
    refine n_then ?_
    refine wp_ret ?_
    refine finR 0 (v) Try.results90 A34 S10 (by kernel_rfl) rfl (fun w' hb ho => ⟨_, rfl, hb, ?_⟩)
    obtain rfl : k = 64 := by omega
    rw [List.take_of_length_le (by rw [nums_length]; omega)] at ho
    exact ho

theorem parts_snoc {l : List Int} {k : Nat} (h : k < 61) : rowP ((partsL l).take k) ++ [.int .i64 (nthI l k - nthI l (k + 2)), .int .i64 (nthI l (k + 1) - nthI l (k + 3))] = rowP ((partsL l).take (k + 1)) := by
  rw [rowP_snoc, List.take_add_one, List.getElem?_eq_getElem (by rw [partsL_length]; exact h)]
  simp [partsL, reP, imP]

end Go.Proofs.Ytcijkniijomcjaa
/- Contracts of first, gateErr, PeakIn, FirstAbove. -/
namespace Go.Proofs.Ytcijkniijomcjaa
open Go.RowKit Go.Cpl

/-- The first error of some. -/
def firstOf : List Int → Int
  | [] => 0
  | e :: l => if e = 0 then firstOf l else e

theorem firstOf_step (l : List Int) (k : Nat) (h : k < l.length) : firstOf (l.drop k) = if nthI l k = 0 then firstOf (l.drop (k + 1)) else nthI l k := by
  rw [List.drop_eq_getElem_cons h]
  simp only [firstOf, nthI_eq h]

set_option maxHeartbeats 400000 in
theorem first_any (g : Nat) (t : TypeId) (cap : Nat) (l : List Int) (n : Nat) (w : World) (hb : Blk w g t (ints l)) (hn : l.length = n) (hl : n ≤ 1000) :
    Calls Try.prog 62 #[.slice (some ⟨g, 0, none⟩) n cap] w fun e w' => e = .returned (.int .i64 (firstOf l)) ∧ w = w' := by
  have HN := Lib.hid hn
  clear hn
  go_enter Try.func62, Try.ntmps62
  go_wp2
  go_loop [7] (fun i => ∃ k : Nat, k ≤ n ∧ i = .int .i64 k ∧ Hid (firstOf l = firstOf (l.drop k))) (fun i => n - (intOf i).toNat)
  case atStart => exact ⟨0, Nat.zero_le _, rfl, rfl⟩
  case round =>
    obtain ⟨k, hk, rfl, HF⟩ := hrel
    by_cases hlt : k < n
    · have hs := firstOf_step l k (by rw [HN.out]; exact hlt)
      rw [← HF.out] at hs
      have hc := blk_int hb (k := k) (by rw [HN.out]; exact hlt)
      by_cases h0 : nthI l k = 0
      · rw [if_pos h0] at hs
        rw [h0] at hc
        have HS := Lib.hid hs
        clear h0 hs HF
        go_wp2
        go_round
        case rel => exact ⟨k + 1, by omega, by go_num, HS.out⟩
        case measure => simp [intOf]; omega
      · rw [if_neg h0] at hs
        have h1 : (nthI l k != 0) = true := by simpa using h0
        have HS := Lib.hid hs
        clear h0 hs HF
        go_wp2
        go_ret
        rw [HS.out]
        exact ⟨rfl, rfl⟩
    · have hs : firstOf l = 0 := by rw [HF.out, List.drop_eq_nil_of_le (by rw [HN.out]; omega)]; rfl
      have HS := Lib.hid hs
      clear hs HF
      go_wp2
      go_ret
      rw [HS.out]
      exact ⟨rfl, rfl⟩

/-- The error of a gate. -/
def gErr (a b : Int) : Int := if inB a 0 60 && inB b 0 60 then (if b < a then 9 else 0) else 2

set_option maxHeartbeats 400000 in
theorem gateErr_any (a b : Int) (w : World) : Calls Try.prog 93 #[.agg #[.int .i64 a, .int .i64 b]] w fun e w' => e = .returned (.int .i64 (gErr a b)) ∧ Below w.heap.size w w' := by
  unfold gErr
  cases ha : inB a 0 60
  · have HA := Lib.hid ha
    clear ha
    go_enter Try.func93, Try.ntmps93
    go_wp2_with (go_at_call 60; refine (within_any _ _ _ _).mono ?_; rintro e w' ⟨rfl, rfl⟩; rw [HA.out])
    go_ret
    exact ⟨rfl, (Below.refl _ _).alloc (Nat.le_refl _) _⟩
  · have HA := Lib.hid ha
    clear ha
    cases hb : inB b 0 60
    · have HB := Lib.hid hb
      clear hb
      go_enter Try.func93, Try.ntmps93
      go_wp2_with (go_at_call 60; refine (within_any _ _ _ _).mono ?_; rintro e w' ⟨rfl, rfl⟩; first | rw [HA.out] | rw [HB.out])
      go_ret
      exact ⟨rfl, (Below.refl _ _).alloc (Nat.le_refl _) _⟩
    · have HB := Lib.hid hb
      clear hb
      by_cases hc : b < a
      · go_enter Try.func93, Try.ntmps93
        go_wp2_with (go_at_call 60; refine (within_any _ _ _ _).mono ?_; rintro e w' ⟨rfl, rfl⟩; first | rw [HA.out] | rw [HB.out])
        go_ret
        exact ⟨by simp, (Below.refl _ _).alloc (Nat.le_refl _) _⟩
      · go_enter Try.func93, Try.ntmps93
        go_wp2_with (go_at_call 60; refine (within_any _ _ _ _).mono ?_; rintro e w' ⟨rfl, rfl⟩; first | rw [HA.out] | rw [HB.out])
        go_ret
        exact ⟨by simp, (Below.refl _ _).alloc (Nat.le_refl _) _⟩

theorem size2 (a b : Int) : (#[Value.int .i64 a, Value.int .i64 b] : Array Value).size = 2 := rfl
theorem one2 (a b : Int) : (#[Value.int .i64 a, Value.int .i64 b] : Array Value).all (·.oneCell') = true := by simp [Value.oneCell']
theorem row51 : IsRow Try.prog 102 2 := ⟨⟨_, Try.underlying102, rfl⟩, by kernel_rfl⟩
theorem row53 : IsRow Try.prog 97 2 := ⟨⟨_, Try.underlying97, rfl⟩, by kernel_rfl⟩
theorem zero53 : ((Try.prog.info? 97).bind (·.zero)).map (·.cells) = some #[.int .i64 0, .int .i64 0] := by kernel_rfl

set_option maxRecDepth 100000 in
set_option maxHeartbeats 800000 in
theorem PeakIn_wrong (xs : List Nat) (a b : Int) (w : World) (hl : xs.length = 64) (he : firstOf [(firstErr xs 0).2, gErr a b] ≠ 0) :
    Calls Try.prog 53 #[.agg (trc xs), .agg #[.int .i64 a, .int .i64 b]] w fun e w' => e = .returned (.tuple #[.agg #[.int .i64 0, .int .i64 0], .int .i64 (firstOf [(firstErr xs 0).2, gErr a b])]) ∧ Below w.heap.size w w' := by
  have HL := Lib.hid hl
  have he' : (firstOf [(firstErr xs 0).2, gErr a b] != 0) = true := by simpa using he
  have hu := Try.underlying38
  have hi : (Try.prog.info? 38).map (·.size) = some (trc xs).toList.length := by rw [Array.length_toList, size_trc hl]; exact row26.2
  have hle : (trc xs).toList.length = 64 := by rw [Array.length_toList, size_trc hl]
  have h1 : ∀ v ∈ (trc xs).toList, v.oneCell' = true := by
    intro v hv; simp only [trc, List.mem_map] at hv; obtain ⟨n, _, rfl⟩ := hv; rfl
  clear hl he
  have kB := Kp.refl w
  go_enter Try.func53, Try.ntmps53
  go_wp2_with (first | ((with_reducible refine wlB (some 2) 38 (trc xs) ?_ ?_); rfl; intro g2 w2 l2 b2 k2; replace kB := kB.new l2 k2) | ((with_reducible refine wlB (some 3) 102 #[.int .i64 a, .int .i64 b] ?_ ?_); rfl; intro g3 w3 l3 b3 k3; replace kB := kB.new l3 k3; replace b2 := b2.past l3 k3) | ((with_reducible refine wlA (some 4) 97 #[.int .i64 0, .int .i64 0] zero53 ?_); intro g4 w4 l4 b4 k4; have o4 := kB.own l4; replace kB := kB.new l4 k4; replace b2 := b2.past l4 k4; replace b3 := b3.past l4 k4))
  have hS : ∀ w', Kp w4 w' → w'.rangeAt g2 0 (trc xs).toList ∧ w'.cell? ⟨g3, 0, none⟩ = some (.int .i64 a) ∧ w'.cell? ⟨g3, 1, none⟩ = some (.int .i64 b) ∧ Kp w4 w' := fun w' hk =>
    ⟨rangeAt_of_blk (b2.kept hk), (b3.kept hk).cell 0, (b3.kept hk).cell 1, hk⟩
  have HSK := Lib.hid hS
  clear hS
  go_region_held3 (fun w' => w'.rangeAt g2 0 (trc xs).toList ∧ w'.cell? ⟨g3, 0, none⟩ = some (.int .i64 a) ∧ w'.cell? ⟨g3, 1, none⟩ = some (.int .i64 b) ∧ Kp w4 w') ((first | exact HSK.out _ (Kp.refl _).drew | exact HSK.out _ (q6.alloc _) | exact HSK.out _ q6 | exact HSK.out _ q5))
    (first | (go_at_call 71; refine (traceErr_any xs _ HL.out).mono ?_; rintro e w5 ⟨rfl, k5⟩; have q5 : Kp w4 w5 := (Kp.refl w4).drew.call k5) | (go_at_call 93; refine (gateErr_any _ _ _).mono ?_; rintro e w6 ⟨rfl, k6⟩; have q6 : Kp w4 w6 := q5.call k6) | (go_at_call 62; refine (first_any _ 32 _ [(firstErr xs 0).2, gErr a b] 2 _ (by exact Blk.new _ _ _) rfl (by omega)).mono ?_; rintro e w7 ⟨rfl, rfl⟩))
  have b7 := fun o => (b4.kept q6).alloc o
  have kC := fun o => kB.call (q6.alloc o)
  go_wp2_with ((with_reducible refine wlS 97 (.tmp 4) (.tmp 19) (b7 _) (size2 0 0) (size2 0 0) row53 (one2 0 0) ?_ ?_ ?_); rfl; rfl; intro w9 b9 k9; replace kC := (kC _).turn o4 k9)
  exact bodyPost_ret (res_cell_tmp rfl _ rfl b9 rfl row53) rfl ⟨rfl, kC⟩

/-- The greatest square from a place on, so many places, against one that was found. -/
def peakFrom (l : List Int) : Nat → Nat → Int × Int → Int × Int
  | _, 0, best => best
  | i, n + 1, best => peakFrom l (i + 1) n (if best.2 < sqP l i then ((i : Int), sqP l i) else best)
/-- The peak of a gate. -/
def peakOf (l : List Int) (a b : Nat) : Int × Int := peakFrom l (a + 1) (b - a) ((a : Int), sqP l a)

theorem gErr_zero {a b : Int} (h : gErr a b = 0) : 0 ≤ a ∧ a ≤ b ∧ b ≤ 60 := by
  unfold gErr at h
  by_cases h1 : (inB a 0 60 && inB b 0 60) = true
  · rw [if_pos h1] at h
    rw [Bool.and_eq_true, inB_true, inB_true] at h1
    by_cases h2 : b < a
    · rw [if_pos h2] at h; cases h
    · omega
  · rw [if_neg h1] at h; cases h

theorem firstOf_two {a b : Int} (h : firstOf [a, b] = 0) : a = 0 ∧ b = 0 := by
  simp only [firstOf] at h
  by_cases h1 : a = 0
  · rw [if_pos h1] at h
    by_cases h2 : b = 0
    · exact ⟨h1, h2⟩
    · rw [if_neg h2] at h; exact absurd h h2
  · rw [if_neg h1] at h; exact absurd h h1

set_option maxRecDepth 100000 in
set_option maxHeartbeats 1600000 in
theorem PeakIn_right (xs : List Nat) (a b : Nat) (w : World) (hl : xs.length = 64) (h0 : (firstErr xs 0).2 = 0) (hab : a ≤ b) (hb60 : b ≤ 60) :
    Calls Try.prog 53 #[.agg (trc xs), .agg #[.int .i64 a, .int .i64 b]] w fun e w' => e = .returned (.tuple #[.agg #[.int .i64 (peakOf (nums xs) a b).1, .int .i64 (peakOf (nums xs) a b).2], .int .i64 0]) ∧ Below w.heap.size w w' := by
  have HE := Lib.hid (show firstOf [(firstErr xs 0).2, gErr a b] = 0 by
    rw [h0]; simp [firstOf, gErr, inB]; omega)
  have HL := Lib.hid hl
  have HR := Lib.hid (right_of h0)
  have HQ := Lib.hid (fun g t W ht hbW => square_any g t (nums xs) W (nums_length xs) ht hbW (nums_range hl (right_of h0)))
  have HB := Lib.hid (fun t => sqP_bound (nums_range hl (right_of h0)) t)
  have HS := Lib.hid (show (ints (nums xs)).size = 64 by rw [ints_size, nums_length])
  have HZ := Lib.hid (show (ints (List.replicate 64 0)).size = 64 by rw [ints_size]; simp)
  have hu := Try.underlying38
  have hi : (Try.prog.info? 38).map (·.size) = some (trc xs).toList.length := by rw [Array.length_toList, size_trc hl]; exact row26.2
  have hle : (trc xs).toList.length = 64 := by rw [Array.length_toList, size_trc hl]
  have h1 : ∀ v ∈ (trc xs).toList, v.oneCell' = true := by
    intro v hv; simp only [trc, List.mem_map] at hv; obtain ⟨n, _, rfl⟩ := hv; rfl
  clear hl h0
  have kB := Kp.refl w
  go_enter Try.func53, Try.ntmps53
  go_wp2_with (first | ((with_reducible refine wlB (some 2) 38 (trc xs) ?_ ?_); rfl; intro g2 w2 l2 b2 k2; replace kB := kB.new l2 k2) | ((with_reducible refine wlB (some 3) 102 #[.int .i64 a, .int .i64 b] ?_ ?_); rfl; intro g3 w3 l3 b3 k3; replace kB := kB.new l3 k3; replace b2 := b2.past l3 k3) | ((with_reducible refine wlA (some 4) 97 #[.int .i64 0, .int .i64 0] zero53 ?_); intro g4 w4 l4 b4 k4; have o4 := kB.own l4; replace kB := kB.new l4 k4; replace b2 := b2.past l4 k4; replace b3 := b3.past l4 k4))
  have hS : ∀ w', Kp w4 w' → w'.rangeAt g2 0 (trc xs).toList ∧ w'.cell? ⟨g3, 0, none⟩ = some (.int .i64 a) ∧ w'.cell? ⟨g3, 1, none⟩ = some (.int .i64 b) ∧ Kp w4 w' := fun w' hk =>
    ⟨rangeAt_of_blk (b2.kept hk), (b3.kept hk).cell 0, (b3.kept hk).cell 1, hk⟩
  have HSK := Lib.hid hS
  clear hS
  go_region_held3 (fun w' => w'.rangeAt g2 0 (trc xs).toList ∧ w'.cell? ⟨g3, 0, none⟩ = some (.int .i64 a) ∧ w'.cell? ⟨g3, 1, none⟩ = some (.int .i64 b) ∧ Kp w4 w') ((first | exact HSK.out _ (Kp.refl _).drew | exact HSK.out _ (q6.alloc _) | exact HSK.out _ q6 | exact HSK.out _ q5))
    (first | (go_at_call 71; refine (traceErr_any xs _ HL.out).mono ?_; rintro e w5 ⟨rfl, k5⟩; have q5 : Kp w4 w5 := (Kp.refl w4).drew.call k5) | (go_at_call 93; refine (gateErr_any _ _ _).mono ?_; rintro e w6 ⟨rfl, k6⟩; have q6 : Kp w4 w6 := q5.call k6) | (go_at_call 62; refine (first_any _ 32 _ [(firstErr xs 0).2, gErr a b] 2 _ (by exact Blk.new _ _ _) rfl (by omega)).mono ?_; rintro e w7 ⟨rfl, rfl⟩; rw [HE.out]))
  have q7 := fun o => q6.alloc o
  go_wp2_with (first | (go_at_call 66; refine (numbersOf_any _ xs _ HL.out (b2.kept (q7 _)) HR.out).mono ?_; rintro e w8 ⟨rfl, k8⟩; have q8 : Kp w4 w8 := (q7 _).call k8; replace kB := kB.call q8; replace b3 := b3.kept q8; replace b4 := b4.kept q8) | ((with_reducible refine wlA (some 7) 123 (ints (List.replicate 64 0)) zero159 ?_); intro g7 w9 l9 b9 k9; have o9 := kB.own l9; have n39 := Nat.lt_of_lt_of_le b3.lt l9; have n49 := Nat.lt_of_lt_of_le b4.lt l9; replace kB := kB.new l9 k9; replace b3 := b3.past l9 k9; replace b4 := b4.past l9 k9) | ((with_reducible refine wlS 123 (.tmp 7) (.tmp 21) b9 HZ.out HS.out row159 (ints_one _) ?_ ?_ ?_); rfl; rfl; intro w10 b10 k10; replace kB := kB.turn o9 k10; replace b3 := k10.blk b3 (Nat.ne_of_lt n39); replace b4 := k10.blk b4 (Nat.ne_of_lt n49)))
  go_frame
  have hS : ∀ w', Kp w10 w' → w'.cell? ⟨g3, 0, none⟩ = some (.int .i64 a) ∧ Kp w10 w' := fun w' hk => ⟨(b3.kept hk).cell 0, hk⟩
  have HSK2 := Lib.hid hS
  clear hS
  go_cut [8] (fun s8 wx => ∃ g8 : Nat, s8 = .pointer (some ⟨g8, 0, none⟩) ∧ Blk wx g8 97 #[.int .i64 a, .int .i64 (sqP (nums xs) a)] ∧ w10.heap.size ≤ g8 ∧ Kp w10 wx)
  case first =>
    go_region_held3 (fun w' => w'.cell? ⟨g3, 0, none⟩ = some (.int .i64 a) ∧ Kp w10 w') ((first | exact HSK2.out _ (Kp.refl _).drew | exact HSK2.out _ q11 | exact HSK2.out _ (q11.alloc _) | exact HSK2.out _ ((Kp.refl _).drew.alloc _) | exact HSK2.out _ ((q11.setCell (Nat.le_refl _) _ _).setCell (Nat.le_refl _) _ _)))
      (first | (go_at_call 94; refine (HQ.out _ a _ ?_ ?_).mono ?_; omega; (first | exact b10.drew | exact b10.drew.alloc _); rintro e w11 ⟨rfl, k11⟩; have q11 : Kp w10 w11 := (by first | exact Kp.call (Kp.refl w10).drew k11 | exact Kp.call ((Kp.refl w10).drew.alloc _) k11); have f0 := fun i => k11.cell (p := ⟨w10.heap.size, i, none⟩); have f1 := fun i => k11.frozen (p := ⟨w10.heap.size, i, none⟩)))
    all_goals (go_wp2_with fail; go_meet; first | exact ⟨_, rfl, Blk.new _ _ _, q11.size, q11.alloc _⟩ | exact ⟨_, rfl, (((Blk.new w10 97 _).drew.kept k11).set_ 0 _).set_ 1 _, Nat.le_refl _, (q11.setCell (Nat.le_refl _) _ _).setCell (Nat.le_refl _) _ _⟩)
  case rest =>
    obtain ⟨g8, rfl, c8, l8, q12⟩ := hcut
    have o8 := kB.own l8
    have n38 := Nat.lt_of_lt_of_le b3.lt l8
    have n48 := Nat.lt_of_lt_of_le b4.lt l8
    have n78 := Nat.lt_of_lt_of_le b10.lt l8
    replace kB := kB.call q12
    replace b3 := b3.kept q12
    replace b4 := b4.kept q12
    replace b10 := b10.kept q12
    have f0 := b3.cell 0
    have f1 := b3.cell 1
    go_wp2
    go_loopw [9] (fun i wr => ∃ (k : Nat) (best : Int × Int), a + 1 ≤ k ∧ k ≤ b + 1 ∧ i = .int .i64 k ∧ Hid (peakOf (nums xs) a b = peakFrom (nums xs) k (b + 1 - k) best) ∧ Blk wr g8 97 #[.int .i64 best.1, .int .i64 best.2] ∧ Blk wr g7 123 (ints (nums xs)) ∧ Blk wr g3 102 #[.int .i64 a, .int .i64 b] ∧ Blk wr g4 97 #[.int .i64 0, .int .i64 0] ∧ Kp w wr) (fun i _ => b + 1 - (intOf i).toNat)
    case atStart => exact ⟨a + 1, (a, sqP (nums xs) a), Nat.le_refl _, by omega, by go_num, by show _ = _; unfold peakOf; rw [show b + 1 - (a + 1) = b - a by omega], c8, b10, b3, b4, kB⟩
    case round =>
      clear b3 b4 b10 c8 kB f0 f1
      obtain ⟨k, best, hk1, hk2, rfl, HF, c8, c7, c3, c4, kB⟩ := hrel
      obtain ⟨bt, bs⟩ := best
      have f1 : wr.cell? ⟨g3, 1, none⟩ = some (.int .i64 b) := c3.cell 1
      by_cases hlt : k ≤ b
      · have hbd := HB.out k
        have hst : peakFrom (nums xs) k (b + 1 - k) (bt, bs) = peakFrom (nums xs) (k + 1) (b + 1 - (k + 1)) (if bs < sqP (nums xs) k then ((k : Int), sqP (nums xs) k) else (bt, bs)) := by
          rw [show b + 1 - k = (b + 1 - (k + 1)) + 1 by omega]; rfl
        rw [← HF.out] at hst
        by_cases hgt : bs < sqP (nums xs) k
        · rw [if_pos hgt] at hst
          have HF2 := Lib.hid hst
          clear hst HF
          go_wp2_with (first | (go_at_call 94; refine (HQ.out _ k _ (by omega) c7).mono ?_; rintro e w13 ⟨rfl, k13⟩; replace kB := kB.call k13; replace c8 := c8.kept k13; replace c7 := c7.kept k13; replace c3 := c3.kept k13; replace c4 := c4.kept k13; have f2 : w13.cell? ⟨g8, 1, none⟩ = some (.int .i64 bs) := c8.cell 1) | ((with_reducible refine wlS 97 (.tmp 8) (.tmp 45) c8 (size2 bt bs) (size2 k (sqP (nums xs) k)) row53 (one2 _ _) ?_ ?_ ?_); rfl; rfl; intro w14 c14 k14; replace kB := kB.turn o8 k14; replace c7 := k14.blk c7 (Nat.ne_of_lt n78); replace c3 := k14.blk c3 (Nat.ne_of_lt n38); replace c4 := k14.blk c4 (Nat.ne_of_lt n48)))
          go_roundw
          case rel => exact ⟨k + 1, ((k : Int), sqP (nums xs) k), by omega, by omega, by go_num, HF2.out, c14, c7, c3, c4, kB⟩
          case measure => simp [intOf]; omega
        · rw [if_neg hgt] at hst
          have HF2 := Lib.hid hst
          clear hst HF
          go_wp2_with (first | (go_at_call 94; refine (HQ.out _ k _ (by omega) c7).mono ?_; rintro e w13 ⟨rfl, k13⟩; replace kB := kB.call k13; replace c8 := c8.kept k13; replace c7 := c7.kept k13; replace c3 := c3.kept k13; replace c4 := c4.kept k13; have f2 : w13.cell? ⟨g8, 1, none⟩ = some (.int .i64 bs) := c8.cell 1))
          go_roundw
          case rel => exact ⟨k + 1, (bt, bs), by omega, by omega, by go_num, HF2.out, c8, c7, c3, c4, kB⟩
          case measure => simp [intOf]; omega
      · have hst : peakOf (nums xs) a b = (bt, bs) := by rw [HF.out, show b + 1 - k = 0 by omega]; rfl
        have HF2 := Lib.hid hst
        clear hst HF
        go_wp2_with (first | ((with_reducible refine wlL (some 46) 97 c8 (size2 bt bs) row53 ?_ ?_); rfl) | ((with_reducible refine wlS 97 (.tmp 4) (.tmp 46) c4 (size2 0 0) (size2 bt bs) row53 (one2 _ _) ?_ ?_ ?_); rfl; rfl; intro w14 c14 k14; replace kB := kB.turn o4 k14))
        rw [HF2.out]
        exact bodyPost_ret (res_cell_tmp rfl _ rfl c14 (size2 bt bs) row53) rfl ⟨rfl, kB⟩

end Go.Proofs.Ytcijkniijomcjaa
/- Contracts of LagOf and of the function in it. -/
namespace Go.Proofs.Ytcijkniijomcjaa
open Go.RowKit Go.Cpl

/-- The sum of products with a lag, of the first k samples. -/
def corrTo (x y : List Int) (lag : Int) : Nat → Int
  | 0 => 0
  | k + 1 => corrTo x y lag k + (if inB ((k : Int) + lag) 0 63 = true then nthI x k * nthI y ((k : Int) + lag).toNat else 0)
def corr (x y : List Int) (lag : Int) : Int := corrTo x y lag 64

theorem mul_bound {x y : Int} (hx : -2047 ≤ x ∧ x ≤ 2047) (hy : -2047 ≤ y ∧ y ≤ 2047) : -4190209 ≤ x * y ∧ x * y ≤ 4190209 := by
  have h1 : (x * y).natAbs ≤ 2047 * 2047 := by rw [Int.natAbs_mul]; exact Nat.mul_le_mul (by omega) (by omega)
  omega

/-- All numbers are small. -/
def Small (l : List Int) : Prop := ∀ k, -2047 ≤ nthI l k ∧ nthI l k ≤ 2047

theorem corrTo_bound {x y : List Int} (hx : Small x) (hy : Small y) (lag : Int) : ∀ k : Nat, -(4190209 * (k : Int)) ≤ corrTo x y lag k ∧ corrTo x y lag k ≤ 4190209 * (k : Int)
  | 0 => by simp [corrTo]
  | k + 1 => by
    have ih := corrTo_bound hx hy lag k
    have hm := mul_bound (hx k) (hy ((k : Int) + lag).toNat)
    simp only [corrTo]
    split <;> omega

theorem index159 (l : List Int) (hl : l.length = 64) (k : Nat) (hk : k < 64) (w : World) : (Instr.index 123 (.agg (ints l)) (.int .i64 (k : Int))).run Try.prog w = .ok (.int .i64 (nthI l k)) w := by
  have h := ints_get (l := l) (k := k) (by omega)
  have hs : ∀ W, (sizeOf 3).run Try.prog W = .ok 1 W := fun W => by kernel_rfl
  have ha : ∀ W, (isAgg 3).run Try.prog W = .ok false W := fun W => by kernel_rfl
  have hi : (0 : Int) ≤ (k : Int) ∧ (k : Int) < 64 := by omega
  simp [Instr.index, run_underlying Try.underlying123, asIntOf, hi, part, hs, ha, h]
  intro h64; omega

set_option maxHeartbeats 800000 in
theorem like_any (x y : List Int) (gx gy : Nat) (lag : Int) (w : World) (hx : x.length = 64) (hy : y.length = 64) (sx : Small x) (sy : Small y) (hlo : -32 ≤ lag) (hhi : lag ≤ 32) (bx : Blk w gx 123 (ints x)) (by_ : Blk w gy 123 (ints y)) :
    Calls Try.prog 96 #[.int .i64 lag, .pointer (some ⟨gx, 0, none⟩), .pointer (some ⟨gy, 0, none⟩)] w fun e w' => e = .returned (.int .i64 (corr x y lag)) ∧ w = w' := by
  have HX := Lib.hid (show (ints x).size = 64 by rw [ints_size, hx])
  have HIx := Lib.hid (index159 x hx)
  have HY := Lib.hid hy
  have HSx := Lib.hid sx
  have HSy := Lib.hid sy
  have HB := Lib.hid (corrTo_bound sx sy lag)
  clear hx hy sx sy
  go_enter Try.func96, Try.ntmps96
  go_wp2_with ((with_reducible refine wlL (some 8) 123 bx HX.out row159 ?_ ?_); rfl)
  go_loop [9, 5] (fun i s => ∃ k : Nat, k ≤ 64 ∧ i = .int .i64 k ∧ s = .int .i64 (corrTo x y lag k)) (fun i _ => 64 - (intOf i).toNat)
  case atStart => exact ⟨0, Nat.zero_le _, rfl, rfl⟩
  case round =>
    obtain ⟨k, hk, rfl, rfl⟩ := hrel
    have hB := HB.out k
    by_cases hlt : k < 64
    · have hidx := HIx.out k hlt
      have hsx := HSx.out k
      have hsy := HSy.out ((k : Int) + lag).toNat
      have hm := mul_bound hsx hsy
      have hst : corrTo x y lag (k + 1) = corrTo x y lag k + (if inB ((k : Int) + lag) 0 63 = true then nthI x k * nthI y ((k : Int) + lag).toNat else 0) := rfl
      by_cases hin : 0 ≤ (k : Int) + lag ∧ (k : Int) + lag ≤ 63
      · rw [if_pos (inB_true.2 hin)] at hst
        have HST := Lib.hid hst
        have HI := Lib.hid (inB_true.2 hin)
        clear hst
        obtain ⟨hin0, hin1⟩ := hin
        have hc : w.cell? ⟨gy, ((k : Int) + lag).toNat, none⟩ = some (.int .i64 (nthI y ((k : Int) + lag).toNat)) := blk_int by_ (by rw [HY.out]; omega)
        generalize nthI y ((k : Int) + lag).toNat = ny at *
        generalize nthI x k = nx at *
        go_wp2_with (go_at_call 60; refine (within_any _ _ _ _).mono ?_; rintro e w' ⟨rfl, rfl⟩; rw [HI.out])
        go_round
        case rel => exact ⟨k + 1, by omega, by go_num, by rw [HST.out]⟩
        case measure => simp [intOf]; omega
      · rw [if_neg (by rw [inB_true]; exact hin), Int.add_zero] at hst
        have HST := Lib.hid hst
        have HI := Lib.hid (inB_false.2 hin)
        clear hst hm hsy hin
        generalize nthI x k = nx at *
        go_wp2_with (go_at_call 60; refine (within_any _ _ _ _).mono ?_; rintro e w' ⟨rfl, rfl⟩; rw [HI.out])
        go_round
        case rel => exact ⟨k + 1, by omega, by go_num, by rw [HST.out]⟩
        case measure => simp [intOf]; omega
    · obtain rfl : k = 64 := by omega
      go_wp2
      go_ret
      exact ⟨rfl, rfl⟩

/-- One lag more that is looked at. -/
def lagStep (x y : List Int) (best : Int × Int) (lag : Int) : Int × Int := if best.2 < corr x y lag then (lag, corr x y lag) else best
/-- So many lags more, from one on, both ways. -/
def lagFrom (x y : List Int) : Nat → Nat → Int × Int → Int × Int
  | _, 0, best => best
  | s, n + 1, best => lagFrom x y (s + 1) n (lagStep x y (lagStep x y best (-(s : Int))) (s : Int))
def lagOf (x y : List Int) (most : Nat) : Int := (lagFrom x y 1 most (0, corr x y 0)).1

theorem corr_bound {x y : List Int} (hx : Small x) (hy : Small y) (lag : Int) : -268173376 ≤ corr x y lag ∧ corr x y lag ≤ 268173376 := by
  have := corrTo_bound hx hy lag 64
  unfold corr
  omega

/-- What LagOf returns. -/
def lagRes (xs ys : List Nat) (m : Int) : Int × Int :=
  if firstOf [(firstErr xs 0).2, (firstErr ys 0).2] = 0 then (if inB m 0 32 = true then (lagOf (nums xs) (nums ys) m.toNat, 0) else (0, 2)) else (0, firstOf [(firstErr xs 0).2, (firstErr ys 0).2])

/-- The lag of a place of the two. -/
def pick2 (k i : Nat) : Int := if i = 0 then -(k : Int) else (k : Int)
theorem i83a (a b : Int) (w : World) : (Instr.index 26 (.agg #[.int .i64 a, .int .i64 b]) (.int .i64 0)).run Try.prog w = .ok (.int .i64 a) w := by kernel_rfl
theorem i83b (a b : Int) (w : World) : (Instr.index 26 (.agg #[.int .i64 a, .int .i64 b]) (.int .i64 1)).run Try.prog w = .ok (.int .i64 b) w := by kernel_rfl
theorem index83 (k i : Nat) (hi : i < 2) (w : World) : (Instr.index 26 (.agg #[.int .i64 (-(k : Int)), .int .i64 (k : Int)]) (.int .i64 (i : Int))).run Try.prog w = .ok (.int .i64 (pick2 k i)) w := by
  have h : i = 0 ∨ i = 1 := by omega
  rcases h with rfl | rfl
  · exact i83a _ _ _
  · exact i83b _ _ _
/-- After i of the two. -/
def lagTwo (x y : List Int) (best : Int × Int) (k : Nat) : Nat → Int × Int
  | 0 => best
  | i + 1 => lagStep x y (lagTwo x y best k i) (pick2 k i)
theorem lagFrom_step (x y : List Int) (s n : Nat) (best : Int × Int) : lagFrom x y s (n + 1) best = lagFrom x y (s + 1) n (lagTwo x y best s 2) := rfl

set_option maxRecDepth 100000 in
set_option maxHeartbeats 3200000 in
theorem LagOf_any (xs ys : List Nat) (m : Int) (w : World) (hl : xs.length = 64) (hl2 : ys.length = 64) :
    Calls Try.prog 56 #[.agg (trc xs), .agg (trc ys), .int .i64 m] w fun e w' => e = .returned (.tuple #[.int .i64 (lagRes xs ys m).1, .int .i64 (lagRes xs ys m).2]) ∧ Below w.heap.size w w' := by
  have HL := Lib.hid hl
  have HL2 := Lib.hid hl2
  clear hl hl2
  have kB := Kp.refl w
  go_enter Try.func56, Try.ntmps56
  go_wp2_with (first | ((with_reducible refine wlB (some 3) 38 (trc xs) ?_ ?_); rfl; intro g2 w2 l2 b2 k2; replace kB := kB.new l2 k2) | ((with_reducible refine wlB (some 4) 38 (trc ys) ?_ ?_); rfl; intro g3 w3 l3 b3 k3; replace kB := kB.new l3 k3; replace b2 := b2.past l3 k3))
  refine wp_region_held_drew (S := fun w' => Kp w3 w') (by kernel_rfl) (Kp.refl _).drew (fun hH => ?_)
  refine wpAnyH_take (i := 0) (v := .agg (trc xs)) rfl (by kernel_rfl) (by kernel_rfl) (by kernel_rfl) (fun _ _ _ h => h) (yl_load (by rfl) (by rfl) (by rfl) (fun w hk => b2.kept hk) (size_trc HL.out) row26) hH ?_
  refine wpAnyH_take (i := 2) (v := .agg (trc ys)) rfl (by kernel_rfl) (by kernel_rfl) (by kernel_rfl) (fun _ _ _ h => h) (yl_load (by rfl) (by rfl) (by rfl) (fun w hk => b3.kept hk) (size_trc HL2.out) row26) hH ?_
  refine wpAnyH_ready (rs := [1]) (by kernel_rfl) (by simp) ?_
  refine AllReadyH.cons rfl (fun K hK => ?_) AllReadyH.nil
  go_simp
  refine (traceErr_any xs _ HL.out).mono ?_
  rintro e w5 ⟨rfl, k5⟩
  refine hK.out _ _ (hH.call k5) (fun q5 => ?_)
  clear hK K
  refine wpAnyH_ready (rs := [3]) (by kernel_rfl) (by simp) ?_
  refine AllReadyH.cons rfl (fun K hK => ?_) AllReadyH.nil
  go_simp
  refine (traceErr_any ys _ HL2.out).mono ?_
  rintro e w6 ⟨rfl, k6⟩
  refine hK.out _ _ (Kp.call q5 k6) (fun q6 => ?_)
  clear hK K
  refine wpAnyH_ready (rs := [4]) (by kernel_rfl) (by simp) ?_
  refine AllReadyH.cons rfl (fun K hK => ?_) AllReadyH.nil
  go_simp
  refine hK.out _ _ (Kp.alloc q6 _) (fun q7 => ?_)
  clear hK K
  refine wpAnyH_ready (rs := [5]) (by kernel_rfl) (by simp) ?_
  refine AllReadyH.cons rfl (fun K hK => ?_) AllReadyH.nil
  go_simp
  refine (first_any _ 32 _ [(firstErr xs 0).2, (firstErr ys 0).2] 2 _ (by exact Blk.new _ _ _) rfl (by omega)).mono ?_
  rintro e w7 ⟨rfl, rfl⟩
  refine hK.out _ _ q7 (fun q8 => ?_)
  clear hK K
  refine wpAnyH_ready (rs := [6]) (by kernel_rfl) (by simp) ?_
  refine AllReadyH.cons rfl (fun K hK => ?_) AllReadyH.nil
  go_simp
  refine hK.out _ _ q8 (fun q9 => ?_)
  clear hK K
  refine wpAnyH_done (by kernel_rfl) ?_ _
  replace kB := kB.call q9
  replace b2 := b2.kept q9
  replace b3 := b3.kept q9
  clear hH q5 q6 q7 q8 q9 k5 k6
  by_cases he : firstOf [(firstErr xs 0).2, (firstErr ys 0).2] = 0
  · obtain ⟨e1, e2⟩ := firstOf_two he
    have HE := Lib.hid he
    have HR := Lib.hid (right_of e1)
    have HR2 := Lib.hid (right_of e2)
    have sx : Small (nums xs) := nums_range HL.out (right_of e1)
    have sy : Small (nums ys) := nums_range HL2.out (right_of e2)
    have HLK := Lib.hid (fun gx gy lag W hlo hhi bx by_ => like_any (nums xs) (nums ys) gx gy lag W (nums_length xs) (nums_length ys) sx sy hlo hhi bx by_)
    have HCB := Lib.hid (corr_bound sx sy)
    have HS := Lib.hid (show ∀ xs, (ints (nums xs)).size = 64 from fun xs => by rw [ints_size, nums_length])
    have HZ := Lib.hid (show (ints (List.replicate 64 0)).size = 64 by rw [ints_size]; simp)
    rw [he]
    clear he e1 e2 sx sy
    by_cases hm : 0 ≤ m ∧ m ≤ 32
    · have HM := Lib.hid (inB_true.2 hm)
      have HF := Lib.hid (show lagRes xs ys m = (lagOf (nums xs) (nums ys) m.toNat, 0) by unfold lagRes; rw [if_pos HE.out, if_pos HM.out])
      obtain ⟨hm0, hm1⟩ := hm
      go_wp2_with (first | (go_at_call 60; refine (within_any _ _ _ _).mono ?_; rintro e w' ⟨rfl, rfl⟩; rw [HM.out]) | (go_at_call_of 66 (Value.pointer (some ⟨g2, 0, none⟩)); refine (numbersOf_any _ xs _ HL.out b2 HR.out).mono ?_; rintro e w8 ⟨rfl, k8⟩; replace kB := kB.call k8; replace b3 := b3.kept k8) | (go_at_call_of 66 (Value.pointer (some ⟨g3, 0, none⟩)); refine (numbersOf_any _ ys _ HL2.out b3 HR2.out).mono ?_; rintro e w9 ⟨rfl, k9⟩; replace kB := kB.call k9) | ((with_reducible refine wlA (some 9) 123 (ints (List.replicate 64 0)) zero159 ?_); intro g9 w10 l10 b9 k10; have o9 := kB.own l10; replace kB := kB.new l10 k10) | ((with_reducible refine wlA (some 10) 123 (ints (List.replicate 64 0)) zero159 ?_); intro g10 w11 l11 b10 k11; have o10 := kB.own l11; have n910 := Nat.lt_of_lt_of_le b9.lt l11; replace kB := kB.new l11 k11; replace b9 := b9.past l11 k11) | ((with_reducible refine wlS 123 (.tmp 9) (.tmp 30) b9 HZ.out (HS.out xs) row159 (ints_one _) ?_ ?_ ?_); rfl; rfl; intro w12 c9 k12; replace kB := kB.turn o9 k12; replace b10 := k12.blk b10 (Nat.ne_of_gt n910)) | ((with_reducible refine wlS 123 (.tmp 10) (.tmp 31) b10 HZ.out (HS.out ys) row159 (ints_one _) ?_ ?_ ?_); rfl; rfl; intro w13 c10 k13; replace kB := kB.turn o10 k13; replace c9 := k13.blk c9 (Nat.ne_of_lt n910)))
      refine (HLK.out _ _ _ _ (by omega) (by omega) c9 c10).mono ?_
      rintro e w14 ⟨rfl, rfl⟩
      obtain ⟨mn, rfl⟩ := Int.eq_ofNat_of_zero_le hm0
      go_wp2
      go_loop [12, 13, 14] (fun b g a => ∃ (k : Nat) (best : Int × Int), 1 ≤ k ∧ k ≤ mn + 1 ∧ a = .int .i64 k ∧ b = .int .i64 best.1 ∧ g = .int .i64 best.2 ∧ Hid (lagOf (nums xs) (nums ys) mn = (lagFrom (nums xs) (nums ys) k (mn + 1 - k) best).1)) (fun _ _ a => mn + 1 - (intOf a).toNat)
      case atStart => exact ⟨1, (0, corr (nums xs) (nums ys) 0), by omega, by omega, rfl, rfl, rfl, rfl⟩
      case round =>
        obtain ⟨k, ⟨bt, bs⟩, hk1, hk2, rfl, rfl, rfl, HG⟩ := hrel
        by_cases hlt : k ≤ mn
        · have hst : lagOf (nums xs) (nums ys) mn = (lagFrom (nums xs) (nums ys) (k + 1) (mn + 1 - (k + 1)) (lagTwo (nums xs) (nums ys) (bt, bs) k 2)).1 := by
            rw [HG.out, show mn + 1 - k = (mn + 1 - (k + 1)) + 1 by omega, lagFrom_step]
          have HG2 := Lib.hid hst
          clear hst HG
          go_wp2
          go_loop [44, 12, 13] (fun j b g => ∃ i : Nat, i ≤ 2 ∧ j = .int .i64 i ∧ b = .int .i64 (lagTwo (nums xs) (nums ys) (bt, bs) k i).1 ∧ g = .int .i64 (lagTwo (nums xs) (nums ys) (bt, bs) k i).2) (fun j _ _ => 2 - (intOf j).toNat)
          case atStart => exact ⟨0, Nat.zero_le _, rfl, rfl, rfl⟩
          case round =>
            obtain ⟨i, hi, rfl, rfl, rfl⟩ := hrel
            by_cases hli : i < 2
            · have hix := index83 k i hli
              have hpk : -32 ≤ pick2 k i ∧ pick2 k i ≤ 32 := by unfold pick2; split <;> omega
              have hst : lagTwo (nums xs) (nums ys) (bt, bs) k (i + 1) = lagStep (nums xs) (nums ys) (lagTwo (nums xs) (nums ys) (bt, bs) k i) (pick2 k i) := rfl
              unfold lagStep at hst
              by_cases hgt : (lagTwo (nums xs) (nums ys) (bt, bs) k i).2 < corr (nums xs) (nums ys) (pick2 k i)
              · rw [if_pos hgt] at hst
                have HST := Lib.hid hst
                clear hst
                go_wp2_with (go_at_call 96; refine (HLK.out _ _ _ _ hpk.1 hpk.2 c9 c10).mono ?_; rintro e w15 ⟨rfl, rfl⟩)
                go_round
                case rel => exact ⟨i + 1, by omega, by go_num, by rw [HST.out], by rw [HST.out]⟩
                case measure => simp [intOf]; omega
              · rw [if_neg hgt] at hst
                have HST := Lib.hid hst
                clear hst
                go_wp2_with (go_at_call 96; refine (HLK.out _ _ _ _ hpk.1 hpk.2 c9 c10).mono ?_; rintro e w15 ⟨rfl, rfl⟩)
                go_round
                case rel => exact ⟨i + 1, by omega, by go_num, by rw [HST.out], by rw [HST.out]⟩
                case measure => simp [intOf]; omega
            · obtain rfl : i = 2 := by omega
              go_wp2
              go_round
              case rel => exact ⟨k + 1, lagTwo (nums xs) (nums ys) (bt, bs) k 2, by omega, by omega, by go_num, rfl, rfl, HG2.out⟩
              case measure => simp [intOf]; omega
        · have hst : lagOf (nums xs) (nums ys) mn = bt := by rw [HG.out, show mn + 1 - k = 0 by omega]; rfl
          have HG2 := Lib.hid hst
          clear hst HG
          go_wp2
          go_ret2
          rw [HF.out, Int.toNat_natCast, HG2.out]
          exact ⟨rfl, kB⟩
    · have HM := Lib.hid (inB_false.2 hm)
      have HF := Lib.hid (show lagRes xs ys m = (0, 2) by unfold lagRes; rw [if_pos HE.out, HM.out]; rfl)
      clear hm
      go_wp2_with (first | (go_at_call 60; refine (within_any _ _ _ _).mono ?_; rintro e w' ⟨rfl, rfl⟩; rw [HM.out]))
      go_ret2
      rw [HF.out]
      exact ⟨rfl, kB⟩
  · have HF := Lib.hid (show lagRes xs ys m = (0, firstOf [(firstErr xs 0).2, (firstErr ys 0).2]) by unfold lagRes; rw [if_neg he])
    have he' : (firstOf [(firstErr xs 0).2, (firstErr ys 0).2] != 0) = true := by simpa using he
    clear he
    go_wp2
    go_ret2
    rw [HF.out]
    exact ⟨rfl, kB⟩

end Go.Proofs.Ytcijkniijomcjaa
/- Contracts of floor, rounded, Floor, Ceil, CheckSampling, timeErr, GateOf. -/
namespace Go.Proofs.Ytcijkniijomcjaa
open Go.RowKit Go.Cpl

set_option maxHeartbeats 400000 in
theorem floor_any (n by_ : Int) (w : World) (hb : 1 ≤ by_) (h1 : -100000000000000000 ≤ n) (h2 : n ≤ 100000000000000000) :
    Calls Try.prog 99 #[.int .i64 n, .int .i64 by_] w fun e w' => e = .returned (.int .i64 (n / by_)) ∧ w = w' := by
  by_cases hn : 0 ≤ n
  · have h3 := Int.emod_nonneg n (b := by_) (by omega)
    go_enter Try.func99, Try.ntmps99
    go_wp2
    go_ret
    exact ⟨rfl, rfl⟩
  · have hd := ediv_of_neg (by omega : n < 0) hb
    have hbd := tdiv_bound (by_ := by_) h1 h2
    by_cases ht : n.tmod by_ < 0
    · rw [if_pos ht] at hd
      rw [hd]
      clear hd
      go_enter Try.func99, Try.ntmps99
      go_wp2
      go_ret
      exact ⟨rfl, rfl⟩
    · rw [if_neg ht] at hd
      rw [hd]
      clear hd
      go_enter Try.func99, Try.ntmps99
      go_wp2
      go_ret
      exact ⟨rfl, rfl⟩

set_option maxHeartbeats 400000 in
theorem Floor_any (n by_ : Int) (w : World) (hb : 1 ≤ by_) (h1 : -100000000000000000 ≤ n) (h2 : n ≤ 100000000000000000) :
    Calls Try.prog 106 #[.int .i64 n, .int .i64 by_] w fun e w' => e = .returned (.int .i64 (n / by_)) ∧ w = w' := by
  by_cases hn : 0 ≤ n
  · have h3 := Int.emod_nonneg n (b := by_) (by omega)
    go_enter Try.func106, Try.ntmps106
    go_wp2
    go_ret
    exact ⟨rfl, rfl⟩
  · have hd := ediv_of_neg (by omega : n < 0) hb
    have hbd := tdiv_bound (by_ := by_) h1 h2
    by_cases ht : n.tmod by_ < 0
    · rw [if_pos ht] at hd
      rw [hd]
      clear hd
      go_enter Try.func106, Try.ntmps106
      go_wp2
      go_ret
      exact ⟨rfl, rfl⟩
    · rw [if_neg ht] at hd
      rw [hd]
      clear hd
      go_enter Try.func106, Try.ntmps106
      go_wp2
      go_ret
      exact ⟨rfl, rfl⟩

/-- The error of a sampling. -/
def sampErr (f st : Int) : Int := if inB f 0 1000000000000 && inB st 1 100000000 then 0 else 2
/-- The error of a time. -/
def tErr (t : Int) : Int := if inB t (-1000000000000) 1000000000000 then 0 else 2

set_option maxHeartbeats 400000 in
theorem CheckSampling_any (a b : Int) (w : World) : Calls Try.prog 97 #[.agg #[.int .i64 a, .int .i64 b]] w fun e w' => e = .returned (.int .i64 (sampErr a b)) ∧ Below w.heap.size w w' := by
  unfold sampErr
  cases ha : inB a 0 1000000000000
  · have HA := Lib.hid ha
    clear ha
    go_enter Try.func97, Try.ntmps97
    go_wp2_with (go_at_call 60; refine (within_any _ _ _ _).mono ?_; rintro e w' ⟨rfl, rfl⟩; rw [HA.out])
    go_ret
    exact ⟨rfl, (Below.refl _ _).alloc (Nat.le_refl _) _⟩
  · have HA := Lib.hid ha
    clear ha
    cases hb : inB b 1 100000000
    all_goals
      have HB := Lib.hid hb
      clear hb
      go_enter Try.func97, Try.ntmps97
      go_wp2_with (go_at_call 60; refine (within_any _ _ _ _).mono ?_; rintro e w' ⟨rfl, rfl⟩; first | rw [HA.out] | rw [HB.out])
      go_ret
      exact ⟨rfl, (Below.refl _ _).alloc (Nat.le_refl _) _⟩

set_option maxHeartbeats 400000 in
theorem timeErr_any (t : Int) (w : World) : Calls Try.prog 98 #[.int .i64 t] w fun e w' => e = .returned (.int .i64 (tErr t)) ∧ w = w' := by
  unfold tErr
  cases ha : inB t (-1000000000000) 1000000000000
  all_goals
    have HA := Lib.hid ha
    clear ha
    go_enter Try.func98, Try.ntmps98
    go_wp2_with (go_at_call 81; refine (small_any _ _ _ (by omega) (by omega)).mono ?_; rintro e w' ⟨rfl, rfl⟩; rw [HA.out])
    go_ret
    exact ⟨rfl, rfl⟩

theorem row67 : IsRow Try.prog 111 2 := ⟨⟨_, Try.underlying111, rfl⟩, by kernel_rfl⟩
theorem row69 : IsRow Try.prog 113 2 := ⟨⟨_, Try.underlying113, rfl⟩, by kernel_rfl⟩
theorem zero51 : ((Try.prog.info? 102).bind (·.zero)).map (·.cells) = some #[.int .i64 0, .int .i64 0] := by kernel_rfl

/-- What GateOf finds: the gate before it is looked at. -/
def gateA (f st lo : Int) : Int := mx 0 (-((f - lo) / st))
def gateB (f st hi : Int) : Int := mn 60 ((hi - f) / st)
/-- What GateOf returns. -/
def gateRes (f st lo hi : Int) : (Int × Int) × Int :=
  if firstOf [sampErr f st, tErr lo, tErr hi] = 0 then
    (if hi < lo then ((0, 0), 9) else if gateB f st hi < gateA f st lo then ((0, 0), 12) else ((gateA f st lo, gateB f st hi), 0))
  else ((0, 0), firstOf [sampErr f st, tErr lo, tErr hi])

theorem firstOf_three {a b c : Int} (h : firstOf [a, b, c] = 0) : a = 0 ∧ b = 0 ∧ c = 0 := by
  simp only [firstOf] at h
  by_cases h1 : a = 0
  · rw [if_pos h1] at h
    obtain ⟨h2, h3⟩ := firstOf_two (a := b) (b := c) h
    exact ⟨h1, h2, h3⟩
  · rw [if_neg h1] at h; exact absurd h h1

theorem sampErr_zero {f st : Int} (h : sampErr f st = 0) : 0 ≤ f ∧ f ≤ 1000000000000 ∧ 1 ≤ st ∧ st ≤ 100000000 := by
  unfold sampErr at h
  by_cases h1 : (inB f 0 1000000000000 && inB st 1 100000000) = true
  · rw [Bool.and_eq_true, inB_true, inB_true] at h1; omega
  · rw [if_neg h1] at h; cases h
theorem tErr_zero {t : Int} (h : tErr t = 0) : -1000000000000 ≤ t ∧ t ≤ 1000000000000 := by
  unfold tErr at h
  by_cases h1 : inB t (-1000000000000) 1000000000000 = true
  · rw [inB_true] at h1; omega
  · rw [if_neg h1] at h; cases h

attribute [local go_sem high] run_max_mx run_min_mn

set_option maxRecDepth 100000 in
set_option maxHeartbeats 3200000 in
theorem GateOf_any (f st lo hi : Int) (w : World) :
    Calls Try.prog 57 #[.agg #[.int .i64 f, .int .i64 st], .agg #[.int .i64 lo, .int .i64 hi]] w fun e w' => e = .returned (.tuple #[.agg #[.int .i64 (gateRes f st lo hi).1.1, .int .i64 (gateRes f st lo hi).1.2], .int .i64 (gateRes f st lo hi).2]) ∧ Below w.heap.size w w' := by
  have kB := Kp.refl w
  go_enter Try.func57, Try.ntmps57
  go_wp2_with (first | ((with_reducible refine wlB (some 2) 111 #[.int .i64 f, .int .i64 st] ?_ ?_); rfl; intro g2 w2 l2 b2 k2; replace kB := kB.new l2 k2) | ((with_reducible refine wlB (some 3) 113 #[.int .i64 lo, .int .i64 hi] ?_ ?_); rfl; intro g3 w3 l3 b3 k3; replace kB := kB.new l3 k3; replace b2 := b2.past l3 k3) | ((with_reducible refine wlA (some 4) 102 #[.int .i64 0, .int .i64 0] zero51 ?_); intro g4 w4 l4 b4 k4; have o4 := kB.own l4; replace kB := kB.new l4 k4; replace b2 := b2.past l4 k4; replace b3 := b3.past l4 k4))
  have HSK := Lib.hid (show ∀ w', Kp w4 w' → (w'.cell? ⟨g2, 0, none⟩ = some (.int .i64 f) ∧ w'.cell? ⟨g2, 1, none⟩ = some (.int .i64 st) ∧ w'.cell? ⟨g3, 0, none⟩ = some (.int .i64 lo) ∧ w'.cell? ⟨g3, 1, none⟩ = some (.int .i64 hi)) ∧ Kp w4 w' from fun w' hk => ⟨⟨(b2.kept hk).cell 0, (b2.kept hk).cell 1, (b3.kept hk).cell 0, (b3.kept hk).cell 1⟩, hk⟩)
  go_region_held3 (fun w' => (w'.cell? ⟨g2, 0, none⟩ = some (.int .i64 f) ∧ w'.cell? ⟨g2, 1, none⟩ = some (.int .i64 st) ∧ w'.cell? ⟨g3, 0, none⟩ = some (.int .i64 lo) ∧ w'.cell? ⟨g3, 1, none⟩ = some (.int .i64 hi)) ∧ Kp w4 w') ((first | exact HSK.out _ (Kp.refl _).drew | exact HSK.out _ (q6.alloc _) | exact HSK.out _ q6))
    (first | (go_at_call 97; refine (CheckSampling_any _ _ _).mono ?_; rintro e w5 ⟨rfl, k5⟩; have q6 : Kp w4 w5 := (Kp.refl w4).drew.call k5) | (go_at_call 98; refine (timeErr_any _ _).mono ?_; rintro e w6 ⟨rfl, rfl⟩) | (go_at_call 62; refine (first_any _ 32 _ [sampErr f st, tErr lo, tErr hi] 3 _ (by exact Blk.new _ _ _) rfl (by omega)).mono ?_; rintro e w7 ⟨rfl, rfl⟩))
  have q7 := fun o => q6.alloc o
  have b7 := fun o => b4.kept (q7 o)
  have kC := fun o => kB.call (q7 o)
  have c0 : ∀ o, (w5.alloc o).cell? ⟨g3, 0, none⟩ = some (.int .i64 lo) := fun o => (b3.kept (q7 o)).cell 0
  have c1 : ∀ o, (w5.alloc o).cell? ⟨g3, 1, none⟩ = some (.int .i64 hi) := fun o => (b3.kept (q7 o)).cell 1
  by_cases he : firstOf [sampErr f st, tErr lo, tErr hi] = 0
  · obtain ⟨e1, e2, e3⟩ := firstOf_three he
    obtain ⟨f0, f1, s0, s1⟩ := sampErr_zero e1
    obtain ⟨lo0, lo1⟩ := tErr_zero e2
    obtain ⟨hi0, hi1⟩ := tErr_zero e3
    have HE := Lib.hid he
    rw [he]
    clear he e1 e2 e3
    by_cases hlh : hi < lo
    · have HF := Lib.hid (show gateRes f st lo hi = ((0, 0), 9) by unfold gateRes; rw [if_pos HE.out, if_pos hlh])
      go_wp2_with ((with_reducible refine wlS 102 (.tmp 4) (.tmp 27) (b7 _) (size2 0 0) (size2 0 0) row51 (one2 0 0) ?_ ?_ ?_); rfl; rfl; intro w9 b9 k9; replace kC := (kC _).turn o4 k9)
      rw [HF.out]
      exact bodyPost_ret (res_cell_tmp rfl _ rfl b9 (size2 0 0) row51) rfl ⟨rfl, kC⟩
    · go_wp2
      have qq := q7 (.cells #[.int .i64 (sampErr f st), .int .i64 (tErr lo), .int .i64 (tErr hi)] 32)
      generalize (w5.alloc (.cells #[.int .i64 (sampErr f st), .int .i64 (tErr lo), .int .i64 (tErr hi)] 32)) = wq at qq ⊢
      clear q7 b7 kC c0 c1
      replace kB := kB.call qq
      replace b2 := b2.kept qq
      replace b3 := b3.kept qq
      replace b4 := b4.kept qq
      have HSK2 := Lib.hid (show ∀ w', Kp wq w' → (w'.cell? ⟨g2, 0, none⟩ = some (.int .i64 f) ∧ w'.cell? ⟨g2, 1, none⟩ = some (.int .i64 st) ∧ w'.cell? ⟨g3, 0, none⟩ = some (.int .i64 lo) ∧ w'.cell? ⟨g3, 1, none⟩ = some (.int .i64 hi)) ∧ Kp wq w' from fun w' hk => ⟨⟨(b2.kept hk).cell 0, (b2.kept hk).cell 1, (b3.kept hk).cell 0, (b3.kept hk).cell 1⟩, hk⟩)
      have HFl := Lib.hid (fun W => floor_any (f - lo) st W (by omega) (by omega) (by omega))
      have HFh := Lib.hid (fun W => floor_any (hi - f) st W (by omega) (by omega) (by omega))
      have e1 : IntKind.i64.wrap (f - lo) = f - lo := IntWalk.i64_in _ (by omega)
      have hq : -100000000000000000 ≤ (f - lo) / st ∧ (f - lo) / st ≤ 100000000000000000 := ediv_bound (by omega) (by omega) (by omega)
      have e2 : IntKind.i64.wrap (hi - f) = hi - f := IntWalk.i64_in _ (by omega)
      have e3 : IntKind.i64.wrap (-((f - lo) / st)) = -((f - lo) / st) := IntWalk.i64_in _ (by omega)
      go_cut [7] (fun s7 wx => ∃ g7 : Nat, s7 = .pointer (some ⟨g7, 0, none⟩) ∧ Blk wx g7 102 #[.int .i64 (gateA f st lo), .int .i64 (gateB f st hi)] ∧ wq.heap.size ≤ g7 ∧ Kp wq wx)
      case first =>
        go_region_held3 (fun w' => (w'.cell? ⟨g2, 0, none⟩ = some (.int .i64 f) ∧ w'.cell? ⟨g2, 1, none⟩ = some (.int .i64 st) ∧ w'.cell? ⟨g3, 0, none⟩ = some (.int .i64 lo) ∧ w'.cell? ⟨g3, 1, none⟩ = some (.int .i64 hi)) ∧ Kp wq w') ((first | exact HSK2.out _ (Kp.refl _).drew | exact HSK2.out _ ((Kp.refl _).drew.alloc _)))
          (first | (go_at_call_of 99 (Value.int .i64 (f - lo)); refine (HFl.out _).mono ?_; rintro e w6 ⟨rfl, rfl⟩) | (go_at_call_of 99 (Value.int .i64 (hi - f)); refine (HFh.out _).mono ?_; rintro e w7 ⟨rfl, rfl⟩))
        all_goals (go_wp2_with fail; go_meet; exact ⟨_, rfl, (Blk.new _ _ _).drew, Nat.le_refl _, ((Kp.refl _).alloc _).drew⟩)
      case rest =>
        obtain ⟨g7, rfl, c7, l7, q8⟩ := hcut
        clear e1 e2 e3 hq
        have n47 := Nat.lt_of_lt_of_le b4.lt l7
        replace kB := kB.call q8
        replace b4 := b4.kept q8
        have d0 := c7.cell 0
        have d1 := c7.cell 1
        by_cases hgt : gateB f st hi < gateA f st lo
        · have HF := Lib.hid (show gateRes f st lo hi = ((0, 0), 12) by unfold gateRes; rw [if_pos HE.out, if_neg (by omega), if_pos hgt])
          go_wp2_with ((with_reducible refine wlS 102 (.tmp 4) (.tmp 53) b4 (size2 0 0) (size2 0 0) row51 (one2 0 0) ?_ ?_ ?_); rfl; rfl; intro w9 b9 k9; replace kB := kB.turn o4 k9)
          rw [HF.out]
          exact bodyPost_ret (res_cell_tmp rfl _ rfl b9 (size2 0 0) row51) rfl ⟨rfl, kB⟩
        · have HF := Lib.hid (show gateRes f st lo hi = ((gateA f st lo, gateB f st hi), 0) by unfold gateRes; rw [if_pos HE.out, if_neg (by omega), if_neg hgt])
          go_wp2_with (first | ((with_reducible refine wlL (some 54) 102 c7 (size2 _ _) row51 ?_ ?_); rfl) | ((with_reducible refine wlS 102 (.tmp 4) (.tmp 54) b4 (size2 0 0) (size2 (gateA f st lo) (gateB f st hi)) row51 (one2 _ _) ?_ ?_ ?_); rfl; rfl; intro w9 b9 k9; replace kB := kB.turn o4 k9))
          rw [HF.out]
          exact bodyPost_ret (res_cell_tmp rfl _ rfl b9 (size2 _ _) row51) rfl ⟨rfl, kB⟩
  · have HF := Lib.hid (show gateRes f st lo hi = ((0, 0), firstOf [sampErr f st, tErr lo, tErr hi]) by unfold gateRes; rw [if_neg he])
    have he' : (firstOf [sampErr f st, tErr lo, tErr hi] != 0) = true := by simpa using he
    clear he
    go_wp2_with ((with_reducible refine wlS 102 (.tmp 4) (.tmp 20) (b7 _) (size2 0 0) (size2 0 0) row51 (one2 0 0) ?_ ?_ ?_); rfl; rfl; intro w9 b9 k9; replace kC := (kC _).turn o4 k9)
    rw [HF.out]
    exact bodyPost_ret (res_cell_tmp rfl _ rfl b9 (size2 0 0) row51) rfl ⟨rfl, kC⟩

end Go.Proofs.Ytcijkniijomcjaa
/- awake: the document's examples hold. -/
namespace Go.Proofs.Ytcijkniijomcjaa
open Go.RowKit Go.Cpl

def s1 : List Nat := spike 10 100
def s2 : List Nat := spike 13 50
theorem s1_err : (firstErr s1 0).2 = 0 := by kernel_rfl
theorem s1_peak : peakOf (nums s1) 0 60 = (7, 10000) := by kernel_rfl
theorem s1_lag : lagRes s1 s2 5 = (3, 0) := by kernel_rfl
theorem s1_parts : nthP (partsL (nums s1)) 9 = (0, 100) ∧ nthP (partsL (nums s1)) 10 = (100, 0) := ⟨by kernel_rfl, by kernel_rfl⟩
theorem ex_gate : gateRes 1000 400 1200 2200 = ((1, 3), 0) := by kernel_rfl

theorem c_sp1 (W : World) : Calls Try.prog 54 #[.int .i64 10, .int .i64 100] W fun e w' => e = .returned (.agg (trc s1)) ∧ Below W.heap.size W w' := Spike_any 10 100 W
theorem c_sp2 (W : World) : Calls Try.prog 54 #[.int .i64 13, .int .i64 50] W fun e w' => e = .returned (.agg (trc s2)) ∧ Below W.heap.size W w' := Spike_any 13 50 W
theorem s1_len : s1.length = 64 := spike_length _ _
theorem s2_len : s2.length = 64 := spike_length _ _
theorem c_peak (W : World) : Calls Try.prog 53 #[.agg (trc s1), .agg #[.int .i64 0, .int .i64 60]] W fun e w' => e = .returned (.tuple #[.agg #[.int .i64 7, .int .i64 10000], .int .i64 0]) ∧ Below W.heap.size W w' := by
  have h := PeakIn_right s1 0 60 W s1_len s1_err (by omega) (by omega)
  rw [s1_peak] at h
  exact h
theorem c_an (W : World) : Calls Try.prog 55 #[.agg (trc s1)] W fun e w' => e = .returned (.tuple #[.agg (cxs (partsL (nums s1))), .int .i64 0]) ∧ Below W.heap.size W w' := Analytic_right s1 W s1_len s1_err
theorem c_lag (W : World) : Calls Try.prog 56 #[.agg (trc s1), .agg (trc s2), .int .i64 5] W fun e w' => e = .returned (.tuple #[.int .i64 3, .int .i64 0]) ∧ Below W.heap.size W w' := by
  have h := LagOf_any s1 s2 5 W s1_len s2_len
  rw [s1_lag] at h
  exact h
theorem c_gate (W : World) : Calls Try.prog 57 #[.agg #[.int .i64 1000, .int .i64 400], .agg #[.int .i64 1200, .int .i64 2200]] W fun e w' => e = .returned (.tuple #[.agg #[.int .i64 1, .int .i64 3], .int .i64 0]) ∧ Below W.heap.size W w' := by
  have h := GateOf_any 1000 400 1200 2200 W
  rw [ex_gate] at h
  exact h

theorem c_sa (W : World) : Calls Try.prog 59 #[.int .i64 0, .int .i64 100] W fun e w' => e = .returned (.complex .f32 (floatOfInt .f32 0) (floatOfInt .f32 100)) ∧ W = w' := Sample_any 0 100 W
theorem c_sb (W : World) : Calls Try.prog 59 #[.int .i64 100, .int .i64 0] W fun e w' => e = .returned (.complex .f32 (floatOfInt .f32 100) (floatOfInt .f32 0)) ∧ W = w' := Sample_any 100 0 W
theorem creads_mid {W : World} {g o : Nat} {t : TypeId} {L l : List (Int × Int)} (h : Blk W g t (cxs L)) (ho : ∀ k, k < l.length → o + k < L.length ∧ nthP L (o + k) = nthP l k) : CReads W (some ⟨g, o, none⟩) l := by
  intro k hk
  obtain ⟨h1, h2⟩ := ho k hk
  refine ⟨_, rfl, ?_⟩
  rw [Addr.add_mid, h.cell, ← h2, nthP_eq h1]
  simp [cxs, h1]
theorem c_ss (W : World) (g gb : Nat) (h : Blk W g 104 (cxs (partsL (nums s1)))) (hb : Blk W gb 103 (cxs [(0, 100), (100, 0)])) :
    Calls Try.prog 58 #[.slice (some ⟨g, 9, none⟩) 2 52, .slice (some ⟨gb, 0, none⟩) 2 2] W fun e w' => e = .returned (.bool true) ∧ ∃ m, w' = W.drewN m := by
  refine SameSamples_same _ _ _ _ 2 [(0, 100), (100, 0)] W rfl (by omega) (creads_mid h ?_) (creads_mid hb ?_) ?_
  · intro k hk
    have hk' : k = 0 ∨ k = 1 := by simp at hk; omega
    rcases hk' with rfl | rfl
    · exact ⟨by rw [partsL_length]; omega, s1_parts.1⟩
    · exact ⟨by rw [partsL_length]; omega, s1_parts.2⟩
  · intro k hk
    exact ⟨by omega, by rw [Nat.zero_add]⟩
  · intro k
    match k with
    | 0 => decide
    | 1 => decide
    | k + 2 => simp [nthP]

theorem eq53 (w : World) : (binOp .eql 97 (.agg #[.int .i64 7, .int .i64 10000]) (.agg #[.int .i64 7, .int .i64 10000])).run Try.prog w = .ok (.bool true) w := by kernel_rfl
theorem eq51 (w : World) : (binOp .eql 102 (.agg #[.int .i64 1, .int .i64 3]) (.agg #[.int .i64 1, .int .i64 3])).run Try.prog w = .ok (.bool true) w := by kernel_rfl

theorem fin_ret {P : Program} {Q : Exit → Act → World → Prop} {a : Act} {w : World} (h : Q .ret a w) : Code.wp P Code.ret Q a w := wp_ret h
set_option maxRecDepth 100000 in
set_option maxHeartbeats 3200000 in
theorem awake_any (w : World) : Calls Try.prog 11 #[] w fun e w' => e = .returned (.bool true) ∧ Below w.heap.size w w' := by
  have HZ := Lib.hid (size_parts (nums s1))
  have kB := Kp.refl w
  go_enter Try.func11, Try.ntmps11
  go_wp2_with (first | (go_at_call_of 54 (Value.int .i64 10); refine (c_sp1 _).mono ?_; rintro e w1 ⟨rfl, k1⟩; replace kB := kB.call k1; first | (replace b1 := b1.kept k1; first | replace b3 := b3.kept k1 | skip) | skip) | (go_at_call_of 54 (Value.int .i64 13); refine (c_sp2 _).mono ?_; rintro e w2 ⟨rfl, k2⟩; replace kB := kB.call k2; replace b1 := b1.kept k2; replace b3 := b3.kept k2) | (go_at_call 53; refine (c_peak _).mono ?_; rintro e w3 ⟨rfl, k3⟩; replace kB := kB.call k3) | ((with_reducible refine wlA (some 1) 97 #[.int .i64 0, .int .i64 0] zero53 ?_); intro g1 w4 l4 b1 k4; have o1 := kB.own l4; replace kB := kB.new l4 k4) | ((with_reducible refine wlS 97 (.tmp 1) (.tmp 13) b1 (size2 0 0) (size2 7 10000) row53 (one2 _ _) ?_ ?_ ?_); rfl; rfl; clear b1; intro w5 b1 k5; replace kB := kB.turn o1 k5))
  go_wp2_with (first | (go_at_call 55; refine (c_an _).mono ?_; rintro e w6 ⟨rfl, k6⟩; replace kB := kB.call k6; replace b1 := b1.kept k6) | ((with_reducible refine wlA (some 3) 104 zeros36 zero36 ?_); intro g3 w7 l7 b3 k7; have o3 := kB.own l7; have n13 := Nat.lt_of_lt_of_le b1.lt l7; replace kB := kB.new l7 k7; replace b1 := b1.past l7 k7) | ((with_reducible refine wlS 104 (.tmp 3) (.tmp 18) b3 size36 HZ.out row36 (cxs_one _) ?_ ?_ ?_); rfl; rfl; clear b3; intro w8 b3 k8; replace kB := kB.turn o3 k8; replace b1 := k8.blk b1 (Nat.ne_of_lt n13)))
  go_wp2_with (first | (go_at_call_of 54 (Value.int .i64 10); refine (c_sp1 _).mono ?_; rintro e w9 ⟨rfl, k9⟩; replace kB := kB.call k9; replace b1 := b1.kept k9; replace b3 := b3.kept k9) | (go_at_call_of 54 (Value.int .i64 13); refine (c_sp2 _).mono ?_; rintro e w10 ⟨rfl, k10⟩; replace kB := kB.call k10; replace b1 := b1.kept k10; replace b3 := b3.kept k10) | (go_at_call 56; refine (c_lag _).mono ?_; rintro e w11 ⟨rfl, k11⟩; replace kB := kB.call k11; replace b1 := b1.kept k11; replace b3 := b3.kept k11) | (go_at_call 57; refine (c_gate _).mono ?_; rintro e w12 ⟨rfl, k12⟩; replace kB := kB.call k12; replace b1 := b1.kept k12; replace b3 := b3.kept k12) | ((with_reducible refine wlA (some 7) 102 #[.int .i64 0, .int .i64 0] zero51 ?_); intro g7 w13 l13 b7 k13; have o7 := kB.own l13; have n17 := Nat.lt_of_lt_of_le b1.lt l13; have n37 := Nat.lt_of_lt_of_le b3.lt l13; replace kB := kB.new l13 k13; replace b1 := b1.past l13 k13; replace b3 := b3.past l13 k13) | ((with_reducible refine wlS 102 (.tmp 7) (.tmp 30) b7 (size2 0 0) (size2 1 3) row51 (one2 _ _) ?_ ?_ ?_); rfl; rfl; clear b7; intro w14 b7 k14; replace kB := kB.turn o7 k14; replace b1 := k14.blk b1 (Nat.ne_of_lt n17); replace b3 := k14.blk b3 (Nat.ne_of_lt n37)))
  refine wp_region_held_drew (S := fun w' => Kp w14 w') (by kernel_rfl) (Kp.refl _).drew (fun hH => ?_)
  refine wpAnyH_take (i := 0) (v := .int .i64 0) rfl (by kernel_rfl) (by kernel_rfl) (by kernel_rfl) (fun _ _ _ h => h) (Or.inl ⟨by kernel_rfl, fun _ _ => by kernel_rfl⟩) hH ?_
  refine wpAnyH_take (i := 1) (v := .bool true) rfl (by kernel_rfl) (by kernel_rfl) (by kernel_rfl) (fun _ _ _ h => h) (Or.inl ⟨by kernel_rfl, fun _ _ => by kernel_rfl⟩) hH ?_
  refine wpAnyH_take (i := 2) (v := .bool true) rfl (by kernel_rfl) (by kernel_rfl) (by kernel_rfl) (fun _ _ _ h => h) (Or.inl ⟨by kernel_rfl, fun _ _ => by kernel_rfl⟩) hH ?_
  refine wpAnyH_take (i := 3) (v := .agg #[.int .i64 7, .int .i64 10000]) rfl (by kernel_rfl) (by kernel_rfl) (by kernel_rfl) (fun _ _ _ h => h) (yl_load (by kernel_rfl) (by rfl) (by kernel_rfl) (fun w hk => b1.kept hk) (size2 7 10000) row53) hH ?_
  refine wpAnyH_take (i := 4) (v := .agg #[.int .i64 7, .int .i64 10000]) rfl (by kernel_rfl) (by kernel_rfl) (by kernel_rfl) (fun _ _ _ h => h) (Or.inl ⟨by kernel_rfl, fun _ _ => by kernel_rfl⟩) hH ?_
  refine wpAnyH_take (i := 5) (v := .bool true) rfl (by kernel_rfl) (by kernel_rfl) (by kernel_rfl) (fun _ _ _ h => h) (Or.inl ⟨by kernel_rfl, fun _ _ => by kernel_rfl⟩) hH ?_
  refine wpAnyH_take (i := 6) (v := .bool true) rfl (by kernel_rfl) (by kernel_rfl) (by kernel_rfl) (fun _ _ _ h => h) (Or.inl ⟨by kernel_rfl, fun _ _ => by kernel_rfl⟩) hH ?_
  refine wpAnyH_take (i := 7) (v := .bool true) rfl (by kernel_rfl) (by kernel_rfl) (by kernel_rfl) (fun _ _ _ h => h) (Or.inl ⟨by kernel_rfl, fun _ _ => by kernel_rfl⟩) hH ?_
  refine wpAnyH_take (i := 8) (v := .int .i64 0) rfl (by kernel_rfl) (by kernel_rfl) (by kernel_rfl) (fun _ _ _ h => h) (Or.inl ⟨by kernel_rfl, fun _ _ => by kernel_rfl⟩) hH ?_
  refine wpAnyH_take (i := 9) (v := .bool true) rfl (by kernel_rfl) (by kernel_rfl) (by kernel_rfl) (fun _ _ _ h => h) (Or.inl ⟨by kernel_rfl, fun _ _ => by kernel_rfl⟩) hH ?_
  refine wpAnyH_take (i := 10) (v := .bool true) rfl (by kernel_rfl) (by kernel_rfl) (by kernel_rfl) (fun _ _ _ h => h) (Or.inl ⟨by kernel_rfl, fun _ _ => by kernel_rfl⟩) hH ?_
  refine wpAnyH_take (i := 11) (v := .bool true) rfl (by kernel_rfl) (by kernel_rfl) (by kernel_rfl) (fun _ _ _ h => h) (Or.inl ⟨by kernel_rfl, fun _ _ => by kernel_rfl⟩) hH ?_
  refine wpAnyH_take (i := 12) (v := .slice (some ⟨g3, 9, none⟩) 2 52) rfl (by kernel_rfl) (by kernel_rfl) (by kernel_rfl) (fun _ _ _ h => h) (Or.inl ⟨by kernel_rfl, fun _ _ => by kernel_rfl⟩) hH ?_
  refine wpAnyH_ready (rs := [13]) (by kernel_rfl) (by simp) ?_
  refine AllReadyH.cons rfl (fun K hK => ?_) AllReadyH.nil
  go_simp
  refine (c_sa _).mono ?_
  rintro e w15 ⟨rfl, rfl⟩
  refine hK.out _ _ hH (fun h13 => ?_)
  clear hK K
  refine wpAnyH_ready (rs := [14]) (by kernel_rfl) (by simp) ?_
  refine AllReadyH.cons rfl (fun K hK => ?_) AllReadyH.nil
  go_simp
  refine (c_sb _).mono ?_
  rintro e w16 ⟨rfl, rfl⟩
  refine hK.out _ _ h13 (fun h14 => ?_)
  clear hK K
  refine wpAnyH_ready (rs := [15]) (by kernel_rfl) (by simp) ?_
  refine AllReadyH.cons rfl (fun K hK => ?_) AllReadyH.nil
  go_simp
  refine hK.out _ _ (Kp.alloc h14 _) (fun h15 => ?_)
  clear hK K
  refine wpAnyH_ready (rs := [16]) (by kernel_rfl) (by simp) ?_
  refine AllReadyH.cons rfl (fun K hK => ?_) AllReadyH.nil
  go_simp
  refine (c_ss _ _ _ ?_ ?_).mono ?_
  · exact b3.kept h15
  · exact (Blk.new _ _ _)
  rintro e w17 ⟨rfl, m17, rfl⟩
  refine hK.out _ _ (Kp.drewN h15 _) (fun h16 => ?_)
  clear hK K
  refine wpAnyH_take (i := 17) (v := .bool true) rfl (by kernel_rfl) (by kernel_rfl) (by kernel_rfl) (fun _ _ _ h => h) (Or.inl ⟨by kernel_rfl, fun _ _ => by kernel_rfl⟩) h16 ?_
  refine wpAnyH_take (i := 18) (v := .bool true) rfl (by kernel_rfl) (by kernel_rfl) (by kernel_rfl) (fun _ _ _ h => h) (Or.inl ⟨by kernel_rfl, fun _ _ => by kernel_rfl⟩) h16 ?_
  refine wpAnyH_take (i := 19) (v := .int .i64 0) rfl (by kernel_rfl) (by kernel_rfl) (by kernel_rfl) (fun _ _ _ h => h) (Or.inl ⟨by kernel_rfl, fun _ _ => by kernel_rfl⟩) h16 ?_
  refine wpAnyH_take (i := 20) (v := .bool true) rfl (by kernel_rfl) (by kernel_rfl) (by kernel_rfl) (fun _ _ _ h => h) (Or.inl ⟨by kernel_rfl, fun _ _ => by kernel_rfl⟩) h16 ?_
  refine wpAnyH_take (i := 21) (v := .bool true) rfl (by kernel_rfl) (by kernel_rfl) (by kernel_rfl) (fun _ _ _ h => h) (Or.inl ⟨by kernel_rfl, fun _ _ => by kernel_rfl⟩) h16 ?_
  refine wpAnyH_take (i := 22) (v := .bool true) rfl (by kernel_rfl) (by kernel_rfl) (by kernel_rfl) (fun _ _ _ h => h) (Or.inl ⟨by kernel_rfl, fun _ _ => by kernel_rfl⟩) h16 ?_
  refine wpAnyH_take (i := 23) (v := .int .i64 3) rfl (by kernel_rfl) (by kernel_rfl) (by kernel_rfl) (fun _ _ _ h => h) (Or.inl ⟨by kernel_rfl, fun _ _ => by kernel_rfl⟩) h16 ?_
  refine wpAnyH_take (i := 24) (v := .bool true) rfl (by kernel_rfl) (by kernel_rfl) (by kernel_rfl) (fun _ _ _ h => h) (Or.inl ⟨by kernel_rfl, fun _ _ => by kernel_rfl⟩) h16 ?_
  refine wpAnyH_take (i := 25) (v := .bool true) rfl (by kernel_rfl) (by kernel_rfl) (by kernel_rfl) (fun _ _ _ h => h) (Or.inl ⟨by kernel_rfl, fun _ _ => by kernel_rfl⟩) h16 ?_
  refine wpAnyH_take (i := 26) (v := .bool true) rfl (by kernel_rfl) (by kernel_rfl) (by kernel_rfl) (fun _ _ _ h => h) (Or.inl ⟨by kernel_rfl, fun _ _ => by kernel_rfl⟩) h16 ?_
  refine wpAnyH_take (i := 27) (v := .int .i64 0) rfl (by kernel_rfl) (by kernel_rfl) (by kernel_rfl) (fun _ _ _ h => h) (Or.inl ⟨by kernel_rfl, fun _ _ => by kernel_rfl⟩) h16 ?_
  refine wpAnyH_take (i := 28) (v := .bool true) rfl (by kernel_rfl) (by kernel_rfl) (by kernel_rfl) (fun _ _ _ h => h) (Or.inl ⟨by kernel_rfl, fun _ _ => by kernel_rfl⟩) h16 ?_
  refine wpAnyH_take (i := 29) (v := .bool true) rfl (by kernel_rfl) (by kernel_rfl) (by kernel_rfl) (fun _ _ _ h => h) (Or.inl ⟨by kernel_rfl, fun _ _ => by kernel_rfl⟩) h16 ?_
  refine wpAnyH_take (i := 30) (v := .bool true) rfl (by kernel_rfl) (by kernel_rfl) (by kernel_rfl) (fun _ _ _ h => h) (Or.inl ⟨by kernel_rfl, fun _ _ => by kernel_rfl⟩) h16 ?_
  refine wpAnyH_take (i := 31) (v := .agg #[.int .i64 1, .int .i64 3]) rfl (by kernel_rfl) (by kernel_rfl) (by kernel_rfl) (fun _ _ _ h => h) (yl_load (by kernel_rfl) (by rfl) (by kernel_rfl) (fun w hk => b7.kept hk) (size2 1 3) row51) h16 ?_
  refine wpAnyH_take (i := 32) (v := .agg #[.int .i64 1, .int .i64 3]) rfl (by kernel_rfl) (by kernel_rfl) (by kernel_rfl) (fun _ _ _ h => h) (Or.inl ⟨by kernel_rfl, fun _ _ => by kernel_rfl⟩) h16 ?_
  refine wpAnyH_take (i := 33) (v := .bool true) rfl (by kernel_rfl) (by kernel_rfl) (by kernel_rfl) (fun _ _ _ h => h) (Or.inl ⟨by kernel_rfl, fun _ _ => by kernel_rfl⟩) h16 ?_
  refine wpAnyH_take (i := 34) (v := .bool true) rfl (by kernel_rfl) (by kernel_rfl) (by kernel_rfl) (fun _ _ _ h => h) (Or.inl ⟨by kernel_rfl, fun _ _ => by kernel_rfl⟩) h16 ?_
  refine wpAnyH_take (i := 35) (v := .bool true) rfl (by kernel_rfl) (by kernel_rfl) (by kernel_rfl) (fun _ _ _ h => h) (Or.inl ⟨by kernel_rfl, fun _ _ => by kernel_rfl⟩) h16 ?_
  refine wpAnyH_done (by kernel_rfl) ?_ _
  rename_i Kz hKz
  show Kz _ _
  refine hKz _ _ ?_
  refine fin_ret ?_
  refine bodyPost_ret (v := .bool true) ?_ (by kernel_rfl) ⟨rfl, kB.call h16⟩
  kernel_rfl

end Go.Proofs.Ytcijkniijomcjaa
/- Traces of matrices. -/
namespace Go.Proofs.Ytcijkniijomcjaa
open Go.RowKit Go.Cpl

set_option maxRecDepth 100000 in
set_option maxHeartbeats 400000 in
theorem traceOf_s (l : List Int) (w0 : World) (hl : l.length = 64) :
    Calls Try.prog 65 #[.agg (ints l)] w0 fun e w' => e = .returned (.agg (trc (mkT l 64))) ∧ Below w0.heap.size w0 w' := by
  have S0 := St.start w0
  refine enter (n := 16) Try.func65 rfl rfl rfl (fun ac A0 => ?_)
  refine wp_seq ?_
  refine wp_region_lit ?_
  refine s_box (.agg (ints l)) A0 S0 (by kernel_rfl) rfl (fun g3 ac wc A1 S2 => ?_)
  replace S2 : St _ (⟨g3, 123, (ints l), true⟩ :: _) _ _ := S2
  refine s_alloc (trc zT) A1 S2 zero26 rfl (fun g7 ac wc A5 S6 => ?_)
  refine wpList_nil ?_
  refine n_then ?_
  refine wp_seq ?_
  refine wp_seq ?_
  refine wp_region_lit ?_
  refine s_one (.agg (ints l)) A5 S6 (g_loadW (g := g3) 1 (by kernel_rfl) rfl ((ints_size _).trans hl) ⟨⟨_, Try.underlying123, rfl⟩, by kernel_rfl⟩) rfl (fun ac A8 => ?_)
  refine s_one (.int .i64 0) A8 S6 (g_move (by kernel_rfl)) rfl (fun ac A9 => ?_)
  refine wpList_nil ?_
  refine n_then ?_
  refine wp_block ?_
  refine c_loopN (fun mm ac wc => ∃ (k : Nat), mm = 64 - k ∧ (k ≤ 64) ∧ Fr 16 ac [(0, .agg (ints l)), (1, .pointer (some ⟨g3, 0, none⟩)), (2, .pointer (some ⟨g7, 0, none⟩)), (5, .agg (ints l)), (6, .int .i64 (k : Int))] ∧ St w0 [⟨g7, 38, (trc (done 0 (fun i => floatOfInt .f32 (nthI l i)) 64 k)), true⟩, ⟨g3, 123, (ints l), true⟩] [] wc) _ ⟨0, rfl, by omega, (A9.slot (A9.slot (A9.slot (A9.slot (A9.slot A9.nil (v := .int .i64 0) (by kernel_rfl) (congrArg (Value.int .i64) (by omega))) (v := .agg (ints l)) (by kernel_rfl) rfl) (v := .pointer (some ⟨g7, 0, none⟩)) (by kernel_rfl) rfl) (v := .pointer (some ⟨g3, 0, none⟩)) (by kernel_rfl) rfl) (v := .agg (ints l)) (by kernel_rfl) rfl), (St.recell 0 S6 rfl (congrArg trc (done_zero 0 (fun i => floatOfInt .f32 (nthI l i)) 64).symm)).sub sub_all sub_all⟩ ?_
  rintro mm ac wc ⟨k, hm12, hk, A10, S11⟩
  refine wp_seq ?_
  refine wp_region_lit ?_
  refine s_one (.bool (decide ((k : Int) < 64))) A10 S11 (g_bin (u := .int .i64 (k : Int)) (k := .int .i64 64) (by kernel_rfl) (by kernel_rfl) (fun _ => by kernel_rfl) (fun _ => by kernel_rfl)) rfl (fun ac A13 => ?_)
  refine wpList_nil ?_
  refine n_then ?_
  refine wp_seq ?_
  refine c_ifb (b := (decide ((k : Int) < 64))) A13 (by kernel_rfl) (fun h14 => ?_) (fun h14 => ?_)
  · have p15 := of_decide_eq_true h14
    refine wp_skip ?_
    refine n_then ?_
    refine wp_seq ?_
    refine wp_block ?_
    refine wp_seq ?_
    refine wp_region_lit ?_
    refine s_one (.int .i64 (k : Int)) A13 S11 (g_move (by kernel_rfl)) rfl (fun ac A16 => ?_)
    refine s_one (.int .i64 (nthI l k)) A16 S11 (g_indexv (u := .agg (ints l)) (k := .int .i64 (k : Int)) (by kernel_rfl) (by kernel_rfl) (index159 l hl k (by omega))) rfl (fun ac A17 => ?_)
    refine s_one (.int .i64 (k : Int)) A17 S11 (g_assign (by kernel_rfl)) rfl (fun ac A18 => ?_)
    refine s_one (.int .i64 (nthI l k)) A18 S11 (g_assign (by kernel_rfl)) rfl (fun ac A19 => ?_)
    refine wpList_nil ?_
    refine n_then ?_
    refine wp_region_lit ?_
    refine s_one (.int .i64 (k : Int)) A19 S11 (g_move (by kernel_rfl)) rfl (fun ac A20 => ?_)
    refine s_one (.int .i64 (nthI l k)) A20 S11 (g_move (by kernel_rfl)) rfl (fun ac A21 => ?_)
    refine s_one (.float .f32 (floatOfInt .f32 (nthI l k))) A21 S11 (g_conv (u := .int .i64 (nthI l k)) (by kernel_rfl) (fun _ => by kernel_rfl)) rfl (fun ac A22 => ?_)
    refine s_one (.pointer (some ⟨g7, k, none⟩)) A22 S11 (g_index (u := .pointer (some ⟨g7, 0, none⟩)) (k := .int .i64 (k : Int)) (by kernel_rfl) (by kernel_rfl) (ix_arr1 k (len := 64) (by kernel_rfl) (by omega) (by omega))) rfl (fun ac A23 => ?_)
    refine s_store (g := g7) (off := k) (v := .float .f32 (floatOfInt .f32 (nthI l k))) 0 (trc ((done 0 (fun i => floatOfInt .f32 (nthI l i)) 64 k).set k (floatOfInt .f32 (nthI l k)))) A23 S11 (by kernel_rfl) (by kernel_rfl) rfl ((pv_of (by kernel_rfl) rfl (by rw [trc_size, (done_length _ _ _ _)]; omega)).trans (congrArg some (trc_set (done 0 (fun i => floatOfInt .f32 (nthI l i)) 64 k) k (floatOfInt .f32 (nthI l k))))) (fun wc S25 => ?_)
    refine wpList_nil ?_
    refine n_block ?_
    refine n_then ?_
    refine wp_region_lit ?_
    refine s_one (.int .i64 ((k : Int) + 1)) A23 S25 (g_bin (u := .int .i64 (k : Int)) (k := .int .i64 1) (by kernel_rfl) (by kernel_rfl) (fun _ => by kernel_rfl) (b_add (by omega))) rfl (fun ac A27 => ?_)
    refine s_one (.int .i64 ((k : Int) + 1)) A27 S25 (g_move (by kernel_rfl)) rfl (fun ac A28 => ?_)
    refine wpList_nil ?_
    refine n_then ?_
    refine ⟨_, ⟨k + 1, rfl, by omega, (A28.slot (A28.slot (A28.slot (A28.slot (A28.slot A28.nil (v := .int .i64 ((k : Int) + 1)) (by kernel_rfl) (congrArg (Value.int .i64) (by omega))) (v := .agg (ints l)) (by kernel_rfl) rfl) (v := .pointer (some ⟨g7, 0, none⟩)) (by kernel_rfl) rfl) (v := .pointer (some ⟨g3, 0, none⟩)) (by kernel_rfl) rfl) (v := .agg (ints l)) (by kernel_rfl) rfl), (St.recell 0 S25 rfl (congrArg trc (done_set 0 (fun i => floatOfInt .f32 (nthI l i)) 64 k))).sub sub_all sub_all⟩, ?_⟩
    omega
  · have p29 := of_decide_eq_false h14
    refine wp_exit ?_
    refine x_then ?_
    refine x_then ?_
    refine x_hit ?_
    refine n_then ?_
    refine wp_seq ?_
    refine wp_region_lit ?_
    refine s_one (.agg (trc (done 0 (fun i => floatOfInt .f32 (nthI l i)) 64 k))) A13 S11 (g_loadW (g := g7) 0 (by kernel_rfl) rfl ((trc_size _).trans (done_length _ _ _ _)) ⟨⟨_, Try.underlying38, rfl⟩, by kernel_rfl⟩) rfl (fun ac A30 => ?_)
    refine s_store (g := g7) (off := 0) (v := .agg (trc (done 0 (fun i => floatOfInt .f32 (nthI l i)) 64 k))) 0 (trc (done 0 (fun i => floatOfInt .f32 (nthI l i)) 64 k)) A30 S11 (by kernel_rfl) (by kernel_rfl) rfl (putVal_whole ((trc_size _).trans (done_length _ _ _ _)) ((trc_size _).trans (done_length _ _ _ _)) ⟨⟨_, Try.underlying38, rfl⟩, by kernel_rfl⟩ (trc_one _)) (fun wc S32 => ?_)
    refine wpList_nil ?_
    refine n_then ?_
    refine wp_ret ?_
    refine fin1 (.agg (trc (done 0 (fun i => floatOfInt .f32 (nthI l i)) 64 k))) Try.results65 A30 S32 (rv_cell (g := g7) (off := 0) 0 (by kernel_rfl) rfl (rowVal_whole ((trc_size _).trans (done_length _ _ _ _)) ⟨⟨_, Try.underlying38, rfl⟩, by kernel_rfl⟩)) ⟨?_, S32.kp⟩
    obtain rfl : k = 64 := by omega
    rfl

set_option maxRecDepth 100000 in
set_option maxHeartbeats 400000 in
theorem SameFloats_s (xs : List Nat) (C D : Option Addr) (c d n : Nat) (w0 : World) (hn : xs.length = n) (hm : n ≤ maxLen) (hC : FReads w0 C xs) (hD : FReads w0 D xs) :
    Calls Try.prog 68 #[.slice C n c, .slice D n d] w0 fun e w' => e = .returned (.bool true) ∧ Below w0.heap.size w0 w' := by
  have S0 := St.start w0
  unfold maxLen at hm
  refine enter (n := 28) Try.func68 rfl rfl rfl (fun ac A0 => ?_)
  refine wp_seq ?_
  refine wp_region_lit ?_
  refine s_one (.bool false) A0 S0 (g_assign (by kernel_rfl)) rfl (fun ac A1 => ?_)
  refine wpList_nil ?_
  refine n_then ?_
  refine wp_seq ?_
  refine wp_seq ?_
  refine wp_region_lit ?_
  refine s_one (.slice C n c) A1 S0 (g_move (by kernel_rfl)) rfl (fun ac A2 => ?_)
  refine s_one (.int .i64 (n : Int)) A2 S0 (g_built (r := [(0, .slice C n c)]) (by kernel_rfl) (fun _ _ _ => by kernel_rfl)) rfl (fun ac A3 => ?_)
  refine s_one (.slice D n d) A3 S0 (g_move (by kernel_rfl)) rfl (fun ac A4 => ?_)
  refine s_one (.int .i64 (n : Int)) A4 S0 (g_built (r := [(0, .slice D n d)]) (by kernel_rfl) (fun _ _ _ => by kernel_rfl)) rfl (fun ac A5 => ?_)
  refine s_one (.bool (decide ((n : Int) ≠ (n : Int)))) A5 S0 (g_bin (u := .int .i64 (n : Int)) (k := .int .i64 (n : Int)) (by kernel_rfl) (by kernel_rfl) (fun _ => by kernel_rfl) b_neq) rfl (fun ac A6 => ?_)
  refine wpList_nil ?_
  refine n_then ?_
  refine c_f (b := (decide ((n : Int) ≠ (n : Int)))) A6 (by kernel_rfl) (decide_eq_false (fun h => h rfl)) ?_
  refine wp_skip ?_
  refine n_then ?_
  refine wp_seq ?_
  refine wp_seq ?_
  refine wp_region_lit ?_
  refine s_one (.int .i64 0) A6 S0 (g_assign (by kernel_rfl)) rfl (fun ac A7 => ?_)
  refine wpList_nil ?_
  refine n_then ?_
  refine wp_block ?_
  refine c_loopN (fun mm ac wc => ∃ (k : Nat), mm = n - k ∧ (k ≤ n) ∧ Fr 28 ac [(0, .slice C n c), (1, .slice D n d), (6, .slice C n c), (7, .int .i64 (n : Int)), (8, .slice D n d), (9, .int .i64 (n : Int)), (10, .bool (decide ((n : Int) ≠ (n : Int)))), (5, .int .i64 (k : Int))] ∧ St w0 [] [] wc) _ ⟨0, rfl, by omega, (A7.slot (A7.slot (A7.slot (A7.slot (A7.slot (A7.slot (A7.slot (A7.slot A7.nil (v := .int .i64 0) (by kernel_rfl) (congrArg (Value.int .i64) (by omega))) (v := .bool (decide ((n : Int) ≠ (n : Int)))) (by kernel_rfl) rfl) (v := .int .i64 (n : Int)) (by kernel_rfl) rfl) (v := .slice D n d) (by kernel_rfl) rfl) (v := .int .i64 (n : Int)) (by kernel_rfl) rfl) (v := .slice C n c) (by kernel_rfl) rfl) (v := .slice D n d) (by kernel_rfl) rfl) (v := .slice C n c) (by kernel_rfl) rfl), S0.sub sub_all sub_all⟩ ?_
  rintro mm ac wc ⟨k, hm10, hk, A8, S9⟩
  refine wp_seq ?_
  refine wp_seq ?_
  refine wp_region_lit ?_
  refine s_one (.int .i64 (k : Int)) A8 S9 (g_move (by kernel_rfl)) rfl (fun ac A11 => ?_)
  refine s_one (.slice C n c) A11 S9 (g_move (by kernel_rfl)) rfl (fun ac A12 => ?_)
  refine s_one (.int .i64 (n : Int)) A12 S9 (g_built (r := [(0, .slice C n c)]) (by kernel_rfl) (fun _ _ _ => by kernel_rfl)) rfl (fun ac A13 => ?_)
  refine s_one (.bool (decide ((k : Int) < (n : Int)))) A13 S9 (g_bin (u := .int .i64 (k : Int)) (k := .int .i64 (n : Int)) (by kernel_rfl) (by kernel_rfl) (fun _ => by kernel_rfl) (fun _ => by kernel_rfl)) rfl (fun ac A14 => ?_)
  refine wpList_nil ?_
  refine n_then ?_
  refine c_ifb (b := (decide ((k : Int) < (n : Int)))) A14 (by kernel_rfl) (fun h15 => ?_) (fun h15 => ?_)
  · have p16 := of_decide_eq_true h15
    refine wp_skip ?_
    refine n_then ?_
    refine wp_seq ?_
    refine wp_block ?_
    refine wp_seq ?_
    refine r_begin (w0 := w0) (by kernel_rfl) (S9.sub sub_all sub_all) (fun wc T17 B18 => ?_)
    have S19 := S9.kept B18
    refine r_take 0 (.slice C n c) A14 T17 (g_move (by kernel_rfl)) rfl rfl rfl (pf_then (pf_block (pf_then (pf_then (pf_block (pf_then pf_body)))))) (by kernel_rfl) (fun ac A20 => ?_)
    refine r_take 1 (.int .i64 (k : Int)) A20 T17 (g_move (by kernel_rfl)) rfl rfl rfl (pf_then (pf_block (pf_then (pf_then (pf_block (pf_then pf_body)))))) (by kernel_rfl) (fun ac A21 => ?_)
    obtain ⟨ad22, rfl, _⟩ := hC (k) (by have hlen := hn; omega)
    refine r_take 2 (.pointer (some (ad22.add k))) A21 T17 (g_index (u := .slice (some ad22) n c) (k := .int .i64 (k : Int)) (by kernel_rfl) (by kernel_rfl) (ix_x (e := 36) (bytes := 4) k (by kernel_rfl) (by omega) (by omega))) rfl rfl rfl (pf_then (pf_block (pf_then (pf_then (pf_block (pf_then pf_body)))))) (by kernel_rfl) (fun ac A23 => ?_)
    refine r_take 3 (.float .f32 (nth xs k)) A23 T17 (g_loadXF (l := xs) (k := k) (by kernel_rfl) hC (by have hlen := hn; omega) (by kernel_rfl)) rfl rfl rfl (pf_then (pf_block (pf_then (pf_then (pf_block (pf_then pf_body)))))) (by kernel_rfl) (fun ac A24 => ?_)
    refine r_take 4 (.int .u32 ((nth xs k) : Int)) A24 T17 (g_ext (f := 103) (r := [(0, .float .f32 (nth xs k))]) (by kernel_rfl) (by kernel_rfl) (fun _ => by kernel_rfl)) rfl rfl rfl (pf_then (pf_block (pf_then (pf_then (pf_block (pf_then pf_body)))))) (by kernel_rfl) (fun ac A25 => ?_)
    refine r_take 5 (.slice D n d) A25 T17 (g_move (by kernel_rfl)) rfl rfl rfl (pf_then (pf_block (pf_then (pf_then (pf_block (pf_then pf_body)))))) (by kernel_rfl) (fun ac A26 => ?_)
    refine r_take 6 (.int .i64 (k : Int)) A26 T17 (g_move (by kernel_rfl)) rfl rfl rfl (pf_then (pf_block (pf_then (pf_then (pf_block (pf_then pf_body)))))) (by kernel_rfl) (fun ac A27 => ?_)
    obtain ⟨ad28, rfl, _⟩ := hD (k) (by have hlen := hn; omega)
    refine r_take 7 (.pointer (some (ad28.add k))) A27 T17 (g_index (u := .slice (some ad28) n d) (k := .int .i64 (k : Int)) (by kernel_rfl) (by kernel_rfl) (ix_x (e := 36) (bytes := 4) k (by kernel_rfl) (by omega) (by omega))) rfl rfl rfl (pf_then (pf_block (pf_then (pf_then (pf_block (pf_then pf_body)))))) (by kernel_rfl) (fun ac A29 => ?_)
    refine r_take 8 (.float .f32 (nth xs k)) A29 T17 (g_loadXF (l := xs) (k := k) (by kernel_rfl) hD (by have hlen := hn; omega) (by kernel_rfl)) rfl rfl rfl (pf_then (pf_block (pf_then (pf_then (pf_block (pf_then pf_body)))))) (by kernel_rfl) (fun ac A30 => ?_)
    refine r_take 9 (.int .u32 ((nth xs k) : Int)) A30 T17 (g_ext (f := 103) (r := [(0, .float .f32 (nth xs k))]) (by kernel_rfl) (by kernel_rfl) (fun _ => by kernel_rfl)) rfl rfl rfl (pf_then (pf_block (pf_then (pf_then (pf_block (pf_then pf_body)))))) (by kernel_rfl) (fun ac A31 => ?_)
    refine r_take 10 (.bool (decide (((nth xs k) : Int) ≠ ((nth xs k) : Int)))) A31 T17 (g_bin (u := .int .u32 ((nth xs k) : Int)) (k := .int .u32 ((nth xs k) : Int)) (by kernel_rfl) (by kernel_rfl) (fun _ => by kernel_rfl) b_neq) rfl rfl rfl (pf_then (pf_block (pf_then (pf_then (pf_block (pf_then pf_body)))))) (by kernel_rfl) (fun ac A32 => ?_)
    refine r_done (by kernel_rfl) ?_
    refine n_then ?_
    refine c_f (b := (decide (((nth xs k) : Int) ≠ ((nth xs k) : Int)))) A32 (by kernel_rfl) (decide_eq_false (fun h => h rfl)) ?_
    refine wp_skip ?_
    refine n_block ?_
    refine n_then ?_
    refine wp_region_lit ?_
    refine s_one (.int .i64 (k : Int)) A32 S19 (g_move (by kernel_rfl)) rfl (fun ac A33 => ?_)
    refine s_one (.int .i64 ((k : Int) + 1)) A33 S19 (g_bin (u := .int .i64 (k : Int)) (k := .int .i64 1) (by kernel_rfl) (by kernel_rfl) (fun _ => by kernel_rfl) (b_add (by omega))) rfl (fun ac A34 => ?_)
    refine s_one (.int .i64 ((k : Int) + 1)) A34 S19 (g_assign (by kernel_rfl)) rfl (fun ac A35 => ?_)
    refine wpList_nil ?_
    refine n_then ?_
    refine ⟨_, ⟨k + 1, rfl, by omega, (A35.slot (A35.slot (A35.slot (A35.slot (A35.slot (A35.slot (A35.slot (A35.slot A35.nil (v := .int .i64 ((k : Int) + 1)) (by kernel_rfl) (congrArg (Value.int .i64) (by omega))) (v := .bool (decide ((n : Int) ≠ (n : Int)))) (by kernel_rfl) rfl) (v := .int .i64 (n : Int)) (by kernel_rfl) rfl) (v := .slice (some ad28) n d) (by kernel_rfl) (by first | rfl | simp)) (v := .int .i64 (n : Int)) (by kernel_rfl) rfl) (v := .slice (some ad22) n c) (by kernel_rfl) (by first | rfl | simp)) (v := .slice (some ad28) n d) (by kernel_rfl) (by first | rfl | simp)) (v := .slice (some ad22) n c) (by kernel_rfl) (by first | rfl | simp)), S19.sub sub_all sub_all⟩, ?_⟩
    omega
  · have p36 := of_decide_eq_false h15
    refine wp_exit ?_
    refine x_then ?_
    refine x_then ?_
    refine x_hit ?_
    refine n_then ?_
    refine wp_seq ?_
    refine wp_region_lit ?_
    refine s_one (.bool true) A14 S9 (g_assign (by kernel_rfl)) rfl (fun ac A37 => ?_)
    refine wpList_nil ?_
    refine n_then ?_
    refine wp_ret ?_
    refine fin1 (.bool true) Try.results68 A37 S9 (rv_tmp (by kernel_rfl)) ⟨?_, S9.kp⟩
    rfl

set_option maxRecDepth 100000 in
set_option maxHeartbeats 400000 in
theorem SameTrace_s (xs : List Nat) (w0 : World) (hl : xs.length = 64) :
    Calls Try.prog 19 #[.agg (trc xs), .agg (trc xs)] w0 fun e w' => e = .returned (.bool true) ∧ Below w0.heap.size w0 w' := by
  have S0 := St.start w0
  refine enter (n := 8) Try.func19 rfl rfl rfl (fun ac A0 => ?_)
  refine wp_seq ?_
  refine wp_region_lit ?_
  refine s_box (.agg (trc xs)) A0 S0 (by kernel_rfl) rfl (fun g3 ac wc A1 S2 => ?_)
  replace S2 : St _ (⟨g3, 38, (trc xs), true⟩ :: _) _ _ := S2
  refine s_box (.agg (trc xs)) A1 S2 (by kernel_rfl) rfl (fun g7 ac wc A5 S6 => ?_)
  replace S6 : St _ (⟨g7, 38, (trc xs), true⟩ :: _) _ _ := S6
  refine s_one (.bool false) A5 S6 (g_assign (by kernel_rfl)) rfl (fun ac A9 => ?_)
  refine wpList_nil ?_
  refine n_then ?_
  refine wp_seq ?_
  refine r_begin (w0 := w0) (by kernel_rfl) (S6.sub sub_all sub_all) (fun wc T10 B11 => ?_)
  have S12 := S6.kept B11
  refine r_take 0 (.slice (some ⟨g3, 0, none⟩) 64 64) A9 T10 (g_slice (u := .pointer (some ⟨g3, 0, none⟩)) (lo' := none) (hi' := none) (mx' := none) (by kernel_rfl) (by kernel_rfl) (by kernel_rfl) (by kernel_rfl) (fun _ => by kernel_rfl)) rfl rfl rfl (pf_then pf_body) (by kernel_rfl) (fun ac A13 => ?_)
  refine r_take 1 (.slice (some ⟨g7, 0, none⟩) 64 64) A13 T10 (g_slice (u := .pointer (some ⟨g7, 0, none⟩)) (lo' := none) (hi' := none) (mx' := none) (by kernel_rfl) (by kernel_rfl) (by kernel_rfl) (by kernel_rfl) (fun _ => by kernel_rfl)) rfl rfl rfl (pf_then pf_body) (by kernel_rfl) (fun ac A14 => ?_)
  refine r_1 (i := 2) (by kernel_rfl) ?_
  refine rs_call (fs := #[]) (cp := #[]) (r := [(0, .slice (some ⟨g3, 0, none⟩) 64 64), (0, .slice (some ⟨g7, 0, none⟩) 64 64)]) #[.slice (some ⟨g3, 0, none⟩) 64 64, .slice (some ⟨g7, 0, none⟩) 64 64] (.bool true) A14 S12 sub_all sub_all (SameFloats_s xs _ _ 64 64 64 _ hl (by decide) (FReads.of_blk (S12.get 1 rfl)) (FReads.of_blk (S12.get 0 rfl))) Try.call68 rfl rfl (by kernel_rfl) (by kernel_rfl) (by kernel_rfl) rfl (fun ac wc A15 S16 => ?_)
  have T18 := S16.sub sub_all sub_all
  refine r_take 3 (.bool true) A15 T18 (g_assign (by kernel_rfl)) rfl rfl rfl (pf_then pf_body) (by kernel_rfl) (fun ac A19 => ?_)
  refine r_done (by kernel_rfl) ?_
  refine n_then ?_
  refine wp_ret ?_
  refine fin1 (.bool true) Try.results19 A19 S16 (rv_tmp (by kernel_rfl)) ⟨?_, S16.kp⟩
  rfl

theorem SameTrace_eq (xs ys : List Nat) (e : xs = ys) (w : World) (hl : xs.length = 64) : Calls Try.prog 19 #[.agg (trc xs), .agg (trc ys)] w fun en w' => en = .returned (.bool true) ∧ Below w.heap.size w w' := by
  subst e; exact SameTrace_s xs w hl

set_option maxRecDepth 100000 in
set_option maxHeartbeats 400000 in
theorem matrixErr_s (el : Int) (A : Option Addr) (n cap : Nat) (xs : List Nat) (w0 : World) (hn : xs.length = n) (hr : FReads w0 A xs) (hm : n ≤ 1000) :
    Calls Try.prog 63 #[.agg #[.int .i64 el, .slice A n cap]] w0 fun e w' => e = .returned (.int .i64 (mxC el xs).2) ∧ Below w0.heap.size w0 w' := by
  have S0 := St.start w0
  refine enter (n := 11) Try.func63 rfl rfl rfl (fun ac A0 => ?_)
  refine wp_seq ?_
  refine wp_region_lit ?_
  refine s_box (.agg #[.int .i64 el, .slice A n cap]) A0 S0 (by kernel_rfl) rfl (fun g3 ac wc A1 S2 => ?_)
  replace S2 : St _ (⟨g3, 30, #[.int .i64 el, .slice A n cap], true⟩ :: _) _ _ := S2
  refine s_one (.int .i64 0) A1 S2 (g_assign (by kernel_rfl)) rfl (fun ac A5 => ?_)
  refine wpList_nil ?_
  refine n_then ?_
  refine wp_seq ?_
  refine wp_region_lit ?_
  refine s_one (.agg #[.int .i64 el, .slice A n cap]) A5 S2 (g_load (g := g3) (off := 0) 0 (by kernel_rfl) rfl (by kernel_rfl)) rfl (fun ac A6 => ?_)
  refine s_call (fs := #[]) (cp := #[]) (r := [(0, .agg #[.int .i64 el, .slice A n cap])]) #[.agg #[.int .i64 el, .slice A n cap]] (.tuple #[.int .i64 ((mxC el xs).1), .int .i64 ((mxC el xs).2)]) A6 S2 (CheckMatrix_s el A n cap xs _ hn (hr.kept S2.kp) (by omega)) Try.call14 (by kernel_rfl) (by kernel_rfl) (by kernel_rfl) rfl (fun ac wc A7 S8 => ?_)
  refine s_one (.tuple #[.int .i64 ((mxC el xs).1), .int .i64 ((mxC el xs).2)]) A7 S8 (g_move (by kernel_rfl)) rfl (fun ac A10 => ?_)
  refine s_one (.int .i64 ((mxC el xs).1)) A10 S8 (g_extract (u := .tuple #[.int .i64 ((mxC el xs).1), .int .i64 ((mxC el xs).2)]) (by kernel_rfl) (fun _ => by kernel_rfl)) rfl (fun ac A11 => ?_)
  refine s_one (.int .i64 ((mxC el xs).2)) A11 S8 (g_extract (u := .tuple #[.int .i64 ((mxC el xs).1), .int .i64 ((mxC el xs).2)]) (by kernel_rfl) (fun _ => by kernel_rfl)) rfl (fun ac A12 => ?_)
  refine s_one (.int .i64 ((mxC el xs).1)) A12 S8 (g_assign (by kernel_rfl)) rfl (fun ac A13 => ?_)
  refine s_one (.int .i64 ((mxC el xs).2)) A13 S8 (g_assign (by kernel_rfl)) rfl (fun ac A14 => ?_)
  refine wpList_nil ?_
  refine n_then ?_
  refine wp_seq ?_
  refine wp_region_lit ?_
  refine s_one (.int .i64 ((mxC el xs).2)) A14 S8 (g_move (by kernel_rfl)) rfl (fun ac A15 => ?_)
  refine s_one (.int .i64 ((mxC el xs).2)) A15 S8 (g_assign (by kernel_rfl)) rfl (fun ac A16 => ?_)
  refine wpList_nil ?_
  refine n_then ?_
  refine wp_ret ?_
  refine fin1 (.int .i64 ((mxC el xs).2)) Try.results63 A16 S8 (rv_tmp (by kernel_rfl)) ⟨?_, S8.kp⟩
  rfl

set_option maxRecDepth 100000 in
set_option maxHeartbeats 400000 in
theorem pairErr_s (el p q : Int) (A : Option Addr) (n cap : Nat) (w0 : World) (hel : -9223372036854775808 ≤ el ∧ el ≤ 9223372036854775807) :
    Calls Try.prog 64 #[.agg #[.int .i64 el, .slice A n cap], .agg #[.int .i64 p, .int .i64 q]] w0 fun e w' => e = .returned (.int .i64 (pairE el p q)) ∧ Below w0.heap.size w0 w' := by
  have S0 := St.start w0
  refine enter (n := 21) Try.func64 rfl rfl rfl (fun ac A0 => ?_)
  refine wp_seq ?_
  refine wp_region_lit ?_
  refine s_box (.agg #[.int .i64 el, .slice A n cap]) A0 S0 (by kernel_rfl) rfl (fun g3 ac wc A1 S2 => ?_)
  replace S2 : St _ (⟨g3, 30, #[.int .i64 el, .slice A n cap], true⟩ :: _) _ _ := S2
  refine s_box (.agg #[.int .i64 p, .int .i64 q]) A1 S2 (by kernel_rfl) rfl (fun g7 ac wc A5 S6 => ?_)
  replace S6 : St _ (⟨g7, 26, #[.int .i64 p, .int .i64 q], true⟩ :: _) _ _ := S6
  refine s_one (.int .i64 0) A5 S6 (g_assign (by kernel_rfl)) rfl (fun ac A9 => ?_)
  refine wpList_nil ?_
  refine n_then ?_
  refine wp_seq ?_
  refine wp_seq ?_
  refine wp_region_lit ?_
  refine s_one (.pointer (some ⟨g7, 0, none⟩)) A9 S6 (g_index (u := .pointer (some ⟨g7, 0, none⟩)) (k := .int .i64 0) (by kernel_rfl) (by kernel_rfl) (fun _ => by kernel_rfl)) rfl (fun ac A10 => ?_)
  refine s_one (.int .i64 p) A10 S6 (g_load (g := g7) (off := 0) 0 (by kernel_rfl) rfl (by kernel_rfl)) rfl (fun ac A11 => ?_)
  refine s_one (.pointer (some ⟨g3, 0, none⟩)) A11 S6 (g_field (u := .pointer (some ⟨g3, 0, none⟩)) (by kernel_rfl) (fun _ => by kernel_rfl)) rfl (fun ac A12 => ?_)
  refine s_one (.int .i64 el) A12 S6 (g_load (g := g3) (off := 0) 1 (by kernel_rfl) rfl (by kernel_rfl)) rfl (fun ac A13 => ?_)
  refine s_one (.int .i64 (el1 el)) A13 S6 (g_bin (u := .int .i64 el) (k := .int .i64 1) (by kernel_rfl) (by kernel_rfl) (fun _ => by kernel_rfl) (sub_el1 hel)) rfl (fun ac A14 => ?_)
  refine s_call (fs := #[]) (cp := #[]) (r := [(0, .int .i64 p), (0, .int .i64 0), (0, .int .i64 (el1 el))]) #[.int .i64 p, .int .i64 0, .int .i64 (el1 el)] (.bool (inB p 0 (el1 el))) A14 S6 (sameB (within_any p 0 (el1 el) _)) Try.call60 (by kernel_rfl) (by kernel_rfl) (by kernel_rfl) rfl (fun ac wc A15 S16 => ?_)
  refine s_one (.bool (!(inB p 0 (el1 el)))) A15 S16 (g_un (u := .bool (inB p 0 (el1 el))) (by kernel_rfl) (fun _ => by kernel_rfl)) rfl (fun ac A18 => ?_)
  refine s_one (.bool (!(inB p 0 (el1 el)))) A18 S16 (g_move (by kernel_rfl)) rfl (fun ac A19 => ?_)
  refine by_bool (!(inB p 0 (el1 el))) (fun h20 => ?_) (fun h20 => ?_)
  · have h21 : inB p 0 (el1 el) = false := by simpa using h20
    refine s_not (dj := 12) (b := (!(inB p 0 (el1 el)))) A19 (by kernel_rfl) (by kernel_rfl) h20 rfl (fun ac A22 => ?_)
    refine s_not (dj := 12) (b := (!(inB p 0 (el1 el)))) A22 (by kernel_rfl) (by kernel_rfl) h20 rfl (fun ac A23 => ?_)
    refine s_not (dj := 12) (b := (!(inB p 0 (el1 el)))) A23 (by kernel_rfl) (by kernel_rfl) h20 rfl (fun ac A24 => ?_)
    refine s_not (dj := 12) (b := (!(inB p 0 (el1 el)))) A24 (by kernel_rfl) (by kernel_rfl) h20 rfl (fun ac A25 => ?_)
    refine s_not (dj := 12) (b := (!(inB p 0 (el1 el)))) A25 (by kernel_rfl) (by kernel_rfl) h20 rfl (fun ac A26 => ?_)
    refine s_not (dj := 12) (b := (!(inB p 0 (el1 el)))) A26 (by kernel_rfl) (by kernel_rfl) h20 rfl (fun ac A27 => ?_)
    refine s_not (dj := 12) (b := (!(inB p 0 (el1 el)))) A27 (by kernel_rfl) (by kernel_rfl) h20 rfl (fun ac A28 => ?_)
    refine s_one (.bool true) A28 S16 (g_pick_t (b := (!(inB p 0 (el1 el)))) (by kernel_rfl) h20 (by kernel_rfl)) rfl (fun ac A29 => ?_)
    refine wpList_nil ?_
    refine n_then ?_
    refine c_t (b := true) A29 (by kernel_rfl) rfl ?_
    refine wp_seq ?_
    refine wp_region_lit ?_
    refine s_one (.int .i64 6) A29 S16 (g_assign (by kernel_rfl)) rfl (fun ac A30 => ?_)
    refine wpList_nil ?_
    refine n_then ?_
    refine wp_ret ?_
    refine r_then ?_
    refine fin1 (.int .i64 6) Try.results64 A30 S16 (rv_tmp (by kernel_rfl)) ⟨?_, S16.kp⟩
    rw [pairE_1 h21]
  · have h31 : inB p 0 (el1 el) = true := by simpa using h20
    refine s_want (dj := 12) (b := (!(inB p 0 (el1 el)))) A19 (by kernel_rfl) (by kernel_rfl) h20 ?_
    refine s_one (.pointer (some ⟨g7, 1, none⟩)) A19 S16 (g_index (u := .pointer (some ⟨g7, 0, none⟩)) (k := .int .i64 1) (by kernel_rfl) (by kernel_rfl) (fun _ => by kernel_rfl)) rfl (fun ac A32 => ?_)
    refine s_want (dj := 12) (b := (!(inB p 0 (el1 el)))) A32 (by kernel_rfl) (by kernel_rfl) h20 ?_
    refine s_one (.int .i64 q) A32 S16 (g_load (g := g7) (off := 1) 0 (by kernel_rfl) rfl (by kernel_rfl)) rfl (fun ac A33 => ?_)
    refine s_want (dj := 12) (b := (!(inB p 0 (el1 el)))) A33 (by kernel_rfl) (by kernel_rfl) h20 ?_
    refine s_one (.pointer (some ⟨g3, 0, none⟩)) A33 S16 (g_field (u := .pointer (some ⟨g3, 0, none⟩)) (by kernel_rfl) (fun _ => by kernel_rfl)) rfl (fun ac A34 => ?_)
    refine s_want (dj := 12) (b := (!(inB p 0 (el1 el)))) A34 (by kernel_rfl) (by kernel_rfl) h20 ?_
    refine s_one (.int .i64 el) A34 S16 (g_load (g := g3) (off := 0) 1 (by kernel_rfl) rfl (by kernel_rfl)) rfl (fun ac A35 => ?_)
    refine s_want (dj := 12) (b := (!(inB p 0 (el1 el)))) A35 (by kernel_rfl) (by kernel_rfl) h20 ?_
    refine s_one (.int .i64 (el1 el)) A35 S16 (g_bin (u := .int .i64 el) (k := .int .i64 1) (by kernel_rfl) (by kernel_rfl) (fun _ => by kernel_rfl) (sub_el1 hel)) rfl (fun ac A36 => ?_)
    refine s_want (dj := 12) (b := (!(inB p 0 (el1 el)))) A36 (by kernel_rfl) (by kernel_rfl) h20 ?_
    refine s_call (fs := #[]) (cp := #[]) (r := [(0, .int .i64 q), (0, .int .i64 0), (0, .int .i64 (el1 el))]) #[.int .i64 q, .int .i64 0, .int .i64 (el1 el)] (.bool (inB q 0 (el1 el))) A36 S16 (sameB (within_any q 0 (el1 el) _)) Try.call60 (by kernel_rfl) (by kernel_rfl) (by kernel_rfl) rfl (fun ac wc A37 S38 => ?_)
    refine s_want (dj := 12) (b := (!(inB p 0 (el1 el)))) A37 (by kernel_rfl) (by kernel_rfl) h20 ?_
    refine s_one (.bool (!(inB q 0 (el1 el)))) A37 S38 (g_un (u := .bool (inB q 0 (el1 el))) (by kernel_rfl) (fun _ => by kernel_rfl)) rfl (fun ac A40 => ?_)
    refine s_one (.bool (!(inB q 0 (el1 el)))) A40 S38 (g_pick_f (b := (!(inB p 0 (el1 el)))) (by kernel_rfl) h20 (by kernel_rfl)) rfl (fun ac A41 => ?_)
    refine wpList_nil ?_
    refine n_then ?_
    refine c_ifb (b := (!(inB q 0 (el1 el)))) A41 (by kernel_rfl) (fun h42 => ?_) (fun h42 => ?_)
    · have h43 : inB q 0 (el1 el) = false := by simpa using h42
      refine wp_seq ?_
      refine wp_region_lit ?_
      refine s_one (.int .i64 6) A41 S38 (g_assign (by kernel_rfl)) rfl (fun ac A44 => ?_)
      refine wpList_nil ?_
      refine n_then ?_
      refine wp_ret ?_
      refine r_then ?_
      refine fin1 (.int .i64 6) Try.results64 A44 S38 (rv_tmp (by kernel_rfl)) ⟨?_, S38.kp⟩
      rw [pairE_2 h43]
    · have h45 : inB q 0 (el1 el) = true := by simpa using h42
      refine wp_skip ?_
      refine n_then ?_
      refine wp_seq ?_
      refine wp_region_lit ?_
      refine s_one (.int .i64 0) A41 S38 (g_assign (by kernel_rfl)) rfl (fun ac A46 => ?_)
      refine wpList_nil ?_
      refine n_then ?_
      refine wp_ret ?_
      refine fin1 (.int .i64 0) Try.results64 A46 S38 (rv_tmp (by kernel_rfl)) ⟨?_, S38.kp⟩
      rw [pairE_y h31 h45]

set_option maxRecDepth 100000 in
set_option maxHeartbeats 400000 in
theorem refPairErr_s (el p q : Int) (A : Option Addr) (n cap : Nat) (w0 : World) (hel : -9223372036854775808 ≤ el ∧ el ≤ 9223372036854775807) :
    Calls Try.prog 18 #[.agg #[.int .i64 el, .slice A n cap], .agg #[.int .i64 p, .int .i64 q]] w0 fun e w' => e = .returned (.int .i64 (pairE el p q)) ∧ Below w0.heap.size w0 w' := by
  have S0 := St.start w0
  refine enter (n := 21) Try.func18 rfl rfl rfl (fun ac A0 => ?_)
  refine wp_seq ?_
  refine wp_region_lit ?_
  refine s_box (.agg #[.int .i64 el, .slice A n cap]) A0 S0 (by kernel_rfl) rfl (fun g3 ac wc A1 S2 => ?_)
  replace S2 : St _ (⟨g3, 30, #[.int .i64 el, .slice A n cap], true⟩ :: _) _ _ := S2
  refine s_box (.agg #[.int .i64 p, .int .i64 q]) A1 S2 (by kernel_rfl) rfl (fun g7 ac wc A5 S6 => ?_)
  replace S6 : St _ (⟨g7, 26, #[.int .i64 p, .int .i64 q], true⟩ :: _) _ _ := S6
  refine s_one (.int .i64 0) A5 S6 (g_assign (by kernel_rfl)) rfl (fun ac A9 => ?_)
  refine wpList_nil ?_
  refine n_then ?_
  refine wp_seq ?_
  refine wp_seq ?_
  refine wp_region_lit ?_
  refine s_one (.pointer (some ⟨g7, 0, none⟩)) A9 S6 (g_index (u := .pointer (some ⟨g7, 0, none⟩)) (k := .int .i64 0) (by kernel_rfl) (by kernel_rfl) (fun _ => by kernel_rfl)) rfl (fun ac A10 => ?_)
  refine s_one (.int .i64 p) A10 S6 (g_load (g := g7) (off := 0) 0 (by kernel_rfl) rfl (by kernel_rfl)) rfl (fun ac A11 => ?_)
  refine s_one (.pointer (some ⟨g3, 0, none⟩)) A11 S6 (g_field (u := .pointer (some ⟨g3, 0, none⟩)) (by kernel_rfl) (fun _ => by kernel_rfl)) rfl (fun ac A12 => ?_)
  refine s_one (.int .i64 el) A12 S6 (g_load (g := g3) (off := 0) 1 (by kernel_rfl) rfl (by kernel_rfl)) rfl (fun ac A13 => ?_)
  refine s_one (.int .i64 (el1 el)) A13 S6 (g_bin (u := .int .i64 el) (k := .int .i64 1) (by kernel_rfl) (by kernel_rfl) (fun _ => by kernel_rfl) (sub_el1 hel)) rfl (fun ac A14 => ?_)
  refine s_call (fs := #[]) (cp := #[]) (r := [(0, .int .i64 p), (0, .int .i64 0), (0, .int .i64 (el1 el))]) #[.int .i64 p, .int .i64 0, .int .i64 (el1 el)] (.bool (inB p 0 (el1 el))) A14 S6 (sameB (Within_any p 0 (el1 el) _)) Try.call39 (by kernel_rfl) (by kernel_rfl) (by kernel_rfl) rfl (fun ac wc A15 S16 => ?_)
  refine s_one (.bool (!(inB p 0 (el1 el)))) A15 S16 (g_un (u := .bool (inB p 0 (el1 el))) (by kernel_rfl) (fun _ => by kernel_rfl)) rfl (fun ac A18 => ?_)
  refine s_one (.bool (!(inB p 0 (el1 el)))) A18 S16 (g_move (by kernel_rfl)) rfl (fun ac A19 => ?_)
  refine by_bool (!(inB p 0 (el1 el))) (fun h20 => ?_) (fun h20 => ?_)
  · have h21 : inB p 0 (el1 el) = false := by simpa using h20
    refine s_not (dj := 12) (b := (!(inB p 0 (el1 el)))) A19 (by kernel_rfl) (by kernel_rfl) h20 rfl (fun ac A22 => ?_)
    refine s_not (dj := 12) (b := (!(inB p 0 (el1 el)))) A22 (by kernel_rfl) (by kernel_rfl) h20 rfl (fun ac A23 => ?_)
    refine s_not (dj := 12) (b := (!(inB p 0 (el1 el)))) A23 (by kernel_rfl) (by kernel_rfl) h20 rfl (fun ac A24 => ?_)
    refine s_not (dj := 12) (b := (!(inB p 0 (el1 el)))) A24 (by kernel_rfl) (by kernel_rfl) h20 rfl (fun ac A25 => ?_)
    refine s_not (dj := 12) (b := (!(inB p 0 (el1 el)))) A25 (by kernel_rfl) (by kernel_rfl) h20 rfl (fun ac A26 => ?_)
    refine s_not (dj := 12) (b := (!(inB p 0 (el1 el)))) A26 (by kernel_rfl) (by kernel_rfl) h20 rfl (fun ac A27 => ?_)
    refine s_not (dj := 12) (b := (!(inB p 0 (el1 el)))) A27 (by kernel_rfl) (by kernel_rfl) h20 rfl (fun ac A28 => ?_)
    refine s_one (.bool true) A28 S16 (g_pick_t (b := (!(inB p 0 (el1 el)))) (by kernel_rfl) h20 (by kernel_rfl)) rfl (fun ac A29 => ?_)
    refine wpList_nil ?_
    refine n_then ?_
    refine c_t (b := true) A29 (by kernel_rfl) rfl ?_
    refine wp_seq ?_
    refine wp_region_lit ?_
    refine s_one (.int .i64 6) A29 S16 (g_assign (by kernel_rfl)) rfl (fun ac A30 => ?_)
    refine wpList_nil ?_
    refine n_then ?_
    refine wp_ret ?_
    refine r_then ?_
    refine fin1 (.int .i64 6) Try.results18 A30 S16 (rv_tmp (by kernel_rfl)) ⟨?_, S16.kp⟩
    rw [pairE_1 h21]
  · have h31 : inB p 0 (el1 el) = true := by simpa using h20
    refine s_want (dj := 12) (b := (!(inB p 0 (el1 el)))) A19 (by kernel_rfl) (by kernel_rfl) h20 ?_
    refine s_one (.pointer (some ⟨g7, 1, none⟩)) A19 S16 (g_index (u := .pointer (some ⟨g7, 0, none⟩)) (k := .int .i64 1) (by kernel_rfl) (by kernel_rfl) (fun _ => by kernel_rfl)) rfl (fun ac A32 => ?_)
    refine s_want (dj := 12) (b := (!(inB p 0 (el1 el)))) A32 (by kernel_rfl) (by kernel_rfl) h20 ?_
    refine s_one (.int .i64 q) A32 S16 (g_load (g := g7) (off := 1) 0 (by kernel_rfl) rfl (by kernel_rfl)) rfl (fun ac A33 => ?_)
    refine s_want (dj := 12) (b := (!(inB p 0 (el1 el)))) A33 (by kernel_rfl) (by kernel_rfl) h20 ?_
    refine s_one (.pointer (some ⟨g3, 0, none⟩)) A33 S16 (g_field (u := .pointer (some ⟨g3, 0, none⟩)) (by kernel_rfl) (fun _ => by kernel_rfl)) rfl (fun ac A34 => ?_)
    refine s_want (dj := 12) (b := (!(inB p 0 (el1 el)))) A34 (by kernel_rfl) (by kernel_rfl) h20 ?_
    refine s_one (.int .i64 el) A34 S16 (g_load (g := g3) (off := 0) 1 (by kernel_rfl) rfl (by kernel_rfl)) rfl (fun ac A35 => ?_)
    refine s_want (dj := 12) (b := (!(inB p 0 (el1 el)))) A35 (by kernel_rfl) (by kernel_rfl) h20 ?_
    refine s_one (.int .i64 (el1 el)) A35 S16 (g_bin (u := .int .i64 el) (k := .int .i64 1) (by kernel_rfl) (by kernel_rfl) (fun _ => by kernel_rfl) (sub_el1 hel)) rfl (fun ac A36 => ?_)
    refine s_want (dj := 12) (b := (!(inB p 0 (el1 el)))) A36 (by kernel_rfl) (by kernel_rfl) h20 ?_
    refine s_call (fs := #[]) (cp := #[]) (r := [(0, .int .i64 q), (0, .int .i64 0), (0, .int .i64 (el1 el))]) #[.int .i64 q, .int .i64 0, .int .i64 (el1 el)] (.bool (inB q 0 (el1 el))) A36 S16 (sameB (Within_any q 0 (el1 el) _)) Try.call39 (by kernel_rfl) (by kernel_rfl) (by kernel_rfl) rfl (fun ac wc A37 S38 => ?_)
    refine s_want (dj := 12) (b := (!(inB p 0 (el1 el)))) A37 (by kernel_rfl) (by kernel_rfl) h20 ?_
    refine s_one (.bool (!(inB q 0 (el1 el)))) A37 S38 (g_un (u := .bool (inB q 0 (el1 el))) (by kernel_rfl) (fun _ => by kernel_rfl)) rfl (fun ac A40 => ?_)
    refine s_one (.bool (!(inB q 0 (el1 el)))) A40 S38 (g_pick_f (b := (!(inB p 0 (el1 el)))) (by kernel_rfl) h20 (by kernel_rfl)) rfl (fun ac A41 => ?_)
    refine wpList_nil ?_
    refine n_then ?_
    refine c_ifb (b := (!(inB q 0 (el1 el)))) A41 (by kernel_rfl) (fun h42 => ?_) (fun h42 => ?_)
    · have h43 : inB q 0 (el1 el) = false := by simpa using h42
      refine wp_seq ?_
      refine wp_region_lit ?_
      refine s_one (.int .i64 6) A41 S38 (g_assign (by kernel_rfl)) rfl (fun ac A44 => ?_)
      refine wpList_nil ?_
      refine n_then ?_
      refine wp_ret ?_
      refine r_then ?_
      refine fin1 (.int .i64 6) Try.results18 A44 S38 (rv_tmp (by kernel_rfl)) ⟨?_, S38.kp⟩
      rw [pairE_2 h43]
    · have h45 : inB q 0 (el1 el) = true := by simpa using h42
      refine wp_skip ?_
      refine n_then ?_
      refine wp_seq ?_
      refine wp_region_lit ?_
      refine s_one (.int .i64 0) A41 S38 (g_assign (by kernel_rfl)) rfl (fun ac A46 => ?_)
      refine wpList_nil ?_
      refine n_then ?_
      refine wp_ret ?_
      refine fin1 (.int .i64 0) Try.results18 A46 S38 (rv_tmp (by kernel_rfl)) ⟨?_, S38.kp⟩
      rw [pairE_y h31 h45]

def toI (el p q : Int) : Nat := ((p * el + q) * 64).toNat
/-- The trace of a pair, or none. -/
def toF (el : Int) (xs : List Nat) (p q : Int) : List Nat := if firstOf [(mxC el xs).2, pairE el p q] = 0 then mkT (nums (cutF xs (toI el p q) 64)) 64 else zT
theorem toF_y {el : Int} {xs : List Nat} {p q : Int} (h : firstOf [(mxC el xs).2, pairE el p q] = 0) : toF el xs p q = mkT (nums (cutF xs (toI el p q) 64)) 64 := if_pos h
theorem toF_n {el : Int} {xs : List Nat} {p q : Int} (h : firstOf [(mxC el xs).2, pairE el p q] ≠ 0) : toF el xs p q = zT := if_neg h
theorem toF_length (el : Int) (xs : List Nat) (p q : Int) : (toF el xs p q).length = 64 := by
  unfold toF; split
  · exact done_length _ _ _ _
  · exact zT_length
theorem cut_right {xs : List Nat} (h : Right xs) {i n : Nat} (hi : i + n ≤ xs.length) : Right (cutF xs i n) := by
  intro x hx
  simp only [cutF, List.mem_map, List.mem_range] at hx
  obtain ⟨k, hk, rfl⟩ := hx
  exact h.at_ (by omega)

set_option maxRecDepth 100000 in
set_option maxHeartbeats 400000 in
theorem TraceOf_s (el : Int) (A : Option Addr) (n cap : Nat) (xs : List Nat) (p q : Int) (w0 : World) (hn : xs.length = n) (hr : FReads w0 A xs) (hm : n ≤ 1000) (hel : -9223372036854775808 ≤ el ∧ el ≤ 9223372036854775807) (hcp : n ≤ cap) :
    Calls Try.prog 16 #[.agg #[.int .i64 el, .slice A n cap], .agg #[.int .i64 p, .int .i64 q]] w0 fun e w' => e = .returned (.tuple #[.agg (trc (toF el xs p q)), .int .i64 (firstOf [(mxC el xs).2, pairE el p q])]) ∧ Below w0.heap.size w0 w' := by
  have S0 := St.start w0
  refine enter (n := 39) Try.func16 rfl rfl rfl (fun ac A0 => ?_)
  refine wp_seq ?_
  refine wp_region_lit ?_
  refine s_box (.agg #[.int .i64 el, .slice A n cap]) A0 S0 (by kernel_rfl) rfl (fun g3 ac wc A1 S2 => ?_)
  replace S2 : St _ (⟨g3, 30, #[.int .i64 el, .slice A n cap], true⟩ :: _) _ _ := S2
  refine s_box (.agg #[.int .i64 p, .int .i64 q]) A1 S2 (by kernel_rfl) rfl (fun g7 ac wc A5 S6 => ?_)
  replace S6 : St _ (⟨g7, 26, #[.int .i64 p, .int .i64 q], true⟩ :: _) _ _ := S6
  refine s_alloc (trc zT) A5 S6 zero26 rfl (fun g11 ac wc A9 S10 => ?_)
  refine s_one (.int .i64 0) A9 S10 (g_assign (by kernel_rfl)) rfl (fun ac A12 => ?_)
  refine wpList_nil ?_
  refine n_then ?_
  refine wp_seq ?_
  refine wp_seq ?_
  refine r_begin (w0 := w0) (by kernel_rfl) (S10.sub sub_all sub_all) (fun wc T13 B14 => ?_)
  have S15 := S10.kept B14
  refine r_take 0 (.agg #[.int .i64 el, .slice A n cap]) A12 T13 (g_load (g := g3) (off := 0) 2 (by kernel_rfl) rfl (by kernel_rfl)) rfl rfl rfl (pf_then (pf_then pf_body)) (by kernel_rfl) (fun ac A16 => ?_)
  refine r_take 2 (.agg #[.int .i64 el, .slice A n cap]) A16 T13 (g_load (g := g3) (off := 0) 2 (by kernel_rfl) rfl (by kernel_rfl)) rfl rfl rfl (pf_then (pf_then pf_body)) (by kernel_rfl) (fun ac A17 => ?_)
  refine r_take 3 (.agg #[.int .i64 p, .int .i64 q]) A17 T13 (g_load (g := g7) (off := 0) 1 (by kernel_rfl) rfl (by kernel_rfl)) rfl rfl rfl (pf_then (pf_then pf_body)) (by kernel_rfl) (fun ac A18 => ?_)
  refine r_1 (i := 1) (by kernel_rfl) ?_
  refine rs_call (fs := #[]) (cp := #[]) (r := [(0, .agg #[.int .i64 el, .slice A n cap])]) #[.agg #[.int .i64 el, .slice A n cap]] (.int .i64 ((mxC el xs).2)) A18 S15 sub_all sub_all (matrixErr_s el A n cap xs _ hn (hr.kept S15.kp) (by omega)) Try.call63 rfl rfl (by kernel_rfl) (by kernel_rfl) (by kernel_rfl) rfl (fun ac wc A19 S20 => ?_)
  have T22 := S20.sub sub_all sub_all
  refine r_1 (i := 4) (by kernel_rfl) ?_
  refine rs_call (fs := #[]) (cp := #[]) (r := [(0, .agg #[.int .i64 el, .slice A n cap]), (0, .agg #[.int .i64 p, .int .i64 q])]) #[.agg #[.int .i64 el, .slice A n cap], .agg #[.int .i64 p, .int .i64 q]] (.int .i64 (pairE el p q)) A19 S20 sub_all sub_all (pairErr_s el p q A n cap _ (by omega)) Try.call64 rfl rfl (by kernel_rfl) (by kernel_rfl) (by kernel_rfl) rfl (fun ac wc A23 S24 => ?_)
  have T26 := S24.sub sub_all sub_all
  refine r_1 (i := 5) (by kernel_rfl) ?_
  refine rs_bs (e := 32) (r := [(0, .int .i64 ((mxC el xs).2)), (1, .int .i64 (pairE el p q))]) (#[.int .i64 ((mxC el xs).2), .int .i64 (pairE el p q)]) A23 S24 sub_all sub_all (by kernel_rfl) (by kernel_rfl) rfl rfl rfl (fun g29 ac wc A27 S28 => ?_)
  have T30 := S28.sub (sub_skip sub_all) sub_all
  refine r_1 (i := 6) (by kernel_rfl) ?_
  refine rs_call (fs := #[]) (cp := #[]) (r := [(0, .slice (some ⟨g29, 0, none⟩) 2 2)]) #[.slice (some ⟨g29, 0, none⟩) 2 2] (.int .i64 (firstOf [(mxC el xs).2, pairE el p q])) A27 S28 (sub_skip sub_all) sub_all (sameB (first_any g29 32 2 [(mxC el xs).2, pairE el p q] 2 _ (S28.get 0 rfl) rfl (by omega))) Try.call62 rfl rfl (by kernel_rfl) (by kernel_rfl) (by kernel_rfl) rfl (fun ac wc A31 S32 => ?_)
  have T34 := S32.sub (sub_skip sub_all) sub_all
  refine r_take 7 (.int .i64 (firstOf [(mxC el xs).2, pairE el p q])) A31 T34 (g_assign (by kernel_rfl)) rfl rfl rfl (pf_then (pf_then pf_body)) (by kernel_rfl) (fun ac A35 => ?_)
  refine r_done (by kernel_rfl) ?_
  refine n_then ?_
  refine wp_seq ?_
  refine wp_region_lit ?_
  refine s_one (.int .i64 (firstOf [(mxC el xs).2, pairE el p q])) A35 S32 (g_move (by kernel_rfl)) rfl (fun ac A36 => ?_)
  refine s_one (.bool (decide (firstOf [(mxC el xs).2, pairE el p q] ≠ 0))) A36 S32 (g_bin (u := .int .i64 (firstOf [(mxC el xs).2, pairE el p q])) (k := .int .i64 0) (by kernel_rfl) (by kernel_rfl) (fun _ => by kernel_rfl) b_neq) rfl (fun ac A37 => ?_)
  refine wpList_nil ?_
  refine n_then ?_
  refine c_ifb (b := (decide (firstOf [(mxC el xs).2, pairE el p q] ≠ 0))) A37 (by kernel_rfl) (fun h38 => ?_) (fun h38 => ?_)
  · have p39 := of_decide_eq_true h38
    have hz : firstOf [(mxC el xs).2, pairE el p q] ≠ 0 := of_decide_eq_true h38
    refine wp_seq ?_
    refine wp_region_lit ?_
    refine s_one (.agg (trc zT)) A37 S32 (g_build (r := []) (by kernel_rfl) (fun _ => by kernel_rfl)) rfl (fun ac A40 => ?_)
    refine s_one (.int .i64 (firstOf [(mxC el xs).2, pairE el p q])) A40 S32 (g_move (by kernel_rfl)) rfl (fun ac A41 => ?_)
    refine s_store (g := g11) (off := 0) (v := .agg (trc zT)) 1 (trc zT) A41 S32 (by kernel_rfl) (by kernel_rfl) rfl (putVal_whole ((trc_size _).trans zT_length) ((trc_size _).trans zT_length) ⟨⟨_, Try.underlying38, rfl⟩, by kernel_rfl⟩ (trc_one _)) (fun wc S43 => ?_)
    refine s_one (.int .i64 (firstOf [(mxC el xs).2, pairE el p q])) A41 S43 (g_assign (by kernel_rfl)) rfl (fun ac A45 => ?_)
    refine wpList_nil ?_
    refine n_then ?_
    refine wp_ret ?_
    refine r_then ?_
    refine fin2 (.agg (trc zT)) (.int .i64 (firstOf [(mxC el xs).2, pairE el p q])) Try.results16 A45 S43 (rv_cell (g := g11) (off := 0) 1 (by kernel_rfl) rfl (rowVal_whole ((trc_size _).trans zT_length) ⟨⟨_, Try.underlying38, rfl⟩, by kernel_rfl⟩)) (rv_tmp (by kernel_rfl)) ⟨?_, S43.kp⟩
    rw [toF_n hz]
  · have p46 := of_decide_eq_false h38
    have hz : firstOf [(mxC el xs).2, pairE el p q] = 0 := by simpa using h38
    obtain ⟨z1, z2⟩ := firstOf_two hz
    obtain ⟨he1, he2, he3⟩ := mxC_0 z1
    obtain ⟨hp, hq⟩ := pairE_0 he1 z2
    have hsq := sq_bd he1
    have hpa := pair_at he1 hp hq
    have hti : toI el p q = ((p * el + q) * 64).toNat := rfl
    have HC := cut_right (right_of he3) (i := ((p * el + q) * 64).toNat) (n := 64) (by omega)
    refine wp_skip ?_
    refine n_then ?_
    refine wp_seq ?_
    refine wp_region_lit ?_
    refine s_one (.pointer (some ⟨g7, 0, none⟩)) A37 S32 (g_index (u := .pointer (some ⟨g7, 0, none⟩)) (k := .int .i64 0) (by kernel_rfl) (by kernel_rfl) (fun _ => by kernel_rfl)) rfl (fun ac A47 => ?_)
    refine s_one (.int .i64 p) A47 S32 (g_load (g := g7) (off := 0) 2 (by kernel_rfl) rfl (by kernel_rfl)) rfl (fun ac A48 => ?_)
    refine s_one (.pointer (some ⟨g3, 0, none⟩)) A48 S32 (g_field (u := .pointer (some ⟨g3, 0, none⟩)) (by kernel_rfl) (fun _ => by kernel_rfl)) rfl (fun ac A49 => ?_)
    refine s_one (.int .i64 el) A49 S32 (g_load (g := g3) (off := 0) 3 (by kernel_rfl) rfl (by kernel_rfl)) rfl (fun ac A50 => ?_)
    refine s_one (.int .i64 (p * el)) A50 S32 (g_bin (u := .int .i64 p) (k := .int .i64 el) (by kernel_rfl) (by kernel_rfl) (fun _ => by kernel_rfl) (b_mul (by omega))) rfl (fun ac A51 => ?_)
    refine s_one (.pointer (some ⟨g7, 1, none⟩)) A51 S32 (g_index (u := .pointer (some ⟨g7, 0, none⟩)) (k := .int .i64 1) (by kernel_rfl) (by kernel_rfl) (fun _ => by kernel_rfl)) rfl (fun ac A52 => ?_)
    refine s_one (.int .i64 q) A52 S32 (g_load (g := g7) (off := 1) 2 (by kernel_rfl) rfl (by kernel_rfl)) rfl (fun ac A53 => ?_)
    refine s_one (.int .i64 (p * el + q)) A53 S32 (g_bin (u := .int .i64 (p * el)) (k := .int .i64 q) (by kernel_rfl) (by kernel_rfl) (fun _ => by kernel_rfl) (b_add (by omega))) rfl (fun ac A54 => ?_)
    refine s_one (.int .i64 ((p * el + q) * 64)) A54 S32 (g_bin (u := .int .i64 (p * el + q)) (k := .int .i64 64) (by kernel_rfl) (by kernel_rfl) (fun _ => by kernel_rfl) (b_mul (by omega))) rfl (fun ac A55 => ?_)
    refine s_one (.int .i64 ((p * el + q) * 64)) A55 S32 (g_assign (by kernel_rfl)) rfl (fun ac A56 => ?_)
    refine wpList_nil ?_
    refine n_then ?_
    refine wp_seq ?_
    refine wp_region_lit ?_
    refine s_one (.pointer (some ⟨g3, 1, none⟩)) A56 S32 (g_field (u := .pointer (some ⟨g3, 0, none⟩)) (by kernel_rfl) (fun _ => by kernel_rfl)) rfl (fun ac A57 => ?_)
    refine s_one (.slice A n cap) A57 S32 (g_load (g := g3) (off := 1) 3 (by kernel_rfl) rfl (by kernel_rfl)) rfl (fun ac A58 => ?_)
    refine s_one (.int .i64 ((p * el + q) * 64)) A58 S32 (g_move (by kernel_rfl)) rfl (fun ac A59 => ?_)
    refine s_one (.int .i64 ((p * el + q) * 64)) A59 S32 (g_move (by kernel_rfl)) rfl (fun ac A60 => ?_)
    refine s_one (.int .i64 ((p * el + q) * 64 + 64)) A60 S32 (g_bin (u := .int .i64 ((p * el + q) * 64)) (k := .int .i64 64) (by kernel_rfl) (by kernel_rfl) (fun _ => by kernel_rfl) (b_add (by omega))) rfl (fun ac A61 => ?_)
    obtain ⟨ad62, rfl, _⟩ := hr (((p * el + q) * 64).toNat) (by have hlen := hn; omega)
    refine s_one (.slice (some (ad62.add (((p * el + q) * 64).toNat))) ((((p * el + q) * 64 + 64).toNat) - (((p * el + q) * 64).toNat)) (cap - (((p * el + q) * 64).toNat))) A61 S32 (g_slice (u := .slice (some ad62) n cap) (lo' := (some (.int .i64 ((p * el + q) * 64)))) (hi' := (some (.int .i64 ((p * el + q) * 64 + 64)))) (mx' := none) (by kernel_rfl) (by kernel_rfl) (by kernel_rfl) (by kernel_rfl) (sl_x (e := 36) (b := 4) (i := ((p * el + q) * 64).toNat) (h := ((p * el + q) * 64 + 64).toNat) (by kernel_rfl) (by omega) (by omega) (by omega) (by omega) (by omega))) rfl (fun ac A63 => ?_)
    refine s_one (.pointer (some (ad62.add (((p * el + q) * 64).toNat)))) A63 S32 (g_s2a (u := .slice (some (ad62.add (((p * el + q) * 64).toNat))) ((((p * el + q) * 64 + 64).toNat) - (((p * el + q) * 64).toNat)) (cap - (((p * el + q) * 64).toNat))) (by kernel_rfl) (arr_x Try.underlying38 (by omega))) rfl (fun ac A64 => ?_)
    refine s_one (.agg (trc (cutF xs (((p * el + q) * 64).toNat) 64))) A64 S32 (g_loadXA (l := xs) (i := ((p * el + q) * 64).toNat) 64 (by kernel_rfl) hr (by have hlen := hn; omega) (by kernel_rfl)) rfl (fun ac A65 => ?_)
    refine s_alloc (trc zT) A65 S32 zero26 rfl (fun g68 ac wc A66 S67 => ?_)
    refine s_store (g := g68) (off := 0) (v := .agg (trc (cutF xs (((p * el + q) * 64).toNat) 64))) 0 (trc (cutF xs (((p * el + q) * 64).toNat) 64)) A66 S67 (by kernel_rfl) (by kernel_rfl) rfl (putVal_whole ((trc_size _).trans zT_length) ((trc_size _).trans (cutF_length _ _ _)) ⟨⟨_, Try.underlying38, rfl⟩, by kernel_rfl⟩ (trc_one _)) (fun wc S70 => ?_)
    refine wpList_nil ?_
    refine n_then ?_
    refine wp_seq ?_
    refine wp_region_lit ?_
    refine s_call (fs := #[]) (cp := #[]) (r := [(0, .pointer (some ⟨g68, 0, none⟩))]) #[.pointer (some ⟨g68, 0, none⟩)] (.agg (ints (nums (cutF xs (((p * el + q) * 64).toNat) 64)))) A66 S70 (numbersOf_any g68 (cutF xs (((p * el + q) * 64).toNat) 64) _ (cutF_length _ _ _) (S70.get 0 rfl) HC) Try.call66 (by kernel_rfl) (by kernel_rfl) (by kernel_rfl) rfl (fun ac wc A72 S73 => ?_)
    refine s_call (fs := #[]) (cp := #[]) (r := [(0, .agg (ints (nums (cutF xs (((p * el + q) * 64).toNat) 64))))]) #[.agg (ints (nums (cutF xs (((p * el + q) * 64).toNat) 64)))] (.agg (trc (mkT (nums (cutF xs (((p * el + q) * 64).toNat) 64)) 64))) A72 S73 (traceOf_s (nums (cutF xs (((p * el + q) * 64).toNat) 64)) _ (nums_length _)) Try.call65 (by kernel_rfl) (by kernel_rfl) (by kernel_rfl) rfl (fun ac wc A75 S76 => ?_)
    refine s_store (g := g11) (off := 0) (v := .agg (trc (mkT (nums (cutF xs (((p * el + q) * 64).toNat) 64)) 64))) 2 (trc (mkT (nums (cutF xs (((p * el + q) * 64).toNat) 64)) 64)) A75 S76 (by kernel_rfl) (by kernel_rfl) rfl (putVal_whole ((trc_size _).trans zT_length) ((trc_size _).trans (done_length _ _ _ _)) ⟨⟨_, Try.underlying38, rfl⟩, by kernel_rfl⟩ (trc_one _)) (fun wc S79 => ?_)
    refine s_one (.int .i64 0) A75 S79 (g_assign (by kernel_rfl)) rfl (fun ac A81 => ?_)
    refine wpList_nil ?_
    refine n_then ?_
    refine wp_ret ?_
    refine fin2 (.agg (trc (mkT (nums (cutF xs (((p * el + q) * 64).toNat) 64)) 64))) (.int .i64 0) Try.results16 A81 S79 (rv_cell (g := g11) (off := 0) 2 (by kernel_rfl) rfl (rowVal_whole ((trc_size _).trans (done_length _ _ _ _)) ⟨⟨_, Try.underlying38, rfl⟩, by kernel_rfl⟩)) (rv_tmp (by kernel_rfl)) ⟨?_, S79.kp⟩
    rw [toF_y hz, hz]
    rfl

end Go.Proofs.Ytcijkniijomcjaa
/- Traces of matrices: the reference. -/
namespace Go.Proofs.Ytcijkniijomcjaa
open Go.RowKit Go.Cpl

set_option maxRecDepth 100000 in
set_option maxHeartbeats 400000 in
theorem at_s (el p q : Int) (A : Option Addr) (n cap : Nat) (w0 : World) (h1 : 0 ≤ p * el ∧ p * el ≤ 256) (h2 : 0 ≤ q ∧ q ≤ 16) :
    Calls Try.prog 69 #[.agg #[.int .i64 el, .slice A n cap], .int .i64 p, .int .i64 q] w0 fun e w' => e = .returned (.int .i64 ((p * el + q) * 64)) ∧ Below w0.heap.size w0 w' := by
  have S0 := St.start w0
  refine enter (n := 14) Try.func69 rfl rfl rfl (fun ac A0 => ?_)
  refine wp_seq ?_
  refine wp_region_lit ?_
  refine s_box (.agg #[.int .i64 el, .slice A n cap]) A0 S0 (by kernel_rfl) rfl (fun g3 ac wc A1 S2 => ?_)
  replace S2 : St _ (⟨g3, 30, #[.int .i64 el, .slice A n cap], true⟩ :: _) _ _ := S2
  refine s_one (.int .i64 0) A1 S2 (g_assign (by kernel_rfl)) rfl (fun ac A5 => ?_)
  refine wpList_nil ?_
  refine n_then ?_
  refine wp_seq ?_
  refine wp_region_lit ?_
  refine s_one (.int .i64 p) A5 S2 (g_move (by kernel_rfl)) rfl (fun ac A6 => ?_)
  refine s_one (.pointer (some ⟨g3, 0, none⟩)) A6 S2 (g_field (u := .pointer (some ⟨g3, 0, none⟩)) (by kernel_rfl) (fun _ => by kernel_rfl)) rfl (fun ac A7 => ?_)
  refine s_one (.int .i64 el) A7 S2 (g_load (g := g3) (off := 0) 0 (by kernel_rfl) rfl (by kernel_rfl)) rfl (fun ac A8 => ?_)
  refine s_one (.int .i64 (p * el)) A8 S2 (g_bin (u := .int .i64 p) (k := .int .i64 el) (by kernel_rfl) (by kernel_rfl) (fun _ => by kernel_rfl) (b_mul (by omega))) rfl (fun ac A9 => ?_)
  refine s_one (.int .i64 q) A9 S2 (g_move (by kernel_rfl)) rfl (fun ac A10 => ?_)
  refine s_one (.int .i64 (p * el + q)) A10 S2 (g_bin (u := .int .i64 (p * el)) (k := .int .i64 q) (by kernel_rfl) (by kernel_rfl) (fun _ => by kernel_rfl) (b_add (by omega))) rfl (fun ac A11 => ?_)
  refine s_one (.int .i64 ((p * el + q) * 64)) A11 S2 (g_bin (u := .int .i64 (p * el + q)) (k := .int .i64 64) (by kernel_rfl) (by kernel_rfl) (fun _ => by kernel_rfl) (b_mul (by omega))) rfl (fun ac A12 => ?_)
  refine s_one (.int .i64 ((p * el + q) * 64)) A12 S2 (g_assign (by kernel_rfl)) rfl (fun ac A13 => ?_)
  refine wpList_nil ?_
  refine n_then ?_
  refine wp_ret ?_
  refine fin1 (.int .i64 ((p * el + q) * 64)) Try.results69 A13 S2 (rv_tmp (by kernel_rfl)) ⟨?_, S2.kp⟩
  rfl

theorem cut_snoc {xs : List Nat} {i k : Nat} (h : k < 64) {x : Int} (e : x = num (nth xs (i + k))) : rowI ((nums (cutF xs i 64)).take k) ++ [.int .i64 x] = rowI ((nums (cutF xs i 64)).take (k + 1)) := by
  have e2 : nthI (nums (cutF xs i 64)) k = x := by
    rw [nthI_eq (show k < (nums (cutF xs i 64)).length by rw [nums_length]; exact h), e]
    simp [nums, cutF_nth h]
  rw [rowI_snoc, take_snocI (by rw [nums_length]; exact h), e2]

set_option maxRecDepth 100000 in
set_option maxHeartbeats 400000 in
theorem refTraceOf_s (el : Int) (A : Option Addr) (n cap : Nat) (xs : List Nat) (p q : Int) (w0 : World) (hn : xs.length = n) (hr : FReads w0 A xs) (hm : n ≤ 1000) (h0 : firstOf [(mxC el xs).2, pairE el p q] = 0) :
    Calls Try.prog 20 #[.agg #[.int .i64 el, .slice A n cap], .agg #[.int .i64 p, .int .i64 q]] w0 fun e w' => e = .returned (.agg (trc (mkT (nums (cutF xs (toI el p q) 64)) 64))) ∧ Below w0.heap.size w0 w' := by
  have S0 := St.start w0
  obtain ⟨z1, z2⟩ := firstOf_two h0
  obtain ⟨he1, he2, he3⟩ := mxC_0 z1
  obtain ⟨hp, hq⟩ := pairE_0 he1 z2
  have hsq := sq_bd he1
  have hpa := pair_at he1 hp hq
  have hti : toI el p q = ((p * el + q) * 64).toNat := rfl
  have HR : ∀ k, k < n → sErr (nth xs k) = 0 := fun k hk => (right_of he3).at_ (by omega)
  refine enter (n := 29) Try.func20 rfl rfl rfl (fun ac A0 => ?_)
  refine wp_seq ?_
  refine wp_region_lit ?_
  refine s_box (.agg #[.int .i64 el, .slice A n cap]) A0 S0 (by kernel_rfl) rfl (fun g3 ac wc A1 S2 => ?_)
  replace S2 : St _ (⟨g3, 30, #[.int .i64 el, .slice A n cap], true⟩ :: _) _ _ := S2
  refine s_box (.agg #[.int .i64 p, .int .i64 q]) A1 S2 (by kernel_rfl) rfl (fun g7 ac wc A5 S6 => ?_)
  replace S6 : St _ (⟨g7, 26, #[.int .i64 p, .int .i64 q], true⟩ :: _) _ _ := S6
  refine s_alloc (trc zT) A5 S6 zero26 rfl (fun g11 ac wc A9 S10 => ?_)
  refine wpList_nil ?_
  refine n_then ?_
  refine wp_seq ?_
  refine wp_region_lit ?_
  refine s_one (.slice none 0 0) A9 S10 (g_assign (by kernel_rfl)) rfl (fun ac A12 => ?_)
  refine wpList_nil ?_
  refine n_then ?_
  refine wp_seq ?_
  refine wp_seq ?_
  refine wp_region_lit ?_
  refine s_one (.int .i64 0) A12 S10 (g_assign (by kernel_rfl)) rfl (fun ac A13 => ?_)
  refine wpList_nil ?_
  refine n_then ?_
  refine wp_block ?_
  have S14 := S10.nilRow 3 1
  refine c_loopN (fun mm ac wc => ∃ (k : Nat) (v : Value), mm = 64 - k ∧ (k ≤ 64) ∧ Fr 29 ac [(0, .agg #[.int .i64 el, .slice A n cap]), (1, .agg #[.int .i64 p, .int .i64 q]), (2, .pointer (some ⟨g3, 0, none⟩)), (3, .pointer (some ⟨g7, 0, none⟩)), (4, .pointer (some ⟨g11, 0, none⟩)), (6, .int .i64 (k : Int)), (5, v)] ∧ St w0 [⟨g11, 38, (trc zT), true⟩, ⟨g7, 26, #[.int .i64 p, .int .i64 q], true⟩, ⟨g3, 30, #[.int .i64 el, .slice A n cap], true⟩] [⟨v, 3, 1, k, (rowI ((nums (cutF xs (toI el p q) 64)).take k))⟩] wc) _ ⟨0, .slice none 0 0, rfl, by omega, (A13.slot (A13.slot (A13.slot (A13.slot (A13.slot (A13.slot (A13.slot A13.nil (v := .slice none 0 0) (by kernel_rfl) (by first | rfl | simp)) (v := .int .i64 0) (by kernel_rfl) (congrArg (Value.int .i64) (by omega))) (v := .pointer (some ⟨g11, 0, none⟩)) (by kernel_rfl) rfl) (v := .pointer (some ⟨g7, 0, none⟩)) (by kernel_rfl) rfl) (v := .pointer (some ⟨g3, 0, none⟩)) (by kernel_rfl) rfl) (v := .agg #[.int .i64 p, .int .i64 q]) (by kernel_rfl) rfl) (v := .agg #[.int .i64 el, .slice A n cap]) (by kernel_rfl) rfl), (St.rerow 0 S14 rfl ⟨rfl, rfl⟩).sub sub_all sub_all⟩ ?_
  rintro mm ac wc ⟨k, v, hm17, hk, A15, S16⟩
  refine wp_seq ?_
  refine wp_seq ?_
  refine wp_region_lit ?_
  refine s_one (.int .i64 (k : Int)) A15 S16 (g_move (by kernel_rfl)) rfl (fun ac A18 => ?_)
  refine s_one (.bool (decide ((k : Int) < 64))) A18 S16 (g_bin (u := .int .i64 (k : Int)) (k := .int .i64 64) (by kernel_rfl) (by kernel_rfl) (fun _ => by kernel_rfl) (fun _ => by kernel_rfl)) rfl (fun ac A19 => ?_)
  refine wpList_nil ?_
  refine n_then ?_
  refine c_ifb (b := (decide ((k : Int) < 64))) A19 (by kernel_rfl) (fun h20 => ?_) (fun h20 => ?_)
  · have p21 := of_decide_eq_true h20
    refine wp_skip ?_
    refine n_then ?_
    refine wp_seq ?_
    refine wp_block ?_
    refine r_begin (w0 := w0) (by kernel_rfl) (S16.sub sub_all sub_nil) (fun wc T22 B23 => ?_)
    have S24 := S16.kept B23
    refine r_take 0 (v) A19 T22 (g_move (by kernel_rfl)) rfl rfl rfl (pf_block (pf_then (pf_then (pf_block (pf_then pf_body))))) (by kernel_rfl) (fun ac A25 => ?_)
    refine r_take 1 (.pointer (some ⟨g3, 1, none⟩)) A25 T22 (g_field (u := .pointer (some ⟨g3, 0, none⟩)) (by kernel_rfl) (fun _ => by kernel_rfl)) rfl rfl rfl (pf_block (pf_then (pf_then (pf_block (pf_then pf_body))))) (by kernel_rfl) (fun ac A26 => ?_)
    refine r_take 2 (.slice A n cap) A26 T22 (g_load (g := g3) (off := 1) 2 (by kernel_rfl) rfl (by kernel_rfl)) rfl rfl rfl (pf_block (pf_then (pf_then (pf_block (pf_then pf_body))))) (by kernel_rfl) (fun ac A27 => ?_)
    refine r_take 3 (.agg #[.int .i64 el, .slice A n cap]) A27 T22 (g_load (g := g3) (off := 0) 2 (by kernel_rfl) rfl (by kernel_rfl)) rfl rfl rfl (pf_block (pf_then (pf_then (pf_block (pf_then pf_body))))) (by kernel_rfl) (fun ac A28 => ?_)
    refine r_take 4 (.pointer (some ⟨g7, 0, none⟩)) A28 T22 (g_index (u := .pointer (some ⟨g7, 0, none⟩)) (k := .int .i64 0) (by kernel_rfl) (by kernel_rfl) (fun _ => by kernel_rfl)) rfl rfl rfl (pf_block (pf_then (pf_then (pf_block (pf_then pf_body))))) (by kernel_rfl) (fun ac A29 => ?_)
    refine r_take 5 (.int .i64 p) A29 T22 (g_load (g := g7) (off := 0) 1 (by kernel_rfl) rfl (by kernel_rfl)) rfl rfl rfl (pf_block (pf_then (pf_then (pf_block (pf_then pf_body))))) (by kernel_rfl) (fun ac A30 => ?_)
    refine r_take 6 (.pointer (some ⟨g7, 1, none⟩)) A30 T22 (g_index (u := .pointer (some ⟨g7, 0, none⟩)) (k := .int .i64 1) (by kernel_rfl) (by kernel_rfl) (fun _ => by kernel_rfl)) rfl rfl rfl (pf_block (pf_then (pf_then (pf_block (pf_then pf_body))))) (by kernel_rfl) (fun ac A31 => ?_)
    refine r_take 7 (.int .i64 q) A31 T22 (g_load (g := g7) (off := 1) 1 (by kernel_rfl) rfl (by kernel_rfl)) rfl rfl rfl (pf_block (pf_then (pf_then (pf_block (pf_then pf_body))))) (by kernel_rfl) (fun ac A32 => ?_)
    refine r_take 9 (.int .i64 (k : Int)) A32 T22 (g_move (by kernel_rfl)) rfl rfl rfl (pf_block (pf_then (pf_then (pf_block (pf_then pf_body))))) (by kernel_rfl) (fun ac A33 => ?_)
    refine r_1 (i := 8) (by kernel_rfl) ?_
    refine rs_call (fs := #[]) (cp := #[]) (r := [(0, .agg #[.int .i64 el, .slice A n cap]), (0, .int .i64 p), (0, .int .i64 q)]) #[.agg #[.int .i64 el, .slice A n cap], .int .i64 p, .int .i64 q] (.int .i64 ((p * el + q) * 64)) A33 S24 sub_all sub_nil (at_s el p q A n cap _ (by omega) (by omega)) Try.call69 rfl rfl (by kernel_rfl) (by kernel_rfl) (by kernel_rfl) rfl (fun ac wc A34 S35 => ?_)
    have T37 := S35.sub sub_all sub_nil
    refine r_take 10 (.int .i64 ((p * el + q) * 64 + (k : Int))) A34 T37 (g_bin (u := .int .i64 ((p * el + q) * 64)) (k := .int .i64 (k : Int)) (by kernel_rfl) (by kernel_rfl) (fun _ => by kernel_rfl) (b_add (by omega))) rfl rfl rfl (pf_block (pf_then (pf_then (pf_block (pf_then pf_body))))) (by kernel_rfl) (fun ac A38 => ?_)
    obtain ⟨ad39, rfl, _⟩ := hr (((p * el + q) * 64 + (k : Int)).toNat) (by have hlen := hn; omega)
    refine r_take 11 (.pointer (some (ad39.add (((p * el + q) * 64 + (k : Int)).toNat)))) A38 T37 (g_index (u := .slice (some ad39) n cap) (k := .int .i64 ((p * el + q) * 64 + (k : Int))) (by kernel_rfl) (by kernel_rfl) (ix_x (e := 36) (bytes := 4) (((p * el + q) * 64 + (k : Int)).toNat) (by kernel_rfl) (by omega) (by omega))) rfl rfl rfl (pf_block (pf_then (pf_then (pf_block (pf_then pf_body))))) (by kernel_rfl) (fun ac A40 => ?_)
    refine r_take 12 (.float .f32 (nth xs (((p * el + q) * 64 + (k : Int)).toNat))) A40 T37 (g_loadXF (l := xs) (k := ((p * el + q) * 64 + (k : Int)).toNat) (by kernel_rfl) hr (by have hlen := hn; omega) (by kernel_rfl)) rfl rfl rfl (pf_block (pf_then (pf_then (pf_block (pf_then pf_body))))) (by kernel_rfl) (fun ac A41 => ?_)
    refine r_take 13 (.int .i64 (num (nth xs (((p * el + q) * 64 + (k : Int)).toNat)))) A41 T37 (g_conv (u := .float .f32 (nth xs (((p * el + q) * 64 + (k : Int)).toNat))) (by kernel_rfl) (run_toInt (HR _ (by omega)))) rfl rfl rfl (pf_block (pf_then (pf_then (pf_block (pf_then pf_body))))) (by kernel_rfl) (fun ac A42 => ?_)
    refine r_1 (i := 14) (by kernel_rfl) ?_
    refine rs_bs (e := 3) (r := [(0, .int .i64 (num (nth xs (((p * el + q) * 64 + (k : Int)).toNat))))]) (#[.int .i64 (num (nth xs (((p * el + q) * 64 + (k : Int)).toNat)))]) A42 S35 sub_all sub_nil (by kernel_rfl) (by kernel_rfl) rfl rfl rfl (fun g45 ac wc A43 S44 => ?_)
    have T46 := S44.sub (sub_skip sub_all) sub_nil
    refine r_1 (i := 15) (by kernel_rfl) ?_
    refine rs_append (e := 3) (size := 1) (bytes := 8) (v := v) (g := g45) (m' := 1) (c := 1) 0 0 [.int .i64 (num (nth xs (((p * el + q) * 64 + (k : Int)).toNat)))] A43 S44 (sub_skip sub_all) (fun _ => sub_nil) (by kernel_rfl) (by kernel_rfl) (by kernel_rfl) rfl rfl (by kernel_rfl) rfl (by kernel_rfl) (by omega) (by omega) rfl rfl rfl (fun v51 ac wc A47 S48 => ?_)
    have T50 := S48.sub (sub_skip sub_all) sub_nil
    refine r_take 16 (v51) A47 T50 (g_assign (by kernel_rfl)) rfl rfl rfl (pf_block (pf_then (pf_then (pf_block (pf_then pf_body))))) (by kernel_rfl) (fun ac A52 => ?_)
    refine r_done (by kernel_rfl) ?_
    refine n_block ?_
    refine n_then ?_
    refine wp_region_lit ?_
    refine s_one (.int .i64 (k : Int)) A52 S48 (g_move (by kernel_rfl)) rfl (fun ac A53 => ?_)
    refine s_one (.int .i64 ((k : Int) + 1)) A53 S48 (g_bin (u := .int .i64 (k : Int)) (k := .int .i64 1) (by kernel_rfl) (by kernel_rfl) (fun _ => by kernel_rfl) (b_add (by omega))) rfl (fun ac A54 => ?_)
    refine s_one (.int .i64 ((k : Int) + 1)) A54 S48 (g_assign (by kernel_rfl)) rfl (fun ac A55 => ?_)
    refine wpList_nil ?_
    refine n_then ?_
    refine ⟨_, ⟨k + 1, v51, rfl, by omega, (A55.slot (A55.slot (A55.slot (A55.slot (A55.slot (A55.slot (A55.slot A55.nil (v := v51) (by kernel_rfl) rfl) (v := .int .i64 ((k : Int) + 1)) (by kernel_rfl) (congrArg (Value.int .i64) (by omega))) (v := .pointer (some ⟨g11, 0, none⟩)) (by kernel_rfl) rfl) (v := .pointer (some ⟨g7, 0, none⟩)) (by kernel_rfl) rfl) (v := .pointer (some ⟨g3, 0, none⟩)) (by kernel_rfl) rfl) (v := .agg #[.int .i64 p, .int .i64 q]) (by kernel_rfl) rfl) (v := .agg #[.int .i64 el, .slice (some ad39) n cap]) (by kernel_rfl) (by first | rfl | simp)), (St.rerow 0 (St.recell 3 S48 rfl (by rfl)) rfl ⟨rfl, cut_snoc (by omega) (congrArg num (congrArg (nth xs) (by omega)))⟩).sub (sub_skip sub_all) sub_all⟩, ?_⟩
    omega
  · have p56 := of_decide_eq_false h20
    refine wp_exit ?_
    refine x_then ?_
    refine x_then ?_
    refine x_hit ?_
    refine n_then ?_
    refine wp_seq ?_
    obtain rfl : k = 64 := by omega
    have S6x : St w0 [⟨g11, 38, (trc zT), true⟩, ⟨g7, 26, #[.int .i64 p, .int .i64 q], true⟩, ⟨g3, 30, #[.int .i64 el, .slice A n cap], true⟩] [⟨v, 3, 1, 64, (rowI (nums (cutF xs (toI el p q) 64)))⟩] _ := St.rerow 0 S16 rfl ⟨rfl, by rw [List.take_of_length_le (by rw [nums_length]; omega)]⟩
    refine wp_region_lit ?_
    refine s_one (v) A19 S6x (g_move (by kernel_rfl)) rfl (fun ac A57 => ?_)
    obtain ⟨hl63, A61, cap62, rfl, hR64⟩ := rowI_reads (v := v) (m := 64) (l := (nums (cutF xs (toI el p q) 64))) (S6x.row 0 rfl)
    refine s_call (fs := #[]) (cp := #[]) (r := [(0, .slice A61 64 cap62)]) #[.slice A61 64 cap62] (.agg (trc (mkT (nums (cutF xs (toI el p q) 64)) 64))) A57 S6x (Trace_s (nums (cutF xs (toI el p q) 64)) A61 cap62 64 _ hl63 hR64 (by omega)) Try.call70 (by kernel_rfl) (by kernel_rfl) (by kernel_rfl) rfl (fun ac wc A58 S59 => ?_)
    refine s_store (g := g11) (off := 0) (v := .agg (trc (mkT (nums (cutF xs (toI el p q) 64)) 64))) 0 (trc (mkT (nums (cutF xs (toI el p q) 64)) 64)) A58 S59 (by kernel_rfl) (by kernel_rfl) rfl (putVal_whole ((trc_size _).trans zT_length) ((trc_size _).trans (done_length _ _ _ _)) ⟨⟨_, Try.underlying38, rfl⟩, by kernel_rfl⟩ (trc_one _)) (fun wc S66 => ?_)
    refine wpList_nil ?_
    refine n_then ?_
    refine wp_ret ?_
    refine fin1 (.agg (trc (mkT (nums (cutF xs (toI el p q) 64)) 64))) Try.results20 A58 S66 (rv_cell (g := g11) (off := 0) 0 (by kernel_rfl) rfl (rowVal_whole ((trc_size _).trans (done_length _ _ _ _)) ⟨⟨_, Try.underlying38, rfl⟩, by kernel_rfl⟩)) ⟨?_, S66.kp⟩
    rfl

end Go.Proofs.Ytcijkniijomcjaa
