/- Texts of the proof of TraceFrames, put together (part 9): Av3, Md, FrL. -/
import Derived.Test.YtcijkniijomcjaaSg8
/- Matrices that are made: which words. -/
namespace Go.Proofs.Ytcijkniijomcjaa
open Go.RowKit Go.Cpl

/-- How many samples a made matrix has, its words after some samples and after some raw ones. -/
def mkN (el mo : Int) : Nat := (mx 0 (if inB el 1 3 = true then mx (-1) (mn 1 mo) + el * el * 64 else mx (-1) (mn 1 mo))).toNat
def mkS (sl : List Int) (N : Nat) : Nat → List Nat
  | 0 => List.replicate N 0
  | k + 1 => (mkS sl N k).set (nthI sl (k * 2) % (N : Int)).toNat (floatOfInt .f32 (mx (-4000) (mn 4000 (nthI sl (k * 2 + 1)))))
def mkR (rl b : List Nat) : Nat → List Nat
  | 0 => b
  | j + 1 => (mkR rl b j).set j (nth rl j)
def mkW (el : Int) (sn : Nat) (sl : List Int) (rn : Nat) (rl : List Nat) (mo : Int) : List Nat := mkR rl (mkS sl (mkN el mo) sn) rn
theorem mkS_length (sl : List Int) (N k : Nat) : (mkS sl N k).length = N := by
  induction k with
  | zero => exact List.length_replicate
  | succ k ih => exact List.length_set.trans ih
theorem mkR_length (rl b : List Nat) (j : Nat) : (mkR rl b j).length = b.length := by
  induction j with
  | zero => rfl
  | succ k ih => exact List.length_set.trans ih
theorem mkS_end {sl : List Int} {N k sn : Nat} (hk : k ≤ sn) (h : (decide ((k : Int) < (sn : Int)) && decide ((N : Int) > 0)) = false) : mkS sl N k = mkS sl N sn := by
  rw [Bool.and_eq_false_iff, decide_eq_false_iff_not, decide_eq_false_iff_not] at h
  rcases h with h | h
  · obtain rfl : k = sn := by omega
    rfl
  · obtain rfl : N = 0 := by omega
    rw [List.eq_nil_of_length_eq_zero (mkS_length sl 0 k), List.eq_nil_of_length_eq_zero (mkS_length sl 0 sn)]
theorem mkR_over {rl b : List Nat} {j : Nat} (hj : b.length ≤ j) : ∀ d, mkR rl b (j + d) = mkR rl b j := by
  intro d
  induction d with
  | zero => rfl
  | succ d ih =>
    show (mkR rl b (j + d)).set (j + d) _ = _
    rw [List.set_eq_of_length_le (by rw [mkR_length]; omega), ih]
theorem mkR_end {rl b : List Nat} {N j rn : Nat} (hb : b.length = N) (hj : j ≤ rn) (h : (decide ((j : Int) < (rn : Int)) && decide ((j : Int) < (N : Int))) = false) : mkR rl b j = mkR rl b rn := by
  rw [Bool.and_eq_false_iff, decide_eq_false_iff_not, decide_eq_false_iff_not] at h
  rcases h with h | h
  · obtain rfl : j = rn := by omega
    rfl
  · obtain ⟨d, rfl⟩ : ∃ d, rn = j + d := ⟨rn - j, by omega⟩
    exact (mkR_over (by omega) d).symm
theorem mkN_y {el mo : Int} {N : Nat} (h : inB el 1 3 = true) (hN : mx 0 (mx (-1) (mn 1 mo) + el * el * 64) = (N : Int)) : mkN el mo = N := by unfold mkN; rw [if_pos h, hN]; rfl
theorem mkN_n {el mo : Int} {N : Nat} (h : inB el 1 3 = false) (hN : mx 0 (mx (-1) (mn 1 mo)) = (N : Int)) : mkN el mo = N := by unfold mkN; rw [if_neg (by rw [h]; decide), hN]; rfl
theorem mkW_length (el : Int) (sn : Nat) (sl : List Int) (rn : Nat) (rl : List Nat) (mo : Int) : (mkW el sn sl rn rl mo).length = mkN el mo := (mkR_length _ _ _).trans (mkS_length _ _ _)
theorem mkN_le (el mo : Int) : mkN el mo ≤ 600 := by
  unfold mkN
  have h : -1 ≤ mx (-1) (mn 1 mo) ∧ mx (-1) (mn 1 mo) ≤ 1 := by rw [mx_eq, mn_eq]; omega
  rw [mx_eq 0]
  split
  · rename_i q
    have := sq3 (inB_true.1 q)
    omega
  · omega

set_option maxRecDepth 100000 in
set_option maxHeartbeats 400000 in
theorem Matrix_d (el : Int) (SA : Option Addr) (sn scap : Nat) (sl : List Int) (RA : Option Addr) (rn rcap : Nat) (rl : List Nat) (mo : Int) (w0 : World) (hsn : sl.length = sn * 2) (hsr : IReads w0 SA sl) (hrn : rl.length = rn) (hrr : FReads w0 RA rl) (hs9 : sn ≤ 1000) (hr9 : rn ≤ 1000) :
    Calls Try.prog 13 #[.agg #[.int .i64 el, .slice SA sn scap, .slice RA rn rcap, .int .i64 mo]] w0 fun e w' => ∃ v, e = .returned (.agg #[.int .i64 el, v]) ∧ Below w0.heap.size w0 w' ∧ w'.ownsRow w0.heap.size 36 1 v (mkN el mo) (rowF (mkW el sn sl rn rl mo)) := by
  have S0 := St.start w0
  have hm0 : -1 ≤ mx (-1) (mn 1 mo) ∧ mx (-1) (mn 1 mo) ≤ 1 := by rw [mx_eq, mn_eq]; omega
  refine enter (n := 87) Try.func13 rfl rfl rfl (fun ac A0 => ?_)
  refine wp_seq ?_
  refine wp_region_lit ?_
  refine s_box (.agg #[.int .i64 el, .slice SA sn scap, .slice RA rn rcap, .int .i64 mo]) A0 S0 (by kernel_rfl) rfl (fun g3 ac wc A1 S2 => ?_)
  replace S2 : St _ (⟨g3, 25, #[.int .i64 el, .slice SA sn scap, .slice RA rn rcap, .int .i64 mo], true⟩ :: _) _ _ := S2
  refine s_alloc (#[.int .i64 0, .slice none 0 0]) A1 S2 (by kernel_rfl) rfl (fun g7 ac wc A5 S6 => ?_)
  refine wpList_nil ?_
  refine n_then ?_
  refine wp_seq ?_
  refine wp_region_lit ?_
  refine s_one (.pointer (some ⟨g3, 3, none⟩)) A5 S6 (g_field (u := .pointer (some ⟨g3, 0, none⟩)) (by kernel_rfl) (fun _ => by kernel_rfl)) rfl (fun ac A8 => ?_)
  refine s_one (.int .i64 mo) A8 S6 (g_load (g := g3) (off := 3) 1 (by kernel_rfl) rfl (by kernel_rfl)) rfl (fun ac A9 => ?_)
  refine s_one (.int .i64 (mn 1 mo)) A9 S6 (g_built (r := [(0, .int .i64 1), (0, .int .i64 mo)]) (by kernel_rfl) (fun ty cs w => by show (do let x ← Builtin.min_ _ ty #[.int .i64 1, .int .i64 mo]; pure (Next.value x) : Sem Next).run _ w = _; rw [Sem.run_bind, run_min_mn]; rfl)) rfl (fun ac A10 => ?_)
  refine s_one (.int .i64 (mx (-1) (mn 1 mo))) A10 S6 (g_built (r := [(0, .int .i64 (-1)), (0, .int .i64 (mn 1 mo))]) (by kernel_rfl) (fun ty cs w => by show (do let x ← Builtin.max_ _ ty #[.int .i64 (-1), .int .i64 (mn 1 mo)]; pure (Next.value x) : Sem Next).run _ w = _; rw [Sem.run_bind, run_max_mx]; rfl)) rfl (fun ac A11 => ?_)
  refine s_one (.int .i64 (mx (-1) (mn 1 mo))) A11 S6 (g_assign (by kernel_rfl)) rfl (fun ac A12 => ?_)
  refine wpList_nil ?_
  refine n_then ?_
  refine wp_seq ?_
  refine wp_seq ?_
  refine wp_region_lit ?_
  refine s_one (.pointer (some ⟨g3, 0, none⟩)) A12 S6 (g_field (u := .pointer (some ⟨g3, 0, none⟩)) (by kernel_rfl) (fun _ => by kernel_rfl)) rfl (fun ac A13 => ?_)
  refine s_one (.int .i64 el) A13 S6 (g_load (g := g3) (off := 0) 1 (by kernel_rfl) rfl (by kernel_rfl)) rfl (fun ac A14 => ?_)
  refine s_call (fs := #[]) (cp := #[]) (r := [(0, .int .i64 el), (0, .int .i64 1), (0, .int .i64 3)]) #[.int .i64 el, .int .i64 1, .int .i64 3] (.bool (inB el 1 3)) A14 S6 (sameB (Within_any el 1 3 _)) Try.call39 (by kernel_rfl) (by kernel_rfl) (by kernel_rfl) rfl (fun ac wc A15 S16 => ?_)
  refine wpList_nil ?_
  refine n_then ?_
  refine c_ifb (b := (inB el 1 3)) A15 (by kernel_rfl) (fun h18 => ?_) (fun h18 => ?_)
  · have hel := inB_true.1 h18
    have hsq := sq3 hel
    refine wp_region_lit ?_
    refine s_one (.int .i64 (mx (-1) (mn 1 mo))) A15 S16 (g_move (by kernel_rfl)) rfl (fun ac A19 => ?_)
    refine s_one (.pointer (some ⟨g3, 0, none⟩)) A19 S16 (g_field (u := .pointer (some ⟨g3, 0, none⟩)) (by kernel_rfl) (fun _ => by kernel_rfl)) rfl (fun ac A20 => ?_)
    refine s_one (.int .i64 el) A20 S16 (g_load (g := g3) (off := 0) 1 (by kernel_rfl) rfl (by kernel_rfl)) rfl (fun ac A21 => ?_)
    refine s_one (.pointer (some ⟨g3, 0, none⟩)) A21 S16 (g_field (u := .pointer (some ⟨g3, 0, none⟩)) (by kernel_rfl) (fun _ => by kernel_rfl)) rfl (fun ac A22 => ?_)
    refine s_one (.int .i64 el) A22 S16 (g_load (g := g3) (off := 0) 1 (by kernel_rfl) rfl (by kernel_rfl)) rfl (fun ac A23 => ?_)
    refine s_one (.int .i64 (el * el)) A23 S16 (g_bin (u := .int .i64 el) (k := .int .i64 el) (by kernel_rfl) (by kernel_rfl) (fun _ => by kernel_rfl) (b_mul (by omega))) rfl (fun ac A24 => ?_)
    refine s_one (.int .i64 ((el * el) * 64)) A24 S16 (g_bin (u := .int .i64 (el * el)) (k := .int .i64 64) (by kernel_rfl) (by kernel_rfl) (fun _ => by kernel_rfl) (b_mul (by omega))) rfl (fun ac A25 => ?_)
    refine s_one (.int .i64 (mx (-1) (mn 1 mo) + ((el * el) * 64))) A25 S16 (g_bin (u := .int .i64 (mx (-1) (mn 1 mo))) (k := .int .i64 ((el * el) * 64)) (by kernel_rfl) (by kernel_rfl) (fun _ => by kernel_rfl) (b_add (by omega))) rfl (fun ac A26 => ?_)
    refine s_one (.int .i64 (mx (-1) (mn 1 mo) + ((el * el) * 64))) A26 S16 (g_assign (by kernel_rfl)) rfl (fun ac A27 => ?_)
    refine wpList_nil ?_
    refine n_then ?_
    refine wp_seq ?_
    obtain ⟨N, hN⟩ : ∃ N : Nat, mx 0 (mx (-1) (mn 1 mo) + ((el * el) * 64)) = (N : Int) := ⟨(mx 0 (mx (-1) (mn 1 mo) + ((el * el) * 64))).toNat, by rw [mx_eq]; omega⟩
    have hN2 : N ≤ 600 := by rw [mx_eq 0] at hN; omega
    refine c_cut (fun ac wc => ∃ (g28 : Nat) (g29 : Nat), Fr 87 ac [(0, .agg #[.int .i64 el, .slice SA sn scap, .slice RA rn rcap, .int .i64 mo]), (1, .pointer (some ⟨g3, 0, none⟩)), (2, .pointer (some ⟨g7, 0, none⟩)), (7, .pointer (some ⟨g3, 3, none⟩)), (8, .int .i64 mo), (9, .int .i64 (mn 1 mo)), (10, .int .i64 (mx (-1) (mn 1 mo))), (3, .int .i64 (mx (-1) (mn 1 mo) + ((el * el) * 64))), (11, .pointer (some ⟨g3, 0, none⟩)), (12, .int .i64 el), (13, .bool (inB el 1 3)), (14, .int .i64 (mx (-1) (mn 1 mo))), (15, .pointer (some ⟨g3, 0, none⟩)), (16, .int .i64 el), (17, .pointer (some ⟨g3, 0, none⟩)), (18, .int .i64 el), (19, .int .i64 (el * el)), (20, .int .i64 ((el * el) * 64)), (21, .int .i64 (mx (-1) (mn 1 mo) + ((el * el) * 64))), (4, .pointer (some ⟨g28, 0, none⟩))] ∧ St w0 [⟨g28, 30, #[.int .i64 el, .slice (some ⟨g29, 0, none⟩) N N], true⟩, ⟨g29, 36, (trc (List.replicate N 0)), true⟩, ⟨g7, 30, #[.int .i64 0, .slice none 0 0], true⟩, ⟨g3, 25, #[.int .i64 el, .slice SA sn scap, .slice RA rn rcap, .int .i64 mo], true⟩] [] wc) ?_ ?_
    · refine r_begin (w0 := w0) (by kernel_rfl) (S16.sub sub_all sub_all) (fun wc T30 B31 => ?_)
      have S32 := S16.kept B31
      refine r_take 0 (.pointer (some ⟨g3, 0, none⟩)) A27 T30 (g_field (u := .pointer (some ⟨g3, 0, none⟩)) (by kernel_rfl) (fun _ => by kernel_rfl)) rfl rfl rfl (pf_then (pf_then pf_body)) (by kernel_rfl) (fun ac A33 => ?_)
      refine r_take 1 (.int .i64 el) A33 T30 (g_load (g := g3) (off := 0) 1 (by kernel_rfl) rfl (by kernel_rfl)) rfl rfl rfl (pf_then (pf_then pf_body)) (by kernel_rfl) (fun ac A34 => ?_)
      refine r_take 2 (.int .i64 (mx (-1) (mn 1 mo) + ((el * el) * 64))) A34 T30 (g_move (by kernel_rfl)) rfl rfl rfl (pf_then (pf_then pf_body)) (by kernel_rfl) (fun ac A35 => ?_)
      refine r_take 3 (.int .i64 (mx 0 (mx (-1) (mn 1 mo) + ((el * el) * 64)))) A35 T30 (g_built (r := [(0, .int .i64 0), (0, .int .i64 (mx (-1) (mn 1 mo) + ((el * el) * 64)))]) (by kernel_rfl) (fun ty cs w => by show (do let x ← Builtin.max_ _ ty #[.int .i64 0, .int .i64 (mx (-1) (mn 1 mo) + ((el * el) * 64))]; pure (Next.value x) : Sem Next).run _ w = _; rw [Sem.run_bind, run_max_mx]; rfl)) rfl rfl rfl (pf_then (pf_then pf_body)) (by kernel_rfl) (fun ac A36 => ?_)
      refine r_2 (i := 4) (j := 6) (by kernel_rfl) ?_ ?_
      · refine rs_make (e := 36) (bytes := 4) N A36 S32 sub_all sub_all (by kernel_rfl) (by kernel_rfl) (by kernel_rfl) (by kernel_rfl) hN hN (by omega) (by omega) rfl rfl rfl (fun g39 ac wc A37 S38 => ?_)
        have T40 := S38.sub (sub_skip sub_all) sub_all
        refine r_take 5 (.agg #[.int .i64 el, .slice (some ⟨g39, 0, none⟩) N N]) A37 T40 (g_build (r := [(0, .int .i64 el), (1, .slice (some ⟨g39, 0, none⟩) N N)]) (by kernel_rfl) (fun _ => by kernel_rfl)) rfl rfl rfl (pf_then (pf_then pf_body)) (by kernel_rfl) (fun ac A41 => ?_)
        refine r_1 (i := 6) (by kernel_rfl) ?_
        refine rs_alloc (#[.int .i64 0, .slice none 0 0]) A41 S38 (sub_skip sub_all) sub_all (by kernel_rfl) rfl rfl rfl (fun g44 ac wc A42 S43 => ?_)
        have T45 := S43.sub (sub_skip (sub_skip sub_all)) sub_all
        refine r_1 (i := 7) (by kernel_rfl) ?_
        refine rs_store (g := g44) (off := 0) (v := .agg #[.int .i64 el, .slice (some ⟨g39, 0, none⟩) N N]) 0 (#[.int .i64 el, .slice (some ⟨g39, 0, none⟩) N N]) A42 S43 (sub_skip (sub_skip sub_all)) sub_all (by kernel_rfl) (by kernel_rfl) rfl (by kernel_rfl) rfl rfl (fun wc S47 => ?_)
        have T49 := S47.sub (sub_skip (sub_skip sub_all)) sub_all
        refine r_done (by kernel_rfl) ?_
        refine n_then ?_
        exact ⟨g44, g39, (A42.slot (A42.slot (A42.slot (A42.slot (A42.slot (A42.slot (A42.slot (A42.slot (A42.slot (A42.slot (A42.slot (A42.slot (A42.slot (A42.slot (A42.slot (A42.slot (A42.slot (A42.slot (A42.slot (A42.slot A42.nil (v := .pointer (some ⟨g44, 0, none⟩)) (by kernel_rfl) rfl) (v := .int .i64 (mx (-1) (mn 1 mo) + ((el * el) * 64))) (by kernel_rfl) rfl) (v := .int .i64 ((el * el) * 64)) (by kernel_rfl) rfl) (v := .int .i64 (el * el)) (by kernel_rfl) rfl) (v := .int .i64 el) (by kernel_rfl) rfl) (v := .pointer (some ⟨g3, 0, none⟩)) (by kernel_rfl) rfl) (v := .int .i64 el) (by kernel_rfl) rfl) (v := .pointer (some ⟨g3, 0, none⟩)) (by kernel_rfl) rfl) (v := .int .i64 (mx (-1) (mn 1 mo))) (by kernel_rfl) rfl) (v := .bool (inB el 1 3)) (by kernel_rfl) rfl) (v := .int .i64 el) (by kernel_rfl) rfl) (v := .pointer (some ⟨g3, 0, none⟩)) (by kernel_rfl) rfl) (v := .int .i64 (mx (-1) (mn 1 mo) + ((el * el) * 64))) (by kernel_rfl) rfl) (v := .int .i64 (mx (-1) (mn 1 mo))) (by kernel_rfl) rfl) (v := .int .i64 (mn 1 mo)) (by kernel_rfl) rfl) (v := .int .i64 mo) (by kernel_rfl) rfl) (v := .pointer (some ⟨g3, 3, none⟩)) (by kernel_rfl) rfl) (v := .pointer (some ⟨g7, 0, none⟩)) (by kernel_rfl) rfl) (v := .pointer (some ⟨g3, 0, none⟩)) (by kernel_rfl) rfl) (v := .agg #[.int .i64 el, .slice SA sn scap, .slice RA rn rcap, .int .i64 mo]) (by kernel_rfl) rfl), S47.sub sub_all sub_all⟩
      · refine rs_alloc (#[.int .i64 0, .slice none 0 0]) A36 S32 sub_all sub_all (by kernel_rfl) rfl rfl rfl (fun g52 ac wc A50 S51 => ?_)
        have T53 := S51.sub (sub_skip sub_all) sub_all
        refine r_1 (i := 4) (by kernel_rfl) ?_
        refine rs_make (e := 36) (bytes := 4) N A50 S51 (sub_skip sub_all) sub_all (by kernel_rfl) (by kernel_rfl) (by kernel_rfl) (by kernel_rfl) hN hN (by omega) (by omega) rfl rfl rfl (fun g56 ac wc A54 S55 => ?_)
        have T57 := S55.sub (sub_skip (sub_skip sub_all)) sub_all
        refine r_take 5 (.agg #[.int .i64 el, .slice (some ⟨g56, 0, none⟩) N N]) A54 T57 (g_build (r := [(0, .int .i64 el), (1, .slice (some ⟨g56, 0, none⟩) N N)]) (by kernel_rfl) (fun _ => by kernel_rfl)) rfl rfl rfl (pf_then (pf_then pf_body)) (by kernel_rfl) (fun ac A58 => ?_)
        refine r_1 (i := 7) (by kernel_rfl) ?_
        refine rs_store (g := g52) (off := 0) (v := .agg #[.int .i64 el, .slice (some ⟨g56, 0, none⟩) N N]) 1 (#[.int .i64 el, .slice (some ⟨g56, 0, none⟩) N N]) A58 S55 (sub_skip (sub_skip sub_all)) sub_all (by kernel_rfl) (by kernel_rfl) rfl (by kernel_rfl) rfl rfl (fun wc S60 => ?_)
        have T62 := S60.sub (sub_skip (sub_skip sub_all)) sub_all
        refine r_done (by kernel_rfl) ?_
        refine n_then ?_
        exact ⟨g52, g56, (A58.slot (A58.slot (A58.slot (A58.slot (A58.slot (A58.slot (A58.slot (A58.slot (A58.slot (A58.slot (A58.slot (A58.slot (A58.slot (A58.slot (A58.slot (A58.slot (A58.slot (A58.slot (A58.slot (A58.slot A58.nil (v := .pointer (some ⟨g52, 0, none⟩)) (by kernel_rfl) rfl) (v := .int .i64 (mx (-1) (mn 1 mo) + ((el * el) * 64))) (by kernel_rfl) rfl) (v := .int .i64 ((el * el) * 64)) (by kernel_rfl) rfl) (v := .int .i64 (el * el)) (by kernel_rfl) rfl) (v := .int .i64 el) (by kernel_rfl) rfl) (v := .pointer (some ⟨g3, 0, none⟩)) (by kernel_rfl) rfl) (v := .int .i64 el) (by kernel_rfl) rfl) (v := .pointer (some ⟨g3, 0, none⟩)) (by kernel_rfl) rfl) (v := .int .i64 (mx (-1) (mn 1 mo))) (by kernel_rfl) rfl) (v := .bool (inB el 1 3)) (by kernel_rfl) rfl) (v := .int .i64 el) (by kernel_rfl) rfl) (v := .pointer (some ⟨g3, 0, none⟩)) (by kernel_rfl) rfl) (v := .int .i64 (mx (-1) (mn 1 mo) + ((el * el) * 64))) (by kernel_rfl) rfl) (v := .int .i64 (mx (-1) (mn 1 mo))) (by kernel_rfl) rfl) (v := .int .i64 (mn 1 mo)) (by kernel_rfl) rfl) (v := .int .i64 mo) (by kernel_rfl) rfl) (v := .pointer (some ⟨g3, 3, none⟩)) (by kernel_rfl) rfl) (v := .pointer (some ⟨g7, 0, none⟩)) (by kernel_rfl) rfl) (v := .pointer (some ⟨g3, 0, none⟩)) (by kernel_rfl) rfl) (v := .agg #[.int .i64 el, .slice SA sn scap, .slice RA rn rcap, .int .i64 mo]) (by kernel_rfl) rfl), (St.perm S60 (List.Perm.swap _ _ _)).sub sub_all sub_all⟩
    · rintro ac wc ⟨g28, g29, A63, S64⟩
      refine n_then ?_
      refine wp_seq ?_
      refine wp_seq ?_
      refine wp_region_lit ?_
      refine s_one (.int .i64 0) A63 S64 (g_assign (by kernel_rfl)) rfl (fun ac A65 => ?_)
      refine wpList_nil ?_
      refine n_then ?_
      refine wp_block ?_
      refine c_loopN (fun mm ac wc => ∃ (k : Nat), mm = sn - k ∧ (k ≤ sn) ∧ Fr 87 ac [(0, .agg #[.int .i64 el, .slice SA sn scap, .slice RA rn rcap, .int .i64 mo]), (1, .pointer (some ⟨g3, 0, none⟩)), (2, .pointer (some ⟨g7, 0, none⟩)), (7, .pointer (some ⟨g3, 3, none⟩)), (8, .int .i64 mo), (9, .int .i64 (mn 1 mo)), (10, .int .i64 (mx (-1) (mn 1 mo))), (3, .int .i64 (mx (-1) (mn 1 mo) + ((el * el) * 64))), (11, .pointer (some ⟨g3, 0, none⟩)), (12, .int .i64 el), (13, .bool (inB el 1 3)), (14, .int .i64 (mx (-1) (mn 1 mo))), (15, .pointer (some ⟨g3, 0, none⟩)), (16, .int .i64 el), (17, .pointer (some ⟨g3, 0, none⟩)), (18, .int .i64 el), (19, .int .i64 (el * el)), (20, .int .i64 ((el * el) * 64)), (21, .int .i64 (mx (-1) (mn 1 mo) + ((el * el) * 64))), (4, .pointer (some ⟨g28, 0, none⟩)), (5, .int .i64 (k : Int))] ∧ St w0 [⟨g28, 30, #[.int .i64 el, .slice (some ⟨g29, 0, none⟩) N N], true⟩, ⟨g29, 36, (trc (mkS sl N k)), true⟩, ⟨g7, 30, #[.int .i64 0, .slice none 0 0], true⟩, ⟨g3, 25, #[.int .i64 el, .slice SA sn scap, .slice RA rn rcap, .int .i64 mo], true⟩] [] wc) _ ⟨0, rfl, (by omega), (A65.slot (A65.slot (A65.slot (A65.slot (A65.slot (A65.slot (A65.slot (A65.slot (A65.slot (A65.slot (A65.slot (A65.slot (A65.slot (A65.slot (A65.slot (A65.slot (A65.slot (A65.slot (A65.slot (A65.slot (A65.slot A65.nil (v := .int .i64 0) (by kernel_rfl) (congrArg (Value.int .i64) (by omega))) (v := .pointer (some ⟨g28, 0, none⟩)) (by kernel_rfl) rfl) (v := .int .i64 (mx (-1) (mn 1 mo) + ((el * el) * 64))) (by kernel_rfl) rfl) (v := .int .i64 ((el * el) * 64)) (by kernel_rfl) rfl) (v := .int .i64 (el * el)) (by kernel_rfl) rfl) (v := .int .i64 el) (by kernel_rfl) rfl) (v := .pointer (some ⟨g3, 0, none⟩)) (by kernel_rfl) rfl) (v := .int .i64 el) (by kernel_rfl) rfl) (v := .pointer (some ⟨g3, 0, none⟩)) (by kernel_rfl) rfl) (v := .int .i64 (mx (-1) (mn 1 mo))) (by kernel_rfl) rfl) (v := .bool (inB el 1 3)) (by kernel_rfl) rfl) (v := .int .i64 el) (by kernel_rfl) rfl) (v := .pointer (some ⟨g3, 0, none⟩)) (by kernel_rfl) rfl) (v := .int .i64 (mx (-1) (mn 1 mo) + ((el * el) * 64))) (by kernel_rfl) rfl) (v := .int .i64 (mx (-1) (mn 1 mo))) (by kernel_rfl) rfl) (v := .int .i64 (mn 1 mo)) (by kernel_rfl) rfl) (v := .int .i64 mo) (by kernel_rfl) rfl) (v := .pointer (some ⟨g3, 3, none⟩)) (by kernel_rfl) rfl) (v := .pointer (some ⟨g7, 0, none⟩)) (by kernel_rfl) rfl) (v := .pointer (some ⟨g3, 0, none⟩)) (by kernel_rfl) rfl) (v := .agg #[.int .i64 el, .slice SA sn scap, .slice RA rn rcap, .int .i64 mo]) (by kernel_rfl) rfl), (St.recell 1 S64 rfl (congrArg trc rfl)).sub sub_all sub_all⟩ ?_
      rintro mm ac wc ⟨k, hm68, hkk, A66, S67⟩
      refine wp_seq ?_
      refine wp_seq ?_
      refine c_cut (fun ac wc => Fr 87 ac [(38, .bool ((decide ((k : Int) < (sn : Int))) && (decide ((N : Int) > 0)))), (0, .agg #[.int .i64 el, .slice SA sn scap, .slice RA rn rcap, .int .i64 mo]), (1, .pointer (some ⟨g3, 0, none⟩)), (2, .pointer (some ⟨g7, 0, none⟩)), (7, .pointer (some ⟨g3, 3, none⟩)), (8, .int .i64 mo), (9, .int .i64 (mn 1 mo)), (10, .int .i64 (mx (-1) (mn 1 mo))), (3, .int .i64 (mx (-1) (mn 1 mo) + ((el * el) * 64))), (11, .pointer (some ⟨g3, 0, none⟩)), (12, .int .i64 el), (13, .bool (inB el 1 3)), (14, .int .i64 (mx (-1) (mn 1 mo))), (15, .pointer (some ⟨g3, 0, none⟩)), (16, .int .i64 el), (17, .pointer (some ⟨g3, 0, none⟩)), (18, .int .i64 el), (19, .int .i64 (el * el)), (20, .int .i64 ((el * el) * 64)), (21, .int .i64 (mx (-1) (mn 1 mo) + ((el * el) * 64))), (4, .pointer (some ⟨g28, 0, none⟩)), (5, .int .i64 (k : Int))] ∧ St w0 [⟨g28, 30, #[.int .i64 el, .slice (some ⟨g29, 0, none⟩) N N], true⟩, ⟨g29, 36, (trc (mkS sl N k)), true⟩, ⟨g7, 30, #[.int .i64 0, .slice none 0 0], true⟩, ⟨g3, 25, #[.int .i64 el, .slice SA sn scap, .slice RA rn rcap, .int .i64 mo], true⟩] [] wc) ?_ ?_
      · refine wp_region_lit ?_
        refine s_one (.int .i64 (k : Int)) A66 S67 (g_move (by kernel_rfl)) rfl (fun ac A69 => ?_)
        refine s_one (.pointer (some ⟨g3, 1, none⟩)) A69 S67 (g_field (u := .pointer (some ⟨g3, 0, none⟩)) (by kernel_rfl) (fun _ => by kernel_rfl)) rfl (fun ac A70 => ?_)
        refine s_one (.slice SA sn scap) A70 S67 (g_load (g := g3) (off := 1) 3 (by kernel_rfl) rfl (by kernel_rfl)) rfl (fun ac A71 => ?_)
        refine s_one (.int .i64 (sn : Int)) A71 S67 (g_built (r := [(0, .slice SA sn scap)]) (by kernel_rfl) (fun _ _ _ => by kernel_rfl)) rfl (fun ac A72 => ?_)
        refine s_one (.bool (decide ((k : Int) < (sn : Int)))) A72 S67 (g_bin (u := .int .i64 (k : Int)) (k := .int .i64 (sn : Int)) (by kernel_rfl) (by kernel_rfl) (fun _ => by kernel_rfl) (fun _ => by kernel_rfl)) rfl (fun ac A73 => ?_)
        refine s_one (.bool (decide ((k : Int) < (sn : Int)))) A73 S67 (g_move (by kernel_rfl)) rfl (fun ac A74 => ?_)
        refine by_bool (decide ((k : Int) < (sn : Int))) (fun h75 => ?_) (fun h75 => ?_)
        · have p76 := of_decide_eq_true h75
          refine s_want (dj := 33) (b := (decide ((k : Int) < (sn : Int)))) A74 (by kernel_rfl) (by kernel_rfl) h75 ?_
          refine s_one (.pointer (some ⟨g28, 1, none⟩)) A74 S67 (g_field (u := .pointer (some ⟨g28, 0, none⟩)) (by kernel_rfl) (fun _ => by kernel_rfl)) rfl (fun ac A77 => ?_)
          refine s_want (dj := 33) (b := (decide ((k : Int) < (sn : Int)))) A77 (by kernel_rfl) (by kernel_rfl) h75 ?_
          refine s_one (.slice (some ⟨g29, 0, none⟩) N N) A77 S67 (g_load (g := g28) (off := 1) 0 (by kernel_rfl) rfl (by kernel_rfl)) rfl (fun ac A78 => ?_)
          refine s_want (dj := 33) (b := (decide ((k : Int) < (sn : Int)))) A78 (by kernel_rfl) (by kernel_rfl) h75 ?_
          refine s_one (.int .i64 (N : Int)) A78 S67 (g_built (r := [(0, .slice (some ⟨g29, 0, none⟩) N N)]) (by kernel_rfl) (fun _ _ _ => by kernel_rfl)) rfl (fun ac A79 => ?_)
          refine s_want (dj := 33) (b := (decide ((k : Int) < (sn : Int)))) A79 (by kernel_rfl) (by kernel_rfl) h75 ?_
          refine s_one (.bool (decide ((N : Int) > 0))) A79 S67 (g_bin (u := .int .i64 (N : Int)) (k := .int .i64 0) (by kernel_rfl) (by kernel_rfl) (fun _ => by kernel_rfl) (fun _ => by kernel_rfl)) rfl (fun ac A80 => ?_)
          refine s_one (.bool (decide ((N : Int) > 0))) A80 S67 (g_pick_t (b := (decide ((k : Int) < (sn : Int)))) (by kernel_rfl) h75 (by kernel_rfl)) rfl (fun ac A81 => ?_)
          refine wpList_nil ?_
          refine n_then ?_
          exact ⟨(A81.slot (A81.slot (A81.slot (A81.slot (A81.slot (A81.slot (A81.slot (A81.slot (A81.slot (A81.slot (A81.slot (A81.slot (A81.slot (A81.slot (A81.slot (A81.slot (A81.slot (A81.slot (A81.slot (A81.slot (A81.slot (A81.slot A81.nil (v := .int .i64 (k : Int)) (by kernel_rfl) rfl) (v := .pointer (some ⟨g28, 0, none⟩)) (by kernel_rfl) rfl) (v := .int .i64 (mx (-1) (mn 1 mo) + ((el * el) * 64))) (by kernel_rfl) rfl) (v := .int .i64 ((el * el) * 64)) (by kernel_rfl) rfl) (v := .int .i64 (el * el)) (by kernel_rfl) rfl) (v := .int .i64 el) (by kernel_rfl) rfl) (v := .pointer (some ⟨g3, 0, none⟩)) (by kernel_rfl) rfl) (v := .int .i64 el) (by kernel_rfl) rfl) (v := .pointer (some ⟨g3, 0, none⟩)) (by kernel_rfl) rfl) (v := .int .i64 (mx (-1) (mn 1 mo))) (by kernel_rfl) rfl) (v := .bool (inB el 1 3)) (by kernel_rfl) rfl) (v := .int .i64 el) (by kernel_rfl) rfl) (v := .pointer (some ⟨g3, 0, none⟩)) (by kernel_rfl) rfl) (v := .int .i64 (mx (-1) (mn 1 mo) + ((el * el) * 64))) (by kernel_rfl) rfl) (v := .int .i64 (mx (-1) (mn 1 mo))) (by kernel_rfl) rfl) (v := .int .i64 (mn 1 mo)) (by kernel_rfl) rfl) (v := .int .i64 mo) (by kernel_rfl) rfl) (v := .pointer (some ⟨g3, 3, none⟩)) (by kernel_rfl) rfl) (v := .pointer (some ⟨g7, 0, none⟩)) (by kernel_rfl) rfl) (v := .pointer (some ⟨g3, 0, none⟩)) (by kernel_rfl) rfl) (v := .agg #[.int .i64 el, .slice SA sn scap, .slice RA rn rcap, .int .i64 mo]) (by kernel_rfl) rfl) (v := .bool (decide ((N : Int) > 0))) (by kernel_rfl) (congrArg Value.bool (b_and_t h75 (Eq.refl (decide ((N : Int) > 0)))).symm)), S67.sub sub_all sub_all⟩
        · have p82 := of_decide_eq_false h75
          refine s_not (dj := 33) (b := (decide ((k : Int) < (sn : Int)))) A74 (by kernel_rfl) (by kernel_rfl) h75 rfl (fun ac A83 => ?_)
          refine s_not (dj := 33) (b := (decide ((k : Int) < (sn : Int)))) A83 (by kernel_rfl) (by kernel_rfl) h75 rfl (fun ac A84 => ?_)
          refine s_not (dj := 33) (b := (decide ((k : Int) < (sn : Int)))) A84 (by kernel_rfl) (by kernel_rfl) h75 rfl (fun ac A85 => ?_)
          refine s_not (dj := 33) (b := (decide ((k : Int) < (sn : Int)))) A85 (by kernel_rfl) (by kernel_rfl) h75 rfl (fun ac A86 => ?_)
          refine s_one (.bool false) A86 S67 (g_pick_f (b := (decide ((k : Int) < (sn : Int)))) (by kernel_rfl) h75 (by kernel_rfl)) rfl (fun ac A87 => ?_)
          refine wpList_nil ?_
          refine n_then ?_
          exact ⟨(A87.slot (A87.slot (A87.slot (A87.slot (A87.slot (A87.slot (A87.slot (A87.slot (A87.slot (A87.slot (A87.slot (A87.slot (A87.slot (A87.slot (A87.slot (A87.slot (A87.slot (A87.slot (A87.slot (A87.slot (A87.slot (A87.slot A87.nil (v := .int .i64 (k : Int)) (by kernel_rfl) rfl) (v := .pointer (some ⟨g28, 0, none⟩)) (by kernel_rfl) rfl) (v := .int .i64 (mx (-1) (mn 1 mo) + ((el * el) * 64))) (by kernel_rfl) rfl) (v := .int .i64 ((el * el) * 64)) (by kernel_rfl) rfl) (v := .int .i64 (el * el)) (by kernel_rfl) rfl) (v := .int .i64 el) (by kernel_rfl) rfl) (v := .pointer (some ⟨g3, 0, none⟩)) (by kernel_rfl) rfl) (v := .int .i64 el) (by kernel_rfl) rfl) (v := .pointer (some ⟨g3, 0, none⟩)) (by kernel_rfl) rfl) (v := .int .i64 (mx (-1) (mn 1 mo))) (by kernel_rfl) rfl) (v := .bool (inB el 1 3)) (by kernel_rfl) rfl) (v := .int .i64 el) (by kernel_rfl) rfl) (v := .pointer (some ⟨g3, 0, none⟩)) (by kernel_rfl) rfl) (v := .int .i64 (mx (-1) (mn 1 mo) + ((el * el) * 64))) (by kernel_rfl) rfl) (v := .int .i64 (mx (-1) (mn 1 mo))) (by kernel_rfl) rfl) (v := .int .i64 (mn 1 mo)) (by kernel_rfl) rfl) (v := .int .i64 mo) (by kernel_rfl) rfl) (v := .pointer (some ⟨g3, 3, none⟩)) (by kernel_rfl) rfl) (v := .pointer (some ⟨g7, 0, none⟩)) (by kernel_rfl) rfl) (v := .pointer (some ⟨g3, 0, none⟩)) (by kernel_rfl) rfl) (v := .agg #[.int .i64 el, .slice SA sn scap, .slice RA rn rcap, .int .i64 mo]) (by kernel_rfl) rfl) (v := .bool false) (by kernel_rfl) (congrArg Value.bool (b_af1 h75).symm)), S67.sub sub_all sub_all⟩
      · rintro ac wc ⟨A88, S89⟩
        refine n_then ?_
        refine c_ifb (b := ((decide ((k : Int) < (sn : Int))) && (decide ((N : Int) > 0)))) A88 (by kernel_rfl) (fun h90 => ?_) (fun h90 => ?_)
        · have h91 := (Bool.and_eq_true_iff.1 h90).1
          have p92 := of_decide_eq_true h91
          have h93 := (Bool.and_eq_true_iff.1 h90).2
          have p94 := of_decide_eq_true h93
          refine wp_skip ?_
          refine n_then ?_
          refine wp_seq ?_
          refine wp_block ?_
          refine r_begin (w0 := w0) (by kernel_rfl) (S89.sub (sub_keep (sub_skip sub_all)) sub_all) (fun wc T95 B96 => ?_)
          have S97 := S89.kept B96
          refine r_take 0 (.pointer (some ⟨g28, 1, none⟩)) A88 T95 (g_field (u := .pointer (some ⟨g28, 0, none⟩)) (by kernel_rfl) (fun _ => by kernel_rfl)) rfl rfl rfl (pf_block (pf_then (pf_then (pf_block (pf_then pf_body))))) (by kernel_rfl) (fun ac A98 => ?_)
          refine r_take 1 (.slice (some ⟨g29, 0, none⟩) N N) A98 T95 (g_load (g := g28) (off := 1) 0 (by kernel_rfl) rfl (by kernel_rfl)) rfl rfl rfl (pf_block (pf_then (pf_then (pf_block (pf_then pf_body))))) (by kernel_rfl) (fun ac A99 => ?_)
          refine r_take 2 (.pointer (some ⟨g3, 1, none⟩)) A99 T95 (g_field (u := .pointer (some ⟨g3, 0, none⟩)) (by kernel_rfl) (fun _ => by kernel_rfl)) rfl rfl rfl (pf_block (pf_then (pf_then (pf_block (pf_then pf_body))))) (by kernel_rfl) (fun ac A100 => ?_)
          refine r_take 3 (.slice SA sn scap) A100 T95 (g_load (g := g3) (off := 1) 2 (by kernel_rfl) rfl (by kernel_rfl)) rfl rfl rfl (pf_block (pf_then (pf_then (pf_block (pf_then pf_body))))) (by kernel_rfl) (fun ac A101 => ?_)
          refine r_take 4 (.int .i64 (k : Int)) A101 T95 (g_move (by kernel_rfl)) rfl rfl rfl (pf_block (pf_then (pf_then (pf_block (pf_then pf_body))))) (by kernel_rfl) (fun ac A102 => ?_)
          obtain ⟨ad103, rfl, _⟩ := hsr (k * 2) (by have hlen := hsn; omega)
          refine r_take 5 (.pointer (some (ad103.add (k * 2)))) A102 T95 (g_index (u := .slice (some ad103) sn scap) (k := .int .i64 (k : Int)) (by kernel_rfl) (by kernel_rfl) (ix_xs (e := 26) (bytes := 16) k (by kernel_rfl) (by omega) (by omega))) rfl rfl rfl (pf_block (pf_then (pf_then (pf_block (pf_then pf_body))))) (by kernel_rfl) (fun ac A104 => ?_)
          refine r_take 6 (.pointer (some (ad103.add (k * 2 + 0)))) A104 T95 (g_index (u := .pointer (some (ad103.add (k * 2)))) (k := .int .i64 0) (by kernel_rfl) (by kernel_rfl) (ix_xarr (len := 2) (size := 1) (y := k * 2 + 0) 0 (by kernel_rfl) (by omega) (by omega) (by omega))) rfl rfl rfl (pf_block (pf_then (pf_then (pf_block (pf_then pf_body))))) (by kernel_rfl) (fun ac A105 => ?_)
          refine r_take 7 (.int .i64 (nthI sl (k * 2 + 0))) A105 T95 (g_loadXI (l := sl) (k := k * 2 + 0) (by kernel_rfl) hsr (by have hlen := hsn; omega) (by kernel_rfl)) rfl rfl rfl (pf_block (pf_then (pf_then (pf_block (pf_then pf_body))))) (by kernel_rfl) (fun ac A106 => ?_)
          refine r_take 8 (.pointer (some ⟨g28, 1, none⟩)) A106 T95 (g_field (u := .pointer (some ⟨g28, 0, none⟩)) (by kernel_rfl) (fun _ => by kernel_rfl)) rfl rfl rfl (pf_block (pf_then (pf_then (pf_block (pf_then pf_body))))) (by kernel_rfl) (fun ac A107 => ?_)
          refine r_take 9 (.slice (some ⟨g29, 0, none⟩) N N) A107 T95 (g_load (g := g28) (off := 1) 0 (by kernel_rfl) rfl (by kernel_rfl)) rfl rfl rfl (pf_block (pf_then (pf_then (pf_block (pf_then pf_body))))) (by kernel_rfl) (fun ac A108 => ?_)
          refine r_take 10 (.int .i64 (N : Int)) A108 T95 (g_built (r := [(0, .slice (some ⟨g29, 0, none⟩) N N)]) (by kernel_rfl) (fun _ _ _ => by kernel_rfl)) rfl rfl rfl (pf_block (pf_then (pf_then (pf_block (pf_then pf_body))))) (by kernel_rfl) (fun ac A109 => ?_)
          refine r_take 12 (.pointer (some ⟨g3, 1, none⟩)) A109 T95 (g_field (u := .pointer (some ⟨g3, 0, none⟩)) (by kernel_rfl) (fun _ => by kernel_rfl)) rfl rfl rfl (pf_block (pf_then (pf_then (pf_block (pf_then pf_body))))) (by kernel_rfl) (fun ac A110 => ?_)
          refine r_take 13 (.slice (some ad103) sn scap) A110 T95 (g_load (g := g3) (off := 1) 2 (by kernel_rfl) rfl (by kernel_rfl)) rfl rfl rfl (pf_block (pf_then (pf_then (pf_block (pf_then pf_body))))) (by kernel_rfl) (fun ac A111 => ?_)
          refine r_take 14 (.int .i64 (k : Int)) A111 T95 (g_move (by kernel_rfl)) rfl rfl rfl (pf_block (pf_then (pf_then (pf_block (pf_then pf_body))))) (by kernel_rfl) (fun ac A112 => ?_)
          refine r_take 15 (.pointer (some (ad103.add (k * 2)))) A112 T95 (g_index (u := .slice (some ad103) sn scap) (k := .int .i64 (k : Int)) (by kernel_rfl) (by kernel_rfl) (ix_xs (e := 26) (bytes := 16) k (by kernel_rfl) (by omega) (by omega))) rfl rfl rfl (pf_block (pf_then (pf_then (pf_block (pf_then pf_body))))) (by kernel_rfl) (fun ac A113 => ?_)
          refine r_take 16 (.pointer (some (ad103.add (k * 2 + 1)))) A113 T95 (g_index (u := .pointer (some (ad103.add (k * 2)))) (k := .int .i64 1) (by kernel_rfl) (by kernel_rfl) (ix_xarr (len := 2) (size := 1) (y := k * 2 + 1) 1 (by kernel_rfl) (by omega) (by omega) (by omega))) rfl rfl rfl (pf_block (pf_then (pf_then (pf_block (pf_then pf_body))))) (by kernel_rfl) (fun ac A114 => ?_)
          refine r_take 17 (.int .i64 (nthI sl (k * 2 + 1))) A114 T95 (g_loadXI (l := sl) (k := k * 2 + 1) (by kernel_rfl) hsr (by have hlen := hsn; omega) (by kernel_rfl)) rfl rfl rfl (pf_block (pf_then (pf_then (pf_block (pf_then pf_body))))) (by kernel_rfl) (fun ac A115 => ?_)
          refine r_take 18 (.int .i64 (mn 4000 (nthI sl (k * 2 + 1)))) A115 T95 (g_built (r := [(0, .int .i64 4000), (0, .int .i64 (nthI sl (k * 2 + 1)))]) (by kernel_rfl) (fun ty cs w => by show (do let x ← Builtin.min_ _ ty #[.int .i64 4000, .int .i64 (nthI sl (k * 2 + 1))]; pure (Next.value x) : Sem Next).run _ w = _; rw [Sem.run_bind, run_min_mn]; rfl)) rfl rfl rfl (pf_block (pf_then (pf_then (pf_block (pf_then pf_body))))) (by kernel_rfl) (fun ac A116 => ?_)
          refine r_take 19 (.int .i64 (mx (-4000) (mn 4000 (nthI sl (k * 2 + 1))))) A116 T95 (g_built (r := [(0, .int .i64 (-4000)), (0, .int .i64 (mn 4000 (nthI sl (k * 2 + 1))))]) (by kernel_rfl) (fun ty cs w => by show (do let x ← Builtin.max_ _ ty #[.int .i64 (-4000), .int .i64 (mn 4000 (nthI sl (k * 2 + 1)))]; pure (Next.value x) : Sem Next).run _ w = _; rw [Sem.run_bind, run_max_mx]; rfl)) rfl rfl rfl (pf_block (pf_then (pf_then (pf_block (pf_then pf_body))))) (by kernel_rfl) (fun ac A117 => ?_)
          refine r_take 20 (.float .f32 (floatOfInt .f32 (mx (-4000) (mn 4000 (nthI sl (k * 2 + 1)))))) A117 T95 (g_conv (u := .int .i64 (mx (-4000) (mn 4000 (nthI sl (k * 2 + 1))))) (by kernel_rfl) (fun _ => by kernel_rfl)) rfl rfl rfl (pf_block (pf_then (pf_then (pf_block (pf_then pf_body))))) (by kernel_rfl) (fun ac A118 => ?_)
          refine r_1 (i := 11) (by kernel_rfl) ?_
          have q123 := Int.emod_nonneg (nthI sl (k * 2 + 0)) (b := (N : Int)) (by omega)
          have q124 := Int.emod_lt_of_pos (nthI sl (k * 2 + 0)) (b := (N : Int)) (by omega)
          refine rs_call (fs := #[]) (cp := #[]) (r := [(0, .int .i64 (nthI sl (k * 2 + 0))), (0, .int .i64 (N : Int))]) #[.int .i64 (nthI sl (k * 2 + 0)), .int .i64 (N : Int)] (.int .i64 ((nthI sl (k * 2 + 0)) % (N : Int))) A118 S97 (sub_keep (sub_skip sub_all)) sub_all (sameB (Mod_any (nthI sl (k * 2 + 0)) (N : Int) _ (by omega) (by omega))) Try.call49 rfl rfl (by kernel_rfl) (by kernel_rfl) (by kernel_rfl) rfl (fun ac wc A119 S120 => ?_)
          have T122 := S120.sub (sub_keep (sub_skip sub_all)) sub_all
          refine r_take 21 (.pointer (some ⟨g29, ((nthI sl (k * 2 + 0)) % (N : Int)).toNat, none⟩)) A119 T122 (g_index (u := .slice (some ⟨g29, 0, none⟩) N N) (k := .int .i64 ((nthI sl (k * 2 + 0)) % (N : Int))) (by kernel_rfl) (by kernel_rfl) (ix_sl1 (e := 36) (bytes := 4) (((nthI sl (k * 2 + 0)) % (N : Int)).toNat) (by kernel_rfl) (by omega) (by omega))) rfl rfl rfl (pf_block (pf_then (pf_then (pf_block (pf_then pf_body))))) (by kernel_rfl) (fun ac A125 => ?_)
          refine r_1 (i := 22) (by kernel_rfl) ?_
          refine rs_store (g := g29) (off := ((nthI sl (k * 2 + 0)) % (N : Int)).toNat) (v := .float .f32 (floatOfInt .f32 (mx (-4000) (mn 4000 (nthI sl (k * 2 + 1)))))) 1 (trc ((mkS sl N k).set (((nthI sl (k * 2 + 0)) % (N : Int)).toNat) (floatOfInt .f32 (mx (-4000) (mn 4000 (nthI sl (k * 2 + 1))))))) A125 S120 (sub_keep (sub_skip sub_all)) sub_all (by kernel_rfl) (by kernel_rfl) rfl ((pv_of (by kernel_rfl) rfl (by rw [trc_size, (mkS_length sl N k)]; omega)).trans (congrArg some (trc_set (mkS sl N k) (((nthI sl (k * 2 + 0)) % (N : Int)).toNat) (floatOfInt .f32 (mx (-4000) (mn 4000 (nthI sl (k * 2 + 1)))))))) rfl rfl (fun wc S127 => ?_)
          have T129 := S127.sub (sub_keep (sub_skip sub_all)) sub_all
          refine r_done (by kernel_rfl) ?_
          refine n_block ?_
          refine n_then ?_
          refine wp_region_lit ?_
          refine s_one (.int .i64 (k : Int)) A125 S127 (g_move (by kernel_rfl)) rfl (fun ac A130 => ?_)
          refine s_one (.int .i64 ((k : Int) + 1)) A130 S127 (g_bin (u := .int .i64 (k : Int)) (k := .int .i64 1) (by kernel_rfl) (by kernel_rfl) (fun _ => by kernel_rfl) (b_add (by omega))) rfl (fun ac A131 => ?_)
          refine s_one (.int .i64 ((k : Int) + 1)) A131 S127 (g_assign (by kernel_rfl)) rfl (fun ac A132 => ?_)
          refine wpList_nil ?_
          refine n_then ?_
          refine ⟨_, ⟨k + 1, rfl, (by omega), (A132.slot (A132.slot (A132.slot (A132.slot (A132.slot (A132.slot (A132.slot (A132.slot (A132.slot (A132.slot (A132.slot (A132.slot (A132.slot (A132.slot (A132.slot (A132.slot (A132.slot (A132.slot (A132.slot (A132.slot (A132.slot A132.nil (v := .int .i64 ((k : Int) + 1)) (by kernel_rfl) (congrArg (Value.int .i64) (by omega))) (v := .pointer (some ⟨g28, 0, none⟩)) (by kernel_rfl) rfl) (v := .int .i64 (mx (-1) (mn 1 mo) + ((el * el) * 64))) (by kernel_rfl) rfl) (v := .int .i64 ((el * el) * 64)) (by kernel_rfl) rfl) (v := .int .i64 (el * el)) (by kernel_rfl) rfl) (v := .int .i64 el) (by kernel_rfl) rfl) (v := .pointer (some ⟨g3, 0, none⟩)) (by kernel_rfl) rfl) (v := .int .i64 el) (by kernel_rfl) rfl) (v := .pointer (some ⟨g3, 0, none⟩)) (by kernel_rfl) rfl) (v := .int .i64 (mx (-1) (mn 1 mo))) (by kernel_rfl) rfl) (v := .bool (inB el 1 3)) (by kernel_rfl) rfl) (v := .int .i64 el) (by kernel_rfl) rfl) (v := .pointer (some ⟨g3, 0, none⟩)) (by kernel_rfl) rfl) (v := .int .i64 (mx (-1) (mn 1 mo) + ((el * el) * 64))) (by kernel_rfl) rfl) (v := .int .i64 (mx (-1) (mn 1 mo))) (by kernel_rfl) rfl) (v := .int .i64 (mn 1 mo)) (by kernel_rfl) rfl) (v := .int .i64 mo) (by kernel_rfl) rfl) (v := .pointer (some ⟨g3, 3, none⟩)) (by kernel_rfl) rfl) (v := .pointer (some ⟨g7, 0, none⟩)) (by kernel_rfl) rfl) (v := .pointer (some ⟨g3, 0, none⟩)) (by kernel_rfl) rfl) (v := .agg #[.int .i64 el, .slice (some ad103) sn scap, .slice RA rn rcap, .int .i64 mo]) (by kernel_rfl) (by first | rfl | simp)), (St.recell 3 (St.recell 1 S127 rfl (congrArg trc (by rfl))) rfl (by rfl)).sub sub_all sub_all⟩, ?_⟩
          omega
        · refine wp_exit ?_
          refine x_then ?_
          refine x_then ?_
          refine x_hit ?_
          refine n_then ?_
          refine wp_seq ?_
          refine wp_seq ?_
          refine wp_region_lit ?_
          refine s_one (.int .i64 0) A88 S89 (g_assign (by kernel_rfl)) rfl (fun ac A133 => ?_)
          refine wpList_nil ?_
          refine n_then ?_
          refine wp_block ?_
          refine c_loopN (fun mm ac wc => ∃ (j : Nat), mm = rn - j ∧ (j ≤ rn) ∧ Fr 87 ac [(0, .agg #[.int .i64 el, .slice SA sn scap, .slice RA rn rcap, .int .i64 mo]), (1, .pointer (some ⟨g3, 0, none⟩)), (2, .pointer (some ⟨g7, 0, none⟩)), (7, .pointer (some ⟨g3, 3, none⟩)), (8, .int .i64 mo), (9, .int .i64 (mn 1 mo)), (10, .int .i64 (mx (-1) (mn 1 mo))), (3, .int .i64 (mx (-1) (mn 1 mo) + ((el * el) * 64))), (11, .pointer (some ⟨g3, 0, none⟩)), (12, .int .i64 el), (13, .bool (inB el 1 3)), (14, .int .i64 (mx (-1) (mn 1 mo))), (15, .pointer (some ⟨g3, 0, none⟩)), (16, .int .i64 el), (17, .pointer (some ⟨g3, 0, none⟩)), (18, .int .i64 el), (19, .int .i64 (el * el)), (20, .int .i64 ((el * el) * 64)), (21, .int .i64 (mx (-1) (mn 1 mo) + ((el * el) * 64))), (4, .pointer (some ⟨g28, 0, none⟩)), (5, .int .i64 (k : Int)), (38, .bool ((decide ((k : Int) < (sn : Int))) && (decide ((N : Int) > 0)))), (6, .int .i64 (j : Int))] ∧ St w0 [⟨g28, 30, #[.int .i64 el, .slice (some ⟨g29, 0, none⟩) N N], true⟩, ⟨g29, 36, (trc (mkR rl (mkS sl N sn) j)), true⟩, ⟨g7, 30, #[.int .i64 0, .slice none 0 0], true⟩, ⟨g3, 25, #[.int .i64 el, .slice SA sn scap, .slice RA rn rcap, .int .i64 mo], true⟩] [] wc) _ ⟨0, rfl, (by omega), (A133.slot (A133.slot (A133.slot (A133.slot (A133.slot (A133.slot (A133.slot (A133.slot (A133.slot (A133.slot (A133.slot (A133.slot (A133.slot (A133.slot (A133.slot (A133.slot (A133.slot (A133.slot (A133.slot (A133.slot (A133.slot (A133.slot (A133.slot A133.nil (v := .int .i64 0) (by kernel_rfl) (congrArg (Value.int .i64) (by omega))) (v := .bool ((decide ((k : Int) < (sn : Int))) && (decide ((N : Int) > 0)))) (by kernel_rfl) rfl) (v := .int .i64 (k : Int)) (by kernel_rfl) rfl) (v := .pointer (some ⟨g28, 0, none⟩)) (by kernel_rfl) rfl) (v := .int .i64 (mx (-1) (mn 1 mo) + ((el * el) * 64))) (by kernel_rfl) rfl) (v := .int .i64 ((el * el) * 64)) (by kernel_rfl) rfl) (v := .int .i64 (el * el)) (by kernel_rfl) rfl) (v := .int .i64 el) (by kernel_rfl) rfl) (v := .pointer (some ⟨g3, 0, none⟩)) (by kernel_rfl) rfl) (v := .int .i64 el) (by kernel_rfl) rfl) (v := .pointer (some ⟨g3, 0, none⟩)) (by kernel_rfl) rfl) (v := .int .i64 (mx (-1) (mn 1 mo))) (by kernel_rfl) rfl) (v := .bool (inB el 1 3)) (by kernel_rfl) rfl) (v := .int .i64 el) (by kernel_rfl) rfl) (v := .pointer (some ⟨g3, 0, none⟩)) (by kernel_rfl) rfl) (v := .int .i64 (mx (-1) (mn 1 mo) + ((el * el) * 64))) (by kernel_rfl) rfl) (v := .int .i64 (mx (-1) (mn 1 mo))) (by kernel_rfl) rfl) (v := .int .i64 (mn 1 mo)) (by kernel_rfl) rfl) (v := .int .i64 mo) (by kernel_rfl) rfl) (v := .pointer (some ⟨g3, 3, none⟩)) (by kernel_rfl) rfl) (v := .pointer (some ⟨g7, 0, none⟩)) (by kernel_rfl) rfl) (v := .pointer (some ⟨g3, 0, none⟩)) (by kernel_rfl) rfl) (v := .agg #[.int .i64 el, .slice SA sn scap, .slice RA rn rcap, .int .i64 mo]) (by kernel_rfl) rfl), (St.recell 1 S89 rfl (congrArg trc (mkS_end hkk h90))).sub sub_all sub_all⟩ ?_
          rintro mm ac wc ⟨j, hm136, hkj, A134, S135⟩
          refine wp_seq ?_
          refine wp_seq ?_
          refine c_cut (fun ac wc => Fr 87 ac [(74, .bool ((decide ((j : Int) < (rn : Int))) && (decide ((j : Int) < (N : Int))))), (0, .agg #[.int .i64 el, .slice SA sn scap, .slice RA rn rcap, .int .i64 mo]), (1, .pointer (some ⟨g3, 0, none⟩)), (2, .pointer (some ⟨g7, 0, none⟩)), (7, .pointer (some ⟨g3, 3, none⟩)), (8, .int .i64 mo), (9, .int .i64 (mn 1 mo)), (10, .int .i64 (mx (-1) (mn 1 mo))), (3, .int .i64 (mx (-1) (mn 1 mo) + ((el * el) * 64))), (11, .pointer (some ⟨g3, 0, none⟩)), (12, .int .i64 el), (13, .bool (inB el 1 3)), (14, .int .i64 (mx (-1) (mn 1 mo))), (15, .pointer (some ⟨g3, 0, none⟩)), (16, .int .i64 el), (17, .pointer (some ⟨g3, 0, none⟩)), (18, .int .i64 el), (19, .int .i64 (el * el)), (20, .int .i64 ((el * el) * 64)), (21, .int .i64 (mx (-1) (mn 1 mo) + ((el * el) * 64))), (4, .pointer (some ⟨g28, 0, none⟩)), (5, .int .i64 (k : Int)), (38, .bool ((decide ((k : Int) < (sn : Int))) && (decide ((N : Int) > 0)))), (6, .int .i64 (j : Int))] ∧ St w0 [⟨g28, 30, #[.int .i64 el, .slice (some ⟨g29, 0, none⟩) N N], true⟩, ⟨g29, 36, (trc (mkR rl (mkS sl N sn) j)), true⟩, ⟨g7, 30, #[.int .i64 0, .slice none 0 0], true⟩, ⟨g3, 25, #[.int .i64 el, .slice SA sn scap, .slice RA rn rcap, .int .i64 mo], true⟩] [] wc) ?_ ?_
          · refine wp_region_lit ?_
            refine s_one (.int .i64 (j : Int)) A134 S135 (g_move (by kernel_rfl)) rfl (fun ac A137 => ?_)
            refine s_one (.pointer (some ⟨g3, 2, none⟩)) A137 S135 (g_field (u := .pointer (some ⟨g3, 0, none⟩)) (by kernel_rfl) (fun _ => by kernel_rfl)) rfl (fun ac A138 => ?_)
            refine s_one (.slice RA rn rcap) A138 S135 (g_load (g := g3) (off := 2) 3 (by kernel_rfl) rfl (by kernel_rfl)) rfl (fun ac A139 => ?_)
            refine s_one (.int .i64 (rn : Int)) A139 S135 (g_built (r := [(0, .slice RA rn rcap)]) (by kernel_rfl) (fun _ _ _ => by kernel_rfl)) rfl (fun ac A140 => ?_)
            refine s_one (.bool (decide ((j : Int) < (rn : Int)))) A140 S135 (g_bin (u := .int .i64 (j : Int)) (k := .int .i64 (rn : Int)) (by kernel_rfl) (by kernel_rfl) (fun _ => by kernel_rfl) (fun _ => by kernel_rfl)) rfl (fun ac A141 => ?_)
            refine s_one (.bool (decide ((j : Int) < (rn : Int)))) A141 S135 (g_move (by kernel_rfl)) rfl (fun ac A142 => ?_)
            refine by_bool (decide ((j : Int) < (rn : Int))) (fun h143 => ?_) (fun h143 => ?_)
            · have p144 := of_decide_eq_true h143
              refine s_want (dj := 68) (b := (decide ((j : Int) < (rn : Int)))) A142 (by kernel_rfl) (by kernel_rfl) h143 ?_
              refine s_one (.int .i64 (j : Int)) A142 S135 (g_move (by kernel_rfl)) rfl (fun ac A145 => ?_)
              refine s_want (dj := 68) (b := (decide ((j : Int) < (rn : Int)))) A145 (by kernel_rfl) (by kernel_rfl) h143 ?_
              refine s_one (.pointer (some ⟨g28, 1, none⟩)) A145 S135 (g_field (u := .pointer (some ⟨g28, 0, none⟩)) (by kernel_rfl) (fun _ => by kernel_rfl)) rfl (fun ac A146 => ?_)
              refine s_want (dj := 68) (b := (decide ((j : Int) < (rn : Int)))) A146 (by kernel_rfl) (by kernel_rfl) h143 ?_
              refine s_one (.slice (some ⟨g29, 0, none⟩) N N) A146 S135 (g_load (g := g28) (off := 1) 0 (by kernel_rfl) rfl (by kernel_rfl)) rfl (fun ac A147 => ?_)
              refine s_want (dj := 68) (b := (decide ((j : Int) < (rn : Int)))) A147 (by kernel_rfl) (by kernel_rfl) h143 ?_
              refine s_one (.int .i64 (N : Int)) A147 S135 (g_built (r := [(0, .slice (some ⟨g29, 0, none⟩) N N)]) (by kernel_rfl) (fun _ _ _ => by kernel_rfl)) rfl (fun ac A148 => ?_)
              refine s_want (dj := 68) (b := (decide ((j : Int) < (rn : Int)))) A148 (by kernel_rfl) (by kernel_rfl) h143 ?_
              refine s_one (.bool (decide ((j : Int) < (N : Int)))) A148 S135 (g_bin (u := .int .i64 (j : Int)) (k := .int .i64 (N : Int)) (by kernel_rfl) (by kernel_rfl) (fun _ => by kernel_rfl) (fun _ => by kernel_rfl)) rfl (fun ac A149 => ?_)
              refine s_one (.bool (decide ((j : Int) < (N : Int)))) A149 S135 (g_pick_t (b := (decide ((j : Int) < (rn : Int)))) (by kernel_rfl) h143 (by kernel_rfl)) rfl (fun ac A150 => ?_)
              refine wpList_nil ?_
              refine n_then ?_
              exact ⟨(A150.slot (A150.slot (A150.slot (A150.slot (A150.slot (A150.slot (A150.slot (A150.slot (A150.slot (A150.slot (A150.slot (A150.slot (A150.slot (A150.slot (A150.slot (A150.slot (A150.slot (A150.slot (A150.slot (A150.slot (A150.slot (A150.slot (A150.slot (A150.slot A150.nil (v := .int .i64 (j : Int)) (by kernel_rfl) rfl) (v := .bool ((decide ((k : Int) < (sn : Int))) && (decide ((N : Int) > 0)))) (by kernel_rfl) rfl) (v := .int .i64 (k : Int)) (by kernel_rfl) rfl) (v := .pointer (some ⟨g28, 0, none⟩)) (by kernel_rfl) rfl) (v := .int .i64 (mx (-1) (mn 1 mo) + ((el * el) * 64))) (by kernel_rfl) rfl) (v := .int .i64 ((el * el) * 64)) (by kernel_rfl) rfl) (v := .int .i64 (el * el)) (by kernel_rfl) rfl) (v := .int .i64 el) (by kernel_rfl) rfl) (v := .pointer (some ⟨g3, 0, none⟩)) (by kernel_rfl) rfl) (v := .int .i64 el) (by kernel_rfl) rfl) (v := .pointer (some ⟨g3, 0, none⟩)) (by kernel_rfl) rfl) (v := .int .i64 (mx (-1) (mn 1 mo))) (by kernel_rfl) rfl) (v := .bool (inB el 1 3)) (by kernel_rfl) rfl) (v := .int .i64 el) (by kernel_rfl) rfl) (v := .pointer (some ⟨g3, 0, none⟩)) (by kernel_rfl) rfl) (v := .int .i64 (mx (-1) (mn 1 mo) + ((el * el) * 64))) (by kernel_rfl) rfl) (v := .int .i64 (mx (-1) (mn 1 mo))) (by kernel_rfl) rfl) (v := .int .i64 (mn 1 mo)) (by kernel_rfl) rfl) (v := .int .i64 mo) (by kernel_rfl) rfl) (v := .pointer (some ⟨g3, 3, none⟩)) (by kernel_rfl) rfl) (v := .pointer (some ⟨g7, 0, none⟩)) (by kernel_rfl) rfl) (v := .pointer (some ⟨g3, 0, none⟩)) (by kernel_rfl) rfl) (v := .agg #[.int .i64 el, .slice SA sn scap, .slice RA rn rcap, .int .i64 mo]) (by kernel_rfl) rfl) (v := .bool (decide ((j : Int) < (N : Int)))) (by kernel_rfl) (congrArg Value.bool (b_and_t h143 (Eq.refl (decide ((j : Int) < (N : Int))))).symm)), S135.sub sub_all sub_all⟩
            · have p151 := of_decide_eq_false h143
              refine s_not (dj := 68) (b := (decide ((j : Int) < (rn : Int)))) A142 (by kernel_rfl) (by kernel_rfl) h143 rfl (fun ac A152 => ?_)
              refine s_not (dj := 68) (b := (decide ((j : Int) < (rn : Int)))) A152 (by kernel_rfl) (by kernel_rfl) h143 rfl (fun ac A153 => ?_)
              refine s_not (dj := 68) (b := (decide ((j : Int) < (rn : Int)))) A153 (by kernel_rfl) (by kernel_rfl) h143 rfl (fun ac A154 => ?_)
              refine s_not (dj := 68) (b := (decide ((j : Int) < (rn : Int)))) A154 (by kernel_rfl) (by kernel_rfl) h143 rfl (fun ac A155 => ?_)
              refine s_not (dj := 68) (b := (decide ((j : Int) < (rn : Int)))) A155 (by kernel_rfl) (by kernel_rfl) h143 rfl (fun ac A156 => ?_)
              refine s_one (.bool false) A156 S135 (g_pick_f (b := (decide ((j : Int) < (rn : Int)))) (by kernel_rfl) h143 (by kernel_rfl)) rfl (fun ac A157 => ?_)
              refine wpList_nil ?_
              refine n_then ?_
              exact ⟨(A157.slot (A157.slot (A157.slot (A157.slot (A157.slot (A157.slot (A157.slot (A157.slot (A157.slot (A157.slot (A157.slot (A157.slot (A157.slot (A157.slot (A157.slot (A157.slot (A157.slot (A157.slot (A157.slot (A157.slot (A157.slot (A157.slot (A157.slot (A157.slot A157.nil (v := .int .i64 (j : Int)) (by kernel_rfl) rfl) (v := .bool ((decide ((k : Int) < (sn : Int))) && (decide ((N : Int) > 0)))) (by kernel_rfl) rfl) (v := .int .i64 (k : Int)) (by kernel_rfl) rfl) (v := .pointer (some ⟨g28, 0, none⟩)) (by kernel_rfl) rfl) (v := .int .i64 (mx (-1) (mn 1 mo) + ((el * el) * 64))) (by kernel_rfl) rfl) (v := .int .i64 ((el * el) * 64)) (by kernel_rfl) rfl) (v := .int .i64 (el * el)) (by kernel_rfl) rfl) (v := .int .i64 el) (by kernel_rfl) rfl) (v := .pointer (some ⟨g3, 0, none⟩)) (by kernel_rfl) rfl) (v := .int .i64 el) (by kernel_rfl) rfl) (v := .pointer (some ⟨g3, 0, none⟩)) (by kernel_rfl) rfl) (v := .int .i64 (mx (-1) (mn 1 mo))) (by kernel_rfl) rfl) (v := .bool (inB el 1 3)) (by kernel_rfl) rfl) (v := .int .i64 el) (by kernel_rfl) rfl) (v := .pointer (some ⟨g3, 0, none⟩)) (by kernel_rfl) rfl) (v := .int .i64 (mx (-1) (mn 1 mo) + ((el * el) * 64))) (by kernel_rfl) rfl) (v := .int .i64 (mx (-1) (mn 1 mo))) (by kernel_rfl) rfl) (v := .int .i64 (mn 1 mo)) (by kernel_rfl) rfl) (v := .int .i64 mo) (by kernel_rfl) rfl) (v := .pointer (some ⟨g3, 3, none⟩)) (by kernel_rfl) rfl) (v := .pointer (some ⟨g7, 0, none⟩)) (by kernel_rfl) rfl) (v := .pointer (some ⟨g3, 0, none⟩)) (by kernel_rfl) rfl) (v := .agg #[.int .i64 el, .slice SA sn scap, .slice RA rn rcap, .int .i64 mo]) (by kernel_rfl) rfl) (v := .bool false) (by kernel_rfl) (congrArg Value.bool (b_af1 h143).symm)), S135.sub sub_all sub_all⟩
          · rintro ac wc ⟨A158, S159⟩
            refine n_then ?_
            refine c_ifb (b := ((decide ((j : Int) < (rn : Int))) && (decide ((j : Int) < (N : Int))))) A158 (by kernel_rfl) (fun h160 => ?_) (fun h160 => ?_)
            · have h161 := (Bool.and_eq_true_iff.1 h160).1
              have p162 := of_decide_eq_true h161
              have h163 := (Bool.and_eq_true_iff.1 h160).2
              have p164 := of_decide_eq_true h163
              refine wp_skip ?_
              refine n_then ?_
              refine wp_seq ?_
              refine wp_block ?_
              refine r_begin (w0 := w0) (by kernel_rfl) (S159.sub (sub_keep (sub_skip sub_all)) sub_all) (fun wc T165 B166 => ?_)
              have S167 := S159.kept B166
              refine r_take 0 (.pointer (some ⟨g28, 1, none⟩)) A158 T165 (g_field (u := .pointer (some ⟨g28, 0, none⟩)) (by kernel_rfl) (fun _ => by kernel_rfl)) rfl rfl rfl (pf_block (pf_then (pf_then (pf_block (pf_then pf_body))))) (by kernel_rfl) (fun ac A168 => ?_)
              refine r_take 1 (.slice (some ⟨g29, 0, none⟩) N N) A168 T165 (g_load (g := g28) (off := 1) 0 (by kernel_rfl) rfl (by kernel_rfl)) rfl rfl rfl (pf_block (pf_then (pf_then (pf_block (pf_then pf_body))))) (by kernel_rfl) (fun ac A169 => ?_)
              refine r_take 2 (.int .i64 (j : Int)) A169 T165 (g_move (by kernel_rfl)) rfl rfl rfl (pf_block (pf_then (pf_then (pf_block (pf_then pf_body))))) (by kernel_rfl) (fun ac A170 => ?_)
              refine r_take 3 (.pointer (some ⟨g3, 2, none⟩)) A170 T165 (g_field (u := .pointer (some ⟨g3, 0, none⟩)) (by kernel_rfl) (fun _ => by kernel_rfl)) rfl rfl rfl (pf_block (pf_then (pf_then (pf_block (pf_then pf_body))))) (by kernel_rfl) (fun ac A171 => ?_)
              refine r_take 4 (.slice RA rn rcap) A171 T165 (g_load (g := g3) (off := 2) 2 (by kernel_rfl) rfl (by kernel_rfl)) rfl rfl rfl (pf_block (pf_then (pf_then (pf_block (pf_then pf_body))))) (by kernel_rfl) (fun ac A172 => ?_)
              refine r_take 5 (.int .i64 (j : Int)) A172 T165 (g_move (by kernel_rfl)) rfl rfl rfl (pf_block (pf_then (pf_then (pf_block (pf_then pf_body))))) (by kernel_rfl) (fun ac A173 => ?_)
              obtain ⟨ad174, rfl, _⟩ := hrr (j) (by have hlen := hrn; omega)
              refine r_take 6 (.pointer (some (ad174.add j))) A173 T165 (g_index (u := .slice (some ad174) rn rcap) (k := .int .i64 (j : Int)) (by kernel_rfl) (by kernel_rfl) (ix_x (e := 36) (bytes := 4) j (by kernel_rfl) (by omega) (by omega))) rfl rfl rfl (pf_block (pf_then (pf_then (pf_block (pf_then pf_body))))) (by kernel_rfl) (fun ac A175 => ?_)
              refine r_take 7 (.float .f32 (nth rl j)) A175 T165 (g_loadXF (l := rl) (k := j) (by kernel_rfl) hrr (by have hlen := hrn; omega) (by kernel_rfl)) rfl rfl rfl (pf_block (pf_then (pf_then (pf_block (pf_then pf_body))))) (by kernel_rfl) (fun ac A176 => ?_)
              refine r_take 8 (.pointer (some ⟨g29, j, none⟩)) A176 T165 (g_index (u := .slice (some ⟨g29, 0, none⟩) N N) (k := .int .i64 (j : Int)) (by kernel_rfl) (by kernel_rfl) (ix_sl1 (e := 36) (bytes := 4) j (by kernel_rfl) (by omega) (by omega))) rfl rfl rfl (pf_block (pf_then (pf_then (pf_block (pf_then pf_body))))) (by kernel_rfl) (fun ac A177 => ?_)
              refine r_1 (i := 9) (by kernel_rfl) ?_
              refine rs_store (g := g29) (off := j) (v := .float .f32 (nth rl j)) 1 (trc ((mkR rl (mkS sl N sn) j).set j (nth rl j))) A177 S167 (sub_keep (sub_skip sub_all)) sub_all (by kernel_rfl) (by kernel_rfl) rfl ((pv_of (by kernel_rfl) rfl (by rw [trc_size, ((mkR_length _ _ _).trans (mkS_length sl N sn))]; omega)).trans (congrArg some (trc_set (mkR rl (mkS sl N sn) j) j (nth rl j)))) rfl rfl (fun wc S179 => ?_)
              have T181 := S179.sub (sub_keep (sub_skip sub_all)) sub_all
              refine r_done (by kernel_rfl) ?_
              refine n_block ?_
              refine n_then ?_
              refine wp_region_lit ?_
              refine s_one (.int .i64 (j : Int)) A177 S179 (g_move (by kernel_rfl)) rfl (fun ac A182 => ?_)
              refine s_one (.int .i64 ((j : Int) + 1)) A182 S179 (g_bin (u := .int .i64 (j : Int)) (k := .int .i64 1) (by kernel_rfl) (by kernel_rfl) (fun _ => by kernel_rfl) (b_add (by omega))) rfl (fun ac A183 => ?_)
              refine s_one (.int .i64 ((j : Int) + 1)) A183 S179 (g_assign (by kernel_rfl)) rfl (fun ac A184 => ?_)
              refine wpList_nil ?_
              refine n_then ?_
              refine ⟨_, ⟨j + 1, rfl, (by omega), (A184.slot (A184.slot (A184.slot (A184.slot (A184.slot (A184.slot (A184.slot (A184.slot (A184.slot (A184.slot (A184.slot (A184.slot (A184.slot (A184.slot (A184.slot (A184.slot (A184.slot (A184.slot (A184.slot (A184.slot (A184.slot (A184.slot (A184.slot A184.nil (v := .int .i64 ((j : Int) + 1)) (by kernel_rfl) (congrArg (Value.int .i64) (by omega))) (v := .bool ((decide ((k : Int) < (sn : Int))) && (decide ((N : Int) > 0)))) (by kernel_rfl) rfl) (v := .int .i64 (k : Int)) (by kernel_rfl) rfl) (v := .pointer (some ⟨g28, 0, none⟩)) (by kernel_rfl) rfl) (v := .int .i64 (mx (-1) (mn 1 mo) + ((el * el) * 64))) (by kernel_rfl) rfl) (v := .int .i64 ((el * el) * 64)) (by kernel_rfl) rfl) (v := .int .i64 (el * el)) (by kernel_rfl) rfl) (v := .int .i64 el) (by kernel_rfl) rfl) (v := .pointer (some ⟨g3, 0, none⟩)) (by kernel_rfl) rfl) (v := .int .i64 el) (by kernel_rfl) rfl) (v := .pointer (some ⟨g3, 0, none⟩)) (by kernel_rfl) rfl) (v := .int .i64 (mx (-1) (mn 1 mo))) (by kernel_rfl) rfl) (v := .bool (inB el 1 3)) (by kernel_rfl) rfl) (v := .int .i64 el) (by kernel_rfl) rfl) (v := .pointer (some ⟨g3, 0, none⟩)) (by kernel_rfl) rfl) (v := .int .i64 (mx (-1) (mn 1 mo) + ((el * el) * 64))) (by kernel_rfl) rfl) (v := .int .i64 (mx (-1) (mn 1 mo))) (by kernel_rfl) rfl) (v := .int .i64 (mn 1 mo)) (by kernel_rfl) rfl) (v := .int .i64 mo) (by kernel_rfl) rfl) (v := .pointer (some ⟨g3, 3, none⟩)) (by kernel_rfl) rfl) (v := .pointer (some ⟨g7, 0, none⟩)) (by kernel_rfl) rfl) (v := .pointer (some ⟨g3, 0, none⟩)) (by kernel_rfl) rfl) (v := .agg #[.int .i64 el, .slice SA sn scap, .slice (some ad174) rn rcap, .int .i64 mo]) (by kernel_rfl) (by first | rfl | simp)), (St.recell 3 (St.recell 1 S179 rfl (congrArg trc (by rfl))) rfl (by rfl)).sub sub_all sub_all⟩, ?_⟩
              omega
            · refine wp_exit ?_
              refine x_then ?_
              refine x_then ?_
              refine x_hit ?_
              refine n_then ?_
              refine wp_seq ?_
              refine wp_region_lit ?_
              refine s_one (.agg #[.int .i64 el, .slice (some ⟨g29, 0, none⟩) N N]) A158 S159 (g_load (g := g28) (off := 0) 0 (by kernel_rfl) rfl (by kernel_rfl)) rfl (fun ac A185 => ?_)
              refine s_store (g := g7) (off := 0) (v := .agg #[.int .i64 el, .slice (some ⟨g29, 0, none⟩) N N]) 2 (#[.int .i64 el, .slice (some ⟨g29, 0, none⟩) N N]) A185 S159 (by kernel_rfl) (by kernel_rfl) rfl (by kernel_rfl) (fun wc S187 => ?_)
              refine wpList_nil ?_
              refine n_then ?_
              refine wp_ret ?_
              have hz : (mkR rl (mkS sl N sn) j).length = N := (mkR_length _ _ _).trans (mkS_length _ _ _)
              have SC : St w0 [⟨g28, 30, #[.int .i64 el, .slice (some ⟨g29, 0, none⟩) N N], true⟩, ⟨g7, 30, #[.int .i64 el, .slice (some ⟨g29, 0, none⟩) N N], true⟩, ⟨g3, 25, #[.int .i64 el, .slice SA sn scap, .slice RA rn rcap, .int .i64 mo], true⟩] [⟨.slice (some ⟨g29, 0, none⟩) N N, 36, 1, N, (rowF (mkR rl (mkS sl N sn) j))⟩] _ := St.closeRow S187 1 rfl (by rw [trc_size, Nat.mul_one]; exact hz) (Nat.le_refl _) (by unfold maxLen; omega) (by rw [trc_toList, Nat.mul_one]; exact List.take_of_length_le (by simp [rowF, hz]))
              refine fin1 (.agg #[.int .i64 el, .slice (some ⟨g29, 0, none⟩) N N]) Try.results13 A185 SC (rv_cell (g := g7) (off := 0) 1 (by kernel_rfl) rfl (by kernel_rfl)) ?_
              have ow := SC.row 0 rfl
              have eN : mkN el mo = N := mkN_y h18 hN
              have eW : mkW el sn sl rn rl mo = mkR rl (mkS sl N sn) j := by unfold mkW; rw [eN]; exact (mkR_end (mkS_length _ _ _) hkj h160).symm
              exact ⟨_, rfl, SC.kp, by rw [eN, eW]; exact ow⟩
  · refine wp_skip ?_
    refine n_then ?_
    refine wp_seq ?_
    obtain ⟨N, hN⟩ : ∃ N : Nat, mx 0 (mx (-1) (mn 1 mo)) = (N : Int) := ⟨(mx 0 (mx (-1) (mn 1 mo))).toNat, by rw [mx_eq]; omega⟩
    have hN2 : N ≤ 600 := by rw [mx_eq 0] at hN; omega
    refine c_cut (fun ac wc => ∃ (g189 : Nat) (g190 : Nat), Fr 87 ac [(0, .agg #[.int .i64 el, .slice SA sn scap, .slice RA rn rcap, .int .i64 mo]), (1, .pointer (some ⟨g3, 0, none⟩)), (2, .pointer (some ⟨g7, 0, none⟩)), (7, .pointer (some ⟨g3, 3, none⟩)), (8, .int .i64 mo), (9, .int .i64 (mn 1 mo)), (10, .int .i64 (mx (-1) (mn 1 mo))), (3, .int .i64 (mx (-1) (mn 1 mo))), (11, .pointer (some ⟨g3, 0, none⟩)), (12, .int .i64 el), (13, .bool (inB el 1 3)), (4, .pointer (some ⟨g189, 0, none⟩))] ∧ St w0 [⟨g189, 30, #[.int .i64 el, .slice (some ⟨g190, 0, none⟩) N N], true⟩, ⟨g190, 36, (trc (List.replicate N 0)), true⟩, ⟨g7, 30, #[.int .i64 0, .slice none 0 0], true⟩, ⟨g3, 25, #[.int .i64 el, .slice SA sn scap, .slice RA rn rcap, .int .i64 mo], true⟩] [] wc) ?_ ?_
    · refine r_begin (w0 := w0) (by kernel_rfl) (S16.sub sub_all sub_all) (fun wc T191 B192 => ?_)
      have S193 := S16.kept B192
      refine r_take 0 (.pointer (some ⟨g3, 0, none⟩)) A15 T191 (g_field (u := .pointer (some ⟨g3, 0, none⟩)) (by kernel_rfl) (fun _ => by kernel_rfl)) rfl rfl rfl (pf_then (pf_then pf_body)) (by kernel_rfl) (fun ac A194 => ?_)
      refine r_take 1 (.int .i64 el) A194 T191 (g_load (g := g3) (off := 0) 1 (by kernel_rfl) rfl (by kernel_rfl)) rfl rfl rfl (pf_then (pf_then pf_body)) (by kernel_rfl) (fun ac A195 => ?_)
      refine r_take 2 (.int .i64 (mx (-1) (mn 1 mo))) A195 T191 (g_move (by kernel_rfl)) rfl rfl rfl (pf_then (pf_then pf_body)) (by kernel_rfl) (fun ac A196 => ?_)
      refine r_take 3 (.int .i64 (mx 0 (mx (-1) (mn 1 mo)))) A196 T191 (g_built (r := [(0, .int .i64 0), (0, .int .i64 (mx (-1) (mn 1 mo)))]) (by kernel_rfl) (fun ty cs w => by show (do let x ← Builtin.max_ _ ty #[.int .i64 0, .int .i64 (mx (-1) (mn 1 mo))]; pure (Next.value x) : Sem Next).run _ w = _; rw [Sem.run_bind, run_max_mx]; rfl)) rfl rfl rfl (pf_then (pf_then pf_body)) (by kernel_rfl) (fun ac A197 => ?_)
      refine r_2 (i := 4) (j := 6) (by kernel_rfl) ?_ ?_
      · refine rs_make (e := 36) (bytes := 4) N A197 S193 sub_all sub_all (by kernel_rfl) (by kernel_rfl) (by kernel_rfl) (by kernel_rfl) hN hN (by omega) (by omega) rfl rfl rfl (fun g200 ac wc A198 S199 => ?_)
        have T201 := S199.sub (sub_skip sub_all) sub_all
        refine r_take 5 (.agg #[.int .i64 el, .slice (some ⟨g200, 0, none⟩) N N]) A198 T201 (g_build (r := [(0, .int .i64 el), (1, .slice (some ⟨g200, 0, none⟩) N N)]) (by kernel_rfl) (fun _ => by kernel_rfl)) rfl rfl rfl (pf_then (pf_then pf_body)) (by kernel_rfl) (fun ac A202 => ?_)
        refine r_1 (i := 6) (by kernel_rfl) ?_
        refine rs_alloc (#[.int .i64 0, .slice none 0 0]) A202 S199 (sub_skip sub_all) sub_all (by kernel_rfl) rfl rfl rfl (fun g205 ac wc A203 S204 => ?_)
        have T206 := S204.sub (sub_skip (sub_skip sub_all)) sub_all
        refine r_1 (i := 7) (by kernel_rfl) ?_
        refine rs_store (g := g205) (off := 0) (v := .agg #[.int .i64 el, .slice (some ⟨g200, 0, none⟩) N N]) 0 (#[.int .i64 el, .slice (some ⟨g200, 0, none⟩) N N]) A203 S204 (sub_skip (sub_skip sub_all)) sub_all (by kernel_rfl) (by kernel_rfl) rfl (by kernel_rfl) rfl rfl (fun wc S208 => ?_)
        have T210 := S208.sub (sub_skip (sub_skip sub_all)) sub_all
        refine r_done (by kernel_rfl) ?_
        refine n_then ?_
        exact ⟨g205, g200, (A203.slot (A203.slot (A203.slot (A203.slot (A203.slot (A203.slot (A203.slot (A203.slot (A203.slot (A203.slot (A203.slot (A203.slot A203.nil (v := .pointer (some ⟨g205, 0, none⟩)) (by kernel_rfl) rfl) (v := .bool (inB el 1 3)) (by kernel_rfl) rfl) (v := .int .i64 el) (by kernel_rfl) rfl) (v := .pointer (some ⟨g3, 0, none⟩)) (by kernel_rfl) rfl) (v := .int .i64 (mx (-1) (mn 1 mo))) (by kernel_rfl) rfl) (v := .int .i64 (mx (-1) (mn 1 mo))) (by kernel_rfl) rfl) (v := .int .i64 (mn 1 mo)) (by kernel_rfl) rfl) (v := .int .i64 mo) (by kernel_rfl) rfl) (v := .pointer (some ⟨g3, 3, none⟩)) (by kernel_rfl) rfl) (v := .pointer (some ⟨g7, 0, none⟩)) (by kernel_rfl) rfl) (v := .pointer (some ⟨g3, 0, none⟩)) (by kernel_rfl) rfl) (v := .agg #[.int .i64 el, .slice SA sn scap, .slice RA rn rcap, .int .i64 mo]) (by kernel_rfl) rfl), S208.sub sub_all sub_all⟩
      · refine rs_alloc (#[.int .i64 0, .slice none 0 0]) A197 S193 sub_all sub_all (by kernel_rfl) rfl rfl rfl (fun g213 ac wc A211 S212 => ?_)
        have T214 := S212.sub (sub_skip sub_all) sub_all
        refine r_1 (i := 4) (by kernel_rfl) ?_
        refine rs_make (e := 36) (bytes := 4) N A211 S212 (sub_skip sub_all) sub_all (by kernel_rfl) (by kernel_rfl) (by kernel_rfl) (by kernel_rfl) hN hN (by omega) (by omega) rfl rfl rfl (fun g217 ac wc A215 S216 => ?_)
        have T218 := S216.sub (sub_skip (sub_skip sub_all)) sub_all
        refine r_take 5 (.agg #[.int .i64 el, .slice (some ⟨g217, 0, none⟩) N N]) A215 T218 (g_build (r := [(0, .int .i64 el), (1, .slice (some ⟨g217, 0, none⟩) N N)]) (by kernel_rfl) (fun _ => by kernel_rfl)) rfl rfl rfl (pf_then (pf_then pf_body)) (by kernel_rfl) (fun ac A219 => ?_)
        refine r_1 (i := 7) (by kernel_rfl) ?_
        refine rs_store (g := g213) (off := 0) (v := .agg #[.int .i64 el, .slice (some ⟨g217, 0, none⟩) N N]) 1 (#[.int .i64 el, .slice (some ⟨g217, 0, none⟩) N N]) A219 S216 (sub_skip (sub_skip sub_all)) sub_all (by kernel_rfl) (by kernel_rfl) rfl (by kernel_rfl) rfl rfl (fun wc S221 => ?_)
        have T223 := S221.sub (sub_skip (sub_skip sub_all)) sub_all
        refine r_done (by kernel_rfl) ?_
        refine n_then ?_
        exact ⟨g213, g217, (A219.slot (A219.slot (A219.slot (A219.slot (A219.slot (A219.slot (A219.slot (A219.slot (A219.slot (A219.slot (A219.slot (A219.slot A219.nil (v := .pointer (some ⟨g213, 0, none⟩)) (by kernel_rfl) rfl) (v := .bool (inB el 1 3)) (by kernel_rfl) rfl) (v := .int .i64 el) (by kernel_rfl) rfl) (v := .pointer (some ⟨g3, 0, none⟩)) (by kernel_rfl) rfl) (v := .int .i64 (mx (-1) (mn 1 mo))) (by kernel_rfl) rfl) (v := .int .i64 (mx (-1) (mn 1 mo))) (by kernel_rfl) rfl) (v := .int .i64 (mn 1 mo)) (by kernel_rfl) rfl) (v := .int .i64 mo) (by kernel_rfl) rfl) (v := .pointer (some ⟨g3, 3, none⟩)) (by kernel_rfl) rfl) (v := .pointer (some ⟨g7, 0, none⟩)) (by kernel_rfl) rfl) (v := .pointer (some ⟨g3, 0, none⟩)) (by kernel_rfl) rfl) (v := .agg #[.int .i64 el, .slice SA sn scap, .slice RA rn rcap, .int .i64 mo]) (by kernel_rfl) rfl), (St.perm S221 (List.Perm.swap _ _ _)).sub sub_all sub_all⟩
    · rintro ac wc ⟨g189, g190, A224, S225⟩
      refine n_then ?_
      refine wp_seq ?_
      refine wp_seq ?_
      refine wp_region_lit ?_
      refine s_one (.int .i64 0) A224 S225 (g_assign (by kernel_rfl)) rfl (fun ac A226 => ?_)
      refine wpList_nil ?_
      refine n_then ?_
      refine wp_block ?_
      refine c_loopN (fun mm ac wc => ∃ (k : Nat), mm = sn - k ∧ (k ≤ sn) ∧ Fr 87 ac [(0, .agg #[.int .i64 el, .slice SA sn scap, .slice RA rn rcap, .int .i64 mo]), (1, .pointer (some ⟨g3, 0, none⟩)), (2, .pointer (some ⟨g7, 0, none⟩)), (7, .pointer (some ⟨g3, 3, none⟩)), (8, .int .i64 mo), (9, .int .i64 (mn 1 mo)), (10, .int .i64 (mx (-1) (mn 1 mo))), (3, .int .i64 (mx (-1) (mn 1 mo))), (11, .pointer (some ⟨g3, 0, none⟩)), (12, .int .i64 el), (13, .bool (inB el 1 3)), (4, .pointer (some ⟨g189, 0, none⟩)), (5, .int .i64 (k : Int))] ∧ St w0 [⟨g189, 30, #[.int .i64 el, .slice (some ⟨g190, 0, none⟩) N N], true⟩, ⟨g190, 36, (trc (mkS sl N k)), true⟩, ⟨g7, 30, #[.int .i64 0, .slice none 0 0], true⟩, ⟨g3, 25, #[.int .i64 el, .slice SA sn scap, .slice RA rn rcap, .int .i64 mo], true⟩] [] wc) _ ⟨0, rfl, (by omega), (A226.slot (A226.slot (A226.slot (A226.slot (A226.slot (A226.slot (A226.slot (A226.slot (A226.slot (A226.slot (A226.slot (A226.slot (A226.slot A226.nil (v := .int .i64 0) (by kernel_rfl) (congrArg (Value.int .i64) (by omega))) (v := .pointer (some ⟨g189, 0, none⟩)) (by kernel_rfl) rfl) (v := .bool (inB el 1 3)) (by kernel_rfl) rfl) (v := .int .i64 el) (by kernel_rfl) rfl) (v := .pointer (some ⟨g3, 0, none⟩)) (by kernel_rfl) rfl) (v := .int .i64 (mx (-1) (mn 1 mo))) (by kernel_rfl) rfl) (v := .int .i64 (mx (-1) (mn 1 mo))) (by kernel_rfl) rfl) (v := .int .i64 (mn 1 mo)) (by kernel_rfl) rfl) (v := .int .i64 mo) (by kernel_rfl) rfl) (v := .pointer (some ⟨g3, 3, none⟩)) (by kernel_rfl) rfl) (v := .pointer (some ⟨g7, 0, none⟩)) (by kernel_rfl) rfl) (v := .pointer (some ⟨g3, 0, none⟩)) (by kernel_rfl) rfl) (v := .agg #[.int .i64 el, .slice SA sn scap, .slice RA rn rcap, .int .i64 mo]) (by kernel_rfl) rfl), (St.recell 1 S225 rfl (congrArg trc rfl)).sub sub_all sub_all⟩ ?_
      rintro mm ac wc ⟨k, hm229, hkk, A227, S228⟩
      refine wp_seq ?_
      refine wp_seq ?_
      refine c_cut (fun ac wc => Fr 87 ac [(38, .bool ((decide ((k : Int) < (sn : Int))) && (decide ((N : Int) > 0)))), (0, .agg #[.int .i64 el, .slice SA sn scap, .slice RA rn rcap, .int .i64 mo]), (1, .pointer (some ⟨g3, 0, none⟩)), (2, .pointer (some ⟨g7, 0, none⟩)), (7, .pointer (some ⟨g3, 3, none⟩)), (8, .int .i64 mo), (9, .int .i64 (mn 1 mo)), (10, .int .i64 (mx (-1) (mn 1 mo))), (3, .int .i64 (mx (-1) (mn 1 mo))), (11, .pointer (some ⟨g3, 0, none⟩)), (12, .int .i64 el), (13, .bool (inB el 1 3)), (4, .pointer (some ⟨g189, 0, none⟩)), (5, .int .i64 (k : Int))] ∧ St w0 [⟨g189, 30, #[.int .i64 el, .slice (some ⟨g190, 0, none⟩) N N], true⟩, ⟨g190, 36, (trc (mkS sl N k)), true⟩, ⟨g7, 30, #[.int .i64 0, .slice none 0 0], true⟩, ⟨g3, 25, #[.int .i64 el, .slice SA sn scap, .slice RA rn rcap, .int .i64 mo], true⟩] [] wc) ?_ ?_
      · refine wp_region_lit ?_
        refine s_one (.int .i64 (k : Int)) A227 S228 (g_move (by kernel_rfl)) rfl (fun ac A230 => ?_)
        refine s_one (.pointer (some ⟨g3, 1, none⟩)) A230 S228 (g_field (u := .pointer (some ⟨g3, 0, none⟩)) (by kernel_rfl) (fun _ => by kernel_rfl)) rfl (fun ac A231 => ?_)
        refine s_one (.slice SA sn scap) A231 S228 (g_load (g := g3) (off := 1) 3 (by kernel_rfl) rfl (by kernel_rfl)) rfl (fun ac A232 => ?_)
        refine s_one (.int .i64 (sn : Int)) A232 S228 (g_built (r := [(0, .slice SA sn scap)]) (by kernel_rfl) (fun _ _ _ => by kernel_rfl)) rfl (fun ac A233 => ?_)
        refine s_one (.bool (decide ((k : Int) < (sn : Int)))) A233 S228 (g_bin (u := .int .i64 (k : Int)) (k := .int .i64 (sn : Int)) (by kernel_rfl) (by kernel_rfl) (fun _ => by kernel_rfl) (fun _ => by kernel_rfl)) rfl (fun ac A234 => ?_)
        refine s_one (.bool (decide ((k : Int) < (sn : Int)))) A234 S228 (g_move (by kernel_rfl)) rfl (fun ac A235 => ?_)
        refine by_bool (decide ((k : Int) < (sn : Int))) (fun h236 => ?_) (fun h236 => ?_)
        · have p237 := of_decide_eq_true h236
          refine s_want (dj := 33) (b := (decide ((k : Int) < (sn : Int)))) A235 (by kernel_rfl) (by kernel_rfl) h236 ?_
          refine s_one (.pointer (some ⟨g189, 1, none⟩)) A235 S228 (g_field (u := .pointer (some ⟨g189, 0, none⟩)) (by kernel_rfl) (fun _ => by kernel_rfl)) rfl (fun ac A238 => ?_)
          refine s_want (dj := 33) (b := (decide ((k : Int) < (sn : Int)))) A238 (by kernel_rfl) (by kernel_rfl) h236 ?_
          refine s_one (.slice (some ⟨g190, 0, none⟩) N N) A238 S228 (g_load (g := g189) (off := 1) 0 (by kernel_rfl) rfl (by kernel_rfl)) rfl (fun ac A239 => ?_)
          refine s_want (dj := 33) (b := (decide ((k : Int) < (sn : Int)))) A239 (by kernel_rfl) (by kernel_rfl) h236 ?_
          refine s_one (.int .i64 (N : Int)) A239 S228 (g_built (r := [(0, .slice (some ⟨g190, 0, none⟩) N N)]) (by kernel_rfl) (fun _ _ _ => by kernel_rfl)) rfl (fun ac A240 => ?_)
          refine s_want (dj := 33) (b := (decide ((k : Int) < (sn : Int)))) A240 (by kernel_rfl) (by kernel_rfl) h236 ?_
          refine s_one (.bool (decide ((N : Int) > 0))) A240 S228 (g_bin (u := .int .i64 (N : Int)) (k := .int .i64 0) (by kernel_rfl) (by kernel_rfl) (fun _ => by kernel_rfl) (fun _ => by kernel_rfl)) rfl (fun ac A241 => ?_)
          refine s_one (.bool (decide ((N : Int) > 0))) A241 S228 (g_pick_t (b := (decide ((k : Int) < (sn : Int)))) (by kernel_rfl) h236 (by kernel_rfl)) rfl (fun ac A242 => ?_)
          refine wpList_nil ?_
          refine n_then ?_
          exact ⟨(A242.slot (A242.slot (A242.slot (A242.slot (A242.slot (A242.slot (A242.slot (A242.slot (A242.slot (A242.slot (A242.slot (A242.slot (A242.slot (A242.slot A242.nil (v := .int .i64 (k : Int)) (by kernel_rfl) rfl) (v := .pointer (some ⟨g189, 0, none⟩)) (by kernel_rfl) rfl) (v := .bool (inB el 1 3)) (by kernel_rfl) rfl) (v := .int .i64 el) (by kernel_rfl) rfl) (v := .pointer (some ⟨g3, 0, none⟩)) (by kernel_rfl) rfl) (v := .int .i64 (mx (-1) (mn 1 mo))) (by kernel_rfl) rfl) (v := .int .i64 (mx (-1) (mn 1 mo))) (by kernel_rfl) rfl) (v := .int .i64 (mn 1 mo)) (by kernel_rfl) rfl) (v := .int .i64 mo) (by kernel_rfl) rfl) (v := .pointer (some ⟨g3, 3, none⟩)) (by kernel_rfl) rfl) (v := .pointer (some ⟨g7, 0, none⟩)) (by kernel_rfl) rfl) (v := .pointer (some ⟨g3, 0, none⟩)) (by kernel_rfl) rfl) (v := .agg #[.int .i64 el, .slice SA sn scap, .slice RA rn rcap, .int .i64 mo]) (by kernel_rfl) rfl) (v := .bool (decide ((N : Int) > 0))) (by kernel_rfl) (congrArg Value.bool (b_and_t h236 (Eq.refl (decide ((N : Int) > 0)))).symm)), S228.sub sub_all sub_all⟩
        · have p243 := of_decide_eq_false h236
          refine s_not (dj := 33) (b := (decide ((k : Int) < (sn : Int)))) A235 (by kernel_rfl) (by kernel_rfl) h236 rfl (fun ac A244 => ?_)
          refine s_not (dj := 33) (b := (decide ((k : Int) < (sn : Int)))) A244 (by kernel_rfl) (by kernel_rfl) h236 rfl (fun ac A245 => ?_)
          refine s_not (dj := 33) (b := (decide ((k : Int) < (sn : Int)))) A245 (by kernel_rfl) (by kernel_rfl) h236 rfl (fun ac A246 => ?_)
          refine s_not (dj := 33) (b := (decide ((k : Int) < (sn : Int)))) A246 (by kernel_rfl) (by kernel_rfl) h236 rfl (fun ac A247 => ?_)
          refine s_one (.bool false) A247 S228 (g_pick_f (b := (decide ((k : Int) < (sn : Int)))) (by kernel_rfl) h236 (by kernel_rfl)) rfl (fun ac A248 => ?_)
          refine wpList_nil ?_
          refine n_then ?_
          exact ⟨(A248.slot (A248.slot (A248.slot (A248.slot (A248.slot (A248.slot (A248.slot (A248.slot (A248.slot (A248.slot (A248.slot (A248.slot (A248.slot (A248.slot A248.nil (v := .int .i64 (k : Int)) (by kernel_rfl) rfl) (v := .pointer (some ⟨g189, 0, none⟩)) (by kernel_rfl) rfl) (v := .bool (inB el 1 3)) (by kernel_rfl) rfl) (v := .int .i64 el) (by kernel_rfl) rfl) (v := .pointer (some ⟨g3, 0, none⟩)) (by kernel_rfl) rfl) (v := .int .i64 (mx (-1) (mn 1 mo))) (by kernel_rfl) rfl) (v := .int .i64 (mx (-1) (mn 1 mo))) (by kernel_rfl) rfl) (v := .int .i64 (mn 1 mo)) (by kernel_rfl) rfl) (v := .int .i64 mo) (by kernel_rfl) rfl) (v := .pointer (some ⟨g3, 3, none⟩)) (by kernel_rfl) rfl) (v := .pointer (some ⟨g7, 0, none⟩)) (by kernel_rfl) rfl) (v := .pointer (some ⟨g3, 0, none⟩)) (by kernel_rfl) rfl) (v := .agg #[.int .i64 el, .slice SA sn scap, .slice RA rn rcap, .int .i64 mo]) (by kernel_rfl) rfl) (v := .bool false) (by kernel_rfl) (congrArg Value.bool (b_af1 h236).symm)), S228.sub sub_all sub_all⟩
      · rintro ac wc ⟨A249, S250⟩
        refine n_then ?_
        refine c_ifb (b := ((decide ((k : Int) < (sn : Int))) && (decide ((N : Int) > 0)))) A249 (by kernel_rfl) (fun h251 => ?_) (fun h251 => ?_)
        · have h252 := (Bool.and_eq_true_iff.1 h251).1
          have p253 := of_decide_eq_true h252
          have h254 := (Bool.and_eq_true_iff.1 h251).2
          have p255 := of_decide_eq_true h254
          refine wp_skip ?_
          refine n_then ?_
          refine wp_seq ?_
          refine wp_block ?_
          refine r_begin (w0 := w0) (by kernel_rfl) (S250.sub (sub_keep (sub_skip sub_all)) sub_all) (fun wc T256 B257 => ?_)
          have S258 := S250.kept B257
          refine r_take 0 (.pointer (some ⟨g189, 1, none⟩)) A249 T256 (g_field (u := .pointer (some ⟨g189, 0, none⟩)) (by kernel_rfl) (fun _ => by kernel_rfl)) rfl rfl rfl (pf_block (pf_then (pf_then (pf_block (pf_then pf_body))))) (by kernel_rfl) (fun ac A259 => ?_)
          refine r_take 1 (.slice (some ⟨g190, 0, none⟩) N N) A259 T256 (g_load (g := g189) (off := 1) 0 (by kernel_rfl) rfl (by kernel_rfl)) rfl rfl rfl (pf_block (pf_then (pf_then (pf_block (pf_then pf_body))))) (by kernel_rfl) (fun ac A260 => ?_)
          refine r_take 2 (.pointer (some ⟨g3, 1, none⟩)) A260 T256 (g_field (u := .pointer (some ⟨g3, 0, none⟩)) (by kernel_rfl) (fun _ => by kernel_rfl)) rfl rfl rfl (pf_block (pf_then (pf_then (pf_block (pf_then pf_body))))) (by kernel_rfl) (fun ac A261 => ?_)
          refine r_take 3 (.slice SA sn scap) A261 T256 (g_load (g := g3) (off := 1) 2 (by kernel_rfl) rfl (by kernel_rfl)) rfl rfl rfl (pf_block (pf_then (pf_then (pf_block (pf_then pf_body))))) (by kernel_rfl) (fun ac A262 => ?_)
          refine r_take 4 (.int .i64 (k : Int)) A262 T256 (g_move (by kernel_rfl)) rfl rfl rfl (pf_block (pf_then (pf_then (pf_block (pf_then pf_body))))) (by kernel_rfl) (fun ac A263 => ?_)
          obtain ⟨ad264, rfl, _⟩ := hsr (k * 2) (by have hlen := hsn; omega)
          refine r_take 5 (.pointer (some (ad264.add (k * 2)))) A263 T256 (g_index (u := .slice (some ad264) sn scap) (k := .int .i64 (k : Int)) (by kernel_rfl) (by kernel_rfl) (ix_xs (e := 26) (bytes := 16) k (by kernel_rfl) (by omega) (by omega))) rfl rfl rfl (pf_block (pf_then (pf_then (pf_block (pf_then pf_body))))) (by kernel_rfl) (fun ac A265 => ?_)
          refine r_take 6 (.pointer (some (ad264.add (k * 2 + 0)))) A265 T256 (g_index (u := .pointer (some (ad264.add (k * 2)))) (k := .int .i64 0) (by kernel_rfl) (by kernel_rfl) (ix_xarr (len := 2) (size := 1) (y := k * 2 + 0) 0 (by kernel_rfl) (by omega) (by omega) (by omega))) rfl rfl rfl (pf_block (pf_then (pf_then (pf_block (pf_then pf_body))))) (by kernel_rfl) (fun ac A266 => ?_)
          refine r_take 7 (.int .i64 (nthI sl (k * 2 + 0))) A266 T256 (g_loadXI (l := sl) (k := k * 2 + 0) (by kernel_rfl) hsr (by have hlen := hsn; omega) (by kernel_rfl)) rfl rfl rfl (pf_block (pf_then (pf_then (pf_block (pf_then pf_body))))) (by kernel_rfl) (fun ac A267 => ?_)
          refine r_take 8 (.pointer (some ⟨g189, 1, none⟩)) A267 T256 (g_field (u := .pointer (some ⟨g189, 0, none⟩)) (by kernel_rfl) (fun _ => by kernel_rfl)) rfl rfl rfl (pf_block (pf_then (pf_then (pf_block (pf_then pf_body))))) (by kernel_rfl) (fun ac A268 => ?_)
          refine r_take 9 (.slice (some ⟨g190, 0, none⟩) N N) A268 T256 (g_load (g := g189) (off := 1) 0 (by kernel_rfl) rfl (by kernel_rfl)) rfl rfl rfl (pf_block (pf_then (pf_then (pf_block (pf_then pf_body))))) (by kernel_rfl) (fun ac A269 => ?_)
          refine r_take 10 (.int .i64 (N : Int)) A269 T256 (g_built (r := [(0, .slice (some ⟨g190, 0, none⟩) N N)]) (by kernel_rfl) (fun _ _ _ => by kernel_rfl)) rfl rfl rfl (pf_block (pf_then (pf_then (pf_block (pf_then pf_body))))) (by kernel_rfl) (fun ac A270 => ?_)
          refine r_take 12 (.pointer (some ⟨g3, 1, none⟩)) A270 T256 (g_field (u := .pointer (some ⟨g3, 0, none⟩)) (by kernel_rfl) (fun _ => by kernel_rfl)) rfl rfl rfl (pf_block (pf_then (pf_then (pf_block (pf_then pf_body))))) (by kernel_rfl) (fun ac A271 => ?_)
          refine r_take 13 (.slice (some ad264) sn scap) A271 T256 (g_load (g := g3) (off := 1) 2 (by kernel_rfl) rfl (by kernel_rfl)) rfl rfl rfl (pf_block (pf_then (pf_then (pf_block (pf_then pf_body))))) (by kernel_rfl) (fun ac A272 => ?_)
          refine r_take 14 (.int .i64 (k : Int)) A272 T256 (g_move (by kernel_rfl)) rfl rfl rfl (pf_block (pf_then (pf_then (pf_block (pf_then pf_body))))) (by kernel_rfl) (fun ac A273 => ?_)
          refine r_take 15 (.pointer (some (ad264.add (k * 2)))) A273 T256 (g_index (u := .slice (some ad264) sn scap) (k := .int .i64 (k : Int)) (by kernel_rfl) (by kernel_rfl) (ix_xs (e := 26) (bytes := 16) k (by kernel_rfl) (by omega) (by omega))) rfl rfl rfl (pf_block (pf_then (pf_then (pf_block (pf_then pf_body))))) (by kernel_rfl) (fun ac A274 => ?_)
          refine r_take 16 (.pointer (some (ad264.add (k * 2 + 1)))) A274 T256 (g_index (u := .pointer (some (ad264.add (k * 2)))) (k := .int .i64 1) (by kernel_rfl) (by kernel_rfl) (ix_xarr (len := 2) (size := 1) (y := k * 2 + 1) 1 (by kernel_rfl) (by omega) (by omega) (by omega))) rfl rfl rfl (pf_block (pf_then (pf_then (pf_block (pf_then pf_body))))) (by kernel_rfl) (fun ac A275 => ?_)
          refine r_take 17 (.int .i64 (nthI sl (k * 2 + 1))) A275 T256 (g_loadXI (l := sl) (k := k * 2 + 1) (by kernel_rfl) hsr (by have hlen := hsn; omega) (by kernel_rfl)) rfl rfl rfl (pf_block (pf_then (pf_then (pf_block (pf_then pf_body))))) (by kernel_rfl) (fun ac A276 => ?_)
          refine r_take 18 (.int .i64 (mn 4000 (nthI sl (k * 2 + 1)))) A276 T256 (g_built (r := [(0, .int .i64 4000), (0, .int .i64 (nthI sl (k * 2 + 1)))]) (by kernel_rfl) (fun ty cs w => by show (do let x ← Builtin.min_ _ ty #[.int .i64 4000, .int .i64 (nthI sl (k * 2 + 1))]; pure (Next.value x) : Sem Next).run _ w = _; rw [Sem.run_bind, run_min_mn]; rfl)) rfl rfl rfl (pf_block (pf_then (pf_then (pf_block (pf_then pf_body))))) (by kernel_rfl) (fun ac A277 => ?_)
          refine r_take 19 (.int .i64 (mx (-4000) (mn 4000 (nthI sl (k * 2 + 1))))) A277 T256 (g_built (r := [(0, .int .i64 (-4000)), (0, .int .i64 (mn 4000 (nthI sl (k * 2 + 1))))]) (by kernel_rfl) (fun ty cs w => by show (do let x ← Builtin.max_ _ ty #[.int .i64 (-4000), .int .i64 (mn 4000 (nthI sl (k * 2 + 1)))]; pure (Next.value x) : Sem Next).run _ w = _; rw [Sem.run_bind, run_max_mx]; rfl)) rfl rfl rfl (pf_block (pf_then (pf_then (pf_block (pf_then pf_body))))) (by kernel_rfl) (fun ac A278 => ?_)
          refine r_take 20 (.float .f32 (floatOfInt .f32 (mx (-4000) (mn 4000 (nthI sl (k * 2 + 1)))))) A278 T256 (g_conv (u := .int .i64 (mx (-4000) (mn 4000 (nthI sl (k * 2 + 1))))) (by kernel_rfl) (fun _ => by kernel_rfl)) rfl rfl rfl (pf_block (pf_then (pf_then (pf_block (pf_then pf_body))))) (by kernel_rfl) (fun ac A279 => ?_)
          refine r_1 (i := 11) (by kernel_rfl) ?_
          have q284 := Int.emod_nonneg (nthI sl (k * 2 + 0)) (b := (N : Int)) (by omega)
          have q285 := Int.emod_lt_of_pos (nthI sl (k * 2 + 0)) (b := (N : Int)) (by omega)
          refine rs_call (fs := #[]) (cp := #[]) (r := [(0, .int .i64 (nthI sl (k * 2 + 0))), (0, .int .i64 (N : Int))]) #[.int .i64 (nthI sl (k * 2 + 0)), .int .i64 (N : Int)] (.int .i64 ((nthI sl (k * 2 + 0)) % (N : Int))) A279 S258 (sub_keep (sub_skip sub_all)) sub_all (sameB (Mod_any (nthI sl (k * 2 + 0)) (N : Int) _ (by omega) (by omega))) Try.call49 rfl rfl (by kernel_rfl) (by kernel_rfl) (by kernel_rfl) rfl (fun ac wc A280 S281 => ?_)
          have T283 := S281.sub (sub_keep (sub_skip sub_all)) sub_all
          refine r_take 21 (.pointer (some ⟨g190, ((nthI sl (k * 2 + 0)) % (N : Int)).toNat, none⟩)) A280 T283 (g_index (u := .slice (some ⟨g190, 0, none⟩) N N) (k := .int .i64 ((nthI sl (k * 2 + 0)) % (N : Int))) (by kernel_rfl) (by kernel_rfl) (ix_sl1 (e := 36) (bytes := 4) (((nthI sl (k * 2 + 0)) % (N : Int)).toNat) (by kernel_rfl) (by omega) (by omega))) rfl rfl rfl (pf_block (pf_then (pf_then (pf_block (pf_then pf_body))))) (by kernel_rfl) (fun ac A286 => ?_)
          refine r_1 (i := 22) (by kernel_rfl) ?_
          refine rs_store (g := g190) (off := ((nthI sl (k * 2 + 0)) % (N : Int)).toNat) (v := .float .f32 (floatOfInt .f32 (mx (-4000) (mn 4000 (nthI sl (k * 2 + 1)))))) 1 (trc ((mkS sl N k).set (((nthI sl (k * 2 + 0)) % (N : Int)).toNat) (floatOfInt .f32 (mx (-4000) (mn 4000 (nthI sl (k * 2 + 1))))))) A286 S281 (sub_keep (sub_skip sub_all)) sub_all (by kernel_rfl) (by kernel_rfl) rfl ((pv_of (by kernel_rfl) rfl (by rw [trc_size, (mkS_length sl N k)]; omega)).trans (congrArg some (trc_set (mkS sl N k) (((nthI sl (k * 2 + 0)) % (N : Int)).toNat) (floatOfInt .f32 (mx (-4000) (mn 4000 (nthI sl (k * 2 + 1)))))))) rfl rfl (fun wc S288 => ?_)
          have T290 := S288.sub (sub_keep (sub_skip sub_all)) sub_all
          refine r_done (by kernel_rfl) ?_
          refine n_block ?_
          refine n_then ?_
          refine wp_region_lit ?_
          refine s_one (.int .i64 (k : Int)) A286 S288 (g_move (by kernel_rfl)) rfl (fun ac A291 => ?_)
          refine s_one (.int .i64 ((k : Int) + 1)) A291 S288 (g_bin (u := .int .i64 (k : Int)) (k := .int .i64 1) (by kernel_rfl) (by kernel_rfl) (fun _ => by kernel_rfl) (b_add (by omega))) rfl (fun ac A292 => ?_)
          refine s_one (.int .i64 ((k : Int) + 1)) A292 S288 (g_assign (by kernel_rfl)) rfl (fun ac A293 => ?_)
          refine wpList_nil ?_
          refine n_then ?_
          refine ⟨_, ⟨k + 1, rfl, (by omega), (A293.slot (A293.slot (A293.slot (A293.slot (A293.slot (A293.slot (A293.slot (A293.slot (A293.slot (A293.slot (A293.slot (A293.slot (A293.slot A293.nil (v := .int .i64 ((k : Int) + 1)) (by kernel_rfl) (congrArg (Value.int .i64) (by omega))) (v := .pointer (some ⟨g189, 0, none⟩)) (by kernel_rfl) rfl) (v := .bool (inB el 1 3)) (by kernel_rfl) rfl) (v := .int .i64 el) (by kernel_rfl) rfl) (v := .pointer (some ⟨g3, 0, none⟩)) (by kernel_rfl) rfl) (v := .int .i64 (mx (-1) (mn 1 mo))) (by kernel_rfl) rfl) (v := .int .i64 (mx (-1) (mn 1 mo))) (by kernel_rfl) rfl) (v := .int .i64 (mn 1 mo)) (by kernel_rfl) rfl) (v := .int .i64 mo) (by kernel_rfl) rfl) (v := .pointer (some ⟨g3, 3, none⟩)) (by kernel_rfl) rfl) (v := .pointer (some ⟨g7, 0, none⟩)) (by kernel_rfl) rfl) (v := .pointer (some ⟨g3, 0, none⟩)) (by kernel_rfl) rfl) (v := .agg #[.int .i64 el, .slice (some ad264) sn scap, .slice RA rn rcap, .int .i64 mo]) (by kernel_rfl) (by first | rfl | simp)), (St.recell 3 (St.recell 1 S288 rfl (congrArg trc (by rfl))) rfl (by rfl)).sub sub_all sub_all⟩, ?_⟩
          omega
        · refine wp_exit ?_
          refine x_then ?_
          refine x_then ?_
          refine x_hit ?_
          refine n_then ?_
          refine wp_seq ?_
          refine wp_seq ?_
          refine wp_region_lit ?_
          refine s_one (.int .i64 0) A249 S250 (g_assign (by kernel_rfl)) rfl (fun ac A294 => ?_)
          refine wpList_nil ?_
          refine n_then ?_
          refine wp_block ?_
          refine c_loopN (fun mm ac wc => ∃ (j : Nat), mm = rn - j ∧ (j ≤ rn) ∧ Fr 87 ac [(0, .agg #[.int .i64 el, .slice SA sn scap, .slice RA rn rcap, .int .i64 mo]), (1, .pointer (some ⟨g3, 0, none⟩)), (2, .pointer (some ⟨g7, 0, none⟩)), (7, .pointer (some ⟨g3, 3, none⟩)), (8, .int .i64 mo), (9, .int .i64 (mn 1 mo)), (10, .int .i64 (mx (-1) (mn 1 mo))), (3, .int .i64 (mx (-1) (mn 1 mo))), (11, .pointer (some ⟨g3, 0, none⟩)), (12, .int .i64 el), (13, .bool (inB el 1 3)), (4, .pointer (some ⟨g189, 0, none⟩)), (5, .int .i64 (k : Int)), (38, .bool ((decide ((k : Int) < (sn : Int))) && (decide ((N : Int) > 0)))), (6, .int .i64 (j : Int))] ∧ St w0 [⟨g189, 30, #[.int .i64 el, .slice (some ⟨g190, 0, none⟩) N N], true⟩, ⟨g190, 36, (trc (mkR rl (mkS sl N sn) j)), true⟩, ⟨g7, 30, #[.int .i64 0, .slice none 0 0], true⟩, ⟨g3, 25, #[.int .i64 el, .slice SA sn scap, .slice RA rn rcap, .int .i64 mo], true⟩] [] wc) _ ⟨0, rfl, (by omega), (A294.slot (A294.slot (A294.slot (A294.slot (A294.slot (A294.slot (A294.slot (A294.slot (A294.slot (A294.slot (A294.slot (A294.slot (A294.slot (A294.slot (A294.slot A294.nil (v := .int .i64 0) (by kernel_rfl) (congrArg (Value.int .i64) (by omega))) (v := .bool ((decide ((k : Int) < (sn : Int))) && (decide ((N : Int) > 0)))) (by kernel_rfl) rfl) (v := .int .i64 (k : Int)) (by kernel_rfl) rfl) (v := .pointer (some ⟨g189, 0, none⟩)) (by kernel_rfl) rfl) (v := .bool (inB el 1 3)) (by kernel_rfl) rfl) (v := .int .i64 el) (by kernel_rfl) rfl) (v := .pointer (some ⟨g3, 0, none⟩)) (by kernel_rfl) rfl) (v := .int .i64 (mx (-1) (mn 1 mo))) (by kernel_rfl) rfl) (v := .int .i64 (mx (-1) (mn 1 mo))) (by kernel_rfl) rfl) (v := .int .i64 (mn 1 mo)) (by kernel_rfl) rfl) (v := .int .i64 mo) (by kernel_rfl) rfl) (v := .pointer (some ⟨g3, 3, none⟩)) (by kernel_rfl) rfl) (v := .pointer (some ⟨g7, 0, none⟩)) (by kernel_rfl) rfl) (v := .pointer (some ⟨g3, 0, none⟩)) (by kernel_rfl) rfl) (v := .agg #[.int .i64 el, .slice SA sn scap, .slice RA rn rcap, .int .i64 mo]) (by kernel_rfl) rfl), (St.recell 1 S250 rfl (congrArg trc (mkS_end hkk h251))).sub sub_all sub_all⟩ ?_
          rintro mm ac wc ⟨j, hm297, hkj, A295, S296⟩
          refine wp_seq ?_
          refine wp_seq ?_
          refine c_cut (fun ac wc => Fr 87 ac [(74, .bool ((decide ((j : Int) < (rn : Int))) && (decide ((j : Int) < (N : Int))))), (0, .agg #[.int .i64 el, .slice SA sn scap, .slice RA rn rcap, .int .i64 mo]), (1, .pointer (some ⟨g3, 0, none⟩)), (2, .pointer (some ⟨g7, 0, none⟩)), (7, .pointer (some ⟨g3, 3, none⟩)), (8, .int .i64 mo), (9, .int .i64 (mn 1 mo)), (10, .int .i64 (mx (-1) (mn 1 mo))), (3, .int .i64 (mx (-1) (mn 1 mo))), (11, .pointer (some ⟨g3, 0, none⟩)), (12, .int .i64 el), (13, .bool (inB el 1 3)), (4, .pointer (some ⟨g189, 0, none⟩)), (5, .int .i64 (k : Int)), (38, .bool ((decide ((k : Int) < (sn : Int))) && (decide ((N : Int) > 0)))), (6, .int .i64 (j : Int))] ∧ St w0 [⟨g189, 30, #[.int .i64 el, .slice (some ⟨g190, 0, none⟩) N N], true⟩, ⟨g190, 36, (trc (mkR rl (mkS sl N sn) j)), true⟩, ⟨g7, 30, #[.int .i64 0, .slice none 0 0], true⟩, ⟨g3, 25, #[.int .i64 el, .slice SA sn scap, .slice RA rn rcap, .int .i64 mo], true⟩] [] wc) ?_ ?_
          · refine wp_region_lit ?_
            refine s_one (.int .i64 (j : Int)) A295 S296 (g_move (by kernel_rfl)) rfl (fun ac A298 => ?_)
            refine s_one (.pointer (some ⟨g3, 2, none⟩)) A298 S296 (g_field (u := .pointer (some ⟨g3, 0, none⟩)) (by kernel_rfl) (fun _ => by kernel_rfl)) rfl (fun ac A299 => ?_)
            refine s_one (.slice RA rn rcap) A299 S296 (g_load (g := g3) (off := 2) 3 (by kernel_rfl) rfl (by kernel_rfl)) rfl (fun ac A300 => ?_)
            refine s_one (.int .i64 (rn : Int)) A300 S296 (g_built (r := [(0, .slice RA rn rcap)]) (by kernel_rfl) (fun _ _ _ => by kernel_rfl)) rfl (fun ac A301 => ?_)
            refine s_one (.bool (decide ((j : Int) < (rn : Int)))) A301 S296 (g_bin (u := .int .i64 (j : Int)) (k := .int .i64 (rn : Int)) (by kernel_rfl) (by kernel_rfl) (fun _ => by kernel_rfl) (fun _ => by kernel_rfl)) rfl (fun ac A302 => ?_)
            refine s_one (.bool (decide ((j : Int) < (rn : Int)))) A302 S296 (g_move (by kernel_rfl)) rfl (fun ac A303 => ?_)
            refine by_bool (decide ((j : Int) < (rn : Int))) (fun h304 => ?_) (fun h304 => ?_)
            · have p305 := of_decide_eq_true h304
              refine s_want (dj := 68) (b := (decide ((j : Int) < (rn : Int)))) A303 (by kernel_rfl) (by kernel_rfl) h304 ?_
              refine s_one (.int .i64 (j : Int)) A303 S296 (g_move (by kernel_rfl)) rfl (fun ac A306 => ?_)
              refine s_want (dj := 68) (b := (decide ((j : Int) < (rn : Int)))) A306 (by kernel_rfl) (by kernel_rfl) h304 ?_
              refine s_one (.pointer (some ⟨g189, 1, none⟩)) A306 S296 (g_field (u := .pointer (some ⟨g189, 0, none⟩)) (by kernel_rfl) (fun _ => by kernel_rfl)) rfl (fun ac A307 => ?_)
              refine s_want (dj := 68) (b := (decide ((j : Int) < (rn : Int)))) A307 (by kernel_rfl) (by kernel_rfl) h304 ?_
              refine s_one (.slice (some ⟨g190, 0, none⟩) N N) A307 S296 (g_load (g := g189) (off := 1) 0 (by kernel_rfl) rfl (by kernel_rfl)) rfl (fun ac A308 => ?_)
              refine s_want (dj := 68) (b := (decide ((j : Int) < (rn : Int)))) A308 (by kernel_rfl) (by kernel_rfl) h304 ?_
              refine s_one (.int .i64 (N : Int)) A308 S296 (g_built (r := [(0, .slice (some ⟨g190, 0, none⟩) N N)]) (by kernel_rfl) (fun _ _ _ => by kernel_rfl)) rfl (fun ac A309 => ?_)
              refine s_want (dj := 68) (b := (decide ((j : Int) < (rn : Int)))) A309 (by kernel_rfl) (by kernel_rfl) h304 ?_
              refine s_one (.bool (decide ((j : Int) < (N : Int)))) A309 S296 (g_bin (u := .int .i64 (j : Int)) (k := .int .i64 (N : Int)) (by kernel_rfl) (by kernel_rfl) (fun _ => by kernel_rfl) (fun _ => by kernel_rfl)) rfl (fun ac A310 => ?_)
              refine s_one (.bool (decide ((j : Int) < (N : Int)))) A310 S296 (g_pick_t (b := (decide ((j : Int) < (rn : Int)))) (by kernel_rfl) h304 (by kernel_rfl)) rfl (fun ac A311 => ?_)
              refine wpList_nil ?_
              refine n_then ?_
              exact ⟨(A311.slot (A311.slot (A311.slot (A311.slot (A311.slot (A311.slot (A311.slot (A311.slot (A311.slot (A311.slot (A311.slot (A311.slot (A311.slot (A311.slot (A311.slot (A311.slot A311.nil (v := .int .i64 (j : Int)) (by kernel_rfl) rfl) (v := .bool ((decide ((k : Int) < (sn : Int))) && (decide ((N : Int) > 0)))) (by kernel_rfl) rfl) (v := .int .i64 (k : Int)) (by kernel_rfl) rfl) (v := .pointer (some ⟨g189, 0, none⟩)) (by kernel_rfl) rfl) (v := .bool (inB el 1 3)) (by kernel_rfl) rfl) (v := .int .i64 el) (by kernel_rfl) rfl) (v := .pointer (some ⟨g3, 0, none⟩)) (by kernel_rfl) rfl) (v := .int .i64 (mx (-1) (mn 1 mo))) (by kernel_rfl) rfl) (v := .int .i64 (mx (-1) (mn 1 mo))) (by kernel_rfl) rfl) (v := .int .i64 (mn 1 mo)) (by kernel_rfl) rfl) (v := .int .i64 mo) (by kernel_rfl) rfl) (v := .pointer (some ⟨g3, 3, none⟩)) (by kernel_rfl) rfl) (v := .pointer (some ⟨g7, 0, none⟩)) (by kernel_rfl) rfl) (v := .pointer (some ⟨g3, 0, none⟩)) (by kernel_rfl) rfl) (v := .agg #[.int .i64 el, .slice SA sn scap, .slice RA rn rcap, .int .i64 mo]) (by kernel_rfl) rfl) (v := .bool (decide ((j : Int) < (N : Int)))) (by kernel_rfl) (congrArg Value.bool (b_and_t h304 (Eq.refl (decide ((j : Int) < (N : Int))))).symm)), S296.sub sub_all sub_all⟩
            · have p312 := of_decide_eq_false h304
              refine s_not (dj := 68) (b := (decide ((j : Int) < (rn : Int)))) A303 (by kernel_rfl) (by kernel_rfl) h304 rfl (fun ac A313 => ?_)
              refine s_not (dj := 68) (b := (decide ((j : Int) < (rn : Int)))) A313 (by kernel_rfl) (by kernel_rfl) h304 rfl (fun ac A314 => ?_)
              refine s_not (dj := 68) (b := (decide ((j : Int) < (rn : Int)))) A314 (by kernel_rfl) (by kernel_rfl) h304 rfl (fun ac A315 => ?_)
              refine s_not (dj := 68) (b := (decide ((j : Int) < (rn : Int)))) A315 (by kernel_rfl) (by kernel_rfl) h304 rfl (fun ac A316 => ?_)
              refine s_not (dj := 68) (b := (decide ((j : Int) < (rn : Int)))) A316 (by kernel_rfl) (by kernel_rfl) h304 rfl (fun ac A317 => ?_)
              refine s_one (.bool false) A317 S296 (g_pick_f (b := (decide ((j : Int) < (rn : Int)))) (by kernel_rfl) h304 (by kernel_rfl)) rfl (fun ac A318 => ?_)
              refine wpList_nil ?_
              refine n_then ?_
              exact ⟨(A318.slot (A318.slot (A318.slot (A318.slot (A318.slot (A318.slot (A318.slot (A318.slot (A318.slot (A318.slot (A318.slot (A318.slot (A318.slot (A318.slot (A318.slot (A318.slot A318.nil (v := .int .i64 (j : Int)) (by kernel_rfl) rfl) (v := .bool ((decide ((k : Int) < (sn : Int))) && (decide ((N : Int) > 0)))) (by kernel_rfl) rfl) (v := .int .i64 (k : Int)) (by kernel_rfl) rfl) (v := .pointer (some ⟨g189, 0, none⟩)) (by kernel_rfl) rfl) (v := .bool (inB el 1 3)) (by kernel_rfl) rfl) (v := .int .i64 el) (by kernel_rfl) rfl) (v := .pointer (some ⟨g3, 0, none⟩)) (by kernel_rfl) rfl) (v := .int .i64 (mx (-1) (mn 1 mo))) (by kernel_rfl) rfl) (v := .int .i64 (mx (-1) (mn 1 mo))) (by kernel_rfl) rfl) (v := .int .i64 (mn 1 mo)) (by kernel_rfl) rfl) (v := .int .i64 mo) (by kernel_rfl) rfl) (v := .pointer (some ⟨g3, 3, none⟩)) (by kernel_rfl) rfl) (v := .pointer (some ⟨g7, 0, none⟩)) (by kernel_rfl) rfl) (v := .pointer (some ⟨g3, 0, none⟩)) (by kernel_rfl) rfl) (v := .agg #[.int .i64 el, .slice SA sn scap, .slice RA rn rcap, .int .i64 mo]) (by kernel_rfl) rfl) (v := .bool false) (by kernel_rfl) (congrArg Value.bool (b_af1 h304).symm)), S296.sub sub_all sub_all⟩
          · rintro ac wc ⟨A319, S320⟩
            refine n_then ?_
            refine c_ifb (b := ((decide ((j : Int) < (rn : Int))) && (decide ((j : Int) < (N : Int))))) A319 (by kernel_rfl) (fun h321 => ?_) (fun h321 => ?_)
            · have h322 := (Bool.and_eq_true_iff.1 h321).1
              have p323 := of_decide_eq_true h322
              have h324 := (Bool.and_eq_true_iff.1 h321).2
              have p325 := of_decide_eq_true h324
              refine wp_skip ?_
              refine n_then ?_
              refine wp_seq ?_
              refine wp_block ?_
              refine r_begin (w0 := w0) (by kernel_rfl) (S320.sub (sub_keep (sub_skip sub_all)) sub_all) (fun wc T326 B327 => ?_)
              have S328 := S320.kept B327
              refine r_take 0 (.pointer (some ⟨g189, 1, none⟩)) A319 T326 (g_field (u := .pointer (some ⟨g189, 0, none⟩)) (by kernel_rfl) (fun _ => by kernel_rfl)) rfl rfl rfl (pf_block (pf_then (pf_then (pf_block (pf_then pf_body))))) (by kernel_rfl) (fun ac A329 => ?_)
              refine r_take 1 (.slice (some ⟨g190, 0, none⟩) N N) A329 T326 (g_load (g := g189) (off := 1) 0 (by kernel_rfl) rfl (by kernel_rfl)) rfl rfl rfl (pf_block (pf_then (pf_then (pf_block (pf_then pf_body))))) (by kernel_rfl) (fun ac A330 => ?_)
              refine r_take 2 (.int .i64 (j : Int)) A330 T326 (g_move (by kernel_rfl)) rfl rfl rfl (pf_block (pf_then (pf_then (pf_block (pf_then pf_body))))) (by kernel_rfl) (fun ac A331 => ?_)
              refine r_take 3 (.pointer (some ⟨g3, 2, none⟩)) A331 T326 (g_field (u := .pointer (some ⟨g3, 0, none⟩)) (by kernel_rfl) (fun _ => by kernel_rfl)) rfl rfl rfl (pf_block (pf_then (pf_then (pf_block (pf_then pf_body))))) (by kernel_rfl) (fun ac A332 => ?_)
              refine r_take 4 (.slice RA rn rcap) A332 T326 (g_load (g := g3) (off := 2) 2 (by kernel_rfl) rfl (by kernel_rfl)) rfl rfl rfl (pf_block (pf_then (pf_then (pf_block (pf_then pf_body))))) (by kernel_rfl) (fun ac A333 => ?_)
              refine r_take 5 (.int .i64 (j : Int)) A333 T326 (g_move (by kernel_rfl)) rfl rfl rfl (pf_block (pf_then (pf_then (pf_block (pf_then pf_body))))) (by kernel_rfl) (fun ac A334 => ?_)
              obtain ⟨ad335, rfl, _⟩ := hrr (j) (by have hlen := hrn; omega)
              refine r_take 6 (.pointer (some (ad335.add j))) A334 T326 (g_index (u := .slice (some ad335) rn rcap) (k := .int .i64 (j : Int)) (by kernel_rfl) (by kernel_rfl) (ix_x (e := 36) (bytes := 4) j (by kernel_rfl) (by omega) (by omega))) rfl rfl rfl (pf_block (pf_then (pf_then (pf_block (pf_then pf_body))))) (by kernel_rfl) (fun ac A336 => ?_)
              refine r_take 7 (.float .f32 (nth rl j)) A336 T326 (g_loadXF (l := rl) (k := j) (by kernel_rfl) hrr (by have hlen := hrn; omega) (by kernel_rfl)) rfl rfl rfl (pf_block (pf_then (pf_then (pf_block (pf_then pf_body))))) (by kernel_rfl) (fun ac A337 => ?_)
              refine r_take 8 (.pointer (some ⟨g190, j, none⟩)) A337 T326 (g_index (u := .slice (some ⟨g190, 0, none⟩) N N) (k := .int .i64 (j : Int)) (by kernel_rfl) (by kernel_rfl) (ix_sl1 (e := 36) (bytes := 4) j (by kernel_rfl) (by omega) (by omega))) rfl rfl rfl (pf_block (pf_then (pf_then (pf_block (pf_then pf_body))))) (by kernel_rfl) (fun ac A338 => ?_)
              refine r_1 (i := 9) (by kernel_rfl) ?_
              refine rs_store (g := g190) (off := j) (v := .float .f32 (nth rl j)) 1 (trc ((mkR rl (mkS sl N sn) j).set j (nth rl j))) A338 S328 (sub_keep (sub_skip sub_all)) sub_all (by kernel_rfl) (by kernel_rfl) rfl ((pv_of (by kernel_rfl) rfl (by rw [trc_size, ((mkR_length _ _ _).trans (mkS_length sl N sn))]; omega)).trans (congrArg some (trc_set (mkR rl (mkS sl N sn) j) j (nth rl j)))) rfl rfl (fun wc S340 => ?_)
              have T342 := S340.sub (sub_keep (sub_skip sub_all)) sub_all
              refine r_done (by kernel_rfl) ?_
              refine n_block ?_
              refine n_then ?_
              refine wp_region_lit ?_
              refine s_one (.int .i64 (j : Int)) A338 S340 (g_move (by kernel_rfl)) rfl (fun ac A343 => ?_)
              refine s_one (.int .i64 ((j : Int) + 1)) A343 S340 (g_bin (u := .int .i64 (j : Int)) (k := .int .i64 1) (by kernel_rfl) (by kernel_rfl) (fun _ => by kernel_rfl) (b_add (by omega))) rfl (fun ac A344 => ?_)
              refine s_one (.int .i64 ((j : Int) + 1)) A344 S340 (g_assign (by kernel_rfl)) rfl (fun ac A345 => ?_)
              refine wpList_nil ?_
              refine n_then ?_
              refine ⟨_, ⟨j + 1, rfl, (by omega), (A345.slot (A345.slot (A345.slot (A345.slot (A345.slot (A345.slot (A345.slot (A345.slot (A345.slot (A345.slot (A345.slot (A345.slot (A345.slot (A345.slot (A345.slot A345.nil (v := .int .i64 ((j : Int) + 1)) (by kernel_rfl) (congrArg (Value.int .i64) (by omega))) (v := .bool ((decide ((k : Int) < (sn : Int))) && (decide ((N : Int) > 0)))) (by kernel_rfl) rfl) (v := .int .i64 (k : Int)) (by kernel_rfl) rfl) (v := .pointer (some ⟨g189, 0, none⟩)) (by kernel_rfl) rfl) (v := .bool (inB el 1 3)) (by kernel_rfl) rfl) (v := .int .i64 el) (by kernel_rfl) rfl) (v := .pointer (some ⟨g3, 0, none⟩)) (by kernel_rfl) rfl) (v := .int .i64 (mx (-1) (mn 1 mo))) (by kernel_rfl) rfl) (v := .int .i64 (mx (-1) (mn 1 mo))) (by kernel_rfl) rfl) (v := .int .i64 (mn 1 mo)) (by kernel_rfl) rfl) (v := .int .i64 mo) (by kernel_rfl) rfl) (v := .pointer (some ⟨g3, 3, none⟩)) (by kernel_rfl) rfl) (v := .pointer (some ⟨g7, 0, none⟩)) (by kernel_rfl) rfl) (v := .pointer (some ⟨g3, 0, none⟩)) (by kernel_rfl) rfl) (v := .agg #[.int .i64 el, .slice SA sn scap, .slice (some ad335) rn rcap, .int .i64 mo]) (by kernel_rfl) (by first | rfl | simp)), (St.recell 3 (St.recell 1 S340 rfl (congrArg trc (by rfl))) rfl (by rfl)).sub sub_all sub_all⟩, ?_⟩
              omega
            · refine wp_exit ?_
              refine x_then ?_
              refine x_then ?_
              refine x_hit ?_
              refine n_then ?_
              refine wp_seq ?_
              refine wp_region_lit ?_
              refine s_one (.agg #[.int .i64 el, .slice (some ⟨g190, 0, none⟩) N N]) A319 S320 (g_load (g := g189) (off := 0) 0 (by kernel_rfl) rfl (by kernel_rfl)) rfl (fun ac A346 => ?_)
              refine s_store (g := g7) (off := 0) (v := .agg #[.int .i64 el, .slice (some ⟨g190, 0, none⟩) N N]) 2 (#[.int .i64 el, .slice (some ⟨g190, 0, none⟩) N N]) A346 S320 (by kernel_rfl) (by kernel_rfl) rfl (by kernel_rfl) (fun wc S348 => ?_)
              refine wpList_nil ?_
              refine n_then ?_
              refine wp_ret ?_
              have hz : (mkR rl (mkS sl N sn) j).length = N := (mkR_length _ _ _).trans (mkS_length _ _ _)
              have SC : St w0 [⟨g189, 30, #[.int .i64 el, .slice (some ⟨g190, 0, none⟩) N N], true⟩, ⟨g7, 30, #[.int .i64 el, .slice (some ⟨g190, 0, none⟩) N N], true⟩, ⟨g3, 25, #[.int .i64 el, .slice SA sn scap, .slice RA rn rcap, .int .i64 mo], true⟩] [⟨.slice (some ⟨g190, 0, none⟩) N N, 36, 1, N, (rowF (mkR rl (mkS sl N sn) j))⟩] _ := St.closeRow S348 1 rfl (by rw [trc_size, Nat.mul_one]; exact hz) (Nat.le_refl _) (by unfold maxLen; omega) (by rw [trc_toList, Nat.mul_one]; exact List.take_of_length_le (by simp [rowF, hz]))
              refine fin1 (.agg #[.int .i64 el, .slice (some ⟨g190, 0, none⟩) N N]) Try.results13 A346 SC (rv_cell (g := g7) (off := 0) 1 (by kernel_rfl) rfl (by kernel_rfl)) ?_
              have ow := SC.row 0 rfl
              have eN : mkN el mo = N := mkN_n h18 hN
              have eW : mkW el sn sl rn rl mo = mkR rl (mkS sl N sn) j := by unfold mkW; rw [eN]; exact (mkR_end (mkS_length _ _ _) hkj h321).symm
              exact ⟨_, rfl, SC.kp, by rw [eN, eW]; exact ow⟩

end Go.Proofs.Ytcijkniijomcjaa
/-! Slices of matrices that are made, and the slices of matrices that come of them. -/
namespace Go.Proofs.Ytcijkniijomcjaa
open Go.RowKit Go.Cpl
/-- How a matrix is made. -/
structure Md where
  el : Int
  SA : Option Addr
  sn : Nat
  sc : Nat
  sl : List Int
  RA : Option Addr
  rn : Nat
  rc : Nat
  rl : List Nat
  mo : Int
def mdC (m : Md) : List Value := [.int .i64 m.el, .slice m.SA m.sn m.sc, .slice m.RA m.rn m.rc, .int .i64 m.mo]
def mdX (ds : List Md) : List Value := ds.flatMap mdC
def mdK (ds : List Md) (k : Nat) : Md := ds.getD k ⟨0, none, 0, 0, [], none, 0, 0, [], 0⟩
structure MdOk (w : World) (m : Md) : Prop where
  hs : m.sl.length = m.sn * 2
  rs : IReads w m.SA m.sl
  hr : m.rl.length = m.rn
  rr : FReads w m.RA m.rl
  lo : -9223372036854775808 ≤ m.el
  hi : m.el ≤ 9223372036854775807
theorem MdOk.kept {w w' : World} {m : Md} (h : MdOk w m) (k : Kp w w') : MdOk w' m := ⟨h.hs, h.rs.kept k, h.hr, h.rr.kept k, h.lo, h.hi⟩
def MdReads (w : World) (A : Option Addr) (ds : List Md) : Prop := VReads w A (mdX ds) ∧ ∀ k, k < ds.length → MdOk w (mdK ds k)
theorem mdX_get {ds : List Md} {k : Nat} (hk : k < ds.length) : ∀ j x, (mdC (mdK ds k))[j]? = some x → (mdX ds)[k * 4 + j]? = some x := by
  induction ds generalizing k with
  | nil => exact absurd hk (Nat.not_lt_zero _)
  | cons m ds ih =>
    intro j x hx
    have hj : j < 4 := by have := (List.getElem?_eq_some_iff.1 hx).1; simpa [mdC] using this
    have e : mdX (m :: ds) = mdC m ++ mdX ds := rfl
    rw [e]
    cases k with
    | zero =>
      rw [List.getElem?_append_left (by simp [mdC]; omega), Nat.zero_mul, Nat.zero_add]
      exact hx
    | succ k =>
      rw [List.getElem?_append_right (by simp [mdC]; omega), show (k + 1) * 4 + j - (mdC m).length = k * 4 + j by simp [mdC]; omega]
      exact ih (by rw [List.length_cons] at hk; omega) j x hx
theorem md_at {w : World} {A : Option Addr} {ds : List Md} {k : Nat} (h : MdReads w A ds) (hk : k < ds.length) : ∃ ad, A = some ad ∧ ∀ j x, (mdC (mdK ds k))[j]? = some x → w.cell? ((ad.add (k * 4)).add j) = some x := by
  obtain ⟨ad, rfl, _⟩ := h.1 (k * 4 + 0) (.int .i64 (mdK ds k).el) (mdX_get hk 0 _ rfl)
  refine ⟨ad, rfl, fun j x hx => ?_⟩
  obtain ⟨ad', e, hc⟩ := h.1 (k * 4 + j) x (mdX_get hk j x hx)
  cases e
  rw [Addr.add_add]; exact hc
/-- The words of a made matrix. -/
def mdW (m : Md) : List Nat := mkW m.el m.sn m.sl m.rn m.rl m.mo
def mdN (m : Md) : Nat := mkN m.el m.mo
theorem mdW_length (m : Md) : (mdW m).length = mdN m := mkW_length _ _ _ _ _ _
/-- The cells of a slice of such matrices, and their slices, the last one first. -/
def mkX (ds : List Md) : List Value → List Value
  | [] => []
  | v :: vs => mkX ds vs ++ [.int .i64 (mdK ds vs.length).el, v]
def mkM (e : TypeId) (ds : List Md) : List Value → List Rw
  | [] => []
  | v :: vs => ⟨v, e, 1, mdN (mdK ds vs.length), rowF (mdW (mdK ds vs.length))⟩ :: mkM e ds vs
theorem mkX_length (ds : List Md) (vs : List Value) : (mkX ds vs).length = vs.length * 2 := by
  induction vs with
  | nil => rfl
  | cons v vs ih => simp only [mkX, List.length_append, List.length_cons, List.length_nil, ih]; omega
theorem mkM_mem {e : TypeId} {ds : List Md} {vs : List Value} {i : Nat} (hi : i < vs.length) : (⟨vI vs i, e, 1, mdN (mdK ds i), rowF (mdW (mdK ds i))⟩ : Rw) ∈ mkM e ds vs := by
  induction vs with
  | nil => exact absurd hi (Nat.not_lt_zero _)
  | cons v vs ih =>
    rcases Nat.lt_or_ge i vs.length with q | q
    · rw [vI_old v q]; exact List.mem_cons_of_mem _ (ih q)
    · have e : i = vs.length := by rw [List.length_cons] at hi; omega
      subst e
      rw [vI_new]; exact List.mem_cons_self ..
theorem mtK_app {ms : List Mt} {m : Mt} {k : Nat} (h : k < ms.length) : mtK (ms ++ [m]) k = mtK ms k := by
  simp [mtK, List.getD_eq_getElem?_getD, List.getElem?_append_left h]
theorem mtK_last (ms : List Mt) (m : Mt) : mtK (ms ++ [m]) ms.length = m := by
  simp [mtK, List.getD_eq_getElem?_getD]
/-- The slice is a slice of matrices. -/
theorem mk_reads {w : World} {base : Nat} {e : TypeId} {ds : List Md} (hd : ∀ k, -9223372036854775808 ≤ (mdK ds k).el ∧ (mdK ds k).el ≤ 9223372036854775807) : ∀ (vs : List Value), (∀ i, i < vs.length → w.ownsRow base e 1 (vI vs i) (mdN (mdK ds i)) (rowF (mdW (mdK ds i)))) →
    ∃ ms : List Mt, ms.length = vs.length ∧ mtX ms = mkX ds vs ∧ ∀ i, i < vs.length → MtOk w (mtK ms i) ∧ (mtK ms i).el = (mdK ds i).el ∧ (mtK ms i).xs = mdW (mdK ds i) := by
  intro vs
  induction vs with
  | nil => intro _; exact ⟨[], rfl, rfl, fun i hi => absurd hi (Nat.not_lt_zero _)⟩
  | cons v vs ih =>
    intro h
    obtain ⟨ms, h1, h2, h3⟩ := ih fun i hi => by have := h i (by rw [List.length_cons]; omega); rw [vI_old v hi] at this; exact this
    have hv := h vs.length (by rw [List.length_cons]; omega)
    rw [vI_new] at hv
    obtain ⟨hl, B, c, rfl, hc, hr⟩ := rowF_reads hv
    refine ⟨ms ++ [⟨(mdK ds vs.length).el, B, mdN (mdK ds vs.length), c, mdW (mdK ds vs.length)⟩], by simp [h1], ?_, fun i hi => ?_⟩
    · unfold mtX at h2 ⊢
      rw [List.flatMap_append, h2]; rfl
    · rcases Nat.lt_or_ge i vs.length with q | q
      · rw [mtK_app (by omega)]; exact h3 i q
      · have ei : i = vs.length := by rw [List.length_cons] at hi; omega
        subst ei
        rw [← h1, mtK_last, h1]
        have hn := mkN_le (mdK ds vs.length).el (mdK ds vs.length).mo
        exact ⟨⟨hl, hc, hr, by unfold mdN; simp only; omega, (hd _).1, (hd _).2⟩, rfl, rfl⟩
/-- What is answered depends on the elements and on the words alone. -/
def bare (m : Mt) : Mt := ⟨m.el, none, 0, 0, m.xs⟩
theorem mtK_bare (ms : List Mt) (k : Nat) : mtK (ms.map bare) k = bare (mtK ms k) := by
  simp only [mtK, List.getD_eq_getElem?_getD, List.getElem?_map]
  cases ms[k]? <;> rfl
theorem avF_bare (e0 : Int) (ms : List Mt) : avF e0 (ms.map bare) = avF e0 ms := by
  induction ms with
  | nil => rfl
  | cons m ms ih => simp only [List.map_cons, avF, ih]; rfl
theorem sumK_bare (ms : List Mt) (p k : Nat) : sumK (ms.map bare) p k = sumK ms p k := by
  induction k with
  | zero => rfl
  | succ k ih => simp only [sumK, ih, mtK_bare]; rfl
theorem avZ_bare (ms : List Mt) : avZ (ms.map bare) = avZ ms := by
  unfold avZ
  rw [List.length_map, avF_bare, mtK_bare]; rfl
theorem av_bare (ms : List Mt) : avE (ms.map bare) = avE ms ∧ avW (ms.map bare) = avW ms := by
  unfold avE avW avL
  rw [avZ_bare, mtK_bare, List.length_map]
  simp only [sumK_bare]
  exact ⟨rfl, rfl⟩
theorem bare_eq {ms ns : List Mt} (hl : ms.length = ns.length) (h : ∀ i, i < ms.length → (mtK ms i).el = (mtK ns i).el ∧ (mtK ms i).xs = (mtK ns i).xs) : ms.map bare = ns.map bare := by
  apply List.ext_getElem
  · simp [hl]
  · intro i h1 h2
    have hi : i < ms.length := by simpa using h1
    have h3 := h i hi
    have e1 : mtK ms i = ms[i] := by simp [mtK, List.getD_eq_getElem?_getD, List.getElem?_eq_getElem hi]
    have e2 : mtK ns i = ns[i]'(by omega) := by simp [mtK, List.getD_eq_getElem?_getD, List.getElem?_eq_getElem (show i < ns.length by omega)]
    rw [e1, e2] at h3
    simp only [List.getElem_map, bare, h3.1, h3.2]
theorem av_same {ms ns : List Mt} (hl : ms.length = ns.length) (h : ∀ i, i < ms.length → (mtK ms i).el = (mtK ns i).el ∧ (mtK ms i).xs = (mtK ns i).xs) : avZ ms = avZ ns ∧ avE ms = avE ns ∧ avW ms = avW ns := by
  have e := bare_eq hl h
  exact ⟨by rw [← avZ_bare, e, avZ_bare], by rw [← (av_bare ms).1, e, (av_bare ns).1], by rw [← (av_bare ms).2, e, (av_bare ns).2]⟩
/-- The mean of one matrix. -/
theorem avZ_one (m : Mt) : avZ [m] = (mxC m.el m.xs).2 := by
  show (if (mxC m.el m.xs).2 = 0 then (if m.el = m.el then 0 else 13) else (mxC m.el m.xs).2) = _
  rw [if_pos (rfl : m.el = m.el)]
  split
  · rename_i h; exact h.symm
  · rfl
theorem rnd_one (s : Int) : rndI s 1 = s := by unfold rndI; omega
theorem avW_one {m : Mt} (h : (mxC m.el m.xs).2 = 0) : avW [m] = fw (mi m.xs) := by
  rw [(av_ok ((avZ_one m).trans h)).2]
  congr 1
  refine list_extI (by rw [avL_length, mi_length]; rfl) fun j hj => ?_
  rw [avL_length] at hj
  unfold avL
  rw [nthI_map _ hj]
  show rndI (0 + nthI (mi m.xs) j) 1 = _
  rw [rnd_one]; omega
theorem avE_one {m : Mt} (h : (mxC m.el m.xs).2 = 0) : avE [m] = m.el := (av_ok ((avZ_one m).trans h)).1
theorem perm5 {x y a b : Rw} (s t : List Rw) : (x :: y :: a :: b :: (s ++ t)).Perm (a :: b :: y :: (s ++ x :: t)) := by
  have h1 : (a :: b :: y :: (s ++ x :: t)).Perm (a :: b :: y :: x :: (s ++ t)) := ((List.perm_middle.cons y).cons b).cons a
  have h2 : ([x, y, a, b] : List Rw).Perm [a, b, y, x] := (List.reverse_perm [x, y, a, b]).symm.trans (List.Perm.swap a b [y, x])
  exact (h2.append_right (s ++ t)).trans h1.symm
end Go.Proofs.Ytcijkniijomcjaa
/-! Frames of matrices that are made. -/
namespace Go.Proofs.Ytcijkniijomcjaa
open Go.RowKit Go.Cpl
/-- What a right frame's bytes give. -/
theorem fz_back {p el : Int} {xs : List Nat} (h : frE p el xs = 0) : pfZ (fmt p el (mi xs)) = 0 ∧ pfP (fmt p el (mi xs)) = p ∧ pfE (fmt p el (mi xs)) = el ∧ pfW (fmt p el (mi xs)) = fw (mi xs) := by
  obtain ⟨hp, h0⟩ := frE_0 h
  obtain ⟨he1, he2, he3⟩ := mxC_0 h0
  obtain ⟨ne, rfl⟩ := Int.eq_ofNat_of_zero_le (show 0 ≤ el by omega)
  have e : ((ne * ne : Nat) : Int) = (ne : Int) * (ne : Int) := Int.natCast_mul _ _
  exact fmt_back hp (by omega) (by omega) (by rw [mi_length]; omega) (mi_range (right_of he3))
theorem fz_len {p el : Int} {xs : List Nat} (h : frE p el xs = 0) : (fmt p el (mi xs)).length = 10 + 128 * (el.toNat * el.toNat) := by
  obtain ⟨_, h0⟩ := frE_0 h
  obtain ⟨he1, he2, he3⟩ := mxC_0 h0
  obtain ⟨ne, rfl⟩ := Int.eq_ofNat_of_zero_le (show 0 ≤ el by omega)
  have e : ((ne * ne : Nat) : Int) = (ne : Int) * (ne : Int) := Int.natCast_mul _ _
  rw [fmt_length, mi_length, Int.toNat_natCast]
  omega
theorem fz_third {p el : Int} {xs : List Nat} (h : frE p el xs = 0) : nthU (fmt p el (mi xs)) 3 = el.toNat := by
  obtain ⟨_, h0⟩ := frE_0 h
  obtain ⟨he1, _, _⟩ := mxC_0 h0
  have : (nthU (fmt p el (mi xs)) 3 : Int) = el % 256 := nthU_one (y := el % 256) (by omega)
  omega
theorem fz_mi {p el : Int} {xs : List Nat} (h : frE p el xs = 0) : mi (fw (mi xs)) = mi xs := num_fw (mi_range (right_of (mxC_0 (frE_0 h).2).2.2))
theorem fz_el {p el : Int} {xs : List Nat} (h : frE p el xs = 0) : el = (el.toNat : Int) := by
  obtain ⟨_, h0⟩ := frE_0 h
  obtain ⟨he1, _, _⟩ := mxC_0 h0
  omega
theorem right_fw {l : List Int} (h : ∀ k, -2047 ≤ nthI l k ∧ nthI l k ≤ 2047) : Right (fw l) := right_of (k := 0) (firstErr_fw h)
/-- The frames, in order; their bytes. -/
def fzM (p : Int) (ds : List Md) (i : Nat) : Bs := fmt p (mdK ds i).el (mi (mdW (mdK ds i)))
def fzE (p : Int) (ds : List Md) (i : Nat) : Int := frE p (mdK ds i).el (mdW (mdK ds i))
def enK (ds : List Md) (i : Nat) : Nat := (mdK ds i).el.toNat
def catF (p : Int) (ds : List Md) (k : Nat) : Bs := catU (fzM p ds) k
def cutL (p : Int) (ds : List Md) (k b : Nat) : Bs := subU (catF p ds k) 0 b
def wdK (ds : List Md) (i : Nat) : List Nat := fw (mi (mdW (mdK ds i)))
theorem wdK_len (ds : List Md) (i : Nat) : (wdK ds i).length = mdN (mdK ds i) := by unfold wdK; rw [fw_length, mi_length, mdW_length]
theorem fr_all {p : Int} {ds : List Md} {m : Nat} (h : ∀ i, i < m → fzE p ds i = 0) : FrAll (fzM p ds) (enK ds) m := ⟨fun i hi => fz_len (h i hi), fun i hi => fz_third (h i hi), fun i hi => (fz_back (h i hi)).1⟩
theorem catF_succ {p : Int} {ds : List Md} {k : Nat} (h : fzE p ds k = 0) : (catF p ds (k + 1)).length = (catF p ds k).length + (10 + 128 * (enK ds k * enK ds k)) := by
  unfold catF
  rw [catU_succ_len]
  exact congrArg _ (fz_len h)
theorem fzM_le (p : Int) (ds : List Md) (i : Nat) : (fzM p ds i).length ≤ 1210 := by
  have := mkN_le (mdK ds i).el (mdK ds i).mo
  unfold fzM
  rw [fmt_length, mi_length, mdW_length]
  unfold mdN; omega
theorem catF_le (p : Int) (ds : List Md) (k : Nat) : (catF p ds k).length ≤ k * 1210 := by
  unfold catF
  induction k with
  | zero => exact Nat.le_refl _
  | succ k ih => rw [catU_succ_len]; have := fzM_le p ds k; omega
theorem cutL_le (p : Int) (ds : List Md) (k b : Nat) : (cutL p ds k b).length ≤ (catF p ds k).length := by simp [cutL, subU]; omega
theorem cutL_all {p : Int} {ds : List Md} {m b : Nat} (h : ∀ i, i < m → fzE p ds i = 0) (ha : b ≤ (catF p ds m).length) :
    frK (cutL p ds m b) ≤ m ∧ (∀ j, j < frK (cutL p ds m b) → frB (cutL p ds m b) j = fzM p ds j) ∧ atU (cutL p ds m b) (frK (cutL p ds m b)) = (catF p ds (frK (cutL p ds m b))).length ∧ (catF p ds (frK (cutL p ds m b))).length ≤ b ∧ (frK (cutL p ds m b) < m → b < (catF p ds (frK (cutL p ds m b) + 1)).length) := cut_all (fr_all h) ha
/-- The cells of a slice of such frames, and their slices, the last one first. -/
def fzX (p : Int) (ds : List Md) : List Value → List Value
  | [] => []
  | v :: vs => fzX p ds vs ++ [.int .i64 p, .int .i64 (mdK ds vs.length).el, v]
def fzR (e : TypeId) (ds : List Md) : List Value → List Rw
  | [] => []
  | v :: vs => ⟨v, e, 1, mdN (mdK ds vs.length), rowF (wdK ds vs.length)⟩ :: fzR e ds vs
theorem fzX_length (p : Int) (ds : List Md) (vs : List Value) : (fzX p ds vs).length = vs.length * 3 := by
  induction vs with
  | nil => rfl
  | cons v vs ih => simp only [fzX, List.length_append, List.length_cons, List.length_nil, ih]; omega
theorem fzX_get {p : Int} {ds : List Md} {vs : List Value} {i : Nat} (hi : i < vs.length) : ∀ j x, ([.int .i64 p, .int .i64 (mdK ds i).el, vI vs i] : List Value)[j]? = some x → (fzX p ds vs)[i * 3 + j]? = some x := by
  induction vs with
  | nil => exact absurd hi (Nat.not_lt_zero _)
  | cons v vs ih =>
    intro j x hx
    have hj : j < 3 := by have := (List.getElem?_eq_some_iff.1 hx).1; simpa using this
    have hl := fzX_length p ds vs
    unfold fzX
    rcases Nat.lt_or_ge i vs.length with q | q
    · rw [vI_old v q] at hx
      rw [List.getElem?_append_left (by omega)]
      exact ih q j x hx
    · have e : i = vs.length := by rw [List.length_cons] at hi; omega
      subst e
      rw [vI_new] at hx
      rw [List.getElem?_append_right (by omega), hl, show vs.length * 3 + j - vs.length * 3 = j by omega]
      exact hx
theorem fzR_mem {e : TypeId} {ds : List Md} {vs : List Value} {i : Nat} (hi : i < vs.length) : (⟨vI vs i, e, 1, mdN (mdK ds i), rowF (wdK ds i)⟩ : Rw) ∈ fzR e ds vs := by
  induction vs with
  | nil => exact absurd hi (Nat.not_lt_zero _)
  | cons v vs ih =>
    rcases Nat.lt_or_ge i vs.length with q | q
    · rw [vI_old v q]; exact List.mem_cons_of_mem _ (ih q)
    · have e : i = vs.length := by rw [List.length_cons] at hi; omega
      subst e
      rw [vI_new]; exact List.mem_cons_self ..
theorem ix_xsA {P : Program} {t : TypeId} {A : Option Addr} {ad : Addr} {m c e size : Nat} {bytes : Nat} {i : Int} (k : Nat) (he : elemInfo P t = some (e, size, bytes)) (hi : i = (k : Int)) (hk : k < m) (hA : A = some ad) (w : World) : (Instr.indexAt t (.slice A m c) (.int .i64 i)).run P w = .ok (.pointer (some (ad.add (k * size)))) w := by
  subst hA; exact ix_xs k he hi hk w
/-- A frame of such a slice, in the cells that hold it. -/
theorem fz_at {w : World} {A : Option Addr} {p : Int} {ds : List Md} {vs : List Value} {i : Nat} {v : Value} (h : VReads w A (fzX p ds vs)) (hi : i < vs.length) (hv : vI vs i = v) (hE : fzE p ds i = 0) : ∃ ad, A = some ad ∧ ∀ j x, ([.int .i64 p, .int .i64 (enK ds i : Int), v] : List Value)[j]? = some x → w.cell? ((ad.add (i * 3)).add j) = some x := by
  subst hv
  rw [show (enK ds i : Int) = (mdK ds i).el from (fz_el hE).symm]
  obtain ⟨ad, rfl, _⟩ := h (i * 3 + 0) (.int .i64 p) (fzX_get hi 0 _ rfl)
  refine ⟨ad, rfl, fun j x hx => ?_⟩
  obtain ⟨ad', e, hc⟩ := h (i * 3 + j) x (fzX_get hi j x hx)
  cases e
  rw [Addr.add_add]; exact hc
/-- A frame that was read, in the cells that hold it. -/
theorem fb_at {w : World} {A : Option Addr} {l : Bs} {p : Int} {ds : List Md} {vs : List Value} {i : Nat} {v : Value} (h : VReads w A (frX l vs)) (hi : i < vs.length) (hv : vI vs i = v) (hb : frB l i = fzM p ds i) (hE : fzE p ds i = 0) : ∃ ad, A = some ad ∧ ∀ j x, ([.int .i64 p, .int .i64 (enK ds i : Int), v] : List Value)[j]? = some x → w.cell? ((ad.add (i * 3)).add j) = some x := by
  have h2 := fr_at h hi hv
  obtain ⟨_, e2, e3, _⟩ := fz_back hE
  rw [hb] at h2
  unfold fzM at h2
  rw [e2, e3] at h2
  rw [show (enK ds i : Int) = (mdK ds i).el from (fz_el hE).symm]
  exact h2
theorem fb_row {w : World} {base : Nat} {e : TypeId} {l : Bs} {p : Int} {ds : List Md} {v : Value} {i : Nat} (h : w.ownsRow base e 1 v (pfW (frB l i)).length (rowF (pfW (frB l i)))) (hb : frB l i = fzM p ds i) (hE : fzE p ds i = 0) : w.ownsRow base e 1 v (mdN (mdK ds i)) (rowF (wdK ds i)) := by
  obtain ⟨_, _, _, e4⟩ := fz_back hE
  rw [hb] at h
  unfold fzM at h
  rw [e4] at h
  rw [← wdK_len]
  exact h
end Go.Proofs.Ytcijkniijomcjaa
