/- Times of samples: the code and the reference. -/
import Derived.Test.YtfooefkgdcjlhaaEnv
import Derived.Test.YtfooefkgdcjlhaaTimes
namespace Go.Proofs.Ytfooefkgdcjlhaa
open Go.RowKit Go.Cpl

theorem mul_bd {x y a b : Int} (h0 : 0 ≤ x) (h1 : x ≤ a) (h2 : 0 ≤ y) (h3 : y ≤ b) : 0 ≤ x * y ∧ x * y ≤ a * b :=
  ⟨Int.mul_nonneg h0 h2, Int.mul_le_mul h1 h3 h2 (by omega)⟩

def TimeOf_a_r (f : Int) (st : Int) (i : Int) : Int × Int := if sampErr f st ≠ 0 then (0, sampErr f st) else (bif !(inB i 0 63) then (0, 2) else (f + (i * st), 0))

set_option maxRecDepth 100000 in
set_option maxHeartbeats 400000 in
theorem TimeOf_a (f : Int) (st : Int) (i : Int) (w0 : World) :
    Calls Try.prog 31 #[.agg #[.int .i64 f, .int .i64 st], .int .i64 i] w0 fun e w' => e = .returned (.tuple #[.int .i64 ((TimeOf_a_r f st i).1), .int .i64 ((TimeOf_a_r f st i).2)]) ∧ Below w0.heap.size w0 w' := by
  have S0 := St.start w0
  refine enter (n := 22) Try.func31 rfl rfl rfl (fun ac A0 => ?_)
  refine wp_seq ?_
  refine wp_region_lit ?_
  refine s_box (.agg #[.int .i64 f, .int .i64 st]) A0 S0 (by kernel_rfl) rfl (fun g3 ac wc A1 S2 => ?_)
  replace S2 : St _ (⟨g3, 67, #[.int .i64 f, .int .i64 st], true⟩ :: _) _ _ := S2
  refine s_one (.int .i64 0) A1 S2 (g_assign (by kernel_rfl)) rfl (fun ac A5 => ?_)
  refine s_one (.int .i64 0) A5 S2 (g_assign (by kernel_rfl)) rfl (fun ac A6 => ?_)
  refine wpList_nil ?_
  refine n_then ?_
  refine wp_seq ?_
  refine wp_seq ?_
  refine wp_region_lit ?_
  refine s_one (.agg #[.int .i64 f, .int .i64 st]) A6 S2 (g_load (g := g3) (off := 0) 0 (by kernel_rfl) rfl (by kernel_rfl)) rfl (fun ac A7 => ?_)
  refine s_call (fs := #[]) (cp := #[]) (r := [(0, .agg #[.int .i64 f, .int .i64 st])]) #[.agg #[.int .i64 f, .int .i64 st]] (.int .i64 (sampErr f st)) A7 S2 (CheckSampling_any f st _) Try.call35 (by kernel_rfl) (by kernel_rfl) (by kernel_rfl) rfl (fun ac wc A8 S9 => ?_)
  refine s_one (.int .i64 (sampErr f st)) A8 S9 (g_assign (by kernel_rfl)) rfl (fun ac A11 => ?_)
  refine wpList_nil ?_
  refine n_then ?_
  refine wp_seq ?_
  refine wp_region_lit ?_
  refine s_one (.int .i64 (sampErr f st)) A11 S9 (g_move (by kernel_rfl)) rfl (fun ac A12 => ?_)
  refine s_one (.bool (decide (sampErr f st ≠ 0))) A12 S9 (g_bin (u := .int .i64 (sampErr f st)) (k := .int .i64 0) (by kernel_rfl) (by kernel_rfl) (fun _ => by kernel_rfl) b_neq) rfl (fun ac A13 => ?_)
  refine wpList_nil ?_
  refine n_then ?_
  refine c_ifb (b := (decide (sampErr f st ≠ 0))) A13 (by kernel_rfl) (fun h14 => ?_) (fun h14 => ?_)
  · have p15 := of_decide_eq_true h14
    refine wp_seq ?_
    refine wp_region_lit ?_
    refine s_one (.int .i64 (sampErr f st)) A13 S9 (g_move (by kernel_rfl)) rfl (fun ac A16 => ?_)
    refine s_one (.int .i64 0) A16 S9 (g_assign (by kernel_rfl)) rfl (fun ac A17 => ?_)
    refine s_one (.int .i64 (sampErr f st)) A17 S9 (g_assign (by kernel_rfl)) rfl (fun ac A18 => ?_)
    refine wpList_nil ?_
    refine n_then ?_
    refine wp_ret ?_
    refine r_then ?_
    refine fin2 (.int .i64 0) (.int .i64 (sampErr f st)) Try.results31 A18 S9 (rv_tmp (by kernel_rfl)) (rv_tmp (by kernel_rfl)) ⟨?_, S9.kp⟩
    have e : TimeOf_a_r f st i = (0, sampErr f st) := by unfold TimeOf_a_r; exact ((if_pos (of_decide_eq_true h14)).trans rfl)
    rw [e]
  · have p19 := of_decide_eq_false h14
    have hs := sampErr_zero (Decidable.not_not.1 (of_decide_eq_false h14))
    refine wp_skip ?_
    refine n_then ?_
    refine wp_seq ?_
    refine wp_seq ?_
    refine wp_region_lit ?_
    refine s_one (.int .i64 i) A13 S9 (g_move (by kernel_rfl)) rfl (fun ac A20 => ?_)
    refine s_call (fs := #[]) (cp := #[]) (r := [(0, .int .i64 i), (0, .int .i64 0), (0, .int .i64 63)]) #[.int .i64 i, .int .i64 0, .int .i64 63] (.bool (inB i 0 63)) A20 S9 (sameB (within_any i 0 63 _)) Try.call62 (by kernel_rfl) (by kernel_rfl) (by kernel_rfl) rfl (fun ac wc A21 S22 => ?_)
    refine s_one (.bool (!(inB i 0 63))) A21 S22 (g_un (u := .bool (inB i 0 63)) (by kernel_rfl) (fun _ => by kernel_rfl)) rfl (fun ac A24 => ?_)
    refine wpList_nil ?_
    refine n_then ?_
    refine c_ifb (b := (!(inB i 0 63))) A24 (by kernel_rfl) (fun h25 => ?_) (fun h25 => ?_)
    · have h26 : inB i 0 63 = false := by simpa using h25
      refine wp_seq ?_
      refine wp_region_lit ?_
      refine s_one (.int .i64 0) A24 S22 (g_assign (by kernel_rfl)) rfl (fun ac A27 => ?_)
      refine s_one (.int .i64 2) A27 S22 (g_assign (by kernel_rfl)) rfl (fun ac A28 => ?_)
      refine wpList_nil ?_
      refine n_then ?_
      refine wp_ret ?_
      refine r_then ?_
      refine fin2 (.int .i64 0) (.int .i64 2) Try.results31 A28 S22 (rv_tmp (by kernel_rfl)) (rv_tmp (by kernel_rfl)) ⟨?_, S22.kp⟩
      have e : TimeOf_a_r f st i = (0, 2) := by unfold TimeOf_a_r; exact ((if_neg (of_decide_eq_false h14)).trans ((bif_t h25).trans rfl))
      rw [e]
    · have h29 : inB i 0 63 = true := by simpa using h25
      have hi := inB_true.1 h29
      have hm := mul_bd (x := i) (y := st) (a := 63) (b := 100000000) (by omega) (by omega) (by omega) (by omega)
      refine wp_skip ?_
      refine n_then ?_
      refine wp_seq ?_
      refine wp_region_lit ?_
      refine s_one (.pointer (some ⟨g3, 0, none⟩)) A24 S22 (g_field (u := .pointer (some ⟨g3, 0, none⟩)) (by kernel_rfl) (fun _ => by kernel_rfl)) rfl (fun ac A30 => ?_)
      refine s_one (.int .i64 f) A30 S22 (g_load (g := g3) (off := 0) 0 (by kernel_rfl) rfl (by kernel_rfl)) rfl (fun ac A31 => ?_)
      refine s_one (.int .i64 i) A31 S22 (g_move (by kernel_rfl)) rfl (fun ac A32 => ?_)
      refine s_one (.pointer (some ⟨g3, 1, none⟩)) A32 S22 (g_field (u := .pointer (some ⟨g3, 0, none⟩)) (by kernel_rfl) (fun _ => by kernel_rfl)) rfl (fun ac A33 => ?_)
      refine s_one (.int .i64 st) A33 S22 (g_load (g := g3) (off := 1) 0 (by kernel_rfl) rfl (by kernel_rfl)) rfl (fun ac A34 => ?_)
      refine s_one (.int .i64 (i * st)) A34 S22 (g_bin (u := .int .i64 i) (k := .int .i64 st) (by kernel_rfl) (by kernel_rfl) (fun _ => by kernel_rfl) (b_mul (by omega))) rfl (fun ac A35 => ?_)
      refine s_one (.int .i64 (f + (i * st))) A35 S22 (g_bin (u := .int .i64 f) (k := .int .i64 (i * st)) (by kernel_rfl) (by kernel_rfl) (fun _ => by kernel_rfl) (b_add (by omega))) rfl (fun ac A36 => ?_)
      refine s_one (.int .i64 (f + (i * st))) A36 S22 (g_assign (by kernel_rfl)) rfl (fun ac A37 => ?_)
      refine s_one (.int .i64 0) A37 S22 (g_assign (by kernel_rfl)) rfl (fun ac A38 => ?_)
      refine wpList_nil ?_
      refine n_then ?_
      refine wp_ret ?_
      refine fin2 (.int .i64 (f + (i * st))) (.int .i64 0) Try.results31 A38 S22 (rv_tmp (by kernel_rfl)) (rv_tmp (by kernel_rfl)) ⟨?_, S22.kp⟩
      have e : TimeOf_a_r f st i = (f + (i * st), 0) := by unfold TimeOf_a_r; exact ((if_neg (of_decide_eq_false h14)).trans ((bif_f h25).trans rfl))
      rw [e]

def rounded_a_r (n : Int) (d : Int) : Int := (2 * n + d) / (2 * d)

set_option maxRecDepth 100000 in
set_option maxHeartbeats 400000 in
theorem rounded_a (n : Int) (d : Int) (w0 : World) (h0 : 1 ≤ d) (h1 : d ≤ 100000000000000) (h2 : -10000000000000000 ≤ n) (h3 : n ≤ 10000000000000000) :
    Calls Try.prog 69 #[.int .i64 n, .int .i64 d] w0 fun e w' => e = .returned (.int .i64 (rounded_a_r n d)) ∧ Below w0.heap.size w0 w' := by
  have S0 := St.start w0
  refine enter (n := 12) Try.func69 rfl rfl rfl (fun ac A0 => ?_)
  refine wp_seq ?_
  refine wp_region_lit ?_
  refine s_one (.int .i64 0) A0 S0 (g_assign (by kernel_rfl)) rfl (fun ac A1 => ?_)
  refine wpList_nil ?_
  refine n_then ?_
  refine wp_seq ?_
  refine wp_region_lit ?_
  refine s_one (.int .i64 n) A1 S0 (g_move (by kernel_rfl)) rfl (fun ac A2 => ?_)
  refine s_one (.int .i64 (2 * n)) A2 S0 (g_bin (u := .int .i64 2) (k := .int .i64 n) (by kernel_rfl) (by kernel_rfl) (fun _ => by kernel_rfl) (b_mul (by omega))) rfl (fun ac A3 => ?_)
  refine s_one (.int .i64 d) A3 S0 (g_move (by kernel_rfl)) rfl (fun ac A4 => ?_)
  refine s_one (.int .i64 (2 * n + d)) A4 S0 (g_bin (u := .int .i64 (2 * n)) (k := .int .i64 d) (by kernel_rfl) (by kernel_rfl) (fun _ => by kernel_rfl) (b_add (by omega))) rfl (fun ac A5 => ?_)
  refine s_one (.int .i64 d) A5 S0 (g_move (by kernel_rfl)) rfl (fun ac A6 => ?_)
  refine s_one (.int .i64 (2 * d)) A6 S0 (g_bin (u := .int .i64 2) (k := .int .i64 d) (by kernel_rfl) (by kernel_rfl) (fun _ => by kernel_rfl) (b_mul (by omega))) rfl (fun ac A7 => ?_)
  refine s_call (fs := #[]) (cp := #[]) (r := [(0, .int .i64 (2 * n + d)), (0, .int .i64 (2 * d))]) #[.int .i64 (2 * n + d), .int .i64 (2 * d)] (.int .i64 ((2 * n + d) / (2 * d))) A7 S0 (sameB (floor_any (2 * n + d) (2 * d) _ (by omega) (by omega) (by omega))) Try.call70 (by kernel_rfl) (by kernel_rfl) (by kernel_rfl) rfl (fun ac wc A8 S9 => ?_)
  refine s_one (.int .i64 ((2 * n + d) / (2 * d))) A8 S9 (g_assign (by kernel_rfl)) rfl (fun ac A11 => ?_)
  refine wpList_nil ?_
  refine n_then ?_
  refine wp_ret ?_
  refine fin1 (.int .i64 ((2 * n + d) / (2 * d))) Try.results69 A11 S9 (rv_tmp (by kernel_rfl)) ⟨?_, S9.kp⟩
  have e : rounded_a_r n d = ((2 * n + d) / (2 * d)) := by unfold rounded_a_r; exact rfl
  rw [e]

def Nearest_a_r (f : Int) (st : Int) (t : Int) : Int × Int := if firstOf [sampErr f st, tErr t] ≠ 0 then (0, firstOf [sampErr f st, tErr t]) else (bif !(inB (rounded_a_r (t - f) st) 0 63) then (0, 12) else ((rounded_a_r (t - f) st), 0))

set_option maxRecDepth 100000 in
set_option maxHeartbeats 400000 in
theorem Nearest_a (f : Int) (st : Int) (t : Int) (w0 : World) :
    Calls Try.prog 32 #[.agg #[.int .i64 f, .int .i64 st], .int .i64 t] w0 fun e w' => e = .returned (.tuple #[.int .i64 ((Nearest_a_r f st t).1), .int .i64 ((Nearest_a_r f st t).2)]) ∧ Below w0.heap.size w0 w' := by
  have S0 := St.start w0
  refine enter (n := 28) Try.func32 rfl rfl rfl (fun ac A0 => ?_)
  refine wp_seq ?_
  refine wp_region_lit ?_
  refine s_box (.agg #[.int .i64 f, .int .i64 st]) A0 S0 (by kernel_rfl) rfl (fun g3 ac wc A1 S2 => ?_)
  replace S2 : St _ (⟨g3, 67, #[.int .i64 f, .int .i64 st], true⟩ :: _) _ _ := S2
  refine s_one (.int .i64 0) A1 S2 (g_assign (by kernel_rfl)) rfl (fun ac A5 => ?_)
  refine s_one (.int .i64 0) A5 S2 (g_assign (by kernel_rfl)) rfl (fun ac A6 => ?_)
  refine wpList_nil ?_
  refine n_then ?_
  refine wp_seq ?_
  refine wp_seq ?_
  refine wp_region_lit ?_
  refine s_one (.agg #[.int .i64 f, .int .i64 st]) A6 S2 (g_load (g := g3) (off := 0) 0 (by kernel_rfl) rfl (by kernel_rfl)) rfl (fun ac A7 => ?_)
  refine s_call (fs := #[]) (cp := #[]) (r := [(0, .agg #[.int .i64 f, .int .i64 st])]) #[.agg #[.int .i64 f, .int .i64 st]] (.int .i64 (sampErr f st)) A7 S2 (CheckSampling_any f st _) Try.call35 (by kernel_rfl) (by kernel_rfl) (by kernel_rfl) rfl (fun ac wc A8 S9 => ?_)
  refine s_one (.int .i64 t) A8 S9 (g_move (by kernel_rfl)) rfl (fun ac A11 => ?_)
  refine s_call (fs := #[]) (cp := #[]) (r := [(0, .int .i64 t)]) #[.int .i64 t] (.int .i64 (tErr t)) A11 S9 (sameB (timeErr_any t _)) Try.call68 (by kernel_rfl) (by kernel_rfl) (by kernel_rfl) rfl (fun ac wc A12 S13 => ?_)
  refine s_bs (e := 27) (r := [(0, .int .i64 (sampErr f st)), (1, .int .i64 (tErr t))]) (#[.int .i64 (sampErr f st), .int .i64 (tErr t)]) A12 S13 (by kernel_rfl) (by kernel_rfl) rfl (fun g17 ac wc A15 S16 => ?_)
  refine s_call (fs := #[]) (cp := #[]) (r := [(0, .slice (some ⟨g17, 0, none⟩) 2 2)]) #[.slice (some ⟨g17, 0, none⟩) 2 2] (.int .i64 (firstOf [sampErr f st, tErr t])) A15 S16 (sameB (first_any g17 27 2 [sampErr f st, tErr t] 2 _ (S16.get 0 rfl) rfl (by omega))) Try.call60 (by kernel_rfl) (by kernel_rfl) (by kernel_rfl) rfl (fun ac wc A18 S19 => ?_)
  refine s_one (.int .i64 (firstOf [sampErr f st, tErr t])) A18 S19 (g_assign (by kernel_rfl)) rfl (fun ac A21 => ?_)
  refine wpList_nil ?_
  refine n_then ?_
  refine wp_seq ?_
  refine wp_region_lit ?_
  refine s_one (.int .i64 (firstOf [sampErr f st, tErr t])) A21 S19 (g_move (by kernel_rfl)) rfl (fun ac A22 => ?_)
  refine s_one (.bool (decide (firstOf [sampErr f st, tErr t] ≠ 0))) A22 S19 (g_bin (u := .int .i64 (firstOf [sampErr f st, tErr t])) (k := .int .i64 0) (by kernel_rfl) (by kernel_rfl) (fun _ => by kernel_rfl) b_neq) rfl (fun ac A23 => ?_)
  refine wpList_nil ?_
  refine n_then ?_
  refine c_ifb (b := (decide (firstOf [sampErr f st, tErr t] ≠ 0))) A23 (by kernel_rfl) (fun h24 => ?_) (fun h24 => ?_)
  · have p25 := of_decide_eq_true h24
    refine wp_seq ?_
    refine wp_region_lit ?_
    refine s_one (.int .i64 (firstOf [sampErr f st, tErr t])) A23 S19 (g_move (by kernel_rfl)) rfl (fun ac A26 => ?_)
    refine s_one (.int .i64 0) A26 S19 (g_assign (by kernel_rfl)) rfl (fun ac A27 => ?_)
    refine s_one (.int .i64 (firstOf [sampErr f st, tErr t])) A27 S19 (g_assign (by kernel_rfl)) rfl (fun ac A28 => ?_)
    refine wpList_nil ?_
    refine n_then ?_
    refine wp_ret ?_
    refine r_then ?_
    refine fin2 (.int .i64 0) (.int .i64 (firstOf [sampErr f st, tErr t])) Try.results32 A28 S19 (rv_tmp (by kernel_rfl)) (rv_tmp (by kernel_rfl)) ⟨?_, S19.kp⟩
    have e : Nearest_a_r f st t = (0, firstOf [sampErr f st, tErr t]) := by unfold Nearest_a_r; exact ((if_pos (of_decide_eq_true h24)).trans rfl)
    rw [e]
  · have p29 := of_decide_eq_false h24
    have hz := firstOf_two (Decidable.not_not.1 (of_decide_eq_false h24))
    have hs := sampErr_zero hz.1
    have ht := tErr_zero hz.2
    refine wp_skip ?_
    refine n_then ?_
    refine wp_seq ?_
    refine wp_region_lit ?_
    refine s_one (.int .i64 t) A23 S19 (g_move (by kernel_rfl)) rfl (fun ac A30 => ?_)
    refine s_one (.pointer (some ⟨g3, 0, none⟩)) A30 S19 (g_field (u := .pointer (some ⟨g3, 0, none⟩)) (by kernel_rfl) (fun _ => by kernel_rfl)) rfl (fun ac A31 => ?_)
    refine s_one (.int .i64 f) A31 S19 (g_load (g := g3) (off := 0) 1 (by kernel_rfl) rfl (by kernel_rfl)) rfl (fun ac A32 => ?_)
    refine s_one (.int .i64 (t - f)) A32 S19 (g_bin (u := .int .i64 t) (k := .int .i64 f) (by kernel_rfl) (by kernel_rfl) (fun _ => by kernel_rfl) (b_sub (by omega))) rfl (fun ac A33 => ?_)
    refine s_one (.pointer (some ⟨g3, 1, none⟩)) A33 S19 (g_field (u := .pointer (some ⟨g3, 0, none⟩)) (by kernel_rfl) (fun _ => by kernel_rfl)) rfl (fun ac A34 => ?_)
    refine s_one (.int .i64 st) A34 S19 (g_load (g := g3) (off := 1) 1 (by kernel_rfl) rfl (by kernel_rfl)) rfl (fun ac A35 => ?_)
    refine s_call (fs := #[]) (cp := #[]) (r := [(0, .int .i64 (t - f)), (0, .int .i64 st)]) #[.int .i64 (t - f), .int .i64 st] (.int .i64 (rounded_a_r (t - f) st)) A35 S19 (rounded_a (t - f) st _ (by omega) (by omega) (by omega) (by omega)) Try.call69 (by kernel_rfl) (by kernel_rfl) (by kernel_rfl) rfl (fun ac wc A36 S37 => ?_)
    refine s_one (.int .i64 (rounded_a_r (t - f) st)) A36 S37 (g_assign (by kernel_rfl)) rfl (fun ac A39 => ?_)
    refine wpList_nil ?_
    refine n_then ?_
    refine wp_seq ?_
    refine wp_seq ?_
    refine wp_region_lit ?_
    refine s_one (.int .i64 (rounded_a_r (t - f) st)) A39 S37 (g_move (by kernel_rfl)) rfl (fun ac A40 => ?_)
    refine s_call (fs := #[]) (cp := #[]) (r := [(0, .int .i64 (rounded_a_r (t - f) st)), (0, .int .i64 0), (0, .int .i64 63)]) #[.int .i64 (rounded_a_r (t - f) st), .int .i64 0, .int .i64 63] (.bool (inB (rounded_a_r (t - f) st) 0 63)) A40 S37 (sameB (within_any (rounded_a_r (t - f) st) 0 63 _)) Try.call62 (by kernel_rfl) (by kernel_rfl) (by kernel_rfl) rfl (fun ac wc A41 S42 => ?_)
    refine s_one (.bool (!(inB (rounded_a_r (t - f) st) 0 63))) A41 S42 (g_un (u := .bool (inB (rounded_a_r (t - f) st) 0 63)) (by kernel_rfl) (fun _ => by kernel_rfl)) rfl (fun ac A44 => ?_)
    refine wpList_nil ?_
    refine n_then ?_
    refine c_ifb (b := (!(inB (rounded_a_r (t - f) st) 0 63))) A44 (by kernel_rfl) (fun h45 => ?_) (fun h45 => ?_)
    · have h46 : inB (rounded_a_r (t - f) st) 0 63 = false := by simpa using h45
      refine wp_seq ?_
      refine wp_region_lit ?_
      refine s_one (.int .i64 0) A44 S42 (g_assign (by kernel_rfl)) rfl (fun ac A47 => ?_)
      refine s_one (.int .i64 12) A47 S42 (g_assign (by kernel_rfl)) rfl (fun ac A48 => ?_)
      refine wpList_nil ?_
      refine n_then ?_
      refine wp_ret ?_
      refine r_then ?_
      refine fin2 (.int .i64 0) (.int .i64 12) Try.results32 A48 S42 (rv_tmp (by kernel_rfl)) (rv_tmp (by kernel_rfl)) ⟨?_, S42.kp⟩
      have e : Nearest_a_r f st t = (0, 12) := by unfold Nearest_a_r; exact ((if_neg (of_decide_eq_false h24)).trans ((bif_t h45).trans rfl))
      rw [e]
    · have h49 : inB (rounded_a_r (t - f) st) 0 63 = true := by simpa using h45
      refine wp_skip ?_
      refine n_then ?_
      refine wp_seq ?_
      refine wp_region_lit ?_
      refine s_one (.int .i64 (rounded_a_r (t - f) st)) A44 S42 (g_move (by kernel_rfl)) rfl (fun ac A50 => ?_)
      refine s_one (.int .i64 (rounded_a_r (t - f) st)) A50 S42 (g_assign (by kernel_rfl)) rfl (fun ac A51 => ?_)
      refine s_one (.int .i64 0) A51 S42 (g_assign (by kernel_rfl)) rfl (fun ac A52 => ?_)
      refine wpList_nil ?_
      refine n_then ?_
      refine wp_ret ?_
      refine fin2 (.int .i64 (rounded_a_r (t - f) st)) (.int .i64 0) Try.results32 A52 S42 (rv_tmp (by kernel_rfl)) (rv_tmp (by kernel_rfl)) ⟨?_, S42.kp⟩
      have e : Nearest_a_r f st t = ((rounded_a_r (t - f) st), 0) := by unfold Nearest_a_r; exact ((if_neg (of_decide_eq_false h24)).trans ((bif_f h45).trans rfl))
      rw [e]

def refCheckSampling_a_r (f : Int) (st : Int) : Int := bif (!(inB f 0 1000000000000)) || (!(inB st 1 100000000)) then 2 else 0

set_option maxRecDepth 100000 in
set_option maxHeartbeats 400000 in
theorem refCheckSampling_a (f : Int) (st : Int) (w0 : World) :
    Calls Try.prog 34 #[.agg #[.int .i64 f, .int .i64 st]] w0 fun e w' => e = .returned (.int .i64 (refCheckSampling_a_r f st)) ∧ Below w0.heap.size w0 w' := by
  have S0 := St.start w0
  refine enter (n := 13) Try.func34 rfl rfl rfl (fun ac A0 => ?_)
  refine wp_seq ?_
  refine wp_region_lit ?_
  refine s_box (.agg #[.int .i64 f, .int .i64 st]) A0 S0 (by kernel_rfl) rfl (fun g3 ac wc A1 S2 => ?_)
  replace S2 : St _ (⟨g3, 67, #[.int .i64 f, .int .i64 st], true⟩ :: _) _ _ := S2
  refine s_one (.int .i64 0) A1 S2 (g_assign (by kernel_rfl)) rfl (fun ac A5 => ?_)
  refine wpList_nil ?_
  refine n_then ?_
  refine wp_seq ?_
  refine wp_seq ?_
  refine c_cut (fun ac wc => Fr 13 ac [(12, .bool ((!(inB f 0 1000000000000)) || (!(inB st 1 100000000)))), (0, .agg #[.int .i64 f, .int .i64 st]), (1, .pointer (some ⟨g3, 0, none⟩)), (2, .int .i64 0)] ∧ St w0 [⟨g3, 67, #[.int .i64 f, .int .i64 st], true⟩] [] wc) ?_ ?_
  · refine wp_region_lit ?_
    refine s_one (.pointer (some ⟨g3, 0, none⟩)) A5 S2 (g_field (u := .pointer (some ⟨g3, 0, none⟩)) (by kernel_rfl) (fun _ => by kernel_rfl)) rfl (fun ac A6 => ?_)
    refine s_one (.int .i64 f) A6 S2 (g_load (g := g3) (off := 0) 0 (by kernel_rfl) rfl (by kernel_rfl)) rfl (fun ac A7 => ?_)
    refine s_call (fs := #[]) (cp := #[]) (r := [(0, .int .i64 f), (0, .int .i64 0), (0, .int .i64 1000000000000)]) #[.int .i64 f, .int .i64 0, .int .i64 1000000000000] (.bool (inB f 0 1000000000000)) A7 S2 (sameB (Within_any f 0 1000000000000 _)) Try.call22 (by kernel_rfl) (by kernel_rfl) (by kernel_rfl) rfl (fun ac wc A8 S9 => ?_)
    refine s_one (.bool (!(inB f 0 1000000000000))) A8 S9 (g_un (u := .bool (inB f 0 1000000000000)) (by kernel_rfl) (fun _ => by kernel_rfl)) rfl (fun ac A11 => ?_)
    refine s_one (.bool (!(inB f 0 1000000000000))) A11 S9 (g_move (by kernel_rfl)) rfl (fun ac A12 => ?_)
    refine by_bool (!(inB f 0 1000000000000)) (fun h13 => ?_) (fun h13 => ?_)
    · have h14 : inB f 0 1000000000000 = false := by simpa using h13
      refine s_not (dj := 7) (b := (!(inB f 0 1000000000000))) A12 (by kernel_rfl) (by kernel_rfl) h13 rfl (fun ac A15 => ?_)
      refine s_not (dj := 7) (b := (!(inB f 0 1000000000000))) A15 (by kernel_rfl) (by kernel_rfl) h13 rfl (fun ac A16 => ?_)
      refine s_not (dj := 7) (b := (!(inB f 0 1000000000000))) A16 (by kernel_rfl) (by kernel_rfl) h13 rfl (fun ac A17 => ?_)
      refine s_not (dj := 7) (b := (!(inB f 0 1000000000000))) A17 (by kernel_rfl) (by kernel_rfl) h13 rfl (fun ac A18 => ?_)
      refine s_one (.bool true) A18 S9 (g_pick_t (b := (!(inB f 0 1000000000000))) (by kernel_rfl) h13 (by kernel_rfl)) rfl (fun ac A19 => ?_)
      refine wpList_nil ?_
      refine n_then ?_
      exact ⟨(A19.slot (A19.slot (A19.slot (A19.slot A19.nil (v := .int .i64 0) (by kernel_rfl) rfl) (v := .pointer (some ⟨g3, 0, none⟩)) (by kernel_rfl) rfl) (v := .agg #[.int .i64 f, .int .i64 st]) (by kernel_rfl) rfl) (v := .bool true) (by kernel_rfl) (congrArg Value.bool (b_ot1 h13).symm)), S9.sub sub_all sub_all⟩
    · have h20 : inB f 0 1000000000000 = true := by simpa using h13
      refine s_want (dj := 7) (b := (!(inB f 0 1000000000000))) A12 (by kernel_rfl) (by kernel_rfl) h13 ?_
      refine s_one (.pointer (some ⟨g3, 1, none⟩)) A12 S9 (g_field (u := .pointer (some ⟨g3, 0, none⟩)) (by kernel_rfl) (fun _ => by kernel_rfl)) rfl (fun ac A21 => ?_)
      refine s_want (dj := 7) (b := (!(inB f 0 1000000000000))) A21 (by kernel_rfl) (by kernel_rfl) h13 ?_
      refine s_one (.int .i64 st) A21 S9 (g_load (g := g3) (off := 1) 0 (by kernel_rfl) rfl (by kernel_rfl)) rfl (fun ac A22 => ?_)
      refine s_want (dj := 7) (b := (!(inB f 0 1000000000000))) A22 (by kernel_rfl) (by kernel_rfl) h13 ?_
      refine s_call (fs := #[]) (cp := #[]) (r := [(0, .int .i64 st), (0, .int .i64 1), (0, .int .i64 100000000)]) #[.int .i64 st, .int .i64 1, .int .i64 100000000] (.bool (inB st 1 100000000)) A22 S9 (sameB (Within_any st 1 100000000 _)) Try.call22 (by kernel_rfl) (by kernel_rfl) (by kernel_rfl) rfl (fun ac wc A23 S24 => ?_)
      refine s_want (dj := 7) (b := (!(inB f 0 1000000000000))) A23 (by kernel_rfl) (by kernel_rfl) h13 ?_
      refine s_one (.bool (!(inB st 1 100000000))) A23 S24 (g_un (u := .bool (inB st 1 100000000)) (by kernel_rfl) (fun _ => by kernel_rfl)) rfl (fun ac A26 => ?_)
      refine s_one (.bool (!(inB st 1 100000000))) A26 S24 (g_pick_f (b := (!(inB f 0 1000000000000))) (by kernel_rfl) h13 (by kernel_rfl)) rfl (fun ac A27 => ?_)
      refine wpList_nil ?_
      refine n_then ?_
      exact ⟨(A27.slot (A27.slot (A27.slot (A27.slot A27.nil (v := .int .i64 0) (by kernel_rfl) rfl) (v := .pointer (some ⟨g3, 0, none⟩)) (by kernel_rfl) rfl) (v := .agg #[.int .i64 f, .int .i64 st]) (by kernel_rfl) rfl) (v := .bool (!(inB st 1 100000000))) (by kernel_rfl) (congrArg Value.bool (b_or_f h13 (Eq.refl (!(inB st 1 100000000)))).symm)), S24.sub sub_all sub_all⟩
  · rintro ac wc ⟨A28, S29⟩
    refine n_then ?_
    refine c_ifb (b := ((!(inB f 0 1000000000000)) || (!(inB st 1 100000000)))) A28 (by kernel_rfl) (fun h30 => ?_) (fun h30 => ?_)
    · refine wp_seq ?_
      refine wp_region_lit ?_
      refine s_one (.int .i64 2) A28 S29 (g_assign (by kernel_rfl)) rfl (fun ac A31 => ?_)
      refine wpList_nil ?_
      refine n_then ?_
      refine wp_ret ?_
      refine r_then ?_
      refine fin1 (.int .i64 2) Try.results34 A31 S29 (rv_tmp (by kernel_rfl)) ⟨?_, S29.kp⟩
      have e : refCheckSampling_a_r f st = 2 := by unfold refCheckSampling_a_r; exact ((bif_t h30).trans rfl)
      rw [e]
    · have h32 := (Bool.or_eq_false_iff.1 h30).1
      have h33 : inB f 0 1000000000000 = true := by simpa using h32
      have h34 := (Bool.or_eq_false_iff.1 h30).2
      have h35 : inB st 1 100000000 = true := by simpa using h34
      refine wp_skip ?_
      refine n_then ?_
      refine wp_seq ?_
      refine wp_region_lit ?_
      refine s_one (.int .i64 0) A28 S29 (g_assign (by kernel_rfl)) rfl (fun ac A36 => ?_)
      refine wpList_nil ?_
      refine n_then ?_
      refine wp_ret ?_
      refine fin1 (.int .i64 0) Try.results34 A36 S29 (rv_tmp (by kernel_rfl)) ⟨?_, S29.kp⟩
      have e : refCheckSampling_a_r f st = 0 := by unfold refCheckSampling_a_r; exact ((bif_f h30).trans rfl)
      rw [e]

def refTimeErr_a_r (t : Int) : Int := bif !(inB t (-1000000000000) 1000000000000) then 2 else 0

set_option maxRecDepth 100000 in
set_option maxHeartbeats 400000 in
theorem refTimeErr_a (t : Int) (w0 : World) :
    Calls Try.prog 37 #[.int .i64 t] w0 fun e w' => e = .returned (.int .i64 (refTimeErr_a_r t)) ∧ Below w0.heap.size w0 w' := by
  have S0 := St.start w0
  refine enter (n := 6) Try.func37 rfl rfl rfl (fun ac A0 => ?_)
  refine wp_seq ?_
  refine wp_region_lit ?_
  refine s_one (.int .i64 0) A0 S0 (g_assign (by kernel_rfl)) rfl (fun ac A1 => ?_)
  refine wpList_nil ?_
  refine n_then ?_
  refine wp_seq ?_
  refine wp_seq ?_
  refine wp_region_lit ?_
  refine s_one (.int .i64 t) A1 S0 (g_move (by kernel_rfl)) rfl (fun ac A2 => ?_)
  refine s_call (fs := #[]) (cp := #[]) (r := [(0, .int .i64 t), (0, .int .i64 (-1000000000000)), (0, .int .i64 1000000000000)]) #[.int .i64 t, .int .i64 (-1000000000000), .int .i64 1000000000000] (.bool (inB t (-1000000000000) 1000000000000)) A2 S0 (sameB (Within_any t (-1000000000000) 1000000000000 _)) Try.call22 (by kernel_rfl) (by kernel_rfl) (by kernel_rfl) rfl (fun ac wc A3 S4 => ?_)
  refine s_one (.bool (!(inB t (-1000000000000) 1000000000000))) A3 S4 (g_un (u := .bool (inB t (-1000000000000) 1000000000000)) (by kernel_rfl) (fun _ => by kernel_rfl)) rfl (fun ac A6 => ?_)
  refine wpList_nil ?_
  refine n_then ?_
  refine c_ifb (b := (!(inB t (-1000000000000) 1000000000000))) A6 (by kernel_rfl) (fun h7 => ?_) (fun h7 => ?_)
  · have h8 : inB t (-1000000000000) 1000000000000 = false := by simpa using h7
    refine wp_seq ?_
    refine wp_region_lit ?_
    refine s_one (.int .i64 2) A6 S4 (g_assign (by kernel_rfl)) rfl (fun ac A9 => ?_)
    refine wpList_nil ?_
    refine n_then ?_
    refine wp_ret ?_
    refine r_then ?_
    refine fin1 (.int .i64 2) Try.results37 A9 S4 (rv_tmp (by kernel_rfl)) ⟨?_, S4.kp⟩
    have e : refTimeErr_a_r t = 2 := by unfold refTimeErr_a_r; exact ((bif_t h7).trans rfl)
    rw [e]
  · have h10 : inB t (-1000000000000) 1000000000000 = true := by simpa using h7
    refine wp_skip ?_
    refine n_then ?_
    refine wp_seq ?_
    refine wp_region_lit ?_
    refine s_one (.int .i64 0) A6 S4 (g_assign (by kernel_rfl)) rfl (fun ac A11 => ?_)
    refine wpList_nil ?_
    refine n_then ?_
    refine wp_ret ?_
    refine fin1 (.int .i64 0) Try.results37 A11 S4 (rv_tmp (by kernel_rfl)) ⟨?_, S4.kp⟩
    have e : refTimeErr_a_r t = 0 := by unfold refTimeErr_a_r; exact ((bif_f h7).trans rfl)
    rw [e]

def refTimeOf_a_r (f : Int) (st : Int) (i : Int) : Int × Int := bif !(inB i 0 63) then (0, 2) else (f + (i * st), 0)

set_option maxRecDepth 100000 in
set_option maxHeartbeats 400000 in
theorem refTimeOf_a (f : Int) (st : Int) (i : Int) (w0 : World) (h0 : 0 ≤ f) (h1 : f ≤ 1000000000000) (h2 : 1 ≤ st) (h3 : st ≤ 100000000) :
    Calls Try.prog 36 #[.agg #[.int .i64 f, .int .i64 st], .int .i64 i] w0 fun e w' => e = .returned (.tuple #[.int .i64 ((refTimeOf_a_r f st i).1), .int .i64 ((refTimeOf_a_r f st i).2)]) ∧ Below w0.heap.size w0 w' := by
  have S0 := St.start w0
  refine enter (n := 16) Try.func36 rfl rfl rfl (fun ac A0 => ?_)
  refine wp_seq ?_
  refine wp_region_lit ?_
  refine s_box (.agg #[.int .i64 f, .int .i64 st]) A0 S0 (by kernel_rfl) rfl (fun g3 ac wc A1 S2 => ?_)
  replace S2 : St _ (⟨g3, 67, #[.int .i64 f, .int .i64 st], true⟩ :: _) _ _ := S2
  refine s_one (.int .i64 0) A1 S2 (g_assign (by kernel_rfl)) rfl (fun ac A5 => ?_)
  refine s_one (.int .i64 0) A5 S2 (g_assign (by kernel_rfl)) rfl (fun ac A6 => ?_)
  refine wpList_nil ?_
  refine n_then ?_
  refine wp_seq ?_
  refine wp_seq ?_
  refine wp_region_lit ?_
  refine s_one (.int .i64 i) A6 S2 (g_move (by kernel_rfl)) rfl (fun ac A7 => ?_)
  refine s_call (fs := #[]) (cp := #[]) (r := [(0, .int .i64 i), (0, .int .i64 0), (0, .int .i64 63)]) #[.int .i64 i, .int .i64 0, .int .i64 63] (.bool (inB i 0 63)) A7 S2 (sameB (Within_any i 0 63 _)) Try.call22 (by kernel_rfl) (by kernel_rfl) (by kernel_rfl) rfl (fun ac wc A8 S9 => ?_)
  refine s_one (.bool (!(inB i 0 63))) A8 S9 (g_un (u := .bool (inB i 0 63)) (by kernel_rfl) (fun _ => by kernel_rfl)) rfl (fun ac A11 => ?_)
  refine wpList_nil ?_
  refine n_then ?_
  refine c_ifb (b := (!(inB i 0 63))) A11 (by kernel_rfl) (fun h12 => ?_) (fun h12 => ?_)
  · have h13 : inB i 0 63 = false := by simpa using h12
    refine wp_seq ?_
    refine wp_region_lit ?_
    refine s_one (.int .i64 0) A11 S9 (g_assign (by kernel_rfl)) rfl (fun ac A14 => ?_)
    refine s_one (.int .i64 2) A14 S9 (g_assign (by kernel_rfl)) rfl (fun ac A15 => ?_)
    refine wpList_nil ?_
    refine n_then ?_
    refine wp_ret ?_
    refine r_then ?_
    refine fin2 (.int .i64 0) (.int .i64 2) Try.results36 A15 S9 (rv_tmp (by kernel_rfl)) (rv_tmp (by kernel_rfl)) ⟨?_, S9.kp⟩
    have e : refTimeOf_a_r f st i = (0, 2) := by unfold refTimeOf_a_r; exact ((bif_t h12).trans rfl)
    rw [e]
  · have h16 : inB i 0 63 = true := by simpa using h12
    have hi := inB_true.1 h16
    have hm := mul_bd (x := i) (y := st) (a := 63) (b := 100000000) (by omega) (by omega) (by omega) (by omega)
    refine wp_skip ?_
    refine n_then ?_
    refine wp_seq ?_
    refine wp_region_lit ?_
    refine s_one (.pointer (some ⟨g3, 0, none⟩)) A11 S9 (g_field (u := .pointer (some ⟨g3, 0, none⟩)) (by kernel_rfl) (fun _ => by kernel_rfl)) rfl (fun ac A17 => ?_)
    refine s_one (.int .i64 f) A17 S9 (g_load (g := g3) (off := 0) 0 (by kernel_rfl) rfl (by kernel_rfl)) rfl (fun ac A18 => ?_)
    refine s_one (.int .i64 i) A18 S9 (g_move (by kernel_rfl)) rfl (fun ac A19 => ?_)
    refine s_one (.pointer (some ⟨g3, 1, none⟩)) A19 S9 (g_field (u := .pointer (some ⟨g3, 0, none⟩)) (by kernel_rfl) (fun _ => by kernel_rfl)) rfl (fun ac A20 => ?_)
    refine s_one (.int .i64 st) A20 S9 (g_load (g := g3) (off := 1) 0 (by kernel_rfl) rfl (by kernel_rfl)) rfl (fun ac A21 => ?_)
    refine s_one (.int .i64 (i * st)) A21 S9 (g_bin (u := .int .i64 i) (k := .int .i64 st) (by kernel_rfl) (by kernel_rfl) (fun _ => by kernel_rfl) (b_mul (by omega))) rfl (fun ac A22 => ?_)
    refine s_one (.int .i64 (f + (i * st))) A22 S9 (g_bin (u := .int .i64 f) (k := .int .i64 (i * st)) (by kernel_rfl) (by kernel_rfl) (fun _ => by kernel_rfl) (b_add (by omega))) rfl (fun ac A23 => ?_)
    refine s_one (.int .i64 (f + (i * st))) A23 S9 (g_assign (by kernel_rfl)) rfl (fun ac A24 => ?_)
    refine s_one (.int .i64 0) A24 S9 (g_assign (by kernel_rfl)) rfl (fun ac A25 => ?_)
    refine wpList_nil ?_
    refine n_then ?_
    refine wp_ret ?_
    refine fin2 (.int .i64 (f + (i * st))) (.int .i64 0) Try.results36 A25 S9 (rv_tmp (by kernel_rfl)) (rv_tmp (by kernel_rfl)) ⟨?_, S9.kp⟩
    have e : refTimeOf_a_r f st i = (f + (i * st), 0) := by unfold refTimeOf_a_r; exact ((bif_f h12).trans rfl)
    rw [e]

def refRounded_a_r (n : Int) (d : Int) : Int := (2 * n + d) / (2 * d)

set_option maxRecDepth 100000 in
set_option maxHeartbeats 400000 in
theorem refRounded_a (n : Int) (d : Int) (w0 : World) (h0 : 1 ≤ d) (h1 : d ≤ 100000000000000) (h2 : -10000000000000000 ≤ n) (h3 : n ≤ 10000000000000000) :
    Calls Try.prog 71 #[.int .i64 n, .int .i64 d] w0 fun e w' => e = .returned (.int .i64 (refRounded_a_r n d)) ∧ Below w0.heap.size w0 w' := by
  have S0 := St.start w0
  refine enter (n := 12) Try.func71 rfl rfl rfl (fun ac A0 => ?_)
  refine wp_seq ?_
  refine wp_region_lit ?_
  refine s_one (.int .i64 0) A0 S0 (g_assign (by kernel_rfl)) rfl (fun ac A1 => ?_)
  refine wpList_nil ?_
  refine n_then ?_
  refine wp_seq ?_
  refine wp_region_lit ?_
  refine s_one (.int .i64 n) A1 S0 (g_move (by kernel_rfl)) rfl (fun ac A2 => ?_)
  refine s_one (.int .i64 (2 * n)) A2 S0 (g_bin (u := .int .i64 2) (k := .int .i64 n) (by kernel_rfl) (by kernel_rfl) (fun _ => by kernel_rfl) (b_mul (by omega))) rfl (fun ac A3 => ?_)
  refine s_one (.int .i64 d) A3 S0 (g_move (by kernel_rfl)) rfl (fun ac A4 => ?_)
  refine s_one (.int .i64 (2 * n + d)) A4 S0 (g_bin (u := .int .i64 (2 * n)) (k := .int .i64 d) (by kernel_rfl) (by kernel_rfl) (fun _ => by kernel_rfl) (b_add (by omega))) rfl (fun ac A5 => ?_)
  refine s_one (.int .i64 d) A5 S0 (g_move (by kernel_rfl)) rfl (fun ac A6 => ?_)
  refine s_one (.int .i64 (2 * d)) A6 S0 (g_bin (u := .int .i64 2) (k := .int .i64 d) (by kernel_rfl) (by kernel_rfl) (fun _ => by kernel_rfl) (b_mul (by omega))) rfl (fun ac A7 => ?_)
  refine s_call (fs := #[]) (cp := #[]) (r := [(0, .int .i64 (2 * n + d)), (0, .int .i64 (2 * d))]) #[.int .i64 (2 * n + d), .int .i64 (2 * d)] (.int .i64 ((2 * n + d) / (2 * d))) A7 S0 (sameB (Floor_any (2 * n + d) (2 * d) _ (by omega) (by omega) (by omega))) Try.call73 (by kernel_rfl) (by kernel_rfl) (by kernel_rfl) rfl (fun ac wc A8 S9 => ?_)
  refine s_one (.int .i64 ((2 * n + d) / (2 * d))) A8 S9 (g_assign (by kernel_rfl)) rfl (fun ac A11 => ?_)
  refine wpList_nil ?_
  refine n_then ?_
  refine wp_ret ?_
  refine fin1 (.int .i64 ((2 * n + d) / (2 * d))) Try.results71 A11 S9 (rv_tmp (by kernel_rfl)) ⟨?_, S9.kp⟩
  have e : refRounded_a_r n d = ((2 * n + d) / (2 * d)) := by unfold refRounded_a_r; exact rfl
  rw [e]

def refNearest_a_r (f : Int) (st : Int) (t : Int) : Int × Int := bif !(inB (refRounded_a_r (t - f) st) 0 63) then (0, 12) else ((refRounded_a_r (t - f) st), 0)

set_option maxRecDepth 100000 in
set_option maxHeartbeats 400000 in
theorem refNearest_a (f : Int) (st : Int) (t : Int) (w0 : World) (h0 : 0 ≤ f) (h1 : f ≤ 1000000000000) (h2 : 1 ≤ st) (h3 : st ≤ 100000000) (h4 : -1000000000000 ≤ t) (h5 : t ≤ 1000000000000) :
    Calls Try.prog 38 #[.agg #[.int .i64 f, .int .i64 st], .int .i64 t] w0 fun e w' => e = .returned (.tuple #[.int .i64 ((refNearest_a_r f st t).1), .int .i64 ((refNearest_a_r f st t).2)]) ∧ Below w0.heap.size w0 w' := by
  have S0 := St.start w0
  refine enter (n := 18) Try.func38 rfl rfl rfl (fun ac A0 => ?_)
  refine wp_seq ?_
  refine wp_region_lit ?_
  refine s_box (.agg #[.int .i64 f, .int .i64 st]) A0 S0 (by kernel_rfl) rfl (fun g3 ac wc A1 S2 => ?_)
  replace S2 : St _ (⟨g3, 67, #[.int .i64 f, .int .i64 st], true⟩ :: _) _ _ := S2
  refine s_one (.int .i64 0) A1 S2 (g_assign (by kernel_rfl)) rfl (fun ac A5 => ?_)
  refine s_one (.int .i64 0) A5 S2 (g_assign (by kernel_rfl)) rfl (fun ac A6 => ?_)
  refine wpList_nil ?_
  refine n_then ?_
  refine wp_seq ?_
  refine wp_region_lit ?_
  refine s_one (.int .i64 t) A6 S2 (g_move (by kernel_rfl)) rfl (fun ac A7 => ?_)
  refine s_one (.pointer (some ⟨g3, 0, none⟩)) A7 S2 (g_field (u := .pointer (some ⟨g3, 0, none⟩)) (by kernel_rfl) (fun _ => by kernel_rfl)) rfl (fun ac A8 => ?_)
  refine s_one (.int .i64 f) A8 S2 (g_load (g := g3) (off := 0) 0 (by kernel_rfl) rfl (by kernel_rfl)) rfl (fun ac A9 => ?_)
  refine s_one (.int .i64 (t - f)) A9 S2 (g_bin (u := .int .i64 t) (k := .int .i64 f) (by kernel_rfl) (by kernel_rfl) (fun _ => by kernel_rfl) (b_sub (by omega))) rfl (fun ac A10 => ?_)
  refine s_one (.pointer (some ⟨g3, 1, none⟩)) A10 S2 (g_field (u := .pointer (some ⟨g3, 0, none⟩)) (by kernel_rfl) (fun _ => by kernel_rfl)) rfl (fun ac A11 => ?_)
  refine s_one (.int .i64 st) A11 S2 (g_load (g := g3) (off := 1) 0 (by kernel_rfl) rfl (by kernel_rfl)) rfl (fun ac A12 => ?_)
  refine s_call (fs := #[]) (cp := #[]) (r := [(0, .int .i64 (t - f)), (0, .int .i64 st)]) #[.int .i64 (t - f), .int .i64 st] (.int .i64 (refRounded_a_r (t - f) st)) A12 S2 (refRounded_a (t - f) st _ (by omega) (by omega) (by omega) (by omega)) Try.call71 (by kernel_rfl) (by kernel_rfl) (by kernel_rfl) rfl (fun ac wc A13 S14 => ?_)
  refine s_one (.int .i64 (refRounded_a_r (t - f) st)) A13 S14 (g_assign (by kernel_rfl)) rfl (fun ac A16 => ?_)
  refine wpList_nil ?_
  refine n_then ?_
  refine wp_seq ?_
  refine wp_seq ?_
  refine wp_region_lit ?_
  refine s_one (.int .i64 (refRounded_a_r (t - f) st)) A16 S14 (g_move (by kernel_rfl)) rfl (fun ac A17 => ?_)
  refine s_call (fs := #[]) (cp := #[]) (r := [(0, .int .i64 (refRounded_a_r (t - f) st)), (0, .int .i64 0), (0, .int .i64 63)]) #[.int .i64 (refRounded_a_r (t - f) st), .int .i64 0, .int .i64 63] (.bool (inB (refRounded_a_r (t - f) st) 0 63)) A17 S14 (sameB (Within_any (refRounded_a_r (t - f) st) 0 63 _)) Try.call22 (by kernel_rfl) (by kernel_rfl) (by kernel_rfl) rfl (fun ac wc A18 S19 => ?_)
  refine s_one (.bool (!(inB (refRounded_a_r (t - f) st) 0 63))) A18 S19 (g_un (u := .bool (inB (refRounded_a_r (t - f) st) 0 63)) (by kernel_rfl) (fun _ => by kernel_rfl)) rfl (fun ac A21 => ?_)
  refine wpList_nil ?_
  refine n_then ?_
  refine c_ifb (b := (!(inB (refRounded_a_r (t - f) st) 0 63))) A21 (by kernel_rfl) (fun h22 => ?_) (fun h22 => ?_)
  · have h23 : inB (refRounded_a_r (t - f) st) 0 63 = false := by simpa using h22
    refine wp_seq ?_
    refine wp_region_lit ?_
    refine s_one (.int .i64 0) A21 S19 (g_assign (by kernel_rfl)) rfl (fun ac A24 => ?_)
    refine s_one (.int .i64 12) A24 S19 (g_assign (by kernel_rfl)) rfl (fun ac A25 => ?_)
    refine wpList_nil ?_
    refine n_then ?_
    refine wp_ret ?_
    refine r_then ?_
    refine fin2 (.int .i64 0) (.int .i64 12) Try.results38 A25 S19 (rv_tmp (by kernel_rfl)) (rv_tmp (by kernel_rfl)) ⟨?_, S19.kp⟩
    have e : refNearest_a_r f st t = (0, 12) := by unfold refNearest_a_r; exact ((bif_t h22).trans rfl)
    rw [e]
  · have h26 : inB (refRounded_a_r (t - f) st) 0 63 = true := by simpa using h22
    refine wp_skip ?_
    refine n_then ?_
    refine wp_seq ?_
    refine wp_region_lit ?_
    refine s_one (.int .i64 (refRounded_a_r (t - f) st)) A21 S19 (g_move (by kernel_rfl)) rfl (fun ac A27 => ?_)
    refine s_one (.int .i64 (refRounded_a_r (t - f) st)) A27 S19 (g_assign (by kernel_rfl)) rfl (fun ac A28 => ?_)
    refine s_one (.int .i64 0) A28 S19 (g_assign (by kernel_rfl)) rfl (fun ac A29 => ?_)
    refine wpList_nil ?_
    refine n_then ?_
    refine wp_ret ?_
    refine fin2 (.int .i64 (refRounded_a_r (t - f) st)) (.int .i64 0) Try.results38 A29 S19 (rv_tmp (by kernel_rfl)) (rv_tmp (by kernel_rfl)) ⟨?_, S19.kp⟩
    have e : refNearest_a_r f st t = ((refRounded_a_r (t - f) st), 0) := by unfold refNearest_a_r; exact ((bif_f h22).trans rfl)
    rw [e]

def Ceil_a_r (n : Int) (d : Int) : Int := -((-n) / d)

set_option maxRecDepth 100000 in
set_option maxHeartbeats 400000 in
theorem Ceil_a (n : Int) (d : Int) (w0 : World) (h0 : 1 ≤ d) (h2 : -10000000000000000 ≤ n) (h3 : n ≤ 10000000000000000) (hq : -100000000000000000 ≤ -n / d ∧ -n / d ≤ 100000000000000000) :
    Calls Try.prog 72 #[.int .i64 n, .int .i64 d] w0 fun e w' => e = .returned (.int .i64 (Ceil_a_r n d)) ∧ Below w0.heap.size w0 w' := by
  have S0 := St.start w0
  refine enter (n := 10) Try.func72 rfl rfl rfl (fun ac A0 => ?_)
  refine wp_seq ?_
  refine wp_region_lit ?_
  refine s_one (.int .i64 0) A0 S0 (g_assign (by kernel_rfl)) rfl (fun ac A1 => ?_)
  refine wpList_nil ?_
  refine n_then ?_
  refine wp_seq ?_
  refine wp_region_lit ?_
  refine s_one (.int .i64 n) A1 S0 (g_move (by kernel_rfl)) rfl (fun ac A2 => ?_)
  refine s_one (.int .i64 (-n)) A2 S0 (g_un (u := .int .i64 n) (by kernel_rfl) (u_neg (by omega))) rfl (fun ac A3 => ?_)
  refine s_one (.int .i64 d) A3 S0 (g_move (by kernel_rfl)) rfl (fun ac A4 => ?_)
  refine s_call (fs := #[]) (cp := #[]) (r := [(0, .int .i64 (-n)), (0, .int .i64 d)]) #[.int .i64 (-n), .int .i64 d] (.int .i64 ((-n) / d)) A4 S0 (sameB (Floor_any (-n) d _ (by omega) (by omega) (by omega))) Try.call73 (by kernel_rfl) (by kernel_rfl) (by kernel_rfl) rfl (fun ac wc A5 S6 => ?_)
  refine s_one (.int .i64 (-((-n) / d))) A5 S6 (g_un (u := .int .i64 ((-n) / d)) (by kernel_rfl) (u_neg (by omega))) rfl (fun ac A8 => ?_)
  refine s_one (.int .i64 (-((-n) / d))) A8 S6 (g_assign (by kernel_rfl)) rfl (fun ac A9 => ?_)
  refine wpList_nil ?_
  refine n_then ?_
  refine wp_ret ?_
  refine fin1 (.int .i64 (-((-n) / d))) Try.results72 A9 S6 (rv_tmp (by kernel_rfl)) ⟨?_, S6.kp⟩
  have e : Ceil_a_r n d = (-((-n) / d)) := by unfold Ceil_a_r; exact rfl
  rw [e]

theorem refSamp_eq (f st : Int) : refCheckSampling_a_r f st = sampErr f st := by
  unfold refCheckSampling_a_r sampErr
  cases inB f 0 1000000000000 <;> cases inB st 1 100000000 <;> rfl
theorem refTimeErr_eq (t : Int) : refTimeErr_a_r t = tErr t := by
  unfold refTimeErr_a_r tErr
  cases inB t (-1000000000000) 1000000000000 <;> rfl

theorem refCheckSampling_e (f st : Int) (w : World) : Calls Try.prog 34 #[.agg #[.int .i64 f, .int .i64 st]] w fun e w' => e = .returned (.int .i64 (sampErr f st)) ∧ Below w.heap.size w w' := by
  have := refCheckSampling_a f st w; rw [refSamp_eq] at this; exact this
theorem refTimeErr_e (t : Int) (w : World) : Calls Try.prog 37 #[.int .i64 t] w fun e w' => e = .returned (.int .i64 (tErr t)) ∧ Below w.heap.size w w' := by
  have := refTimeErr_a t w; rw [refTimeErr_eq] at this; exact this

theorem refT_bd {lo hi : Int} (h : (decide (tErr lo ≠ 0) || decide (tErr hi ≠ 0)) = false) : tErr lo = 0 ∧ tErr hi = 0 := by
  simpa using h

def refGateOf_a_r (f : Int) (st : Int) (lo : Int) (hi : Int) : Int × Int × Int := bif (decide (tErr lo ≠ 0)) || (decide (tErr hi ≠ 0)) then (0, 0, 2) else (if lo > hi then (0, 0, 9) else (if mx 0 (Ceil_a_r (lo - f) st) > mn 60 ((hi - f) / st) then (0, 0, 12) else (mx 0 (Ceil_a_r (lo - f) st), mn 60 ((hi - f) / st), 0)))

set_option maxRecDepth 100000 in
set_option maxHeartbeats 400000 in
theorem refGateOf_a (f : Int) (st : Int) (lo : Int) (hi : Int) (w0 : World) (h0 : 0 ≤ f) (h1 : f ≤ 1000000000000) (h2 : 1 ≤ st) :
    Calls Try.prog 39 #[.agg #[.int .i64 f, .int .i64 st], .agg #[.int .i64 lo, .int .i64 hi]] w0 fun e w' => e = .returned (.tuple #[.agg #[.int .i64 ((refGateOf_a_r f st lo hi).1), .int .i64 ((refGateOf_a_r f st lo hi).2.1)], .int .i64 ((refGateOf_a_r f st lo hi).2.2)]) ∧ Below w0.heap.size w0 w' := by
  have S0 := St.start w0
  refine enter (n := 50) Try.func39 rfl rfl rfl (fun ac A0 => ?_)
  refine wp_seq ?_
  refine wp_region_lit ?_
  refine s_box (.agg #[.int .i64 f, .int .i64 st]) A0 S0 (by kernel_rfl) rfl (fun g3 ac wc A1 S2 => ?_)
  replace S2 : St _ (⟨g3, 67, #[.int .i64 f, .int .i64 st], true⟩ :: _) _ _ := S2
  refine s_box (.agg #[.int .i64 lo, .int .i64 hi]) A1 S2 (by kernel_rfl) rfl (fun g7 ac wc A5 S6 => ?_)
  replace S6 : St _ (⟨g7, 69, #[.int .i64 lo, .int .i64 hi], true⟩ :: _) _ _ := S6
  refine s_alloc (#[.int .i64 0, .int .i64 0]) A5 S6 (by kernel_rfl) rfl (fun g11 ac wc A9 S10 => ?_)
  refine s_one (.int .i64 0) A9 S10 (g_assign (by kernel_rfl)) rfl (fun ac A12 => ?_)
  refine wpList_nil ?_
  refine n_then ?_
  refine wp_seq ?_
  refine wp_seq ?_
  refine c_cut (fun ac wc => Fr 50 ac [(16, .bool ((decide (tErr lo ≠ 0)) || (decide (tErr hi ≠ 0)))), (0, .agg #[.int .i64 f, .int .i64 st]), (1, .agg #[.int .i64 lo, .int .i64 hi]), (2, .pointer (some ⟨g3, 0, none⟩)), (3, .pointer (some ⟨g7, 0, none⟩)), (4, .pointer (some ⟨g11, 0, none⟩)), (5, .int .i64 0)] ∧ St w0 [⟨g11, 51, #[.int .i64 0, .int .i64 0], true⟩, ⟨g7, 69, #[.int .i64 lo, .int .i64 hi], true⟩, ⟨g3, 67, #[.int .i64 f, .int .i64 st], true⟩] [] wc) ?_ ?_
  · refine wp_region_lit ?_
    refine s_one (.pointer (some ⟨g7, 0, none⟩)) A12 S10 (g_field (u := .pointer (some ⟨g7, 0, none⟩)) (by kernel_rfl) (fun _ => by kernel_rfl)) rfl (fun ac A13 => ?_)
    refine s_one (.int .i64 lo) A13 S10 (g_load (g := g7) (off := 0) 1 (by kernel_rfl) rfl (by kernel_rfl)) rfl (fun ac A14 => ?_)
    refine s_call (fs := #[]) (cp := #[]) (r := [(0, .int .i64 lo)]) #[.int .i64 lo] (.int .i64 (tErr lo)) A14 S10 (refTimeErr_e lo _) Try.call37 (by kernel_rfl) (by kernel_rfl) (by kernel_rfl) rfl (fun ac wc A15 S16 => ?_)
    refine s_one (.bool (decide (tErr lo ≠ 0))) A15 S16 (g_bin (u := .int .i64 (tErr lo)) (k := .int .i64 0) (by kernel_rfl) (by kernel_rfl) (fun _ => by kernel_rfl) b_neq) rfl (fun ac A18 => ?_)
    refine s_one (.bool (decide (tErr lo ≠ 0))) A18 S16 (g_move (by kernel_rfl)) rfl (fun ac A19 => ?_)
    refine by_bool (decide (tErr lo ≠ 0)) (fun h20 => ?_) (fun h20 => ?_)
    · have p21 := of_decide_eq_true h20
      refine s_not (dj := 11) (b := (decide (tErr lo ≠ 0))) A19 (by kernel_rfl) (by kernel_rfl) h20 rfl (fun ac A22 => ?_)
      refine s_not (dj := 11) (b := (decide (tErr lo ≠ 0))) A22 (by kernel_rfl) (by kernel_rfl) h20 rfl (fun ac A23 => ?_)
      refine s_not (dj := 11) (b := (decide (tErr lo ≠ 0))) A23 (by kernel_rfl) (by kernel_rfl) h20 rfl (fun ac A24 => ?_)
      refine s_not (dj := 11) (b := (decide (tErr lo ≠ 0))) A24 (by kernel_rfl) (by kernel_rfl) h20 rfl (fun ac A25 => ?_)
      refine s_one (.bool true) A25 S16 (g_pick_t (b := (decide (tErr lo ≠ 0))) (by kernel_rfl) h20 (by kernel_rfl)) rfl (fun ac A26 => ?_)
      refine wpList_nil ?_
      refine n_then ?_
      exact ⟨(A26.slot (A26.slot (A26.slot (A26.slot (A26.slot (A26.slot (A26.slot A26.nil (v := .int .i64 0) (by kernel_rfl) rfl) (v := .pointer (some ⟨g11, 0, none⟩)) (by kernel_rfl) rfl) (v := .pointer (some ⟨g7, 0, none⟩)) (by kernel_rfl) rfl) (v := .pointer (some ⟨g3, 0, none⟩)) (by kernel_rfl) rfl) (v := .agg #[.int .i64 lo, .int .i64 hi]) (by kernel_rfl) rfl) (v := .agg #[.int .i64 f, .int .i64 st]) (by kernel_rfl) rfl) (v := .bool true) (by kernel_rfl) (congrArg Value.bool (b_ot1 h20).symm)), S16.sub sub_all sub_all⟩
    · have p27 := of_decide_eq_false h20
      refine s_want (dj := 11) (b := (decide (tErr lo ≠ 0))) A19 (by kernel_rfl) (by kernel_rfl) h20 ?_
      refine s_one (.pointer (some ⟨g7, 1, none⟩)) A19 S16 (g_field (u := .pointer (some ⟨g7, 0, none⟩)) (by kernel_rfl) (fun _ => by kernel_rfl)) rfl (fun ac A28 => ?_)
      refine s_want (dj := 11) (b := (decide (tErr lo ≠ 0))) A28 (by kernel_rfl) (by kernel_rfl) h20 ?_
      refine s_one (.int .i64 hi) A28 S16 (g_load (g := g7) (off := 1) 1 (by kernel_rfl) rfl (by kernel_rfl)) rfl (fun ac A29 => ?_)
      refine s_want (dj := 11) (b := (decide (tErr lo ≠ 0))) A29 (by kernel_rfl) (by kernel_rfl) h20 ?_
      refine s_call (fs := #[]) (cp := #[]) (r := [(0, .int .i64 hi)]) #[.int .i64 hi] (.int .i64 (tErr hi)) A29 S16 (refTimeErr_e hi _) Try.call37 (by kernel_rfl) (by kernel_rfl) (by kernel_rfl) rfl (fun ac wc A30 S31 => ?_)
      refine s_want (dj := 11) (b := (decide (tErr lo ≠ 0))) A30 (by kernel_rfl) (by kernel_rfl) h20 ?_
      refine s_one (.bool (decide (tErr hi ≠ 0))) A30 S31 (g_bin (u := .int .i64 (tErr hi)) (k := .int .i64 0) (by kernel_rfl) (by kernel_rfl) (fun _ => by kernel_rfl) b_neq) rfl (fun ac A33 => ?_)
      refine s_one (.bool (decide (tErr hi ≠ 0))) A33 S31 (g_pick_f (b := (decide (tErr lo ≠ 0))) (by kernel_rfl) h20 (by kernel_rfl)) rfl (fun ac A34 => ?_)
      refine wpList_nil ?_
      refine n_then ?_
      exact ⟨(A34.slot (A34.slot (A34.slot (A34.slot (A34.slot (A34.slot (A34.slot A34.nil (v := .int .i64 0) (by kernel_rfl) rfl) (v := .pointer (some ⟨g11, 0, none⟩)) (by kernel_rfl) rfl) (v := .pointer (some ⟨g7, 0, none⟩)) (by kernel_rfl) rfl) (v := .pointer (some ⟨g3, 0, none⟩)) (by kernel_rfl) rfl) (v := .agg #[.int .i64 lo, .int .i64 hi]) (by kernel_rfl) rfl) (v := .agg #[.int .i64 f, .int .i64 st]) (by kernel_rfl) rfl) (v := .bool (decide (tErr hi ≠ 0))) (by kernel_rfl) (congrArg Value.bool (b_or_f h20 (Eq.refl (decide (tErr hi ≠ 0)))).symm)), S31.sub sub_all sub_all⟩
  · rintro ac wc ⟨A35, S36⟩
    refine n_then ?_
    refine c_ifb (b := ((decide (tErr lo ≠ 0)) || (decide (tErr hi ≠ 0)))) A35 (by kernel_rfl) (fun h37 => ?_) (fun h37 => ?_)
    · refine wp_seq ?_
      refine wp_region_lit ?_
      refine s_one (.agg #[.int .i64 0, .int .i64 0]) A35 S36 (g_build (r := []) (by kernel_rfl) (fun _ => by kernel_rfl)) rfl (fun ac A38 => ?_)
      refine s_store (g := g11) (off := 0) (v := .agg #[.int .i64 0, .int .i64 0]) 0 (#[.int .i64 0, .int .i64 0]) A38 S36 (by kernel_rfl) (by kernel_rfl) rfl (by kernel_rfl) (fun wc S40 => ?_)
      refine s_one (.int .i64 2) A38 S40 (g_assign (by kernel_rfl)) rfl (fun ac A42 => ?_)
      refine wpList_nil ?_
      refine n_then ?_
      refine wp_ret ?_
      refine r_then ?_
      refine fin2 (.agg #[.int .i64 0, .int .i64 0]) (.int .i64 2) Try.results39 A42 S40 (rv_cell (g := g11) (off := 0) 0 (by kernel_rfl) rfl (by kernel_rfl)) (rv_tmp (by kernel_rfl)) ⟨?_, S40.kp⟩
      have e : refGateOf_a_r f st lo hi = (0, 0, 2) := by unfold refGateOf_a_r; exact ((bif_t h37).trans rfl)
      rw [e]
    · have h43 := (Bool.or_eq_false_iff.1 h37).1
      have p44 := of_decide_eq_false h43
      have h45 := (Bool.or_eq_false_iff.1 h37).2
      have p46 := of_decide_eq_false h45
      have hz := refT_bd h37
      have hz1 := tErr_zero hz.1
      have hz2 := tErr_zero hz.2
      refine wp_skip ?_
      refine n_then ?_
      refine wp_seq ?_
      refine wp_seq ?_
      refine wp_region_lit ?_
      refine s_one (.pointer (some ⟨g7, 0, none⟩)) A35 S36 (g_field (u := .pointer (some ⟨g7, 0, none⟩)) (by kernel_rfl) (fun _ => by kernel_rfl)) rfl (fun ac A47 => ?_)
      refine s_one (.int .i64 lo) A47 S36 (g_load (g := g7) (off := 0) 1 (by kernel_rfl) rfl (by kernel_rfl)) rfl (fun ac A48 => ?_)
      refine s_one (.pointer (some ⟨g7, 1, none⟩)) A48 S36 (g_field (u := .pointer (some ⟨g7, 0, none⟩)) (by kernel_rfl) (fun _ => by kernel_rfl)) rfl (fun ac A49 => ?_)
      refine s_one (.int .i64 hi) A49 S36 (g_load (g := g7) (off := 1) 1 (by kernel_rfl) rfl (by kernel_rfl)) rfl (fun ac A50 => ?_)
      refine s_one (.bool (decide (lo > hi))) A50 S36 (g_bin (u := .int .i64 lo) (k := .int .i64 hi) (by kernel_rfl) (by kernel_rfl) (fun _ => by kernel_rfl) (fun _ => by kernel_rfl)) rfl (fun ac A51 => ?_)
      refine wpList_nil ?_
      refine n_then ?_
      refine c_ifb (b := (decide (lo > hi))) A51 (by kernel_rfl) (fun h52 => ?_) (fun h52 => ?_)
      · have p53 := of_decide_eq_true h52
        refine wp_seq ?_
        refine wp_region_lit ?_
        refine s_one (.agg #[.int .i64 0, .int .i64 0]) A51 S36 (g_build (r := []) (by kernel_rfl) (fun _ => by kernel_rfl)) rfl (fun ac A54 => ?_)
        refine s_store (g := g11) (off := 0) (v := .agg #[.int .i64 0, .int .i64 0]) 0 (#[.int .i64 0, .int .i64 0]) A54 S36 (by kernel_rfl) (by kernel_rfl) rfl (by kernel_rfl) (fun wc S56 => ?_)
        refine s_one (.int .i64 9) A54 S56 (g_assign (by kernel_rfl)) rfl (fun ac A58 => ?_)
        refine wpList_nil ?_
        refine n_then ?_
        refine wp_ret ?_
        refine r_then ?_
        refine fin2 (.agg #[.int .i64 0, .int .i64 0]) (.int .i64 9) Try.results39 A58 S56 (rv_cell (g := g11) (off := 0) 0 (by kernel_rfl) rfl (by kernel_rfl)) (rv_tmp (by kernel_rfl)) ⟨?_, S56.kp⟩
        have e : refGateOf_a_r f st lo hi = (0, 0, 9) := by unfold refGateOf_a_r; exact ((bif_f h37).trans ((if_pos (of_decide_eq_true h52)).trans rfl))
        rw [e]
      · have p59 := of_decide_eq_false h52
        refine wp_skip ?_
        refine n_then ?_
        refine wp_seq ?_
        refine r_begin (w0 := w0) (by kernel_rfl) (S36.sub sub_all sub_all) (fun wc T60 B61 => ?_)
        have S62 := S36.kept B61
        refine r_take 0 (.pointer (some ⟨g7, 0, none⟩)) A51 T60 (g_field (u := .pointer (some ⟨g7, 0, none⟩)) (by kernel_rfl) (fun _ => by kernel_rfl)) rfl rfl rfl (pf_then pf_body) (by kernel_rfl) (fun ac A63 => ?_)
        refine r_take 1 (.int .i64 lo) A63 T60 (g_load (g := g7) (off := 0) 1 (by kernel_rfl) rfl (by kernel_rfl)) rfl rfl rfl (pf_then pf_body) (by kernel_rfl) (fun ac A64 => ?_)
        refine r_take 2 (.pointer (some ⟨g3, 0, none⟩)) A64 T60 (g_field (u := .pointer (some ⟨g3, 0, none⟩)) (by kernel_rfl) (fun _ => by kernel_rfl)) rfl rfl rfl (pf_then pf_body) (by kernel_rfl) (fun ac A65 => ?_)
        refine r_take 3 (.int .i64 f) A65 T60 (g_load (g := g3) (off := 0) 2 (by kernel_rfl) rfl (by kernel_rfl)) rfl rfl rfl (pf_then pf_body) (by kernel_rfl) (fun ac A66 => ?_)
        refine r_take 4 (.int .i64 (lo - f)) A66 T60 (g_bin (u := .int .i64 lo) (k := .int .i64 f) (by kernel_rfl) (by kernel_rfl) (fun _ => by kernel_rfl) (b_sub (by omega))) rfl rfl rfl (pf_then pf_body) (by kernel_rfl) (fun ac A67 => ?_)
        refine r_take 5 (.pointer (some ⟨g3, 1, none⟩)) A67 T60 (g_field (u := .pointer (some ⟨g3, 0, none⟩)) (by kernel_rfl) (fun _ => by kernel_rfl)) rfl rfl rfl (pf_then pf_body) (by kernel_rfl) (fun ac A68 => ?_)
        refine r_take 6 (.int .i64 st) A68 T60 (g_load (g := g3) (off := 1) 2 (by kernel_rfl) rfl (by kernel_rfl)) rfl rfl rfl (pf_then pf_body) (by kernel_rfl) (fun ac A69 => ?_)
        refine r_take 9 (.pointer (some ⟨g7, 1, none⟩)) A69 T60 (g_field (u := .pointer (some ⟨g7, 0, none⟩)) (by kernel_rfl) (fun _ => by kernel_rfl)) rfl rfl rfl (pf_then pf_body) (by kernel_rfl) (fun ac A70 => ?_)
        refine r_take 10 (.int .i64 hi) A70 T60 (g_load (g := g7) (off := 1) 1 (by kernel_rfl) rfl (by kernel_rfl)) rfl rfl rfl (pf_then pf_body) (by kernel_rfl) (fun ac A71 => ?_)
        refine r_take 11 (.pointer (some ⟨g3, 0, none⟩)) A71 T60 (g_field (u := .pointer (some ⟨g3, 0, none⟩)) (by kernel_rfl) (fun _ => by kernel_rfl)) rfl rfl rfl (pf_then pf_body) (by kernel_rfl) (fun ac A72 => ?_)
        refine r_take 12 (.int .i64 f) A72 T60 (g_load (g := g3) (off := 0) 2 (by kernel_rfl) rfl (by kernel_rfl)) rfl rfl rfl (pf_then pf_body) (by kernel_rfl) (fun ac A73 => ?_)
        refine r_take 13 (.int .i64 (hi - f)) A73 T60 (g_bin (u := .int .i64 hi) (k := .int .i64 f) (by kernel_rfl) (by kernel_rfl) (fun _ => by kernel_rfl) (b_sub (by omega))) rfl rfl rfl (pf_then pf_body) (by kernel_rfl) (fun ac A74 => ?_)
        refine r_take 14 (.pointer (some ⟨g3, 1, none⟩)) A74 T60 (g_field (u := .pointer (some ⟨g3, 0, none⟩)) (by kernel_rfl) (fun _ => by kernel_rfl)) rfl rfl rfl (pf_then pf_body) (by kernel_rfl) (fun ac A75 => ?_)
        refine r_take 15 (.int .i64 st) A75 T60 (g_load (g := g3) (off := 1) 2 (by kernel_rfl) rfl (by kernel_rfl)) rfl rfl rfl (pf_then pf_body) (by kernel_rfl) (fun ac A76 => ?_)
        refine r_2 (i := 7) (j := 19) (by kernel_rfl) ?_ ?_
        · refine rs_call (fs := #[]) (cp := #[]) (r := [(0, .int .i64 (lo - f)), (0, .int .i64 st)]) #[.int .i64 (lo - f), .int .i64 st] (.int .i64 (Ceil_a_r (lo - f) st)) A76 S62 sub_all sub_all (Ceil_a (lo - f) st _ (by omega) (by omega) (by omega) (ediv_bound (by omega) (by omega) (by omega))) Try.call72 rfl rfl (by kernel_rfl) (by kernel_rfl) (by kernel_rfl) rfl (fun ac wc A77 S78 => ?_)
          have T80 := S78.sub sub_all sub_all
          refine r_take 8 (.int .i64 (mx 0 (Ceil_a_r (lo - f) st))) A77 T80 (g_built (r := [(0, .int .i64 0), (0, .int .i64 (Ceil_a_r (lo - f) st))]) (by kernel_rfl) (fun ty cs w => by show (do let x ← Builtin.max_ _ ty #[.int .i64 0, .int .i64 (Ceil_a_r (lo - f) st)]; pure (Next.value x) : Sem Next).run _ w = _; rw [Sem.run_bind, run_max_mx]; rfl)) rfl rfl rfl (pf_then pf_body) (by kernel_rfl) (fun ac A81 => ?_)
          refine r_2 (i := 16) (j := 19) (by kernel_rfl) ?_ ?_
          · refine rs_call (fs := #[]) (cp := #[]) (r := [(0, .int .i64 (hi - f)), (0, .int .i64 st)]) #[.int .i64 (hi - f), .int .i64 st] (.int .i64 ((hi - f) / st)) A81 S78 sub_all sub_all (sameB (Floor_any (hi - f) st _ (by omega) (by omega) (by omega))) Try.call73 rfl rfl (by kernel_rfl) (by kernel_rfl) (by kernel_rfl) rfl (fun ac wc A82 S83 => ?_)
            have T85 := S83.sub sub_all sub_all
            refine r_take 17 (.int .i64 (mn 60 ((hi - f) / st))) A82 T85 (g_built (r := [(0, .int .i64 60), (0, .int .i64 ((hi - f) / st))]) (by kernel_rfl) (fun ty cs w => by show (do let x ← Builtin.min_ _ ty #[.int .i64 60, .int .i64 ((hi - f) / st)]; pure (Next.value x) : Sem Next).run _ w = _; rw [Sem.run_bind, run_min_mn]; rfl)) rfl rfl rfl (pf_then pf_body) (by kernel_rfl) (fun ac A86 => ?_)
            refine r_take 18 (.agg #[.int .i64 (mx 0 (Ceil_a_r (lo - f) st)), .int .i64 (mn 60 ((hi - f) / st))]) A86 T85 (g_build (r := [(0, .int .i64 (mx 0 (Ceil_a_r (lo - f) st))), (1, .int .i64 (mn 60 ((hi - f) / st)))]) (by kernel_rfl) (fun _ => by kernel_rfl)) rfl rfl rfl (pf_then pf_body) (by kernel_rfl) (fun ac A87 => ?_)
            refine r_1 (i := 19) (by kernel_rfl) ?_
            refine rs_alloc (#[.int .i64 0, .int .i64 0]) A87 S83 sub_all sub_all (by kernel_rfl) rfl rfl rfl (fun g90 ac wc A88 S89 => ?_)
            have T91 := S89.sub (sub_skip sub_all) sub_all
            refine r_1 (i := 20) (by kernel_rfl) ?_
            refine rs_store (g := g90) (off := 0) (v := .agg #[.int .i64 (mx 0 (Ceil_a_r (lo - f) st)), .int .i64 (mn 60 ((hi - f) / st))]) 0 (#[.int .i64 (mx 0 (Ceil_a_r (lo - f) st)), .int .i64 (mn 60 ((hi - f) / st))]) A88 S89 (sub_skip sub_all) sub_all (by kernel_rfl) (by kernel_rfl) rfl (by kernel_rfl) rfl rfl (fun wc S93 => ?_)
            have T95 := S93.sub (sub_skip sub_all) sub_all
            refine r_done (by kernel_rfl) ?_
            refine n_then ?_
            refine wp_seq ?_
            refine wp_seq ?_
            refine wp_region_lit ?_
            refine s_one (.pointer (some ⟨g90, 0, none⟩)) A88 S93 (g_field (u := .pointer (some ⟨g90, 0, none⟩)) (by kernel_rfl) (fun _ => by kernel_rfl)) rfl (fun ac A96 => ?_)
            refine s_one (.int .i64 (mx 0 (Ceil_a_r (lo - f) st))) A96 S93 (g_load (g := g90) (off := 0) 0 (by kernel_rfl) rfl (by kernel_rfl)) rfl (fun ac A97 => ?_)
            refine s_one (.pointer (some ⟨g90, 1, none⟩)) A97 S93 (g_field (u := .pointer (some ⟨g90, 0, none⟩)) (by kernel_rfl) (fun _ => by kernel_rfl)) rfl (fun ac A98 => ?_)
            refine s_one (.int .i64 (mn 60 ((hi - f) / st))) A98 S93 (g_load (g := g90) (off := 1) 0 (by kernel_rfl) rfl (by kernel_rfl)) rfl (fun ac A99 => ?_)
            refine s_one (.bool (decide (mx 0 (Ceil_a_r (lo - f) st) > mn 60 ((hi - f) / st)))) A99 S93 (g_bin (u := .int .i64 (mx 0 (Ceil_a_r (lo - f) st))) (k := .int .i64 (mn 60 ((hi - f) / st))) (by kernel_rfl) (by kernel_rfl) (fun _ => by kernel_rfl) (fun _ => by kernel_rfl)) rfl (fun ac A100 => ?_)
            refine wpList_nil ?_
            refine n_then ?_
            refine c_ifb (b := (decide (mx 0 (Ceil_a_r (lo - f) st) > mn 60 ((hi - f) / st)))) A100 (by kernel_rfl) (fun h101 => ?_) (fun h101 => ?_)
            · have p102 := of_decide_eq_true h101
              refine wp_seq ?_
              refine wp_region_lit ?_
              refine s_one (.agg #[.int .i64 0, .int .i64 0]) A100 S93 (g_build (r := []) (by kernel_rfl) (fun _ => by kernel_rfl)) rfl (fun ac A103 => ?_)
              refine s_store (g := g11) (off := 0) (v := .agg #[.int .i64 0, .int .i64 0]) 1 (#[.int .i64 0, .int .i64 0]) A103 S93 (by kernel_rfl) (by kernel_rfl) rfl (by kernel_rfl) (fun wc S105 => ?_)
              refine s_one (.int .i64 12) A103 S105 (g_assign (by kernel_rfl)) rfl (fun ac A107 => ?_)
              refine wpList_nil ?_
              refine n_then ?_
              refine wp_ret ?_
              refine r_then ?_
              refine fin2 (.agg #[.int .i64 0, .int .i64 0]) (.int .i64 12) Try.results39 A107 S105 (rv_cell (g := g11) (off := 0) 1 (by kernel_rfl) rfl (by kernel_rfl)) (rv_tmp (by kernel_rfl)) ⟨?_, S105.kp⟩
              have e : refGateOf_a_r f st lo hi = (0, 0, 12) := by unfold refGateOf_a_r; exact ((bif_f h37).trans ((if_neg (of_decide_eq_false h52)).trans ((if_pos (of_decide_eq_true h101)).trans rfl)))
              rw [e]
            · have p108 := of_decide_eq_false h101
              refine wp_skip ?_
              refine n_then ?_
              refine wp_seq ?_
              refine wp_region_lit ?_
              refine s_one (.agg #[.int .i64 (mx 0 (Ceil_a_r (lo - f) st)), .int .i64 (mn 60 ((hi - f) / st))]) A100 S93 (g_load (g := g90) (off := 0) 0 (by kernel_rfl) rfl (by kernel_rfl)) rfl (fun ac A109 => ?_)
              refine s_store (g := g11) (off := 0) (v := .agg #[.int .i64 (mx 0 (Ceil_a_r (lo - f) st)), .int .i64 (mn 60 ((hi - f) / st))]) 1 (#[.int .i64 (mx 0 (Ceil_a_r (lo - f) st)), .int .i64 (mn 60 ((hi - f) / st))]) A109 S93 (by kernel_rfl) (by kernel_rfl) rfl (by kernel_rfl) (fun wc S111 => ?_)
              refine s_one (.int .i64 0) A109 S111 (g_assign (by kernel_rfl)) rfl (fun ac A113 => ?_)
              refine wpList_nil ?_
              refine n_then ?_
              refine wp_ret ?_
              refine fin2 (.agg #[.int .i64 (mx 0 (Ceil_a_r (lo - f) st)), .int .i64 (mn 60 ((hi - f) / st))]) (.int .i64 0) Try.results39 A113 S111 (rv_cell (g := g11) (off := 0) 1 (by kernel_rfl) rfl (by kernel_rfl)) (rv_tmp (by kernel_rfl)) ⟨?_, S111.kp⟩
              have e : refGateOf_a_r f st lo hi = (mx 0 (Ceil_a_r (lo - f) st), mn 60 ((hi - f) / st), 0) := by unfold refGateOf_a_r; exact ((bif_f h37).trans ((if_neg (of_decide_eq_false h52)).trans ((if_neg (of_decide_eq_false h101)).trans rfl)))
              rw [e]
          · refine rs_alloc (#[.int .i64 0, .int .i64 0]) A81 S78 sub_all sub_all (by kernel_rfl) rfl rfl rfl (fun g116 ac wc A114 S115 => ?_)
            have T117 := S115.sub (sub_skip sub_all) sub_all
            refine r_1 (i := 16) (by kernel_rfl) ?_
            refine rs_call (fs := #[]) (cp := #[]) (r := [(0, .int .i64 (hi - f)), (0, .int .i64 st)]) #[.int .i64 (hi - f), .int .i64 st] (.int .i64 ((hi - f) / st)) A114 S115 (sub_skip sub_all) sub_all (sameB (Floor_any (hi - f) st _ (by omega) (by omega) (by omega))) Try.call73 rfl rfl (by kernel_rfl) (by kernel_rfl) (by kernel_rfl) rfl (fun ac wc A118 S119 => ?_)
            have T121 := S119.sub (sub_skip sub_all) sub_all
            refine r_take 17 (.int .i64 (mn 60 ((hi - f) / st))) A118 T121 (g_built (r := [(0, .int .i64 60), (0, .int .i64 ((hi - f) / st))]) (by kernel_rfl) (fun ty cs w => by show (do let x ← Builtin.min_ _ ty #[.int .i64 60, .int .i64 ((hi - f) / st)]; pure (Next.value x) : Sem Next).run _ w = _; rw [Sem.run_bind, run_min_mn]; rfl)) rfl rfl rfl (pf_then pf_body) (by kernel_rfl) (fun ac A122 => ?_)
            refine r_take 18 (.agg #[.int .i64 (mx 0 (Ceil_a_r (lo - f) st)), .int .i64 (mn 60 ((hi - f) / st))]) A122 T121 (g_build (r := [(0, .int .i64 (mx 0 (Ceil_a_r (lo - f) st))), (1, .int .i64 (mn 60 ((hi - f) / st)))]) (by kernel_rfl) (fun _ => by kernel_rfl)) rfl rfl rfl (pf_then pf_body) (by kernel_rfl) (fun ac A123 => ?_)
            refine r_1 (i := 20) (by kernel_rfl) ?_
            refine rs_store (g := g116) (off := 0) (v := .agg #[.int .i64 (mx 0 (Ceil_a_r (lo - f) st)), .int .i64 (mn 60 ((hi - f) / st))]) 0 (#[.int .i64 (mx 0 (Ceil_a_r (lo - f) st)), .int .i64 (mn 60 ((hi - f) / st))]) A123 S119 (sub_skip sub_all) sub_all (by kernel_rfl) (by kernel_rfl) rfl (by kernel_rfl) rfl rfl (fun wc S125 => ?_)
            have T127 := S125.sub (sub_skip sub_all) sub_all
            refine r_done (by kernel_rfl) ?_
            refine n_then ?_
            refine wp_seq ?_
            refine wp_seq ?_
            refine wp_region_lit ?_
            refine s_one (.pointer (some ⟨g116, 0, none⟩)) A123 S125 (g_field (u := .pointer (some ⟨g116, 0, none⟩)) (by kernel_rfl) (fun _ => by kernel_rfl)) rfl (fun ac A128 => ?_)
            refine s_one (.int .i64 (mx 0 (Ceil_a_r (lo - f) st))) A128 S125 (g_load (g := g116) (off := 0) 0 (by kernel_rfl) rfl (by kernel_rfl)) rfl (fun ac A129 => ?_)
            refine s_one (.pointer (some ⟨g116, 1, none⟩)) A129 S125 (g_field (u := .pointer (some ⟨g116, 0, none⟩)) (by kernel_rfl) (fun _ => by kernel_rfl)) rfl (fun ac A130 => ?_)
            refine s_one (.int .i64 (mn 60 ((hi - f) / st))) A130 S125 (g_load (g := g116) (off := 1) 0 (by kernel_rfl) rfl (by kernel_rfl)) rfl (fun ac A131 => ?_)
            refine s_one (.bool (decide (mx 0 (Ceil_a_r (lo - f) st) > mn 60 ((hi - f) / st)))) A131 S125 (g_bin (u := .int .i64 (mx 0 (Ceil_a_r (lo - f) st))) (k := .int .i64 (mn 60 ((hi - f) / st))) (by kernel_rfl) (by kernel_rfl) (fun _ => by kernel_rfl) (fun _ => by kernel_rfl)) rfl (fun ac A132 => ?_)
            refine wpList_nil ?_
            refine n_then ?_
            refine c_ifb (b := (decide (mx 0 (Ceil_a_r (lo - f) st) > mn 60 ((hi - f) / st)))) A132 (by kernel_rfl) (fun h133 => ?_) (fun h133 => ?_)
            · have p134 := of_decide_eq_true h133
              refine wp_seq ?_
              refine wp_region_lit ?_
              refine s_one (.agg #[.int .i64 0, .int .i64 0]) A132 S125 (g_build (r := []) (by kernel_rfl) (fun _ => by kernel_rfl)) rfl (fun ac A135 => ?_)
              refine s_store (g := g11) (off := 0) (v := .agg #[.int .i64 0, .int .i64 0]) 1 (#[.int .i64 0, .int .i64 0]) A135 S125 (by kernel_rfl) (by kernel_rfl) rfl (by kernel_rfl) (fun wc S137 => ?_)
              refine s_one (.int .i64 12) A135 S137 (g_assign (by kernel_rfl)) rfl (fun ac A139 => ?_)
              refine wpList_nil ?_
              refine n_then ?_
              refine wp_ret ?_
              refine r_then ?_
              refine fin2 (.agg #[.int .i64 0, .int .i64 0]) (.int .i64 12) Try.results39 A139 S137 (rv_cell (g := g11) (off := 0) 1 (by kernel_rfl) rfl (by kernel_rfl)) (rv_tmp (by kernel_rfl)) ⟨?_, S137.kp⟩
              have e : refGateOf_a_r f st lo hi = (0, 0, 12) := by unfold refGateOf_a_r; exact ((bif_f h37).trans ((if_neg (of_decide_eq_false h52)).trans ((if_pos (of_decide_eq_true h133)).trans rfl)))
              rw [e]
            · have p140 := of_decide_eq_false h133
              refine wp_skip ?_
              refine n_then ?_
              refine wp_seq ?_
              refine wp_region_lit ?_
              refine s_one (.agg #[.int .i64 (mx 0 (Ceil_a_r (lo - f) st)), .int .i64 (mn 60 ((hi - f) / st))]) A132 S125 (g_load (g := g116) (off := 0) 0 (by kernel_rfl) rfl (by kernel_rfl)) rfl (fun ac A141 => ?_)
              refine s_store (g := g11) (off := 0) (v := .agg #[.int .i64 (mx 0 (Ceil_a_r (lo - f) st)), .int .i64 (mn 60 ((hi - f) / st))]) 1 (#[.int .i64 (mx 0 (Ceil_a_r (lo - f) st)), .int .i64 (mn 60 ((hi - f) / st))]) A141 S125 (by kernel_rfl) (by kernel_rfl) rfl (by kernel_rfl) (fun wc S143 => ?_)
              refine s_one (.int .i64 0) A141 S143 (g_assign (by kernel_rfl)) rfl (fun ac A145 => ?_)
              refine wpList_nil ?_
              refine n_then ?_
              refine wp_ret ?_
              refine fin2 (.agg #[.int .i64 (mx 0 (Ceil_a_r (lo - f) st)), .int .i64 (mn 60 ((hi - f) / st))]) (.int .i64 0) Try.results39 A145 S143 (rv_cell (g := g11) (off := 0) 1 (by kernel_rfl) rfl (by kernel_rfl)) (rv_tmp (by kernel_rfl)) ⟨?_, S143.kp⟩
              have e : refGateOf_a_r f st lo hi = (mx 0 (Ceil_a_r (lo - f) st), mn 60 ((hi - f) / st), 0) := by unfold refGateOf_a_r; exact ((bif_f h37).trans ((if_neg (of_decide_eq_false h52)).trans ((if_neg (of_decide_eq_false h133)).trans rfl)))
              rw [e]
        · refine rs_alloc (#[.int .i64 0, .int .i64 0]) A76 S62 sub_all sub_all (by kernel_rfl) rfl rfl rfl (fun g148 ac wc A146 S147 => ?_)
          have T149 := S147.sub (sub_skip sub_all) sub_all
          refine r_1 (i := 7) (by kernel_rfl) ?_
          refine rs_call (fs := #[]) (cp := #[]) (r := [(0, .int .i64 (lo - f)), (0, .int .i64 st)]) #[.int .i64 (lo - f), .int .i64 st] (.int .i64 (Ceil_a_r (lo - f) st)) A146 S147 (sub_skip sub_all) sub_all (Ceil_a (lo - f) st _ (by omega) (by omega) (by omega) (ediv_bound (by omega) (by omega) (by omega))) Try.call72 rfl rfl (by kernel_rfl) (by kernel_rfl) (by kernel_rfl) rfl (fun ac wc A150 S151 => ?_)
          have T153 := S151.sub (sub_skip sub_all) sub_all
          refine r_take 8 (.int .i64 (mx 0 (Ceil_a_r (lo - f) st))) A150 T153 (g_built (r := [(0, .int .i64 0), (0, .int .i64 (Ceil_a_r (lo - f) st))]) (by kernel_rfl) (fun ty cs w => by show (do let x ← Builtin.max_ _ ty #[.int .i64 0, .int .i64 (Ceil_a_r (lo - f) st)]; pure (Next.value x) : Sem Next).run _ w = _; rw [Sem.run_bind, run_max_mx]; rfl)) rfl rfl rfl (pf_then pf_body) (by kernel_rfl) (fun ac A154 => ?_)
          refine r_1 (i := 16) (by kernel_rfl) ?_
          refine rs_call (fs := #[]) (cp := #[]) (r := [(0, .int .i64 (hi - f)), (0, .int .i64 st)]) #[.int .i64 (hi - f), .int .i64 st] (.int .i64 ((hi - f) / st)) A154 S151 (sub_skip sub_all) sub_all (sameB (Floor_any (hi - f) st _ (by omega) (by omega) (by omega))) Try.call73 rfl rfl (by kernel_rfl) (by kernel_rfl) (by kernel_rfl) rfl (fun ac wc A155 S156 => ?_)
          have T158 := S156.sub (sub_skip sub_all) sub_all
          refine r_take 17 (.int .i64 (mn 60 ((hi - f) / st))) A155 T158 (g_built (r := [(0, .int .i64 60), (0, .int .i64 ((hi - f) / st))]) (by kernel_rfl) (fun ty cs w => by show (do let x ← Builtin.min_ _ ty #[.int .i64 60, .int .i64 ((hi - f) / st)]; pure (Next.value x) : Sem Next).run _ w = _; rw [Sem.run_bind, run_min_mn]; rfl)) rfl rfl rfl (pf_then pf_body) (by kernel_rfl) (fun ac A159 => ?_)
          refine r_take 18 (.agg #[.int .i64 (mx 0 (Ceil_a_r (lo - f) st)), .int .i64 (mn 60 ((hi - f) / st))]) A159 T158 (g_build (r := [(0, .int .i64 (mx 0 (Ceil_a_r (lo - f) st))), (1, .int .i64 (mn 60 ((hi - f) / st)))]) (by kernel_rfl) (fun _ => by kernel_rfl)) rfl rfl rfl (pf_then pf_body) (by kernel_rfl) (fun ac A160 => ?_)
          refine r_1 (i := 20) (by kernel_rfl) ?_
          refine rs_store (g := g148) (off := 0) (v := .agg #[.int .i64 (mx 0 (Ceil_a_r (lo - f) st)), .int .i64 (mn 60 ((hi - f) / st))]) 0 (#[.int .i64 (mx 0 (Ceil_a_r (lo - f) st)), .int .i64 (mn 60 ((hi - f) / st))]) A160 S156 (sub_skip sub_all) sub_all (by kernel_rfl) (by kernel_rfl) rfl (by kernel_rfl) rfl rfl (fun wc S162 => ?_)
          have T164 := S162.sub (sub_skip sub_all) sub_all
          refine r_done (by kernel_rfl) ?_
          refine n_then ?_
          refine wp_seq ?_
          refine wp_seq ?_
          refine wp_region_lit ?_
          refine s_one (.pointer (some ⟨g148, 0, none⟩)) A160 S162 (g_field (u := .pointer (some ⟨g148, 0, none⟩)) (by kernel_rfl) (fun _ => by kernel_rfl)) rfl (fun ac A165 => ?_)
          refine s_one (.int .i64 (mx 0 (Ceil_a_r (lo - f) st))) A165 S162 (g_load (g := g148) (off := 0) 0 (by kernel_rfl) rfl (by kernel_rfl)) rfl (fun ac A166 => ?_)
          refine s_one (.pointer (some ⟨g148, 1, none⟩)) A166 S162 (g_field (u := .pointer (some ⟨g148, 0, none⟩)) (by kernel_rfl) (fun _ => by kernel_rfl)) rfl (fun ac A167 => ?_)
          refine s_one (.int .i64 (mn 60 ((hi - f) / st))) A167 S162 (g_load (g := g148) (off := 1) 0 (by kernel_rfl) rfl (by kernel_rfl)) rfl (fun ac A168 => ?_)
          refine s_one (.bool (decide (mx 0 (Ceil_a_r (lo - f) st) > mn 60 ((hi - f) / st)))) A168 S162 (g_bin (u := .int .i64 (mx 0 (Ceil_a_r (lo - f) st))) (k := .int .i64 (mn 60 ((hi - f) / st))) (by kernel_rfl) (by kernel_rfl) (fun _ => by kernel_rfl) (fun _ => by kernel_rfl)) rfl (fun ac A169 => ?_)
          refine wpList_nil ?_
          refine n_then ?_
          refine c_ifb (b := (decide (mx 0 (Ceil_a_r (lo - f) st) > mn 60 ((hi - f) / st)))) A169 (by kernel_rfl) (fun h170 => ?_) (fun h170 => ?_)
          · have p171 := of_decide_eq_true h170
            refine wp_seq ?_
            refine wp_region_lit ?_
            refine s_one (.agg #[.int .i64 0, .int .i64 0]) A169 S162 (g_build (r := []) (by kernel_rfl) (fun _ => by kernel_rfl)) rfl (fun ac A172 => ?_)
            refine s_store (g := g11) (off := 0) (v := .agg #[.int .i64 0, .int .i64 0]) 1 (#[.int .i64 0, .int .i64 0]) A172 S162 (by kernel_rfl) (by kernel_rfl) rfl (by kernel_rfl) (fun wc S174 => ?_)
            refine s_one (.int .i64 12) A172 S174 (g_assign (by kernel_rfl)) rfl (fun ac A176 => ?_)
            refine wpList_nil ?_
            refine n_then ?_
            refine wp_ret ?_
            refine r_then ?_
            refine fin2 (.agg #[.int .i64 0, .int .i64 0]) (.int .i64 12) Try.results39 A176 S174 (rv_cell (g := g11) (off := 0) 1 (by kernel_rfl) rfl (by kernel_rfl)) (rv_tmp (by kernel_rfl)) ⟨?_, S174.kp⟩
            have e : refGateOf_a_r f st lo hi = (0, 0, 12) := by unfold refGateOf_a_r; exact ((bif_f h37).trans ((if_neg (of_decide_eq_false h52)).trans ((if_pos (of_decide_eq_true h170)).trans rfl)))
            rw [e]
          · have p177 := of_decide_eq_false h170
            refine wp_skip ?_
            refine n_then ?_
            refine wp_seq ?_
            refine wp_region_lit ?_
            refine s_one (.agg #[.int .i64 (mx 0 (Ceil_a_r (lo - f) st)), .int .i64 (mn 60 ((hi - f) / st))]) A169 S162 (g_load (g := g148) (off := 0) 0 (by kernel_rfl) rfl (by kernel_rfl)) rfl (fun ac A178 => ?_)
            refine s_store (g := g11) (off := 0) (v := .agg #[.int .i64 (mx 0 (Ceil_a_r (lo - f) st)), .int .i64 (mn 60 ((hi - f) / st))]) 1 (#[.int .i64 (mx 0 (Ceil_a_r (lo - f) st)), .int .i64 (mn 60 ((hi - f) / st))]) A178 S162 (by kernel_rfl) (by kernel_rfl) rfl (by kernel_rfl) (fun wc S180 => ?_)
            refine s_one (.int .i64 0) A178 S180 (g_assign (by kernel_rfl)) rfl (fun ac A182 => ?_)
            refine wpList_nil ?_
            refine n_then ?_
            refine wp_ret ?_
            refine fin2 (.agg #[.int .i64 (mx 0 (Ceil_a_r (lo - f) st)), .int .i64 (mn 60 ((hi - f) / st))]) (.int .i64 0) Try.results39 A182 S180 (rv_cell (g := g11) (off := 0) 1 (by kernel_rfl) rfl (by kernel_rfl)) (rv_tmp (by kernel_rfl)) ⟨?_, S180.kp⟩
            have e : refGateOf_a_r f st lo hi = (mx 0 (Ceil_a_r (lo - f) st), mn 60 ((hi - f) / st), 0) := by unfold refGateOf_a_r; exact ((bif_f h37).trans ((if_neg (of_decide_eq_false h52)).trans ((if_neg (of_decide_eq_false h170)).trans rfl)))
            rw [e]

theorem TimeOf_ok {f st : Int} (i : Int) (h : sampErr f st = 0) : TimeOf_a_r f st i = refTimeOf_a_r f st i := by
  unfold TimeOf_a_r; rw [if_neg (by rw [h]; simp)]; rfl
theorem TimeOf_bad {f st : Int} (i : Int) (h : sampErr f st ≠ 0) : TimeOf_a_r f st i = (0, sampErr f st) := if_pos h
theorem fo2_0 {e f : Int} (h : e = 0) : firstOf [e, f] = f := by subst h; simp only [firstOf, if_true]; split <;> simp_all
theorem fo_ne {e : Int} {l : List Int} (h : e ≠ 0) : firstOf (e :: l) = e := by simp only [firstOf, if_neg h]
theorem Nearest_bad {f st : Int} (t : Int) (h : sampErr f st ≠ 0) : Nearest_a_r f st t = (0, sampErr f st) := by
  unfold Nearest_a_r; rw [fo_ne h, if_pos h]
theorem Nearest_bad2 {f st t : Int} (h : sampErr f st = 0) (h2 : tErr t ≠ 0) : Nearest_a_r f st t = (0, tErr t) := by
  unfold Nearest_a_r; rw [fo2_0 h, if_pos h2]
theorem Nearest_ok {f st t : Int} (h : sampErr f st = 0) (h2 : tErr t = 0) : Nearest_a_r f st t = refNearest_a_r f st t := by
  unfold Nearest_a_r; rw [fo2_0 h, if_neg (by rw [h2]; simp)]; rfl
theorem gate_bad {f st lo hi : Int} (h : sampErr f st ≠ 0) : gateRes f st lo hi = ((0, 0), sampErr f st) := by
  unfold gateRes; rw [fo_ne h, if_neg h]
theorem firstOf_cons0 {e : Int} {l : List Int} (h : e = 0) : firstOf (e :: l) = firstOf l := by subst h; simp only [firstOf, if_true]
theorem gate_ok {f st lo hi : Int} (h : sampErr f st = 0) : ([(gateRes f st lo hi).1.1, (gateRes f st lo hi).1.2] : List Int) = [(refGateOf_a_r f st lo hi).1, (refGateOf_a_r f st lo hi).2.1] ∧ (gateRes f st lo hi).2 = (refGateOf_a_r f st lo hi).2.2 := by
  unfold gateRes refGateOf_a_r
  rw [firstOf_cons0 h]
  have e1 : tErr lo = 0 ∨ tErr lo = 2 := by unfold tErr; split <;> simp
  have e2 : tErr hi = 0 ∨ tErr hi = 2 := by unfold tErr; split <;> simp
  rcases e1 with e1 | e1 <;> rcases e2 with e2 | e2 <;> rw [e1, e2]
  · rw [if_pos (show firstOf [(0 : Int), 0] = 0 by decide)]
    simp only [ne_eq, not_true_eq_false, decide_false, Bool.or_self, cond_false]
    unfold gateA gateB Ceil_a_r
    rw [show -(lo - f) = f - lo by omega]
    by_cases q : hi < lo
    · rw [if_pos q, if_pos (show lo > hi from q)]; exact ⟨rfl, rfl⟩
    · rw [if_neg q, if_neg (show ¬ lo > hi from q)]
      by_cases q2 : mn 60 ((hi - f) / st) < mx 0 (-((f - lo) / st))
      · rw [if_pos q2, if_pos (show mx 0 (-((f - lo) / st)) > mn 60 ((hi - f) / st) from q2)]; exact ⟨rfl, rfl⟩
      · rw [if_neg q2, if_neg (show ¬ mx 0 (-((f - lo) / st)) > mn 60 ((hi - f) / st) from q2)]; exact ⟨rfl, rfl⟩
  · rw [if_neg (show ¬ firstOf [(0 : Int), 2] = 0 by decide)]; simp [firstOf]
  · rw [if_neg (show ¬ firstOf [(2 : Int), 0] = 0 by decide)]; simp [firstOf]
  · rw [if_neg (show ¬ firstOf [(2 : Int), 2] = 0 by decide)]; simp [firstOf]
/-- The nearest sample of a sample's time is it. -/
theorem near_self {f st i : Int} (h : sampErr f st = 0) (hi : 0 ≤ i ∧ i ≤ 63) (ht : f + i * st ≤ 1000000000000) : Nearest_a_r f st (f + i * st) = (i, 0) := by
  have hs := sampErr_zero h
  have hm := mul_bd (x := i) (y := st) (a := 63) (b := 100000000) (by omega) (by omega) (by omega) (by omega)
  have e : tErr (f + i * st) = 0 := by unfold tErr; rw [if_pos (inB_true.2 (by omega))]
  have r : rounded_a_r (f + i * st - f) st = i := by
    unfold rounded_a_r
    rw [show 2 * (f + i * st - f) + st = st + i * (2 * st) by rw [show f + i * st - f = i * st by omega, Int.mul_left_comm]; omega, Int.add_mul_ediv_right _ _ (by omega), Int.ediv_eq_zero_of_lt (by omega) (by omega)]
    omega
  unfold Nearest_a_r
  rw [fo2_0 h, if_neg (by rw [e]; simp), r, inB_true.2 hi]
  rfl
theorem near_of {f st i : Int} (h : sampErr f st = 0) (h2 : (refTimeOf_a_r f st i).2 = 0) (h3 : ¬ (TimeOf_a_r f st i).1 > 1000000000000) : Nearest_a_r f st (TimeOf_a_r f st i).1 = (i, 0) := by
  rw [TimeOf_ok i h] at h3 ⊢
  unfold refTimeOf_a_r at *
  cases q : inB i 0 63 with
  | false => rw [q] at h2; simp at h2
  | true => rw [q] at h3; exact near_self h (inB_true.1 q) (by simpa using h3)

end Go.Proofs.Ytfooefkgdcjlhaa
