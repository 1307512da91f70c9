/- Legs, references of modes and ways, turns and echoes of chapter 1. -/
import Derived.Test.YtnfmfkejhgbipaaRay8
namespace Go.Proofs.Ytnfmfkejhgbipaa
open Go.RowKit Go.Cpl Go.Ray1

theorem fo_app (l r : List Int) : firstOf (l ++ r) = if firstOf l = 0 then firstOf r else firstOf l := by
  induction l with
  | nil => simp [firstOf]
  | cons e l ih =>
    by_cases h : e = 0
    · subst h; rw [List.cons_append, fo_cons0 rfl, fo_cons0 rfl, ih]
    · rw [List.cons_append, fo_ne h, fo_ne h, if_neg h]
theorem fo_a {l r : List Int} (h : firstOf l ≠ 0) : firstOf (l ++ r) = firstOf l := by rw [fo_app, if_neg h]
theorem fo_b {l r : List Int} (h : firstOf l = 0) : firstOf (l ++ r) = firstOf r := by rw [fo_app, if_pos h]
theorem must_t (e : Int) : must_a_r true e = 0 := rfl
theorem must_f (e : Int) : must_a_r false e = e := rfl
def lgE (ax az bx bz : Int) : Int := firstOf [spE ax az, spE bx bz]
def tmE (ax az bx bz v : Int) : Int := firstOf [spE ax az, spE bx bz, veE v]
theorem lgE_0 {ax az bx bz : Int} (h : lgE ax az bx bz = 0) : ((-100000 ≤ ax ∧ ax ≤ 100000) ∧ (-100000 ≤ az ∧ az ≤ 100000)) ∧ (-100000 ≤ bx ∧ bx ≤ 100000) ∧ (-100000 ≤ bz ∧ bz ≤ 100000) := by
  obtain ⟨h1, h⟩ := fo_zero h
  rw [fo_last] at h
  exact ⟨spE_0 h1, spE_0 h⟩
theorem tmE_0 {ax az bx bz v : Int} (h : tmE ax az bx bz v = 0) : (((-100000 ≤ ax ∧ ax ≤ 100000) ∧ (-100000 ≤ az ∧ az ≤ 100000)) ∧ (-100000 ≤ bx ∧ bx ≤ 100000) ∧ (-100000 ≤ bz ∧ bz ≤ 100000)) ∧ 500 ≤ v ∧ v ≤ 10000 := by
  obtain ⟨h1, h⟩ := fo_zero h
  obtain ⟨h2, h⟩ := fo_zero h
  rw [fo_last] at h
  exact ⟨⟨spE_0 h1, spE_0 h2⟩, veE_0 h⟩
def wr (x : Int) : Int := IntKind.i64.wrap x
theorem wr_in {x : Int} (h : -9223372036854775808 ≤ x ∧ x ≤ 9223372036854775807) : wr x = x := IntWalk.i64_in _ h
theorem b_subW {P : Program} {t : TypeId} {x y : Int} (w : World) : (binOp .sub t (.int .i64 x) (.int .i64 y)).run P w = .ok (.int .i64 (wr (x - y))) w := rfl

set_option maxRecDepth 100000 in
set_option maxHeartbeats 400000 in
theorem Length_s (ax az bx bz : Int) (w0 : World) :
    Calls Try.prog 34 #[.agg #[.int .i64 ax, .int .i64 az], .agg #[.int .i64 bx, .int .i64 bz]] w0 fun e w' => e = .returned (.tuple #[.agg #[.int .i64 (zv (lgE ax az bx bz) (lenL (ax - bx) (az - bz))), .int .i64 (zv (lgE ax az bx bz) (lenU (ax - bx) (az - bz)))], .int .i64 (lgE ax az bx bz)]) ∧ Below w0.heap.size w0 w' := by
  have S0 := St.start w0
  refine enter (n := 28) Try.func34 rfl rfl rfl (fun ac A0 => ?_)
  refine wp_seq ?_
  refine wp_region_lit ?_
  refine s_box (.agg #[.int .i64 ax, .int .i64 az]) A0 S0 (by kernel_rfl) rfl (fun g3 ac wc A1 S2 => ?_)
  replace S2 : St _ (⟨g3, 41, #[.int .i64 ax, .int .i64 az], true⟩ :: _) _ _ := S2
  refine s_box (.agg #[.int .i64 bx, .int .i64 bz]) A1 S2 (by kernel_rfl) rfl (fun g7 ac wc A5 S6 => ?_)
  replace S6 : St _ (⟨g7, 41, #[.int .i64 bx, .int .i64 bz], true⟩ :: _) _ _ := S6
  refine s_alloc (#[.int .i64 0, .int .i64 0]) A5 S6 (by kernel_rfl) rfl (fun g11 ac wc A9 S10 => ?_)
  refine s_one (.int .i64 0) A9 S10 (g_assign (by kernel_rfl)) rfl (fun ac A12 => ?_)
  refine wpList_nil ?_
  refine n_then ?_
  refine wp_seq ?_
  refine wp_seq ?_
  refine r_begin (w0 := w0) (by kernel_rfl) (S10.sub sub_all sub_all) (fun wc T13 B14 => ?_)
  have S15 := S10.kept B14
  refine r_take 0 (.agg #[.int .i64 ax, .int .i64 az]) A12 T13 (g_load (g := g3) (off := 0) 2 (by kernel_rfl) rfl (by kernel_rfl)) rfl rfl rfl (pf_then (pf_then pf_body)) (by kernel_rfl) (fun ac A16 => ?_)
  refine r_take 2 (.agg #[.int .i64 bx, .int .i64 bz]) A16 T13 (g_load (g := g7) (off := 0) 1 (by kernel_rfl) rfl (by kernel_rfl)) rfl rfl rfl (pf_then (pf_then pf_body)) (by kernel_rfl) (fun ac A17 => ?_)
  refine r_1 (i := 1) (by kernel_rfl) ?_
  refine rs_call (fs := #[]) (cp := #[]) (r := [(0, .agg #[.int .i64 ax, .int .i64 az])]) #[.agg #[.int .i64 ax, .int .i64 az]] (.int .i64 (spE ax az)) A17 S15 sub_all sub_all (spotErr_s ax az _) Try.call84 rfl rfl (by kernel_rfl) (by kernel_rfl) (by kernel_rfl) rfl (fun ac wc A18 S19 => ?_)
  have T21 := S19.sub sub_all sub_all
  refine r_1 (i := 3) (by kernel_rfl) ?_
  refine rs_call (fs := #[]) (cp := #[]) (r := [(0, .agg #[.int .i64 bx, .int .i64 bz])]) #[.agg #[.int .i64 bx, .int .i64 bz]] (.int .i64 (spE bx bz)) A18 S19 sub_all sub_all (spotErr_s bx bz _) Try.call84 rfl rfl (by kernel_rfl) (by kernel_rfl) (by kernel_rfl) rfl (fun ac wc A22 S23 => ?_)
  have T25 := S23.sub sub_all sub_all
  refine r_1 (i := 4) (by kernel_rfl) ?_
  refine rs_bs (e := 25) (r := [(0, .int .i64 (spE ax az)), (1, .int .i64 (spE bx bz))]) (#[.int .i64 (spE ax az), .int .i64 (spE bx bz)]) A22 S23 sub_all sub_all (by kernel_rfl) (by kernel_rfl) rfl rfl rfl (fun g28 ac wc A26 S27 => ?_)
  have T29 := S27.sub (sub_skip sub_all) sub_all
  refine r_1 (i := 5) (by kernel_rfl) ?_
  refine rs_call (fs := #[]) (cp := #[]) (r := [(0, .slice (some ⟨g28, 0, none⟩) 2 2)]) #[.slice (some ⟨g28, 0, none⟩) 2 2] (.int .i64 (firstOf [spE ax az, spE bx bz])) A26 S27 (sub_skip sub_all) sub_all (first_s g28 ([spE ax az, spE bx bz]) 2 2 _ (S27.get 0 rfl) rfl (by omega)) Try.call83 rfl rfl (by kernel_rfl) (by kernel_rfl) (by kernel_rfl) rfl (fun ac wc A30 S31 => ?_)
  have T33 := S31.sub (sub_skip sub_all) sub_all
  refine r_take 6 (.int .i64 (firstOf [spE ax az, spE bx bz])) A30 T33 (g_assign (by kernel_rfl)) rfl rfl rfl (pf_then (pf_then pf_body)) (by kernel_rfl) (fun ac A34 => ?_)
  refine r_done (by kernel_rfl) ?_
  refine n_then ?_
  refine wp_seq ?_
  refine wp_region_lit ?_
  refine s_one (.int .i64 (firstOf [spE ax az, spE bx bz])) A34 S31 (g_move (by kernel_rfl)) rfl (fun ac A35 => ?_)
  refine s_one (.bool (decide (firstOf [spE ax az, spE bx bz] ≠ 0))) A35 S31 (g_bin (u := .int .i64 (firstOf [spE ax az, spE bx bz])) (k := .int .i64 0) (by kernel_rfl) (by kernel_rfl) (fun _ => by kernel_rfl) b_neq) rfl (fun ac A36 => ?_)
  refine wpList_nil ?_
  refine n_then ?_
  refine c_ifb (b := (decide (firstOf [spE ax az, spE bx bz] ≠ 0))) A36 (by kernel_rfl) (fun h37 => ?_) (fun h37 => ?_)
  · have p38 := of_decide_eq_true h37
    refine wp_seq ?_
    refine wp_region_lit ?_
    refine s_one (.agg #[.int .i64 0, .int .i64 0]) A36 S31 (g_build (r := []) (by kernel_rfl) (fun _ => by kernel_rfl)) rfl (fun ac A39 => ?_)
    refine s_one (.int .i64 (firstOf [spE ax az, spE bx bz])) A39 S31 (g_move (by kernel_rfl)) rfl (fun ac A40 => ?_)
    refine s_store (g := g11) (off := 0) (v := .agg #[.int .i64 0, .int .i64 0]) 1 (#[.int .i64 0, .int .i64 0]) A40 S31 (by kernel_rfl) (by kernel_rfl) rfl (by kernel_rfl) (fun wc S42 => ?_)
    refine s_one (.int .i64 (firstOf [spE ax az, spE bx bz])) A40 S42 (g_assign (by kernel_rfl)) rfl (fun ac A44 => ?_)
    refine wpList_nil ?_
    refine n_then ?_
    refine wp_ret ?_
    refine r_then ?_
    refine fin2 (.agg #[.int .i64 0, .int .i64 0]) (.int .i64 (firstOf [spE ax az, spE bx bz])) Try.results34 A44 S42 (rv_cell (g := g11) (off := 0) 1 (by kernel_rfl) rfl (by kernel_rfl)) (rv_tmp (by kernel_rfl)) ⟨?_, S42.kp⟩
    have zn : lgE ax az bx bz ≠ 0 := p38
    simp only [zv_n zn]
    rfl
  · have p45 := of_decide_eq_false h37
    have ze0 : firstOf [spE ax az, spE bx bz] = 0 := by simpa using h37
    have ze : lgE ax az bx bz = 0 := ze0
    have zz := lgE_0 ze
    refine wp_skip ?_
    refine n_then ?_
    refine wp_seq ?_
    refine wp_region_lit ?_
    refine s_one (.pointer (some ⟨g3, 0, none⟩)) A36 S31 (g_field (u := .pointer (some ⟨g3, 0, none⟩)) (by kernel_rfl) (fun _ => by kernel_rfl)) rfl (fun ac A46 => ?_)
    refine s_one (.int .i64 ax) A46 S31 (g_load (g := g3) (off := 0) 3 (by kernel_rfl) rfl (by kernel_rfl)) rfl (fun ac A47 => ?_)
    refine s_one (.pointer (some ⟨g7, 0, none⟩)) A47 S31 (g_field (u := .pointer (some ⟨g7, 0, none⟩)) (by kernel_rfl) (fun _ => by kernel_rfl)) rfl (fun ac A48 => ?_)
    refine s_one (.int .i64 bx) A48 S31 (g_load (g := g7) (off := 0) 2 (by kernel_rfl) rfl (by kernel_rfl)) rfl (fun ac A49 => ?_)
    refine s_one (.int .i64 (ax - bx)) A49 S31 (g_bin (u := .int .i64 ax) (k := .int .i64 bx) (by kernel_rfl) (by kernel_rfl) (fun _ => by kernel_rfl) (b_sub (by omega))) rfl (fun ac A50 => ?_)
    refine s_one (.pointer (some ⟨g3, 1, none⟩)) A50 S31 (g_field (u := .pointer (some ⟨g3, 0, none⟩)) (by kernel_rfl) (fun _ => by kernel_rfl)) rfl (fun ac A51 => ?_)
    refine s_one (.int .i64 az) A51 S31 (g_load (g := g3) (off := 1) 3 (by kernel_rfl) rfl (by kernel_rfl)) rfl (fun ac A52 => ?_)
    refine s_one (.pointer (some ⟨g7, 1, none⟩)) A52 S31 (g_field (u := .pointer (some ⟨g7, 0, none⟩)) (by kernel_rfl) (fun _ => by kernel_rfl)) rfl (fun ac A53 => ?_)
    refine s_one (.int .i64 bz) A53 S31 (g_load (g := g7) (off := 1) 2 (by kernel_rfl) rfl (by kernel_rfl)) rfl (fun ac A54 => ?_)
    refine s_one (.int .i64 (az - bz)) A54 S31 (g_bin (u := .int .i64 az) (k := .int .i64 bz) (by kernel_rfl) (by kernel_rfl) (fun _ => by kernel_rfl) (b_sub (by omega))) rfl (fun ac A55 => ?_)
    have q59 := len_bd (x := ax - bx) (z := az - bz) (by omega) (by omega)
    refine s_call (fs := #[]) (cp := #[]) (r := [(0, .int .i64 (ax - bx)), (0, .int .i64 (az - bz))]) #[.int .i64 (ax - bx), .int .i64 (az - bz)] (.agg #[.int .i64 (lenL (ax - bx) (az - bz)), .int .i64 (lenU (ax - bx) (az - bz))]) A55 S31 (length_s (ax - bx) (az - bz) _ (by omega) (by omega) (by omega) (by omega)) Try.call87 (by kernel_rfl) (by kernel_rfl) (by kernel_rfl) rfl (fun ac wc A56 S57 => ?_)
    refine s_store (g := g11) (off := 0) (v := .agg #[.int .i64 (lenL (ax - bx) (az - bz)), .int .i64 (lenU (ax - bx) (az - bz))]) 1 (#[.int .i64 (lenL (ax - bx) (az - bz)), .int .i64 (lenU (ax - bx) (az - bz))]) A56 S57 (by kernel_rfl) (by kernel_rfl) rfl (by kernel_rfl) (fun wc S61 => ?_)
    refine s_one (.int .i64 0) A56 S61 (g_assign (by kernel_rfl)) rfl (fun ac A63 => ?_)
    refine wpList_nil ?_
    refine n_then ?_
    refine wp_ret ?_
    refine fin2 (.agg #[.int .i64 (lenL (ax - bx) (az - bz)), .int .i64 (lenU (ax - bx) (az - bz))]) (.int .i64 0) Try.results34 A63 S61 (rv_cell (g := g11) (off := 0) 1 (by kernel_rfl) rfl (by kernel_rfl)) (rv_tmp (by kernel_rfl)) ⟨?_, S61.kp⟩
    simp only [zv_0 ze]
    rw [ze]

set_option maxRecDepth 100000 in
set_option maxHeartbeats 400000 in
theorem TimeOf_s (ax az bx bz v : Int) (w0 : World) :
    Calls Try.prog 29 #[.agg #[.int .i64 ax, .int .i64 az], .agg #[.int .i64 bx, .int .i64 bz], .int .i64 v] w0 fun e w' => e = .returned (.tuple #[.agg #[.int .i64 (zv (tmE ax az bx bz v) (tLo (lenL (ax - bx) (az - bz)) v)), .int .i64 (zv (tmE ax az bx bz v) (tHi (lenU (ax - bx) (az - bz)) v))], .int .i64 (tmE ax az bx bz v)]) ∧ Below w0.heap.size w0 w' := by
  have S0 := St.start w0
  refine enter (n := 34) Try.func29 rfl rfl rfl (fun ac A0 => ?_)
  refine wp_seq ?_
  refine wp_region_lit ?_
  refine s_box (.agg #[.int .i64 ax, .int .i64 az]) A0 S0 (by kernel_rfl) rfl (fun g3 ac wc A1 S2 => ?_)
  replace S2 : St _ (⟨g3, 41, #[.int .i64 ax, .int .i64 az], true⟩ :: _) _ _ := S2
  refine s_box (.agg #[.int .i64 bx, .int .i64 bz]) A1 S2 (by kernel_rfl) rfl (fun g7 ac wc A5 S6 => ?_)
  replace S6 : St _ (⟨g7, 41, #[.int .i64 bx, .int .i64 bz], true⟩ :: _) _ _ := S6
  refine s_alloc (#[.int .i64 0, .int .i64 0]) A5 S6 (by kernel_rfl) rfl (fun g11 ac wc A9 S10 => ?_)
  refine s_one (.int .i64 0) A9 S10 (g_assign (by kernel_rfl)) rfl (fun ac A12 => ?_)
  refine wpList_nil ?_
  refine n_then ?_
  refine wp_seq ?_
  refine wp_seq ?_
  refine r_begin (w0 := w0) (by kernel_rfl) (S10.sub sub_all sub_all) (fun wc T13 B14 => ?_)
  have S15 := S10.kept B14
  refine r_take 0 (.agg #[.int .i64 ax, .int .i64 az]) A12 T13 (g_load (g := g3) (off := 0) 2 (by kernel_rfl) rfl (by kernel_rfl)) rfl rfl rfl (pf_then (pf_then pf_body)) (by kernel_rfl) (fun ac A16 => ?_)
  refine r_take 2 (.agg #[.int .i64 bx, .int .i64 bz]) A16 T13 (g_load (g := g7) (off := 0) 1 (by kernel_rfl) rfl (by kernel_rfl)) rfl rfl rfl (pf_then (pf_then pf_body)) (by kernel_rfl) (fun ac A17 => ?_)
  refine r_take 4 (.int .i64 v) A17 T13 (g_move (by kernel_rfl)) rfl rfl rfl (pf_then (pf_then pf_body)) (by kernel_rfl) (fun ac A18 => ?_)
  refine r_1 (i := 1) (by kernel_rfl) ?_
  refine rs_call (fs := #[]) (cp := #[]) (r := [(0, .agg #[.int .i64 ax, .int .i64 az])]) #[.agg #[.int .i64 ax, .int .i64 az]] (.int .i64 (spE ax az)) A18 S15 sub_all sub_all (spotErr_s ax az _) Try.call84 rfl rfl (by kernel_rfl) (by kernel_rfl) (by kernel_rfl) rfl (fun ac wc A19 S20 => ?_)
  have T22 := S20.sub sub_all sub_all
  refine r_1 (i := 3) (by kernel_rfl) ?_
  refine rs_call (fs := #[]) (cp := #[]) (r := [(0, .agg #[.int .i64 bx, .int .i64 bz])]) #[.agg #[.int .i64 bx, .int .i64 bz]] (.int .i64 (spE bx bz)) A19 S20 sub_all sub_all (spotErr_s bx bz _) Try.call84 rfl rfl (by kernel_rfl) (by kernel_rfl) (by kernel_rfl) rfl (fun ac wc A23 S24 => ?_)
  have T26 := S24.sub sub_all sub_all
  refine r_1 (i := 5) (by kernel_rfl) ?_
  refine rs_call (fs := #[]) (cp := #[]) (r := [(0, .int .i64 v)]) #[.int .i64 v] (.int .i64 (veE v)) A23 S24 sub_all sub_all (speedErr_s v _) Try.call85 rfl rfl (by kernel_rfl) (by kernel_rfl) (by kernel_rfl) rfl (fun ac wc A27 S28 => ?_)
  have T30 := S28.sub sub_all sub_all
  refine r_1 (i := 6) (by kernel_rfl) ?_
  refine rs_bs (e := 25) (r := [(0, .int .i64 (spE ax az)), (1, .int .i64 (spE bx bz)), (2, .int .i64 (veE v))]) (#[.int .i64 (spE ax az), .int .i64 (spE bx bz), .int .i64 (veE v)]) A27 S28 sub_all sub_all (by kernel_rfl) (by kernel_rfl) rfl rfl rfl (fun g33 ac wc A31 S32 => ?_)
  have T34 := S32.sub (sub_skip sub_all) sub_all
  refine r_1 (i := 7) (by kernel_rfl) ?_
  refine rs_call (fs := #[]) (cp := #[]) (r := [(0, .slice (some ⟨g33, 0, none⟩) 3 3)]) #[.slice (some ⟨g33, 0, none⟩) 3 3] (.int .i64 (firstOf [spE ax az, spE bx bz, veE v])) A31 S32 (sub_skip sub_all) sub_all (first_s g33 ([spE ax az, spE bx bz, veE v]) 3 3 _ (S32.get 0 rfl) rfl (by omega)) Try.call83 rfl rfl (by kernel_rfl) (by kernel_rfl) (by kernel_rfl) rfl (fun ac wc A35 S36 => ?_)
  have T38 := S36.sub (sub_skip sub_all) sub_all
  refine r_take 8 (.int .i64 (firstOf [spE ax az, spE bx bz, veE v])) A35 T38 (g_assign (by kernel_rfl)) rfl rfl rfl (pf_then (pf_then pf_body)) (by kernel_rfl) (fun ac A39 => ?_)
  refine r_done (by kernel_rfl) ?_
  refine n_then ?_
  refine wp_seq ?_
  refine wp_region_lit ?_
  refine s_one (.int .i64 (firstOf [spE ax az, spE bx bz, veE v])) A39 S36 (g_move (by kernel_rfl)) rfl (fun ac A40 => ?_)
  refine s_one (.bool (decide (firstOf [spE ax az, spE bx bz, veE v] ≠ 0))) A40 S36 (g_bin (u := .int .i64 (firstOf [spE ax az, spE bx bz, veE v])) (k := .int .i64 0) (by kernel_rfl) (by kernel_rfl) (fun _ => by kernel_rfl) b_neq) rfl (fun ac A41 => ?_)
  refine wpList_nil ?_
  refine n_then ?_
  refine c_ifb (b := (decide (firstOf [spE ax az, spE bx bz, veE v] ≠ 0))) A41 (by kernel_rfl) (fun h42 => ?_) (fun h42 => ?_)
  · have p43 := of_decide_eq_true h42
    refine wp_seq ?_
    refine wp_region_lit ?_
    refine s_one (.agg #[.int .i64 0, .int .i64 0]) A41 S36 (g_build (r := []) (by kernel_rfl) (fun _ => by kernel_rfl)) rfl (fun ac A44 => ?_)
    refine s_one (.int .i64 (firstOf [spE ax az, spE bx bz, veE v])) A44 S36 (g_move (by kernel_rfl)) rfl (fun ac A45 => ?_)
    refine s_store (g := g11) (off := 0) (v := .agg #[.int .i64 0, .int .i64 0]) 1 (#[.int .i64 0, .int .i64 0]) A45 S36 (by kernel_rfl) (by kernel_rfl) rfl (by kernel_rfl) (fun wc S47 => ?_)
    refine s_one (.int .i64 (firstOf [spE ax az, spE bx bz, veE v])) A45 S47 (g_assign (by kernel_rfl)) rfl (fun ac A49 => ?_)
    refine wpList_nil ?_
    refine n_then ?_
    refine wp_ret ?_
    refine r_then ?_
    refine fin2 (.agg #[.int .i64 0, .int .i64 0]) (.int .i64 (firstOf [spE ax az, spE bx bz, veE v])) Try.results29 A49 S47 (rv_cell (g := g11) (off := 0) 1 (by kernel_rfl) rfl (by kernel_rfl)) (rv_tmp (by kernel_rfl)) ⟨?_, S47.kp⟩
    have zn : tmE ax az bx bz v ≠ 0 := p43
    simp only [zv_n zn]
    rfl
  · have p50 := of_decide_eq_false h42
    have ze0 : firstOf [spE ax az, spE bx bz, veE v] = 0 := by simpa using h42
    have ze : tmE ax az bx bz v = 0 := ze0
    have zz := tmE_0 ze
    refine wp_skip ?_
    refine n_then ?_
    refine wp_seq ?_
    refine wp_region_lit ?_
    refine s_one (.pointer (some ⟨g3, 0, none⟩)) A41 S36 (g_field (u := .pointer (some ⟨g3, 0, none⟩)) (by kernel_rfl) (fun _ => by kernel_rfl)) rfl (fun ac A51 => ?_)
    refine s_one (.int .i64 ax) A51 S36 (g_load (g := g3) (off := 0) 3 (by kernel_rfl) rfl (by kernel_rfl)) rfl (fun ac A52 => ?_)
    refine s_one (.pointer (some ⟨g7, 0, none⟩)) A52 S36 (g_field (u := .pointer (some ⟨g7, 0, none⟩)) (by kernel_rfl) (fun _ => by kernel_rfl)) rfl (fun ac A53 => ?_)
    refine s_one (.int .i64 bx) A53 S36 (g_load (g := g7) (off := 0) 2 (by kernel_rfl) rfl (by kernel_rfl)) rfl (fun ac A54 => ?_)
    refine s_one (.int .i64 (ax - bx)) A54 S36 (g_bin (u := .int .i64 ax) (k := .int .i64 bx) (by kernel_rfl) (by kernel_rfl) (fun _ => by kernel_rfl) (b_sub (by omega))) rfl (fun ac A55 => ?_)
    refine s_one (.pointer (some ⟨g3, 1, none⟩)) A55 S36 (g_field (u := .pointer (some ⟨g3, 0, none⟩)) (by kernel_rfl) (fun _ => by kernel_rfl)) rfl (fun ac A56 => ?_)
    refine s_one (.int .i64 az) A56 S36 (g_load (g := g3) (off := 1) 3 (by kernel_rfl) rfl (by kernel_rfl)) rfl (fun ac A57 => ?_)
    refine s_one (.pointer (some ⟨g7, 1, none⟩)) A57 S36 (g_field (u := .pointer (some ⟨g7, 0, none⟩)) (by kernel_rfl) (fun _ => by kernel_rfl)) rfl (fun ac A58 => ?_)
    refine s_one (.int .i64 bz) A58 S36 (g_load (g := g7) (off := 1) 2 (by kernel_rfl) rfl (by kernel_rfl)) rfl (fun ac A59 => ?_)
    refine s_one (.int .i64 (az - bz)) A59 S36 (g_bin (u := .int .i64 az) (k := .int .i64 bz) (by kernel_rfl) (by kernel_rfl) (fun _ => by kernel_rfl) (b_sub (by omega))) rfl (fun ac A60 => ?_)
    have q64 := len_bd (x := ax - bx) (z := az - bz) (by omega) (by omega)
    refine s_call (fs := #[]) (cp := #[]) (r := [(0, .int .i64 (ax - bx)), (0, .int .i64 (az - bz))]) #[.int .i64 (ax - bx), .int .i64 (az - bz)] (.agg #[.int .i64 (lenL (ax - bx) (az - bz)), .int .i64 (lenU (ax - bx) (az - bz))]) A60 S36 (length_s (ax - bx) (az - bz) _ (by omega) (by omega) (by omega) (by omega)) Try.call87 (by kernel_rfl) (by kernel_rfl) (by kernel_rfl) rfl (fun ac wc A61 S62 => ?_)
    refine s_one (.int .i64 v) A61 S62 (g_move (by kernel_rfl)) rfl (fun ac A65 => ?_)
    have q69 := t_bd (l := (lenL (ax - bx) (az - bz))) (v := v) (by omega) (by omega) (by omega)
    have q70 := tH_bd (l := (lenU (ax - bx) (az - bz))) (v := v) (by omega) (by omega) (by omega)
    refine s_call (fs := #[]) (cp := #[]) (r := [(0, .agg #[.int .i64 (lenL (ax - bx) (az - bz)), .int .i64 (lenU (ax - bx) (az - bz))]), (0, .int .i64 v)]) #[.agg #[.int .i64 (lenL (ax - bx) (az - bz)), .int .i64 (lenU (ax - bx) (az - bz))], .int .i64 v] (.agg #[.int .i64 (tLo (lenL (ax - bx) (az - bz)) v), .int .i64 (tHi (lenU (ax - bx) (az - bz)) v)]) A65 S62 (time_s (lenL (ax - bx) (az - bz)) (lenU (ax - bx) (az - bz)) v _ (by omega) (by omega) (by omega) (by omega) (by omega)) Try.call86 (by kernel_rfl) (by kernel_rfl) (by kernel_rfl) rfl (fun ac wc A66 S67 => ?_)
    refine s_store (g := g11) (off := 0) (v := .agg #[.int .i64 (tLo (lenL (ax - bx) (az - bz)) v), .int .i64 (tHi (lenU (ax - bx) (az - bz)) v)]) 1 (#[.int .i64 (tLo (lenL (ax - bx) (az - bz)) v), .int .i64 (tHi (lenU (ax - bx) (az - bz)) v)]) A66 S67 (by kernel_rfl) (by kernel_rfl) rfl (by kernel_rfl) (fun wc S72 => ?_)
    refine s_one (.int .i64 0) A66 S72 (g_assign (by kernel_rfl)) rfl (fun ac A74 => ?_)
    refine wpList_nil ?_
    refine n_then ?_
    refine wp_ret ?_
    refine fin2 (.agg #[.int .i64 (tLo (lenL (ax - bx) (az - bz)) v), .int .i64 (tHi (lenU (ax - bx) (az - bz)) v)]) (.int .i64 0) Try.results29 A74 S72 (rv_cell (g := g11) (off := 0) 1 (by kernel_rfl) rfl (by kernel_rfl)) (rv_tmp (by kernel_rfl)) ⟨?_, S72.kp⟩
    simp only [zv_0 ze]
    rw [ze]

set_option maxRecDepth 100000 in
set_option maxHeartbeats 400000 in
theorem refLength_s (ax az bx bz : Int) (w0 : World) (h1 : (-100000 ≤ ax ∧ ax ≤ 100000) ∧ (-100000 ≤ az ∧ az ≤ 100000)) (h2 : (-100000 ≤ bx ∧ bx ≤ 100000) ∧ (-100000 ≤ bz ∧ bz ≤ 100000)) :
    Calls Try.prog 36 #[.agg #[.int .i64 ax, .int .i64 az], .agg #[.int .i64 bx, .int .i64 bz]] w0 fun e w' => e = .returned (.agg #[.int .i64 (lenL (ax - bx) (az - bz)), .int .i64 (lenU (ax - bx) (az - bz))]) ∧ Below w0.heap.size w0 w' := by
  have S0 := St.start w0
  refine enter (n := 16) Try.func36 rfl rfl rfl (fun ac A0 => ?_)
  refine wp_seq ?_
  refine wp_region_lit ?_
  refine s_box (.agg #[.int .i64 ax, .int .i64 az]) A0 S0 (by kernel_rfl) rfl (fun g3 ac wc A1 S2 => ?_)
  replace S2 : St _ (⟨g3, 41, #[.int .i64 ax, .int .i64 az], true⟩ :: _) _ _ := S2
  refine s_box (.agg #[.int .i64 bx, .int .i64 bz]) A1 S2 (by kernel_rfl) rfl (fun g7 ac wc A5 S6 => ?_)
  replace S6 : St _ (⟨g7, 41, #[.int .i64 bx, .int .i64 bz], true⟩ :: _) _ _ := S6
  refine s_alloc (#[.int .i64 0, .int .i64 0]) A5 S6 (by kernel_rfl) rfl (fun g11 ac wc A9 S10 => ?_)
  refine wpList_nil ?_
  refine n_then ?_
  refine wp_seq ?_
  refine wp_region_lit ?_
  refine s_one (.pointer (some ⟨g3, 0, none⟩)) A9 S10 (g_field (u := .pointer (some ⟨g3, 0, none⟩)) (by kernel_rfl) (fun _ => by kernel_rfl)) rfl (fun ac A12 => ?_)
  refine s_one (.int .i64 ax) A12 S10 (g_load (g := g3) (off := 0) 2 (by kernel_rfl) rfl (by kernel_rfl)) rfl (fun ac A13 => ?_)
  refine s_one (.pointer (some ⟨g7, 0, none⟩)) A13 S10 (g_field (u := .pointer (some ⟨g7, 0, none⟩)) (by kernel_rfl) (fun _ => by kernel_rfl)) rfl (fun ac A14 => ?_)
  refine s_one (.int .i64 bx) A14 S10 (g_load (g := g7) (off := 0) 1 (by kernel_rfl) rfl (by kernel_rfl)) rfl (fun ac A15 => ?_)
  refine s_one (.int .i64 (ax - bx)) A15 S10 (g_bin (u := .int .i64 ax) (k := .int .i64 bx) (by kernel_rfl) (by kernel_rfl) (fun _ => by kernel_rfl) (b_sub (by omega))) rfl (fun ac A16 => ?_)
  refine s_one (.pointer (some ⟨g3, 1, none⟩)) A16 S10 (g_field (u := .pointer (some ⟨g3, 0, none⟩)) (by kernel_rfl) (fun _ => by kernel_rfl)) rfl (fun ac A17 => ?_)
  refine s_one (.int .i64 az) A17 S10 (g_load (g := g3) (off := 1) 2 (by kernel_rfl) rfl (by kernel_rfl)) rfl (fun ac A18 => ?_)
  refine s_one (.pointer (some ⟨g7, 1, none⟩)) A18 S10 (g_field (u := .pointer (some ⟨g7, 0, none⟩)) (by kernel_rfl) (fun _ => by kernel_rfl)) rfl (fun ac A19 => ?_)
  refine s_one (.int .i64 bz) A19 S10 (g_load (g := g7) (off := 1) 1 (by kernel_rfl) rfl (by kernel_rfl)) rfl (fun ac A20 => ?_)
  refine s_one (.int .i64 (az - bz)) A20 S10 (g_bin (u := .int .i64 az) (k := .int .i64 bz) (by kernel_rfl) (by kernel_rfl) (fun _ => by kernel_rfl) (b_sub (by omega))) rfl (fun ac A21 => ?_)
  have q25 := len_bd (x := ax - bx) (z := az - bz) (by omega) (by omega)
  refine s_call (fs := #[]) (cp := #[]) (r := [(0, .int .i64 (ax - bx)), (0, .int .i64 (az - bz))]) #[.int .i64 (ax - bx), .int .i64 (az - bz)] (.agg #[.int .i64 (lenL (ax - bx) (az - bz)), .int .i64 (lenU (ax - bx) (az - bz))]) A21 S10 (lengthOf_s (ax - bx) (az - bz) _ (by omega) (by omega) (by omega) (by omega)) Try.call92 (by kernel_rfl) (by kernel_rfl) (by kernel_rfl) rfl (fun ac wc A22 S23 => ?_)
  refine s_store (g := g11) (off := 0) (v := .agg #[.int .i64 (lenL (ax - bx) (az - bz)), .int .i64 (lenU (ax - bx) (az - bz))]) 0 (#[.int .i64 (lenL (ax - bx) (az - bz)), .int .i64 (lenU (ax - bx) (az - bz))]) A22 S23 (by kernel_rfl) (by kernel_rfl) rfl (by kernel_rfl) (fun wc S27 => ?_)
  refine wpList_nil ?_
  refine n_then ?_
  refine wp_ret ?_
  refine fin1 (.agg #[.int .i64 (lenL (ax - bx) (az - bz)), .int .i64 (lenU (ax - bx) (az - bz))]) Try.results36 A22 S27 (rv_cell (g := g11) (off := 0) 0 (by kernel_rfl) rfl (by kernel_rfl)) ⟨?_, S27.kp⟩
  rfl

set_option maxRecDepth 100000 in
set_option maxHeartbeats 400000 in
theorem refTimeOf_s (ax az bx bz v : Int) (w0 : World) (h1 : (-100000 ≤ ax ∧ ax ≤ 100000) ∧ (-100000 ≤ az ∧ az ≤ 100000)) (h2 : (-100000 ≤ bx ∧ bx ≤ 100000) ∧ (-100000 ≤ bz ∧ bz ≤ 100000)) (h3 : 500 ≤ v ∧ v ≤ 10000) :
    Calls Try.prog 38 #[.agg #[.int .i64 ax, .int .i64 az], .agg #[.int .i64 bx, .int .i64 bz], .int .i64 v] w0 fun e w' => e = .returned (.agg #[.int .i64 (tLo (lenL (ax - bx) (az - bz)) v), .int .i64 (tHi (lenU (ax - bx) (az - bz)) v)]) ∧ Below w0.heap.size w0 w' := by
  have S0 := St.start w0
  refine enter (n := 12) Try.func38 rfl rfl rfl (fun ac A0 => ?_)
  refine wp_seq ?_
  refine wp_region_lit ?_
  refine s_box (.agg #[.int .i64 ax, .int .i64 az]) A0 S0 (by kernel_rfl) rfl (fun g3 ac wc A1 S2 => ?_)
  replace S2 : St _ (⟨g3, 41, #[.int .i64 ax, .int .i64 az], true⟩ :: _) _ _ := S2
  refine s_box (.agg #[.int .i64 bx, .int .i64 bz]) A1 S2 (by kernel_rfl) rfl (fun g7 ac wc A5 S6 => ?_)
  replace S6 : St _ (⟨g7, 41, #[.int .i64 bx, .int .i64 bz], true⟩ :: _) _ _ := S6
  refine s_alloc (#[.int .i64 0, .int .i64 0]) A5 S6 (by kernel_rfl) rfl (fun g11 ac wc A9 S10 => ?_)
  refine wpList_nil ?_
  refine n_then ?_
  refine wp_seq ?_
  refine wp_region_lit ?_
  refine s_one (.agg #[.int .i64 ax, .int .i64 az]) A9 S10 (g_load (g := g3) (off := 0) 2 (by kernel_rfl) rfl (by kernel_rfl)) rfl (fun ac A12 => ?_)
  refine s_one (.agg #[.int .i64 bx, .int .i64 bz]) A12 S10 (g_load (g := g7) (off := 0) 1 (by kernel_rfl) rfl (by kernel_rfl)) rfl (fun ac A13 => ?_)
  have q17 := len_bd (x := ax - bx) (z := az - bz) (by omega) (by omega)
  refine s_call (fs := #[]) (cp := #[]) (r := [(0, .agg #[.int .i64 ax, .int .i64 az]), (0, .agg #[.int .i64 bx, .int .i64 bz])]) #[.agg #[.int .i64 ax, .int .i64 az], .agg #[.int .i64 bx, .int .i64 bz]] (.agg #[.int .i64 (lenL (ax - bx) (az - bz)), .int .i64 (lenU (ax - bx) (az - bz))]) A13 S10 (refLength_s ax az bx bz _ (by omega) (by omega)) Try.call36 (by kernel_rfl) (by kernel_rfl) (by kernel_rfl) rfl (fun ac wc A14 S15 => ?_)
  refine s_one (.int .i64 v) A14 S15 (g_move (by kernel_rfl)) rfl (fun ac A18 => ?_)
  have q22 := t_bd (l := (lenL (ax - bx) (az - bz))) (v := v) (by omega) (by omega) (by omega)
  have q23 := tH_bd (l := (lenU (ax - bx) (az - bz))) (v := v) (by omega) (by omega) (by omega)
  refine s_call (fs := #[]) (cp := #[]) (r := [(0, .agg #[.int .i64 (lenL (ax - bx) (az - bz)), .int .i64 (lenU (ax - bx) (az - bz))]), (0, .int .i64 v)]) #[.agg #[.int .i64 (lenL (ax - bx) (az - bz)), .int .i64 (lenU (ax - bx) (az - bz))], .int .i64 v] (.agg #[.int .i64 (tLo (lenL (ax - bx) (az - bz)) v), .int .i64 (tHi (lenU (ax - bx) (az - bz)) v)]) A18 S15 (lasting_s (lenL (ax - bx) (az - bz)) (lenU (ax - bx) (az - bz)) v _ (by omega) (by omega) (by omega) (by omega) (by omega)) Try.call93 (by kernel_rfl) (by kernel_rfl) (by kernel_rfl) rfl (fun ac wc A19 S20 => ?_)
  refine s_store (g := g11) (off := 0) (v := .agg #[.int .i64 (tLo (lenL (ax - bx) (az - bz)) v), .int .i64 (tHi (lenU (ax - bx) (az - bz)) v)]) 0 (#[.int .i64 (tLo (lenL (ax - bx) (az - bz)) v), .int .i64 (tHi (lenU (ax - bx) (az - bz)) v)]) A19 S20 (by kernel_rfl) (by kernel_rfl) rfl (by kernel_rfl) (fun wc S25 => ?_)
  refine wpList_nil ?_
  refine n_then ?_
  refine wp_ret ?_
  refine fin1 (.agg #[.int .i64 (tLo (lenL (ax - bx) (az - bz)) v), .int .i64 (tHi (lenU (ax - bx) (az - bz)) v)]) Try.results38 A19 S25 (rv_cell (g := g11) (off := 0) 0 (by kernel_rfl) rfl (by kernel_rfl)) ⟨?_, S25.kp⟩
  rfl

theorem mdE_r1 {mw md ms mt : Int} (h : firstOf [veE mw, veE md] ≠ 0) : mdE mw md ms mt = firstOf [veE mw, veE md] := fo_a (r := [_]) h
theorem mdE_r2 {mw md ms mt : Int} (h : firstOf [veE mw, veE md] = 0) (h2 : (!(inB ms 0 4) || !(inB mt 2 20000)) = true) : mdE mw md ms mt = 2 := by
  have := fo_b (r := [(bif inB ms 0 4 && inB mt 2 20000 then 0 else 2)]) h
  refine Eq.trans this ?_
  rw [fo_last, nand2 h2]; rfl
theorem mdE_r3 {mw md ms mt : Int} (h : firstOf [veE mw, veE md] = 0) (h2 : inB ms 0 4 = true) (h3 : inB mt 2 20000 = true) : mdE mw md ms mt = 0 := by
  have := fo_b (r := [(bif inB ms 0 4 && inB mt 2 20000 then 0 else 2)]) h
  refine Eq.trans this ?_
  rw [fo_last, h2, h3]; rfl
def ufE (mw md ms mt z : Int) : Int := firstOf [mdE mw md ms mt, must_a_r (inB z 1 (wr (mt - 1))) 22]
theorem ufE_m {mw md ms mt z : Int} (h : mdE mw md ms mt = 0) : ufE mw md ms mt z = must_a_r (inB z 1 (mt - 1)) 22 := by
  have q := mdE_0 h
  unfold ufE
  rw [fo_cons0 h, fo_last, wr_in (by omega)]
theorem ufE_0 {mw md ms mt z : Int} (h : ufE mw md ms mt z = 0) : mdE mw md ms mt = 0 ∧ 1 ≤ z ∧ z ≤ mt - 1 := by
  obtain ⟨h1, h2⟩ := fo_zero h
  rw [ufE_m h1] at h
  exact ⟨h1, inB_true.1 (must_0 (by decide) h)⟩
theorem unf_r {ms mt z : Int} (hs : 0 ≤ ms ∧ ms ≤ 4) : unf ms mt z = if ms.tmod 2 = 0 then ms * mt + z else ms * mt + mt - z := by
  unfold unf
  rcases ms_cases hs with rfl | rfl | rfl | rfl | rfl
  · rfl
  · rw [if_pos (by decide), if_neg (by decide)]; omega
  · rfl
  · rw [if_pos (by decide), if_neg (by decide)]; omega
  · rfl

set_option maxRecDepth 100000 in
set_option maxHeartbeats 400000 in
theorem refCheckMode_s (mw md ms mt : Int) (w0 : World) :
    Calls Try.prog 31 #[.agg #[.int .i64 mw, .int .i64 md, .int .i64 ms, .int .i64 mt]] w0 fun e w' => e = .returned (.int .i64 (mdE mw md ms mt)) ∧ Below w0.heap.size w0 w' := by
  have S0 := St.start w0
  refine enter (n := 25) Try.func31 rfl rfl rfl (fun ac A0 => ?_)
  refine wp_seq ?_
  refine wp_region_lit ?_
  refine s_box (.agg #[.int .i64 mw, .int .i64 md, .int .i64 ms, .int .i64 mt]) A0 S0 (by kernel_rfl) rfl (fun g3 ac wc A1 S2 => ?_)
  replace S2 : St _ (⟨g3, 39, #[.int .i64 mw, .int .i64 md, .int .i64 ms, .int .i64 mt], true⟩ :: _) _ _ := S2
  refine s_one (.int .i64 0) A1 S2 (g_assign (by kernel_rfl)) rfl (fun ac A5 => ?_)
  refine wpList_nil ?_
  refine n_then ?_
  refine wp_seq ?_
  refine wp_seq ?_
  refine r_begin (w0 := w0) (by kernel_rfl) (S2.sub sub_all sub_all) (fun wc T6 B7 => ?_)
  have S8 := S2.kept B7
  refine r_take 0 (.pointer (some ⟨g3, 0, none⟩)) A5 T6 (g_field (u := .pointer (some ⟨g3, 0, none⟩)) (by kernel_rfl) (fun _ => by kernel_rfl)) rfl rfl rfl (pf_then (pf_then pf_body)) (by kernel_rfl) (fun ac A9 => ?_)
  refine r_take 1 (.int .i64 mw) A9 T6 (g_load (g := g3) (off := 0) 0 (by kernel_rfl) rfl (by kernel_rfl)) rfl rfl rfl (pf_then (pf_then pf_body)) (by kernel_rfl) (fun ac A10 => ?_)
  refine r_take 3 (.pointer (some ⟨g3, 1, none⟩)) A10 T6 (g_field (u := .pointer (some ⟨g3, 0, none⟩)) (by kernel_rfl) (fun _ => by kernel_rfl)) rfl rfl rfl (pf_then (pf_then pf_body)) (by kernel_rfl) (fun ac A11 => ?_)
  refine r_take 4 (.int .i64 md) A11 T6 (g_load (g := g3) (off := 1) 0 (by kernel_rfl) rfl (by kernel_rfl)) rfl rfl rfl (pf_then (pf_then pf_body)) (by kernel_rfl) (fun ac A12 => ?_)
  refine r_1 (i := 2) (by kernel_rfl) ?_
  refine rs_call (fs := #[]) (cp := #[]) (r := [(0, .int .i64 mw)]) #[.int .i64 mw] (.int .i64 (veE mw)) A12 S8 sub_all sub_all (refSpeedErr_s mw _) Try.call37 rfl rfl (by kernel_rfl) (by kernel_rfl) (by kernel_rfl) rfl (fun ac wc A13 S14 => ?_)
  have T16 := S14.sub sub_all sub_all
  refine r_1 (i := 5) (by kernel_rfl) ?_
  refine rs_call (fs := #[]) (cp := #[]) (r := [(0, .int .i64 md)]) #[.int .i64 md] (.int .i64 (veE md)) A13 S14 sub_all sub_all (refSpeedErr_s md _) Try.call37 rfl rfl (by kernel_rfl) (by kernel_rfl) (by kernel_rfl) rfl (fun ac wc A17 S18 => ?_)
  have T20 := S18.sub sub_all sub_all
  refine r_1 (i := 6) (by kernel_rfl) ?_
  refine rs_bs (e := 3) (r := [(0, .int .i64 (veE mw)), (1, .int .i64 (veE md))]) (#[.int .i64 (veE mw), .int .i64 (veE md)]) A17 S18 sub_all sub_all (by kernel_rfl) (by kernel_rfl) rfl rfl rfl (fun g23 ac wc A21 S22 => ?_)
  have T24 := S22.sub (sub_skip sub_all) sub_all
  refine r_1 (i := 7) (by kernel_rfl) ?_
  refine rs_call (fs := #[]) (cp := #[]) (r := [(0, .slice (some ⟨g23, 0, none⟩) 2 2)]) #[.slice (some ⟨g23, 0, none⟩) 2 2] (.int .i64 (firstOf [veE mw, veE md])) A21 S22 (sub_skip sub_all) sub_all (firstOf_s g23 ([veE mw, veE md]) 2 2 _ (S22.get 0 rfl) rfl (by omega)) Try.call79 rfl rfl (by kernel_rfl) (by kernel_rfl) (by kernel_rfl) rfl (fun ac wc A25 S26 => ?_)
  have T28 := S26.sub (sub_skip sub_all) sub_all
  refine r_take 8 (.int .i64 (firstOf [veE mw, veE md])) A25 T28 (g_assign (by kernel_rfl)) rfl rfl rfl (pf_then (pf_then pf_body)) (by kernel_rfl) (fun ac A29 => ?_)
  refine r_done (by kernel_rfl) ?_
  refine n_then ?_
  refine wp_seq ?_
  refine wp_region_lit ?_
  refine s_one (.int .i64 (firstOf [veE mw, veE md])) A29 S26 (g_move (by kernel_rfl)) rfl (fun ac A30 => ?_)
  refine s_one (.bool (decide (firstOf [veE mw, veE md] ≠ 0))) A30 S26 (g_bin (u := .int .i64 (firstOf [veE mw, veE md])) (k := .int .i64 0) (by kernel_rfl) (by kernel_rfl) (fun _ => by kernel_rfl) b_neq) rfl (fun ac A31 => ?_)
  refine wpList_nil ?_
  refine n_then ?_
  refine c_ifb (b := (decide (firstOf [veE mw, veE md] ≠ 0))) A31 (by kernel_rfl) (fun h32 => ?_) (fun h32 => ?_)
  · have p33 := of_decide_eq_true h32
    refine wp_seq ?_
    refine wp_region_lit ?_
    refine s_one (.int .i64 (firstOf [veE mw, veE md])) A31 S26 (g_move (by kernel_rfl)) rfl (fun ac A34 => ?_)
    refine s_one (.int .i64 (firstOf [veE mw, veE md])) A34 S26 (g_assign (by kernel_rfl)) rfl (fun ac A35 => ?_)
    refine wpList_nil ?_
    refine n_then ?_
    refine wp_ret ?_
    refine r_then ?_
    refine fin1 (.int .i64 (firstOf [veE mw, veE md])) Try.results31 A35 S26 (rv_tmp (by kernel_rfl)) ⟨?_, S26.kp⟩
    rw [mdE_r1 p33]
  · have p36 := of_decide_eq_false h32
    refine wp_skip ?_
    refine n_then ?_
    refine wp_seq ?_
    refine wp_seq ?_
    refine c_cut (fun ac wc => Fr 25 ac [(24, .bool ((!(inB ms 0 4)) || (!(inB mt 2 20000)))), (0, .agg #[.int .i64 mw, .int .i64 md, .int .i64 ms, .int .i64 mt]), (1, .pointer (some ⟨g3, 0, none⟩)), (2, .int .i64 0), (4, .pointer (some ⟨g3, 0, none⟩)), (5, .int .i64 mw), (7, .pointer (some ⟨g3, 1, none⟩)), (8, .int .i64 md), (6, .int .i64 (veE mw)), (9, .int .i64 (veE md)), (10, .slice (some ⟨g23, 0, none⟩) 2 2), (11, .int .i64 (firstOf [veE mw, veE md])), (3, .int .i64 (firstOf [veE mw, veE md])), (12, .int .i64 (firstOf [veE mw, veE md])), (13, .bool (decide (firstOf [veE mw, veE md] ≠ 0)))] ∧ St w0 [⟨g23, 3, #[.int .i64 (veE mw), .int .i64 (veE md)], true⟩, ⟨g3, 39, #[.int .i64 mw, .int .i64 md, .int .i64 ms, .int .i64 mt], true⟩] [] wc) ?_ ?_
    · refine wp_region_lit ?_
      refine s_one (.pointer (some ⟨g3, 2, none⟩)) A31 S26 (g_field (u := .pointer (some ⟨g3, 0, none⟩)) (by kernel_rfl) (fun _ => by kernel_rfl)) rfl (fun ac A37 => ?_)
      refine s_one (.int .i64 ms) A37 S26 (g_load (g := g3) (off := 2) 1 (by kernel_rfl) rfl (by kernel_rfl)) rfl (fun ac A38 => ?_)
      refine s_call (fs := #[]) (cp := #[]) (r := [(0, .int .i64 ms), (0, .int .i64 0), (0, .int .i64 4)]) #[.int .i64 ms, .int .i64 0, .int .i64 4] (.bool (inB ms 0 4)) A38 S26 (Within_s ms 0 4 _) Try.call26 (by kernel_rfl) (by kernel_rfl) (by kernel_rfl) rfl (fun ac wc A39 S40 => ?_)
      refine s_one (.bool (!(inB ms 0 4))) A39 S40 (g_un (u := .bool (inB ms 0 4)) (by kernel_rfl) (fun _ => by kernel_rfl)) rfl (fun ac A42 => ?_)
      refine s_one (.bool (!(inB ms 0 4))) A42 S40 (g_move (by kernel_rfl)) rfl (fun ac A43 => ?_)
      refine by_bool (!(inB ms 0 4)) (fun h44 => ?_) (fun h44 => ?_)
      · have h45 : inB ms 0 4 = false := by simpa using h44
        refine s_not (dj := 19) (b := (!(inB ms 0 4))) A43 (by kernel_rfl) (by kernel_rfl) h44 rfl (fun ac A46 => ?_)
        refine s_not (dj := 19) (b := (!(inB ms 0 4))) A46 (by kernel_rfl) (by kernel_rfl) h44 rfl (fun ac A47 => ?_)
        refine s_not (dj := 19) (b := (!(inB ms 0 4))) A47 (by kernel_rfl) (by kernel_rfl) h44 rfl (fun ac A48 => ?_)
        refine s_not (dj := 19) (b := (!(inB ms 0 4))) A48 (by kernel_rfl) (by kernel_rfl) h44 rfl (fun ac A49 => ?_)
        refine s_one (.bool true) A49 S40 (g_pick_t (b := (!(inB ms 0 4))) (by kernel_rfl) h44 (by kernel_rfl)) rfl (fun ac A50 => ?_)
        refine wpList_nil ?_
        refine n_then ?_
        exact ⟨(A50.slot (A50.slot (A50.slot (A50.slot (A50.slot (A50.slot (A50.slot (A50.slot (A50.slot (A50.slot (A50.slot (A50.slot (A50.slot (A50.slot (A50.slot A50.nil (v := .bool (decide (firstOf [veE mw, veE md] ≠ 0))) (by kernel_rfl) rfl) (v := .int .i64 (firstOf [veE mw, veE md])) (by kernel_rfl) rfl) (v := .int .i64 (firstOf [veE mw, veE md])) (by kernel_rfl) rfl) (v := .int .i64 (firstOf [veE mw, veE md])) (by kernel_rfl) rfl) (v := .slice (some ⟨g23, 0, none⟩) 2 2) (by kernel_rfl) rfl) (v := .int .i64 (veE md)) (by kernel_rfl) rfl) (v := .int .i64 (veE mw)) (by kernel_rfl) rfl) (v := .int .i64 md) (by kernel_rfl) rfl) (v := .pointer (some ⟨g3, 1, none⟩)) (by kernel_rfl) rfl) (v := .int .i64 mw) (by kernel_rfl) rfl) (v := .pointer (some ⟨g3, 0, none⟩)) (by kernel_rfl) rfl) (v := .int .i64 0) (by kernel_rfl) rfl) (v := .pointer (some ⟨g3, 0, none⟩)) (by kernel_rfl) rfl) (v := .agg #[.int .i64 mw, .int .i64 md, .int .i64 ms, .int .i64 mt]) (by kernel_rfl) rfl) (v := .bool true) (by kernel_rfl) (congrArg Value.bool (b_ot1 h44).symm)), S40.sub sub_all sub_all⟩
      · have h51 : inB ms 0 4 = true := by simpa using h44
        refine s_want (dj := 19) (b := (!(inB ms 0 4))) A43 (by kernel_rfl) (by kernel_rfl) h44 ?_
        refine s_one (.pointer (some ⟨g3, 3, none⟩)) A43 S40 (g_field (u := .pointer (some ⟨g3, 0, none⟩)) (by kernel_rfl) (fun _ => by kernel_rfl)) rfl (fun ac A52 => ?_)
        refine s_want (dj := 19) (b := (!(inB ms 0 4))) A52 (by kernel_rfl) (by kernel_rfl) h44 ?_
        refine s_one (.int .i64 mt) A52 S40 (g_load (g := g3) (off := 3) 1 (by kernel_rfl) rfl (by kernel_rfl)) rfl (fun ac A53 => ?_)
        refine s_want (dj := 19) (b := (!(inB ms 0 4))) A53 (by kernel_rfl) (by kernel_rfl) h44 ?_
        refine s_call (fs := #[]) (cp := #[]) (r := [(0, .int .i64 mt), (0, .int .i64 2), (0, .int .i64 20000)]) #[.int .i64 mt, .int .i64 2, .int .i64 20000] (.bool (inB mt 2 20000)) A53 S40 (Within_s mt 2 20000 _) Try.call26 (by kernel_rfl) (by kernel_rfl) (by kernel_rfl) rfl (fun ac wc A54 S55 => ?_)
        refine s_want (dj := 19) (b := (!(inB ms 0 4))) A54 (by kernel_rfl) (by kernel_rfl) h44 ?_
        refine s_one (.bool (!(inB mt 2 20000))) A54 S55 (g_un (u := .bool (inB mt 2 20000)) (by kernel_rfl) (fun _ => by kernel_rfl)) rfl (fun ac A57 => ?_)
        refine s_one (.bool (!(inB mt 2 20000))) A57 S55 (g_pick_f (b := (!(inB ms 0 4))) (by kernel_rfl) h44 (by kernel_rfl)) rfl (fun ac A58 => ?_)
        refine wpList_nil ?_
        refine n_then ?_
        exact ⟨(A58.slot (A58.slot (A58.slot (A58.slot (A58.slot (A58.slot (A58.slot (A58.slot (A58.slot (A58.slot (A58.slot (A58.slot (A58.slot (A58.slot (A58.slot A58.nil (v := .bool (decide (firstOf [veE mw, veE md] ≠ 0))) (by kernel_rfl) rfl) (v := .int .i64 (firstOf [veE mw, veE md])) (by kernel_rfl) rfl) (v := .int .i64 (firstOf [veE mw, veE md])) (by kernel_rfl) rfl) (v := .int .i64 (firstOf [veE mw, veE md])) (by kernel_rfl) rfl) (v := .slice (some ⟨g23, 0, none⟩) 2 2) (by kernel_rfl) rfl) (v := .int .i64 (veE md)) (by kernel_rfl) rfl) (v := .int .i64 (veE mw)) (by kernel_rfl) rfl) (v := .int .i64 md) (by kernel_rfl) rfl) (v := .pointer (some ⟨g3, 1, none⟩)) (by kernel_rfl) rfl) (v := .int .i64 mw) (by kernel_rfl) rfl) (v := .pointer (some ⟨g3, 0, none⟩)) (by kernel_rfl) rfl) (v := .int .i64 0) (by kernel_rfl) rfl) (v := .pointer (some ⟨g3, 0, none⟩)) (by kernel_rfl) rfl) (v := .agg #[.int .i64 mw, .int .i64 md, .int .i64 ms, .int .i64 mt]) (by kernel_rfl) rfl) (v := .bool (!(inB mt 2 20000))) (by kernel_rfl) (congrArg Value.bool (b_or_f h44 (Eq.refl (!(inB mt 2 20000)))).symm)), S55.sub sub_all sub_all⟩
    · rintro ac wc ⟨A59, S60⟩
      refine n_then ?_
      refine c_ifb (b := ((!(inB ms 0 4)) || (!(inB mt 2 20000)))) A59 (by kernel_rfl) (fun h61 => ?_) (fun h61 => ?_)
      · refine wp_seq ?_
        refine wp_region_lit ?_
        refine s_one (.int .i64 2) A59 S60 (g_assign (by kernel_rfl)) rfl (fun ac A62 => ?_)
        refine wpList_nil ?_
        refine n_then ?_
        refine wp_ret ?_
        refine r_then ?_
        refine fin1 (.int .i64 2) Try.results31 A62 S60 (rv_tmp (by kernel_rfl)) ⟨?_, S60.kp⟩
        rw [mdE_r2 (by simpa using p36) h61]
      · have h63 := (Bool.or_eq_false_iff.1 h61).1
        have h64 : inB ms 0 4 = true := by simpa using h63
        have h65 := (Bool.or_eq_false_iff.1 h61).2
        have h66 : inB mt 2 20000 = true := by simpa using h65
        refine wp_skip ?_
        refine n_then ?_
        refine wp_seq ?_
        refine wp_region_lit ?_
        refine s_one (.int .i64 0) A59 S60 (g_assign (by kernel_rfl)) rfl (fun ac A67 => ?_)
        refine wpList_nil ?_
        refine n_then ?_
        refine wp_ret ?_
        refine fin1 (.int .i64 0) Try.results31 A67 S60 (rv_tmp (by kernel_rfl)) ⟨?_, S60.kp⟩
        rw [mdE_r3 (by simpa using p36) h64 h66]

set_option maxRecDepth 100000 in
set_option maxHeartbeats 400000 in
theorem Unfolded_s (mw md ms mt z : Int) (w0 : World) :
    Calls Try.prog 30 #[.agg #[.int .i64 mw, .int .i64 md, .int .i64 ms, .int .i64 mt], .int .i64 z] w0 fun e w' => e = .returned (.tuple #[.int .i64 (zv (ufE mw md ms mt z) (unf ms mt z)), .int .i64 (ufE mw md ms mt z)]) ∧ Below w0.heap.size w0 w' := by
  have S0 := St.start w0
  refine enter (n := 23) Try.func30 rfl rfl rfl (fun ac A0 => ?_)
  refine wp_seq ?_
  refine wp_region_lit ?_
  refine s_box (.agg #[.int .i64 mw, .int .i64 md, .int .i64 ms, .int .i64 mt]) A0 S0 (by kernel_rfl) rfl (fun g3 ac wc A1 S2 => ?_)
  replace S2 : St _ (⟨g3, 39, #[.int .i64 mw, .int .i64 md, .int .i64 ms, .int .i64 mt], true⟩ :: _) _ _ := S2
  refine s_one (.int .i64 0) A1 S2 (g_assign (by kernel_rfl)) rfl (fun ac A5 => ?_)
  refine s_one (.int .i64 0) A5 S2 (g_assign (by kernel_rfl)) rfl (fun ac A6 => ?_)
  refine wpList_nil ?_
  refine n_then ?_
  refine wp_seq ?_
  refine wp_seq ?_
  refine r_begin (w0 := w0) (by kernel_rfl) (S2.sub sub_all sub_all) (fun wc T7 B8 => ?_)
  have S9 := S2.kept B8
  refine r_take 0 (.agg #[.int .i64 mw, .int .i64 md, .int .i64 ms, .int .i64 mt]) A6 T7 (g_load (g := g3) (off := 0) 0 (by kernel_rfl) rfl (by kernel_rfl)) rfl rfl rfl (pf_then (pf_then pf_body)) (by kernel_rfl) (fun ac A10 => ?_)
  refine r_take 2 (.int .i64 z) A10 T7 (g_move (by kernel_rfl)) rfl rfl rfl (pf_then (pf_then pf_body)) (by kernel_rfl) (fun ac A11 => ?_)
  refine r_take 3 (.pointer (some ⟨g3, 3, none⟩)) A11 T7 (g_field (u := .pointer (some ⟨g3, 0, none⟩)) (by kernel_rfl) (fun _ => by kernel_rfl)) rfl rfl rfl (pf_then (pf_then pf_body)) (by kernel_rfl) (fun ac A12 => ?_)
  refine r_take 4 (.int .i64 mt) A12 T7 (g_load (g := g3) (off := 3) 0 (by kernel_rfl) rfl (by kernel_rfl)) rfl rfl rfl (pf_then (pf_then pf_body)) (by kernel_rfl) (fun ac A13 => ?_)
  refine r_take 5 (.int .i64 (wr (mt - 1))) A13 T7 (g_bin (u := .int .i64 mt) (k := .int .i64 1) (by kernel_rfl) (by kernel_rfl) (fun _ => by kernel_rfl) b_subW) rfl rfl rfl (pf_then (pf_then pf_body)) (by kernel_rfl) (fun ac A14 => ?_)
  refine r_1 (i := 1) (by kernel_rfl) ?_
  refine rs_call (fs := #[]) (cp := #[]) (r := [(0, .agg #[.int .i64 mw, .int .i64 md, .int .i64 ms, .int .i64 mt])]) #[.agg #[.int .i64 mw, .int .i64 md, .int .i64 ms, .int .i64 mt]] (.int .i64 (mdE mw md ms mt)) A14 S9 sub_all sub_all (CheckMode_s mw md ms mt _) Try.call32 rfl rfl (by kernel_rfl) (by kernel_rfl) (by kernel_rfl) rfl (fun ac wc A15 S16 => ?_)
  have T18 := S16.sub sub_all sub_all
  refine r_1 (i := 6) (by kernel_rfl) ?_
  refine rs_call (fs := #[]) (cp := #[]) (r := [(0, .int .i64 z), (0, .int .i64 1), (0, .int .i64 (wr (mt - 1)))]) #[.int .i64 z, .int .i64 1, .int .i64 (wr (mt - 1))] (.bool (inB z 1 (wr (mt - 1)))) A15 S16 sub_all sub_all (within_s z 1 (wr (mt - 1)) _) Try.call89 rfl rfl (by kernel_rfl) (by kernel_rfl) (by kernel_rfl) rfl (fun ac wc A19 S20 => ?_)
  have T22 := S20.sub sub_all sub_all
  refine r_1 (i := 7) (by kernel_rfl) ?_
  refine rs_call (fs := #[]) (cp := #[]) (r := [(0, .bool (inB z 1 (wr (mt - 1)))), (0, .int .i64 22)]) #[.bool (inB z 1 (wr (mt - 1))), .int .i64 22] (.int .i64 (must_a_r (inB z 1 (wr (mt - 1))) 22)) A19 S20 sub_all sub_all (must_a (inB z 1 (wr (mt - 1))) 22 _) Try.call88 rfl rfl (by kernel_rfl) (by kernel_rfl) (by kernel_rfl) rfl (fun ac wc A23 S24 => ?_)
  have T26 := S24.sub sub_all sub_all
  refine r_1 (i := 8) (by kernel_rfl) ?_
  refine rs_bs (e := 25) (r := [(0, .int .i64 (mdE mw md ms mt)), (1, .int .i64 (must_a_r (inB z 1 (wr (mt - 1))) 22))]) (#[.int .i64 (mdE mw md ms mt), .int .i64 (must_a_r (inB z 1 (wr (mt - 1))) 22)]) A23 S24 sub_all sub_all (by kernel_rfl) (by kernel_rfl) rfl rfl rfl (fun g29 ac wc A27 S28 => ?_)
  have T30 := S28.sub (sub_skip sub_all) sub_all
  refine r_1 (i := 9) (by kernel_rfl) ?_
  refine rs_call (fs := #[]) (cp := #[]) (r := [(0, .slice (some ⟨g29, 0, none⟩) 2 2)]) #[.slice (some ⟨g29, 0, none⟩) 2 2] (.int .i64 (firstOf [mdE mw md ms mt, (must_a_r (inB z 1 (wr (mt - 1))) 22)])) A27 S28 (sub_skip sub_all) sub_all (first_s g29 ([mdE mw md ms mt, (must_a_r (inB z 1 (wr (mt - 1))) 22)]) 2 2 _ (S28.get 0 rfl) rfl (by omega)) Try.call83 rfl rfl (by kernel_rfl) (by kernel_rfl) (by kernel_rfl) rfl (fun ac wc A31 S32 => ?_)
  have T34 := S32.sub (sub_skip sub_all) sub_all
  refine r_take 10 (.int .i64 (firstOf [mdE mw md ms mt, (must_a_r (inB z 1 (wr (mt - 1))) 22)])) A31 T34 (g_assign (by kernel_rfl)) rfl rfl rfl (pf_then (pf_then pf_body)) (by kernel_rfl) (fun ac A35 => ?_)
  refine r_done (by kernel_rfl) ?_
  refine n_then ?_
  refine wp_seq ?_
  refine wp_region_lit ?_
  refine s_one (.int .i64 (firstOf [mdE mw md ms mt, (must_a_r (inB z 1 (wr (mt - 1))) 22)])) A35 S32 (g_move (by kernel_rfl)) rfl (fun ac A36 => ?_)
  refine s_one (.bool (decide (firstOf [mdE mw md ms mt, (must_a_r (inB z 1 (wr (mt - 1))) 22)] ≠ 0))) A36 S32 (g_bin (u := .int .i64 (firstOf [mdE mw md ms mt, (must_a_r (inB z 1 (wr (mt - 1))) 22)])) (k := .int .i64 0) (by kernel_rfl) (by kernel_rfl) (fun _ => by kernel_rfl) b_neq) rfl (fun ac A37 => ?_)
  refine wpList_nil ?_
  refine n_then ?_
  refine c_ifb (b := (decide (firstOf [mdE mw md ms mt, (must_a_r (inB z 1 (wr (mt - 1))) 22)] ≠ 0))) A37 (by kernel_rfl) (fun h38 => ?_) (fun h38 => ?_)
  · have p39 := of_decide_eq_true h38
    refine wp_seq ?_
    refine wp_region_lit ?_
    refine s_one (.int .i64 (firstOf [mdE mw md ms mt, (must_a_r (inB z 1 (wr (mt - 1))) 22)])) A37 S32 (g_move (by kernel_rfl)) rfl (fun ac A40 => ?_)
    refine s_one (.int .i64 0) A40 S32 (g_assign (by kernel_rfl)) rfl (fun ac A41 => ?_)
    refine s_one (.int .i64 (firstOf [mdE mw md ms mt, (must_a_r (inB z 1 (wr (mt - 1))) 22)])) A41 S32 (g_assign (by kernel_rfl)) rfl (fun ac A42 => ?_)
    refine wpList_nil ?_
    refine n_then ?_
    refine wp_ret ?_
    refine r_then ?_
    refine fin2 (.int .i64 0) (.int .i64 (firstOf [mdE mw md ms mt, (must_a_r (inB z 1 (wr (mt - 1))) 22)])) Try.results30 A42 S32 (rv_tmp (by kernel_rfl)) (rv_tmp (by kernel_rfl)) ⟨?_, S32.kp⟩
    have zn : ufE mw md ms mt z ≠ 0 := p39
    simp only [zv_n zn]
    rfl
  · have p43 := of_decide_eq_false h38
    have ze0 : firstOf [mdE mw md ms mt, (must_a_r (inB z 1 (wr (mt - 1))) 22)] = 0 := by simpa using h38
    have ze : ufE mw md ms mt z = 0 := ze0
    have zz := ufE_0 ze
    have zm := mdE_0 zz.1
    refine wp_skip ?_
    refine n_then ?_
    refine wp_seq ?_
    refine wp_region_lit ?_
    refine s_one (.agg #[.int .i64 mw, .int .i64 md, .int .i64 ms, .int .i64 mt]) A37 S32 (g_load (g := g3) (off := 0) 1 (by kernel_rfl) rfl (by kernel_rfl)) rfl (fun ac A44 => ?_)
    refine s_one (.int .i64 z) A44 S32 (g_move (by kernel_rfl)) rfl (fun ac A45 => ?_)
    have q49 := unf_bd (ms := ms) (mt := mt) (z := z) (by omega) (by omega) (by omega)
    refine s_call (fs := #[]) (cp := #[]) (r := [(0, .agg #[.int .i64 mw, .int .i64 md, .int .i64 ms, .int .i64 mt]), (0, .int .i64 z)]) #[.agg #[.int .i64 mw, .int .i64 md, .int .i64 ms, .int .i64 mt], .int .i64 z] (.int .i64 (unf ms mt z)) A45 S32 (unfolded_s mw md ms mt z _ (by omega) (by omega) (by omega)) Try.call90 (by kernel_rfl) (by kernel_rfl) (by kernel_rfl) rfl (fun ac wc A46 S47 => ?_)
    refine s_one (.int .i64 (unf ms mt z)) A46 S47 (g_assign (by kernel_rfl)) rfl (fun ac A50 => ?_)
    refine s_one (.int .i64 0) A50 S47 (g_assign (by kernel_rfl)) rfl (fun ac A51 => ?_)
    refine wpList_nil ?_
    refine n_then ?_
    refine wp_ret ?_
    refine fin2 (.int .i64 (unf ms mt z)) (.int .i64 0) Try.results30 A51 S47 (rv_tmp (by kernel_rfl)) (rv_tmp (by kernel_rfl)) ⟨?_, S47.kp⟩
    simp only [zv_0 ze]
    rw [ze]

set_option maxRecDepth 100000 in
set_option maxHeartbeats 400000 in
theorem refUnfolded_s (mw md ms mt z : Int) (w0 : World) (h1 : 0 ≤ ms ∧ ms ≤ 4) (h2 : 2 ≤ mt ∧ mt ≤ 20000) (h3 : 1 ≤ z ∧ z ≤ mt - 1) :
    Calls Try.prog 33 #[.agg #[.int .i64 mw, .int .i64 md, .int .i64 ms, .int .i64 mt], .int .i64 z] w0 fun e w' => e = .returned (.int .i64 (unf ms mt z)) ∧ Below w0.heap.size w0 w' := by
  have S0 := St.start w0
  have q := mst_bd h1 h2
  refine enter (n := 26) Try.func33 rfl rfl rfl (fun ac A0 => ?_)
  refine wp_seq ?_
  refine wp_region_lit ?_
  refine s_box (.agg #[.int .i64 mw, .int .i64 md, .int .i64 ms, .int .i64 mt]) A0 S0 (by kernel_rfl) rfl (fun g3 ac wc A1 S2 => ?_)
  replace S2 : St _ (⟨g3, 39, #[.int .i64 mw, .int .i64 md, .int .i64 ms, .int .i64 mt], true⟩ :: _) _ _ := S2
  refine s_one (.int .i64 0) A1 S2 (g_assign (by kernel_rfl)) rfl (fun ac A5 => ?_)
  refine wpList_nil ?_
  refine n_then ?_
  refine wp_seq ?_
  refine wp_seq ?_
  refine wp_region_lit ?_
  refine s_one (.pointer (some ⟨g3, 2, none⟩)) A5 S2 (g_field (u := .pointer (some ⟨g3, 0, none⟩)) (by kernel_rfl) (fun _ => by kernel_rfl)) rfl (fun ac A6 => ?_)
  refine s_one (.int .i64 ms) A6 S2 (g_load (g := g3) (off := 2) 0 (by kernel_rfl) rfl (by kernel_rfl)) rfl (fun ac A7 => ?_)
  refine s_one (.int .i64 ((ms).tmod 2)) A7 S2 (g_bin (u := .int .i64 ms) (k := .int .i64 2) (by kernel_rfl) (by kernel_rfl) (fun _ => by kernel_rfl) (b_rem (by omega))) rfl (fun ac A8 => ?_)
  refine s_one (.bool (decide ((ms).tmod 2 = 0))) A8 S2 (g_bin (u := .int .i64 ((ms).tmod 2)) (k := .int .i64 0) (by kernel_rfl) (by kernel_rfl) (fun _ => by kernel_rfl) b_eql) rfl (fun ac A9 => ?_)
  refine wpList_nil ?_
  refine n_then ?_
  refine c_ifb (b := (decide ((ms).tmod 2 = 0))) A9 (by kernel_rfl) (fun h10 => ?_) (fun h10 => ?_)
  · have p11 := of_decide_eq_true h10
    refine wp_seq ?_
    refine wp_region_lit ?_
    refine s_one (.pointer (some ⟨g3, 2, none⟩)) A9 S2 (g_field (u := .pointer (some ⟨g3, 0, none⟩)) (by kernel_rfl) (fun _ => by kernel_rfl)) rfl (fun ac A12 => ?_)
    refine s_one (.int .i64 ms) A12 S2 (g_load (g := g3) (off := 2) 0 (by kernel_rfl) rfl (by kernel_rfl)) rfl (fun ac A13 => ?_)
    refine s_one (.pointer (some ⟨g3, 3, none⟩)) A13 S2 (g_field (u := .pointer (some ⟨g3, 0, none⟩)) (by kernel_rfl) (fun _ => by kernel_rfl)) rfl (fun ac A14 => ?_)
    refine s_one (.int .i64 mt) A14 S2 (g_load (g := g3) (off := 3) 0 (by kernel_rfl) rfl (by kernel_rfl)) rfl (fun ac A15 => ?_)
    refine s_one (.int .i64 (ms * mt)) A15 S2 (g_bin (u := .int .i64 ms) (k := .int .i64 mt) (by kernel_rfl) (by kernel_rfl) (fun _ => by kernel_rfl) (b_mul (by omega))) rfl (fun ac A16 => ?_)
    refine s_one (.int .i64 z) A16 S2 (g_move (by kernel_rfl)) rfl (fun ac A17 => ?_)
    refine s_one (.int .i64 (ms * mt + z)) A17 S2 (g_bin (u := .int .i64 (ms * mt)) (k := .int .i64 z) (by kernel_rfl) (by kernel_rfl) (fun _ => by kernel_rfl) (b_add (by omega))) rfl (fun ac A18 => ?_)
    refine s_one (.int .i64 (ms * mt + z)) A18 S2 (g_assign (by kernel_rfl)) rfl (fun ac A19 => ?_)
    refine wpList_nil ?_
    refine n_then ?_
    refine wp_ret ?_
    refine r_then ?_
    refine fin1 (.int .i64 (ms * mt + z)) Try.results33 A19 S2 (rv_tmp (by kernel_rfl)) ⟨?_, S2.kp⟩
    have e : unf ms mt z = ms * mt + z := (unf_r h1).trans (if_pos p11)
    rw [e]
  · have p20 := of_decide_eq_false h10
    refine wp_skip ?_
    refine n_then ?_
    refine wp_seq ?_
    refine wp_region_lit ?_
    refine s_one (.pointer (some ⟨g3, 2, none⟩)) A9 S2 (g_field (u := .pointer (some ⟨g3, 0, none⟩)) (by kernel_rfl) (fun _ => by kernel_rfl)) rfl (fun ac A21 => ?_)
    refine s_one (.int .i64 ms) A21 S2 (g_load (g := g3) (off := 2) 0 (by kernel_rfl) rfl (by kernel_rfl)) rfl (fun ac A22 => ?_)
    refine s_one (.pointer (some ⟨g3, 3, none⟩)) A22 S2 (g_field (u := .pointer (some ⟨g3, 0, none⟩)) (by kernel_rfl) (fun _ => by kernel_rfl)) rfl (fun ac A23 => ?_)
    refine s_one (.int .i64 mt) A23 S2 (g_load (g := g3) (off := 3) 0 (by kernel_rfl) rfl (by kernel_rfl)) rfl (fun ac A24 => ?_)
    refine s_one (.int .i64 (ms * mt)) A24 S2 (g_bin (u := .int .i64 ms) (k := .int .i64 mt) (by kernel_rfl) (by kernel_rfl) (fun _ => by kernel_rfl) (b_mul (by omega))) rfl (fun ac A25 => ?_)
    refine s_one (.pointer (some ⟨g3, 3, none⟩)) A25 S2 (g_field (u := .pointer (some ⟨g3, 0, none⟩)) (by kernel_rfl) (fun _ => by kernel_rfl)) rfl (fun ac A26 => ?_)
    refine s_one (.int .i64 mt) A26 S2 (g_load (g := g3) (off := 3) 0 (by kernel_rfl) rfl (by kernel_rfl)) rfl (fun ac A27 => ?_)
    refine s_one (.int .i64 (ms * mt + mt)) A27 S2 (g_bin (u := .int .i64 (ms * mt)) (k := .int .i64 mt) (by kernel_rfl) (by kernel_rfl) (fun _ => by kernel_rfl) (b_add (by omega))) rfl (fun ac A28 => ?_)
    refine s_one (.int .i64 z) A28 S2 (g_move (by kernel_rfl)) rfl (fun ac A29 => ?_)
    refine s_one (.int .i64 (ms * mt + mt - z)) A29 S2 (g_bin (u := .int .i64 (ms * mt + mt)) (k := .int .i64 z) (by kernel_rfl) (by kernel_rfl) (fun _ => by kernel_rfl) (b_sub (by omega))) rfl (fun ac A30 => ?_)
    refine s_one (.int .i64 (ms * mt + mt - z)) A30 S2 (g_assign (by kernel_rfl)) rfl (fun ac A31 => ?_)
    refine wpList_nil ?_
    refine n_then ?_
    refine wp_ret ?_
    refine fin1 (.int .i64 (ms * mt + mt - z)) Try.results33 A31 S2 (rv_tmp (by kernel_rfl)) ⟨?_, S2.kp⟩
    have e : unf ms mt z = ms * mt + mt - z := (unf_r h1).trans (if_neg p20)
    rw [e]

theorem wyE_r1 {mt fx fz tx tz : Int} (h : firstOf [spE fx fz, spE tx tz] ≠ 0) : wyE mt fx fz tx tz = firstOf [spE fx fz, spE tx tz] := fo_a (r := [_, _]) h
theorem wyE_r {mt fx fz tx tz : Int} (h : firstOf [spE fx fz, spE tx tz] = 0) : wyE mt fx fz tx tz = firstOf [must_a_r (decide (fz < 0)) 15, must_a_r (inB tz 1 (mt - 1)) 22] := fo_b (r := [_, _]) h
theorem wyE_r2 {mt fx fz tx tz : Int} (h : firstOf [spE fx fz, spE tx tz] = 0) (h2 : fz ≥ 0) : wyE mt fx fz tx tz = 15 := by
  rw [wyE_r h, decide_eq_false (by omega)]; exact fo_ne (by decide)
theorem wyE_r3 {mt fx fz tx tz : Int} (h : firstOf [spE fx fz, spE tx tz] = 0) (h2 : ¬ fz ≥ 0) : wyE mt fx fz tx tz = must_a_r (inB tz 1 (mt - 1)) 22 := by
  rw [wyE_r h, decide_eq_true (by omega), fo_cons0 (must_t _), fo_last]

set_option maxRecDepth 100000 in
set_option maxHeartbeats 400000 in
theorem refWayErr_s (mw md ms mt fx fz tx tz : Int) (w0 : World) (h2 : 2 ≤ mt ∧ mt ≤ 20000) :
    Calls Try.prog 97 #[.agg #[.int .i64 mw, .int .i64 md, .int .i64 ms, .int .i64 mt], .agg #[.int .i64 fx, .int .i64 fz], .agg #[.int .i64 tx, .int .i64 tz]] w0 fun e w' => e = .returned (.int .i64 (wyE mt fx fz tx tz)) ∧ Below w0.heap.size w0 w' := by
  have S0 := St.start w0
  refine enter (n := 27) Try.func97 rfl rfl rfl (fun ac A0 => ?_)
  refine wp_seq ?_
  refine wp_region_lit ?_
  refine s_box (.agg #[.int .i64 mw, .int .i64 md, .int .i64 ms, .int .i64 mt]) A0 S0 (by kernel_rfl) rfl (fun g3 ac wc A1 S2 => ?_)
  replace S2 : St _ (⟨g3, 39, #[.int .i64 mw, .int .i64 md, .int .i64 ms, .int .i64 mt], true⟩ :: _) _ _ := S2
  refine s_box (.agg #[.int .i64 fx, .int .i64 fz]) A1 S2 (by kernel_rfl) rfl (fun g7 ac wc A5 S6 => ?_)
  replace S6 : St _ (⟨g7, 41, #[.int .i64 fx, .int .i64 fz], true⟩ :: _) _ _ := S6
  refine s_box (.agg #[.int .i64 tx, .int .i64 tz]) A5 S6 (by kernel_rfl) rfl (fun g11 ac wc A9 S10 => ?_)
  replace S10 : St _ (⟨g11, 41, #[.int .i64 tx, .int .i64 tz], true⟩ :: _) _ _ := S10
  refine s_one (.int .i64 0) A9 S10 (g_assign (by kernel_rfl)) rfl (fun ac A13 => ?_)
  refine wpList_nil ?_
  refine n_then ?_
  refine wp_seq ?_
  refine wp_seq ?_
  refine r_begin (w0 := w0) (by kernel_rfl) (S10.sub sub_all sub_all) (fun wc T14 B15 => ?_)
  have S16 := S10.kept B15
  refine r_take 0 (.agg #[.int .i64 fx, .int .i64 fz]) A13 T14 (g_load (g := g7) (off := 0) 1 (by kernel_rfl) rfl (by kernel_rfl)) rfl rfl rfl (pf_then (pf_then pf_body)) (by kernel_rfl) (fun ac A17 => ?_)
  refine r_take 2 (.agg #[.int .i64 tx, .int .i64 tz]) A17 T14 (g_load (g := g11) (off := 0) 0 (by kernel_rfl) rfl (by kernel_rfl)) rfl rfl rfl (pf_then (pf_then pf_body)) (by kernel_rfl) (fun ac A18 => ?_)
  refine r_1 (i := 1) (by kernel_rfl) ?_
  refine rs_call (fs := #[]) (cp := #[]) (r := [(0, .agg #[.int .i64 fx, .int .i64 fz])]) #[.agg #[.int .i64 fx, .int .i64 fz]] (.int .i64 (spE fx fz)) A18 S16 sub_all sub_all (refSpotErr_s fx fz _) Try.call35 rfl rfl (by kernel_rfl) (by kernel_rfl) (by kernel_rfl) rfl (fun ac wc A19 S20 => ?_)
  have T22 := S20.sub sub_all sub_all
  refine r_1 (i := 3) (by kernel_rfl) ?_
  refine rs_call (fs := #[]) (cp := #[]) (r := [(0, .agg #[.int .i64 tx, .int .i64 tz])]) #[.agg #[.int .i64 tx, .int .i64 tz]] (.int .i64 (spE tx tz)) A19 S20 sub_all sub_all (refSpotErr_s tx tz _) Try.call35 rfl rfl (by kernel_rfl) (by kernel_rfl) (by kernel_rfl) rfl (fun ac wc A23 S24 => ?_)
  have T26 := S24.sub sub_all sub_all
  refine r_1 (i := 4) (by kernel_rfl) ?_
  refine rs_bs (e := 3) (r := [(0, .int .i64 (spE fx fz)), (1, .int .i64 (spE tx tz))]) (#[.int .i64 (spE fx fz), .int .i64 (spE tx tz)]) A23 S24 sub_all sub_all (by kernel_rfl) (by kernel_rfl) rfl rfl rfl (fun g29 ac wc A27 S28 => ?_)
  have T30 := S28.sub (sub_skip sub_all) sub_all
  refine r_1 (i := 5) (by kernel_rfl) ?_
  refine rs_call (fs := #[]) (cp := #[]) (r := [(0, .slice (some ⟨g29, 0, none⟩) 2 2)]) #[.slice (some ⟨g29, 0, none⟩) 2 2] (.int .i64 (firstOf [spE fx fz, spE tx tz])) A27 S28 (sub_skip sub_all) sub_all (firstOf_s g29 ([spE fx fz, spE tx tz]) 2 2 _ (S28.get 0 rfl) rfl (by omega)) Try.call79 rfl rfl (by kernel_rfl) (by kernel_rfl) (by kernel_rfl) rfl (fun ac wc A31 S32 => ?_)
  have T34 := S32.sub (sub_skip sub_all) sub_all
  refine r_take 6 (.int .i64 (firstOf [spE fx fz, spE tx tz])) A31 T34 (g_assign (by kernel_rfl)) rfl rfl rfl (pf_then (pf_then pf_body)) (by kernel_rfl) (fun ac A35 => ?_)
  refine r_done (by kernel_rfl) ?_
  refine n_then ?_
  refine wp_seq ?_
  refine wp_region_lit ?_
  refine s_one (.int .i64 (firstOf [spE fx fz, spE tx tz])) A35 S32 (g_move (by kernel_rfl)) rfl (fun ac A36 => ?_)
  refine s_one (.bool (decide (firstOf [spE fx fz, spE tx tz] ≠ 0))) A36 S32 (g_bin (u := .int .i64 (firstOf [spE fx fz, spE tx tz])) (k := .int .i64 0) (by kernel_rfl) (by kernel_rfl) (fun _ => by kernel_rfl) b_neq) rfl (fun ac A37 => ?_)
  refine wpList_nil ?_
  refine n_then ?_
  refine c_ifb (b := (decide (firstOf [spE fx fz, spE tx tz] ≠ 0))) A37 (by kernel_rfl) (fun h38 => ?_) (fun h38 => ?_)
  · have p39 := of_decide_eq_true h38
    refine wp_seq ?_
    refine wp_region_lit ?_
    refine s_one (.int .i64 (firstOf [spE fx fz, spE tx tz])) A37 S32 (g_move (by kernel_rfl)) rfl (fun ac A40 => ?_)
    refine s_one (.int .i64 (firstOf [spE fx fz, spE tx tz])) A40 S32 (g_assign (by kernel_rfl)) rfl (fun ac A41 => ?_)
    refine wpList_nil ?_
    refine n_then ?_
    refine wp_ret ?_
    refine r_then ?_
    refine fin1 (.int .i64 (firstOf [spE fx fz, spE tx tz])) Try.results97 A41 S32 (rv_tmp (by kernel_rfl)) ⟨?_, S32.kp⟩
    rw [wyE_r1 p39]
  · have p42 := of_decide_eq_false h38
    refine wp_skip ?_
    refine n_then ?_
    refine wp_seq ?_
    refine wp_seq ?_
    refine wp_region_lit ?_
    refine s_one (.pointer (some ⟨g7, 1, none⟩)) A37 S32 (g_field (u := .pointer (some ⟨g7, 0, none⟩)) (by kernel_rfl) (fun _ => by kernel_rfl)) rfl (fun ac A43 => ?_)
    refine s_one (.int .i64 fz) A43 S32 (g_load (g := g7) (off := 1) 2 (by kernel_rfl) rfl (by kernel_rfl)) rfl (fun ac A44 => ?_)
    refine s_one (.bool (decide (fz ≥ 0))) A44 S32 (g_bin (u := .int .i64 fz) (k := .int .i64 0) (by kernel_rfl) (by kernel_rfl) (fun _ => by kernel_rfl) (fun _ => by kernel_rfl)) rfl (fun ac A45 => ?_)
    refine wpList_nil ?_
    refine n_then ?_
    refine c_ifb (b := (decide (fz ≥ 0))) A45 (by kernel_rfl) (fun h46 => ?_) (fun h46 => ?_)
    · have p47 := of_decide_eq_true h46
      refine wp_seq ?_
      refine wp_region_lit ?_
      refine s_one (.int .i64 15) A45 S32 (g_assign (by kernel_rfl)) rfl (fun ac A48 => ?_)
      refine wpList_nil ?_
      refine n_then ?_
      refine wp_ret ?_
      refine r_then ?_
      refine fin1 (.int .i64 15) Try.results97 A48 S32 (rv_tmp (by kernel_rfl)) ⟨?_, S32.kp⟩
      rw [wyE_r2 (by simpa using p42) p47]
    · have p49 := of_decide_eq_false h46
      refine wp_skip ?_
      refine n_then ?_
      refine wp_seq ?_
      refine wp_seq ?_
      refine wp_region_lit ?_
      refine s_one (.pointer (some ⟨g11, 1, none⟩)) A45 S32 (g_field (u := .pointer (some ⟨g11, 0, none⟩)) (by kernel_rfl) (fun _ => by kernel_rfl)) rfl (fun ac A50 => ?_)
      refine s_one (.int .i64 tz) A50 S32 (g_load (g := g11) (off := 1) 1 (by kernel_rfl) rfl (by kernel_rfl)) rfl (fun ac A51 => ?_)
      refine s_one (.pointer (some ⟨g3, 3, none⟩)) A51 S32 (g_field (u := .pointer (some ⟨g3, 0, none⟩)) (by kernel_rfl) (fun _ => by kernel_rfl)) rfl (fun ac A52 => ?_)
      refine s_one (.int .i64 mt) A52 S32 (g_load (g := g3) (off := 3) 3 (by kernel_rfl) rfl (by kernel_rfl)) rfl (fun ac A53 => ?_)
      refine s_one (.int .i64 (mt - 1)) A53 S32 (g_bin (u := .int .i64 mt) (k := .int .i64 1) (by kernel_rfl) (by kernel_rfl) (fun _ => by kernel_rfl) (b_sub (by omega))) rfl (fun ac A54 => ?_)
      refine s_call (fs := #[]) (cp := #[]) (r := [(0, .int .i64 tz), (0, .int .i64 1), (0, .int .i64 (mt - 1))]) #[.int .i64 tz, .int .i64 1, .int .i64 (mt - 1)] (.bool (inB tz 1 (mt - 1))) A54 S32 (Within_s tz 1 (mt - 1) _) Try.call26 (by kernel_rfl) (by kernel_rfl) (by kernel_rfl) rfl (fun ac wc A55 S56 => ?_)
      refine s_one (.bool (!(inB tz 1 (mt - 1)))) A55 S56 (g_un (u := .bool (inB tz 1 (mt - 1))) (by kernel_rfl) (fun _ => by kernel_rfl)) rfl (fun ac A58 => ?_)
      refine wpList_nil ?_
      refine n_then ?_
      refine c_ifb (b := (!(inB tz 1 (mt - 1)))) A58 (by kernel_rfl) (fun h59 => ?_) (fun h59 => ?_)
      · have h60 : inB tz 1 (mt - 1) = false := by simpa using h59
        refine wp_seq ?_
        refine wp_region_lit ?_
        refine s_one (.int .i64 22) A58 S56 (g_assign (by kernel_rfl)) rfl (fun ac A61 => ?_)
        refine wpList_nil ?_
        refine n_then ?_
        refine wp_ret ?_
        refine r_then ?_
        refine fin1 (.int .i64 22) Try.results97 A61 S56 (rv_tmp (by kernel_rfl)) ⟨?_, S56.kp⟩
        rw [wyE_r3 (by simpa using p42) p49, h60]
        rfl
      · have h62 : inB tz 1 (mt - 1) = true := by simpa using h59
        refine wp_skip ?_
        refine n_then ?_
        refine wp_seq ?_
        refine wp_region_lit ?_
        refine s_one (.int .i64 0) A58 S56 (g_assign (by kernel_rfl)) rfl (fun ac A63 => ?_)
        refine wpList_nil ?_
        refine n_then ?_
        refine wp_ret ?_
        refine fin1 (.int .i64 0) Try.results97 A63 S56 (rv_tmp (by kernel_rfl)) ⟨?_, S56.kp⟩
        rw [wyE_r3 (by simpa using p42) p49, h62]
        rfl

set_option maxRecDepth 100000 in
set_option maxHeartbeats 400000 in
theorem CrossOf_s (mw md ms mt fx fz tx tz : Int) (w0 : World) :
    Calls Try.prog 47 #[.agg #[.int .i64 mw, .int .i64 md, .int .i64 ms, .int .i64 mt], .agg #[.int .i64 fx, .int .i64 fz], .agg #[.int .i64 tx, .int .i64 tz]] w0 fun e w' => e = .returned (.tuple #[.agg #[.int .i64 (zv (opE mw md ms mt fx fz tx tz) (fx)), .int .i64 (zv (opE mw md ms mt fx fz tx tz) (-fz)), .int .i64 (zv (opE mw md ms mt fx fz tx tz) (mw)), .int .i64 (zv (opE mw md ms mt fx fz tx tz) (tx)), .int .i64 (zv (opE mw md ms mt fx fz tx tz) (unf ms mt tz)), .int .i64 (zv (opE mw md ms mt fx fz tx tz) (md))], .int .i64 (opE mw md ms mt fx fz tx tz)]) ∧ Below w0.heap.size w0 w' := by
  have S0 := St.start w0
  refine enter (n := 20) Try.func47 rfl rfl rfl (fun ac A0 => ?_)
  refine wp_seq ?_
  refine wp_region_lit ?_
  refine s_box (.agg #[.int .i64 mw, .int .i64 md, .int .i64 ms, .int .i64 mt]) A0 S0 (by kernel_rfl) rfl (fun g3 ac wc A1 S2 => ?_)
  replace S2 : St _ (⟨g3, 39, #[.int .i64 mw, .int .i64 md, .int .i64 ms, .int .i64 mt], true⟩ :: _) _ _ := S2
  refine s_box (.agg #[.int .i64 fx, .int .i64 fz]) A1 S2 (by kernel_rfl) rfl (fun g7 ac wc A5 S6 => ?_)
  replace S6 : St _ (⟨g7, 41, #[.int .i64 fx, .int .i64 fz], true⟩ :: _) _ _ := S6
  refine s_box (.agg #[.int .i64 tx, .int .i64 tz]) A5 S6 (by kernel_rfl) rfl (fun g11 ac wc A9 S10 => ?_)
  replace S10 : St _ (⟨g11, 41, #[.int .i64 tx, .int .i64 tz], true⟩ :: _) _ _ := S10
  refine s_alloc (#[.int .i64 0, .int .i64 0, .int .i64 0, .int .i64 0, .int .i64 0, .int .i64 0]) A9 S10 (by kernel_rfl) rfl (fun g15 ac wc A13 S14 => ?_)
  refine s_one (.int .i64 0) A13 S14 (g_assign (by kernel_rfl)) rfl (fun ac A16 => ?_)
  refine wpList_nil ?_
  refine n_then ?_
  refine wp_seq ?_
  refine wp_region_lit ?_
  refine s_one (.agg #[.int .i64 mw, .int .i64 md, .int .i64 ms, .int .i64 mt]) A16 S14 (g_load (g := g3) (off := 0) 3 (by kernel_rfl) rfl (by kernel_rfl)) rfl (fun ac A17 => ?_)
  refine s_one (.agg #[.int .i64 fx, .int .i64 fz]) A17 S14 (g_load (g := g7) (off := 0) 2 (by kernel_rfl) rfl (by kernel_rfl)) rfl (fun ac A18 => ?_)
  refine s_one (.agg #[.int .i64 tx, .int .i64 tz]) A18 S14 (g_load (g := g11) (off := 0) 1 (by kernel_rfl) rfl (by kernel_rfl)) rfl (fun ac A19 => ?_)
  refine s_call (fs := #[]) (cp := #[]) (r := [(0, .agg #[.int .i64 mw, .int .i64 md, .int .i64 ms, .int .i64 mt]), (0, .agg #[.int .i64 fx, .int .i64 fz]), (0, .agg #[.int .i64 tx, .int .i64 tz])]) #[.agg #[.int .i64 mw, .int .i64 md, .int .i64 ms, .int .i64 mt], .agg #[.int .i64 fx, .int .i64 fz], .agg #[.int .i64 tx, .int .i64 tz]] (.tuple #[.agg #[.int .i64 (zv (opE mw md ms mt fx fz tx tz) (fx)), .int .i64 (zv (opE mw md ms mt fx fz tx tz) (-fz)), .int .i64 (zv (opE mw md ms mt fx fz tx tz) (mw)), .int .i64 (zv (opE mw md ms mt fx fz tx tz) (tx)), .int .i64 (zv (opE mw md ms mt fx fz tx tz) (unf ms mt tz)), .int .i64 (zv (opE mw md ms mt fx fz tx tz) (md))], .int .i64 (opE mw md ms mt fx fz tx tz)]) A19 S14 (open_s mw md ms mt fx fz tx tz _) Try.call82 (by kernel_rfl) (by kernel_rfl) (by kernel_rfl) rfl (fun ac wc A20 S21 => ?_)
  refine s_one (.tuple #[.agg #[.int .i64 (zv (opE mw md ms mt fx fz tx tz) (fx)), .int .i64 (zv (opE mw md ms mt fx fz tx tz) (-fz)), .int .i64 (zv (opE mw md ms mt fx fz tx tz) (mw)), .int .i64 (zv (opE mw md ms mt fx fz tx tz) (tx)), .int .i64 (zv (opE mw md ms mt fx fz tx tz) (unf ms mt tz)), .int .i64 (zv (opE mw md ms mt fx fz tx tz) (md))], .int .i64 (opE mw md ms mt fx fz tx tz)]) A20 S21 (g_move (by kernel_rfl)) rfl (fun ac A23 => ?_)
  refine s_one (.agg #[.int .i64 (zv (opE mw md ms mt fx fz tx tz) (fx)), .int .i64 (zv (opE mw md ms mt fx fz tx tz) (-fz)), .int .i64 (zv (opE mw md ms mt fx fz tx tz) (mw)), .int .i64 (zv (opE mw md ms mt fx fz tx tz) (tx)), .int .i64 (zv (opE mw md ms mt fx fz tx tz) (unf ms mt tz)), .int .i64 (zv (opE mw md ms mt fx fz tx tz) (md))]) A23 S21 (g_extract (u := .tuple #[.agg #[.int .i64 (zv (opE mw md ms mt fx fz tx tz) (fx)), .int .i64 (zv (opE mw md ms mt fx fz tx tz) (-fz)), .int .i64 (zv (opE mw md ms mt fx fz tx tz) (mw)), .int .i64 (zv (opE mw md ms mt fx fz tx tz) (tx)), .int .i64 (zv (opE mw md ms mt fx fz tx tz) (unf ms mt tz)), .int .i64 (zv (opE mw md ms mt fx fz tx tz) (md))], .int .i64 (opE mw md ms mt fx fz tx tz)]) (by kernel_rfl) (fun _ => by kernel_rfl)) rfl (fun ac A24 => ?_)
  refine s_one (.int .i64 (opE mw md ms mt fx fz tx tz)) A24 S21 (g_extract (u := .tuple #[.agg #[.int .i64 (zv (opE mw md ms mt fx fz tx tz) (fx)), .int .i64 (zv (opE mw md ms mt fx fz tx tz) (-fz)), .int .i64 (zv (opE mw md ms mt fx fz tx tz) (mw)), .int .i64 (zv (opE mw md ms mt fx fz tx tz) (tx)), .int .i64 (zv (opE mw md ms mt fx fz tx tz) (unf ms mt tz)), .int .i64 (zv (opE mw md ms mt fx fz tx tz) (md))], .int .i64 (opE mw md ms mt fx fz tx tz)]) (by kernel_rfl) (fun _ => by kernel_rfl)) rfl (fun ac A25 => ?_)
  refine s_alloc (#[.int .i64 0, .int .i64 0, .int .i64 0, .int .i64 0, .int .i64 0, .int .i64 0]) A25 S21 (by kernel_rfl) rfl (fun g28 ac wc A26 S27 => ?_)
  refine s_store (g := g28) (off := 0) (v := .agg #[.int .i64 (zv (opE mw md ms mt fx fz tx tz) (fx)), .int .i64 (zv (opE mw md ms mt fx fz tx tz) (-fz)), .int .i64 (zv (opE mw md ms mt fx fz tx tz) (mw)), .int .i64 (zv (opE mw md ms mt fx fz tx tz) (tx)), .int .i64 (zv (opE mw md ms mt fx fz tx tz) (unf ms mt tz)), .int .i64 (zv (opE mw md ms mt fx fz tx tz) (md))]) 0 (#[.int .i64 (zv (opE mw md ms mt fx fz tx tz) (fx)), .int .i64 (zv (opE mw md ms mt fx fz tx tz) (-fz)), .int .i64 (zv (opE mw md ms mt fx fz tx tz) (mw)), .int .i64 (zv (opE mw md ms mt fx fz tx tz) (tx)), .int .i64 (zv (opE mw md ms mt fx fz tx tz) (unf ms mt tz)), .int .i64 (zv (opE mw md ms mt fx fz tx tz) (md))]) A26 S27 (by kernel_rfl) (by kernel_rfl) rfl (by kernel_rfl) (fun wc S30 => ?_)
  refine s_one (.int .i64 (opE mw md ms mt fx fz tx tz)) A26 S30 (g_assign (by kernel_rfl)) rfl (fun ac A32 => ?_)
  refine wpList_nil ?_
  refine n_then ?_
  refine wp_seq ?_
  refine wp_region_lit ?_
  refine s_one (.pointer (some ⟨g28, 0, none⟩)) A32 S30 (g_field (u := .pointer (some ⟨g28, 0, none⟩)) (by kernel_rfl) (fun _ => by kernel_rfl)) rfl (fun ac A33 => ?_)
  refine s_one (.agg #[.int .i64 (zv (opE mw md ms mt fx fz tx tz) (fx)), .int .i64 (zv (opE mw md ms mt fx fz tx tz) (-fz)), .int .i64 (zv (opE mw md ms mt fx fz tx tz) (mw)), .int .i64 (zv (opE mw md ms mt fx fz tx tz) (tx)), .int .i64 (zv (opE mw md ms mt fx fz tx tz) (unf ms mt tz)), .int .i64 (zv (opE mw md ms mt fx fz tx tz) (md))]) A33 S30 (g_load (g := g28) (off := 0) 0 (by kernel_rfl) rfl (by kernel_rfl)) rfl (fun ac A34 => ?_)
  refine s_one (.int .i64 (opE mw md ms mt fx fz tx tz)) A34 S30 (g_move (by kernel_rfl)) rfl (fun ac A35 => ?_)
  refine s_store (g := g15) (off := 0) (v := .agg #[.int .i64 (zv (opE mw md ms mt fx fz tx tz) (fx)), .int .i64 (zv (opE mw md ms mt fx fz tx tz) (-fz)), .int .i64 (zv (opE mw md ms mt fx fz tx tz) (mw)), .int .i64 (zv (opE mw md ms mt fx fz tx tz) (tx)), .int .i64 (zv (opE mw md ms mt fx fz tx tz) (unf ms mt tz)), .int .i64 (zv (opE mw md ms mt fx fz tx tz) (md))]) 1 (#[.int .i64 (zv (opE mw md ms mt fx fz tx tz) (fx)), .int .i64 (zv (opE mw md ms mt fx fz tx tz) (-fz)), .int .i64 (zv (opE mw md ms mt fx fz tx tz) (mw)), .int .i64 (zv (opE mw md ms mt fx fz tx tz) (tx)), .int .i64 (zv (opE mw md ms mt fx fz tx tz) (unf ms mt tz)), .int .i64 (zv (opE mw md ms mt fx fz tx tz) (md))]) A35 S30 (by kernel_rfl) (by kernel_rfl) rfl (by kernel_rfl) (fun wc S37 => ?_)
  refine s_one (.int .i64 (opE mw md ms mt fx fz tx tz)) A35 S37 (g_assign (by kernel_rfl)) rfl (fun ac A39 => ?_)
  refine wpList_nil ?_
  refine n_then ?_
  refine wp_ret ?_
  refine fin2 (.agg #[.int .i64 (zv (opE mw md ms mt fx fz tx tz) (fx)), .int .i64 (zv (opE mw md ms mt fx fz tx tz) (-fz)), .int .i64 (zv (opE mw md ms mt fx fz tx tz) (mw)), .int .i64 (zv (opE mw md ms mt fx fz tx tz) (tx)), .int .i64 (zv (opE mw md ms mt fx fz tx tz) (unf ms mt tz)), .int .i64 (zv (opE mw md ms mt fx fz tx tz) (md))]) (.int .i64 (opE mw md ms mt fx fz tx tz)) Try.results47 A39 S37 (rv_cell (g := g15) (off := 0) 1 (by kernel_rfl) rfl (by kernel_rfl)) (rv_tmp (by kernel_rfl)) ⟨?_, S37.kp⟩
  rfl

set_option maxRecDepth 100000 in
set_option maxHeartbeats 400000 in
theorem refCrossOf_s (mw md ms mt fx fz tx tz : Int) (w0 : World) (h1 : 0 ≤ ms ∧ ms ≤ 4) (h2 : 2 ≤ mt ∧ mt ≤ 20000) (h3 : 1 ≤ tz ∧ tz ≤ mt - 1) (h4 : -100000 ≤ fz ∧ fz < 0) :
    Calls Try.prog 51 #[.agg #[.int .i64 mw, .int .i64 md, .int .i64 ms, .int .i64 mt], .agg #[.int .i64 fx, .int .i64 fz], .agg #[.int .i64 tx, .int .i64 tz]] w0 fun e w' => e = .returned (.agg #[.int .i64 (fx), .int .i64 (-fz), .int .i64 (mw), .int .i64 (tx), .int .i64 (unf ms mt tz), .int .i64 (md)]) ∧ Below w0.heap.size w0 w' := by
  have S0 := St.start w0
  refine enter (n := 23) Try.func51 rfl rfl rfl (fun ac A0 => ?_)
  refine wp_seq ?_
  refine wp_region_lit ?_
  refine s_box (.agg #[.int .i64 mw, .int .i64 md, .int .i64 ms, .int .i64 mt]) A0 S0 (by kernel_rfl) rfl (fun g3 ac wc A1 S2 => ?_)
  replace S2 : St _ (⟨g3, 39, #[.int .i64 mw, .int .i64 md, .int .i64 ms, .int .i64 mt], true⟩ :: _) _ _ := S2
  refine s_box (.agg #[.int .i64 fx, .int .i64 fz]) A1 S2 (by kernel_rfl) rfl (fun g7 ac wc A5 S6 => ?_)
  replace S6 : St _ (⟨g7, 41, #[.int .i64 fx, .int .i64 fz], true⟩ :: _) _ _ := S6
  refine s_box (.agg #[.int .i64 tx, .int .i64 tz]) A5 S6 (by kernel_rfl) rfl (fun g11 ac wc A9 S10 => ?_)
  replace S10 : St _ (⟨g11, 41, #[.int .i64 tx, .int .i64 tz], true⟩ :: _) _ _ := S10
  refine s_alloc (#[.int .i64 0, .int .i64 0, .int .i64 0, .int .i64 0, .int .i64 0, .int .i64 0]) A9 S10 (by kernel_rfl) rfl (fun g15 ac wc A13 S14 => ?_)
  refine wpList_nil ?_
  refine n_then ?_
  refine wp_seq ?_
  refine r_begin (w0 := w0) (by kernel_rfl) (S14.sub (sub_skip sub_all) sub_all) (fun wc T16 B17 => ?_)
  have S18 := S14.kept B17
  refine r_take 0 (.pointer (some ⟨g7, 0, none⟩)) A13 T16 (g_field (u := .pointer (some ⟨g7, 0, none⟩)) (by kernel_rfl) (fun _ => by kernel_rfl)) rfl rfl rfl (pf_then pf_body) (by kernel_rfl) (fun ac A19 => ?_)
  refine r_take 1 (.int .i64 fx) A19 T16 (g_load (g := g7) (off := 0) 1 (by kernel_rfl) rfl (by kernel_rfl)) rfl rfl rfl (pf_then pf_body) (by kernel_rfl) (fun ac A20 => ?_)
  refine r_take 2 (.pointer (some ⟨g7, 1, none⟩)) A20 T16 (g_field (u := .pointer (some ⟨g7, 0, none⟩)) (by kernel_rfl) (fun _ => by kernel_rfl)) rfl rfl rfl (pf_then pf_body) (by kernel_rfl) (fun ac A21 => ?_)
  refine r_take 3 (.int .i64 fz) A21 T16 (g_load (g := g7) (off := 1) 1 (by kernel_rfl) rfl (by kernel_rfl)) rfl rfl rfl (pf_then pf_body) (by kernel_rfl) (fun ac A22 => ?_)
  refine r_take 4 (.int .i64 (-fz)) A22 T16 (g_un (u := .int .i64 fz) (by kernel_rfl) (u_neg (by omega))) rfl rfl rfl (pf_then pf_body) (by kernel_rfl) (fun ac A23 => ?_)
  refine r_take 5 (.pointer (some ⟨g3, 0, none⟩)) A23 T16 (g_field (u := .pointer (some ⟨g3, 0, none⟩)) (by kernel_rfl) (fun _ => by kernel_rfl)) rfl rfl rfl (pf_then pf_body) (by kernel_rfl) (fun ac A24 => ?_)
  refine r_take 6 (.int .i64 mw) A24 T16 (g_load (g := g3) (off := 0) 2 (by kernel_rfl) rfl (by kernel_rfl)) rfl rfl rfl (pf_then pf_body) (by kernel_rfl) (fun ac A25 => ?_)
  refine r_take 7 (.pointer (some ⟨g11, 0, none⟩)) A25 T16 (g_field (u := .pointer (some ⟨g11, 0, none⟩)) (by kernel_rfl) (fun _ => by kernel_rfl)) rfl rfl rfl (pf_then pf_body) (by kernel_rfl) (fun ac A26 => ?_)
  refine r_take 8 (.int .i64 tx) A26 T16 (g_load (g := g11) (off := 0) 0 (by kernel_rfl) rfl (by kernel_rfl)) rfl rfl rfl (pf_then pf_body) (by kernel_rfl) (fun ac A27 => ?_)
  refine r_take 9 (.agg #[.int .i64 mw, .int .i64 md, .int .i64 ms, .int .i64 mt]) A27 T16 (g_load (g := g3) (off := 0) 2 (by kernel_rfl) rfl (by kernel_rfl)) rfl rfl rfl (pf_then pf_body) (by kernel_rfl) (fun ac A28 => ?_)
  refine r_take 10 (.pointer (some ⟨g11, 1, none⟩)) A28 T16 (g_field (u := .pointer (some ⟨g11, 0, none⟩)) (by kernel_rfl) (fun _ => by kernel_rfl)) rfl rfl rfl (pf_then pf_body) (by kernel_rfl) (fun ac A29 => ?_)
  refine r_take 11 (.int .i64 tz) A29 T16 (g_load (g := g11) (off := 1) 0 (by kernel_rfl) rfl (by kernel_rfl)) rfl rfl rfl (pf_then pf_body) (by kernel_rfl) (fun ac A30 => ?_)
  refine r_take 13 (.pointer (some ⟨g3, 1, none⟩)) A30 T16 (g_field (u := .pointer (some ⟨g3, 0, none⟩)) (by kernel_rfl) (fun _ => by kernel_rfl)) rfl rfl rfl (pf_then pf_body) (by kernel_rfl) (fun ac A31 => ?_)
  refine r_take 14 (.int .i64 md) A31 T16 (g_load (g := g3) (off := 1) 2 (by kernel_rfl) rfl (by kernel_rfl)) rfl rfl rfl (pf_then pf_body) (by kernel_rfl) (fun ac A32 => ?_)
  refine r_1 (i := 12) (by kernel_rfl) ?_
  have q37 := unf_bd (ms := ms) (mt := mt) (z := tz) (by omega) (by omega) (by omega)
  refine rs_call (fs := #[]) (cp := #[]) (r := [(0, .agg #[.int .i64 mw, .int .i64 md, .int .i64 ms, .int .i64 mt]), (0, .int .i64 tz)]) #[.agg #[.int .i64 mw, .int .i64 md, .int .i64 ms, .int .i64 mt], .int .i64 tz] (.int .i64 (unf ms mt tz)) A32 S18 (sub_skip sub_all) sub_all (refUnfolded_s mw md ms mt tz _ (by omega) (by omega) (by omega)) Try.call33 rfl rfl (by kernel_rfl) (by kernel_rfl) (by kernel_rfl) rfl (fun ac wc A33 S34 => ?_)
  have T36 := S34.sub (sub_skip sub_all) sub_all
  refine r_take 15 (.agg #[.int .i64 fx, .int .i64 (-fz), .int .i64 mw, .int .i64 tx, .int .i64 (unf ms mt tz), .int .i64 md]) A33 T36 (g_build (r := [(0, .int .i64 fx), (1, .int .i64 (-fz)), (2, .int .i64 mw), (3, .int .i64 tx), (4, .int .i64 (unf ms mt tz)), (5, .int .i64 md)]) (by kernel_rfl) (fun _ => by kernel_rfl)) rfl rfl rfl (pf_then pf_body) (by kernel_rfl) (fun ac A38 => ?_)
  refine r_1 (i := 16) (by kernel_rfl) ?_
  refine rs_store (g := g15) (off := 0) (v := .agg #[.int .i64 fx, .int .i64 (-fz), .int .i64 mw, .int .i64 tx, .int .i64 (unf ms mt tz), .int .i64 md]) 0 (#[.int .i64 fx, .int .i64 (-fz), .int .i64 mw, .int .i64 tx, .int .i64 (unf ms mt tz), .int .i64 md]) A38 S34 (sub_skip sub_all) sub_all (by kernel_rfl) (by kernel_rfl) rfl (by kernel_rfl) rfl rfl (fun wc S40 => ?_)
  have T42 := S40.sub (sub_skip sub_all) sub_all
  refine r_done (by kernel_rfl) ?_
  refine n_then ?_
  refine wp_ret ?_
  refine fin1 (.agg #[.int .i64 fx, .int .i64 (-fz), .int .i64 mw, .int .i64 tx, .int .i64 (unf ms mt tz), .int .i64 md]) Try.results51 A38 S40 (rv_cell (g := g15) (off := 0) 0 (by kernel_rfl) rfl (by kernel_rfl)) ⟨?_, S40.kp⟩
  rfl

set_option maxRecDepth 100000 in
set_option maxHeartbeats 400000 in
theorem refLeastTime_s (mw md ms mt fx fz tx tz : Int) (w0 : World) (hm : mdE mw md ms mt = 0) (hw : wyE mt fx fz tx tz = 0) :
    Calls Try.prog 52 #[.agg #[.int .i64 mw, .int .i64 md, .int .i64 ms, .int .i64 mt], .agg #[.int .i64 fx, .int .i64 fz], .agg #[.int .i64 tx, .int .i64 tz]] w0 fun e w' => e = .returned (.agg #[.int .i64 (leLo (wyC mw md ms mt fx fz tx tz)), .int .i64 (mHi (wyC mw md ms mt fx fz tx tz))]) ∧ Below w0.heap.size w0 w' := by
  have S0 := St.start w0
  have zm := mdE_0 hm
  have zw := wyE_0 hw
  have ok := wyC_ok hm hw
  refine enter (n := 12) Try.func52 rfl rfl rfl (fun ac A0 => ?_)
  refine wp_seq ?_
  refine wp_region_lit ?_
  refine s_box (.agg #[.int .i64 mw, .int .i64 md, .int .i64 ms, .int .i64 mt]) A0 S0 (by kernel_rfl) rfl (fun g3 ac wc A1 S2 => ?_)
  replace S2 : St _ (⟨g3, 39, #[.int .i64 mw, .int .i64 md, .int .i64 ms, .int .i64 mt], true⟩ :: _) _ _ := S2
  refine s_box (.agg #[.int .i64 fx, .int .i64 fz]) A1 S2 (by kernel_rfl) rfl (fun g7 ac wc A5 S6 => ?_)
  replace S6 : St _ (⟨g7, 41, #[.int .i64 fx, .int .i64 fz], true⟩ :: _) _ _ := S6
  refine s_box (.agg #[.int .i64 tx, .int .i64 tz]) A5 S6 (by kernel_rfl) rfl (fun g11 ac wc A9 S10 => ?_)
  replace S10 : St _ (⟨g11, 41, #[.int .i64 tx, .int .i64 tz], true⟩ :: _) _ _ := S10
  refine s_alloc (#[.int .i64 0, .int .i64 0]) A9 S10 (by kernel_rfl) rfl (fun g15 ac wc A13 S14 => ?_)
  refine wpList_nil ?_
  refine n_then ?_
  refine wp_seq ?_
  refine wp_region_lit ?_
  refine s_one (.agg #[.int .i64 mw, .int .i64 md, .int .i64 ms, .int .i64 mt]) A13 S14 (g_load (g := g3) (off := 0) 3 (by kernel_rfl) rfl (by kernel_rfl)) rfl (fun ac A16 => ?_)
  refine s_one (.agg #[.int .i64 fx, .int .i64 fz]) A16 S14 (g_load (g := g7) (off := 0) 2 (by kernel_rfl) rfl (by kernel_rfl)) rfl (fun ac A17 => ?_)
  refine s_one (.agg #[.int .i64 tx, .int .i64 tz]) A17 S14 (g_load (g := g11) (off := 0) 1 (by kernel_rfl) rfl (by kernel_rfl)) rfl (fun ac A18 => ?_)
  refine s_call (fs := #[]) (cp := #[]) (r := [(0, .agg #[.int .i64 mw, .int .i64 md, .int .i64 ms, .int .i64 mt]), (0, .agg #[.int .i64 fx, .int .i64 fz]), (0, .agg #[.int .i64 tx, .int .i64 tz])]) #[.agg #[.int .i64 mw, .int .i64 md, .int .i64 ms, .int .i64 mt], .agg #[.int .i64 fx, .int .i64 fz], .agg #[.int .i64 tx, .int .i64 tz]] (.agg #[.int .i64 ((wyC mw md ms mt fx fz tx tz).x1), .int .i64 ((wyC mw md ms mt fx fz tx tz).h1), .int .i64 ((wyC mw md ms mt fx fz tx tz).v1), .int .i64 ((wyC mw md ms mt fx fz tx tz).x2), .int .i64 ((wyC mw md ms mt fx fz tx tz).h2), .int .i64 ((wyC mw md ms mt fx fz tx tz).v2)]) A18 S14 (refCrossOf_s mw md ms mt fx fz tx tz _ (by omega) (by omega) (by omega) (by omega)) Try.call51 (by kernel_rfl) (by kernel_rfl) (by kernel_rfl) rfl (fun ac wc A19 S20 => ?_)
  have q25 := le_bd (c := (wyC mw md ms mt fx fz tx tz)) ok
  refine s_call (fs := #[]) (cp := #[]) (r := [(0, .agg #[.int .i64 ((wyC mw md ms mt fx fz tx tz).x1), .int .i64 ((wyC mw md ms mt fx fz tx tz).h1), .int .i64 ((wyC mw md ms mt fx fz tx tz).v1), .int .i64 ((wyC mw md ms mt fx fz tx tz).x2), .int .i64 ((wyC mw md ms mt fx fz tx tz).h2), .int .i64 ((wyC mw md ms mt fx fz tx tz).v2)])]) #[.agg #[.int .i64 ((wyC mw md ms mt fx fz tx tz).x1), .int .i64 ((wyC mw md ms mt fx fz tx tz).h1), .int .i64 ((wyC mw md ms mt fx fz tx tz).v1), .int .i64 ((wyC mw md ms mt fx fz tx tz).x2), .int .i64 ((wyC mw md ms mt fx fz tx tz).h2), .int .i64 ((wyC mw md ms mt fx fz tx tz).v2)]] (.agg #[.int .i64 (leLo (wyC mw md ms mt fx fz tx tz)), .int .i64 (mHi (wyC mw md ms mt fx fz tx tz))]) A19 S20 (refLeast_s (wyC mw md ms mt fx fz tx tz) _ ok) Try.call24 (by kernel_rfl) (by kernel_rfl) (by kernel_rfl) rfl (fun ac wc A22 S23 => ?_)
  refine s_store (g := g15) (off := 0) (v := .agg #[.int .i64 (leLo (wyC mw md ms mt fx fz tx tz)), .int .i64 (mHi (wyC mw md ms mt fx fz tx tz))]) 0 (#[.int .i64 (leLo (wyC mw md ms mt fx fz tx tz)), .int .i64 (mHi (wyC mw md ms mt fx fz tx tz))]) A22 S23 (by kernel_rfl) (by kernel_rfl) rfl (by kernel_rfl) (fun wc S27 => ?_)
  refine wpList_nil ?_
  refine n_then ?_
  refine wp_ret ?_
  refine fin1 (.agg #[.int .i64 (leLo (wyC mw md ms mt fx fz tx tz)), .int .i64 (mHi (wyC mw md ms mt fx fz tx tz))]) Try.results52 A22 S27 (rv_cell (g := g15) (off := 0) 0 (by kernel_rfl) rfl (by kernel_rfl)) ⟨?_, S27.kp⟩
  rfl

set_option maxRecDepth 100000 in
set_option maxHeartbeats 400000 in
theorem refRounded_s (mw md ms mt fx fz tx tz : Int) (w0 : World) (hm : mdE mw md ms mt = 0) (hw : wyE mt fx fz tx tz = 0) :
    Calls Try.prog 53 #[.agg #[.int .i64 mw, .int .i64 md, .int .i64 ms, .int .i64 mt], .agg #[.int .i64 fx, .int .i64 fz], .agg #[.int .i64 tx, .int .i64 tz]] w0 fun e w' => e = .returned (.int .i64 ((leLo (wyC mw md ms mt fx fz tx tz) + mHi (wyC mw md ms mt fx fz tx tz)) / 2)) ∧ Below w0.heap.size w0 w' := by
  have S0 := St.start w0
  have zm := mdE_0 hm
  have zw := wyE_0 hw
  have ok := wyC_ok hm hw
  refine enter (n := 18) Try.func53 rfl rfl rfl (fun ac A0 => ?_)
  refine wp_seq ?_
  refine wp_region_lit ?_
  refine s_box (.agg #[.int .i64 mw, .int .i64 md, .int .i64 ms, .int .i64 mt]) A0 S0 (by kernel_rfl) rfl (fun g3 ac wc A1 S2 => ?_)
  replace S2 : St _ (⟨g3, 39, #[.int .i64 mw, .int .i64 md, .int .i64 ms, .int .i64 mt], true⟩ :: _) _ _ := S2
  refine s_box (.agg #[.int .i64 fx, .int .i64 fz]) A1 S2 (by kernel_rfl) rfl (fun g7 ac wc A5 S6 => ?_)
  replace S6 : St _ (⟨g7, 41, #[.int .i64 fx, .int .i64 fz], true⟩ :: _) _ _ := S6
  refine s_box (.agg #[.int .i64 tx, .int .i64 tz]) A5 S6 (by kernel_rfl) rfl (fun g11 ac wc A9 S10 => ?_)
  replace S10 : St _ (⟨g11, 41, #[.int .i64 tx, .int .i64 tz], true⟩ :: _) _ _ := S10
  refine s_one (.int .i64 0) A9 S10 (g_assign (by kernel_rfl)) rfl (fun ac A13 => ?_)
  refine wpList_nil ?_
  refine n_then ?_
  refine wp_seq ?_
  refine wp_region_lit ?_
  refine s_one (.agg #[.int .i64 mw, .int .i64 md, .int .i64 ms, .int .i64 mt]) A13 S10 (g_load (g := g3) (off := 0) 2 (by kernel_rfl) rfl (by kernel_rfl)) rfl (fun ac A14 => ?_)
  refine s_one (.agg #[.int .i64 fx, .int .i64 fz]) A14 S10 (g_load (g := g7) (off := 0) 1 (by kernel_rfl) rfl (by kernel_rfl)) rfl (fun ac A15 => ?_)
  refine s_one (.agg #[.int .i64 tx, .int .i64 tz]) A15 S10 (g_load (g := g11) (off := 0) 0 (by kernel_rfl) rfl (by kernel_rfl)) rfl (fun ac A16 => ?_)
  have q20 := le_bd (wyC_ok hm hw)
  refine s_call (fs := #[]) (cp := #[]) (r := [(0, .agg #[.int .i64 mw, .int .i64 md, .int .i64 ms, .int .i64 mt]), (0, .agg #[.int .i64 fx, .int .i64 fz]), (0, .agg #[.int .i64 tx, .int .i64 tz])]) #[.agg #[.int .i64 mw, .int .i64 md, .int .i64 ms, .int .i64 mt], .agg #[.int .i64 fx, .int .i64 fz], .agg #[.int .i64 tx, .int .i64 tz]] (.agg #[.int .i64 (leLo (wyC mw md ms mt fx fz tx tz)), .int .i64 (mHi (wyC mw md ms mt fx fz tx tz))]) A16 S10 (refLeastTime_s mw md ms mt fx fz tx tz _ hm hw) Try.call52 (by kernel_rfl) (by kernel_rfl) (by kernel_rfl) rfl (fun ac wc A17 S18 => ?_)
  refine s_alloc (#[.int .i64 0, .int .i64 0]) A17 S18 (by kernel_rfl) rfl (fun g23 ac wc A21 S22 => ?_)
  refine s_store (g := g23) (off := 0) (v := .agg #[.int .i64 (leLo (wyC mw md ms mt fx fz tx tz)), .int .i64 (mHi (wyC mw md ms mt fx fz tx tz))]) 0 (#[.int .i64 (leLo (wyC mw md ms mt fx fz tx tz)), .int .i64 (mHi (wyC mw md ms mt fx fz tx tz))]) A21 S22 (by kernel_rfl) (by kernel_rfl) rfl (by kernel_rfl) (fun wc S25 => ?_)
  refine wpList_nil ?_
  refine n_then ?_
  refine wp_seq ?_
  refine wp_region_lit ?_
  refine s_one (.pointer (some ⟨g23, 0, none⟩)) A21 S25 (g_field (u := .pointer (some ⟨g23, 0, none⟩)) (by kernel_rfl) (fun _ => by kernel_rfl)) rfl (fun ac A27 => ?_)
  refine s_one (.int .i64 (leLo (wyC mw md ms mt fx fz tx tz))) A27 S25 (g_load (g := g23) (off := 0) 0 (by kernel_rfl) rfl (by kernel_rfl)) rfl (fun ac A28 => ?_)
  refine s_one (.pointer (some ⟨g23, 1, none⟩)) A28 S25 (g_field (u := .pointer (some ⟨g23, 0, none⟩)) (by kernel_rfl) (fun _ => by kernel_rfl)) rfl (fun ac A29 => ?_)
  refine s_one (.int .i64 (mHi (wyC mw md ms mt fx fz tx tz))) A29 S25 (g_load (g := g23) (off := 1) 0 (by kernel_rfl) rfl (by kernel_rfl)) rfl (fun ac A30 => ?_)
  refine s_one (.int .i64 (leLo (wyC mw md ms mt fx fz tx tz) + (mHi (wyC mw md ms mt fx fz tx tz)))) A30 S25 (g_bin (u := .int .i64 (leLo (wyC mw md ms mt fx fz tx tz))) (k := .int .i64 (mHi (wyC mw md ms mt fx fz tx tz))) (by kernel_rfl) (by kernel_rfl) (fun _ => by kernel_rfl) (b_add (by omega))) rfl (fun ac A31 => ?_)
  refine s_call (fs := #[]) (cp := #[]) (r := [(0, .int .i64 (leLo (wyC mw md ms mt fx fz tx tz) + (mHi (wyC mw md ms mt fx fz tx tz)))), (0, .int .i64 2)]) #[.int .i64 (leLo (wyC mw md ms mt fx fz tx tz) + (mHi (wyC mw md ms mt fx fz tx tz))), .int .i64 2] (.int .i64 ((leLo (wyC mw md ms mt fx fz tx tz) + (mHi (wyC mw md ms mt fx fz tx tz))) / 2)) A31 S25 (Floor_s (leLo (wyC mw md ms mt fx fz tx tz) + (mHi (wyC mw md ms mt fx fz tx tz))) 2 _ (by omega) (by omega) (by omega)) Try.call80 (by kernel_rfl) (by kernel_rfl) (by kernel_rfl) rfl (fun ac wc A32 S33 => ?_)
  refine s_one (.int .i64 ((leLo (wyC mw md ms mt fx fz tx tz) + (mHi (wyC mw md ms mt fx fz tx tz))) / 2)) A32 S33 (g_assign (by kernel_rfl)) rfl (fun ac A35 => ?_)
  refine wpList_nil ?_
  refine n_then ?_
  refine wp_ret ?_
  refine fin1 (.int .i64 ((leLo (wyC mw md ms mt fx fz tx tz) + (mHi (wyC mw md ms mt fx fz tx tz))) / 2)) Try.results53 A35 S33 (rv_tmp (by kernel_rfl)) ⟨?_, S33.kp⟩
  rfl

set_option maxRecDepth 100000 in
set_option maxHeartbeats 400000 in
theorem wayErr_s (mw md ms mt fx fz tx tz : Int) (w0 : World) :
    Calls Try.prog 50 #[.agg #[.int .i64 mw, .int .i64 md, .int .i64 ms, .int .i64 mt, .int .i64 fx, .int .i64 fz, .int .i64 tx, .int .i64 tz]] w0 fun e w' => e = .returned (.int .i64 (opE mw md ms mt fx fz tx tz)) ∧ Below w0.heap.size w0 w' := by
  have S0 := St.start w0
  refine enter (n := 17) Try.func50 rfl rfl rfl (fun ac A0 => ?_)
  refine wp_seq ?_
  refine wp_region_lit ?_
  refine s_box (.agg #[.int .i64 mw, .int .i64 md, .int .i64 ms, .int .i64 mt, .int .i64 fx, .int .i64 fz, .int .i64 tx, .int .i64 tz]) A0 S0 (by kernel_rfl) rfl (fun g3 ac wc A1 S2 => ?_)
  replace S2 : St _ (⟨g3, 43, #[.int .i64 mw, .int .i64 md, .int .i64 ms, .int .i64 mt, .int .i64 fx, .int .i64 fz, .int .i64 tx, .int .i64 tz], true⟩ :: _) _ _ := S2
  refine s_one (.int .i64 0) A1 S2 (g_assign (by kernel_rfl)) rfl (fun ac A5 => ?_)
  refine wpList_nil ?_
  refine n_then ?_
  refine wp_seq ?_
  refine wp_seq ?_
  refine wp_region_lit ?_
  refine s_one (.pointer (some ⟨g3, 0, none⟩)) A5 S2 (g_field (u := .pointer (some ⟨g3, 0, none⟩)) (by kernel_rfl) (fun _ => by kernel_rfl)) rfl (fun ac A6 => ?_)
  refine s_one (.agg #[.int .i64 mw, .int .i64 md, .int .i64 ms, .int .i64 mt]) A6 S2 (g_load (g := g3) (off := 0) 0 (by kernel_rfl) rfl (by kernel_rfl)) rfl (fun ac A7 => ?_)
  refine s_call (fs := #[]) (cp := #[]) (r := [(0, .agg #[.int .i64 mw, .int .i64 md, .int .i64 ms, .int .i64 mt])]) #[.agg #[.int .i64 mw, .int .i64 md, .int .i64 ms, .int .i64 mt]] (.int .i64 (mdE mw md ms mt)) A7 S2 (refCheckMode_s mw md ms mt _) Try.call31 (by kernel_rfl) (by kernel_rfl) (by kernel_rfl) rfl (fun ac wc A8 S9 => ?_)
  refine s_one (.int .i64 (mdE mw md ms mt)) A8 S9 (g_assign (by kernel_rfl)) rfl (fun ac A11 => ?_)
  refine wpList_nil ?_
  refine n_then ?_
  refine wp_seq ?_
  refine wp_region_lit ?_
  refine s_one (.int .i64 (mdE mw md ms mt)) A11 S9 (g_move (by kernel_rfl)) rfl (fun ac A12 => ?_)
  refine s_one (.bool (decide (mdE mw md ms mt ≠ 0))) A12 S9 (g_bin (u := .int .i64 (mdE mw md ms mt)) (k := .int .i64 0) (by kernel_rfl) (by kernel_rfl) (fun _ => by kernel_rfl) b_neq) rfl (fun ac A13 => ?_)
  refine wpList_nil ?_
  refine n_then ?_
  refine c_ifb (b := (decide (mdE mw md ms mt ≠ 0))) A13 (by kernel_rfl) (fun h14 => ?_) (fun h14 => ?_)
  · have p15 := of_decide_eq_true h14
    refine wp_seq ?_
    refine wp_region_lit ?_
    refine s_one (.int .i64 (mdE mw md ms mt)) A13 S9 (g_move (by kernel_rfl)) rfl (fun ac A16 => ?_)
    refine s_one (.int .i64 (mdE mw md ms mt)) A16 S9 (g_assign (by kernel_rfl)) rfl (fun ac A17 => ?_)
    refine wpList_nil ?_
    refine n_then ?_
    refine wp_ret ?_
    refine r_then ?_
    refine fin1 (.int .i64 (mdE mw md ms mt)) Try.results50 A17 S9 (rv_tmp (by kernel_rfl)) ⟨?_, S9.kp⟩
    rw [opE_n p15]
  · have p18 := of_decide_eq_false h14
    have ze : mdE mw md ms mt = 0 := by simpa using h14
    have zz := mdE_0 ze
    refine wp_skip ?_
    refine n_then ?_
    refine wp_seq ?_
    refine wp_region_lit ?_
    refine s_one (.pointer (some ⟨g3, 0, none⟩)) A13 S9 (g_field (u := .pointer (some ⟨g3, 0, none⟩)) (by kernel_rfl) (fun _ => by kernel_rfl)) rfl (fun ac A19 => ?_)
    refine s_one (.agg #[.int .i64 mw, .int .i64 md, .int .i64 ms, .int .i64 mt]) A19 S9 (g_load (g := g3) (off := 0) 0 (by kernel_rfl) rfl (by kernel_rfl)) rfl (fun ac A20 => ?_)
    refine s_one (.pointer (some ⟨g3, 4, none⟩)) A20 S9 (g_field (u := .pointer (some ⟨g3, 0, none⟩)) (by kernel_rfl) (fun _ => by kernel_rfl)) rfl (fun ac A21 => ?_)
    refine s_one (.agg #[.int .i64 fx, .int .i64 fz]) A21 S9 (g_load (g := g3) (off := 4) 0 (by kernel_rfl) rfl (by kernel_rfl)) rfl (fun ac A22 => ?_)
    refine s_one (.pointer (some ⟨g3, 6, none⟩)) A22 S9 (g_field (u := .pointer (some ⟨g3, 0, none⟩)) (by kernel_rfl) (fun _ => by kernel_rfl)) rfl (fun ac A23 => ?_)
    refine s_one (.agg #[.int .i64 tx, .int .i64 tz]) A23 S9 (g_load (g := g3) (off := 6) 0 (by kernel_rfl) rfl (by kernel_rfl)) rfl (fun ac A24 => ?_)
    refine s_call (fs := #[]) (cp := #[]) (r := [(0, .agg #[.int .i64 mw, .int .i64 md, .int .i64 ms, .int .i64 mt]), (0, .agg #[.int .i64 fx, .int .i64 fz]), (0, .agg #[.int .i64 tx, .int .i64 tz])]) #[.agg #[.int .i64 mw, .int .i64 md, .int .i64 ms, .int .i64 mt], .agg #[.int .i64 fx, .int .i64 fz], .agg #[.int .i64 tx, .int .i64 tz]] (.int .i64 (wyE mt fx fz tx tz)) A24 S9 (refWayErr_s mw md ms mt fx fz tx tz _ (by omega)) Try.call97 (by kernel_rfl) (by kernel_rfl) (by kernel_rfl) rfl (fun ac wc A25 S26 => ?_)
    refine s_one (.int .i64 (wyE mt fx fz tx tz)) A25 S26 (g_assign (by kernel_rfl)) rfl (fun ac A28 => ?_)
    refine wpList_nil ?_
    refine n_then ?_
    refine wp_ret ?_
    refine fin1 (.int .i64 (wyE mt fx fz tx tz)) Try.results50 A28 S26 (rv_tmp (by kernel_rfl)) ⟨?_, S26.kp⟩
    rw [opE_y ze]

def tuE (fx fz tx tz th va vb : Int) : Int := firstOf [spE fx fz, spE tx tz, must_a_r (inB th 2 20000) 2, must_a_r (inB fz 0 (wr (th - 1)) && inB tz 0 (wr (th - 1))) 22, veE va, veE vb]
def tuC (fx fz tx tz th va vb : Int) : Cr := ⟨fx, th - fz, va, tx, th - tz, vb⟩
theorem tuE_0 {fx fz tx tz th va vb : Int} (h : tuE fx fz tx tz th va vb = 0) : (((-100000 ≤ fx ∧ fx ≤ 100000) ∧ (-100000 ≤ fz ∧ fz ≤ 100000)) ∧ (-100000 ≤ tx ∧ tx ≤ 100000) ∧ (-100000 ≤ tz ∧ tz ≤ 100000)) ∧ (2 ≤ th ∧ th ≤ 20000) ∧ ((0 ≤ fz ∧ fz ≤ th - 1) ∧ (0 ≤ tz ∧ tz ≤ th - 1)) ∧ (500 ≤ va ∧ va ≤ 10000) ∧ (500 ≤ vb ∧ vb ≤ 10000) := by
  obtain ⟨h1, h⟩ := fo_zero h
  obtain ⟨h2, h⟩ := fo_zero h
  obtain ⟨h3, h⟩ := fo_zero h
  obtain ⟨h4, h⟩ := fo_zero h
  obtain ⟨h5, h⟩ := fo_zero h
  rw [fo_last] at h
  have q := inB_true.1 (must_0 (by decide) h3)
  rw [wr_in (by omega)] at h4
  have r := Bool.and_eq_true_iff.1 (must_0 (by decide) h4)
  exact ⟨⟨spE_0 h1, spE_0 h2⟩, q, ⟨inB_true.1 r.1, inB_true.1 r.2⟩, veE_0 h5, veE_0 h⟩
theorem tuC_ok {fx fz tx tz th va vb : Int} (h : tuE fx fz tx tz th va vb = 0) : (tuC fx fz tx tz th va vb).Ok := by
  obtain ⟨a, b, c, d, e⟩ := tuE_0 h
  exact ⟨a.1.1, a.2.1, by show 1 ≤ th - fz ∧ th - fz ≤ 100000; omega, by show 1 ≤ th - tz ∧ th - tz ≤ 100000; omega, d, e⟩
theorem tuE_r1 {fx fz tx tz th va vb : Int} (h : firstOf [spE fx fz, spE tx tz] ≠ 0) : tuE fx fz tx tz th va vb = firstOf [spE fx fz, spE tx tz] := fo_a (r := [_, _, _, _]) h
theorem tuE_r {fx fz tx tz th va vb : Int} (h : firstOf [spE fx fz, spE tx tz] = 0) : tuE fx fz tx tz th va vb = firstOf [must_a_r (inB th 2 20000) 2, must_a_r (inB fz 0 (wr (th - 1)) && inB tz 0 (wr (th - 1))) 22, veE va, veE vb] := fo_b (r := [_, _, _, _]) h
theorem tuE_r2 {fx fz tx tz th va vb : Int} (h : firstOf [spE fx fz, spE tx tz] = 0) (h2 : inB th 2 20000 = false) : tuE fx fz tx tz th va vb = 2 := by
  rw [tuE_r h, h2]; exact fo_ne (by decide)
theorem tuE_s {fx fz tx tz th va vb : Int} (h : firstOf [spE fx fz, spE tx tz] = 0) (h2 : inB th 2 20000 = true) : tuE fx fz tx tz th va vb = firstOf [must_a_r (inB fz 0 (th - 1) && inB tz 0 (th - 1)) 22, veE va, veE vb] := by
  have q := inB_true.1 h2
  rw [tuE_r h, h2, fo_cons0 (must_t _), wr_in (by omega)]
theorem tuE_r3 {fx fz tx tz th va vb : Int} (h : firstOf [spE fx fz, spE tx tz] = 0) (h2 : inB th 2 20000 = true) (h3 : (!(inB fz 0 (th - 1)) || !(inB tz 0 (th - 1))) = true) : tuE fx fz tx tz th va vb = 22 := by
  rw [tuE_s h h2, nand2 h3]; exact fo_ne (by decide)
theorem tuE_r4 {fx fz tx tz th va vb : Int} (h : firstOf [spE fx fz, spE tx tz] = 0) (h2 : inB th 2 20000 = true) (h3 : inB fz 0 (th - 1) = true) (h4 : inB tz 0 (th - 1) = true) : tuE fx fz tx tz th va vb = firstOf [veE va, veE vb] := by
  rw [tuE_s h h2, h3, h4]; exact fo_cons0 (must_t _)
theorem tu_a {fz tz th : Int} (h : inB fz 0 (wr (th - 1)) = true) : must_a_r (inB tz 0 (wr (th - 1))) 22 = must_a_r (inB fz 0 (wr (th - 1)) && inB tz 0 (wr (th - 1))) 22 := by rw [h]; rfl
theorem tu_b {fz tz th : Int} (h : inB fz 0 (wr (th - 1)) = false) : must_a_r false 22 = must_a_r (inB fz 0 (wr (th - 1)) && inB tz 0 (wr (th - 1))) 22 := by rw [h]; rfl

set_option maxRecDepth 100000 in
set_option maxHeartbeats 400000 in
theorem turn1_s (px pz : Int) (gx : Nat) (fx fz tx tz th va vb : Int) (w0 : World) (hb : Blk w0 gx 60 #[.int .i64 fx, .int .i64 fz, .int .i64 tx, .int .i64 tz, .int .i64 th, .int .i64 va, .int .i64 vb]) :
    Calls Try.prog 94 #[.agg #[.int .i64 px, .int .i64 pz], .pointer (some ⟨gx, 0, none⟩)] w0 fun e w' => e = .returned (.bool (inB pz 0 (wr (th - 1)))) ∧ Below w0.heap.size w0 w' := by
  have S0 := St.start w0
  have S0 := S0.came hb (by simp)
  refine enter (n := 10) Try.func94 rfl rfl rfl (fun ac A0 => ?_)
  refine wp_seq ?_
  refine wp_region_lit ?_
  refine s_box (.agg #[.int .i64 px, .int .i64 pz]) A0 S0 (by kernel_rfl) rfl (fun g3 ac wc A1 S2 => ?_)
  replace S2 : St _ (⟨g3, 41, #[.int .i64 px, .int .i64 pz], true⟩ :: _) _ _ := S2
  refine s_one (.bool false) A1 S2 (g_assign (by kernel_rfl)) rfl (fun ac A5 => ?_)
  refine wpList_nil ?_
  refine n_then ?_
  refine wp_seq ?_
  refine wp_region_lit ?_
  refine s_one (.pointer (some ⟨g3, 1, none⟩)) A5 S2 (g_field (u := .pointer (some ⟨g3, 0, none⟩)) (by kernel_rfl) (fun _ => by kernel_rfl)) rfl (fun ac A6 => ?_)
  refine s_one (.int .i64 pz) A6 S2 (g_load (g := g3) (off := 1) 0 (by kernel_rfl) rfl (by kernel_rfl)) rfl (fun ac A7 => ?_)
  refine s_one (.pointer (some ⟨gx, 4, none⟩)) A7 S2 (g_field (u := .pointer (some ⟨gx, 0, none⟩)) (by kernel_rfl) (fun _ => by kernel_rfl)) rfl (fun ac A8 => ?_)
  refine s_one (.int .i64 th) A8 S2 (g_load (g := gx) (off := 4) 1 (by kernel_rfl) rfl (by kernel_rfl)) rfl (fun ac A9 => ?_)
  refine s_one (.int .i64 (wr (th - 1))) A9 S2 (g_bin (u := .int .i64 th) (k := .int .i64 1) (by kernel_rfl) (by kernel_rfl) (fun _ => by kernel_rfl) b_subW) rfl (fun ac A10 => ?_)
  refine s_call (fs := #[]) (cp := #[]) (r := [(0, .int .i64 pz), (0, .int .i64 0), (0, .int .i64 (wr (th - 1)))]) #[.int .i64 pz, .int .i64 0, .int .i64 (wr (th - 1))] (.bool (inB pz 0 (wr (th - 1)))) A10 S2 (within_s pz 0 (wr (th - 1)) _) Try.call89 (by kernel_rfl) (by kernel_rfl) (by kernel_rfl) rfl (fun ac wc A11 S12 => ?_)
  refine s_one (.bool (inB pz 0 (wr (th - 1)))) A11 S12 (g_assign (by kernel_rfl)) rfl (fun ac A14 => ?_)
  refine wpList_nil ?_
  refine n_then ?_
  refine wp_ret ?_
  refine fin1 (.bool (inB pz 0 (wr (th - 1)))) Try.results94 A14 S12 (rv_tmp (by kernel_rfl)) ⟨?_, S12.kp⟩
  rfl

set_option maxRecDepth 100000 in
set_option maxHeartbeats 400000 in
theorem TurnedTime_s (fx fz tx tz th va vb : Int) (w0 : World) :
    Calls Try.prog 39 #[.agg #[.int .i64 fx, .int .i64 fz, .int .i64 tx, .int .i64 tz, .int .i64 th, .int .i64 va, .int .i64 vb]] w0 fun e w' => e = .returned (.tuple #[.agg #[.int .i64 (zv (tuE fx fz tx tz th va vb) (leLo (tuC fx fz tx tz th va vb))), .int .i64 (zv (tuE fx fz tx tz th va vb) (mHi (tuC fx fz tx tz th va vb)))], .int .i64 (tuE fx fz tx tz th va vb)]) ∧ Below w0.heap.size w0 w' := by
  have S0 := St.start w0
  refine enter (n := 65) Try.func39 rfl rfl rfl (fun ac A0 => ?_)
  refine wp_seq ?_
  refine wp_region_lit ?_
  refine s_box (.agg #[.int .i64 fx, .int .i64 fz, .int .i64 tx, .int .i64 tz, .int .i64 th, .int .i64 va, .int .i64 vb]) A0 S0 (by kernel_rfl) rfl (fun g3 ac wc A1 S2 => ?_)
  replace S2 : St _ (⟨g3, 60, #[.int .i64 fx, .int .i64 fz, .int .i64 tx, .int .i64 tz, .int .i64 th, .int .i64 va, .int .i64 vb], true⟩ :: _) _ _ := S2
  refine s_alloc (#[.int .i64 0, .int .i64 0]) A1 S2 (by kernel_rfl) rfl (fun g7 ac wc A5 S6 => ?_)
  refine s_one (.int .i64 0) A5 S6 (g_assign (by kernel_rfl)) rfl (fun ac A8 => ?_)
  refine wpList_nil ?_
  refine n_then ?_
  refine wp_seq ?_
  refine wp_region_lit ?_
  refine s_one (.func (.func 94) #[] #[.pointer (some ⟨g3, 0, none⟩)]) A8 S6 (g_func (us := []) (vs := [(0, .pointer (some ⟨g3, 0, none⟩))]) (by kernel_rfl) (by kernel_rfl) (fun _ => by kernel_rfl)) rfl (fun ac A9 => ?_)
  refine s_one (.func (.func 94) #[] #[.pointer (some ⟨g3, 0, none⟩)]) A9 S6 (g_assign (by kernel_rfl)) rfl (fun ac A10 => ?_)
  refine wpList_nil ?_
  refine n_then ?_
  refine wp_seq ?_
  refine wp_seq ?_
  refine r_begin (w0 := w0) (by kernel_rfl) (S6.sub sub_all sub_all) (fun wc T11 B12 => ?_)
  have S13 := S6.kept B12
  refine r_take 0 (.pointer (some ⟨g3, 0, none⟩)) A10 T11 (g_field (u := .pointer (some ⟨g3, 0, none⟩)) (by kernel_rfl) (fun _ => by kernel_rfl)) rfl rfl rfl (pf_then (pf_then pf_body)) (by kernel_rfl) (fun ac A14 => ?_)
  refine r_take 1 (.agg #[.int .i64 fx, .int .i64 fz]) A14 T11 (g_load (g := g3) (off := 0) 1 (by kernel_rfl) rfl (by kernel_rfl)) rfl rfl rfl (pf_then (pf_then pf_body)) (by kernel_rfl) (fun ac A15 => ?_)
  refine r_take 3 (.pointer (some ⟨g3, 2, none⟩)) A15 T11 (g_field (u := .pointer (some ⟨g3, 0, none⟩)) (by kernel_rfl) (fun _ => by kernel_rfl)) rfl rfl rfl (pf_then (pf_then pf_body)) (by kernel_rfl) (fun ac A16 => ?_)
  refine r_take 4 (.agg #[.int .i64 tx, .int .i64 tz]) A16 T11 (g_load (g := g3) (off := 2) 1 (by kernel_rfl) rfl (by kernel_rfl)) rfl rfl rfl (pf_then (pf_then pf_body)) (by kernel_rfl) (fun ac A17 => ?_)
  refine r_take 6 (.pointer (some ⟨g3, 4, none⟩)) A17 T11 (g_field (u := .pointer (some ⟨g3, 0, none⟩)) (by kernel_rfl) (fun _ => by kernel_rfl)) rfl rfl rfl (pf_then (pf_then pf_body)) (by kernel_rfl) (fun ac A18 => ?_)
  refine r_take 7 (.int .i64 th) A18 T11 (g_load (g := g3) (off := 4) 1 (by kernel_rfl) rfl (by kernel_rfl)) rfl rfl rfl (pf_then (pf_then pf_body)) (by kernel_rfl) (fun ac A19 => ?_)
  refine r_take 10 (.func (.func 94) #[] #[.pointer (some ⟨g3, 0, none⟩)]) A19 T11 (g_move (by kernel_rfl)) rfl rfl rfl (pf_then (pf_then pf_body)) (by kernel_rfl) (fun ac A20 => ?_)
  refine r_take 11 (.pointer (some ⟨g3, 0, none⟩)) A20 T11 (g_field (u := .pointer (some ⟨g3, 0, none⟩)) (by kernel_rfl) (fun _ => by kernel_rfl)) rfl rfl rfl (pf_then (pf_then pf_body)) (by kernel_rfl) (fun ac A21 => ?_)
  refine r_take 12 (.agg #[.int .i64 fx, .int .i64 fz]) A21 T11 (g_load (g := g3) (off := 0) 1 (by kernel_rfl) rfl (by kernel_rfl)) rfl rfl rfl (pf_then (pf_then pf_body)) (by kernel_rfl) (fun ac A22 => ?_)
  refine r_take 21 (.pointer (some ⟨g3, 5, none⟩)) A22 T11 (g_field (u := .pointer (some ⟨g3, 0, none⟩)) (by kernel_rfl) (fun _ => by kernel_rfl)) rfl rfl rfl (pf_then (pf_then pf_body)) (by kernel_rfl) (fun ac A23 => ?_)
  refine r_take 22 (.int .i64 va) A23 T11 (g_load (g := g3) (off := 5) 1 (by kernel_rfl) rfl (by kernel_rfl)) rfl rfl rfl (pf_then (pf_then pf_body)) (by kernel_rfl) (fun ac A24 => ?_)
  refine r_take 24 (.pointer (some ⟨g3, 6, none⟩)) A24 T11 (g_field (u := .pointer (some ⟨g3, 0, none⟩)) (by kernel_rfl) (fun _ => by kernel_rfl)) rfl rfl rfl (pf_then (pf_then pf_body)) (by kernel_rfl) (fun ac A25 => ?_)
  refine r_take 25 (.int .i64 vb) A25 T11 (g_load (g := g3) (off := 6) 1 (by kernel_rfl) rfl (by kernel_rfl)) rfl rfl rfl (pf_then (pf_then pf_body)) (by kernel_rfl) (fun ac A26 => ?_)
  refine r_1 (i := 2) (by kernel_rfl) ?_
  refine rs_call (fs := #[]) (cp := #[]) (r := [(0, .agg #[.int .i64 fx, .int .i64 fz])]) #[.agg #[.int .i64 fx, .int .i64 fz]] (.int .i64 (spE fx fz)) A26 S13 sub_all sub_all (spotErr_s fx fz _) Try.call84 rfl rfl (by kernel_rfl) (by kernel_rfl) (by kernel_rfl) rfl (fun ac wc A27 S28 => ?_)
  have T30 := S28.sub sub_all sub_all
  refine r_1 (i := 5) (by kernel_rfl) ?_
  refine rs_call (fs := #[]) (cp := #[]) (r := [(0, .agg #[.int .i64 tx, .int .i64 tz])]) #[.agg #[.int .i64 tx, .int .i64 tz]] (.int .i64 (spE tx tz)) A27 S28 sub_all sub_all (spotErr_s tx tz _) Try.call84 rfl rfl (by kernel_rfl) (by kernel_rfl) (by kernel_rfl) rfl (fun ac wc A31 S32 => ?_)
  have T34 := S32.sub sub_all sub_all
  refine r_1 (i := 8) (by kernel_rfl) ?_
  refine rs_call (fs := #[]) (cp := #[]) (r := [(0, .int .i64 th)]) #[.int .i64 th] (.bool (inB th 2 20000)) A31 S32 sub_all sub_all (isThick_s th _) Try.call91 rfl rfl (by kernel_rfl) (by kernel_rfl) (by kernel_rfl) rfl (fun ac wc A35 S36 => ?_)
  have T38 := S36.sub sub_all sub_all
  refine r_1 (i := 9) (by kernel_rfl) ?_
  refine rs_call (fs := #[]) (cp := #[]) (r := [(0, .bool (inB th 2 20000)), (0, .int .i64 2)]) #[.bool (inB th 2 20000), .int .i64 2] (.int .i64 (must_a_r (inB th 2 20000) 2)) A35 S36 sub_all sub_all (must_a (inB th 2 20000) 2 _) Try.call88 rfl rfl (by kernel_rfl) (by kernel_rfl) (by kernel_rfl) rfl (fun ac wc A39 S40 => ?_)
  have T42 := S40.sub sub_all sub_all
  refine r_1 (i := 13) (by kernel_rfl) ?_
  refine rs_call (fs := #[]) (cp := #[.pointer (some ⟨g3, 0, none⟩)]) (r := [(0, .agg #[.int .i64 fx, .int .i64 fz])]) #[.agg #[.int .i64 fx, .int .i64 fz], .pointer (some ⟨g3, 0, none⟩)] (.bool (inB fz 0 (wr (th - 1)))) A39 S40 sub_all sub_all (turn1_s fx fz g3 fx fz tx tz th va vb _ (S40.get 1 rfl)) Try.call94 rfl rfl (by kernel_rfl) (by kernel_rfl) (by kernel_rfl) rfl (fun ac wc A43 S44 => ?_)
  have T46 := S44.sub sub_all sub_all
  refine r_take 14 (.bool (inB fz 0 (wr (th - 1)))) A43 T46 (g_move (by kernel_rfl)) rfl rfl rfl (pf_then (pf_then pf_body)) (by kernel_rfl) (fun ac A47 => ?_)
  refine by_bool (inB fz 0 (wr (th - 1))) (fun h48 => ?_) (fun h48 => ?_)
  · refine r_take 15 (.func (.func 94) #[] #[.pointer (some ⟨g3, 0, none⟩)]) A47 T46 (g_move (by kernel_rfl)) rfl (want_t (dj := 21) (b := (inB fz 0 (wr (th - 1)))) A47 rfl (by kernel_rfl) (by kernel_rfl) h48) rfl (pf_then (pf_then pf_body)) (by kernel_rfl) (fun ac A49 => ?_)
    refine r_take 16 (.pointer (some ⟨g3, 2, none⟩)) A49 T46 (g_field (u := .pointer (some ⟨g3, 0, none⟩)) (by kernel_rfl) (fun _ => by kernel_rfl)) rfl (want_t (dj := 21) (b := (inB fz 0 (wr (th - 1)))) A49 rfl (by kernel_rfl) (by kernel_rfl) h48) rfl (pf_then (pf_then pf_body)) (by kernel_rfl) (fun ac A50 => ?_)
    refine r_take 17 (.agg #[.int .i64 tx, .int .i64 tz]) A50 T46 (g_load (g := g3) (off := 2) 1 (by kernel_rfl) rfl (by kernel_rfl)) rfl (want_t (dj := 21) (b := (inB fz 0 (wr (th - 1)))) A50 rfl (by kernel_rfl) (by kernel_rfl) h48) rfl (pf_then (pf_then pf_body)) (by kernel_rfl) (fun ac A51 => ?_)
    refine r_1 (i := 18) (by kernel_rfl) ?_
    refine rs_call (fs := #[]) (cp := #[.pointer (some ⟨g3, 0, none⟩)]) (r := [(0, .agg #[.int .i64 tx, .int .i64 tz])]) #[.agg #[.int .i64 tx, .int .i64 tz], .pointer (some ⟨g3, 0, none⟩)] (.bool (inB tz 0 (wr (th - 1)))) A51 S44 sub_all sub_all (turn1_s tx tz g3 fx fz tx tz th va vb _ (S44.get 1 rfl)) Try.call94 rfl (want_t (dj := 21) (b := (inB fz 0 (wr (th - 1)))) A51 rfl (by kernel_rfl) (by kernel_rfl) h48) (by kernel_rfl) (by kernel_rfl) (by kernel_rfl) rfl (fun ac wc A52 S53 => ?_)
    have T55 := S53.sub sub_all sub_all
    refine r_take 19 (.bool (inB tz 0 (wr (th - 1)))) A52 T55 (g_pick_t (b := (inB fz 0 (wr (th - 1)))) (by kernel_rfl) h48 (by kernel_rfl)) rfl rfl rfl (pf_then (pf_then pf_body)) (by kernel_rfl) (fun ac A56 => ?_)
    refine r_1 (i := 20) (by kernel_rfl) ?_
    refine rs_call (fs := #[]) (cp := #[]) (r := [(0, .bool (inB tz 0 (wr (th - 1)))), (0, .int .i64 22)]) #[.bool (inB tz 0 (wr (th - 1))), .int .i64 22] (.int .i64 (must_a_r (inB tz 0 (wr (th - 1))) 22)) A56 S53 sub_all sub_all (must_a (inB tz 0 (wr (th - 1))) 22 _) Try.call88 rfl rfl (by kernel_rfl) (by kernel_rfl) (by kernel_rfl) rfl (fun ac wc A57 S58 => ?_)
    have T60 := S58.sub sub_all sub_all
    refine r_1 (i := 23) (by kernel_rfl) ?_
    refine rs_call (fs := #[]) (cp := #[]) (r := [(0, .int .i64 va)]) #[.int .i64 va] (.int .i64 (veE va)) A57 S58 sub_all sub_all (speedErr_s va _) Try.call85 rfl rfl (by kernel_rfl) (by kernel_rfl) (by kernel_rfl) rfl (fun ac wc A61 S62 => ?_)
    have T64 := S62.sub sub_all sub_all
    refine r_1 (i := 26) (by kernel_rfl) ?_
    refine rs_call (fs := #[]) (cp := #[]) (r := [(0, .int .i64 vb)]) #[.int .i64 vb] (.int .i64 (veE vb)) A61 S62 sub_all sub_all (speedErr_s vb _) Try.call85 rfl rfl (by kernel_rfl) (by kernel_rfl) (by kernel_rfl) rfl (fun ac wc A65 S66 => ?_)
    have T68 := S66.sub sub_all sub_all
    refine r_1 (i := 27) (by kernel_rfl) ?_
    refine rs_bs (e := 25) (r := [(0, .int .i64 (spE fx fz)), (1, .int .i64 (spE tx tz)), (2, .int .i64 (must_a_r (inB th 2 20000) 2)), (3, .int .i64 (must_a_r (inB tz 0 (wr (th - 1))) 22)), (4, .int .i64 (veE va)), (5, .int .i64 (veE vb))]) (#[.int .i64 (spE fx fz), .int .i64 (spE tx tz), .int .i64 (must_a_r (inB th 2 20000) 2), .int .i64 (must_a_r (inB tz 0 (wr (th - 1))) 22), .int .i64 (veE va), .int .i64 (veE vb)]) A65 S66 sub_all sub_all (by kernel_rfl) (by kernel_rfl) rfl rfl rfl (fun g71 ac wc A69 S70 => ?_)
    have T72 := S70.sub (sub_skip sub_all) sub_all
    refine r_1 (i := 28) (by kernel_rfl) ?_
    refine rs_call (fs := #[]) (cp := #[]) (r := [(0, .slice (some ⟨g71, 0, none⟩) 6 6)]) #[.slice (some ⟨g71, 0, none⟩) 6 6] (.int .i64 (firstOf [spE fx fz, spE tx tz, (must_a_r (inB th 2 20000) 2), (must_a_r (inB tz 0 (wr (th - 1))) 22), veE va, veE vb])) A69 S70 (sub_skip sub_all) sub_all (first_s g71 ([spE fx fz, spE tx tz, (must_a_r (inB th 2 20000) 2), (must_a_r (inB tz 0 (wr (th - 1))) 22), veE va, veE vb]) 6 6 _ (S70.get 0 rfl) rfl (by omega)) Try.call83 rfl rfl (by kernel_rfl) (by kernel_rfl) (by kernel_rfl) rfl (fun ac wc A73 S74 => ?_)
    have T76 := S74.sub (sub_skip sub_all) sub_all
    refine r_take 29 (.int .i64 (firstOf [spE fx fz, spE tx tz, (must_a_r (inB th 2 20000) 2), (must_a_r (inB tz 0 (wr (th - 1))) 22), veE va, veE vb])) A73 T76 (g_assign (by kernel_rfl)) rfl rfl rfl (pf_then (pf_then pf_body)) (by kernel_rfl) (fun ac A77 => ?_)
    refine r_done (by kernel_rfl) ?_
    refine n_then ?_
    refine wp_seq ?_
    refine wp_region_lit ?_
    refine s_one (.int .i64 (firstOf [spE fx fz, spE tx tz, (must_a_r (inB th 2 20000) 2), (must_a_r (inB tz 0 (wr (th - 1))) 22), veE va, veE vb])) A77 S74 (g_move (by kernel_rfl)) rfl (fun ac A78 => ?_)
    refine s_one (.bool (decide (firstOf [spE fx fz, spE tx tz, (must_a_r (inB th 2 20000) 2), (must_a_r (inB tz 0 (wr (th - 1))) 22), veE va, veE vb] ≠ 0))) A78 S74 (g_bin (u := .int .i64 (firstOf [spE fx fz, spE tx tz, (must_a_r (inB th 2 20000) 2), (must_a_r (inB tz 0 (wr (th - 1))) 22), veE va, veE vb])) (k := .int .i64 0) (by kernel_rfl) (by kernel_rfl) (fun _ => by kernel_rfl) b_neq) rfl (fun ac A79 => ?_)
    refine wpList_nil ?_
    refine n_then ?_
    refine c_ifb (b := (decide (firstOf [spE fx fz, spE tx tz, (must_a_r (inB th 2 20000) 2), (must_a_r (inB tz 0 (wr (th - 1))) 22), veE va, veE vb] ≠ 0))) A79 (by kernel_rfl) (fun h80 => ?_) (fun h80 => ?_)
    · have p81 := of_decide_eq_true h80
      have zn0 : firstOf [spE fx fz, spE tx tz, (must_a_r (inB th 2 20000) 2), (must_a_r (inB tz 0 (wr (th - 1))) 22), veE va, veE vb] ≠ 0 := by simpa using h80
      have zne : firstOf [spE fx fz, spE tx tz, (must_a_r (inB th 2 20000) 2), (must_a_r (inB tz 0 (wr (th - 1))) 22), veE va, veE vb] = tuE fx fz tx tz th va vb := by rw [tu_a (tz := tz) h48]; rfl
      have zn : tuE fx fz tx tz th va vb ≠ 0 := zne ▸ zn0
      refine wp_seq ?_
      refine wp_region_lit ?_
      refine s_one (.agg #[.int .i64 0, .int .i64 0]) A79 S74 (g_build (r := []) (by kernel_rfl) (fun _ => by kernel_rfl)) rfl (fun ac A82 => ?_)
      refine s_one (.int .i64 (firstOf [spE fx fz, spE tx tz, (must_a_r (inB th 2 20000) 2), (must_a_r (inB tz 0 (wr (th - 1))) 22), veE va, veE vb])) A82 S74 (g_move (by kernel_rfl)) rfl (fun ac A83 => ?_)
      refine s_store (g := g7) (off := 0) (v := .agg #[.int .i64 0, .int .i64 0]) 1 (#[.int .i64 0, .int .i64 0]) A83 S74 (by kernel_rfl) (by kernel_rfl) rfl (by kernel_rfl) (fun wc S85 => ?_)
      refine s_one (.int .i64 (firstOf [spE fx fz, spE tx tz, (must_a_r (inB th 2 20000) 2), (must_a_r (inB tz 0 (wr (th - 1))) 22), veE va, veE vb])) A83 S85 (g_assign (by kernel_rfl)) rfl (fun ac A87 => ?_)
      refine wpList_nil ?_
      refine n_then ?_
      refine wp_ret ?_
      refine r_then ?_
      refine fin2 (.agg #[.int .i64 0, .int .i64 0]) (.int .i64 (firstOf [spE fx fz, spE tx tz, (must_a_r (inB th 2 20000) 2), (must_a_r (inB tz 0 (wr (th - 1))) 22), veE va, veE vb])) Try.results39 A87 S85 (rv_cell (g := g7) (off := 0) 1 (by kernel_rfl) rfl (by kernel_rfl)) (rv_tmp (by kernel_rfl)) ⟨?_, S85.kp⟩
      simp only [zv_n zn]
      rw [zne]
    · have p88 := of_decide_eq_false h80
      have ze0 : firstOf [spE fx fz, spE tx tz, (must_a_r (inB th 2 20000) 2), (must_a_r (inB tz 0 (wr (th - 1))) 22), veE va, veE vb] = 0 := by simpa using h80
      rw [tu_a (tz := tz) h48] at ze0
      have ze : tuE fx fz tx tz th va vb = 0 := ze0
      have zz := tuE_0 ze
      have ok : Cr.Ok ⟨fx, th - fz, va, tx, th - tz, vb⟩ := tuC_ok ze
      refine wp_skip ?_
      refine n_then ?_
      refine wp_seq ?_
      refine wp_region_lit ?_
      refine s_one (.pointer (some ⟨g3, 0, none⟩)) A79 S74 (g_field (u := .pointer (some ⟨g3, 0, none⟩)) (by kernel_rfl) (fun _ => by kernel_rfl)) rfl (fun ac A89 => ?_)
      refine s_one (.pointer (some ⟨g3, 0, none⟩)) A89 S74 (g_field (u := .pointer (some ⟨g3, 0, none⟩)) (by kernel_rfl) (fun _ => by kernel_rfl)) rfl (fun ac A90 => ?_)
      refine s_one (.int .i64 fx) A90 S74 (g_load (g := g3) (off := 0) 2 (by kernel_rfl) rfl (by kernel_rfl)) rfl (fun ac A91 => ?_)
      refine s_one (.pointer (some ⟨g3, 4, none⟩)) A91 S74 (g_field (u := .pointer (some ⟨g3, 0, none⟩)) (by kernel_rfl) (fun _ => by kernel_rfl)) rfl (fun ac A92 => ?_)
      refine s_one (.int .i64 th) A92 S74 (g_load (g := g3) (off := 4) 2 (by kernel_rfl) rfl (by kernel_rfl)) rfl (fun ac A93 => ?_)
      refine s_one (.pointer (some ⟨g3, 0, none⟩)) A93 S74 (g_field (u := .pointer (some ⟨g3, 0, none⟩)) (by kernel_rfl) (fun _ => by kernel_rfl)) rfl (fun ac A94 => ?_)
      refine s_one (.pointer (some ⟨g3, 1, none⟩)) A94 S74 (g_field (u := .pointer (some ⟨g3, 0, none⟩)) (by kernel_rfl) (fun _ => by kernel_rfl)) rfl (fun ac A95 => ?_)
      refine s_one (.int .i64 fz) A95 S74 (g_load (g := g3) (off := 1) 2 (by kernel_rfl) rfl (by kernel_rfl)) rfl (fun ac A96 => ?_)
      refine s_one (.int .i64 (th - fz)) A96 S74 (g_bin (u := .int .i64 th) (k := .int .i64 fz) (by kernel_rfl) (by kernel_rfl) (fun _ => by kernel_rfl) (b_sub (by omega))) rfl (fun ac A97 => ?_)
      refine s_one (.pointer (some ⟨g3, 5, none⟩)) A97 S74 (g_field (u := .pointer (some ⟨g3, 0, none⟩)) (by kernel_rfl) (fun _ => by kernel_rfl)) rfl (fun ac A98 => ?_)
      refine s_one (.int .i64 va) A98 S74 (g_load (g := g3) (off := 5) 2 (by kernel_rfl) rfl (by kernel_rfl)) rfl (fun ac A99 => ?_)
      refine s_one (.pointer (some ⟨g3, 2, none⟩)) A99 S74 (g_field (u := .pointer (some ⟨g3, 0, none⟩)) (by kernel_rfl) (fun _ => by kernel_rfl)) rfl (fun ac A100 => ?_)
      refine s_one (.pointer (some ⟨g3, 2, none⟩)) A100 S74 (g_field (u := .pointer (some ⟨g3, 2, none⟩)) (by kernel_rfl) (fun _ => by kernel_rfl)) rfl (fun ac A101 => ?_)
      refine s_one (.int .i64 tx) A101 S74 (g_load (g := g3) (off := 2) 2 (by kernel_rfl) rfl (by kernel_rfl)) rfl (fun ac A102 => ?_)
      refine s_one (.pointer (some ⟨g3, 4, none⟩)) A102 S74 (g_field (u := .pointer (some ⟨g3, 0, none⟩)) (by kernel_rfl) (fun _ => by kernel_rfl)) rfl (fun ac A103 => ?_)
      refine s_one (.int .i64 th) A103 S74 (g_load (g := g3) (off := 4) 2 (by kernel_rfl) rfl (by kernel_rfl)) rfl (fun ac A104 => ?_)
      refine s_one (.pointer (some ⟨g3, 2, none⟩)) A104 S74 (g_field (u := .pointer (some ⟨g3, 0, none⟩)) (by kernel_rfl) (fun _ => by kernel_rfl)) rfl (fun ac A105 => ?_)
      refine s_one (.pointer (some ⟨g3, 3, none⟩)) A105 S74 (g_field (u := .pointer (some ⟨g3, 2, none⟩)) (by kernel_rfl) (fun _ => by kernel_rfl)) rfl (fun ac A106 => ?_)
      refine s_one (.int .i64 tz) A106 S74 (g_load (g := g3) (off := 3) 2 (by kernel_rfl) rfl (by kernel_rfl)) rfl (fun ac A107 => ?_)
      refine s_one (.int .i64 (th - tz)) A107 S74 (g_bin (u := .int .i64 th) (k := .int .i64 tz) (by kernel_rfl) (by kernel_rfl) (fun _ => by kernel_rfl) (b_sub (by omega))) rfl (fun ac A108 => ?_)
      refine s_one (.pointer (some ⟨g3, 6, none⟩)) A108 S74 (g_field (u := .pointer (some ⟨g3, 0, none⟩)) (by kernel_rfl) (fun _ => by kernel_rfl)) rfl (fun ac A109 => ?_)
      refine s_one (.int .i64 vb) A109 S74 (g_load (g := g3) (off := 6) 2 (by kernel_rfl) rfl (by kernel_rfl)) rfl (fun ac A110 => ?_)
      refine s_one (.agg #[.int .i64 fx, .int .i64 (th - fz), .int .i64 va, .int .i64 tx, .int .i64 (th - tz), .int .i64 vb]) A110 S74 (g_build (r := [(0, .int .i64 fx), (1, .int .i64 (th - fz)), (2, .int .i64 va), (3, .int .i64 tx), (4, .int .i64 (th - tz)), (5, .int .i64 vb)]) (by kernel_rfl) (fun _ => by kernel_rfl)) rfl (fun ac A111 => ?_)
      refine s_one (.agg #[.int .i64 fx, .int .i64 (th - fz), .int .i64 va, .int .i64 tx, .int .i64 (th - tz), .int .i64 vb]) A111 S74 (g_build (r := [(0, .agg #[.int .i64 fx, .int .i64 (th - fz), .int .i64 va, .int .i64 tx, .int .i64 (th - tz), .int .i64 vb])]) (by kernel_rfl) (fun _ => by kernel_rfl)) rfl (fun ac A112 => ?_)
      have q116 := le_bd (c := ⟨fx, th - fz, va, tx, th - tz, vb⟩) ok
      refine s_call (fs := #[]) (cp := #[]) (r := [(0, .agg #[.int .i64 fx, .int .i64 (th - fz), .int .i64 va, .int .i64 tx, .int .i64 (th - tz), .int .i64 vb])]) #[.agg #[.int .i64 fx, .int .i64 (th - fz), .int .i64 va, .int .i64 tx, .int .i64 (th - tz), .int .i64 vb]] (.agg #[.int .i64 (leLo ⟨fx, th - fz, va, tx, th - tz, vb⟩), .int .i64 (mHi ⟨fx, th - fz, va, tx, th - tz, vb⟩)]) A112 S74 (least_s ⟨fx, th - fz, va, tx, th - tz, vb⟩ _ ok) Try.call78 (by kernel_rfl) (by kernel_rfl) (by kernel_rfl) rfl (fun ac wc A113 S114 => ?_)
      refine s_store (g := g7) (off := 0) (v := .agg #[.int .i64 (leLo ⟨fx, th - fz, va, tx, th - tz, vb⟩), .int .i64 (mHi ⟨fx, th - fz, va, tx, th - tz, vb⟩)]) 1 (#[.int .i64 (leLo ⟨fx, th - fz, va, tx, th - tz, vb⟩), .int .i64 (mHi ⟨fx, th - fz, va, tx, th - tz, vb⟩)]) A113 S114 (by kernel_rfl) (by kernel_rfl) rfl (by kernel_rfl) (fun wc S118 => ?_)
      refine s_one (.int .i64 0) A113 S118 (g_assign (by kernel_rfl)) rfl (fun ac A120 => ?_)
      refine wpList_nil ?_
      refine n_then ?_
      refine wp_ret ?_
      refine fin2 (.agg #[.int .i64 (leLo ⟨fx, th - fz, va, tx, th - tz, vb⟩), .int .i64 (mHi ⟨fx, th - fz, va, tx, th - tz, vb⟩)]) (.int .i64 0) Try.results39 A120 S118 (rv_cell (g := g7) (off := 0) 1 (by kernel_rfl) rfl (by kernel_rfl)) (rv_tmp (by kernel_rfl)) ⟨?_, S118.kp⟩
      simp only [zv_0 ze]
      rw [ze]
      rfl
  · refine r_skip 15 A47 T46 rfl (want_f (dj := 21) (b := (inB fz 0 (wr (th - 1)))) A47 rfl (by kernel_rfl) (by kernel_rfl) h48) rfl (pf_then (pf_then pf_body)) (by kernel_rfl) (fun ac A121 => ?_)
    refine r_skip 16 A121 T46 rfl (want_f (dj := 21) (b := (inB fz 0 (wr (th - 1)))) A121 rfl (by kernel_rfl) (by kernel_rfl) h48) rfl (pf_then (pf_then pf_body)) (by kernel_rfl) (fun ac A122 => ?_)
    refine r_skip 17 A122 T46 rfl (want_f (dj := 21) (b := (inB fz 0 (wr (th - 1)))) A122 rfl (by kernel_rfl) (by kernel_rfl) h48) rfl (pf_then (pf_then pf_body)) (by kernel_rfl) (fun ac A123 => ?_)
    refine r_skip 18 A123 T46 rfl (want_f (dj := 21) (b := (inB fz 0 (wr (th - 1)))) A123 rfl (by kernel_rfl) (by kernel_rfl) h48) rfl (pf_then (pf_then pf_body)) (by kernel_rfl) (fun ac A124 => ?_)
    refine r_take 19 (.bool false) A124 T46 (g_pick_f (b := (inB fz 0 (wr (th - 1)))) (by kernel_rfl) h48 (by kernel_rfl)) rfl rfl rfl (pf_then (pf_then pf_body)) (by kernel_rfl) (fun ac A125 => ?_)
    refine r_1 (i := 20) (by kernel_rfl) ?_
    refine rs_call (fs := #[]) (cp := #[]) (r := [(0, .bool false), (0, .int .i64 22)]) #[.bool false, .int .i64 22] (.int .i64 (must_a_r false 22)) A125 S44 sub_all sub_all (must_a false 22 _) Try.call88 rfl rfl (by kernel_rfl) (by kernel_rfl) (by kernel_rfl) rfl (fun ac wc A126 S127 => ?_)
    have T129 := S127.sub sub_all sub_all
    refine r_1 (i := 23) (by kernel_rfl) ?_
    refine rs_call (fs := #[]) (cp := #[]) (r := [(0, .int .i64 va)]) #[.int .i64 va] (.int .i64 (veE va)) A126 S127 sub_all sub_all (speedErr_s va _) Try.call85 rfl rfl (by kernel_rfl) (by kernel_rfl) (by kernel_rfl) rfl (fun ac wc A130 S131 => ?_)
    have T133 := S131.sub sub_all sub_all
    refine r_1 (i := 26) (by kernel_rfl) ?_
    refine rs_call (fs := #[]) (cp := #[]) (r := [(0, .int .i64 vb)]) #[.int .i64 vb] (.int .i64 (veE vb)) A130 S131 sub_all sub_all (speedErr_s vb _) Try.call85 rfl rfl (by kernel_rfl) (by kernel_rfl) (by kernel_rfl) rfl (fun ac wc A134 S135 => ?_)
    have T137 := S135.sub sub_all sub_all
    refine r_1 (i := 27) (by kernel_rfl) ?_
    refine rs_bs (e := 25) (r := [(0, .int .i64 (spE fx fz)), (1, .int .i64 (spE tx tz)), (2, .int .i64 (must_a_r (inB th 2 20000) 2)), (3, .int .i64 (must_a_r false 22)), (4, .int .i64 (veE va)), (5, .int .i64 (veE vb))]) (#[.int .i64 (spE fx fz), .int .i64 (spE tx tz), .int .i64 (must_a_r (inB th 2 20000) 2), .int .i64 (must_a_r false 22), .int .i64 (veE va), .int .i64 (veE vb)]) A134 S135 sub_all sub_all (by kernel_rfl) (by kernel_rfl) rfl rfl rfl (fun g140 ac wc A138 S139 => ?_)
    have T141 := S139.sub (sub_skip sub_all) sub_all
    refine r_1 (i := 28) (by kernel_rfl) ?_
    refine rs_call (fs := #[]) (cp := #[]) (r := [(0, .slice (some ⟨g140, 0, none⟩) 6 6)]) #[.slice (some ⟨g140, 0, none⟩) 6 6] (.int .i64 (firstOf [spE fx fz, spE tx tz, (must_a_r (inB th 2 20000) 2), (must_a_r false 22), veE va, veE vb])) A138 S139 (sub_skip sub_all) sub_all (first_s g140 ([spE fx fz, spE tx tz, (must_a_r (inB th 2 20000) 2), (must_a_r false 22), veE va, veE vb]) 6 6 _ (S139.get 0 rfl) rfl (by omega)) Try.call83 rfl rfl (by kernel_rfl) (by kernel_rfl) (by kernel_rfl) rfl (fun ac wc A142 S143 => ?_)
    have T145 := S143.sub (sub_skip sub_all) sub_all
    refine r_take 29 (.int .i64 (firstOf [spE fx fz, spE tx tz, (must_a_r (inB th 2 20000) 2), (must_a_r false 22), veE va, veE vb])) A142 T145 (g_assign (by kernel_rfl)) rfl rfl rfl (pf_then (pf_then pf_body)) (by kernel_rfl) (fun ac A146 => ?_)
    refine r_done (by kernel_rfl) ?_
    refine n_then ?_
    refine wp_seq ?_
    refine wp_region_lit ?_
    refine s_one (.int .i64 (firstOf [spE fx fz, spE tx tz, (must_a_r (inB th 2 20000) 2), (must_a_r false 22), veE va, veE vb])) A146 S143 (g_move (by kernel_rfl)) rfl (fun ac A147 => ?_)
    refine s_one (.bool (decide (firstOf [spE fx fz, spE tx tz, (must_a_r (inB th 2 20000) 2), (must_a_r false 22), veE va, veE vb] ≠ 0))) A147 S143 (g_bin (u := .int .i64 (firstOf [spE fx fz, spE tx tz, (must_a_r (inB th 2 20000) 2), (must_a_r false 22), veE va, veE vb])) (k := .int .i64 0) (by kernel_rfl) (by kernel_rfl) (fun _ => by kernel_rfl) b_neq) rfl (fun ac A148 => ?_)
    refine wpList_nil ?_
    refine n_then ?_
    refine c_ifb (b := (decide (firstOf [spE fx fz, spE tx tz, (must_a_r (inB th 2 20000) 2), (must_a_r false 22), veE va, veE vb] ≠ 0))) A148 (by kernel_rfl) (fun h149 => ?_) (fun h149 => ?_)
    · have p150 := of_decide_eq_true h149
      have zn0 : firstOf [spE fx fz, spE tx tz, (must_a_r (inB th 2 20000) 2), (must_a_r false 22), veE va, veE vb] ≠ 0 := by simpa using h149
      have zne : firstOf [spE fx fz, spE tx tz, (must_a_r (inB th 2 20000) 2), (must_a_r false 22), veE va, veE vb] = tuE fx fz tx tz th va vb := by rw [tu_b (tz := tz) h48]; rfl
      have zn : tuE fx fz tx tz th va vb ≠ 0 := zne ▸ zn0
      refine wp_seq ?_
      refine wp_region_lit ?_
      refine s_one (.agg #[.int .i64 0, .int .i64 0]) A148 S143 (g_build (r := []) (by kernel_rfl) (fun _ => by kernel_rfl)) rfl (fun ac A151 => ?_)
      refine s_one (.int .i64 (firstOf [spE fx fz, spE tx tz, (must_a_r (inB th 2 20000) 2), (must_a_r false 22), veE va, veE vb])) A151 S143 (g_move (by kernel_rfl)) rfl (fun ac A152 => ?_)
      refine s_store (g := g7) (off := 0) (v := .agg #[.int .i64 0, .int .i64 0]) 1 (#[.int .i64 0, .int .i64 0]) A152 S143 (by kernel_rfl) (by kernel_rfl) rfl (by kernel_rfl) (fun wc S154 => ?_)
      refine s_one (.int .i64 (firstOf [spE fx fz, spE tx tz, (must_a_r (inB th 2 20000) 2), (must_a_r false 22), veE va, veE vb])) A152 S154 (g_assign (by kernel_rfl)) rfl (fun ac A156 => ?_)
      refine wpList_nil ?_
      refine n_then ?_
      refine wp_ret ?_
      refine r_then ?_
      refine fin2 (.agg #[.int .i64 0, .int .i64 0]) (.int .i64 (firstOf [spE fx fz, spE tx tz, (must_a_r (inB th 2 20000) 2), (must_a_r false 22), veE va, veE vb])) Try.results39 A156 S154 (rv_cell (g := g7) (off := 0) 1 (by kernel_rfl) rfl (by kernel_rfl)) (rv_tmp (by kernel_rfl)) ⟨?_, S154.kp⟩
      simp only [zv_n zn]
      rw [zne]
    · have p157 := of_decide_eq_false h149
      have ze0 : firstOf [spE fx fz, spE tx tz, (must_a_r (inB th 2 20000) 2), (must_a_r false 22), veE va, veE vb] = 0 := by simpa using h149
      rw [tu_b (tz := tz) h48] at ze0
      have ze : tuE fx fz tx tz th va vb = 0 := ze0
      have zz := tuE_0 ze
      have ok : Cr.Ok ⟨fx, th - fz, va, tx, th - tz, vb⟩ := tuC_ok ze
      refine wp_skip ?_
      refine n_then ?_
      refine wp_seq ?_
      refine wp_region_lit ?_
      refine s_one (.pointer (some ⟨g3, 0, none⟩)) A148 S143 (g_field (u := .pointer (some ⟨g3, 0, none⟩)) (by kernel_rfl) (fun _ => by kernel_rfl)) rfl (fun ac A158 => ?_)
      refine s_one (.pointer (some ⟨g3, 0, none⟩)) A158 S143 (g_field (u := .pointer (some ⟨g3, 0, none⟩)) (by kernel_rfl) (fun _ => by kernel_rfl)) rfl (fun ac A159 => ?_)
      refine s_one (.int .i64 fx) A159 S143 (g_load (g := g3) (off := 0) 2 (by kernel_rfl) rfl (by kernel_rfl)) rfl (fun ac A160 => ?_)
      refine s_one (.pointer (some ⟨g3, 4, none⟩)) A160 S143 (g_field (u := .pointer (some ⟨g3, 0, none⟩)) (by kernel_rfl) (fun _ => by kernel_rfl)) rfl (fun ac A161 => ?_)
      refine s_one (.int .i64 th) A161 S143 (g_load (g := g3) (off := 4) 2 (by kernel_rfl) rfl (by kernel_rfl)) rfl (fun ac A162 => ?_)
      refine s_one (.pointer (some ⟨g3, 0, none⟩)) A162 S143 (g_field (u := .pointer (some ⟨g3, 0, none⟩)) (by kernel_rfl) (fun _ => by kernel_rfl)) rfl (fun ac A163 => ?_)
      refine s_one (.pointer (some ⟨g3, 1, none⟩)) A163 S143 (g_field (u := .pointer (some ⟨g3, 0, none⟩)) (by kernel_rfl) (fun _ => by kernel_rfl)) rfl (fun ac A164 => ?_)
      refine s_one (.int .i64 fz) A164 S143 (g_load (g := g3) (off := 1) 2 (by kernel_rfl) rfl (by kernel_rfl)) rfl (fun ac A165 => ?_)
      refine s_one (.int .i64 (th - fz)) A165 S143 (g_bin (u := .int .i64 th) (k := .int .i64 fz) (by kernel_rfl) (by kernel_rfl) (fun _ => by kernel_rfl) (b_sub (by omega))) rfl (fun ac A166 => ?_)
      refine s_one (.pointer (some ⟨g3, 5, none⟩)) A166 S143 (g_field (u := .pointer (some ⟨g3, 0, none⟩)) (by kernel_rfl) (fun _ => by kernel_rfl)) rfl (fun ac A167 => ?_)
      refine s_one (.int .i64 va) A167 S143 (g_load (g := g3) (off := 5) 2 (by kernel_rfl) rfl (by kernel_rfl)) rfl (fun ac A168 => ?_)
      refine s_one (.pointer (some ⟨g3, 2, none⟩)) A168 S143 (g_field (u := .pointer (some ⟨g3, 0, none⟩)) (by kernel_rfl) (fun _ => by kernel_rfl)) rfl (fun ac A169 => ?_)
      refine s_one (.pointer (some ⟨g3, 2, none⟩)) A169 S143 (g_field (u := .pointer (some ⟨g3, 2, none⟩)) (by kernel_rfl) (fun _ => by kernel_rfl)) rfl (fun ac A170 => ?_)
      refine s_one (.int .i64 tx) A170 S143 (g_load (g := g3) (off := 2) 2 (by kernel_rfl) rfl (by kernel_rfl)) rfl (fun ac A171 => ?_)
      refine s_one (.pointer (some ⟨g3, 4, none⟩)) A171 S143 (g_field (u := .pointer (some ⟨g3, 0, none⟩)) (by kernel_rfl) (fun _ => by kernel_rfl)) rfl (fun ac A172 => ?_)
      refine s_one (.int .i64 th) A172 S143 (g_load (g := g3) (off := 4) 2 (by kernel_rfl) rfl (by kernel_rfl)) rfl (fun ac A173 => ?_)
      refine s_one (.pointer (some ⟨g3, 2, none⟩)) A173 S143 (g_field (u := .pointer (some ⟨g3, 0, none⟩)) (by kernel_rfl) (fun _ => by kernel_rfl)) rfl (fun ac A174 => ?_)
      refine s_one (.pointer (some ⟨g3, 3, none⟩)) A174 S143 (g_field (u := .pointer (some ⟨g3, 2, none⟩)) (by kernel_rfl) (fun _ => by kernel_rfl)) rfl (fun ac A175 => ?_)
      refine s_one (.int .i64 tz) A175 S143 (g_load (g := g3) (off := 3) 2 (by kernel_rfl) rfl (by kernel_rfl)) rfl (fun ac A176 => ?_)
      refine s_one (.int .i64 (th - tz)) A176 S143 (g_bin (u := .int .i64 th) (k := .int .i64 tz) (by kernel_rfl) (by kernel_rfl) (fun _ => by kernel_rfl) (b_sub (by omega))) rfl (fun ac A177 => ?_)
      refine s_one (.pointer (some ⟨g3, 6, none⟩)) A177 S143 (g_field (u := .pointer (some ⟨g3, 0, none⟩)) (by kernel_rfl) (fun _ => by kernel_rfl)) rfl (fun ac A178 => ?_)
      refine s_one (.int .i64 vb) A178 S143 (g_load (g := g3) (off := 6) 2 (by kernel_rfl) rfl (by kernel_rfl)) rfl (fun ac A179 => ?_)
      refine s_one (.agg #[.int .i64 fx, .int .i64 (th - fz), .int .i64 va, .int .i64 tx, .int .i64 (th - tz), .int .i64 vb]) A179 S143 (g_build (r := [(0, .int .i64 fx), (1, .int .i64 (th - fz)), (2, .int .i64 va), (3, .int .i64 tx), (4, .int .i64 (th - tz)), (5, .int .i64 vb)]) (by kernel_rfl) (fun _ => by kernel_rfl)) rfl (fun ac A180 => ?_)
      refine s_one (.agg #[.int .i64 fx, .int .i64 (th - fz), .int .i64 va, .int .i64 tx, .int .i64 (th - tz), .int .i64 vb]) A180 S143 (g_build (r := [(0, .agg #[.int .i64 fx, .int .i64 (th - fz), .int .i64 va, .int .i64 tx, .int .i64 (th - tz), .int .i64 vb])]) (by kernel_rfl) (fun _ => by kernel_rfl)) rfl (fun ac A181 => ?_)
      have q185 := le_bd (c := ⟨fx, th - fz, va, tx, th - tz, vb⟩) ok
      refine s_call (fs := #[]) (cp := #[]) (r := [(0, .agg #[.int .i64 fx, .int .i64 (th - fz), .int .i64 va, .int .i64 tx, .int .i64 (th - tz), .int .i64 vb])]) #[.agg #[.int .i64 fx, .int .i64 (th - fz), .int .i64 va, .int .i64 tx, .int .i64 (th - tz), .int .i64 vb]] (.agg #[.int .i64 (leLo ⟨fx, th - fz, va, tx, th - tz, vb⟩), .int .i64 (mHi ⟨fx, th - fz, va, tx, th - tz, vb⟩)]) A181 S143 (least_s ⟨fx, th - fz, va, tx, th - tz, vb⟩ _ ok) Try.call78 (by kernel_rfl) (by kernel_rfl) (by kernel_rfl) rfl (fun ac wc A182 S183 => ?_)
      refine s_store (g := g7) (off := 0) (v := .agg #[.int .i64 (leLo ⟨fx, th - fz, va, tx, th - tz, vb⟩), .int .i64 (mHi ⟨fx, th - fz, va, tx, th - tz, vb⟩)]) 1 (#[.int .i64 (leLo ⟨fx, th - fz, va, tx, th - tz, vb⟩), .int .i64 (mHi ⟨fx, th - fz, va, tx, th - tz, vb⟩)]) A182 S183 (by kernel_rfl) (by kernel_rfl) rfl (by kernel_rfl) (fun wc S187 => ?_)
      refine s_one (.int .i64 0) A182 S187 (g_assign (by kernel_rfl)) rfl (fun ac A189 => ?_)
      refine wpList_nil ?_
      refine n_then ?_
      refine wp_ret ?_
      refine fin2 (.agg #[.int .i64 (leLo ⟨fx, th - fz, va, tx, th - tz, vb⟩), .int .i64 (mHi ⟨fx, th - fz, va, tx, th - tz, vb⟩)]) (.int .i64 0) Try.results39 A189 S187 (rv_cell (g := g7) (off := 0) 1 (by kernel_rfl) rfl (by kernel_rfl)) (rv_tmp (by kernel_rfl)) ⟨?_, S187.kp⟩
      simp only [zv_0 ze]
      rw [ze]
      rfl

set_option maxRecDepth 100000 in
set_option maxHeartbeats 400000 in
theorem refTurnErr_s (fx fz tx tz th va vb : Int) (w0 : World) :
    Calls Try.prog 40 #[.agg #[.int .i64 fx, .int .i64 fz, .int .i64 tx, .int .i64 tz, .int .i64 th, .int .i64 va, .int .i64 vb]] w0 fun e w' => e = .returned (.int .i64 (tuE fx fz tx tz th va vb)) ∧ Below w0.heap.size w0 w' := by
  have S0 := St.start w0
  refine enter (n := 45) Try.func40 rfl rfl rfl (fun ac A0 => ?_)
  refine wp_seq ?_
  refine wp_region_lit ?_
  refine s_box (.agg #[.int .i64 fx, .int .i64 fz, .int .i64 tx, .int .i64 tz, .int .i64 th, .int .i64 va, .int .i64 vb]) A0 S0 (by kernel_rfl) rfl (fun g3 ac wc A1 S2 => ?_)
  replace S2 : St _ (⟨g3, 60, #[.int .i64 fx, .int .i64 fz, .int .i64 tx, .int .i64 tz, .int .i64 th, .int .i64 va, .int .i64 vb], true⟩ :: _) _ _ := S2
  refine s_one (.int .i64 0) A1 S2 (g_assign (by kernel_rfl)) rfl (fun ac A5 => ?_)
  refine wpList_nil ?_
  refine n_then ?_
  refine wp_seq ?_
  refine wp_seq ?_
  refine r_begin (w0 := w0) (by kernel_rfl) (S2.sub sub_all sub_all) (fun wc T6 B7 => ?_)
  have S8 := S2.kept B7
  refine r_take 0 (.pointer (some ⟨g3, 0, none⟩)) A5 T6 (g_field (u := .pointer (some ⟨g3, 0, none⟩)) (by kernel_rfl) (fun _ => by kernel_rfl)) rfl rfl rfl (pf_then (pf_then pf_body)) (by kernel_rfl) (fun ac A9 => ?_)
  refine r_take 1 (.agg #[.int .i64 fx, .int .i64 fz]) A9 T6 (g_load (g := g3) (off := 0) 0 (by kernel_rfl) rfl (by kernel_rfl)) rfl rfl rfl (pf_then (pf_then pf_body)) (by kernel_rfl) (fun ac A10 => ?_)
  refine r_take 3 (.pointer (some ⟨g3, 2, none⟩)) A10 T6 (g_field (u := .pointer (some ⟨g3, 0, none⟩)) (by kernel_rfl) (fun _ => by kernel_rfl)) rfl rfl rfl (pf_then (pf_then pf_body)) (by kernel_rfl) (fun ac A11 => ?_)
  refine r_take 4 (.agg #[.int .i64 tx, .int .i64 tz]) A11 T6 (g_load (g := g3) (off := 2) 0 (by kernel_rfl) rfl (by kernel_rfl)) rfl rfl rfl (pf_then (pf_then pf_body)) (by kernel_rfl) (fun ac A12 => ?_)
  refine r_1 (i := 2) (by kernel_rfl) ?_
  refine rs_call (fs := #[]) (cp := #[]) (r := [(0, .agg #[.int .i64 fx, .int .i64 fz])]) #[.agg #[.int .i64 fx, .int .i64 fz]] (.int .i64 (spE fx fz)) A12 S8 sub_all sub_all (refSpotErr_s fx fz _) Try.call35 rfl rfl (by kernel_rfl) (by kernel_rfl) (by kernel_rfl) rfl (fun ac wc A13 S14 => ?_)
  have T16 := S14.sub sub_all sub_all
  refine r_1 (i := 5) (by kernel_rfl) ?_
  refine rs_call (fs := #[]) (cp := #[]) (r := [(0, .agg #[.int .i64 tx, .int .i64 tz])]) #[.agg #[.int .i64 tx, .int .i64 tz]] (.int .i64 (spE tx tz)) A13 S14 sub_all sub_all (refSpotErr_s tx tz _) Try.call35 rfl rfl (by kernel_rfl) (by kernel_rfl) (by kernel_rfl) rfl (fun ac wc A17 S18 => ?_)
  have T20 := S18.sub sub_all sub_all
  refine r_1 (i := 6) (by kernel_rfl) ?_
  refine rs_bs (e := 3) (r := [(0, .int .i64 (spE fx fz)), (1, .int .i64 (spE tx tz))]) (#[.int .i64 (spE fx fz), .int .i64 (spE tx tz)]) A17 S18 sub_all sub_all (by kernel_rfl) (by kernel_rfl) rfl rfl rfl (fun g23 ac wc A21 S22 => ?_)
  have T24 := S22.sub (sub_skip sub_all) sub_all
  refine r_1 (i := 7) (by kernel_rfl) ?_
  refine rs_call (fs := #[]) (cp := #[]) (r := [(0, .slice (some ⟨g23, 0, none⟩) 2 2)]) #[.slice (some ⟨g23, 0, none⟩) 2 2] (.int .i64 (firstOf [spE fx fz, spE tx tz])) A21 S22 (sub_skip sub_all) sub_all (firstOf_s g23 ([spE fx fz, spE tx tz]) 2 2 _ (S22.get 0 rfl) rfl (by omega)) Try.call79 rfl rfl (by kernel_rfl) (by kernel_rfl) (by kernel_rfl) rfl (fun ac wc A25 S26 => ?_)
  have T28 := S26.sub (sub_skip sub_all) sub_all
  refine r_take 8 (.int .i64 (firstOf [spE fx fz, spE tx tz])) A25 T28 (g_assign (by kernel_rfl)) rfl rfl rfl (pf_then (pf_then pf_body)) (by kernel_rfl) (fun ac A29 => ?_)
  refine r_done (by kernel_rfl) ?_
  refine n_then ?_
  refine wp_seq ?_
  refine wp_region_lit ?_
  refine s_one (.int .i64 (firstOf [spE fx fz, spE tx tz])) A29 S26 (g_move (by kernel_rfl)) rfl (fun ac A30 => ?_)
  refine s_one (.bool (decide (firstOf [spE fx fz, spE tx tz] ≠ 0))) A30 S26 (g_bin (u := .int .i64 (firstOf [spE fx fz, spE tx tz])) (k := .int .i64 0) (by kernel_rfl) (by kernel_rfl) (fun _ => by kernel_rfl) b_neq) rfl (fun ac A31 => ?_)
  refine wpList_nil ?_
  refine n_then ?_
  refine c_ifb (b := (decide (firstOf [spE fx fz, spE tx tz] ≠ 0))) A31 (by kernel_rfl) (fun h32 => ?_) (fun h32 => ?_)
  · have p33 := of_decide_eq_true h32
    refine wp_seq ?_
    refine wp_region_lit ?_
    refine s_one (.int .i64 (firstOf [spE fx fz, spE tx tz])) A31 S26 (g_move (by kernel_rfl)) rfl (fun ac A34 => ?_)
    refine s_one (.int .i64 (firstOf [spE fx fz, spE tx tz])) A34 S26 (g_assign (by kernel_rfl)) rfl (fun ac A35 => ?_)
    refine wpList_nil ?_
    refine n_then ?_
    refine wp_ret ?_
    refine r_then ?_
    refine fin1 (.int .i64 (firstOf [spE fx fz, spE tx tz])) Try.results40 A35 S26 (rv_tmp (by kernel_rfl)) ⟨?_, S26.kp⟩
    rw [tuE_r1 p33]
  · have p36 := of_decide_eq_false h32
    refine wp_skip ?_
    refine n_then ?_
    refine wp_seq ?_
    refine wp_seq ?_
    refine wp_region_lit ?_
    refine s_one (.pointer (some ⟨g3, 4, none⟩)) A31 S26 (g_field (u := .pointer (some ⟨g3, 0, none⟩)) (by kernel_rfl) (fun _ => by kernel_rfl)) rfl (fun ac A37 => ?_)
    refine s_one (.int .i64 th) A37 S26 (g_load (g := g3) (off := 4) 1 (by kernel_rfl) rfl (by kernel_rfl)) rfl (fun ac A38 => ?_)
    refine s_call (fs := #[]) (cp := #[]) (r := [(0, .int .i64 th), (0, .int .i64 2), (0, .int .i64 20000)]) #[.int .i64 th, .int .i64 2, .int .i64 20000] (.bool (inB th 2 20000)) A38 S26 (Within_s th 2 20000 _) Try.call26 (by kernel_rfl) (by kernel_rfl) (by kernel_rfl) rfl (fun ac wc A39 S40 => ?_)
    refine s_one (.bool (!(inB th 2 20000))) A39 S40 (g_un (u := .bool (inB th 2 20000)) (by kernel_rfl) (fun _ => by kernel_rfl)) rfl (fun ac A42 => ?_)
    refine wpList_nil ?_
    refine n_then ?_
    refine c_ifb (b := (!(inB th 2 20000))) A42 (by kernel_rfl) (fun h43 => ?_) (fun h43 => ?_)
    · have h44 : inB th 2 20000 = false := by simpa using h43
      refine wp_seq ?_
      refine wp_region_lit ?_
      refine s_one (.int .i64 2) A42 S40 (g_assign (by kernel_rfl)) rfl (fun ac A45 => ?_)
      refine wpList_nil ?_
      refine n_then ?_
      refine wp_ret ?_
      refine r_then ?_
      refine fin1 (.int .i64 2) Try.results40 A45 S40 (rv_tmp (by kernel_rfl)) ⟨?_, S40.kp⟩
      rw [tuE_r2 (by simpa using p36) h44]
    · have h46 : inB th 2 20000 = true := by simpa using h43
      have hth := inB_true.1 h46
      refine wp_skip ?_
      refine n_then ?_
      refine wp_seq ?_
      refine wp_seq ?_
      refine c_cut (fun ac wc => Fr 45 ac [(36, .bool ((!(inB fz 0 (th - 1))) || (!(inB tz 0 (th - 1))))), (0, .agg #[.int .i64 fx, .int .i64 fz, .int .i64 tx, .int .i64 tz, .int .i64 th, .int .i64 va, .int .i64 vb]), (1, .pointer (some ⟨g3, 0, none⟩)), (2, .int .i64 0), (4, .pointer (some ⟨g3, 0, none⟩)), (5, .agg #[.int .i64 fx, .int .i64 fz]), (7, .pointer (some ⟨g3, 2, none⟩)), (8, .agg #[.int .i64 tx, .int .i64 tz]), (6, .int .i64 (spE fx fz)), (9, .int .i64 (spE tx tz)), (10, .slice (some ⟨g23, 0, none⟩) 2 2), (11, .int .i64 (firstOf [spE fx fz, spE tx tz])), (3, .int .i64 (firstOf [spE fx fz, spE tx tz])), (12, .int .i64 (firstOf [spE fx fz, spE tx tz])), (13, .bool (decide (firstOf [spE fx fz, spE tx tz] ≠ 0))), (15, .pointer (some ⟨g3, 4, none⟩)), (16, .int .i64 th), (17, .bool (inB th 2 20000)), (18, .bool (!(inB th 2 20000)))] ∧ St w0 [⟨g23, 3, #[.int .i64 (spE fx fz), .int .i64 (spE tx tz)], true⟩, ⟨g3, 60, #[.int .i64 fx, .int .i64 fz, .int .i64 tx, .int .i64 tz, .int .i64 th, .int .i64 va, .int .i64 vb], true⟩] [] wc) ?_ ?_
      · refine wp_region_lit ?_
        refine s_one (.pointer (some ⟨g3, 0, none⟩)) A42 S40 (g_field (u := .pointer (some ⟨g3, 0, none⟩)) (by kernel_rfl) (fun _ => by kernel_rfl)) rfl (fun ac A47 => ?_)
        refine s_one (.pointer (some ⟨g3, 1, none⟩)) A47 S40 (g_field (u := .pointer (some ⟨g3, 0, none⟩)) (by kernel_rfl) (fun _ => by kernel_rfl)) rfl (fun ac A48 => ?_)
        refine s_one (.int .i64 fz) A48 S40 (g_load (g := g3) (off := 1) 1 (by kernel_rfl) rfl (by kernel_rfl)) rfl (fun ac A49 => ?_)
        refine s_one (.pointer (some ⟨g3, 4, none⟩)) A49 S40 (g_field (u := .pointer (some ⟨g3, 0, none⟩)) (by kernel_rfl) (fun _ => by kernel_rfl)) rfl (fun ac A50 => ?_)
        refine s_one (.int .i64 th) A50 S40 (g_load (g := g3) (off := 4) 1 (by kernel_rfl) rfl (by kernel_rfl)) rfl (fun ac A51 => ?_)
        refine s_one (.int .i64 (th - 1)) A51 S40 (g_bin (u := .int .i64 th) (k := .int .i64 1) (by kernel_rfl) (by kernel_rfl) (fun _ => by kernel_rfl) (b_sub (by omega))) rfl (fun ac A52 => ?_)
        refine s_call (fs := #[]) (cp := #[]) (r := [(0, .int .i64 fz), (0, .int .i64 0), (0, .int .i64 (th - 1))]) #[.int .i64 fz, .int .i64 0, .int .i64 (th - 1)] (.bool (inB fz 0 (th - 1))) A52 S40 (Within_s fz 0 (th - 1) _) Try.call26 (by kernel_rfl) (by kernel_rfl) (by kernel_rfl) rfl (fun ac wc A53 S54 => ?_)
        refine s_one (.bool (!(inB fz 0 (th - 1)))) A53 S54 (g_un (u := .bool (inB fz 0 (th - 1))) (by kernel_rfl) (fun _ => by kernel_rfl)) rfl (fun ac A56 => ?_)
        refine s_one (.bool (!(inB fz 0 (th - 1)))) A56 S54 (g_move (by kernel_rfl)) rfl (fun ac A57 => ?_)
        refine by_bool (!(inB fz 0 (th - 1))) (fun h58 => ?_) (fun h58 => ?_)
        · have h59 : inB fz 0 (th - 1) = false := by simpa using h58
          refine s_not (dj := 27) (b := (!(inB fz 0 (th - 1)))) A57 (by kernel_rfl) (by kernel_rfl) h58 rfl (fun ac A60 => ?_)
          refine s_not (dj := 27) (b := (!(inB fz 0 (th - 1)))) A60 (by kernel_rfl) (by kernel_rfl) h58 rfl (fun ac A61 => ?_)
          refine s_not (dj := 27) (b := (!(inB fz 0 (th - 1)))) A61 (by kernel_rfl) (by kernel_rfl) h58 rfl (fun ac A62 => ?_)
          refine s_not (dj := 27) (b := (!(inB fz 0 (th - 1)))) A62 (by kernel_rfl) (by kernel_rfl) h58 rfl (fun ac A63 => ?_)
          refine s_not (dj := 27) (b := (!(inB fz 0 (th - 1)))) A63 (by kernel_rfl) (by kernel_rfl) h58 rfl (fun ac A64 => ?_)
          refine s_not (dj := 27) (b := (!(inB fz 0 (th - 1)))) A64 (by kernel_rfl) (by kernel_rfl) h58 rfl (fun ac A65 => ?_)
          refine s_not (dj := 27) (b := (!(inB fz 0 (th - 1)))) A65 (by kernel_rfl) (by kernel_rfl) h58 rfl (fun ac A66 => ?_)
          refine s_not (dj := 27) (b := (!(inB fz 0 (th - 1)))) A66 (by kernel_rfl) (by kernel_rfl) h58 rfl (fun ac A67 => ?_)
          refine s_one (.bool true) A67 S54 (g_pick_t (b := (!(inB fz 0 (th - 1)))) (by kernel_rfl) h58 (by kernel_rfl)) rfl (fun ac A68 => ?_)
          refine wpList_nil ?_
          refine n_then ?_
          exact ⟨(A68.slot (A68.slot (A68.slot (A68.slot (A68.slot (A68.slot (A68.slot (A68.slot (A68.slot (A68.slot (A68.slot (A68.slot (A68.slot (A68.slot (A68.slot (A68.slot (A68.slot (A68.slot (A68.slot A68.nil (v := .bool (!(inB th 2 20000))) (by kernel_rfl) rfl) (v := .bool (inB th 2 20000)) (by kernel_rfl) rfl) (v := .int .i64 th) (by kernel_rfl) rfl) (v := .pointer (some ⟨g3, 4, none⟩)) (by kernel_rfl) rfl) (v := .bool (decide (firstOf [spE fx fz, spE tx tz] ≠ 0))) (by kernel_rfl) rfl) (v := .int .i64 (firstOf [spE fx fz, spE tx tz])) (by kernel_rfl) rfl) (v := .int .i64 (firstOf [spE fx fz, spE tx tz])) (by kernel_rfl) rfl) (v := .int .i64 (firstOf [spE fx fz, spE tx tz])) (by kernel_rfl) rfl) (v := .slice (some ⟨g23, 0, none⟩) 2 2) (by kernel_rfl) rfl) (v := .int .i64 (spE tx tz)) (by kernel_rfl) rfl) (v := .int .i64 (spE fx fz)) (by kernel_rfl) rfl) (v := .agg #[.int .i64 tx, .int .i64 tz]) (by kernel_rfl) rfl) (v := .pointer (some ⟨g3, 2, none⟩)) (by kernel_rfl) rfl) (v := .agg #[.int .i64 fx, .int .i64 fz]) (by kernel_rfl) rfl) (v := .pointer (some ⟨g3, 0, none⟩)) (by kernel_rfl) rfl) (v := .int .i64 0) (by kernel_rfl) rfl) (v := .pointer (some ⟨g3, 0, none⟩)) (by kernel_rfl) rfl) (v := .agg #[.int .i64 fx, .int .i64 fz, .int .i64 tx, .int .i64 tz, .int .i64 th, .int .i64 va, .int .i64 vb]) (by kernel_rfl) rfl) (v := .bool true) (by kernel_rfl) (congrArg Value.bool (b_ot1 h58).symm)), S54.sub sub_all sub_all⟩
        · have h69 : inB fz 0 (th - 1) = true := by simpa using h58
          refine s_want (dj := 27) (b := (!(inB fz 0 (th - 1)))) A57 (by kernel_rfl) (by kernel_rfl) h58 ?_
          refine s_one (.pointer (some ⟨g3, 2, none⟩)) A57 S54 (g_field (u := .pointer (some ⟨g3, 0, none⟩)) (by kernel_rfl) (fun _ => by kernel_rfl)) rfl (fun ac A70 => ?_)
          refine s_want (dj := 27) (b := (!(inB fz 0 (th - 1)))) A70 (by kernel_rfl) (by kernel_rfl) h58 ?_
          refine s_one (.pointer (some ⟨g3, 3, none⟩)) A70 S54 (g_field (u := .pointer (some ⟨g3, 2, none⟩)) (by kernel_rfl) (fun _ => by kernel_rfl)) rfl (fun ac A71 => ?_)
          refine s_want (dj := 27) (b := (!(inB fz 0 (th - 1)))) A71 (by kernel_rfl) (by kernel_rfl) h58 ?_
          refine s_one (.int .i64 tz) A71 S54 (g_load (g := g3) (off := 3) 1 (by kernel_rfl) rfl (by kernel_rfl)) rfl (fun ac A72 => ?_)
          refine s_want (dj := 27) (b := (!(inB fz 0 (th - 1)))) A72 (by kernel_rfl) (by kernel_rfl) h58 ?_
          refine s_one (.pointer (some ⟨g3, 4, none⟩)) A72 S54 (g_field (u := .pointer (some ⟨g3, 0, none⟩)) (by kernel_rfl) (fun _ => by kernel_rfl)) rfl (fun ac A73 => ?_)
          refine s_want (dj := 27) (b := (!(inB fz 0 (th - 1)))) A73 (by kernel_rfl) (by kernel_rfl) h58 ?_
          refine s_one (.int .i64 th) A73 S54 (g_load (g := g3) (off := 4) 1 (by kernel_rfl) rfl (by kernel_rfl)) rfl (fun ac A74 => ?_)
          refine s_want (dj := 27) (b := (!(inB fz 0 (th - 1)))) A74 (by kernel_rfl) (by kernel_rfl) h58 ?_
          refine s_one (.int .i64 (th - 1)) A74 S54 (g_bin (u := .int .i64 th) (k := .int .i64 1) (by kernel_rfl) (by kernel_rfl) (fun _ => by kernel_rfl) (b_sub (by omega))) rfl (fun ac A75 => ?_)
          refine s_want (dj := 27) (b := (!(inB fz 0 (th - 1)))) A75 (by kernel_rfl) (by kernel_rfl) h58 ?_
          refine s_call (fs := #[]) (cp := #[]) (r := [(0, .int .i64 tz), (0, .int .i64 0), (0, .int .i64 (th - 1))]) #[.int .i64 tz, .int .i64 0, .int .i64 (th - 1)] (.bool (inB tz 0 (th - 1))) A75 S54 (Within_s tz 0 (th - 1) _) Try.call26 (by kernel_rfl) (by kernel_rfl) (by kernel_rfl) rfl (fun ac wc A76 S77 => ?_)
          refine s_want (dj := 27) (b := (!(inB fz 0 (th - 1)))) A76 (by kernel_rfl) (by kernel_rfl) h58 ?_
          refine s_one (.bool (!(inB tz 0 (th - 1)))) A76 S77 (g_un (u := .bool (inB tz 0 (th - 1))) (by kernel_rfl) (fun _ => by kernel_rfl)) rfl (fun ac A79 => ?_)
          refine s_one (.bool (!(inB tz 0 (th - 1)))) A79 S77 (g_pick_f (b := (!(inB fz 0 (th - 1)))) (by kernel_rfl) h58 (by kernel_rfl)) rfl (fun ac A80 => ?_)
          refine wpList_nil ?_
          refine n_then ?_
          exact ⟨(A80.slot (A80.slot (A80.slot (A80.slot (A80.slot (A80.slot (A80.slot (A80.slot (A80.slot (A80.slot (A80.slot (A80.slot (A80.slot (A80.slot (A80.slot (A80.slot (A80.slot (A80.slot (A80.slot A80.nil (v := .bool (!(inB th 2 20000))) (by kernel_rfl) rfl) (v := .bool (inB th 2 20000)) (by kernel_rfl) rfl) (v := .int .i64 th) (by kernel_rfl) rfl) (v := .pointer (some ⟨g3, 4, none⟩)) (by kernel_rfl) rfl) (v := .bool (decide (firstOf [spE fx fz, spE tx tz] ≠ 0))) (by kernel_rfl) rfl) (v := .int .i64 (firstOf [spE fx fz, spE tx tz])) (by kernel_rfl) rfl) (v := .int .i64 (firstOf [spE fx fz, spE tx tz])) (by kernel_rfl) rfl) (v := .int .i64 (firstOf [spE fx fz, spE tx tz])) (by kernel_rfl) rfl) (v := .slice (some ⟨g23, 0, none⟩) 2 2) (by kernel_rfl) rfl) (v := .int .i64 (spE tx tz)) (by kernel_rfl) rfl) (v := .int .i64 (spE fx fz)) (by kernel_rfl) rfl) (v := .agg #[.int .i64 tx, .int .i64 tz]) (by kernel_rfl) rfl) (v := .pointer (some ⟨g3, 2, none⟩)) (by kernel_rfl) rfl) (v := .agg #[.int .i64 fx, .int .i64 fz]) (by kernel_rfl) rfl) (v := .pointer (some ⟨g3, 0, none⟩)) (by kernel_rfl) rfl) (v := .int .i64 0) (by kernel_rfl) rfl) (v := .pointer (some ⟨g3, 0, none⟩)) (by kernel_rfl) rfl) (v := .agg #[.int .i64 fx, .int .i64 fz, .int .i64 tx, .int .i64 tz, .int .i64 th, .int .i64 va, .int .i64 vb]) (by kernel_rfl) rfl) (v := .bool (!(inB tz 0 (th - 1)))) (by kernel_rfl) (congrArg Value.bool (b_or_f h58 (Eq.refl (!(inB tz 0 (th - 1))))).symm)), S77.sub sub_all sub_all⟩
      · rintro ac wc ⟨A81, S82⟩
        refine n_then ?_
        refine c_ifb (b := ((!(inB fz 0 (th - 1))) || (!(inB tz 0 (th - 1))))) A81 (by kernel_rfl) (fun h83 => ?_) (fun h83 => ?_)
        · refine wp_seq ?_
          refine wp_region_lit ?_
          refine s_one (.int .i64 22) A81 S82 (g_assign (by kernel_rfl)) rfl (fun ac A84 => ?_)
          refine wpList_nil ?_
          refine n_then ?_
          refine wp_ret ?_
          refine r_then ?_
          refine fin1 (.int .i64 22) Try.results40 A84 S82 (rv_tmp (by kernel_rfl)) ⟨?_, S82.kp⟩
          rw [tuE_r3 (by simpa using p36) h46 h83]
        · have h85 := (Bool.or_eq_false_iff.1 h83).1
          have h86 : inB fz 0 (th - 1) = true := by simpa using h85
          have h87 := (Bool.or_eq_false_iff.1 h83).2
          have h88 : inB tz 0 (th - 1) = true := by simpa using h87
          refine wp_skip ?_
          refine n_then ?_
          refine wp_seq ?_
          refine r_begin (w0 := w0) (by kernel_rfl) (S82.sub sub_all sub_all) (fun wc T89 B90 => ?_)
          have S91 := S82.kept B90
          refine r_take 0 (.pointer (some ⟨g3, 5, none⟩)) A81 T89 (g_field (u := .pointer (some ⟨g3, 0, none⟩)) (by kernel_rfl) (fun _ => by kernel_rfl)) rfl rfl rfl (pf_then pf_body) (by kernel_rfl) (fun ac A92 => ?_)
          refine r_take 1 (.int .i64 va) A92 T89 (g_load (g := g3) (off := 5) 1 (by kernel_rfl) rfl (by kernel_rfl)) rfl rfl rfl (pf_then pf_body) (by kernel_rfl) (fun ac A93 => ?_)
          refine r_take 3 (.pointer (some ⟨g3, 6, none⟩)) A93 T89 (g_field (u := .pointer (some ⟨g3, 0, none⟩)) (by kernel_rfl) (fun _ => by kernel_rfl)) rfl rfl rfl (pf_then pf_body) (by kernel_rfl) (fun ac A94 => ?_)
          refine r_take 4 (.int .i64 vb) A94 T89 (g_load (g := g3) (off := 6) 1 (by kernel_rfl) rfl (by kernel_rfl)) rfl rfl rfl (pf_then pf_body) (by kernel_rfl) (fun ac A95 => ?_)
          refine r_1 (i := 2) (by kernel_rfl) ?_
          refine rs_call (fs := #[]) (cp := #[]) (r := [(0, .int .i64 va)]) #[.int .i64 va] (.int .i64 (veE va)) A95 S91 sub_all sub_all (refSpeedErr_s va _) Try.call37 rfl rfl (by kernel_rfl) (by kernel_rfl) (by kernel_rfl) rfl (fun ac wc A96 S97 => ?_)
          have T99 := S97.sub sub_all sub_all
          refine r_1 (i := 5) (by kernel_rfl) ?_
          refine rs_call (fs := #[]) (cp := #[]) (r := [(0, .int .i64 vb)]) #[.int .i64 vb] (.int .i64 (veE vb)) A96 S97 sub_all sub_all (refSpeedErr_s vb _) Try.call37 rfl rfl (by kernel_rfl) (by kernel_rfl) (by kernel_rfl) rfl (fun ac wc A100 S101 => ?_)
          have T103 := S101.sub sub_all sub_all
          refine r_1 (i := 6) (by kernel_rfl) ?_
          refine rs_bs (e := 3) (r := [(0, .int .i64 (veE va)), (1, .int .i64 (veE vb))]) (#[.int .i64 (veE va), .int .i64 (veE vb)]) A100 S101 sub_all sub_all (by kernel_rfl) (by kernel_rfl) rfl rfl rfl (fun g106 ac wc A104 S105 => ?_)
          have T107 := S105.sub (sub_skip sub_all) sub_all
          refine r_1 (i := 7) (by kernel_rfl) ?_
          refine rs_call (fs := #[]) (cp := #[]) (r := [(0, .slice (some ⟨g106, 0, none⟩) 2 2)]) #[.slice (some ⟨g106, 0, none⟩) 2 2] (.int .i64 (firstOf [veE va, veE vb])) A104 S105 (sub_skip sub_all) sub_all (firstOf_s g106 ([veE va, veE vb]) 2 2 _ (S105.get 0 rfl) rfl (by omega)) Try.call79 rfl rfl (by kernel_rfl) (by kernel_rfl) (by kernel_rfl) rfl (fun ac wc A108 S109 => ?_)
          have T111 := S109.sub (sub_skip sub_all) sub_all
          refine r_take 8 (.int .i64 (firstOf [veE va, veE vb])) A108 T111 (g_assign (by kernel_rfl)) rfl rfl rfl (pf_then pf_body) (by kernel_rfl) (fun ac A112 => ?_)
          refine r_done (by kernel_rfl) ?_
          refine n_then ?_
          refine wp_ret ?_
          refine fin1 (.int .i64 (firstOf [veE va, veE vb])) Try.results40 A112 S109 (rv_tmp (by kernel_rfl)) ⟨?_, S109.kp⟩
          rw [tuE_r4 (by simpa using p36) h46 h86 h88]

set_option maxRecDepth 100000 in
set_option maxHeartbeats 400000 in
theorem refTurnedTime_s (fx fz tx tz th va vb : Int) (w0 : World) (h : tuE fx fz tx tz th va vb = 0) :
    Calls Try.prog 41 #[.agg #[.int .i64 fx, .int .i64 fz, .int .i64 tx, .int .i64 tz, .int .i64 th, .int .i64 va, .int .i64 vb]] w0 fun e w' => e = .returned (.agg #[.int .i64 (leLo (tuC fx fz tx tz th va vb)), .int .i64 (mHi (tuC fx fz tx tz th va vb))]) ∧ Below w0.heap.size w0 w' := by
  have S0 := St.start w0
  have zz := tuE_0 h
  have ok : Cr.Ok ⟨fx, th - fz, va, tx, th - tz, vb⟩ := tuC_ok h
  refine enter (n := 27) Try.func41 rfl rfl rfl (fun ac A0 => ?_)
  refine wp_seq ?_
  refine wp_region_lit ?_
  refine s_box (.agg #[.int .i64 fx, .int .i64 fz, .int .i64 tx, .int .i64 tz, .int .i64 th, .int .i64 va, .int .i64 vb]) A0 S0 (by kernel_rfl) rfl (fun g3 ac wc A1 S2 => ?_)
  replace S2 : St _ (⟨g3, 60, #[.int .i64 fx, .int .i64 fz, .int .i64 tx, .int .i64 tz, .int .i64 th, .int .i64 va, .int .i64 vb], true⟩ :: _) _ _ := S2
  refine s_alloc (#[.int .i64 0, .int .i64 0]) A1 S2 (by kernel_rfl) rfl (fun g7 ac wc A5 S6 => ?_)
  refine wpList_nil ?_
  refine n_then ?_
  refine wp_seq ?_
  refine wp_region_lit ?_
  refine s_one (.pointer (some ⟨g3, 0, none⟩)) A5 S6 (g_field (u := .pointer (some ⟨g3, 0, none⟩)) (by kernel_rfl) (fun _ => by kernel_rfl)) rfl (fun ac A8 => ?_)
  refine s_one (.pointer (some ⟨g3, 0, none⟩)) A8 S6 (g_field (u := .pointer (some ⟨g3, 0, none⟩)) (by kernel_rfl) (fun _ => by kernel_rfl)) rfl (fun ac A9 => ?_)
  refine s_one (.int .i64 fx) A9 S6 (g_load (g := g3) (off := 0) 1 (by kernel_rfl) rfl (by kernel_rfl)) rfl (fun ac A10 => ?_)
  refine s_one (.pointer (some ⟨g3, 4, none⟩)) A10 S6 (g_field (u := .pointer (some ⟨g3, 0, none⟩)) (by kernel_rfl) (fun _ => by kernel_rfl)) rfl (fun ac A11 => ?_)
  refine s_one (.int .i64 th) A11 S6 (g_load (g := g3) (off := 4) 1 (by kernel_rfl) rfl (by kernel_rfl)) rfl (fun ac A12 => ?_)
  refine s_one (.pointer (some ⟨g3, 0, none⟩)) A12 S6 (g_field (u := .pointer (some ⟨g3, 0, none⟩)) (by kernel_rfl) (fun _ => by kernel_rfl)) rfl (fun ac A13 => ?_)
  refine s_one (.pointer (some ⟨g3, 1, none⟩)) A13 S6 (g_field (u := .pointer (some ⟨g3, 0, none⟩)) (by kernel_rfl) (fun _ => by kernel_rfl)) rfl (fun ac A14 => ?_)
  refine s_one (.int .i64 fz) A14 S6 (g_load (g := g3) (off := 1) 1 (by kernel_rfl) rfl (by kernel_rfl)) rfl (fun ac A15 => ?_)
  refine s_one (.int .i64 (th - fz)) A15 S6 (g_bin (u := .int .i64 th) (k := .int .i64 fz) (by kernel_rfl) (by kernel_rfl) (fun _ => by kernel_rfl) (b_sub (by omega))) rfl (fun ac A16 => ?_)
  refine s_one (.pointer (some ⟨g3, 5, none⟩)) A16 S6 (g_field (u := .pointer (some ⟨g3, 0, none⟩)) (by kernel_rfl) (fun _ => by kernel_rfl)) rfl (fun ac A17 => ?_)
  refine s_one (.int .i64 va) A17 S6 (g_load (g := g3) (off := 5) 1 (by kernel_rfl) rfl (by kernel_rfl)) rfl (fun ac A18 => ?_)
  refine s_one (.pointer (some ⟨g3, 2, none⟩)) A18 S6 (g_field (u := .pointer (some ⟨g3, 0, none⟩)) (by kernel_rfl) (fun _ => by kernel_rfl)) rfl (fun ac A19 => ?_)
  refine s_one (.pointer (some ⟨g3, 2, none⟩)) A19 S6 (g_field (u := .pointer (some ⟨g3, 2, none⟩)) (by kernel_rfl) (fun _ => by kernel_rfl)) rfl (fun ac A20 => ?_)
  refine s_one (.int .i64 tx) A20 S6 (g_load (g := g3) (off := 2) 1 (by kernel_rfl) rfl (by kernel_rfl)) rfl (fun ac A21 => ?_)
  refine s_one (.pointer (some ⟨g3, 4, none⟩)) A21 S6 (g_field (u := .pointer (some ⟨g3, 0, none⟩)) (by kernel_rfl) (fun _ => by kernel_rfl)) rfl (fun ac A22 => ?_)
  refine s_one (.int .i64 th) A22 S6 (g_load (g := g3) (off := 4) 1 (by kernel_rfl) rfl (by kernel_rfl)) rfl (fun ac A23 => ?_)
  refine s_one (.pointer (some ⟨g3, 2, none⟩)) A23 S6 (g_field (u := .pointer (some ⟨g3, 0, none⟩)) (by kernel_rfl) (fun _ => by kernel_rfl)) rfl (fun ac A24 => ?_)
  refine s_one (.pointer (some ⟨g3, 3, none⟩)) A24 S6 (g_field (u := .pointer (some ⟨g3, 2, none⟩)) (by kernel_rfl) (fun _ => by kernel_rfl)) rfl (fun ac A25 => ?_)
  refine s_one (.int .i64 tz) A25 S6 (g_load (g := g3) (off := 3) 1 (by kernel_rfl) rfl (by kernel_rfl)) rfl (fun ac A26 => ?_)
  refine s_one (.int .i64 (th - tz)) A26 S6 (g_bin (u := .int .i64 th) (k := .int .i64 tz) (by kernel_rfl) (by kernel_rfl) (fun _ => by kernel_rfl) (b_sub (by omega))) rfl (fun ac A27 => ?_)
  refine s_one (.pointer (some ⟨g3, 6, none⟩)) A27 S6 (g_field (u := .pointer (some ⟨g3, 0, none⟩)) (by kernel_rfl) (fun _ => by kernel_rfl)) rfl (fun ac A28 => ?_)
  refine s_one (.int .i64 vb) A28 S6 (g_load (g := g3) (off := 6) 1 (by kernel_rfl) rfl (by kernel_rfl)) rfl (fun ac A29 => ?_)
  refine s_one (.agg #[.int .i64 fx, .int .i64 (th - fz), .int .i64 va, .int .i64 tx, .int .i64 (th - tz), .int .i64 vb]) A29 S6 (g_build (r := [(0, .int .i64 fx), (1, .int .i64 (th - fz)), (2, .int .i64 va), (3, .int .i64 tx), (4, .int .i64 (th - tz)), (5, .int .i64 vb)]) (by kernel_rfl) (fun _ => by kernel_rfl)) rfl (fun ac A30 => ?_)
  have q34 := le_bd (c := ⟨fx, th - fz, va, tx, th - tz, vb⟩) ok
  refine s_call (fs := #[]) (cp := #[]) (r := [(0, .agg #[.int .i64 fx, .int .i64 (th - fz), .int .i64 va, .int .i64 tx, .int .i64 (th - tz), .int .i64 vb])]) #[.agg #[.int .i64 fx, .int .i64 (th - fz), .int .i64 va, .int .i64 tx, .int .i64 (th - tz), .int .i64 vb]] (.agg #[.int .i64 (leLo ⟨fx, th - fz, va, tx, th - tz, vb⟩), .int .i64 (mHi ⟨fx, th - fz, va, tx, th - tz, vb⟩)]) A30 S6 (refLeast_s ⟨fx, th - fz, va, tx, th - tz, vb⟩ _ ok) Try.call24 (by kernel_rfl) (by kernel_rfl) (by kernel_rfl) rfl (fun ac wc A31 S32 => ?_)
  refine s_store (g := g7) (off := 0) (v := .agg #[.int .i64 (leLo ⟨fx, th - fz, va, tx, th - tz, vb⟩), .int .i64 (mHi ⟨fx, th - fz, va, tx, th - tz, vb⟩)]) 0 (#[.int .i64 (leLo ⟨fx, th - fz, va, tx, th - tz, vb⟩), .int .i64 (mHi ⟨fx, th - fz, va, tx, th - tz, vb⟩)]) A31 S32 (by kernel_rfl) (by kernel_rfl) rfl (by kernel_rfl) (fun wc S36 => ?_)
  refine wpList_nil ?_
  refine n_then ?_
  refine wp_ret ?_
  refine fin1 (.agg #[.int .i64 (leLo ⟨fx, th - fz, va, tx, th - tz, vb⟩), .int .i64 (mHi ⟨fx, th - fz, va, tx, th - tz, vb⟩)]) Try.results41 A31 S36 (rv_cell (g := g7) (off := 0) 0 (by kernel_rfl) rfl (by kernel_rfl)) ⟨?_, S36.kp⟩
  rfl

def ehE (ow od os ot rw rd rs rt_ fx fz ax az tx tz : Int) : Int := firstOf [mdE ow od os ot, mdE rw rd rs rt_, wyE ot fx fz ax az, wyE rt_ tx tz ax az]
theorem ehE_0 {ow od os ot rw rd rs rt_ fx fz ax az tx tz : Int} (h : ehE ow od os ot rw rd rs rt_ fx fz ax az tx tz = 0) : mdE ow od os ot = 0 ∧ mdE rw rd rs rt_ = 0 ∧ wyE ot fx fz ax az = 0 ∧ wyE rt_ tx tz ax az = 0 := by
  obtain ⟨h1, h⟩ := fo_zero h
  obtain ⟨h2, h⟩ := fo_zero h
  obtain ⟨h3, h⟩ := fo_zero h
  rw [fo_last] at h
  exact ⟨h1, h2, h3, h⟩
theorem ehE_of {ow od os ot rw rd rs rt_ fx fz ax az tx tz : Int} (h1 : mdE ow od os ot = 0) (h2 : mdE rw rd rs rt_ = 0) (h3 : wyE ot fx fz ax az = 0) (h4 : wyE rt_ tx tz ax az = 0) : ehE ow od os ot rw rd rs rt_ fx fz ax az tx tz = 0 := by
  unfold ehE; rw [fo_cons0 h1, fo_cons0 h2, fo_cons0 h3, fo_last, h4]
theorem ehE_r1 {ow od os ot rw rd rs rt_ fx fz ax az tx tz : Int} (h : firstOf [mdE ow od os ot, mdE rw rd rs rt_] ≠ 0) : ehE ow od os ot rw rd rs rt_ fx fz ax az tx tz = firstOf [mdE ow od os ot, mdE rw rd rs rt_] := fo_a (r := [_, _]) h
theorem ehE_r2 {ow od os ot rw rd rs rt_ fx fz ax az tx tz : Int} (h : firstOf [mdE ow od os ot, mdE rw rd rs rt_] = 0) : ehE ow od os ot rw rd rs rt_ fx fz ax az tx tz = firstOf [wyE ot fx fz ax az, wyE rt_ tx tz ax az] := fo_b (r := [_, _]) h

set_option maxRecDepth 100000 in
set_option maxHeartbeats 400000 in
theorem EchoTime_s (ow od os ot rw rd rs rt_ fx fz ax az tx tz : Int) (w0 : World) :
    Calls Try.prog 42 #[.agg #[.int .i64 ow, .int .i64 od, .int .i64 os, .int .i64 ot, .int .i64 rw, .int .i64 rd, .int .i64 rs, .int .i64 rt_, .int .i64 fx, .int .i64 fz, .int .i64 ax, .int .i64 az, .int .i64 tx, .int .i64 tz]] w0 fun e w' => e = .returned (.tuple #[.agg #[.int .i64 (zv (ehE ow od os ot rw rd rs rt_ fx fz ax az tx tz) (leLo (wyC ow od os ot fx fz ax az) + leLo (wyC rw rd rs rt_ tx tz ax az))), .int .i64 (zv (ehE ow od os ot rw rd rs rt_ fx fz ax az tx tz) (mHi (wyC ow od os ot fx fz ax az) + mHi (wyC rw rd rs rt_ tx tz ax az)))], .int .i64 (ehE ow od os ot rw rd rs rt_ fx fz ax az tx tz)]) ∧ Below w0.heap.size w0 w' := by
  have S0 := St.start w0
  refine enter (n := 53) Try.func42 rfl rfl rfl (fun ac A0 => ?_)
  refine wp_seq ?_
  refine wp_region_lit ?_
  refine s_box (.agg #[.int .i64 ow, .int .i64 od, .int .i64 os, .int .i64 ot, .int .i64 rw, .int .i64 rd, .int .i64 rs, .int .i64 rt_, .int .i64 fx, .int .i64 fz, .int .i64 ax, .int .i64 az, .int .i64 tx, .int .i64 tz]) A0 S0 (by kernel_rfl) rfl (fun g3 ac wc A1 S2 => ?_)
  replace S2 : St _ (⟨g3, 66, #[.int .i64 ow, .int .i64 od, .int .i64 os, .int .i64 ot, .int .i64 rw, .int .i64 rd, .int .i64 rs, .int .i64 rt_, .int .i64 fx, .int .i64 fz, .int .i64 ax, .int .i64 az, .int .i64 tx, .int .i64 tz], true⟩ :: _) _ _ := S2
  refine s_alloc (#[.int .i64 0, .int .i64 0]) A1 S2 (by kernel_rfl) rfl (fun g7 ac wc A5 S6 => ?_)
  refine s_one (.int .i64 0) A5 S6 (g_assign (by kernel_rfl)) rfl (fun ac A8 => ?_)
  refine wpList_nil ?_
  refine n_then ?_
  refine wp_seq ?_
  refine wp_seq ?_
  refine r_begin (w0 := w0) (by kernel_rfl) (S6.sub sub_all sub_all) (fun wc T9 B10 => ?_)
  have S11 := S6.kept B10
  refine r_take 0 (.pointer (some ⟨g3, 0, none⟩)) A8 T9 (g_field (u := .pointer (some ⟨g3, 0, none⟩)) (by kernel_rfl) (fun _ => by kernel_rfl)) rfl rfl rfl (pf_then (pf_then pf_body)) (by kernel_rfl) (fun ac A12 => ?_)
  refine r_take 1 (.agg #[.int .i64 ow, .int .i64 od, .int .i64 os, .int .i64 ot]) A12 T9 (g_load (g := g3) (off := 0) 1 (by kernel_rfl) rfl (by kernel_rfl)) rfl rfl rfl (pf_then (pf_then pf_body)) (by kernel_rfl) (fun ac A13 => ?_)
  refine r_take 3 (.pointer (some ⟨g3, 4, none⟩)) A13 T9 (g_field (u := .pointer (some ⟨g3, 0, none⟩)) (by kernel_rfl) (fun _ => by kernel_rfl)) rfl rfl rfl (pf_then (pf_then pf_body)) (by kernel_rfl) (fun ac A14 => ?_)
  refine r_take 4 (.agg #[.int .i64 rw, .int .i64 rd, .int .i64 rs, .int .i64 rt_]) A14 T9 (g_load (g := g3) (off := 4) 1 (by kernel_rfl) rfl (by kernel_rfl)) rfl rfl rfl (pf_then (pf_then pf_body)) (by kernel_rfl) (fun ac A15 => ?_)
  refine r_1 (i := 2) (by kernel_rfl) ?_
  refine rs_call (fs := #[]) (cp := #[]) (r := [(0, .agg #[.int .i64 ow, .int .i64 od, .int .i64 os, .int .i64 ot])]) #[.agg #[.int .i64 ow, .int .i64 od, .int .i64 os, .int .i64 ot]] (.int .i64 (mdE ow od os ot)) A15 S11 sub_all sub_all (CheckMode_s ow od os ot _) Try.call32 rfl rfl (by kernel_rfl) (by kernel_rfl) (by kernel_rfl) rfl (fun ac wc A16 S17 => ?_)
  have T19 := S17.sub sub_all sub_all
  refine r_1 (i := 5) (by kernel_rfl) ?_
  refine rs_call (fs := #[]) (cp := #[]) (r := [(0, .agg #[.int .i64 rw, .int .i64 rd, .int .i64 rs, .int .i64 rt_])]) #[.agg #[.int .i64 rw, .int .i64 rd, .int .i64 rs, .int .i64 rt_]] (.int .i64 (mdE rw rd rs rt_)) A16 S17 sub_all sub_all (CheckMode_s rw rd rs rt_ _) Try.call32 rfl rfl (by kernel_rfl) (by kernel_rfl) (by kernel_rfl) rfl (fun ac wc A20 S21 => ?_)
  have T23 := S21.sub sub_all sub_all
  refine r_1 (i := 6) (by kernel_rfl) ?_
  refine rs_bs (e := 25) (r := [(0, .int .i64 (mdE ow od os ot)), (1, .int .i64 (mdE rw rd rs rt_))]) (#[.int .i64 (mdE ow od os ot), .int .i64 (mdE rw rd rs rt_)]) A20 S21 sub_all sub_all (by kernel_rfl) (by kernel_rfl) rfl rfl rfl (fun g26 ac wc A24 S25 => ?_)
  have T27 := S25.sub (sub_skip sub_all) sub_all
  refine r_1 (i := 7) (by kernel_rfl) ?_
  refine rs_call (fs := #[]) (cp := #[]) (r := [(0, .slice (some ⟨g26, 0, none⟩) 2 2)]) #[.slice (some ⟨g26, 0, none⟩) 2 2] (.int .i64 (firstOf [mdE ow od os ot, mdE rw rd rs rt_])) A24 S25 (sub_skip sub_all) sub_all (first_s g26 ([mdE ow od os ot, mdE rw rd rs rt_]) 2 2 _ (S25.get 0 rfl) rfl (by omega)) Try.call83 rfl rfl (by kernel_rfl) (by kernel_rfl) (by kernel_rfl) rfl (fun ac wc A28 S29 => ?_)
  have T31 := S29.sub (sub_skip sub_all) sub_all
  refine r_take 8 (.int .i64 (firstOf [mdE ow od os ot, mdE rw rd rs rt_])) A28 T31 (g_assign (by kernel_rfl)) rfl rfl rfl (pf_then (pf_then pf_body)) (by kernel_rfl) (fun ac A32 => ?_)
  refine r_done (by kernel_rfl) ?_
  refine n_then ?_
  refine wp_seq ?_
  refine wp_region_lit ?_
  refine s_one (.int .i64 (firstOf [mdE ow od os ot, mdE rw rd rs rt_])) A32 S29 (g_move (by kernel_rfl)) rfl (fun ac A33 => ?_)
  refine s_one (.bool (decide (firstOf [mdE ow od os ot, mdE rw rd rs rt_] ≠ 0))) A33 S29 (g_bin (u := .int .i64 (firstOf [mdE ow od os ot, mdE rw rd rs rt_])) (k := .int .i64 0) (by kernel_rfl) (by kernel_rfl) (fun _ => by kernel_rfl) b_neq) rfl (fun ac A34 => ?_)
  refine wpList_nil ?_
  refine n_then ?_
  refine c_ifb (b := (decide (firstOf [mdE ow od os ot, mdE rw rd rs rt_] ≠ 0))) A34 (by kernel_rfl) (fun h35 => ?_) (fun h35 => ?_)
  · have p36 := of_decide_eq_true h35
    have eE := ehE_r1 (fx := fx) (fz := fz) (ax := ax) (az := az) (tx := tx) (tz := tz) (of_decide_eq_true h35)
    have zn : ehE ow od os ot rw rd rs rt_ fx fz ax az tx tz ≠ 0 := eE ▸ (of_decide_eq_true h35)
    refine wp_seq ?_
    refine wp_region_lit ?_
    refine s_one (.agg #[.int .i64 0, .int .i64 0]) A34 S29 (g_build (r := []) (by kernel_rfl) (fun _ => by kernel_rfl)) rfl (fun ac A37 => ?_)
    refine s_one (.int .i64 (firstOf [mdE ow od os ot, mdE rw rd rs rt_])) A37 S29 (g_move (by kernel_rfl)) rfl (fun ac A38 => ?_)
    refine s_store (g := g7) (off := 0) (v := .agg #[.int .i64 0, .int .i64 0]) 1 (#[.int .i64 0, .int .i64 0]) A38 S29 (by kernel_rfl) (by kernel_rfl) rfl (by kernel_rfl) (fun wc S40 => ?_)
    refine s_one (.int .i64 (firstOf [mdE ow od os ot, mdE rw rd rs rt_])) A38 S40 (g_assign (by kernel_rfl)) rfl (fun ac A42 => ?_)
    refine wpList_nil ?_
    refine n_then ?_
    refine wp_ret ?_
    refine r_then ?_
    refine fin2 (.agg #[.int .i64 0, .int .i64 0]) (.int .i64 (firstOf [mdE ow od os ot, mdE rw rd rs rt_])) Try.results42 A42 S40 (rv_cell (g := g7) (off := 0) 1 (by kernel_rfl) rfl (by kernel_rfl)) (rv_tmp (by kernel_rfl)) ⟨?_, S40.kp⟩
    simp only [zv_n zn]
    rw [eE]
  · have p43 := of_decide_eq_false h35
    have m0 : firstOf [mdE ow od os ot, mdE rw rd rs rt_] = 0 := by simpa using h35
    have mz := fo_zero m0
    have m1 := mz.1
    have m2 : mdE rw rd rs rt_ = 0 := (fo_last _).symm.trans mz.2
    have n1 := mdE_0 m1
    have n2 := mdE_0 m2
    refine wp_skip ?_
    refine n_then ?_
    refine wp_seq ?_
    refine wp_region_lit ?_
    refine s_one (.pointer (some ⟨g3, 0, none⟩)) A34 S29 (g_field (u := .pointer (some ⟨g3, 0, none⟩)) (by kernel_rfl) (fun _ => by kernel_rfl)) rfl (fun ac A44 => ?_)
    refine s_one (.agg #[.int .i64 ow, .int .i64 od, .int .i64 os, .int .i64 ot]) A44 S29 (g_load (g := g3) (off := 0) 2 (by kernel_rfl) rfl (by kernel_rfl)) rfl (fun ac A45 => ?_)
    refine s_one (.pointer (some ⟨g3, 8, none⟩)) A45 S29 (g_field (u := .pointer (some ⟨g3, 0, none⟩)) (by kernel_rfl) (fun _ => by kernel_rfl)) rfl (fun ac A46 => ?_)
    refine s_one (.agg #[.int .i64 fx, .int .i64 fz]) A46 S29 (g_load (g := g3) (off := 8) 2 (by kernel_rfl) rfl (by kernel_rfl)) rfl (fun ac A47 => ?_)
    refine s_one (.pointer (some ⟨g3, 10, none⟩)) A47 S29 (g_field (u := .pointer (some ⟨g3, 0, none⟩)) (by kernel_rfl) (fun _ => by kernel_rfl)) rfl (fun ac A48 => ?_)
    refine s_one (.agg #[.int .i64 ax, .int .i64 az]) A48 S29 (g_load (g := g3) (off := 10) 2 (by kernel_rfl) rfl (by kernel_rfl)) rfl (fun ac A49 => ?_)
    refine s_call (fs := #[]) (cp := #[]) (r := [(0, .agg #[.int .i64 ow, .int .i64 od, .int .i64 os, .int .i64 ot]), (0, .agg #[.int .i64 fx, .int .i64 fz]), (0, .agg #[.int .i64 ax, .int .i64 az])]) #[.agg #[.int .i64 ow, .int .i64 od, .int .i64 os, .int .i64 ot], .agg #[.int .i64 fx, .int .i64 fz], .agg #[.int .i64 ax, .int .i64 az]] (.tuple #[.agg #[.int .i64 (zv (wyE ot fx fz ax az) (fx)), .int .i64 (zv (wyE ot fx fz ax az) (-fz)), .int .i64 (zv (wyE ot fx fz ax az) (ow)), .int .i64 (zv (wyE ot fx fz ax az) (ax)), .int .i64 (zv (wyE ot fx fz ax az) (unf os ot az)), .int .i64 (zv (wyE ot fx fz ax az) (od))], .int .i64 (wyE ot fx fz ax az)]) A49 S29 (way_s ow od os ot fx fz ax az _ (by omega) (by omega)) Try.call95 (by kernel_rfl) (by kernel_rfl) (by kernel_rfl) rfl (fun ac wc A50 S51 => ?_)
    refine s_one (.tuple #[.agg #[.int .i64 (zv (wyE ot fx fz ax az) (fx)), .int .i64 (zv (wyE ot fx fz ax az) (-fz)), .int .i64 (zv (wyE ot fx fz ax az) (ow)), .int .i64 (zv (wyE ot fx fz ax az) (ax)), .int .i64 (zv (wyE ot fx fz ax az) (unf os ot az)), .int .i64 (zv (wyE ot fx fz ax az) (od))], .int .i64 (wyE ot fx fz ax az)]) A50 S51 (g_move (by kernel_rfl)) rfl (fun ac A53 => ?_)
    refine s_one (.agg #[.int .i64 (zv (wyE ot fx fz ax az) (fx)), .int .i64 (zv (wyE ot fx fz ax az) (-fz)), .int .i64 (zv (wyE ot fx fz ax az) (ow)), .int .i64 (zv (wyE ot fx fz ax az) (ax)), .int .i64 (zv (wyE ot fx fz ax az) (unf os ot az)), .int .i64 (zv (wyE ot fx fz ax az) (od))]) A53 S51 (g_extract (u := .tuple #[.agg #[.int .i64 (zv (wyE ot fx fz ax az) (fx)), .int .i64 (zv (wyE ot fx fz ax az) (-fz)), .int .i64 (zv (wyE ot fx fz ax az) (ow)), .int .i64 (zv (wyE ot fx fz ax az) (ax)), .int .i64 (zv (wyE ot fx fz ax az) (unf os ot az)), .int .i64 (zv (wyE ot fx fz ax az) (od))], .int .i64 (wyE ot fx fz ax az)]) (by kernel_rfl) (fun _ => by kernel_rfl)) rfl (fun ac A54 => ?_)
    refine s_one (.int .i64 (wyE ot fx fz ax az)) A54 S51 (g_extract (u := .tuple #[.agg #[.int .i64 (zv (wyE ot fx fz ax az) (fx)), .int .i64 (zv (wyE ot fx fz ax az) (-fz)), .int .i64 (zv (wyE ot fx fz ax az) (ow)), .int .i64 (zv (wyE ot fx fz ax az) (ax)), .int .i64 (zv (wyE ot fx fz ax az) (unf os ot az)), .int .i64 (zv (wyE ot fx fz ax az) (od))], .int .i64 (wyE ot fx fz ax az)]) (by kernel_rfl) (fun _ => by kernel_rfl)) rfl (fun ac A55 => ?_)
    refine s_alloc (#[.int .i64 0, .int .i64 0, .int .i64 0, .int .i64 0, .int .i64 0, .int .i64 0]) A55 S51 (by kernel_rfl) rfl (fun g58 ac wc A56 S57 => ?_)
    refine s_store (g := g58) (off := 0) (v := .agg #[.int .i64 (zv (wyE ot fx fz ax az) (fx)), .int .i64 (zv (wyE ot fx fz ax az) (-fz)), .int .i64 (zv (wyE ot fx fz ax az) (ow)), .int .i64 (zv (wyE ot fx fz ax az) (ax)), .int .i64 (zv (wyE ot fx fz ax az) (unf os ot az)), .int .i64 (zv (wyE ot fx fz ax az) (od))]) 0 (#[.int .i64 (zv (wyE ot fx fz ax az) (fx)), .int .i64 (zv (wyE ot fx fz ax az) (-fz)), .int .i64 (zv (wyE ot fx fz ax az) (ow)), .int .i64 (zv (wyE ot fx fz ax az) (ax)), .int .i64 (zv (wyE ot fx fz ax az) (unf os ot az)), .int .i64 (zv (wyE ot fx fz ax az) (od))]) A56 S57 (by kernel_rfl) (by kernel_rfl) rfl (by kernel_rfl) (fun wc S60 => ?_)
    refine s_one (.int .i64 (wyE ot fx fz ax az)) A56 S60 (g_assign (by kernel_rfl)) rfl (fun ac A62 => ?_)
    refine wpList_nil ?_
    refine n_then ?_
    refine wp_seq ?_
    refine wp_seq ?_
    refine wp_region_lit ?_
    refine s_one (.int .i64 (wyE ot fx fz ax az)) A62 S60 (g_move (by kernel_rfl)) rfl (fun ac A63 => ?_)
    refine s_one (.bool (decide (wyE ot fx fz ax az ≠ 0))) A63 S60 (g_bin (u := .int .i64 (wyE ot fx fz ax az)) (k := .int .i64 0) (by kernel_rfl) (by kernel_rfl) (fun _ => by kernel_rfl) b_neq) rfl (fun ac A64 => ?_)
    refine wpList_nil ?_
    refine n_then ?_
    refine c_ifb (b := (decide (wyE ot fx fz ax az ≠ 0))) A64 (by kernel_rfl) (fun h65 => ?_) (fun h65 => ?_)
    · have p66 := of_decide_eq_true h65
      have eE : ehE ow od os ot rw rd rs rt_ fx fz ax az tx tz = wyE ot fx fz ax az := (ehE_r2 m0).trans (fo_ne (of_decide_eq_true h65))
      have zn : ehE ow od os ot rw rd rs rt_ fx fz ax az tx tz ≠ 0 := eE ▸ (of_decide_eq_true h65)
      refine wp_seq ?_
      refine wp_region_lit ?_
      refine s_one (.agg #[.int .i64 0, .int .i64 0]) A64 S60 (g_build (r := []) (by kernel_rfl) (fun _ => by kernel_rfl)) rfl (fun ac A67 => ?_)
      refine s_one (.int .i64 (wyE ot fx fz ax az)) A67 S60 (g_move (by kernel_rfl)) rfl (fun ac A68 => ?_)
      refine s_store (g := g7) (off := 0) (v := .agg #[.int .i64 0, .int .i64 0]) 2 (#[.int .i64 0, .int .i64 0]) A68 S60 (by kernel_rfl) (by kernel_rfl) rfl (by kernel_rfl) (fun wc S70 => ?_)
      refine s_one (.int .i64 (wyE ot fx fz ax az)) A68 S70 (g_assign (by kernel_rfl)) rfl (fun ac A72 => ?_)
      refine wpList_nil ?_
      refine n_then ?_
      refine wp_ret ?_
      refine r_then ?_
      refine fin2 (.agg #[.int .i64 0, .int .i64 0]) (.int .i64 (wyE ot fx fz ax az)) Try.results42 A72 S70 (rv_cell (g := g7) (off := 0) 2 (by kernel_rfl) rfl (by kernel_rfl)) (rv_tmp (by kernel_rfl)) ⟨?_, S70.kp⟩
      simp only [zv_n zn]
      rw [eE]
    · have p73 := of_decide_eq_false h65
      have w1 : wyE ot fx fz ax az = 0 := by simpa using h65
      have ok1 := wyC_ok m1 w1
      refine wp_skip ?_
      refine n_then ?_
      refine wp_seq ?_
      refine wp_region_lit ?_
      refine s_one (.pointer (some ⟨g3, 4, none⟩)) A64 S60 (g_field (u := .pointer (some ⟨g3, 0, none⟩)) (by kernel_rfl) (fun _ => by kernel_rfl)) rfl (fun ac A74 => ?_)
      refine s_one (.agg #[.int .i64 rw, .int .i64 rd, .int .i64 rs, .int .i64 rt_]) A74 S60 (g_load (g := g3) (off := 4) 3 (by kernel_rfl) rfl (by kernel_rfl)) rfl (fun ac A75 => ?_)
      refine s_one (.pointer (some ⟨g3, 12, none⟩)) A75 S60 (g_field (u := .pointer (some ⟨g3, 0, none⟩)) (by kernel_rfl) (fun _ => by kernel_rfl)) rfl (fun ac A76 => ?_)
      refine s_one (.agg #[.int .i64 tx, .int .i64 tz]) A76 S60 (g_load (g := g3) (off := 12) 3 (by kernel_rfl) rfl (by kernel_rfl)) rfl (fun ac A77 => ?_)
      refine s_one (.pointer (some ⟨g3, 10, none⟩)) A77 S60 (g_field (u := .pointer (some ⟨g3, 0, none⟩)) (by kernel_rfl) (fun _ => by kernel_rfl)) rfl (fun ac A78 => ?_)
      refine s_one (.agg #[.int .i64 ax, .int .i64 az]) A78 S60 (g_load (g := g3) (off := 10) 3 (by kernel_rfl) rfl (by kernel_rfl)) rfl (fun ac A79 => ?_)
      refine s_call (fs := #[]) (cp := #[]) (r := [(0, .agg #[.int .i64 rw, .int .i64 rd, .int .i64 rs, .int .i64 rt_]), (0, .agg #[.int .i64 tx, .int .i64 tz]), (0, .agg #[.int .i64 ax, .int .i64 az])]) #[.agg #[.int .i64 rw, .int .i64 rd, .int .i64 rs, .int .i64 rt_], .agg #[.int .i64 tx, .int .i64 tz], .agg #[.int .i64 ax, .int .i64 az]] (.tuple #[.agg #[.int .i64 (zv (wyE rt_ tx tz ax az) (tx)), .int .i64 (zv (wyE rt_ tx tz ax az) (-tz)), .int .i64 (zv (wyE rt_ tx tz ax az) (rw)), .int .i64 (zv (wyE rt_ tx tz ax az) (ax)), .int .i64 (zv (wyE rt_ tx tz ax az) (unf rs rt_ az)), .int .i64 (zv (wyE rt_ tx tz ax az) (rd))], .int .i64 (wyE rt_ tx tz ax az)]) A79 S60 (way_s rw rd rs rt_ tx tz ax az _ (by omega) (by omega)) Try.call95 (by kernel_rfl) (by kernel_rfl) (by kernel_rfl) rfl (fun ac wc A80 S81 => ?_)
      refine s_one (.tuple #[.agg #[.int .i64 (zv (wyE rt_ tx tz ax az) (tx)), .int .i64 (zv (wyE rt_ tx tz ax az) (-tz)), .int .i64 (zv (wyE rt_ tx tz ax az) (rw)), .int .i64 (zv (wyE rt_ tx tz ax az) (ax)), .int .i64 (zv (wyE rt_ tx tz ax az) (unf rs rt_ az)), .int .i64 (zv (wyE rt_ tx tz ax az) (rd))], .int .i64 (wyE rt_ tx tz ax az)]) A80 S81 (g_move (by kernel_rfl)) rfl (fun ac A83 => ?_)
      refine s_one (.agg #[.int .i64 (zv (wyE rt_ tx tz ax az) (tx)), .int .i64 (zv (wyE rt_ tx tz ax az) (-tz)), .int .i64 (zv (wyE rt_ tx tz ax az) (rw)), .int .i64 (zv (wyE rt_ tx tz ax az) (ax)), .int .i64 (zv (wyE rt_ tx tz ax az) (unf rs rt_ az)), .int .i64 (zv (wyE rt_ tx tz ax az) (rd))]) A83 S81 (g_extract (u := .tuple #[.agg #[.int .i64 (zv (wyE rt_ tx tz ax az) (tx)), .int .i64 (zv (wyE rt_ tx tz ax az) (-tz)), .int .i64 (zv (wyE rt_ tx tz ax az) (rw)), .int .i64 (zv (wyE rt_ tx tz ax az) (ax)), .int .i64 (zv (wyE rt_ tx tz ax az) (unf rs rt_ az)), .int .i64 (zv (wyE rt_ tx tz ax az) (rd))], .int .i64 (wyE rt_ tx tz ax az)]) (by kernel_rfl) (fun _ => by kernel_rfl)) rfl (fun ac A84 => ?_)
      refine s_one (.int .i64 (wyE rt_ tx tz ax az)) A84 S81 (g_extract (u := .tuple #[.agg #[.int .i64 (zv (wyE rt_ tx tz ax az) (tx)), .int .i64 (zv (wyE rt_ tx tz ax az) (-tz)), .int .i64 (zv (wyE rt_ tx tz ax az) (rw)), .int .i64 (zv (wyE rt_ tx tz ax az) (ax)), .int .i64 (zv (wyE rt_ tx tz ax az) (unf rs rt_ az)), .int .i64 (zv (wyE rt_ tx tz ax az) (rd))], .int .i64 (wyE rt_ tx tz ax az)]) (by kernel_rfl) (fun _ => by kernel_rfl)) rfl (fun ac A85 => ?_)
      refine s_alloc (#[.int .i64 0, .int .i64 0, .int .i64 0, .int .i64 0, .int .i64 0, .int .i64 0]) A85 S81 (by kernel_rfl) rfl (fun g88 ac wc A86 S87 => ?_)
      refine s_store (g := g88) (off := 0) (v := .agg #[.int .i64 (zv (wyE rt_ tx tz ax az) (tx)), .int .i64 (zv (wyE rt_ tx tz ax az) (-tz)), .int .i64 (zv (wyE rt_ tx tz ax az) (rw)), .int .i64 (zv (wyE rt_ tx tz ax az) (ax)), .int .i64 (zv (wyE rt_ tx tz ax az) (unf rs rt_ az)), .int .i64 (zv (wyE rt_ tx tz ax az) (rd))]) 0 (#[.int .i64 (zv (wyE rt_ tx tz ax az) (tx)), .int .i64 (zv (wyE rt_ tx tz ax az) (-tz)), .int .i64 (zv (wyE rt_ tx tz ax az) (rw)), .int .i64 (zv (wyE rt_ tx tz ax az) (ax)), .int .i64 (zv (wyE rt_ tx tz ax az) (unf rs rt_ az)), .int .i64 (zv (wyE rt_ tx tz ax az) (rd))]) A86 S87 (by kernel_rfl) (by kernel_rfl) rfl (by kernel_rfl) (fun wc S90 => ?_)
      refine s_one (.int .i64 (wyE rt_ tx tz ax az)) A86 S90 (g_assign (by kernel_rfl)) rfl (fun ac A92 => ?_)
      refine wpList_nil ?_
      refine n_then ?_
      refine wp_seq ?_
      refine wp_seq ?_
      refine wp_region_lit ?_
      refine s_one (.int .i64 (wyE rt_ tx tz ax az)) A92 S90 (g_move (by kernel_rfl)) rfl (fun ac A93 => ?_)
      refine s_one (.bool (decide (wyE rt_ tx tz ax az ≠ 0))) A93 S90 (g_bin (u := .int .i64 (wyE rt_ tx tz ax az)) (k := .int .i64 0) (by kernel_rfl) (by kernel_rfl) (fun _ => by kernel_rfl) b_neq) rfl (fun ac A94 => ?_)
      refine wpList_nil ?_
      refine n_then ?_
      refine c_ifb (b := (decide (wyE rt_ tx tz ax az ≠ 0))) A94 (by kernel_rfl) (fun h95 => ?_) (fun h95 => ?_)
      · have p96 := of_decide_eq_true h95
        have eE : ehE ow od os ot rw rd rs rt_ fx fz ax az tx tz = wyE rt_ tx tz ax az := (ehE_r2 m0).trans ((fo_cons0 w1).trans (fo_last _))
        have zn : ehE ow od os ot rw rd rs rt_ fx fz ax az tx tz ≠ 0 := eE ▸ (of_decide_eq_true h95)
        refine wp_seq ?_
        refine wp_region_lit ?_
        refine s_one (.agg #[.int .i64 0, .int .i64 0]) A94 S90 (g_build (r := []) (by kernel_rfl) (fun _ => by kernel_rfl)) rfl (fun ac A97 => ?_)
        refine s_one (.int .i64 (wyE rt_ tx tz ax az)) A97 S90 (g_move (by kernel_rfl)) rfl (fun ac A98 => ?_)
        refine s_store (g := g7) (off := 0) (v := .agg #[.int .i64 0, .int .i64 0]) 3 (#[.int .i64 0, .int .i64 0]) A98 S90 (by kernel_rfl) (by kernel_rfl) rfl (by kernel_rfl) (fun wc S100 => ?_)
        refine s_one (.int .i64 (wyE rt_ tx tz ax az)) A98 S100 (g_assign (by kernel_rfl)) rfl (fun ac A102 => ?_)
        refine wpList_nil ?_
        refine n_then ?_
        refine wp_ret ?_
        refine r_then ?_
        refine fin2 (.agg #[.int .i64 0, .int .i64 0]) (.int .i64 (wyE rt_ tx tz ax az)) Try.results42 A102 S100 (rv_cell (g := g7) (off := 0) 3 (by kernel_rfl) rfl (by kernel_rfl)) (rv_tmp (by kernel_rfl)) ⟨?_, S100.kp⟩
        simp only [zv_n zn]
        rw [eE]
      · have p103 := of_decide_eq_false h95
        have w2 : wyE rt_ tx tz ax az = 0 := by simpa using h95
        have ok2 := wyC_ok m2 w2
        have ze := ehE_of m1 m2 w1 w2
        have AZ1 := A94
        simp only [zv_0 w1] at AZ1
        have SZ1 := S90
        simp only [zv_0 w1] at SZ1
        have AZ2 := AZ1
        simp only [zv_0 w2] at AZ2
        have SZ2 := SZ1
        simp only [zv_0 w2] at SZ2
        refine wp_skip ?_
        refine n_then ?_
        refine wp_seq ?_
        refine r_begin (w0 := w0) (by kernel_rfl) (SZ2.sub (sub_keep (sub_keep (sub_keep (sub_skip sub_all)))) sub_all) (fun wc T104 B105 => ?_)
        have S106 := SZ2.kept B105
        refine r_take 0 (.agg #[.int .i64 fx, .int .i64 (-fz), .int .i64 ow, .int .i64 ax, .int .i64 (unf os ot az), .int .i64 od]) AZ2 T104 (g_load (g := g58) (off := 0) 1 (by kernel_rfl) rfl (by kernel_rfl)) rfl rfl rfl (pf_then pf_body) (by kernel_rfl) (fun ac A107 => ?_)
        refine r_take 2 (.agg #[.int .i64 tx, .int .i64 (-tz), .int .i64 rw, .int .i64 ax, .int .i64 (unf rs rt_ az), .int .i64 rd]) A107 T104 (g_load (g := g88) (off := 0) 0 (by kernel_rfl) rfl (by kernel_rfl)) rfl rfl rfl (pf_then pf_body) (by kernel_rfl) (fun ac A108 => ?_)
        refine r_1 (i := 1) (by kernel_rfl) ?_
        have q113 := le_bd (c := ⟨fx, -fz, ow, ax, unf os ot az, od⟩) ok1
        refine rs_call (fs := #[]) (cp := #[]) (r := [(0, .agg #[.int .i64 fx, .int .i64 (-fz), .int .i64 ow, .int .i64 ax, .int .i64 (unf os ot az), .int .i64 od])]) #[.agg #[.int .i64 fx, .int .i64 (-fz), .int .i64 ow, .int .i64 ax, .int .i64 (unf os ot az), .int .i64 od]] (.agg #[.int .i64 (leLo ⟨fx, -fz, ow, ax, unf os ot az, od⟩), .int .i64 (mHi ⟨fx, -fz, ow, ax, unf os ot az, od⟩)]) A108 S106 (sub_keep (sub_keep (sub_keep (sub_skip sub_all)))) sub_all (least_s ⟨fx, -fz, ow, ax, unf os ot az, od⟩ _ ok1) Try.call78 rfl rfl (by kernel_rfl) (by kernel_rfl) (by kernel_rfl) rfl (fun ac wc A109 S110 => ?_)
        have T112 := S110.sub (sub_keep (sub_keep (sub_keep (sub_skip sub_all)))) sub_all
        refine r_1 (i := 3) (by kernel_rfl) ?_
        have q118 := le_bd (c := ⟨tx, -tz, rw, ax, unf rs rt_ az, rd⟩) ok2
        refine rs_call (fs := #[]) (cp := #[]) (r := [(0, .agg #[.int .i64 tx, .int .i64 (-tz), .int .i64 rw, .int .i64 ax, .int .i64 (unf rs rt_ az), .int .i64 rd])]) #[.agg #[.int .i64 tx, .int .i64 (-tz), .int .i64 rw, .int .i64 ax, .int .i64 (unf rs rt_ az), .int .i64 rd]] (.agg #[.int .i64 (leLo ⟨tx, -tz, rw, ax, unf rs rt_ az, rd⟩), .int .i64 (mHi ⟨tx, -tz, rw, ax, unf rs rt_ az, rd⟩)]) A109 S110 (sub_keep (sub_keep (sub_keep (sub_skip sub_all)))) sub_all (least_s ⟨tx, -tz, rw, ax, unf rs rt_ az, rd⟩ _ ok2) Try.call78 rfl rfl (by kernel_rfl) (by kernel_rfl) (by kernel_rfl) rfl (fun ac wc A114 S115 => ?_)
        have T117 := S115.sub (sub_keep (sub_keep (sub_keep (sub_skip sub_all)))) sub_all
        refine r_1 (i := 4) (by kernel_rfl) ?_
        refine rs_call (fs := #[]) (cp := #[]) (r := [(0, .agg #[.int .i64 (leLo ⟨fx, -fz, ow, ax, unf os ot az, od⟩), .int .i64 (mHi ⟨fx, -fz, ow, ax, unf os ot az, od⟩)]), (0, .agg #[.int .i64 (leLo ⟨tx, -tz, rw, ax, unf rs rt_ az, rd⟩), .int .i64 (mHi ⟨tx, -tz, rw, ax, unf rs rt_ az, rd⟩)])]) #[.agg #[.int .i64 (leLo ⟨fx, -fz, ow, ax, unf os ot az, od⟩), .int .i64 (mHi ⟨fx, -fz, ow, ax, unf os ot az, od⟩)], .agg #[.int .i64 (leLo ⟨tx, -tz, rw, ax, unf rs rt_ az, rd⟩), .int .i64 (mHi ⟨tx, -tz, rw, ax, unf rs rt_ az, rd⟩)]] (.agg #[.int .i64 (leLo ⟨fx, -fz, ow, ax, unf os ot az, od⟩ + (leLo ⟨tx, -tz, rw, ax, unf rs rt_ az, rd⟩)), .int .i64 (mHi ⟨fx, -fz, ow, ax, unf os ot az, od⟩ + (mHi ⟨tx, -tz, rw, ax, unf rs rt_ az, rd⟩))]) A114 S115 (sub_keep (sub_keep (sub_keep (sub_skip sub_all)))) sub_all (plus_s (leLo ⟨fx, -fz, ow, ax, unf os ot az, od⟩) (mHi ⟨fx, -fz, ow, ax, unf os ot az, od⟩) (leLo ⟨tx, -tz, rw, ax, unf rs rt_ az, rd⟩) (mHi ⟨tx, -tz, rw, ax, unf rs rt_ az, rd⟩) _ (by omega) (by omega) (by omega) (by omega) (by omega) (by omega) (by omega) (by omega)) Try.call96 rfl rfl (by kernel_rfl) (by kernel_rfl) (by kernel_rfl) rfl (fun ac wc A119 S120 => ?_)
        have T122 := S120.sub (sub_keep (sub_keep (sub_keep (sub_skip sub_all)))) sub_all
        refine r_1 (i := 5) (by kernel_rfl) ?_
        refine rs_store (g := g7) (off := 0) (v := .agg #[.int .i64 (leLo ⟨fx, -fz, ow, ax, unf os ot az, od⟩ + (leLo ⟨tx, -tz, rw, ax, unf rs rt_ az, rd⟩)), .int .i64 (mHi ⟨fx, -fz, ow, ax, unf os ot az, od⟩ + (mHi ⟨tx, -tz, rw, ax, unf rs rt_ az, rd⟩))]) 3 (#[.int .i64 (leLo ⟨fx, -fz, ow, ax, unf os ot az, od⟩ + (leLo ⟨tx, -tz, rw, ax, unf rs rt_ az, rd⟩)), .int .i64 (mHi ⟨fx, -fz, ow, ax, unf os ot az, od⟩ + (mHi ⟨tx, -tz, rw, ax, unf rs rt_ az, rd⟩))]) A119 S120 (sub_keep (sub_keep (sub_keep (sub_skip sub_all)))) sub_all (by kernel_rfl) (by kernel_rfl) rfl (by kernel_rfl) rfl rfl (fun wc S124 => ?_)
        have T126 := S124.sub (sub_keep (sub_keep (sub_keep (sub_skip sub_all)))) sub_all
        refine r_take 6 (.int .i64 0) A119 T126 (g_assign (by kernel_rfl)) rfl rfl rfl (pf_then pf_body) (by kernel_rfl) (fun ac A127 => ?_)
        refine r_done (by kernel_rfl) ?_
        refine n_then ?_
        refine wp_ret ?_
        refine fin2 (.agg #[.int .i64 (leLo ⟨fx, -fz, ow, ax, unf os ot az, od⟩ + (leLo ⟨tx, -tz, rw, ax, unf rs rt_ az, rd⟩)), .int .i64 (mHi ⟨fx, -fz, ow, ax, unf os ot az, od⟩ + (mHi ⟨tx, -tz, rw, ax, unf rs rt_ az, rd⟩))]) (.int .i64 0) Try.results42 A127 S124 (rv_cell (g := g7) (off := 0) 3 (by kernel_rfl) rfl (by kernel_rfl)) (rv_tmp (by kernel_rfl)) ⟨?_, S124.kp⟩
        simp only [zv_0 ze]
        rw [ze]
        rfl

set_option maxRecDepth 100000 in
set_option maxHeartbeats 400000 in
theorem refEchoErr_s (ow od os ot rw rd rs rt_ fx fz ax az tx tz : Int) (w0 : World) :
    Calls Try.prog 43 #[.agg #[.int .i64 ow, .int .i64 od, .int .i64 os, .int .i64 ot, .int .i64 rw, .int .i64 rd, .int .i64 rs, .int .i64 rt_, .int .i64 fx, .int .i64 fz, .int .i64 ax, .int .i64 az, .int .i64 tx, .int .i64 tz]] w0 fun e w' => e = .returned (.int .i64 (ehE ow od os ot rw rd rs rt_ fx fz ax az tx tz)) ∧ Below w0.heap.size w0 w' := by
  have S0 := St.start w0
  refine enter (n := 31) Try.func43 rfl rfl rfl (fun ac A0 => ?_)
  refine wp_seq ?_
  refine wp_region_lit ?_
  refine s_box (.agg #[.int .i64 ow, .int .i64 od, .int .i64 os, .int .i64 ot, .int .i64 rw, .int .i64 rd, .int .i64 rs, .int .i64 rt_, .int .i64 fx, .int .i64 fz, .int .i64 ax, .int .i64 az, .int .i64 tx, .int .i64 tz]) A0 S0 (by kernel_rfl) rfl (fun g3 ac wc A1 S2 => ?_)
  replace S2 : St _ (⟨g3, 66, #[.int .i64 ow, .int .i64 od, .int .i64 os, .int .i64 ot, .int .i64 rw, .int .i64 rd, .int .i64 rs, .int .i64 rt_, .int .i64 fx, .int .i64 fz, .int .i64 ax, .int .i64 az, .int .i64 tx, .int .i64 tz], true⟩ :: _) _ _ := S2
  refine s_one (.int .i64 0) A1 S2 (g_assign (by kernel_rfl)) rfl (fun ac A5 => ?_)
  refine wpList_nil ?_
  refine n_then ?_
  refine wp_seq ?_
  refine wp_seq ?_
  refine r_begin (w0 := w0) (by kernel_rfl) (S2.sub sub_all sub_all) (fun wc T6 B7 => ?_)
  have S8 := S2.kept B7
  refine r_take 0 (.pointer (some ⟨g3, 0, none⟩)) A5 T6 (g_field (u := .pointer (some ⟨g3, 0, none⟩)) (by kernel_rfl) (fun _ => by kernel_rfl)) rfl rfl rfl (pf_then (pf_then pf_body)) (by kernel_rfl) (fun ac A9 => ?_)
  refine r_take 1 (.agg #[.int .i64 ow, .int .i64 od, .int .i64 os, .int .i64 ot]) A9 T6 (g_load (g := g3) (off := 0) 0 (by kernel_rfl) rfl (by kernel_rfl)) rfl rfl rfl (pf_then (pf_then pf_body)) (by kernel_rfl) (fun ac A10 => ?_)
  refine r_take 3 (.pointer (some ⟨g3, 4, none⟩)) A10 T6 (g_field (u := .pointer (some ⟨g3, 0, none⟩)) (by kernel_rfl) (fun _ => by kernel_rfl)) rfl rfl rfl (pf_then (pf_then pf_body)) (by kernel_rfl) (fun ac A11 => ?_)
  refine r_take 4 (.agg #[.int .i64 rw, .int .i64 rd, .int .i64 rs, .int .i64 rt_]) A11 T6 (g_load (g := g3) (off := 4) 0 (by kernel_rfl) rfl (by kernel_rfl)) rfl rfl rfl (pf_then (pf_then pf_body)) (by kernel_rfl) (fun ac A12 => ?_)
  refine r_1 (i := 2) (by kernel_rfl) ?_
  refine rs_call (fs := #[]) (cp := #[]) (r := [(0, .agg #[.int .i64 ow, .int .i64 od, .int .i64 os, .int .i64 ot])]) #[.agg #[.int .i64 ow, .int .i64 od, .int .i64 os, .int .i64 ot]] (.int .i64 (mdE ow od os ot)) A12 S8 sub_all sub_all (refCheckMode_s ow od os ot _) Try.call31 rfl rfl (by kernel_rfl) (by kernel_rfl) (by kernel_rfl) rfl (fun ac wc A13 S14 => ?_)
  have T16 := S14.sub sub_all sub_all
  refine r_1 (i := 5) (by kernel_rfl) ?_
  refine rs_call (fs := #[]) (cp := #[]) (r := [(0, .agg #[.int .i64 rw, .int .i64 rd, .int .i64 rs, .int .i64 rt_])]) #[.agg #[.int .i64 rw, .int .i64 rd, .int .i64 rs, .int .i64 rt_]] (.int .i64 (mdE rw rd rs rt_)) A13 S14 sub_all sub_all (refCheckMode_s rw rd rs rt_ _) Try.call31 rfl rfl (by kernel_rfl) (by kernel_rfl) (by kernel_rfl) rfl (fun ac wc A17 S18 => ?_)
  have T20 := S18.sub sub_all sub_all
  refine r_1 (i := 6) (by kernel_rfl) ?_
  refine rs_bs (e := 3) (r := [(0, .int .i64 (mdE ow od os ot)), (1, .int .i64 (mdE rw rd rs rt_))]) (#[.int .i64 (mdE ow od os ot), .int .i64 (mdE rw rd rs rt_)]) A17 S18 sub_all sub_all (by kernel_rfl) (by kernel_rfl) rfl rfl rfl (fun g23 ac wc A21 S22 => ?_)
  have T24 := S22.sub (sub_skip sub_all) sub_all
  refine r_1 (i := 7) (by kernel_rfl) ?_
  refine rs_call (fs := #[]) (cp := #[]) (r := [(0, .slice (some ⟨g23, 0, none⟩) 2 2)]) #[.slice (some ⟨g23, 0, none⟩) 2 2] (.int .i64 (firstOf [mdE ow od os ot, mdE rw rd rs rt_])) A21 S22 (sub_skip sub_all) sub_all (firstOf_s g23 ([mdE ow od os ot, mdE rw rd rs rt_]) 2 2 _ (S22.get 0 rfl) rfl (by omega)) Try.call79 rfl rfl (by kernel_rfl) (by kernel_rfl) (by kernel_rfl) rfl (fun ac wc A25 S26 => ?_)
  have T28 := S26.sub (sub_skip sub_all) sub_all
  refine r_take 8 (.int .i64 (firstOf [mdE ow od os ot, mdE rw rd rs rt_])) A25 T28 (g_assign (by kernel_rfl)) rfl rfl rfl (pf_then (pf_then pf_body)) (by kernel_rfl) (fun ac A29 => ?_)
  refine r_done (by kernel_rfl) ?_
  refine n_then ?_
  refine wp_seq ?_
  refine wp_region_lit ?_
  refine s_one (.int .i64 (firstOf [mdE ow od os ot, mdE rw rd rs rt_])) A29 S26 (g_move (by kernel_rfl)) rfl (fun ac A30 => ?_)
  refine s_one (.bool (decide (firstOf [mdE ow od os ot, mdE rw rd rs rt_] ≠ 0))) A30 S26 (g_bin (u := .int .i64 (firstOf [mdE ow od os ot, mdE rw rd rs rt_])) (k := .int .i64 0) (by kernel_rfl) (by kernel_rfl) (fun _ => by kernel_rfl) b_neq) rfl (fun ac A31 => ?_)
  refine wpList_nil ?_
  refine n_then ?_
  refine c_ifb (b := (decide (firstOf [mdE ow od os ot, mdE rw rd rs rt_] ≠ 0))) A31 (by kernel_rfl) (fun h32 => ?_) (fun h32 => ?_)
  · have p33 := of_decide_eq_true h32
    refine wp_seq ?_
    refine wp_region_lit ?_
    refine s_one (.int .i64 (firstOf [mdE ow od os ot, mdE rw rd rs rt_])) A31 S26 (g_move (by kernel_rfl)) rfl (fun ac A34 => ?_)
    refine s_one (.int .i64 (firstOf [mdE ow od os ot, mdE rw rd rs rt_])) A34 S26 (g_assign (by kernel_rfl)) rfl (fun ac A35 => ?_)
    refine wpList_nil ?_
    refine n_then ?_
    refine wp_ret ?_
    refine r_then ?_
    refine fin1 (.int .i64 (firstOf [mdE ow od os ot, mdE rw rd rs rt_])) Try.results43 A35 S26 (rv_tmp (by kernel_rfl)) ⟨?_, S26.kp⟩
    rw [ehE_r1 p33]
  · have p36 := of_decide_eq_false h32
    have m0 : firstOf [mdE ow od os ot, mdE rw rd rs rt_] = 0 := by simpa using h32
    have mz := fo_zero m0
    have m1 := mz.1
    have m2 : mdE rw rd rs rt_ = 0 := (fo_last _).symm.trans mz.2
    have n1 := mdE_0 m1
    have n2 := mdE_0 m2
    refine wp_skip ?_
    refine n_then ?_
    refine wp_seq ?_
    refine r_begin (w0 := w0) (by kernel_rfl) (S26.sub sub_all sub_all) (fun wc T37 B38 => ?_)
    have S39 := S26.kept B38
    refine r_take 0 (.pointer (some ⟨g3, 0, none⟩)) A31 T37 (g_field (u := .pointer (some ⟨g3, 0, none⟩)) (by kernel_rfl) (fun _ => by kernel_rfl)) rfl rfl rfl (pf_then pf_body) (by kernel_rfl) (fun ac A40 => ?_)
    refine r_take 1 (.agg #[.int .i64 ow, .int .i64 od, .int .i64 os, .int .i64 ot]) A40 T37 (g_load (g := g3) (off := 0) 1 (by kernel_rfl) rfl (by kernel_rfl)) rfl rfl rfl (pf_then pf_body) (by kernel_rfl) (fun ac A41 => ?_)
    refine r_take 2 (.pointer (some ⟨g3, 8, none⟩)) A41 T37 (g_field (u := .pointer (some ⟨g3, 0, none⟩)) (by kernel_rfl) (fun _ => by kernel_rfl)) rfl rfl rfl (pf_then pf_body) (by kernel_rfl) (fun ac A42 => ?_)
    refine r_take 3 (.agg #[.int .i64 fx, .int .i64 fz]) A42 T37 (g_load (g := g3) (off := 8) 1 (by kernel_rfl) rfl (by kernel_rfl)) rfl rfl rfl (pf_then pf_body) (by kernel_rfl) (fun ac A43 => ?_)
    refine r_take 4 (.pointer (some ⟨g3, 10, none⟩)) A43 T37 (g_field (u := .pointer (some ⟨g3, 0, none⟩)) (by kernel_rfl) (fun _ => by kernel_rfl)) rfl rfl rfl (pf_then pf_body) (by kernel_rfl) (fun ac A44 => ?_)
    refine r_take 5 (.agg #[.int .i64 ax, .int .i64 az]) A44 T37 (g_load (g := g3) (off := 10) 1 (by kernel_rfl) rfl (by kernel_rfl)) rfl rfl rfl (pf_then pf_body) (by kernel_rfl) (fun ac A45 => ?_)
    refine r_take 7 (.pointer (some ⟨g3, 4, none⟩)) A45 T37 (g_field (u := .pointer (some ⟨g3, 0, none⟩)) (by kernel_rfl) (fun _ => by kernel_rfl)) rfl rfl rfl (pf_then pf_body) (by kernel_rfl) (fun ac A46 => ?_)
    refine r_take 8 (.agg #[.int .i64 rw, .int .i64 rd, .int .i64 rs, .int .i64 rt_]) A46 T37 (g_load (g := g3) (off := 4) 1 (by kernel_rfl) rfl (by kernel_rfl)) rfl rfl rfl (pf_then pf_body) (by kernel_rfl) (fun ac A47 => ?_)
    refine r_take 9 (.pointer (some ⟨g3, 12, none⟩)) A47 T37 (g_field (u := .pointer (some ⟨g3, 0, none⟩)) (by kernel_rfl) (fun _ => by kernel_rfl)) rfl rfl rfl (pf_then pf_body) (by kernel_rfl) (fun ac A48 => ?_)
    refine r_take 10 (.agg #[.int .i64 tx, .int .i64 tz]) A48 T37 (g_load (g := g3) (off := 12) 1 (by kernel_rfl) rfl (by kernel_rfl)) rfl rfl rfl (pf_then pf_body) (by kernel_rfl) (fun ac A49 => ?_)
    refine r_take 11 (.pointer (some ⟨g3, 10, none⟩)) A49 T37 (g_field (u := .pointer (some ⟨g3, 0, none⟩)) (by kernel_rfl) (fun _ => by kernel_rfl)) rfl rfl rfl (pf_then pf_body) (by kernel_rfl) (fun ac A50 => ?_)
    refine r_take 12 (.agg #[.int .i64 ax, .int .i64 az]) A50 T37 (g_load (g := g3) (off := 10) 1 (by kernel_rfl) rfl (by kernel_rfl)) rfl rfl rfl (pf_then pf_body) (by kernel_rfl) (fun ac A51 => ?_)
    refine r_1 (i := 6) (by kernel_rfl) ?_
    refine rs_call (fs := #[]) (cp := #[]) (r := [(0, .agg #[.int .i64 ow, .int .i64 od, .int .i64 os, .int .i64 ot]), (0, .agg #[.int .i64 fx, .int .i64 fz]), (0, .agg #[.int .i64 ax, .int .i64 az])]) #[.agg #[.int .i64 ow, .int .i64 od, .int .i64 os, .int .i64 ot], .agg #[.int .i64 fx, .int .i64 fz], .agg #[.int .i64 ax, .int .i64 az]] (.int .i64 (wyE ot fx fz ax az)) A51 S39 sub_all sub_all (refWayErr_s ow od os ot fx fz ax az _ (by omega)) Try.call97 rfl rfl (by kernel_rfl) (by kernel_rfl) (by kernel_rfl) rfl (fun ac wc A52 S53 => ?_)
    have T55 := S53.sub sub_all sub_all
    refine r_1 (i := 13) (by kernel_rfl) ?_
    refine rs_call (fs := #[]) (cp := #[]) (r := [(0, .agg #[.int .i64 rw, .int .i64 rd, .int .i64 rs, .int .i64 rt_]), (0, .agg #[.int .i64 tx, .int .i64 tz]), (0, .agg #[.int .i64 ax, .int .i64 az])]) #[.agg #[.int .i64 rw, .int .i64 rd, .int .i64 rs, .int .i64 rt_], .agg #[.int .i64 tx, .int .i64 tz], .agg #[.int .i64 ax, .int .i64 az]] (.int .i64 (wyE rt_ tx tz ax az)) A52 S53 sub_all sub_all (refWayErr_s rw rd rs rt_ tx tz ax az _ (by omega)) Try.call97 rfl rfl (by kernel_rfl) (by kernel_rfl) (by kernel_rfl) rfl (fun ac wc A56 S57 => ?_)
    have T59 := S57.sub sub_all sub_all
    refine r_1 (i := 14) (by kernel_rfl) ?_
    refine rs_bs (e := 3) (r := [(0, .int .i64 (wyE ot fx fz ax az)), (1, .int .i64 (wyE rt_ tx tz ax az))]) (#[.int .i64 (wyE ot fx fz ax az), .int .i64 (wyE rt_ tx tz ax az)]) A56 S57 sub_all sub_all (by kernel_rfl) (by kernel_rfl) rfl rfl rfl (fun g62 ac wc A60 S61 => ?_)
    have T63 := S61.sub (sub_skip sub_all) sub_all
    refine r_1 (i := 15) (by kernel_rfl) ?_
    refine rs_call (fs := #[]) (cp := #[]) (r := [(0, .slice (some ⟨g62, 0, none⟩) 2 2)]) #[.slice (some ⟨g62, 0, none⟩) 2 2] (.int .i64 (firstOf [wyE ot fx fz ax az, wyE rt_ tx tz ax az])) A60 S61 (sub_skip sub_all) sub_all (firstOf_s g62 ([wyE ot fx fz ax az, wyE rt_ tx tz ax az]) 2 2 _ (S61.get 0 rfl) rfl (by omega)) Try.call79 rfl rfl (by kernel_rfl) (by kernel_rfl) (by kernel_rfl) rfl (fun ac wc A64 S65 => ?_)
    have T67 := S65.sub (sub_skip sub_all) sub_all
    refine r_take 16 (.int .i64 (firstOf [wyE ot fx fz ax az, wyE rt_ tx tz ax az])) A64 T67 (g_assign (by kernel_rfl)) rfl rfl rfl (pf_then pf_body) (by kernel_rfl) (fun ac A68 => ?_)
    refine r_done (by kernel_rfl) ?_
    refine n_then ?_
    refine wp_ret ?_
    refine fin1 (.int .i64 (firstOf [wyE ot fx fz ax az, wyE rt_ tx tz ax az])) Try.results43 A68 S65 (rv_tmp (by kernel_rfl)) ⟨?_, S65.kp⟩
    rw [ehE_r2 m0]

set_option maxRecDepth 100000 in
set_option maxHeartbeats 400000 in
theorem refEchoTime_s (ow od os ot rw rd rs rt_ fx fz ax az tx tz : Int) (w0 : World) (h : ehE ow od os ot rw rd rs rt_ fx fz ax az tx tz = 0) :
    Calls Try.prog 44 #[.agg #[.int .i64 ow, .int .i64 od, .int .i64 os, .int .i64 ot, .int .i64 rw, .int .i64 rd, .int .i64 rs, .int .i64 rt_, .int .i64 fx, .int .i64 fz, .int .i64 ax, .int .i64 az, .int .i64 tx, .int .i64 tz]] w0 fun e w' => e = .returned (.agg #[.int .i64 (leLo (wyC ow od os ot fx fz ax az) + leLo (wyC rw rd rs rt_ tx tz ax az)), .int .i64 (mHi (wyC ow od os ot fx fz ax az) + mHi (wyC rw rd rs rt_ tx tz ax az))]) ∧ Below w0.heap.size w0 w' := by
  have S0 := St.start w0
  have ez := ehE_0 h
  refine enter (n := 30) Try.func44 rfl rfl rfl (fun ac A0 => ?_)
  refine wp_seq ?_
  refine wp_region_lit ?_
  refine s_box (.agg #[.int .i64 ow, .int .i64 od, .int .i64 os, .int .i64 ot, .int .i64 rw, .int .i64 rd, .int .i64 rs, .int .i64 rt_, .int .i64 fx, .int .i64 fz, .int .i64 ax, .int .i64 az, .int .i64 tx, .int .i64 tz]) A0 S0 (by kernel_rfl) rfl (fun g3 ac wc A1 S2 => ?_)
  replace S2 : St _ (⟨g3, 66, #[.int .i64 ow, .int .i64 od, .int .i64 os, .int .i64 ot, .int .i64 rw, .int .i64 rd, .int .i64 rs, .int .i64 rt_, .int .i64 fx, .int .i64 fz, .int .i64 ax, .int .i64 az, .int .i64 tx, .int .i64 tz], true⟩ :: _) _ _ := S2
  refine s_alloc (#[.int .i64 0, .int .i64 0]) A1 S2 (by kernel_rfl) rfl (fun g7 ac wc A5 S6 => ?_)
  refine wpList_nil ?_
  refine n_then ?_
  refine wp_seq ?_
  refine r_begin (w0 := w0) (by kernel_rfl) (S6.sub sub_all sub_all) (fun wc T8 B9 => ?_)
  have S10 := S6.kept B9
  refine r_take 0 (.pointer (some ⟨g3, 0, none⟩)) A5 T8 (g_field (u := .pointer (some ⟨g3, 0, none⟩)) (by kernel_rfl) (fun _ => by kernel_rfl)) rfl rfl rfl (pf_then pf_body) (by kernel_rfl) (fun ac A11 => ?_)
  refine r_take 1 (.agg #[.int .i64 ow, .int .i64 od, .int .i64 os, .int .i64 ot]) A11 T8 (g_load (g := g3) (off := 0) 1 (by kernel_rfl) rfl (by kernel_rfl)) rfl rfl rfl (pf_then pf_body) (by kernel_rfl) (fun ac A12 => ?_)
  refine r_take 2 (.pointer (some ⟨g3, 8, none⟩)) A12 T8 (g_field (u := .pointer (some ⟨g3, 0, none⟩)) (by kernel_rfl) (fun _ => by kernel_rfl)) rfl rfl rfl (pf_then pf_body) (by kernel_rfl) (fun ac A13 => ?_)
  refine r_take 3 (.agg #[.int .i64 fx, .int .i64 fz]) A13 T8 (g_load (g := g3) (off := 8) 1 (by kernel_rfl) rfl (by kernel_rfl)) rfl rfl rfl (pf_then pf_body) (by kernel_rfl) (fun ac A14 => ?_)
  refine r_take 4 (.pointer (some ⟨g3, 10, none⟩)) A14 T8 (g_field (u := .pointer (some ⟨g3, 0, none⟩)) (by kernel_rfl) (fun _ => by kernel_rfl)) rfl rfl rfl (pf_then pf_body) (by kernel_rfl) (fun ac A15 => ?_)
  refine r_take 5 (.agg #[.int .i64 ax, .int .i64 az]) A15 T8 (g_load (g := g3) (off := 10) 1 (by kernel_rfl) rfl (by kernel_rfl)) rfl rfl rfl (pf_then pf_body) (by kernel_rfl) (fun ac A16 => ?_)
  refine r_take 7 (.pointer (some ⟨g3, 4, none⟩)) A16 T8 (g_field (u := .pointer (some ⟨g3, 0, none⟩)) (by kernel_rfl) (fun _ => by kernel_rfl)) rfl rfl rfl (pf_then pf_body) (by kernel_rfl) (fun ac A17 => ?_)
  refine r_take 8 (.agg #[.int .i64 rw, .int .i64 rd, .int .i64 rs, .int .i64 rt_]) A17 T8 (g_load (g := g3) (off := 4) 1 (by kernel_rfl) rfl (by kernel_rfl)) rfl rfl rfl (pf_then pf_body) (by kernel_rfl) (fun ac A18 => ?_)
  refine r_take 9 (.pointer (some ⟨g3, 12, none⟩)) A18 T8 (g_field (u := .pointer (some ⟨g3, 0, none⟩)) (by kernel_rfl) (fun _ => by kernel_rfl)) rfl rfl rfl (pf_then pf_body) (by kernel_rfl) (fun ac A19 => ?_)
  refine r_take 10 (.agg #[.int .i64 tx, .int .i64 tz]) A19 T8 (g_load (g := g3) (off := 12) 1 (by kernel_rfl) rfl (by kernel_rfl)) rfl rfl rfl (pf_then pf_body) (by kernel_rfl) (fun ac A20 => ?_)
  refine r_take 11 (.pointer (some ⟨g3, 10, none⟩)) A20 T8 (g_field (u := .pointer (some ⟨g3, 0, none⟩)) (by kernel_rfl) (fun _ => by kernel_rfl)) rfl rfl rfl (pf_then pf_body) (by kernel_rfl) (fun ac A21 => ?_)
  refine r_take 12 (.agg #[.int .i64 ax, .int .i64 az]) A21 T8 (g_load (g := g3) (off := 10) 1 (by kernel_rfl) rfl (by kernel_rfl)) rfl rfl rfl (pf_then pf_body) (by kernel_rfl) (fun ac A22 => ?_)
  refine r_3 (i := 6) (j := 14) (l := 15) (by kernel_rfl) ?_ ?_ ?_
  · have q27 := le_bd (wyC_ok ez.1 ez.2.2.1)
    refine rs_call (fs := #[]) (cp := #[]) (r := [(0, .agg #[.int .i64 ow, .int .i64 od, .int .i64 os, .int .i64 ot]), (0, .agg #[.int .i64 fx, .int .i64 fz]), (0, .agg #[.int .i64 ax, .int .i64 az])]) #[.agg #[.int .i64 ow, .int .i64 od, .int .i64 os, .int .i64 ot], .agg #[.int .i64 fx, .int .i64 fz], .agg #[.int .i64 ax, .int .i64 az]] (.agg #[.int .i64 (leLo (wyC ow od os ot fx fz ax az)), .int .i64 (mHi (wyC ow od os ot fx fz ax az))]) A22 S10 sub_all sub_all (refLeastTime_s ow od os ot fx fz ax az _ ez.1 ez.2.2.1) Try.call52 rfl rfl (by kernel_rfl) (by kernel_rfl) (by kernel_rfl) rfl (fun ac wc A23 S24 => ?_)
    have T26 := S24.sub sub_all sub_all
    refine r_3 (i := 13) (j := 14) (l := 15) (by kernel_rfl) ?_ ?_ ?_
    · have q32 := le_bd (wyC_ok ez.2.1 ez.2.2.2)
      refine rs_call (fs := #[]) (cp := #[]) (r := [(0, .agg #[.int .i64 rw, .int .i64 rd, .int .i64 rs, .int .i64 rt_]), (0, .agg #[.int .i64 tx, .int .i64 tz]), (0, .agg #[.int .i64 ax, .int .i64 az])]) #[.agg #[.int .i64 rw, .int .i64 rd, .int .i64 rs, .int .i64 rt_], .agg #[.int .i64 tx, .int .i64 tz], .agg #[.int .i64 ax, .int .i64 az]] (.agg #[.int .i64 (leLo (wyC rw rd rs rt_ tx tz ax az)), .int .i64 (mHi (wyC rw rd rs rt_ tx tz ax az))]) A23 S24 sub_all sub_all (refLeastTime_s rw rd rs rt_ tx tz ax az _ ez.2.1 ez.2.2.2) Try.call52 rfl rfl (by kernel_rfl) (by kernel_rfl) (by kernel_rfl) rfl (fun ac wc A28 S29 => ?_)
      have T31 := S29.sub sub_all sub_all
      refine r_2 (i := 14) (j := 15) (by kernel_rfl) ?_ ?_
      · refine rs_alloc (#[.int .i64 0, .int .i64 0]) A28 S29 sub_all sub_all (by kernel_rfl) rfl rfl rfl (fun g35 ac wc A33 S34 => ?_)
        have T36 := S34.sub (sub_skip sub_all) sub_all
        refine r_1 (i := 15) (by kernel_rfl) ?_
        refine rs_alloc (#[.int .i64 0, .int .i64 0]) A33 S34 (sub_skip sub_all) sub_all (by kernel_rfl) rfl rfl rfl (fun g39 ac wc A37 S38 => ?_)
        have T40 := S38.sub (sub_skip (sub_skip sub_all)) sub_all
        refine r_1 (i := 16) (by kernel_rfl) ?_
        refine rs_store (g := g35) (off := 0) (v := .agg #[.int .i64 (leLo (wyC ow od os ot fx fz ax az)), .int .i64 (mHi (wyC ow od os ot fx fz ax az))]) 1 (#[.int .i64 (leLo (wyC ow od os ot fx fz ax az)), .int .i64 (mHi (wyC ow od os ot fx fz ax az))]) A37 S38 (sub_skip (sub_skip sub_all)) sub_all (by kernel_rfl) (by kernel_rfl) rfl (by kernel_rfl) rfl rfl (fun wc S42 => ?_)
        have T44 := S42.sub (sub_skip (sub_skip sub_all)) sub_all
        refine r_1 (i := 17) (by kernel_rfl) ?_
        refine rs_store (g := g39) (off := 0) (v := .agg #[.int .i64 (leLo (wyC rw rd rs rt_ tx tz ax az)), .int .i64 (mHi (wyC rw rd rs rt_ tx tz ax az))]) 0 (#[.int .i64 (leLo (wyC rw rd rs rt_ tx tz ax az)), .int .i64 (mHi (wyC rw rd rs rt_ tx tz ax az))]) A37 S42 (sub_skip (sub_skip sub_all)) sub_all (by kernel_rfl) (by kernel_rfl) rfl (by kernel_rfl) rfl rfl (fun wc S46 => ?_)
        have T48 := S46.sub (sub_skip (sub_skip sub_all)) sub_all
        refine r_done (by kernel_rfl) ?_
        refine n_then ?_
        refine wp_seq ?_
        refine wp_region_lit ?_
        refine s_one (.pointer (some ⟨g35, 0, none⟩)) A37 S46 (g_field (u := .pointer (some ⟨g35, 0, none⟩)) (by kernel_rfl) (fun _ => by kernel_rfl)) rfl (fun ac A49 => ?_)
        refine s_one (.int .i64 (leLo (wyC ow od os ot fx fz ax az))) A49 S46 (g_load (g := g35) (off := 0) 1 (by kernel_rfl) rfl (by kernel_rfl)) rfl (fun ac A50 => ?_)
        refine s_one (.pointer (some ⟨g39, 0, none⟩)) A50 S46 (g_field (u := .pointer (some ⟨g39, 0, none⟩)) (by kernel_rfl) (fun _ => by kernel_rfl)) rfl (fun ac A51 => ?_)
        refine s_one (.int .i64 (leLo (wyC rw rd rs rt_ tx tz ax az))) A51 S46 (g_load (g := g39) (off := 0) 0 (by kernel_rfl) rfl (by kernel_rfl)) rfl (fun ac A52 => ?_)
        refine s_one (.int .i64 (leLo (wyC ow od os ot fx fz ax az) + (leLo (wyC rw rd rs rt_ tx tz ax az)))) A52 S46 (g_bin (u := .int .i64 (leLo (wyC ow od os ot fx fz ax az))) (k := .int .i64 (leLo (wyC rw rd rs rt_ tx tz ax az))) (by kernel_rfl) (by kernel_rfl) (fun _ => by kernel_rfl) (b_add (by omega))) rfl (fun ac A53 => ?_)
        refine s_one (.pointer (some ⟨g35, 1, none⟩)) A53 S46 (g_field (u := .pointer (some ⟨g35, 0, none⟩)) (by kernel_rfl) (fun _ => by kernel_rfl)) rfl (fun ac A54 => ?_)
        refine s_one (.int .i64 (mHi (wyC ow od os ot fx fz ax az))) A54 S46 (g_load (g := g35) (off := 1) 1 (by kernel_rfl) rfl (by kernel_rfl)) rfl (fun ac A55 => ?_)
        refine s_one (.pointer (some ⟨g39, 1, none⟩)) A55 S46 (g_field (u := .pointer (some ⟨g39, 0, none⟩)) (by kernel_rfl) (fun _ => by kernel_rfl)) rfl (fun ac A56 => ?_)
        refine s_one (.int .i64 (mHi (wyC rw rd rs rt_ tx tz ax az))) A56 S46 (g_load (g := g39) (off := 1) 0 (by kernel_rfl) rfl (by kernel_rfl)) rfl (fun ac A57 => ?_)
        refine s_one (.int .i64 (mHi (wyC ow od os ot fx fz ax az) + (mHi (wyC rw rd rs rt_ tx tz ax az)))) A57 S46 (g_bin (u := .int .i64 (mHi (wyC ow od os ot fx fz ax az))) (k := .int .i64 (mHi (wyC rw rd rs rt_ tx tz ax az))) (by kernel_rfl) (by kernel_rfl) (fun _ => by kernel_rfl) (b_add (by omega))) rfl (fun ac A58 => ?_)
        refine s_one (.agg #[.int .i64 (leLo (wyC ow od os ot fx fz ax az) + (leLo (wyC rw rd rs rt_ tx tz ax az))), .int .i64 (mHi (wyC ow od os ot fx fz ax az) + (mHi (wyC rw rd rs rt_ tx tz ax az)))]) A58 S46 (g_build (r := [(0, .int .i64 (leLo (wyC ow od os ot fx fz ax az) + (leLo (wyC rw rd rs rt_ tx tz ax az)))), (1, .int .i64 (mHi (wyC ow od os ot fx fz ax az) + (mHi (wyC rw rd rs rt_ tx tz ax az))))]) (by kernel_rfl) (fun _ => by kernel_rfl)) rfl (fun ac A59 => ?_)
        refine s_store (g := g7) (off := 0) (v := .agg #[.int .i64 (leLo (wyC ow od os ot fx fz ax az) + (leLo (wyC rw rd rs rt_ tx tz ax az))), .int .i64 (mHi (wyC ow od os ot fx fz ax az) + (mHi (wyC rw rd rs rt_ tx tz ax az)))]) 2 (#[.int .i64 (leLo (wyC ow od os ot fx fz ax az) + (leLo (wyC rw rd rs rt_ tx tz ax az))), .int .i64 (mHi (wyC ow od os ot fx fz ax az) + (mHi (wyC rw rd rs rt_ tx tz ax az)))]) A59 S46 (by kernel_rfl) (by kernel_rfl) rfl (by kernel_rfl) (fun wc S61 => ?_)
        refine wpList_nil ?_
        refine n_then ?_
        refine wp_ret ?_
        refine fin1 (.agg #[.int .i64 (leLo (wyC ow od os ot fx fz ax az) + (leLo (wyC rw rd rs rt_ tx tz ax az))), .int .i64 (mHi (wyC ow od os ot fx fz ax az) + (mHi (wyC rw rd rs rt_ tx tz ax az)))]) Try.results44 A59 S61 (rv_cell (g := g7) (off := 0) 2 (by kernel_rfl) rfl (by kernel_rfl)) ⟨?_, S61.kp⟩
        rfl
      · refine rs_alloc (#[.int .i64 0, .int .i64 0]) A28 S29 sub_all sub_all (by kernel_rfl) rfl rfl rfl (fun g65 ac wc A63 S64 => ?_)
        have T66 := S64.sub (sub_skip sub_all) sub_all
        refine r_1 (i := 14) (by kernel_rfl) ?_
        refine rs_alloc (#[.int .i64 0, .int .i64 0]) A63 S64 (sub_skip sub_all) sub_all (by kernel_rfl) rfl rfl rfl (fun g69 ac wc A67 S68 => ?_)
        have T70 := S68.sub (sub_skip (sub_skip sub_all)) sub_all
        refine r_1 (i := 16) (by kernel_rfl) ?_
        refine rs_store (g := g69) (off := 0) (v := .agg #[.int .i64 (leLo (wyC ow od os ot fx fz ax az)), .int .i64 (mHi (wyC ow od os ot fx fz ax az))]) 0 (#[.int .i64 (leLo (wyC ow od os ot fx fz ax az)), .int .i64 (mHi (wyC ow od os ot fx fz ax az))]) A67 S68 (sub_skip (sub_skip sub_all)) sub_all (by kernel_rfl) (by kernel_rfl) rfl (by kernel_rfl) rfl rfl (fun wc S72 => ?_)
        have T74 := S72.sub (sub_skip (sub_skip sub_all)) sub_all
        refine r_1 (i := 17) (by kernel_rfl) ?_
        refine rs_store (g := g65) (off := 0) (v := .agg #[.int .i64 (leLo (wyC rw rd rs rt_ tx tz ax az)), .int .i64 (mHi (wyC rw rd rs rt_ tx tz ax az))]) 1 (#[.int .i64 (leLo (wyC rw rd rs rt_ tx tz ax az)), .int .i64 (mHi (wyC rw rd rs rt_ tx tz ax az))]) A67 S72 (sub_skip (sub_skip sub_all)) sub_all (by kernel_rfl) (by kernel_rfl) rfl (by kernel_rfl) rfl rfl (fun wc S76 => ?_)
        have T78 := S76.sub (sub_skip (sub_skip sub_all)) sub_all
        refine r_done (by kernel_rfl) ?_
        refine n_then ?_
        refine wp_seq ?_
        refine wp_region_lit ?_
        refine s_one (.pointer (some ⟨g69, 0, none⟩)) A67 S76 (g_field (u := .pointer (some ⟨g69, 0, none⟩)) (by kernel_rfl) (fun _ => by kernel_rfl)) rfl (fun ac A79 => ?_)
        refine s_one (.int .i64 (leLo (wyC ow od os ot fx fz ax az))) A79 S76 (g_load (g := g69) (off := 0) 0 (by kernel_rfl) rfl (by kernel_rfl)) rfl (fun ac A80 => ?_)
        refine s_one (.pointer (some ⟨g65, 0, none⟩)) A80 S76 (g_field (u := .pointer (some ⟨g65, 0, none⟩)) (by kernel_rfl) (fun _ => by kernel_rfl)) rfl (fun ac A81 => ?_)
        refine s_one (.int .i64 (leLo (wyC rw rd rs rt_ tx tz ax az))) A81 S76 (g_load (g := g65) (off := 0) 1 (by kernel_rfl) rfl (by kernel_rfl)) rfl (fun ac A82 => ?_)
        refine s_one (.int .i64 (leLo (wyC ow od os ot fx fz ax az) + (leLo (wyC rw rd rs rt_ tx tz ax az)))) A82 S76 (g_bin (u := .int .i64 (leLo (wyC ow od os ot fx fz ax az))) (k := .int .i64 (leLo (wyC rw rd rs rt_ tx tz ax az))) (by kernel_rfl) (by kernel_rfl) (fun _ => by kernel_rfl) (b_add (by omega))) rfl (fun ac A83 => ?_)
        refine s_one (.pointer (some ⟨g69, 1, none⟩)) A83 S76 (g_field (u := .pointer (some ⟨g69, 0, none⟩)) (by kernel_rfl) (fun _ => by kernel_rfl)) rfl (fun ac A84 => ?_)
        refine s_one (.int .i64 (mHi (wyC ow od os ot fx fz ax az))) A84 S76 (g_load (g := g69) (off := 1) 0 (by kernel_rfl) rfl (by kernel_rfl)) rfl (fun ac A85 => ?_)
        refine s_one (.pointer (some ⟨g65, 1, none⟩)) A85 S76 (g_field (u := .pointer (some ⟨g65, 0, none⟩)) (by kernel_rfl) (fun _ => by kernel_rfl)) rfl (fun ac A86 => ?_)
        refine s_one (.int .i64 (mHi (wyC rw rd rs rt_ tx tz ax az))) A86 S76 (g_load (g := g65) (off := 1) 1 (by kernel_rfl) rfl (by kernel_rfl)) rfl (fun ac A87 => ?_)
        refine s_one (.int .i64 (mHi (wyC ow od os ot fx fz ax az) + (mHi (wyC rw rd rs rt_ tx tz ax az)))) A87 S76 (g_bin (u := .int .i64 (mHi (wyC ow od os ot fx fz ax az))) (k := .int .i64 (mHi (wyC rw rd rs rt_ tx tz ax az))) (by kernel_rfl) (by kernel_rfl) (fun _ => by kernel_rfl) (b_add (by omega))) rfl (fun ac A88 => ?_)
        refine s_one (.agg #[.int .i64 (leLo (wyC ow od os ot fx fz ax az) + (leLo (wyC rw rd rs rt_ tx tz ax az))), .int .i64 (mHi (wyC ow od os ot fx fz ax az) + (mHi (wyC rw rd rs rt_ tx tz ax az)))]) A88 S76 (g_build (r := [(0, .int .i64 (leLo (wyC ow od os ot fx fz ax az) + (leLo (wyC rw rd rs rt_ tx tz ax az)))), (1, .int .i64 (mHi (wyC ow od os ot fx fz ax az) + (mHi (wyC rw rd rs rt_ tx tz ax az))))]) (by kernel_rfl) (fun _ => by kernel_rfl)) rfl (fun ac A89 => ?_)
        refine s_store (g := g7) (off := 0) (v := .agg #[.int .i64 (leLo (wyC ow od os ot fx fz ax az) + (leLo (wyC rw rd rs rt_ tx tz ax az))), .int .i64 (mHi (wyC ow od os ot fx fz ax az) + (mHi (wyC rw rd rs rt_ tx tz ax az)))]) 2 (#[.int .i64 (leLo (wyC ow od os ot fx fz ax az) + (leLo (wyC rw rd rs rt_ tx tz ax az))), .int .i64 (mHi (wyC ow od os ot fx fz ax az) + (mHi (wyC rw rd rs rt_ tx tz ax az)))]) A89 S76 (by kernel_rfl) (by kernel_rfl) rfl (by kernel_rfl) (fun wc S91 => ?_)
        refine wpList_nil ?_
        refine n_then ?_
        refine wp_ret ?_
        refine fin1 (.agg #[.int .i64 (leLo (wyC ow od os ot fx fz ax az) + (leLo (wyC rw rd rs rt_ tx tz ax az))), .int .i64 (mHi (wyC ow od os ot fx fz ax az) + (mHi (wyC rw rd rs rt_ tx tz ax az)))]) Try.results44 A89 S91 (rv_cell (g := g7) (off := 0) 2 (by kernel_rfl) rfl (by kernel_rfl)) ⟨?_, S91.kp⟩
        rfl
    · refine rs_alloc (#[.int .i64 0, .int .i64 0]) A23 S24 sub_all sub_all (by kernel_rfl) rfl rfl rfl (fun g95 ac wc A93 S94 => ?_)
      have T96 := S94.sub (sub_skip sub_all) sub_all
      refine r_2 (i := 13) (j := 15) (by kernel_rfl) ?_ ?_
      · have q101 := le_bd (wyC_ok ez.2.1 ez.2.2.2)
        refine rs_call (fs := #[]) (cp := #[]) (r := [(0, .agg #[.int .i64 rw, .int .i64 rd, .int .i64 rs, .int .i64 rt_]), (0, .agg #[.int .i64 tx, .int .i64 tz]), (0, .agg #[.int .i64 ax, .int .i64 az])]) #[.agg #[.int .i64 rw, .int .i64 rd, .int .i64 rs, .int .i64 rt_], .agg #[.int .i64 tx, .int .i64 tz], .agg #[.int .i64 ax, .int .i64 az]] (.agg #[.int .i64 (leLo (wyC rw rd rs rt_ tx tz ax az)), .int .i64 (mHi (wyC rw rd rs rt_ tx tz ax az))]) A93 S94 (sub_skip sub_all) sub_all (refLeastTime_s rw rd rs rt_ tx tz ax az _ ez.2.1 ez.2.2.2) Try.call52 rfl rfl (by kernel_rfl) (by kernel_rfl) (by kernel_rfl) rfl (fun ac wc A97 S98 => ?_)
        have T100 := S98.sub (sub_skip sub_all) sub_all
        refine r_1 (i := 15) (by kernel_rfl) ?_
        refine rs_alloc (#[.int .i64 0, .int .i64 0]) A97 S98 (sub_skip sub_all) sub_all (by kernel_rfl) rfl rfl rfl (fun g104 ac wc A102 S103 => ?_)
        have T105 := S103.sub (sub_skip (sub_skip sub_all)) sub_all
        refine r_1 (i := 16) (by kernel_rfl) ?_
        refine rs_store (g := g95) (off := 0) (v := .agg #[.int .i64 (leLo (wyC ow od os ot fx fz ax az)), .int .i64 (mHi (wyC ow od os ot fx fz ax az))]) 1 (#[.int .i64 (leLo (wyC ow od os ot fx fz ax az)), .int .i64 (mHi (wyC ow od os ot fx fz ax az))]) A102 S103 (sub_skip (sub_skip sub_all)) sub_all (by kernel_rfl) (by kernel_rfl) rfl (by kernel_rfl) rfl rfl (fun wc S107 => ?_)
        have T109 := S107.sub (sub_skip (sub_skip sub_all)) sub_all
        refine r_1 (i := 17) (by kernel_rfl) ?_
        refine rs_store (g := g104) (off := 0) (v := .agg #[.int .i64 (leLo (wyC rw rd rs rt_ tx tz ax az)), .int .i64 (mHi (wyC rw rd rs rt_ tx tz ax az))]) 0 (#[.int .i64 (leLo (wyC rw rd rs rt_ tx tz ax az)), .int .i64 (mHi (wyC rw rd rs rt_ tx tz ax az))]) A102 S107 (sub_skip (sub_skip sub_all)) sub_all (by kernel_rfl) (by kernel_rfl) rfl (by kernel_rfl) rfl rfl (fun wc S111 => ?_)
        have T113 := S111.sub (sub_skip (sub_skip sub_all)) sub_all
        refine r_done (by kernel_rfl) ?_
        refine n_then ?_
        refine wp_seq ?_
        refine wp_region_lit ?_
        refine s_one (.pointer (some ⟨g95, 0, none⟩)) A102 S111 (g_field (u := .pointer (some ⟨g95, 0, none⟩)) (by kernel_rfl) (fun _ => by kernel_rfl)) rfl (fun ac A114 => ?_)
        refine s_one (.int .i64 (leLo (wyC ow od os ot fx fz ax az))) A114 S111 (g_load (g := g95) (off := 0) 1 (by kernel_rfl) rfl (by kernel_rfl)) rfl (fun ac A115 => ?_)
        refine s_one (.pointer (some ⟨g104, 0, none⟩)) A115 S111 (g_field (u := .pointer (some ⟨g104, 0, none⟩)) (by kernel_rfl) (fun _ => by kernel_rfl)) rfl (fun ac A116 => ?_)
        refine s_one (.int .i64 (leLo (wyC rw rd rs rt_ tx tz ax az))) A116 S111 (g_load (g := g104) (off := 0) 0 (by kernel_rfl) rfl (by kernel_rfl)) rfl (fun ac A117 => ?_)
        refine s_one (.int .i64 (leLo (wyC ow od os ot fx fz ax az) + (leLo (wyC rw rd rs rt_ tx tz ax az)))) A117 S111 (g_bin (u := .int .i64 (leLo (wyC ow od os ot fx fz ax az))) (k := .int .i64 (leLo (wyC rw rd rs rt_ tx tz ax az))) (by kernel_rfl) (by kernel_rfl) (fun _ => by kernel_rfl) (b_add (by omega))) rfl (fun ac A118 => ?_)
        refine s_one (.pointer (some ⟨g95, 1, none⟩)) A118 S111 (g_field (u := .pointer (some ⟨g95, 0, none⟩)) (by kernel_rfl) (fun _ => by kernel_rfl)) rfl (fun ac A119 => ?_)
        refine s_one (.int .i64 (mHi (wyC ow od os ot fx fz ax az))) A119 S111 (g_load (g := g95) (off := 1) 1 (by kernel_rfl) rfl (by kernel_rfl)) rfl (fun ac A120 => ?_)
        refine s_one (.pointer (some ⟨g104, 1, none⟩)) A120 S111 (g_field (u := .pointer (some ⟨g104, 0, none⟩)) (by kernel_rfl) (fun _ => by kernel_rfl)) rfl (fun ac A121 => ?_)
        refine s_one (.int .i64 (mHi (wyC rw rd rs rt_ tx tz ax az))) A121 S111 (g_load (g := g104) (off := 1) 0 (by kernel_rfl) rfl (by kernel_rfl)) rfl (fun ac A122 => ?_)
        refine s_one (.int .i64 (mHi (wyC ow od os ot fx fz ax az) + (mHi (wyC rw rd rs rt_ tx tz ax az)))) A122 S111 (g_bin (u := .int .i64 (mHi (wyC ow od os ot fx fz ax az))) (k := .int .i64 (mHi (wyC rw rd rs rt_ tx tz ax az))) (by kernel_rfl) (by kernel_rfl) (fun _ => by kernel_rfl) (b_add (by omega))) rfl (fun ac A123 => ?_)
        refine s_one (.agg #[.int .i64 (leLo (wyC ow od os ot fx fz ax az) + (leLo (wyC rw rd rs rt_ tx tz ax az))), .int .i64 (mHi (wyC ow od os ot fx fz ax az) + (mHi (wyC rw rd rs rt_ tx tz ax az)))]) A123 S111 (g_build (r := [(0, .int .i64 (leLo (wyC ow od os ot fx fz ax az) + (leLo (wyC rw rd rs rt_ tx tz ax az)))), (1, .int .i64 (mHi (wyC ow od os ot fx fz ax az) + (mHi (wyC rw rd rs rt_ tx tz ax az))))]) (by kernel_rfl) (fun _ => by kernel_rfl)) rfl (fun ac A124 => ?_)
        refine s_store (g := g7) (off := 0) (v := .agg #[.int .i64 (leLo (wyC ow od os ot fx fz ax az) + (leLo (wyC rw rd rs rt_ tx tz ax az))), .int .i64 (mHi (wyC ow od os ot fx fz ax az) + (mHi (wyC rw rd rs rt_ tx tz ax az)))]) 2 (#[.int .i64 (leLo (wyC ow od os ot fx fz ax az) + (leLo (wyC rw rd rs rt_ tx tz ax az))), .int .i64 (mHi (wyC ow od os ot fx fz ax az) + (mHi (wyC rw rd rs rt_ tx tz ax az)))]) A124 S111 (by kernel_rfl) (by kernel_rfl) rfl (by kernel_rfl) (fun wc S126 => ?_)
        refine wpList_nil ?_
        refine n_then ?_
        refine wp_ret ?_
        refine fin1 (.agg #[.int .i64 (leLo (wyC ow od os ot fx fz ax az) + (leLo (wyC rw rd rs rt_ tx tz ax az))), .int .i64 (mHi (wyC ow od os ot fx fz ax az) + (mHi (wyC rw rd rs rt_ tx tz ax az)))]) Try.results44 A124 S126 (rv_cell (g := g7) (off := 0) 2 (by kernel_rfl) rfl (by kernel_rfl)) ⟨?_, S126.kp⟩
        rfl
      · refine rs_alloc (#[.int .i64 0, .int .i64 0]) A93 S94 (sub_skip sub_all) sub_all (by kernel_rfl) rfl rfl rfl (fun g130 ac wc A128 S129 => ?_)
        have T131 := S129.sub (sub_skip (sub_skip sub_all)) sub_all
        refine r_1 (i := 13) (by kernel_rfl) ?_
        have q136 := le_bd (wyC_ok ez.2.1 ez.2.2.2)
        refine rs_call (fs := #[]) (cp := #[]) (r := [(0, .agg #[.int .i64 rw, .int .i64 rd, .int .i64 rs, .int .i64 rt_]), (0, .agg #[.int .i64 tx, .int .i64 tz]), (0, .agg #[.int .i64 ax, .int .i64 az])]) #[.agg #[.int .i64 rw, .int .i64 rd, .int .i64 rs, .int .i64 rt_], .agg #[.int .i64 tx, .int .i64 tz], .agg #[.int .i64 ax, .int .i64 az]] (.agg #[.int .i64 (leLo (wyC rw rd rs rt_ tx tz ax az)), .int .i64 (mHi (wyC rw rd rs rt_ tx tz ax az))]) A128 S129 (sub_skip (sub_skip sub_all)) sub_all (refLeastTime_s rw rd rs rt_ tx tz ax az _ ez.2.1 ez.2.2.2) Try.call52 rfl rfl (by kernel_rfl) (by kernel_rfl) (by kernel_rfl) rfl (fun ac wc A132 S133 => ?_)
        have T135 := S133.sub (sub_skip (sub_skip sub_all)) sub_all
        refine r_1 (i := 16) (by kernel_rfl) ?_
        refine rs_store (g := g95) (off := 0) (v := .agg #[.int .i64 (leLo (wyC ow od os ot fx fz ax az)), .int .i64 (mHi (wyC ow od os ot fx fz ax az))]) 1 (#[.int .i64 (leLo (wyC ow od os ot fx fz ax az)), .int .i64 (mHi (wyC ow od os ot fx fz ax az))]) A132 S133 (sub_skip (sub_skip sub_all)) sub_all (by kernel_rfl) (by kernel_rfl) rfl (by kernel_rfl) rfl rfl (fun wc S138 => ?_)
        have T140 := S138.sub (sub_skip (sub_skip sub_all)) sub_all
        refine r_1 (i := 17) (by kernel_rfl) ?_
        refine rs_store (g := g130) (off := 0) (v := .agg #[.int .i64 (leLo (wyC rw rd rs rt_ tx tz ax az)), .int .i64 (mHi (wyC rw rd rs rt_ tx tz ax az))]) 0 (#[.int .i64 (leLo (wyC rw rd rs rt_ tx tz ax az)), .int .i64 (mHi (wyC rw rd rs rt_ tx tz ax az))]) A132 S138 (sub_skip (sub_skip sub_all)) sub_all (by kernel_rfl) (by kernel_rfl) rfl (by kernel_rfl) rfl rfl (fun wc S142 => ?_)
        have T144 := S142.sub (sub_skip (sub_skip sub_all)) sub_all
        refine r_done (by kernel_rfl) ?_
        refine n_then ?_
        refine wp_seq ?_
        refine wp_region_lit ?_
        refine s_one (.pointer (some ⟨g95, 0, none⟩)) A132 S142 (g_field (u := .pointer (some ⟨g95, 0, none⟩)) (by kernel_rfl) (fun _ => by kernel_rfl)) rfl (fun ac A145 => ?_)
        refine s_one (.int .i64 (leLo (wyC ow od os ot fx fz ax az))) A145 S142 (g_load (g := g95) (off := 0) 1 (by kernel_rfl) rfl (by kernel_rfl)) rfl (fun ac A146 => ?_)
        refine s_one (.pointer (some ⟨g130, 0, none⟩)) A146 S142 (g_field (u := .pointer (some ⟨g130, 0, none⟩)) (by kernel_rfl) (fun _ => by kernel_rfl)) rfl (fun ac A147 => ?_)
        refine s_one (.int .i64 (leLo (wyC rw rd rs rt_ tx tz ax az))) A147 S142 (g_load (g := g130) (off := 0) 0 (by kernel_rfl) rfl (by kernel_rfl)) rfl (fun ac A148 => ?_)
        refine s_one (.int .i64 (leLo (wyC ow od os ot fx fz ax az) + (leLo (wyC rw rd rs rt_ tx tz ax az)))) A148 S142 (g_bin (u := .int .i64 (leLo (wyC ow od os ot fx fz ax az))) (k := .int .i64 (leLo (wyC rw rd rs rt_ tx tz ax az))) (by kernel_rfl) (by kernel_rfl) (fun _ => by kernel_rfl) (b_add (by omega))) rfl (fun ac A149 => ?_)
        refine s_one (.pointer (some ⟨g95, 1, none⟩)) A149 S142 (g_field (u := .pointer (some ⟨g95, 0, none⟩)) (by kernel_rfl) (fun _ => by kernel_rfl)) rfl (fun ac A150 => ?_)
        refine s_one (.int .i64 (mHi (wyC ow od os ot fx fz ax az))) A150 S142 (g_load (g := g95) (off := 1) 1 (by kernel_rfl) rfl (by kernel_rfl)) rfl (fun ac A151 => ?_)
        refine s_one (.pointer (some ⟨g130, 1, none⟩)) A151 S142 (g_field (u := .pointer (some ⟨g130, 0, none⟩)) (by kernel_rfl) (fun _ => by kernel_rfl)) rfl (fun ac A152 => ?_)
        refine s_one (.int .i64 (mHi (wyC rw rd rs rt_ tx tz ax az))) A152 S142 (g_load (g := g130) (off := 1) 0 (by kernel_rfl) rfl (by kernel_rfl)) rfl (fun ac A153 => ?_)
        refine s_one (.int .i64 (mHi (wyC ow od os ot fx fz ax az) + (mHi (wyC rw rd rs rt_ tx tz ax az)))) A153 S142 (g_bin (u := .int .i64 (mHi (wyC ow od os ot fx fz ax az))) (k := .int .i64 (mHi (wyC rw rd rs rt_ tx tz ax az))) (by kernel_rfl) (by kernel_rfl) (fun _ => by kernel_rfl) (b_add (by omega))) rfl (fun ac A154 => ?_)
        refine s_one (.agg #[.int .i64 (leLo (wyC ow od os ot fx fz ax az) + (leLo (wyC rw rd rs rt_ tx tz ax az))), .int .i64 (mHi (wyC ow od os ot fx fz ax az) + (mHi (wyC rw rd rs rt_ tx tz ax az)))]) A154 S142 (g_build (r := [(0, .int .i64 (leLo (wyC ow od os ot fx fz ax az) + (leLo (wyC rw rd rs rt_ tx tz ax az)))), (1, .int .i64 (mHi (wyC ow od os ot fx fz ax az) + (mHi (wyC rw rd rs rt_ tx tz ax az))))]) (by kernel_rfl) (fun _ => by kernel_rfl)) rfl (fun ac A155 => ?_)
        refine s_store (g := g7) (off := 0) (v := .agg #[.int .i64 (leLo (wyC ow od os ot fx fz ax az) + (leLo (wyC rw rd rs rt_ tx tz ax az))), .int .i64 (mHi (wyC ow od os ot fx fz ax az) + (mHi (wyC rw rd rs rt_ tx tz ax az)))]) 2 (#[.int .i64 (leLo (wyC ow od os ot fx fz ax az) + (leLo (wyC rw rd rs rt_ tx tz ax az))), .int .i64 (mHi (wyC ow od os ot fx fz ax az) + (mHi (wyC rw rd rs rt_ tx tz ax az)))]) A155 S142 (by kernel_rfl) (by kernel_rfl) rfl (by kernel_rfl) (fun wc S157 => ?_)
        refine wpList_nil ?_
        refine n_then ?_
        refine wp_ret ?_
        refine fin1 (.agg #[.int .i64 (leLo (wyC ow od os ot fx fz ax az) + (leLo (wyC rw rd rs rt_ tx tz ax az))), .int .i64 (mHi (wyC ow od os ot fx fz ax az) + (mHi (wyC rw rd rs rt_ tx tz ax az)))]) Try.results44 A155 S157 (rv_cell (g := g7) (off := 0) 2 (by kernel_rfl) rfl (by kernel_rfl)) ⟨?_, S157.kp⟩
        rfl
    · refine rs_alloc (#[.int .i64 0, .int .i64 0]) A23 S24 sub_all sub_all (by kernel_rfl) rfl rfl rfl (fun g161 ac wc A159 S160 => ?_)
      have T162 := S160.sub (sub_skip sub_all) sub_all
      refine r_2 (i := 13) (j := 14) (by kernel_rfl) ?_ ?_
      · have q167 := le_bd (wyC_ok ez.2.1 ez.2.2.2)
        refine rs_call (fs := #[]) (cp := #[]) (r := [(0, .agg #[.int .i64 rw, .int .i64 rd, .int .i64 rs, .int .i64 rt_]), (0, .agg #[.int .i64 tx, .int .i64 tz]), (0, .agg #[.int .i64 ax, .int .i64 az])]) #[.agg #[.int .i64 rw, .int .i64 rd, .int .i64 rs, .int .i64 rt_], .agg #[.int .i64 tx, .int .i64 tz], .agg #[.int .i64 ax, .int .i64 az]] (.agg #[.int .i64 (leLo (wyC rw rd rs rt_ tx tz ax az)), .int .i64 (mHi (wyC rw rd rs rt_ tx tz ax az))]) A159 S160 (sub_skip sub_all) sub_all (refLeastTime_s rw rd rs rt_ tx tz ax az _ ez.2.1 ez.2.2.2) Try.call52 rfl rfl (by kernel_rfl) (by kernel_rfl) (by kernel_rfl) rfl (fun ac wc A163 S164 => ?_)
        have T166 := S164.sub (sub_skip sub_all) sub_all
        refine r_1 (i := 14) (by kernel_rfl) ?_
        refine rs_alloc (#[.int .i64 0, .int .i64 0]) A163 S164 (sub_skip sub_all) sub_all (by kernel_rfl) rfl rfl rfl (fun g170 ac wc A168 S169 => ?_)
        have T171 := S169.sub (sub_skip (sub_skip sub_all)) sub_all
        refine r_1 (i := 16) (by kernel_rfl) ?_
        refine rs_store (g := g170) (off := 0) (v := .agg #[.int .i64 (leLo (wyC ow od os ot fx fz ax az)), .int .i64 (mHi (wyC ow od os ot fx fz ax az))]) 0 (#[.int .i64 (leLo (wyC ow od os ot fx fz ax az)), .int .i64 (mHi (wyC ow od os ot fx fz ax az))]) A168 S169 (sub_skip (sub_skip sub_all)) sub_all (by kernel_rfl) (by kernel_rfl) rfl (by kernel_rfl) rfl rfl (fun wc S173 => ?_)
        have T175 := S173.sub (sub_skip (sub_skip sub_all)) sub_all
        refine r_1 (i := 17) (by kernel_rfl) ?_
        refine rs_store (g := g161) (off := 0) (v := .agg #[.int .i64 (leLo (wyC rw rd rs rt_ tx tz ax az)), .int .i64 (mHi (wyC rw rd rs rt_ tx tz ax az))]) 1 (#[.int .i64 (leLo (wyC rw rd rs rt_ tx tz ax az)), .int .i64 (mHi (wyC rw rd rs rt_ tx tz ax az))]) A168 S173 (sub_skip (sub_skip sub_all)) sub_all (by kernel_rfl) (by kernel_rfl) rfl (by kernel_rfl) rfl rfl (fun wc S177 => ?_)
        have T179 := S177.sub (sub_skip (sub_skip sub_all)) sub_all
        refine r_done (by kernel_rfl) ?_
        refine n_then ?_
        refine wp_seq ?_
        refine wp_region_lit ?_
        refine s_one (.pointer (some ⟨g170, 0, none⟩)) A168 S177 (g_field (u := .pointer (some ⟨g170, 0, none⟩)) (by kernel_rfl) (fun _ => by kernel_rfl)) rfl (fun ac A180 => ?_)
        refine s_one (.int .i64 (leLo (wyC ow od os ot fx fz ax az))) A180 S177 (g_load (g := g170) (off := 0) 0 (by kernel_rfl) rfl (by kernel_rfl)) rfl (fun ac A181 => ?_)
        refine s_one (.pointer (some ⟨g161, 0, none⟩)) A181 S177 (g_field (u := .pointer (some ⟨g161, 0, none⟩)) (by kernel_rfl) (fun _ => by kernel_rfl)) rfl (fun ac A182 => ?_)
        refine s_one (.int .i64 (leLo (wyC rw rd rs rt_ tx tz ax az))) A182 S177 (g_load (g := g161) (off := 0) 1 (by kernel_rfl) rfl (by kernel_rfl)) rfl (fun ac A183 => ?_)
        refine s_one (.int .i64 (leLo (wyC ow od os ot fx fz ax az) + (leLo (wyC rw rd rs rt_ tx tz ax az)))) A183 S177 (g_bin (u := .int .i64 (leLo (wyC ow od os ot fx fz ax az))) (k := .int .i64 (leLo (wyC rw rd rs rt_ tx tz ax az))) (by kernel_rfl) (by kernel_rfl) (fun _ => by kernel_rfl) (b_add (by omega))) rfl (fun ac A184 => ?_)
        refine s_one (.pointer (some ⟨g170, 1, none⟩)) A184 S177 (g_field (u := .pointer (some ⟨g170, 0, none⟩)) (by kernel_rfl) (fun _ => by kernel_rfl)) rfl (fun ac A185 => ?_)
        refine s_one (.int .i64 (mHi (wyC ow od os ot fx fz ax az))) A185 S177 (g_load (g := g170) (off := 1) 0 (by kernel_rfl) rfl (by kernel_rfl)) rfl (fun ac A186 => ?_)
        refine s_one (.pointer (some ⟨g161, 1, none⟩)) A186 S177 (g_field (u := .pointer (some ⟨g161, 0, none⟩)) (by kernel_rfl) (fun _ => by kernel_rfl)) rfl (fun ac A187 => ?_)
        refine s_one (.int .i64 (mHi (wyC rw rd rs rt_ tx tz ax az))) A187 S177 (g_load (g := g161) (off := 1) 1 (by kernel_rfl) rfl (by kernel_rfl)) rfl (fun ac A188 => ?_)
        refine s_one (.int .i64 (mHi (wyC ow od os ot fx fz ax az) + (mHi (wyC rw rd rs rt_ tx tz ax az)))) A188 S177 (g_bin (u := .int .i64 (mHi (wyC ow od os ot fx fz ax az))) (k := .int .i64 (mHi (wyC rw rd rs rt_ tx tz ax az))) (by kernel_rfl) (by kernel_rfl) (fun _ => by kernel_rfl) (b_add (by omega))) rfl (fun ac A189 => ?_)
        refine s_one (.agg #[.int .i64 (leLo (wyC ow od os ot fx fz ax az) + (leLo (wyC rw rd rs rt_ tx tz ax az))), .int .i64 (mHi (wyC ow od os ot fx fz ax az) + (mHi (wyC rw rd rs rt_ tx tz ax az)))]) A189 S177 (g_build (r := [(0, .int .i64 (leLo (wyC ow od os ot fx fz ax az) + (leLo (wyC rw rd rs rt_ tx tz ax az)))), (1, .int .i64 (mHi (wyC ow od os ot fx fz ax az) + (mHi (wyC rw rd rs rt_ tx tz ax az))))]) (by kernel_rfl) (fun _ => by kernel_rfl)) rfl (fun ac A190 => ?_)
        refine s_store (g := g7) (off := 0) (v := .agg #[.int .i64 (leLo (wyC ow od os ot fx fz ax az) + (leLo (wyC rw rd rs rt_ tx tz ax az))), .int .i64 (mHi (wyC ow od os ot fx fz ax az) + (mHi (wyC rw rd rs rt_ tx tz ax az)))]) 2 (#[.int .i64 (leLo (wyC ow od os ot fx fz ax az) + (leLo (wyC rw rd rs rt_ tx tz ax az))), .int .i64 (mHi (wyC ow od os ot fx fz ax az) + (mHi (wyC rw rd rs rt_ tx tz ax az)))]) A190 S177 (by kernel_rfl) (by kernel_rfl) rfl (by kernel_rfl) (fun wc S192 => ?_)
        refine wpList_nil ?_
        refine n_then ?_
        refine wp_ret ?_
        refine fin1 (.agg #[.int .i64 (leLo (wyC ow od os ot fx fz ax az) + (leLo (wyC rw rd rs rt_ tx tz ax az))), .int .i64 (mHi (wyC ow od os ot fx fz ax az) + (mHi (wyC rw rd rs rt_ tx tz ax az)))]) Try.results44 A190 S192 (rv_cell (g := g7) (off := 0) 2 (by kernel_rfl) rfl (by kernel_rfl)) ⟨?_, S192.kp⟩
        rfl
      · refine rs_alloc (#[.int .i64 0, .int .i64 0]) A159 S160 (sub_skip sub_all) sub_all (by kernel_rfl) rfl rfl rfl (fun g196 ac wc A194 S195 => ?_)
        have T197 := S195.sub (sub_skip (sub_skip sub_all)) sub_all
        refine r_1 (i := 13) (by kernel_rfl) ?_
        have q202 := le_bd (wyC_ok ez.2.1 ez.2.2.2)
        refine rs_call (fs := #[]) (cp := #[]) (r := [(0, .agg #[.int .i64 rw, .int .i64 rd, .int .i64 rs, .int .i64 rt_]), (0, .agg #[.int .i64 tx, .int .i64 tz]), (0, .agg #[.int .i64 ax, .int .i64 az])]) #[.agg #[.int .i64 rw, .int .i64 rd, .int .i64 rs, .int .i64 rt_], .agg #[.int .i64 tx, .int .i64 tz], .agg #[.int .i64 ax, .int .i64 az]] (.agg #[.int .i64 (leLo (wyC rw rd rs rt_ tx tz ax az)), .int .i64 (mHi (wyC rw rd rs rt_ tx tz ax az))]) A194 S195 (sub_skip (sub_skip sub_all)) sub_all (refLeastTime_s rw rd rs rt_ tx tz ax az _ ez.2.1 ez.2.2.2) Try.call52 rfl rfl (by kernel_rfl) (by kernel_rfl) (by kernel_rfl) rfl (fun ac wc A198 S199 => ?_)
        have T201 := S199.sub (sub_skip (sub_skip sub_all)) sub_all
        refine r_1 (i := 16) (by kernel_rfl) ?_
        refine rs_store (g := g196) (off := 0) (v := .agg #[.int .i64 (leLo (wyC ow od os ot fx fz ax az)), .int .i64 (mHi (wyC ow od os ot fx fz ax az))]) 0 (#[.int .i64 (leLo (wyC ow od os ot fx fz ax az)), .int .i64 (mHi (wyC ow od os ot fx fz ax az))]) A198 S199 (sub_skip (sub_skip sub_all)) sub_all (by kernel_rfl) (by kernel_rfl) rfl (by kernel_rfl) rfl rfl (fun wc S204 => ?_)
        have T206 := S204.sub (sub_skip (sub_skip sub_all)) sub_all
        refine r_1 (i := 17) (by kernel_rfl) ?_
        refine rs_store (g := g161) (off := 0) (v := .agg #[.int .i64 (leLo (wyC rw rd rs rt_ tx tz ax az)), .int .i64 (mHi (wyC rw rd rs rt_ tx tz ax az))]) 1 (#[.int .i64 (leLo (wyC rw rd rs rt_ tx tz ax az)), .int .i64 (mHi (wyC rw rd rs rt_ tx tz ax az))]) A198 S204 (sub_skip (sub_skip sub_all)) sub_all (by kernel_rfl) (by kernel_rfl) rfl (by kernel_rfl) rfl rfl (fun wc S208 => ?_)
        have T210 := S208.sub (sub_skip (sub_skip sub_all)) sub_all
        refine r_done (by kernel_rfl) ?_
        refine n_then ?_
        refine wp_seq ?_
        refine wp_region_lit ?_
        refine s_one (.pointer (some ⟨g196, 0, none⟩)) A198 S208 (g_field (u := .pointer (some ⟨g196, 0, none⟩)) (by kernel_rfl) (fun _ => by kernel_rfl)) rfl (fun ac A211 => ?_)
        refine s_one (.int .i64 (leLo (wyC ow od os ot fx fz ax az))) A211 S208 (g_load (g := g196) (off := 0) 0 (by kernel_rfl) rfl (by kernel_rfl)) rfl (fun ac A212 => ?_)
        refine s_one (.pointer (some ⟨g161, 0, none⟩)) A212 S208 (g_field (u := .pointer (some ⟨g161, 0, none⟩)) (by kernel_rfl) (fun _ => by kernel_rfl)) rfl (fun ac A213 => ?_)
        refine s_one (.int .i64 (leLo (wyC rw rd rs rt_ tx tz ax az))) A213 S208 (g_load (g := g161) (off := 0) 1 (by kernel_rfl) rfl (by kernel_rfl)) rfl (fun ac A214 => ?_)
        refine s_one (.int .i64 (leLo (wyC ow od os ot fx fz ax az) + (leLo (wyC rw rd rs rt_ tx tz ax az)))) A214 S208 (g_bin (u := .int .i64 (leLo (wyC ow od os ot fx fz ax az))) (k := .int .i64 (leLo (wyC rw rd rs rt_ tx tz ax az))) (by kernel_rfl) (by kernel_rfl) (fun _ => by kernel_rfl) (b_add (by omega))) rfl (fun ac A215 => ?_)
        refine s_one (.pointer (some ⟨g196, 1, none⟩)) A215 S208 (g_field (u := .pointer (some ⟨g196, 0, none⟩)) (by kernel_rfl) (fun _ => by kernel_rfl)) rfl (fun ac A216 => ?_)
        refine s_one (.int .i64 (mHi (wyC ow od os ot fx fz ax az))) A216 S208 (g_load (g := g196) (off := 1) 0 (by kernel_rfl) rfl (by kernel_rfl)) rfl (fun ac A217 => ?_)
        refine s_one (.pointer (some ⟨g161, 1, none⟩)) A217 S208 (g_field (u := .pointer (some ⟨g161, 0, none⟩)) (by kernel_rfl) (fun _ => by kernel_rfl)) rfl (fun ac A218 => ?_)
        refine s_one (.int .i64 (mHi (wyC rw rd rs rt_ tx tz ax az))) A218 S208 (g_load (g := g161) (off := 1) 1 (by kernel_rfl) rfl (by kernel_rfl)) rfl (fun ac A219 => ?_)
        refine s_one (.int .i64 (mHi (wyC ow od os ot fx fz ax az) + (mHi (wyC rw rd rs rt_ tx tz ax az)))) A219 S208 (g_bin (u := .int .i64 (mHi (wyC ow od os ot fx fz ax az))) (k := .int .i64 (mHi (wyC rw rd rs rt_ tx tz ax az))) (by kernel_rfl) (by kernel_rfl) (fun _ => by kernel_rfl) (b_add (by omega))) rfl (fun ac A220 => ?_)
        refine s_one (.agg #[.int .i64 (leLo (wyC ow od os ot fx fz ax az) + (leLo (wyC rw rd rs rt_ tx tz ax az))), .int .i64 (mHi (wyC ow od os ot fx fz ax az) + (mHi (wyC rw rd rs rt_ tx tz ax az)))]) A220 S208 (g_build (r := [(0, .int .i64 (leLo (wyC ow od os ot fx fz ax az) + (leLo (wyC rw rd rs rt_ tx tz ax az)))), (1, .int .i64 (mHi (wyC ow od os ot fx fz ax az) + (mHi (wyC rw rd rs rt_ tx tz ax az))))]) (by kernel_rfl) (fun _ => by kernel_rfl)) rfl (fun ac A221 => ?_)
        refine s_store (g := g7) (off := 0) (v := .agg #[.int .i64 (leLo (wyC ow od os ot fx fz ax az) + (leLo (wyC rw rd rs rt_ tx tz ax az))), .int .i64 (mHi (wyC ow od os ot fx fz ax az) + (mHi (wyC rw rd rs rt_ tx tz ax az)))]) 2 (#[.int .i64 (leLo (wyC ow od os ot fx fz ax az) + (leLo (wyC rw rd rs rt_ tx tz ax az))), .int .i64 (mHi (wyC ow od os ot fx fz ax az) + (mHi (wyC rw rd rs rt_ tx tz ax az)))]) A221 S208 (by kernel_rfl) (by kernel_rfl) rfl (by kernel_rfl) (fun wc S223 => ?_)
        refine wpList_nil ?_
        refine n_then ?_
        refine wp_ret ?_
        refine fin1 (.agg #[.int .i64 (leLo (wyC ow od os ot fx fz ax az) + (leLo (wyC rw rd rs rt_ tx tz ax az))), .int .i64 (mHi (wyC ow od os ot fx fz ax az) + (mHi (wyC rw rd rs rt_ tx tz ax az)))]) Try.results44 A221 S223 (rv_cell (g := g7) (off := 0) 2 (by kernel_rfl) rfl (by kernel_rfl)) ⟨?_, S223.kp⟩
        rfl
  · refine rs_alloc (#[.int .i64 0, .int .i64 0]) A22 S10 sub_all sub_all (by kernel_rfl) rfl rfl rfl (fun g227 ac wc A225 S226 => ?_)
    have T228 := S226.sub (sub_skip sub_all) sub_all
    refine r_2 (i := 6) (j := 15) (by kernel_rfl) ?_ ?_
    · have q233 := le_bd (wyC_ok ez.1 ez.2.2.1)
      refine rs_call (fs := #[]) (cp := #[]) (r := [(0, .agg #[.int .i64 ow, .int .i64 od, .int .i64 os, .int .i64 ot]), (0, .agg #[.int .i64 fx, .int .i64 fz]), (0, .agg #[.int .i64 ax, .int .i64 az])]) #[.agg #[.int .i64 ow, .int .i64 od, .int .i64 os, .int .i64 ot], .agg #[.int .i64 fx, .int .i64 fz], .agg #[.int .i64 ax, .int .i64 az]] (.agg #[.int .i64 (leLo (wyC ow od os ot fx fz ax az)), .int .i64 (mHi (wyC ow od os ot fx fz ax az))]) A225 S226 (sub_skip sub_all) sub_all (refLeastTime_s ow od os ot fx fz ax az _ ez.1 ez.2.2.1) Try.call52 rfl rfl (by kernel_rfl) (by kernel_rfl) (by kernel_rfl) rfl (fun ac wc A229 S230 => ?_)
      have T232 := S230.sub (sub_skip sub_all) sub_all
      refine r_2 (i := 13) (j := 15) (by kernel_rfl) ?_ ?_
      · have q238 := le_bd (wyC_ok ez.2.1 ez.2.2.2)
        refine rs_call (fs := #[]) (cp := #[]) (r := [(0, .agg #[.int .i64 rw, .int .i64 rd, .int .i64 rs, .int .i64 rt_]), (0, .agg #[.int .i64 tx, .int .i64 tz]), (0, .agg #[.int .i64 ax, .int .i64 az])]) #[.agg #[.int .i64 rw, .int .i64 rd, .int .i64 rs, .int .i64 rt_], .agg #[.int .i64 tx, .int .i64 tz], .agg #[.int .i64 ax, .int .i64 az]] (.agg #[.int .i64 (leLo (wyC rw rd rs rt_ tx tz ax az)), .int .i64 (mHi (wyC rw rd rs rt_ tx tz ax az))]) A229 S230 (sub_skip sub_all) sub_all (refLeastTime_s rw rd rs rt_ tx tz ax az _ ez.2.1 ez.2.2.2) Try.call52 rfl rfl (by kernel_rfl) (by kernel_rfl) (by kernel_rfl) rfl (fun ac wc A234 S235 => ?_)
        have T237 := S235.sub (sub_skip sub_all) sub_all
        refine r_1 (i := 15) (by kernel_rfl) ?_
        refine rs_alloc (#[.int .i64 0, .int .i64 0]) A234 S235 (sub_skip sub_all) sub_all (by kernel_rfl) rfl rfl rfl (fun g241 ac wc A239 S240 => ?_)
        have T242 := S240.sub (sub_skip (sub_skip sub_all)) sub_all
        refine r_1 (i := 16) (by kernel_rfl) ?_
        refine rs_store (g := g227) (off := 0) (v := .agg #[.int .i64 (leLo (wyC ow od os ot fx fz ax az)), .int .i64 (mHi (wyC ow od os ot fx fz ax az))]) 1 (#[.int .i64 (leLo (wyC ow od os ot fx fz ax az)), .int .i64 (mHi (wyC ow od os ot fx fz ax az))]) A239 S240 (sub_skip (sub_skip sub_all)) sub_all (by kernel_rfl) (by kernel_rfl) rfl (by kernel_rfl) rfl rfl (fun wc S244 => ?_)
        have T246 := S244.sub (sub_skip (sub_skip sub_all)) sub_all
        refine r_1 (i := 17) (by kernel_rfl) ?_
        refine rs_store (g := g241) (off := 0) (v := .agg #[.int .i64 (leLo (wyC rw rd rs rt_ tx tz ax az)), .int .i64 (mHi (wyC rw rd rs rt_ tx tz ax az))]) 0 (#[.int .i64 (leLo (wyC rw rd rs rt_ tx tz ax az)), .int .i64 (mHi (wyC rw rd rs rt_ tx tz ax az))]) A239 S244 (sub_skip (sub_skip sub_all)) sub_all (by kernel_rfl) (by kernel_rfl) rfl (by kernel_rfl) rfl rfl (fun wc S248 => ?_)
        have T250 := S248.sub (sub_skip (sub_skip sub_all)) sub_all
        refine r_done (by kernel_rfl) ?_
        refine n_then ?_
        refine wp_seq ?_
        refine wp_region_lit ?_
        refine s_one (.pointer (some ⟨g227, 0, none⟩)) A239 S248 (g_field (u := .pointer (some ⟨g227, 0, none⟩)) (by kernel_rfl) (fun _ => by kernel_rfl)) rfl (fun ac A251 => ?_)
        refine s_one (.int .i64 (leLo (wyC ow od os ot fx fz ax az))) A251 S248 (g_load (g := g227) (off := 0) 1 (by kernel_rfl) rfl (by kernel_rfl)) rfl (fun ac A252 => ?_)
        refine s_one (.pointer (some ⟨g241, 0, none⟩)) A252 S248 (g_field (u := .pointer (some ⟨g241, 0, none⟩)) (by kernel_rfl) (fun _ => by kernel_rfl)) rfl (fun ac A253 => ?_)
        refine s_one (.int .i64 (leLo (wyC rw rd rs rt_ tx tz ax az))) A253 S248 (g_load (g := g241) (off := 0) 0 (by kernel_rfl) rfl (by kernel_rfl)) rfl (fun ac A254 => ?_)
        refine s_one (.int .i64 (leLo (wyC ow od os ot fx fz ax az) + (leLo (wyC rw rd rs rt_ tx tz ax az)))) A254 S248 (g_bin (u := .int .i64 (leLo (wyC ow od os ot fx fz ax az))) (k := .int .i64 (leLo (wyC rw rd rs rt_ tx tz ax az))) (by kernel_rfl) (by kernel_rfl) (fun _ => by kernel_rfl) (b_add (by omega))) rfl (fun ac A255 => ?_)
        refine s_one (.pointer (some ⟨g227, 1, none⟩)) A255 S248 (g_field (u := .pointer (some ⟨g227, 0, none⟩)) (by kernel_rfl) (fun _ => by kernel_rfl)) rfl (fun ac A256 => ?_)
        refine s_one (.int .i64 (mHi (wyC ow od os ot fx fz ax az))) A256 S248 (g_load (g := g227) (off := 1) 1 (by kernel_rfl) rfl (by kernel_rfl)) rfl (fun ac A257 => ?_)
        refine s_one (.pointer (some ⟨g241, 1, none⟩)) A257 S248 (g_field (u := .pointer (some ⟨g241, 0, none⟩)) (by kernel_rfl) (fun _ => by kernel_rfl)) rfl (fun ac A258 => ?_)
        refine s_one (.int .i64 (mHi (wyC rw rd rs rt_ tx tz ax az))) A258 S248 (g_load (g := g241) (off := 1) 0 (by kernel_rfl) rfl (by kernel_rfl)) rfl (fun ac A259 => ?_)
        refine s_one (.int .i64 (mHi (wyC ow od os ot fx fz ax az) + (mHi (wyC rw rd rs rt_ tx tz ax az)))) A259 S248 (g_bin (u := .int .i64 (mHi (wyC ow od os ot fx fz ax az))) (k := .int .i64 (mHi (wyC rw rd rs rt_ tx tz ax az))) (by kernel_rfl) (by kernel_rfl) (fun _ => by kernel_rfl) (b_add (by omega))) rfl (fun ac A260 => ?_)
        refine s_one (.agg #[.int .i64 (leLo (wyC ow od os ot fx fz ax az) + (leLo (wyC rw rd rs rt_ tx tz ax az))), .int .i64 (mHi (wyC ow od os ot fx fz ax az) + (mHi (wyC rw rd rs rt_ tx tz ax az)))]) A260 S248 (g_build (r := [(0, .int .i64 (leLo (wyC ow od os ot fx fz ax az) + (leLo (wyC rw rd rs rt_ tx tz ax az)))), (1, .int .i64 (mHi (wyC ow od os ot fx fz ax az) + (mHi (wyC rw rd rs rt_ tx tz ax az))))]) (by kernel_rfl) (fun _ => by kernel_rfl)) rfl (fun ac A261 => ?_)
        refine s_store (g := g7) (off := 0) (v := .agg #[.int .i64 (leLo (wyC ow od os ot fx fz ax az) + (leLo (wyC rw rd rs rt_ tx tz ax az))), .int .i64 (mHi (wyC ow od os ot fx fz ax az) + (mHi (wyC rw rd rs rt_ tx tz ax az)))]) 2 (#[.int .i64 (leLo (wyC ow od os ot fx fz ax az) + (leLo (wyC rw rd rs rt_ tx tz ax az))), .int .i64 (mHi (wyC ow od os ot fx fz ax az) + (mHi (wyC rw rd rs rt_ tx tz ax az)))]) A261 S248 (by kernel_rfl) (by kernel_rfl) rfl (by kernel_rfl) (fun wc S263 => ?_)
        refine wpList_nil ?_
        refine n_then ?_
        refine wp_ret ?_
        refine fin1 (.agg #[.int .i64 (leLo (wyC ow od os ot fx fz ax az) + (leLo (wyC rw rd rs rt_ tx tz ax az))), .int .i64 (mHi (wyC ow od os ot fx fz ax az) + (mHi (wyC rw rd rs rt_ tx tz ax az)))]) Try.results44 A261 S263 (rv_cell (g := g7) (off := 0) 2 (by kernel_rfl) rfl (by kernel_rfl)) ⟨?_, S263.kp⟩
        rfl
      · refine rs_alloc (#[.int .i64 0, .int .i64 0]) A229 S230 (sub_skip sub_all) sub_all (by kernel_rfl) rfl rfl rfl (fun g267 ac wc A265 S266 => ?_)
        have T268 := S266.sub (sub_skip (sub_skip sub_all)) sub_all
        refine r_1 (i := 13) (by kernel_rfl) ?_
        have q273 := le_bd (wyC_ok ez.2.1 ez.2.2.2)
        refine rs_call (fs := #[]) (cp := #[]) (r := [(0, .agg #[.int .i64 rw, .int .i64 rd, .int .i64 rs, .int .i64 rt_]), (0, .agg #[.int .i64 tx, .int .i64 tz]), (0, .agg #[.int .i64 ax, .int .i64 az])]) #[.agg #[.int .i64 rw, .int .i64 rd, .int .i64 rs, .int .i64 rt_], .agg #[.int .i64 tx, .int .i64 tz], .agg #[.int .i64 ax, .int .i64 az]] (.agg #[.int .i64 (leLo (wyC rw rd rs rt_ tx tz ax az)), .int .i64 (mHi (wyC rw rd rs rt_ tx tz ax az))]) A265 S266 (sub_skip (sub_skip sub_all)) sub_all (refLeastTime_s rw rd rs rt_ tx tz ax az _ ez.2.1 ez.2.2.2) Try.call52 rfl rfl (by kernel_rfl) (by kernel_rfl) (by kernel_rfl) rfl (fun ac wc A269 S270 => ?_)
        have T272 := S270.sub (sub_skip (sub_skip sub_all)) sub_all
        refine r_1 (i := 16) (by kernel_rfl) ?_
        refine rs_store (g := g227) (off := 0) (v := .agg #[.int .i64 (leLo (wyC ow od os ot fx fz ax az)), .int .i64 (mHi (wyC ow od os ot fx fz ax az))]) 1 (#[.int .i64 (leLo (wyC ow od os ot fx fz ax az)), .int .i64 (mHi (wyC ow od os ot fx fz ax az))]) A269 S270 (sub_skip (sub_skip sub_all)) sub_all (by kernel_rfl) (by kernel_rfl) rfl (by kernel_rfl) rfl rfl (fun wc S275 => ?_)
        have T277 := S275.sub (sub_skip (sub_skip sub_all)) sub_all
        refine r_1 (i := 17) (by kernel_rfl) ?_
        refine rs_store (g := g267) (off := 0) (v := .agg #[.int .i64 (leLo (wyC rw rd rs rt_ tx tz ax az)), .int .i64 (mHi (wyC rw rd rs rt_ tx tz ax az))]) 0 (#[.int .i64 (leLo (wyC rw rd rs rt_ tx tz ax az)), .int .i64 (mHi (wyC rw rd rs rt_ tx tz ax az))]) A269 S275 (sub_skip (sub_skip sub_all)) sub_all (by kernel_rfl) (by kernel_rfl) rfl (by kernel_rfl) rfl rfl (fun wc S279 => ?_)
        have T281 := S279.sub (sub_skip (sub_skip sub_all)) sub_all
        refine r_done (by kernel_rfl) ?_
        refine n_then ?_
        refine wp_seq ?_
        refine wp_region_lit ?_
        refine s_one (.pointer (some ⟨g227, 0, none⟩)) A269 S279 (g_field (u := .pointer (some ⟨g227, 0, none⟩)) (by kernel_rfl) (fun _ => by kernel_rfl)) rfl (fun ac A282 => ?_)
        refine s_one (.int .i64 (leLo (wyC ow od os ot fx fz ax az))) A282 S279 (g_load (g := g227) (off := 0) 1 (by kernel_rfl) rfl (by kernel_rfl)) rfl (fun ac A283 => ?_)
        refine s_one (.pointer (some ⟨g267, 0, none⟩)) A283 S279 (g_field (u := .pointer (some ⟨g267, 0, none⟩)) (by kernel_rfl) (fun _ => by kernel_rfl)) rfl (fun ac A284 => ?_)
        refine s_one (.int .i64 (leLo (wyC rw rd rs rt_ tx tz ax az))) A284 S279 (g_load (g := g267) (off := 0) 0 (by kernel_rfl) rfl (by kernel_rfl)) rfl (fun ac A285 => ?_)
        refine s_one (.int .i64 (leLo (wyC ow od os ot fx fz ax az) + (leLo (wyC rw rd rs rt_ tx tz ax az)))) A285 S279 (g_bin (u := .int .i64 (leLo (wyC ow od os ot fx fz ax az))) (k := .int .i64 (leLo (wyC rw rd rs rt_ tx tz ax az))) (by kernel_rfl) (by kernel_rfl) (fun _ => by kernel_rfl) (b_add (by omega))) rfl (fun ac A286 => ?_)
        refine s_one (.pointer (some ⟨g227, 1, none⟩)) A286 S279 (g_field (u := .pointer (some ⟨g227, 0, none⟩)) (by kernel_rfl) (fun _ => by kernel_rfl)) rfl (fun ac A287 => ?_)
        refine s_one (.int .i64 (mHi (wyC ow od os ot fx fz ax az))) A287 S279 (g_load (g := g227) (off := 1) 1 (by kernel_rfl) rfl (by kernel_rfl)) rfl (fun ac A288 => ?_)
        refine s_one (.pointer (some ⟨g267, 1, none⟩)) A288 S279 (g_field (u := .pointer (some ⟨g267, 0, none⟩)) (by kernel_rfl) (fun _ => by kernel_rfl)) rfl (fun ac A289 => ?_)
        refine s_one (.int .i64 (mHi (wyC rw rd rs rt_ tx tz ax az))) A289 S279 (g_load (g := g267) (off := 1) 0 (by kernel_rfl) rfl (by kernel_rfl)) rfl (fun ac A290 => ?_)
        refine s_one (.int .i64 (mHi (wyC ow od os ot fx fz ax az) + (mHi (wyC rw rd rs rt_ tx tz ax az)))) A290 S279 (g_bin (u := .int .i64 (mHi (wyC ow od os ot fx fz ax az))) (k := .int .i64 (mHi (wyC rw rd rs rt_ tx tz ax az))) (by kernel_rfl) (by kernel_rfl) (fun _ => by kernel_rfl) (b_add (by omega))) rfl (fun ac A291 => ?_)
        refine s_one (.agg #[.int .i64 (leLo (wyC ow od os ot fx fz ax az) + (leLo (wyC rw rd rs rt_ tx tz ax az))), .int .i64 (mHi (wyC ow od os ot fx fz ax az) + (mHi (wyC rw rd rs rt_ tx tz ax az)))]) A291 S279 (g_build (r := [(0, .int .i64 (leLo (wyC ow od os ot fx fz ax az) + (leLo (wyC rw rd rs rt_ tx tz ax az)))), (1, .int .i64 (mHi (wyC ow od os ot fx fz ax az) + (mHi (wyC rw rd rs rt_ tx tz ax az))))]) (by kernel_rfl) (fun _ => by kernel_rfl)) rfl (fun ac A292 => ?_)
        refine s_store (g := g7) (off := 0) (v := .agg #[.int .i64 (leLo (wyC ow od os ot fx fz ax az) + (leLo (wyC rw rd rs rt_ tx tz ax az))), .int .i64 (mHi (wyC ow od os ot fx fz ax az) + (mHi (wyC rw rd rs rt_ tx tz ax az)))]) 2 (#[.int .i64 (leLo (wyC ow od os ot fx fz ax az) + (leLo (wyC rw rd rs rt_ tx tz ax az))), .int .i64 (mHi (wyC ow od os ot fx fz ax az) + (mHi (wyC rw rd rs rt_ tx tz ax az)))]) A292 S279 (by kernel_rfl) (by kernel_rfl) rfl (by kernel_rfl) (fun wc S294 => ?_)
        refine wpList_nil ?_
        refine n_then ?_
        refine wp_ret ?_
        refine fin1 (.agg #[.int .i64 (leLo (wyC ow od os ot fx fz ax az) + (leLo (wyC rw rd rs rt_ tx tz ax az))), .int .i64 (mHi (wyC ow od os ot fx fz ax az) + (mHi (wyC rw rd rs rt_ tx tz ax az)))]) Try.results44 A292 S294 (rv_cell (g := g7) (off := 0) 2 (by kernel_rfl) rfl (by kernel_rfl)) ⟨?_, S294.kp⟩
        rfl
    · refine rs_alloc (#[.int .i64 0, .int .i64 0]) A225 S226 (sub_skip sub_all) sub_all (by kernel_rfl) rfl rfl rfl (fun g298 ac wc A296 S297 => ?_)
      have T299 := S297.sub (sub_skip (sub_skip sub_all)) sub_all
      refine r_1 (i := 6) (by kernel_rfl) ?_
      have q304 := le_bd (wyC_ok ez.1 ez.2.2.1)
      refine rs_call (fs := #[]) (cp := #[]) (r := [(0, .agg #[.int .i64 ow, .int .i64 od, .int .i64 os, .int .i64 ot]), (0, .agg #[.int .i64 fx, .int .i64 fz]), (0, .agg #[.int .i64 ax, .int .i64 az])]) #[.agg #[.int .i64 ow, .int .i64 od, .int .i64 os, .int .i64 ot], .agg #[.int .i64 fx, .int .i64 fz], .agg #[.int .i64 ax, .int .i64 az]] (.agg #[.int .i64 (leLo (wyC ow od os ot fx fz ax az)), .int .i64 (mHi (wyC ow od os ot fx fz ax az))]) A296 S297 (sub_skip (sub_skip sub_all)) sub_all (refLeastTime_s ow od os ot fx fz ax az _ ez.1 ez.2.2.1) Try.call52 rfl rfl (by kernel_rfl) (by kernel_rfl) (by kernel_rfl) rfl (fun ac wc A300 S301 => ?_)
      have T303 := S301.sub (sub_skip (sub_skip sub_all)) sub_all
      refine r_1 (i := 13) (by kernel_rfl) ?_
      have q309 := le_bd (wyC_ok ez.2.1 ez.2.2.2)
      refine rs_call (fs := #[]) (cp := #[]) (r := [(0, .agg #[.int .i64 rw, .int .i64 rd, .int .i64 rs, .int .i64 rt_]), (0, .agg #[.int .i64 tx, .int .i64 tz]), (0, .agg #[.int .i64 ax, .int .i64 az])]) #[.agg #[.int .i64 rw, .int .i64 rd, .int .i64 rs, .int .i64 rt_], .agg #[.int .i64 tx, .int .i64 tz], .agg #[.int .i64 ax, .int .i64 az]] (.agg #[.int .i64 (leLo (wyC rw rd rs rt_ tx tz ax az)), .int .i64 (mHi (wyC rw rd rs rt_ tx tz ax az))]) A300 S301 (sub_skip (sub_skip sub_all)) sub_all (refLeastTime_s rw rd rs rt_ tx tz ax az _ ez.2.1 ez.2.2.2) Try.call52 rfl rfl (by kernel_rfl) (by kernel_rfl) (by kernel_rfl) rfl (fun ac wc A305 S306 => ?_)
      have T308 := S306.sub (sub_skip (sub_skip sub_all)) sub_all
      refine r_1 (i := 16) (by kernel_rfl) ?_
      refine rs_store (g := g227) (off := 0) (v := .agg #[.int .i64 (leLo (wyC ow od os ot fx fz ax az)), .int .i64 (mHi (wyC ow od os ot fx fz ax az))]) 1 (#[.int .i64 (leLo (wyC ow od os ot fx fz ax az)), .int .i64 (mHi (wyC ow od os ot fx fz ax az))]) A305 S306 (sub_skip (sub_skip sub_all)) sub_all (by kernel_rfl) (by kernel_rfl) rfl (by kernel_rfl) rfl rfl (fun wc S311 => ?_)
      have T313 := S311.sub (sub_skip (sub_skip sub_all)) sub_all
      refine r_1 (i := 17) (by kernel_rfl) ?_
      refine rs_store (g := g298) (off := 0) (v := .agg #[.int .i64 (leLo (wyC rw rd rs rt_ tx tz ax az)), .int .i64 (mHi (wyC rw rd rs rt_ tx tz ax az))]) 0 (#[.int .i64 (leLo (wyC rw rd rs rt_ tx tz ax az)), .int .i64 (mHi (wyC rw rd rs rt_ tx tz ax az))]) A305 S311 (sub_skip (sub_skip sub_all)) sub_all (by kernel_rfl) (by kernel_rfl) rfl (by kernel_rfl) rfl rfl (fun wc S315 => ?_)
      have T317 := S315.sub (sub_skip (sub_skip sub_all)) sub_all
      refine r_done (by kernel_rfl) ?_
      refine n_then ?_
      refine wp_seq ?_
      refine wp_region_lit ?_
      refine s_one (.pointer (some ⟨g227, 0, none⟩)) A305 S315 (g_field (u := .pointer (some ⟨g227, 0, none⟩)) (by kernel_rfl) (fun _ => by kernel_rfl)) rfl (fun ac A318 => ?_)
      refine s_one (.int .i64 (leLo (wyC ow od os ot fx fz ax az))) A318 S315 (g_load (g := g227) (off := 0) 1 (by kernel_rfl) rfl (by kernel_rfl)) rfl (fun ac A319 => ?_)
      refine s_one (.pointer (some ⟨g298, 0, none⟩)) A319 S315 (g_field (u := .pointer (some ⟨g298, 0, none⟩)) (by kernel_rfl) (fun _ => by kernel_rfl)) rfl (fun ac A320 => ?_)
      refine s_one (.int .i64 (leLo (wyC rw rd rs rt_ tx tz ax az))) A320 S315 (g_load (g := g298) (off := 0) 0 (by kernel_rfl) rfl (by kernel_rfl)) rfl (fun ac A321 => ?_)
      refine s_one (.int .i64 (leLo (wyC ow od os ot fx fz ax az) + (leLo (wyC rw rd rs rt_ tx tz ax az)))) A321 S315 (g_bin (u := .int .i64 (leLo (wyC ow od os ot fx fz ax az))) (k := .int .i64 (leLo (wyC rw rd rs rt_ tx tz ax az))) (by kernel_rfl) (by kernel_rfl) (fun _ => by kernel_rfl) (b_add (by omega))) rfl (fun ac A322 => ?_)
      refine s_one (.pointer (some ⟨g227, 1, none⟩)) A322 S315 (g_field (u := .pointer (some ⟨g227, 0, none⟩)) (by kernel_rfl) (fun _ => by kernel_rfl)) rfl (fun ac A323 => ?_)
      refine s_one (.int .i64 (mHi (wyC ow od os ot fx fz ax az))) A323 S315 (g_load (g := g227) (off := 1) 1 (by kernel_rfl) rfl (by kernel_rfl)) rfl (fun ac A324 => ?_)
      refine s_one (.pointer (some ⟨g298, 1, none⟩)) A324 S315 (g_field (u := .pointer (some ⟨g298, 0, none⟩)) (by kernel_rfl) (fun _ => by kernel_rfl)) rfl (fun ac A325 => ?_)
      refine s_one (.int .i64 (mHi (wyC rw rd rs rt_ tx tz ax az))) A325 S315 (g_load (g := g298) (off := 1) 0 (by kernel_rfl) rfl (by kernel_rfl)) rfl (fun ac A326 => ?_)
      refine s_one (.int .i64 (mHi (wyC ow od os ot fx fz ax az) + (mHi (wyC rw rd rs rt_ tx tz ax az)))) A326 S315 (g_bin (u := .int .i64 (mHi (wyC ow od os ot fx fz ax az))) (k := .int .i64 (mHi (wyC rw rd rs rt_ tx tz ax az))) (by kernel_rfl) (by kernel_rfl) (fun _ => by kernel_rfl) (b_add (by omega))) rfl (fun ac A327 => ?_)
      refine s_one (.agg #[.int .i64 (leLo (wyC ow od os ot fx fz ax az) + (leLo (wyC rw rd rs rt_ tx tz ax az))), .int .i64 (mHi (wyC ow od os ot fx fz ax az) + (mHi (wyC rw rd rs rt_ tx tz ax az)))]) A327 S315 (g_build (r := [(0, .int .i64 (leLo (wyC ow od os ot fx fz ax az) + (leLo (wyC rw rd rs rt_ tx tz ax az)))), (1, .int .i64 (mHi (wyC ow od os ot fx fz ax az) + (mHi (wyC rw rd rs rt_ tx tz ax az))))]) (by kernel_rfl) (fun _ => by kernel_rfl)) rfl (fun ac A328 => ?_)
      refine s_store (g := g7) (off := 0) (v := .agg #[.int .i64 (leLo (wyC ow od os ot fx fz ax az) + (leLo (wyC rw rd rs rt_ tx tz ax az))), .int .i64 (mHi (wyC ow od os ot fx fz ax az) + (mHi (wyC rw rd rs rt_ tx tz ax az)))]) 2 (#[.int .i64 (leLo (wyC ow od os ot fx fz ax az) + (leLo (wyC rw rd rs rt_ tx tz ax az))), .int .i64 (mHi (wyC ow od os ot fx fz ax az) + (mHi (wyC rw rd rs rt_ tx tz ax az)))]) A328 S315 (by kernel_rfl) (by kernel_rfl) rfl (by kernel_rfl) (fun wc S330 => ?_)
      refine wpList_nil ?_
      refine n_then ?_
      refine wp_ret ?_
      refine fin1 (.agg #[.int .i64 (leLo (wyC ow od os ot fx fz ax az) + (leLo (wyC rw rd rs rt_ tx tz ax az))), .int .i64 (mHi (wyC ow od os ot fx fz ax az) + (mHi (wyC rw rd rs rt_ tx tz ax az)))]) Try.results44 A328 S330 (rv_cell (g := g7) (off := 0) 2 (by kernel_rfl) rfl (by kernel_rfl)) ⟨?_, S330.kp⟩
      rfl
  · refine rs_alloc (#[.int .i64 0, .int .i64 0]) A22 S10 sub_all sub_all (by kernel_rfl) rfl rfl rfl (fun g334 ac wc A332 S333 => ?_)
    have T335 := S333.sub (sub_skip sub_all) sub_all
    refine r_2 (i := 6) (j := 14) (by kernel_rfl) ?_ ?_
    · have q340 := le_bd (wyC_ok ez.1 ez.2.2.1)
      refine rs_call (fs := #[]) (cp := #[]) (r := [(0, .agg #[.int .i64 ow, .int .i64 od, .int .i64 os, .int .i64 ot]), (0, .agg #[.int .i64 fx, .int .i64 fz]), (0, .agg #[.int .i64 ax, .int .i64 az])]) #[.agg #[.int .i64 ow, .int .i64 od, .int .i64 os, .int .i64 ot], .agg #[.int .i64 fx, .int .i64 fz], .agg #[.int .i64 ax, .int .i64 az]] (.agg #[.int .i64 (leLo (wyC ow od os ot fx fz ax az)), .int .i64 (mHi (wyC ow od os ot fx fz ax az))]) A332 S333 (sub_skip sub_all) sub_all (refLeastTime_s ow od os ot fx fz ax az _ ez.1 ez.2.2.1) Try.call52 rfl rfl (by kernel_rfl) (by kernel_rfl) (by kernel_rfl) rfl (fun ac wc A336 S337 => ?_)
      have T339 := S337.sub (sub_skip sub_all) sub_all
      refine r_2 (i := 13) (j := 14) (by kernel_rfl) ?_ ?_
      · have q345 := le_bd (wyC_ok ez.2.1 ez.2.2.2)
        refine rs_call (fs := #[]) (cp := #[]) (r := [(0, .agg #[.int .i64 rw, .int .i64 rd, .int .i64 rs, .int .i64 rt_]), (0, .agg #[.int .i64 tx, .int .i64 tz]), (0, .agg #[.int .i64 ax, .int .i64 az])]) #[.agg #[.int .i64 rw, .int .i64 rd, .int .i64 rs, .int .i64 rt_], .agg #[.int .i64 tx, .int .i64 tz], .agg #[.int .i64 ax, .int .i64 az]] (.agg #[.int .i64 (leLo (wyC rw rd rs rt_ tx tz ax az)), .int .i64 (mHi (wyC rw rd rs rt_ tx tz ax az))]) A336 S337 (sub_skip sub_all) sub_all (refLeastTime_s rw rd rs rt_ tx tz ax az _ ez.2.1 ez.2.2.2) Try.call52 rfl rfl (by kernel_rfl) (by kernel_rfl) (by kernel_rfl) rfl (fun ac wc A341 S342 => ?_)
        have T344 := S342.sub (sub_skip sub_all) sub_all
        refine r_1 (i := 14) (by kernel_rfl) ?_
        refine rs_alloc (#[.int .i64 0, .int .i64 0]) A341 S342 (sub_skip sub_all) sub_all (by kernel_rfl) rfl rfl rfl (fun g348 ac wc A346 S347 => ?_)
        have T349 := S347.sub (sub_skip (sub_skip sub_all)) sub_all
        refine r_1 (i := 16) (by kernel_rfl) ?_
        refine rs_store (g := g348) (off := 0) (v := .agg #[.int .i64 (leLo (wyC ow od os ot fx fz ax az)), .int .i64 (mHi (wyC ow od os ot fx fz ax az))]) 0 (#[.int .i64 (leLo (wyC ow od os ot fx fz ax az)), .int .i64 (mHi (wyC ow od os ot fx fz ax az))]) A346 S347 (sub_skip (sub_skip sub_all)) sub_all (by kernel_rfl) (by kernel_rfl) rfl (by kernel_rfl) rfl rfl (fun wc S351 => ?_)
        have T353 := S351.sub (sub_skip (sub_skip sub_all)) sub_all
        refine r_1 (i := 17) (by kernel_rfl) ?_
        refine rs_store (g := g334) (off := 0) (v := .agg #[.int .i64 (leLo (wyC rw rd rs rt_ tx tz ax az)), .int .i64 (mHi (wyC rw rd rs rt_ tx tz ax az))]) 1 (#[.int .i64 (leLo (wyC rw rd rs rt_ tx tz ax az)), .int .i64 (mHi (wyC rw rd rs rt_ tx tz ax az))]) A346 S351 (sub_skip (sub_skip sub_all)) sub_all (by kernel_rfl) (by kernel_rfl) rfl (by kernel_rfl) rfl rfl (fun wc S355 => ?_)
        have T357 := S355.sub (sub_skip (sub_skip sub_all)) sub_all
        refine r_done (by kernel_rfl) ?_
        refine n_then ?_
        refine wp_seq ?_
        refine wp_region_lit ?_
        refine s_one (.pointer (some ⟨g348, 0, none⟩)) A346 S355 (g_field (u := .pointer (some ⟨g348, 0, none⟩)) (by kernel_rfl) (fun _ => by kernel_rfl)) rfl (fun ac A358 => ?_)
        refine s_one (.int .i64 (leLo (wyC ow od os ot fx fz ax az))) A358 S355 (g_load (g := g348) (off := 0) 0 (by kernel_rfl) rfl (by kernel_rfl)) rfl (fun ac A359 => ?_)
        refine s_one (.pointer (some ⟨g334, 0, none⟩)) A359 S355 (g_field (u := .pointer (some ⟨g334, 0, none⟩)) (by kernel_rfl) (fun _ => by kernel_rfl)) rfl (fun ac A360 => ?_)
        refine s_one (.int .i64 (leLo (wyC rw rd rs rt_ tx tz ax az))) A360 S355 (g_load (g := g334) (off := 0) 1 (by kernel_rfl) rfl (by kernel_rfl)) rfl (fun ac A361 => ?_)
        refine s_one (.int .i64 (leLo (wyC ow od os ot fx fz ax az) + (leLo (wyC rw rd rs rt_ tx tz ax az)))) A361 S355 (g_bin (u := .int .i64 (leLo (wyC ow od os ot fx fz ax az))) (k := .int .i64 (leLo (wyC rw rd rs rt_ tx tz ax az))) (by kernel_rfl) (by kernel_rfl) (fun _ => by kernel_rfl) (b_add (by omega))) rfl (fun ac A362 => ?_)
        refine s_one (.pointer (some ⟨g348, 1, none⟩)) A362 S355 (g_field (u := .pointer (some ⟨g348, 0, none⟩)) (by kernel_rfl) (fun _ => by kernel_rfl)) rfl (fun ac A363 => ?_)
        refine s_one (.int .i64 (mHi (wyC ow od os ot fx fz ax az))) A363 S355 (g_load (g := g348) (off := 1) 0 (by kernel_rfl) rfl (by kernel_rfl)) rfl (fun ac A364 => ?_)
        refine s_one (.pointer (some ⟨g334, 1, none⟩)) A364 S355 (g_field (u := .pointer (some ⟨g334, 0, none⟩)) (by kernel_rfl) (fun _ => by kernel_rfl)) rfl (fun ac A365 => ?_)
        refine s_one (.int .i64 (mHi (wyC rw rd rs rt_ tx tz ax az))) A365 S355 (g_load (g := g334) (off := 1) 1 (by kernel_rfl) rfl (by kernel_rfl)) rfl (fun ac A366 => ?_)
        refine s_one (.int .i64 (mHi (wyC ow od os ot fx fz ax az) + (mHi (wyC rw rd rs rt_ tx tz ax az)))) A366 S355 (g_bin (u := .int .i64 (mHi (wyC ow od os ot fx fz ax az))) (k := .int .i64 (mHi (wyC rw rd rs rt_ tx tz ax az))) (by kernel_rfl) (by kernel_rfl) (fun _ => by kernel_rfl) (b_add (by omega))) rfl (fun ac A367 => ?_)
        refine s_one (.agg #[.int .i64 (leLo (wyC ow od os ot fx fz ax az) + (leLo (wyC rw rd rs rt_ tx tz ax az))), .int .i64 (mHi (wyC ow od os ot fx fz ax az) + (mHi (wyC rw rd rs rt_ tx tz ax az)))]) A367 S355 (g_build (r := [(0, .int .i64 (leLo (wyC ow od os ot fx fz ax az) + (leLo (wyC rw rd rs rt_ tx tz ax az)))), (1, .int .i64 (mHi (wyC ow od os ot fx fz ax az) + (mHi (wyC rw rd rs rt_ tx tz ax az))))]) (by kernel_rfl) (fun _ => by kernel_rfl)) rfl (fun ac A368 => ?_)
        refine s_store (g := g7) (off := 0) (v := .agg #[.int .i64 (leLo (wyC ow od os ot fx fz ax az) + (leLo (wyC rw rd rs rt_ tx tz ax az))), .int .i64 (mHi (wyC ow od os ot fx fz ax az) + (mHi (wyC rw rd rs rt_ tx tz ax az)))]) 2 (#[.int .i64 (leLo (wyC ow od os ot fx fz ax az) + (leLo (wyC rw rd rs rt_ tx tz ax az))), .int .i64 (mHi (wyC ow od os ot fx fz ax az) + (mHi (wyC rw rd rs rt_ tx tz ax az)))]) A368 S355 (by kernel_rfl) (by kernel_rfl) rfl (by kernel_rfl) (fun wc S370 => ?_)
        refine wpList_nil ?_
        refine n_then ?_
        refine wp_ret ?_
        refine fin1 (.agg #[.int .i64 (leLo (wyC ow od os ot fx fz ax az) + (leLo (wyC rw rd rs rt_ tx tz ax az))), .int .i64 (mHi (wyC ow od os ot fx fz ax az) + (mHi (wyC rw rd rs rt_ tx tz ax az)))]) Try.results44 A368 S370 (rv_cell (g := g7) (off := 0) 2 (by kernel_rfl) rfl (by kernel_rfl)) ⟨?_, S370.kp⟩
        rfl
      · refine rs_alloc (#[.int .i64 0, .int .i64 0]) A336 S337 (sub_skip sub_all) sub_all (by kernel_rfl) rfl rfl rfl (fun g374 ac wc A372 S373 => ?_)
        have T375 := S373.sub (sub_skip (sub_skip sub_all)) sub_all
        refine r_1 (i := 13) (by kernel_rfl) ?_
        have q380 := le_bd (wyC_ok ez.2.1 ez.2.2.2)
        refine rs_call (fs := #[]) (cp := #[]) (r := [(0, .agg #[.int .i64 rw, .int .i64 rd, .int .i64 rs, .int .i64 rt_]), (0, .agg #[.int .i64 tx, .int .i64 tz]), (0, .agg #[.int .i64 ax, .int .i64 az])]) #[.agg #[.int .i64 rw, .int .i64 rd, .int .i64 rs, .int .i64 rt_], .agg #[.int .i64 tx, .int .i64 tz], .agg #[.int .i64 ax, .int .i64 az]] (.agg #[.int .i64 (leLo (wyC rw rd rs rt_ tx tz ax az)), .int .i64 (mHi (wyC rw rd rs rt_ tx tz ax az))]) A372 S373 (sub_skip (sub_skip sub_all)) sub_all (refLeastTime_s rw rd rs rt_ tx tz ax az _ ez.2.1 ez.2.2.2) Try.call52 rfl rfl (by kernel_rfl) (by kernel_rfl) (by kernel_rfl) rfl (fun ac wc A376 S377 => ?_)
        have T379 := S377.sub (sub_skip (sub_skip sub_all)) sub_all
        refine r_1 (i := 16) (by kernel_rfl) ?_
        refine rs_store (g := g374) (off := 0) (v := .agg #[.int .i64 (leLo (wyC ow od os ot fx fz ax az)), .int .i64 (mHi (wyC ow od os ot fx fz ax az))]) 0 (#[.int .i64 (leLo (wyC ow od os ot fx fz ax az)), .int .i64 (mHi (wyC ow od os ot fx fz ax az))]) A376 S377 (sub_skip (sub_skip sub_all)) sub_all (by kernel_rfl) (by kernel_rfl) rfl (by kernel_rfl) rfl rfl (fun wc S382 => ?_)
        have T384 := S382.sub (sub_skip (sub_skip sub_all)) sub_all
        refine r_1 (i := 17) (by kernel_rfl) ?_
        refine rs_store (g := g334) (off := 0) (v := .agg #[.int .i64 (leLo (wyC rw rd rs rt_ tx tz ax az)), .int .i64 (mHi (wyC rw rd rs rt_ tx tz ax az))]) 1 (#[.int .i64 (leLo (wyC rw rd rs rt_ tx tz ax az)), .int .i64 (mHi (wyC rw rd rs rt_ tx tz ax az))]) A376 S382 (sub_skip (sub_skip sub_all)) sub_all (by kernel_rfl) (by kernel_rfl) rfl (by kernel_rfl) rfl rfl (fun wc S386 => ?_)
        have T388 := S386.sub (sub_skip (sub_skip sub_all)) sub_all
        refine r_done (by kernel_rfl) ?_
        refine n_then ?_
        refine wp_seq ?_
        refine wp_region_lit ?_
        refine s_one (.pointer (some ⟨g374, 0, none⟩)) A376 S386 (g_field (u := .pointer (some ⟨g374, 0, none⟩)) (by kernel_rfl) (fun _ => by kernel_rfl)) rfl (fun ac A389 => ?_)
        refine s_one (.int .i64 (leLo (wyC ow od os ot fx fz ax az))) A389 S386 (g_load (g := g374) (off := 0) 0 (by kernel_rfl) rfl (by kernel_rfl)) rfl (fun ac A390 => ?_)
        refine s_one (.pointer (some ⟨g334, 0, none⟩)) A390 S386 (g_field (u := .pointer (some ⟨g334, 0, none⟩)) (by kernel_rfl) (fun _ => by kernel_rfl)) rfl (fun ac A391 => ?_)
        refine s_one (.int .i64 (leLo (wyC rw rd rs rt_ tx tz ax az))) A391 S386 (g_load (g := g334) (off := 0) 1 (by kernel_rfl) rfl (by kernel_rfl)) rfl (fun ac A392 => ?_)
        refine s_one (.int .i64 (leLo (wyC ow od os ot fx fz ax az) + (leLo (wyC rw rd rs rt_ tx tz ax az)))) A392 S386 (g_bin (u := .int .i64 (leLo (wyC ow od os ot fx fz ax az))) (k := .int .i64 (leLo (wyC rw rd rs rt_ tx tz ax az))) (by kernel_rfl) (by kernel_rfl) (fun _ => by kernel_rfl) (b_add (by omega))) rfl (fun ac A393 => ?_)
        refine s_one (.pointer (some ⟨g374, 1, none⟩)) A393 S386 (g_field (u := .pointer (some ⟨g374, 0, none⟩)) (by kernel_rfl) (fun _ => by kernel_rfl)) rfl (fun ac A394 => ?_)
        refine s_one (.int .i64 (mHi (wyC ow od os ot fx fz ax az))) A394 S386 (g_load (g := g374) (off := 1) 0 (by kernel_rfl) rfl (by kernel_rfl)) rfl (fun ac A395 => ?_)
        refine s_one (.pointer (some ⟨g334, 1, none⟩)) A395 S386 (g_field (u := .pointer (some ⟨g334, 0, none⟩)) (by kernel_rfl) (fun _ => by kernel_rfl)) rfl (fun ac A396 => ?_)
        refine s_one (.int .i64 (mHi (wyC rw rd rs rt_ tx tz ax az))) A396 S386 (g_load (g := g334) (off := 1) 1 (by kernel_rfl) rfl (by kernel_rfl)) rfl (fun ac A397 => ?_)
        refine s_one (.int .i64 (mHi (wyC ow od os ot fx fz ax az) + (mHi (wyC rw rd rs rt_ tx tz ax az)))) A397 S386 (g_bin (u := .int .i64 (mHi (wyC ow od os ot fx fz ax az))) (k := .int .i64 (mHi (wyC rw rd rs rt_ tx tz ax az))) (by kernel_rfl) (by kernel_rfl) (fun _ => by kernel_rfl) (b_add (by omega))) rfl (fun ac A398 => ?_)
        refine s_one (.agg #[.int .i64 (leLo (wyC ow od os ot fx fz ax az) + (leLo (wyC rw rd rs rt_ tx tz ax az))), .int .i64 (mHi (wyC ow od os ot fx fz ax az) + (mHi (wyC rw rd rs rt_ tx tz ax az)))]) A398 S386 (g_build (r := [(0, .int .i64 (leLo (wyC ow od os ot fx fz ax az) + (leLo (wyC rw rd rs rt_ tx tz ax az)))), (1, .int .i64 (mHi (wyC ow od os ot fx fz ax az) + (mHi (wyC rw rd rs rt_ tx tz ax az))))]) (by kernel_rfl) (fun _ => by kernel_rfl)) rfl (fun ac A399 => ?_)
        refine s_store (g := g7) (off := 0) (v := .agg #[.int .i64 (leLo (wyC ow od os ot fx fz ax az) + (leLo (wyC rw rd rs rt_ tx tz ax az))), .int .i64 (mHi (wyC ow od os ot fx fz ax az) + (mHi (wyC rw rd rs rt_ tx tz ax az)))]) 2 (#[.int .i64 (leLo (wyC ow od os ot fx fz ax az) + (leLo (wyC rw rd rs rt_ tx tz ax az))), .int .i64 (mHi (wyC ow od os ot fx fz ax az) + (mHi (wyC rw rd rs rt_ tx tz ax az)))]) A399 S386 (by kernel_rfl) (by kernel_rfl) rfl (by kernel_rfl) (fun wc S401 => ?_)
        refine wpList_nil ?_
        refine n_then ?_
        refine wp_ret ?_
        refine fin1 (.agg #[.int .i64 (leLo (wyC ow od os ot fx fz ax az) + (leLo (wyC rw rd rs rt_ tx tz ax az))), .int .i64 (mHi (wyC ow od os ot fx fz ax az) + (mHi (wyC rw rd rs rt_ tx tz ax az)))]) Try.results44 A399 S401 (rv_cell (g := g7) (off := 0) 2 (by kernel_rfl) rfl (by kernel_rfl)) ⟨?_, S401.kp⟩
        rfl
    · refine rs_alloc (#[.int .i64 0, .int .i64 0]) A332 S333 (sub_skip sub_all) sub_all (by kernel_rfl) rfl rfl rfl (fun g405 ac wc A403 S404 => ?_)
      have T406 := S404.sub (sub_skip (sub_skip sub_all)) sub_all
      refine r_1 (i := 6) (by kernel_rfl) ?_
      have q411 := le_bd (wyC_ok ez.1 ez.2.2.1)
      refine rs_call (fs := #[]) (cp := #[]) (r := [(0, .agg #[.int .i64 ow, .int .i64 od, .int .i64 os, .int .i64 ot]), (0, .agg #[.int .i64 fx, .int .i64 fz]), (0, .agg #[.int .i64 ax, .int .i64 az])]) #[.agg #[.int .i64 ow, .int .i64 od, .int .i64 os, .int .i64 ot], .agg #[.int .i64 fx, .int .i64 fz], .agg #[.int .i64 ax, .int .i64 az]] (.agg #[.int .i64 (leLo (wyC ow od os ot fx fz ax az)), .int .i64 (mHi (wyC ow od os ot fx fz ax az))]) A403 S404 (sub_skip (sub_skip sub_all)) sub_all (refLeastTime_s ow od os ot fx fz ax az _ ez.1 ez.2.2.1) Try.call52 rfl rfl (by kernel_rfl) (by kernel_rfl) (by kernel_rfl) rfl (fun ac wc A407 S408 => ?_)
      have T410 := S408.sub (sub_skip (sub_skip sub_all)) sub_all
      refine r_1 (i := 13) (by kernel_rfl) ?_
      have q416 := le_bd (wyC_ok ez.2.1 ez.2.2.2)
      refine rs_call (fs := #[]) (cp := #[]) (r := [(0, .agg #[.int .i64 rw, .int .i64 rd, .int .i64 rs, .int .i64 rt_]), (0, .agg #[.int .i64 tx, .int .i64 tz]), (0, .agg #[.int .i64 ax, .int .i64 az])]) #[.agg #[.int .i64 rw, .int .i64 rd, .int .i64 rs, .int .i64 rt_], .agg #[.int .i64 tx, .int .i64 tz], .agg #[.int .i64 ax, .int .i64 az]] (.agg #[.int .i64 (leLo (wyC rw rd rs rt_ tx tz ax az)), .int .i64 (mHi (wyC rw rd rs rt_ tx tz ax az))]) A407 S408 (sub_skip (sub_skip sub_all)) sub_all (refLeastTime_s rw rd rs rt_ tx tz ax az _ ez.2.1 ez.2.2.2) Try.call52 rfl rfl (by kernel_rfl) (by kernel_rfl) (by kernel_rfl) rfl (fun ac wc A412 S413 => ?_)
      have T415 := S413.sub (sub_skip (sub_skip sub_all)) sub_all
      refine r_1 (i := 16) (by kernel_rfl) ?_
      refine rs_store (g := g405) (off := 0) (v := .agg #[.int .i64 (leLo (wyC ow od os ot fx fz ax az)), .int .i64 (mHi (wyC ow od os ot fx fz ax az))]) 0 (#[.int .i64 (leLo (wyC ow od os ot fx fz ax az)), .int .i64 (mHi (wyC ow od os ot fx fz ax az))]) A412 S413 (sub_skip (sub_skip sub_all)) sub_all (by kernel_rfl) (by kernel_rfl) rfl (by kernel_rfl) rfl rfl (fun wc S418 => ?_)
      have T420 := S418.sub (sub_skip (sub_skip sub_all)) sub_all
      refine r_1 (i := 17) (by kernel_rfl) ?_
      refine rs_store (g := g334) (off := 0) (v := .agg #[.int .i64 (leLo (wyC rw rd rs rt_ tx tz ax az)), .int .i64 (mHi (wyC rw rd rs rt_ tx tz ax az))]) 1 (#[.int .i64 (leLo (wyC rw rd rs rt_ tx tz ax az)), .int .i64 (mHi (wyC rw rd rs rt_ tx tz ax az))]) A412 S418 (sub_skip (sub_skip sub_all)) sub_all (by kernel_rfl) (by kernel_rfl) rfl (by kernel_rfl) rfl rfl (fun wc S422 => ?_)
      have T424 := S422.sub (sub_skip (sub_skip sub_all)) sub_all
      refine r_done (by kernel_rfl) ?_
      refine n_then ?_
      refine wp_seq ?_
      refine wp_region_lit ?_
      refine s_one (.pointer (some ⟨g405, 0, none⟩)) A412 S422 (g_field (u := .pointer (some ⟨g405, 0, none⟩)) (by kernel_rfl) (fun _ => by kernel_rfl)) rfl (fun ac A425 => ?_)
      refine s_one (.int .i64 (leLo (wyC ow od os ot fx fz ax az))) A425 S422 (g_load (g := g405) (off := 0) 0 (by kernel_rfl) rfl (by kernel_rfl)) rfl (fun ac A426 => ?_)
      refine s_one (.pointer (some ⟨g334, 0, none⟩)) A426 S422 (g_field (u := .pointer (some ⟨g334, 0, none⟩)) (by kernel_rfl) (fun _ => by kernel_rfl)) rfl (fun ac A427 => ?_)
      refine s_one (.int .i64 (leLo (wyC rw rd rs rt_ tx tz ax az))) A427 S422 (g_load (g := g334) (off := 0) 1 (by kernel_rfl) rfl (by kernel_rfl)) rfl (fun ac A428 => ?_)
      refine s_one (.int .i64 (leLo (wyC ow od os ot fx fz ax az) + (leLo (wyC rw rd rs rt_ tx tz ax az)))) A428 S422 (g_bin (u := .int .i64 (leLo (wyC ow od os ot fx fz ax az))) (k := .int .i64 (leLo (wyC rw rd rs rt_ tx tz ax az))) (by kernel_rfl) (by kernel_rfl) (fun _ => by kernel_rfl) (b_add (by omega))) rfl (fun ac A429 => ?_)
      refine s_one (.pointer (some ⟨g405, 1, none⟩)) A429 S422 (g_field (u := .pointer (some ⟨g405, 0, none⟩)) (by kernel_rfl) (fun _ => by kernel_rfl)) rfl (fun ac A430 => ?_)
      refine s_one (.int .i64 (mHi (wyC ow od os ot fx fz ax az))) A430 S422 (g_load (g := g405) (off := 1) 0 (by kernel_rfl) rfl (by kernel_rfl)) rfl (fun ac A431 => ?_)
      refine s_one (.pointer (some ⟨g334, 1, none⟩)) A431 S422 (g_field (u := .pointer (some ⟨g334, 0, none⟩)) (by kernel_rfl) (fun _ => by kernel_rfl)) rfl (fun ac A432 => ?_)
      refine s_one (.int .i64 (mHi (wyC rw rd rs rt_ tx tz ax az))) A432 S422 (g_load (g := g334) (off := 1) 1 (by kernel_rfl) rfl (by kernel_rfl)) rfl (fun ac A433 => ?_)
      refine s_one (.int .i64 (mHi (wyC ow od os ot fx fz ax az) + (mHi (wyC rw rd rs rt_ tx tz ax az)))) A433 S422 (g_bin (u := .int .i64 (mHi (wyC ow od os ot fx fz ax az))) (k := .int .i64 (mHi (wyC rw rd rs rt_ tx tz ax az))) (by kernel_rfl) (by kernel_rfl) (fun _ => by kernel_rfl) (b_add (by omega))) rfl (fun ac A434 => ?_)
      refine s_one (.agg #[.int .i64 (leLo (wyC ow od os ot fx fz ax az) + (leLo (wyC rw rd rs rt_ tx tz ax az))), .int .i64 (mHi (wyC ow od os ot fx fz ax az) + (mHi (wyC rw rd rs rt_ tx tz ax az)))]) A434 S422 (g_build (r := [(0, .int .i64 (leLo (wyC ow od os ot fx fz ax az) + (leLo (wyC rw rd rs rt_ tx tz ax az)))), (1, .int .i64 (mHi (wyC ow od os ot fx fz ax az) + (mHi (wyC rw rd rs rt_ tx tz ax az))))]) (by kernel_rfl) (fun _ => by kernel_rfl)) rfl (fun ac A435 => ?_)
      refine s_store (g := g7) (off := 0) (v := .agg #[.int .i64 (leLo (wyC ow od os ot fx fz ax az) + (leLo (wyC rw rd rs rt_ tx tz ax az))), .int .i64 (mHi (wyC ow od os ot fx fz ax az) + (mHi (wyC rw rd rs rt_ tx tz ax az)))]) 2 (#[.int .i64 (leLo (wyC ow od os ot fx fz ax az) + (leLo (wyC rw rd rs rt_ tx tz ax az))), .int .i64 (mHi (wyC ow od os ot fx fz ax az) + (mHi (wyC rw rd rs rt_ tx tz ax az)))]) A435 S422 (by kernel_rfl) (by kernel_rfl) rfl (by kernel_rfl) (fun wc S437 => ?_)
      refine wpList_nil ?_
      refine n_then ?_
      refine wp_ret ?_
      refine fin1 (.agg #[.int .i64 (leLo (wyC ow od os ot fx fz ax az) + (leLo (wyC rw rd rs rt_ tx tz ax az))), .int .i64 (mHi (wyC ow od os ot fx fz ax az) + (mHi (wyC rw rd rs rt_ tx tz ax az)))]) Try.results44 A435 S437 (rv_cell (g := g7) (off := 0) 2 (by kernel_rfl) rfl (by kernel_rfl)) ⟨?_, S437.kp⟩
      rfl

end Go.Proofs.Ytnfmfkejhgbipaa
