/- Legs, references of modes and ways of chapter 1. -/
import Derived.Test.YtnfmfkejhgbipaaRay7
namespace Go.Proofs.Ytnfmfkejhgbipaa
open Go.RowKit Go.Cpl Go.Ray1

theorem fo_app (l r : List Int) : firstOf (l ++ r) = if firstOf l = 0 then firstOf r else firstOf l := by
  induction l with
  | nil => simp [firstOf]
  | cons e l ih =>
    by_cases h : e = 0
    · subst h; rw [List.cons_append, fo_cons0 rfl, fo_cons0 rfl, ih]
    · rw [List.cons_append, fo_ne h, fo_ne h, if_neg h]
theorem fo_a {l r : List Int} (h : firstOf l ≠ 0) : firstOf (l ++ r) = firstOf l := by rw [fo_app, if_neg h]
theorem fo_b {l r : List Int} (h : firstOf l = 0) : firstOf (l ++ r) = firstOf r := by rw [fo_app, if_pos h]
theorem must_t (e : Int) : must_a_r true e = 0 := rfl
theorem must_f (e : Int) : must_a_r false e = e := rfl
def lgE (ax az bx bz : Int) : Int := firstOf [spE ax az, spE bx bz]
def tmE (ax az bx bz v : Int) : Int := firstOf [spE ax az, spE bx bz, veE v]
theorem lgE_0 {ax az bx bz : Int} (h : lgE ax az bx bz = 0) : ((-100000 ≤ ax ∧ ax ≤ 100000) ∧ (-100000 ≤ az ∧ az ≤ 100000)) ∧ (-100000 ≤ bx ∧ bx ≤ 100000) ∧ (-100000 ≤ bz ∧ bz ≤ 100000) := by
  obtain ⟨h1, h⟩ := fo_zero h
  rw [fo_last] at h
  exact ⟨spE_0 h1, spE_0 h⟩
theorem tmE_0 {ax az bx bz v : Int} (h : tmE ax az bx bz v = 0) : (((-100000 ≤ ax ∧ ax ≤ 100000) ∧ (-100000 ≤ az ∧ az ≤ 100000)) ∧ (-100000 ≤ bx ∧ bx ≤ 100000) ∧ (-100000 ≤ bz ∧ bz ≤ 100000)) ∧ 500 ≤ v ∧ v ≤ 10000 := by
  obtain ⟨h1, h⟩ := fo_zero h
  obtain ⟨h2, h⟩ := fo_zero h
  rw [fo_last] at h
  exact ⟨⟨spE_0 h1, spE_0 h2⟩, veE_0 h⟩
def wr (x : Int) : Int := IntKind.i64.wrap x
theorem wr_in {x : Int} (h : -9223372036854775808 ≤ x ∧ x ≤ 9223372036854775807) : wr x = x := IntWalk.i64_in _ h
theorem b_subW {P : Program} {t : TypeId} {x y : Int} (w : World) : (binOp .sub t (.int .i64 x) (.int .i64 y)).run P w = .ok (.int .i64 (wr (x - y))) w := rfl

set_option maxRecDepth 100000 in
set_option maxHeartbeats 400000 in
theorem Length_s (ax az bx bz : Int) (w0 : World) :
    Calls Try.prog 34 #[.agg #[.int .i64 ax, .int .i64 az], .agg #[.int .i64 bx, .int .i64 bz]] w0 fun e w' => e = .returned (.tuple #[.agg #[.int .i64 (zv (lgE ax az bx bz) (lenL (ax - bx) (az - bz))), .int .i64 (zv (lgE ax az bx bz) (lenU (ax - bx) (az - bz)))], .int .i64 (lgE ax az bx bz)]) ∧ Below w0.heap.size w0 w' := by
  have S0 := St.start w0
  refine enter (n := 28) Try.func34 rfl rfl rfl (fun ac A0 => ?_)
  refine wp_seq ?_
  refine wp_region_lit ?_
  refine s_box (.agg #[.int .i64 ax, .int .i64 az]) A0 S0 (by kernel_rfl) rfl (fun g3 ac wc A1 S2 => ?_)
  replace S2 : St _ (⟨g3, 41, #[.int .i64 ax, .int .i64 az], true⟩ :: _) _ _ := S2
  refine s_box (.agg #[.int .i64 bx, .int .i64 bz]) A1 S2 (by kernel_rfl) rfl (fun g7 ac wc A5 S6 => ?_)
  replace S6 : St _ (⟨g7, 41, #[.int .i64 bx, .int .i64 bz], true⟩ :: _) _ _ := S6
  refine s_alloc (#[.int .i64 0, .int .i64 0]) A5 S6 (by kernel_rfl) rfl (fun g11 ac wc A9 S10 => ?_)
  refine s_one (.int .i64 0) A9 S10 (g_assign (by kernel_rfl)) rfl (fun ac A12 => ?_)
  refine wpList_nil ?_
  refine n_then ?_
  refine wp_seq ?_
  refine wp_seq ?_
  refine r_begin (w0 := w0) (by kernel_rfl) (S10.sub sub_all sub_all) (fun wc T13 B14 => ?_)
  have S15 := S10.kept B14
  refine r_take 0 (.agg #[.int .i64 ax, .int .i64 az]) A12 T13 (g_load (g := g3) (off := 0) 2 (by kernel_rfl) rfl (by kernel_rfl)) rfl rfl rfl (pf_then (pf_then pf_body)) (by kernel_rfl) (fun ac A16 => ?_)
  refine r_take 2 (.agg #[.int .i64 bx, .int .i64 bz]) A16 T13 (g_load (g := g7) (off := 0) 1 (by kernel_rfl) rfl (by kernel_rfl)) rfl rfl rfl (pf_then (pf_then pf_body)) (by kernel_rfl) (fun ac A17 => ?_)
  refine r_1 (i := 1) (by kernel_rfl) ?_
  refine rs_call (fs := #[]) (cp := #[]) (r := [(0, .agg #[.int .i64 ax, .int .i64 az])]) #[.agg #[.int .i64 ax, .int .i64 az]] (.int .i64 (spE ax az)) A17 S15 sub_all sub_all (spotErr_s ax az _) Try.call84 rfl rfl (by kernel_rfl) (by kernel_rfl) (by kernel_rfl) rfl (fun ac wc A18 S19 => ?_)
  have T21 := S19.sub sub_all sub_all
  refine r_1 (i := 3) (by kernel_rfl) ?_
  refine rs_call (fs := #[]) (cp := #[]) (r := [(0, .agg #[.int .i64 bx, .int .i64 bz])]) #[.agg #[.int .i64 bx, .int .i64 bz]] (.int .i64 (spE bx bz)) A18 S19 sub_all sub_all (spotErr_s bx bz _) Try.call84 rfl rfl (by kernel_rfl) (by kernel_rfl) (by kernel_rfl) rfl (fun ac wc A22 S23 => ?_)
  have T25 := S23.sub sub_all sub_all
  refine r_1 (i := 4) (by kernel_rfl) ?_
  refine rs_bs (e := 25) (r := [(0, .int .i64 (spE ax az)), (1, .int .i64 (spE bx bz))]) (#[.int .i64 (spE ax az), .int .i64 (spE bx bz)]) A22 S23 sub_all sub_all (by kernel_rfl) (by kernel_rfl) rfl rfl rfl (fun g28 ac wc A26 S27 => ?_)
  have T29 := S27.sub (sub_skip sub_all) sub_all
  refine r_1 (i := 5) (by kernel_rfl) ?_
  refine rs_call (fs := #[]) (cp := #[]) (r := [(0, .slice (some ⟨g28, 0, none⟩) 2 2)]) #[.slice (some ⟨g28, 0, none⟩) 2 2] (.int .i64 (firstOf [spE ax az, spE bx bz])) A26 S27 (sub_skip sub_all) sub_all (first_s g28 ([spE ax az, spE bx bz]) 2 2 _ (S27.get 0 rfl) rfl (by omega)) Try.call83 rfl rfl (by kernel_rfl) (by kernel_rfl) (by kernel_rfl) rfl (fun ac wc A30 S31 => ?_)
  have T33 := S31.sub (sub_skip sub_all) sub_all
  refine r_take 6 (.int .i64 (firstOf [spE ax az, spE bx bz])) A30 T33 (g_assign (by kernel_rfl)) rfl rfl rfl (pf_then (pf_then pf_body)) (by kernel_rfl) (fun ac A34 => ?_)
  refine r_done (by kernel_rfl) ?_
  refine n_then ?_
  refine wp_seq ?_
  refine wp_region_lit ?_
  refine s_one (.int .i64 (firstOf [spE ax az, spE bx bz])) A34 S31 (g_move (by kernel_rfl)) rfl (fun ac A35 => ?_)
  refine s_one (.bool (decide (firstOf [spE ax az, spE bx bz] ≠ 0))) A35 S31 (g_bin (u := .int .i64 (firstOf [spE ax az, spE bx bz])) (k := .int .i64 0) (by kernel_rfl) (by kernel_rfl) (fun _ => by kernel_rfl) b_neq) rfl (fun ac A36 => ?_)
  refine wpList_nil ?_
  refine n_then ?_
  refine c_ifb (b := (decide (firstOf [spE ax az, spE bx bz] ≠ 0))) A36 (by kernel_rfl) (fun h37 => ?_) (fun h37 => ?_)
  · have p38 := of_decide_eq_true h37
    refine wp_seq ?_
    refine wp_region_lit ?_
    refine s_one (.agg #[.int .i64 0, .int .i64 0]) A36 S31 (g_build (r := []) (by kernel_rfl) (fun _ => by kernel_rfl)) rfl (fun ac A39 => ?_)
    refine s_one (.int .i64 (firstOf [spE ax az, spE bx bz])) A39 S31 (g_move (by kernel_rfl)) rfl (fun ac A40 => ?_)
    refine s_store (g := g11) (off := 0) (v := .agg #[.int .i64 0, .int .i64 0]) 1 (#[.int .i64 0, .int .i64 0]) A40 S31 (by kernel_rfl) (by kernel_rfl) rfl (by kernel_rfl) (fun wc S42 => ?_)
    refine s_one (.int .i64 (firstOf [spE ax az, spE bx bz])) A40 S42 (g_assign (by kernel_rfl)) rfl (fun ac A44 => ?_)
    refine wpList_nil ?_
    refine n_then ?_
    refine wp_ret ?_
    refine r_then ?_
    refine fin2 (.agg #[.int .i64 0, .int .i64 0]) (.int .i64 (firstOf [spE ax az, spE bx bz])) Try.results34 A44 S42 (rv_cell (g := g11) (off := 0) 1 (by kernel_rfl) rfl (by kernel_rfl)) (rv_tmp (by kernel_rfl)) ⟨?_, S42.kp⟩
    have zn : lgE ax az bx bz ≠ 0 := p38
    simp only [zv_n zn]
    rfl
  · have p45 := of_decide_eq_false h37
    have ze0 : firstOf [spE ax az, spE bx bz] = 0 := by simpa using h37
    have ze : lgE ax az bx bz = 0 := ze0
    have zz := lgE_0 ze
    refine wp_skip ?_
    refine n_then ?_
    refine wp_seq ?_
    refine wp_region_lit ?_
    refine s_one (.pointer (some ⟨g3, 0, none⟩)) A36 S31 (g_field (u := .pointer (some ⟨g3, 0, none⟩)) (by kernel_rfl) (fun _ => by kernel_rfl)) rfl (fun ac A46 => ?_)
    refine s_one (.int .i64 ax) A46 S31 (g_load (g := g3) (off := 0) 3 (by kernel_rfl) rfl (by kernel_rfl)) rfl (fun ac A47 => ?_)
    refine s_one (.pointer (some ⟨g7, 0, none⟩)) A47 S31 (g_field (u := .pointer (some ⟨g7, 0, none⟩)) (by kernel_rfl) (fun _ => by kernel_rfl)) rfl (fun ac A48 => ?_)
    refine s_one (.int .i64 bx) A48 S31 (g_load (g := g7) (off := 0) 2 (by kernel_rfl) rfl (by kernel_rfl)) rfl (fun ac A49 => ?_)
    refine s_one (.int .i64 (ax - bx)) A49 S31 (g_bin (u := .int .i64 ax) (k := .int .i64 bx) (by kernel_rfl) (by kernel_rfl) (fun _ => by kernel_rfl) (b_sub (by omega))) rfl (fun ac A50 => ?_)
    refine s_one (.pointer (some ⟨g3, 1, none⟩)) A50 S31 (g_field (u := .pointer (some ⟨g3, 0, none⟩)) (by kernel_rfl) (fun _ => by kernel_rfl)) rfl (fun ac A51 => ?_)
    refine s_one (.int .i64 az) A51 S31 (g_load (g := g3) (off := 1) 3 (by kernel_rfl) rfl (by kernel_rfl)) rfl (fun ac A52 => ?_)
    refine s_one (.pointer (some ⟨g7, 1, none⟩)) A52 S31 (g_field (u := .pointer (some ⟨g7, 0, none⟩)) (by kernel_rfl) (fun _ => by kernel_rfl)) rfl (fun ac A53 => ?_)
    refine s_one (.int .i64 bz) A53 S31 (g_load (g := g7) (off := 1) 2 (by kernel_rfl) rfl (by kernel_rfl)) rfl (fun ac A54 => ?_)
    refine s_one (.int .i64 (az - bz)) A54 S31 (g_bin (u := .int .i64 az) (k := .int .i64 bz) (by kernel_rfl) (by kernel_rfl) (fun _ => by kernel_rfl) (b_sub (by omega))) rfl (fun ac A55 => ?_)
    have q59 := len_bd (x := ax - bx) (z := az - bz) (by omega) (by omega)
    refine s_call (fs := #[]) (cp := #[]) (r := [(0, .int .i64 (ax - bx)), (0, .int .i64 (az - bz))]) #[.int .i64 (ax - bx), .int .i64 (az - bz)] (.agg #[.int .i64 (lenL (ax - bx) (az - bz)), .int .i64 (lenU (ax - bx) (az - bz))]) A55 S31 (length_s (ax - bx) (az - bz) _ (by omega) (by omega) (by omega) (by omega)) Try.call87 (by kernel_rfl) (by kernel_rfl) (by kernel_rfl) rfl (fun ac wc A56 S57 => ?_)
    refine s_store (g := g11) (off := 0) (v := .agg #[.int .i64 (lenL (ax - bx) (az - bz)), .int .i64 (lenU (ax - bx) (az - bz))]) 1 (#[.int .i64 (lenL (ax - bx) (az - bz)), .int .i64 (lenU (ax - bx) (az - bz))]) A56 S57 (by kernel_rfl) (by kernel_rfl) rfl (by kernel_rfl) (fun wc S61 => ?_)
    refine s_one (.int .i64 0) A56 S61 (g_assign (by kernel_rfl)) rfl (fun ac A63 => ?_)
    refine wpList_nil ?_
    refine n_then ?_
    refine wp_ret ?_
    refine fin2 (.agg #[.int .i64 (lenL (ax - bx) (az - bz)), .int .i64 (lenU (ax - bx) (az - bz))]) (.int .i64 0) Try.results34 A63 S61 (rv_cell (g := g11) (off := 0) 1 (by kernel_rfl) rfl (by kernel_rfl)) (rv_tmp (by kernel_rfl)) ⟨?_, S61.kp⟩
    simp only [zv_0 ze]
    rw [ze]

set_option maxRecDepth 100000 in
set_option maxHeartbeats 400000 in
theorem TimeOf_s (ax az bx bz v : Int) (w0 : World) :
    Calls Try.prog 29 #[.agg #[.int .i64 ax, .int .i64 az], .agg #[.int .i64 bx, .int .i64 bz], .int .i64 v] w0 fun e w' => e = .returned (.tuple #[.agg #[.int .i64 (zv (tmE ax az bx bz v) (tLo (lenL (ax - bx) (az - bz)) v)), .int .i64 (zv (tmE ax az bx bz v) (tHi (lenU (ax - bx) (az - bz)) v))], .int .i64 (tmE ax az bx bz v)]) ∧ Below w0.heap.size w0 w' := by
  have S0 := St.start w0
  refine enter (n := 34) Try.func29 rfl rfl rfl (fun ac A0 => ?_)
  refine wp_seq ?_
  refine wp_region_lit ?_
  refine s_box (.agg #[.int .i64 ax, .int .i64 az]) A0 S0 (by kernel_rfl) rfl (fun g3 ac wc A1 S2 => ?_)
  replace S2 : St _ (⟨g3, 41, #[.int .i64 ax, .int .i64 az], true⟩ :: _) _ _ := S2
  refine s_box (.agg #[.int .i64 bx, .int .i64 bz]) A1 S2 (by kernel_rfl) rfl (fun g7 ac wc A5 S6 => ?_)
  replace S6 : St _ (⟨g7, 41, #[.int .i64 bx, .int .i64 bz], true⟩ :: _) _ _ := S6
  refine s_alloc (#[.int .i64 0, .int .i64 0]) A5 S6 (by kernel_rfl) rfl (fun g11 ac wc A9 S10 => ?_)
  refine s_one (.int .i64 0) A9 S10 (g_assign (by kernel_rfl)) rfl (fun ac A12 => ?_)
  refine wpList_nil ?_
  refine n_then ?_
  refine wp_seq ?_
  refine wp_seq ?_
  refine r_begin (w0 := w0) (by kernel_rfl) (S10.sub sub_all sub_all) (fun wc T13 B14 => ?_)
  have S15 := S10.kept B14
  refine r_take 0 (.agg #[.int .i64 ax, .int .i64 az]) A12 T13 (g_load (g := g3) (off := 0) 2 (by kernel_rfl) rfl (by kernel_rfl)) rfl rfl rfl (pf_then (pf_then pf_body)) (by kernel_rfl) (fun ac A16 => ?_)
  refine r_take 2 (.agg #[.int .i64 bx, .int .i64 bz]) A16 T13 (g_load (g := g7) (off := 0) 1 (by kernel_rfl) rfl (by kernel_rfl)) rfl rfl rfl (pf_then (pf_then pf_body)) (by kernel_rfl) (fun ac A17 => ?_)
  refine r_take 4 (.int .i64 v) A17 T13 (g_move (by kernel_rfl)) rfl rfl rfl (pf_then (pf_then pf_body)) (by kernel_rfl) (fun ac A18 => ?_)
  refine r_1 (i := 1) (by kernel_rfl) ?_
  refine rs_call (fs := #[]) (cp := #[]) (r := [(0, .agg #[.int .i64 ax, .int .i64 az])]) #[.agg #[.int .i64 ax, .int .i64 az]] (.int .i64 (spE ax az)) A18 S15 sub_all sub_all (spotErr_s ax az _) Try.call84 rfl rfl (by kernel_rfl) (by kernel_rfl) (by kernel_rfl) rfl (fun ac wc A19 S20 => ?_)
  have T22 := S20.sub sub_all sub_all
  refine r_1 (i := 3) (by kernel_rfl) ?_
  refine rs_call (fs := #[]) (cp := #[]) (r := [(0, .agg #[.int .i64 bx, .int .i64 bz])]) #[.agg #[.int .i64 bx, .int .i64 bz]] (.int .i64 (spE bx bz)) A19 S20 sub_all sub_all (spotErr_s bx bz _) Try.call84 rfl rfl (by kernel_rfl) (by kernel_rfl) (by kernel_rfl) rfl (fun ac wc A23 S24 => ?_)
  have T26 := S24.sub sub_all sub_all
  refine r_1 (i := 5) (by kernel_rfl) ?_
  refine rs_call (fs := #[]) (cp := #[]) (r := [(0, .int .i64 v)]) #[.int .i64 v] (.int .i64 (veE v)) A23 S24 sub_all sub_all (speedErr_s v _) Try.call85 rfl rfl (by kernel_rfl) (by kernel_rfl) (by kernel_rfl) rfl (fun ac wc A27 S28 => ?_)
  have T30 := S28.sub sub_all sub_all
  refine r_1 (i := 6) (by kernel_rfl) ?_
  refine rs_bs (e := 25) (r := [(0, .int .i64 (spE ax az)), (1, .int .i64 (spE bx bz)), (2, .int .i64 (veE v))]) (#[.int .i64 (spE ax az), .int .i64 (spE bx bz), .int .i64 (veE v)]) A27 S28 sub_all sub_all (by kernel_rfl) (by kernel_rfl) rfl rfl rfl (fun g33 ac wc A31 S32 => ?_)
  have T34 := S32.sub (sub_skip sub_all) sub_all
  refine r_1 (i := 7) (by kernel_rfl) ?_
  refine rs_call (fs := #[]) (cp := #[]) (r := [(0, .slice (some ⟨g33, 0, none⟩) 3 3)]) #[.slice (some ⟨g33, 0, none⟩) 3 3] (.int .i64 (firstOf [spE ax az, spE bx bz, veE v])) A31 S32 (sub_skip sub_all) sub_all (first_s g33 ([spE ax az, spE bx bz, veE v]) 3 3 _ (S32.get 0 rfl) rfl (by omega)) Try.call83 rfl rfl (by kernel_rfl) (by kernel_rfl) (by kernel_rfl) rfl (fun ac wc A35 S36 => ?_)
  have T38 := S36.sub (sub_skip sub_all) sub_all
  refine r_take 8 (.int .i64 (firstOf [spE ax az, spE bx bz, veE v])) A35 T38 (g_assign (by kernel_rfl)) rfl rfl rfl (pf_then (pf_then pf_body)) (by kernel_rfl) (fun ac A39 => ?_)
  refine r_done (by kernel_rfl) ?_
  refine n_then ?_
  refine wp_seq ?_
  refine wp_region_lit ?_
  refine s_one (.int .i64 (firstOf [spE ax az, spE bx bz, veE v])) A39 S36 (g_move (by kernel_rfl)) rfl (fun ac A40 => ?_)
  refine s_one (.bool (decide (firstOf [spE ax az, spE bx bz, veE v] ≠ 0))) A40 S36 (g_bin (u := .int .i64 (firstOf [spE ax az, spE bx bz, veE v])) (k := .int .i64 0) (by kernel_rfl) (by kernel_rfl) (fun _ => by kernel_rfl) b_neq) rfl (fun ac A41 => ?_)
  refine wpList_nil ?_
  refine n_then ?_
  refine c_ifb (b := (decide (firstOf [spE ax az, spE bx bz, veE v] ≠ 0))) A41 (by kernel_rfl) (fun h42 => ?_) (fun h42 => ?_)
  · have p43 := of_decide_eq_true h42
    refine wp_seq ?_
    refine wp_region_lit ?_
    refine s_one (.agg #[.int .i64 0, .int .i64 0]) A41 S36 (g_build (r := []) (by kernel_rfl) (fun _ => by kernel_rfl)) rfl (fun ac A44 => ?_)
    refine s_one (.int .i64 (firstOf [spE ax az, spE bx bz, veE v])) A44 S36 (g_move (by kernel_rfl)) rfl (fun ac A45 => ?_)
    refine s_store (g := g11) (off := 0) (v := .agg #[.int .i64 0, .int .i64 0]) 1 (#[.int .i64 0, .int .i64 0]) A45 S36 (by kernel_rfl) (by kernel_rfl) rfl (by kernel_rfl) (fun wc S47 => ?_)
    refine s_one (.int .i64 (firstOf [spE ax az, spE bx bz, veE v])) A45 S47 (g_assign (by kernel_rfl)) rfl (fun ac A49 => ?_)
    refine wpList_nil ?_
    refine n_then ?_
    refine wp_ret ?_
    refine r_then ?_
    refine fin2 (.agg #[.int .i64 0, .int .i64 0]) (.int .i64 (firstOf [spE ax az, spE bx bz, veE v])) Try.results29 A49 S47 (rv_cell (g := g11) (off := 0) 1 (by kernel_rfl) rfl (by kernel_rfl)) (rv_tmp (by kernel_rfl)) ⟨?_, S47.kp⟩
    have zn : tmE ax az bx bz v ≠ 0 := p43
    simp only [zv_n zn]
    rfl
  · have p50 := of_decide_eq_false h42
    have ze0 : firstOf [spE ax az, spE bx bz, veE v] = 0 := by simpa using h42
    have ze : tmE ax az bx bz v = 0 := ze0
    have zz := tmE_0 ze
    refine wp_skip ?_
    refine n_then ?_
    refine wp_seq ?_
    refine wp_region_lit ?_
    refine s_one (.pointer (some ⟨g3, 0, none⟩)) A41 S36 (g_field (u := .pointer (some ⟨g3, 0, none⟩)) (by kernel_rfl) (fun _ => by kernel_rfl)) rfl (fun ac A51 => ?_)
    refine s_one (.int .i64 ax) A51 S36 (g_load (g := g3) (off := 0) 3 (by kernel_rfl) rfl (by kernel_rfl)) rfl (fun ac A52 => ?_)
    refine s_one (.pointer (some ⟨g7, 0, none⟩)) A52 S36 (g_field (u := .pointer (some ⟨g7, 0, none⟩)) (by kernel_rfl) (fun _ => by kernel_rfl)) rfl (fun ac A53 => ?_)
    refine s_one (.int .i64 bx) A53 S36 (g_load (g := g7) (off := 0) 2 (by kernel_rfl) rfl (by kernel_rfl)) rfl (fun ac A54 => ?_)
    refine s_one (.int .i64 (ax - bx)) A54 S36 (g_bin (u := .int .i64 ax) (k := .int .i64 bx) (by kernel_rfl) (by kernel_rfl) (fun _ => by kernel_rfl) (b_sub (by omega))) rfl (fun ac A55 => ?_)
    refine s_one (.pointer (some ⟨g3, 1, none⟩)) A55 S36 (g_field (u := .pointer (some ⟨g3, 0, none⟩)) (by kernel_rfl) (fun _ => by kernel_rfl)) rfl (fun ac A56 => ?_)
    refine s_one (.int .i64 az) A56 S36 (g_load (g := g3) (off := 1) 3 (by kernel_rfl) rfl (by kernel_rfl)) rfl (fun ac A57 => ?_)
    refine s_one (.pointer (some ⟨g7, 1, none⟩)) A57 S36 (g_field (u := .pointer (some ⟨g7, 0, none⟩)) (by kernel_rfl) (fun _ => by kernel_rfl)) rfl (fun ac A58 => ?_)
    refine s_one (.int .i64 bz) A58 S36 (g_load (g := g7) (off := 1) 2 (by kernel_rfl) rfl (by kernel_rfl)) rfl (fun ac A59 => ?_)
    refine s_one (.int .i64 (az - bz)) A59 S36 (g_bin (u := .int .i64 az) (k := .int .i64 bz) (by kernel_rfl) (by kernel_rfl) (fun _ => by kernel_rfl) (b_sub (by omega))) rfl (fun ac A60 => ?_)
    have q64 := len_bd (x := ax - bx) (z := az - bz) (by omega) (by omega)
    refine s_call (fs := #[]) (cp := #[]) (r := [(0, .int .i64 (ax - bx)), (0, .int .i64 (az - bz))]) #[.int .i64 (ax - bx), .int .i64 (az - bz)] (.agg #[.int .i64 (lenL (ax - bx) (az - bz)), .int .i64 (lenU (ax - bx) (az - bz))]) A60 S36 (length_s (ax - bx) (az - bz) _ (by omega) (by omega) (by omega) (by omega)) Try.call87 (by kernel_rfl) (by kernel_rfl) (by kernel_rfl) rfl (fun ac wc A61 S62 => ?_)
    refine s_one (.int .i64 v) A61 S62 (g_move (by kernel_rfl)) rfl (fun ac A65 => ?_)
    have q69 := t_bd (l := (lenL (ax - bx) (az - bz))) (v := v) (by omega) (by omega) (by omega)
    have q70 := tH_bd (l := (lenU (ax - bx) (az - bz))) (v := v) (by omega) (by omega) (by omega)
    refine s_call (fs := #[]) (cp := #[]) (r := [(0, .agg #[.int .i64 (lenL (ax - bx) (az - bz)), .int .i64 (lenU (ax - bx) (az - bz))]), (0, .int .i64 v)]) #[.agg #[.int .i64 (lenL (ax - bx) (az - bz)), .int .i64 (lenU (ax - bx) (az - bz))], .int .i64 v] (.agg #[.int .i64 (tLo (lenL (ax - bx) (az - bz)) v), .int .i64 (tHi (lenU (ax - bx) (az - bz)) v)]) A65 S62 (time_s (lenL (ax - bx) (az - bz)) (lenU (ax - bx) (az - bz)) v _ (by omega) (by omega) (by omega) (by omega) (by omega)) Try.call86 (by kernel_rfl) (by kernel_rfl) (by kernel_rfl) rfl (fun ac wc A66 S67 => ?_)
    refine s_store (g := g11) (off := 0) (v := .agg #[.int .i64 (tLo (lenL (ax - bx) (az - bz)) v), .int .i64 (tHi (lenU (ax - bx) (az - bz)) v)]) 1 (#[.int .i64 (tLo (lenL (ax - bx) (az - bz)) v), .int .i64 (tHi (lenU (ax - bx) (az - bz)) v)]) A66 S67 (by kernel_rfl) (by kernel_rfl) rfl (by kernel_rfl) (fun wc S72 => ?_)
    refine s_one (.int .i64 0) A66 S72 (g_assign (by kernel_rfl)) rfl (fun ac A74 => ?_)
    refine wpList_nil ?_
    refine n_then ?_
    refine wp_ret ?_
    refine fin2 (.agg #[.int .i64 (tLo (lenL (ax - bx) (az - bz)) v), .int .i64 (tHi (lenU (ax - bx) (az - bz)) v)]) (.int .i64 0) Try.results29 A74 S72 (rv_cell (g := g11) (off := 0) 1 (by kernel_rfl) rfl (by kernel_rfl)) (rv_tmp (by kernel_rfl)) ⟨?_, S72.kp⟩
    simp only [zv_0 ze]
    rw [ze]

set_option maxRecDepth 100000 in
set_option maxHeartbeats 400000 in
theorem refLength_s (ax az bx bz : Int) (w0 : World) (h1 : (-100000 ≤ ax ∧ ax ≤ 100000) ∧ (-100000 ≤ az ∧ az ≤ 100000)) (h2 : (-100000 ≤ bx ∧ bx ≤ 100000) ∧ (-100000 ≤ bz ∧ bz ≤ 100000)) :
    Calls Try.prog 36 #[.agg #[.int .i64 ax, .int .i64 az], .agg #[.int .i64 bx, .int .i64 bz]] w0 fun e w' => e = .returned (.agg #[.int .i64 (lenL (ax - bx) (az - bz)), .int .i64 (lenU (ax - bx) (az - bz))]) ∧ Below w0.heap.size w0 w' := by
  have S0 := St.start w0
  refine enter (n := 16) Try.func36 rfl rfl rfl (fun ac A0 => ?_)
  refine wp_seq ?_
  refine wp_region_lit ?_
  refine s_box (.agg #[.int .i64 ax, .int .i64 az]) A0 S0 (by kernel_rfl) rfl (fun g3 ac wc A1 S2 => ?_)
  replace S2 : St _ (⟨g3, 41, #[.int .i64 ax, .int .i64 az], true⟩ :: _) _ _ := S2
  refine s_box (.agg #[.int .i64 bx, .int .i64 bz]) A1 S2 (by kernel_rfl) rfl (fun g7 ac wc A5 S6 => ?_)
  replace S6 : St _ (⟨g7, 41, #[.int .i64 bx, .int .i64 bz], true⟩ :: _) _ _ := S6
  refine s_alloc (#[.int .i64 0, .int .i64 0]) A5 S6 (by kernel_rfl) rfl (fun g11 ac wc A9 S10 => ?_)
  refine wpList_nil ?_
  refine n_then ?_
  refine wp_seq ?_
  refine wp_region_lit ?_
  refine s_one (.pointer (some ⟨g3, 0, none⟩)) A9 S10 (g_field (u := .pointer (some ⟨g3, 0, none⟩)) (by kernel_rfl) (fun _ => by kernel_rfl)) rfl (fun ac A12 => ?_)
  refine s_one (.int .i64 ax) A12 S10 (g_load (g := g3) (off := 0) 2 (by kernel_rfl) rfl (by kernel_rfl)) rfl (fun ac A13 => ?_)
  refine s_one (.pointer (some ⟨g7, 0, none⟩)) A13 S10 (g_field (u := .pointer (some ⟨g7, 0, none⟩)) (by kernel_rfl) (fun _ => by kernel_rfl)) rfl (fun ac A14 => ?_)
  refine s_one (.int .i64 bx) A14 S10 (g_load (g := g7) (off := 0) 1 (by kernel_rfl) rfl (by kernel_rfl)) rfl (fun ac A15 => ?_)
  refine s_one (.int .i64 (ax - bx)) A15 S10 (g_bin (u := .int .i64 ax) (k := .int .i64 bx) (by kernel_rfl) (by kernel_rfl) (fun _ => by kernel_rfl) (b_sub (by omega))) rfl (fun ac A16 => ?_)
  refine s_one (.pointer (some ⟨g3, 1, none⟩)) A16 S10 (g_field (u := .pointer (some ⟨g3, 0, none⟩)) (by kernel_rfl) (fun _ => by kernel_rfl)) rfl (fun ac A17 => ?_)
  refine s_one (.int .i64 az) A17 S10 (g_load (g := g3) (off := 1) 2 (by kernel_rfl) rfl (by kernel_rfl)) rfl (fun ac A18 => ?_)
  refine s_one (.pointer (some ⟨g7, 1, none⟩)) A18 S10 (g_field (u := .pointer (some ⟨g7, 0, none⟩)) (by kernel_rfl) (fun _ => by kernel_rfl)) rfl (fun ac A19 => ?_)
  refine s_one (.int .i64 bz) A19 S10 (g_load (g := g7) (off := 1) 1 (by kernel_rfl) rfl (by kernel_rfl)) rfl (fun ac A20 => ?_)
  refine s_one (.int .i64 (az - bz)) A20 S10 (g_bin (u := .int .i64 az) (k := .int .i64 bz) (by kernel_rfl) (by kernel_rfl) (fun _ => by kernel_rfl) (b_sub (by omega))) rfl (fun ac A21 => ?_)
  have q25 := len_bd (x := ax - bx) (z := az - bz) (by omega) (by omega)
  refine s_call (fs := #[]) (cp := #[]) (r := [(0, .int .i64 (ax - bx)), (0, .int .i64 (az - bz))]) #[.int .i64 (ax - bx), .int .i64 (az - bz)] (.agg #[.int .i64 (lenL (ax - bx) (az - bz)), .int .i64 (lenU (ax - bx) (az - bz))]) A21 S10 (lengthOf_s (ax - bx) (az - bz) _ (by omega) (by omega) (by omega) (by omega)) Try.call92 (by kernel_rfl) (by kernel_rfl) (by kernel_rfl) rfl (fun ac wc A22 S23 => ?_)
  refine s_store (g := g11) (off := 0) (v := .agg #[.int .i64 (lenL (ax - bx) (az - bz)), .int .i64 (lenU (ax - bx) (az - bz))]) 0 (#[.int .i64 (lenL (ax - bx) (az - bz)), .int .i64 (lenU (ax - bx) (az - bz))]) A22 S23 (by kernel_rfl) (by kernel_rfl) rfl (by kernel_rfl) (fun wc S27 => ?_)
  refine wpList_nil ?_
  refine n_then ?_
  refine wp_ret ?_
  refine fin1 (.agg #[.int .i64 (lenL (ax - bx) (az - bz)), .int .i64 (lenU (ax - bx) (az - bz))]) Try.results36 A22 S27 (rv_cell (g := g11) (off := 0) 0 (by kernel_rfl) rfl (by kernel_rfl)) ⟨?_, S27.kp⟩
  rfl

set_option maxRecDepth 100000 in
set_option maxHeartbeats 400000 in
theorem refTimeOf_s (ax az bx bz v : Int) (w0 : World) (h1 : (-100000 ≤ ax ∧ ax ≤ 100000) ∧ (-100000 ≤ az ∧ az ≤ 100000)) (h2 : (-100000 ≤ bx ∧ bx ≤ 100000) ∧ (-100000 ≤ bz ∧ bz ≤ 100000)) (h3 : 500 ≤ v ∧ v ≤ 10000) :
    Calls Try.prog 38 #[.agg #[.int .i64 ax, .int .i64 az], .agg #[.int .i64 bx, .int .i64 bz], .int .i64 v] w0 fun e w' => e = .returned (.agg #[.int .i64 (tLo (lenL (ax - bx) (az - bz)) v), .int .i64 (tHi (lenU (ax - bx) (az - bz)) v)]) ∧ Below w0.heap.size w0 w' := by
  have S0 := St.start w0
  refine enter (n := 12) Try.func38 rfl rfl rfl (fun ac A0 => ?_)
  refine wp_seq ?_
  refine wp_region_lit ?_
  refine s_box (.agg #[.int .i64 ax, .int .i64 az]) A0 S0 (by kernel_rfl) rfl (fun g3 ac wc A1 S2 => ?_)
  replace S2 : St _ (⟨g3, 41, #[.int .i64 ax, .int .i64 az], true⟩ :: _) _ _ := S2
  refine s_box (.agg #[.int .i64 bx, .int .i64 bz]) A1 S2 (by kernel_rfl) rfl (fun g7 ac wc A5 S6 => ?_)
  replace S6 : St _ (⟨g7, 41, #[.int .i64 bx, .int .i64 bz], true⟩ :: _) _ _ := S6
  refine s_alloc (#[.int .i64 0, .int .i64 0]) A5 S6 (by kernel_rfl) rfl (fun g11 ac wc A9 S10 => ?_)
  refine wpList_nil ?_
  refine n_then ?_
  refine wp_seq ?_
  refine wp_region_lit ?_
  refine s_one (.agg #[.int .i64 ax, .int .i64 az]) A9 S10 (g_load (g := g3) (off := 0) 2 (by kernel_rfl) rfl (by kernel_rfl)) rfl (fun ac A12 => ?_)
  refine s_one (.agg #[.int .i64 bx, .int .i64 bz]) A12 S10 (g_load (g := g7) (off := 0) 1 (by kernel_rfl) rfl (by kernel_rfl)) rfl (fun ac A13 => ?_)
  have q17 := len_bd (x := ax - bx) (z := az - bz) (by omega) (by omega)
  refine s_call (fs := #[]) (cp := #[]) (r := [(0, .agg #[.int .i64 ax, .int .i64 az]), (0, .agg #[.int .i64 bx, .int .i64 bz])]) #[.agg #[.int .i64 ax, .int .i64 az], .agg #[.int .i64 bx, .int .i64 bz]] (.agg #[.int .i64 (lenL (ax - bx) (az - bz)), .int .i64 (lenU (ax - bx) (az - bz))]) A13 S10 (refLength_s ax az bx bz _ (by omega) (by omega)) Try.call36 (by kernel_rfl) (by kernel_rfl) (by kernel_rfl) rfl (fun ac wc A14 S15 => ?_)
  refine s_one (.int .i64 v) A14 S15 (g_move (by kernel_rfl)) rfl (fun ac A18 => ?_)
  have q22 := t_bd (l := (lenL (ax - bx) (az - bz))) (v := v) (by omega) (by omega) (by omega)
  have q23 := tH_bd (l := (lenU (ax - bx) (az - bz))) (v := v) (by omega) (by omega) (by omega)
  refine s_call (fs := #[]) (cp := #[]) (r := [(0, .agg #[.int .i64 (lenL (ax - bx) (az - bz)), .int .i64 (lenU (ax - bx) (az - bz))]), (0, .int .i64 v)]) #[.agg #[.int .i64 (lenL (ax - bx) (az - bz)), .int .i64 (lenU (ax - bx) (az - bz))], .int .i64 v] (.agg #[.int .i64 (tLo (lenL (ax - bx) (az - bz)) v), .int .i64 (tHi (lenU (ax - bx) (az - bz)) v)]) A18 S15 (lasting_s (lenL (ax - bx) (az - bz)) (lenU (ax - bx) (az - bz)) v _ (by omega) (by omega) (by omega) (by omega) (by omega)) Try.call93 (by kernel_rfl) (by kernel_rfl) (by kernel_rfl) rfl (fun ac wc A19 S20 => ?_)
  refine s_store (g := g11) (off := 0) (v := .agg #[.int .i64 (tLo (lenL (ax - bx) (az - bz)) v), .int .i64 (tHi (lenU (ax - bx) (az - bz)) v)]) 0 (#[.int .i64 (tLo (lenL (ax - bx) (az - bz)) v), .int .i64 (tHi (lenU (ax - bx) (az - bz)) v)]) A19 S20 (by kernel_rfl) (by kernel_rfl) rfl (by kernel_rfl) (fun wc S25 => ?_)
  refine wpList_nil ?_
  refine n_then ?_
  refine wp_ret ?_
  refine fin1 (.agg #[.int .i64 (tLo (lenL (ax - bx) (az - bz)) v), .int .i64 (tHi (lenU (ax - bx) (az - bz)) v)]) Try.results38 A19 S25 (rv_cell (g := g11) (off := 0) 0 (by kernel_rfl) rfl (by kernel_rfl)) ⟨?_, S25.kp⟩
  rfl

theorem mdE_r1 {mw md ms mt : Int} (h : firstOf [veE mw, veE md] ≠ 0) : mdE mw md ms mt = firstOf [veE mw, veE md] := fo_a (r := [_]) h
theorem mdE_r2 {mw md ms mt : Int} (h : firstOf [veE mw, veE md] = 0) (h2 : (!(inB ms 0 4) || !(inB mt 2 20000)) = true) : mdE mw md ms mt = 2 := by
  have := fo_b (r := [(bif inB ms 0 4 && inB mt 2 20000 then 0 else 2)]) h
  refine Eq.trans this ?_
  rw [fo_last, nand2 h2]; rfl
theorem mdE_r3 {mw md ms mt : Int} (h : firstOf [veE mw, veE md] = 0) (h2 : inB ms 0 4 = true) (h3 : inB mt 2 20000 = true) : mdE mw md ms mt = 0 := by
  have := fo_b (r := [(bif inB ms 0 4 && inB mt 2 20000 then 0 else 2)]) h
  refine Eq.trans this ?_
  rw [fo_last, h2, h3]; rfl
def ufE (mw md ms mt z : Int) : Int := firstOf [mdE mw md ms mt, must_a_r (inB z 1 (wr (mt - 1))) 22]
theorem ufE_m {mw md ms mt z : Int} (h : mdE mw md ms mt = 0) : ufE mw md ms mt z = must_a_r (inB z 1 (mt - 1)) 22 := by
  have q := mdE_0 h
  unfold ufE
  rw [fo_cons0 h, fo_last, wr_in (by omega)]
theorem ufE_0 {mw md ms mt z : Int} (h : ufE mw md ms mt z = 0) : mdE mw md ms mt = 0 ∧ 1 ≤ z ∧ z ≤ mt - 1 := by
  obtain ⟨h1, h2⟩ := fo_zero h
  rw [ufE_m h1] at h
  exact ⟨h1, inB_true.1 (must_0 (by decide) h)⟩
theorem unf_r {ms mt z : Int} (hs : 0 ≤ ms ∧ ms ≤ 4) : unf ms mt z = if ms.tmod 2 = 0 then ms * mt + z else ms * mt + mt - z := by
  unfold unf
  rcases ms_cases hs with rfl | rfl | rfl | rfl | rfl
  · rfl
  · rw [if_pos (by decide), if_neg (by decide)]; omega
  · rfl
  · rw [if_pos (by decide), if_neg (by decide)]; omega
  · rfl

set_option maxRecDepth 100000 in
set_option maxHeartbeats 400000 in
theorem refCheckMode_s (mw md ms mt : Int) (w0 : World) :
    Calls Try.prog 31 #[.agg #[.int .i64 mw, .int .i64 md, .int .i64 ms, .int .i64 mt]] w0 fun e w' => e = .returned (.int .i64 (mdE mw md ms mt)) ∧ Below w0.heap.size w0 w' := by
  have S0 := St.start w0
  refine enter (n := 25) Try.func31 rfl rfl rfl (fun ac A0 => ?_)
  refine wp_seq ?_
  refine wp_region_lit ?_
  refine s_box (.agg #[.int .i64 mw, .int .i64 md, .int .i64 ms, .int .i64 mt]) A0 S0 (by kernel_rfl) rfl (fun g3 ac wc A1 S2 => ?_)
  replace S2 : St _ (⟨g3, 39, #[.int .i64 mw, .int .i64 md, .int .i64 ms, .int .i64 mt], true⟩ :: _) _ _ := S2
  refine s_one (.int .i64 0) A1 S2 (g_assign (by kernel_rfl)) rfl (fun ac A5 => ?_)
  refine wpList_nil ?_
  refine n_then ?_
  refine wp_seq ?_
  refine wp_seq ?_
  refine r_begin (w0 := w0) (by kernel_rfl) (S2.sub sub_all sub_all) (fun wc T6 B7 => ?_)
  have S8 := S2.kept B7
  refine r_take 0 (.pointer (some ⟨g3, 0, none⟩)) A5 T6 (g_field (u := .pointer (some ⟨g3, 0, none⟩)) (by kernel_rfl) (fun _ => by kernel_rfl)) rfl rfl rfl (pf_then (pf_then pf_body)) (by kernel_rfl) (fun ac A9 => ?_)
  refine r_take 1 (.int .i64 mw) A9 T6 (g_load (g := g3) (off := 0) 0 (by kernel_rfl) rfl (by kernel_rfl)) rfl rfl rfl (pf_then (pf_then pf_body)) (by kernel_rfl) (fun ac A10 => ?_)
  refine r_take 3 (.pointer (some ⟨g3, 1, none⟩)) A10 T6 (g_field (u := .pointer (some ⟨g3, 0, none⟩)) (by kernel_rfl) (fun _ => by kernel_rfl)) rfl rfl rfl (pf_then (pf_then pf_body)) (by kernel_rfl) (fun ac A11 => ?_)
  refine r_take 4 (.int .i64 md) A11 T6 (g_load (g := g3) (off := 1) 0 (by kernel_rfl) rfl (by kernel_rfl)) rfl rfl rfl (pf_then (pf_then pf_body)) (by kernel_rfl) (fun ac A12 => ?_)
  refine r_1 (i := 2) (by kernel_rfl) ?_
  refine rs_call (fs := #[]) (cp := #[]) (r := [(0, .int .i64 mw)]) #[.int .i64 mw] (.int .i64 (veE mw)) A12 S8 sub_all sub_all (refSpeedErr_s mw _) Try.call37 rfl rfl (by kernel_rfl) (by kernel_rfl) (by kernel_rfl) rfl (fun ac wc A13 S14 => ?_)
  have T16 := S14.sub sub_all sub_all
  refine r_1 (i := 5) (by kernel_rfl) ?_
  refine rs_call (fs := #[]) (cp := #[]) (r := [(0, .int .i64 md)]) #[.int .i64 md] (.int .i64 (veE md)) A13 S14 sub_all sub_all (refSpeedErr_s md _) Try.call37 rfl rfl (by kernel_rfl) (by kernel_rfl) (by kernel_rfl) rfl (fun ac wc A17 S18 => ?_)
  have T20 := S18.sub sub_all sub_all
  refine r_1 (i := 6) (by kernel_rfl) ?_
  refine rs_bs (e := 3) (r := [(0, .int .i64 (veE mw)), (1, .int .i64 (veE md))]) (#[.int .i64 (veE mw), .int .i64 (veE md)]) A17 S18 sub_all sub_all (by kernel_rfl) (by kernel_rfl) rfl rfl rfl (fun g23 ac wc A21 S22 => ?_)
  have T24 := S22.sub (sub_skip sub_all) sub_all
  refine r_1 (i := 7) (by kernel_rfl) ?_
  refine rs_call (fs := #[]) (cp := #[]) (r := [(0, .slice (some ⟨g23, 0, none⟩) 2 2)]) #[.slice (some ⟨g23, 0, none⟩) 2 2] (.int .i64 (firstOf [veE mw, veE md])) A21 S22 (sub_skip sub_all) sub_all (firstOf_s g23 ([veE mw, veE md]) 2 2 _ (S22.get 0 rfl) rfl (by omega)) Try.call79 rfl rfl (by kernel_rfl) (by kernel_rfl) (by kernel_rfl) rfl (fun ac wc A25 S26 => ?_)
  have T28 := S26.sub (sub_skip sub_all) sub_all
  refine r_take 8 (.int .i64 (firstOf [veE mw, veE md])) A25 T28 (g_assign (by kernel_rfl)) rfl rfl rfl (pf_then (pf_then pf_body)) (by kernel_rfl) (fun ac A29 => ?_)
  refine r_done (by kernel_rfl) ?_
  refine n_then ?_
  refine wp_seq ?_
  refine wp_region_lit ?_
  refine s_one (.int .i64 (firstOf [veE mw, veE md])) A29 S26 (g_move (by kernel_rfl)) rfl (fun ac A30 => ?_)
  refine s_one (.bool (decide (firstOf [veE mw, veE md] ≠ 0))) A30 S26 (g_bin (u := .int .i64 (firstOf [veE mw, veE md])) (k := .int .i64 0) (by kernel_rfl) (by kernel_rfl) (fun _ => by kernel_rfl) b_neq) rfl (fun ac A31 => ?_)
  refine wpList_nil ?_
  refine n_then ?_
  refine c_ifb (b := (decide (firstOf [veE mw, veE md] ≠ 0))) A31 (by kernel_rfl) (fun h32 => ?_) (fun h32 => ?_)
  · have p33 := of_decide_eq_true h32
    refine wp_seq ?_
    refine wp_region_lit ?_
    refine s_one (.int .i64 (firstOf [veE mw, veE md])) A31 S26 (g_move (by kernel_rfl)) rfl (fun ac A34 => ?_)
    refine s_one (.int .i64 (firstOf [veE mw, veE md])) A34 S26 (g_assign (by kernel_rfl)) rfl (fun ac A35 => ?_)
    refine wpList_nil ?_
    refine n_then ?_
    refine wp_ret ?_
    refine r_then ?_
    refine fin1 (.int .i64 (firstOf [veE mw, veE md])) Try.results31 A35 S26 (rv_tmp (by kernel_rfl)) ⟨?_, S26.kp⟩
    rw [mdE_r1 p33]
  · have p36 := of_decide_eq_false h32
    refine wp_skip ?_
    refine n_then ?_
    refine wp_seq ?_
    refine wp_seq ?_
    refine c_cut (fun ac wc => Fr 25 ac [(24, .bool ((!(inB ms 0 4)) || (!(inB mt 2 20000)))), (0, .agg #[.int .i64 mw, .int .i64 md, .int .i64 ms, .int .i64 mt]), (1, .pointer (some ⟨g3, 0, none⟩)), (2, .int .i64 0), (4, .pointer (some ⟨g3, 0, none⟩)), (5, .int .i64 mw), (7, .pointer (some ⟨g3, 1, none⟩)), (8, .int .i64 md), (6, .int .i64 (veE mw)), (9, .int .i64 (veE md)), (10, .slice (some ⟨g23, 0, none⟩) 2 2), (11, .int .i64 (firstOf [veE mw, veE md])), (3, .int .i64 (firstOf [veE mw, veE md])), (12, .int .i64 (firstOf [veE mw, veE md])), (13, .bool (decide (firstOf [veE mw, veE md] ≠ 0)))] ∧ St w0 [⟨g23, 3, #[.int .i64 (veE mw), .int .i64 (veE md)], true⟩, ⟨g3, 39, #[.int .i64 mw, .int .i64 md, .int .i64 ms, .int .i64 mt], true⟩] [] wc) ?_ ?_
    · refine wp_region_lit ?_
      refine s_one (.pointer (some ⟨g3, 2, none⟩)) A31 S26 (g_field (u := .pointer (some ⟨g3, 0, none⟩)) (by kernel_rfl) (fun _ => by kernel_rfl)) rfl (fun ac A37 => ?_)
      refine s_one (.int .i64 ms) A37 S26 (g_load (g := g3) (off := 2) 1 (by kernel_rfl) rfl (by kernel_rfl)) rfl (fun ac A38 => ?_)
      refine s_call (fs := #[]) (cp := #[]) (r := [(0, .int .i64 ms), (0, .int .i64 0), (0, .int .i64 4)]) #[.int .i64 ms, .int .i64 0, .int .i64 4] (.bool (inB ms 0 4)) A38 S26 (Within_s ms 0 4 _) Try.call26 (by kernel_rfl) (by kernel_rfl) (by kernel_rfl) rfl (fun ac wc A39 S40 => ?_)
      refine s_one (.bool (!(inB ms 0 4))) A39 S40 (g_un (u := .bool (inB ms 0 4)) (by kernel_rfl) (fun _ => by kernel_rfl)) rfl (fun ac A42 => ?_)
      refine s_one (.bool (!(inB ms 0 4))) A42 S40 (g_move (by kernel_rfl)) rfl (fun ac A43 => ?_)
      refine by_bool (!(inB ms 0 4)) (fun h44 => ?_) (fun h44 => ?_)
      · have h45 : inB ms 0 4 = false := by simpa using h44
        refine s_not (dj := 19) (b := (!(inB ms 0 4))) A43 (by kernel_rfl) (by kernel_rfl) h44 rfl (fun ac A46 => ?_)
        refine s_not (dj := 19) (b := (!(inB ms 0 4))) A46 (by kernel_rfl) (by kernel_rfl) h44 rfl (fun ac A47 => ?_)
        refine s_not (dj := 19) (b := (!(inB ms 0 4))) A47 (by kernel_rfl) (by kernel_rfl) h44 rfl (fun ac A48 => ?_)
        refine s_not (dj := 19) (b := (!(inB ms 0 4))) A48 (by kernel_rfl) (by kernel_rfl) h44 rfl (fun ac A49 => ?_)
        refine s_one (.bool true) A49 S40 (g_pick_t (b := (!(inB ms 0 4))) (by kernel_rfl) h44 (by kernel_rfl)) rfl (fun ac A50 => ?_)
        refine wpList_nil ?_
        refine n_then ?_
        exact ⟨(A50.slot (A50.slot (A50.slot (A50.slot (A50.slot (A50.slot (A50.slot (A50.slot (A50.slot (A50.slot (A50.slot (A50.slot (A50.slot (A50.slot (A50.slot A50.nil (v := .bool (decide (firstOf [veE mw, veE md] ≠ 0))) (by kernel_rfl) rfl) (v := .int .i64 (firstOf [veE mw, veE md])) (by kernel_rfl) rfl) (v := .int .i64 (firstOf [veE mw, veE md])) (by kernel_rfl) rfl) (v := .int .i64 (firstOf [veE mw, veE md])) (by kernel_rfl) rfl) (v := .slice (some ⟨g23, 0, none⟩) 2 2) (by kernel_rfl) rfl) (v := .int .i64 (veE md)) (by kernel_rfl) rfl) (v := .int .i64 (veE mw)) (by kernel_rfl) rfl) (v := .int .i64 md) (by kernel_rfl) rfl) (v := .pointer (some ⟨g3, 1, none⟩)) (by kernel_rfl) rfl) (v := .int .i64 mw) (by kernel_rfl) rfl) (v := .pointer (some ⟨g3, 0, none⟩)) (by kernel_rfl) rfl) (v := .int .i64 0) (by kernel_rfl) rfl) (v := .pointer (some ⟨g3, 0, none⟩)) (by kernel_rfl) rfl) (v := .agg #[.int .i64 mw, .int .i64 md, .int .i64 ms, .int .i64 mt]) (by kernel_rfl) rfl) (v := .bool true) (by kernel_rfl) (congrArg Value.bool (b_ot1 h44).symm)), S40.sub sub_all sub_all⟩
      · have h51 : inB ms 0 4 = true := by simpa using h44
        refine s_want (dj := 19) (b := (!(inB ms 0 4))) A43 (by kernel_rfl) (by kernel_rfl) h44 ?_
        refine s_one (.pointer (some ⟨g3, 3, none⟩)) A43 S40 (g_field (u := .pointer (some ⟨g3, 0, none⟩)) (by kernel_rfl) (fun _ => by kernel_rfl)) rfl (fun ac A52 => ?_)
        refine s_want (dj := 19) (b := (!(inB ms 0 4))) A52 (by kernel_rfl) (by kernel_rfl) h44 ?_
        refine s_one (.int .i64 mt) A52 S40 (g_load (g := g3) (off := 3) 1 (by kernel_rfl) rfl (by kernel_rfl)) rfl (fun ac A53 => ?_)
        refine s_want (dj := 19) (b := (!(inB ms 0 4))) A53 (by kernel_rfl) (by kernel_rfl) h44 ?_
        refine s_call (fs := #[]) (cp := #[]) (r := [(0, .int .i64 mt), (0, .int .i64 2), (0, .int .i64 20000)]) #[.int .i64 mt, .int .i64 2, .int .i64 20000] (.bool (inB mt 2 20000)) A53 S40 (Within_s mt 2 20000 _) Try.call26 (by kernel_rfl) (by kernel_rfl) (by kernel_rfl) rfl (fun ac wc A54 S55 => ?_)
        refine s_want (dj := 19) (b := (!(inB ms 0 4))) A54 (by kernel_rfl) (by kernel_rfl) h44 ?_
        refine s_one (.bool (!(inB mt 2 20000))) A54 S55 (g_un (u := .bool (inB mt 2 20000)) (by kernel_rfl) (fun _ => by kernel_rfl)) rfl (fun ac A57 => ?_)
        refine s_one (.bool (!(inB mt 2 20000))) A57 S55 (g_pick_f (b := (!(inB ms 0 4))) (by kernel_rfl) h44 (by kernel_rfl)) rfl (fun ac A58 => ?_)
        refine wpList_nil ?_
        refine n_then ?_
        exact ⟨(A58.slot (A58.slot (A58.slot (A58.slot (A58.slot (A58.slot (A58.slot (A58.slot (A58.slot (A58.slot (A58.slot (A58.slot (A58.slot (A58.slot (A58.slot A58.nil (v := .bool (decide (firstOf [veE mw, veE md] ≠ 0))) (by kernel_rfl) rfl) (v := .int .i64 (firstOf [veE mw, veE md])) (by kernel_rfl) rfl) (v := .int .i64 (firstOf [veE mw, veE md])) (by kernel_rfl) rfl) (v := .int .i64 (firstOf [veE mw, veE md])) (by kernel_rfl) rfl) (v := .slice (some ⟨g23, 0, none⟩) 2 2) (by kernel_rfl) rfl) (v := .int .i64 (veE md)) (by kernel_rfl) rfl) (v := .int .i64 (veE mw)) (by kernel_rfl) rfl) (v := .int .i64 md) (by kernel_rfl) rfl) (v := .pointer (some ⟨g3, 1, none⟩)) (by kernel_rfl) rfl) (v := .int .i64 mw) (by kernel_rfl) rfl) (v := .pointer (some ⟨g3, 0, none⟩)) (by kernel_rfl) rfl) (v := .int .i64 0) (by kernel_rfl) rfl) (v := .pointer (some ⟨g3, 0, none⟩)) (by kernel_rfl) rfl) (v := .agg #[.int .i64 mw, .int .i64 md, .int .i64 ms, .int .i64 mt]) (by kernel_rfl) rfl) (v := .bool (!(inB mt 2 20000))) (by kernel_rfl) (congrArg Value.bool (b_or_f h44 (Eq.refl (!(inB mt 2 20000)))).symm)), S55.sub sub_all sub_all⟩
    · rintro ac wc ⟨A59, S60⟩
      refine n_then ?_
      refine c_ifb (b := ((!(inB ms 0 4)) || (!(inB mt 2 20000)))) A59 (by kernel_rfl) (fun h61 => ?_) (fun h61 => ?_)
      · refine wp_seq ?_
        refine wp_region_lit ?_
        refine s_one (.int .i64 2) A59 S60 (g_assign (by kernel_rfl)) rfl (fun ac A62 => ?_)
        refine wpList_nil ?_
        refine n_then ?_
        refine wp_ret ?_
        refine r_then ?_
        refine fin1 (.int .i64 2) Try.results31 A62 S60 (rv_tmp (by kernel_rfl)) ⟨?_, S60.kp⟩
        rw [mdE_r2 (by simpa using p36) h61]
      · have h63 := (Bool.or_eq_false_iff.1 h61).1
        have h64 : inB ms 0 4 = true := by simpa using h63
        have h65 := (Bool.or_eq_false_iff.1 h61).2
        have h66 : inB mt 2 20000 = true := by simpa using h65
        refine wp_skip ?_
        refine n_then ?_
        refine wp_seq ?_
        refine wp_region_lit ?_
        refine s_one (.int .i64 0) A59 S60 (g_assign (by kernel_rfl)) rfl (fun ac A67 => ?_)
        refine wpList_nil ?_
        refine n_then ?_
        refine wp_ret ?_
        refine fin1 (.int .i64 0) Try.results31 A67 S60 (rv_tmp (by kernel_rfl)) ⟨?_, S60.kp⟩
        rw [mdE_r3 (by simpa using p36) h64 h66]

set_option maxRecDepth 100000 in
set_option maxHeartbeats 400000 in
theorem Unfolded_s (mw md ms mt z : Int) (w0 : World) :
    Calls Try.prog 30 #[.agg #[.int .i64 mw, .int .i64 md, .int .i64 ms, .int .i64 mt], .int .i64 z] w0 fun e w' => e = .returned (.tuple #[.int .i64 (zv (ufE mw md ms mt z) (unf ms mt z)), .int .i64 (ufE mw md ms mt z)]) ∧ Below w0.heap.size w0 w' := by
  have S0 := St.start w0
  refine enter (n := 23) Try.func30 rfl rfl rfl (fun ac A0 => ?_)
  refine wp_seq ?_
  refine wp_region_lit ?_
  refine s_box (.agg #[.int .i64 mw, .int .i64 md, .int .i64 ms, .int .i64 mt]) A0 S0 (by kernel_rfl) rfl (fun g3 ac wc A1 S2 => ?_)
  replace S2 : St _ (⟨g3, 39, #[.int .i64 mw, .int .i64 md, .int .i64 ms, .int .i64 mt], true⟩ :: _) _ _ := S2
  refine s_one (.int .i64 0) A1 S2 (g_assign (by kernel_rfl)) rfl (fun ac A5 => ?_)
  refine s_one (.int .i64 0) A5 S2 (g_assign (by kernel_rfl)) rfl (fun ac A6 => ?_)
  refine wpList_nil ?_
  refine n_then ?_
  refine wp_seq ?_
  refine wp_seq ?_
  refine r_begin (w0 := w0) (by kernel_rfl) (S2.sub sub_all sub_all) (fun wc T7 B8 => ?_)
  have S9 := S2.kept B8
  refine r_take 0 (.agg #[.int .i64 mw, .int .i64 md, .int .i64 ms, .int .i64 mt]) A6 T7 (g_load (g := g3) (off := 0) 0 (by kernel_rfl) rfl (by kernel_rfl)) rfl rfl rfl (pf_then (pf_then pf_body)) (by kernel_rfl) (fun ac A10 => ?_)
  refine r_take 2 (.int .i64 z) A10 T7 (g_move (by kernel_rfl)) rfl rfl rfl (pf_then (pf_then pf_body)) (by kernel_rfl) (fun ac A11 => ?_)
  refine r_take 3 (.pointer (some ⟨g3, 3, none⟩)) A11 T7 (g_field (u := .pointer (some ⟨g3, 0, none⟩)) (by kernel_rfl) (fun _ => by kernel_rfl)) rfl rfl rfl (pf_then (pf_then pf_body)) (by kernel_rfl) (fun ac A12 => ?_)
  refine r_take 4 (.int .i64 mt) A12 T7 (g_load (g := g3) (off := 3) 0 (by kernel_rfl) rfl (by kernel_rfl)) rfl rfl rfl (pf_then (pf_then pf_body)) (by kernel_rfl) (fun ac A13 => ?_)
  refine r_take 5 (.int .i64 (wr (mt - 1))) A13 T7 (g_bin (u := .int .i64 mt) (k := .int .i64 1) (by kernel_rfl) (by kernel_rfl) (fun _ => by kernel_rfl) b_subW) rfl rfl rfl (pf_then (pf_then pf_body)) (by kernel_rfl) (fun ac A14 => ?_)
  refine r_1 (i := 1) (by kernel_rfl) ?_
  refine rs_call (fs := #[]) (cp := #[]) (r := [(0, .agg #[.int .i64 mw, .int .i64 md, .int .i64 ms, .int .i64 mt])]) #[.agg #[.int .i64 mw, .int .i64 md, .int .i64 ms, .int .i64 mt]] (.int .i64 (mdE mw md ms mt)) A14 S9 sub_all sub_all (CheckMode_s mw md ms mt _) Try.call32 rfl rfl (by kernel_rfl) (by kernel_rfl) (by kernel_rfl) rfl (fun ac wc A15 S16 => ?_)
  have T18 := S16.sub sub_all sub_all
  refine r_1 (i := 6) (by kernel_rfl) ?_
  refine rs_call (fs := #[]) (cp := #[]) (r := [(0, .int .i64 z), (0, .int .i64 1), (0, .int .i64 (wr (mt - 1)))]) #[.int .i64 z, .int .i64 1, .int .i64 (wr (mt - 1))] (.bool (inB z 1 (wr (mt - 1)))) A15 S16 sub_all sub_all (within_s z 1 (wr (mt - 1)) _) Try.call89 rfl rfl (by kernel_rfl) (by kernel_rfl) (by kernel_rfl) rfl (fun ac wc A19 S20 => ?_)
  have T22 := S20.sub sub_all sub_all
  refine r_1 (i := 7) (by kernel_rfl) ?_
  refine rs_call (fs := #[]) (cp := #[]) (r := [(0, .bool (inB z 1 (wr (mt - 1)))), (0, .int .i64 22)]) #[.bool (inB z 1 (wr (mt - 1))), .int .i64 22] (.int .i64 (must_a_r (inB z 1 (wr (mt - 1))) 22)) A19 S20 sub_all sub_all (must_a (inB z 1 (wr (mt - 1))) 22 _) Try.call88 rfl rfl (by kernel_rfl) (by kernel_rfl) (by kernel_rfl) rfl (fun ac wc A23 S24 => ?_)
  have T26 := S24.sub sub_all sub_all
  refine r_1 (i := 8) (by kernel_rfl) ?_
  refine rs_bs (e := 25) (r := [(0, .int .i64 (mdE mw md ms mt)), (1, .int .i64 (must_a_r (inB z 1 (wr (mt - 1))) 22))]) (#[.int .i64 (mdE mw md ms mt), .int .i64 (must_a_r (inB z 1 (wr (mt - 1))) 22)]) A23 S24 sub_all sub_all (by kernel_rfl) (by kernel_rfl) rfl rfl rfl (fun g29 ac wc A27 S28 => ?_)
  have T30 := S28.sub (sub_skip sub_all) sub_all
  refine r_1 (i := 9) (by kernel_rfl) ?_
  refine rs_call (fs := #[]) (cp := #[]) (r := [(0, .slice (some ⟨g29, 0, none⟩) 2 2)]) #[.slice (some ⟨g29, 0, none⟩) 2 2] (.int .i64 (firstOf [mdE mw md ms mt, (must_a_r (inB z 1 (wr (mt - 1))) 22)])) A27 S28 (sub_skip sub_all) sub_all (first_s g29 ([mdE mw md ms mt, (must_a_r (inB z 1 (wr (mt - 1))) 22)]) 2 2 _ (S28.get 0 rfl) rfl (by omega)) Try.call83 rfl rfl (by kernel_rfl) (by kernel_rfl) (by kernel_rfl) rfl (fun ac wc A31 S32 => ?_)
  have T34 := S32.sub (sub_skip sub_all) sub_all
  refine r_take 10 (.int .i64 (firstOf [mdE mw md ms mt, (must_a_r (inB z 1 (wr (mt - 1))) 22)])) A31 T34 (g_assign (by kernel_rfl)) rfl rfl rfl (pf_then (pf_then pf_body)) (by kernel_rfl) (fun ac A35 => ?_)
  refine r_done (by kernel_rfl) ?_
  refine n_then ?_
  refine wp_seq ?_
  refine wp_region_lit ?_
  refine s_one (.int .i64 (firstOf [mdE mw md ms mt, (must_a_r (inB z 1 (wr (mt - 1))) 22)])) A35 S32 (g_move (by kernel_rfl)) rfl (fun ac A36 => ?_)
  refine s_one (.bool (decide (firstOf [mdE mw md ms mt, (must_a_r (inB z 1 (wr (mt - 1))) 22)] ≠ 0))) A36 S32 (g_bin (u := .int .i64 (firstOf [mdE mw md ms mt, (must_a_r (inB z 1 (wr (mt - 1))) 22)])) (k := .int .i64 0) (by kernel_rfl) (by kernel_rfl) (fun _ => by kernel_rfl) b_neq) rfl (fun ac A37 => ?_)
  refine wpList_nil ?_
  refine n_then ?_
  refine c_ifb (b := (decide (firstOf [mdE mw md ms mt, (must_a_r (inB z 1 (wr (mt - 1))) 22)] ≠ 0))) A37 (by kernel_rfl) (fun h38 => ?_) (fun h38 => ?_)
  · have p39 := of_decide_eq_true h38
    refine wp_seq ?_
    refine wp_region_lit ?_
    refine s_one (.int .i64 (firstOf [mdE mw md ms mt, (must_a_r (inB z 1 (wr (mt - 1))) 22)])) A37 S32 (g_move (by kernel_rfl)) rfl (fun ac A40 => ?_)
    refine s_one (.int .i64 0) A40 S32 (g_assign (by kernel_rfl)) rfl (fun ac A41 => ?_)
    refine s_one (.int .i64 (firstOf [mdE mw md ms mt, (must_a_r (inB z 1 (wr (mt - 1))) 22)])) A41 S32 (g_assign (by kernel_rfl)) rfl (fun ac A42 => ?_)
    refine wpList_nil ?_
    refine n_then ?_
    refine wp_ret ?_
    refine r_then ?_
    refine fin2 (.int .i64 0) (.int .i64 (firstOf [mdE mw md ms mt, (must_a_r (inB z 1 (wr (mt - 1))) 22)])) Try.results30 A42 S32 (rv_tmp (by kernel_rfl)) (rv_tmp (by kernel_rfl)) ⟨?_, S32.kp⟩
    have zn : ufE mw md ms mt z ≠ 0 := p39
    simp only [zv_n zn]
    rfl
  · have p43 := of_decide_eq_false h38
    have ze0 : firstOf [mdE mw md ms mt, (must_a_r (inB z 1 (wr (mt - 1))) 22)] = 0 := by simpa using h38
    have ze : ufE mw md ms mt z = 0 := ze0
    have zz := ufE_0 ze
    have zm := mdE_0 zz.1
    refine wp_skip ?_
    refine n_then ?_
    refine wp_seq ?_
    refine wp_region_lit ?_
    refine s_one (.agg #[.int .i64 mw, .int .i64 md, .int .i64 ms, .int .i64 mt]) A37 S32 (g_load (g := g3) (off := 0) 1 (by kernel_rfl) rfl (by kernel_rfl)) rfl (fun ac A44 => ?_)
    refine s_one (.int .i64 z) A44 S32 (g_move (by kernel_rfl)) rfl (fun ac A45 => ?_)
    have q49 := unf_bd (ms := ms) (mt := mt) (z := z) (by omega) (by omega) (by omega)
    refine s_call (fs := #[]) (cp := #[]) (r := [(0, .agg #[.int .i64 mw, .int .i64 md, .int .i64 ms, .int .i64 mt]), (0, .int .i64 z)]) #[.agg #[.int .i64 mw, .int .i64 md, .int .i64 ms, .int .i64 mt], .int .i64 z] (.int .i64 (unf ms mt z)) A45 S32 (unfolded_s mw md ms mt z _ (by omega) (by omega) (by omega)) Try.call90 (by kernel_rfl) (by kernel_rfl) (by kernel_rfl) rfl (fun ac wc A46 S47 => ?_)
    refine s_one (.int .i64 (unf ms mt z)) A46 S47 (g_assign (by kernel_rfl)) rfl (fun ac A50 => ?_)
    refine s_one (.int .i64 0) A50 S47 (g_assign (by kernel_rfl)) rfl (fun ac A51 => ?_)
    refine wpList_nil ?_
    refine n_then ?_
    refine wp_ret ?_
    refine fin2 (.int .i64 (unf ms mt z)) (.int .i64 0) Try.results30 A51 S47 (rv_tmp (by kernel_rfl)) (rv_tmp (by kernel_rfl)) ⟨?_, S47.kp⟩
    simp only [zv_0 ze]
    rw [ze]

set_option maxRecDepth 100000 in
set_option maxHeartbeats 400000 in
theorem refUnfolded_s (mw md ms mt z : Int) (w0 : World) (h1 : 0 ≤ ms ∧ ms ≤ 4) (h2 : 2 ≤ mt ∧ mt ≤ 20000) (h3 : 1 ≤ z ∧ z ≤ mt - 1) :
    Calls Try.prog 33 #[.agg #[.int .i64 mw, .int .i64 md, .int .i64 ms, .int .i64 mt], .int .i64 z] w0 fun e w' => e = .returned (.int .i64 (unf ms mt z)) ∧ Below w0.heap.size w0 w' := by
  have S0 := St.start w0
  have q := mst_bd h1 h2
  refine enter (n := 26) Try.func33 rfl rfl rfl (fun ac A0 => ?_)
  refine wp_seq ?_
  refine wp_region_lit ?_
  refine s_box (.agg #[.int .i64 mw, .int .i64 md, .int .i64 ms, .int .i64 mt]) A0 S0 (by kernel_rfl) rfl (fun g3 ac wc A1 S2 => ?_)
  replace S2 : St _ (⟨g3, 39, #[.int .i64 mw, .int .i64 md, .int .i64 ms, .int .i64 mt], true⟩ :: _) _ _ := S2
  refine s_one (.int .i64 0) A1 S2 (g_assign (by kernel_rfl)) rfl (fun ac A5 => ?_)
  refine wpList_nil ?_
  refine n_then ?_
  refine wp_seq ?_
  refine wp_seq ?_
  refine wp_region_lit ?_
  refine s_one (.pointer (some ⟨g3, 2, none⟩)) A5 S2 (g_field (u := .pointer (some ⟨g3, 0, none⟩)) (by kernel_rfl) (fun _ => by kernel_rfl)) rfl (fun ac A6 => ?_)
  refine s_one (.int .i64 ms) A6 S2 (g_load (g := g3) (off := 2) 0 (by kernel_rfl) rfl (by kernel_rfl)) rfl (fun ac A7 => ?_)
  refine s_one (.int .i64 ((ms).tmod 2)) A7 S2 (g_bin (u := .int .i64 ms) (k := .int .i64 2) (by kernel_rfl) (by kernel_rfl) (fun _ => by kernel_rfl) (b_rem (by omega))) rfl (fun ac A8 => ?_)
  refine s_one (.bool (decide ((ms).tmod 2 = 0))) A8 S2 (g_bin (u := .int .i64 ((ms).tmod 2)) (k := .int .i64 0) (by kernel_rfl) (by kernel_rfl) (fun _ => by kernel_rfl) b_eql) rfl (fun ac A9 => ?_)
  refine wpList_nil ?_
  refine n_then ?_
  refine c_ifb (b := (decide ((ms).tmod 2 = 0))) A9 (by kernel_rfl) (fun h10 => ?_) (fun h10 => ?_)
  · have p11 := of_decide_eq_true h10
    refine wp_seq ?_
    refine wp_region_lit ?_
    refine s_one (.pointer (some ⟨g3, 2, none⟩)) A9 S2 (g_field (u := .pointer (some ⟨g3, 0, none⟩)) (by kernel_rfl) (fun _ => by kernel_rfl)) rfl (fun ac A12 => ?_)
    refine s_one (.int .i64 ms) A12 S2 (g_load (g := g3) (off := 2) 0 (by kernel_rfl) rfl (by kernel_rfl)) rfl (fun ac A13 => ?_)
    refine s_one (.pointer (some ⟨g3, 3, none⟩)) A13 S2 (g_field (u := .pointer (some ⟨g3, 0, none⟩)) (by kernel_rfl) (fun _ => by kernel_rfl)) rfl (fun ac A14 => ?_)
    refine s_one (.int .i64 mt) A14 S2 (g_load (g := g3) (off := 3) 0 (by kernel_rfl) rfl (by kernel_rfl)) rfl (fun ac A15 => ?_)
    refine s_one (.int .i64 (ms * mt)) A15 S2 (g_bin (u := .int .i64 ms) (k := .int .i64 mt) (by kernel_rfl) (by kernel_rfl) (fun _ => by kernel_rfl) (b_mul (by omega))) rfl (fun ac A16 => ?_)
    refine s_one (.int .i64 z) A16 S2 (g_move (by kernel_rfl)) rfl (fun ac A17 => ?_)
    refine s_one (.int .i64 (ms * mt + z)) A17 S2 (g_bin (u := .int .i64 (ms * mt)) (k := .int .i64 z) (by kernel_rfl) (by kernel_rfl) (fun _ => by kernel_rfl) (b_add (by omega))) rfl (fun ac A18 => ?_)
    refine s_one (.int .i64 (ms * mt + z)) A18 S2 (g_assign (by kernel_rfl)) rfl (fun ac A19 => ?_)
    refine wpList_nil ?_
    refine n_then ?_
    refine wp_ret ?_
    refine r_then ?_
    refine fin1 (.int .i64 (ms * mt + z)) Try.results33 A19 S2 (rv_tmp (by kernel_rfl)) ⟨?_, S2.kp⟩
    have e : unf ms mt z = ms * mt + z := (unf_r h1).trans (if_pos p11)
    rw [e]
  · have p20 := of_decide_eq_false h10
    refine wp_skip ?_
    refine n_then ?_
    refine wp_seq ?_
    refine wp_region_lit ?_
    refine s_one (.pointer (some ⟨g3, 2, none⟩)) A9 S2 (g_field (u := .pointer (some ⟨g3, 0, none⟩)) (by kernel_rfl) (fun _ => by kernel_rfl)) rfl (fun ac A21 => ?_)
    refine s_one (.int .i64 ms) A21 S2 (g_load (g := g3) (off := 2) 0 (by kernel_rfl) rfl (by kernel_rfl)) rfl (fun ac A22 => ?_)
    refine s_one (.pointer (some ⟨g3, 3, none⟩)) A22 S2 (g_field (u := .pointer (some ⟨g3, 0, none⟩)) (by kernel_rfl) (fun _ => by kernel_rfl)) rfl (fun ac A23 => ?_)
    refine s_one (.int .i64 mt) A23 S2 (g_load (g := g3) (off := 3) 0 (by kernel_rfl) rfl (by kernel_rfl)) rfl (fun ac A24 => ?_)
    refine s_one (.int .i64 (ms * mt)) A24 S2 (g_bin (u := .int .i64 ms) (k := .int .i64 mt) (by kernel_rfl) (by kernel_rfl) (fun _ => by kernel_rfl) (b_mul (by omega))) rfl (fun ac A25 => ?_)
    refine s_one (.pointer (some ⟨g3, 3, none⟩)) A25 S2 (g_field (u := .pointer (some ⟨g3, 0, none⟩)) (by kernel_rfl) (fun _ => by kernel_rfl)) rfl (fun ac A26 => ?_)
    refine s_one (.int .i64 mt) A26 S2 (g_load (g := g3) (off := 3) 0 (by kernel_rfl) rfl (by kernel_rfl)) rfl (fun ac A27 => ?_)
    refine s_one (.int .i64 (ms * mt + mt)) A27 S2 (g_bin (u := .int .i64 (ms * mt)) (k := .int .i64 mt) (by kernel_rfl) (by kernel_rfl) (fun _ => by kernel_rfl) (b_add (by omega))) rfl (fun ac A28 => ?_)
    refine s_one (.int .i64 z) A28 S2 (g_move (by kernel_rfl)) rfl (fun ac A29 => ?_)
    refine s_one (.int .i64 (ms * mt + mt - z)) A29 S2 (g_bin (u := .int .i64 (ms * mt + mt)) (k := .int .i64 z) (by kernel_rfl) (by kernel_rfl) (fun _ => by kernel_rfl) (b_sub (by omega))) rfl (fun ac A30 => ?_)
    refine s_one (.int .i64 (ms * mt + mt - z)) A30 S2 (g_assign (by kernel_rfl)) rfl (fun ac A31 => ?_)
    refine wpList_nil ?_
    refine n_then ?_
    refine wp_ret ?_
    refine fin1 (.int .i64 (ms * mt + mt - z)) Try.results33 A31 S2 (rv_tmp (by kernel_rfl)) ⟨?_, S2.kp⟩
    have e : unf ms mt z = ms * mt + mt - z := (unf_r h1).trans (if_neg p20)
    rw [e]

theorem wyE_r1 {mt fx fz tx tz : Int} (h : firstOf [spE fx fz, spE tx tz] ≠ 0) : wyE mt fx fz tx tz = firstOf [spE fx fz, spE tx tz] := fo_a (r := [_, _]) h
theorem wyE_r {mt fx fz tx tz : Int} (h : firstOf [spE fx fz, spE tx tz] = 0) : wyE mt fx fz tx tz = firstOf [must_a_r (decide (fz < 0)) 15, must_a_r (inB tz 1 (mt - 1)) 22] := fo_b (r := [_, _]) h
theorem wyE_r2 {mt fx fz tx tz : Int} (h : firstOf [spE fx fz, spE tx tz] = 0) (h2 : fz ≥ 0) : wyE mt fx fz tx tz = 15 := by
  rw [wyE_r h, decide_eq_false (by omega)]; exact fo_ne (by decide)
theorem wyE_r3 {mt fx fz tx tz : Int} (h : firstOf [spE fx fz, spE tx tz] = 0) (h2 : ¬ fz ≥ 0) : wyE mt fx fz tx tz = must_a_r (inB tz 1 (mt - 1)) 22 := by
  rw [wyE_r h, decide_eq_true (by omega), fo_cons0 (must_t _), fo_last]

set_option maxRecDepth 100000 in
set_option maxHeartbeats 400000 in
theorem refWayErr_s (mw md ms mt fx fz tx tz : Int) (w0 : World) (h2 : 2 ≤ mt ∧ mt ≤ 20000) :
    Calls Try.prog 97 #[.agg #[.int .i64 mw, .int .i64 md, .int .i64 ms, .int .i64 mt], .agg #[.int .i64 fx, .int .i64 fz], .agg #[.int .i64 tx, .int .i64 tz]] w0 fun e w' => e = .returned (.int .i64 (wyE mt fx fz tx tz)) ∧ Below w0.heap.size w0 w' := by
  have S0 := St.start w0
  refine enter (n := 27) Try.func97 rfl rfl rfl (fun ac A0 => ?_)
  refine wp_seq ?_
  refine wp_region_lit ?_
  refine s_box (.agg #[.int .i64 mw, .int .i64 md, .int .i64 ms, .int .i64 mt]) A0 S0 (by kernel_rfl) rfl (fun g3 ac wc A1 S2 => ?_)
  replace S2 : St _ (⟨g3, 39, #[.int .i64 mw, .int .i64 md, .int .i64 ms, .int .i64 mt], true⟩ :: _) _ _ := S2
  refine s_box (.agg #[.int .i64 fx, .int .i64 fz]) A1 S2 (by kernel_rfl) rfl (fun g7 ac wc A5 S6 => ?_)
  replace S6 : St _ (⟨g7, 41, #[.int .i64 fx, .int .i64 fz], true⟩ :: _) _ _ := S6
  refine s_box (.agg #[.int .i64 tx, .int .i64 tz]) A5 S6 (by kernel_rfl) rfl (fun g11 ac wc A9 S10 => ?_)
  replace S10 : St _ (⟨g11, 41, #[.int .i64 tx, .int .i64 tz], true⟩ :: _) _ _ := S10
  refine s_one (.int .i64 0) A9 S10 (g_assign (by kernel_rfl)) rfl (fun ac A13 => ?_)
  refine wpList_nil ?_
  refine n_then ?_
  refine wp_seq ?_
  refine wp_seq ?_
  refine r_begin (w0 := w0) (by kernel_rfl) (S10.sub sub_all sub_all) (fun wc T14 B15 => ?_)
  have S16 := S10.kept B15
  refine r_take 0 (.agg #[.int .i64 fx, .int .i64 fz]) A13 T14 (g_load (g := g7) (off := 0) 1 (by kernel_rfl) rfl (by kernel_rfl)) rfl rfl rfl (pf_then (pf_then pf_body)) (by kernel_rfl) (fun ac A17 => ?_)
  refine r_take 2 (.agg #[.int .i64 tx, .int .i64 tz]) A17 T14 (g_load (g := g11) (off := 0) 0 (by kernel_rfl) rfl (by kernel_rfl)) rfl rfl rfl (pf_then (pf_then pf_body)) (by kernel_rfl) (fun ac A18 => ?_)
  refine r_1 (i := 1) (by kernel_rfl) ?_
  refine rs_call (fs := #[]) (cp := #[]) (r := [(0, .agg #[.int .i64 fx, .int .i64 fz])]) #[.agg #[.int .i64 fx, .int .i64 fz]] (.int .i64 (spE fx fz)) A18 S16 sub_all sub_all (refSpotErr_s fx fz _) Try.call35 rfl rfl (by kernel_rfl) (by kernel_rfl) (by kernel_rfl) rfl (fun ac wc A19 S20 => ?_)
  have T22 := S20.sub sub_all sub_all
  refine r_1 (i := 3) (by kernel_rfl) ?_
  refine rs_call (fs := #[]) (cp := #[]) (r := [(0, .agg #[.int .i64 tx, .int .i64 tz])]) #[.agg #[.int .i64 tx, .int .i64 tz]] (.int .i64 (spE tx tz)) A19 S20 sub_all sub_all (refSpotErr_s tx tz _) Try.call35 rfl rfl (by kernel_rfl) (by kernel_rfl) (by kernel_rfl) rfl (fun ac wc A23 S24 => ?_)
  have T26 := S24.sub sub_all sub_all
  refine r_1 (i := 4) (by kernel_rfl) ?_
  refine rs_bs (e := 3) (r := [(0, .int .i64 (spE fx fz)), (1, .int .i64 (spE tx tz))]) (#[.int .i64 (spE fx fz), .int .i64 (spE tx tz)]) A23 S24 sub_all sub_all (by kernel_rfl) (by kernel_rfl) rfl rfl rfl (fun g29 ac wc A27 S28 => ?_)
  have T30 := S28.sub (sub_skip sub_all) sub_all
  refine r_1 (i := 5) (by kernel_rfl) ?_
  refine rs_call (fs := #[]) (cp := #[]) (r := [(0, .slice (some ⟨g29, 0, none⟩) 2 2)]) #[.slice (some ⟨g29, 0, none⟩) 2 2] (.int .i64 (firstOf [spE fx fz, spE tx tz])) A27 S28 (sub_skip sub_all) sub_all (firstOf_s g29 ([spE fx fz, spE tx tz]) 2 2 _ (S28.get 0 rfl) rfl (by omega)) Try.call79 rfl rfl (by kernel_rfl) (by kernel_rfl) (by kernel_rfl) rfl (fun ac wc A31 S32 => ?_)
  have T34 := S32.sub (sub_skip sub_all) sub_all
  refine r_take 6 (.int .i64 (firstOf [spE fx fz, spE tx tz])) A31 T34 (g_assign (by kernel_rfl)) rfl rfl rfl (pf_then (pf_then pf_body)) (by kernel_rfl) (fun ac A35 => ?_)
  refine r_done (by kernel_rfl) ?_
  refine n_then ?_
  refine wp_seq ?_
  refine wp_region_lit ?_
  refine s_one (.int .i64 (firstOf [spE fx fz, spE tx tz])) A35 S32 (g_move (by kernel_rfl)) rfl (fun ac A36 => ?_)
  refine s_one (.bool (decide (firstOf [spE fx fz, spE tx tz] ≠ 0))) A36 S32 (g_bin (u := .int .i64 (firstOf [spE fx fz, spE tx tz])) (k := .int .i64 0) (by kernel_rfl) (by kernel_rfl) (fun _ => by kernel_rfl) b_neq) rfl (fun ac A37 => ?_)
  refine wpList_nil ?_
  refine n_then ?_
  refine c_ifb (b := (decide (firstOf [spE fx fz, spE tx tz] ≠ 0))) A37 (by kernel_rfl) (fun h38 => ?_) (fun h38 => ?_)
  · have p39 := of_decide_eq_true h38
    refine wp_seq ?_
    refine wp_region_lit ?_
    refine s_one (.int .i64 (firstOf [spE fx fz, spE tx tz])) A37 S32 (g_move (by kernel_rfl)) rfl (fun ac A40 => ?_)
    refine s_one (.int .i64 (firstOf [spE fx fz, spE tx tz])) A40 S32 (g_assign (by kernel_rfl)) rfl (fun ac A41 => ?_)
    refine wpList_nil ?_
    refine n_then ?_
    refine wp_ret ?_
    refine r_then ?_
    refine fin1 (.int .i64 (firstOf [spE fx fz, spE tx tz])) Try.results97 A41 S32 (rv_tmp (by kernel_rfl)) ⟨?_, S32.kp⟩
    rw [wyE_r1 p39]
  · have p42 := of_decide_eq_false h38
    refine wp_skip ?_
    refine n_then ?_
    refine wp_seq ?_
    refine wp_seq ?_
    refine wp_region_lit ?_
    refine s_one (.pointer (some ⟨g7, 1, none⟩)) A37 S32 (g_field (u := .pointer (some ⟨g7, 0, none⟩)) (by kernel_rfl) (fun _ => by kernel_rfl)) rfl (fun ac A43 => ?_)
    refine s_one (.int .i64 fz) A43 S32 (g_load (g := g7) (off := 1) 2 (by kernel_rfl) rfl (by kernel_rfl)) rfl (fun ac A44 => ?_)
    refine s_one (.bool (decide (fz ≥ 0))) A44 S32 (g_bin (u := .int .i64 fz) (k := .int .i64 0) (by kernel_rfl) (by kernel_rfl) (fun _ => by kernel_rfl) (fun _ => by kernel_rfl)) rfl (fun ac A45 => ?_)
    refine wpList_nil ?_
    refine n_then ?_
    refine c_ifb (b := (decide (fz ≥ 0))) A45 (by kernel_rfl) (fun h46 => ?_) (fun h46 => ?_)
    · have p47 := of_decide_eq_true h46
      refine wp_seq ?_
      refine wp_region_lit ?_
      refine s_one (.int .i64 15) A45 S32 (g_assign (by kernel_rfl)) rfl (fun ac A48 => ?_)
      refine wpList_nil ?_
      refine n_then ?_
      refine wp_ret ?_
      refine r_then ?_
      refine fin1 (.int .i64 15) Try.results97 A48 S32 (rv_tmp (by kernel_rfl)) ⟨?_, S32.kp⟩
      rw [wyE_r2 (by simpa using p42) p47]
    · have p49 := of_decide_eq_false h46
      refine wp_skip ?_
      refine n_then ?_
      refine wp_seq ?_
      refine wp_seq ?_
      refine wp_region_lit ?_
      refine s_one (.pointer (some ⟨g11, 1, none⟩)) A45 S32 (g_field (u := .pointer (some ⟨g11, 0, none⟩)) (by kernel_rfl) (fun _ => by kernel_rfl)) rfl (fun ac A50 => ?_)
      refine s_one (.int .i64 tz) A50 S32 (g_load (g := g11) (off := 1) 1 (by kernel_rfl) rfl (by kernel_rfl)) rfl (fun ac A51 => ?_)
      refine s_one (.pointer (some ⟨g3, 3, none⟩)) A51 S32 (g_field (u := .pointer (some ⟨g3, 0, none⟩)) (by kernel_rfl) (fun _ => by kernel_rfl)) rfl (fun ac A52 => ?_)
      refine s_one (.int .i64 mt) A52 S32 (g_load (g := g3) (off := 3) 3 (by kernel_rfl) rfl (by kernel_rfl)) rfl (fun ac A53 => ?_)
      refine s_one (.int .i64 (mt - 1)) A53 S32 (g_bin (u := .int .i64 mt) (k := .int .i64 1) (by kernel_rfl) (by kernel_rfl) (fun _ => by kernel_rfl) (b_sub (by omega))) rfl (fun ac A54 => ?_)
      refine s_call (fs := #[]) (cp := #[]) (r := [(0, .int .i64 tz), (0, .int .i64 1), (0, .int .i64 (mt - 1))]) #[.int .i64 tz, .int .i64 1, .int .i64 (mt - 1)] (.bool (inB tz 1 (mt - 1))) A54 S32 (Within_s tz 1 (mt - 1) _) Try.call26 (by kernel_rfl) (by kernel_rfl) (by kernel_rfl) rfl (fun ac wc A55 S56 => ?_)
      refine s_one (.bool (!(inB tz 1 (mt - 1)))) A55 S56 (g_un (u := .bool (inB tz 1 (mt - 1))) (by kernel_rfl) (fun _ => by kernel_rfl)) rfl (fun ac A58 => ?_)
      refine wpList_nil ?_
      refine n_then ?_
      refine c_ifb (b := (!(inB tz 1 (mt - 1)))) A58 (by kernel_rfl) (fun h59 => ?_) (fun h59 => ?_)
      · have h60 : inB tz 1 (mt - 1) = false := by simpa using h59
        refine wp_seq ?_
        refine wp_region_lit ?_
        refine s_one (.int .i64 22) A58 S56 (g_assign (by kernel_rfl)) rfl (fun ac A61 => ?_)
        refine wpList_nil ?_
        refine n_then ?_
        refine wp_ret ?_
        refine r_then ?_
        refine fin1 (.int .i64 22) Try.results97 A61 S56 (rv_tmp (by kernel_rfl)) ⟨?_, S56.kp⟩
        rw [wyE_r3 (by simpa using p42) p49, h60]
        rfl
      · have h62 : inB tz 1 (mt - 1) = true := by simpa using h59
        refine wp_skip ?_
        refine n_then ?_
        refine wp_seq ?_
        refine wp_region_lit ?_
        refine s_one (.int .i64 0) A58 S56 (g_assign (by kernel_rfl)) rfl (fun ac A63 => ?_)
        refine wpList_nil ?_
        refine n_then ?_
        refine wp_ret ?_
        refine fin1 (.int .i64 0) Try.results97 A63 S56 (rv_tmp (by kernel_rfl)) ⟨?_, S56.kp⟩
        rw [wyE_r3 (by simpa using p42) p49, h62]
        rfl

set_option maxRecDepth 100000 in
set_option maxHeartbeats 400000 in
theorem CrossOf_s (mw md ms mt fx fz tx tz : Int) (w0 : World) :
    Calls Try.prog 47 #[.agg #[.int .i64 mw, .int .i64 md, .int .i64 ms, .int .i64 mt], .agg #[.int .i64 fx, .int .i64 fz], .agg #[.int .i64 tx, .int .i64 tz]] w0 fun e w' => e = .returned (.tuple #[.agg #[.int .i64 (zv (opE mw md ms mt fx fz tx tz) (fx)), .int .i64 (zv (opE mw md ms mt fx fz tx tz) (-fz)), .int .i64 (zv (opE mw md ms mt fx fz tx tz) (mw)), .int .i64 (zv (opE mw md ms mt fx fz tx tz) (tx)), .int .i64 (zv (opE mw md ms mt fx fz tx tz) (unf ms mt tz)), .int .i64 (zv (opE mw md ms mt fx fz tx tz) (md))], .int .i64 (opE mw md ms mt fx fz tx tz)]) ∧ Below w0.heap.size w0 w' := by
  have S0 := St.start w0
  refine enter (n := 20) Try.func47 rfl rfl rfl (fun ac A0 => ?_)
  refine wp_seq ?_
  refine wp_region_lit ?_
  refine s_box (.agg #[.int .i64 mw, .int .i64 md, .int .i64 ms, .int .i64 mt]) A0 S0 (by kernel_rfl) rfl (fun g3 ac wc A1 S2 => ?_)
  replace S2 : St _ (⟨g3, 39, #[.int .i64 mw, .int .i64 md, .int .i64 ms, .int .i64 mt], true⟩ :: _) _ _ := S2
  refine s_box (.agg #[.int .i64 fx, .int .i64 fz]) A1 S2 (by kernel_rfl) rfl (fun g7 ac wc A5 S6 => ?_)
  replace S6 : St _ (⟨g7, 41, #[.int .i64 fx, .int .i64 fz], true⟩ :: _) _ _ := S6
  refine s_box (.agg #[.int .i64 tx, .int .i64 tz]) A5 S6 (by kernel_rfl) rfl (fun g11 ac wc A9 S10 => ?_)
  replace S10 : St _ (⟨g11, 41, #[.int .i64 tx, .int .i64 tz], true⟩ :: _) _ _ := S10
  refine s_alloc (#[.int .i64 0, .int .i64 0, .int .i64 0, .int .i64 0, .int .i64 0, .int .i64 0]) A9 S10 (by kernel_rfl) rfl (fun g15 ac wc A13 S14 => ?_)
  refine s_one (.int .i64 0) A13 S14 (g_assign (by kernel_rfl)) rfl (fun ac A16 => ?_)
  refine wpList_nil ?_
  refine n_then ?_
  refine wp_seq ?_
  refine wp_region_lit ?_
  refine s_one (.agg #[.int .i64 mw, .int .i64 md, .int .i64 ms, .int .i64 mt]) A16 S14 (g_load (g := g3) (off := 0) 3 (by kernel_rfl) rfl (by kernel_rfl)) rfl (fun ac A17 => ?_)
  refine s_one (.agg #[.int .i64 fx, .int .i64 fz]) A17 S14 (g_load (g := g7) (off := 0) 2 (by kernel_rfl) rfl (by kernel_rfl)) rfl (fun ac A18 => ?_)
  refine s_one (.agg #[.int .i64 tx, .int .i64 tz]) A18 S14 (g_load (g := g11) (off := 0) 1 (by kernel_rfl) rfl (by kernel_rfl)) rfl (fun ac A19 => ?_)
  refine s_call (fs := #[]) (cp := #[]) (r := [(0, .agg #[.int .i64 mw, .int .i64 md, .int .i64 ms, .int .i64 mt]), (0, .agg #[.int .i64 fx, .int .i64 fz]), (0, .agg #[.int .i64 tx, .int .i64 tz])]) #[.agg #[.int .i64 mw, .int .i64 md, .int .i64 ms, .int .i64 mt], .agg #[.int .i64 fx, .int .i64 fz], .agg #[.int .i64 tx, .int .i64 tz]] (.tuple #[.agg #[.int .i64 (zv (opE mw md ms mt fx fz tx tz) (fx)), .int .i64 (zv (opE mw md ms mt fx fz tx tz) (-fz)), .int .i64 (zv (opE mw md ms mt fx fz tx tz) (mw)), .int .i64 (zv (opE mw md ms mt fx fz tx tz) (tx)), .int .i64 (zv (opE mw md ms mt fx fz tx tz) (unf ms mt tz)), .int .i64 (zv (opE mw md ms mt fx fz tx tz) (md))], .int .i64 (opE mw md ms mt fx fz tx tz)]) A19 S14 (open_s mw md ms mt fx fz tx tz _) Try.call82 (by kernel_rfl) (by kernel_rfl) (by kernel_rfl) rfl (fun ac wc A20 S21 => ?_)
  refine s_one (.tuple #[.agg #[.int .i64 (zv (opE mw md ms mt fx fz tx tz) (fx)), .int .i64 (zv (opE mw md ms mt fx fz tx tz) (-fz)), .int .i64 (zv (opE mw md ms mt fx fz tx tz) (mw)), .int .i64 (zv (opE mw md ms mt fx fz tx tz) (tx)), .int .i64 (zv (opE mw md ms mt fx fz tx tz) (unf ms mt tz)), .int .i64 (zv (opE mw md ms mt fx fz tx tz) (md))], .int .i64 (opE mw md ms mt fx fz tx tz)]) A20 S21 (g_move (by kernel_rfl)) rfl (fun ac A23 => ?_)
  refine s_one (.agg #[.int .i64 (zv (opE mw md ms mt fx fz tx tz) (fx)), .int .i64 (zv (opE mw md ms mt fx fz tx tz) (-fz)), .int .i64 (zv (opE mw md ms mt fx fz tx tz) (mw)), .int .i64 (zv (opE mw md ms mt fx fz tx tz) (tx)), .int .i64 (zv (opE mw md ms mt fx fz tx tz) (unf ms mt tz)), .int .i64 (zv (opE mw md ms mt fx fz tx tz) (md))]) A23 S21 (g_extract (u := .tuple #[.agg #[.int .i64 (zv (opE mw md ms mt fx fz tx tz) (fx)), .int .i64 (zv (opE mw md ms mt fx fz tx tz) (-fz)), .int .i64 (zv (opE mw md ms mt fx fz tx tz) (mw)), .int .i64 (zv (opE mw md ms mt fx fz tx tz) (tx)), .int .i64 (zv (opE mw md ms mt fx fz tx tz) (unf ms mt tz)), .int .i64 (zv (opE mw md ms mt fx fz tx tz) (md))], .int .i64 (opE mw md ms mt fx fz tx tz)]) (by kernel_rfl) (fun _ => by kernel_rfl)) rfl (fun ac A24 => ?_)
  refine s_one (.int .i64 (opE mw md ms mt fx fz tx tz)) A24 S21 (g_extract (u := .tuple #[.agg #[.int .i64 (zv (opE mw md ms mt fx fz tx tz) (fx)), .int .i64 (zv (opE mw md ms mt fx fz tx tz) (-fz)), .int .i64 (zv (opE mw md ms mt fx fz tx tz) (mw)), .int .i64 (zv (opE mw md ms mt fx fz tx tz) (tx)), .int .i64 (zv (opE mw md ms mt fx fz tx tz) (unf ms mt tz)), .int .i64 (zv (opE mw md ms mt fx fz tx tz) (md))], .int .i64 (opE mw md ms mt fx fz tx tz)]) (by kernel_rfl) (fun _ => by kernel_rfl)) rfl (fun ac A25 => ?_)
  refine s_alloc (#[.int .i64 0, .int .i64 0, .int .i64 0, .int .i64 0, .int .i64 0, .int .i64 0]) A25 S21 (by kernel_rfl) rfl (fun g28 ac wc A26 S27 => ?_)
  refine s_store (g := g28) (off := 0) (v := .agg #[.int .i64 (zv (opE mw md ms mt fx fz tx tz) (fx)), .int .i64 (zv (opE mw md ms mt fx fz tx tz) (-fz)), .int .i64 (zv (opE mw md ms mt fx fz tx tz) (mw)), .int .i64 (zv (opE mw md ms mt fx fz tx tz) (tx)), .int .i64 (zv (opE mw md ms mt fx fz tx tz) (unf ms mt tz)), .int .i64 (zv (opE mw md ms mt fx fz tx tz) (md))]) 0 (#[.int .i64 (zv (opE mw md ms mt fx fz tx tz) (fx)), .int .i64 (zv (opE mw md ms mt fx fz tx tz) (-fz)), .int .i64 (zv (opE mw md ms mt fx fz tx tz) (mw)), .int .i64 (zv (opE mw md ms mt fx fz tx tz) (tx)), .int .i64 (zv (opE mw md ms mt fx fz tx tz) (unf ms mt tz)), .int .i64 (zv (opE mw md ms mt fx fz tx tz) (md))]) A26 S27 (by kernel_rfl) (by kernel_rfl) rfl (by kernel_rfl) (fun wc S30 => ?_)
  refine s_one (.int .i64 (opE mw md ms mt fx fz tx tz)) A26 S30 (g_assign (by kernel_rfl)) rfl (fun ac A32 => ?_)
  refine wpList_nil ?_
  refine n_then ?_
  refine wp_seq ?_
  refine wp_region_lit ?_
  refine s_one (.pointer (some ⟨g28, 0, none⟩)) A32 S30 (g_field (u := .pointer (some ⟨g28, 0, none⟩)) (by kernel_rfl) (fun _ => by kernel_rfl)) rfl (fun ac A33 => ?_)
  refine s_one (.agg #[.int .i64 (zv (opE mw md ms mt fx fz tx tz) (fx)), .int .i64 (zv (opE mw md ms mt fx fz tx tz) (-fz)), .int .i64 (zv (opE mw md ms mt fx fz tx tz) (mw)), .int .i64 (zv (opE mw md ms mt fx fz tx tz) (tx)), .int .i64 (zv (opE mw md ms mt fx fz tx tz) (unf ms mt tz)), .int .i64 (zv (opE mw md ms mt fx fz tx tz) (md))]) A33 S30 (g_load (g := g28) (off := 0) 0 (by kernel_rfl) rfl (by kernel_rfl)) rfl (fun ac A34 => ?_)
  refine s_one (.int .i64 (opE mw md ms mt fx fz tx tz)) A34 S30 (g_move (by kernel_rfl)) rfl (fun ac A35 => ?_)
  refine s_store (g := g15) (off := 0) (v := .agg #[.int .i64 (zv (opE mw md ms mt fx fz tx tz) (fx)), .int .i64 (zv (opE mw md ms mt fx fz tx tz) (-fz)), .int .i64 (zv (opE mw md ms mt fx fz tx tz) (mw)), .int .i64 (zv (opE mw md ms mt fx fz tx tz) (tx)), .int .i64 (zv (opE mw md ms mt fx fz tx tz) (unf ms mt tz)), .int .i64 (zv (opE mw md ms mt fx fz tx tz) (md))]) 1 (#[.int .i64 (zv (opE mw md ms mt fx fz tx tz) (fx)), .int .i64 (zv (opE mw md ms mt fx fz tx tz) (-fz)), .int .i64 (zv (opE mw md ms mt fx fz tx tz) (mw)), .int .i64 (zv (opE mw md ms mt fx fz tx tz) (tx)), .int .i64 (zv (opE mw md ms mt fx fz tx tz) (unf ms mt tz)), .int .i64 (zv (opE mw md ms mt fx fz tx tz) (md))]) A35 S30 (by kernel_rfl) (by kernel_rfl) rfl (by kernel_rfl) (fun wc S37 => ?_)
  refine s_one (.int .i64 (opE mw md ms mt fx fz tx tz)) A35 S37 (g_assign (by kernel_rfl)) rfl (fun ac A39 => ?_)
  refine wpList_nil ?_
  refine n_then ?_
  refine wp_ret ?_
  refine fin2 (.agg #[.int .i64 (zv (opE mw md ms mt fx fz tx tz) (fx)), .int .i64 (zv (opE mw md ms mt fx fz tx tz) (-fz)), .int .i64 (zv (opE mw md ms mt fx fz tx tz) (mw)), .int .i64 (zv (opE mw md ms mt fx fz tx tz) (tx)), .int .i64 (zv (opE mw md ms mt fx fz tx tz) (unf ms mt tz)), .int .i64 (zv (opE mw md ms mt fx fz tx tz) (md))]) (.int .i64 (opE mw md ms mt fx fz tx tz)) Try.results47 A39 S37 (rv_cell (g := g15) (off := 0) 1 (by kernel_rfl) rfl (by kernel_rfl)) (rv_tmp (by kernel_rfl)) ⟨?_, S37.kp⟩
  rfl

set_option maxRecDepth 100000 in
set_option maxHeartbeats 400000 in
theorem refCrossOf_s (mw md ms mt fx fz tx tz : Int) (w0 : World) (h1 : 0 ≤ ms ∧ ms ≤ 4) (h2 : 2 ≤ mt ∧ mt ≤ 20000) (h3 : 1 ≤ tz ∧ tz ≤ mt - 1) (h4 : -100000 ≤ fz ∧ fz < 0) :
    Calls Try.prog 51 #[.agg #[.int .i64 mw, .int .i64 md, .int .i64 ms, .int .i64 mt], .agg #[.int .i64 fx, .int .i64 fz], .agg #[.int .i64 tx, .int .i64 tz]] w0 fun e w' => e = .returned (.agg #[.int .i64 (fx), .int .i64 (-fz), .int .i64 (mw), .int .i64 (tx), .int .i64 (unf ms mt tz), .int .i64 (md)]) ∧ Below w0.heap.size w0 w' := by
  have S0 := St.start w0
  refine enter (n := 23) Try.func51 rfl rfl rfl (fun ac A0 => ?_)
  refine wp_seq ?_
  refine wp_region_lit ?_
  refine s_box (.agg #[.int .i64 mw, .int .i64 md, .int .i64 ms, .int .i64 mt]) A0 S0 (by kernel_rfl) rfl (fun g3 ac wc A1 S2 => ?_)
  replace S2 : St _ (⟨g3, 39, #[.int .i64 mw, .int .i64 md, .int .i64 ms, .int .i64 mt], true⟩ :: _) _ _ := S2
  refine s_box (.agg #[.int .i64 fx, .int .i64 fz]) A1 S2 (by kernel_rfl) rfl (fun g7 ac wc A5 S6 => ?_)
  replace S6 : St _ (⟨g7, 41, #[.int .i64 fx, .int .i64 fz], true⟩ :: _) _ _ := S6
  refine s_box (.agg #[.int .i64 tx, .int .i64 tz]) A5 S6 (by kernel_rfl) rfl (fun g11 ac wc A9 S10 => ?_)
  replace S10 : St _ (⟨g11, 41, #[.int .i64 tx, .int .i64 tz], true⟩ :: _) _ _ := S10
  refine s_alloc (#[.int .i64 0, .int .i64 0, .int .i64 0, .int .i64 0, .int .i64 0, .int .i64 0]) A9 S10 (by kernel_rfl) rfl (fun g15 ac wc A13 S14 => ?_)
  refine wpList_nil ?_
  refine n_then ?_
  refine wp_seq ?_
  refine r_begin (w0 := w0) (by kernel_rfl) (S14.sub (sub_skip sub_all) sub_all) (fun wc T16 B17 => ?_)
  have S18 := S14.kept B17
  refine r_take 0 (.pointer (some ⟨g7, 0, none⟩)) A13 T16 (g_field (u := .pointer (some ⟨g7, 0, none⟩)) (by kernel_rfl) (fun _ => by kernel_rfl)) rfl rfl rfl (pf_then pf_body) (by kernel_rfl) (fun ac A19 => ?_)
  refine r_take 1 (.int .i64 fx) A19 T16 (g_load (g := g7) (off := 0) 1 (by kernel_rfl) rfl (by kernel_rfl)) rfl rfl rfl (pf_then pf_body) (by kernel_rfl) (fun ac A20 => ?_)
  refine r_take 2 (.pointer (some ⟨g7, 1, none⟩)) A20 T16 (g_field (u := .pointer (some ⟨g7, 0, none⟩)) (by kernel_rfl) (fun _ => by kernel_rfl)) rfl rfl rfl (pf_then pf_body) (by kernel_rfl) (fun ac A21 => ?_)
  refine r_take 3 (.int .i64 fz) A21 T16 (g_load (g := g7) (off := 1) 1 (by kernel_rfl) rfl (by kernel_rfl)) rfl rfl rfl (pf_then pf_body) (by kernel_rfl) (fun ac A22 => ?_)
  refine r_take 4 (.int .i64 (-fz)) A22 T16 (g_un (u := .int .i64 fz) (by kernel_rfl) (u_neg (by omega))) rfl rfl rfl (pf_then pf_body) (by kernel_rfl) (fun ac A23 => ?_)
  refine r_take 5 (.pointer (some ⟨g3, 0, none⟩)) A23 T16 (g_field (u := .pointer (some ⟨g3, 0, none⟩)) (by kernel_rfl) (fun _ => by kernel_rfl)) rfl rfl rfl (pf_then pf_body) (by kernel_rfl) (fun ac A24 => ?_)
  refine r_take 6 (.int .i64 mw) A24 T16 (g_load (g := g3) (off := 0) 2 (by kernel_rfl) rfl (by kernel_rfl)) rfl rfl rfl (pf_then pf_body) (by kernel_rfl) (fun ac A25 => ?_)
  refine r_take 7 (.pointer (some ⟨g11, 0, none⟩)) A25 T16 (g_field (u := .pointer (some ⟨g11, 0, none⟩)) (by kernel_rfl) (fun _ => by kernel_rfl)) rfl rfl rfl (pf_then pf_body) (by kernel_rfl) (fun ac A26 => ?_)
  refine r_take 8 (.int .i64 tx) A26 T16 (g_load (g := g11) (off := 0) 0 (by kernel_rfl) rfl (by kernel_rfl)) rfl rfl rfl (pf_then pf_body) (by kernel_rfl) (fun ac A27 => ?_)
  refine r_take 9 (.agg #[.int .i64 mw, .int .i64 md, .int .i64 ms, .int .i64 mt]) A27 T16 (g_load (g := g3) (off := 0) 2 (by kernel_rfl) rfl (by kernel_rfl)) rfl rfl rfl (pf_then pf_body) (by kernel_rfl) (fun ac A28 => ?_)
  refine r_take 10 (.pointer (some ⟨g11, 1, none⟩)) A28 T16 (g_field (u := .pointer (some ⟨g11, 0, none⟩)) (by kernel_rfl) (fun _ => by kernel_rfl)) rfl rfl rfl (pf_then pf_body) (by kernel_rfl) (fun ac A29 => ?_)
  refine r_take 11 (.int .i64 tz) A29 T16 (g_load (g := g11) (off := 1) 0 (by kernel_rfl) rfl (by kernel_rfl)) rfl rfl rfl (pf_then pf_body) (by kernel_rfl) (fun ac A30 => ?_)
  refine r_take 13 (.pointer (some ⟨g3, 1, none⟩)) A30 T16 (g_field (u := .pointer (some ⟨g3, 0, none⟩)) (by kernel_rfl) (fun _ => by kernel_rfl)) rfl rfl rfl (pf_then pf_body) (by kernel_rfl) (fun ac A31 => ?_)
  refine r_take 14 (.int .i64 md) A31 T16 (g_load (g := g3) (off := 1) 2 (by kernel_rfl) rfl (by kernel_rfl)) rfl rfl rfl (pf_then pf_body) (by kernel_rfl) (fun ac A32 => ?_)
  refine r_1 (i := 12) (by kernel_rfl) ?_
  have q37 := unf_bd (ms := ms) (mt := mt) (z := tz) (by omega) (by omega) (by omega)
  refine rs_call (fs := #[]) (cp := #[]) (r := [(0, .agg #[.int .i64 mw, .int .i64 md, .int .i64 ms, .int .i64 mt]), (0, .int .i64 tz)]) #[.agg #[.int .i64 mw, .int .i64 md, .int .i64 ms, .int .i64 mt], .int .i64 tz] (.int .i64 (unf ms mt tz)) A32 S18 (sub_skip sub_all) sub_all (refUnfolded_s mw md ms mt tz _ (by omega) (by omega) (by omega)) Try.call33 rfl rfl (by kernel_rfl) (by kernel_rfl) (by kernel_rfl) rfl (fun ac wc A33 S34 => ?_)
  have T36 := S34.sub (sub_skip sub_all) sub_all
  refine r_take 15 (.agg #[.int .i64 fx, .int .i64 (-fz), .int .i64 mw, .int .i64 tx, .int .i64 (unf ms mt tz), .int .i64 md]) A33 T36 (g_build (r := [(0, .int .i64 fx), (1, .int .i64 (-fz)), (2, .int .i64 mw), (3, .int .i64 tx), (4, .int .i64 (unf ms mt tz)), (5, .int .i64 md)]) (by kernel_rfl) (fun _ => by kernel_rfl)) rfl rfl rfl (pf_then pf_body) (by kernel_rfl) (fun ac A38 => ?_)
  refine r_1 (i := 16) (by kernel_rfl) ?_
  refine rs_store (g := g15) (off := 0) (v := .agg #[.int .i64 fx, .int .i64 (-fz), .int .i64 mw, .int .i64 tx, .int .i64 (unf ms mt tz), .int .i64 md]) 0 (#[.int .i64 fx, .int .i64 (-fz), .int .i64 mw, .int .i64 tx, .int .i64 (unf ms mt tz), .int .i64 md]) A38 S34 (sub_skip sub_all) sub_all (by kernel_rfl) (by kernel_rfl) rfl (by kernel_rfl) rfl rfl (fun wc S40 => ?_)
  have T42 := S40.sub (sub_skip sub_all) sub_all
  refine r_done (by kernel_rfl) ?_
  refine n_then ?_
  refine wp_ret ?_
  refine fin1 (.agg #[.int .i64 fx, .int .i64 (-fz), .int .i64 mw, .int .i64 tx, .int .i64 (unf ms mt tz), .int .i64 md]) Try.results51 A38 S40 (rv_cell (g := g15) (off := 0) 0 (by kernel_rfl) rfl (by kernel_rfl)) ⟨?_, S40.kp⟩
  rfl

set_option maxRecDepth 100000 in
set_option maxHeartbeats 400000 in
theorem refLeastTime_s (mw md ms mt fx fz tx tz : Int) (w0 : World) (hm : mdE mw md ms mt = 0) (hw : wyE mt fx fz tx tz = 0) :
    Calls Try.prog 52 #[.agg #[.int .i64 mw, .int .i64 md, .int .i64 ms, .int .i64 mt], .agg #[.int .i64 fx, .int .i64 fz], .agg #[.int .i64 tx, .int .i64 tz]] w0 fun e w' => e = .returned (.agg #[.int .i64 (leLo (wyC mw md ms mt fx fz tx tz)), .int .i64 (mHi (wyC mw md ms mt fx fz tx tz))]) ∧ Below w0.heap.size w0 w' := by
  have S0 := St.start w0
  have zm := mdE_0 hm
  have zw := wyE_0 hw
  have ok := wyC_ok hm hw
  refine enter (n := 12) Try.func52 rfl rfl rfl (fun ac A0 => ?_)
  refine wp_seq ?_
  refine wp_region_lit ?_
  refine s_box (.agg #[.int .i64 mw, .int .i64 md, .int .i64 ms, .int .i64 mt]) A0 S0 (by kernel_rfl) rfl (fun g3 ac wc A1 S2 => ?_)
  replace S2 : St _ (⟨g3, 39, #[.int .i64 mw, .int .i64 md, .int .i64 ms, .int .i64 mt], true⟩ :: _) _ _ := S2
  refine s_box (.agg #[.int .i64 fx, .int .i64 fz]) A1 S2 (by kernel_rfl) rfl (fun g7 ac wc A5 S6 => ?_)
  replace S6 : St _ (⟨g7, 41, #[.int .i64 fx, .int .i64 fz], true⟩ :: _) _ _ := S6
  refine s_box (.agg #[.int .i64 tx, .int .i64 tz]) A5 S6 (by kernel_rfl) rfl (fun g11 ac wc A9 S10 => ?_)
  replace S10 : St _ (⟨g11, 41, #[.int .i64 tx, .int .i64 tz], true⟩ :: _) _ _ := S10
  refine s_alloc (#[.int .i64 0, .int .i64 0]) A9 S10 (by kernel_rfl) rfl (fun g15 ac wc A13 S14 => ?_)
  refine wpList_nil ?_
  refine n_then ?_
  refine wp_seq ?_
  refine wp_region_lit ?_
  refine s_one (.agg #[.int .i64 mw, .int .i64 md, .int .i64 ms, .int .i64 mt]) A13 S14 (g_load (g := g3) (off := 0) 3 (by kernel_rfl) rfl (by kernel_rfl)) rfl (fun ac A16 => ?_)
  refine s_one (.agg #[.int .i64 fx, .int .i64 fz]) A16 S14 (g_load (g := g7) (off := 0) 2 (by kernel_rfl) rfl (by kernel_rfl)) rfl (fun ac A17 => ?_)
  refine s_one (.agg #[.int .i64 tx, .int .i64 tz]) A17 S14 (g_load (g := g11) (off := 0) 1 (by kernel_rfl) rfl (by kernel_rfl)) rfl (fun ac A18 => ?_)
  refine s_call (fs := #[]) (cp := #[]) (r := [(0, .agg #[.int .i64 mw, .int .i64 md, .int .i64 ms, .int .i64 mt]), (0, .agg #[.int .i64 fx, .int .i64 fz]), (0, .agg #[.int .i64 tx, .int .i64 tz])]) #[.agg #[.int .i64 mw, .int .i64 md, .int .i64 ms, .int .i64 mt], .agg #[.int .i64 fx, .int .i64 fz], .agg #[.int .i64 tx, .int .i64 tz]] (.agg #[.int .i64 ((wyC mw md ms mt fx fz tx tz).x1), .int .i64 ((wyC mw md ms mt fx fz tx tz).h1), .int .i64 ((wyC mw md ms mt fx fz tx tz).v1), .int .i64 ((wyC mw md ms mt fx fz tx tz).x2), .int .i64 ((wyC mw md ms mt fx fz tx tz).h2), .int .i64 ((wyC mw md ms mt fx fz tx tz).v2)]) A18 S14 (refCrossOf_s mw md ms mt fx fz tx tz _ (by omega) (by omega) (by omega) (by omega)) Try.call51 (by kernel_rfl) (by kernel_rfl) (by kernel_rfl) rfl (fun ac wc A19 S20 => ?_)
  have q25 := le_bd (c := (wyC mw md ms mt fx fz tx tz)) ok
  refine s_call (fs := #[]) (cp := #[]) (r := [(0, .agg #[.int .i64 ((wyC mw md ms mt fx fz tx tz).x1), .int .i64 ((wyC mw md ms mt fx fz tx tz).h1), .int .i64 ((wyC mw md ms mt fx fz tx tz).v1), .int .i64 ((wyC mw md ms mt fx fz tx tz).x2), .int .i64 ((wyC mw md ms mt fx fz tx tz).h2), .int .i64 ((wyC mw md ms mt fx fz tx tz).v2)])]) #[.agg #[.int .i64 ((wyC mw md ms mt fx fz tx tz).x1), .int .i64 ((wyC mw md ms mt fx fz tx tz).h1), .int .i64 ((wyC mw md ms mt fx fz tx tz).v1), .int .i64 ((wyC mw md ms mt fx fz tx tz).x2), .int .i64 ((wyC mw md ms mt fx fz tx tz).h2), .int .i64 ((wyC mw md ms mt fx fz tx tz).v2)]] (.agg #[.int .i64 (leLo (wyC mw md ms mt fx fz tx tz)), .int .i64 (mHi (wyC mw md ms mt fx fz tx tz))]) A19 S20 (refLeast_s (wyC mw md ms mt fx fz tx tz) _ ok) Try.call24 (by kernel_rfl) (by kernel_rfl) (by kernel_rfl) rfl (fun ac wc A22 S23 => ?_)
  refine s_store (g := g15) (off := 0) (v := .agg #[.int .i64 (leLo (wyC mw md ms mt fx fz tx tz)), .int .i64 (mHi (wyC mw md ms mt fx fz tx tz))]) 0 (#[.int .i64 (leLo (wyC mw md ms mt fx fz tx tz)), .int .i64 (mHi (wyC mw md ms mt fx fz tx tz))]) A22 S23 (by kernel_rfl) (by kernel_rfl) rfl (by kernel_rfl) (fun wc S27 => ?_)
  refine wpList_nil ?_
  refine n_then ?_
  refine wp_ret ?_
  refine fin1 (.agg #[.int .i64 (leLo (wyC mw md ms mt fx fz tx tz)), .int .i64 (mHi (wyC mw md ms mt fx fz tx tz))]) Try.results52 A22 S27 (rv_cell (g := g15) (off := 0) 0 (by kernel_rfl) rfl (by kernel_rfl)) ⟨?_, S27.kp⟩
  rfl

set_option maxRecDepth 100000 in
set_option maxHeartbeats 400000 in
theorem refRounded_s (mw md ms mt fx fz tx tz : Int) (w0 : World) (hm : mdE mw md ms mt = 0) (hw : wyE mt fx fz tx tz = 0) :
    Calls Try.prog 53 #[.agg #[.int .i64 mw, .int .i64 md, .int .i64 ms, .int .i64 mt], .agg #[.int .i64 fx, .int .i64 fz], .agg #[.int .i64 tx, .int .i64 tz]] w0 fun e w' => e = .returned (.int .i64 ((leLo (wyC mw md ms mt fx fz tx tz) + mHi (wyC mw md ms mt fx fz tx tz)) / 2)) ∧ Below w0.heap.size w0 w' := by
  have S0 := St.start w0
  have zm := mdE_0 hm
  have zw := wyE_0 hw
  have ok := wyC_ok hm hw
  refine enter (n := 18) Try.func53 rfl rfl rfl (fun ac A0 => ?_)
  refine wp_seq ?_
  refine wp_region_lit ?_
  refine s_box (.agg #[.int .i64 mw, .int .i64 md, .int .i64 ms, .int .i64 mt]) A0 S0 (by kernel_rfl) rfl (fun g3 ac wc A1 S2 => ?_)
  replace S2 : St _ (⟨g3, 39, #[.int .i64 mw, .int .i64 md, .int .i64 ms, .int .i64 mt], true⟩ :: _) _ _ := S2
  refine s_box (.agg #[.int .i64 fx, .int .i64 fz]) A1 S2 (by kernel_rfl) rfl (fun g7 ac wc A5 S6 => ?_)
  replace S6 : St _ (⟨g7, 41, #[.int .i64 fx, .int .i64 fz], true⟩ :: _) _ _ := S6
  refine s_box (.agg #[.int .i64 tx, .int .i64 tz]) A5 S6 (by kernel_rfl) rfl (fun g11 ac wc A9 S10 => ?_)
  replace S10 : St _ (⟨g11, 41, #[.int .i64 tx, .int .i64 tz], true⟩ :: _) _ _ := S10
  refine s_one (.int .i64 0) A9 S10 (g_assign (by kernel_rfl)) rfl (fun ac A13 => ?_)
  refine wpList_nil ?_
  refine n_then ?_
  refine wp_seq ?_
  refine wp_region_lit ?_
  refine s_one (.agg #[.int .i64 mw, .int .i64 md, .int .i64 ms, .int .i64 mt]) A13 S10 (g_load (g := g3) (off := 0) 2 (by kernel_rfl) rfl (by kernel_rfl)) rfl (fun ac A14 => ?_)
  refine s_one (.agg #[.int .i64 fx, .int .i64 fz]) A14 S10 (g_load (g := g7) (off := 0) 1 (by kernel_rfl) rfl (by kernel_rfl)) rfl (fun ac A15 => ?_)
  refine s_one (.agg #[.int .i64 tx, .int .i64 tz]) A15 S10 (g_load (g := g11) (off := 0) 0 (by kernel_rfl) rfl (by kernel_rfl)) rfl (fun ac A16 => ?_)
  have q20 := le_bd (wyC_ok hm hw)
  refine s_call (fs := #[]) (cp := #[]) (r := [(0, .agg #[.int .i64 mw, .int .i64 md, .int .i64 ms, .int .i64 mt]), (0, .agg #[.int .i64 fx, .int .i64 fz]), (0, .agg #[.int .i64 tx, .int .i64 tz])]) #[.agg #[.int .i64 mw, .int .i64 md, .int .i64 ms, .int .i64 mt], .agg #[.int .i64 fx, .int .i64 fz], .agg #[.int .i64 tx, .int .i64 tz]] (.agg #[.int .i64 (leLo (wyC mw md ms mt fx fz tx tz)), .int .i64 (mHi (wyC mw md ms mt fx fz tx tz))]) A16 S10 (refLeastTime_s mw md ms mt fx fz tx tz _ hm hw) Try.call52 (by kernel_rfl) (by kernel_rfl) (by kernel_rfl) rfl (fun ac wc A17 S18 => ?_)
  refine s_alloc (#[.int .i64 0, .int .i64 0]) A17 S18 (by kernel_rfl) rfl (fun g23 ac wc A21 S22 => ?_)
  refine s_store (g := g23) (off := 0) (v := .agg #[.int .i64 (leLo (wyC mw md ms mt fx fz tx tz)), .int .i64 (mHi (wyC mw md ms mt fx fz tx tz))]) 0 (#[.int .i64 (leLo (wyC mw md ms mt fx fz tx tz)), .int .i64 (mHi (wyC mw md ms mt fx fz tx tz))]) A21 S22 (by kernel_rfl) (by kernel_rfl) rfl (by kernel_rfl) (fun wc S25 => ?_)
  refine wpList_nil ?_
  refine n_then ?_
  refine wp_seq ?_
  refine wp_region_lit ?_
  refine s_one (.pointer (some ⟨g23, 0, none⟩)) A21 S25 (g_field (u := .pointer (some ⟨g23, 0, none⟩)) (by kernel_rfl) (fun _ => by kernel_rfl)) rfl (fun ac A27 => ?_)
  refine s_one (.int .i64 (leLo (wyC mw md ms mt fx fz tx tz))) A27 S25 (g_load (g := g23) (off := 0) 0 (by kernel_rfl) rfl (by kernel_rfl)) rfl (fun ac A28 => ?_)
  refine s_one (.pointer (some ⟨g23, 1, none⟩)) A28 S25 (g_field (u := .pointer (some ⟨g23, 0, none⟩)) (by kernel_rfl) (fun _ => by kernel_rfl)) rfl (fun ac A29 => ?_)
  refine s_one (.int .i64 (mHi (wyC mw md ms mt fx fz tx tz))) A29 S25 (g_load (g := g23) (off := 1) 0 (by kernel_rfl) rfl (by kernel_rfl)) rfl (fun ac A30 => ?_)
  refine s_one (.int .i64 (leLo (wyC mw md ms mt fx fz tx tz) + (mHi (wyC mw md ms mt fx fz tx tz)))) A30 S25 (g_bin (u := .int .i64 (leLo (wyC mw md ms mt fx fz tx tz))) (k := .int .i64 (mHi (wyC mw md ms mt fx fz tx tz))) (by kernel_rfl) (by kernel_rfl) (fun _ => by kernel_rfl) (b_add (by omega))) rfl (fun ac A31 => ?_)
  refine s_call (fs := #[]) (cp := #[]) (r := [(0, .int .i64 (leLo (wyC mw md ms mt fx fz tx tz) + (mHi (wyC mw md ms mt fx fz tx tz)))), (0, .int .i64 2)]) #[.int .i64 (leLo (wyC mw md ms mt fx fz tx tz) + (mHi (wyC mw md ms mt fx fz tx tz))), .int .i64 2] (.int .i64 ((leLo (wyC mw md ms mt fx fz tx tz) + (mHi (wyC mw md ms mt fx fz tx tz))) / 2)) A31 S25 (Floor_s (leLo (wyC mw md ms mt fx fz tx tz) + (mHi (wyC mw md ms mt fx fz tx tz))) 2 _ (by omega) (by omega) (by omega)) Try.call80 (by kernel_rfl) (by kernel_rfl) (by kernel_rfl) rfl (fun ac wc A32 S33 => ?_)
  refine s_one (.int .i64 ((leLo (wyC mw md ms mt fx fz tx tz) + (mHi (wyC mw md ms mt fx fz tx tz))) / 2)) A32 S33 (g_assign (by kernel_rfl)) rfl (fun ac A35 => ?_)
  refine wpList_nil ?_
  refine n_then ?_
  refine wp_ret ?_
  refine fin1 (.int .i64 ((leLo (wyC mw md ms mt fx fz tx tz) + (mHi (wyC mw md ms mt fx fz tx tz))) / 2)) Try.results53 A35 S33 (rv_tmp (by kernel_rfl)) ⟨?_, S33.kp⟩
  rfl

set_option maxRecDepth 100000 in
set_option maxHeartbeats 400000 in
theorem wayErr_s (mw md ms mt fx fz tx tz : Int) (w0 : World) :
    Calls Try.prog 50 #[.agg #[.int .i64 mw, .int .i64 md, .int .i64 ms, .int .i64 mt, .int .i64 fx, .int .i64 fz, .int .i64 tx, .int .i64 tz]] w0 fun e w' => e = .returned (.int .i64 (opE mw md ms mt fx fz tx tz)) ∧ Below w0.heap.size w0 w' := by
  have S0 := St.start w0
  refine enter (n := 17) Try.func50 rfl rfl rfl (fun ac A0 => ?_)
  refine wp_seq ?_
  refine wp_region_lit ?_
  refine s_box (.agg #[.int .i64 mw, .int .i64 md, .int .i64 ms, .int .i64 mt, .int .i64 fx, .int .i64 fz, .int .i64 tx, .int .i64 tz]) A0 S0 (by kernel_rfl) rfl (fun g3 ac wc A1 S2 => ?_)
  replace S2 : St _ (⟨g3, 43, #[.int .i64 mw, .int .i64 md, .int .i64 ms, .int .i64 mt, .int .i64 fx, .int .i64 fz, .int .i64 tx, .int .i64 tz], true⟩ :: _) _ _ := S2
  refine s_one (.int .i64 0) A1 S2 (g_assign (by kernel_rfl)) rfl (fun ac A5 => ?_)
  refine wpList_nil ?_
  refine n_then ?_
  refine wp_seq ?_
  refine wp_seq ?_
  refine wp_region_lit ?_
  refine s_one (.pointer (some ⟨g3, 0, none⟩)) A5 S2 (g_field (u := .pointer (some ⟨g3, 0, none⟩)) (by kernel_rfl) (fun _ => by kernel_rfl)) rfl (fun ac A6 => ?_)
  refine s_one (.agg #[.int .i64 mw, .int .i64 md, .int .i64 ms, .int .i64 mt]) A6 S2 (g_load (g := g3) (off := 0) 0 (by kernel_rfl) rfl (by kernel_rfl)) rfl (fun ac A7 => ?_)
  refine s_call (fs := #[]) (cp := #[]) (r := [(0, .agg #[.int .i64 mw, .int .i64 md, .int .i64 ms, .int .i64 mt])]) #[.agg #[.int .i64 mw, .int .i64 md, .int .i64 ms, .int .i64 mt]] (.int .i64 (mdE mw md ms mt)) A7 S2 (refCheckMode_s mw md ms mt _) Try.call31 (by kernel_rfl) (by kernel_rfl) (by kernel_rfl) rfl (fun ac wc A8 S9 => ?_)
  refine s_one (.int .i64 (mdE mw md ms mt)) A8 S9 (g_assign (by kernel_rfl)) rfl (fun ac A11 => ?_)
  refine wpList_nil ?_
  refine n_then ?_
  refine wp_seq ?_
  refine wp_region_lit ?_
  refine s_one (.int .i64 (mdE mw md ms mt)) A11 S9 (g_move (by kernel_rfl)) rfl (fun ac A12 => ?_)
  refine s_one (.bool (decide (mdE mw md ms mt ≠ 0))) A12 S9 (g_bin (u := .int .i64 (mdE mw md ms mt)) (k := .int .i64 0) (by kernel_rfl) (by kernel_rfl) (fun _ => by kernel_rfl) b_neq) rfl (fun ac A13 => ?_)
  refine wpList_nil ?_
  refine n_then ?_
  refine c_ifb (b := (decide (mdE mw md ms mt ≠ 0))) A13 (by kernel_rfl) (fun h14 => ?_) (fun h14 => ?_)
  · have p15 := of_decide_eq_true h14
    refine wp_seq ?_
    refine wp_region_lit ?_
    refine s_one (.int .i64 (mdE mw md ms mt)) A13 S9 (g_move (by kernel_rfl)) rfl (fun ac A16 => ?_)
    refine s_one (.int .i64 (mdE mw md ms mt)) A16 S9 (g_assign (by kernel_rfl)) rfl (fun ac A17 => ?_)
    refine wpList_nil ?_
    refine n_then ?_
    refine wp_ret ?_
    refine r_then ?_
    refine fin1 (.int .i64 (mdE mw md ms mt)) Try.results50 A17 S9 (rv_tmp (by kernel_rfl)) ⟨?_, S9.kp⟩
    rw [opE_n p15]
  · have p18 := of_decide_eq_false h14
    have ze : mdE mw md ms mt = 0 := by simpa using h14
    have zz := mdE_0 ze
    refine wp_skip ?_
    refine n_then ?_
    refine wp_seq ?_
    refine wp_region_lit ?_
    refine s_one (.pointer (some ⟨g3, 0, none⟩)) A13 S9 (g_field (u := .pointer (some ⟨g3, 0, none⟩)) (by kernel_rfl) (fun _ => by kernel_rfl)) rfl (fun ac A19 => ?_)
    refine s_one (.agg #[.int .i64 mw, .int .i64 md, .int .i64 ms, .int .i64 mt]) A19 S9 (g_load (g := g3) (off := 0) 0 (by kernel_rfl) rfl (by kernel_rfl)) rfl (fun ac A20 => ?_)
    refine s_one (.pointer (some ⟨g3, 4, none⟩)) A20 S9 (g_field (u := .pointer (some ⟨g3, 0, none⟩)) (by kernel_rfl) (fun _ => by kernel_rfl)) rfl (fun ac A21 => ?_)
    refine s_one (.agg #[.int .i64 fx, .int .i64 fz]) A21 S9 (g_load (g := g3) (off := 4) 0 (by kernel_rfl) rfl (by kernel_rfl)) rfl (fun ac A22 => ?_)
    refine s_one (.pointer (some ⟨g3, 6, none⟩)) A22 S9 (g_field (u := .pointer (some ⟨g3, 0, none⟩)) (by kernel_rfl) (fun _ => by kernel_rfl)) rfl (fun ac A23 => ?_)
    refine s_one (.agg #[.int .i64 tx, .int .i64 tz]) A23 S9 (g_load (g := g3) (off := 6) 0 (by kernel_rfl) rfl (by kernel_rfl)) rfl (fun ac A24 => ?_)
    refine s_call (fs := #[]) (cp := #[]) (r := [(0, .agg #[.int .i64 mw, .int .i64 md, .int .i64 ms, .int .i64 mt]), (0, .agg #[.int .i64 fx, .int .i64 fz]), (0, .agg #[.int .i64 tx, .int .i64 tz])]) #[.agg #[.int .i64 mw, .int .i64 md, .int .i64 ms, .int .i64 mt], .agg #[.int .i64 fx, .int .i64 fz], .agg #[.int .i64 tx, .int .i64 tz]] (.int .i64 (wyE mt fx fz tx tz)) A24 S9 (refWayErr_s mw md ms mt fx fz tx tz _ (by omega)) Try.call97 (by kernel_rfl) (by kernel_rfl) (by kernel_rfl) rfl (fun ac wc A25 S26 => ?_)
    refine s_one (.int .i64 (wyE mt fx fz tx tz)) A25 S26 (g_assign (by kernel_rfl)) rfl (fun ac A28 => ?_)
    refine wpList_nil ?_
    refine n_then ?_
    refine wp_ret ?_
    refine fin1 (.int .i64 (wyE mt fx fz tx tz)) Try.results50 A28 S26 (rv_tmp (by kernel_rfl)) ⟨?_, S26.kp⟩
    rw [opE_y ze]

end Go.Proofs.Ytnfmfkejhgbipaa
