/- Errors and least times of chapter 1. -/
import Derived.Test.YtfeapeblnnmhlaaRay4
namespace Go.Proofs.Ytfeapeblnnmhlaa
open Go.RowKit Go.Cpl Go.Ray1

def spE (x z : Int) : Int := bif inB x (-100000) 100000 && inB z (-100000) 100000 then 0 else 2
def veE (v : Int) : Int := bif inB v 500 10000 then 0 else 2
def crE (c : Cr) : Int := firstOf [(bif inB c.x1 (-100000) 100000 && (inB c.x2 (-100000) 100000 && (inB c.h1 1 100000 && inB c.h2 1 100000)) then 0 else 2), veE c.v1, veE c.v2]
theorem nand2 {a b : Bool} (h : (!a || !b) = true) : (a && b) = false := by cases a <;> cases b <;> simp_all
theorem nand4 {a b c d : Bool} (h : (!a || (!b || (!c || !d))) = true) : (a && (b && (c && d))) = false := by cases a <;> cases b <;> cases c <;> cases d <;> simp_all
theorem spE_n {x z : Int} (h : (!(inB x (-100000) 100000) || !(inB z (-100000) 100000)) = true) : spE x z = 2 := by unfold spE; rw [nand2 h]; rfl
theorem spE_y {x z : Int} (h : inB x (-100000) 100000 = true) (h2 : inB z (-100000) 100000 = true) : spE x z = 0 := by unfold spE; rw [h, h2]; rfl
theorem spE_a {x z : Int} (h : inB x (-100000) 100000 = true) : must_a_r (inB z (-100000) 100000) 2 = spE x z := by unfold spE must_a_r; rw [h]; rfl
theorem spE_b {x z : Int} (h : inB x (-100000) 100000 = false) : must_a_r false 2 = spE x z := by unfold spE must_a_r; rw [h]; rfl
theorem spE_c (x z : Int) : spE x z = 0 ∨ spE x z = 2 := by unfold spE; cases (inB x (-100000) 100000 && inB z (-100000) 100000) <;> simp
theorem spE_0 {x z : Int} (h : spE x z = 0) : (-100000 ≤ x ∧ x ≤ 100000) ∧ (-100000 ≤ z ∧ z ≤ 100000) := by
  unfold spE at h
  cases q : (inB x (-100000) 100000 && inB z (-100000) 100000) with
  | false => rw [q] at h; simp at h
  | true => rw [Bool.and_eq_true, inB_true, inB_true] at q; exact q
theorem veE_n {v : Int} (h : inB v 500 10000 = false) : veE v = 2 := by unfold veE; rw [h]; rfl
theorem veE_y {v : Int} (h : inB v 500 10000 = true) : veE v = 0 := by unfold veE; rw [h]; rfl
theorem veE_c (v : Int) : veE v = 0 ∨ veE v = 2 := by unfold veE; cases inB v 500 10000 <;> simp
theorem veE_0 {v : Int} (h : veE v = 0) : 500 ≤ v ∧ v ≤ 10000 := by
  cases q : inB v 500 10000 with
  | false => rw [veE_n q] at h; simp at h
  | true => exact inB_true.1 q
theorem fo_cons0 {e : Int} {l : List Int} (h : e = 0) : firstOf (e :: l) = firstOf l := by subst h; simp only [firstOf, if_true]
theorem fo_ne {e : Int} {l : List Int} (h : e ≠ 0) : firstOf (e :: l) = e := by simp only [firstOf, if_neg h]
theorem fo_last (e : Int) : firstOf [e] = e := by simp only [firstOf]; split <;> simp_all
theorem fo_zero {e : Int} {l : List Int} (h : firstOf (e :: l) = 0) : e = 0 ∧ firstOf l = 0 := by
  by_cases z : e = 0
  · rw [fo_cons0 z] at h; exact ⟨z, h⟩
  · rw [fo_ne z] at h; exact absurd h z
theorem crE_ok {c : Cr} (h : crE c = 0) : c.Ok := by
  unfold crE at h
  obtain ⟨h1, h2⟩ := fo_zero h
  obtain ⟨h2, h3⟩ := fo_zero h2
  rw [fo_last] at h3
  cases q : (inB c.x1 (-100000) 100000 && (inB c.x2 (-100000) 100000 && (inB c.h1 1 100000 && inB c.h2 1 100000))) with
  | false => rw [q] at h1; simp at h1
  | true =>
    simp only [Bool.and_eq_true, inB_true] at q
    exact ⟨q.1, q.2.1, q.2.2.1, q.2.2.2, veE_0 h2, veE_0 h3⟩
theorem crE_of {c : Cr} (ok : c.Ok) : crE c = 0 := by
  unfold crE
  rw [inB_true.2 ok.x1, inB_true.2 ok.x2, inB_true.2 ok.h1, inB_true.2 ok.h2, veE_y (inB_true.2 ok.v1), veE_y (inB_true.2 ok.v2)]
  rfl
theorem crE_n {c : Cr} (h : (!(inB c.x1 (-100000) 100000) || (!(inB c.x2 (-100000) 100000) || (!(inB c.h1 1 100000) || !(inB c.h2 1 100000)))) = true) : crE c = 2 := by
  unfold crE; rw [nand4 h]; exact fo_ne (by decide)
theorem crE_y {c : Cr} (h1 : inB c.x1 (-100000) 100000 = true) (h2 : inB c.x2 (-100000) 100000 = true) (h3 : inB c.h1 1 100000 = true) (h4 : inB c.h2 1 100000 = true) : crE c = firstOf [veE c.v1, veE c.v2] := by
  unfold crE; rw [h1, h2, h3, h4]; exact fo_cons0 rfl
theorem crE_c (c : Cr) : crE c = 0 ∨ crE c = 2 := by
  unfold crE
  have h2 := veE_c c.v1; have h3 := veE_c c.v2
  generalize veE c.v1 = p at *; generalize veE c.v2 = q at *
  cases (inB c.x1 (-100000) 100000 && (inB c.x2 (-100000) 100000 && (inB c.h1 1 100000 && inB c.h2 1 100000))) with
  | false => right; exact fo_ne (by decide)
  | true => show firstOf (0 :: [p, q]) = 0 ∨ firstOf (0 :: [p, q]) = 2; rw [fo_cons0 rfl]; rcases h2 with h2 | h2 <;> rcases h3 with h3 | h3 <;> subst h2 <;> subst h3 <;> decide

set_option maxRecDepth 100000 in
set_option maxHeartbeats 400000 in
theorem speedErr_s (v : Int) (w0 : World) :
    Calls Try.prog 51 #[.int .i64 v] w0 fun e w' => e = .returned (.int .i64 (veE v)) ∧ Below w0.heap.size w0 w' := by
  have S0 := St.start w0
  refine enter (n := 6) Try.func51 rfl rfl rfl (fun ac A0 => ?_)
  refine wp_seq ?_
  refine wp_region_lit ?_
  refine s_one (.int .i64 0) A0 S0 (g_assign (by kernel_rfl)) rfl (fun ac A1 => ?_)
  refine wpList_nil ?_
  refine n_then ?_
  refine wp_seq ?_
  refine wp_region_lit ?_
  refine s_one (.int .i64 v) A1 S0 (g_move (by kernel_rfl)) rfl (fun ac A2 => ?_)
  refine s_call (fs := #[]) (cp := #[]) (r := [(0, .int .i64 v), (0, .int .i64 500), (0, .int .i64 10000)]) #[.int .i64 v, .int .i64 500, .int .i64 10000] (.bool (inB v 500 10000)) A2 S0 (within_s v 500 10000 _) Try.call53 (by kernel_rfl) (by kernel_rfl) (by kernel_rfl) rfl (fun ac wc A3 S4 => ?_)
  refine s_call (fs := #[]) (cp := #[]) (r := [(0, .bool (inB v 500 10000)), (0, .int .i64 2)]) #[.bool (inB v 500 10000), .int .i64 2] (.int .i64 (must_a_r (inB v 500 10000) 2)) A3 S4 (must_a (inB v 500 10000) 2 _) Try.call52 (by kernel_rfl) (by kernel_rfl) (by kernel_rfl) rfl (fun ac wc A6 S7 => ?_)
  refine s_one (.int .i64 (must_a_r (inB v 500 10000) 2)) A6 S7 (g_assign (by kernel_rfl)) rfl (fun ac A9 => ?_)
  refine wpList_nil ?_
  refine n_then ?_
  refine wp_ret ?_
  refine fin1 (.int .i64 (must_a_r (inB v 500 10000) 2)) Try.results51 A9 S7 (rv_tmp (by kernel_rfl)) ⟨?_, S7.kp⟩
  rfl

set_option maxRecDepth 100000 in
set_option maxHeartbeats 400000 in
theorem spotErr_s (x z : Int) (w0 : World) :
    Calls Try.prog 55 #[.agg #[.int .i64 x, .int .i64 z]] w0 fun e w' => e = .returned (.int .i64 (spE x z)) ∧ Below w0.heap.size w0 w' := by
  have S0 := St.start w0
  refine enter (n := 12) Try.func55 rfl rfl rfl (fun ac A0 => ?_)
  refine wp_seq ?_
  refine wp_region_lit ?_
  refine s_box (.agg #[.int .i64 x, .int .i64 z]) A0 S0 (by kernel_rfl) rfl (fun g3 ac wc A1 S2 => ?_)
  replace S2 : St _ (⟨g3, 28, #[.int .i64 x, .int .i64 z], true⟩ :: _) _ _ := S2
  refine s_one (.int .i64 0) A1 S2 (g_assign (by kernel_rfl)) rfl (fun ac A5 => ?_)
  refine wpList_nil ?_
  refine n_then ?_
  refine wp_seq ?_
  refine wp_region_lit ?_
  refine s_one (.pointer (some ⟨g3, 0, none⟩)) A5 S2 (g_field (u := .pointer (some ⟨g3, 0, none⟩)) (by kernel_rfl) (fun _ => by kernel_rfl)) rfl (fun ac A6 => ?_)
  refine s_one (.int .i64 x) A6 S2 (g_load (g := g3) (off := 0) 0 (by kernel_rfl) rfl (by kernel_rfl)) rfl (fun ac A7 => ?_)
  refine s_call (fs := #[]) (cp := #[]) (r := [(0, .int .i64 x), (0, .int .i64 100000)]) #[.int .i64 x, .int .i64 100000] (.bool (inB x (-100000) 100000)) A7 S2 (small_s x 100000 _ (by omega) (by omega)) Try.call64 (by kernel_rfl) (by kernel_rfl) (by kernel_rfl) rfl (fun ac wc A8 S9 => ?_)
  refine s_one (.bool (inB x (-100000) 100000)) A8 S9 (g_move (by kernel_rfl)) rfl (fun ac A11 => ?_)
  refine by_bool (inB x (-100000) 100000) (fun h12 => ?_) (fun h12 => ?_)
  · refine s_want (dj := 6) (b := (inB x (-100000) 100000)) A11 (by kernel_rfl) (by kernel_rfl) h12 ?_
    refine s_one (.pointer (some ⟨g3, 1, none⟩)) A11 S9 (g_field (u := .pointer (some ⟨g3, 0, none⟩)) (by kernel_rfl) (fun _ => by kernel_rfl)) rfl (fun ac A13 => ?_)
    refine s_want (dj := 6) (b := (inB x (-100000) 100000)) A13 (by kernel_rfl) (by kernel_rfl) h12 ?_
    refine s_one (.int .i64 z) A13 S9 (g_load (g := g3) (off := 1) 0 (by kernel_rfl) rfl (by kernel_rfl)) rfl (fun ac A14 => ?_)
    refine s_want (dj := 6) (b := (inB x (-100000) 100000)) A14 (by kernel_rfl) (by kernel_rfl) h12 ?_
    refine s_call (fs := #[]) (cp := #[]) (r := [(0, .int .i64 z), (0, .int .i64 100000)]) #[.int .i64 z, .int .i64 100000] (.bool (inB z (-100000) 100000)) A14 S9 (small_s z 100000 _ (by omega) (by omega)) Try.call64 (by kernel_rfl) (by kernel_rfl) (by kernel_rfl) rfl (fun ac wc A15 S16 => ?_)
    refine s_one (.bool (inB z (-100000) 100000)) A15 S16 (g_pick_t (b := (inB x (-100000) 100000)) (by kernel_rfl) h12 (by kernel_rfl)) rfl (fun ac A18 => ?_)
    refine s_call (fs := #[]) (cp := #[]) (r := [(0, .bool (inB z (-100000) 100000)), (0, .int .i64 2)]) #[.bool (inB z (-100000) 100000), .int .i64 2] (.int .i64 (must_a_r (inB z (-100000) 100000) 2)) A18 S16 (must_a (inB z (-100000) 100000) 2 _) Try.call52 (by kernel_rfl) (by kernel_rfl) (by kernel_rfl) rfl (fun ac wc A19 S20 => ?_)
    refine s_one (.int .i64 (must_a_r (inB z (-100000) 100000) 2)) A19 S20 (g_assign (by kernel_rfl)) rfl (fun ac A22 => ?_)
    refine wpList_nil ?_
    refine n_then ?_
    refine wp_ret ?_
    refine fin1 (.int .i64 (must_a_r (inB z (-100000) 100000) 2)) Try.results55 A22 S20 (rv_tmp (by kernel_rfl)) ⟨?_, S20.kp⟩
    rw [spE_a h12]
  · refine s_not (dj := 6) (b := (inB x (-100000) 100000)) A11 (by kernel_rfl) (by kernel_rfl) h12 rfl (fun ac A23 => ?_)
    refine s_not (dj := 6) (b := (inB x (-100000) 100000)) A23 (by kernel_rfl) (by kernel_rfl) h12 rfl (fun ac A24 => ?_)
    refine s_not (dj := 6) (b := (inB x (-100000) 100000)) A24 (by kernel_rfl) (by kernel_rfl) h12 rfl (fun ac A25 => ?_)
    refine s_one (.bool false) A25 S9 (g_pick_f (b := (inB x (-100000) 100000)) (by kernel_rfl) h12 (by kernel_rfl)) rfl (fun ac A26 => ?_)
    refine s_call (fs := #[]) (cp := #[]) (r := [(0, .bool false), (0, .int .i64 2)]) #[.bool false, .int .i64 2] (.int .i64 (must_a_r false 2)) A26 S9 (must_a false 2 _) Try.call52 (by kernel_rfl) (by kernel_rfl) (by kernel_rfl) rfl (fun ac wc A27 S28 => ?_)
    refine s_one (.int .i64 (must_a_r false 2)) A27 S28 (g_assign (by kernel_rfl)) rfl (fun ac A30 => ?_)
    refine wpList_nil ?_
    refine n_then ?_
    refine wp_ret ?_
    refine fin1 (.int .i64 (must_a_r false 2)) Try.results55 A30 S28 (rv_tmp (by kernel_rfl)) ⟨?_, S28.kp⟩
    rw [spE_b h12]

theorem vh_bd {v h : Int} (hv : 500 ≤ v ∧ v ≤ 10000) (hh : 1 ≤ h ∧ h ≤ 100000) : (500 ≤ v * h ∧ v * h ≤ 1000000000) ∧ 0 ≤ upD 10000000 (v * h) ∧ upD 10000000 (v * h) ≤ 20000 := by
  have a := Int.mul_le_mul hv.2 hh.2 (by omega) (by omega)
  have b := Int.mul_le_mul hv.1 hh.1 (by omega) (by omega)
  exact ⟨by omega, up_bd (by omega) (by omega) (by omega)⟩
theorem le_bd {c : Cr} (ok : c.Ok) : 0 ≤ leLo c ∧ leLo c ≤ mHi c ∧ mHi c ≤ 12000000000 := by
  have k := crs_is ok
  have a := tim_bd ok k.lo k.hi
  have u := vh_bd ok.v1 ok.h1; have v := vh_bd ok.v2 ok.h2
  have p := leLo_place ok (crs c)
  unfold mHi
  split
  · next h =>
    have b := tim_bd ok (p := crs c + 1) (by have := k.lo; omega) h
    have p2 := leLo_place ok (crs c + 1)
    refine ⟨by unfold leLo; omega, by omega, by omega⟩
  · exact ⟨by unfold leLo; omega, p, by omega⟩

set_option maxRecDepth 100000 in
set_option maxHeartbeats 400000 in
theorem least_s (c : Cr) (w0 : World) (ok : c.Ok) :
    Calls Try.prog 36 #[.agg #[.int .i64 c.x1, .int .i64 c.h1, .int .i64 c.v1, .int .i64 c.x2, .int .i64 c.h2, .int .i64 c.v2]] w0 fun e w' => e = .returned (.agg #[.int .i64 (leLo c), .int .i64 (mHi c)]) ∧ Below w0.heap.size w0 w' := by
  have S0 := St.start w0
  have p1 := ok.x1
  have p2 := ok.x2
  have p3 := ok.h1
  have p4 := ok.h2
  have p5 := ok.v1
  have p6 := ok.v2
  have pl : c.lo = min c.x1 c.x2 := rfl
  have ph : c.hi = max c.x1 c.x2 := rfl
  have vh1 := vh_bd p5 p3
  have vh2 := vh_bd p6 p4
  have mne : ∀ x y : Int, mn x y = min x y := mn_eq
  have mq := mn_eq (timLo c (crs c)) (timLo c (crs c + 1))
  refine enter (n := 53) Try.func36 rfl rfl rfl (fun ac A0 => ?_)
  refine wp_seq ?_
  refine wp_region_lit ?_
  refine s_box (.agg #[.int .i64 c.x1, .int .i64 c.h1, .int .i64 c.v1, .int .i64 c.x2, .int .i64 c.h2, .int .i64 c.v2]) A0 S0 (by kernel_rfl) rfl (fun g3 ac wc A1 S2 => ?_)
  replace S2 : St _ (⟨g3, 77, #[.int .i64 c.x1, .int .i64 c.h1, .int .i64 c.v1, .int .i64 c.x2, .int .i64 c.h2, .int .i64 c.v2], true⟩ :: _) _ _ := S2
  refine s_alloc (#[.int .i64 0, .int .i64 0]) A1 S2 (by kernel_rfl) rfl (fun g7 ac wc A5 S6 => ?_)
  refine wpList_nil ?_
  refine n_then ?_
  refine wp_seq ?_
  refine wp_region_lit ?_
  refine s_one (.agg #[.int .i64 c.x1, .int .i64 c.h1, .int .i64 c.v1, .int .i64 c.x2, .int .i64 c.h2, .int .i64 c.v2]) A5 S6 (g_load (g := g3) (off := 0) 1 (by kernel_rfl) rfl (by kernel_rfl)) rfl (fun ac A8 => ?_)
  have kk12 := crs_bd (c := c) ok
  refine s_call (fs := #[]) (cp := #[]) (r := [(0, .agg #[.int .i64 c.x1, .int .i64 c.h1, .int .i64 c.v1, .int .i64 c.x2, .int .i64 c.h2, .int .i64 c.v2])]) #[.agg #[.int .i64 c.x1, .int .i64 c.h1, .int .i64 c.v1, .int .i64 c.x2, .int .i64 c.h2, .int .i64 c.v2]] (.int .i64 (crs c)) A8 S6 (crossing_s c _ ok) Try.call46 (by kernel_rfl) (by kernel_rfl) (by kernel_rfl) rfl (fun ac wc A9 S10 => ?_)
  refine s_one (.int .i64 (crs c)) A9 S10 (g_assign (by kernel_rfl)) rfl (fun ac A13 => ?_)
  refine wpList_nil ?_
  refine n_then ?_
  refine wp_seq ?_
  refine wp_region_lit ?_
  refine s_one (.agg #[.int .i64 c.x1, .int .i64 c.h1, .int .i64 c.v1, .int .i64 c.x2, .int .i64 c.h2, .int .i64 c.v2]) A13 S10 (g_load (g := g3) (off := 0) 1 (by kernel_rfl) rfl (by kernel_rfl)) rfl (fun ac A14 => ?_)
  refine s_one (.int .i64 (crs c)) A14 S10 (g_move (by kernel_rfl)) rfl (fun ac A15 => ?_)
  have q19 := tim_bd (c := c) (p := (crs c)) ok (by omega) (by omega)
  refine s_call (fs := #[]) (cp := #[]) (r := [(0, .agg #[.int .i64 c.x1, .int .i64 c.h1, .int .i64 c.v1, .int .i64 c.x2, .int .i64 c.h2, .int .i64 c.v2]), (0, .int .i64 (crs c))]) #[.agg #[.int .i64 c.x1, .int .i64 c.h1, .int .i64 c.v1, .int .i64 c.x2, .int .i64 c.h2, .int .i64 c.v2], .int .i64 (crs c)] (.agg #[.int .i64 (timLo c (crs c)), .int .i64 (timHi c (crs c))]) A15 S10 (ctime_s c (crs c) _ ok (by omega) (by omega)) Try.call47 (by kernel_rfl) (by kernel_rfl) (by kernel_rfl) rfl (fun ac wc A16 S17 => ?_)
  refine s_alloc (#[.int .i64 0, .int .i64 0]) A16 S17 (by kernel_rfl) rfl (fun g22 ac wc A20 S21 => ?_)
  refine s_store (g := g22) (off := 0) (v := .agg #[.int .i64 (timLo c (crs c)), .int .i64 (timHi c (crs c))]) 0 (#[.int .i64 (timLo c (crs c)), .int .i64 (timHi c (crs c))]) A20 S21 (by kernel_rfl) (by kernel_rfl) rfl (by kernel_rfl) (fun wc S24 => ?_)
  refine wpList_nil ?_
  refine n_then ?_
  refine wp_seq ?_
  refine wp_seq ?_
  refine wp_region_lit ?_
  refine s_one (.agg #[.int .i64 c.x1, .int .i64 c.h1, .int .i64 c.v1, .int .i64 c.x2, .int .i64 c.h2, .int .i64 c.v2]) A20 S24 (g_load (g := g3) (off := 0) 2 (by kernel_rfl) rfl (by kernel_rfl)) rfl (fun ac A26 => ?_)
  refine s_one (.int .i64 (crs c)) A26 S24 (g_move (by kernel_rfl)) rfl (fun ac A27 => ?_)
  refine s_one (.int .i64 (crs c + 1)) A27 S24 (g_bin (u := .int .i64 (crs c)) (k := .int .i64 1) (by kernel_rfl) (by kernel_rfl) (fun _ => by kernel_rfl) (b_add (by omega))) rfl (fun ac A28 => ?_)
  refine s_call (fs := #[]) (cp := #[]) (r := [(0, .agg #[.int .i64 c.x1, .int .i64 c.h1, .int .i64 c.v1, .int .i64 c.x2, .int .i64 c.h2, .int .i64 c.v2]), (0, .int .i64 (crs c + 1))]) #[.agg #[.int .i64 c.x1, .int .i64 c.h1, .int .i64 c.v1, .int .i64 c.x2, .int .i64 c.h2, .int .i64 c.v2], .int .i64 (crs c + 1)] (.bool (inB (crs c + 1) c.lo c.hi)) A28 S24 (has_s c (crs c + 1) _) Try.call48 (by kernel_rfl) (by kernel_rfl) (by kernel_rfl) rfl (fun ac wc A29 S30 => ?_)
  refine wpList_nil ?_
  refine n_then ?_
  refine c_ifb (b := (inB (crs c + 1) c.lo c.hi)) A29 (by kernel_rfl) (fun h32 => ?_) (fun h32 => ?_)
  · have hin := inB_true.1 h32
    refine wp_seq ?_
    refine wp_region_lit ?_
    refine s_one (.agg #[.int .i64 c.x1, .int .i64 c.h1, .int .i64 c.v1, .int .i64 c.x2, .int .i64 c.h2, .int .i64 c.v2]) A29 S30 (g_load (g := g3) (off := 0) 2 (by kernel_rfl) rfl (by kernel_rfl)) rfl (fun ac A33 => ?_)
    refine s_one (.int .i64 (crs c)) A33 S30 (g_move (by kernel_rfl)) rfl (fun ac A34 => ?_)
    refine s_one (.int .i64 (crs c + 1)) A34 S30 (g_bin (u := .int .i64 (crs c)) (k := .int .i64 1) (by kernel_rfl) (by kernel_rfl) (fun _ => by kernel_rfl) (b_add (by omega))) rfl (fun ac A35 => ?_)
    have q39 := tim_bd (c := c) (p := (crs c + 1)) ok (by omega) (by omega)
    refine s_call (fs := #[]) (cp := #[]) (r := [(0, .agg #[.int .i64 c.x1, .int .i64 c.h1, .int .i64 c.v1, .int .i64 c.x2, .int .i64 c.h2, .int .i64 c.v2]), (0, .int .i64 (crs c + 1))]) #[.agg #[.int .i64 c.x1, .int .i64 c.h1, .int .i64 c.v1, .int .i64 c.x2, .int .i64 c.h2, .int .i64 c.v2], .int .i64 (crs c + 1)] (.agg #[.int .i64 (timLo c (crs c + 1)), .int .i64 (timHi c (crs c + 1))]) A35 S30 (ctime_s c (crs c + 1) _ ok (by omega) (by omega)) Try.call47 (by kernel_rfl) (by kernel_rfl) (by kernel_rfl) rfl (fun ac wc A36 S37 => ?_)
    refine s_alloc (#[.int .i64 0, .int .i64 0]) A36 S37 (by kernel_rfl) rfl (fun g42 ac wc A40 S41 => ?_)
    refine s_store (g := g42) (off := 0) (v := .agg #[.int .i64 (timLo c (crs c + 1)), .int .i64 (timHi c (crs c + 1))]) 0 (#[.int .i64 (timLo c (crs c + 1)), .int .i64 (timHi c (crs c + 1))]) A40 S41 (by kernel_rfl) (by kernel_rfl) rfl (by kernel_rfl) (fun wc S44 => ?_)
    refine wpList_nil ?_
    refine n_then ?_
    refine wp_region_lit ?_
    refine s_one (.pointer (some ⟨g22, 0, none⟩)) A40 S44 (g_field (u := .pointer (some ⟨g22, 0, none⟩)) (by kernel_rfl) (fun _ => by kernel_rfl)) rfl (fun ac A46 => ?_)
    refine s_one (.int .i64 (timLo c (crs c))) A46 S44 (g_load (g := g22) (off := 0) 1 (by kernel_rfl) rfl (by kernel_rfl)) rfl (fun ac A47 => ?_)
    refine s_one (.pointer (some ⟨g42, 0, none⟩)) A47 S44 (g_field (u := .pointer (some ⟨g42, 0, none⟩)) (by kernel_rfl) (fun _ => by kernel_rfl)) rfl (fun ac A48 => ?_)
    refine s_one (.int .i64 (timLo c (crs c + 1))) A48 S44 (g_load (g := g42) (off := 0) 0 (by kernel_rfl) rfl (by kernel_rfl)) rfl (fun ac A49 => ?_)
    refine s_one (.int .i64 (mn (timLo c (crs c)) (timLo c (crs c + 1)))) A49 S44 (g_built (r := [(0, .int .i64 (timLo c (crs c))), (0, .int .i64 (timLo c (crs c + 1)))]) (by kernel_rfl) (fun ty cs w => by show (do let x ← Builtin.min_ _ ty #[.int .i64 (timLo c (crs c)), .int .i64 (timLo c (crs c + 1))]; pure (Next.value x) : Sem Next).run _ w = _; rw [Sem.run_bind, run_min_mn]; rfl)) rfl (fun ac A50 => ?_)
    refine s_one (.pointer (some ⟨g22, 1, none⟩)) A50 S44 (g_field (u := .pointer (some ⟨g22, 0, none⟩)) (by kernel_rfl) (fun _ => by kernel_rfl)) rfl (fun ac A51 => ?_)
    refine s_one (.int .i64 (timHi c (crs c))) A51 S44 (g_load (g := g22) (off := 1) 1 (by kernel_rfl) rfl (by kernel_rfl)) rfl (fun ac A52 => ?_)
    refine s_one (.pointer (some ⟨g42, 1, none⟩)) A52 S44 (g_field (u := .pointer (some ⟨g42, 0, none⟩)) (by kernel_rfl) (fun _ => by kernel_rfl)) rfl (fun ac A53 => ?_)
    refine s_one (.int .i64 (timHi c (crs c + 1))) A53 S44 (g_load (g := g42) (off := 1) 0 (by kernel_rfl) rfl (by kernel_rfl)) rfl (fun ac A54 => ?_)
    refine s_one (.int .i64 (mn (timHi c (crs c)) (timHi c (crs c + 1)))) A54 S44 (g_built (r := [(0, .int .i64 (timHi c (crs c))), (0, .int .i64 (timHi c (crs c + 1)))]) (by kernel_rfl) (fun ty cs w => by show (do let x ← Builtin.min_ _ ty #[.int .i64 (timHi c (crs c)), .int .i64 (timHi c (crs c + 1))]; pure (Next.value x) : Sem Next).run _ w = _; rw [Sem.run_bind, run_min_mn]; rfl)) rfl (fun ac A55 => ?_)
    refine s_one (.agg #[.int .i64 (mn (timLo c (crs c)) (timLo c (crs c + 1))), .int .i64 (mn (timHi c (crs c)) (timHi c (crs c + 1)))]) A55 S44 (g_build (r := [(0, .int .i64 (mn (timLo c (crs c)) (timLo c (crs c + 1)))), (1, .int .i64 (mn (timHi c (crs c)) (timHi c (crs c + 1))))]) (by kernel_rfl) (fun _ => by kernel_rfl)) rfl (fun ac A56 => ?_)
    refine s_store (g := g22) (off := 0) (v := .agg #[.int .i64 (mn (timLo c (crs c)) (timLo c (crs c + 1))), .int .i64 (mn (timHi c (crs c)) (timHi c (crs c + 1)))]) 1 (#[.int .i64 (mn (timLo c (crs c)) (timLo c (crs c + 1))), .int .i64 (mn (timHi c (crs c)) (timHi c (crs c + 1)))]) A56 S44 (by kernel_rfl) (by kernel_rfl) rfl (by kernel_rfl) (fun wc S58 => ?_)
    refine wpList_nil ?_
    refine n_then ?_
    refine wp_seq ?_
    refine r_begin (w0 := w0) (by kernel_rfl) (S58.sub (sub_keep (sub_skip sub_all)) sub_all) (fun wc T60 B61 => ?_)
    have S62 := S58.kept B61
    refine r_take 0 (.pointer (some ⟨g22, 0, none⟩)) A56 T60 (g_field (u := .pointer (some ⟨g22, 0, none⟩)) (by kernel_rfl) (fun _ => by kernel_rfl)) rfl rfl rfl (pf_then pf_body) (by kernel_rfl) (fun ac A63 => ?_)
    refine r_take 2 (.pointer (some ⟨g3, 0, none⟩)) A63 T60 (g_field (u := .pointer (some ⟨g3, 0, none⟩)) (by kernel_rfl) (fun _ => by kernel_rfl)) rfl rfl rfl (pf_then pf_body) (by kernel_rfl) (fun ac A64 => ?_)
    refine r_take 3 (.pointer (some ⟨g3, 2, none⟩)) A64 T60 (g_field (u := .pointer (some ⟨g3, 0, none⟩)) (by kernel_rfl) (fun _ => by kernel_rfl)) rfl rfl rfl (pf_then pf_body) (by kernel_rfl) (fun ac A65 => ?_)
    refine r_take 4 (.int .i64 c.v1) A65 T60 (g_load (g := g3) (off := 2) 2 (by kernel_rfl) rfl (by kernel_rfl)) rfl rfl rfl (pf_then pf_body) (by kernel_rfl) (fun ac A66 => ?_)
    refine r_take 5 (.pointer (some ⟨g3, 0, none⟩)) A66 T60 (g_field (u := .pointer (some ⟨g3, 0, none⟩)) (by kernel_rfl) (fun _ => by kernel_rfl)) rfl rfl rfl (pf_then pf_body) (by kernel_rfl) (fun ac A67 => ?_)
    refine r_take 6 (.pointer (some ⟨g3, 1, none⟩)) A67 T60 (g_field (u := .pointer (some ⟨g3, 0, none⟩)) (by kernel_rfl) (fun _ => by kernel_rfl)) rfl rfl rfl (pf_then pf_body) (by kernel_rfl) (fun ac A68 => ?_)
    refine r_take 7 (.int .i64 c.h1) A68 T60 (g_load (g := g3) (off := 1) 2 (by kernel_rfl) rfl (by kernel_rfl)) rfl rfl rfl (pf_then pf_body) (by kernel_rfl) (fun ac A69 => ?_)
    refine r_take 8 (.int .i64 (c.v1 * c.h1)) A69 T60 (g_bin (u := .int .i64 c.v1) (k := .int .i64 c.h1) (by kernel_rfl) (by kernel_rfl) (fun _ => by kernel_rfl) (b_mul (by omega))) rfl rfl rfl (pf_then pf_body) (by kernel_rfl) (fun ac A70 => ?_)
    refine r_take 11 (.pointer (some ⟨g3, 0, none⟩)) A70 T60 (g_field (u := .pointer (some ⟨g3, 0, none⟩)) (by kernel_rfl) (fun _ => by kernel_rfl)) rfl rfl rfl (pf_then pf_body) (by kernel_rfl) (fun ac A71 => ?_)
    refine r_take 12 (.pointer (some ⟨g3, 5, none⟩)) A71 T60 (g_field (u := .pointer (some ⟨g3, 0, none⟩)) (by kernel_rfl) (fun _ => by kernel_rfl)) rfl rfl rfl (pf_then pf_body) (by kernel_rfl) (fun ac A72 => ?_)
    refine r_take 13 (.int .i64 c.v2) A72 T60 (g_load (g := g3) (off := 5) 2 (by kernel_rfl) rfl (by kernel_rfl)) rfl rfl rfl (pf_then pf_body) (by kernel_rfl) (fun ac A73 => ?_)
    refine r_take 14 (.pointer (some ⟨g3, 0, none⟩)) A73 T60 (g_field (u := .pointer (some ⟨g3, 0, none⟩)) (by kernel_rfl) (fun _ => by kernel_rfl)) rfl rfl rfl (pf_then pf_body) (by kernel_rfl) (fun ac A74 => ?_)
    refine r_take 15 (.pointer (some ⟨g3, 4, none⟩)) A74 T60 (g_field (u := .pointer (some ⟨g3, 0, none⟩)) (by kernel_rfl) (fun _ => by kernel_rfl)) rfl rfl rfl (pf_then pf_body) (by kernel_rfl) (fun ac A75 => ?_)
    refine r_take 16 (.int .i64 c.h2) A75 T60 (g_load (g := g3) (off := 4) 2 (by kernel_rfl) rfl (by kernel_rfl)) rfl rfl rfl (pf_then pf_body) (by kernel_rfl) (fun ac A76 => ?_)
    refine r_take 17 (.int .i64 (c.v2 * c.h2)) A76 T60 (g_bin (u := .int .i64 c.v2) (k := .int .i64 c.h2) (by kernel_rfl) (by kernel_rfl) (fun _ => by kernel_rfl) (b_mul (by omega))) rfl rfl rfl (pf_then pf_body) (by kernel_rfl) (fun ac A77 => ?_)
    refine r_2 (i := 1) (j := 9) (by kernel_rfl) ?_ ?_
    · refine rs_gives (.int .i64 (mn (timLo c (crs c)) (timLo c (crs c + 1)))) A77 S62 (sub_keep (sub_skip sub_all)) sub_all (g_load (g := g22) (off := 0) 1 (by kernel_rfl) rfl (by kernel_rfl)) rfl rfl rfl (fun ac A78 => ?_)
      refine r_1 (i := 9) (by kernel_rfl) ?_
      refine rs_call (fs := #[]) (cp := #[]) (r := [(0, .int .i64 10000000), (0, .int .i64 (c.v1 * c.h1))]) #[.int .i64 10000000, .int .i64 (c.v1 * c.h1)] (.int .i64 (upD 10000000 (c.v1 * c.h1))) A78 S62 (sub_keep (sub_skip sub_all)) sub_all (up_s 10000000 (c.v1 * c.h1) _ (by omega) (by omega) (by omega)) Try.call49 rfl rfl (by kernel_rfl) (by kernel_rfl) (by kernel_rfl) rfl (fun ac wc A82 S83 => ?_)
      have T85 := S83.sub (sub_keep (sub_skip sub_all)) sub_all
      refine r_take 10 (.int .i64 (mn (timLo c (crs c)) (timLo c (crs c + 1)) - (upD 10000000 (c.v1 * c.h1)))) A82 T85 (g_bin (u := .int .i64 (mn (timLo c (crs c)) (timLo c (crs c + 1)))) (k := .int .i64 (upD 10000000 (c.v1 * c.h1))) (by kernel_rfl) (by kernel_rfl) (fun _ => by kernel_rfl) (b_sub (by omega))) rfl rfl rfl (pf_then pf_body) (by kernel_rfl) (fun ac A86 => ?_)
      refine r_1 (i := 18) (by kernel_rfl) ?_
      refine rs_call (fs := #[]) (cp := #[]) (r := [(0, .int .i64 10000000), (0, .int .i64 (c.v2 * c.h2))]) #[.int .i64 10000000, .int .i64 (c.v2 * c.h2)] (.int .i64 (upD 10000000 (c.v2 * c.h2))) A86 S83 (sub_keep (sub_skip sub_all)) sub_all (up_s 10000000 (c.v2 * c.h2) _ (by omega) (by omega) (by omega)) Try.call49 rfl rfl (by kernel_rfl) (by kernel_rfl) (by kernel_rfl) rfl (fun ac wc A87 S88 => ?_)
      have T90 := S88.sub (sub_keep (sub_skip sub_all)) sub_all
      refine r_take 19 (.int .i64 (mn (timLo c (crs c)) (timLo c (crs c + 1)) - (upD 10000000 (c.v1 * c.h1)) - (upD 10000000 (c.v2 * c.h2)))) A87 T90 (g_bin (u := .int .i64 (mn (timLo c (crs c)) (timLo c (crs c + 1)) - (upD 10000000 (c.v1 * c.h1)))) (k := .int .i64 (upD 10000000 (c.v2 * c.h2))) (by kernel_rfl) (by kernel_rfl) (fun _ => by kernel_rfl) (b_sub (by omega))) rfl rfl rfl (pf_then pf_body) (by kernel_rfl) (fun ac A91 => ?_)
      refine r_take 20 (.int .i64 (mx 0 (mn (timLo c (crs c)) (timLo c (crs c + 1)) - (upD 10000000 (c.v1 * c.h1)) - (upD 10000000 (c.v2 * c.h2))))) A91 T90 (g_built (r := [(0, .int .i64 0), (0, .int .i64 (mn (timLo c (crs c)) (timLo c (crs c + 1)) - (upD 10000000 (c.v1 * c.h1)) - (upD 10000000 (c.v2 * c.h2))))]) (by kernel_rfl) (fun ty cs w => by show (do let x ← Builtin.max_ _ ty #[.int .i64 0, .int .i64 (mn (timLo c (crs c)) (timLo c (crs c + 1)) - (upD 10000000 (c.v1 * c.h1)) - (upD 10000000 (c.v2 * c.h2)))]; pure (Next.value x) : Sem Next).run _ w = _; rw [Sem.run_bind, run_max_mx]; rfl)) rfl rfl rfl (pf_then pf_body) (by kernel_rfl) (fun ac A92 => ?_)
      refine r_take 21 (.pointer (some ⟨g22, 0, none⟩)) A92 T90 (g_field (u := .pointer (some ⟨g22, 0, none⟩)) (by kernel_rfl) (fun _ => by kernel_rfl)) rfl rfl rfl (pf_then pf_body) (by kernel_rfl) (fun ac A93 => ?_)
      refine r_1 (i := 22) (by kernel_rfl) ?_
      refine rs_store (g := g22) (off := 0) (v := .int .i64 (mx 0 (mn (timLo c (crs c)) (timLo c (crs c + 1)) - (upD 10000000 (c.v1 * c.h1)) - (upD 10000000 (c.v2 * c.h2))))) 1 (#[.int .i64 (mx 0 (mn (timLo c (crs c)) (timLo c (crs c + 1)) - (upD 10000000 (c.v1 * c.h1)) - (upD 10000000 (c.v2 * c.h2)))), .int .i64 (mn (timHi c (crs c)) (timHi c (crs c + 1)))]) A93 S88 (sub_keep (sub_skip sub_all)) sub_all (by kernel_rfl) (by kernel_rfl) rfl (by kernel_rfl) rfl rfl (fun wc S95 => ?_)
      have T97 := S95.sub (sub_keep (sub_skip sub_all)) sub_all
      refine r_done (by kernel_rfl) ?_
      refine n_then ?_
      refine wp_seq ?_
      refine wp_region_lit ?_
      refine s_one (.agg #[.int .i64 (mx 0 (mn (timLo c (crs c)) (timLo c (crs c + 1)) - (upD 10000000 (c.v1 * c.h1)) - (upD 10000000 (c.v2 * c.h2)))), .int .i64 (mn (timHi c (crs c)) (timHi c (crs c + 1)))]) A93 S95 (g_load (g := g22) (off := 0) 1 (by kernel_rfl) rfl (by kernel_rfl)) rfl (fun ac A98 => ?_)
      refine s_store (g := g7) (off := 0) (v := .agg #[.int .i64 (mx 0 (mn (timLo c (crs c)) (timLo c (crs c + 1)) - (upD 10000000 (c.v1 * c.h1)) - (upD 10000000 (c.v2 * c.h2)))), .int .i64 (mn (timHi c (crs c)) (timHi c (crs c + 1)))]) 2 (#[.int .i64 (mx 0 (mn (timLo c (crs c)) (timLo c (crs c + 1)) - (upD 10000000 (c.v1 * c.h1)) - (upD 10000000 (c.v2 * c.h2)))), .int .i64 (mn (timHi c (crs c)) (timHi c (crs c + 1)))]) A98 S95 (by kernel_rfl) (by kernel_rfl) rfl (by kernel_rfl) (fun wc S100 => ?_)
      refine wpList_nil ?_
      refine n_then ?_
      refine wp_ret ?_
      refine fin1 (.agg #[.int .i64 (mx 0 (mn (timLo c (crs c)) (timLo c (crs c + 1)) - (upD 10000000 (c.v1 * c.h1)) - (upD 10000000 (c.v2 * c.h2)))), .int .i64 (mn (timHi c (crs c)) (timHi c (crs c + 1)))]) Try.results36 A98 S100 (rv_cell (g := g7) (off := 0) 2 (by kernel_rfl) rfl (by kernel_rfl)) ⟨?_, S100.kp⟩
      have hh := inB_true.1 h32
      rw [mn_eq, mn_eq, mx_eq]
      have e1 : leLo c = max 0 (min (timLo c (crs c)) (timLo c (crs c + 1)) - upD 10000000 (c.v1 * c.h1) - upD 10000000 (c.v2 * c.h2)) := by unfold leLo mLo; rw [if_pos hh.2]
      have e2 : mHi c = min (timHi c (crs c)) (timHi c (crs c + 1)) := if_pos hh.2
      rw [e1, e2]
    · refine rs_call (fs := #[]) (cp := #[]) (r := [(0, .int .i64 10000000), (0, .int .i64 (c.v1 * c.h1))]) #[.int .i64 10000000, .int .i64 (c.v1 * c.h1)] (.int .i64 (upD 10000000 (c.v1 * c.h1))) A77 S62 (sub_keep (sub_skip sub_all)) sub_all (up_s 10000000 (c.v1 * c.h1) _ (by omega) (by omega) (by omega)) Try.call49 rfl rfl (by kernel_rfl) (by kernel_rfl) (by kernel_rfl) rfl (fun ac wc A102 S103 => ?_)
      have T105 := S103.sub (sub_keep (sub_skip sub_all)) sub_all
      refine r_2 (i := 1) (j := 18) (by kernel_rfl) ?_ ?_
      · refine rs_gives (.int .i64 (mn (timLo c (crs c)) (timLo c (crs c + 1)))) A102 S103 (sub_keep (sub_skip sub_all)) sub_all (g_load (g := g22) (off := 0) 1 (by kernel_rfl) rfl (by kernel_rfl)) rfl rfl rfl (fun ac A106 => ?_)
        refine r_take 10 (.int .i64 (mn (timLo c (crs c)) (timLo c (crs c + 1)) - (upD 10000000 (c.v1 * c.h1)))) A106 T105 (g_bin (u := .int .i64 (mn (timLo c (crs c)) (timLo c (crs c + 1)))) (k := .int .i64 (upD 10000000 (c.v1 * c.h1))) (by kernel_rfl) (by kernel_rfl) (fun _ => by kernel_rfl) (b_sub (by omega))) rfl rfl rfl (pf_then pf_body) (by kernel_rfl) (fun ac A110 => ?_)
        refine r_1 (i := 18) (by kernel_rfl) ?_
        refine rs_call (fs := #[]) (cp := #[]) (r := [(0, .int .i64 10000000), (0, .int .i64 (c.v2 * c.h2))]) #[.int .i64 10000000, .int .i64 (c.v2 * c.h2)] (.int .i64 (upD 10000000 (c.v2 * c.h2))) A110 S103 (sub_keep (sub_skip sub_all)) sub_all (up_s 10000000 (c.v2 * c.h2) _ (by omega) (by omega) (by omega)) Try.call49 rfl rfl (by kernel_rfl) (by kernel_rfl) (by kernel_rfl) rfl (fun ac wc A111 S112 => ?_)
        have T114 := S112.sub (sub_keep (sub_skip sub_all)) sub_all
        refine r_take 19 (.int .i64 (mn (timLo c (crs c)) (timLo c (crs c + 1)) - (upD 10000000 (c.v1 * c.h1)) - (upD 10000000 (c.v2 * c.h2)))) A111 T114 (g_bin (u := .int .i64 (mn (timLo c (crs c)) (timLo c (crs c + 1)) - (upD 10000000 (c.v1 * c.h1)))) (k := .int .i64 (upD 10000000 (c.v2 * c.h2))) (by kernel_rfl) (by kernel_rfl) (fun _ => by kernel_rfl) (b_sub (by omega))) rfl rfl rfl (pf_then pf_body) (by kernel_rfl) (fun ac A115 => ?_)
        refine r_take 20 (.int .i64 (mx 0 (mn (timLo c (crs c)) (timLo c (crs c + 1)) - (upD 10000000 (c.v1 * c.h1)) - (upD 10000000 (c.v2 * c.h2))))) A115 T114 (g_built (r := [(0, .int .i64 0), (0, .int .i64 (mn (timLo c (crs c)) (timLo c (crs c + 1)) - (upD 10000000 (c.v1 * c.h1)) - (upD 10000000 (c.v2 * c.h2))))]) (by kernel_rfl) (fun ty cs w => by show (do let x ← Builtin.max_ _ ty #[.int .i64 0, .int .i64 (mn (timLo c (crs c)) (timLo c (crs c + 1)) - (upD 10000000 (c.v1 * c.h1)) - (upD 10000000 (c.v2 * c.h2)))]; pure (Next.value x) : Sem Next).run _ w = _; rw [Sem.run_bind, run_max_mx]; rfl)) rfl rfl rfl (pf_then pf_body) (by kernel_rfl) (fun ac A116 => ?_)
        refine r_take 21 (.pointer (some ⟨g22, 0, none⟩)) A116 T114 (g_field (u := .pointer (some ⟨g22, 0, none⟩)) (by kernel_rfl) (fun _ => by kernel_rfl)) rfl rfl rfl (pf_then pf_body) (by kernel_rfl) (fun ac A117 => ?_)
        refine r_1 (i := 22) (by kernel_rfl) ?_
        refine rs_store (g := g22) (off := 0) (v := .int .i64 (mx 0 (mn (timLo c (crs c)) (timLo c (crs c + 1)) - (upD 10000000 (c.v1 * c.h1)) - (upD 10000000 (c.v2 * c.h2))))) 1 (#[.int .i64 (mx 0 (mn (timLo c (crs c)) (timLo c (crs c + 1)) - (upD 10000000 (c.v1 * c.h1)) - (upD 10000000 (c.v2 * c.h2)))), .int .i64 (mn (timHi c (crs c)) (timHi c (crs c + 1)))]) A117 S112 (sub_keep (sub_skip sub_all)) sub_all (by kernel_rfl) (by kernel_rfl) rfl (by kernel_rfl) rfl rfl (fun wc S119 => ?_)
        have T121 := S119.sub (sub_keep (sub_skip sub_all)) sub_all
        refine r_done (by kernel_rfl) ?_
        refine n_then ?_
        refine wp_seq ?_
        refine wp_region_lit ?_
        refine s_one (.agg #[.int .i64 (mx 0 (mn (timLo c (crs c)) (timLo c (crs c + 1)) - (upD 10000000 (c.v1 * c.h1)) - (upD 10000000 (c.v2 * c.h2)))), .int .i64 (mn (timHi c (crs c)) (timHi c (crs c + 1)))]) A117 S119 (g_load (g := g22) (off := 0) 1 (by kernel_rfl) rfl (by kernel_rfl)) rfl (fun ac A122 => ?_)
        refine s_store (g := g7) (off := 0) (v := .agg #[.int .i64 (mx 0 (mn (timLo c (crs c)) (timLo c (crs c + 1)) - (upD 10000000 (c.v1 * c.h1)) - (upD 10000000 (c.v2 * c.h2)))), .int .i64 (mn (timHi c (crs c)) (timHi c (crs c + 1)))]) 2 (#[.int .i64 (mx 0 (mn (timLo c (crs c)) (timLo c (crs c + 1)) - (upD 10000000 (c.v1 * c.h1)) - (upD 10000000 (c.v2 * c.h2)))), .int .i64 (mn (timHi c (crs c)) (timHi c (crs c + 1)))]) A122 S119 (by kernel_rfl) (by kernel_rfl) rfl (by kernel_rfl) (fun wc S124 => ?_)
        refine wpList_nil ?_
        refine n_then ?_
        refine wp_ret ?_
        refine fin1 (.agg #[.int .i64 (mx 0 (mn (timLo c (crs c)) (timLo c (crs c + 1)) - (upD 10000000 (c.v1 * c.h1)) - (upD 10000000 (c.v2 * c.h2)))), .int .i64 (mn (timHi c (crs c)) (timHi c (crs c + 1)))]) Try.results36 A122 S124 (rv_cell (g := g7) (off := 0) 2 (by kernel_rfl) rfl (by kernel_rfl)) ⟨?_, S124.kp⟩
        have hh := inB_true.1 h32
        rw [mn_eq, mn_eq, mx_eq]
        have e1 : leLo c = max 0 (min (timLo c (crs c)) (timLo c (crs c + 1)) - upD 10000000 (c.v1 * c.h1) - upD 10000000 (c.v2 * c.h2)) := by unfold leLo mLo; rw [if_pos hh.2]
        have e2 : mHi c = min (timHi c (crs c)) (timHi c (crs c + 1)) := if_pos hh.2
        rw [e1, e2]
      · refine rs_call (fs := #[]) (cp := #[]) (r := [(0, .int .i64 10000000), (0, .int .i64 (c.v2 * c.h2))]) #[.int .i64 10000000, .int .i64 (c.v2 * c.h2)] (.int .i64 (upD 10000000 (c.v2 * c.h2))) A102 S103 (sub_keep (sub_skip sub_all)) sub_all (up_s 10000000 (c.v2 * c.h2) _ (by omega) (by omega) (by omega)) Try.call49 rfl rfl (by kernel_rfl) (by kernel_rfl) (by kernel_rfl) rfl (fun ac wc A126 S127 => ?_)
        have T129 := S127.sub (sub_keep (sub_skip sub_all)) sub_all
        refine r_1 (i := 1) (by kernel_rfl) ?_
        refine rs_gives (.int .i64 (mn (timLo c (crs c)) (timLo c (crs c + 1)))) A126 S127 (sub_keep (sub_skip sub_all)) sub_all (g_load (g := g22) (off := 0) 1 (by kernel_rfl) rfl (by kernel_rfl)) rfl rfl rfl (fun ac A130 => ?_)
        refine r_take 10 (.int .i64 (mn (timLo c (crs c)) (timLo c (crs c + 1)) - (upD 10000000 (c.v1 * c.h1)))) A130 T129 (g_bin (u := .int .i64 (mn (timLo c (crs c)) (timLo c (crs c + 1)))) (k := .int .i64 (upD 10000000 (c.v1 * c.h1))) (by kernel_rfl) (by kernel_rfl) (fun _ => by kernel_rfl) (b_sub (by omega))) rfl rfl rfl (pf_then pf_body) (by kernel_rfl) (fun ac A134 => ?_)
        refine r_take 19 (.int .i64 (mn (timLo c (crs c)) (timLo c (crs c + 1)) - (upD 10000000 (c.v1 * c.h1)) - (upD 10000000 (c.v2 * c.h2)))) A134 T129 (g_bin (u := .int .i64 (mn (timLo c (crs c)) (timLo c (crs c + 1)) - (upD 10000000 (c.v1 * c.h1)))) (k := .int .i64 (upD 10000000 (c.v2 * c.h2))) (by kernel_rfl) (by kernel_rfl) (fun _ => by kernel_rfl) (b_sub (by omega))) rfl rfl rfl (pf_then pf_body) (by kernel_rfl) (fun ac A135 => ?_)
        refine r_take 20 (.int .i64 (mx 0 (mn (timLo c (crs c)) (timLo c (crs c + 1)) - (upD 10000000 (c.v1 * c.h1)) - (upD 10000000 (c.v2 * c.h2))))) A135 T129 (g_built (r := [(0, .int .i64 0), (0, .int .i64 (mn (timLo c (crs c)) (timLo c (crs c + 1)) - (upD 10000000 (c.v1 * c.h1)) - (upD 10000000 (c.v2 * c.h2))))]) (by kernel_rfl) (fun ty cs w => by show (do let x ← Builtin.max_ _ ty #[.int .i64 0, .int .i64 (mn (timLo c (crs c)) (timLo c (crs c + 1)) - (upD 10000000 (c.v1 * c.h1)) - (upD 10000000 (c.v2 * c.h2)))]; pure (Next.value x) : Sem Next).run _ w = _; rw [Sem.run_bind, run_max_mx]; rfl)) rfl rfl rfl (pf_then pf_body) (by kernel_rfl) (fun ac A136 => ?_)
        refine r_take 21 (.pointer (some ⟨g22, 0, none⟩)) A136 T129 (g_field (u := .pointer (some ⟨g22, 0, none⟩)) (by kernel_rfl) (fun _ => by kernel_rfl)) rfl rfl rfl (pf_then pf_body) (by kernel_rfl) (fun ac A137 => ?_)
        refine r_1 (i := 22) (by kernel_rfl) ?_
        refine rs_store (g := g22) (off := 0) (v := .int .i64 (mx 0 (mn (timLo c (crs c)) (timLo c (crs c + 1)) - (upD 10000000 (c.v1 * c.h1)) - (upD 10000000 (c.v2 * c.h2))))) 1 (#[.int .i64 (mx 0 (mn (timLo c (crs c)) (timLo c (crs c + 1)) - (upD 10000000 (c.v1 * c.h1)) - (upD 10000000 (c.v2 * c.h2)))), .int .i64 (mn (timHi c (crs c)) (timHi c (crs c + 1)))]) A137 S127 (sub_keep (sub_skip sub_all)) sub_all (by kernel_rfl) (by kernel_rfl) rfl (by kernel_rfl) rfl rfl (fun wc S139 => ?_)
        have T141 := S139.sub (sub_keep (sub_skip sub_all)) sub_all
        refine r_done (by kernel_rfl) ?_
        refine n_then ?_
        refine wp_seq ?_
        refine wp_region_lit ?_
        refine s_one (.agg #[.int .i64 (mx 0 (mn (timLo c (crs c)) (timLo c (crs c + 1)) - (upD 10000000 (c.v1 * c.h1)) - (upD 10000000 (c.v2 * c.h2)))), .int .i64 (mn (timHi c (crs c)) (timHi c (crs c + 1)))]) A137 S139 (g_load (g := g22) (off := 0) 1 (by kernel_rfl) rfl (by kernel_rfl)) rfl (fun ac A142 => ?_)
        refine s_store (g := g7) (off := 0) (v := .agg #[.int .i64 (mx 0 (mn (timLo c (crs c)) (timLo c (crs c + 1)) - (upD 10000000 (c.v1 * c.h1)) - (upD 10000000 (c.v2 * c.h2)))), .int .i64 (mn (timHi c (crs c)) (timHi c (crs c + 1)))]) 2 (#[.int .i64 (mx 0 (mn (timLo c (crs c)) (timLo c (crs c + 1)) - (upD 10000000 (c.v1 * c.h1)) - (upD 10000000 (c.v2 * c.h2)))), .int .i64 (mn (timHi c (crs c)) (timHi c (crs c + 1)))]) A142 S139 (by kernel_rfl) (by kernel_rfl) rfl (by kernel_rfl) (fun wc S144 => ?_)
        refine wpList_nil ?_
        refine n_then ?_
        refine wp_ret ?_
        refine fin1 (.agg #[.int .i64 (mx 0 (mn (timLo c (crs c)) (timLo c (crs c + 1)) - (upD 10000000 (c.v1 * c.h1)) - (upD 10000000 (c.v2 * c.h2)))), .int .i64 (mn (timHi c (crs c)) (timHi c (crs c + 1)))]) Try.results36 A142 S144 (rv_cell (g := g7) (off := 0) 2 (by kernel_rfl) rfl (by kernel_rfl)) ⟨?_, S144.kp⟩
        have hh := inB_true.1 h32
        rw [mn_eq, mn_eq, mx_eq]
        have e1 : leLo c = max 0 (min (timLo c (crs c)) (timLo c (crs c + 1)) - upD 10000000 (c.v1 * c.h1) - upD 10000000 (c.v2 * c.h2)) := by unfold leLo mLo; rw [if_pos hh.2]
        have e2 : mHi c = min (timHi c (crs c)) (timHi c (crs c + 1)) := if_pos hh.2
        rw [e1, e2]
  · refine wp_skip ?_
    refine n_then ?_
    refine wp_seq ?_
    refine r_begin (w0 := w0) (by kernel_rfl) (S30.sub (sub_skip sub_all) sub_all) (fun wc T146 B147 => ?_)
    have S148 := S30.kept B147
    refine r_take 0 (.pointer (some ⟨g22, 0, none⟩)) A29 T146 (g_field (u := .pointer (some ⟨g22, 0, none⟩)) (by kernel_rfl) (fun _ => by kernel_rfl)) rfl rfl rfl (pf_then pf_body) (by kernel_rfl) (fun ac A149 => ?_)
    refine r_take 2 (.pointer (some ⟨g3, 0, none⟩)) A149 T146 (g_field (u := .pointer (some ⟨g3, 0, none⟩)) (by kernel_rfl) (fun _ => by kernel_rfl)) rfl rfl rfl (pf_then pf_body) (by kernel_rfl) (fun ac A150 => ?_)
    refine r_take 3 (.pointer (some ⟨g3, 2, none⟩)) A150 T146 (g_field (u := .pointer (some ⟨g3, 0, none⟩)) (by kernel_rfl) (fun _ => by kernel_rfl)) rfl rfl rfl (pf_then pf_body) (by kernel_rfl) (fun ac A151 => ?_)
    refine r_take 4 (.int .i64 c.v1) A151 T146 (g_load (g := g3) (off := 2) 1 (by kernel_rfl) rfl (by kernel_rfl)) rfl rfl rfl (pf_then pf_body) (by kernel_rfl) (fun ac A152 => ?_)
    refine r_take 5 (.pointer (some ⟨g3, 0, none⟩)) A152 T146 (g_field (u := .pointer (some ⟨g3, 0, none⟩)) (by kernel_rfl) (fun _ => by kernel_rfl)) rfl rfl rfl (pf_then pf_body) (by kernel_rfl) (fun ac A153 => ?_)
    refine r_take 6 (.pointer (some ⟨g3, 1, none⟩)) A153 T146 (g_field (u := .pointer (some ⟨g3, 0, none⟩)) (by kernel_rfl) (fun _ => by kernel_rfl)) rfl rfl rfl (pf_then pf_body) (by kernel_rfl) (fun ac A154 => ?_)
    refine r_take 7 (.int .i64 c.h1) A154 T146 (g_load (g := g3) (off := 1) 1 (by kernel_rfl) rfl (by kernel_rfl)) rfl rfl rfl (pf_then pf_body) (by kernel_rfl) (fun ac A155 => ?_)
    refine r_take 8 (.int .i64 (c.v1 * c.h1)) A155 T146 (g_bin (u := .int .i64 c.v1) (k := .int .i64 c.h1) (by kernel_rfl) (by kernel_rfl) (fun _ => by kernel_rfl) (b_mul (by omega))) rfl rfl rfl (pf_then pf_body) (by kernel_rfl) (fun ac A156 => ?_)
    refine r_take 11 (.pointer (some ⟨g3, 0, none⟩)) A156 T146 (g_field (u := .pointer (some ⟨g3, 0, none⟩)) (by kernel_rfl) (fun _ => by kernel_rfl)) rfl rfl rfl (pf_then pf_body) (by kernel_rfl) (fun ac A157 => ?_)
    refine r_take 12 (.pointer (some ⟨g3, 5, none⟩)) A157 T146 (g_field (u := .pointer (some ⟨g3, 0, none⟩)) (by kernel_rfl) (fun _ => by kernel_rfl)) rfl rfl rfl (pf_then pf_body) (by kernel_rfl) (fun ac A158 => ?_)
    refine r_take 13 (.int .i64 c.v2) A158 T146 (g_load (g := g3) (off := 5) 1 (by kernel_rfl) rfl (by kernel_rfl)) rfl rfl rfl (pf_then pf_body) (by kernel_rfl) (fun ac A159 => ?_)
    refine r_take 14 (.pointer (some ⟨g3, 0, none⟩)) A159 T146 (g_field (u := .pointer (some ⟨g3, 0, none⟩)) (by kernel_rfl) (fun _ => by kernel_rfl)) rfl rfl rfl (pf_then pf_body) (by kernel_rfl) (fun ac A160 => ?_)
    refine r_take 15 (.pointer (some ⟨g3, 4, none⟩)) A160 T146 (g_field (u := .pointer (some ⟨g3, 0, none⟩)) (by kernel_rfl) (fun _ => by kernel_rfl)) rfl rfl rfl (pf_then pf_body) (by kernel_rfl) (fun ac A161 => ?_)
    refine r_take 16 (.int .i64 c.h2) A161 T146 (g_load (g := g3) (off := 4) 1 (by kernel_rfl) rfl (by kernel_rfl)) rfl rfl rfl (pf_then pf_body) (by kernel_rfl) (fun ac A162 => ?_)
    refine r_take 17 (.int .i64 (c.v2 * c.h2)) A162 T146 (g_bin (u := .int .i64 c.v2) (k := .int .i64 c.h2) (by kernel_rfl) (by kernel_rfl) (fun _ => by kernel_rfl) (b_mul (by omega))) rfl rfl rfl (pf_then pf_body) (by kernel_rfl) (fun ac A163 => ?_)
    refine r_2 (i := 1) (j := 9) (by kernel_rfl) ?_ ?_
    · refine rs_gives (.int .i64 (timLo c (crs c))) A163 S148 (sub_skip sub_all) sub_all (g_load (g := g22) (off := 0) 0 (by kernel_rfl) rfl (by kernel_rfl)) rfl rfl rfl (fun ac A164 => ?_)
      refine r_1 (i := 9) (by kernel_rfl) ?_
      refine rs_call (fs := #[]) (cp := #[]) (r := [(0, .int .i64 10000000), (0, .int .i64 (c.v1 * c.h1))]) #[.int .i64 10000000, .int .i64 (c.v1 * c.h1)] (.int .i64 (upD 10000000 (c.v1 * c.h1))) A164 S148 (sub_skip sub_all) sub_all (up_s 10000000 (c.v1 * c.h1) _ (by omega) (by omega) (by omega)) Try.call49 rfl rfl (by kernel_rfl) (by kernel_rfl) (by kernel_rfl) rfl (fun ac wc A168 S169 => ?_)
      have T171 := S169.sub (sub_skip sub_all) sub_all
      refine r_take 10 (.int .i64 (timLo c (crs c) - (upD 10000000 (c.v1 * c.h1)))) A168 T171 (g_bin (u := .int .i64 (timLo c (crs c))) (k := .int .i64 (upD 10000000 (c.v1 * c.h1))) (by kernel_rfl) (by kernel_rfl) (fun _ => by kernel_rfl) (b_sub (by omega))) rfl rfl rfl (pf_then pf_body) (by kernel_rfl) (fun ac A172 => ?_)
      refine r_1 (i := 18) (by kernel_rfl) ?_
      refine rs_call (fs := #[]) (cp := #[]) (r := [(0, .int .i64 10000000), (0, .int .i64 (c.v2 * c.h2))]) #[.int .i64 10000000, .int .i64 (c.v2 * c.h2)] (.int .i64 (upD 10000000 (c.v2 * c.h2))) A172 S169 (sub_skip sub_all) sub_all (up_s 10000000 (c.v2 * c.h2) _ (by omega) (by omega) (by omega)) Try.call49 rfl rfl (by kernel_rfl) (by kernel_rfl) (by kernel_rfl) rfl (fun ac wc A173 S174 => ?_)
      have T176 := S174.sub (sub_skip sub_all) sub_all
      refine r_take 19 (.int .i64 (timLo c (crs c) - (upD 10000000 (c.v1 * c.h1)) - (upD 10000000 (c.v2 * c.h2)))) A173 T176 (g_bin (u := .int .i64 (timLo c (crs c) - (upD 10000000 (c.v1 * c.h1)))) (k := .int .i64 (upD 10000000 (c.v2 * c.h2))) (by kernel_rfl) (by kernel_rfl) (fun _ => by kernel_rfl) (b_sub (by omega))) rfl rfl rfl (pf_then pf_body) (by kernel_rfl) (fun ac A177 => ?_)
      refine r_take 20 (.int .i64 (mx 0 (timLo c (crs c) - (upD 10000000 (c.v1 * c.h1)) - (upD 10000000 (c.v2 * c.h2))))) A177 T176 (g_built (r := [(0, .int .i64 0), (0, .int .i64 (timLo c (crs c) - (upD 10000000 (c.v1 * c.h1)) - (upD 10000000 (c.v2 * c.h2))))]) (by kernel_rfl) (fun ty cs w => by show (do let x ← Builtin.max_ _ ty #[.int .i64 0, .int .i64 (timLo c (crs c) - (upD 10000000 (c.v1 * c.h1)) - (upD 10000000 (c.v2 * c.h2)))]; pure (Next.value x) : Sem Next).run _ w = _; rw [Sem.run_bind, run_max_mx]; rfl)) rfl rfl rfl (pf_then pf_body) (by kernel_rfl) (fun ac A178 => ?_)
      refine r_take 21 (.pointer (some ⟨g22, 0, none⟩)) A178 T176 (g_field (u := .pointer (some ⟨g22, 0, none⟩)) (by kernel_rfl) (fun _ => by kernel_rfl)) rfl rfl rfl (pf_then pf_body) (by kernel_rfl) (fun ac A179 => ?_)
      refine r_1 (i := 22) (by kernel_rfl) ?_
      refine rs_store (g := g22) (off := 0) (v := .int .i64 (mx 0 (timLo c (crs c) - (upD 10000000 (c.v1 * c.h1)) - (upD 10000000 (c.v2 * c.h2))))) 0 (#[.int .i64 (mx 0 (timLo c (crs c) - (upD 10000000 (c.v1 * c.h1)) - (upD 10000000 (c.v2 * c.h2)))), .int .i64 (timHi c (crs c))]) A179 S174 (sub_skip sub_all) sub_all (by kernel_rfl) (by kernel_rfl) rfl (by kernel_rfl) rfl rfl (fun wc S181 => ?_)
      have T183 := S181.sub (sub_skip sub_all) sub_all
      refine r_done (by kernel_rfl) ?_
      refine n_then ?_
      refine wp_seq ?_
      refine wp_region_lit ?_
      refine s_one (.agg #[.int .i64 (mx 0 (timLo c (crs c) - (upD 10000000 (c.v1 * c.h1)) - (upD 10000000 (c.v2 * c.h2)))), .int .i64 (timHi c (crs c))]) A179 S181 (g_load (g := g22) (off := 0) 0 (by kernel_rfl) rfl (by kernel_rfl)) rfl (fun ac A184 => ?_)
      refine s_store (g := g7) (off := 0) (v := .agg #[.int .i64 (mx 0 (timLo c (crs c) - (upD 10000000 (c.v1 * c.h1)) - (upD 10000000 (c.v2 * c.h2)))), .int .i64 (timHi c (crs c))]) 1 (#[.int .i64 (mx 0 (timLo c (crs c) - (upD 10000000 (c.v1 * c.h1)) - (upD 10000000 (c.v2 * c.h2)))), .int .i64 (timHi c (crs c))]) A184 S181 (by kernel_rfl) (by kernel_rfl) rfl (by kernel_rfl) (fun wc S186 => ?_)
      refine wpList_nil ?_
      refine n_then ?_
      refine wp_ret ?_
      refine fin1 (.agg #[.int .i64 (mx 0 (timLo c (crs c) - (upD 10000000 (c.v1 * c.h1)) - (upD 10000000 (c.v2 * c.h2)))), .int .i64 (timHi c (crs c))]) Try.results36 A184 S186 (rv_cell (g := g7) (off := 0) 1 (by kernel_rfl) rfl (by kernel_rfl)) ⟨?_, S186.kp⟩
      have hh := inB_false.1 h32
      rw [mx_eq]
      have e1 : leLo c = max 0 (timLo c (crs c) - upD 10000000 (c.v1 * c.h1) - upD 10000000 (c.v2 * c.h2)) := by unfold leLo mLo; rw [if_neg (by omega)]
      have e2 : mHi c = timHi c (crs c) := if_neg (by omega)
      rw [e1, e2]
    · refine rs_call (fs := #[]) (cp := #[]) (r := [(0, .int .i64 10000000), (0, .int .i64 (c.v1 * c.h1))]) #[.int .i64 10000000, .int .i64 (c.v1 * c.h1)] (.int .i64 (upD 10000000 (c.v1 * c.h1))) A163 S148 (sub_skip sub_all) sub_all (up_s 10000000 (c.v1 * c.h1) _ (by omega) (by omega) (by omega)) Try.call49 rfl rfl (by kernel_rfl) (by kernel_rfl) (by kernel_rfl) rfl (fun ac wc A188 S189 => ?_)
      have T191 := S189.sub (sub_skip sub_all) sub_all
      refine r_2 (i := 1) (j := 18) (by kernel_rfl) ?_ ?_
      · refine rs_gives (.int .i64 (timLo c (crs c))) A188 S189 (sub_skip sub_all) sub_all (g_load (g := g22) (off := 0) 0 (by kernel_rfl) rfl (by kernel_rfl)) rfl rfl rfl (fun ac A192 => ?_)
        refine r_take 10 (.int .i64 (timLo c (crs c) - (upD 10000000 (c.v1 * c.h1)))) A192 T191 (g_bin (u := .int .i64 (timLo c (crs c))) (k := .int .i64 (upD 10000000 (c.v1 * c.h1))) (by kernel_rfl) (by kernel_rfl) (fun _ => by kernel_rfl) (b_sub (by omega))) rfl rfl rfl (pf_then pf_body) (by kernel_rfl) (fun ac A196 => ?_)
        refine r_1 (i := 18) (by kernel_rfl) ?_
        refine rs_call (fs := #[]) (cp := #[]) (r := [(0, .int .i64 10000000), (0, .int .i64 (c.v2 * c.h2))]) #[.int .i64 10000000, .int .i64 (c.v2 * c.h2)] (.int .i64 (upD 10000000 (c.v2 * c.h2))) A196 S189 (sub_skip sub_all) sub_all (up_s 10000000 (c.v2 * c.h2) _ (by omega) (by omega) (by omega)) Try.call49 rfl rfl (by kernel_rfl) (by kernel_rfl) (by kernel_rfl) rfl (fun ac wc A197 S198 => ?_)
        have T200 := S198.sub (sub_skip sub_all) sub_all
        refine r_take 19 (.int .i64 (timLo c (crs c) - (upD 10000000 (c.v1 * c.h1)) - (upD 10000000 (c.v2 * c.h2)))) A197 T200 (g_bin (u := .int .i64 (timLo c (crs c) - (upD 10000000 (c.v1 * c.h1)))) (k := .int .i64 (upD 10000000 (c.v2 * c.h2))) (by kernel_rfl) (by kernel_rfl) (fun _ => by kernel_rfl) (b_sub (by omega))) rfl rfl rfl (pf_then pf_body) (by kernel_rfl) (fun ac A201 => ?_)
        refine r_take 20 (.int .i64 (mx 0 (timLo c (crs c) - (upD 10000000 (c.v1 * c.h1)) - (upD 10000000 (c.v2 * c.h2))))) A201 T200 (g_built (r := [(0, .int .i64 0), (0, .int .i64 (timLo c (crs c) - (upD 10000000 (c.v1 * c.h1)) - (upD 10000000 (c.v2 * c.h2))))]) (by kernel_rfl) (fun ty cs w => by show (do let x ← Builtin.max_ _ ty #[.int .i64 0, .int .i64 (timLo c (crs c) - (upD 10000000 (c.v1 * c.h1)) - (upD 10000000 (c.v2 * c.h2)))]; pure (Next.value x) : Sem Next).run _ w = _; rw [Sem.run_bind, run_max_mx]; rfl)) rfl rfl rfl (pf_then pf_body) (by kernel_rfl) (fun ac A202 => ?_)
        refine r_take 21 (.pointer (some ⟨g22, 0, none⟩)) A202 T200 (g_field (u := .pointer (some ⟨g22, 0, none⟩)) (by kernel_rfl) (fun _ => by kernel_rfl)) rfl rfl rfl (pf_then pf_body) (by kernel_rfl) (fun ac A203 => ?_)
        refine r_1 (i := 22) (by kernel_rfl) ?_
        refine rs_store (g := g22) (off := 0) (v := .int .i64 (mx 0 (timLo c (crs c) - (upD 10000000 (c.v1 * c.h1)) - (upD 10000000 (c.v2 * c.h2))))) 0 (#[.int .i64 (mx 0 (timLo c (crs c) - (upD 10000000 (c.v1 * c.h1)) - (upD 10000000 (c.v2 * c.h2)))), .int .i64 (timHi c (crs c))]) A203 S198 (sub_skip sub_all) sub_all (by kernel_rfl) (by kernel_rfl) rfl (by kernel_rfl) rfl rfl (fun wc S205 => ?_)
        have T207 := S205.sub (sub_skip sub_all) sub_all
        refine r_done (by kernel_rfl) ?_
        refine n_then ?_
        refine wp_seq ?_
        refine wp_region_lit ?_
        refine s_one (.agg #[.int .i64 (mx 0 (timLo c (crs c) - (upD 10000000 (c.v1 * c.h1)) - (upD 10000000 (c.v2 * c.h2)))), .int .i64 (timHi c (crs c))]) A203 S205 (g_load (g := g22) (off := 0) 0 (by kernel_rfl) rfl (by kernel_rfl)) rfl (fun ac A208 => ?_)
        refine s_store (g := g7) (off := 0) (v := .agg #[.int .i64 (mx 0 (timLo c (crs c) - (upD 10000000 (c.v1 * c.h1)) - (upD 10000000 (c.v2 * c.h2)))), .int .i64 (timHi c (crs c))]) 1 (#[.int .i64 (mx 0 (timLo c (crs c) - (upD 10000000 (c.v1 * c.h1)) - (upD 10000000 (c.v2 * c.h2)))), .int .i64 (timHi c (crs c))]) A208 S205 (by kernel_rfl) (by kernel_rfl) rfl (by kernel_rfl) (fun wc S210 => ?_)
        refine wpList_nil ?_
        refine n_then ?_
        refine wp_ret ?_
        refine fin1 (.agg #[.int .i64 (mx 0 (timLo c (crs c) - (upD 10000000 (c.v1 * c.h1)) - (upD 10000000 (c.v2 * c.h2)))), .int .i64 (timHi c (crs c))]) Try.results36 A208 S210 (rv_cell (g := g7) (off := 0) 1 (by kernel_rfl) rfl (by kernel_rfl)) ⟨?_, S210.kp⟩
        have hh := inB_false.1 h32
        rw [mx_eq]
        have e1 : leLo c = max 0 (timLo c (crs c) - upD 10000000 (c.v1 * c.h1) - upD 10000000 (c.v2 * c.h2)) := by unfold leLo mLo; rw [if_neg (by omega)]
        have e2 : mHi c = timHi c (crs c) := if_neg (by omega)
        rw [e1, e2]
      · refine rs_call (fs := #[]) (cp := #[]) (r := [(0, .int .i64 10000000), (0, .int .i64 (c.v2 * c.h2))]) #[.int .i64 10000000, .int .i64 (c.v2 * c.h2)] (.int .i64 (upD 10000000 (c.v2 * c.h2))) A188 S189 (sub_skip sub_all) sub_all (up_s 10000000 (c.v2 * c.h2) _ (by omega) (by omega) (by omega)) Try.call49 rfl rfl (by kernel_rfl) (by kernel_rfl) (by kernel_rfl) rfl (fun ac wc A212 S213 => ?_)
        have T215 := S213.sub (sub_skip sub_all) sub_all
        refine r_1 (i := 1) (by kernel_rfl) ?_
        refine rs_gives (.int .i64 (timLo c (crs c))) A212 S213 (sub_skip sub_all) sub_all (g_load (g := g22) (off := 0) 0 (by kernel_rfl) rfl (by kernel_rfl)) rfl rfl rfl (fun ac A216 => ?_)
        refine r_take 10 (.int .i64 (timLo c (crs c) - (upD 10000000 (c.v1 * c.h1)))) A216 T215 (g_bin (u := .int .i64 (timLo c (crs c))) (k := .int .i64 (upD 10000000 (c.v1 * c.h1))) (by kernel_rfl) (by kernel_rfl) (fun _ => by kernel_rfl) (b_sub (by omega))) rfl rfl rfl (pf_then pf_body) (by kernel_rfl) (fun ac A220 => ?_)
        refine r_take 19 (.int .i64 (timLo c (crs c) - (upD 10000000 (c.v1 * c.h1)) - (upD 10000000 (c.v2 * c.h2)))) A220 T215 (g_bin (u := .int .i64 (timLo c (crs c) - (upD 10000000 (c.v1 * c.h1)))) (k := .int .i64 (upD 10000000 (c.v2 * c.h2))) (by kernel_rfl) (by kernel_rfl) (fun _ => by kernel_rfl) (b_sub (by omega))) rfl rfl rfl (pf_then pf_body) (by kernel_rfl) (fun ac A221 => ?_)
        refine r_take 20 (.int .i64 (mx 0 (timLo c (crs c) - (upD 10000000 (c.v1 * c.h1)) - (upD 10000000 (c.v2 * c.h2))))) A221 T215 (g_built (r := [(0, .int .i64 0), (0, .int .i64 (timLo c (crs c) - (upD 10000000 (c.v1 * c.h1)) - (upD 10000000 (c.v2 * c.h2))))]) (by kernel_rfl) (fun ty cs w => by show (do let x ← Builtin.max_ _ ty #[.int .i64 0, .int .i64 (timLo c (crs c) - (upD 10000000 (c.v1 * c.h1)) - (upD 10000000 (c.v2 * c.h2)))]; pure (Next.value x) : Sem Next).run _ w = _; rw [Sem.run_bind, run_max_mx]; rfl)) rfl rfl rfl (pf_then pf_body) (by kernel_rfl) (fun ac A222 => ?_)
        refine r_take 21 (.pointer (some ⟨g22, 0, none⟩)) A222 T215 (g_field (u := .pointer (some ⟨g22, 0, none⟩)) (by kernel_rfl) (fun _ => by kernel_rfl)) rfl rfl rfl (pf_then pf_body) (by kernel_rfl) (fun ac A223 => ?_)
        refine r_1 (i := 22) (by kernel_rfl) ?_
        refine rs_store (g := g22) (off := 0) (v := .int .i64 (mx 0 (timLo c (crs c) - (upD 10000000 (c.v1 * c.h1)) - (upD 10000000 (c.v2 * c.h2))))) 0 (#[.int .i64 (mx 0 (timLo c (crs c) - (upD 10000000 (c.v1 * c.h1)) - (upD 10000000 (c.v2 * c.h2)))), .int .i64 (timHi c (crs c))]) A223 S213 (sub_skip sub_all) sub_all (by kernel_rfl) (by kernel_rfl) rfl (by kernel_rfl) rfl rfl (fun wc S225 => ?_)
        have T227 := S225.sub (sub_skip sub_all) sub_all
        refine r_done (by kernel_rfl) ?_
        refine n_then ?_
        refine wp_seq ?_
        refine wp_region_lit ?_
        refine s_one (.agg #[.int .i64 (mx 0 (timLo c (crs c) - (upD 10000000 (c.v1 * c.h1)) - (upD 10000000 (c.v2 * c.h2)))), .int .i64 (timHi c (crs c))]) A223 S225 (g_load (g := g22) (off := 0) 0 (by kernel_rfl) rfl (by kernel_rfl)) rfl (fun ac A228 => ?_)
        refine s_store (g := g7) (off := 0) (v := .agg #[.int .i64 (mx 0 (timLo c (crs c) - (upD 10000000 (c.v1 * c.h1)) - (upD 10000000 (c.v2 * c.h2)))), .int .i64 (timHi c (crs c))]) 1 (#[.int .i64 (mx 0 (timLo c (crs c) - (upD 10000000 (c.v1 * c.h1)) - (upD 10000000 (c.v2 * c.h2)))), .int .i64 (timHi c (crs c))]) A228 S225 (by kernel_rfl) (by kernel_rfl) rfl (by kernel_rfl) (fun wc S230 => ?_)
        refine wpList_nil ?_
        refine n_then ?_
        refine wp_ret ?_
        refine fin1 (.agg #[.int .i64 (mx 0 (timLo c (crs c) - (upD 10000000 (c.v1 * c.h1)) - (upD 10000000 (c.v2 * c.h2)))), .int .i64 (timHi c (crs c))]) Try.results36 A228 S230 (rv_cell (g := g7) (off := 0) 1 (by kernel_rfl) rfl (by kernel_rfl)) ⟨?_, S230.kp⟩
        have hh := inB_false.1 h32
        rw [mx_eq]
        have e1 : leLo c = max 0 (timLo c (crs c) - upD 10000000 (c.v1 * c.h1) - upD 10000000 (c.v2 * c.h2)) := by unfold leLo mLo; rw [if_neg (by omega)]
        have e2 : mHi c = timHi c (crs c) := if_neg (by omega)
        rw [e1, e2]

end Go.Proofs.Ytfeapeblnnmhlaa
