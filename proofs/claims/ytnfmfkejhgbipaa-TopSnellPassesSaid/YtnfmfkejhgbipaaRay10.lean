/- Angles of chapter 1. -/
import Derived.Test.YtnfmfkejhgbipaaRay7
namespace Go.Proofs.Ytnfmfkejhgbipaa
open Go.RowKit Go.Cpl Go.Ray1

theorem b_boolE {P : Program} {t : TypeId} {a b : Bool} (h : P.underlying t = some .bool) (w : World) : (binOp .eql t (.bool a) (.bool b)).run P w = .ok (.bool (a == b)) w := by
  simp [binOp, run_equal_bool w t a b h]
theorem b_boolN {P : Program} {t : TypeId} {a b : Bool} (h : P.underlying t = some .bool) (w : World) : (binOp .neq t (.bool a) (.bool b)).run P w = .ok (.bool (a != b)) w := by
  simp [binOp, run_equal_bool w t a b h, bne]
theorem b_boolS {P : Program} {t : TypeId} {a : Bool} (h : P.underlying t = some .bool) (w : World) : (binOp .eql t (.bool a) (.bool a)).run P w = .ok (.bool true) w := by rw [b_boolE h]; simp
theorem b_boolT {P : Program} {t : TypeId} {a : Bool} (h : P.underlying t = some .bool) (w : World) : (binOp .neq t (.bool a) (.bool a)).run P w = .ok (.bool false) w := by rw [b_boolN h]; simp
theorem b_boolF {P : Program} {t : TypeId} {a : Bool} (h : P.underlying t = some .bool) (w : World) : (binOp .eql t (.bool a) (.bool false)).run P w = .ok (.bool (!a)) w := by rw [b_boolE h]; cases a <;> rfl
theorem b_boolG {P : Program} {t : TypeId} {a : Bool} (h : P.underlying t = some .bool) (w : World) : (binOp .neq t (.bool a) (.bool false)).run P w = .ok (.bool a) w := by rw [b_boolN h]; cases a <;> rfl
/-- A truth, or false beside an error. -/
def zb (e : Int) (b : Bool) : Bool := if e = 0 then b else false
theorem zb_0 {e : Int} (h : e = 0) (b : Bool) : zb e b = b := if_pos h
theorem zb_n {e : Int} (h : e ≠ 0) (b : Bool) : zb e b = false := if_neg h
def dirE (a b : Int) : Int := bif inB a (-1000) 1000 && inB b 1 1000 then 0 else 2
theorem dirE_n {a b : Int} (h : (!(inB a (-1000) 1000) || !(inB b 1 1000)) = true) : dirE a b = 2 := by unfold dirE; rw [nand2 h]; rfl
theorem dirE_y {a b : Int} (h : inB a (-1000) 1000 = true) (h2 : inB b 1 1000 = true) : dirE a b = 0 := by unfold dirE; rw [h, h2]; rfl
theorem dirE_a {a b : Int} (h : inB a (-1000) 1000 = true) : must_a_r (inB b 1 1000) 2 = dirE a b := by unfold dirE must_a_r; rw [h]; rfl
theorem dirE_b {a b : Int} (h : inB a (-1000) 1000 = false) : must_a_r false 2 = dirE a b := by unfold dirE must_a_r; rw [h]; rfl
theorem dirE_0 {a b : Int} (h : dirE a b = 0) : (-1000 ≤ a ∧ a ≤ 1000) ∧ (1 ≤ b ∧ b ≤ 1000) := by
  unfold dirE at h
  cases q : (inB a (-1000) 1000 && inB b 1 1000) with
  | false => rw [q] at h; simp at h
  | true => rw [Bool.and_eq_true, inB_true, inB_true] at q; exact q

set_option maxRecDepth 100000 in
set_option maxHeartbeats 400000 in
theorem directionErr_s (a b : Int) (w0 : World) :
    Calls Try.prog 98 #[.agg #[.int .i64 a, .int .i64 b]] w0 fun e w' => e = .returned (.int .i64 (dirE a b)) ∧ Below w0.heap.size w0 w' := by
  have S0 := St.start w0
  refine enter (n := 12) Try.func98 rfl rfl rfl (fun ac A0 => ?_)
  refine wp_seq ?_
  refine wp_region_lit ?_
  refine s_box (.agg #[.int .i64 a, .int .i64 b]) A0 S0 (by kernel_rfl) rfl (fun g3 ac wc A1 S2 => ?_)
  replace S2 : St _ (⟨g3, 71, #[.int .i64 a, .int .i64 b], true⟩ :: _) _ _ := S2
  refine s_one (.int .i64 0) A1 S2 (g_assign (by kernel_rfl)) rfl (fun ac A5 => ?_)
  refine wpList_nil ?_
  refine n_then ?_
  refine wp_seq ?_
  refine wp_region_lit ?_
  refine s_one (.pointer (some ⟨g3, 0, none⟩)) A5 S2 (g_index (u := .pointer (some ⟨g3, 0, none⟩)) (k := .int .i64 0) (by kernel_rfl) (by kernel_rfl) (fun _ => by kernel_rfl)) rfl (fun ac A6 => ?_)
  refine s_one (.int .i64 a) A6 S2 (g_load (g := g3) (off := 0) 0 (by kernel_rfl) rfl (by kernel_rfl)) rfl (fun ac A7 => ?_)
  refine s_call (fs := #[]) (cp := #[]) (r := [(0, .int .i64 a), (0, .int .i64 1000)]) #[.int .i64 a, .int .i64 1000] (.bool (inB a (-1000) 1000)) A7 S2 (small_s a 1000 _ (by omega) (by omega)) Try.call106 (by kernel_rfl) (by kernel_rfl) (by kernel_rfl) rfl (fun ac wc A8 S9 => ?_)
  refine s_one (.bool (inB a (-1000) 1000)) A8 S9 (g_move (by kernel_rfl)) rfl (fun ac A11 => ?_)
  refine by_bool (inB a (-1000) 1000) (fun h12 => ?_) (fun h12 => ?_)
  · refine s_want (dj := 6) (b := (inB a (-1000) 1000)) A11 (by kernel_rfl) (by kernel_rfl) h12 ?_
    refine s_one (.pointer (some ⟨g3, 1, none⟩)) A11 S9 (g_index (u := .pointer (some ⟨g3, 0, none⟩)) (k := .int .i64 1) (by kernel_rfl) (by kernel_rfl) (fun _ => by kernel_rfl)) rfl (fun ac A13 => ?_)
    refine s_want (dj := 6) (b := (inB a (-1000) 1000)) A13 (by kernel_rfl) (by kernel_rfl) h12 ?_
    refine s_one (.int .i64 b) A13 S9 (g_load (g := g3) (off := 1) 0 (by kernel_rfl) rfl (by kernel_rfl)) rfl (fun ac A14 => ?_)
    refine s_want (dj := 6) (b := (inB a (-1000) 1000)) A14 (by kernel_rfl) (by kernel_rfl) h12 ?_
    refine s_call (fs := #[]) (cp := #[]) (r := [(0, .int .i64 b), (0, .int .i64 1), (0, .int .i64 1000)]) #[.int .i64 b, .int .i64 1, .int .i64 1000] (.bool (inB b 1 1000)) A14 S9 (within_s b 1 1000 _) Try.call89 (by kernel_rfl) (by kernel_rfl) (by kernel_rfl) rfl (fun ac wc A15 S16 => ?_)
    refine s_one (.bool (inB b 1 1000)) A15 S16 (g_pick_t (b := (inB a (-1000) 1000)) (by kernel_rfl) h12 (by kernel_rfl)) rfl (fun ac A18 => ?_)
    refine s_call (fs := #[]) (cp := #[]) (r := [(0, .bool (inB b 1 1000)), (0, .int .i64 2)]) #[.bool (inB b 1 1000), .int .i64 2] (.int .i64 (must_a_r (inB b 1 1000) 2)) A18 S16 (must_a (inB b 1 1000) 2 _) Try.call88 (by kernel_rfl) (by kernel_rfl) (by kernel_rfl) rfl (fun ac wc A19 S20 => ?_)
    refine s_one (.int .i64 (must_a_r (inB b 1 1000) 2)) A19 S20 (g_assign (by kernel_rfl)) rfl (fun ac A22 => ?_)
    refine wpList_nil ?_
    refine n_then ?_
    refine wp_ret ?_
    refine fin1 (.int .i64 (must_a_r (inB b 1 1000) 2)) Try.results98 A22 S20 (rv_tmp (by kernel_rfl)) ⟨?_, S20.kp⟩
    rw [dirE_a h12]
  · refine s_not (dj := 6) (b := (inB a (-1000) 1000)) A11 (by kernel_rfl) (by kernel_rfl) h12 rfl (fun ac A23 => ?_)
    refine s_not (dj := 6) (b := (inB a (-1000) 1000)) A23 (by kernel_rfl) (by kernel_rfl) h12 rfl (fun ac A24 => ?_)
    refine s_not (dj := 6) (b := (inB a (-1000) 1000)) A24 (by kernel_rfl) (by kernel_rfl) h12 rfl (fun ac A25 => ?_)
    refine s_one (.bool false) A25 S9 (g_pick_f (b := (inB a (-1000) 1000)) (by kernel_rfl) h12 (by kernel_rfl)) rfl (fun ac A26 => ?_)
    refine s_call (fs := #[]) (cp := #[]) (r := [(0, .bool false), (0, .int .i64 2)]) #[.bool false, .int .i64 2] (.int .i64 (must_a_r false 2)) A26 S9 (must_a false 2 _) Try.call88 (by kernel_rfl) (by kernel_rfl) (by kernel_rfl) rfl (fun ac wc A27 S28 => ?_)
    refine s_one (.int .i64 (must_a_r false 2)) A27 S28 (g_assign (by kernel_rfl)) rfl (fun ac A30 => ?_)
    refine wpList_nil ?_
    refine n_then ?_
    refine wp_ret ?_
    refine fin1 (.int .i64 (must_a_r false 2)) Try.results98 A30 S28 (rv_tmp (by kernel_rfl)) ⟨?_, S28.kp⟩
    rw [dirE_b h12]

set_option maxRecDepth 100000 in
set_option maxHeartbeats 400000 in
theorem refDirectionErr_s (a b : Int) (w0 : World) :
    Calls Try.prog 65 #[.agg #[.int .i64 a, .int .i64 b]] w0 fun e w' => e = .returned (.int .i64 (dirE a b)) ∧ Below w0.heap.size w0 w' := by
  have S0 := St.start w0
  refine enter (n := 13) Try.func65 rfl rfl rfl (fun ac A0 => ?_)
  refine wp_seq ?_
  refine wp_region_lit ?_
  refine s_box (.agg #[.int .i64 a, .int .i64 b]) A0 S0 (by kernel_rfl) rfl (fun g3 ac wc A1 S2 => ?_)
  replace S2 : St _ (⟨g3, 71, #[.int .i64 a, .int .i64 b], true⟩ :: _) _ _ := S2
  refine s_one (.int .i64 0) A1 S2 (g_assign (by kernel_rfl)) rfl (fun ac A5 => ?_)
  refine wpList_nil ?_
  refine n_then ?_
  refine wp_seq ?_
  refine wp_seq ?_
  refine c_cut (fun ac wc => Fr 13 ac [(12, .bool ((!(inB a (-1000) 1000)) || (!(inB b 1 1000)))), (0, .agg #[.int .i64 a, .int .i64 b]), (1, .pointer (some ⟨g3, 0, none⟩)), (2, .int .i64 0)] ∧ St w0 [⟨g3, 71, #[.int .i64 a, .int .i64 b], true⟩] [] wc) ?_ ?_
  · refine wp_region_lit ?_
    refine s_one (.pointer (some ⟨g3, 0, none⟩)) A5 S2 (g_index (u := .pointer (some ⟨g3, 0, none⟩)) (k := .int .i64 0) (by kernel_rfl) (by kernel_rfl) (fun _ => by kernel_rfl)) rfl (fun ac A6 => ?_)
    refine s_one (.int .i64 a) A6 S2 (g_load (g := g3) (off := 0) 0 (by kernel_rfl) rfl (by kernel_rfl)) rfl (fun ac A7 => ?_)
    refine s_call (fs := #[]) (cp := #[]) (r := [(0, .int .i64 a), (0, .int .i64 (-1000)), (0, .int .i64 1000)]) #[.int .i64 a, .int .i64 (-1000), .int .i64 1000] (.bool (inB a (-1000) 1000)) A7 S2 (Within_s a (-1000) 1000 _) Try.call26 (by kernel_rfl) (by kernel_rfl) (by kernel_rfl) rfl (fun ac wc A8 S9 => ?_)
    refine s_one (.bool (!(inB a (-1000) 1000))) A8 S9 (g_un (u := .bool (inB a (-1000) 1000)) (by kernel_rfl) (fun _ => by kernel_rfl)) rfl (fun ac A11 => ?_)
    refine s_one (.bool (!(inB a (-1000) 1000))) A11 S9 (g_move (by kernel_rfl)) rfl (fun ac A12 => ?_)
    refine by_bool (!(inB a (-1000) 1000)) (fun h13 => ?_) (fun h13 => ?_)
    · have h14 : inB a (-1000) 1000 = false := by simpa using h13
      refine s_not (dj := 7) (b := (!(inB a (-1000) 1000))) A12 (by kernel_rfl) (by kernel_rfl) h13 rfl (fun ac A15 => ?_)
      refine s_not (dj := 7) (b := (!(inB a (-1000) 1000))) A15 (by kernel_rfl) (by kernel_rfl) h13 rfl (fun ac A16 => ?_)
      refine s_not (dj := 7) (b := (!(inB a (-1000) 1000))) A16 (by kernel_rfl) (by kernel_rfl) h13 rfl (fun ac A17 => ?_)
      refine s_not (dj := 7) (b := (!(inB a (-1000) 1000))) A17 (by kernel_rfl) (by kernel_rfl) h13 rfl (fun ac A18 => ?_)
      refine s_one (.bool true) A18 S9 (g_pick_t (b := (!(inB a (-1000) 1000))) (by kernel_rfl) h13 (by kernel_rfl)) rfl (fun ac A19 => ?_)
      refine wpList_nil ?_
      refine n_then ?_
      exact ⟨(A19.slot (A19.slot (A19.slot (A19.slot A19.nil (v := .int .i64 0) (by kernel_rfl) rfl) (v := .pointer (some ⟨g3, 0, none⟩)) (by kernel_rfl) rfl) (v := .agg #[.int .i64 a, .int .i64 b]) (by kernel_rfl) rfl) (v := .bool true) (by kernel_rfl) (congrArg Value.bool (b_ot1 h13).symm)), S9.sub sub_all sub_all⟩
    · have h20 : inB a (-1000) 1000 = true := by simpa using h13
      refine s_want (dj := 7) (b := (!(inB a (-1000) 1000))) A12 (by kernel_rfl) (by kernel_rfl) h13 ?_
      refine s_one (.pointer (some ⟨g3, 1, none⟩)) A12 S9 (g_index (u := .pointer (some ⟨g3, 0, none⟩)) (k := .int .i64 1) (by kernel_rfl) (by kernel_rfl) (fun _ => by kernel_rfl)) rfl (fun ac A21 => ?_)
      refine s_want (dj := 7) (b := (!(inB a (-1000) 1000))) A21 (by kernel_rfl) (by kernel_rfl) h13 ?_
      refine s_one (.int .i64 b) A21 S9 (g_load (g := g3) (off := 1) 0 (by kernel_rfl) rfl (by kernel_rfl)) rfl (fun ac A22 => ?_)
      refine s_want (dj := 7) (b := (!(inB a (-1000) 1000))) A22 (by kernel_rfl) (by kernel_rfl) h13 ?_
      refine s_call (fs := #[]) (cp := #[]) (r := [(0, .int .i64 b), (0, .int .i64 1), (0, .int .i64 1000)]) #[.int .i64 b, .int .i64 1, .int .i64 1000] (.bool (inB b 1 1000)) A22 S9 (Within_s b 1 1000 _) Try.call26 (by kernel_rfl) (by kernel_rfl) (by kernel_rfl) rfl (fun ac wc A23 S24 => ?_)
      refine s_want (dj := 7) (b := (!(inB a (-1000) 1000))) A23 (by kernel_rfl) (by kernel_rfl) h13 ?_
      refine s_one (.bool (!(inB b 1 1000))) A23 S24 (g_un (u := .bool (inB b 1 1000)) (by kernel_rfl) (fun _ => by kernel_rfl)) rfl (fun ac A26 => ?_)
      refine s_one (.bool (!(inB b 1 1000))) A26 S24 (g_pick_f (b := (!(inB a (-1000) 1000))) (by kernel_rfl) h13 (by kernel_rfl)) rfl (fun ac A27 => ?_)
      refine wpList_nil ?_
      refine n_then ?_
      exact ⟨(A27.slot (A27.slot (A27.slot (A27.slot A27.nil (v := .int .i64 0) (by kernel_rfl) rfl) (v := .pointer (some ⟨g3, 0, none⟩)) (by kernel_rfl) rfl) (v := .agg #[.int .i64 a, .int .i64 b]) (by kernel_rfl) rfl) (v := .bool (!(inB b 1 1000))) (by kernel_rfl) (congrArg Value.bool (b_or_f h13 (Eq.refl (!(inB b 1 1000)))).symm)), S24.sub sub_all sub_all⟩
  · rintro ac wc ⟨A28, S29⟩
    refine n_then ?_
    refine c_ifb (b := ((!(inB a (-1000) 1000)) || (!(inB b 1 1000)))) A28 (by kernel_rfl) (fun h30 => ?_) (fun h30 => ?_)
    · refine wp_seq ?_
      refine wp_region_lit ?_
      refine s_one (.int .i64 2) A28 S29 (g_assign (by kernel_rfl)) rfl (fun ac A31 => ?_)
      refine wpList_nil ?_
      refine n_then ?_
      refine wp_ret ?_
      refine r_then ?_
      refine fin1 (.int .i64 2) Try.results65 A31 S29 (rv_tmp (by kernel_rfl)) ⟨?_, S29.kp⟩
      rw [dirE_n h30]
    · have h32 := (Bool.or_eq_false_iff.1 h30).1
      have h33 : inB a (-1000) 1000 = true := by simpa using h32
      have h34 := (Bool.or_eq_false_iff.1 h30).2
      have h35 : inB b 1 1000 = true := by simpa using h34
      refine wp_skip ?_
      refine n_then ?_
      refine wp_seq ?_
      refine wp_region_lit ?_
      refine s_one (.int .i64 0) A28 S29 (g_assign (by kernel_rfl)) rfl (fun ac A36 => ?_)
      refine wpList_nil ?_
      refine n_then ?_
      refine wp_ret ?_
      refine fin1 (.int .i64 0) Try.results65 A36 S29 (rv_tmp (by kernel_rfl)) ⟨?_, S29.kp⟩
      rw [dirE_y h33 h35]

theorem dv_bd {a b v w : Int} (ha : -1000 ≤ a ∧ a ≤ 1000) (hb : 1 ≤ b ∧ b ≤ 1000) (hv : 500 ≤ v ∧ v ≤ 10000) (hw : 500 ≤ w ∧ w ≤ 10000) :
    (0 ≤ a * a ∧ a * a ≤ 1000000) ∧ (1 ≤ b * b ∧ b * b ≤ 1000000) ∧ (0 ≤ a * a * w ∧ a * a * w ≤ 10000000000) ∧ (0 ≤ a * a * w * w ∧ a * a * w * w ≤ 100000000000000) ∧ (1 ≤ (a * a + b * b) * v ∧ (a * a + b * b) * v ≤ 20000000000) ∧ (1 ≤ (a * a + b * b) * v * v ∧ (a * a + b * b) * v * v ≤ 200000000000000) ∧ (250000 ≤ v * v ∧ v * v ≤ 100000000) ∧ (250000 ≤ w * w ∧ w * w ≤ 100000000) := by
  have s1 := sq_nn a; have s2 := sq_b ha
  have s3 := sq_le (a := 1) (b := b) (by omega) hb.1; have s4 := sq_le (a := b) (b := 1000) (by omega) hb.2
  have v1 := sq_le (a := 500) (b := v) (by omega) hv.1; have v2 := sq_le (a := v) (b := 10000) (by omega) hv.2
  have w1 := sq_le (a := 500) (b := w) (by omega) hw.1; have w2 := sq_le (a := w) (b := 10000) (by omega) hw.2
  have f1 := Int.mul_nonneg s1 (show 0 ≤ w by omega)
  have f2 := Int.mul_le_mul s2 hw.2 (by omega) (by omega)
  have f3 := Int.mul_nonneg f1 (show 0 ≤ w by omega)
  have f4 := Int.mul_le_mul f2 hw.2 (by omega) (by omega)
  have g1 : 1 ≤ a * a + b * b := by omega
  have g2 : a * a + b * b ≤ 2000000 := by omega
  generalize a * a + b * b = n at *
  have h1 := Int.mul_le_mul g1 (show 1 ≤ v by omega) (by omega) (by omega)
  have h2 := Int.mul_le_mul g2 hv.2 (by omega) (by omega)
  have h3 := Int.mul_le_mul h1 (show 1 ≤ v by omega) (by omega) (by omega)
  have h4 := Int.mul_le_mul h2 hv.2 (by omega) (by omega)
  omega
theorem den_eq (a b v : Int) : v * v * (a * a + b * b) = (a * a + b * b) * v * v := by grind
def psE (a b v w : Int) : Int := firstOf [dirE a b, veE v, veE w]
def psB (a b v w : Int) : Bool := decide (a * a * w * w ≤ (a * a + b * b) * v * v)
theorem psB_r (a b v w : Int) : decide (a * a * w * w ≤ v * v * (a * a + b * b)) = psB a b v w := by unfold psB; rw [den_eq]
theorem psE_0 {a b v w : Int} (h : psE a b v w = 0) : ((-1000 ≤ a ∧ a ≤ 1000) ∧ (1 ≤ b ∧ b ≤ 1000)) ∧ (500 ≤ v ∧ v ≤ 10000) ∧ (500 ≤ w ∧ w ≤ 10000) := by
  obtain ⟨h1, h⟩ := fo_zero h
  obtain ⟨h2, h⟩ := fo_zero h
  rw [fo_last] at h
  exact ⟨dirE_0 h1, veE_0 h2, veE_0 h⟩
theorem psE_of {a b v w : Int} (h1 : dirE a b = 0) (h2 : veE v = 0) (h3 : veE w = 0) : psE a b v w = 0 := by unfold psE; rw [fo_cons0 h1, fo_cons0 h2, fo_last, h3]

set_option maxRecDepth 100000 in
set_option maxHeartbeats 400000 in
theorem behind_s (a b v w : Int) (w0 : World) (p1 : -1000 ≤ a ∧ a ≤ 1000) (p2 : 1 ≤ b ∧ b ≤ 1000) (p3 : 500 ≤ v ∧ v ≤ 10000) (p4 : 500 ≤ w ∧ w ≤ 10000) :
    Calls Try.prog 99 #[.agg #[.int .i64 a, .int .i64 b], .int .i64 v, .int .i64 w] w0 fun e w' => e = .returned (.tuple #[.int .i64 (a * a * w * w), .int .i64 ((a * a + b * b) * v * v)]) ∧ Below w0.heap.size w0 w' := by
  have S0 := St.start w0
  have q := dv_bd p1 p2 p3 p4
  refine enter (n := 32) Try.func99 rfl rfl rfl (fun ac A0 => ?_)
  refine wp_seq ?_
  refine wp_region_lit ?_
  refine s_box (.agg #[.int .i64 a, .int .i64 b]) A0 S0 (by kernel_rfl) rfl (fun g3 ac wc A1 S2 => ?_)
  replace S2 : St _ (⟨g3, 71, #[.int .i64 a, .int .i64 b], true⟩ :: _) _ _ := S2
  refine s_one (.int .i64 0) A1 S2 (g_assign (by kernel_rfl)) rfl (fun ac A5 => ?_)
  refine s_one (.int .i64 0) A5 S2 (g_assign (by kernel_rfl)) rfl (fun ac A6 => ?_)
  refine wpList_nil ?_
  refine n_then ?_
  refine wp_seq ?_
  refine r_begin (w0 := w0) (by kernel_rfl) (S2.sub sub_all sub_all) (fun wc T7 B8 => ?_)
  have S9 := S2.kept B8
  refine r_take 0 (.pointer (some ⟨g3, 0, none⟩)) A6 T7 (g_index (u := .pointer (some ⟨g3, 0, none⟩)) (k := .int .i64 0) (by kernel_rfl) (by kernel_rfl) (fun _ => by kernel_rfl)) rfl rfl rfl (pf_then pf_body) (by kernel_rfl) (fun ac A10 => ?_)
  refine r_take 1 (.int .i64 a) A10 T7 (g_load (g := g3) (off := 0) 0 (by kernel_rfl) rfl (by kernel_rfl)) rfl rfl rfl (pf_then pf_body) (by kernel_rfl) (fun ac A11 => ?_)
  refine r_take 2 (.pointer (some ⟨g3, 0, none⟩)) A11 T7 (g_index (u := .pointer (some ⟨g3, 0, none⟩)) (k := .int .i64 0) (by kernel_rfl) (by kernel_rfl) (fun _ => by kernel_rfl)) rfl rfl rfl (pf_then pf_body) (by kernel_rfl) (fun ac A12 => ?_)
  refine r_take 3 (.int .i64 a) A12 T7 (g_load (g := g3) (off := 0) 0 (by kernel_rfl) rfl (by kernel_rfl)) rfl rfl rfl (pf_then pf_body) (by kernel_rfl) (fun ac A13 => ?_)
  refine r_take 4 (.int .i64 (a * a)) A13 T7 (g_bin (u := .int .i64 a) (k := .int .i64 a) (by kernel_rfl) (by kernel_rfl) (fun _ => by kernel_rfl) (b_mul (by omega))) rfl rfl rfl (pf_then pf_body) (by kernel_rfl) (fun ac A14 => ?_)
  refine r_take 5 (.int .i64 w) A14 T7 (g_move (by kernel_rfl)) rfl rfl rfl (pf_then pf_body) (by kernel_rfl) (fun ac A15 => ?_)
  refine r_take 6 (.int .i64 ((a * a) * w)) A15 T7 (g_bin (u := .int .i64 (a * a)) (k := .int .i64 w) (by kernel_rfl) (by kernel_rfl) (fun _ => by kernel_rfl) (b_mul (by omega))) rfl rfl rfl (pf_then pf_body) (by kernel_rfl) (fun ac A16 => ?_)
  refine r_take 7 (.int .i64 w) A16 T7 (g_move (by kernel_rfl)) rfl rfl rfl (pf_then pf_body) (by kernel_rfl) (fun ac A17 => ?_)
  refine r_take 8 (.int .i64 (((a * a) * w) * w)) A17 T7 (g_bin (u := .int .i64 ((a * a) * w)) (k := .int .i64 w) (by kernel_rfl) (by kernel_rfl) (fun _ => by kernel_rfl) (b_mul (by omega))) rfl rfl rfl (pf_then pf_body) (by kernel_rfl) (fun ac A18 => ?_)
  refine r_take 9 (.pointer (some ⟨g3, 0, none⟩)) A18 T7 (g_index (u := .pointer (some ⟨g3, 0, none⟩)) (k := .int .i64 0) (by kernel_rfl) (by kernel_rfl) (fun _ => by kernel_rfl)) rfl rfl rfl (pf_then pf_body) (by kernel_rfl) (fun ac A19 => ?_)
  refine r_take 10 (.int .i64 a) A19 T7 (g_load (g := g3) (off := 0) 0 (by kernel_rfl) rfl (by kernel_rfl)) rfl rfl rfl (pf_then pf_body) (by kernel_rfl) (fun ac A20 => ?_)
  refine r_take 11 (.pointer (some ⟨g3, 0, none⟩)) A20 T7 (g_index (u := .pointer (some ⟨g3, 0, none⟩)) (k := .int .i64 0) (by kernel_rfl) (by kernel_rfl) (fun _ => by kernel_rfl)) rfl rfl rfl (pf_then pf_body) (by kernel_rfl) (fun ac A21 => ?_)
  refine r_take 12 (.int .i64 a) A21 T7 (g_load (g := g3) (off := 0) 0 (by kernel_rfl) rfl (by kernel_rfl)) rfl rfl rfl (pf_then pf_body) (by kernel_rfl) (fun ac A22 => ?_)
  refine r_take 13 (.int .i64 (a * a)) A22 T7 (g_bin (u := .int .i64 a) (k := .int .i64 a) (by kernel_rfl) (by kernel_rfl) (fun _ => by kernel_rfl) (b_mul (by omega))) rfl rfl rfl (pf_then pf_body) (by kernel_rfl) (fun ac A23 => ?_)
  refine r_take 14 (.pointer (some ⟨g3, 1, none⟩)) A23 T7 (g_index (u := .pointer (some ⟨g3, 0, none⟩)) (k := .int .i64 1) (by kernel_rfl) (by kernel_rfl) (fun _ => by kernel_rfl)) rfl rfl rfl (pf_then pf_body) (by kernel_rfl) (fun ac A24 => ?_)
  refine r_take 15 (.int .i64 b) A24 T7 (g_load (g := g3) (off := 1) 0 (by kernel_rfl) rfl (by kernel_rfl)) rfl rfl rfl (pf_then pf_body) (by kernel_rfl) (fun ac A25 => ?_)
  refine r_take 16 (.pointer (some ⟨g3, 1, none⟩)) A25 T7 (g_index (u := .pointer (some ⟨g3, 0, none⟩)) (k := .int .i64 1) (by kernel_rfl) (by kernel_rfl) (fun _ => by kernel_rfl)) rfl rfl rfl (pf_then pf_body) (by kernel_rfl) (fun ac A26 => ?_)
  refine r_take 17 (.int .i64 b) A26 T7 (g_load (g := g3) (off := 1) 0 (by kernel_rfl) rfl (by kernel_rfl)) rfl rfl rfl (pf_then pf_body) (by kernel_rfl) (fun ac A27 => ?_)
  refine r_take 18 (.int .i64 (b * b)) A27 T7 (g_bin (u := .int .i64 b) (k := .int .i64 b) (by kernel_rfl) (by kernel_rfl) (fun _ => by kernel_rfl) (b_mul (by omega))) rfl rfl rfl (pf_then pf_body) (by kernel_rfl) (fun ac A28 => ?_)
  refine r_take 19 (.int .i64 (a * a + (b * b))) A28 T7 (g_bin (u := .int .i64 (a * a)) (k := .int .i64 (b * b)) (by kernel_rfl) (by kernel_rfl) (fun _ => by kernel_rfl) (b_add (by omega))) rfl rfl rfl (pf_then pf_body) (by kernel_rfl) (fun ac A29 => ?_)
  refine r_take 20 (.int .i64 v) A29 T7 (g_move (by kernel_rfl)) rfl rfl rfl (pf_then pf_body) (by kernel_rfl) (fun ac A30 => ?_)
  refine r_take 21 (.int .i64 ((a * a + (b * b)) * v)) A30 T7 (g_bin (u := .int .i64 (a * a + (b * b))) (k := .int .i64 v) (by kernel_rfl) (by kernel_rfl) (fun _ => by kernel_rfl) (b_mul (by omega))) rfl rfl rfl (pf_then pf_body) (by kernel_rfl) (fun ac A31 => ?_)
  refine r_take 22 (.int .i64 v) A31 T7 (g_move (by kernel_rfl)) rfl rfl rfl (pf_then pf_body) (by kernel_rfl) (fun ac A32 => ?_)
  refine r_take 23 (.int .i64 (((a * a + (b * b)) * v) * v)) A32 T7 (g_bin (u := .int .i64 ((a * a + (b * b)) * v)) (k := .int .i64 v) (by kernel_rfl) (by kernel_rfl) (fun _ => by kernel_rfl) (b_mul (by omega))) rfl rfl rfl (pf_then pf_body) (by kernel_rfl) (fun ac A33 => ?_)
  refine r_take 24 (.int .i64 (((a * a) * w) * w)) A33 T7 (g_assign (by kernel_rfl)) rfl rfl rfl (pf_then pf_body) (by kernel_rfl) (fun ac A34 => ?_)
  refine r_take 25 (.int .i64 (((a * a + (b * b)) * v) * v)) A34 T7 (g_assign (by kernel_rfl)) rfl rfl rfl (pf_then pf_body) (by kernel_rfl) (fun ac A35 => ?_)
  refine r_done (by kernel_rfl) ?_
  refine n_then ?_
  refine wp_ret ?_
  refine fin2 (.int .i64 (((a * a) * w) * w)) (.int .i64 (((a * a + (b * b)) * v) * v)) Try.results99 A35 S9 (rv_tmp (by kernel_rfl)) (rv_tmp (by kernel_rfl)) ⟨?_, S9.kp⟩
  rfl

set_option maxRecDepth 100000 in
set_option maxHeartbeats 400000 in
theorem Passes_s (a b v w : Int) (w0 : World) :
    Calls Try.prog 45 #[.agg #[.int .i64 a, .int .i64 b], .int .i64 v, .int .i64 w] w0 fun e w' => e = .returned (.tuple #[.bool (zb (psE a b v w) (psB a b v w)), .int .i64 (psE a b v w)]) ∧ Below w0.heap.size w0 w' := by
  have S0 := St.start w0
  refine enter (n := 32) Try.func45 rfl rfl rfl (fun ac A0 => ?_)
  refine wp_seq ?_
  refine wp_region_lit ?_
  refine s_box (.agg #[.int .i64 a, .int .i64 b]) A0 S0 (by kernel_rfl) rfl (fun g3 ac wc A1 S2 => ?_)
  replace S2 : St _ (⟨g3, 71, #[.int .i64 a, .int .i64 b], true⟩ :: _) _ _ := S2
  refine s_one (.bool false) A1 S2 (g_assign (by kernel_rfl)) rfl (fun ac A5 => ?_)
  refine s_one (.int .i64 0) A5 S2 (g_assign (by kernel_rfl)) rfl (fun ac A6 => ?_)
  refine wpList_nil ?_
  refine n_then ?_
  refine wp_seq ?_
  refine wp_seq ?_
  refine wp_region_lit ?_
  refine s_one (.agg #[.int .i64 a, .int .i64 b]) A6 S2 (g_load (g := g3) (off := 0) 0 (by kernel_rfl) rfl (by kernel_rfl)) rfl (fun ac A7 => ?_)
  refine s_call (fs := #[]) (cp := #[]) (r := [(0, .agg #[.int .i64 a, .int .i64 b])]) #[.agg #[.int .i64 a, .int .i64 b]] (.int .i64 (dirE a b)) A7 S2 (directionErr_s a b _) Try.call98 (by kernel_rfl) (by kernel_rfl) (by kernel_rfl) rfl (fun ac wc A8 S9 => ?_)
  refine s_one (.int .i64 v) A8 S9 (g_move (by kernel_rfl)) rfl (fun ac A11 => ?_)
  refine s_call (fs := #[]) (cp := #[]) (r := [(0, .int .i64 v)]) #[.int .i64 v] (.int .i64 (veE v)) A11 S9 (speedErr_s v _) Try.call85 (by kernel_rfl) (by kernel_rfl) (by kernel_rfl) rfl (fun ac wc A12 S13 => ?_)
  refine s_one (.int .i64 w) A12 S13 (g_move (by kernel_rfl)) rfl (fun ac A15 => ?_)
  refine s_call (fs := #[]) (cp := #[]) (r := [(0, .int .i64 w)]) #[.int .i64 w] (.int .i64 (veE w)) A15 S13 (speedErr_s w _) Try.call85 (by kernel_rfl) (by kernel_rfl) (by kernel_rfl) rfl (fun ac wc A16 S17 => ?_)
  refine s_bs (e := 25) (r := [(0, .int .i64 (dirE a b)), (1, .int .i64 (veE v)), (2, .int .i64 (veE w))]) (#[.int .i64 (dirE a b), .int .i64 (veE v), .int .i64 (veE w)]) A16 S17 (by kernel_rfl) (by kernel_rfl) rfl (fun g21 ac wc A19 S20 => ?_)
  refine s_call (fs := #[]) (cp := #[]) (r := [(0, .slice (some ⟨g21, 0, none⟩) 3 3)]) #[.slice (some ⟨g21, 0, none⟩) 3 3] (.int .i64 (firstOf [dirE a b, veE v, veE w])) A19 S20 (first_s g21 ([dirE a b, veE v, veE w]) 3 3 _ (S20.get 0 rfl) rfl (by omega)) Try.call83 (by kernel_rfl) (by kernel_rfl) (by kernel_rfl) rfl (fun ac wc A22 S23 => ?_)
  refine s_one (.int .i64 (firstOf [dirE a b, veE v, veE w])) A22 S23 (g_assign (by kernel_rfl)) rfl (fun ac A25 => ?_)
  refine wpList_nil ?_
  refine n_then ?_
  refine wp_seq ?_
  refine wp_region_lit ?_
  refine s_one (.int .i64 (firstOf [dirE a b, veE v, veE w])) A25 S23 (g_move (by kernel_rfl)) rfl (fun ac A26 => ?_)
  refine s_one (.bool (decide (firstOf [dirE a b, veE v, veE w] ≠ 0))) A26 S23 (g_bin (u := .int .i64 (firstOf [dirE a b, veE v, veE w])) (k := .int .i64 0) (by kernel_rfl) (by kernel_rfl) (fun _ => by kernel_rfl) b_neq) rfl (fun ac A27 => ?_)
  refine wpList_nil ?_
  refine n_then ?_
  refine c_ifb (b := (decide (firstOf [dirE a b, veE v, veE w] ≠ 0))) A27 (by kernel_rfl) (fun h28 => ?_) (fun h28 => ?_)
  · have p29 := of_decide_eq_true h28
    refine wp_seq ?_
    refine wp_region_lit ?_
    refine s_one (.int .i64 (firstOf [dirE a b, veE v, veE w])) A27 S23 (g_move (by kernel_rfl)) rfl (fun ac A30 => ?_)
    refine s_one (.bool false) A30 S23 (g_assign (by kernel_rfl)) rfl (fun ac A31 => ?_)
    refine s_one (.int .i64 (firstOf [dirE a b, veE v, veE w])) A31 S23 (g_assign (by kernel_rfl)) rfl (fun ac A32 => ?_)
    refine wpList_nil ?_
    refine n_then ?_
    refine wp_ret ?_
    refine r_then ?_
    refine fin2 (.bool false) (.int .i64 (firstOf [dirE a b, veE v, veE w])) Try.results45 A32 S23 (rv_tmp (by kernel_rfl)) (rv_tmp (by kernel_rfl)) ⟨?_, S23.kp⟩
    have zn : psE a b v w ≠ 0 := p29
    rw [zb_n zn]
    rfl
  · have p33 := of_decide_eq_false h28
    have ze0 : firstOf [dirE a b, veE v, veE w] = 0 := by simpa using h28
    have ze : psE a b v w = 0 := ze0
    have zz := psE_0 ze
    refine wp_skip ?_
    refine n_then ?_
    refine wp_seq ?_
    refine wp_region_lit ?_
    refine s_one (.agg #[.int .i64 a, .int .i64 b]) A27 S23 (g_load (g := g3) (off := 0) 1 (by kernel_rfl) rfl (by kernel_rfl)) rfl (fun ac A34 => ?_)
    refine s_one (.int .i64 v) A34 S23 (g_move (by kernel_rfl)) rfl (fun ac A35 => ?_)
    refine s_one (.int .i64 w) A35 S23 (g_move (by kernel_rfl)) rfl (fun ac A36 => ?_)
    have q40 := dv_bd (a := a) (b := b) (v := v) (w := w) (by omega) (by omega) (by omega) (by omega)
    refine s_call (fs := #[]) (cp := #[]) (r := [(0, .agg #[.int .i64 a, .int .i64 b]), (0, .int .i64 v), (0, .int .i64 w)]) #[.agg #[.int .i64 a, .int .i64 b], .int .i64 v, .int .i64 w] (.tuple #[.int .i64 (a * a * w * w), .int .i64 ((a * a + b * b) * v * v)]) A36 S23 (behind_s a b v w _ (by omega) (by omega) (by omega) (by omega)) Try.call99 (by kernel_rfl) (by kernel_rfl) (by kernel_rfl) rfl (fun ac wc A37 S38 => ?_)
    refine s_one (.tuple #[.int .i64 (a * a * w * w), .int .i64 ((a * a + b * b) * v * v)]) A37 S38 (g_move (by kernel_rfl)) rfl (fun ac A41 => ?_)
    refine s_one (.int .i64 (a * a * w * w)) A41 S38 (g_extract (u := .tuple #[.int .i64 (a * a * w * w), .int .i64 ((a * a + b * b) * v * v)]) (by kernel_rfl) (fun _ => by kernel_rfl)) rfl (fun ac A42 => ?_)
    refine s_one (.int .i64 ((a * a + b * b) * v * v)) A42 S38 (g_extract (u := .tuple #[.int .i64 (a * a * w * w), .int .i64 ((a * a + b * b) * v * v)]) (by kernel_rfl) (fun _ => by kernel_rfl)) rfl (fun ac A43 => ?_)
    refine s_one (.int .i64 (a * a * w * w)) A43 S38 (g_assign (by kernel_rfl)) rfl (fun ac A44 => ?_)
    refine s_one (.int .i64 ((a * a + b * b) * v * v)) A44 S38 (g_assign (by kernel_rfl)) rfl (fun ac A45 => ?_)
    refine wpList_nil ?_
    refine n_then ?_
    refine wp_seq ?_
    refine wp_region_lit ?_
    refine s_one (.int .i64 (a * a * w * w)) A45 S38 (g_move (by kernel_rfl)) rfl (fun ac A46 => ?_)
    refine s_one (.int .i64 ((a * a + b * b) * v * v)) A46 S38 (g_move (by kernel_rfl)) rfl (fun ac A47 => ?_)
    refine s_one (.bool (decide (a * a * w * w ≤ (a * a + b * b) * v * v))) A47 S38 (g_bin (u := .int .i64 (a * a * w * w)) (k := .int .i64 ((a * a + b * b) * v * v)) (by kernel_rfl) (by kernel_rfl) (fun _ => by kernel_rfl) (fun _ => by kernel_rfl)) rfl (fun ac A48 => ?_)
    refine s_one (.bool (decide (a * a * w * w ≤ (a * a + b * b) * v * v))) A48 S38 (g_assign (by kernel_rfl)) rfl (fun ac A49 => ?_)
    refine s_one (.int .i64 0) A49 S38 (g_assign (by kernel_rfl)) rfl (fun ac A50 => ?_)
    refine wpList_nil ?_
    refine n_then ?_
    refine wp_ret ?_
    refine fin2 (.bool (decide (a * a * w * w ≤ (a * a + b * b) * v * v))) (.int .i64 0) Try.results45 A50 S38 (rv_tmp (by kernel_rfl)) (rv_tmp (by kernel_rfl)) ⟨?_, S38.kp⟩
    rw [zb_0 ze, ze]
    rfl

set_option maxRecDepth 100000 in
set_option maxHeartbeats 400000 in
theorem refPasses_s (a b v w : Int) (w0 : World) (h : psE a b v w = 0) :
    Calls Try.prog 70 #[.agg #[.int .i64 a, .int .i64 b], .int .i64 v, .int .i64 w] w0 fun e w' => e = .returned (.bool (zb (psE a b v w) (psB a b v w))) ∧ Below w0.heap.size w0 w' := by
  have S0 := St.start w0
  have zz := psE_0 h
  have q := dv_bd zz.1.1 zz.1.2 zz.2.1 zz.2.2
  have q2 := den_eq a b v
  refine enter (n := 32) Try.func70 rfl rfl rfl (fun ac A0 => ?_)
  refine wp_seq ?_
  refine wp_region_lit ?_
  refine s_box (.agg #[.int .i64 a, .int .i64 b]) A0 S0 (by kernel_rfl) rfl (fun g3 ac wc A1 S2 => ?_)
  replace S2 : St _ (⟨g3, 71, #[.int .i64 a, .int .i64 b], true⟩ :: _) _ _ := S2
  refine s_one (.bool false) A1 S2 (g_assign (by kernel_rfl)) rfl (fun ac A5 => ?_)
  refine wpList_nil ?_
  refine n_then ?_
  refine wp_seq ?_
  refine wp_region_lit ?_
  refine s_one (.pointer (some ⟨g3, 0, none⟩)) A5 S2 (g_index (u := .pointer (some ⟨g3, 0, none⟩)) (k := .int .i64 0) (by kernel_rfl) (by kernel_rfl) (fun _ => by kernel_rfl)) rfl (fun ac A6 => ?_)
  refine s_one (.int .i64 a) A6 S2 (g_load (g := g3) (off := 0) 0 (by kernel_rfl) rfl (by kernel_rfl)) rfl (fun ac A7 => ?_)
  refine s_one (.pointer (some ⟨g3, 0, none⟩)) A7 S2 (g_index (u := .pointer (some ⟨g3, 0, none⟩)) (k := .int .i64 0) (by kernel_rfl) (by kernel_rfl) (fun _ => by kernel_rfl)) rfl (fun ac A8 => ?_)
  refine s_one (.int .i64 a) A8 S2 (g_load (g := g3) (off := 0) 0 (by kernel_rfl) rfl (by kernel_rfl)) rfl (fun ac A9 => ?_)
  refine s_one (.int .i64 (a * a)) A9 S2 (g_bin (u := .int .i64 a) (k := .int .i64 a) (by kernel_rfl) (by kernel_rfl) (fun _ => by kernel_rfl) (b_mul (by omega))) rfl (fun ac A10 => ?_)
  refine s_one (.int .i64 w) A10 S2 (g_move (by kernel_rfl)) rfl (fun ac A11 => ?_)
  refine s_one (.int .i64 ((a * a) * w)) A11 S2 (g_bin (u := .int .i64 (a * a)) (k := .int .i64 w) (by kernel_rfl) (by kernel_rfl) (fun _ => by kernel_rfl) (b_mul (by omega))) rfl (fun ac A12 => ?_)
  refine s_one (.int .i64 w) A12 S2 (g_move (by kernel_rfl)) rfl (fun ac A13 => ?_)
  refine s_one (.int .i64 (((a * a) * w) * w)) A13 S2 (g_bin (u := .int .i64 ((a * a) * w)) (k := .int .i64 w) (by kernel_rfl) (by kernel_rfl) (fun _ => by kernel_rfl) (b_mul (by omega))) rfl (fun ac A14 => ?_)
  refine s_one (.int .i64 v) A14 S2 (g_move (by kernel_rfl)) rfl (fun ac A15 => ?_)
  refine s_one (.int .i64 v) A15 S2 (g_move (by kernel_rfl)) rfl (fun ac A16 => ?_)
  refine s_one (.int .i64 (v * v)) A16 S2 (g_bin (u := .int .i64 v) (k := .int .i64 v) (by kernel_rfl) (by kernel_rfl) (fun _ => by kernel_rfl) (b_mul (by omega))) rfl (fun ac A17 => ?_)
  refine s_one (.pointer (some ⟨g3, 0, none⟩)) A17 S2 (g_index (u := .pointer (some ⟨g3, 0, none⟩)) (k := .int .i64 0) (by kernel_rfl) (by kernel_rfl) (fun _ => by kernel_rfl)) rfl (fun ac A18 => ?_)
  refine s_one (.int .i64 a) A18 S2 (g_load (g := g3) (off := 0) 0 (by kernel_rfl) rfl (by kernel_rfl)) rfl (fun ac A19 => ?_)
  refine s_one (.pointer (some ⟨g3, 0, none⟩)) A19 S2 (g_index (u := .pointer (some ⟨g3, 0, none⟩)) (k := .int .i64 0) (by kernel_rfl) (by kernel_rfl) (fun _ => by kernel_rfl)) rfl (fun ac A20 => ?_)
  refine s_one (.int .i64 a) A20 S2 (g_load (g := g3) (off := 0) 0 (by kernel_rfl) rfl (by kernel_rfl)) rfl (fun ac A21 => ?_)
  refine s_one (.int .i64 (a * a)) A21 S2 (g_bin (u := .int .i64 a) (k := .int .i64 a) (by kernel_rfl) (by kernel_rfl) (fun _ => by kernel_rfl) (b_mul (by omega))) rfl (fun ac A22 => ?_)
  refine s_one (.pointer (some ⟨g3, 1, none⟩)) A22 S2 (g_index (u := .pointer (some ⟨g3, 0, none⟩)) (k := .int .i64 1) (by kernel_rfl) (by kernel_rfl) (fun _ => by kernel_rfl)) rfl (fun ac A23 => ?_)
  refine s_one (.int .i64 b) A23 S2 (g_load (g := g3) (off := 1) 0 (by kernel_rfl) rfl (by kernel_rfl)) rfl (fun ac A24 => ?_)
  refine s_one (.pointer (some ⟨g3, 1, none⟩)) A24 S2 (g_index (u := .pointer (some ⟨g3, 0, none⟩)) (k := .int .i64 1) (by kernel_rfl) (by kernel_rfl) (fun _ => by kernel_rfl)) rfl (fun ac A25 => ?_)
  refine s_one (.int .i64 b) A25 S2 (g_load (g := g3) (off := 1) 0 (by kernel_rfl) rfl (by kernel_rfl)) rfl (fun ac A26 => ?_)
  refine s_one (.int .i64 (b * b)) A26 S2 (g_bin (u := .int .i64 b) (k := .int .i64 b) (by kernel_rfl) (by kernel_rfl) (fun _ => by kernel_rfl) (b_mul (by omega))) rfl (fun ac A27 => ?_)
  refine s_one (.int .i64 (a * a + (b * b))) A27 S2 (g_bin (u := .int .i64 (a * a)) (k := .int .i64 (b * b)) (by kernel_rfl) (by kernel_rfl) (fun _ => by kernel_rfl) (b_add (by omega))) rfl (fun ac A28 => ?_)
  refine s_one (.int .i64 ((v * v) * (a * a + (b * b)))) A28 S2 (g_bin (u := .int .i64 (v * v)) (k := .int .i64 (a * a + (b * b))) (by kernel_rfl) (by kernel_rfl) (fun _ => by kernel_rfl) (b_mul (by omega))) rfl (fun ac A29 => ?_)
  refine s_one (.bool (decide (((a * a) * w) * w ≤ (v * v) * (a * a + (b * b))))) A29 S2 (g_bin (u := .int .i64 (((a * a) * w) * w)) (k := .int .i64 ((v * v) * (a * a + (b * b)))) (by kernel_rfl) (by kernel_rfl) (fun _ => by kernel_rfl) (fun _ => by kernel_rfl)) rfl (fun ac A30 => ?_)
  refine s_one (.bool (decide (((a * a) * w) * w ≤ (v * v) * (a * a + (b * b))))) A30 S2 (g_assign (by kernel_rfl)) rfl (fun ac A31 => ?_)
  refine wpList_nil ?_
  refine n_then ?_
  refine wp_ret ?_
  refine fin1 (.bool (decide (((a * a) * w) * w ≤ (v * v) * (a * a + (b * b))))) Try.results70 A31 S2 (rv_tmp (by kernel_rfl)) ⟨?_, S2.kp⟩
  rw [zb_0 h, psB_r]

def bsN (a b v w : Int) : Int := Int.tdiv (a * a * w * w) (gcdE (a * a * w * w) ((a * a + b * b) * v * v))
def bsD (a b v w : Int) : Int := Int.tdiv ((a * a + b * b) * v * v) (gcdE (a * a * w * w) ((a * a + b * b) * v * v))
def bsL (a b v w : Int) : Bool := decide (bsN a b v w > 1000000000) || decide (bsD a b v w > 1000000000)
def bsE (a b v w : Int) : Int := if psE a b v w = 0 then (bif psB a b v w then (bif bsL a b v w then 8 else 0) else 12) else psE a b v w
theorem bsE_1 {a b v w : Int} (h : firstOf [psE a b v w, must_a_r (zb (psE a b v w) (psB a b v w)) 12] ≠ 0) : bsE a b v w = firstOf [psE a b v w, must_a_r (zb (psE a b v w) (psB a b v w)) 12] := by
  unfold bsE
  by_cases z : psE a b v w = 0
  · rw [if_pos z, fo_cons0 z, fo_last, zb_0 z]
    rw [fo_cons0 z, fo_last, zb_0 z] at h
    cases q : psB a b v w with
    | true => rw [q] at h; exact absurd rfl h
    | false => rfl
  · rw [if_neg z, fo_ne z]
theorem bsE_2 {a b v w : Int} (h : firstOf [psE a b v w, must_a_r (zb (psE a b v w) (psB a b v w)) 12] = 0) : psE a b v w = 0 ∧ psB a b v w = true := by
  obtain ⟨h1, h2⟩ := fo_zero h
  rw [fo_last, zb_0 h1] at h2
  exact ⟨h1, must_0 (by decide) h2⟩
theorem bsE_3 {a b v w : Int} (h : psE a b v w = 0) (h2 : psB a b v w = true) {l : Bool} (h3 : bsL a b v w = l) : bsE a b v w = bif l then 8 else 0 := by unfold bsE; rw [if_pos h, h2, h3]; rfl
theorem bsE_12 {a b v w : Int} (h : psE a b v w = 0) (h2 : psB a b v w = false) : bsE a b v w = 12 := by unfold bsE; rw [if_pos h, h2]; rfl
theorem bsE_0 {a b v w : Int} (h : bsE a b v w = 0) : psE a b v w = 0 ∧ psB a b v w = true ∧ bsL a b v w = false := by
  unfold bsE at h
  by_cases z : psE a b v w = 0
  · rw [if_pos z] at h
    refine ⟨z, ?_⟩
    cases p : psB a b v w with
    | false => rw [p] at h; simp at h
    | true =>
      rw [p] at h
      cases l : bsL a b v w with
      | false => exact ⟨rfl, rfl⟩
      | true => rw [l] at h; simp at h
  · rw [if_neg z] at h; exact absurd h z
theorem gcdE_dvd {p q : Int} : gcdE p q ∣ p ∧ gcdE p q ∣ q := by
  have key : ∀ (n : Nat) (a b : Int), b.natAbs ≤ n → euc a b ∣ a ∧ euc a b ∣ b := by
    intro n
    induction n with
    | zero =>
      intro a b h
      obtain rfl : b = 0 := by omega
      rw [euc_zero]; exact ⟨Int.dvd_refl _, Int.dvd_zero _⟩
    | succ n ih =>
      intro a b h
      by_cases z : b = 0
      · subst z; rw [euc_zero]; exact ⟨Int.dvd_refl _, Int.dvd_zero _⟩
      · rw [euc_step z]
        have r := rem_less (a := a) z
        obtain ⟨h1, h2⟩ := ih b (a.tmod b) (by omega)
        refine ⟨?_, h1⟩
        have e := Int.mul_tdiv_add_tmod a b
        have e2 := Int.dvd_add (Int.dvd_mul_of_dvd_left h1 (c := a.tdiv b)) h2
        rw [e] at e2
        exact e2
  have k := key q.natAbs p q (Nat.le_refl _)
  unfold gcdE
  rw [mx_eq]
  by_cases z : -euc p q ≤ euc p q
  · rw [Int.max_eq_left z]; exact k
  · rw [Int.max_eq_right (by omega)]; exact ⟨Int.neg_dvd.2 k.1, Int.neg_dvd.2 k.2⟩
/-- Lowest terms: the parts, times the divisor. -/
theorem low_mul {p q : Int} : p.tdiv (gcdE p q) * gcdE p q = p ∧ q.tdiv (gcdE p q) * gcdE p q = q := ⟨Int.tdiv_mul_cancel gcdE_dvd.1, Int.tdiv_mul_cancel gcdE_dvd.2⟩
theorem low_bd {p q : Int} (h0 : 0 ≤ p) (h1 : 1 ≤ q) : 0 ≤ p.tdiv (gcdE p q) ∧ 1 ≤ q.tdiv (gcdE p q) ∧ p.tdiv (gcdE p q) ≤ p ∧ q.tdiv (gcdE p q) ≤ q := by
  have g := gcdE_bd (p := p) h1
  obtain ⟨m1, m2⟩ := low_mul (p := p) (q := q)
  generalize gcdE p q = d at *
  generalize p.tdiv d = x at *
  generalize q.tdiv d = y at *
  have x0 : 0 ≤ x := by
    by_cases z : 0 ≤ x
    · exact z
    · have := Int.mul_neg_of_neg_of_pos (show x < 0 by omega) (show 0 < d by omega); omega
  have y0 : 1 ≤ y := by
    by_cases z : 1 ≤ y
    · exact z
    · have := Int.mul_nonneg (show 0 ≤ -y by omega) (show 0 ≤ d by omega); rw [Int.neg_mul] at this; omega
  have a1 := Int.mul_le_mul_of_nonneg_left g.1 x0
  have a2 := Int.mul_le_mul_of_nonneg_left g.1 (show 0 ≤ y by omega)
  omega
theorem bs_bd {a b v w : Int} (h : psE a b v w = 0) : 0 ≤ bsN a b v w ∧ 1 ≤ bsD a b v w ∧ bsN a b v w ≤ 100000000000000 ∧ bsD a b v w ≤ 200000000000000 := by
  have zz := psE_0 h
  have q := dv_bd zz.1.1 zz.1.2 zz.2.1 zz.2.2
  have l := low_bd (p := a * a * w * w) (q := (a * a + b * b) * v * v) (by omega) (by omega)
  unfold bsN bsD
  omega
theorem psB_le {a b v w : Int} (h : psB a b v w = true) : a * a * w * w ≤ (a * a + b * b) * v * v := of_decide_eq_true h
theorem bs_le {a b v w : Int} (h : psE a b v w = 0) (h2 : psB a b v w = true) : bsN a b v w ≤ bsD a b v w := by
  have zz := psE_0 h
  have q := dv_bd zz.1.1 zz.1.2 zz.2.1 zz.2.2
  have l := psB_le h2
  have g := gcdE_bd (p := a * a * w * w) (q := (a * a + b * b) * v * v) (by omega)
  obtain ⟨m1, m2⟩ := low_mul (p := a * a * w * w) (q := (a * a + b * b) * v * v)
  unfold bsN bsD
  generalize gcdE (a * a * w * w) ((a * a + b * b) * v * v) = d at *
  exact Int.le_of_mul_le_mul_right (show Int.tdiv (a * a * w * w) d * d ≤ Int.tdiv ((a * a + b * b) * v * v) d * d by omega) (show 0 < d by omega)
theorem bs_cross {a b v w : Int} : bsN a b v w * ((a * a + b * b) * v * v) = (a * a * w * w) * bsD a b v w := by
  obtain ⟨m1, m2⟩ := low_mul (p := a * a * w * w) (q := (a * a + b * b) * v * v)
  unfold bsN bsD
  generalize gcdE (a * a * w * w) ((a * a + b * b) * v * v) = d at *
  generalize Int.tdiv (a * a * w * w) d = x at *
  generalize Int.tdiv ((a * a + b * b) * v * v) d = y at *
  rw [← m2, ← m1]
  grind

set_option maxRecDepth 100000 in
set_option maxHeartbeats 400000 in
theorem BehindSquare_s (a b v w : Int) (w0 : World) :
    Calls Try.prog 46 #[.agg #[.int .i64 a, .int .i64 b], .int .i64 v, .int .i64 w] w0 fun e w' => e = .returned (.tuple #[.agg #[.int .i64 (zv (bsE a b v w) (bsN a b v w)), .int .i64 (zv (bsE a b v w) (bsD a b v w))], .int .i64 (bsE a b v w)]) ∧ Below w0.heap.size w0 w' := by
  have S0 := St.start w0
  refine enter (n := 44) Try.func46 rfl rfl rfl (fun ac A0 => ?_)
  refine wp_seq ?_
  refine wp_region_lit ?_
  refine s_box (.agg #[.int .i64 a, .int .i64 b]) A0 S0 (by kernel_rfl) rfl (fun g3 ac wc A1 S2 => ?_)
  replace S2 : St _ (⟨g3, 71, #[.int .i64 a, .int .i64 b], true⟩ :: _) _ _ := S2
  refine s_alloc (#[.int .i64 0, .int .i64 0]) A1 S2 (by kernel_rfl) rfl (fun g7 ac wc A5 S6 => ?_)
  refine s_one (.int .i64 0) A5 S6 (g_assign (by kernel_rfl)) rfl (fun ac A8 => ?_)
  refine wpList_nil ?_
  refine n_then ?_
  refine wp_seq ?_
  refine wp_region_lit ?_
  refine s_one (.agg #[.int .i64 a, .int .i64 b]) A8 S6 (g_load (g := g3) (off := 0) 1 (by kernel_rfl) rfl (by kernel_rfl)) rfl (fun ac A9 => ?_)
  refine s_one (.int .i64 v) A9 S6 (g_move (by kernel_rfl)) rfl (fun ac A10 => ?_)
  refine s_one (.int .i64 w) A10 S6 (g_move (by kernel_rfl)) rfl (fun ac A11 => ?_)
  refine s_call (fs := #[]) (cp := #[]) (r := [(0, .agg #[.int .i64 a, .int .i64 b]), (0, .int .i64 v), (0, .int .i64 w)]) #[.agg #[.int .i64 a, .int .i64 b], .int .i64 v, .int .i64 w] (.tuple #[.bool (zb (psE a b v w) (psB a b v w)), .int .i64 (psE a b v w)]) A11 S6 (Passes_s a b v w _) Try.call45 (by kernel_rfl) (by kernel_rfl) (by kernel_rfl) rfl (fun ac wc A12 S13 => ?_)
  refine s_one (.tuple #[.bool (zb (psE a b v w) (psB a b v w)), .int .i64 (psE a b v w)]) A12 S13 (g_move (by kernel_rfl)) rfl (fun ac A15 => ?_)
  refine s_one (.bool (zb (psE a b v w) (psB a b v w))) A15 S13 (g_extract (u := .tuple #[.bool (zb (psE a b v w) (psB a b v w)), .int .i64 (psE a b v w)]) (by kernel_rfl) (fun _ => by kernel_rfl)) rfl (fun ac A16 => ?_)
  refine s_one (.int .i64 (psE a b v w)) A16 S13 (g_extract (u := .tuple #[.bool (zb (psE a b v w) (psB a b v w)), .int .i64 (psE a b v w)]) (by kernel_rfl) (fun _ => by kernel_rfl)) rfl (fun ac A17 => ?_)
  refine s_one (.bool (zb (psE a b v w) (psB a b v w))) A17 S13 (g_assign (by kernel_rfl)) rfl (fun ac A18 => ?_)
  refine s_one (.int .i64 (psE a b v w)) A18 S13 (g_assign (by kernel_rfl)) rfl (fun ac A19 => ?_)
  refine wpList_nil ?_
  refine n_then ?_
  refine wp_seq ?_
  refine wp_seq ?_
  refine wp_region_lit ?_
  refine s_one (.int .i64 (psE a b v w)) A19 S13 (g_move (by kernel_rfl)) rfl (fun ac A20 => ?_)
  refine s_one (.bool (zb (psE a b v w) (psB a b v w))) A20 S13 (g_move (by kernel_rfl)) rfl (fun ac A21 => ?_)
  refine s_call (fs := #[]) (cp := #[]) (r := [(0, .bool (zb (psE a b v w) (psB a b v w))), (0, .int .i64 12)]) #[.bool (zb (psE a b v w) (psB a b v w)), .int .i64 12] (.int .i64 (must_a_r (zb (psE a b v w) (psB a b v w)) 12)) A21 S13 (must_a (zb (psE a b v w) (psB a b v w)) 12 _) Try.call88 (by kernel_rfl) (by kernel_rfl) (by kernel_rfl) rfl (fun ac wc A22 S23 => ?_)
  refine s_bs (e := 25) (r := [(0, .int .i64 (psE a b v w)), (1, .int .i64 (must_a_r (zb (psE a b v w) (psB a b v w)) 12))]) (#[.int .i64 (psE a b v w), .int .i64 (must_a_r (zb (psE a b v w) (psB a b v w)) 12)]) A22 S23 (by kernel_rfl) (by kernel_rfl) rfl (fun g27 ac wc A25 S26 => ?_)
  refine s_call (fs := #[]) (cp := #[]) (r := [(0, .slice (some ⟨g27, 0, none⟩) 2 2)]) #[.slice (some ⟨g27, 0, none⟩) 2 2] (.int .i64 (firstOf [psE a b v w, (must_a_r (zb (psE a b v w) (psB a b v w)) 12)])) A25 S26 (first_s g27 ([psE a b v w, (must_a_r (zb (psE a b v w) (psB a b v w)) 12)]) 2 2 _ (S26.get 0 rfl) rfl (by omega)) Try.call83 (by kernel_rfl) (by kernel_rfl) (by kernel_rfl) rfl (fun ac wc A28 S29 => ?_)
  refine s_one (.int .i64 (firstOf [psE a b v w, (must_a_r (zb (psE a b v w) (psB a b v w)) 12)])) A28 S29 (g_assign (by kernel_rfl)) rfl (fun ac A31 => ?_)
  refine wpList_nil ?_
  refine n_then ?_
  refine wp_seq ?_
  refine wp_region_lit ?_
  refine s_one (.int .i64 (firstOf [psE a b v w, (must_a_r (zb (psE a b v w) (psB a b v w)) 12)])) A31 S29 (g_move (by kernel_rfl)) rfl (fun ac A32 => ?_)
  refine s_one (.bool (decide (firstOf [psE a b v w, (must_a_r (zb (psE a b v w) (psB a b v w)) 12)] ≠ 0))) A32 S29 (g_bin (u := .int .i64 (firstOf [psE a b v w, (must_a_r (zb (psE a b v w) (psB a b v w)) 12)])) (k := .int .i64 0) (by kernel_rfl) (by kernel_rfl) (fun _ => by kernel_rfl) b_neq) rfl (fun ac A33 => ?_)
  refine wpList_nil ?_
  refine n_then ?_
  refine c_ifb (b := (decide (firstOf [psE a b v w, (must_a_r (zb (psE a b v w) (psB a b v w)) 12)] ≠ 0))) A33 (by kernel_rfl) (fun h34 => ?_) (fun h34 => ?_)
  · have p35 := of_decide_eq_true h34
    have eb := bsE_1 (of_decide_eq_true h34)
    have zn : bsE a b v w ≠ 0 := eb ▸ of_decide_eq_true h34
    refine wp_seq ?_
    refine wp_region_lit ?_
    refine s_one (.agg #[.int .i64 0, .int .i64 0]) A33 S29 (g_build (r := []) (by kernel_rfl) (fun _ => by kernel_rfl)) rfl (fun ac A36 => ?_)
    refine s_one (.int .i64 (firstOf [psE a b v w, (must_a_r (zb (psE a b v w) (psB a b v w)) 12)])) A36 S29 (g_move (by kernel_rfl)) rfl (fun ac A37 => ?_)
    refine s_store (g := g7) (off := 0) (v := .agg #[.int .i64 0, .int .i64 0]) 1 (#[.int .i64 0, .int .i64 0]) A37 S29 (by kernel_rfl) (by kernel_rfl) rfl (by kernel_rfl) (fun wc S39 => ?_)
    refine s_one (.int .i64 (firstOf [psE a b v w, (must_a_r (zb (psE a b v w) (psB a b v w)) 12)])) A37 S39 (g_assign (by kernel_rfl)) rfl (fun ac A41 => ?_)
    refine wpList_nil ?_
    refine n_then ?_
    refine wp_ret ?_
    refine r_then ?_
    refine fin2 (.agg #[.int .i64 0, .int .i64 0]) (.int .i64 (firstOf [psE a b v w, (must_a_r (zb (psE a b v w) (psB a b v w)) 12)])) Try.results46 A41 S39 (rv_cell (g := g7) (off := 0) 1 (by kernel_rfl) rfl (by kernel_rfl)) (rv_tmp (by kernel_rfl)) ⟨?_, S39.kp⟩
    simp only [zv_n zn]
    rw [eb]
  · have p42 := of_decide_eq_false h34
    have zf : firstOf [psE a b v w, (must_a_r (zb (psE a b v w) (psB a b v w)) 12)] = 0 := by simpa using h34
    obtain ⟨zp, zb1⟩ := bsE_2 zf
    have zz := psE_0 zp
    have q := dv_bd zz.1.1 zz.1.2 zz.2.1 zz.2.2
    have bb := bs_bd zp
    refine wp_skip ?_
    refine n_then ?_
    refine wp_seq ?_
    refine wp_region_lit ?_
    refine s_one (.agg #[.int .i64 a, .int .i64 b]) A33 S29 (g_load (g := g3) (off := 0) 2 (by kernel_rfl) rfl (by kernel_rfl)) rfl (fun ac A43 => ?_)
    refine s_one (.int .i64 v) A43 S29 (g_move (by kernel_rfl)) rfl (fun ac A44 => ?_)
    refine s_one (.int .i64 w) A44 S29 (g_move (by kernel_rfl)) rfl (fun ac A45 => ?_)
    have q49 := dv_bd (a := a) (b := b) (v := v) (w := w) (by omega) (by omega) (by omega) (by omega)
    refine s_call (fs := #[]) (cp := #[]) (r := [(0, .agg #[.int .i64 a, .int .i64 b]), (0, .int .i64 v), (0, .int .i64 w)]) #[.agg #[.int .i64 a, .int .i64 b], .int .i64 v, .int .i64 w] (.tuple #[.int .i64 (a * a * w * w), .int .i64 ((a * a + b * b) * v * v)]) A45 S29 (behind_s a b v w _ (by omega) (by omega) (by omega) (by omega)) Try.call99 (by kernel_rfl) (by kernel_rfl) (by kernel_rfl) rfl (fun ac wc A46 S47 => ?_)
    refine s_one (.int .i64 (a * a * w * w)) A46 S47 (g_extract (u := .tuple #[.int .i64 (a * a * w * w), .int .i64 ((a * a + b * b) * v * v)]) (by kernel_rfl) (fun _ => by kernel_rfl)) rfl (fun ac A50 => ?_)
    refine s_one (.int .i64 ((a * a + b * b) * v * v)) A50 S47 (g_extract (u := .tuple #[.int .i64 (a * a * w * w), .int .i64 ((a * a + b * b) * v * v)]) (by kernel_rfl) (fun _ => by kernel_rfl)) rfl (fun ac A51 => ?_)
    refine s_call (fs := #[]) (cp := #[]) (r := [(0, .int .i64 (a * a * w * w)), (0, .int .i64 ((a * a + b * b) * v * v))]) #[.int .i64 (a * a * w * w), .int .i64 ((a * a + b * b) * v * v)] (.agg #[.int .i64 (Int.tdiv (a * a * w * w) (gcdE (a * a * w * w) ((a * a + b * b) * v * v))), .int .i64 (Int.tdiv ((a * a + b * b) * v * v) (gcdE (a * a * w * w) ((a * a + b * b) * v * v)))]) A51 S47 (lowest_s (a * a * w * w) ((a * a + b * b) * v * v) _ (by omega) (by omega) (by omega) (by omega)) Try.call100 (by kernel_rfl) (by kernel_rfl) (by kernel_rfl) rfl (fun ac wc A52 S53 => ?_)
    refine s_alloc (#[.int .i64 0, .int .i64 0]) A52 S53 (by kernel_rfl) rfl (fun g57 ac wc A55 S56 => ?_)
    refine s_store (g := g57) (off := 0) (v := .agg #[.int .i64 (Int.tdiv (a * a * w * w) (gcdE (a * a * w * w) ((a * a + b * b) * v * v))), .int .i64 (Int.tdiv ((a * a + b * b) * v * v) (gcdE (a * a * w * w) ((a * a + b * b) * v * v)))]) 0 (#[.int .i64 (Int.tdiv (a * a * w * w) (gcdE (a * a * w * w) ((a * a + b * b) * v * v))), .int .i64 (Int.tdiv ((a * a + b * b) * v * v) (gcdE (a * a * w * w) ((a * a + b * b) * v * v)))]) A55 S56 (by kernel_rfl) (by kernel_rfl) rfl (by kernel_rfl) (fun wc S59 => ?_)
    refine wpList_nil ?_
    refine n_then ?_
    refine wp_seq ?_
    refine wp_seq ?_
    refine c_cut (fun ac wc => Fr 44 ac [(41, .bool ((decide (Int.tdiv (a * a * w * w) (gcdE (a * a * w * w) ((a * a + b * b) * v * v)) > 1000000000)) || (decide (Int.tdiv ((a * a + b * b) * v * v) (gcdE (a * a * w * w) ((a * a + b * b) * v * v)) > 1000000000)))), (0, .agg #[.int .i64 a, .int .i64 b]), (1, .int .i64 v), (2, .int .i64 w), (3, .pointer (some ⟨g3, 0, none⟩)), (6, .pointer (some ⟨g7, 0, none⟩)), (7, .int .i64 0), (12, .agg #[.int .i64 a, .int .i64 b]), (13, .int .i64 v), (14, .int .i64 w), (15, .tuple #[.bool (zb (psE a b v w) (psB a b v w)), .int .i64 (psE a b v w)]), (11, .tuple #[.bool (zb (psE a b v w) (psB a b v w)), .int .i64 (psE a b v w)]), (16, .bool (zb (psE a b v w) (psB a b v w))), (17, .int .i64 (psE a b v w)), (8, .bool (zb (psE a b v w) (psB a b v w))), (9, .int .i64 (firstOf [psE a b v w, (must_a_r (zb (psE a b v w) (psB a b v w)) 12)])), (18, .int .i64 (psE a b v w)), (19, .bool (zb (psE a b v w) (psB a b v w))), (20, .int .i64 (must_a_r (zb (psE a b v w) (psB a b v w)) 12)), (21, .slice (some ⟨g27, 0, none⟩) 2 2), (22, .int .i64 (firstOf [psE a b v w, (must_a_r (zb (psE a b v w) (psB a b v w)) 12)])), (23, .int .i64 (firstOf [psE a b v w, (must_a_r (zb (psE a b v w) (psB a b v w)) 12)])), (24, .bool (decide (firstOf [psE a b v w, (must_a_r (zb (psE a b v w) (psB a b v w)) 12)] ≠ 0))), (27, .agg #[.int .i64 a, .int .i64 b]), (28, .int .i64 v), (29, .int .i64 w), (30, .tuple #[.int .i64 (a * a * w * w), .int .i64 ((a * a + b * b) * v * v)]), (31, .int .i64 (a * a * w * w)), (32, .int .i64 ((a * a + b * b) * v * v)), (33, .agg #[.int .i64 (Int.tdiv (a * a * w * w) (gcdE (a * a * w * w) ((a * a + b * b) * v * v))), .int .i64 (Int.tdiv ((a * a + b * b) * v * v) (gcdE (a * a * w * w) ((a * a + b * b) * v * v)))]), (10, .pointer (some ⟨g57, 0, none⟩))] ∧ St w0 [⟨g57, 75, #[.int .i64 (Int.tdiv (a * a * w * w) (gcdE (a * a * w * w) ((a * a + b * b) * v * v))), .int .i64 (Int.tdiv ((a * a + b * b) * v * v) (gcdE (a * a * w * w) ((a * a + b * b) * v * v)))], true⟩, ⟨g27, 25, #[.int .i64 (psE a b v w), .int .i64 (must_a_r (zb (psE a b v w) (psB a b v w)) 12)], true⟩, ⟨g7, 75, #[.int .i64 0, .int .i64 0], true⟩, ⟨g3, 71, #[.int .i64 a, .int .i64 b], true⟩] [] wc) ?_ ?_
    · refine wp_region_lit ?_
      refine s_one (.pointer (some ⟨g57, 0, none⟩)) A55 S59 (g_field (u := .pointer (some ⟨g57, 0, none⟩)) (by kernel_rfl) (fun _ => by kernel_rfl)) rfl (fun ac A61 => ?_)
      refine s_one (.int .i64 (Int.tdiv (a * a * w * w) (gcdE (a * a * w * w) ((a * a + b * b) * v * v)))) A61 S59 (g_load (g := g57) (off := 0) 0 (by kernel_rfl) rfl (by kernel_rfl)) rfl (fun ac A62 => ?_)
      refine s_one (.bool (decide (Int.tdiv (a * a * w * w) (gcdE (a * a * w * w) ((a * a + b * b) * v * v)) > 1000000000))) A62 S59 (g_bin (u := .int .i64 (Int.tdiv (a * a * w * w) (gcdE (a * a * w * w) ((a * a + b * b) * v * v)))) (k := .int .i64 1000000000) (by kernel_rfl) (by kernel_rfl) (fun _ => by kernel_rfl) (fun _ => by kernel_rfl)) rfl (fun ac A63 => ?_)
      refine s_one (.bool (decide (Int.tdiv (a * a * w * w) (gcdE (a * a * w * w) ((a * a + b * b) * v * v)) > 1000000000))) A63 S59 (g_move (by kernel_rfl)) rfl (fun ac A64 => ?_)
      refine by_bool (decide (Int.tdiv (a * a * w * w) (gcdE (a * a * w * w) ((a * a + b * b) * v * v)) > 1000000000)) (fun h65 => ?_) (fun h65 => ?_)
      · have p66 := of_decide_eq_true h65
        refine s_not (dj := 37) (b := (decide (Int.tdiv (a * a * w * w) (gcdE (a * a * w * w) ((a * a + b * b) * v * v)) > 1000000000))) A64 (by kernel_rfl) (by kernel_rfl) h65 rfl (fun ac A67 => ?_)
        refine s_not (dj := 37) (b := (decide (Int.tdiv (a * a * w * w) (gcdE (a * a * w * w) ((a * a + b * b) * v * v)) > 1000000000))) A67 (by kernel_rfl) (by kernel_rfl) h65 rfl (fun ac A68 => ?_)
        refine s_not (dj := 37) (b := (decide (Int.tdiv (a * a * w * w) (gcdE (a * a * w * w) ((a * a + b * b) * v * v)) > 1000000000))) A68 (by kernel_rfl) (by kernel_rfl) h65 rfl (fun ac A69 => ?_)
        refine s_one (.bool true) A69 S59 (g_pick_t (b := (decide (Int.tdiv (a * a * w * w) (gcdE (a * a * w * w) ((a * a + b * b) * v * v)) > 1000000000))) (by kernel_rfl) h65 (by kernel_rfl)) rfl (fun ac A70 => ?_)
        refine wpList_nil ?_
        refine n_then ?_
        exact ⟨(A70.slot (A70.slot (A70.slot (A70.slot (A70.slot (A70.slot (A70.slot (A70.slot (A70.slot (A70.slot (A70.slot (A70.slot (A70.slot (A70.slot (A70.slot (A70.slot (A70.slot (A70.slot (A70.slot (A70.slot (A70.slot (A70.slot (A70.slot (A70.slot (A70.slot (A70.slot (A70.slot (A70.slot (A70.slot (A70.slot (A70.slot A70.nil (v := .pointer (some ⟨g57, 0, none⟩)) (by kernel_rfl) rfl) (v := .agg #[.int .i64 (Int.tdiv (a * a * w * w) (gcdE (a * a * w * w) ((a * a + b * b) * v * v))), .int .i64 (Int.tdiv ((a * a + b * b) * v * v) (gcdE (a * a * w * w) ((a * a + b * b) * v * v)))]) (by kernel_rfl) rfl) (v := .int .i64 ((a * a + b * b) * v * v)) (by kernel_rfl) rfl) (v := .int .i64 (a * a * w * w)) (by kernel_rfl) rfl) (v := .tuple #[.int .i64 (a * a * w * w), .int .i64 ((a * a + b * b) * v * v)]) (by kernel_rfl) rfl) (v := .int .i64 w) (by kernel_rfl) rfl) (v := .int .i64 v) (by kernel_rfl) rfl) (v := .agg #[.int .i64 a, .int .i64 b]) (by kernel_rfl) rfl) (v := .bool (decide (firstOf [psE a b v w, (must_a_r (zb (psE a b v w) (psB a b v w)) 12)] ≠ 0))) (by kernel_rfl) rfl) (v := .int .i64 (firstOf [psE a b v w, (must_a_r (zb (psE a b v w) (psB a b v w)) 12)])) (by kernel_rfl) rfl) (v := .int .i64 (firstOf [psE a b v w, (must_a_r (zb (psE a b v w) (psB a b v w)) 12)])) (by kernel_rfl) rfl) (v := .slice (some ⟨g27, 0, none⟩) 2 2) (by kernel_rfl) rfl) (v := .int .i64 (must_a_r (zb (psE a b v w) (psB a b v w)) 12)) (by kernel_rfl) rfl) (v := .bool (zb (psE a b v w) (psB a b v w))) (by kernel_rfl) rfl) (v := .int .i64 (psE a b v w)) (by kernel_rfl) rfl) (v := .int .i64 (firstOf [psE a b v w, (must_a_r (zb (psE a b v w) (psB a b v w)) 12)])) (by kernel_rfl) rfl) (v := .bool (zb (psE a b v w) (psB a b v w))) (by kernel_rfl) rfl) (v := .int .i64 (psE a b v w)) (by kernel_rfl) rfl) (v := .bool (zb (psE a b v w) (psB a b v w))) (by kernel_rfl) rfl) (v := .tuple #[.bool (zb (psE a b v w) (psB a b v w)), .int .i64 (psE a b v w)]) (by kernel_rfl) rfl) (v := .tuple #[.bool (zb (psE a b v w) (psB a b v w)), .int .i64 (psE a b v w)]) (by kernel_rfl) rfl) (v := .int .i64 w) (by kernel_rfl) rfl) (v := .int .i64 v) (by kernel_rfl) rfl) (v := .agg #[.int .i64 a, .int .i64 b]) (by kernel_rfl) rfl) (v := .int .i64 0) (by kernel_rfl) rfl) (v := .pointer (some ⟨g7, 0, none⟩)) (by kernel_rfl) rfl) (v := .pointer (some ⟨g3, 0, none⟩)) (by kernel_rfl) rfl) (v := .int .i64 w) (by kernel_rfl) rfl) (v := .int .i64 v) (by kernel_rfl) rfl) (v := .agg #[.int .i64 a, .int .i64 b]) (by kernel_rfl) rfl) (v := .bool true) (by kernel_rfl) (congrArg Value.bool (b_ot1 h65).symm)), S59.sub sub_all sub_all⟩
      · have p71 := of_decide_eq_false h65
        refine s_want (dj := 37) (b := (decide (Int.tdiv (a * a * w * w) (gcdE (a * a * w * w) ((a * a + b * b) * v * v)) > 1000000000))) A64 (by kernel_rfl) (by kernel_rfl) h65 ?_
        refine s_one (.pointer (some ⟨g57, 1, none⟩)) A64 S59 (g_field (u := .pointer (some ⟨g57, 0, none⟩)) (by kernel_rfl) (fun _ => by kernel_rfl)) rfl (fun ac A72 => ?_)
        refine s_want (dj := 37) (b := (decide (Int.tdiv (a * a * w * w) (gcdE (a * a * w * w) ((a * a + b * b) * v * v)) > 1000000000))) A72 (by kernel_rfl) (by kernel_rfl) h65 ?_
        refine s_one (.int .i64 (Int.tdiv ((a * a + b * b) * v * v) (gcdE (a * a * w * w) ((a * a + b * b) * v * v)))) A72 S59 (g_load (g := g57) (off := 1) 0 (by kernel_rfl) rfl (by kernel_rfl)) rfl (fun ac A73 => ?_)
        refine s_want (dj := 37) (b := (decide (Int.tdiv (a * a * w * w) (gcdE (a * a * w * w) ((a * a + b * b) * v * v)) > 1000000000))) A73 (by kernel_rfl) (by kernel_rfl) h65 ?_
        refine s_one (.bool (decide (Int.tdiv ((a * a + b * b) * v * v) (gcdE (a * a * w * w) ((a * a + b * b) * v * v)) > 1000000000))) A73 S59 (g_bin (u := .int .i64 (Int.tdiv ((a * a + b * b) * v * v) (gcdE (a * a * w * w) ((a * a + b * b) * v * v)))) (k := .int .i64 1000000000) (by kernel_rfl) (by kernel_rfl) (fun _ => by kernel_rfl) (fun _ => by kernel_rfl)) rfl (fun ac A74 => ?_)
        refine s_one (.bool (decide (Int.tdiv ((a * a + b * b) * v * v) (gcdE (a * a * w * w) ((a * a + b * b) * v * v)) > 1000000000))) A74 S59 (g_pick_f (b := (decide (Int.tdiv (a * a * w * w) (gcdE (a * a * w * w) ((a * a + b * b) * v * v)) > 1000000000))) (by kernel_rfl) h65 (by kernel_rfl)) rfl (fun ac A75 => ?_)
        refine wpList_nil ?_
        refine n_then ?_
        exact ⟨(A75.slot (A75.slot (A75.slot (A75.slot (A75.slot (A75.slot (A75.slot (A75.slot (A75.slot (A75.slot (A75.slot (A75.slot (A75.slot (A75.slot (A75.slot (A75.slot (A75.slot (A75.slot (A75.slot (A75.slot (A75.slot (A75.slot (A75.slot (A75.slot (A75.slot (A75.slot (A75.slot (A75.slot (A75.slot (A75.slot (A75.slot A75.nil (v := .pointer (some ⟨g57, 0, none⟩)) (by kernel_rfl) rfl) (v := .agg #[.int .i64 (Int.tdiv (a * a * w * w) (gcdE (a * a * w * w) ((a * a + b * b) * v * v))), .int .i64 (Int.tdiv ((a * a + b * b) * v * v) (gcdE (a * a * w * w) ((a * a + b * b) * v * v)))]) (by kernel_rfl) rfl) (v := .int .i64 ((a * a + b * b) * v * v)) (by kernel_rfl) rfl) (v := .int .i64 (a * a * w * w)) (by kernel_rfl) rfl) (v := .tuple #[.int .i64 (a * a * w * w), .int .i64 ((a * a + b * b) * v * v)]) (by kernel_rfl) rfl) (v := .int .i64 w) (by kernel_rfl) rfl) (v := .int .i64 v) (by kernel_rfl) rfl) (v := .agg #[.int .i64 a, .int .i64 b]) (by kernel_rfl) rfl) (v := .bool (decide (firstOf [psE a b v w, (must_a_r (zb (psE a b v w) (psB a b v w)) 12)] ≠ 0))) (by kernel_rfl) rfl) (v := .int .i64 (firstOf [psE a b v w, (must_a_r (zb (psE a b v w) (psB a b v w)) 12)])) (by kernel_rfl) rfl) (v := .int .i64 (firstOf [psE a b v w, (must_a_r (zb (psE a b v w) (psB a b v w)) 12)])) (by kernel_rfl) rfl) (v := .slice (some ⟨g27, 0, none⟩) 2 2) (by kernel_rfl) rfl) (v := .int .i64 (must_a_r (zb (psE a b v w) (psB a b v w)) 12)) (by kernel_rfl) rfl) (v := .bool (zb (psE a b v w) (psB a b v w))) (by kernel_rfl) rfl) (v := .int .i64 (psE a b v w)) (by kernel_rfl) rfl) (v := .int .i64 (firstOf [psE a b v w, (must_a_r (zb (psE a b v w) (psB a b v w)) 12)])) (by kernel_rfl) rfl) (v := .bool (zb (psE a b v w) (psB a b v w))) (by kernel_rfl) rfl) (v := .int .i64 (psE a b v w)) (by kernel_rfl) rfl) (v := .bool (zb (psE a b v w) (psB a b v w))) (by kernel_rfl) rfl) (v := .tuple #[.bool (zb (psE a b v w) (psB a b v w)), .int .i64 (psE a b v w)]) (by kernel_rfl) rfl) (v := .tuple #[.bool (zb (psE a b v w) (psB a b v w)), .int .i64 (psE a b v w)]) (by kernel_rfl) rfl) (v := .int .i64 w) (by kernel_rfl) rfl) (v := .int .i64 v) (by kernel_rfl) rfl) (v := .agg #[.int .i64 a, .int .i64 b]) (by kernel_rfl) rfl) (v := .int .i64 0) (by kernel_rfl) rfl) (v := .pointer (some ⟨g7, 0, none⟩)) (by kernel_rfl) rfl) (v := .pointer (some ⟨g3, 0, none⟩)) (by kernel_rfl) rfl) (v := .int .i64 w) (by kernel_rfl) rfl) (v := .int .i64 v) (by kernel_rfl) rfl) (v := .agg #[.int .i64 a, .int .i64 b]) (by kernel_rfl) rfl) (v := .bool (decide (Int.tdiv ((a * a + b * b) * v * v) (gcdE (a * a * w * w) ((a * a + b * b) * v * v)) > 1000000000))) (by kernel_rfl) (congrArg Value.bool (b_or_f h65 (Eq.refl (decide (Int.tdiv ((a * a + b * b) * v * v) (gcdE (a * a * w * w) ((a * a + b * b) * v * v)) > 1000000000)))).symm)), S59.sub sub_all sub_all⟩
    · rintro ac wc ⟨A76, S77⟩
      refine n_then ?_
      refine c_ifb (b := ((decide (Int.tdiv (a * a * w * w) (gcdE (a * a * w * w) ((a * a + b * b) * v * v)) > 1000000000)) || (decide (Int.tdiv ((a * a + b * b) * v * v) (gcdE (a * a * w * w) ((a * a + b * b) * v * v)) > 1000000000)))) A76 (by kernel_rfl) (fun h78 => ?_) (fun h78 => ?_)
      · have hl : bsL a b v w = true := h78
        have eb := bsE_3 zp zb1 hl
        have zn : bsE a b v w ≠ 0 := by rw [eb]; decide
        refine wp_seq ?_
        refine wp_region_lit ?_
        refine s_one (.agg #[.int .i64 0, .int .i64 0]) A76 S77 (g_build (r := []) (by kernel_rfl) (fun _ => by kernel_rfl)) rfl (fun ac A79 => ?_)
        refine s_store (g := g7) (off := 0) (v := .agg #[.int .i64 0, .int .i64 0]) 2 (#[.int .i64 0, .int .i64 0]) A79 S77 (by kernel_rfl) (by kernel_rfl) rfl (by kernel_rfl) (fun wc S81 => ?_)
        refine s_one (.int .i64 8) A79 S81 (g_assign (by kernel_rfl)) rfl (fun ac A83 => ?_)
        refine wpList_nil ?_
        refine n_then ?_
        refine wp_ret ?_
        refine r_then ?_
        refine fin2 (.agg #[.int .i64 0, .int .i64 0]) (.int .i64 8) Try.results46 A83 S81 (rv_cell (g := g7) (off := 0) 2 (by kernel_rfl) rfl (by kernel_rfl)) (rv_tmp (by kernel_rfl)) ⟨?_, S81.kp⟩
        simp only [zv_n zn]
        rw [eb]
        rfl
      · have h84 := (Bool.or_eq_false_iff.1 h78).1
        have p85 := of_decide_eq_false h84
        have h86 := (Bool.or_eq_false_iff.1 h78).2
        have p87 := of_decide_eq_false h86
        have hl : bsL a b v w = false := h78
        have eb := bsE_3 zp zb1 hl
        refine wp_skip ?_
        refine n_then ?_
        refine wp_seq ?_
        refine wp_region_lit ?_
        refine s_one (.agg #[.int .i64 (Int.tdiv (a * a * w * w) (gcdE (a * a * w * w) ((a * a + b * b) * v * v))), .int .i64 (Int.tdiv ((a * a + b * b) * v * v) (gcdE (a * a * w * w) ((a * a + b * b) * v * v)))]) A76 S77 (g_load (g := g57) (off := 0) 0 (by kernel_rfl) rfl (by kernel_rfl)) rfl (fun ac A88 => ?_)
        refine s_store (g := g7) (off := 0) (v := .agg #[.int .i64 (Int.tdiv (a * a * w * w) (gcdE (a * a * w * w) ((a * a + b * b) * v * v))), .int .i64 (Int.tdiv ((a * a + b * b) * v * v) (gcdE (a * a * w * w) ((a * a + b * b) * v * v)))]) 2 (#[.int .i64 (Int.tdiv (a * a * w * w) (gcdE (a * a * w * w) ((a * a + b * b) * v * v))), .int .i64 (Int.tdiv ((a * a + b * b) * v * v) (gcdE (a * a * w * w) ((a * a + b * b) * v * v)))]) A88 S77 (by kernel_rfl) (by kernel_rfl) rfl (by kernel_rfl) (fun wc S90 => ?_)
        refine s_one (.int .i64 0) A88 S90 (g_assign (by kernel_rfl)) rfl (fun ac A92 => ?_)
        refine wpList_nil ?_
        refine n_then ?_
        refine wp_ret ?_
        refine fin2 (.agg #[.int .i64 (Int.tdiv (a * a * w * w) (gcdE (a * a * w * w) ((a * a + b * b) * v * v))), .int .i64 (Int.tdiv ((a * a + b * b) * v * v) (gcdE (a * a * w * w) ((a * a + b * b) * v * v)))]) (.int .i64 0) Try.results46 A92 S90 (rv_cell (g := g7) (off := 0) 2 (by kernel_rfl) rfl (by kernel_rfl)) (rv_tmp (by kernel_rfl)) ⟨?_, S90.kp⟩
        have zy : bsE a b v w = 0 := eb
        simp only [zv_0 zy]
        rw [zy]
        rfl

theorem small_lg {x y : Int} (hx : 0 ≤ x) (hy : 1 ≤ y) : (inB x (-1000000000) 1000000000 && inB y 1 1000000000) = !(decide (x > 1000000000) || decide (y > 1000000000)) := by
  unfold inB
  by_cases h1 : x > 1000000000 <;> by_cases h2 : y > 1000000000 <;> simp [h1, h2] <;> omega
theorem bsE_s {a b v w : Int} (h : psE a b v w = 0) (h2 : psB a b v w = true) {l : Bool} (h3 : (inB (bsN a b v w) (-1000000000) 1000000000 && inB (bsD a b v w) 1 1000000000) = l) : bsE a b v w = bif l then 0 else 8 := by
  have bb := bs_bd h
  rw [small_lg bb.1 bb.2.1] at h3
  subst h3
  rw [bsE_3 h h2 rfl]
  unfold bsL
  cases (decide (bsN a b v w > 1000000000) || decide (bsD a b v w > 1000000000)) <;> rfl
theorem bsN_r (a b v w : Int) : Int.tdiv (a * a * w * w) (gcdE (a * a * w * w) (v * v * (a * a + b * b))) = bsN a b v w := by unfold bsN; rw [den_eq]
theorem bsD_r (a b v w : Int) : Int.tdiv (v * v * (a * a + b * b)) (gcdE (a * a * w * w) (v * v * (a * a + b * b))) = bsD a b v w := by unfold bsD; rw [den_eq]

def smB (p q : Int) : Bool := inB p (-1000000000) 1000000000 && inB q 1 1000000000

set_option maxRecDepth 100000 in
set_option maxHeartbeats 400000 in
theorem IsSmall_s (p q : Int) (w0 : World) :
    Calls Try.prog 114 #[.agg #[.int .i64 p, .int .i64 q]] w0 fun e w' => e = .returned (.bool (smB p q)) ∧ Below w0.heap.size w0 w' := by
  have S0 := St.start w0
  refine enter (n := 11) Try.func114 rfl rfl rfl (fun ac A0 => ?_)
  refine wp_seq ?_
  refine wp_region_lit ?_
  refine s_box (.agg #[.int .i64 p, .int .i64 q]) A0 S0 (by kernel_rfl) rfl (fun g3 ac wc A1 S2 => ?_)
  replace S2 : St _ (⟨g3, 75, #[.int .i64 p, .int .i64 q], true⟩ :: _) _ _ := S2
  refine s_one (.bool false) A1 S2 (g_assign (by kernel_rfl)) rfl (fun ac A5 => ?_)
  refine wpList_nil ?_
  refine n_then ?_
  refine wp_seq ?_
  refine c_cut (fun ac wc => Fr 11 ac [(2, .bool ((inB p (-1000000000) 1000000000) && (inB q 1 1000000000))), (0, .agg #[.int .i64 p, .int .i64 q]), (1, .pointer (some ⟨g3, 0, none⟩))] ∧ St w0 [⟨g3, 75, #[.int .i64 p, .int .i64 q], true⟩] [] wc) ?_ ?_
  · refine wp_region_lit ?_
    refine s_one (.pointer (some ⟨g3, 0, none⟩)) A5 S2 (g_field (u := .pointer (some ⟨g3, 0, none⟩)) (by kernel_rfl) (fun _ => by kernel_rfl)) rfl (fun ac A6 => ?_)
    refine s_one (.int .i64 p) A6 S2 (g_load (g := g3) (off := 0) 0 (by kernel_rfl) rfl (by kernel_rfl)) rfl (fun ac A7 => ?_)
    refine s_call (fs := #[]) (cp := #[]) (r := [(0, .int .i64 p), (0, .int .i64 (-1000000000)), (0, .int .i64 1000000000)]) #[.int .i64 p, .int .i64 (-1000000000), .int .i64 1000000000] (.bool (inB p (-1000000000) 1000000000)) A7 S2 (Within_s p (-1000000000) 1000000000 _) Try.call26 (by kernel_rfl) (by kernel_rfl) (by kernel_rfl) rfl (fun ac wc A8 S9 => ?_)
    refine s_one (.bool (inB p (-1000000000) 1000000000)) A8 S9 (g_move (by kernel_rfl)) rfl (fun ac A11 => ?_)
    refine by_bool (inB p (-1000000000) 1000000000) (fun h12 => ?_) (fun h12 => ?_)
    · refine s_want (dj := 6) (b := (inB p (-1000000000) 1000000000)) A11 (by kernel_rfl) (by kernel_rfl) h12 ?_
      refine s_one (.pointer (some ⟨g3, 1, none⟩)) A11 S9 (g_field (u := .pointer (some ⟨g3, 0, none⟩)) (by kernel_rfl) (fun _ => by kernel_rfl)) rfl (fun ac A13 => ?_)
      refine s_want (dj := 6) (b := (inB p (-1000000000) 1000000000)) A13 (by kernel_rfl) (by kernel_rfl) h12 ?_
      refine s_one (.int .i64 q) A13 S9 (g_load (g := g3) (off := 1) 0 (by kernel_rfl) rfl (by kernel_rfl)) rfl (fun ac A14 => ?_)
      refine s_want (dj := 6) (b := (inB p (-1000000000) 1000000000)) A14 (by kernel_rfl) (by kernel_rfl) h12 ?_
      refine s_call (fs := #[]) (cp := #[]) (r := [(0, .int .i64 q), (0, .int .i64 1), (0, .int .i64 1000000000)]) #[.int .i64 q, .int .i64 1, .int .i64 1000000000] (.bool (inB q 1 1000000000)) A14 S9 (Within_s q 1 1000000000 _) Try.call26 (by kernel_rfl) (by kernel_rfl) (by kernel_rfl) rfl (fun ac wc A15 S16 => ?_)
      refine s_one (.bool (inB q 1 1000000000)) A15 S16 (g_pick_t (b := (inB p (-1000000000) 1000000000)) (by kernel_rfl) h12 (by kernel_rfl)) rfl (fun ac A18 => ?_)
      refine s_one (.bool (inB q 1 1000000000)) A18 S16 (g_assign (by kernel_rfl)) rfl (fun ac A19 => ?_)
      refine wpList_nil ?_
      refine n_then ?_
      exact ⟨(A19.slot (A19.slot (A19.slot A19.nil (v := .pointer (some ⟨g3, 0, none⟩)) (by kernel_rfl) rfl) (v := .agg #[.int .i64 p, .int .i64 q]) (by kernel_rfl) rfl) (v := .bool (inB q 1 1000000000)) (by kernel_rfl) (congrArg Value.bool (b_and_t h12 (Eq.refl (inB q 1 1000000000))).symm)), S16.sub sub_all sub_all⟩
    · refine s_not (dj := 6) (b := (inB p (-1000000000) 1000000000)) A11 (by kernel_rfl) (by kernel_rfl) h12 rfl (fun ac A20 => ?_)
      refine s_not (dj := 6) (b := (inB p (-1000000000) 1000000000)) A20 (by kernel_rfl) (by kernel_rfl) h12 rfl (fun ac A21 => ?_)
      refine s_not (dj := 6) (b := (inB p (-1000000000) 1000000000)) A21 (by kernel_rfl) (by kernel_rfl) h12 rfl (fun ac A22 => ?_)
      refine s_one (.bool false) A22 S9 (g_pick_f (b := (inB p (-1000000000) 1000000000)) (by kernel_rfl) h12 (by kernel_rfl)) rfl (fun ac A23 => ?_)
      refine s_one (.bool false) A23 S9 (g_assign (by kernel_rfl)) rfl (fun ac A24 => ?_)
      refine wpList_nil ?_
      refine n_then ?_
      exact ⟨(A24.slot (A24.slot (A24.slot A24.nil (v := .pointer (some ⟨g3, 0, none⟩)) (by kernel_rfl) rfl) (v := .agg #[.int .i64 p, .int .i64 q]) (by kernel_rfl) rfl) (v := .bool false) (by kernel_rfl) (congrArg Value.bool (b_af1 h12).symm)), S9.sub sub_all sub_all⟩
  · rintro ac wc ⟨A25, S26⟩
    refine n_then ?_
    refine wp_ret ?_
    refine fin1 (.bool ((inB p (-1000000000) 1000000000) && (inB q 1 1000000000))) Try.results114 A25 S26 (rv_tmp (by kernel_rfl)) ⟨?_, S26.kp⟩
    rfl

theorem LowestB_s (a b v w : Int) (w0 : World) (h0 : -9223372036854775807 ≤ a * a * w * w) (h1 : a * a * w * w ≤ 9223372036854775807) (h2 : 1 ≤ v * v * (a * a + b * b)) (h3 : v * v * (a * a + b * b) ≤ 9223372036854775807) :
    Calls Try.prog 113 #[.int .i64 (a * a * w * w), .int .i64 (v * v * (a * a + b * b))] w0 fun e w' => e = .returned (.agg #[.int .i64 (bsN a b v w), .int .i64 (bsD a b v w)]) ∧ Below w0.heap.size w0 w' := by
  have h := Lowest_s (a * a * w * w) (v * v * (a * a + b * b)) w0 h0 h1 h2 h3
  rw [bsN_r, bsD_r] at h
  exact h

set_option maxRecDepth 100000 in
set_option maxHeartbeats 400000 in
theorem refBehindSquare_s (a b v w : Int) (w0 : World) (ze : psE a b v w = 0) :
    Calls Try.prog 69 #[.agg #[.int .i64 a, .int .i64 b], .int .i64 v, .int .i64 w] w0 fun e w' => e = .returned (.tuple #[.agg #[.int .i64 (zv (bsE a b v w) (bsN a b v w)), .int .i64 (zv (bsE a b v w) (bsD a b v w))], .int .i64 (bsE a b v w)]) ∧ Below w0.heap.size w0 w' := by
  have S0 := St.start w0
  have zz := psE_0 ze
  have q := dv_bd zz.1.1 zz.1.2 zz.2.1 zz.2.2
  have q2 := den_eq a b v
  have bb := bs_bd ze
  refine enter (n := 45) Try.func69 rfl rfl rfl (fun ac A0 => ?_)
  refine wp_seq ?_
  refine wp_region_lit ?_
  refine s_box (.agg #[.int .i64 a, .int .i64 b]) A0 S0 (by kernel_rfl) rfl (fun g3 ac wc A1 S2 => ?_)
  replace S2 : St _ (⟨g3, 71, #[.int .i64 a, .int .i64 b], true⟩ :: _) _ _ := S2
  refine s_alloc (#[.int .i64 0, .int .i64 0]) A1 S2 (by kernel_rfl) rfl (fun g7 ac wc A5 S6 => ?_)
  refine s_one (.int .i64 0) A5 S6 (g_assign (by kernel_rfl)) rfl (fun ac A8 => ?_)
  refine wpList_nil ?_
  refine n_then ?_
  refine wp_seq ?_
  refine wp_seq ?_
  refine wp_region_lit ?_
  refine s_one (.agg #[.int .i64 a, .int .i64 b]) A8 S6 (g_load (g := g3) (off := 0) 1 (by kernel_rfl) rfl (by kernel_rfl)) rfl (fun ac A9 => ?_)
  refine s_one (.int .i64 v) A9 S6 (g_move (by kernel_rfl)) rfl (fun ac A10 => ?_)
  refine s_one (.int .i64 w) A10 S6 (g_move (by kernel_rfl)) rfl (fun ac A11 => ?_)
  refine s_call (fs := #[]) (cp := #[]) (r := [(0, .agg #[.int .i64 a, .int .i64 b]), (0, .int .i64 v), (0, .int .i64 w)]) #[.agg #[.int .i64 a, .int .i64 b], .int .i64 v, .int .i64 w] (.bool (zb (psE a b v w) (psB a b v w))) A11 S6 (refPasses_s a b v w _ ze) Try.call70 (by kernel_rfl) (by kernel_rfl) (by kernel_rfl) rfl (fun ac wc A12 S13 => ?_)
  refine s_one (.bool (!(zb (psE a b v w) (psB a b v w)))) A12 S13 (g_un (u := .bool (zb (psE a b v w) (psB a b v w))) (by kernel_rfl) (fun _ => by kernel_rfl)) rfl (fun ac A15 => ?_)
  refine wpList_nil ?_
  refine n_then ?_
  refine c_ifb (b := (!(zb (psE a b v w) (psB a b v w)))) A15 (by kernel_rfl) (fun h16 => ?_) (fun h16 => ?_)
  · have h17 : zb (psE a b v w) (psB a b v w) = false := by simpa using h16
    have zb1 : psB a b v w = false := by rw [← zb_0 ze (psB a b v w)]; exact h17
    have eb := bsE_12 ze zb1
    have zn : bsE a b v w ≠ 0 := by rw [eb]; decide
    refine wp_seq ?_
    refine wp_region_lit ?_
    refine s_one (.agg #[.int .i64 0, .int .i64 0]) A15 S13 (g_build (r := []) (by kernel_rfl) (fun _ => by kernel_rfl)) rfl (fun ac A18 => ?_)
    refine s_store (g := g7) (off := 0) (v := .agg #[.int .i64 0, .int .i64 0]) 0 (#[.int .i64 0, .int .i64 0]) A18 S13 (by kernel_rfl) (by kernel_rfl) rfl (by kernel_rfl) (fun wc S20 => ?_)
    refine s_one (.int .i64 12) A18 S20 (g_assign (by kernel_rfl)) rfl (fun ac A22 => ?_)
    refine wpList_nil ?_
    refine n_then ?_
    refine wp_ret ?_
    refine r_then ?_
    refine fin2 (.agg #[.int .i64 0, .int .i64 0]) (.int .i64 12) Try.results69 A22 S20 (rv_cell (g := g7) (off := 0) 0 (by kernel_rfl) rfl (by kernel_rfl)) (rv_tmp (by kernel_rfl)) ⟨?_, S20.kp⟩
    simp only [zv_n zn]
    rw [eb]
  · have h23 : zb (psE a b v w) (psB a b v w) = true := by simpa using h16
    have zb1 : psB a b v w = true := by rw [← zb_0 ze (psB a b v w)]; exact h23
    refine wp_skip ?_
    refine n_then ?_
    refine wp_seq ?_
    refine wp_region_lit ?_
    refine s_one (.pointer (some ⟨g3, 0, none⟩)) A15 S13 (g_index (u := .pointer (some ⟨g3, 0, none⟩)) (k := .int .i64 0) (by kernel_rfl) (by kernel_rfl) (fun _ => by kernel_rfl)) rfl (fun ac A24 => ?_)
    refine s_one (.int .i64 a) A24 S13 (g_load (g := g3) (off := 0) 1 (by kernel_rfl) rfl (by kernel_rfl)) rfl (fun ac A25 => ?_)
    refine s_one (.pointer (some ⟨g3, 0, none⟩)) A25 S13 (g_index (u := .pointer (some ⟨g3, 0, none⟩)) (k := .int .i64 0) (by kernel_rfl) (by kernel_rfl) (fun _ => by kernel_rfl)) rfl (fun ac A26 => ?_)
    refine s_one (.int .i64 a) A26 S13 (g_load (g := g3) (off := 0) 1 (by kernel_rfl) rfl (by kernel_rfl)) rfl (fun ac A27 => ?_)
    refine s_one (.int .i64 (a * a)) A27 S13 (g_bin (u := .int .i64 a) (k := .int .i64 a) (by kernel_rfl) (by kernel_rfl) (fun _ => by kernel_rfl) (b_mul (by omega))) rfl (fun ac A28 => ?_)
    refine s_one (.int .i64 w) A28 S13 (g_move (by kernel_rfl)) rfl (fun ac A29 => ?_)
    refine s_one (.int .i64 ((a * a) * w)) A29 S13 (g_bin (u := .int .i64 (a * a)) (k := .int .i64 w) (by kernel_rfl) (by kernel_rfl) (fun _ => by kernel_rfl) (b_mul (by omega))) rfl (fun ac A30 => ?_)
    refine s_one (.int .i64 w) A30 S13 (g_move (by kernel_rfl)) rfl (fun ac A31 => ?_)
    refine s_one (.int .i64 (((a * a) * w) * w)) A31 S13 (g_bin (u := .int .i64 ((a * a) * w)) (k := .int .i64 w) (by kernel_rfl) (by kernel_rfl) (fun _ => by kernel_rfl) (b_mul (by omega))) rfl (fun ac A32 => ?_)
    refine s_one (.int .i64 v) A32 S13 (g_move (by kernel_rfl)) rfl (fun ac A33 => ?_)
    refine s_one (.int .i64 v) A33 S13 (g_move (by kernel_rfl)) rfl (fun ac A34 => ?_)
    refine s_one (.int .i64 (v * v)) A34 S13 (g_bin (u := .int .i64 v) (k := .int .i64 v) (by kernel_rfl) (by kernel_rfl) (fun _ => by kernel_rfl) (b_mul (by omega))) rfl (fun ac A35 => ?_)
    refine s_one (.pointer (some ⟨g3, 0, none⟩)) A35 S13 (g_index (u := .pointer (some ⟨g3, 0, none⟩)) (k := .int .i64 0) (by kernel_rfl) (by kernel_rfl) (fun _ => by kernel_rfl)) rfl (fun ac A36 => ?_)
    refine s_one (.int .i64 a) A36 S13 (g_load (g := g3) (off := 0) 1 (by kernel_rfl) rfl (by kernel_rfl)) rfl (fun ac A37 => ?_)
    refine s_one (.pointer (some ⟨g3, 0, none⟩)) A37 S13 (g_index (u := .pointer (some ⟨g3, 0, none⟩)) (k := .int .i64 0) (by kernel_rfl) (by kernel_rfl) (fun _ => by kernel_rfl)) rfl (fun ac A38 => ?_)
    refine s_one (.int .i64 a) A38 S13 (g_load (g := g3) (off := 0) 1 (by kernel_rfl) rfl (by kernel_rfl)) rfl (fun ac A39 => ?_)
    refine s_one (.int .i64 (a * a)) A39 S13 (g_bin (u := .int .i64 a) (k := .int .i64 a) (by kernel_rfl) (by kernel_rfl) (fun _ => by kernel_rfl) (b_mul (by omega))) rfl (fun ac A40 => ?_)
    refine s_one (.pointer (some ⟨g3, 1, none⟩)) A40 S13 (g_index (u := .pointer (some ⟨g3, 0, none⟩)) (k := .int .i64 1) (by kernel_rfl) (by kernel_rfl) (fun _ => by kernel_rfl)) rfl (fun ac A41 => ?_)
    refine s_one (.int .i64 b) A41 S13 (g_load (g := g3) (off := 1) 1 (by kernel_rfl) rfl (by kernel_rfl)) rfl (fun ac A42 => ?_)
    refine s_one (.pointer (some ⟨g3, 1, none⟩)) A42 S13 (g_index (u := .pointer (some ⟨g3, 0, none⟩)) (k := .int .i64 1) (by kernel_rfl) (by kernel_rfl) (fun _ => by kernel_rfl)) rfl (fun ac A43 => ?_)
    refine s_one (.int .i64 b) A43 S13 (g_load (g := g3) (off := 1) 1 (by kernel_rfl) rfl (by kernel_rfl)) rfl (fun ac A44 => ?_)
    refine s_one (.int .i64 (b * b)) A44 S13 (g_bin (u := .int .i64 b) (k := .int .i64 b) (by kernel_rfl) (by kernel_rfl) (fun _ => by kernel_rfl) (b_mul (by omega))) rfl (fun ac A45 => ?_)
    refine s_one (.int .i64 (a * a + (b * b))) A45 S13 (g_bin (u := .int .i64 (a * a)) (k := .int .i64 (b * b)) (by kernel_rfl) (by kernel_rfl) (fun _ => by kernel_rfl) (b_add (by omega))) rfl (fun ac A46 => ?_)
    refine s_one (.int .i64 ((v * v) * (a * a + (b * b)))) A46 S13 (g_bin (u := .int .i64 (v * v)) (k := .int .i64 (a * a + (b * b))) (by kernel_rfl) (by kernel_rfl) (fun _ => by kernel_rfl) (b_mul (by omega))) rfl (fun ac A47 => ?_)
    refine s_call (fs := #[]) (cp := #[]) (r := [(0, .int .i64 (((a * a) * w) * w)), (0, .int .i64 ((v * v) * (a * a + (b * b))))]) #[.int .i64 (((a * a) * w) * w), .int .i64 ((v * v) * (a * a + (b * b)))] (.agg #[.int .i64 (bsN a b v w), .int .i64 (bsD a b v w)]) A47 S13 (LowestB_s a b v w _ (by omega) (by omega) (by omega) (by omega)) Try.call113 (by kernel_rfl) (by kernel_rfl) (by kernel_rfl) rfl (fun ac wc A48 S49 => ?_)
    refine s_alloc (#[.int .i64 0, .int .i64 0]) A48 S49 (by kernel_rfl) rfl (fun g53 ac wc A51 S52 => ?_)
    refine s_store (g := g53) (off := 0) (v := .agg #[.int .i64 (bsN a b v w), .int .i64 (bsD a b v w)]) 0 (#[.int .i64 (bsN a b v w), .int .i64 (bsD a b v w)]) A51 S52 (by kernel_rfl) (by kernel_rfl) rfl (by kernel_rfl) (fun wc S55 => ?_)
    refine wpList_nil ?_
    refine n_then ?_
    refine wp_seq ?_
    refine wp_seq ?_
    refine wp_region_lit ?_
    refine s_one (.agg #[.int .i64 (bsN a b v w), .int .i64 (bsD a b v w)]) A51 S55 (g_load (g := g53) (off := 0) 0 (by kernel_rfl) rfl (by kernel_rfl)) rfl (fun ac A57 => ?_)
    refine s_call (fs := #[]) (cp := #[]) (r := [(0, .agg #[.int .i64 (bsN a b v w), .int .i64 (bsD a b v w)])]) #[.agg #[.int .i64 (bsN a b v w), .int .i64 (bsD a b v w)]] (.bool (smB (bsN a b v w) (bsD a b v w))) A57 S55 (IsSmall_s (bsN a b v w) (bsD a b v w) _) Try.call114 (by kernel_rfl) (by kernel_rfl) (by kernel_rfl) rfl (fun ac wc A58 S59 => ?_)
    refine s_one (.bool (!(smB (bsN a b v w) (bsD a b v w)))) A58 S59 (g_un (u := .bool (smB (bsN a b v w) (bsD a b v w))) (by kernel_rfl) (fun _ => by kernel_rfl)) rfl (fun ac A61 => ?_)
    refine wpList_nil ?_
    refine n_then ?_
    refine c_ifb (b := (!(smB (bsN a b v w) (bsD a b v w)))) A61 (by kernel_rfl) (fun h62 => ?_) (fun h62 => ?_)
    · have h63 : smB (bsN a b v w) (bsD a b v w) = false := by simpa using h62
      have eb := bsE_s ze zb1 h63
      have zn : bsE a b v w ≠ 0 := by rw [eb]; decide
      refine wp_seq ?_
      refine wp_region_lit ?_
      refine s_one (.agg #[.int .i64 0, .int .i64 0]) A61 S59 (g_build (r := []) (by kernel_rfl) (fun _ => by kernel_rfl)) rfl (fun ac A64 => ?_)
      refine s_store (g := g7) (off := 0) (v := .agg #[.int .i64 0, .int .i64 0]) 1 (#[.int .i64 0, .int .i64 0]) A64 S59 (by kernel_rfl) (by kernel_rfl) rfl (by kernel_rfl) (fun wc S66 => ?_)
      refine s_one (.int .i64 8) A64 S66 (g_assign (by kernel_rfl)) rfl (fun ac A68 => ?_)
      refine wpList_nil ?_
      refine n_then ?_
      refine wp_ret ?_
      refine r_then ?_
      refine fin2 (.agg #[.int .i64 0, .int .i64 0]) (.int .i64 8) Try.results69 A68 S66 (rv_cell (g := g7) (off := 0) 1 (by kernel_rfl) rfl (by kernel_rfl)) (rv_tmp (by kernel_rfl)) ⟨?_, S66.kp⟩
      simp only [zv_n zn]
      rw [eb]
      rfl
    · have h69 : smB (bsN a b v w) (bsD a b v w) = true := by simpa using h62
      have eb := bsE_s ze zb1 h69
      refine wp_skip ?_
      refine n_then ?_
      refine wp_seq ?_
      refine wp_region_lit ?_
      refine s_one (.agg #[.int .i64 (bsN a b v w), .int .i64 (bsD a b v w)]) A61 S59 (g_load (g := g53) (off := 0) 0 (by kernel_rfl) rfl (by kernel_rfl)) rfl (fun ac A70 => ?_)
      refine s_store (g := g7) (off := 0) (v := .agg #[.int .i64 (bsN a b v w), .int .i64 (bsD a b v w)]) 1 (#[.int .i64 (bsN a b v w), .int .i64 (bsD a b v w)]) A70 S59 (by kernel_rfl) (by kernel_rfl) rfl (by kernel_rfl) (fun wc S72 => ?_)
      refine s_one (.int .i64 0) A70 S72 (g_assign (by kernel_rfl)) rfl (fun ac A74 => ?_)
      refine wpList_nil ?_
      refine n_then ?_
      refine wp_ret ?_
      refine fin2 (.agg #[.int .i64 (bsN a b v w), .int .i64 (bsD a b v w)]) (.int .i64 0) Try.results69 A74 S72 (rv_cell (g := g7) (off := 0) 1 (by kernel_rfl) rfl (by kernel_rfl)) (rv_tmp (by kernel_rfl)) ⟨?_, S72.kp⟩
      have zy : bsE a b v w = 0 := eb
      simp only [zv_0 zy]
      rw [zy]

theorem cs_12 {a b : Int} (h1 : veE a = 0) (h2 : veE b = 0) (h : a ≥ b) : csE a b = 12 := by
  unfold csE; rw [fo_cons0 h1, fo_cons0 h2, fo_last, decide_eq_false (by omega)]; rfl
theorem cs_ok {a b : Int} (h1 : veE a = 0) (h2 : veE b = 0) (h : ¬ a ≥ b) : csE a b = 0 := by
  unfold csE; rw [fo_cons0 h1, fo_cons0 h2, fo_last, decide_eq_true (by omega)]; rfl
theorem cs_1 {a b : Int} (h1 : veE a ≠ 0) : csE a b = veE a := fo_ne h1
theorem cs_2 {a b : Int} (h1 : veE a = 0) (h2 : veE b ≠ 0) : csE a b = veE b := by unfold csE; rw [fo_cons0 h1, fo_ne h2]
theorem sv_bd {v : Int} (hv : 500 ≤ v ∧ v ≤ 10000) : 250000 ≤ v * v ∧ v * v ≤ 100000000 := by
  have v1 := sq_le (a := 500) (b := v) (by omega) hv.1; have v2 := sq_le (a := v) (b := 10000) (by omega) hv.2
  omega

set_option maxRecDepth 100000 in
set_option maxHeartbeats 400000 in
theorem refCriticalSquare_s (a b : Int) (w0 : World) (h1 : veE a = 0) (h2 : veE b = 0) :
    Calls Try.prog 68 #[.int .i64 a, .int .i64 b] w0 fun e w' => e = .returned (.tuple #[.agg #[.int .i64 (zv (csE a b) ((a * a).tdiv (gcdE (a * a) (b * b)))), .int .i64 (zv (csE a b) ((b * b).tdiv (gcdE (a * a) (b * b))))], .int .i64 (csE a b)]) ∧ Below w0.heap.size w0 w' := by
  have S0 := St.start w0
  have p1 := veE_0 h1
  have p2 := veE_0 h2
  have s1 := sv_bd p1
  have s2 := sv_bd p2
  refine enter (n := 17) Try.func68 rfl rfl rfl (fun ac A0 => ?_)
  refine wp_seq ?_
  refine wp_region_lit ?_
  refine s_alloc (#[.int .i64 0, .int .i64 0]) A0 S0 (by kernel_rfl) rfl (fun g3 ac wc A1 S2 => ?_)
  refine s_one (.int .i64 0) A1 S2 (g_assign (by kernel_rfl)) rfl (fun ac A4 => ?_)
  refine wpList_nil ?_
  refine n_then ?_
  refine wp_seq ?_
  refine wp_seq ?_
  refine wp_region_lit ?_
  refine s_one (.int .i64 a) A4 S2 (g_move (by kernel_rfl)) rfl (fun ac A5 => ?_)
  refine s_one (.int .i64 b) A5 S2 (g_move (by kernel_rfl)) rfl (fun ac A6 => ?_)
  refine s_one (.bool (decide (a ≥ b))) A6 S2 (g_bin (u := .int .i64 a) (k := .int .i64 b) (by kernel_rfl) (by kernel_rfl) (fun _ => by kernel_rfl) (fun _ => by kernel_rfl)) rfl (fun ac A7 => ?_)
  refine wpList_nil ?_
  refine n_then ?_
  refine c_ifb (b := (decide (a ≥ b))) A7 (by kernel_rfl) (fun h8 => ?_) (fun h8 => ?_)
  · have p9 := of_decide_eq_true h8
    refine wp_seq ?_
    refine wp_region_lit ?_
    refine s_one (.agg #[.int .i64 0, .int .i64 0]) A7 S2 (g_build (r := []) (by kernel_rfl) (fun _ => by kernel_rfl)) rfl (fun ac A10 => ?_)
    refine s_store (g := g3) (off := 0) (v := .agg #[.int .i64 0, .int .i64 0]) 0 (#[.int .i64 0, .int .i64 0]) A10 S2 (by kernel_rfl) (by kernel_rfl) rfl (by kernel_rfl) (fun wc S12 => ?_)
    refine s_one (.int .i64 12) A10 S12 (g_assign (by kernel_rfl)) rfl (fun ac A14 => ?_)
    refine wpList_nil ?_
    refine n_then ?_
    refine wp_ret ?_
    refine r_then ?_
    refine fin2 (.agg #[.int .i64 0, .int .i64 0]) (.int .i64 12) Try.results68 A14 S12 (rv_cell (g := g3) (off := 0) 0 (by kernel_rfl) rfl (by kernel_rfl)) (rv_tmp (by kernel_rfl)) ⟨?_, S12.kp⟩
    have zn : csE a b ≠ 0 := by rw [cs_12 h1 h2 p9]; decide
    simp only [zv_n zn]
    rw [cs_12 h1 h2 p9]
  · have p15 := of_decide_eq_false h8
    refine wp_skip ?_
    refine n_then ?_
    refine wp_seq ?_
    refine wp_region_lit ?_
    refine s_one (.int .i64 a) A7 S2 (g_move (by kernel_rfl)) rfl (fun ac A16 => ?_)
    refine s_one (.int .i64 a) A16 S2 (g_move (by kernel_rfl)) rfl (fun ac A17 => ?_)
    refine s_one (.int .i64 (a * a)) A17 S2 (g_bin (u := .int .i64 a) (k := .int .i64 a) (by kernel_rfl) (by kernel_rfl) (fun _ => by kernel_rfl) (b_mul (by omega))) rfl (fun ac A18 => ?_)
    refine s_one (.int .i64 b) A18 S2 (g_move (by kernel_rfl)) rfl (fun ac A19 => ?_)
    refine s_one (.int .i64 b) A19 S2 (g_move (by kernel_rfl)) rfl (fun ac A20 => ?_)
    refine s_one (.int .i64 (b * b)) A20 S2 (g_bin (u := .int .i64 b) (k := .int .i64 b) (by kernel_rfl) (by kernel_rfl) (fun _ => by kernel_rfl) (b_mul (by omega))) rfl (fun ac A21 => ?_)
    refine s_call (fs := #[]) (cp := #[]) (r := [(0, .int .i64 (a * a)), (0, .int .i64 (b * b))]) #[.int .i64 (a * a), .int .i64 (b * b)] (.agg #[.int .i64 (Int.tdiv (a * a) (gcdE (a * a) (b * b))), .int .i64 (Int.tdiv (b * b) (gcdE (a * a) (b * b)))]) A21 S2 (Lowest_s (a * a) (b * b) _ (by omega) (by omega) (by omega) (by omega)) Try.call113 (by kernel_rfl) (by kernel_rfl) (by kernel_rfl) rfl (fun ac wc A22 S23 => ?_)
    refine s_store (g := g3) (off := 0) (v := .agg #[.int .i64 (Int.tdiv (a * a) (gcdE (a * a) (b * b))), .int .i64 (Int.tdiv (b * b) (gcdE (a * a) (b * b)))]) 0 (#[.int .i64 (Int.tdiv (a * a) (gcdE (a * a) (b * b))), .int .i64 (Int.tdiv (b * b) (gcdE (a * a) (b * b)))]) A22 S23 (by kernel_rfl) (by kernel_rfl) rfl (by kernel_rfl) (fun wc S26 => ?_)
    refine s_one (.int .i64 0) A22 S26 (g_assign (by kernel_rfl)) rfl (fun ac A28 => ?_)
    refine wpList_nil ?_
    refine n_then ?_
    refine wp_ret ?_
    refine fin2 (.agg #[.int .i64 (Int.tdiv (a * a) (gcdE (a * a) (b * b))), .int .i64 (Int.tdiv (b * b) (gcdE (a * a) (b * b)))]) (.int .i64 0) Try.results68 A28 S26 (rv_cell (g := g3) (off := 0) 0 (by kernel_rfl) rfl (by kernel_rfl)) (rv_tmp (by kernel_rfl)) ⟨?_, S26.kp⟩
    have zy := cs_ok h1 h2 p15
    simp only [zv_0 zy]
    rw [zy]

def shLow (p q : Int) : Bool := decide (q > 0) && decide (gcdE p q = 1)
def shE (p q : Int) : Int := bif shLow p q then (bif inB p 0 1000000000 && decide (q ≤ 1000000000) then 0 else 2) else 3
theorem shE_1 {p q : Int} (h : (decide (q ≤ 0) || decide (gcdE p q ≠ 1)) = true) : shE p q = 3 := by
  have : shLow p q = false := by unfold shLow; simp at h ⊢; omega
  unfold shE; rw [this]; rfl
theorem shE_l {p q : Int} (h : (decide (q ≤ 0) || decide (gcdE p q ≠ 1)) = false) : shLow p q = true := by
  unfold shLow; simp at h ⊢; omega
theorem shE_2 {p q : Int} (h : shLow p q = true) (h2 : (!(inB p 0 1000000000) || decide (q > 1000000000)) = true) : shE p q = 2 := by
  have : (inB p 0 1000000000 && decide (q ≤ 1000000000)) = false := by
    cases z : inB p 0 1000000000 with
    | false => rfl
    | true => rw [z] at h2; simp at h2 ⊢; omega
  unfold shE; rw [h, this]; rfl
theorem shE_3 {p q : Int} (h : shLow p q = true) (h2 : (!(inB p 0 1000000000) || decide (q > 1000000000)) = false) : shE p q = 0 := by
  have : (inB p 0 1000000000 && decide (q ≤ 1000000000)) = true := by
    cases z : inB p 0 1000000000 with
    | false => rw [z] at h2; simp at h2
    | true => rw [z] at h2; simp at h2 ⊢; omega
  unfold shE; rw [h, this]; rfl
theorem shE_4 {p q : Int} (h : shLow p q = false) : shE p q = 3 := by unfold shE; rw [h]; rfl
theorem shLow_q {p q : Int} (h : shLow p q = true) : 0 < q := by unfold shLow at h; simp at h; exact h.1
theorem shE_5 {p q : Int} (h : shLow p q = true) (h2 : (decide (p < 0) || !(smB p q)) = true) : shE p q = 2 := by
  have h0 := shLow_q h
  have : (inB p 0 1000000000 && decide (q ≤ 1000000000)) = false := by
    unfold smB inB at h2; unfold inB; simp at h2 ⊢; omega
  unfold shE; rw [h, this]; rfl
theorem shE_6 {p q : Int} (h : shLow p q = true) (h2 : (decide (p < 0) || !(smB p q)) = false) : shE p q = 0 := by
  have h0 := shLow_q h
  have : (inB p 0 1000000000 && decide (q ≤ 1000000000)) = true := by
    unfold smB inB at h2; unfold inB; simp at h2 ⊢; omega
  unfold shE; rw [h, this]; rfl
theorem shE_0 {p q : Int} (h : shE p q = 0) : (0 ≤ p ∧ p ≤ 1000000000) ∧ 1 ≤ q ∧ q ≤ 1000000000 := by
  unfold shE at h
  cases z : shLow p q with
  | false => rw [z] at h; simp at h
  | true =>
    rw [z] at h
    have h0 := shLow_q z
    cases y : (inB p 0 1000000000 && decide (q ≤ 1000000000)) with
    | false => rw [y] at h; simp at h
    | true => rw [Bool.and_eq_true, inB_true, decide_eq_true_eq] at y; exact ⟨y.1, by omega⟩

set_option maxRecDepth 100000 in
set_option maxHeartbeats 400000 in
theorem shareErr_s (p q : Int) (w0 : World) (hq : q ≤ 9223372036854775807) :
    Calls Try.prog 108 #[.agg #[.int .i64 p, .int .i64 q]] w0 fun e w' => e = .returned (.int .i64 (shE p q)) ∧ Below w0.heap.size w0 w' := by
  have S0 := St.start w0
  refine enter (n := 25) Try.func108 rfl rfl rfl (fun ac A0 => ?_)
  refine wp_seq ?_
  refine wp_region_lit ?_
  refine s_box (.agg #[.int .i64 p, .int .i64 q]) A0 S0 (by kernel_rfl) rfl (fun g3 ac wc A1 S2 => ?_)
  replace S2 : St _ (⟨g3, 75, #[.int .i64 p, .int .i64 q], true⟩ :: _) _ _ := S2
  refine s_one (.int .i64 0) A1 S2 (g_assign (by kernel_rfl)) rfl (fun ac A5 => ?_)
  refine wpList_nil ?_
  refine n_then ?_
  refine wp_seq ?_
  refine wp_block ?_
  refine wp_seq ?_
  refine c_cut (fun ac wc => Fr 25 ac [(3, .bool ((decide (q ≤ 0)) || (decide (gcdE p q ≠ 1)))), (0, .agg #[.int .i64 p, .int .i64 q]), (1, .pointer (some ⟨g3, 0, none⟩)), (2, .int .i64 0)] ∧ St w0 [⟨g3, 75, #[.int .i64 p, .int .i64 q], true⟩] [] wc) ?_ ?_
  · refine wp_region_lit ?_
    refine s_one (.pointer (some ⟨g3, 1, none⟩)) A5 S2 (g_field (u := .pointer (some ⟨g3, 0, none⟩)) (by kernel_rfl) (fun _ => by kernel_rfl)) rfl (fun ac A6 => ?_)
    refine s_one (.int .i64 q) A6 S2 (g_load (g := g3) (off := 1) 0 (by kernel_rfl) rfl (by kernel_rfl)) rfl (fun ac A7 => ?_)
    refine s_one (.bool (decide (q ≤ 0))) A7 S2 (g_bin (u := .int .i64 q) (k := .int .i64 0) (by kernel_rfl) (by kernel_rfl) (fun _ => by kernel_rfl) (fun _ => by kernel_rfl)) rfl (fun ac A8 => ?_)
    refine s_one (.bool (decide (q ≤ 0))) A8 S2 (g_move (by kernel_rfl)) rfl (fun ac A9 => ?_)
    refine by_bool (decide (q ≤ 0)) (fun h10 => ?_) (fun h10 => ?_)
    · have p11 := of_decide_eq_true h10
      refine s_not (dj := 7) (b := (decide (q ≤ 0))) A9 (by kernel_rfl) (by kernel_rfl) h10 rfl (fun ac A12 => ?_)
      refine s_not (dj := 7) (b := (decide (q ≤ 0))) A12 (by kernel_rfl) (by kernel_rfl) h10 rfl (fun ac A13 => ?_)
      refine s_not (dj := 7) (b := (decide (q ≤ 0))) A13 (by kernel_rfl) (by kernel_rfl) h10 rfl (fun ac A14 => ?_)
      refine s_not (dj := 7) (b := (decide (q ≤ 0))) A14 (by kernel_rfl) (by kernel_rfl) h10 rfl (fun ac A15 => ?_)
      refine s_not (dj := 7) (b := (decide (q ≤ 0))) A15 (by kernel_rfl) (by kernel_rfl) h10 rfl (fun ac A16 => ?_)
      refine s_not (dj := 7) (b := (decide (q ≤ 0))) A16 (by kernel_rfl) (by kernel_rfl) h10 rfl (fun ac A17 => ?_)
      refine s_one (.bool true) A17 S2 (g_pick_t (b := (decide (q ≤ 0))) (by kernel_rfl) h10 (by kernel_rfl)) rfl (fun ac A18 => ?_)
      refine s_one (.bool true) A18 S2 (g_assign (by kernel_rfl)) rfl (fun ac A19 => ?_)
      refine wpList_nil ?_
      refine n_then ?_
      exact ⟨(A19.slot (A19.slot (A19.slot (A19.slot A19.nil (v := .int .i64 0) (by kernel_rfl) rfl) (v := .pointer (some ⟨g3, 0, none⟩)) (by kernel_rfl) rfl) (v := .agg #[.int .i64 p, .int .i64 q]) (by kernel_rfl) rfl) (v := .bool true) (by kernel_rfl) (congrArg Value.bool (b_ot1 h10).symm)), S2.sub sub_all sub_all⟩
    · have p20 := of_decide_eq_false h10
      refine s_want (dj := 7) (b := (decide (q ≤ 0))) A9 (by kernel_rfl) (by kernel_rfl) h10 ?_
      refine s_one (.pointer (some ⟨g3, 0, none⟩)) A9 S2 (g_field (u := .pointer (some ⟨g3, 0, none⟩)) (by kernel_rfl) (fun _ => by kernel_rfl)) rfl (fun ac A21 => ?_)
      refine s_want (dj := 7) (b := (decide (q ≤ 0))) A21 (by kernel_rfl) (by kernel_rfl) h10 ?_
      refine s_one (.int .i64 p) A21 S2 (g_load (g := g3) (off := 0) 0 (by kernel_rfl) rfl (by kernel_rfl)) rfl (fun ac A22 => ?_)
      refine s_want (dj := 7) (b := (decide (q ≤ 0))) A22 (by kernel_rfl) (by kernel_rfl) h10 ?_
      refine s_one (.pointer (some ⟨g3, 1, none⟩)) A22 S2 (g_field (u := .pointer (some ⟨g3, 0, none⟩)) (by kernel_rfl) (fun _ => by kernel_rfl)) rfl (fun ac A23 => ?_)
      refine s_want (dj := 7) (b := (decide (q ≤ 0))) A23 (by kernel_rfl) (by kernel_rfl) h10 ?_
      refine s_one (.int .i64 q) A23 S2 (g_load (g := g3) (off := 1) 0 (by kernel_rfl) rfl (by kernel_rfl)) rfl (fun ac A24 => ?_)
      refine s_want (dj := 7) (b := (decide (q ≤ 0))) A24 (by kernel_rfl) (by kernel_rfl) h10 ?_
      have q28 := gcdE_bd (p := p) (q := q) (by omega)
      refine s_call (fs := #[]) (cp := #[]) (r := [(0, .int .i64 p), (0, .int .i64 q)]) #[.int .i64 p, .int .i64 q] (.int .i64 (gcdE p q)) A24 S2 (divisor_s p q _ (by omega) (by omega)) Try.call123 (by kernel_rfl) (by kernel_rfl) (by kernel_rfl) rfl (fun ac wc A25 S26 => ?_)
      refine s_want (dj := 7) (b := (decide (q ≤ 0))) A25 (by kernel_rfl) (by kernel_rfl) h10 ?_
      refine s_one (.bool (decide (gcdE p q ≠ 1))) A25 S26 (g_bin (u := .int .i64 (gcdE p q)) (k := .int .i64 1) (by kernel_rfl) (by kernel_rfl) (fun _ => by kernel_rfl) b_neq) rfl (fun ac A29 => ?_)
      refine s_one (.bool (decide (gcdE p q ≠ 1))) A29 S26 (g_pick_f (b := (decide (q ≤ 0))) (by kernel_rfl) h10 (by kernel_rfl)) rfl (fun ac A30 => ?_)
      refine s_one (.bool (decide (gcdE p q ≠ 1))) A30 S26 (g_assign (by kernel_rfl)) rfl (fun ac A31 => ?_)
      refine wpList_nil ?_
      refine n_then ?_
      exact ⟨(A31.slot (A31.slot (A31.slot (A31.slot A31.nil (v := .int .i64 0) (by kernel_rfl) rfl) (v := .pointer (some ⟨g3, 0, none⟩)) (by kernel_rfl) rfl) (v := .agg #[.int .i64 p, .int .i64 q]) (by kernel_rfl) rfl) (v := .bool (decide (gcdE p q ≠ 1))) (by kernel_rfl) (congrArg Value.bool (b_or_f h10 (Eq.refl (decide (gcdE p q ≠ 1)))).symm)), S26.sub sub_all sub_all⟩
  · rintro ac wc ⟨A32, S33⟩
    refine n_then ?_
    refine c_ifb (b := ((decide (q ≤ 0)) || (decide (gcdE p q ≠ 1)))) A32 (by kernel_rfl) (fun h34 => ?_) (fun h34 => ?_)
    · refine wp_seq ?_
      refine wp_region_lit ?_
      refine s_one (.int .i64 3) A32 S33 (g_assign (by kernel_rfl)) rfl (fun ac A35 => ?_)
      refine wpList_nil ?_
      refine n_then ?_
      refine wp_ret ?_
      refine r_block ?_
      refine r_then ?_
      refine fin1 (.int .i64 3) Try.results108 A35 S33 (rv_tmp (by kernel_rfl)) ⟨?_, S33.kp⟩
      rw [shE_1 h34]
    · have h36 := (Bool.or_eq_false_iff.1 h34).1
      have p37 := of_decide_eq_false h36
      have h38 := (Bool.or_eq_false_iff.1 h34).2
      have p39 := of_decide_eq_false h38
      refine wp_seq ?_
      refine c_cut (fun ac wc => Fr 25 ac [(15, .bool ((!(inB p 0 1000000000)) || (decide (q > 1000000000)))), (0, .agg #[.int .i64 p, .int .i64 q]), (1, .pointer (some ⟨g3, 0, none⟩)), (2, .int .i64 0), (3, .bool ((decide (q ≤ 0)) || (decide (gcdE p q ≠ 1))))] ∧ St w0 [⟨g3, 75, #[.int .i64 p, .int .i64 q], true⟩] [] wc) ?_ ?_
      · refine wp_region_lit ?_
        refine s_one (.pointer (some ⟨g3, 0, none⟩)) A32 S33 (g_field (u := .pointer (some ⟨g3, 0, none⟩)) (by kernel_rfl) (fun _ => by kernel_rfl)) rfl (fun ac A40 => ?_)
        refine s_one (.int .i64 p) A40 S33 (g_load (g := g3) (off := 0) 0 (by kernel_rfl) rfl (by kernel_rfl)) rfl (fun ac A41 => ?_)
        refine s_call (fs := #[]) (cp := #[]) (r := [(0, .int .i64 p), (0, .int .i64 0), (0, .int .i64 1000000000)]) #[.int .i64 p, .int .i64 0, .int .i64 1000000000] (.bool (inB p 0 1000000000)) A41 S33 (within_s p 0 1000000000 _) Try.call89 (by kernel_rfl) (by kernel_rfl) (by kernel_rfl) rfl (fun ac wc A42 S43 => ?_)
        refine s_one (.bool (!(inB p 0 1000000000))) A42 S43 (g_un (u := .bool (inB p 0 1000000000)) (by kernel_rfl) (fun _ => by kernel_rfl)) rfl (fun ac A45 => ?_)
        refine s_one (.bool (!(inB p 0 1000000000))) A45 S43 (g_move (by kernel_rfl)) rfl (fun ac A46 => ?_)
        refine by_bool (!(inB p 0 1000000000)) (fun h47 => ?_) (fun h47 => ?_)
        · have h48 : inB p 0 1000000000 = false := by simpa using h47
          refine s_not (dj := 20) (b := (!(inB p 0 1000000000))) A46 (by kernel_rfl) (by kernel_rfl) h47 rfl (fun ac A49 => ?_)
          refine s_not (dj := 20) (b := (!(inB p 0 1000000000))) A49 (by kernel_rfl) (by kernel_rfl) h47 rfl (fun ac A50 => ?_)
          refine s_not (dj := 20) (b := (!(inB p 0 1000000000))) A50 (by kernel_rfl) (by kernel_rfl) h47 rfl (fun ac A51 => ?_)
          refine s_one (.bool true) A51 S43 (g_pick_t (b := (!(inB p 0 1000000000))) (by kernel_rfl) h47 (by kernel_rfl)) rfl (fun ac A52 => ?_)
          refine s_one (.bool true) A52 S43 (g_assign (by kernel_rfl)) rfl (fun ac A53 => ?_)
          refine wpList_nil ?_
          refine n_then ?_
          exact ⟨(A53.slot (A53.slot (A53.slot (A53.slot (A53.slot A53.nil (v := .bool ((decide (q ≤ 0)) || (decide (gcdE p q ≠ 1)))) (by kernel_rfl) rfl) (v := .int .i64 0) (by kernel_rfl) rfl) (v := .pointer (some ⟨g3, 0, none⟩)) (by kernel_rfl) rfl) (v := .agg #[.int .i64 p, .int .i64 q]) (by kernel_rfl) rfl) (v := .bool true) (by kernel_rfl) (congrArg Value.bool (b_ot1 h47).symm)), S43.sub sub_all sub_all⟩
        · have h54 : inB p 0 1000000000 = true := by simpa using h47
          refine s_want (dj := 20) (b := (!(inB p 0 1000000000))) A46 (by kernel_rfl) (by kernel_rfl) h47 ?_
          refine s_one (.pointer (some ⟨g3, 1, none⟩)) A46 S43 (g_field (u := .pointer (some ⟨g3, 0, none⟩)) (by kernel_rfl) (fun _ => by kernel_rfl)) rfl (fun ac A55 => ?_)
          refine s_want (dj := 20) (b := (!(inB p 0 1000000000))) A55 (by kernel_rfl) (by kernel_rfl) h47 ?_
          refine s_one (.int .i64 q) A55 S43 (g_load (g := g3) (off := 1) 0 (by kernel_rfl) rfl (by kernel_rfl)) rfl (fun ac A56 => ?_)
          refine s_want (dj := 20) (b := (!(inB p 0 1000000000))) A56 (by kernel_rfl) (by kernel_rfl) h47 ?_
          refine s_one (.bool (decide (q > 1000000000))) A56 S43 (g_bin (u := .int .i64 q) (k := .int .i64 1000000000) (by kernel_rfl) (by kernel_rfl) (fun _ => by kernel_rfl) (fun _ => by kernel_rfl)) rfl (fun ac A57 => ?_)
          refine s_one (.bool (decide (q > 1000000000))) A57 S43 (g_pick_f (b := (!(inB p 0 1000000000))) (by kernel_rfl) h47 (by kernel_rfl)) rfl (fun ac A58 => ?_)
          refine s_one (.bool (decide (q > 1000000000))) A58 S43 (g_assign (by kernel_rfl)) rfl (fun ac A59 => ?_)
          refine wpList_nil ?_
          refine n_then ?_
          exact ⟨(A59.slot (A59.slot (A59.slot (A59.slot (A59.slot A59.nil (v := .bool ((decide (q ≤ 0)) || (decide (gcdE p q ≠ 1)))) (by kernel_rfl) rfl) (v := .int .i64 0) (by kernel_rfl) rfl) (v := .pointer (some ⟨g3, 0, none⟩)) (by kernel_rfl) rfl) (v := .agg #[.int .i64 p, .int .i64 q]) (by kernel_rfl) rfl) (v := .bool (decide (q > 1000000000))) (by kernel_rfl) (congrArg Value.bool (b_or_f h47 (Eq.refl (decide (q > 1000000000)))).symm)), S43.sub sub_all sub_all⟩
      · rintro ac wc ⟨A60, S61⟩
        refine n_then ?_
        refine c_ifb (b := ((!(inB p 0 1000000000)) || (decide (q > 1000000000)))) A60 (by kernel_rfl) (fun h62 => ?_) (fun h62 => ?_)
        · refine wp_seq ?_
          refine wp_region_lit ?_
          refine s_one (.int .i64 2) A60 S61 (g_assign (by kernel_rfl)) rfl (fun ac A63 => ?_)
          refine wpList_nil ?_
          refine n_then ?_
          refine wp_ret ?_
          refine r_block ?_
          refine r_then ?_
          refine fin1 (.int .i64 2) Try.results108 A63 S61 (rv_tmp (by kernel_rfl)) ⟨?_, S61.kp⟩
          rw [shE_2 (shE_l h34) h62]
        · have h64 := (Bool.or_eq_false_iff.1 h62).1
          have h65 : inB p 0 1000000000 = true := by simpa using h64
          have h66 := (Bool.or_eq_false_iff.1 h62).2
          have p67 := of_decide_eq_false h66
          refine wp_skip ?_
          refine n_block ?_
          refine n_then ?_
          refine wp_seq ?_
          refine wp_region_lit ?_
          refine s_one (.int .i64 0) A60 S61 (g_assign (by kernel_rfl)) rfl (fun ac A68 => ?_)
          refine wpList_nil ?_
          refine n_then ?_
          refine wp_ret ?_
          refine fin1 (.int .i64 0) Try.results108 A68 S61 (rv_tmp (by kernel_rfl)) ⟨?_, S61.kp⟩
          rw [shE_3 (shE_l h34) h62]

set_option maxRecDepth 100000 in
set_option maxHeartbeats 400000 in
theorem IsLowest_s (p q : Int) (w0 : World) (hq : q ≤ 9223372036854775807) :
    Calls Try.prog 126 #[.agg #[.int .i64 p, .int .i64 q]] w0 fun e w' => e = .returned (.bool (shLow p q)) ∧ Below w0.heap.size w0 w' := by
  have S0 := St.start w0
  refine enter (n := 14) Try.func126 rfl rfl rfl (fun ac A0 => ?_)
  refine wp_seq ?_
  refine wp_region_lit ?_
  refine s_box (.agg #[.int .i64 p, .int .i64 q]) A0 S0 (by kernel_rfl) rfl (fun g3 ac wc A1 S2 => ?_)
  replace S2 : St _ (⟨g3, 75, #[.int .i64 p, .int .i64 q], true⟩ :: _) _ _ := S2
  refine s_one (.bool false) A1 S2 (g_assign (by kernel_rfl)) rfl (fun ac A5 => ?_)
  refine wpList_nil ?_
  refine n_then ?_
  refine wp_seq ?_
  refine c_cut (fun ac wc => Fr 14 ac [(2, .bool ((decide (q > 0)) && (decide (gcdE p q = 1)))), (0, .agg #[.int .i64 p, .int .i64 q]), (1, .pointer (some ⟨g3, 0, none⟩))] ∧ St w0 [⟨g3, 75, #[.int .i64 p, .int .i64 q], true⟩] [] wc) ?_ ?_
  · refine wp_region_lit ?_
    refine s_one (.pointer (some ⟨g3, 1, none⟩)) A5 S2 (g_field (u := .pointer (some ⟨g3, 0, none⟩)) (by kernel_rfl) (fun _ => by kernel_rfl)) rfl (fun ac A6 => ?_)
    refine s_one (.int .i64 q) A6 S2 (g_load (g := g3) (off := 1) 0 (by kernel_rfl) rfl (by kernel_rfl)) rfl (fun ac A7 => ?_)
    refine s_one (.bool (decide (q > 0))) A7 S2 (g_bin (u := .int .i64 q) (k := .int .i64 0) (by kernel_rfl) (by kernel_rfl) (fun _ => by kernel_rfl) (fun _ => by kernel_rfl)) rfl (fun ac A8 => ?_)
    refine s_one (.bool (decide (q > 0))) A8 S2 (g_move (by kernel_rfl)) rfl (fun ac A9 => ?_)
    refine by_bool (decide (q > 0)) (fun h10 => ?_) (fun h10 => ?_)
    · have p11 := of_decide_eq_true h10
      refine s_want (dj := 6) (b := (decide (q > 0))) A9 (by kernel_rfl) (by kernel_rfl) h10 ?_
      refine s_one (.pointer (some ⟨g3, 0, none⟩)) A9 S2 (g_field (u := .pointer (some ⟨g3, 0, none⟩)) (by kernel_rfl) (fun _ => by kernel_rfl)) rfl (fun ac A12 => ?_)
      refine s_want (dj := 6) (b := (decide (q > 0))) A12 (by kernel_rfl) (by kernel_rfl) h10 ?_
      refine s_one (.int .i64 p) A12 S2 (g_load (g := g3) (off := 0) 0 (by kernel_rfl) rfl (by kernel_rfl)) rfl (fun ac A13 => ?_)
      refine s_want (dj := 6) (b := (decide (q > 0))) A13 (by kernel_rfl) (by kernel_rfl) h10 ?_
      refine s_one (.pointer (some ⟨g3, 1, none⟩)) A13 S2 (g_field (u := .pointer (some ⟨g3, 0, none⟩)) (by kernel_rfl) (fun _ => by kernel_rfl)) rfl (fun ac A14 => ?_)
      refine s_want (dj := 6) (b := (decide (q > 0))) A14 (by kernel_rfl) (by kernel_rfl) h10 ?_
      refine s_one (.int .i64 q) A14 S2 (g_load (g := g3) (off := 1) 0 (by kernel_rfl) rfl (by kernel_rfl)) rfl (fun ac A15 => ?_)
      refine s_want (dj := 6) (b := (decide (q > 0))) A15 (by kernel_rfl) (by kernel_rfl) h10 ?_
      have q19 := gcdE_bd (p := p) (q := q) (by omega)
      refine s_call (fs := #[]) (cp := #[]) (r := [(0, .int .i64 p), (0, .int .i64 q)]) #[.int .i64 p, .int .i64 q] (.int .i64 (gcdE p q)) A15 S2 (Gcd_s p q _ (by omega) (by omega)) Try.call127 (by kernel_rfl) (by kernel_rfl) (by kernel_rfl) rfl (fun ac wc A16 S17 => ?_)
      refine s_want (dj := 6) (b := (decide (q > 0))) A16 (by kernel_rfl) (by kernel_rfl) h10 ?_
      refine s_one (.bool (decide (gcdE p q = 1))) A16 S17 (g_bin (u := .int .i64 (gcdE p q)) (k := .int .i64 1) (by kernel_rfl) (by kernel_rfl) (fun _ => by kernel_rfl) b_eql) rfl (fun ac A20 => ?_)
      refine s_one (.bool (decide (gcdE p q = 1))) A20 S17 (g_pick_t (b := (decide (q > 0))) (by kernel_rfl) h10 (by kernel_rfl)) rfl (fun ac A21 => ?_)
      refine s_one (.bool (decide (gcdE p q = 1))) A21 S17 (g_assign (by kernel_rfl)) rfl (fun ac A22 => ?_)
      refine wpList_nil ?_
      refine n_then ?_
      exact ⟨(A22.slot (A22.slot (A22.slot A22.nil (v := .pointer (some ⟨g3, 0, none⟩)) (by kernel_rfl) rfl) (v := .agg #[.int .i64 p, .int .i64 q]) (by kernel_rfl) rfl) (v := .bool (decide (gcdE p q = 1))) (by kernel_rfl) (congrArg Value.bool (b_and_t h10 (Eq.refl (decide (gcdE p q = 1)))).symm)), S17.sub sub_all sub_all⟩
    · have p23 := of_decide_eq_false h10
      refine s_not (dj := 6) (b := (decide (q > 0))) A9 (by kernel_rfl) (by kernel_rfl) h10 rfl (fun ac A24 => ?_)
      refine s_not (dj := 6) (b := (decide (q > 0))) A24 (by kernel_rfl) (by kernel_rfl) h10 rfl (fun ac A25 => ?_)
      refine s_not (dj := 6) (b := (decide (q > 0))) A25 (by kernel_rfl) (by kernel_rfl) h10 rfl (fun ac A26 => ?_)
      refine s_not (dj := 6) (b := (decide (q > 0))) A26 (by kernel_rfl) (by kernel_rfl) h10 rfl (fun ac A27 => ?_)
      refine s_not (dj := 6) (b := (decide (q > 0))) A27 (by kernel_rfl) (by kernel_rfl) h10 rfl (fun ac A28 => ?_)
      refine s_not (dj := 6) (b := (decide (q > 0))) A28 (by kernel_rfl) (by kernel_rfl) h10 rfl (fun ac A29 => ?_)
      refine s_one (.bool false) A29 S2 (g_pick_f (b := (decide (q > 0))) (by kernel_rfl) h10 (by kernel_rfl)) rfl (fun ac A30 => ?_)
      refine s_one (.bool false) A30 S2 (g_assign (by kernel_rfl)) rfl (fun ac A31 => ?_)
      refine wpList_nil ?_
      refine n_then ?_
      exact ⟨(A31.slot (A31.slot (A31.slot A31.nil (v := .pointer (some ⟨g3, 0, none⟩)) (by kernel_rfl) rfl) (v := .agg #[.int .i64 p, .int .i64 q]) (by kernel_rfl) rfl) (v := .bool false) (by kernel_rfl) (congrArg Value.bool (b_af1 h10).symm)), S2.sub sub_all sub_all⟩
  · rintro ac wc ⟨A32, S33⟩
    refine n_then ?_
    refine wp_ret ?_
    refine fin1 (.bool ((decide (q > 0)) && (decide (gcdE p q = 1)))) Try.results126 A32 S33 (rv_tmp (by kernel_rfl)) ⟨?_, S33.kp⟩
    rfl

set_option maxRecDepth 100000 in
set_option maxHeartbeats 400000 in
theorem LimitErr_s (p q : Int) (w0 : World) (hq : q ≤ 9223372036854775807) :
    Calls Try.prog 110 #[.agg #[.int .i64 p, .int .i64 q]] w0 fun e w' => e = .returned (.int .i64 (shE p q)) ∧ Below w0.heap.size w0 w' := by
  have S0 := St.start w0
  refine enter (n := 14) Try.func110 rfl rfl rfl (fun ac A0 => ?_)
  refine wp_seq ?_
  refine wp_region_lit ?_
  refine s_box (.agg #[.int .i64 p, .int .i64 q]) A0 S0 (by kernel_rfl) rfl (fun g3 ac wc A1 S2 => ?_)
  replace S2 : St _ (⟨g3, 75, #[.int .i64 p, .int .i64 q], true⟩ :: _) _ _ := S2
  refine s_one (.int .i64 0) A1 S2 (g_assign (by kernel_rfl)) rfl (fun ac A5 => ?_)
  refine wpList_nil ?_
  refine n_then ?_
  refine wp_seq ?_
  refine wp_seq ?_
  refine wp_region_lit ?_
  refine s_one (.agg #[.int .i64 p, .int .i64 q]) A5 S2 (g_load (g := g3) (off := 0) 0 (by kernel_rfl) rfl (by kernel_rfl)) rfl (fun ac A6 => ?_)
  refine s_call (fs := #[]) (cp := #[]) (r := [(0, .agg #[.int .i64 p, .int .i64 q])]) #[.agg #[.int .i64 p, .int .i64 q]] (.bool (shLow p q)) A6 S2 (IsLowest_s p q _ (by omega)) Try.call126 (by kernel_rfl) (by kernel_rfl) (by kernel_rfl) rfl (fun ac wc A7 S8 => ?_)
  refine s_one (.bool (!(shLow p q))) A7 S8 (g_un (u := .bool (shLow p q)) (by kernel_rfl) (fun _ => by kernel_rfl)) rfl (fun ac A10 => ?_)
  refine wpList_nil ?_
  refine n_then ?_
  refine c_ifb (b := (!(shLow p q))) A10 (by kernel_rfl) (fun h11 => ?_) (fun h11 => ?_)
  · have h12 : shLow p q = false := by simpa using h11
    refine wp_seq ?_
    refine wp_region_lit ?_
    refine s_one (.int .i64 3) A10 S8 (g_assign (by kernel_rfl)) rfl (fun ac A13 => ?_)
    refine wpList_nil ?_
    refine n_then ?_
    refine wp_ret ?_
    refine r_then ?_
    refine fin1 (.int .i64 3) Try.results110 A13 S8 (rv_tmp (by kernel_rfl)) ⟨?_, S8.kp⟩
    rw [shE_4 h12]
  · have h14 : shLow p q = true := by simpa using h11
    refine wp_skip ?_
    refine n_then ?_
    refine wp_seq ?_
    refine wp_seq ?_
    refine c_cut (fun ac wc => Fr 14 ac [(13, .bool ((decide (p < 0)) || (!(smB p q)))), (0, .agg #[.int .i64 p, .int .i64 q]), (1, .pointer (some ⟨g3, 0, none⟩)), (2, .int .i64 0), (3, .agg #[.int .i64 p, .int .i64 q]), (4, .bool (shLow p q)), (5, .bool (!(shLow p q)))] ∧ St w0 [⟨g3, 75, #[.int .i64 p, .int .i64 q], true⟩] [] wc) ?_ ?_
    · refine wp_region_lit ?_
      refine s_one (.pointer (some ⟨g3, 0, none⟩)) A10 S8 (g_field (u := .pointer (some ⟨g3, 0, none⟩)) (by kernel_rfl) (fun _ => by kernel_rfl)) rfl (fun ac A15 => ?_)
      refine s_one (.int .i64 p) A15 S8 (g_load (g := g3) (off := 0) 0 (by kernel_rfl) rfl (by kernel_rfl)) rfl (fun ac A16 => ?_)
      refine s_one (.bool (decide (p < 0))) A16 S8 (g_bin (u := .int .i64 p) (k := .int .i64 0) (by kernel_rfl) (by kernel_rfl) (fun _ => by kernel_rfl) (fun _ => by kernel_rfl)) rfl (fun ac A17 => ?_)
      refine s_one (.bool (decide (p < 0))) A17 S8 (g_move (by kernel_rfl)) rfl (fun ac A18 => ?_)
      refine by_bool (decide (p < 0)) (fun h19 => ?_) (fun h19 => ?_)
      · have p20 := of_decide_eq_true h19
        refine s_not (dj := 9) (b := (decide (p < 0))) A18 (by kernel_rfl) (by kernel_rfl) h19 rfl (fun ac A21 => ?_)
        refine s_not (dj := 9) (b := (decide (p < 0))) A21 (by kernel_rfl) (by kernel_rfl) h19 rfl (fun ac A22 => ?_)
        refine s_not (dj := 9) (b := (decide (p < 0))) A22 (by kernel_rfl) (by kernel_rfl) h19 rfl (fun ac A23 => ?_)
        refine s_one (.bool true) A23 S8 (g_pick_t (b := (decide (p < 0))) (by kernel_rfl) h19 (by kernel_rfl)) rfl (fun ac A24 => ?_)
        refine wpList_nil ?_
        refine n_then ?_
        exact ⟨(A24.slot (A24.slot (A24.slot (A24.slot (A24.slot (A24.slot (A24.slot A24.nil (v := .bool (!(shLow p q))) (by kernel_rfl) rfl) (v := .bool (shLow p q)) (by kernel_rfl) rfl) (v := .agg #[.int .i64 p, .int .i64 q]) (by kernel_rfl) rfl) (v := .int .i64 0) (by kernel_rfl) rfl) (v := .pointer (some ⟨g3, 0, none⟩)) (by kernel_rfl) rfl) (v := .agg #[.int .i64 p, .int .i64 q]) (by kernel_rfl) rfl) (v := .bool true) (by kernel_rfl) (congrArg Value.bool (b_ot1 h19).symm)), S8.sub sub_all sub_all⟩
      · have p25 := of_decide_eq_false h19
        refine s_want (dj := 9) (b := (decide (p < 0))) A18 (by kernel_rfl) (by kernel_rfl) h19 ?_
        refine s_one (.agg #[.int .i64 p, .int .i64 q]) A18 S8 (g_load (g := g3) (off := 0) 0 (by kernel_rfl) rfl (by kernel_rfl)) rfl (fun ac A26 => ?_)
        refine s_want (dj := 9) (b := (decide (p < 0))) A26 (by kernel_rfl) (by kernel_rfl) h19 ?_
        refine s_call (fs := #[]) (cp := #[]) (r := [(0, .agg #[.int .i64 p, .int .i64 q])]) #[.agg #[.int .i64 p, .int .i64 q]] (.bool (smB p q)) A26 S8 (IsSmall_s p q _) Try.call114 (by kernel_rfl) (by kernel_rfl) (by kernel_rfl) rfl (fun ac wc A27 S28 => ?_)
        refine s_want (dj := 9) (b := (decide (p < 0))) A27 (by kernel_rfl) (by kernel_rfl) h19 ?_
        refine s_one (.bool (!(smB p q))) A27 S28 (g_un (u := .bool (smB p q)) (by kernel_rfl) (fun _ => by kernel_rfl)) rfl (fun ac A30 => ?_)
        refine s_one (.bool (!(smB p q))) A30 S28 (g_pick_f (b := (decide (p < 0))) (by kernel_rfl) h19 (by kernel_rfl)) rfl (fun ac A31 => ?_)
        refine wpList_nil ?_
        refine n_then ?_
        exact ⟨(A31.slot (A31.slot (A31.slot (A31.slot (A31.slot (A31.slot (A31.slot A31.nil (v := .bool (!(shLow p q))) (by kernel_rfl) rfl) (v := .bool (shLow p q)) (by kernel_rfl) rfl) (v := .agg #[.int .i64 p, .int .i64 q]) (by kernel_rfl) rfl) (v := .int .i64 0) (by kernel_rfl) rfl) (v := .pointer (some ⟨g3, 0, none⟩)) (by kernel_rfl) rfl) (v := .agg #[.int .i64 p, .int .i64 q]) (by kernel_rfl) rfl) (v := .bool (!(smB p q))) (by kernel_rfl) (congrArg Value.bool (b_or_f h19 (Eq.refl (!(smB p q)))).symm)), S28.sub sub_all sub_all⟩
    · rintro ac wc ⟨A32, S33⟩
      refine n_then ?_
      refine c_ifb (b := ((decide (p < 0)) || (!(smB p q)))) A32 (by kernel_rfl) (fun h34 => ?_) (fun h34 => ?_)
      · refine wp_seq ?_
        refine wp_region_lit ?_
        refine s_one (.int .i64 2) A32 S33 (g_assign (by kernel_rfl)) rfl (fun ac A35 => ?_)
        refine wpList_nil ?_
        refine n_then ?_
        refine wp_ret ?_
        refine r_then ?_
        refine fin1 (.int .i64 2) Try.results110 A35 S33 (rv_tmp (by kernel_rfl)) ⟨?_, S33.kp⟩
        rw [shE_5 h14 h34]
      · have h36 := (Bool.or_eq_false_iff.1 h34).1
        have p37 := of_decide_eq_false h36
        have h38 := (Bool.or_eq_false_iff.1 h34).2
        have h39 : smB p q = true := by simpa using h38
        refine wp_skip ?_
        refine n_then ?_
        refine wp_seq ?_
        refine wp_region_lit ?_
        refine s_one (.int .i64 0) A32 S33 (g_assign (by kernel_rfl)) rfl (fun ac A40 => ?_)
        refine wpList_nil ?_
        refine n_then ?_
        refine wp_ret ?_
        refine fin1 (.int .i64 0) Try.results110 A40 S33 (rv_tmp (by kernel_rfl)) ⟨?_, S33.kp⟩
        rw [shE_6 h14 h34]

def stF (a b n d m k : Int) : Int := firstOf [dirE a b, shE n d, shE m k]
def stE (a b n d m k : Int) : Int := if stF a b n d m k = 0 then (if n * k > m * d then 9 else 0) else stF a b n d m k
def stB (a b n d m k : Int) : Bool := decide (n * b ≤ mx a (-a) * d) && decide (mx a (-a) * k ≤ m * b)
theorem stF_0 {a b n d m k : Int} (h : stF a b n d m k = 0) : ((-1000 ≤ a ∧ a ≤ 1000) ∧ (1 ≤ b ∧ b ≤ 1000)) ∧ ((0 ≤ n ∧ n ≤ 1000000000) ∧ 1 ≤ d ∧ d ≤ 1000000000) ∧ (0 ≤ m ∧ m ≤ 1000000000) ∧ 1 ≤ k ∧ k ≤ 1000000000 := by
  obtain ⟨h1, h⟩ := fo_zero h
  obtain ⟨h2, h⟩ := fo_zero h
  rw [fo_last] at h
  exact ⟨dirE_0 h1, shE_0 h2, shE_0 h⟩
theorem pr_bd {x y A B : Int} (hx : 0 ≤ x ∧ x ≤ A) (hy : 0 ≤ y ∧ y ≤ B) : 0 ≤ x * y ∧ x * y ≤ A * B := ⟨Int.mul_nonneg hx.1 hy.1, Int.mul_le_mul hx.2 hy.2 hy.1 (by omega)⟩
theorem mxa_bd {a : Int} (h : -1000 ≤ a ∧ a ≤ 1000) : 0 ≤ mx a (-a) ∧ mx a (-a) ≤ 1000 := by rw [mx_eq]; omega
theorem st_bd {a b n d m k : Int} (h : stF a b n d m k = 0) : (0 ≤ n * k ∧ n * k ≤ 1000000000 * 1000000000) ∧ (0 ≤ m * d ∧ m * d ≤ 1000000000 * 1000000000) ∧ (0 ≤ n * b ∧ n * b ≤ 1000000000 * 1000) ∧ (0 ≤ m * b ∧ m * b ≤ 1000000000 * 1000) ∧ (0 ≤ mx a (-a) * d ∧ mx a (-a) * d ≤ 1000 * 1000000000) ∧ (0 ≤ mx a (-a) * k ∧ mx a (-a) * k ≤ 1000 * 1000000000) := by
  obtain ⟨⟨h1, h2⟩, ⟨h3, h4⟩, h5, h6⟩ := stF_0 h
  have kk := mxa_bd h1
  exact ⟨pr_bd h3 (by omega), pr_bd h5 (by omega), pr_bd h3 (by omega), pr_bd h5 (by omega), pr_bd kk (by omega), pr_bd kk (by omega)⟩
theorem stE_f {a b n d m k : Int} (h : stF a b n d m k ≠ 0) : stE a b n d m k = stF a b n d m k := if_neg h
theorem stE_9 {a b n d m k : Int} (h : stF a b n d m k = 0) (h2 : n * k > m * d) : stE a b n d m k = 9 := by unfold stE; rw [if_pos h, if_pos h2]
theorem stE_0 {a b n d m k : Int} (h : stF a b n d m k = 0) (h2 : ¬ n * k > m * d) : stE a b n d m k = 0 := by unfold stE; rw [if_pos h, if_neg h2]

set_option maxRecDepth 100000 in
set_option maxHeartbeats 400000 in
theorem SteepWithin_s (a b n d m k : Int) (w0 : World) (hd : d ≤ 9223372036854775807) (hk : k ≤ 9223372036854775807) :
    Calls Try.prog 64 #[.agg #[.int .i64 a, .int .i64 b], .agg #[.int .i64 n, .int .i64 d], .agg #[.int .i64 m, .int .i64 k]] w0 fun e w' => e = .returned (.tuple #[.bool (zb (stE a b n d m k) (stB a b n d m k)), .int .i64 (stE a b n d m k)]) ∧ Below w0.heap.size w0 w' := by
  have S0 := St.start w0
  refine enter (n := 57) Try.func64 rfl rfl rfl (fun ac A0 => ?_)
  refine wp_seq ?_
  refine wp_region_lit ?_
  refine s_box (.agg #[.int .i64 a, .int .i64 b]) A0 S0 (by kernel_rfl) rfl (fun g3 ac wc A1 S2 => ?_)
  replace S2 : St _ (⟨g3, 71, #[.int .i64 a, .int .i64 b], true⟩ :: _) _ _ := S2
  refine s_box (.agg #[.int .i64 n, .int .i64 d]) A1 S2 (by kernel_rfl) rfl (fun g7 ac wc A5 S6 => ?_)
  replace S6 : St _ (⟨g7, 75, #[.int .i64 n, .int .i64 d], true⟩ :: _) _ _ := S6
  refine s_box (.agg #[.int .i64 m, .int .i64 k]) A5 S6 (by kernel_rfl) rfl (fun g11 ac wc A9 S10 => ?_)
  replace S10 : St _ (⟨g11, 75, #[.int .i64 m, .int .i64 k], true⟩ :: _) _ _ := S10
  refine s_one (.bool false) A9 S10 (g_assign (by kernel_rfl)) rfl (fun ac A13 => ?_)
  refine s_one (.int .i64 0) A13 S10 (g_assign (by kernel_rfl)) rfl (fun ac A14 => ?_)
  refine wpList_nil ?_
  refine n_then ?_
  refine wp_seq ?_
  refine wp_seq ?_
  refine r_begin (w0 := w0) (by kernel_rfl) (S10.sub sub_all sub_all) (fun wc T15 B16 => ?_)
  have S17 := S10.kept B16
  refine r_take 0 (.agg #[.int .i64 a, .int .i64 b]) A14 T15 (g_load (g := g3) (off := 0) 2 (by kernel_rfl) rfl (by kernel_rfl)) rfl rfl rfl (pf_then (pf_then pf_body)) (by kernel_rfl) (fun ac A18 => ?_)
  refine r_take 2 (.agg #[.int .i64 n, .int .i64 d]) A18 T15 (g_load (g := g7) (off := 0) 1 (by kernel_rfl) rfl (by kernel_rfl)) rfl rfl rfl (pf_then (pf_then pf_body)) (by kernel_rfl) (fun ac A19 => ?_)
  refine r_take 4 (.agg #[.int .i64 m, .int .i64 k]) A19 T15 (g_load (g := g11) (off := 0) 0 (by kernel_rfl) rfl (by kernel_rfl)) rfl rfl rfl (pf_then (pf_then pf_body)) (by kernel_rfl) (fun ac A20 => ?_)
  refine r_1 (i := 1) (by kernel_rfl) ?_
  refine rs_call (fs := #[]) (cp := #[]) (r := [(0, .agg #[.int .i64 a, .int .i64 b])]) #[.agg #[.int .i64 a, .int .i64 b]] (.int .i64 (dirE a b)) A20 S17 sub_all sub_all (directionErr_s a b _) Try.call98 rfl rfl (by kernel_rfl) (by kernel_rfl) (by kernel_rfl) rfl (fun ac wc A21 S22 => ?_)
  have T24 := S22.sub sub_all sub_all
  refine r_1 (i := 3) (by kernel_rfl) ?_
  refine rs_call (fs := #[]) (cp := #[]) (r := [(0, .agg #[.int .i64 n, .int .i64 d])]) #[.agg #[.int .i64 n, .int .i64 d]] (.int .i64 (shE n d)) A21 S22 sub_all sub_all (shareErr_s n d _ (by omega)) Try.call108 rfl rfl (by kernel_rfl) (by kernel_rfl) (by kernel_rfl) rfl (fun ac wc A25 S26 => ?_)
  have T28 := S26.sub sub_all sub_all
  refine r_1 (i := 5) (by kernel_rfl) ?_
  refine rs_call (fs := #[]) (cp := #[]) (r := [(0, .agg #[.int .i64 m, .int .i64 k])]) #[.agg #[.int .i64 m, .int .i64 k]] (.int .i64 (shE m k)) A25 S26 sub_all sub_all (shareErr_s m k _ (by omega)) Try.call108 rfl rfl (by kernel_rfl) (by kernel_rfl) (by kernel_rfl) rfl (fun ac wc A29 S30 => ?_)
  have T32 := S30.sub sub_all sub_all
  refine r_1 (i := 6) (by kernel_rfl) ?_
  refine rs_bs (e := 25) (r := [(0, .int .i64 (dirE a b)), (1, .int .i64 (shE n d)), (2, .int .i64 (shE m k))]) (#[.int .i64 (dirE a b), .int .i64 (shE n d), .int .i64 (shE m k)]) A29 S30 sub_all sub_all (by kernel_rfl) (by kernel_rfl) rfl rfl rfl (fun g35 ac wc A33 S34 => ?_)
  have T36 := S34.sub (sub_skip sub_all) sub_all
  refine r_1 (i := 7) (by kernel_rfl) ?_
  refine rs_call (fs := #[]) (cp := #[]) (r := [(0, .slice (some ⟨g35, 0, none⟩) 3 3)]) #[.slice (some ⟨g35, 0, none⟩) 3 3] (.int .i64 (firstOf [dirE a b, shE n d, shE m k])) A33 S34 (sub_skip sub_all) sub_all (first_s g35 ([dirE a b, shE n d, shE m k]) 3 3 _ (S34.get 0 rfl) rfl (by omega)) Try.call83 rfl rfl (by kernel_rfl) (by kernel_rfl) (by kernel_rfl) rfl (fun ac wc A37 S38 => ?_)
  have T40 := S38.sub (sub_skip sub_all) sub_all
  refine r_take 8 (.int .i64 (firstOf [dirE a b, shE n d, shE m k])) A37 T40 (g_assign (by kernel_rfl)) rfl rfl rfl (pf_then (pf_then pf_body)) (by kernel_rfl) (fun ac A41 => ?_)
  refine r_done (by kernel_rfl) ?_
  refine n_then ?_
  refine wp_seq ?_
  refine wp_region_lit ?_
  refine s_one (.int .i64 (firstOf [dirE a b, shE n d, shE m k])) A41 S38 (g_move (by kernel_rfl)) rfl (fun ac A42 => ?_)
  refine s_one (.bool (decide (firstOf [dirE a b, shE n d, shE m k] ≠ 0))) A42 S38 (g_bin (u := .int .i64 (firstOf [dirE a b, shE n d, shE m k])) (k := .int .i64 0) (by kernel_rfl) (by kernel_rfl) (fun _ => by kernel_rfl) b_neq) rfl (fun ac A43 => ?_)
  refine wpList_nil ?_
  refine n_then ?_
  refine c_ifb (b := (decide (firstOf [dirE a b, shE n d, shE m k] ≠ 0))) A43 (by kernel_rfl) (fun h44 => ?_) (fun h44 => ?_)
  · have p45 := of_decide_eq_true h44
    have zf : stF a b n d m k ≠ 0 := of_decide_eq_true h44
    have ee := stE_f zf
    have zn : stE a b n d m k ≠ 0 := ee ▸ zf
    refine wp_seq ?_
    refine wp_region_lit ?_
    refine s_one (.int .i64 (firstOf [dirE a b, shE n d, shE m k])) A43 S38 (g_move (by kernel_rfl)) rfl (fun ac A46 => ?_)
    refine s_one (.bool false) A46 S38 (g_assign (by kernel_rfl)) rfl (fun ac A47 => ?_)
    refine s_one (.int .i64 (firstOf [dirE a b, shE n d, shE m k])) A47 S38 (g_assign (by kernel_rfl)) rfl (fun ac A48 => ?_)
    refine wpList_nil ?_
    refine n_then ?_
    refine wp_ret ?_
    refine r_then ?_
    refine fin2 (.bool false) (.int .i64 (firstOf [dirE a b, shE n d, shE m k])) Try.results64 A48 S38 (rv_tmp (by kernel_rfl)) (rv_tmp (by kernel_rfl)) ⟨?_, S38.kp⟩
    rw [zb_n zn, ee]
    rfl
  · have p49 := of_decide_eq_false h44
    have zf0 : firstOf [dirE a b, shE n d, shE m k] = 0 := by simpa using h44
    have zf : stF a b n d m k = 0 := zf0
    have sb := st_bd zf
    have zz := stF_0 zf
    have mb := mxa_bd zz.1.1
    refine wp_skip ?_
    refine n_then ?_
    refine wp_seq ?_
    refine wp_seq ?_
    refine wp_region_lit ?_
    refine s_one (.pointer (some ⟨g7, 0, none⟩)) A43 S38 (g_field (u := .pointer (some ⟨g7, 0, none⟩)) (by kernel_rfl) (fun _ => by kernel_rfl)) rfl (fun ac A50 => ?_)
    refine s_one (.int .i64 n) A50 S38 (g_load (g := g7) (off := 0) 2 (by kernel_rfl) rfl (by kernel_rfl)) rfl (fun ac A51 => ?_)
    refine s_one (.pointer (some ⟨g11, 1, none⟩)) A51 S38 (g_field (u := .pointer (some ⟨g11, 0, none⟩)) (by kernel_rfl) (fun _ => by kernel_rfl)) rfl (fun ac A52 => ?_)
    refine s_one (.int .i64 k) A52 S38 (g_load (g := g11) (off := 1) 1 (by kernel_rfl) rfl (by kernel_rfl)) rfl (fun ac A53 => ?_)
    refine s_one (.int .i64 (n * k)) A53 S38 (g_bin (u := .int .i64 n) (k := .int .i64 k) (by kernel_rfl) (by kernel_rfl) (fun _ => by kernel_rfl) (b_mul (by omega))) rfl (fun ac A54 => ?_)
    refine s_one (.pointer (some ⟨g11, 0, none⟩)) A54 S38 (g_field (u := .pointer (some ⟨g11, 0, none⟩)) (by kernel_rfl) (fun _ => by kernel_rfl)) rfl (fun ac A55 => ?_)
    refine s_one (.int .i64 m) A55 S38 (g_load (g := g11) (off := 0) 1 (by kernel_rfl) rfl (by kernel_rfl)) rfl (fun ac A56 => ?_)
    refine s_one (.pointer (some ⟨g7, 1, none⟩)) A56 S38 (g_field (u := .pointer (some ⟨g7, 0, none⟩)) (by kernel_rfl) (fun _ => by kernel_rfl)) rfl (fun ac A57 => ?_)
    refine s_one (.int .i64 d) A57 S38 (g_load (g := g7) (off := 1) 2 (by kernel_rfl) rfl (by kernel_rfl)) rfl (fun ac A58 => ?_)
    refine s_one (.int .i64 (m * d)) A58 S38 (g_bin (u := .int .i64 m) (k := .int .i64 d) (by kernel_rfl) (by kernel_rfl) (fun _ => by kernel_rfl) (b_mul (by omega))) rfl (fun ac A59 => ?_)
    refine s_one (.bool (decide (n * k > m * d))) A59 S38 (g_bin (u := .int .i64 (n * k)) (k := .int .i64 (m * d)) (by kernel_rfl) (by kernel_rfl) (fun _ => by kernel_rfl) (fun _ => by kernel_rfl)) rfl (fun ac A60 => ?_)
    refine wpList_nil ?_
    refine n_then ?_
    refine c_ifb (b := (decide (n * k > m * d))) A60 (by kernel_rfl) (fun h61 => ?_) (fun h61 => ?_)
    · have p62 := of_decide_eq_true h61
      have ee := stE_9 zf (of_decide_eq_true h61)
      have zn : stE a b n d m k ≠ 0 := by rw [ee]; decide
      refine wp_seq ?_
      refine wp_region_lit ?_
      refine s_one (.bool false) A60 S38 (g_assign (by kernel_rfl)) rfl (fun ac A63 => ?_)
      refine s_one (.int .i64 9) A63 S38 (g_assign (by kernel_rfl)) rfl (fun ac A64 => ?_)
      refine wpList_nil ?_
      refine n_then ?_
      refine wp_ret ?_
      refine r_then ?_
      refine fin2 (.bool false) (.int .i64 9) Try.results64 A64 S38 (rv_tmp (by kernel_rfl)) (rv_tmp (by kernel_rfl)) ⟨?_, S38.kp⟩
      rw [zb_n zn, ee]
    · have p65 := of_decide_eq_false h61
      have ee := stE_0 zf (of_decide_eq_false h61)
      refine wp_skip ?_
      refine n_then ?_
      refine wp_seq ?_
      refine wp_region_lit ?_
      refine s_one (.pointer (some ⟨g3, 0, none⟩)) A60 S38 (g_index (u := .pointer (some ⟨g3, 0, none⟩)) (k := .int .i64 0) (by kernel_rfl) (by kernel_rfl) (fun _ => by kernel_rfl)) rfl (fun ac A66 => ?_)
      refine s_one (.int .i64 a) A66 S38 (g_load (g := g3) (off := 0) 3 (by kernel_rfl) rfl (by kernel_rfl)) rfl (fun ac A67 => ?_)
      refine s_call (fs := #[]) (cp := #[]) (r := [(0, .int .i64 a)]) #[.int .i64 a] (.int .i64 (mx a (-a))) A67 S38 (size_s a _ (by omega) (by omega)) Try.call109 (by kernel_rfl) (by kernel_rfl) (by kernel_rfl) rfl (fun ac wc A68 S69 => ?_)
      refine s_one (.int .i64 (mx a (-a))) A68 S69 (g_assign (by kernel_rfl)) rfl (fun ac A71 => ?_)
      refine wpList_nil ?_
      refine n_then ?_
      refine wp_seq ?_
      refine c_cut (fun ac wc => Fr 57 ac [(7, .int .i64 0), (6, .bool ((decide (n * b ≤ (mx a (-a)) * d)) && (decide ((mx a (-a)) * k ≤ m * b)))), (0, .agg #[.int .i64 a, .int .i64 b]), (1, .agg #[.int .i64 n, .int .i64 d]), (2, .agg #[.int .i64 m, .int .i64 k]), (3, .pointer (some ⟨g3, 0, none⟩)), (4, .pointer (some ⟨g7, 0, none⟩)), (5, .pointer (some ⟨g11, 0, none⟩)), (10, .agg #[.int .i64 a, .int .i64 b]), (12, .agg #[.int .i64 n, .int .i64 d]), (14, .agg #[.int .i64 m, .int .i64 k]), (11, .int .i64 (dirE a b)), (13, .int .i64 (shE n d)), (15, .int .i64 (shE m k)), (16, .slice (some ⟨g35, 0, none⟩) 3 3), (17, .int .i64 (firstOf [dirE a b, shE n d, shE m k])), (8, .int .i64 (firstOf [dirE a b, shE n d, shE m k])), (18, .int .i64 (firstOf [dirE a b, shE n d, shE m k])), (19, .bool (decide (firstOf [dirE a b, shE n d, shE m k] ≠ 0))), (21, .pointer (some ⟨g7, 0, none⟩)), (22, .int .i64 n), (23, .pointer (some ⟨g11, 1, none⟩)), (24, .int .i64 k), (25, .int .i64 (n * k)), (26, .pointer (some ⟨g11, 0, none⟩)), (27, .int .i64 m), (28, .pointer (some ⟨g7, 1, none⟩)), (29, .int .i64 d), (30, .int .i64 (m * d)), (31, .bool (decide (n * k > m * d))), (32, .pointer (some ⟨g3, 0, none⟩)), (33, .int .i64 a), (34, .int .i64 (mx a (-a))), (9, .int .i64 (mx a (-a)))] ∧ St w0 [⟨g35, 25, #[.int .i64 (dirE a b), .int .i64 (shE n d), .int .i64 (shE m k)], true⟩, ⟨g11, 75, #[.int .i64 m, .int .i64 k], true⟩, ⟨g7, 75, #[.int .i64 n, .int .i64 d], true⟩, ⟨g3, 71, #[.int .i64 a, .int .i64 b], true⟩] [] wc) ?_ ?_
      · refine wp_region_lit ?_
        refine s_one (.pointer (some ⟨g7, 0, none⟩)) A71 S69 (g_field (u := .pointer (some ⟨g7, 0, none⟩)) (by kernel_rfl) (fun _ => by kernel_rfl)) rfl (fun ac A72 => ?_)
        refine s_one (.int .i64 n) A72 S69 (g_load (g := g7) (off := 0) 2 (by kernel_rfl) rfl (by kernel_rfl)) rfl (fun ac A73 => ?_)
        refine s_one (.pointer (some ⟨g3, 1, none⟩)) A73 S69 (g_index (u := .pointer (some ⟨g3, 0, none⟩)) (k := .int .i64 1) (by kernel_rfl) (by kernel_rfl) (fun _ => by kernel_rfl)) rfl (fun ac A74 => ?_)
        refine s_one (.int .i64 b) A74 S69 (g_load (g := g3) (off := 1) 3 (by kernel_rfl) rfl (by kernel_rfl)) rfl (fun ac A75 => ?_)
        refine s_one (.int .i64 (n * b)) A75 S69 (g_bin (u := .int .i64 n) (k := .int .i64 b) (by kernel_rfl) (by kernel_rfl) (fun _ => by kernel_rfl) (b_mul (by omega))) rfl (fun ac A76 => ?_)
        refine s_one (.int .i64 (mx a (-a))) A76 S69 (g_move (by kernel_rfl)) rfl (fun ac A77 => ?_)
        refine s_one (.pointer (some ⟨g7, 1, none⟩)) A77 S69 (g_field (u := .pointer (some ⟨g7, 0, none⟩)) (by kernel_rfl) (fun _ => by kernel_rfl)) rfl (fun ac A78 => ?_)
        refine s_one (.int .i64 d) A78 S69 (g_load (g := g7) (off := 1) 2 (by kernel_rfl) rfl (by kernel_rfl)) rfl (fun ac A79 => ?_)
        refine s_one (.int .i64 ((mx a (-a)) * d)) A79 S69 (g_bin (u := .int .i64 (mx a (-a))) (k := .int .i64 d) (by kernel_rfl) (by kernel_rfl) (fun _ => by kernel_rfl) (b_mul (by omega))) rfl (fun ac A80 => ?_)
        refine s_one (.bool (decide (n * b ≤ (mx a (-a)) * d))) A80 S69 (g_bin (u := .int .i64 (n * b)) (k := .int .i64 ((mx a (-a)) * d)) (by kernel_rfl) (by kernel_rfl) (fun _ => by kernel_rfl) (fun _ => by kernel_rfl)) rfl (fun ac A81 => ?_)
        refine s_one (.bool (decide (n * b ≤ (mx a (-a)) * d))) A81 S69 (g_move (by kernel_rfl)) rfl (fun ac A82 => ?_)
        refine by_bool (decide (n * b ≤ (mx a (-a)) * d)) (fun h83 => ?_) (fun h83 => ?_)
        · have p84 := of_decide_eq_true h83
          refine s_want (dj := 45) (b := (decide (n * b ≤ (mx a (-a)) * d))) A82 (by kernel_rfl) (by kernel_rfl) h83 ?_
          refine s_one (.int .i64 (mx a (-a))) A82 S69 (g_move (by kernel_rfl)) rfl (fun ac A85 => ?_)
          refine s_want (dj := 45) (b := (decide (n * b ≤ (mx a (-a)) * d))) A85 (by kernel_rfl) (by kernel_rfl) h83 ?_
          refine s_one (.pointer (some ⟨g11, 1, none⟩)) A85 S69 (g_field (u := .pointer (some ⟨g11, 0, none⟩)) (by kernel_rfl) (fun _ => by kernel_rfl)) rfl (fun ac A86 => ?_)
          refine s_want (dj := 45) (b := (decide (n * b ≤ (mx a (-a)) * d))) A86 (by kernel_rfl) (by kernel_rfl) h83 ?_
          refine s_one (.int .i64 k) A86 S69 (g_load (g := g11) (off := 1) 1 (by kernel_rfl) rfl (by kernel_rfl)) rfl (fun ac A87 => ?_)
          refine s_want (dj := 45) (b := (decide (n * b ≤ (mx a (-a)) * d))) A87 (by kernel_rfl) (by kernel_rfl) h83 ?_
          refine s_one (.int .i64 ((mx a (-a)) * k)) A87 S69 (g_bin (u := .int .i64 (mx a (-a))) (k := .int .i64 k) (by kernel_rfl) (by kernel_rfl) (fun _ => by kernel_rfl) (b_mul (by omega))) rfl (fun ac A88 => ?_)
          refine s_want (dj := 45) (b := (decide (n * b ≤ (mx a (-a)) * d))) A88 (by kernel_rfl) (by kernel_rfl) h83 ?_
          refine s_one (.pointer (some ⟨g11, 0, none⟩)) A88 S69 (g_field (u := .pointer (some ⟨g11, 0, none⟩)) (by kernel_rfl) (fun _ => by kernel_rfl)) rfl (fun ac A89 => ?_)
          refine s_want (dj := 45) (b := (decide (n * b ≤ (mx a (-a)) * d))) A89 (by kernel_rfl) (by kernel_rfl) h83 ?_
          refine s_one (.int .i64 m) A89 S69 (g_load (g := g11) (off := 0) 1 (by kernel_rfl) rfl (by kernel_rfl)) rfl (fun ac A90 => ?_)
          refine s_want (dj := 45) (b := (decide (n * b ≤ (mx a (-a)) * d))) A90 (by kernel_rfl) (by kernel_rfl) h83 ?_
          refine s_one (.pointer (some ⟨g3, 1, none⟩)) A90 S69 (g_index (u := .pointer (some ⟨g3, 0, none⟩)) (k := .int .i64 1) (by kernel_rfl) (by kernel_rfl) (fun _ => by kernel_rfl)) rfl (fun ac A91 => ?_)
          refine s_want (dj := 45) (b := (decide (n * b ≤ (mx a (-a)) * d))) A91 (by kernel_rfl) (by kernel_rfl) h83 ?_
          refine s_one (.int .i64 b) A91 S69 (g_load (g := g3) (off := 1) 3 (by kernel_rfl) rfl (by kernel_rfl)) rfl (fun ac A92 => ?_)
          refine s_want (dj := 45) (b := (decide (n * b ≤ (mx a (-a)) * d))) A92 (by kernel_rfl) (by kernel_rfl) h83 ?_
          refine s_one (.int .i64 (m * b)) A92 S69 (g_bin (u := .int .i64 m) (k := .int .i64 b) (by kernel_rfl) (by kernel_rfl) (fun _ => by kernel_rfl) (b_mul (by omega))) rfl (fun ac A93 => ?_)
          refine s_want (dj := 45) (b := (decide (n * b ≤ (mx a (-a)) * d))) A93 (by kernel_rfl) (by kernel_rfl) h83 ?_
          refine s_one (.bool (decide ((mx a (-a)) * k ≤ m * b))) A93 S69 (g_bin (u := .int .i64 ((mx a (-a)) * k)) (k := .int .i64 (m * b)) (by kernel_rfl) (by kernel_rfl) (fun _ => by kernel_rfl) (fun _ => by kernel_rfl)) rfl (fun ac A94 => ?_)
          refine s_one (.bool (decide ((mx a (-a)) * k ≤ m * b))) A94 S69 (g_pick_t (b := (decide (n * b ≤ (mx a (-a)) * d))) (by kernel_rfl) h83 (by kernel_rfl)) rfl (fun ac A95 => ?_)
          refine s_one (.bool (decide ((mx a (-a)) * k ≤ m * b))) A95 S69 (g_assign (by kernel_rfl)) rfl (fun ac A96 => ?_)
          refine s_one (.int .i64 0) A96 S69 (g_assign (by kernel_rfl)) rfl (fun ac A97 => ?_)
          refine wpList_nil ?_
          refine n_then ?_
          exact ⟨(A97.slot (A97.slot (A97.slot (A97.slot (A97.slot (A97.slot (A97.slot (A97.slot (A97.slot (A97.slot (A97.slot (A97.slot (A97.slot (A97.slot (A97.slot (A97.slot (A97.slot (A97.slot (A97.slot (A97.slot (A97.slot (A97.slot (A97.slot (A97.slot (A97.slot (A97.slot (A97.slot (A97.slot (A97.slot (A97.slot (A97.slot (A97.slot (A97.slot (A97.slot A97.nil (v := .int .i64 (mx a (-a))) (by kernel_rfl) rfl) (v := .int .i64 (mx a (-a))) (by kernel_rfl) rfl) (v := .int .i64 a) (by kernel_rfl) rfl) (v := .pointer (some ⟨g3, 0, none⟩)) (by kernel_rfl) rfl) (v := .bool (decide (n * k > m * d))) (by kernel_rfl) rfl) (v := .int .i64 (m * d)) (by kernel_rfl) rfl) (v := .int .i64 d) (by kernel_rfl) rfl) (v := .pointer (some ⟨g7, 1, none⟩)) (by kernel_rfl) rfl) (v := .int .i64 m) (by kernel_rfl) rfl) (v := .pointer (some ⟨g11, 0, none⟩)) (by kernel_rfl) rfl) (v := .int .i64 (n * k)) (by kernel_rfl) rfl) (v := .int .i64 k) (by kernel_rfl) rfl) (v := .pointer (some ⟨g11, 1, none⟩)) (by kernel_rfl) rfl) (v := .int .i64 n) (by kernel_rfl) rfl) (v := .pointer (some ⟨g7, 0, none⟩)) (by kernel_rfl) rfl) (v := .bool (decide (firstOf [dirE a b, shE n d, shE m k] ≠ 0))) (by kernel_rfl) rfl) (v := .int .i64 (firstOf [dirE a b, shE n d, shE m k])) (by kernel_rfl) rfl) (v := .int .i64 (firstOf [dirE a b, shE n d, shE m k])) (by kernel_rfl) rfl) (v := .int .i64 (firstOf [dirE a b, shE n d, shE m k])) (by kernel_rfl) rfl) (v := .slice (some ⟨g35, 0, none⟩) 3 3) (by kernel_rfl) rfl) (v := .int .i64 (shE m k)) (by kernel_rfl) rfl) (v := .int .i64 (shE n d)) (by kernel_rfl) rfl) (v := .int .i64 (dirE a b)) (by kernel_rfl) rfl) (v := .agg #[.int .i64 m, .int .i64 k]) (by kernel_rfl) rfl) (v := .agg #[.int .i64 n, .int .i64 d]) (by kernel_rfl) rfl) (v := .agg #[.int .i64 a, .int .i64 b]) (by kernel_rfl) rfl) (v := .pointer (some ⟨g11, 0, none⟩)) (by kernel_rfl) rfl) (v := .pointer (some ⟨g7, 0, none⟩)) (by kernel_rfl) rfl) (v := .pointer (some ⟨g3, 0, none⟩)) (by kernel_rfl) rfl) (v := .agg #[.int .i64 m, .int .i64 k]) (by kernel_rfl) rfl) (v := .agg #[.int .i64 n, .int .i64 d]) (by kernel_rfl) rfl) (v := .agg #[.int .i64 a, .int .i64 b]) (by kernel_rfl) rfl) (v := .bool (decide ((mx a (-a)) * k ≤ m * b))) (by kernel_rfl) (congrArg Value.bool (b_and_t h83 (Eq.refl (decide ((mx a (-a)) * k ≤ m * b)))).symm)) (v := .int .i64 0) (by kernel_rfl) rfl), S69.sub sub_all sub_all⟩
        · have p98 := of_decide_eq_false h83
          refine s_not (dj := 45) (b := (decide (n * b ≤ (mx a (-a)) * d))) A82 (by kernel_rfl) (by kernel_rfl) h83 rfl (fun ac A99 => ?_)
          refine s_not (dj := 45) (b := (decide (n * b ≤ (mx a (-a)) * d))) A99 (by kernel_rfl) (by kernel_rfl) h83 rfl (fun ac A100 => ?_)
          refine s_not (dj := 45) (b := (decide (n * b ≤ (mx a (-a)) * d))) A100 (by kernel_rfl) (by kernel_rfl) h83 rfl (fun ac A101 => ?_)
          refine s_not (dj := 45) (b := (decide (n * b ≤ (mx a (-a)) * d))) A101 (by kernel_rfl) (by kernel_rfl) h83 rfl (fun ac A102 => ?_)
          refine s_not (dj := 45) (b := (decide (n * b ≤ (mx a (-a)) * d))) A102 (by kernel_rfl) (by kernel_rfl) h83 rfl (fun ac A103 => ?_)
          refine s_not (dj := 45) (b := (decide (n * b ≤ (mx a (-a)) * d))) A103 (by kernel_rfl) (by kernel_rfl) h83 rfl (fun ac A104 => ?_)
          refine s_not (dj := 45) (b := (decide (n * b ≤ (mx a (-a)) * d))) A104 (by kernel_rfl) (by kernel_rfl) h83 rfl (fun ac A105 => ?_)
          refine s_not (dj := 45) (b := (decide (n * b ≤ (mx a (-a)) * d))) A105 (by kernel_rfl) (by kernel_rfl) h83 rfl (fun ac A106 => ?_)
          refine s_not (dj := 45) (b := (decide (n * b ≤ (mx a (-a)) * d))) A106 (by kernel_rfl) (by kernel_rfl) h83 rfl (fun ac A107 => ?_)
          refine s_not (dj := 45) (b := (decide (n * b ≤ (mx a (-a)) * d))) A107 (by kernel_rfl) (by kernel_rfl) h83 rfl (fun ac A108 => ?_)
          refine s_one (.bool false) A108 S69 (g_pick_f (b := (decide (n * b ≤ (mx a (-a)) * d))) (by kernel_rfl) h83 (by kernel_rfl)) rfl (fun ac A109 => ?_)
          refine s_one (.bool false) A109 S69 (g_assign (by kernel_rfl)) rfl (fun ac A110 => ?_)
          refine s_one (.int .i64 0) A110 S69 (g_assign (by kernel_rfl)) rfl (fun ac A111 => ?_)
          refine wpList_nil ?_
          refine n_then ?_
          exact ⟨(A111.slot (A111.slot (A111.slot (A111.slot (A111.slot (A111.slot (A111.slot (A111.slot (A111.slot (A111.slot (A111.slot (A111.slot (A111.slot (A111.slot (A111.slot (A111.slot (A111.slot (A111.slot (A111.slot (A111.slot (A111.slot (A111.slot (A111.slot (A111.slot (A111.slot (A111.slot (A111.slot (A111.slot (A111.slot (A111.slot (A111.slot (A111.slot (A111.slot (A111.slot A111.nil (v := .int .i64 (mx a (-a))) (by kernel_rfl) rfl) (v := .int .i64 (mx a (-a))) (by kernel_rfl) rfl) (v := .int .i64 a) (by kernel_rfl) rfl) (v := .pointer (some ⟨g3, 0, none⟩)) (by kernel_rfl) rfl) (v := .bool (decide (n * k > m * d))) (by kernel_rfl) rfl) (v := .int .i64 (m * d)) (by kernel_rfl) rfl) (v := .int .i64 d) (by kernel_rfl) rfl) (v := .pointer (some ⟨g7, 1, none⟩)) (by kernel_rfl) rfl) (v := .int .i64 m) (by kernel_rfl) rfl) (v := .pointer (some ⟨g11, 0, none⟩)) (by kernel_rfl) rfl) (v := .int .i64 (n * k)) (by kernel_rfl) rfl) (v := .int .i64 k) (by kernel_rfl) rfl) (v := .pointer (some ⟨g11, 1, none⟩)) (by kernel_rfl) rfl) (v := .int .i64 n) (by kernel_rfl) rfl) (v := .pointer (some ⟨g7, 0, none⟩)) (by kernel_rfl) rfl) (v := .bool (decide (firstOf [dirE a b, shE n d, shE m k] ≠ 0))) (by kernel_rfl) rfl) (v := .int .i64 (firstOf [dirE a b, shE n d, shE m k])) (by kernel_rfl) rfl) (v := .int .i64 (firstOf [dirE a b, shE n d, shE m k])) (by kernel_rfl) rfl) (v := .int .i64 (firstOf [dirE a b, shE n d, shE m k])) (by kernel_rfl) rfl) (v := .slice (some ⟨g35, 0, none⟩) 3 3) (by kernel_rfl) rfl) (v := .int .i64 (shE m k)) (by kernel_rfl) rfl) (v := .int .i64 (shE n d)) (by kernel_rfl) rfl) (v := .int .i64 (dirE a b)) (by kernel_rfl) rfl) (v := .agg #[.int .i64 m, .int .i64 k]) (by kernel_rfl) rfl) (v := .agg #[.int .i64 n, .int .i64 d]) (by kernel_rfl) rfl) (v := .agg #[.int .i64 a, .int .i64 b]) (by kernel_rfl) rfl) (v := .pointer (some ⟨g11, 0, none⟩)) (by kernel_rfl) rfl) (v := .pointer (some ⟨g7, 0, none⟩)) (by kernel_rfl) rfl) (v := .pointer (some ⟨g3, 0, none⟩)) (by kernel_rfl) rfl) (v := .agg #[.int .i64 m, .int .i64 k]) (by kernel_rfl) rfl) (v := .agg #[.int .i64 n, .int .i64 d]) (by kernel_rfl) rfl) (v := .agg #[.int .i64 a, .int .i64 b]) (by kernel_rfl) rfl) (v := .bool false) (by kernel_rfl) (congrArg Value.bool (b_af1 h83).symm)) (v := .int .i64 0) (by kernel_rfl) rfl), S69.sub sub_all sub_all⟩
      · rintro ac wc ⟨A112, S113⟩
        refine n_then ?_
        refine wp_ret ?_
        refine fin2 (.bool ((decide (n * b ≤ (mx a (-a)) * d)) && (decide ((mx a (-a)) * k ≤ m * b)))) (.int .i64 0) Try.results64 A112 S113 (rv_tmp (by kernel_rfl)) (rv_tmp (by kernel_rfl)) ⟨?_, S113.kp⟩
        rw [zb_0 ee, ee]
        rfl

set_option maxRecDepth 100000 in
set_option maxHeartbeats 400000 in
theorem Cmp_s (p q n m : Int) (w0 : World) (k1 : 0 ≤ p * m ∧ p * m ≤ 1000000000000000000) (k2 : 0 ≤ n * q ∧ n * q ≤ 1000000000000000000) :
    Calls Try.prog 111 #[.agg #[.int .i64 p, .int .i64 q], .agg #[.int .i64 n, .int .i64 m]] w0 fun e w' => e = .returned (.int .i64 (sgn (p * m - n * q))) ∧ Below w0.heap.size w0 w' := by
  have S0 := St.start w0
  refine enter (n := 23) Try.func111 rfl rfl rfl (fun ac A0 => ?_)
  refine wp_seq ?_
  refine wp_region_lit ?_
  refine s_box (.agg #[.int .i64 p, .int .i64 q]) A0 S0 (by kernel_rfl) rfl (fun g3 ac wc A1 S2 => ?_)
  replace S2 : St _ (⟨g3, 75, #[.int .i64 p, .int .i64 q], true⟩ :: _) _ _ := S2
  refine s_box (.agg #[.int .i64 n, .int .i64 m]) A1 S2 (by kernel_rfl) rfl (fun g7 ac wc A5 S6 => ?_)
  replace S6 : St _ (⟨g7, 75, #[.int .i64 n, .int .i64 m], true⟩ :: _) _ _ := S6
  refine s_one (.int .i64 0) A5 S6 (g_assign (by kernel_rfl)) rfl (fun ac A9 => ?_)
  refine wpList_nil ?_
  refine n_then ?_
  refine wp_seq ?_
  refine r_begin (w0 := w0) (by kernel_rfl) (S6.sub sub_all sub_all) (fun wc T10 B11 => ?_)
  have S12 := S6.kept B11
  refine r_take 0 (.pointer (some ⟨g3, 0, none⟩)) A9 T10 (g_field (u := .pointer (some ⟨g3, 0, none⟩)) (by kernel_rfl) (fun _ => by kernel_rfl)) rfl rfl rfl (pf_then pf_body) (by kernel_rfl) (fun ac A13 => ?_)
  refine r_take 1 (.int .i64 p) A13 T10 (g_load (g := g3) (off := 0) 1 (by kernel_rfl) rfl (by kernel_rfl)) rfl rfl rfl (pf_then pf_body) (by kernel_rfl) (fun ac A14 => ?_)
  refine r_take 2 (.pointer (some ⟨g7, 1, none⟩)) A14 T10 (g_field (u := .pointer (some ⟨g7, 0, none⟩)) (by kernel_rfl) (fun _ => by kernel_rfl)) rfl rfl rfl (pf_then pf_body) (by kernel_rfl) (fun ac A15 => ?_)
  refine r_take 3 (.int .i64 m) A15 T10 (g_load (g := g7) (off := 1) 0 (by kernel_rfl) rfl (by kernel_rfl)) rfl rfl rfl (pf_then pf_body) (by kernel_rfl) (fun ac A16 => ?_)
  refine r_take 4 (.int .i64 (p * m)) A16 T10 (g_bin (u := .int .i64 p) (k := .int .i64 m) (by kernel_rfl) (by kernel_rfl) (fun _ => by kernel_rfl) (b_mul (by omega))) rfl rfl rfl (pf_then pf_body) (by kernel_rfl) (fun ac A17 => ?_)
  refine r_take 5 (.pointer (some ⟨g7, 0, none⟩)) A17 T10 (g_field (u := .pointer (some ⟨g7, 0, none⟩)) (by kernel_rfl) (fun _ => by kernel_rfl)) rfl rfl rfl (pf_then pf_body) (by kernel_rfl) (fun ac A18 => ?_)
  refine r_take 6 (.int .i64 n) A18 T10 (g_load (g := g7) (off := 0) 0 (by kernel_rfl) rfl (by kernel_rfl)) rfl rfl rfl (pf_then pf_body) (by kernel_rfl) (fun ac A19 => ?_)
  refine r_take 7 (.pointer (some ⟨g3, 1, none⟩)) A19 T10 (g_field (u := .pointer (some ⟨g3, 0, none⟩)) (by kernel_rfl) (fun _ => by kernel_rfl)) rfl rfl rfl (pf_then pf_body) (by kernel_rfl) (fun ac A20 => ?_)
  refine r_take 8 (.int .i64 q) A20 T10 (g_load (g := g3) (off := 1) 1 (by kernel_rfl) rfl (by kernel_rfl)) rfl rfl rfl (pf_then pf_body) (by kernel_rfl) (fun ac A21 => ?_)
  refine r_take 9 (.int .i64 (n * q)) A21 T10 (g_bin (u := .int .i64 n) (k := .int .i64 q) (by kernel_rfl) (by kernel_rfl) (fun _ => by kernel_rfl) (b_mul (by omega))) rfl rfl rfl (pf_then pf_body) (by kernel_rfl) (fun ac A22 => ?_)
  refine r_take 10 (.int .i64 (p * m)) A22 T10 (g_assign (by kernel_rfl)) rfl rfl rfl (pf_then pf_body) (by kernel_rfl) (fun ac A23 => ?_)
  refine r_take 11 (.int .i64 (n * q)) A23 T10 (g_assign (by kernel_rfl)) rfl rfl rfl (pf_then pf_body) (by kernel_rfl) (fun ac A24 => ?_)
  refine r_done (by kernel_rfl) ?_
  refine n_then ?_
  refine wp_seq ?_
  refine wp_seq ?_
  refine wp_region_lit ?_
  refine s_one (.int .i64 (p * m)) A24 S12 (g_move (by kernel_rfl)) rfl (fun ac A25 => ?_)
  refine s_one (.int .i64 (n * q)) A25 S12 (g_move (by kernel_rfl)) rfl (fun ac A26 => ?_)
  refine s_one (.bool (decide (p * m < n * q))) A26 S12 (g_bin (u := .int .i64 (p * m)) (k := .int .i64 (n * q)) (by kernel_rfl) (by kernel_rfl) (fun _ => by kernel_rfl) (fun _ => by kernel_rfl)) rfl (fun ac A27 => ?_)
  refine wpList_nil ?_
  refine n_then ?_
  refine c_ifb (b := (decide (p * m < n * q))) A27 (by kernel_rfl) (fun h28 => ?_) (fun h28 => ?_)
  · have p29 := of_decide_eq_true h28
    refine wp_seq ?_
    refine wp_region_lit ?_
    refine s_one (.int .i64 (-1)) A27 S12 (g_assign (by kernel_rfl)) rfl (fun ac A30 => ?_)
    refine wpList_nil ?_
    refine n_then ?_
    refine wp_ret ?_
    refine r_then ?_
    refine fin1 (.int .i64 (-1)) Try.results111 A30 S12 (rv_tmp (by kernel_rfl)) ⟨?_, S12.kp⟩
    rw [sgn_neg (show p * m - n * q < 0 by omega)]
  · have p31 := of_decide_eq_false h28
    refine wp_skip ?_
    refine n_then ?_
    refine wp_seq ?_
    refine wp_seq ?_
    refine wp_region_lit ?_
    refine s_one (.int .i64 (p * m)) A27 S12 (g_move (by kernel_rfl)) rfl (fun ac A32 => ?_)
    refine s_one (.int .i64 (n * q)) A32 S12 (g_move (by kernel_rfl)) rfl (fun ac A33 => ?_)
    refine s_one (.bool (decide (p * m > n * q))) A33 S12 (g_bin (u := .int .i64 (p * m)) (k := .int .i64 (n * q)) (by kernel_rfl) (by kernel_rfl) (fun _ => by kernel_rfl) (fun _ => by kernel_rfl)) rfl (fun ac A34 => ?_)
    refine wpList_nil ?_
    refine n_then ?_
    refine c_ifb (b := (decide (p * m > n * q))) A34 (by kernel_rfl) (fun h35 => ?_) (fun h35 => ?_)
    · have p36 := of_decide_eq_true h35
      refine wp_seq ?_
      refine wp_region_lit ?_
      refine s_one (.int .i64 1) A34 S12 (g_assign (by kernel_rfl)) rfl (fun ac A37 => ?_)
      refine wpList_nil ?_
      refine n_then ?_
      refine wp_ret ?_
      refine r_then ?_
      refine fin1 (.int .i64 1) Try.results111 A37 S12 (rv_tmp (by kernel_rfl)) ⟨?_, S12.kp⟩
      rw [sgn_pos (show 0 < p * m - n * q by omega)]
    · have p38 := of_decide_eq_false h35
      refine wp_skip ?_
      refine n_then ?_
      refine wp_seq ?_
      refine wp_region_lit ?_
      refine s_one (.int .i64 0) A34 S12 (g_assign (by kernel_rfl)) rfl (fun ac A39 => ?_)
      refine wpList_nil ?_
      refine n_then ?_
      refine wp_ret ?_
      refine fin1 (.int .i64 0) Try.results111 A39 S12 (rv_tmp (by kernel_rfl)) ⟨?_, S12.kp⟩
      rw [show p * m - n * q = 0 by omega, sgn_zero]

set_option maxRecDepth 100000 in
set_option maxHeartbeats 400000 in
theorem refSteepWithin_s (a b n d m k : Int) (w0 : World) (hd : d ≤ 9223372036854775807) (hk : k ≤ 9223372036854775807) (z1 : dirE a b = 0) :
    Calls Try.prog 66 #[.agg #[.int .i64 a, .int .i64 b], .agg #[.int .i64 n, .int .i64 d], .agg #[.int .i64 m, .int .i64 k]] w0 fun e w' => e = .returned (.tuple #[.bool (zb (stE a b n d m k) (stB a b n d m k)), .int .i64 (stE a b n d m k)]) ∧ Below w0.heap.size w0 w' := by
  have S0 := St.start w0
  have hd0 := dirE_0 z1
  have mb0 := mxa_bd hd0.1
  refine enter (n := 48) Try.func66 rfl rfl rfl (fun ac A0 => ?_)
  refine wp_seq ?_
  refine wp_region_lit ?_
  refine s_box (.agg #[.int .i64 a, .int .i64 b]) A0 S0 (by kernel_rfl) rfl (fun g3 ac wc A1 S2 => ?_)
  replace S2 : St _ (⟨g3, 71, #[.int .i64 a, .int .i64 b], true⟩ :: _) _ _ := S2
  refine s_box (.agg #[.int .i64 n, .int .i64 d]) A1 S2 (by kernel_rfl) rfl (fun g7 ac wc A5 S6 => ?_)
  replace S6 : St _ (⟨g7, 75, #[.int .i64 n, .int .i64 d], true⟩ :: _) _ _ := S6
  refine s_box (.agg #[.int .i64 m, .int .i64 k]) A5 S6 (by kernel_rfl) rfl (fun g11 ac wc A9 S10 => ?_)
  replace S10 : St _ (⟨g11, 75, #[.int .i64 m, .int .i64 k], true⟩ :: _) _ _ := S10
  refine s_one (.bool false) A9 S10 (g_assign (by kernel_rfl)) rfl (fun ac A13 => ?_)
  refine s_one (.int .i64 0) A13 S10 (g_assign (by kernel_rfl)) rfl (fun ac A14 => ?_)
  refine wpList_nil ?_
  refine n_then ?_
  refine wp_seq ?_
  refine wp_seq ?_
  refine r_begin (w0 := w0) (by kernel_rfl) (S10.sub sub_all sub_all) (fun wc T15 B16 => ?_)
  have S17 := S10.kept B16
  refine r_take 0 (.agg #[.int .i64 n, .int .i64 d]) A14 T15 (g_load (g := g7) (off := 0) 1 (by kernel_rfl) rfl (by kernel_rfl)) rfl rfl rfl (pf_then (pf_then pf_body)) (by kernel_rfl) (fun ac A18 => ?_)
  refine r_take 2 (.agg #[.int .i64 m, .int .i64 k]) A18 T15 (g_load (g := g11) (off := 0) 0 (by kernel_rfl) rfl (by kernel_rfl)) rfl rfl rfl (pf_then (pf_then pf_body)) (by kernel_rfl) (fun ac A19 => ?_)
  refine r_1 (i := 1) (by kernel_rfl) ?_
  refine rs_call (fs := #[]) (cp := #[]) (r := [(0, .agg #[.int .i64 n, .int .i64 d])]) #[.agg #[.int .i64 n, .int .i64 d]] (.int .i64 (shE n d)) A19 S17 sub_all sub_all (LimitErr_s n d _ (by omega)) Try.call110 rfl rfl (by kernel_rfl) (by kernel_rfl) (by kernel_rfl) rfl (fun ac wc A20 S21 => ?_)
  have T23 := S21.sub sub_all sub_all
  refine r_1 (i := 3) (by kernel_rfl) ?_
  refine rs_call (fs := #[]) (cp := #[]) (r := [(0, .agg #[.int .i64 m, .int .i64 k])]) #[.agg #[.int .i64 m, .int .i64 k]] (.int .i64 (shE m k)) A20 S21 sub_all sub_all (LimitErr_s m k _ (by omega)) Try.call110 rfl rfl (by kernel_rfl) (by kernel_rfl) (by kernel_rfl) rfl (fun ac wc A24 S25 => ?_)
  have T27 := S25.sub sub_all sub_all
  refine r_1 (i := 4) (by kernel_rfl) ?_
  refine rs_bs (e := 3) (r := [(0, .int .i64 (shE n d)), (1, .int .i64 (shE m k))]) (#[.int .i64 (shE n d), .int .i64 (shE m k)]) A24 S25 sub_all sub_all (by kernel_rfl) (by kernel_rfl) rfl rfl rfl (fun g30 ac wc A28 S29 => ?_)
  have T31 := S29.sub (sub_skip sub_all) sub_all
  refine r_1 (i := 5) (by kernel_rfl) ?_
  refine rs_call (fs := #[]) (cp := #[]) (r := [(0, .slice (some ⟨g30, 0, none⟩) 2 2)]) #[.slice (some ⟨g30, 0, none⟩) 2 2] (.int .i64 (firstOf [shE n d, shE m k])) A28 S29 (sub_skip sub_all) sub_all (firstOf_s g30 ([shE n d, shE m k]) 2 2 _ (S29.get 0 rfl) rfl (by omega)) Try.call79 rfl rfl (by kernel_rfl) (by kernel_rfl) (by kernel_rfl) rfl (fun ac wc A32 S33 => ?_)
  have T35 := S33.sub (sub_skip sub_all) sub_all
  refine r_take 6 (.int .i64 (firstOf [shE n d, shE m k])) A32 T35 (g_assign (by kernel_rfl)) rfl rfl rfl (pf_then (pf_then pf_body)) (by kernel_rfl) (fun ac A36 => ?_)
  refine r_done (by kernel_rfl) ?_
  refine n_then ?_
  refine wp_seq ?_
  refine wp_region_lit ?_
  refine s_one (.int .i64 (firstOf [shE n d, shE m k])) A36 S33 (g_move (by kernel_rfl)) rfl (fun ac A37 => ?_)
  refine s_one (.bool (decide (firstOf [shE n d, shE m k] ≠ 0))) A37 S33 (g_bin (u := .int .i64 (firstOf [shE n d, shE m k])) (k := .int .i64 0) (by kernel_rfl) (by kernel_rfl) (fun _ => by kernel_rfl) b_neq) rfl (fun ac A38 => ?_)
  refine wpList_nil ?_
  refine n_then ?_
  refine c_ifb (b := (decide (firstOf [shE n d, shE m k] ≠ 0))) A38 (by kernel_rfl) (fun h39 => ?_) (fun h39 => ?_)
  · have p40 := of_decide_eq_true h39
    have zf : stF a b n d m k ≠ 0 := by unfold stF; rw [fo_cons0 z1]; exact of_decide_eq_true h39
    have ee : stE a b n d m k = firstOf [shE n d, shE m k] := (stE_f zf).trans (fo_cons0 z1)
    have zn : stE a b n d m k ≠ 0 := by rw [stE_f zf]; exact zf
    refine wp_seq ?_
    refine wp_region_lit ?_
    refine s_one (.int .i64 (firstOf [shE n d, shE m k])) A38 S33 (g_move (by kernel_rfl)) rfl (fun ac A41 => ?_)
    refine s_one (.bool false) A41 S33 (g_assign (by kernel_rfl)) rfl (fun ac A42 => ?_)
    refine s_one (.int .i64 (firstOf [shE n d, shE m k])) A42 S33 (g_assign (by kernel_rfl)) rfl (fun ac A43 => ?_)
    refine wpList_nil ?_
    refine n_then ?_
    refine wp_ret ?_
    refine r_then ?_
    refine fin2 (.bool false) (.int .i64 (firstOf [shE n d, shE m k])) Try.results66 A43 S33 (rv_tmp (by kernel_rfl)) (rv_tmp (by kernel_rfl)) ⟨?_, S33.kp⟩
    rw [zb_n zn, ee]
  · have p44 := of_decide_eq_false h39
    have zf0 : firstOf [shE n d, shE m k] = 0 := by simpa using h39
    have zf : stF a b n d m k = 0 := (fo_cons0 z1).trans zf0
    have sb := st_bd zf
    have zz := stF_0 zf
    have mb := mxa_bd zz.1.1
    refine wp_skip ?_
    refine n_then ?_
    refine wp_seq ?_
    refine wp_seq ?_
    refine wp_region_lit ?_
    refine s_one (.agg #[.int .i64 n, .int .i64 d]) A38 S33 (g_load (g := g7) (off := 0) 2 (by kernel_rfl) rfl (by kernel_rfl)) rfl (fun ac A45 => ?_)
    refine s_one (.agg #[.int .i64 m, .int .i64 k]) A45 S33 (g_load (g := g11) (off := 0) 1 (by kernel_rfl) rfl (by kernel_rfl)) rfl (fun ac A46 => ?_)
    refine s_call (fs := #[]) (cp := #[]) (r := [(0, .agg #[.int .i64 n, .int .i64 d]), (0, .agg #[.int .i64 m, .int .i64 k])]) #[.agg #[.int .i64 n, .int .i64 d], .agg #[.int .i64 m, .int .i64 k]] (.int .i64 (sgn (n * k - m * d))) A46 S33 (Cmp_s n d m k _ (by omega) (by omega)) Try.call111 (by kernel_rfl) (by kernel_rfl) (by kernel_rfl) rfl (fun ac wc A47 S48 => ?_)
    refine s_one (.bool (decide (sgn (n * k - m * d) > 0))) A47 S48 (g_bin (u := .int .i64 (sgn (n * k - m * d))) (k := .int .i64 0) (by kernel_rfl) (by kernel_rfl) (fun _ => by kernel_rfl) (fun _ => by kernel_rfl)) rfl (fun ac A50 => ?_)
    refine wpList_nil ?_
    refine n_then ?_
    refine c_ifb (b := (decide (sgn (n * k - m * d) > 0))) A50 (by kernel_rfl) (fun h51 => ?_) (fun h51 => ?_)
    · have p52 := of_decide_eq_true h51
      have ee := stE_9 zf (by have := sgn_gt.1 (of_decide_eq_true h51); omega)
      have zn : stE a b n d m k ≠ 0 := by rw [ee]; decide
      refine wp_seq ?_
      refine wp_region_lit ?_
      refine s_one (.bool false) A50 S48 (g_assign (by kernel_rfl)) rfl (fun ac A53 => ?_)
      refine s_one (.int .i64 9) A53 S48 (g_assign (by kernel_rfl)) rfl (fun ac A54 => ?_)
      refine wpList_nil ?_
      refine n_then ?_
      refine wp_ret ?_
      refine r_then ?_
      refine fin2 (.bool false) (.int .i64 9) Try.results66 A54 S48 (rv_tmp (by kernel_rfl)) (rv_tmp (by kernel_rfl)) ⟨?_, S48.kp⟩
      rw [zb_n zn, ee]
    · have p55 := of_decide_eq_false h51
      have ee := stE_0 zf (fun kk => (of_decide_eq_false h51) (sgn_gt.2 (by omega)))
      refine wp_skip ?_
      refine n_then ?_
      refine wp_seq ?_
      refine wp_region_lit ?_
      refine s_one (.pointer (some ⟨g3, 0, none⟩)) A50 S48 (g_index (u := .pointer (some ⟨g3, 0, none⟩)) (k := .int .i64 0) (by kernel_rfl) (by kernel_rfl) (fun _ => by kernel_rfl)) rfl (fun ac A56 => ?_)
      refine s_one (.int .i64 a) A56 S48 (g_load (g := g3) (off := 0) 3 (by kernel_rfl) rfl (by kernel_rfl)) rfl (fun ac A57 => ?_)
      refine s_call (fs := #[]) (cp := #[]) (r := [(0, .int .i64 a)]) #[.int .i64 a] (.int .i64 (mx a (-a))) A57 S48 (Size_s a _ (by omega) (by omega)) Try.call112 (by kernel_rfl) (by kernel_rfl) (by kernel_rfl) rfl (fun ac wc A58 S59 => ?_)
      refine s_one (.int .i64 (mx a (-a))) A58 S59 (g_assign (by kernel_rfl)) rfl (fun ac A61 => ?_)
      refine wpList_nil ?_
      refine n_then ?_
      refine wp_seq ?_
      refine c_cut (fun ac wc => Fr 48 ac [(7, .int .i64 0), (6, .bool ((decide (n * b ≤ (mx a (-a)) * d)) && (decide ((mx a (-a)) * k ≤ m * b)))), (0, .agg #[.int .i64 a, .int .i64 b]), (1, .agg #[.int .i64 n, .int .i64 d]), (2, .agg #[.int .i64 m, .int .i64 k]), (3, .pointer (some ⟨g3, 0, none⟩)), (4, .pointer (some ⟨g7, 0, none⟩)), (5, .pointer (some ⟨g11, 0, none⟩)), (10, .agg #[.int .i64 n, .int .i64 d]), (12, .agg #[.int .i64 m, .int .i64 k]), (11, .int .i64 (shE n d)), (13, .int .i64 (shE m k)), (14, .slice (some ⟨g30, 0, none⟩) 2 2), (15, .int .i64 (firstOf [shE n d, shE m k])), (8, .int .i64 (firstOf [shE n d, shE m k])), (16, .int .i64 (firstOf [shE n d, shE m k])), (17, .bool (decide (firstOf [shE n d, shE m k] ≠ 0))), (19, .agg #[.int .i64 n, .int .i64 d]), (20, .agg #[.int .i64 m, .int .i64 k]), (21, .int .i64 (sgn (n * k - m * d))), (22, .bool (decide (sgn (n * k - m * d) > 0))), (23, .pointer (some ⟨g3, 0, none⟩)), (24, .int .i64 a), (25, .int .i64 (mx a (-a))), (9, .int .i64 (mx a (-a)))] ∧ St w0 [⟨g30, 3, #[.int .i64 (shE n d), .int .i64 (shE m k)], true⟩, ⟨g11, 75, #[.int .i64 m, .int .i64 k], true⟩, ⟨g7, 75, #[.int .i64 n, .int .i64 d], true⟩, ⟨g3, 71, #[.int .i64 a, .int .i64 b], true⟩] [] wc) ?_ ?_
      · refine wp_region_lit ?_
        refine s_one (.pointer (some ⟨g7, 0, none⟩)) A61 S59 (g_field (u := .pointer (some ⟨g7, 0, none⟩)) (by kernel_rfl) (fun _ => by kernel_rfl)) rfl (fun ac A62 => ?_)
        refine s_one (.int .i64 n) A62 S59 (g_load (g := g7) (off := 0) 2 (by kernel_rfl) rfl (by kernel_rfl)) rfl (fun ac A63 => ?_)
        refine s_one (.pointer (some ⟨g3, 1, none⟩)) A63 S59 (g_index (u := .pointer (some ⟨g3, 0, none⟩)) (k := .int .i64 1) (by kernel_rfl) (by kernel_rfl) (fun _ => by kernel_rfl)) rfl (fun ac A64 => ?_)
        refine s_one (.int .i64 b) A64 S59 (g_load (g := g3) (off := 1) 3 (by kernel_rfl) rfl (by kernel_rfl)) rfl (fun ac A65 => ?_)
        refine s_one (.int .i64 (n * b)) A65 S59 (g_bin (u := .int .i64 n) (k := .int .i64 b) (by kernel_rfl) (by kernel_rfl) (fun _ => by kernel_rfl) (b_mul (by omega))) rfl (fun ac A66 => ?_)
        refine s_one (.int .i64 (mx a (-a))) A66 S59 (g_move (by kernel_rfl)) rfl (fun ac A67 => ?_)
        refine s_one (.pointer (some ⟨g7, 1, none⟩)) A67 S59 (g_field (u := .pointer (some ⟨g7, 0, none⟩)) (by kernel_rfl) (fun _ => by kernel_rfl)) rfl (fun ac A68 => ?_)
        refine s_one (.int .i64 d) A68 S59 (g_load (g := g7) (off := 1) 2 (by kernel_rfl) rfl (by kernel_rfl)) rfl (fun ac A69 => ?_)
        refine s_one (.int .i64 ((mx a (-a)) * d)) A69 S59 (g_bin (u := .int .i64 (mx a (-a))) (k := .int .i64 d) (by kernel_rfl) (by kernel_rfl) (fun _ => by kernel_rfl) (b_mul (by omega))) rfl (fun ac A70 => ?_)
        refine s_one (.bool (decide (n * b ≤ (mx a (-a)) * d))) A70 S59 (g_bin (u := .int .i64 (n * b)) (k := .int .i64 ((mx a (-a)) * d)) (by kernel_rfl) (by kernel_rfl) (fun _ => by kernel_rfl) (fun _ => by kernel_rfl)) rfl (fun ac A71 => ?_)
        refine s_one (.bool (decide (n * b ≤ (mx a (-a)) * d))) A71 S59 (g_move (by kernel_rfl)) rfl (fun ac A72 => ?_)
        refine by_bool (decide (n * b ≤ (mx a (-a)) * d)) (fun h73 => ?_) (fun h73 => ?_)
        · have p74 := of_decide_eq_true h73
          refine s_want (dj := 36) (b := (decide (n * b ≤ (mx a (-a)) * d))) A72 (by kernel_rfl) (by kernel_rfl) h73 ?_
          refine s_one (.int .i64 (mx a (-a))) A72 S59 (g_move (by kernel_rfl)) rfl (fun ac A75 => ?_)
          refine s_want (dj := 36) (b := (decide (n * b ≤ (mx a (-a)) * d))) A75 (by kernel_rfl) (by kernel_rfl) h73 ?_
          refine s_one (.pointer (some ⟨g11, 1, none⟩)) A75 S59 (g_field (u := .pointer (some ⟨g11, 0, none⟩)) (by kernel_rfl) (fun _ => by kernel_rfl)) rfl (fun ac A76 => ?_)
          refine s_want (dj := 36) (b := (decide (n * b ≤ (mx a (-a)) * d))) A76 (by kernel_rfl) (by kernel_rfl) h73 ?_
          refine s_one (.int .i64 k) A76 S59 (g_load (g := g11) (off := 1) 1 (by kernel_rfl) rfl (by kernel_rfl)) rfl (fun ac A77 => ?_)
          refine s_want (dj := 36) (b := (decide (n * b ≤ (mx a (-a)) * d))) A77 (by kernel_rfl) (by kernel_rfl) h73 ?_
          refine s_one (.int .i64 ((mx a (-a)) * k)) A77 S59 (g_bin (u := .int .i64 (mx a (-a))) (k := .int .i64 k) (by kernel_rfl) (by kernel_rfl) (fun _ => by kernel_rfl) (b_mul (by omega))) rfl (fun ac A78 => ?_)
          refine s_want (dj := 36) (b := (decide (n * b ≤ (mx a (-a)) * d))) A78 (by kernel_rfl) (by kernel_rfl) h73 ?_
          refine s_one (.pointer (some ⟨g11, 0, none⟩)) A78 S59 (g_field (u := .pointer (some ⟨g11, 0, none⟩)) (by kernel_rfl) (fun _ => by kernel_rfl)) rfl (fun ac A79 => ?_)
          refine s_want (dj := 36) (b := (decide (n * b ≤ (mx a (-a)) * d))) A79 (by kernel_rfl) (by kernel_rfl) h73 ?_
          refine s_one (.int .i64 m) A79 S59 (g_load (g := g11) (off := 0) 1 (by kernel_rfl) rfl (by kernel_rfl)) rfl (fun ac A80 => ?_)
          refine s_want (dj := 36) (b := (decide (n * b ≤ (mx a (-a)) * d))) A80 (by kernel_rfl) (by kernel_rfl) h73 ?_
          refine s_one (.pointer (some ⟨g3, 1, none⟩)) A80 S59 (g_index (u := .pointer (some ⟨g3, 0, none⟩)) (k := .int .i64 1) (by kernel_rfl) (by kernel_rfl) (fun _ => by kernel_rfl)) rfl (fun ac A81 => ?_)
          refine s_want (dj := 36) (b := (decide (n * b ≤ (mx a (-a)) * d))) A81 (by kernel_rfl) (by kernel_rfl) h73 ?_
          refine s_one (.int .i64 b) A81 S59 (g_load (g := g3) (off := 1) 3 (by kernel_rfl) rfl (by kernel_rfl)) rfl (fun ac A82 => ?_)
          refine s_want (dj := 36) (b := (decide (n * b ≤ (mx a (-a)) * d))) A82 (by kernel_rfl) (by kernel_rfl) h73 ?_
          refine s_one (.int .i64 (m * b)) A82 S59 (g_bin (u := .int .i64 m) (k := .int .i64 b) (by kernel_rfl) (by kernel_rfl) (fun _ => by kernel_rfl) (b_mul (by omega))) rfl (fun ac A83 => ?_)
          refine s_want (dj := 36) (b := (decide (n * b ≤ (mx a (-a)) * d))) A83 (by kernel_rfl) (by kernel_rfl) h73 ?_
          refine s_one (.bool (decide ((mx a (-a)) * k ≤ m * b))) A83 S59 (g_bin (u := .int .i64 ((mx a (-a)) * k)) (k := .int .i64 (m * b)) (by kernel_rfl) (by kernel_rfl) (fun _ => by kernel_rfl) (fun _ => by kernel_rfl)) rfl (fun ac A84 => ?_)
          refine s_one (.bool (decide ((mx a (-a)) * k ≤ m * b))) A84 S59 (g_pick_t (b := (decide (n * b ≤ (mx a (-a)) * d))) (by kernel_rfl) h73 (by kernel_rfl)) rfl (fun ac A85 => ?_)
          refine s_one (.bool (decide ((mx a (-a)) * k ≤ m * b))) A85 S59 (g_assign (by kernel_rfl)) rfl (fun ac A86 => ?_)
          refine s_one (.int .i64 0) A86 S59 (g_assign (by kernel_rfl)) rfl (fun ac A87 => ?_)
          refine wpList_nil ?_
          refine n_then ?_
          exact ⟨(A87.slot (A87.slot (A87.slot (A87.slot (A87.slot (A87.slot (A87.slot (A87.slot (A87.slot (A87.slot (A87.slot (A87.slot (A87.slot (A87.slot (A87.slot (A87.slot (A87.slot (A87.slot (A87.slot (A87.slot (A87.slot (A87.slot (A87.slot (A87.slot (A87.slot A87.nil (v := .int .i64 (mx a (-a))) (by kernel_rfl) rfl) (v := .int .i64 (mx a (-a))) (by kernel_rfl) rfl) (v := .int .i64 a) (by kernel_rfl) rfl) (v := .pointer (some ⟨g3, 0, none⟩)) (by kernel_rfl) rfl) (v := .bool (decide (sgn (n * k - m * d) > 0))) (by kernel_rfl) rfl) (v := .int .i64 (sgn (n * k - m * d))) (by kernel_rfl) rfl) (v := .agg #[.int .i64 m, .int .i64 k]) (by kernel_rfl) rfl) (v := .agg #[.int .i64 n, .int .i64 d]) (by kernel_rfl) rfl) (v := .bool (decide (firstOf [shE n d, shE m k] ≠ 0))) (by kernel_rfl) rfl) (v := .int .i64 (firstOf [shE n d, shE m k])) (by kernel_rfl) rfl) (v := .int .i64 (firstOf [shE n d, shE m k])) (by kernel_rfl) rfl) (v := .int .i64 (firstOf [shE n d, shE m k])) (by kernel_rfl) rfl) (v := .slice (some ⟨g30, 0, none⟩) 2 2) (by kernel_rfl) rfl) (v := .int .i64 (shE m k)) (by kernel_rfl) rfl) (v := .int .i64 (shE n d)) (by kernel_rfl) rfl) (v := .agg #[.int .i64 m, .int .i64 k]) (by kernel_rfl) rfl) (v := .agg #[.int .i64 n, .int .i64 d]) (by kernel_rfl) rfl) (v := .pointer (some ⟨g11, 0, none⟩)) (by kernel_rfl) rfl) (v := .pointer (some ⟨g7, 0, none⟩)) (by kernel_rfl) rfl) (v := .pointer (some ⟨g3, 0, none⟩)) (by kernel_rfl) rfl) (v := .agg #[.int .i64 m, .int .i64 k]) (by kernel_rfl) rfl) (v := .agg #[.int .i64 n, .int .i64 d]) (by kernel_rfl) rfl) (v := .agg #[.int .i64 a, .int .i64 b]) (by kernel_rfl) rfl) (v := .bool (decide ((mx a (-a)) * k ≤ m * b))) (by kernel_rfl) (congrArg Value.bool (b_and_t h73 (Eq.refl (decide ((mx a (-a)) * k ≤ m * b)))).symm)) (v := .int .i64 0) (by kernel_rfl) rfl), S59.sub sub_all sub_all⟩
        · have p88 := of_decide_eq_false h73
          refine s_not (dj := 36) (b := (decide (n * b ≤ (mx a (-a)) * d))) A72 (by kernel_rfl) (by kernel_rfl) h73 rfl (fun ac A89 => ?_)
          refine s_not (dj := 36) (b := (decide (n * b ≤ (mx a (-a)) * d))) A89 (by kernel_rfl) (by kernel_rfl) h73 rfl (fun ac A90 => ?_)
          refine s_not (dj := 36) (b := (decide (n * b ≤ (mx a (-a)) * d))) A90 (by kernel_rfl) (by kernel_rfl) h73 rfl (fun ac A91 => ?_)
          refine s_not (dj := 36) (b := (decide (n * b ≤ (mx a (-a)) * d))) A91 (by kernel_rfl) (by kernel_rfl) h73 rfl (fun ac A92 => ?_)
          refine s_not (dj := 36) (b := (decide (n * b ≤ (mx a (-a)) * d))) A92 (by kernel_rfl) (by kernel_rfl) h73 rfl (fun ac A93 => ?_)
          refine s_not (dj := 36) (b := (decide (n * b ≤ (mx a (-a)) * d))) A93 (by kernel_rfl) (by kernel_rfl) h73 rfl (fun ac A94 => ?_)
          refine s_not (dj := 36) (b := (decide (n * b ≤ (mx a (-a)) * d))) A94 (by kernel_rfl) (by kernel_rfl) h73 rfl (fun ac A95 => ?_)
          refine s_not (dj := 36) (b := (decide (n * b ≤ (mx a (-a)) * d))) A95 (by kernel_rfl) (by kernel_rfl) h73 rfl (fun ac A96 => ?_)
          refine s_not (dj := 36) (b := (decide (n * b ≤ (mx a (-a)) * d))) A96 (by kernel_rfl) (by kernel_rfl) h73 rfl (fun ac A97 => ?_)
          refine s_not (dj := 36) (b := (decide (n * b ≤ (mx a (-a)) * d))) A97 (by kernel_rfl) (by kernel_rfl) h73 rfl (fun ac A98 => ?_)
          refine s_one (.bool false) A98 S59 (g_pick_f (b := (decide (n * b ≤ (mx a (-a)) * d))) (by kernel_rfl) h73 (by kernel_rfl)) rfl (fun ac A99 => ?_)
          refine s_one (.bool false) A99 S59 (g_assign (by kernel_rfl)) rfl (fun ac A100 => ?_)
          refine s_one (.int .i64 0) A100 S59 (g_assign (by kernel_rfl)) rfl (fun ac A101 => ?_)
          refine wpList_nil ?_
          refine n_then ?_
          exact ⟨(A101.slot (A101.slot (A101.slot (A101.slot (A101.slot (A101.slot (A101.slot (A101.slot (A101.slot (A101.slot (A101.slot (A101.slot (A101.slot (A101.slot (A101.slot (A101.slot (A101.slot (A101.slot (A101.slot (A101.slot (A101.slot (A101.slot (A101.slot (A101.slot (A101.slot A101.nil (v := .int .i64 (mx a (-a))) (by kernel_rfl) rfl) (v := .int .i64 (mx a (-a))) (by kernel_rfl) rfl) (v := .int .i64 a) (by kernel_rfl) rfl) (v := .pointer (some ⟨g3, 0, none⟩)) (by kernel_rfl) rfl) (v := .bool (decide (sgn (n * k - m * d) > 0))) (by kernel_rfl) rfl) (v := .int .i64 (sgn (n * k - m * d))) (by kernel_rfl) rfl) (v := .agg #[.int .i64 m, .int .i64 k]) (by kernel_rfl) rfl) (v := .agg #[.int .i64 n, .int .i64 d]) (by kernel_rfl) rfl) (v := .bool (decide (firstOf [shE n d, shE m k] ≠ 0))) (by kernel_rfl) rfl) (v := .int .i64 (firstOf [shE n d, shE m k])) (by kernel_rfl) rfl) (v := .int .i64 (firstOf [shE n d, shE m k])) (by kernel_rfl) rfl) (v := .int .i64 (firstOf [shE n d, shE m k])) (by kernel_rfl) rfl) (v := .slice (some ⟨g30, 0, none⟩) 2 2) (by kernel_rfl) rfl) (v := .int .i64 (shE m k)) (by kernel_rfl) rfl) (v := .int .i64 (shE n d)) (by kernel_rfl) rfl) (v := .agg #[.int .i64 m, .int .i64 k]) (by kernel_rfl) rfl) (v := .agg #[.int .i64 n, .int .i64 d]) (by kernel_rfl) rfl) (v := .pointer (some ⟨g11, 0, none⟩)) (by kernel_rfl) rfl) (v := .pointer (some ⟨g7, 0, none⟩)) (by kernel_rfl) rfl) (v := .pointer (some ⟨g3, 0, none⟩)) (by kernel_rfl) rfl) (v := .agg #[.int .i64 m, .int .i64 k]) (by kernel_rfl) rfl) (v := .agg #[.int .i64 n, .int .i64 d]) (by kernel_rfl) rfl) (v := .agg #[.int .i64 a, .int .i64 b]) (by kernel_rfl) rfl) (v := .bool false) (by kernel_rfl) (congrArg Value.bool (b_af1 h73).symm)) (v := .int .i64 0) (by kernel_rfl) rfl), S59.sub sub_all sub_all⟩
      · rintro ac wc ⟨A102, S103⟩
        refine n_then ?_
        refine wp_ret ?_
        refine fin2 (.bool ((decide (n * b ≤ (mx a (-a)) * d)) && (decide ((mx a (-a)) * k ≤ m * b)))) (.int .i64 0) Try.results66 A102 S103 (rv_tmp (by kernel_rfl)) (rv_tmp (by kernel_rfl)) ⟨?_, S103.kp⟩
        rw [zb_0 ee, ee]
        rfl

end Go.Proofs.Ytnfmfkejhgbipaa
