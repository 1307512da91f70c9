/- The walk of RaySymmetric: it returns true. -/
import Derived.Test.YtnfmfkejhgbipaaRay8
import Derived.Test.YtnfmfkejhgbipaaArgs
namespace Go.Proofs.Ytnfmfkejhgbipaa
open Go.RowKit Go.Cpl Go.Ray1

def meets_a_r (alo : Int) (ahi : Int) (blo : Int) (bhi : Int) : Bool := decide (mx alo blo ≤ mn ahi bhi)

set_option maxRecDepth 100000 in
set_option maxHeartbeats 400000 in
theorem meets_a (alo : Int) (ahi : Int) (blo : Int) (bhi : Int) (w0 : World) :
    Calls Try.prog 25 #[.agg #[.int .i64 alo, .int .i64 ahi], .agg #[.int .i64 blo, .int .i64 bhi]] w0 fun e w' => e = .returned (.bool (meets_a_r alo ahi blo bhi)) ∧ Below w0.heap.size w0 w' := by
  have S0 := St.start w0
  refine enter (n := 16) Try.func25 rfl rfl rfl (fun ac A0 => ?_)
  refine wp_seq ?_
  refine wp_region_lit ?_
  refine s_box (.agg #[.int .i64 alo, .int .i64 ahi]) A0 S0 (by kernel_rfl) rfl (fun g3 ac wc A1 S2 => ?_)
  replace S2 : St _ (⟨g3, 29, #[.int .i64 alo, .int .i64 ahi], true⟩ :: _) _ _ := S2
  refine s_box (.agg #[.int .i64 blo, .int .i64 bhi]) A1 S2 (by kernel_rfl) rfl (fun g7 ac wc A5 S6 => ?_)
  replace S6 : St _ (⟨g7, 29, #[.int .i64 blo, .int .i64 bhi], true⟩ :: _) _ _ := S6
  refine s_one (.bool false) A5 S6 (g_assign (by kernel_rfl)) rfl (fun ac A9 => ?_)
  refine wpList_nil ?_
  refine n_then ?_
  refine wp_seq ?_
  refine wp_region_lit ?_
  refine s_one (.pointer (some ⟨g3, 0, none⟩)) A9 S6 (g_field (u := .pointer (some ⟨g3, 0, none⟩)) (by kernel_rfl) (fun _ => by kernel_rfl)) rfl (fun ac A10 => ?_)
  refine s_one (.int .i64 alo) A10 S6 (g_load (g := g3) (off := 0) 1 (by kernel_rfl) rfl (by kernel_rfl)) rfl (fun ac A11 => ?_)
  refine s_one (.pointer (some ⟨g7, 0, none⟩)) A11 S6 (g_field (u := .pointer (some ⟨g7, 0, none⟩)) (by kernel_rfl) (fun _ => by kernel_rfl)) rfl (fun ac A12 => ?_)
  refine s_one (.int .i64 blo) A12 S6 (g_load (g := g7) (off := 0) 0 (by kernel_rfl) rfl (by kernel_rfl)) rfl (fun ac A13 => ?_)
  refine s_one (.int .i64 (mx alo blo)) A13 S6 (g_built (r := [(0, .int .i64 alo), (0, .int .i64 blo)]) (by kernel_rfl) (fun ty cs w => by show (do let x ← Builtin.max_ _ ty #[.int .i64 alo, .int .i64 blo]; pure (Next.value x) : Sem Next).run _ w = _; rw [Sem.run_bind, run_max_mx]; rfl)) rfl (fun ac A14 => ?_)
  refine s_one (.pointer (some ⟨g3, 1, none⟩)) A14 S6 (g_field (u := .pointer (some ⟨g3, 0, none⟩)) (by kernel_rfl) (fun _ => by kernel_rfl)) rfl (fun ac A15 => ?_)
  refine s_one (.int .i64 ahi) A15 S6 (g_load (g := g3) (off := 1) 1 (by kernel_rfl) rfl (by kernel_rfl)) rfl (fun ac A16 => ?_)
  refine s_one (.pointer (some ⟨g7, 1, none⟩)) A16 S6 (g_field (u := .pointer (some ⟨g7, 0, none⟩)) (by kernel_rfl) (fun _ => by kernel_rfl)) rfl (fun ac A17 => ?_)
  refine s_one (.int .i64 bhi) A17 S6 (g_load (g := g7) (off := 1) 0 (by kernel_rfl) rfl (by kernel_rfl)) rfl (fun ac A18 => ?_)
  refine s_one (.int .i64 (mn ahi bhi)) A18 S6 (g_built (r := [(0, .int .i64 ahi), (0, .int .i64 bhi)]) (by kernel_rfl) (fun ty cs w => by show (do let x ← Builtin.min_ _ ty #[.int .i64 ahi, .int .i64 bhi]; pure (Next.value x) : Sem Next).run _ w = _; rw [Sem.run_bind, run_min_mn]; rfl)) rfl (fun ac A19 => ?_)
  refine s_one (.bool (decide (mx alo blo ≤ mn ahi bhi))) A19 S6 (g_bin (u := .int .i64 (mx alo blo)) (k := .int .i64 (mn ahi bhi)) (by kernel_rfl) (by kernel_rfl) (fun _ => by kernel_rfl) (fun _ => by kernel_rfl)) rfl (fun ac A20 => ?_)
  refine s_one (.bool (decide (mx alo blo ≤ mn ahi bhi))) A20 S6 (g_assign (by kernel_rfl)) rfl (fun ac A21 => ?_)
  refine wpList_nil ?_
  refine n_then ?_
  refine wp_ret ?_
  refine fin1 (.bool (decide (mx alo blo ≤ mn ahi bhi))) Try.results25 A21 S6 (rv_tmp (by kernel_rfl)) ⟨?_, S6.kp⟩
  have e : meets_a_r alo ahi blo bhi = (decide (mx alo blo ≤ mn ahi bhi)) := by unfold meets_a_r; exact rfl
  rw [e]

theorem lenU_n (x z : Int) : lenU (-x) z = lenU x z := by unfold lenU lenN; rw [Int.neg_mul_neg]
theorem mHi_at (c : Cr) : ∃ q, mHi c = timHi c q := by
  unfold mHi
  split
  · by_cases z : timHi c (crs c) ≤ timHi c (crs c + 1)
    · exact ⟨crs c, by omega⟩
    · exact ⟨crs c + 1, by omega⟩
  · exact ⟨crs c, rfl⟩
def swp (c : Cr) : Cr := ⟨c.x2, c.h2, c.v2, c.x1, c.h1, c.v1⟩
def mir (c : Cr) : Cr := ⟨-c.x1, c.h1, c.v1, -c.x2, c.h2, c.v2⟩
def mov (c : Cr) (b : Int) : Cr := ⟨c.x1 + b, c.h1, c.v1, c.x2 + b, c.h2, c.v2⟩
theorem swp_ok {c : Cr} (ok : c.Ok) : (swp c).Ok := ⟨ok.x2, ok.x1, ok.h2, ok.h1, ok.v2, ok.v1⟩
theorem mir_ok {c : Cr} (ok : c.Ok) : (mir c).Ok := ⟨by have := ok.x1; show -100000 ≤ -c.x1 ∧ -c.x1 ≤ 100000; omega, by have := ok.x2; show -100000 ≤ -c.x2 ∧ -c.x2 ≤ 100000; omega, ok.h1, ok.h2, ok.v1, ok.v2⟩
theorem swp_t (c : Cr) (q : Int) : timHi (swp c) q = timHi c q := by
  show tHi (lenU (q - c.x2) c.h2) c.v2 + tHi (lenU (c.x1 - q) c.h1) c.v1 = tHi (lenU (q - c.x1) c.h1) c.v1 + tHi (lenU (c.x2 - q) c.h2) c.v2
  rw [← lenU_n (q - c.x1), ← lenU_n (q - c.x2), show -(q - c.x1) = c.x1 - q by omega, show -(q - c.x2) = c.x2 - q by omega]; omega
theorem mir_t (c : Cr) (q : Int) : timHi (mir c) q = timHi c (-q) := by
  show tHi (lenU (q - -c.x1) c.h1) c.v1 + tHi (lenU (-c.x2 - q) c.h2) c.v2 = tHi (lenU (-q - c.x1) c.h1) c.v1 + tHi (lenU (c.x2 - -q) c.h2) c.v2
  rw [← lenU_n (q - -c.x1), ← lenU_n (-c.x2 - q), show -(q - -c.x1) = -q - c.x1 by omega, show -(-c.x2 - q) = c.x2 - -q by omega]
theorem swp_meet {c : Cr} (ok : c.Ok) : leLo c ≤ mHi (swp c) ∧ leLo (swp c) ≤ mHi c := by
  obtain ⟨q, h⟩ := mHi_at c; obtain ⟨q2, h2⟩ := mHi_at (swp c)
  rw [h, h2, swp_t, ← swp_t c q]
  exact ⟨leLo_place ok q2, leLo_place (swp_ok ok) q⟩
theorem mir_meet {c : Cr} (ok : c.Ok) : leLo c ≤ mHi (mir c) ∧ leLo (mir c) ≤ mHi c := by
  obtain ⟨q, h⟩ := mHi_at c; obtain ⟨q2, h2⟩ := mHi_at (mir c)
  have e := mir_t c (-q)
  rw [Int.neg_neg] at e
  rw [h, h2, mir_t, ← e]
  exact ⟨leLo_place ok (-q2), leLo_place (mir_ok ok) (-q)⟩
theorem mov_lo (c : Cr) (b : Int) : (mov c b).lo = c.lo + b ∧ (mov c b).hi = c.hi + b := by
  constructor
  · show min (c.x1 + b) (c.x2 + b) = min c.x1 c.x2 + b; omega
  · show max (c.x1 + b) (c.x2 + b) = max c.x1 c.x2 + b; omega
theorem mov_d (c : Cr) (b p : Int) : p + b - (mov c b).x1 = p - c.x1 ∧ (mov c b).x2 - (p + b) = c.x2 - p := by
  constructor
  · show p + b - (c.x1 + b) = p - c.x1; omega
  · show c.x2 + b - (p + b) = c.x2 - p; omega
theorem mov_slp (c : Cr) (b p : Int) : slp (mov c b) (p + b) = slp c p := by
  unfold slp
  rw [(mov_d c b p).1, (mov_d c b p).2]
  have e : ((mov c b).x2 < (mov c b).x1) ↔ (c.x2 < c.x1) := by show c.x2 + b < c.x1 + b ↔ _; omega
  simp only [e]
  rfl
theorem mov_t (c : Cr) (b p : Int) : timHi (mov c b) (p + b) = timHi c p ∧ timLo (mov c b) (p + b) = timLo c p := by
  unfold timHi timLo
  rw [(mov_d c b p).1, (mov_d c b p).2]
  exact ⟨rfl, rfl⟩
theorem mov_crs {c : Cr} (ok : c.Ok) {b : Int} (ok2 : (mov c b).Ok) : crs (mov c b) = crs c + b := by
  have k := crs_is ok
  obtain ⟨e1, e2⟩ := mov_lo c b
  refine crs_eq ok2 ⟨by have := k.lo; omega, by have := k.hi; omega, by rw [mov_slp]; exact k.le, fun h => ?_⟩
  rw [show crs c + b + 1 = crs c + 1 + b by omega, mov_slp]
  exact k.gt (by omega)
theorem mov_same {c : Cr} (ok : c.Ok) {b : Int} (ok2 : (mov c b).Ok) : leLo (mov c b) = leLo c ∧ mHi (mov c b) = mHi c := by
  obtain ⟨e1, e2⟩ := mov_lo c b
  have ek := mov_crs ok ok2
  have t0 := mov_t c b (crs c); have t1 := mov_t c b (crs c + 1)
  have m1 : mLo (mov c b) = mLo c := by
    unfold mLo; rw [ek, e2, show crs c + b + 1 = crs c + 1 + b by omega, t0.2, t1.2]
    by_cases z : crs c + 1 ≤ c.hi
    · rw [if_pos z, if_pos (by omega)]
    · rw [if_neg z, if_neg (by omega)]
  have m2 : mHi (mov c b) = mHi c := by
    unfold mHi; rw [ek, e2, show crs c + b + 1 = crs c + 1 + b by omega, t0.1, t1.1]
    by_cases z : crs c + 1 ≤ c.hi
    · rw [if_pos z, if_pos (by omega)]
    · rw [if_neg z, if_neg (by omega)]
  exact ⟨by unfold leLo; rw [m1]; rfl, m2⟩
theorem mov_E {c : Cr} {b : Int} : crE (mov c b) = 0 ∨ crE (mov c b) = 2 := crE_c _

set_option maxRecDepth 100000 in
set_option maxHeartbeats 400000 in
theorem RaySymmetric_s (c : Cr) (b : Int) (w0 : World) :
    Calls Try.prog 4 #[.agg #[.int .i64 c.x1, .int .i64 c.h1, .int .i64 c.v1, .int .i64 c.x2, .int .i64 c.h2, .int .i64 c.v2], .int .i64 b] w0 fun e w' => e = .returned (.bool true) ∧ Below w0.heap.size w0 w' := by
  have S0 := St.start w0
  refine enter (n := 114) Try.func4 rfl rfl rfl (fun ac A0 => ?_)
  refine wp_seq ?_
  refine wp_region_lit ?_
  refine s_box (.agg #[.int .i64 c.x1, .int .i64 c.h1, .int .i64 c.v1, .int .i64 c.x2, .int .i64 c.h2, .int .i64 c.v2]) A0 S0 (by kernel_rfl) rfl (fun g3 ac wc A1 S2 => ?_)
  replace S2 : St _ (⟨g3, 23, #[.int .i64 c.x1, .int .i64 c.h1, .int .i64 c.v1, .int .i64 c.x2, .int .i64 c.h2, .int .i64 c.v2], true⟩ :: _) _ _ := S2
  refine s_one (.bool false) A1 S2 (g_assign (by kernel_rfl)) rfl (fun ac A5 => ?_)
  refine wpList_nil ?_
  refine n_then ?_
  refine wp_seq ?_
  refine wp_seq ?_
  refine wp_region_lit ?_
  refine s_call (fs := #[]) (cp := #[]) (r := []) #[] (.bool true) A5 S2 (awake_s _) Try.call19 (by kernel_rfl) (by kernel_rfl) (by kernel_rfl) rfl (fun ac wc A6 S7 => ?_)
  refine s_one (.bool false) A6 S7 (g_un (u := .bool true) (by kernel_rfl) (fun _ => by kernel_rfl)) rfl (fun ac A9 => ?_)
  refine wpList_nil ?_
  refine n_then ?_
  refine c_f (b := false) A9 (by kernel_rfl) rfl ?_
  refine wp_skip ?_
  refine n_then ?_
  refine wp_seq ?_
  refine wp_region_lit ?_
  refine s_one (.agg #[.int .i64 c.x1, .int .i64 c.h1, .int .i64 c.v1, .int .i64 c.x2, .int .i64 c.h2, .int .i64 c.v2]) A9 S7 (g_load (g := g3) (off := 0) 0 (by kernel_rfl) rfl (by kernel_rfl)) rfl (fun ac A10 => ?_)
  refine s_call (fs := #[]) (cp := #[]) (r := [(0, .agg #[.int .i64 c.x1, .int .i64 c.h1, .int .i64 c.v1, .int .i64 c.x2, .int .i64 c.h2, .int .i64 c.v2])]) #[.agg #[.int .i64 c.x1, .int .i64 c.h1, .int .i64 c.v1, .int .i64 c.x2, .int .i64 c.h2, .int .i64 c.v2]] (.tuple #[.agg #[.int .i64 (zv (crE c) (leLo c)), .int .i64 (zv (crE c) (mHi c))], .int .i64 (crE c)]) A10 S7 (Least_s c _) Try.call21 (by kernel_rfl) (by kernel_rfl) (by kernel_rfl) rfl (fun ac wc A11 S12 => ?_)
  refine s_one (.tuple #[.agg #[.int .i64 (zv (crE c) (leLo c)), .int .i64 (zv (crE c) (mHi c))], .int .i64 (crE c)]) A11 S12 (g_move (by kernel_rfl)) rfl (fun ac A14 => ?_)
  refine s_one (.agg #[.int .i64 (zv (crE c) (leLo c)), .int .i64 (zv (crE c) (mHi c))]) A14 S12 (g_extract (u := .tuple #[.agg #[.int .i64 (zv (crE c) (leLo c)), .int .i64 (zv (crE c) (mHi c))], .int .i64 (crE c)]) (by kernel_rfl) (fun _ => by kernel_rfl)) rfl (fun ac A15 => ?_)
  refine s_one (.int .i64 (crE c)) A15 S12 (g_extract (u := .tuple #[.agg #[.int .i64 (zv (crE c) (leLo c)), .int .i64 (zv (crE c) (mHi c))], .int .i64 (crE c)]) (by kernel_rfl) (fun _ => by kernel_rfl)) rfl (fun ac A16 => ?_)
  refine s_alloc (#[.int .i64 0, .int .i64 0]) A16 S12 (by kernel_rfl) rfl (fun g19 ac wc A17 S18 => ?_)
  refine s_store (g := g19) (off := 0) (v := .agg #[.int .i64 (zv (crE c) (leLo c)), .int .i64 (zv (crE c) (mHi c))]) 0 (#[.int .i64 (zv (crE c) (leLo c)), .int .i64 (zv (crE c) (mHi c))]) A17 S18 (by kernel_rfl) (by kernel_rfl) rfl (by kernel_rfl) (fun wc S21 => ?_)
  refine s_one (.int .i64 (crE c)) A17 S21 (g_assign (by kernel_rfl)) rfl (fun ac A23 => ?_)
  refine wpList_nil ?_
  refine n_then ?_
  refine wp_seq ?_
  refine wp_seq ?_
  refine wp_region_lit ?_
  refine s_one (.int .i64 (crE c)) A23 S21 (g_move (by kernel_rfl)) rfl (fun ac A24 => ?_)
  refine s_one (.bool (decide (crE c ≠ 0))) A24 S21 (g_bin (u := .int .i64 (crE c)) (k := .int .i64 0) (by kernel_rfl) (by kernel_rfl) (fun _ => by kernel_rfl) b_neq) rfl (fun ac A25 => ?_)
  refine wpList_nil ?_
  refine n_then ?_
  refine c_ifb (b := (decide (crE c ≠ 0))) A25 (by kernel_rfl) (fun h26 => ?_) (fun h26 => ?_)
  · have p27 := of_decide_eq_true h26
    have zn := of_decide_eq_true h26
    refine wp_seq ?_
    refine wp_region_lit ?_
    refine s_one (.agg #[.int .i64 (zv (crE c) (leLo c)), .int .i64 (zv (crE c) (mHi c))]) A25 S21 (g_load (g := g19) (off := 0) 0 (by kernel_rfl) rfl (by kernel_rfl)) rfl (fun ac A28 => ?_)
    refine s_one (.agg #[.int .i64 0, .int .i64 0]) A28 S21 (g_build (r := []) (by kernel_rfl) (fun _ => by kernel_rfl)) rfl (fun ac A29 => ?_)
    refine s_one (.bool (decide ([zv (crE c) (leLo c), zv (crE c) (mHi c)] = [0, 0]))) A29 S21 (g_bin (u := .agg #[.int .i64 (zv (crE c) (leLo c)), .int .i64 (zv (crE c) (mHi c))]) (k := .agg #[.int .i64 0, .int .i64 0]) (by kernel_rfl) (by kernel_rfl) (fun _ => by kernel_rfl) (q_struct (n := 2) [zv (crE c) (leLo c), zv (crE c) (mHi c)] [0, 0] (by kernel_rfl) rfl rfl)) rfl (fun ac A30 => ?_)
    refine s_one (.bool (decide ([zv (crE c) (leLo c), zv (crE c) (mHi c)] = [0, 0]))) A30 S21 (g_assign (by kernel_rfl)) rfl (fun ac A31 => ?_)
    refine wpList_nil ?_
    refine n_then ?_
    refine wp_ret ?_
    refine r_then ?_
    refine fin1 (.bool (decide ([zv (crE c) (leLo c), zv (crE c) (mHi c)] = [0, 0]))) Try.results4 A31 S21 (rv_tmp (by kernel_rfl)) ⟨?_, S21.kp⟩
    exact congrArg (fun b => Ending.returned (Value.bool b)) (decide_eq_true (by first | rfl | assumption | rw [zv_n zn, zv_n zn] | (rw [zv_0 hv, zv_0 hv, zv_0 ze, zv_0 ze, sm.1, sm.2]) | (simp only [mx_eq, mn_eq, zv_0 ze, zv_0 zs]; omega) | (simp only [mx_eq, mn_eq, zv_0 ze, zv_0 zm]; omega) | omega))
  · have p32 := of_decide_eq_false h26
    have ze : crE c = 0 := by simpa using h26
    have ok := crE_ok ze
    have p1 := ok.x1
    have p2 := ok.x2
    have p3 := ok.h1
    have p4 := ok.h2
    have p5 := ok.v1
    have p6 := ok.v2
    have pl : c.lo = min c.x1 c.x2 := rfl
    have ph : c.hi = max c.x1 c.x2 := rfl
    have zs : crE ⟨c.x2, c.h2, c.v2, c.x1, c.h1, c.v1⟩ = 0 := crE_of (swp_ok ok)
    have zm : crE ⟨-c.x1, c.h1, c.v1, -c.x2, c.h2, c.v2⟩ = 0 := crE_of (mir_ok ok)
    have ls := le_bd ok
    have l2 : 0 ≤ leLo ⟨c.x2, c.h2, c.v2, c.x1, c.h1, c.v1⟩ ∧ leLo ⟨c.x2, c.h2, c.v2, c.x1, c.h1, c.v1⟩ ≤ mHi ⟨c.x2, c.h2, c.v2, c.x1, c.h1, c.v1⟩ ∧ mHi ⟨c.x2, c.h2, c.v2, c.x1, c.h1, c.v1⟩ ≤ 12000000000 := le_bd (swp_ok ok)
    have l3 : 0 ≤ leLo ⟨-c.x1, c.h1, c.v1, -c.x2, c.h2, c.v2⟩ ∧ leLo ⟨-c.x1, c.h1, c.v1, -c.x2, c.h2, c.v2⟩ ≤ mHi ⟨-c.x1, c.h1, c.v1, -c.x2, c.h2, c.v2⟩ ∧ mHi ⟨-c.x1, c.h1, c.v1, -c.x2, c.h2, c.v2⟩ ≤ 12000000000 := le_bd (mir_ok ok)
    have w1 : leLo c ≤ mHi ⟨c.x2, c.h2, c.v2, c.x1, c.h1, c.v1⟩ ∧ leLo ⟨c.x2, c.h2, c.v2, c.x1, c.h1, c.v1⟩ ≤ mHi c := swp_meet ok
    have w2 : leLo c ≤ mHi ⟨-c.x1, c.h1, c.v1, -c.x2, c.h2, c.v2⟩ ∧ leLo ⟨-c.x1, c.h1, c.v1, -c.x2, c.h2, c.v2⟩ ≤ mHi c := mir_meet ok
    refine wp_skip ?_
    refine n_then ?_
    refine wp_seq ?_
    refine wp_region_lit ?_
    refine s_one (.pointer (some ⟨g3, 3, none⟩)) A25 S21 (g_field (u := .pointer (some ⟨g3, 0, none⟩)) (by kernel_rfl) (fun _ => by kernel_rfl)) rfl (fun ac A33 => ?_)
    refine s_one (.int .i64 c.x2) A33 S21 (g_load (g := g3) (off := 3) 1 (by kernel_rfl) rfl (by kernel_rfl)) rfl (fun ac A34 => ?_)
    refine s_one (.pointer (some ⟨g3, 4, none⟩)) A34 S21 (g_field (u := .pointer (some ⟨g3, 0, none⟩)) (by kernel_rfl) (fun _ => by kernel_rfl)) rfl (fun ac A35 => ?_)
    refine s_one (.int .i64 c.h2) A35 S21 (g_load (g := g3) (off := 4) 1 (by kernel_rfl) rfl (by kernel_rfl)) rfl (fun ac A36 => ?_)
    refine s_one (.pointer (some ⟨g3, 5, none⟩)) A36 S21 (g_field (u := .pointer (some ⟨g3, 0, none⟩)) (by kernel_rfl) (fun _ => by kernel_rfl)) rfl (fun ac A37 => ?_)
    refine s_one (.int .i64 c.v2) A37 S21 (g_load (g := g3) (off := 5) 1 (by kernel_rfl) rfl (by kernel_rfl)) rfl (fun ac A38 => ?_)
    refine s_one (.pointer (some ⟨g3, 0, none⟩)) A38 S21 (g_field (u := .pointer (some ⟨g3, 0, none⟩)) (by kernel_rfl) (fun _ => by kernel_rfl)) rfl (fun ac A39 => ?_)
    refine s_one (.int .i64 c.x1) A39 S21 (g_load (g := g3) (off := 0) 1 (by kernel_rfl) rfl (by kernel_rfl)) rfl (fun ac A40 => ?_)
    refine s_one (.pointer (some ⟨g3, 1, none⟩)) A40 S21 (g_field (u := .pointer (some ⟨g3, 0, none⟩)) (by kernel_rfl) (fun _ => by kernel_rfl)) rfl (fun ac A41 => ?_)
    refine s_one (.int .i64 c.h1) A41 S21 (g_load (g := g3) (off := 1) 1 (by kernel_rfl) rfl (by kernel_rfl)) rfl (fun ac A42 => ?_)
    refine s_one (.pointer (some ⟨g3, 2, none⟩)) A42 S21 (g_field (u := .pointer (some ⟨g3, 0, none⟩)) (by kernel_rfl) (fun _ => by kernel_rfl)) rfl (fun ac A43 => ?_)
    refine s_one (.int .i64 c.v1) A43 S21 (g_load (g := g3) (off := 2) 1 (by kernel_rfl) rfl (by kernel_rfl)) rfl (fun ac A44 => ?_)
    refine s_one (.agg #[.int .i64 c.x2, .int .i64 c.h2, .int .i64 c.v2, .int .i64 c.x1, .int .i64 c.h1, .int .i64 c.v1]) A44 S21 (g_build (r := [(0, .int .i64 c.x2), (1, .int .i64 c.h2), (2, .int .i64 c.v2), (3, .int .i64 c.x1), (4, .int .i64 c.h1), (5, .int .i64 c.v1)]) (by kernel_rfl) (fun _ => by kernel_rfl)) rfl (fun ac A45 => ?_)
    refine s_call (fs := #[]) (cp := #[]) (r := [(0, .agg #[.int .i64 c.x2, .int .i64 c.h2, .int .i64 c.v2, .int .i64 c.x1, .int .i64 c.h1, .int .i64 c.v1])]) #[.agg #[.int .i64 c.x2, .int .i64 c.h2, .int .i64 c.v2, .int .i64 c.x1, .int .i64 c.h1, .int .i64 c.v1]] (.tuple #[.agg #[.int .i64 (zv (crE ⟨c.x2, c.h2, c.v2, c.x1, c.h1, c.v1⟩) (leLo ⟨c.x2, c.h2, c.v2, c.x1, c.h1, c.v1⟩)), .int .i64 (zv (crE ⟨c.x2, c.h2, c.v2, c.x1, c.h1, c.v1⟩) (mHi ⟨c.x2, c.h2, c.v2, c.x1, c.h1, c.v1⟩))], .int .i64 (crE ⟨c.x2, c.h2, c.v2, c.x1, c.h1, c.v1⟩)]) A45 S21 (Least_s ⟨c.x2, c.h2, c.v2, c.x1, c.h1, c.v1⟩ _) Try.call21 (by kernel_rfl) (by kernel_rfl) (by kernel_rfl) rfl (fun ac wc A46 S47 => ?_)
    refine s_one (.tuple #[.agg #[.int .i64 (zv (crE ⟨c.x2, c.h2, c.v2, c.x1, c.h1, c.v1⟩) (leLo ⟨c.x2, c.h2, c.v2, c.x1, c.h1, c.v1⟩)), .int .i64 (zv (crE ⟨c.x2, c.h2, c.v2, c.x1, c.h1, c.v1⟩) (mHi ⟨c.x2, c.h2, c.v2, c.x1, c.h1, c.v1⟩))], .int .i64 (crE ⟨c.x2, c.h2, c.v2, c.x1, c.h1, c.v1⟩)]) A46 S47 (g_move (by kernel_rfl)) rfl (fun ac A49 => ?_)
    refine s_one (.agg #[.int .i64 (zv (crE ⟨c.x2, c.h2, c.v2, c.x1, c.h1, c.v1⟩) (leLo ⟨c.x2, c.h2, c.v2, c.x1, c.h1, c.v1⟩)), .int .i64 (zv (crE ⟨c.x2, c.h2, c.v2, c.x1, c.h1, c.v1⟩) (mHi ⟨c.x2, c.h2, c.v2, c.x1, c.h1, c.v1⟩))]) A49 S47 (g_extract (u := .tuple #[.agg #[.int .i64 (zv (crE ⟨c.x2, c.h2, c.v2, c.x1, c.h1, c.v1⟩) (leLo ⟨c.x2, c.h2, c.v2, c.x1, c.h1, c.v1⟩)), .int .i64 (zv (crE ⟨c.x2, c.h2, c.v2, c.x1, c.h1, c.v1⟩) (mHi ⟨c.x2, c.h2, c.v2, c.x1, c.h1, c.v1⟩))], .int .i64 (crE ⟨c.x2, c.h2, c.v2, c.x1, c.h1, c.v1⟩)]) (by kernel_rfl) (fun _ => by kernel_rfl)) rfl (fun ac A50 => ?_)
    refine s_one (.int .i64 (crE ⟨c.x2, c.h2, c.v2, c.x1, c.h1, c.v1⟩)) A50 S47 (g_extract (u := .tuple #[.agg #[.int .i64 (zv (crE ⟨c.x2, c.h2, c.v2, c.x1, c.h1, c.v1⟩) (leLo ⟨c.x2, c.h2, c.v2, c.x1, c.h1, c.v1⟩)), .int .i64 (zv (crE ⟨c.x2, c.h2, c.v2, c.x1, c.h1, c.v1⟩) (mHi ⟨c.x2, c.h2, c.v2, c.x1, c.h1, c.v1⟩))], .int .i64 (crE ⟨c.x2, c.h2, c.v2, c.x1, c.h1, c.v1⟩)]) (by kernel_rfl) (fun _ => by kernel_rfl)) rfl (fun ac A51 => ?_)
    refine s_alloc (#[.int .i64 0, .int .i64 0]) A51 S47 (by kernel_rfl) rfl (fun g54 ac wc A52 S53 => ?_)
    refine s_store (g := g54) (off := 0) (v := .agg #[.int .i64 (zv (crE ⟨c.x2, c.h2, c.v2, c.x1, c.h1, c.v1⟩) (leLo ⟨c.x2, c.h2, c.v2, c.x1, c.h1, c.v1⟩)), .int .i64 (zv (crE ⟨c.x2, c.h2, c.v2, c.x1, c.h1, c.v1⟩) (mHi ⟨c.x2, c.h2, c.v2, c.x1, c.h1, c.v1⟩))]) 0 (#[.int .i64 (zv (crE ⟨c.x2, c.h2, c.v2, c.x1, c.h1, c.v1⟩) (leLo ⟨c.x2, c.h2, c.v2, c.x1, c.h1, c.v1⟩)), .int .i64 (zv (crE ⟨c.x2, c.h2, c.v2, c.x1, c.h1, c.v1⟩) (mHi ⟨c.x2, c.h2, c.v2, c.x1, c.h1, c.v1⟩))]) A52 S53 (by kernel_rfl) (by kernel_rfl) rfl (by kernel_rfl) (fun wc S56 => ?_)
    refine s_one (.int .i64 (crE ⟨c.x2, c.h2, c.v2, c.x1, c.h1, c.v1⟩)) A52 S56 (g_assign (by kernel_rfl)) rfl (fun ac A58 => ?_)
    refine wpList_nil ?_
    refine n_then ?_
    refine wp_seq ?_
    refine wp_region_lit ?_
    refine s_one (.pointer (some ⟨g3, 0, none⟩)) A58 S56 (g_field (u := .pointer (some ⟨g3, 0, none⟩)) (by kernel_rfl) (fun _ => by kernel_rfl)) rfl (fun ac A59 => ?_)
    refine s_one (.int .i64 c.x1) A59 S56 (g_load (g := g3) (off := 0) 2 (by kernel_rfl) rfl (by kernel_rfl)) rfl (fun ac A60 => ?_)
    refine s_one (.int .i64 (-c.x1)) A60 S56 (g_un (u := .int .i64 c.x1) (by kernel_rfl) (u_neg (by omega))) rfl (fun ac A61 => ?_)
    refine s_one (.pointer (some ⟨g3, 1, none⟩)) A61 S56 (g_field (u := .pointer (some ⟨g3, 0, none⟩)) (by kernel_rfl) (fun _ => by kernel_rfl)) rfl (fun ac A62 => ?_)
    refine s_one (.int .i64 c.h1) A62 S56 (g_load (g := g3) (off := 1) 2 (by kernel_rfl) rfl (by kernel_rfl)) rfl (fun ac A63 => ?_)
    refine s_one (.pointer (some ⟨g3, 2, none⟩)) A63 S56 (g_field (u := .pointer (some ⟨g3, 0, none⟩)) (by kernel_rfl) (fun _ => by kernel_rfl)) rfl (fun ac A64 => ?_)
    refine s_one (.int .i64 c.v1) A64 S56 (g_load (g := g3) (off := 2) 2 (by kernel_rfl) rfl (by kernel_rfl)) rfl (fun ac A65 => ?_)
    refine s_one (.pointer (some ⟨g3, 3, none⟩)) A65 S56 (g_field (u := .pointer (some ⟨g3, 0, none⟩)) (by kernel_rfl) (fun _ => by kernel_rfl)) rfl (fun ac A66 => ?_)
    refine s_one (.int .i64 c.x2) A66 S56 (g_load (g := g3) (off := 3) 2 (by kernel_rfl) rfl (by kernel_rfl)) rfl (fun ac A67 => ?_)
    refine s_one (.int .i64 (-c.x2)) A67 S56 (g_un (u := .int .i64 c.x2) (by kernel_rfl) (u_neg (by omega))) rfl (fun ac A68 => ?_)
    refine s_one (.pointer (some ⟨g3, 4, none⟩)) A68 S56 (g_field (u := .pointer (some ⟨g3, 0, none⟩)) (by kernel_rfl) (fun _ => by kernel_rfl)) rfl (fun ac A69 => ?_)
    refine s_one (.int .i64 c.h2) A69 S56 (g_load (g := g3) (off := 4) 2 (by kernel_rfl) rfl (by kernel_rfl)) rfl (fun ac A70 => ?_)
    refine s_one (.pointer (some ⟨g3, 5, none⟩)) A70 S56 (g_field (u := .pointer (some ⟨g3, 0, none⟩)) (by kernel_rfl) (fun _ => by kernel_rfl)) rfl (fun ac A71 => ?_)
    refine s_one (.int .i64 c.v2) A71 S56 (g_load (g := g3) (off := 5) 2 (by kernel_rfl) rfl (by kernel_rfl)) rfl (fun ac A72 => ?_)
    refine s_one (.agg #[.int .i64 (-c.x1), .int .i64 c.h1, .int .i64 c.v1, .int .i64 (-c.x2), .int .i64 c.h2, .int .i64 c.v2]) A72 S56 (g_build (r := [(0, .int .i64 (-c.x1)), (1, .int .i64 c.h1), (2, .int .i64 c.v1), (3, .int .i64 (-c.x2)), (4, .int .i64 c.h2), (5, .int .i64 c.v2)]) (by kernel_rfl) (fun _ => by kernel_rfl)) rfl (fun ac A73 => ?_)
    refine s_call (fs := #[]) (cp := #[]) (r := [(0, .agg #[.int .i64 (-c.x1), .int .i64 c.h1, .int .i64 c.v1, .int .i64 (-c.x2), .int .i64 c.h2, .int .i64 c.v2])]) #[.agg #[.int .i64 (-c.x1), .int .i64 c.h1, .int .i64 c.v1, .int .i64 (-c.x2), .int .i64 c.h2, .int .i64 c.v2]] (.tuple #[.agg #[.int .i64 (zv (crE ⟨-c.x1, c.h1, c.v1, -c.x2, c.h2, c.v2⟩) (leLo ⟨-c.x1, c.h1, c.v1, -c.x2, c.h2, c.v2⟩)), .int .i64 (zv (crE ⟨-c.x1, c.h1, c.v1, -c.x2, c.h2, c.v2⟩) (mHi ⟨-c.x1, c.h1, c.v1, -c.x2, c.h2, c.v2⟩))], .int .i64 (crE ⟨-c.x1, c.h1, c.v1, -c.x2, c.h2, c.v2⟩)]) A73 S56 (Least_s ⟨-c.x1, c.h1, c.v1, -c.x2, c.h2, c.v2⟩ _) Try.call21 (by kernel_rfl) (by kernel_rfl) (by kernel_rfl) rfl (fun ac wc A74 S75 => ?_)
    refine s_one (.tuple #[.agg #[.int .i64 (zv (crE ⟨-c.x1, c.h1, c.v1, -c.x2, c.h2, c.v2⟩) (leLo ⟨-c.x1, c.h1, c.v1, -c.x2, c.h2, c.v2⟩)), .int .i64 (zv (crE ⟨-c.x1, c.h1, c.v1, -c.x2, c.h2, c.v2⟩) (mHi ⟨-c.x1, c.h1, c.v1, -c.x2, c.h2, c.v2⟩))], .int .i64 (crE ⟨-c.x1, c.h1, c.v1, -c.x2, c.h2, c.v2⟩)]) A74 S75 (g_move (by kernel_rfl)) rfl (fun ac A77 => ?_)
    refine s_one (.agg #[.int .i64 (zv (crE ⟨-c.x1, c.h1, c.v1, -c.x2, c.h2, c.v2⟩) (leLo ⟨-c.x1, c.h1, c.v1, -c.x2, c.h2, c.v2⟩)), .int .i64 (zv (crE ⟨-c.x1, c.h1, c.v1, -c.x2, c.h2, c.v2⟩) (mHi ⟨-c.x1, c.h1, c.v1, -c.x2, c.h2, c.v2⟩))]) A77 S75 (g_extract (u := .tuple #[.agg #[.int .i64 (zv (crE ⟨-c.x1, c.h1, c.v1, -c.x2, c.h2, c.v2⟩) (leLo ⟨-c.x1, c.h1, c.v1, -c.x2, c.h2, c.v2⟩)), .int .i64 (zv (crE ⟨-c.x1, c.h1, c.v1, -c.x2, c.h2, c.v2⟩) (mHi ⟨-c.x1, c.h1, c.v1, -c.x2, c.h2, c.v2⟩))], .int .i64 (crE ⟨-c.x1, c.h1, c.v1, -c.x2, c.h2, c.v2⟩)]) (by kernel_rfl) (fun _ => by kernel_rfl)) rfl (fun ac A78 => ?_)
    refine s_one (.int .i64 (crE ⟨-c.x1, c.h1, c.v1, -c.x2, c.h2, c.v2⟩)) A78 S75 (g_extract (u := .tuple #[.agg #[.int .i64 (zv (crE ⟨-c.x1, c.h1, c.v1, -c.x2, c.h2, c.v2⟩) (leLo ⟨-c.x1, c.h1, c.v1, -c.x2, c.h2, c.v2⟩)), .int .i64 (zv (crE ⟨-c.x1, c.h1, c.v1, -c.x2, c.h2, c.v2⟩) (mHi ⟨-c.x1, c.h1, c.v1, -c.x2, c.h2, c.v2⟩))], .int .i64 (crE ⟨-c.x1, c.h1, c.v1, -c.x2, c.h2, c.v2⟩)]) (by kernel_rfl) (fun _ => by kernel_rfl)) rfl (fun ac A79 => ?_)
    refine s_alloc (#[.int .i64 0, .int .i64 0]) A79 S75 (by kernel_rfl) rfl (fun g82 ac wc A80 S81 => ?_)
    refine s_store (g := g82) (off := 0) (v := .agg #[.int .i64 (zv (crE ⟨-c.x1, c.h1, c.v1, -c.x2, c.h2, c.v2⟩) (leLo ⟨-c.x1, c.h1, c.v1, -c.x2, c.h2, c.v2⟩)), .int .i64 (zv (crE ⟨-c.x1, c.h1, c.v1, -c.x2, c.h2, c.v2⟩) (mHi ⟨-c.x1, c.h1, c.v1, -c.x2, c.h2, c.v2⟩))]) 0 (#[.int .i64 (zv (crE ⟨-c.x1, c.h1, c.v1, -c.x2, c.h2, c.v2⟩) (leLo ⟨-c.x1, c.h1, c.v1, -c.x2, c.h2, c.v2⟩)), .int .i64 (zv (crE ⟨-c.x1, c.h1, c.v1, -c.x2, c.h2, c.v2⟩) (mHi ⟨-c.x1, c.h1, c.v1, -c.x2, c.h2, c.v2⟩))]) A80 S81 (by kernel_rfl) (by kernel_rfl) rfl (by kernel_rfl) (fun wc S84 => ?_)
    refine s_one (.int .i64 (crE ⟨-c.x1, c.h1, c.v1, -c.x2, c.h2, c.v2⟩)) A80 S84 (g_assign (by kernel_rfl)) rfl (fun ac A86 => ?_)
    refine wpList_nil ?_
    refine n_then ?_
    refine wp_seq ?_
    refine wp_seq ?_
    refine wp_region_lit ?_
    refine s_one (.int .i64 (crE ⟨c.x2, c.h2, c.v2, c.x1, c.h1, c.v1⟩)) A86 S84 (g_move (by kernel_rfl)) rfl (fun ac A87 => ?_)
    refine s_one (.bool (decide (crE ⟨c.x2, c.h2, c.v2, c.x1, c.h1, c.v1⟩ ≠ 0))) A87 S84 (g_bin (u := .int .i64 (crE ⟨c.x2, c.h2, c.v2, c.x1, c.h1, c.v1⟩)) (k := .int .i64 0) (by kernel_rfl) (by kernel_rfl) (fun _ => by kernel_rfl) b_neq) rfl (fun ac A88 => ?_)
    refine s_one (.bool (decide (crE ⟨c.x2, c.h2, c.v2, c.x1, c.h1, c.v1⟩ ≠ 0))) A88 S84 (g_move (by kernel_rfl)) rfl (fun ac A89 => ?_)
    refine s_want (dj := 63) (b := (decide (crE ⟨c.x2, c.h2, c.v2, c.x1, c.h1, c.v1⟩ ≠ 0))) A89 (by kernel_rfl) (by kernel_rfl) (decide_eq_false (by first | rfl | assumption | rw [zv_n zn, zv_n zn] | (rw [zv_0 hv, zv_0 hv, zv_0 ze, zv_0 ze, sm.1, sm.2]) | (simp only [mx_eq, mn_eq, zv_0 ze, zv_0 zs]; omega) | (simp only [mx_eq, mn_eq, zv_0 ze, zv_0 zm]; omega) | omega)) ?_
    refine s_one (.int .i64 (crE ⟨-c.x1, c.h1, c.v1, -c.x2, c.h2, c.v2⟩)) A89 S84 (g_move (by kernel_rfl)) rfl (fun ac A90 => ?_)
    refine s_want (dj := 63) (b := (decide (crE ⟨c.x2, c.h2, c.v2, c.x1, c.h1, c.v1⟩ ≠ 0))) A90 (by kernel_rfl) (by kernel_rfl) (decide_eq_false (by first | rfl | assumption | rw [zv_n zn, zv_n zn] | (rw [zv_0 hv, zv_0 hv, zv_0 ze, zv_0 ze, sm.1, sm.2]) | (simp only [mx_eq, mn_eq, zv_0 ze, zv_0 zs]; omega) | (simp only [mx_eq, mn_eq, zv_0 ze, zv_0 zm]; omega) | omega)) ?_
    refine s_one (.bool (decide (crE ⟨-c.x1, c.h1, c.v1, -c.x2, c.h2, c.v2⟩ ≠ 0))) A90 S84 (g_bin (u := .int .i64 (crE ⟨-c.x1, c.h1, c.v1, -c.x2, c.h2, c.v2⟩)) (k := .int .i64 0) (by kernel_rfl) (by kernel_rfl) (fun _ => by kernel_rfl) b_neq) rfl (fun ac A91 => ?_)
    refine s_one (.bool (decide (crE ⟨-c.x1, c.h1, c.v1, -c.x2, c.h2, c.v2⟩ ≠ 0))) A91 S84 (g_pick_f (b := (decide (crE ⟨c.x2, c.h2, c.v2, c.x1, c.h1, c.v1⟩ ≠ 0))) (by kernel_rfl) (decide_eq_false (by first | rfl | assumption | rw [zv_n zn, zv_n zn] | (rw [zv_0 hv, zv_0 hv, zv_0 ze, zv_0 ze, sm.1, sm.2]) | (simp only [mx_eq, mn_eq, zv_0 ze, zv_0 zs]; omega) | (simp only [mx_eq, mn_eq, zv_0 ze, zv_0 zm]; omega) | omega)) (by kernel_rfl)) rfl (fun ac A92 => ?_)
    refine s_one (.bool (decide (crE ⟨-c.x1, c.h1, c.v1, -c.x2, c.h2, c.v2⟩ ≠ 0))) A92 S84 (g_move (by kernel_rfl)) rfl (fun ac A93 => ?_)
    refine s_want (dj := 67) (b := (decide (crE ⟨-c.x1, c.h1, c.v1, -c.x2, c.h2, c.v2⟩ ≠ 0))) A93 (by kernel_rfl) (by kernel_rfl) (decide_eq_false (by first | rfl | assumption | rw [zv_n zn, zv_n zn] | (rw [zv_0 hv, zv_0 hv, zv_0 ze, zv_0 ze, sm.1, sm.2]) | (simp only [mx_eq, mn_eq, zv_0 ze, zv_0 zs]; omega) | (simp only [mx_eq, mn_eq, zv_0 ze, zv_0 zm]; omega) | omega)) ?_
    refine s_one (.agg #[.int .i64 (zv (crE c) (leLo c)), .int .i64 (zv (crE c) (mHi c))]) A93 S84 (g_load (g := g19) (off := 0) 2 (by kernel_rfl) rfl (by kernel_rfl)) rfl (fun ac A94 => ?_)
    refine s_want (dj := 67) (b := (decide (crE ⟨-c.x1, c.h1, c.v1, -c.x2, c.h2, c.v2⟩ ≠ 0))) A94 (by kernel_rfl) (by kernel_rfl) (decide_eq_false (by first | rfl | assumption | rw [zv_n zn, zv_n zn] | (rw [zv_0 hv, zv_0 hv, zv_0 ze, zv_0 ze, sm.1, sm.2]) | (simp only [mx_eq, mn_eq, zv_0 ze, zv_0 zs]; omega) | (simp only [mx_eq, mn_eq, zv_0 ze, zv_0 zm]; omega) | omega)) ?_
    refine s_one (.agg #[.int .i64 (zv (crE ⟨c.x2, c.h2, c.v2, c.x1, c.h1, c.v1⟩) (leLo ⟨c.x2, c.h2, c.v2, c.x1, c.h1, c.v1⟩)), .int .i64 (zv (crE ⟨c.x2, c.h2, c.v2, c.x1, c.h1, c.v1⟩) (mHi ⟨c.x2, c.h2, c.v2, c.x1, c.h1, c.v1⟩))]) A94 S84 (g_load (g := g54) (off := 0) 1 (by kernel_rfl) rfl (by kernel_rfl)) rfl (fun ac A95 => ?_)
    refine s_want (dj := 67) (b := (decide (crE ⟨-c.x1, c.h1, c.v1, -c.x2, c.h2, c.v2⟩ ≠ 0))) A95 (by kernel_rfl) (by kernel_rfl) (decide_eq_false (by first | rfl | assumption | rw [zv_n zn, zv_n zn] | (rw [zv_0 hv, zv_0 hv, zv_0 ze, zv_0 ze, sm.1, sm.2]) | (simp only [mx_eq, mn_eq, zv_0 ze, zv_0 zs]; omega) | (simp only [mx_eq, mn_eq, zv_0 ze, zv_0 zm]; omega) | omega)) ?_
    refine s_call (fs := #[]) (cp := #[]) (r := [(0, .agg #[.int .i64 (zv (crE c) (leLo c)), .int .i64 (zv (crE c) (mHi c))]), (0, .agg #[.int .i64 (zv (crE ⟨c.x2, c.h2, c.v2, c.x1, c.h1, c.v1⟩) (leLo ⟨c.x2, c.h2, c.v2, c.x1, c.h1, c.v1⟩)), .int .i64 (zv (crE ⟨c.x2, c.h2, c.v2, c.x1, c.h1, c.v1⟩) (mHi ⟨c.x2, c.h2, c.v2, c.x1, c.h1, c.v1⟩))])]) #[.agg #[.int .i64 (zv (crE c) (leLo c)), .int .i64 (zv (crE c) (mHi c))], .agg #[.int .i64 (zv (crE ⟨c.x2, c.h2, c.v2, c.x1, c.h1, c.v1⟩) (leLo ⟨c.x2, c.h2, c.v2, c.x1, c.h1, c.v1⟩)), .int .i64 (zv (crE ⟨c.x2, c.h2, c.v2, c.x1, c.h1, c.v1⟩) (mHi ⟨c.x2, c.h2, c.v2, c.x1, c.h1, c.v1⟩))]] (.bool (meets_a_r (zv (crE c) (leLo c)) (zv (crE c) (mHi c)) (zv (crE ⟨c.x2, c.h2, c.v2, c.x1, c.h1, c.v1⟩) (leLo ⟨c.x2, c.h2, c.v2, c.x1, c.h1, c.v1⟩)) (zv (crE ⟨c.x2, c.h2, c.v2, c.x1, c.h1, c.v1⟩) (mHi ⟨c.x2, c.h2, c.v2, c.x1, c.h1, c.v1⟩)))) A95 S84 (meets_a (zv (crE c) (leLo c)) (zv (crE c) (mHi c)) (zv (crE ⟨c.x2, c.h2, c.v2, c.x1, c.h1, c.v1⟩) (leLo ⟨c.x2, c.h2, c.v2, c.x1, c.h1, c.v1⟩)) (zv (crE ⟨c.x2, c.h2, c.v2, c.x1, c.h1, c.v1⟩) (mHi ⟨c.x2, c.h2, c.v2, c.x1, c.h1, c.v1⟩)) _) Try.call25 (by kernel_rfl) (by kernel_rfl) (by kernel_rfl) rfl (fun ac wc A96 S97 => ?_)
    refine s_want (dj := 67) (b := (decide (crE ⟨-c.x1, c.h1, c.v1, -c.x2, c.h2, c.v2⟩ ≠ 0))) A96 (by kernel_rfl) (by kernel_rfl) (decide_eq_false (by first | rfl | assumption | rw [zv_n zn, zv_n zn] | (rw [zv_0 hv, zv_0 hv, zv_0 ze, zv_0 ze, sm.1, sm.2]) | (simp only [mx_eq, mn_eq, zv_0 ze, zv_0 zs]; omega) | (simp only [mx_eq, mn_eq, zv_0 ze, zv_0 zm]; omega) | omega)) ?_
    refine s_one (.bool (!(meets_a_r (zv (crE c) (leLo c)) (zv (crE c) (mHi c)) (zv (crE ⟨c.x2, c.h2, c.v2, c.x1, c.h1, c.v1⟩) (leLo ⟨c.x2, c.h2, c.v2, c.x1, c.h1, c.v1⟩)) (zv (crE ⟨c.x2, c.h2, c.v2, c.x1, c.h1, c.v1⟩) (mHi ⟨c.x2, c.h2, c.v2, c.x1, c.h1, c.v1⟩))))) A96 S97 (g_un (u := .bool (meets_a_r (zv (crE c) (leLo c)) (zv (crE c) (mHi c)) (zv (crE ⟨c.x2, c.h2, c.v2, c.x1, c.h1, c.v1⟩) (leLo ⟨c.x2, c.h2, c.v2, c.x1, c.h1, c.v1⟩)) (zv (crE ⟨c.x2, c.h2, c.v2, c.x1, c.h1, c.v1⟩) (mHi ⟨c.x2, c.h2, c.v2, c.x1, c.h1, c.v1⟩)))) (by kernel_rfl) (fun _ => by kernel_rfl)) rfl (fun ac A99 => ?_)
    refine s_one (.bool (!(meets_a_r (zv (crE c) (leLo c)) (zv (crE c) (mHi c)) (zv (crE ⟨c.x2, c.h2, c.v2, c.x1, c.h1, c.v1⟩) (leLo ⟨c.x2, c.h2, c.v2, c.x1, c.h1, c.v1⟩)) (zv (crE ⟨c.x2, c.h2, c.v2, c.x1, c.h1, c.v1⟩) (mHi ⟨c.x2, c.h2, c.v2, c.x1, c.h1, c.v1⟩))))) A99 S97 (g_pick_f (b := (decide (crE ⟨-c.x1, c.h1, c.v1, -c.x2, c.h2, c.v2⟩ ≠ 0))) (by kernel_rfl) (decide_eq_false (by first | rfl | assumption | rw [zv_n zn, zv_n zn] | (rw [zv_0 hv, zv_0 hv, zv_0 ze, zv_0 ze, sm.1, sm.2]) | (simp only [mx_eq, mn_eq, zv_0 ze, zv_0 zs]; omega) | (simp only [mx_eq, mn_eq, zv_0 ze, zv_0 zm]; omega) | omega)) (by kernel_rfl)) rfl (fun ac A100 => ?_)
    refine s_one (.bool (!(meets_a_r (zv (crE c) (leLo c)) (zv (crE c) (mHi c)) (zv (crE ⟨c.x2, c.h2, c.v2, c.x1, c.h1, c.v1⟩) (leLo ⟨c.x2, c.h2, c.v2, c.x1, c.h1, c.v1⟩)) (zv (crE ⟨c.x2, c.h2, c.v2, c.x1, c.h1, c.v1⟩) (mHi ⟨c.x2, c.h2, c.v2, c.x1, c.h1, c.v1⟩))))) A100 S97 (g_move (by kernel_rfl)) rfl (fun ac A101 => ?_)
    refine s_want (dj := 73) (b := (!(meets_a_r (zv (crE c) (leLo c)) (zv (crE c) (mHi c)) (zv (crE ⟨c.x2, c.h2, c.v2, c.x1, c.h1, c.v1⟩) (leLo ⟨c.x2, c.h2, c.v2, c.x1, c.h1, c.v1⟩)) (zv (crE ⟨c.x2, c.h2, c.v2, c.x1, c.h1, c.v1⟩) (mHi ⟨c.x2, c.h2, c.v2, c.x1, c.h1, c.v1⟩))))) A101 (by kernel_rfl) (by kernel_rfl) (b_nt (decide_eq_true (by simp only [mx_eq, mn_eq, zv_0 ze, zv_0 zs]; omega))) ?_
    refine s_one (.agg #[.int .i64 (zv (crE c) (leLo c)), .int .i64 (zv (crE c) (mHi c))]) A101 S97 (g_load (g := g19) (off := 0) 2 (by kernel_rfl) rfl (by kernel_rfl)) rfl (fun ac A102 => ?_)
    refine s_want (dj := 73) (b := (!(meets_a_r (zv (crE c) (leLo c)) (zv (crE c) (mHi c)) (zv (crE ⟨c.x2, c.h2, c.v2, c.x1, c.h1, c.v1⟩) (leLo ⟨c.x2, c.h2, c.v2, c.x1, c.h1, c.v1⟩)) (zv (crE ⟨c.x2, c.h2, c.v2, c.x1, c.h1, c.v1⟩) (mHi ⟨c.x2, c.h2, c.v2, c.x1, c.h1, c.v1⟩))))) A102 (by kernel_rfl) (by kernel_rfl) (b_nt (decide_eq_true (by simp only [mx_eq, mn_eq, zv_0 ze, zv_0 zs]; omega))) ?_
    refine s_one (.agg #[.int .i64 (zv (crE ⟨-c.x1, c.h1, c.v1, -c.x2, c.h2, c.v2⟩) (leLo ⟨-c.x1, c.h1, c.v1, -c.x2, c.h2, c.v2⟩)), .int .i64 (zv (crE ⟨-c.x1, c.h1, c.v1, -c.x2, c.h2, c.v2⟩) (mHi ⟨-c.x1, c.h1, c.v1, -c.x2, c.h2, c.v2⟩))]) A102 S97 (g_load (g := g82) (off := 0) 0 (by kernel_rfl) rfl (by kernel_rfl)) rfl (fun ac A103 => ?_)
    refine s_want (dj := 73) (b := (!(meets_a_r (zv (crE c) (leLo c)) (zv (crE c) (mHi c)) (zv (crE ⟨c.x2, c.h2, c.v2, c.x1, c.h1, c.v1⟩) (leLo ⟨c.x2, c.h2, c.v2, c.x1, c.h1, c.v1⟩)) (zv (crE ⟨c.x2, c.h2, c.v2, c.x1, c.h1, c.v1⟩) (mHi ⟨c.x2, c.h2, c.v2, c.x1, c.h1, c.v1⟩))))) A103 (by kernel_rfl) (by kernel_rfl) (b_nt (decide_eq_true (by simp only [mx_eq, mn_eq, zv_0 ze, zv_0 zs]; omega))) ?_
    refine s_call (fs := #[]) (cp := #[]) (r := [(0, .agg #[.int .i64 (zv (crE c) (leLo c)), .int .i64 (zv (crE c) (mHi c))]), (0, .agg #[.int .i64 (zv (crE ⟨-c.x1, c.h1, c.v1, -c.x2, c.h2, c.v2⟩) (leLo ⟨-c.x1, c.h1, c.v1, -c.x2, c.h2, c.v2⟩)), .int .i64 (zv (crE ⟨-c.x1, c.h1, c.v1, -c.x2, c.h2, c.v2⟩) (mHi ⟨-c.x1, c.h1, c.v1, -c.x2, c.h2, c.v2⟩))])]) #[.agg #[.int .i64 (zv (crE c) (leLo c)), .int .i64 (zv (crE c) (mHi c))], .agg #[.int .i64 (zv (crE ⟨-c.x1, c.h1, c.v1, -c.x2, c.h2, c.v2⟩) (leLo ⟨-c.x1, c.h1, c.v1, -c.x2, c.h2, c.v2⟩)), .int .i64 (zv (crE ⟨-c.x1, c.h1, c.v1, -c.x2, c.h2, c.v2⟩) (mHi ⟨-c.x1, c.h1, c.v1, -c.x2, c.h2, c.v2⟩))]] (.bool (meets_a_r (zv (crE c) (leLo c)) (zv (crE c) (mHi c)) (zv (crE ⟨-c.x1, c.h1, c.v1, -c.x2, c.h2, c.v2⟩) (leLo ⟨-c.x1, c.h1, c.v1, -c.x2, c.h2, c.v2⟩)) (zv (crE ⟨-c.x1, c.h1, c.v1, -c.x2, c.h2, c.v2⟩) (mHi ⟨-c.x1, c.h1, c.v1, -c.x2, c.h2, c.v2⟩)))) A103 S97 (meets_a (zv (crE c) (leLo c)) (zv (crE c) (mHi c)) (zv (crE ⟨-c.x1, c.h1, c.v1, -c.x2, c.h2, c.v2⟩) (leLo ⟨-c.x1, c.h1, c.v1, -c.x2, c.h2, c.v2⟩)) (zv (crE ⟨-c.x1, c.h1, c.v1, -c.x2, c.h2, c.v2⟩) (mHi ⟨-c.x1, c.h1, c.v1, -c.x2, c.h2, c.v2⟩)) _) Try.call25 (by kernel_rfl) (by kernel_rfl) (by kernel_rfl) rfl (fun ac wc A104 S105 => ?_)
    refine s_want (dj := 73) (b := (!(meets_a_r (zv (crE c) (leLo c)) (zv (crE c) (mHi c)) (zv (crE ⟨c.x2, c.h2, c.v2, c.x1, c.h1, c.v1⟩) (leLo ⟨c.x2, c.h2, c.v2, c.x1, c.h1, c.v1⟩)) (zv (crE ⟨c.x2, c.h2, c.v2, c.x1, c.h1, c.v1⟩) (mHi ⟨c.x2, c.h2, c.v2, c.x1, c.h1, c.v1⟩))))) A104 (by kernel_rfl) (by kernel_rfl) (b_nt (decide_eq_true (by simp only [mx_eq, mn_eq, zv_0 ze, zv_0 zs]; omega))) ?_
    refine s_one (.bool (!(meets_a_r (zv (crE c) (leLo c)) (zv (crE c) (mHi c)) (zv (crE ⟨-c.x1, c.h1, c.v1, -c.x2, c.h2, c.v2⟩) (leLo ⟨-c.x1, c.h1, c.v1, -c.x2, c.h2, c.v2⟩)) (zv (crE ⟨-c.x1, c.h1, c.v1, -c.x2, c.h2, c.v2⟩) (mHi ⟨-c.x1, c.h1, c.v1, -c.x2, c.h2, c.v2⟩))))) A104 S105 (g_un (u := .bool (meets_a_r (zv (crE c) (leLo c)) (zv (crE c) (mHi c)) (zv (crE ⟨-c.x1, c.h1, c.v1, -c.x2, c.h2, c.v2⟩) (leLo ⟨-c.x1, c.h1, c.v1, -c.x2, c.h2, c.v2⟩)) (zv (crE ⟨-c.x1, c.h1, c.v1, -c.x2, c.h2, c.v2⟩) (mHi ⟨-c.x1, c.h1, c.v1, -c.x2, c.h2, c.v2⟩)))) (by kernel_rfl) (fun _ => by kernel_rfl)) rfl (fun ac A107 => ?_)
    refine s_one (.bool (!(meets_a_r (zv (crE c) (leLo c)) (zv (crE c) (mHi c)) (zv (crE ⟨-c.x1, c.h1, c.v1, -c.x2, c.h2, c.v2⟩) (leLo ⟨-c.x1, c.h1, c.v1, -c.x2, c.h2, c.v2⟩)) (zv (crE ⟨-c.x1, c.h1, c.v1, -c.x2, c.h2, c.v2⟩) (mHi ⟨-c.x1, c.h1, c.v1, -c.x2, c.h2, c.v2⟩))))) A107 S105 (g_pick_f (b := (!(meets_a_r (zv (crE c) (leLo c)) (zv (crE c) (mHi c)) (zv (crE ⟨c.x2, c.h2, c.v2, c.x1, c.h1, c.v1⟩) (leLo ⟨c.x2, c.h2, c.v2, c.x1, c.h1, c.v1⟩)) (zv (crE ⟨c.x2, c.h2, c.v2, c.x1, c.h1, c.v1⟩) (mHi ⟨c.x2, c.h2, c.v2, c.x1, c.h1, c.v1⟩))))) (by kernel_rfl) (b_nt (decide_eq_true (by simp only [mx_eq, mn_eq, zv_0 ze, zv_0 zs]; omega))) (by kernel_rfl)) rfl (fun ac A108 => ?_)
    refine wpList_nil ?_
    refine n_then ?_
    refine c_f (b := (!(meets_a_r (zv (crE c) (leLo c)) (zv (crE c) (mHi c)) (zv (crE ⟨-c.x1, c.h1, c.v1, -c.x2, c.h2, c.v2⟩) (leLo ⟨-c.x1, c.h1, c.v1, -c.x2, c.h2, c.v2⟩)) (zv (crE ⟨-c.x1, c.h1, c.v1, -c.x2, c.h2, c.v2⟩) (mHi ⟨-c.x1, c.h1, c.v1, -c.x2, c.h2, c.v2⟩))))) A108 (by kernel_rfl) (b_nt (decide_eq_true (by simp only [mx_eq, mn_eq, zv_0 ze, zv_0 zm]; omega))) ?_
    refine wp_skip ?_
    refine n_then ?_
    refine wp_seq ?_
    refine wp_seq ?_
    refine wp_region_lit ?_
    refine s_one (.int .i64 b) A108 S105 (g_move (by kernel_rfl)) rfl (fun ac A109 => ?_)
    refine s_call (fs := #[]) (cp := #[]) (r := [(0, .int .i64 b), (0, .int .i64 (-10000)), (0, .int .i64 10000)]) #[.int .i64 b, .int .i64 (-10000), .int .i64 10000] (.bool (inB b (-10000) 10000)) A109 S105 (Within_s b (-10000) 10000 _) Try.call26 (by kernel_rfl) (by kernel_rfl) (by kernel_rfl) rfl (fun ac wc A110 S111 => ?_)
    refine s_one (.bool (!(inB b (-10000) 10000))) A110 S111 (g_un (u := .bool (inB b (-10000) 10000)) (by kernel_rfl) (fun _ => by kernel_rfl)) rfl (fun ac A113 => ?_)
    refine wpList_nil ?_
    refine n_then ?_
    refine c_ifb (b := (!(inB b (-10000) 10000))) A113 (by kernel_rfl) (fun h114 => ?_) (fun h114 => ?_)
    · have h115 : inB b (-10000) 10000 = false := by simpa using h114
      refine wp_seq ?_
      refine wp_region_lit ?_
      refine s_one (.bool true) A113 S111 (g_assign (by kernel_rfl)) rfl (fun ac A116 => ?_)
      refine wpList_nil ?_
      refine n_then ?_
      refine wp_ret ?_
      refine r_then ?_
      refine fin1 (.bool true) Try.results4 A116 S111 (rv_tmp (by kernel_rfl)) ⟨?_, S111.kp⟩
      rfl
    · have h117 : inB b (-10000) 10000 = true := by simpa using h114
      have hb := inB_true.1 h117
      refine wp_skip ?_
      refine n_then ?_
      refine wp_seq ?_
      refine wp_region_lit ?_
      refine s_one (.pointer (some ⟨g3, 0, none⟩)) A113 S111 (g_field (u := .pointer (some ⟨g3, 0, none⟩)) (by kernel_rfl) (fun _ => by kernel_rfl)) rfl (fun ac A118 => ?_)
      refine s_one (.int .i64 c.x1) A118 S111 (g_load (g := g3) (off := 0) 3 (by kernel_rfl) rfl (by kernel_rfl)) rfl (fun ac A119 => ?_)
      refine s_one (.int .i64 b) A119 S111 (g_move (by kernel_rfl)) rfl (fun ac A120 => ?_)
      refine s_one (.int .i64 (c.x1 + b)) A120 S111 (g_bin (u := .int .i64 c.x1) (k := .int .i64 b) (by kernel_rfl) (by kernel_rfl) (fun _ => by kernel_rfl) (b_add (by omega))) rfl (fun ac A121 => ?_)
      refine s_one (.pointer (some ⟨g3, 1, none⟩)) A121 S111 (g_field (u := .pointer (some ⟨g3, 0, none⟩)) (by kernel_rfl) (fun _ => by kernel_rfl)) rfl (fun ac A122 => ?_)
      refine s_one (.int .i64 c.h1) A122 S111 (g_load (g := g3) (off := 1) 3 (by kernel_rfl) rfl (by kernel_rfl)) rfl (fun ac A123 => ?_)
      refine s_one (.pointer (some ⟨g3, 2, none⟩)) A123 S111 (g_field (u := .pointer (some ⟨g3, 0, none⟩)) (by kernel_rfl) (fun _ => by kernel_rfl)) rfl (fun ac A124 => ?_)
      refine s_one (.int .i64 c.v1) A124 S111 (g_load (g := g3) (off := 2) 3 (by kernel_rfl) rfl (by kernel_rfl)) rfl (fun ac A125 => ?_)
      refine s_one (.pointer (some ⟨g3, 3, none⟩)) A125 S111 (g_field (u := .pointer (some ⟨g3, 0, none⟩)) (by kernel_rfl) (fun _ => by kernel_rfl)) rfl (fun ac A126 => ?_)
      refine s_one (.int .i64 c.x2) A126 S111 (g_load (g := g3) (off := 3) 3 (by kernel_rfl) rfl (by kernel_rfl)) rfl (fun ac A127 => ?_)
      refine s_one (.int .i64 b) A127 S111 (g_move (by kernel_rfl)) rfl (fun ac A128 => ?_)
      refine s_one (.int .i64 (c.x2 + b)) A128 S111 (g_bin (u := .int .i64 c.x2) (k := .int .i64 b) (by kernel_rfl) (by kernel_rfl) (fun _ => by kernel_rfl) (b_add (by omega))) rfl (fun ac A129 => ?_)
      refine s_one (.pointer (some ⟨g3, 4, none⟩)) A129 S111 (g_field (u := .pointer (some ⟨g3, 0, none⟩)) (by kernel_rfl) (fun _ => by kernel_rfl)) rfl (fun ac A130 => ?_)
      refine s_one (.int .i64 c.h2) A130 S111 (g_load (g := g3) (off := 4) 3 (by kernel_rfl) rfl (by kernel_rfl)) rfl (fun ac A131 => ?_)
      refine s_one (.pointer (some ⟨g3, 5, none⟩)) A131 S111 (g_field (u := .pointer (some ⟨g3, 0, none⟩)) (by kernel_rfl) (fun _ => by kernel_rfl)) rfl (fun ac A132 => ?_)
      refine s_one (.int .i64 c.v2) A132 S111 (g_load (g := g3) (off := 5) 3 (by kernel_rfl) rfl (by kernel_rfl)) rfl (fun ac A133 => ?_)
      refine s_one (.agg #[.int .i64 (c.x1 + b), .int .i64 c.h1, .int .i64 c.v1, .int .i64 (c.x2 + b), .int .i64 c.h2, .int .i64 c.v2]) A133 S111 (g_build (r := [(0, .int .i64 (c.x1 + b)), (1, .int .i64 c.h1), (2, .int .i64 c.v1), (3, .int .i64 (c.x2 + b)), (4, .int .i64 c.h2), (5, .int .i64 c.v2)]) (by kernel_rfl) (fun _ => by kernel_rfl)) rfl (fun ac A134 => ?_)
      refine s_call (fs := #[]) (cp := #[]) (r := [(0, .agg #[.int .i64 (c.x1 + b), .int .i64 c.h1, .int .i64 c.v1, .int .i64 (c.x2 + b), .int .i64 c.h2, .int .i64 c.v2])]) #[.agg #[.int .i64 (c.x1 + b), .int .i64 c.h1, .int .i64 c.v1, .int .i64 (c.x2 + b), .int .i64 c.h2, .int .i64 c.v2]] (.tuple #[.agg #[.int .i64 (zv (crE ⟨c.x1 + b, c.h1, c.v1, c.x2 + b, c.h2, c.v2⟩) (leLo ⟨c.x1 + b, c.h1, c.v1, c.x2 + b, c.h2, c.v2⟩)), .int .i64 (zv (crE ⟨c.x1 + b, c.h1, c.v1, c.x2 + b, c.h2, c.v2⟩) (mHi ⟨c.x1 + b, c.h1, c.v1, c.x2 + b, c.h2, c.v2⟩))], .int .i64 (crE ⟨c.x1 + b, c.h1, c.v1, c.x2 + b, c.h2, c.v2⟩)]) A134 S111 (Least_s ⟨c.x1 + b, c.h1, c.v1, c.x2 + b, c.h2, c.v2⟩ _) Try.call21 (by kernel_rfl) (by kernel_rfl) (by kernel_rfl) rfl (fun ac wc A135 S136 => ?_)
      refine s_one (.tuple #[.agg #[.int .i64 (zv (crE ⟨c.x1 + b, c.h1, c.v1, c.x2 + b, c.h2, c.v2⟩) (leLo ⟨c.x1 + b, c.h1, c.v1, c.x2 + b, c.h2, c.v2⟩)), .int .i64 (zv (crE ⟨c.x1 + b, c.h1, c.v1, c.x2 + b, c.h2, c.v2⟩) (mHi ⟨c.x1 + b, c.h1, c.v1, c.x2 + b, c.h2, c.v2⟩))], .int .i64 (crE ⟨c.x1 + b, c.h1, c.v1, c.x2 + b, c.h2, c.v2⟩)]) A135 S136 (g_move (by kernel_rfl)) rfl (fun ac A138 => ?_)
      refine s_one (.agg #[.int .i64 (zv (crE ⟨c.x1 + b, c.h1, c.v1, c.x2 + b, c.h2, c.v2⟩) (leLo ⟨c.x1 + b, c.h1, c.v1, c.x2 + b, c.h2, c.v2⟩)), .int .i64 (zv (crE ⟨c.x1 + b, c.h1, c.v1, c.x2 + b, c.h2, c.v2⟩) (mHi ⟨c.x1 + b, c.h1, c.v1, c.x2 + b, c.h2, c.v2⟩))]) A138 S136 (g_extract (u := .tuple #[.agg #[.int .i64 (zv (crE ⟨c.x1 + b, c.h1, c.v1, c.x2 + b, c.h2, c.v2⟩) (leLo ⟨c.x1 + b, c.h1, c.v1, c.x2 + b, c.h2, c.v2⟩)), .int .i64 (zv (crE ⟨c.x1 + b, c.h1, c.v1, c.x2 + b, c.h2, c.v2⟩) (mHi ⟨c.x1 + b, c.h1, c.v1, c.x2 + b, c.h2, c.v2⟩))], .int .i64 (crE ⟨c.x1 + b, c.h1, c.v1, c.x2 + b, c.h2, c.v2⟩)]) (by kernel_rfl) (fun _ => by kernel_rfl)) rfl (fun ac A139 => ?_)
      refine s_one (.int .i64 (crE ⟨c.x1 + b, c.h1, c.v1, c.x2 + b, c.h2, c.v2⟩)) A139 S136 (g_extract (u := .tuple #[.agg #[.int .i64 (zv (crE ⟨c.x1 + b, c.h1, c.v1, c.x2 + b, c.h2, c.v2⟩) (leLo ⟨c.x1 + b, c.h1, c.v1, c.x2 + b, c.h2, c.v2⟩)), .int .i64 (zv (crE ⟨c.x1 + b, c.h1, c.v1, c.x2 + b, c.h2, c.v2⟩) (mHi ⟨c.x1 + b, c.h1, c.v1, c.x2 + b, c.h2, c.v2⟩))], .int .i64 (crE ⟨c.x1 + b, c.h1, c.v1, c.x2 + b, c.h2, c.v2⟩)]) (by kernel_rfl) (fun _ => by kernel_rfl)) rfl (fun ac A140 => ?_)
      refine s_alloc (#[.int .i64 0, .int .i64 0]) A140 S136 (by kernel_rfl) rfl (fun g143 ac wc A141 S142 => ?_)
      refine s_store (g := g143) (off := 0) (v := .agg #[.int .i64 (zv (crE ⟨c.x1 + b, c.h1, c.v1, c.x2 + b, c.h2, c.v2⟩) (leLo ⟨c.x1 + b, c.h1, c.v1, c.x2 + b, c.h2, c.v2⟩)), .int .i64 (zv (crE ⟨c.x1 + b, c.h1, c.v1, c.x2 + b, c.h2, c.v2⟩) (mHi ⟨c.x1 + b, c.h1, c.v1, c.x2 + b, c.h2, c.v2⟩))]) 0 (#[.int .i64 (zv (crE ⟨c.x1 + b, c.h1, c.v1, c.x2 + b, c.h2, c.v2⟩) (leLo ⟨c.x1 + b, c.h1, c.v1, c.x2 + b, c.h2, c.v2⟩)), .int .i64 (zv (crE ⟨c.x1 + b, c.h1, c.v1, c.x2 + b, c.h2, c.v2⟩) (mHi ⟨c.x1 + b, c.h1, c.v1, c.x2 + b, c.h2, c.v2⟩))]) A141 S142 (by kernel_rfl) (by kernel_rfl) rfl (by kernel_rfl) (fun wc S145 => ?_)
      refine s_one (.int .i64 (crE ⟨c.x1 + b, c.h1, c.v1, c.x2 + b, c.h2, c.v2⟩)) A141 S145 (g_assign (by kernel_rfl)) rfl (fun ac A147 => ?_)
      refine wpList_nil ?_
      refine n_then ?_
      refine wp_seq ?_
      refine wp_region_lit ?_
      refine s_one (.int .i64 (crE ⟨c.x1 + b, c.h1, c.v1, c.x2 + b, c.h2, c.v2⟩)) A147 S145 (g_move (by kernel_rfl)) rfl (fun ac A148 => ?_)
      refine s_one (.bool (decide (crE ⟨c.x1 + b, c.h1, c.v1, c.x2 + b, c.h2, c.v2⟩ = 2))) A148 S145 (g_bin (u := .int .i64 (crE ⟨c.x1 + b, c.h1, c.v1, c.x2 + b, c.h2, c.v2⟩)) (k := .int .i64 2) (by kernel_rfl) (by kernel_rfl) (fun _ => by kernel_rfl) b_eql) rfl (fun ac A149 => ?_)
      refine s_one (.bool (decide (crE ⟨c.x1 + b, c.h1, c.v1, c.x2 + b, c.h2, c.v2⟩ = 2))) A149 S145 (g_move (by kernel_rfl)) rfl (fun ac A150 => ?_)
      refine by_bool (decide (crE ⟨c.x1 + b, c.h1, c.v1, c.x2 + b, c.h2, c.v2⟩ = 2)) (fun h151 => ?_) (fun h151 => ?_)
      · have p152 := of_decide_eq_true h151
        refine s_not (dj := 105) (b := (decide (crE ⟨c.x1 + b, c.h1, c.v1, c.x2 + b, c.h2, c.v2⟩ = 2))) A150 (by kernel_rfl) (by kernel_rfl) h151 rfl (fun ac A153 => ?_)
        refine s_not (dj := 105) (b := (decide (crE ⟨c.x1 + b, c.h1, c.v1, c.x2 + b, c.h2, c.v2⟩ = 2))) A153 (by kernel_rfl) (by kernel_rfl) h151 rfl (fun ac A154 => ?_)
        refine s_not (dj := 105) (b := (decide (crE ⟨c.x1 + b, c.h1, c.v1, c.x2 + b, c.h2, c.v2⟩ = 2))) A154 (by kernel_rfl) (by kernel_rfl) h151 rfl (fun ac A155 => ?_)
        refine s_notU (dj := 108) A155 (by kernel_rfl) (by kernel_rfl) rfl (fun ac A156 => ?_)
        refine s_notU (dj := 108) A156 (by kernel_rfl) (by kernel_rfl) rfl (fun ac A157 => ?_)
        refine s_notU (dj := 108) A157 (by kernel_rfl) (by kernel_rfl) rfl (fun ac A158 => ?_)
        refine s_not (dj := 105) (b := (decide (crE ⟨c.x1 + b, c.h1, c.v1, c.x2 + b, c.h2, c.v2⟩ = 2))) A158 (by kernel_rfl) (by kernel_rfl) h151 rfl (fun ac A159 => ?_)
        refine s_one (.bool true) A159 S145 (g_pick_t (b := (decide (crE ⟨c.x1 + b, c.h1, c.v1, c.x2 + b, c.h2, c.v2⟩ = 2))) (by kernel_rfl) h151 (by kernel_rfl)) rfl (fun ac A160 => ?_)
        refine s_one (.bool true) A160 S145 (g_assign (by kernel_rfl)) rfl (fun ac A161 => ?_)
        refine wpList_nil ?_
        refine n_then ?_
        refine wp_ret ?_
        refine fin1 (.bool true) Try.results4 A161 S145 (rv_tmp (by kernel_rfl)) ⟨?_, S145.kp⟩
        rfl
      · have p162 := of_decide_eq_false h151
        have hv : crE ⟨c.x1 + b, c.h1, c.v1, c.x2 + b, c.h2, c.v2⟩ = 0 := by rcases mov_E (c := c) (b := b) with hh | hh; exact hh; exact absurd hh (of_decide_eq_false h151)
        have sm : leLo ⟨c.x1 + b, c.h1, c.v1, c.x2 + b, c.h2, c.v2⟩ = leLo c ∧ mHi ⟨c.x1 + b, c.h1, c.v1, c.x2 + b, c.h2, c.v2⟩ = mHi c := mov_same ok (crE_ok hv)
        refine s_want (dj := 105) (b := (decide (crE ⟨c.x1 + b, c.h1, c.v1, c.x2 + b, c.h2, c.v2⟩ = 2))) A150 (by kernel_rfl) (by kernel_rfl) h151 ?_
        refine s_one (.int .i64 (crE ⟨c.x1 + b, c.h1, c.v1, c.x2 + b, c.h2, c.v2⟩)) A150 S145 (g_move (by kernel_rfl)) rfl (fun ac A163 => ?_)
        refine s_want (dj := 105) (b := (decide (crE ⟨c.x1 + b, c.h1, c.v1, c.x2 + b, c.h2, c.v2⟩ = 2))) A163 (by kernel_rfl) (by kernel_rfl) h151 ?_
        refine s_one (.bool (decide (crE ⟨c.x1 + b, c.h1, c.v1, c.x2 + b, c.h2, c.v2⟩ = 0))) A163 S145 (g_bin (u := .int .i64 (crE ⟨c.x1 + b, c.h1, c.v1, c.x2 + b, c.h2, c.v2⟩)) (k := .int .i64 0) (by kernel_rfl) (by kernel_rfl) (fun _ => by kernel_rfl) b_eql) rfl (fun ac A164 => ?_)
        refine s_want (dj := 105) (b := (decide (crE ⟨c.x1 + b, c.h1, c.v1, c.x2 + b, c.h2, c.v2⟩ = 2))) A164 (by kernel_rfl) (by kernel_rfl) h151 ?_
        refine s_one (.bool (decide (crE ⟨c.x1 + b, c.h1, c.v1, c.x2 + b, c.h2, c.v2⟩ = 0))) A164 S145 (g_move (by kernel_rfl)) rfl (fun ac A165 => ?_)
        refine s_want (dj := 108) (b := (decide (crE ⟨c.x1 + b, c.h1, c.v1, c.x2 + b, c.h2, c.v2⟩ = 0))) A165 (by kernel_rfl) (by kernel_rfl) (decide_eq_true (by first | rfl | assumption | rw [zv_n zn, zv_n zn] | (rw [zv_0 hv, zv_0 hv, zv_0 ze, zv_0 ze, sm.1, sm.2]) | (simp only [mx_eq, mn_eq, zv_0 ze, zv_0 zs]; omega) | (simp only [mx_eq, mn_eq, zv_0 ze, zv_0 zm]; omega) | omega)) ?_
        refine s_one (.agg #[.int .i64 (zv (crE ⟨c.x1 + b, c.h1, c.v1, c.x2 + b, c.h2, c.v2⟩) (leLo ⟨c.x1 + b, c.h1, c.v1, c.x2 + b, c.h2, c.v2⟩)), .int .i64 (zv (crE ⟨c.x1 + b, c.h1, c.v1, c.x2 + b, c.h2, c.v2⟩) (mHi ⟨c.x1 + b, c.h1, c.v1, c.x2 + b, c.h2, c.v2⟩))]) A165 S145 (g_load (g := g143) (off := 0) 0 (by kernel_rfl) rfl (by kernel_rfl)) rfl (fun ac A166 => ?_)
        refine s_want (dj := 108) (b := (decide (crE ⟨c.x1 + b, c.h1, c.v1, c.x2 + b, c.h2, c.v2⟩ = 0))) A166 (by kernel_rfl) (by kernel_rfl) (decide_eq_true (by first | rfl | assumption | rw [zv_n zn, zv_n zn] | (rw [zv_0 hv, zv_0 hv, zv_0 ze, zv_0 ze, sm.1, sm.2]) | (simp only [mx_eq, mn_eq, zv_0 ze, zv_0 zs]; omega) | (simp only [mx_eq, mn_eq, zv_0 ze, zv_0 zm]; omega) | omega)) ?_
        refine s_one (.agg #[.int .i64 (zv (crE c) (leLo c)), .int .i64 (zv (crE c) (mHi c))]) A166 S145 (g_load (g := g19) (off := 0) 3 (by kernel_rfl) rfl (by kernel_rfl)) rfl (fun ac A167 => ?_)
        refine s_want (dj := 108) (b := (decide (crE ⟨c.x1 + b, c.h1, c.v1, c.x2 + b, c.h2, c.v2⟩ = 0))) A167 (by kernel_rfl) (by kernel_rfl) (decide_eq_true (by first | rfl | assumption | rw [zv_n zn, zv_n zn] | (rw [zv_0 hv, zv_0 hv, zv_0 ze, zv_0 ze, sm.1, sm.2]) | (simp only [mx_eq, mn_eq, zv_0 ze, zv_0 zs]; omega) | (simp only [mx_eq, mn_eq, zv_0 ze, zv_0 zm]; omega) | omega)) ?_
        refine s_one (.bool (decide ([zv (crE ⟨c.x1 + b, c.h1, c.v1, c.x2 + b, c.h2, c.v2⟩) (leLo ⟨c.x1 + b, c.h1, c.v1, c.x2 + b, c.h2, c.v2⟩), zv (crE ⟨c.x1 + b, c.h1, c.v1, c.x2 + b, c.h2, c.v2⟩) (mHi ⟨c.x1 + b, c.h1, c.v1, c.x2 + b, c.h2, c.v2⟩)] = [zv (crE c) (leLo c), zv (crE c) (mHi c)]))) A167 S145 (g_bin (u := .agg #[.int .i64 (zv (crE ⟨c.x1 + b, c.h1, c.v1, c.x2 + b, c.h2, c.v2⟩) (leLo ⟨c.x1 + b, c.h1, c.v1, c.x2 + b, c.h2, c.v2⟩)), .int .i64 (zv (crE ⟨c.x1 + b, c.h1, c.v1, c.x2 + b, c.h2, c.v2⟩) (mHi ⟨c.x1 + b, c.h1, c.v1, c.x2 + b, c.h2, c.v2⟩))]) (k := .agg #[.int .i64 (zv (crE c) (leLo c)), .int .i64 (zv (crE c) (mHi c))]) (by kernel_rfl) (by kernel_rfl) (fun _ => by kernel_rfl) (q_struct (n := 2) [zv (crE ⟨c.x1 + b, c.h1, c.v1, c.x2 + b, c.h2, c.v2⟩) (leLo ⟨c.x1 + b, c.h1, c.v1, c.x2 + b, c.h2, c.v2⟩), zv (crE ⟨c.x1 + b, c.h1, c.v1, c.x2 + b, c.h2, c.v2⟩) (mHi ⟨c.x1 + b, c.h1, c.v1, c.x2 + b, c.h2, c.v2⟩)] [zv (crE c) (leLo c), zv (crE c) (mHi c)] (by kernel_rfl) rfl rfl)) rfl (fun ac A168 => ?_)
        refine s_want (dj := 105) (b := (decide (crE ⟨c.x1 + b, c.h1, c.v1, c.x2 + b, c.h2, c.v2⟩ = 2))) A168 (by kernel_rfl) (by kernel_rfl) h151 ?_
        refine s_one (.bool (decide ([zv (crE ⟨c.x1 + b, c.h1, c.v1, c.x2 + b, c.h2, c.v2⟩) (leLo ⟨c.x1 + b, c.h1, c.v1, c.x2 + b, c.h2, c.v2⟩), zv (crE ⟨c.x1 + b, c.h1, c.v1, c.x2 + b, c.h2, c.v2⟩) (mHi ⟨c.x1 + b, c.h1, c.v1, c.x2 + b, c.h2, c.v2⟩)] = [zv (crE c) (leLo c), zv (crE c) (mHi c)]))) A168 S145 (g_pick_t (b := (decide (crE ⟨c.x1 + b, c.h1, c.v1, c.x2 + b, c.h2, c.v2⟩ = 0))) (by kernel_rfl) (decide_eq_true (by first | rfl | assumption | rw [zv_n zn, zv_n zn] | (rw [zv_0 hv, zv_0 hv, zv_0 ze, zv_0 ze, sm.1, sm.2]) | (simp only [mx_eq, mn_eq, zv_0 ze, zv_0 zs]; omega) | (simp only [mx_eq, mn_eq, zv_0 ze, zv_0 zm]; omega) | omega)) (by kernel_rfl)) rfl (fun ac A169 => ?_)
        refine s_one (.bool (decide ([zv (crE ⟨c.x1 + b, c.h1, c.v1, c.x2 + b, c.h2, c.v2⟩) (leLo ⟨c.x1 + b, c.h1, c.v1, c.x2 + b, c.h2, c.v2⟩), zv (crE ⟨c.x1 + b, c.h1, c.v1, c.x2 + b, c.h2, c.v2⟩) (mHi ⟨c.x1 + b, c.h1, c.v1, c.x2 + b, c.h2, c.v2⟩)] = [zv (crE c) (leLo c), zv (crE c) (mHi c)]))) A169 S145 (g_pick_f (b := (decide (crE ⟨c.x1 + b, c.h1, c.v1, c.x2 + b, c.h2, c.v2⟩ = 2))) (by kernel_rfl) h151 (by kernel_rfl)) rfl (fun ac A170 => ?_)
        refine s_one (.bool (decide ([zv (crE ⟨c.x1 + b, c.h1, c.v1, c.x2 + b, c.h2, c.v2⟩) (leLo ⟨c.x1 + b, c.h1, c.v1, c.x2 + b, c.h2, c.v2⟩), zv (crE ⟨c.x1 + b, c.h1, c.v1, c.x2 + b, c.h2, c.v2⟩) (mHi ⟨c.x1 + b, c.h1, c.v1, c.x2 + b, c.h2, c.v2⟩)] = [zv (crE c) (leLo c), zv (crE c) (mHi c)]))) A170 S145 (g_assign (by kernel_rfl)) rfl (fun ac A171 => ?_)
        refine wpList_nil ?_
        refine n_then ?_
        refine wp_ret ?_
        refine fin1 (.bool (decide ([zv (crE ⟨c.x1 + b, c.h1, c.v1, c.x2 + b, c.h2, c.v2⟩) (leLo ⟨c.x1 + b, c.h1, c.v1, c.x2 + b, c.h2, c.v2⟩), zv (crE ⟨c.x1 + b, c.h1, c.v1, c.x2 + b, c.h2, c.v2⟩) (mHi ⟨c.x1 + b, c.h1, c.v1, c.x2 + b, c.h2, c.v2⟩)] = [zv (crE c) (leLo c), zv (crE c) (mHi c)]))) Try.results4 A171 S145 (rv_tmp (by kernel_rfl)) ⟨?_, S145.kp⟩
        exact congrArg (fun b => Ending.returned (Value.bool b)) (decide_eq_true (by first | rfl | assumption | rw [zv_n zn, zv_n zn] | (rw [zv_0 hv, zv_0 hv, zv_0 ze, zv_0 ze, sm.1, sm.2]) | (simp only [mx_eq, mn_eq, zv_0 ze, zv_0 zs]; omega) | (simp only [mx_eq, mn_eq, zv_0 ze, zv_0 zm]; omega) | omega))

end Go.Proofs.Ytnfmfkejhgbipaa
