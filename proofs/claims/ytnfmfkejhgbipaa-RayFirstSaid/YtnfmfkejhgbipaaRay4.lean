/- Crossings and times of chapter 1. -/
import Derived.Test.YtnfmfkejhgbipaaRay3
namespace Go.Proofs.Ytnfmfkejhgbipaa
open Go.RowKit Go.Cpl Go.Ray1

set_option maxRecDepth 100000 in
set_option maxHeartbeats 400000 in
theorem crossing1_s (c : Cr) (h : Int) (gx gl : Nat) (w0 : World) (hb1 : Blk w0 gx 119 #[.int .i64 c.x1, .int .i64 c.h1, .int .i64 c.v1, .int .i64 c.x2, .int .i64 c.h2, .int .i64 c.v2]) (hb2 : Blk w0 gl 3 #[.int .i64 c.lo]) (ok : c.Ok) (h0 : 0 ≤ h) (h1 : c.lo + h ≤ c.hi) :
    Calls Try.prog 119 #[.int .i64 h, .pointer (some ⟨gx, 0, none⟩), .pointer (some ⟨gl, 0, none⟩)] w0 fun e w' => e = .returned (.bool (decide (slp c (c.lo + h) > 0))) ∧ Below w0.heap.size w0 w' := by
  have S0 := St.start w0
  have S0 := S0.came hb2 (by simp)
  have S0 := S0.came hb1 (by simp)
  have p1 := ok.x1
  have p2 := ok.x2
  have p3 := ok.h1
  have p4 := ok.h2
  have p5 := ok.v1
  have p6 := ok.v2
  have pl : c.lo = min c.x1 c.x2 := rfl
  have ph : c.hi = max c.x1 c.x2 := rfl
  refine enter (n := 11) Try.func119 rfl rfl rfl (fun ac A0 => ?_)
  refine wp_seq ?_
  refine wp_region_lit ?_
  refine s_one (.bool false) A0 S0 (g_assign (by kernel_rfl)) rfl (fun ac A1 => ?_)
  refine wpList_nil ?_
  refine n_then ?_
  refine wp_seq ?_
  refine wp_region_lit ?_
  refine s_one (.agg #[.int .i64 c.x1, .int .i64 c.h1, .int .i64 c.v1, .int .i64 c.x2, .int .i64 c.h2, .int .i64 c.v2]) A1 S0 (g_load (g := gx) (off := 0) 0 (by kernel_rfl) rfl (by kernel_rfl)) rfl (fun ac A2 => ?_)
  refine s_one (.int .i64 c.lo) A2 S0 (g_load (g := gl) (off := 0) 1 (by kernel_rfl) rfl (by kernel_rfl)) rfl (fun ac A3 => ?_)
  refine s_one (.int .i64 h) A3 S0 (g_move (by kernel_rfl)) rfl (fun ac A4 => ?_)
  refine s_one (.int .i64 (c.lo + h)) A4 S0 (g_bin (u := .int .i64 c.lo) (k := .int .i64 h) (by kernel_rfl) (by kernel_rfl) (fun _ => by kernel_rfl) (b_add (by omega))) rfl (fun ac A5 => ?_)
  refine s_call (fs := #[]) (cp := #[]) (r := [(0, .agg #[.int .i64 c.x1, .int .i64 c.h1, .int .i64 c.v1, .int .i64 c.x2, .int .i64 c.h2, .int .i64 c.v2]), (0, .int .i64 (c.lo + h))]) #[.agg #[.int .i64 c.x1, .int .i64 c.h1, .int .i64 c.v1, .int .i64 c.x2, .int .i64 c.h2, .int .i64 c.v2], .int .i64 (c.lo + h)] (.int .i64 (slp c (c.lo + h))) A5 S0 (slope_s c (c.lo + h) _ ok (by omega) (by omega)) Try.call104 (by kernel_rfl) (by kernel_rfl) (by kernel_rfl) rfl (fun ac wc A6 S7 => ?_)
  refine s_one (.bool (decide (slp c (c.lo + h) > 0))) A6 S7 (g_bin (u := .int .i64 (slp c (c.lo + h))) (k := .int .i64 0) (by kernel_rfl) (by kernel_rfl) (fun _ => by kernel_rfl) (fun _ => by kernel_rfl)) rfl (fun ac A9 => ?_)
  refine s_one (.bool (decide (slp c (c.lo + h) > 0))) A9 S7 (g_assign (by kernel_rfl)) rfl (fun ac A10 => ?_)
  refine wpList_nil ?_
  refine n_then ?_
  refine wp_ret ?_
  refine fin1 (.bool (decide (slp c (c.lo + h) > 0))) Try.results119 A10 S7 (rv_tmp (by kernel_rfl)) ⟨?_, S7.kp⟩
  rfl

theorem crs_of {c : Cr} (ok : c.Ok) {i : Int} (hi : 0 ≤ i ∧ i ≤ c.hi - c.lo + 1) (a : i = 0 ∨ slp c (c.lo + (i - 1)) ≤ 0) (b : i = c.hi - c.lo + 1 ∨ slp c (c.lo + i) > 0) : i = crs c - c.lo + 1 := by
  have hlh : c.lo ≤ c.hi := by unfold Cr.lo Cr.hi; omega
  have hz : i ≠ 0 := by
    intro e
    subst e
    rcases b with b | b
    · omega
    · have := slp_lo ok; rw [show c.lo + 0 = c.lo by omega] at b; omega
  have h : IsCrs c (c.lo + (i - 1)) := by
    refine ⟨by omega, by omega, ?_, fun h => ?_⟩
    · rcases a with a | a
      · exact absurd a hz
      · exact a
    · rw [show c.lo + (i - 1) + 1 = c.lo + i by omega]
      rcases b with b | b
      · omega
      · exact b
  rw [crs_eq ok h]; omega
theorem crs_y {c : Cr} {h : Int} (hh : ¬ slp c (c.lo + h) > 0) : h + 1 = 0 ∨ slp c (c.lo + (h + 1 - 1)) ≤ 0 := by rw [show h + 1 - 1 = h by omega]; omega

set_option maxRecDepth 100000 in
set_option maxHeartbeats 400000 in
theorem SearchC_s (c : Cr) (gx gl : Nat) (w0 : World) (hb1 : Blk w0 gx 119 #[.int .i64 c.x1, .int .i64 c.h1, .int .i64 c.v1, .int .i64 c.x2, .int .i64 c.h2, .int .i64 c.v2]) (hb2 : Blk w0 gl 3 #[.int .i64 c.lo]) (ok : c.Ok) :
    Calls Try.prog 118 #[.int .i64 (c.hi - c.lo + 1), .func (.func 119) #[] #[.pointer (some ⟨gx, 0, none⟩), .pointer (some ⟨gl, 0, none⟩)]] w0 fun e w' => e = .returned (.int .i64 (crs c - c.lo + 1)) ∧ Below w0.heap.size w0 w' := by
  have S0 := St.start w0
  have S0 := S0.came hb2 (by simp)
  have S0 := S0.came hb1 (by simp)
  have p1 := ok.x1
  have p2 := ok.x2
  have p3 := ok.h1
  have p4 := ok.h2
  have p5 := ok.v1
  have p6 := ok.v2
  have pl : c.lo = min c.x1 c.x2 := rfl
  have ph : c.hi = max c.x1 c.x2 := rfl
  refine enter (n := 26) Try.func118 rfl rfl rfl (fun ac A0 => ?_)
  refine wp_seq ?_
  refine wp_region_lit ?_
  refine s_one (.int .i64 0) A0 S0 (g_assign (by kernel_rfl)) rfl (fun ac A1 => ?_)
  refine wpList_nil ?_
  refine n_then ?_
  refine wp_seq ?_
  refine wp_region_lit ?_
  refine s_one (.int .i64 (c.hi - c.lo + 1)) A1 S0 (g_move (by kernel_rfl)) rfl (fun ac A2 => ?_)
  refine s_one (.int .i64 0) A2 S0 (g_assign (by kernel_rfl)) rfl (fun ac A3 => ?_)
  refine s_one (.int .i64 (c.hi - c.lo + 1)) A3 S0 (g_assign (by kernel_rfl)) rfl (fun ac A4 => ?_)
  refine wpList_nil ?_
  refine n_then ?_
  refine wp_seq ?_
  refine wp_block ?_
  refine c_loopN (fun mm ac wc => ∃ (i : Int) (j : Int), mm = (j - i).toNat ∧ (0 ≤ i ∧ i ≤ j) ∧ (j ≤ c.hi - c.lo + 1) ∧ (i = 0 ∨ slp c (c.lo + (i - 1)) ≤ 0) ∧ (j = c.hi - c.lo + 1 ∨ slp c (c.lo + j) > 0) ∧ Fr 26 ac [(0, .int .i64 (c.hi - c.lo + 1)), (1, .func (.func 119) #[] #[.pointer (some ⟨gx, 0, none⟩), .pointer (some ⟨gl, 0, none⟩)]), (4, .int .i64 0), (8, .int .i64 (c.hi - c.lo + 1)), (5, .int .i64 i), (6, .int .i64 j)] ∧ St w0 [⟨gx, 119, #[.int .i64 c.x1, .int .i64 c.h1, .int .i64 c.v1, .int .i64 c.x2, .int .i64 c.h2, .int .i64 c.v2], false⟩, ⟨gl, 3, #[.int .i64 c.lo], false⟩] [] wc) _ ⟨0, c.hi - c.lo + 1, rfl, (by omega), (by omega), (.inl rfl), (.inl rfl), (A4.slot (A4.slot (A4.slot (A4.slot (A4.slot (A4.slot A4.nil (v := .int .i64 (c.hi - c.lo + 1)) (by kernel_rfl) (congrArg (Value.int .i64) (by omega))) (v := .int .i64 0) (by kernel_rfl) (congrArg (Value.int .i64) (by omega))) (v := .int .i64 (c.hi - c.lo + 1)) (by kernel_rfl) rfl) (v := .int .i64 0) (by kernel_rfl) rfl) (v := .func (.func 119) #[] #[.pointer (some ⟨gx, 0, none⟩), .pointer (some ⟨gl, 0, none⟩)]) (by kernel_rfl) rfl) (v := .int .i64 (c.hi - c.lo + 1)) (by kernel_rfl) rfl), S0.sub sub_all sub_all⟩ ?_
  rintro mm ac wc ⟨i, j, hm7, h3, h4, ha, hc, A5, S6⟩
  refine wp_seq ?_
  refine wp_seq ?_
  refine wp_region_lit ?_
  refine s_one (.int .i64 i) A5 S6 (g_move (by kernel_rfl)) rfl (fun ac A8 => ?_)
  refine s_one (.int .i64 j) A8 S6 (g_move (by kernel_rfl)) rfl (fun ac A9 => ?_)
  refine s_one (.bool (decide (i < j))) A9 S6 (g_bin (u := .int .i64 i) (k := .int .i64 j) (by kernel_rfl) (by kernel_rfl) (fun _ => by kernel_rfl) (fun _ => by kernel_rfl)) rfl (fun ac A10 => ?_)
  refine wpList_nil ?_
  refine n_then ?_
  refine c_ifb (b := (decide (i < j))) A10 (by kernel_rfl) (fun h11 => ?_) (fun h11 => ?_)
  · have p12 := of_decide_eq_true h11
    refine wp_skip ?_
    refine n_then ?_
    refine wp_block ?_
    refine wp_seq ?_
    refine wp_region_lit ?_
    refine s_one (.int .i64 i) A10 S6 (g_move (by kernel_rfl)) rfl (fun ac A13 => ?_)
    refine s_one (.int .i64 j) A13 S6 (g_move (by kernel_rfl)) rfl (fun ac A14 => ?_)
    refine s_one (.int .i64 (i + j)) A14 S6 (g_bin (u := .int .i64 i) (k := .int .i64 j) (by kernel_rfl) (by kernel_rfl) (fun _ => by kernel_rfl) (b_add (by omega))) rfl (fun ac A15 => ?_)
    refine s_one (.int .u64 (i + j)) A15 S6 (g_conv (u := .int .i64 (i + j)) (by kernel_rfl) (cv_iu (by kernel_rfl) (by kernel_rfl) (by kernel_rfl) (by omega))) rfl (fun ac A16 => ?_)
    refine s_one (.int .u64 ((i + j) / 2)) A16 S6 (g_bin (u := .int .u64 (i + j)) (k := .int .u64 1) (by kernel_rfl) (by kernel_rfl) (fun _ => by kernel_rfl) u_shr1) rfl (fun ac A17 => ?_)
    refine s_one (.int .i64 ((i + j) / 2)) A17 S6 (g_conv (u := .int .u64 ((i + j) / 2)) (by kernel_rfl) (cv_ui (by kernel_rfl) (by kernel_rfl) (by kernel_rfl) (by omega))) rfl (fun ac A18 => ?_)
    refine s_one (.int .i64 ((i + j) / 2)) A18 S6 (g_assign (by kernel_rfl)) rfl (fun ac A19 => ?_)
    refine wpList_nil ?_
    refine n_then ?_
    refine wp_seq ?_
    refine wp_region_lit ?_
    refine s_one (.func (.func 119) #[] #[.pointer (some ⟨gx, 0, none⟩), .pointer (some ⟨gl, 0, none⟩)]) A19 S6 (g_move (by kernel_rfl)) rfl (fun ac A20 => ?_)
    refine s_one (.int .i64 ((i + j) / 2)) A20 S6 (g_move (by kernel_rfl)) rfl (fun ac A21 => ?_)
    refine s_call (fs := #[]) (cp := #[.pointer (some ⟨gx, 0, none⟩), .pointer (some ⟨gl, 0, none⟩)]) (r := [(0, .int .i64 ((i + j) / 2))]) #[.int .i64 ((i + j) / 2), .pointer (some ⟨gx, 0, none⟩), .pointer (some ⟨gl, 0, none⟩)] (.bool (decide (slp c (c.lo + ((i + j) / 2)) > 0))) A21 S6 (crossing1_s c ((i + j) / 2) gx gl _ (S6.get 0 rfl) (S6.get 1 rfl) ok (by omega) (by omega)) Try.call119 (by kernel_rfl) (by kernel_rfl) (by kernel_rfl) rfl (fun ac wc A22 S23 => ?_)
    refine s_one (.bool (!(decide (slp c (c.lo + ((i + j) / 2)) > 0)))) A22 S23 (g_un (u := .bool (decide (slp c (c.lo + ((i + j) / 2)) > 0))) (by kernel_rfl) (fun _ => by kernel_rfl)) rfl (fun ac A25 => ?_)
    refine wpList_nil ?_
    refine n_then ?_
    refine c_ifb (b := (!(decide (slp c (c.lo + ((i + j) / 2)) > 0)))) A25 (by kernel_rfl) (fun h26 => ?_) (fun h26 => ?_)
    · have h27 : decide (slp c (c.lo + ((i + j) / 2)) > 0) = false := by simpa using h26
      have p28 := of_decide_eq_false h27
      refine wp_region_lit ?_
      refine s_one (.int .i64 ((i + j) / 2)) A25 S23 (g_move (by kernel_rfl)) rfl (fun ac A29 => ?_)
      refine s_one (.int .i64 ((i + j) / 2 + 1)) A29 S23 (g_bin (u := .int .i64 ((i + j) / 2)) (k := .int .i64 1) (by kernel_rfl) (by kernel_rfl) (fun _ => by kernel_rfl) (b_add (by omega))) rfl (fun ac A30 => ?_)
      refine s_one (.int .i64 ((i + j) / 2 + 1)) A30 S23 (g_assign (by kernel_rfl)) rfl (fun ac A31 => ?_)
      refine wpList_nil ?_
      refine n_block ?_
      refine n_then ?_
      refine ⟨_, ⟨(i + j) / 2 + 1, j, rfl, (by omega), (by omega), (crs_y p28), hc, (A31.slot (A31.slot (A31.slot (A31.slot (A31.slot (A31.slot A31.nil (v := .int .i64 j) (by kernel_rfl) rfl) (v := .int .i64 ((i + j) / 2 + 1)) (by kernel_rfl) rfl) (v := .int .i64 (c.hi - c.lo + 1)) (by kernel_rfl) rfl) (v := .int .i64 0) (by kernel_rfl) rfl) (v := .func (.func 119) #[] #[.pointer (some ⟨gx, 0, none⟩), .pointer (some ⟨gl, 0, none⟩)]) (by kernel_rfl) rfl) (v := .int .i64 (c.hi - c.lo + 1)) (by kernel_rfl) rfl), S23.sub sub_all sub_all⟩, ?_⟩
      omega
    · have h32 : decide (slp c (c.lo + ((i + j) / 2)) > 0) = true := by simpa using h26
      have p33 := of_decide_eq_true h32
      refine wp_region_lit ?_
      refine s_one (.int .i64 ((i + j) / 2)) A25 S23 (g_move (by kernel_rfl)) rfl (fun ac A34 => ?_)
      refine s_one (.int .i64 ((i + j) / 2)) A34 S23 (g_assign (by kernel_rfl)) rfl (fun ac A35 => ?_)
      refine wpList_nil ?_
      refine n_block ?_
      refine n_then ?_
      refine ⟨_, ⟨i, (i + j) / 2, rfl, (by omega), (by omega), ha, (.inr p33), (A35.slot (A35.slot (A35.slot (A35.slot (A35.slot (A35.slot A35.nil (v := .int .i64 ((i + j) / 2)) (by kernel_rfl) rfl) (v := .int .i64 i) (by kernel_rfl) rfl) (v := .int .i64 (c.hi - c.lo + 1)) (by kernel_rfl) rfl) (v := .int .i64 0) (by kernel_rfl) rfl) (v := .func (.func 119) #[] #[.pointer (some ⟨gx, 0, none⟩), .pointer (some ⟨gl, 0, none⟩)]) (by kernel_rfl) rfl) (v := .int .i64 (c.hi - c.lo + 1)) (by kernel_rfl) rfl), S23.sub sub_all sub_all⟩, ?_⟩
      omega
  · have p36 := of_decide_eq_false h11
    refine wp_exit ?_
    refine x_then ?_
    refine x_then ?_
    refine x_hit ?_
    refine n_then ?_
    refine wp_seq ?_
    refine wp_region_lit ?_
    refine s_one (.int .i64 i) A10 S6 (g_move (by kernel_rfl)) rfl (fun ac A37 => ?_)
    refine s_one (.int .i64 i) A37 S6 (g_assign (by kernel_rfl)) rfl (fun ac A38 => ?_)
    refine wpList_nil ?_
    refine n_then ?_
    refine wp_ret ?_
    refine fin1 (.int .i64 i) Try.results118 A38 S6 (rv_tmp (by kernel_rfl)) ⟨?_, S6.kp⟩
    obtain rfl : j = i := by omega
    rw [← crs_of ok (by omega) ha hc]

theorem crs_bd {c : Cr} (ok : c.Ok) : c.lo ≤ crs c ∧ crs c ≤ c.hi := ⟨(crs_is ok).lo, (crs_is ok).hi⟩

set_option maxRecDepth 100000 in
set_option maxHeartbeats 400000 in
theorem crossing_s (c : Cr) (w0 : World) (ok : c.Ok) :
    Calls Try.prog 77 #[.agg #[.int .i64 c.x1, .int .i64 c.h1, .int .i64 c.v1, .int .i64 c.x2, .int .i64 c.h2, .int .i64 c.v2]] w0 fun e w' => e = .returned (.int .i64 (crs c)) ∧ Below w0.heap.size w0 w' := by
  have S0 := St.start w0
  have p1 := ok.x1
  have p2 := ok.x2
  have p3 := ok.h1
  have p4 := ok.h2
  have p5 := ok.v1
  have p6 := ok.v2
  have pl : c.lo = min c.x1 c.x2 := rfl
  have ph : c.hi = max c.x1 c.x2 := rfl
  have kk := crs_is ok
  have kk1 := kk.lo
  have kk2 := kk.hi
  refine enter (n := 19) Try.func77 rfl rfl rfl (fun ac A0 => ?_)
  refine wp_seq ?_
  refine wp_region_lit ?_
  refine s_box (.agg #[.int .i64 c.x1, .int .i64 c.h1, .int .i64 c.v1, .int .i64 c.x2, .int .i64 c.h2, .int .i64 c.v2]) A0 S0 (by kernel_rfl) rfl (fun g3 ac wc A1 S2 => ?_)
  replace S2 : St _ (⟨g3, 119, #[.int .i64 c.x1, .int .i64 c.h1, .int .i64 c.v1, .int .i64 c.x2, .int .i64 c.h2, .int .i64 c.v2], true⟩ :: _) _ _ := S2
  refine s_one (.int .i64 0) A1 S2 (g_assign (by kernel_rfl)) rfl (fun ac A5 => ?_)
  refine wpList_nil ?_
  refine n_then ?_
  refine wp_seq ?_
  refine wp_region_lit ?_
  refine s_one (.agg #[.int .i64 c.x1, .int .i64 c.h1, .int .i64 c.v1, .int .i64 c.x2, .int .i64 c.h2, .int .i64 c.v2]) A5 S2 (g_load (g := g3) (off := 0) 0 (by kernel_rfl) rfl (by kernel_rfl)) rfl (fun ac A6 => ?_)
  refine s_call (fs := #[]) (cp := #[]) (r := [(0, .agg #[.int .i64 c.x1, .int .i64 c.h1, .int .i64 c.v1, .int .i64 c.x2, .int .i64 c.h2, .int .i64 c.v2])]) #[.agg #[.int .i64 c.x1, .int .i64 c.h1, .int .i64 c.v1, .int .i64 c.x2, .int .i64 c.h2, .int .i64 c.v2]] (.tuple #[.int .i64 c.lo, .int .i64 c.hi]) A6 S2 (ends_s c _) Try.call117 (by kernel_rfl) (by kernel_rfl) (by kernel_rfl) rfl (fun ac wc A7 S8 => ?_)
  refine s_one (.tuple #[.int .i64 c.lo, .int .i64 c.hi]) A7 S8 (g_move (by kernel_rfl)) rfl (fun ac A10 => ?_)
  refine s_one (.int .i64 c.lo) A10 S8 (g_extract (u := .tuple #[.int .i64 c.lo, .int .i64 c.hi]) (by kernel_rfl) (fun _ => by kernel_rfl)) rfl (fun ac A11 => ?_)
  refine s_one (.int .i64 c.hi) A11 S8 (g_extract (u := .tuple #[.int .i64 c.lo, .int .i64 c.hi]) (by kernel_rfl) (fun _ => by kernel_rfl)) rfl (fun ac A12 => ?_)
  refine s_alloc (#[.int .i64 0]) A12 S8 (by kernel_rfl) rfl (fun g15 ac wc A13 S14 => ?_)
  refine s_store (g := g15) (off := 0) (v := .int .i64 c.lo) 0 (#[.int .i64 c.lo]) A13 S14 (by kernel_rfl) (by kernel_rfl) rfl (by kernel_rfl) (fun wc S17 => ?_)
  refine s_one (.int .i64 c.hi) A13 S17 (g_assign (by kernel_rfl)) rfl (fun ac A19 => ?_)
  refine wpList_nil ?_
  refine n_then ?_
  refine wp_seq ?_
  refine r_begin (w0 := w0) (by kernel_rfl) (S17.sub sub_all sub_all) (fun wc T20 B21 => ?_)
  have S22 := S17.kept B21
  refine r_take 0 (.int .i64 c.lo) A19 T20 (g_load (g := g15) (off := 0) 0 (by kernel_rfl) rfl (by kernel_rfl)) rfl rfl rfl (pf_then pf_body) (by kernel_rfl) (fun ac A23 => ?_)
  refine r_take 1 (.int .i64 (c.lo - 1)) A23 T20 (g_bin (u := .int .i64 c.lo) (k := .int .i64 1) (by kernel_rfl) (by kernel_rfl) (fun _ => by kernel_rfl) (b_sub (by omega))) rfl rfl rfl (pf_then pf_body) (by kernel_rfl) (fun ac A24 => ?_)
  refine r_take 2 (.int .i64 c.hi) A24 T20 (g_move (by kernel_rfl)) rfl rfl rfl (pf_then pf_body) (by kernel_rfl) (fun ac A25 => ?_)
  refine r_take 3 (.int .i64 c.lo) A25 T20 (g_load (g := g15) (off := 0) 0 (by kernel_rfl) rfl (by kernel_rfl)) rfl rfl rfl (pf_then pf_body) (by kernel_rfl) (fun ac A26 => ?_)
  refine r_take 4 (.int .i64 (c.hi - c.lo)) A26 T20 (g_bin (u := .int .i64 c.hi) (k := .int .i64 c.lo) (by kernel_rfl) (by kernel_rfl) (fun _ => by kernel_rfl) (b_sub (by omega))) rfl rfl rfl (pf_then pf_body) (by kernel_rfl) (fun ac A27 => ?_)
  refine r_take 5 (.int .i64 (c.hi - c.lo + 1)) A27 T20 (g_bin (u := .int .i64 (c.hi - c.lo)) (k := .int .i64 1) (by kernel_rfl) (by kernel_rfl) (fun _ => by kernel_rfl) (b_add (by omega))) rfl rfl rfl (pf_then pf_body) (by kernel_rfl) (fun ac A28 => ?_)
  refine r_take 6 (.func (.func 119) #[] #[.pointer (some ⟨g3, 0, none⟩), .pointer (some ⟨g15, 0, none⟩)]) A28 T20 (g_func (us := []) (vs := [(0, .pointer (some ⟨g3, 0, none⟩)), (0, .pointer (some ⟨g15, 0, none⟩))]) (by kernel_rfl) (by kernel_rfl) (fun _ => by kernel_rfl)) rfl rfl rfl (pf_then pf_body) (by kernel_rfl) (fun ac A29 => ?_)
  refine r_1 (i := 7) (by kernel_rfl) ?_
  refine rs_call (fs := #[]) (cp := #[]) (r := [(0, .int .i64 (c.hi - c.lo + 1)), (0, .func (.func 119) #[] #[.pointer (some ⟨g3, 0, none⟩), .pointer (some ⟨g15, 0, none⟩)])]) #[.int .i64 (c.hi - c.lo + 1), .func (.func 119) #[] #[.pointer (some ⟨g3, 0, none⟩), .pointer (some ⟨g15, 0, none⟩)]] (.int .i64 (crs c - c.lo + 1)) A29 S22 sub_all sub_all (SearchC_s c g3 g15 _ (S22.get 1 rfl) (S22.get 0 rfl) ok) Try.call118 rfl rfl (by kernel_rfl) (by kernel_rfl) (by kernel_rfl) rfl (fun ac wc A30 S31 => ?_)
  have T33 := S31.sub sub_all sub_all
  refine r_take 8 (.int .i64 (c.lo - 1 + (crs c - c.lo + 1))) A30 T33 (g_bin (u := .int .i64 (c.lo - 1)) (k := .int .i64 (crs c - c.lo + 1)) (by kernel_rfl) (by kernel_rfl) (fun _ => by kernel_rfl) (b_add (by omega))) rfl rfl rfl (pf_then pf_body) (by kernel_rfl) (fun ac A34 => ?_)
  refine r_take 9 (.int .i64 (c.lo - 1 + (crs c - c.lo + 1))) A34 T33 (g_assign (by kernel_rfl)) rfl rfl rfl (pf_then pf_body) (by kernel_rfl) (fun ac A35 => ?_)
  refine r_done (by kernel_rfl) ?_
  refine n_then ?_
  refine wp_ret ?_
  refine fin1 (.int .i64 (c.lo - 1 + (crs c - c.lo + 1))) Try.results77 A35 S31 (rv_tmp (by kernel_rfl)) ⟨?_, S31.kp⟩
  rw [show c.lo - 1 + (crs c - c.lo + 1) = crs c by omega]

theorem crs_hi {c : Cr} (ok : c.Ok) (h : slp c c.hi ≤ 0) : crs c = c.hi := crs_eq ok ⟨by unfold Cr.lo Cr.hi; omega, Int.le_refl _, h, fun z => by omega⟩
theorem crs_bi {c : Cr} (ok : c.Ok) {l h : Int} (h1 : c.lo ≤ l) (h2 : l < h) (h3 : h ≤ c.hi) (hl : slp c l ≤ 0) (hh : slp c h > 0) (he : ¬ h - l > 1) : crs c = l := crs_eq ok ⟨h1, by omega, hl, fun _ => by rw [show l + 1 = h by omega]; exact hh⟩

theorem crs_ne {c : Cr} (ok : c.Ok) (h : slp c c.hi > 0) : c.lo ≤ c.lo ∧ c.lo < c.hi := by
  refine ⟨Int.le_refl _, ?_⟩
  have hlh : c.lo ≤ c.hi := by unfold Cr.lo Cr.hi; omega
  by_cases z : c.lo < c.hi
  · exact z
  · have := slp_lo ok; rw [show c.lo = c.hi by omega] at this; omega

set_option maxRecDepth 100000 in
set_option maxHeartbeats 400000 in
theorem refCrossing_s (c : Cr) (w0 : World) (ok : c.Ok) :
    Calls Try.prog 23 #[.agg #[.int .i64 c.x1, .int .i64 c.h1, .int .i64 c.v1, .int .i64 c.x2, .int .i64 c.h2, .int .i64 c.v2]] w0 fun e w' => e = .returned (.int .i64 (crs c)) ∧ Below w0.heap.size w0 w' := by
  have S0 := St.start w0
  have p1 := ok.x1
  have p2 := ok.x2
  have p3 := ok.h1
  have p4 := ok.h2
  have p5 := ok.v1
  have p6 := ok.v2
  have pl : c.lo = min c.x1 c.x2 := rfl
  have ph : c.hi = max c.x1 c.x2 := rfl
  have e1 : mx c.x1 c.x2 = c.hi := mx_eq _ _
  have e2 : mn c.x1 c.x2 = c.lo := mn_eq _ _
  refine enter (n := 36) Try.func23 rfl rfl rfl (fun ac A0 => ?_)
  refine wp_seq ?_
  refine wp_region_lit ?_
  refine s_box (.agg #[.int .i64 c.x1, .int .i64 c.h1, .int .i64 c.v1, .int .i64 c.x2, .int .i64 c.h2, .int .i64 c.v2]) A0 S0 (by kernel_rfl) rfl (fun g3 ac wc A1 S2 => ?_)
  replace S2 : St _ (⟨g3, 23, #[.int .i64 c.x1, .int .i64 c.h1, .int .i64 c.v1, .int .i64 c.x2, .int .i64 c.h2, .int .i64 c.v2], true⟩ :: _) _ _ := S2
  refine s_one (.int .i64 0) A1 S2 (g_assign (by kernel_rfl)) rfl (fun ac A5 => ?_)
  refine wpList_nil ?_
  refine n_then ?_
  refine wp_seq ?_
  refine r_begin (w0 := w0) (by kernel_rfl) (S2.sub sub_all sub_all) (fun wc T6 B7 => ?_)
  have S8 := S2.kept B7
  refine r_take 0 (.pointer (some ⟨g3, 0, none⟩)) A5 T6 (g_field (u := .pointer (some ⟨g3, 0, none⟩)) (by kernel_rfl) (fun _ => by kernel_rfl)) rfl rfl rfl (pf_then pf_body) (by kernel_rfl) (fun ac A9 => ?_)
  refine r_take 1 (.int .i64 c.x1) A9 T6 (g_load (g := g3) (off := 0) 0 (by kernel_rfl) rfl (by kernel_rfl)) rfl rfl rfl (pf_then pf_body) (by kernel_rfl) (fun ac A10 => ?_)
  refine r_take 2 (.pointer (some ⟨g3, 3, none⟩)) A10 T6 (g_field (u := .pointer (some ⟨g3, 0, none⟩)) (by kernel_rfl) (fun _ => by kernel_rfl)) rfl rfl rfl (pf_then pf_body) (by kernel_rfl) (fun ac A11 => ?_)
  refine r_take 3 (.int .i64 c.x2) A11 T6 (g_load (g := g3) (off := 3) 0 (by kernel_rfl) rfl (by kernel_rfl)) rfl rfl rfl (pf_then pf_body) (by kernel_rfl) (fun ac A12 => ?_)
  refine r_take 4 (.int .i64 (mn c.x1 c.x2)) A12 T6 (g_built (r := [(0, .int .i64 c.x1), (0, .int .i64 c.x2)]) (by kernel_rfl) (fun ty cs w => by show (do let x ← Builtin.min_ _ ty #[.int .i64 c.x1, .int .i64 c.x2]; pure (Next.value x) : Sem Next).run _ w = _; rw [Sem.run_bind, run_min_mn]; rfl)) rfl rfl rfl (pf_then pf_body) (by kernel_rfl) (fun ac A13 => ?_)
  refine r_take 5 (.pointer (some ⟨g3, 0, none⟩)) A13 T6 (g_field (u := .pointer (some ⟨g3, 0, none⟩)) (by kernel_rfl) (fun _ => by kernel_rfl)) rfl rfl rfl (pf_then pf_body) (by kernel_rfl) (fun ac A14 => ?_)
  refine r_take 6 (.int .i64 c.x1) A14 T6 (g_load (g := g3) (off := 0) 0 (by kernel_rfl) rfl (by kernel_rfl)) rfl rfl rfl (pf_then pf_body) (by kernel_rfl) (fun ac A15 => ?_)
  refine r_take 7 (.pointer (some ⟨g3, 3, none⟩)) A15 T6 (g_field (u := .pointer (some ⟨g3, 0, none⟩)) (by kernel_rfl) (fun _ => by kernel_rfl)) rfl rfl rfl (pf_then pf_body) (by kernel_rfl) (fun ac A16 => ?_)
  refine r_take 8 (.int .i64 c.x2) A16 T6 (g_load (g := g3) (off := 3) 0 (by kernel_rfl) rfl (by kernel_rfl)) rfl rfl rfl (pf_then pf_body) (by kernel_rfl) (fun ac A17 => ?_)
  refine r_take 9 (.int .i64 (mx c.x1 c.x2)) A17 T6 (g_built (r := [(0, .int .i64 c.x1), (0, .int .i64 c.x2)]) (by kernel_rfl) (fun ty cs w => by show (do let x ← Builtin.max_ _ ty #[.int .i64 c.x1, .int .i64 c.x2]; pure (Next.value x) : Sem Next).run _ w = _; rw [Sem.run_bind, run_max_mx]; rfl)) rfl rfl rfl (pf_then pf_body) (by kernel_rfl) (fun ac A18 => ?_)
  refine r_take 10 (.int .i64 (mn c.x1 c.x2)) A18 T6 (g_assign (by kernel_rfl)) rfl rfl rfl (pf_then pf_body) (by kernel_rfl) (fun ac A19 => ?_)
  refine r_take 11 (.int .i64 (mx c.x1 c.x2)) A19 T6 (g_assign (by kernel_rfl)) rfl rfl rfl (pf_then pf_body) (by kernel_rfl) (fun ac A20 => ?_)
  refine r_done (by kernel_rfl) ?_
  refine n_then ?_
  refine wp_seq ?_
  refine wp_seq ?_
  refine wp_region_lit ?_
  refine s_one (.agg #[.int .i64 c.x1, .int .i64 c.h1, .int .i64 c.v1, .int .i64 c.x2, .int .i64 c.h2, .int .i64 c.v2]) A20 S8 (g_load (g := g3) (off := 0) 0 (by kernel_rfl) rfl (by kernel_rfl)) rfl (fun ac A21 => ?_)
  refine s_one (.int .i64 (mx c.x1 c.x2)) A21 S8 (g_move (by kernel_rfl)) rfl (fun ac A22 => ?_)
  refine s_call (fs := #[]) (cp := #[]) (r := [(0, .agg #[.int .i64 c.x1, .int .i64 c.h1, .int .i64 c.v1, .int .i64 c.x2, .int .i64 c.h2, .int .i64 c.v2]), (0, .int .i64 (mx c.x1 c.x2))]) #[.agg #[.int .i64 c.x1, .int .i64 c.h1, .int .i64 c.v1, .int .i64 c.x2, .int .i64 c.h2, .int .i64 c.v2], .int .i64 (mx c.x1 c.x2)] (.int .i64 (slp c (mx c.x1 c.x2))) A22 S8 (refSlope_s c (mx c.x1 c.x2) _ ok (by omega) (by omega)) Try.call61 (by kernel_rfl) (by kernel_rfl) (by kernel_rfl) rfl (fun ac wc A23 S24 => ?_)
  refine s_one (.bool (decide (slp c (mx c.x1 c.x2) ≤ 0))) A23 S24 (g_bin (u := .int .i64 (slp c (mx c.x1 c.x2))) (k := .int .i64 0) (by kernel_rfl) (by kernel_rfl) (fun _ => by kernel_rfl) (fun _ => by kernel_rfl)) rfl (fun ac A26 => ?_)
  refine wpList_nil ?_
  refine n_then ?_
  refine c_ifb (b := (decide (slp c (mx c.x1 c.x2) ≤ 0))) A26 (by kernel_rfl) (fun h27 => ?_) (fun h27 => ?_)
  · have p28 := of_decide_eq_true h27
    refine wp_seq ?_
    refine wp_region_lit ?_
    refine s_one (.int .i64 (mx c.x1 c.x2)) A26 S24 (g_move (by kernel_rfl)) rfl (fun ac A29 => ?_)
    refine s_one (.int .i64 (mx c.x1 c.x2)) A29 S24 (g_assign (by kernel_rfl)) rfl (fun ac A30 => ?_)
    refine wpList_nil ?_
    refine n_then ?_
    refine wp_ret ?_
    refine r_then ?_
    refine fin1 (.int .i64 (mx c.x1 c.x2)) Try.results23 A30 S24 (rv_tmp (by kernel_rfl)) ⟨?_, S24.kp⟩
    rw [e1, ← crs_hi ok (by have z := p28; rw [e1] at z; exact z)]
  · have p31 := of_decide_eq_false h27
    refine wp_skip ?_
    refine n_then ?_
    refine wp_seq ?_
    refine wp_block ?_
    refine c_loopN (fun mm ac wc => ∃ (l : Int) (h : Int), mm = (h - l).toNat ∧ (c.lo ≤ l ∧ l < h) ∧ (h ≤ c.hi) ∧ (slp c l ≤ 0) ∧ (slp c h > 0) ∧ Fr 36 ac [(0, .agg #[.int .i64 c.x1, .int .i64 c.h1, .int .i64 c.v1, .int .i64 c.x2, .int .i64 c.h2, .int .i64 c.v2]), (1, .pointer (some ⟨g3, 0, none⟩)), (2, .int .i64 0), (6, .pointer (some ⟨g3, 0, none⟩)), (7, .int .i64 c.x1), (8, .pointer (some ⟨g3, 3, none⟩)), (9, .int .i64 c.x2), (10, .int .i64 (mn c.x1 c.x2)), (11, .pointer (some ⟨g3, 0, none⟩)), (12, .int .i64 c.x1), (13, .pointer (some ⟨g3, 3, none⟩)), (14, .int .i64 c.x2), (15, .int .i64 (mx c.x1 c.x2)), (16, .agg #[.int .i64 c.x1, .int .i64 c.h1, .int .i64 c.v1, .int .i64 c.x2, .int .i64 c.h2, .int .i64 c.v2]), (17, .int .i64 (mx c.x1 c.x2)), (18, .int .i64 (slp c (mx c.x1 c.x2))), (19, .bool (decide (slp c (mx c.x1 c.x2) ≤ 0))), (3, .int .i64 l), (4, .int .i64 h)] ∧ St w0 [⟨g3, 23, #[.int .i64 c.x1, .int .i64 c.h1, .int .i64 c.v1, .int .i64 c.x2, .int .i64 c.h2, .int .i64 c.v2], true⟩] [] wc) _ ⟨c.lo, c.hi, rfl, (crs_ne ok (by have z := p31; rw [e1] at z; omega)), (by omega), (slp_lo ok), (by have z := p31; rw [e1] at z; omega), (A26.slot (A26.slot (A26.slot (A26.slot (A26.slot (A26.slot (A26.slot (A26.slot (A26.slot (A26.slot (A26.slot (A26.slot (A26.slot (A26.slot (A26.slot (A26.slot (A26.slot (A26.slot (A26.slot A26.nil (v := .int .i64 (mx c.x1 c.x2)) (by kernel_rfl) (congrArg (Value.int .i64) e1)) (v := .int .i64 (mn c.x1 c.x2)) (by kernel_rfl) (congrArg (Value.int .i64) e2)) (v := .bool (decide (slp c (mx c.x1 c.x2) ≤ 0))) (by kernel_rfl) rfl) (v := .int .i64 (slp c (mx c.x1 c.x2))) (by kernel_rfl) rfl) (v := .int .i64 (mx c.x1 c.x2)) (by kernel_rfl) rfl) (v := .agg #[.int .i64 c.x1, .int .i64 c.h1, .int .i64 c.v1, .int .i64 c.x2, .int .i64 c.h2, .int .i64 c.v2]) (by kernel_rfl) rfl) (v := .int .i64 (mx c.x1 c.x2)) (by kernel_rfl) rfl) (v := .int .i64 c.x2) (by kernel_rfl) rfl) (v := .pointer (some ⟨g3, 3, none⟩)) (by kernel_rfl) rfl) (v := .int .i64 c.x1) (by kernel_rfl) rfl) (v := .pointer (some ⟨g3, 0, none⟩)) (by kernel_rfl) rfl) (v := .int .i64 (mn c.x1 c.x2)) (by kernel_rfl) rfl) (v := .int .i64 c.x2) (by kernel_rfl) rfl) (v := .pointer (some ⟨g3, 3, none⟩)) (by kernel_rfl) rfl) (v := .int .i64 c.x1) (by kernel_rfl) rfl) (v := .pointer (some ⟨g3, 0, none⟩)) (by kernel_rfl) rfl) (v := .int .i64 0) (by kernel_rfl) rfl) (v := .pointer (some ⟨g3, 0, none⟩)) (by kernel_rfl) rfl) (v := .agg #[.int .i64 c.x1, .int .i64 c.h1, .int .i64 c.v1, .int .i64 c.x2, .int .i64 c.h2, .int .i64 c.v2]) (by kernel_rfl) rfl), S24.sub sub_all sub_all⟩ ?_
    rintro mm ac wc ⟨l, h, hm34, h1, h2, hl, hh, A32, S33⟩
    refine wp_seq ?_
    refine wp_seq ?_
    refine wp_region_lit ?_
    refine s_one (.int .i64 h) A32 S33 (g_move (by kernel_rfl)) rfl (fun ac A35 => ?_)
    refine s_one (.int .i64 l) A35 S33 (g_move (by kernel_rfl)) rfl (fun ac A36 => ?_)
    refine s_one (.int .i64 (h - l)) A36 S33 (g_bin (u := .int .i64 h) (k := .int .i64 l) (by kernel_rfl) (by kernel_rfl) (fun _ => by kernel_rfl) (b_sub (by omega))) rfl (fun ac A37 => ?_)
    refine s_one (.bool (decide (h - l > 1))) A37 S33 (g_bin (u := .int .i64 (h - l)) (k := .int .i64 1) (by kernel_rfl) (by kernel_rfl) (fun _ => by kernel_rfl) (fun _ => by kernel_rfl)) rfl (fun ac A38 => ?_)
    refine wpList_nil ?_
    refine n_then ?_
    refine c_ifb (b := (decide (h - l > 1))) A38 (by kernel_rfl) (fun h39 => ?_) (fun h39 => ?_)
    · have p40 := of_decide_eq_true h39
      refine wp_skip ?_
      refine n_then ?_
      refine wp_block ?_
      refine wp_seq ?_
      refine wp_region_lit ?_
      refine s_one (.int .i64 l) A38 S33 (g_move (by kernel_rfl)) rfl (fun ac A41 => ?_)
      refine s_one (.int .i64 h) A41 S33 (g_move (by kernel_rfl)) rfl (fun ac A42 => ?_)
      refine s_one (.int .i64 (l + h)) A42 S33 (g_bin (u := .int .i64 l) (k := .int .i64 h) (by kernel_rfl) (by kernel_rfl) (fun _ => by kernel_rfl) (b_add (by omega))) rfl (fun ac A43 => ?_)
      refine s_call (fs := #[]) (cp := #[]) (r := [(0, .int .i64 (l + h)), (0, .int .i64 2)]) #[.int .i64 (l + h), .int .i64 2] (.int .i64 ((l + h) / 2)) A43 S33 (Floor_s (l + h) 2 _ (by omega) (by omega) (by omega)) Try.call80 (by kernel_rfl) (by kernel_rfl) (by kernel_rfl) rfl (fun ac wc A44 S45 => ?_)
      refine s_one (.int .i64 ((l + h) / 2)) A44 S45 (g_assign (by kernel_rfl)) rfl (fun ac A47 => ?_)
      refine wpList_nil ?_
      refine n_then ?_
      refine wp_seq ?_
      refine wp_region_lit ?_
      refine s_one (.agg #[.int .i64 c.x1, .int .i64 c.h1, .int .i64 c.v1, .int .i64 c.x2, .int .i64 c.h2, .int .i64 c.v2]) A47 S45 (g_load (g := g3) (off := 0) 0 (by kernel_rfl) rfl (by kernel_rfl)) rfl (fun ac A48 => ?_)
      refine s_one (.int .i64 ((l + h) / 2)) A48 S45 (g_move (by kernel_rfl)) rfl (fun ac A49 => ?_)
      refine s_call (fs := #[]) (cp := #[]) (r := [(0, .agg #[.int .i64 c.x1, .int .i64 c.h1, .int .i64 c.v1, .int .i64 c.x2, .int .i64 c.h2, .int .i64 c.v2]), (0, .int .i64 ((l + h) / 2))]) #[.agg #[.int .i64 c.x1, .int .i64 c.h1, .int .i64 c.v1, .int .i64 c.x2, .int .i64 c.h2, .int .i64 c.v2], .int .i64 ((l + h) / 2)] (.int .i64 (slp c ((l + h) / 2))) A49 S45 (refSlope_s c ((l + h) / 2) _ ok (by omega) (by omega)) Try.call61 (by kernel_rfl) (by kernel_rfl) (by kernel_rfl) rfl (fun ac wc A50 S51 => ?_)
      refine s_one (.bool (decide (slp c ((l + h) / 2) ≤ 0))) A50 S51 (g_bin (u := .int .i64 (slp c ((l + h) / 2))) (k := .int .i64 0) (by kernel_rfl) (by kernel_rfl) (fun _ => by kernel_rfl) (fun _ => by kernel_rfl)) rfl (fun ac A53 => ?_)
      refine wpList_nil ?_
      refine n_then ?_
      refine c_ifb (b := (decide (slp c ((l + h) / 2) ≤ 0))) A53 (by kernel_rfl) (fun h54 => ?_) (fun h54 => ?_)
      · have p55 := of_decide_eq_true h54
        refine wp_region_lit ?_
        refine s_one (.int .i64 ((l + h) / 2)) A53 S51 (g_move (by kernel_rfl)) rfl (fun ac A56 => ?_)
        refine s_one (.int .i64 ((l + h) / 2)) A56 S51 (g_assign (by kernel_rfl)) rfl (fun ac A57 => ?_)
        refine wpList_nil ?_
        refine n_block ?_
        refine n_then ?_
        refine ⟨_, ⟨(l + h) / 2, h, rfl, (by omega), (by omega), p55, hh, (A57.slot (A57.slot (A57.slot (A57.slot (A57.slot (A57.slot (A57.slot (A57.slot (A57.slot (A57.slot (A57.slot (A57.slot (A57.slot (A57.slot (A57.slot (A57.slot (A57.slot (A57.slot (A57.slot A57.nil (v := .int .i64 h) (by kernel_rfl) rfl) (v := .int .i64 ((l + h) / 2)) (by kernel_rfl) rfl) (v := .bool (decide (slp c (mx c.x1 c.x2) ≤ 0))) (by kernel_rfl) rfl) (v := .int .i64 (slp c (mx c.x1 c.x2))) (by kernel_rfl) rfl) (v := .int .i64 (mx c.x1 c.x2)) (by kernel_rfl) rfl) (v := .agg #[.int .i64 c.x1, .int .i64 c.h1, .int .i64 c.v1, .int .i64 c.x2, .int .i64 c.h2, .int .i64 c.v2]) (by kernel_rfl) rfl) (v := .int .i64 (mx c.x1 c.x2)) (by kernel_rfl) rfl) (v := .int .i64 c.x2) (by kernel_rfl) rfl) (v := .pointer (some ⟨g3, 3, none⟩)) (by kernel_rfl) rfl) (v := .int .i64 c.x1) (by kernel_rfl) rfl) (v := .pointer (some ⟨g3, 0, none⟩)) (by kernel_rfl) rfl) (v := .int .i64 (mn c.x1 c.x2)) (by kernel_rfl) rfl) (v := .int .i64 c.x2) (by kernel_rfl) rfl) (v := .pointer (some ⟨g3, 3, none⟩)) (by kernel_rfl) rfl) (v := .int .i64 c.x1) (by kernel_rfl) rfl) (v := .pointer (some ⟨g3, 0, none⟩)) (by kernel_rfl) rfl) (v := .int .i64 0) (by kernel_rfl) rfl) (v := .pointer (some ⟨g3, 0, none⟩)) (by kernel_rfl) rfl) (v := .agg #[.int .i64 c.x1, .int .i64 c.h1, .int .i64 c.v1, .int .i64 c.x2, .int .i64 c.h2, .int .i64 c.v2]) (by kernel_rfl) rfl), S51.sub sub_all sub_all⟩, ?_⟩
        omega
      · have p58 := of_decide_eq_false h54
        refine wp_region_lit ?_
        refine s_one (.int .i64 ((l + h) / 2)) A53 S51 (g_move (by kernel_rfl)) rfl (fun ac A59 => ?_)
        refine s_one (.int .i64 ((l + h) / 2)) A59 S51 (g_assign (by kernel_rfl)) rfl (fun ac A60 => ?_)
        refine wpList_nil ?_
        refine n_block ?_
        refine n_then ?_
        refine ⟨_, ⟨l, (l + h) / 2, rfl, (by omega), (by omega), hl, (by omega), (A60.slot (A60.slot (A60.slot (A60.slot (A60.slot (A60.slot (A60.slot (A60.slot (A60.slot (A60.slot (A60.slot (A60.slot (A60.slot (A60.slot (A60.slot (A60.slot (A60.slot (A60.slot (A60.slot A60.nil (v := .int .i64 ((l + h) / 2)) (by kernel_rfl) rfl) (v := .int .i64 l) (by kernel_rfl) rfl) (v := .bool (decide (slp c (mx c.x1 c.x2) ≤ 0))) (by kernel_rfl) rfl) (v := .int .i64 (slp c (mx c.x1 c.x2))) (by kernel_rfl) rfl) (v := .int .i64 (mx c.x1 c.x2)) (by kernel_rfl) rfl) (v := .agg #[.int .i64 c.x1, .int .i64 c.h1, .int .i64 c.v1, .int .i64 c.x2, .int .i64 c.h2, .int .i64 c.v2]) (by kernel_rfl) rfl) (v := .int .i64 (mx c.x1 c.x2)) (by kernel_rfl) rfl) (v := .int .i64 c.x2) (by kernel_rfl) rfl) (v := .pointer (some ⟨g3, 3, none⟩)) (by kernel_rfl) rfl) (v := .int .i64 c.x1) (by kernel_rfl) rfl) (v := .pointer (some ⟨g3, 0, none⟩)) (by kernel_rfl) rfl) (v := .int .i64 (mn c.x1 c.x2)) (by kernel_rfl) rfl) (v := .int .i64 c.x2) (by kernel_rfl) rfl) (v := .pointer (some ⟨g3, 3, none⟩)) (by kernel_rfl) rfl) (v := .int .i64 c.x1) (by kernel_rfl) rfl) (v := .pointer (some ⟨g3, 0, none⟩)) (by kernel_rfl) rfl) (v := .int .i64 0) (by kernel_rfl) rfl) (v := .pointer (some ⟨g3, 0, none⟩)) (by kernel_rfl) rfl) (v := .agg #[.int .i64 c.x1, .int .i64 c.h1, .int .i64 c.v1, .int .i64 c.x2, .int .i64 c.h2, .int .i64 c.v2]) (by kernel_rfl) rfl), S51.sub sub_all sub_all⟩, ?_⟩
        omega
    · have p61 := of_decide_eq_false h39
      refine wp_exit ?_
      refine x_then ?_
      refine x_then ?_
      refine x_hit ?_
      refine n_then ?_
      refine wp_seq ?_
      refine wp_region_lit ?_
      refine s_one (.int .i64 l) A38 S33 (g_move (by kernel_rfl)) rfl (fun ac A62 => ?_)
      refine s_one (.int .i64 l) A62 S33 (g_assign (by kernel_rfl)) rfl (fun ac A63 => ?_)
      refine wpList_nil ?_
      refine n_then ?_
      refine wp_ret ?_
      refine fin1 (.int .i64 l) Try.results23 A63 S33 (rv_tmp (by kernel_rfl)) ⟨?_, S33.kp⟩
      rw [crs_bi ok h1.1 h1.2 h2 hl hh p61]

theorem tLH {l u v : Int} (hv : 0 < v) (h : l ≤ u) : tLo l v ≤ tHi u v := by
  have a := tLo_le (l := l) hv; have b := tHi_ge (u := u) hv
  exact Int.le_of_mul_le_mul_left (show v * tLo l v ≤ v * tHi u v by omega) hv
theorem tim_bd {c : Cr} {p : Int} (ok : c.Ok) (k0 : c.lo ≤ p) (k1 : p ≤ c.hi) : 0 ≤ timLo c p ∧ timLo c p ≤ timHi c p ∧ timHi c p ≤ 12000000000 := by
  have p1 := ok.x1; have p2 := ok.x2; have p3 := ok.h1; have p4 := ok.h2; have p5 := ok.v1; have p6 := ok.v2
  unfold Cr.lo at k0; unfold Cr.hi at k1
  have a := len_bd (x := p - c.x1) (z := c.h1) (by omega) (by omega)
  have b := len_bd (x := c.x2 - p) (z := c.h2) (by omega) (by omega)
  have a1 := t_bd (l := lenL (p - c.x1) c.h1) (v := c.v1) (by omega) (by omega) (by omega)
  have b1 := t_bd (l := lenL (c.x2 - p) c.h2) (v := c.v2) (by omega) (by omega) (by omega)
  have a2 := tH_bd (l := lenU (p - c.x1) c.h1) (v := c.v1) (by omega) (by omega) (by omega)
  have b2 := tH_bd (l := lenU (c.x2 - p) c.h2) (v := c.v2) (by omega) (by omega) (by omega)
  have a3 := tLH (v := c.v1) (by omega) a.2.1
  have b3 := tLH (v := c.v2) (by omega) b.2.1
  unfold timLo timHi
  omega

set_option maxRecDepth 100000 in
set_option maxHeartbeats 400000 in
theorem ctime_s (c : Cr) (p : Int) (w0 : World) (ok : c.Ok) (k0 : c.lo ≤ p) (k1 : p ≤ c.hi) :
    Calls Try.prog 105 #[.agg #[.int .i64 c.x1, .int .i64 c.h1, .int .i64 c.v1, .int .i64 c.x2, .int .i64 c.h2, .int .i64 c.v2], .int .i64 p] w0 fun e w' => e = .returned (.agg #[.int .i64 (timLo c p), .int .i64 (timHi c p)]) ∧ Below w0.heap.size w0 w' := by
  have S0 := St.start w0
  have p1 := ok.x1
  have p2 := ok.x2
  have p3 := ok.h1
  have p4 := ok.h2
  have p5 := ok.v1
  have p6 := ok.v2
  have pl : c.lo = min c.x1 c.x2 := rfl
  have ph : c.hi = max c.x1 c.x2 := rfl
  refine enter (n := 32) Try.func105 rfl rfl rfl (fun ac A0 => ?_)
  refine wp_seq ?_
  refine wp_region_lit ?_
  refine s_box (.agg #[.int .i64 c.x1, .int .i64 c.h1, .int .i64 c.v1, .int .i64 c.x2, .int .i64 c.h2, .int .i64 c.v2]) A0 S0 (by kernel_rfl) rfl (fun g3 ac wc A1 S2 => ?_)
  replace S2 : St _ (⟨g3, 119, #[.int .i64 c.x1, .int .i64 c.h1, .int .i64 c.v1, .int .i64 c.x2, .int .i64 c.h2, .int .i64 c.v2], true⟩ :: _) _ _ := S2
  refine s_alloc (#[.int .i64 0, .int .i64 0]) A1 S2 (by kernel_rfl) rfl (fun g7 ac wc A5 S6 => ?_)
  refine wpList_nil ?_
  refine n_then ?_
  refine wp_seq ?_
  refine r_begin (w0 := w0) (by kernel_rfl) (S6.sub (sub_skip sub_all) sub_all) (fun wc T8 B9 => ?_)
  have S10 := S6.kept B9
  refine r_take 0 (.int .i64 p) A5 T8 (g_move (by kernel_rfl)) rfl rfl rfl (pf_then pf_body) (by kernel_rfl) (fun ac A11 => ?_)
  refine r_take 1 (.pointer (some ⟨g3, 0, none⟩)) A11 T8 (g_field (u := .pointer (some ⟨g3, 0, none⟩)) (by kernel_rfl) (fun _ => by kernel_rfl)) rfl rfl rfl (pf_then pf_body) (by kernel_rfl) (fun ac A12 => ?_)
  refine r_take 2 (.pointer (some ⟨g3, 0, none⟩)) A12 T8 (g_field (u := .pointer (some ⟨g3, 0, none⟩)) (by kernel_rfl) (fun _ => by kernel_rfl)) rfl rfl rfl (pf_then pf_body) (by kernel_rfl) (fun ac A13 => ?_)
  refine r_take 3 (.int .i64 c.x1) A13 T8 (g_load (g := g3) (off := 0) 0 (by kernel_rfl) rfl (by kernel_rfl)) rfl rfl rfl (pf_then pf_body) (by kernel_rfl) (fun ac A14 => ?_)
  refine r_take 4 (.int .i64 (p - c.x1)) A14 T8 (g_bin (u := .int .i64 p) (k := .int .i64 c.x1) (by kernel_rfl) (by kernel_rfl) (fun _ => by kernel_rfl) (b_sub (by omega))) rfl rfl rfl (pf_then pf_body) (by kernel_rfl) (fun ac A15 => ?_)
  refine r_take 5 (.pointer (some ⟨g3, 0, none⟩)) A15 T8 (g_field (u := .pointer (some ⟨g3, 0, none⟩)) (by kernel_rfl) (fun _ => by kernel_rfl)) rfl rfl rfl (pf_then pf_body) (by kernel_rfl) (fun ac A16 => ?_)
  refine r_take 6 (.pointer (some ⟨g3, 1, none⟩)) A16 T8 (g_field (u := .pointer (some ⟨g3, 0, none⟩)) (by kernel_rfl) (fun _ => by kernel_rfl)) rfl rfl rfl (pf_then pf_body) (by kernel_rfl) (fun ac A17 => ?_)
  refine r_take 7 (.int .i64 c.h1) A17 T8 (g_load (g := g3) (off := 1) 0 (by kernel_rfl) rfl (by kernel_rfl)) rfl rfl rfl (pf_then pf_body) (by kernel_rfl) (fun ac A18 => ?_)
  refine r_take 9 (.pointer (some ⟨g3, 0, none⟩)) A18 T8 (g_field (u := .pointer (some ⟨g3, 0, none⟩)) (by kernel_rfl) (fun _ => by kernel_rfl)) rfl rfl rfl (pf_then pf_body) (by kernel_rfl) (fun ac A19 => ?_)
  refine r_take 10 (.pointer (some ⟨g3, 2, none⟩)) A19 T8 (g_field (u := .pointer (some ⟨g3, 0, none⟩)) (by kernel_rfl) (fun _ => by kernel_rfl)) rfl rfl rfl (pf_then pf_body) (by kernel_rfl) (fun ac A20 => ?_)
  refine r_take 11 (.int .i64 c.v1) A20 T8 (g_load (g := g3) (off := 2) 0 (by kernel_rfl) rfl (by kernel_rfl)) rfl rfl rfl (pf_then pf_body) (by kernel_rfl) (fun ac A21 => ?_)
  refine r_take 13 (.pointer (some ⟨g3, 0, none⟩)) A21 T8 (g_field (u := .pointer (some ⟨g3, 0, none⟩)) (by kernel_rfl) (fun _ => by kernel_rfl)) rfl rfl rfl (pf_then pf_body) (by kernel_rfl) (fun ac A22 => ?_)
  refine r_take 14 (.pointer (some ⟨g3, 3, none⟩)) A22 T8 (g_field (u := .pointer (some ⟨g3, 0, none⟩)) (by kernel_rfl) (fun _ => by kernel_rfl)) rfl rfl rfl (pf_then pf_body) (by kernel_rfl) (fun ac A23 => ?_)
  refine r_take 15 (.int .i64 c.x2) A23 T8 (g_load (g := g3) (off := 3) 0 (by kernel_rfl) rfl (by kernel_rfl)) rfl rfl rfl (pf_then pf_body) (by kernel_rfl) (fun ac A24 => ?_)
  refine r_take 16 (.int .i64 p) A24 T8 (g_move (by kernel_rfl)) rfl rfl rfl (pf_then pf_body) (by kernel_rfl) (fun ac A25 => ?_)
  refine r_take 17 (.int .i64 (c.x2 - p)) A25 T8 (g_bin (u := .int .i64 c.x2) (k := .int .i64 p) (by kernel_rfl) (by kernel_rfl) (fun _ => by kernel_rfl) (b_sub (by omega))) rfl rfl rfl (pf_then pf_body) (by kernel_rfl) (fun ac A26 => ?_)
  refine r_take 18 (.pointer (some ⟨g3, 0, none⟩)) A26 T8 (g_field (u := .pointer (some ⟨g3, 0, none⟩)) (by kernel_rfl) (fun _ => by kernel_rfl)) rfl rfl rfl (pf_then pf_body) (by kernel_rfl) (fun ac A27 => ?_)
  refine r_take 19 (.pointer (some ⟨g3, 4, none⟩)) A27 T8 (g_field (u := .pointer (some ⟨g3, 0, none⟩)) (by kernel_rfl) (fun _ => by kernel_rfl)) rfl rfl rfl (pf_then pf_body) (by kernel_rfl) (fun ac A28 => ?_)
  refine r_take 20 (.int .i64 c.h2) A28 T8 (g_load (g := g3) (off := 4) 0 (by kernel_rfl) rfl (by kernel_rfl)) rfl rfl rfl (pf_then pf_body) (by kernel_rfl) (fun ac A29 => ?_)
  refine r_take 22 (.pointer (some ⟨g3, 0, none⟩)) A29 T8 (g_field (u := .pointer (some ⟨g3, 0, none⟩)) (by kernel_rfl) (fun _ => by kernel_rfl)) rfl rfl rfl (pf_then pf_body) (by kernel_rfl) (fun ac A30 => ?_)
  refine r_take 23 (.pointer (some ⟨g3, 5, none⟩)) A30 T8 (g_field (u := .pointer (some ⟨g3, 0, none⟩)) (by kernel_rfl) (fun _ => by kernel_rfl)) rfl rfl rfl (pf_then pf_body) (by kernel_rfl) (fun ac A31 => ?_)
  refine r_take 24 (.int .i64 c.v2) A31 T8 (g_load (g := g3) (off := 5) 0 (by kernel_rfl) rfl (by kernel_rfl)) rfl rfl rfl (pf_then pf_body) (by kernel_rfl) (fun ac A32 => ?_)
  refine r_1 (i := 8) (by kernel_rfl) ?_
  have q37 := len_bd (x := p - c.x1) (z := c.h1) (by omega) (by omega)
  refine rs_call (fs := #[]) (cp := #[]) (r := [(0, .int .i64 (p - c.x1)), (0, .int .i64 c.h1)]) #[.int .i64 (p - c.x1), .int .i64 c.h1] (.agg #[.int .i64 (lenL (p - c.x1) c.h1), .int .i64 (lenU (p - c.x1) c.h1)]) A32 S10 (sub_skip sub_all) sub_all (length_s (p - c.x1) c.h1 _ (by omega) (by omega) (by omega) (by omega)) Try.call87 rfl rfl (by kernel_rfl) (by kernel_rfl) (by kernel_rfl) rfl (fun ac wc A33 S34 => ?_)
  have T36 := S34.sub (sub_skip sub_all) sub_all
  refine r_1 (i := 12) (by kernel_rfl) ?_
  have q42 := t_bd (l := (lenL (p - c.x1) c.h1)) (v := c.v1) (by omega) (by omega) (by omega)
  have q43 := tH_bd (l := (lenU (p - c.x1) c.h1)) (v := c.v1) (by omega) (by omega) (by omega)
  refine rs_call (fs := #[]) (cp := #[]) (r := [(0, .agg #[.int .i64 (lenL (p - c.x1) c.h1), .int .i64 (lenU (p - c.x1) c.h1)]), (0, .int .i64 c.v1)]) #[.agg #[.int .i64 (lenL (p - c.x1) c.h1), .int .i64 (lenU (p - c.x1) c.h1)], .int .i64 c.v1] (.agg #[.int .i64 (tLo (lenL (p - c.x1) c.h1) c.v1), .int .i64 (tHi (lenU (p - c.x1) c.h1) c.v1)]) A33 S34 (sub_skip sub_all) sub_all (time_s (lenL (p - c.x1) c.h1) (lenU (p - c.x1) c.h1) c.v1 _ (by omega) (by omega) (by omega) (by omega) (by omega)) Try.call86 rfl rfl (by kernel_rfl) (by kernel_rfl) (by kernel_rfl) rfl (fun ac wc A38 S39 => ?_)
  have T41 := S39.sub (sub_skip sub_all) sub_all
  refine r_1 (i := 21) (by kernel_rfl) ?_
  have q48 := len_bd (x := c.x2 - p) (z := c.h2) (by omega) (by omega)
  refine rs_call (fs := #[]) (cp := #[]) (r := [(0, .int .i64 (c.x2 - p)), (0, .int .i64 c.h2)]) #[.int .i64 (c.x2 - p), .int .i64 c.h2] (.agg #[.int .i64 (lenL (c.x2 - p) c.h2), .int .i64 (lenU (c.x2 - p) c.h2)]) A38 S39 (sub_skip sub_all) sub_all (length_s (c.x2 - p) c.h2 _ (by omega) (by omega) (by omega) (by omega)) Try.call87 rfl rfl (by kernel_rfl) (by kernel_rfl) (by kernel_rfl) rfl (fun ac wc A44 S45 => ?_)
  have T47 := S45.sub (sub_skip sub_all) sub_all
  refine r_1 (i := 25) (by kernel_rfl) ?_
  have q53 := t_bd (l := (lenL (c.x2 - p) c.h2)) (v := c.v2) (by omega) (by omega) (by omega)
  have q54 := tH_bd (l := (lenU (c.x2 - p) c.h2)) (v := c.v2) (by omega) (by omega) (by omega)
  refine rs_call (fs := #[]) (cp := #[]) (r := [(0, .agg #[.int .i64 (lenL (c.x2 - p) c.h2), .int .i64 (lenU (c.x2 - p) c.h2)]), (0, .int .i64 c.v2)]) #[.agg #[.int .i64 (lenL (c.x2 - p) c.h2), .int .i64 (lenU (c.x2 - p) c.h2)], .int .i64 c.v2] (.agg #[.int .i64 (tLo (lenL (c.x2 - p) c.h2) c.v2), .int .i64 (tHi (lenU (c.x2 - p) c.h2) c.v2)]) A44 S45 (sub_skip sub_all) sub_all (time_s (lenL (c.x2 - p) c.h2) (lenU (c.x2 - p) c.h2) c.v2 _ (by omega) (by omega) (by omega) (by omega) (by omega)) Try.call86 rfl rfl (by kernel_rfl) (by kernel_rfl) (by kernel_rfl) rfl (fun ac wc A49 S50 => ?_)
  have T52 := S50.sub (sub_skip sub_all) sub_all
  refine r_1 (i := 26) (by kernel_rfl) ?_
  refine rs_call (fs := #[]) (cp := #[]) (r := [(0, .agg #[.int .i64 (tLo (lenL (p - c.x1) c.h1) c.v1), .int .i64 (tHi (lenU (p - c.x1) c.h1) c.v1)]), (0, .agg #[.int .i64 (tLo (lenL (c.x2 - p) c.h2) c.v2), .int .i64 (tHi (lenU (c.x2 - p) c.h2) c.v2)])]) #[.agg #[.int .i64 (tLo (lenL (p - c.x1) c.h1) c.v1), .int .i64 (tHi (lenU (p - c.x1) c.h1) c.v1)], .agg #[.int .i64 (tLo (lenL (c.x2 - p) c.h2) c.v2), .int .i64 (tHi (lenU (c.x2 - p) c.h2) c.v2)]] (.agg #[.int .i64 (tLo (lenL (p - c.x1) c.h1) c.v1 + (tLo (lenL (c.x2 - p) c.h2) c.v2)), .int .i64 (tHi (lenU (p - c.x1) c.h1) c.v1 + (tHi (lenU (c.x2 - p) c.h2) c.v2))]) A49 S50 (sub_skip sub_all) sub_all (plus_s (tLo (lenL (p - c.x1) c.h1) c.v1) (tHi (lenU (p - c.x1) c.h1) c.v1) (tLo (lenL (c.x2 - p) c.h2) c.v2) (tHi (lenU (c.x2 - p) c.h2) c.v2) _ (by omega) (by omega) (by omega) (by omega) (by omega) (by omega) (by omega) (by omega)) Try.call96 rfl rfl (by kernel_rfl) (by kernel_rfl) (by kernel_rfl) rfl (fun ac wc A55 S56 => ?_)
  have T58 := S56.sub (sub_skip sub_all) sub_all
  refine r_1 (i := 27) (by kernel_rfl) ?_
  refine rs_store (g := g7) (off := 0) (v := .agg #[.int .i64 (tLo (lenL (p - c.x1) c.h1) c.v1 + (tLo (lenL (c.x2 - p) c.h2) c.v2)), .int .i64 (tHi (lenU (p - c.x1) c.h1) c.v1 + (tHi (lenU (c.x2 - p) c.h2) c.v2))]) 0 (#[.int .i64 (tLo (lenL (p - c.x1) c.h1) c.v1 + (tLo (lenL (c.x2 - p) c.h2) c.v2)), .int .i64 (tHi (lenU (p - c.x1) c.h1) c.v1 + (tHi (lenU (c.x2 - p) c.h2) c.v2))]) A55 S56 (sub_skip sub_all) sub_all (by kernel_rfl) (by kernel_rfl) rfl (by kernel_rfl) rfl rfl (fun wc S60 => ?_)
  have T62 := S60.sub (sub_skip sub_all) sub_all
  refine r_done (by kernel_rfl) ?_
  refine n_then ?_
  refine wp_ret ?_
  refine fin1 (.agg #[.int .i64 (tLo (lenL (p - c.x1) c.h1) c.v1 + (tLo (lenL (c.x2 - p) c.h2) c.v2)), .int .i64 (tHi (lenU (p - c.x1) c.h1) c.v1 + (tHi (lenU (c.x2 - p) c.h2) c.v2))]) Try.results105 A55 S60 (rv_cell (g := g7) (off := 0) 0 (by kernel_rfl) rfl (by kernel_rfl)) ⟨?_, S60.kp⟩
  rfl

set_option maxRecDepth 100000 in
set_option maxHeartbeats 400000 in
theorem refTimeAt_s (c : Cr) (p : Int) (w0 : World) (ok : c.Ok) (k0 : c.lo ≤ p) (k1 : p ≤ c.hi) :
    Calls Try.prog 62 #[.agg #[.int .i64 c.x1, .int .i64 c.h1, .int .i64 c.v1, .int .i64 c.x2, .int .i64 c.h2, .int .i64 c.v2], .int .i64 p] w0 fun e w' => e = .returned (.agg #[.int .i64 (timLo c p), .int .i64 (timHi c p)]) ∧ Below w0.heap.size w0 w' := by
  have S0 := St.start w0
  have p1 := ok.x1
  have p2 := ok.x2
  have p3 := ok.h1
  have p4 := ok.h2
  have p5 := ok.v1
  have p6 := ok.v2
  have pl : c.lo = min c.x1 c.x2 := rfl
  have ph : c.hi = max c.x1 c.x2 := rfl
  refine enter (n := 38) Try.func62 rfl rfl rfl (fun ac A0 => ?_)
  refine wp_seq ?_
  refine wp_region_lit ?_
  refine s_box (.agg #[.int .i64 c.x1, .int .i64 c.h1, .int .i64 c.v1, .int .i64 c.x2, .int .i64 c.h2, .int .i64 c.v2]) A0 S0 (by kernel_rfl) rfl (fun g3 ac wc A1 S2 => ?_)
  replace S2 : St _ (⟨g3, 23, #[.int .i64 c.x1, .int .i64 c.h1, .int .i64 c.v1, .int .i64 c.x2, .int .i64 c.h2, .int .i64 c.v2], true⟩ :: _) _ _ := S2
  refine s_alloc (#[.int .i64 0, .int .i64 0]) A1 S2 (by kernel_rfl) rfl (fun g7 ac wc A5 S6 => ?_)
  refine wpList_nil ?_
  refine n_then ?_
  refine wp_seq ?_
  refine r_begin (w0 := w0) (by kernel_rfl) (S6.sub sub_all sub_all) (fun wc T8 B9 => ?_)
  have S10 := S6.kept B9
  refine r_take 0 (.int .i64 p) A5 T8 (g_move (by kernel_rfl)) rfl rfl rfl (pf_then pf_body) (by kernel_rfl) (fun ac A11 => ?_)
  refine r_take 1 (.pointer (some ⟨g3, 0, none⟩)) A11 T8 (g_field (u := .pointer (some ⟨g3, 0, none⟩)) (by kernel_rfl) (fun _ => by kernel_rfl)) rfl rfl rfl (pf_then pf_body) (by kernel_rfl) (fun ac A12 => ?_)
  refine r_take 2 (.int .i64 c.x1) A12 T8 (g_load (g := g3) (off := 0) 1 (by kernel_rfl) rfl (by kernel_rfl)) rfl rfl rfl (pf_then pf_body) (by kernel_rfl) (fun ac A13 => ?_)
  refine r_take 3 (.int .i64 (p - c.x1)) A13 T8 (g_bin (u := .int .i64 p) (k := .int .i64 c.x1) (by kernel_rfl) (by kernel_rfl) (fun _ => by kernel_rfl) (b_sub (by omega))) rfl rfl rfl (pf_then pf_body) (by kernel_rfl) (fun ac A14 => ?_)
  refine r_take 4 (.pointer (some ⟨g3, 1, none⟩)) A14 T8 (g_field (u := .pointer (some ⟨g3, 0, none⟩)) (by kernel_rfl) (fun _ => by kernel_rfl)) rfl rfl rfl (pf_then pf_body) (by kernel_rfl) (fun ac A15 => ?_)
  refine r_take 5 (.int .i64 c.h1) A15 T8 (g_load (g := g3) (off := 1) 1 (by kernel_rfl) rfl (by kernel_rfl)) rfl rfl rfl (pf_then pf_body) (by kernel_rfl) (fun ac A16 => ?_)
  refine r_take 7 (.pointer (some ⟨g3, 2, none⟩)) A16 T8 (g_field (u := .pointer (some ⟨g3, 0, none⟩)) (by kernel_rfl) (fun _ => by kernel_rfl)) rfl rfl rfl (pf_then pf_body) (by kernel_rfl) (fun ac A17 => ?_)
  refine r_take 8 (.int .i64 c.v1) A17 T8 (g_load (g := g3) (off := 2) 1 (by kernel_rfl) rfl (by kernel_rfl)) rfl rfl rfl (pf_then pf_body) (by kernel_rfl) (fun ac A18 => ?_)
  refine r_take 10 (.pointer (some ⟨g3, 3, none⟩)) A18 T8 (g_field (u := .pointer (some ⟨g3, 0, none⟩)) (by kernel_rfl) (fun _ => by kernel_rfl)) rfl rfl rfl (pf_then pf_body) (by kernel_rfl) (fun ac A19 => ?_)
  refine r_take 11 (.int .i64 c.x2) A19 T8 (g_load (g := g3) (off := 3) 1 (by kernel_rfl) rfl (by kernel_rfl)) rfl rfl rfl (pf_then pf_body) (by kernel_rfl) (fun ac A20 => ?_)
  refine r_take 12 (.int .i64 p) A20 T8 (g_move (by kernel_rfl)) rfl rfl rfl (pf_then pf_body) (by kernel_rfl) (fun ac A21 => ?_)
  refine r_take 13 (.int .i64 (c.x2 - p)) A21 T8 (g_bin (u := .int .i64 c.x2) (k := .int .i64 p) (by kernel_rfl) (by kernel_rfl) (fun _ => by kernel_rfl) (b_sub (by omega))) rfl rfl rfl (pf_then pf_body) (by kernel_rfl) (fun ac A22 => ?_)
  refine r_take 14 (.pointer (some ⟨g3, 4, none⟩)) A22 T8 (g_field (u := .pointer (some ⟨g3, 0, none⟩)) (by kernel_rfl) (fun _ => by kernel_rfl)) rfl rfl rfl (pf_then pf_body) (by kernel_rfl) (fun ac A23 => ?_)
  refine r_take 15 (.int .i64 c.h2) A23 T8 (g_load (g := g3) (off := 4) 1 (by kernel_rfl) rfl (by kernel_rfl)) rfl rfl rfl (pf_then pf_body) (by kernel_rfl) (fun ac A24 => ?_)
  refine r_take 17 (.pointer (some ⟨g3, 5, none⟩)) A24 T8 (g_field (u := .pointer (some ⟨g3, 0, none⟩)) (by kernel_rfl) (fun _ => by kernel_rfl)) rfl rfl rfl (pf_then pf_body) (by kernel_rfl) (fun ac A25 => ?_)
  refine r_take 18 (.int .i64 c.v2) A25 T8 (g_load (g := g3) (off := 5) 1 (by kernel_rfl) rfl (by kernel_rfl)) rfl rfl rfl (pf_then pf_body) (by kernel_rfl) (fun ac A26 => ?_)
  refine r_3 (i := 6) (j := 20) (l := 21) (by kernel_rfl) ?_ ?_ ?_
  · have q31 := len_bd (x := p - c.x1) (z := c.h1) (by omega) (by omega)
    refine rs_call (fs := #[]) (cp := #[]) (r := [(0, .int .i64 (p - c.x1)), (0, .int .i64 c.h1)]) #[.int .i64 (p - c.x1), .int .i64 c.h1] (.agg #[.int .i64 (lenL (p - c.x1) c.h1), .int .i64 (lenU (p - c.x1) c.h1)]) A26 S10 sub_all sub_all (lengthOf_s (p - c.x1) c.h1 _ (by omega) (by omega) (by omega) (by omega)) Try.call92 rfl rfl (by kernel_rfl) (by kernel_rfl) (by kernel_rfl) rfl (fun ac wc A27 S28 => ?_)
    have T30 := S28.sub sub_all sub_all
    refine r_3 (i := 9) (j := 20) (l := 21) (by kernel_rfl) ?_ ?_ ?_
    · have q36 := t_bd (l := (lenL (p - c.x1) c.h1)) (v := c.v1) (by omega) (by omega) (by omega)
      have q37 := tH_bd (l := (lenU (p - c.x1) c.h1)) (v := c.v1) (by omega) (by omega) (by omega)
      refine rs_call (fs := #[]) (cp := #[]) (r := [(0, .agg #[.int .i64 (lenL (p - c.x1) c.h1), .int .i64 (lenU (p - c.x1) c.h1)]), (0, .int .i64 c.v1)]) #[.agg #[.int .i64 (lenL (p - c.x1) c.h1), .int .i64 (lenU (p - c.x1) c.h1)], .int .i64 c.v1] (.agg #[.int .i64 (tLo (lenL (p - c.x1) c.h1) c.v1), .int .i64 (tHi (lenU (p - c.x1) c.h1) c.v1)]) A27 S28 sub_all sub_all (lasting_s (lenL (p - c.x1) c.h1) (lenU (p - c.x1) c.h1) c.v1 _ (by omega) (by omega) (by omega) (by omega) (by omega)) Try.call93 rfl rfl (by kernel_rfl) (by kernel_rfl) (by kernel_rfl) rfl (fun ac wc A32 S33 => ?_)
      have T35 := S33.sub sub_all sub_all
      refine r_3 (i := 16) (j := 20) (l := 21) (by kernel_rfl) ?_ ?_ ?_
      · have q42 := len_bd (x := c.x2 - p) (z := c.h2) (by omega) (by omega)
        refine rs_call (fs := #[]) (cp := #[]) (r := [(0, .int .i64 (c.x2 - p)), (0, .int .i64 c.h2)]) #[.int .i64 (c.x2 - p), .int .i64 c.h2] (.agg #[.int .i64 (lenL (c.x2 - p) c.h2), .int .i64 (lenU (c.x2 - p) c.h2)]) A32 S33 sub_all sub_all (lengthOf_s (c.x2 - p) c.h2 _ (by omega) (by omega) (by omega) (by omega)) Try.call92 rfl rfl (by kernel_rfl) (by kernel_rfl) (by kernel_rfl) rfl (fun ac wc A38 S39 => ?_)
        have T41 := S39.sub sub_all sub_all
        refine r_3 (i := 19) (j := 20) (l := 21) (by kernel_rfl) ?_ ?_ ?_
        · have q47 := t_bd (l := (lenL (c.x2 - p) c.h2)) (v := c.v2) (by omega) (by omega) (by omega)
          have q48 := tH_bd (l := (lenU (c.x2 - p) c.h2)) (v := c.v2) (by omega) (by omega) (by omega)
          refine rs_call (fs := #[]) (cp := #[]) (r := [(0, .agg #[.int .i64 (lenL (c.x2 - p) c.h2), .int .i64 (lenU (c.x2 - p) c.h2)]), (0, .int .i64 c.v2)]) #[.agg #[.int .i64 (lenL (c.x2 - p) c.h2), .int .i64 (lenU (c.x2 - p) c.h2)], .int .i64 c.v2] (.agg #[.int .i64 (tLo (lenL (c.x2 - p) c.h2) c.v2), .int .i64 (tHi (lenU (c.x2 - p) c.h2) c.v2)]) A38 S39 sub_all sub_all (lasting_s (lenL (c.x2 - p) c.h2) (lenU (c.x2 - p) c.h2) c.v2 _ (by omega) (by omega) (by omega) (by omega) (by omega)) Try.call93 rfl rfl (by kernel_rfl) (by kernel_rfl) (by kernel_rfl) rfl (fun ac wc A43 S44 => ?_)
          have T46 := S44.sub sub_all sub_all
          refine r_2 (i := 20) (j := 21) (by kernel_rfl) ?_ ?_
          · refine rs_alloc (#[.int .i64 0, .int .i64 0]) A43 S44 sub_all sub_all (by kernel_rfl) rfl rfl rfl (fun g51 ac wc A49 S50 => ?_)
            have T52 := S50.sub (sub_skip sub_all) sub_all
            refine r_1 (i := 21) (by kernel_rfl) ?_
            refine rs_alloc (#[.int .i64 0, .int .i64 0]) A49 S50 (sub_skip sub_all) sub_all (by kernel_rfl) rfl rfl rfl (fun g55 ac wc A53 S54 => ?_)
            have T56 := S54.sub (sub_skip (sub_skip sub_all)) sub_all
            refine r_1 (i := 22) (by kernel_rfl) ?_
            refine rs_store (g := g51) (off := 0) (v := .agg #[.int .i64 (tLo (lenL (p - c.x1) c.h1) c.v1), .int .i64 (tHi (lenU (p - c.x1) c.h1) c.v1)]) 1 (#[.int .i64 (tLo (lenL (p - c.x1) c.h1) c.v1), .int .i64 (tHi (lenU (p - c.x1) c.h1) c.v1)]) A53 S54 (sub_skip (sub_skip sub_all)) sub_all (by kernel_rfl) (by kernel_rfl) rfl (by kernel_rfl) rfl rfl (fun wc S58 => ?_)
            have T60 := S58.sub (sub_skip (sub_skip sub_all)) sub_all
            refine r_1 (i := 23) (by kernel_rfl) ?_
            refine rs_store (g := g55) (off := 0) (v := .agg #[.int .i64 (tLo (lenL (c.x2 - p) c.h2) c.v2), .int .i64 (tHi (lenU (c.x2 - p) c.h2) c.v2)]) 0 (#[.int .i64 (tLo (lenL (c.x2 - p) c.h2) c.v2), .int .i64 (tHi (lenU (c.x2 - p) c.h2) c.v2)]) A53 S58 (sub_skip (sub_skip sub_all)) sub_all (by kernel_rfl) (by kernel_rfl) rfl (by kernel_rfl) rfl rfl (fun wc S62 => ?_)
            have T64 := S62.sub (sub_skip (sub_skip sub_all)) sub_all
            refine r_done (by kernel_rfl) ?_
            refine n_then ?_
            refine wp_seq ?_
            refine wp_region_lit ?_
            refine s_one (.pointer (some ⟨g51, 0, none⟩)) A53 S62 (g_field (u := .pointer (some ⟨g51, 0, none⟩)) (by kernel_rfl) (fun _ => by kernel_rfl)) rfl (fun ac A65 => ?_)
            refine s_one (.int .i64 (tLo (lenL (p - c.x1) c.h1) c.v1)) A65 S62 (g_load (g := g51) (off := 0) 1 (by kernel_rfl) rfl (by kernel_rfl)) rfl (fun ac A66 => ?_)
            refine s_one (.pointer (some ⟨g55, 0, none⟩)) A66 S62 (g_field (u := .pointer (some ⟨g55, 0, none⟩)) (by kernel_rfl) (fun _ => by kernel_rfl)) rfl (fun ac A67 => ?_)
            refine s_one (.int .i64 (tLo (lenL (c.x2 - p) c.h2) c.v2)) A67 S62 (g_load (g := g55) (off := 0) 0 (by kernel_rfl) rfl (by kernel_rfl)) rfl (fun ac A68 => ?_)
            refine s_one (.int .i64 (tLo (lenL (p - c.x1) c.h1) c.v1 + (tLo (lenL (c.x2 - p) c.h2) c.v2))) A68 S62 (g_bin (u := .int .i64 (tLo (lenL (p - c.x1) c.h1) c.v1)) (k := .int .i64 (tLo (lenL (c.x2 - p) c.h2) c.v2)) (by kernel_rfl) (by kernel_rfl) (fun _ => by kernel_rfl) (b_add (by omega))) rfl (fun ac A69 => ?_)
            refine s_one (.pointer (some ⟨g51, 1, none⟩)) A69 S62 (g_field (u := .pointer (some ⟨g51, 0, none⟩)) (by kernel_rfl) (fun _ => by kernel_rfl)) rfl (fun ac A70 => ?_)
            refine s_one (.int .i64 (tHi (lenU (p - c.x1) c.h1) c.v1)) A70 S62 (g_load (g := g51) (off := 1) 1 (by kernel_rfl) rfl (by kernel_rfl)) rfl (fun ac A71 => ?_)
            refine s_one (.pointer (some ⟨g55, 1, none⟩)) A71 S62 (g_field (u := .pointer (some ⟨g55, 0, none⟩)) (by kernel_rfl) (fun _ => by kernel_rfl)) rfl (fun ac A72 => ?_)
            refine s_one (.int .i64 (tHi (lenU (c.x2 - p) c.h2) c.v2)) A72 S62 (g_load (g := g55) (off := 1) 0 (by kernel_rfl) rfl (by kernel_rfl)) rfl (fun ac A73 => ?_)
            refine s_one (.int .i64 (tHi (lenU (p - c.x1) c.h1) c.v1 + (tHi (lenU (c.x2 - p) c.h2) c.v2))) A73 S62 (g_bin (u := .int .i64 (tHi (lenU (p - c.x1) c.h1) c.v1)) (k := .int .i64 (tHi (lenU (c.x2 - p) c.h2) c.v2)) (by kernel_rfl) (by kernel_rfl) (fun _ => by kernel_rfl) (b_add (by omega))) rfl (fun ac A74 => ?_)
            refine s_one (.agg #[.int .i64 (tLo (lenL (p - c.x1) c.h1) c.v1 + (tLo (lenL (c.x2 - p) c.h2) c.v2)), .int .i64 (tHi (lenU (p - c.x1) c.h1) c.v1 + (tHi (lenU (c.x2 - p) c.h2) c.v2))]) A74 S62 (g_build (r := [(0, .int .i64 (tLo (lenL (p - c.x1) c.h1) c.v1 + (tLo (lenL (c.x2 - p) c.h2) c.v2))), (1, .int .i64 (tHi (lenU (p - c.x1) c.h1) c.v1 + (tHi (lenU (c.x2 - p) c.h2) c.v2)))]) (by kernel_rfl) (fun _ => by kernel_rfl)) rfl (fun ac A75 => ?_)
            refine s_store (g := g7) (off := 0) (v := .agg #[.int .i64 (tLo (lenL (p - c.x1) c.h1) c.v1 + (tLo (lenL (c.x2 - p) c.h2) c.v2)), .int .i64 (tHi (lenU (p - c.x1) c.h1) c.v1 + (tHi (lenU (c.x2 - p) c.h2) c.v2))]) 2 (#[.int .i64 (tLo (lenL (p - c.x1) c.h1) c.v1 + (tLo (lenL (c.x2 - p) c.h2) c.v2)), .int .i64 (tHi (lenU (p - c.x1) c.h1) c.v1 + (tHi (lenU (c.x2 - p) c.h2) c.v2))]) A75 S62 (by kernel_rfl) (by kernel_rfl) rfl (by kernel_rfl) (fun wc S77 => ?_)
            refine wpList_nil ?_
            refine n_then ?_
            refine wp_ret ?_
            refine fin1 (.agg #[.int .i64 (tLo (lenL (p - c.x1) c.h1) c.v1 + (tLo (lenL (c.x2 - p) c.h2) c.v2)), .int .i64 (tHi (lenU (p - c.x1) c.h1) c.v1 + (tHi (lenU (c.x2 - p) c.h2) c.v2))]) Try.results62 A75 S77 (rv_cell (g := g7) (off := 0) 2 (by kernel_rfl) rfl (by kernel_rfl)) ⟨?_, S77.kp⟩
            rfl
          · refine rs_alloc (#[.int .i64 0, .int .i64 0]) A43 S44 sub_all sub_all (by kernel_rfl) rfl rfl rfl (fun g81 ac wc A79 S80 => ?_)
            have T82 := S80.sub (sub_skip sub_all) sub_all
            refine r_1 (i := 20) (by kernel_rfl) ?_
            refine rs_alloc (#[.int .i64 0, .int .i64 0]) A79 S80 (sub_skip sub_all) sub_all (by kernel_rfl) rfl rfl rfl (fun g85 ac wc A83 S84 => ?_)
            have T86 := S84.sub (sub_skip (sub_skip sub_all)) sub_all
            refine r_1 (i := 22) (by kernel_rfl) ?_
            refine rs_store (g := g85) (off := 0) (v := .agg #[.int .i64 (tLo (lenL (p - c.x1) c.h1) c.v1), .int .i64 (tHi (lenU (p - c.x1) c.h1) c.v1)]) 0 (#[.int .i64 (tLo (lenL (p - c.x1) c.h1) c.v1), .int .i64 (tHi (lenU (p - c.x1) c.h1) c.v1)]) A83 S84 (sub_skip (sub_skip sub_all)) sub_all (by kernel_rfl) (by kernel_rfl) rfl (by kernel_rfl) rfl rfl (fun wc S88 => ?_)
            have T90 := S88.sub (sub_skip (sub_skip sub_all)) sub_all
            refine r_1 (i := 23) (by kernel_rfl) ?_
            refine rs_store (g := g81) (off := 0) (v := .agg #[.int .i64 (tLo (lenL (c.x2 - p) c.h2) c.v2), .int .i64 (tHi (lenU (c.x2 - p) c.h2) c.v2)]) 1 (#[.int .i64 (tLo (lenL (c.x2 - p) c.h2) c.v2), .int .i64 (tHi (lenU (c.x2 - p) c.h2) c.v2)]) A83 S88 (sub_skip (sub_skip sub_all)) sub_all (by kernel_rfl) (by kernel_rfl) rfl (by kernel_rfl) rfl rfl (fun wc S92 => ?_)
            have T94 := S92.sub (sub_skip (sub_skip sub_all)) sub_all
            refine r_done (by kernel_rfl) ?_
            refine n_then ?_
            refine wp_seq ?_
            refine wp_region_lit ?_
            refine s_one (.pointer (some ⟨g85, 0, none⟩)) A83 S92 (g_field (u := .pointer (some ⟨g85, 0, none⟩)) (by kernel_rfl) (fun _ => by kernel_rfl)) rfl (fun ac A95 => ?_)
            refine s_one (.int .i64 (tLo (lenL (p - c.x1) c.h1) c.v1)) A95 S92 (g_load (g := g85) (off := 0) 0 (by kernel_rfl) rfl (by kernel_rfl)) rfl (fun ac A96 => ?_)
            refine s_one (.pointer (some ⟨g81, 0, none⟩)) A96 S92 (g_field (u := .pointer (some ⟨g81, 0, none⟩)) (by kernel_rfl) (fun _ => by kernel_rfl)) rfl (fun ac A97 => ?_)
            refine s_one (.int .i64 (tLo (lenL (c.x2 - p) c.h2) c.v2)) A97 S92 (g_load (g := g81) (off := 0) 1 (by kernel_rfl) rfl (by kernel_rfl)) rfl (fun ac A98 => ?_)
            refine s_one (.int .i64 (tLo (lenL (p - c.x1) c.h1) c.v1 + (tLo (lenL (c.x2 - p) c.h2) c.v2))) A98 S92 (g_bin (u := .int .i64 (tLo (lenL (p - c.x1) c.h1) c.v1)) (k := .int .i64 (tLo (lenL (c.x2 - p) c.h2) c.v2)) (by kernel_rfl) (by kernel_rfl) (fun _ => by kernel_rfl) (b_add (by omega))) rfl (fun ac A99 => ?_)
            refine s_one (.pointer (some ⟨g85, 1, none⟩)) A99 S92 (g_field (u := .pointer (some ⟨g85, 0, none⟩)) (by kernel_rfl) (fun _ => by kernel_rfl)) rfl (fun ac A100 => ?_)
            refine s_one (.int .i64 (tHi (lenU (p - c.x1) c.h1) c.v1)) A100 S92 (g_load (g := g85) (off := 1) 0 (by kernel_rfl) rfl (by kernel_rfl)) rfl (fun ac A101 => ?_)
            refine s_one (.pointer (some ⟨g81, 1, none⟩)) A101 S92 (g_field (u := .pointer (some ⟨g81, 0, none⟩)) (by kernel_rfl) (fun _ => by kernel_rfl)) rfl (fun ac A102 => ?_)
            refine s_one (.int .i64 (tHi (lenU (c.x2 - p) c.h2) c.v2)) A102 S92 (g_load (g := g81) (off := 1) 1 (by kernel_rfl) rfl (by kernel_rfl)) rfl (fun ac A103 => ?_)
            refine s_one (.int .i64 (tHi (lenU (p - c.x1) c.h1) c.v1 + (tHi (lenU (c.x2 - p) c.h2) c.v2))) A103 S92 (g_bin (u := .int .i64 (tHi (lenU (p - c.x1) c.h1) c.v1)) (k := .int .i64 (tHi (lenU (c.x2 - p) c.h2) c.v2)) (by kernel_rfl) (by kernel_rfl) (fun _ => by kernel_rfl) (b_add (by omega))) rfl (fun ac A104 => ?_)
            refine s_one (.agg #[.int .i64 (tLo (lenL (p - c.x1) c.h1) c.v1 + (tLo (lenL (c.x2 - p) c.h2) c.v2)), .int .i64 (tHi (lenU (p - c.x1) c.h1) c.v1 + (tHi (lenU (c.x2 - p) c.h2) c.v2))]) A104 S92 (g_build (r := [(0, .int .i64 (tLo (lenL (p - c.x1) c.h1) c.v1 + (tLo (lenL (c.x2 - p) c.h2) c.v2))), (1, .int .i64 (tHi (lenU (p - c.x1) c.h1) c.v1 + (tHi (lenU (c.x2 - p) c.h2) c.v2)))]) (by kernel_rfl) (fun _ => by kernel_rfl)) rfl (fun ac A105 => ?_)
            refine s_store (g := g7) (off := 0) (v := .agg #[.int .i64 (tLo (lenL (p - c.x1) c.h1) c.v1 + (tLo (lenL (c.x2 - p) c.h2) c.v2)), .int .i64 (tHi (lenU (p - c.x1) c.h1) c.v1 + (tHi (lenU (c.x2 - p) c.h2) c.v2))]) 2 (#[.int .i64 (tLo (lenL (p - c.x1) c.h1) c.v1 + (tLo (lenL (c.x2 - p) c.h2) c.v2)), .int .i64 (tHi (lenU (p - c.x1) c.h1) c.v1 + (tHi (lenU (c.x2 - p) c.h2) c.v2))]) A105 S92 (by kernel_rfl) (by kernel_rfl) rfl (by kernel_rfl) (fun wc S107 => ?_)
            refine wpList_nil ?_
            refine n_then ?_
            refine wp_ret ?_
            refine fin1 (.agg #[.int .i64 (tLo (lenL (p - c.x1) c.h1) c.v1 + (tLo (lenL (c.x2 - p) c.h2) c.v2)), .int .i64 (tHi (lenU (p - c.x1) c.h1) c.v1 + (tHi (lenU (c.x2 - p) c.h2) c.v2))]) Try.results62 A105 S107 (rv_cell (g := g7) (off := 0) 2 (by kernel_rfl) rfl (by kernel_rfl)) ⟨?_, S107.kp⟩
            rfl
        · refine rs_alloc (#[.int .i64 0, .int .i64 0]) A38 S39 sub_all sub_all (by kernel_rfl) rfl rfl rfl (fun g111 ac wc A109 S110 => ?_)
          have T112 := S110.sub (sub_skip sub_all) sub_all
          refine r_2 (i := 19) (j := 21) (by kernel_rfl) ?_ ?_
          · have q117 := t_bd (l := (lenL (c.x2 - p) c.h2)) (v := c.v2) (by omega) (by omega) (by omega)
            have q118 := tH_bd (l := (lenU (c.x2 - p) c.h2)) (v := c.v2) (by omega) (by omega) (by omega)
            refine rs_call (fs := #[]) (cp := #[]) (r := [(0, .agg #[.int .i64 (lenL (c.x2 - p) c.h2), .int .i64 (lenU (c.x2 - p) c.h2)]), (0, .int .i64 c.v2)]) #[.agg #[.int .i64 (lenL (c.x2 - p) c.h2), .int .i64 (lenU (c.x2 - p) c.h2)], .int .i64 c.v2] (.agg #[.int .i64 (tLo (lenL (c.x2 - p) c.h2) c.v2), .int .i64 (tHi (lenU (c.x2 - p) c.h2) c.v2)]) A109 S110 (sub_skip sub_all) sub_all (lasting_s (lenL (c.x2 - p) c.h2) (lenU (c.x2 - p) c.h2) c.v2 _ (by omega) (by omega) (by omega) (by omega) (by omega)) Try.call93 rfl rfl (by kernel_rfl) (by kernel_rfl) (by kernel_rfl) rfl (fun ac wc A113 S114 => ?_)
            have T116 := S114.sub (sub_skip sub_all) sub_all
            refine r_1 (i := 21) (by kernel_rfl) ?_
            refine rs_alloc (#[.int .i64 0, .int .i64 0]) A113 S114 (sub_skip sub_all) sub_all (by kernel_rfl) rfl rfl rfl (fun g121 ac wc A119 S120 => ?_)
            have T122 := S120.sub (sub_skip (sub_skip sub_all)) sub_all
            refine r_1 (i := 22) (by kernel_rfl) ?_
            refine rs_store (g := g111) (off := 0) (v := .agg #[.int .i64 (tLo (lenL (p - c.x1) c.h1) c.v1), .int .i64 (tHi (lenU (p - c.x1) c.h1) c.v1)]) 1 (#[.int .i64 (tLo (lenL (p - c.x1) c.h1) c.v1), .int .i64 (tHi (lenU (p - c.x1) c.h1) c.v1)]) A119 S120 (sub_skip (sub_skip sub_all)) sub_all (by kernel_rfl) (by kernel_rfl) rfl (by kernel_rfl) rfl rfl (fun wc S124 => ?_)
            have T126 := S124.sub (sub_skip (sub_skip sub_all)) sub_all
            refine r_1 (i := 23) (by kernel_rfl) ?_
            refine rs_store (g := g121) (off := 0) (v := .agg #[.int .i64 (tLo (lenL (c.x2 - p) c.h2) c.v2), .int .i64 (tHi (lenU (c.x2 - p) c.h2) c.v2)]) 0 (#[.int .i64 (tLo (lenL (c.x2 - p) c.h2) c.v2), .int .i64 (tHi (lenU (c.x2 - p) c.h2) c.v2)]) A119 S124 (sub_skip (sub_skip sub_all)) sub_all (by kernel_rfl) (by kernel_rfl) rfl (by kernel_rfl) rfl rfl (fun wc S128 => ?_)
            have T130 := S128.sub (sub_skip (sub_skip sub_all)) sub_all
            refine r_done (by kernel_rfl) ?_
            refine n_then ?_
            refine wp_seq ?_
            refine wp_region_lit ?_
            refine s_one (.pointer (some ⟨g111, 0, none⟩)) A119 S128 (g_field (u := .pointer (some ⟨g111, 0, none⟩)) (by kernel_rfl) (fun _ => by kernel_rfl)) rfl (fun ac A131 => ?_)
            refine s_one (.int .i64 (tLo (lenL (p - c.x1) c.h1) c.v1)) A131 S128 (g_load (g := g111) (off := 0) 1 (by kernel_rfl) rfl (by kernel_rfl)) rfl (fun ac A132 => ?_)
            refine s_one (.pointer (some ⟨g121, 0, none⟩)) A132 S128 (g_field (u := .pointer (some ⟨g121, 0, none⟩)) (by kernel_rfl) (fun _ => by kernel_rfl)) rfl (fun ac A133 => ?_)
            refine s_one (.int .i64 (tLo (lenL (c.x2 - p) c.h2) c.v2)) A133 S128 (g_load (g := g121) (off := 0) 0 (by kernel_rfl) rfl (by kernel_rfl)) rfl (fun ac A134 => ?_)
            refine s_one (.int .i64 (tLo (lenL (p - c.x1) c.h1) c.v1 + (tLo (lenL (c.x2 - p) c.h2) c.v2))) A134 S128 (g_bin (u := .int .i64 (tLo (lenL (p - c.x1) c.h1) c.v1)) (k := .int .i64 (tLo (lenL (c.x2 - p) c.h2) c.v2)) (by kernel_rfl) (by kernel_rfl) (fun _ => by kernel_rfl) (b_add (by omega))) rfl (fun ac A135 => ?_)
            refine s_one (.pointer (some ⟨g111, 1, none⟩)) A135 S128 (g_field (u := .pointer (some ⟨g111, 0, none⟩)) (by kernel_rfl) (fun _ => by kernel_rfl)) rfl (fun ac A136 => ?_)
            refine s_one (.int .i64 (tHi (lenU (p - c.x1) c.h1) c.v1)) A136 S128 (g_load (g := g111) (off := 1) 1 (by kernel_rfl) rfl (by kernel_rfl)) rfl (fun ac A137 => ?_)
            refine s_one (.pointer (some ⟨g121, 1, none⟩)) A137 S128 (g_field (u := .pointer (some ⟨g121, 0, none⟩)) (by kernel_rfl) (fun _ => by kernel_rfl)) rfl (fun ac A138 => ?_)
            refine s_one (.int .i64 (tHi (lenU (c.x2 - p) c.h2) c.v2)) A138 S128 (g_load (g := g121) (off := 1) 0 (by kernel_rfl) rfl (by kernel_rfl)) rfl (fun ac A139 => ?_)
            refine s_one (.int .i64 (tHi (lenU (p - c.x1) c.h1) c.v1 + (tHi (lenU (c.x2 - p) c.h2) c.v2))) A139 S128 (g_bin (u := .int .i64 (tHi (lenU (p - c.x1) c.h1) c.v1)) (k := .int .i64 (tHi (lenU (c.x2 - p) c.h2) c.v2)) (by kernel_rfl) (by kernel_rfl) (fun _ => by kernel_rfl) (b_add (by omega))) rfl (fun ac A140 => ?_)
            refine s_one (.agg #[.int .i64 (tLo (lenL (p - c.x1) c.h1) c.v1 + (tLo (lenL (c.x2 - p) c.h2) c.v2)), .int .i64 (tHi (lenU (p - c.x1) c.h1) c.v1 + (tHi (lenU (c.x2 - p) c.h2) c.v2))]) A140 S128 (g_build (r := [(0, .int .i64 (tLo (lenL (p - c.x1) c.h1) c.v1 + (tLo (lenL (c.x2 - p) c.h2) c.v2))), (1, .int .i64 (tHi (lenU (p - c.x1) c.h1) c.v1 + (tHi (lenU (c.x2 - p) c.h2) c.v2)))]) (by kernel_rfl) (fun _ => by kernel_rfl)) rfl (fun ac A141 => ?_)
            refine s_store (g := g7) (off := 0) (v := .agg #[.int .i64 (tLo (lenL (p - c.x1) c.h1) c.v1 + (tLo (lenL (c.x2 - p) c.h2) c.v2)), .int .i64 (tHi (lenU (p - c.x1) c.h1) c.v1 + (tHi (lenU (c.x2 - p) c.h2) c.v2))]) 2 (#[.int .i64 (tLo (lenL (p - c.x1) c.h1) c.v1 + (tLo (lenL (c.x2 - p) c.h2) c.v2)), .int .i64 (tHi (lenU (p - c.x1) c.h1) c.v1 + (tHi (lenU (c.x2 - p) c.h2) c.v2))]) A141 S128 (by kernel_rfl) (by kernel_rfl) rfl (by kernel_rfl) (fun wc S143 => ?_)
            refine wpList_nil ?_
            refine n_then ?_
            refine wp_ret ?_
            refine fin1 (.agg #[.int .i64 (tLo (lenL (p - c.x1) c.h1) c.v1 + (tLo (lenL (c.x2 - p) c.h2) c.v2)), .int .i64 (tHi (lenU (p - c.x1) c.h1) c.v1 + (tHi (lenU (c.x2 - p) c.h2) c.v2))]) Try.results62 A141 S143 (rv_cell (g := g7) (off := 0) 2 (by kernel_rfl) rfl (by kernel_rfl)) ⟨?_, S143.kp⟩
            rfl
          · refine rs_alloc (#[.int .i64 0, .int .i64 0]) A109 S110 (sub_skip sub_all) sub_all (by kernel_rfl) rfl rfl rfl (fun g147 ac wc A145 S146 => ?_)
            have T148 := S146.sub (sub_skip (sub_skip sub_all)) sub_all
            refine r_1 (i := 19) (by kernel_rfl) ?_
            have q153 := t_bd (l := (lenL (c.x2 - p) c.h2)) (v := c.v2) (by omega) (by omega) (by omega)
            have q154 := tH_bd (l := (lenU (c.x2 - p) c.h2)) (v := c.v2) (by omega) (by omega) (by omega)
            refine rs_call (fs := #[]) (cp := #[]) (r := [(0, .agg #[.int .i64 (lenL (c.x2 - p) c.h2), .int .i64 (lenU (c.x2 - p) c.h2)]), (0, .int .i64 c.v2)]) #[.agg #[.int .i64 (lenL (c.x2 - p) c.h2), .int .i64 (lenU (c.x2 - p) c.h2)], .int .i64 c.v2] (.agg #[.int .i64 (tLo (lenL (c.x2 - p) c.h2) c.v2), .int .i64 (tHi (lenU (c.x2 - p) c.h2) c.v2)]) A145 S146 (sub_skip (sub_skip sub_all)) sub_all (lasting_s (lenL (c.x2 - p) c.h2) (lenU (c.x2 - p) c.h2) c.v2 _ (by omega) (by omega) (by omega) (by omega) (by omega)) Try.call93 rfl rfl (by kernel_rfl) (by kernel_rfl) (by kernel_rfl) rfl (fun ac wc A149 S150 => ?_)
            have T152 := S150.sub (sub_skip (sub_skip sub_all)) sub_all
            refine r_1 (i := 22) (by kernel_rfl) ?_
            refine rs_store (g := g111) (off := 0) (v := .agg #[.int .i64 (tLo (lenL (p - c.x1) c.h1) c.v1), .int .i64 (tHi (lenU (p - c.x1) c.h1) c.v1)]) 1 (#[.int .i64 (tLo (lenL (p - c.x1) c.h1) c.v1), .int .i64 (tHi (lenU (p - c.x1) c.h1) c.v1)]) A149 S150 (sub_skip (sub_skip sub_all)) sub_all (by kernel_rfl) (by kernel_rfl) rfl (by kernel_rfl) rfl rfl (fun wc S156 => ?_)
            have T158 := S156.sub (sub_skip (sub_skip sub_all)) sub_all
            refine r_1 (i := 23) (by kernel_rfl) ?_
            refine rs_store (g := g147) (off := 0) (v := .agg #[.int .i64 (tLo (lenL (c.x2 - p) c.h2) c.v2), .int .i64 (tHi (lenU (c.x2 - p) c.h2) c.v2)]) 0 (#[.int .i64 (tLo (lenL (c.x2 - p) c.h2) c.v2), .int .i64 (tHi (lenU (c.x2 - p) c.h2) c.v2)]) A149 S156 (sub_skip (sub_skip sub_all)) sub_all (by kernel_rfl) (by kernel_rfl) rfl (by kernel_rfl) rfl rfl (fun wc S160 => ?_)
            have T162 := S160.sub (sub_skip (sub_skip sub_all)) sub_all
            refine r_done (by kernel_rfl) ?_
            refine n_then ?_
            refine wp_seq ?_
            refine wp_region_lit ?_
            refine s_one (.pointer (some ⟨g111, 0, none⟩)) A149 S160 (g_field (u := .pointer (some ⟨g111, 0, none⟩)) (by kernel_rfl) (fun _ => by kernel_rfl)) rfl (fun ac A163 => ?_)
            refine s_one (.int .i64 (tLo (lenL (p - c.x1) c.h1) c.v1)) A163 S160 (g_load (g := g111) (off := 0) 1 (by kernel_rfl) rfl (by kernel_rfl)) rfl (fun ac A164 => ?_)
            refine s_one (.pointer (some ⟨g147, 0, none⟩)) A164 S160 (g_field (u := .pointer (some ⟨g147, 0, none⟩)) (by kernel_rfl) (fun _ => by kernel_rfl)) rfl (fun ac A165 => ?_)
            refine s_one (.int .i64 (tLo (lenL (c.x2 - p) c.h2) c.v2)) A165 S160 (g_load (g := g147) (off := 0) 0 (by kernel_rfl) rfl (by kernel_rfl)) rfl (fun ac A166 => ?_)
            refine s_one (.int .i64 (tLo (lenL (p - c.x1) c.h1) c.v1 + (tLo (lenL (c.x2 - p) c.h2) c.v2))) A166 S160 (g_bin (u := .int .i64 (tLo (lenL (p - c.x1) c.h1) c.v1)) (k := .int .i64 (tLo (lenL (c.x2 - p) c.h2) c.v2)) (by kernel_rfl) (by kernel_rfl) (fun _ => by kernel_rfl) (b_add (by omega))) rfl (fun ac A167 => ?_)
            refine s_one (.pointer (some ⟨g111, 1, none⟩)) A167 S160 (g_field (u := .pointer (some ⟨g111, 0, none⟩)) (by kernel_rfl) (fun _ => by kernel_rfl)) rfl (fun ac A168 => ?_)
            refine s_one (.int .i64 (tHi (lenU (p - c.x1) c.h1) c.v1)) A168 S160 (g_load (g := g111) (off := 1) 1 (by kernel_rfl) rfl (by kernel_rfl)) rfl (fun ac A169 => ?_)
            refine s_one (.pointer (some ⟨g147, 1, none⟩)) A169 S160 (g_field (u := .pointer (some ⟨g147, 0, none⟩)) (by kernel_rfl) (fun _ => by kernel_rfl)) rfl (fun ac A170 => ?_)
            refine s_one (.int .i64 (tHi (lenU (c.x2 - p) c.h2) c.v2)) A170 S160 (g_load (g := g147) (off := 1) 0 (by kernel_rfl) rfl (by kernel_rfl)) rfl (fun ac A171 => ?_)
            refine s_one (.int .i64 (tHi (lenU (p - c.x1) c.h1) c.v1 + (tHi (lenU (c.x2 - p) c.h2) c.v2))) A171 S160 (g_bin (u := .int .i64 (tHi (lenU (p - c.x1) c.h1) c.v1)) (k := .int .i64 (tHi (lenU (c.x2 - p) c.h2) c.v2)) (by kernel_rfl) (by kernel_rfl) (fun _ => by kernel_rfl) (b_add (by omega))) rfl (fun ac A172 => ?_)
            refine s_one (.agg #[.int .i64 (tLo (lenL (p - c.x1) c.h1) c.v1 + (tLo (lenL (c.x2 - p) c.h2) c.v2)), .int .i64 (tHi (lenU (p - c.x1) c.h1) c.v1 + (tHi (lenU (c.x2 - p) c.h2) c.v2))]) A172 S160 (g_build (r := [(0, .int .i64 (tLo (lenL (p - c.x1) c.h1) c.v1 + (tLo (lenL (c.x2 - p) c.h2) c.v2))), (1, .int .i64 (tHi (lenU (p - c.x1) c.h1) c.v1 + (tHi (lenU (c.x2 - p) c.h2) c.v2)))]) (by kernel_rfl) (fun _ => by kernel_rfl)) rfl (fun ac A173 => ?_)
            refine s_store (g := g7) (off := 0) (v := .agg #[.int .i64 (tLo (lenL (p - c.x1) c.h1) c.v1 + (tLo (lenL (c.x2 - p) c.h2) c.v2)), .int .i64 (tHi (lenU (p - c.x1) c.h1) c.v1 + (tHi (lenU (c.x2 - p) c.h2) c.v2))]) 2 (#[.int .i64 (tLo (lenL (p - c.x1) c.h1) c.v1 + (tLo (lenL (c.x2 - p) c.h2) c.v2)), .int .i64 (tHi (lenU (p - c.x1) c.h1) c.v1 + (tHi (lenU (c.x2 - p) c.h2) c.v2))]) A173 S160 (by kernel_rfl) (by kernel_rfl) rfl (by kernel_rfl) (fun wc S175 => ?_)
            refine wpList_nil ?_
            refine n_then ?_
            refine wp_ret ?_
            refine fin1 (.agg #[.int .i64 (tLo (lenL (p - c.x1) c.h1) c.v1 + (tLo (lenL (c.x2 - p) c.h2) c.v2)), .int .i64 (tHi (lenU (p - c.x1) c.h1) c.v1 + (tHi (lenU (c.x2 - p) c.h2) c.v2))]) Try.results62 A173 S175 (rv_cell (g := g7) (off := 0) 2 (by kernel_rfl) rfl (by kernel_rfl)) ⟨?_, S175.kp⟩
            rfl
        · refine rs_alloc (#[.int .i64 0, .int .i64 0]) A38 S39 sub_all sub_all (by kernel_rfl) rfl rfl rfl (fun g179 ac wc A177 S178 => ?_)
          have T180 := S178.sub (sub_skip sub_all) sub_all
          refine r_2 (i := 19) (j := 20) (by kernel_rfl) ?_ ?_
          · have q185 := t_bd (l := (lenL (c.x2 - p) c.h2)) (v := c.v2) (by omega) (by omega) (by omega)
            have q186 := tH_bd (l := (lenU (c.x2 - p) c.h2)) (v := c.v2) (by omega) (by omega) (by omega)
            refine rs_call (fs := #[]) (cp := #[]) (r := [(0, .agg #[.int .i64 (lenL (c.x2 - p) c.h2), .int .i64 (lenU (c.x2 - p) c.h2)]), (0, .int .i64 c.v2)]) #[.agg #[.int .i64 (lenL (c.x2 - p) c.h2), .int .i64 (lenU (c.x2 - p) c.h2)], .int .i64 c.v2] (.agg #[.int .i64 (tLo (lenL (c.x2 - p) c.h2) c.v2), .int .i64 (tHi (lenU (c.x2 - p) c.h2) c.v2)]) A177 S178 (sub_skip sub_all) sub_all (lasting_s (lenL (c.x2 - p) c.h2) (lenU (c.x2 - p) c.h2) c.v2 _ (by omega) (by omega) (by omega) (by omega) (by omega)) Try.call93 rfl rfl (by kernel_rfl) (by kernel_rfl) (by kernel_rfl) rfl (fun ac wc A181 S182 => ?_)
            have T184 := S182.sub (sub_skip sub_all) sub_all
            refine r_1 (i := 20) (by kernel_rfl) ?_
            refine rs_alloc (#[.int .i64 0, .int .i64 0]) A181 S182 (sub_skip sub_all) sub_all (by kernel_rfl) rfl rfl rfl (fun g189 ac wc A187 S188 => ?_)
            have T190 := S188.sub (sub_skip (sub_skip sub_all)) sub_all
            refine r_1 (i := 22) (by kernel_rfl) ?_
            refine rs_store (g := g189) (off := 0) (v := .agg #[.int .i64 (tLo (lenL (p - c.x1) c.h1) c.v1), .int .i64 (tHi (lenU (p - c.x1) c.h1) c.v1)]) 0 (#[.int .i64 (tLo (lenL (p - c.x1) c.h1) c.v1), .int .i64 (tHi (lenU (p - c.x1) c.h1) c.v1)]) A187 S188 (sub_skip (sub_skip sub_all)) sub_all (by kernel_rfl) (by kernel_rfl) rfl (by kernel_rfl) rfl rfl (fun wc S192 => ?_)
            have T194 := S192.sub (sub_skip (sub_skip sub_all)) sub_all
            refine r_1 (i := 23) (by kernel_rfl) ?_
            refine rs_store (g := g179) (off := 0) (v := .agg #[.int .i64 (tLo (lenL (c.x2 - p) c.h2) c.v2), .int .i64 (tHi (lenU (c.x2 - p) c.h2) c.v2)]) 1 (#[.int .i64 (tLo (lenL (c.x2 - p) c.h2) c.v2), .int .i64 (tHi (lenU (c.x2 - p) c.h2) c.v2)]) A187 S192 (sub_skip (sub_skip sub_all)) sub_all (by kernel_rfl) (by kernel_rfl) rfl (by kernel_rfl) rfl rfl (fun wc S196 => ?_)
            have T198 := S196.sub (sub_skip (sub_skip sub_all)) sub_all
            refine r_done (by kernel_rfl) ?_
            refine n_then ?_
            refine wp_seq ?_
            refine wp_region_lit ?_
            refine s_one (.pointer (some ⟨g189, 0, none⟩)) A187 S196 (g_field (u := .pointer (some ⟨g189, 0, none⟩)) (by kernel_rfl) (fun _ => by kernel_rfl)) rfl (fun ac A199 => ?_)
            refine s_one (.int .i64 (tLo (lenL (p - c.x1) c.h1) c.v1)) A199 S196 (g_load (g := g189) (off := 0) 0 (by kernel_rfl) rfl (by kernel_rfl)) rfl (fun ac A200 => ?_)
            refine s_one (.pointer (some ⟨g179, 0, none⟩)) A200 S196 (g_field (u := .pointer (some ⟨g179, 0, none⟩)) (by kernel_rfl) (fun _ => by kernel_rfl)) rfl (fun ac A201 => ?_)
            refine s_one (.int .i64 (tLo (lenL (c.x2 - p) c.h2) c.v2)) A201 S196 (g_load (g := g179) (off := 0) 1 (by kernel_rfl) rfl (by kernel_rfl)) rfl (fun ac A202 => ?_)
            refine s_one (.int .i64 (tLo (lenL (p - c.x1) c.h1) c.v1 + (tLo (lenL (c.x2 - p) c.h2) c.v2))) A202 S196 (g_bin (u := .int .i64 (tLo (lenL (p - c.x1) c.h1) c.v1)) (k := .int .i64 (tLo (lenL (c.x2 - p) c.h2) c.v2)) (by kernel_rfl) (by kernel_rfl) (fun _ => by kernel_rfl) (b_add (by omega))) rfl (fun ac A203 => ?_)
            refine s_one (.pointer (some ⟨g189, 1, none⟩)) A203 S196 (g_field (u := .pointer (some ⟨g189, 0, none⟩)) (by kernel_rfl) (fun _ => by kernel_rfl)) rfl (fun ac A204 => ?_)
            refine s_one (.int .i64 (tHi (lenU (p - c.x1) c.h1) c.v1)) A204 S196 (g_load (g := g189) (off := 1) 0 (by kernel_rfl) rfl (by kernel_rfl)) rfl (fun ac A205 => ?_)
            refine s_one (.pointer (some ⟨g179, 1, none⟩)) A205 S196 (g_field (u := .pointer (some ⟨g179, 0, none⟩)) (by kernel_rfl) (fun _ => by kernel_rfl)) rfl (fun ac A206 => ?_)
            refine s_one (.int .i64 (tHi (lenU (c.x2 - p) c.h2) c.v2)) A206 S196 (g_load (g := g179) (off := 1) 1 (by kernel_rfl) rfl (by kernel_rfl)) rfl (fun ac A207 => ?_)
            refine s_one (.int .i64 (tHi (lenU (p - c.x1) c.h1) c.v1 + (tHi (lenU (c.x2 - p) c.h2) c.v2))) A207 S196 (g_bin (u := .int .i64 (tHi (lenU (p - c.x1) c.h1) c.v1)) (k := .int .i64 (tHi (lenU (c.x2 - p) c.h2) c.v2)) (by kernel_rfl) (by kernel_rfl) (fun _ => by kernel_rfl) (b_add (by omega))) rfl (fun ac A208 => ?_)
            refine s_one (.agg #[.int .i64 (tLo (lenL (p - c.x1) c.h1) c.v1 + (tLo (lenL (c.x2 - p) c.h2) c.v2)), .int .i64 (tHi (lenU (p - c.x1) c.h1) c.v1 + (tHi (lenU (c.x2 - p) c.h2) c.v2))]) A208 S196 (g_build (r := [(0, .int .i64 (tLo (lenL (p - c.x1) c.h1) c.v1 + (tLo (lenL (c.x2 - p) c.h2) c.v2))), (1, .int .i64 (tHi (lenU (p - c.x1) c.h1) c.v1 + (tHi (lenU (c.x2 - p) c.h2) c.v2)))]) (by kernel_rfl) (fun _ => by kernel_rfl)) rfl (fun ac A209 => ?_)
            refine s_store (g := g7) (off := 0) (v := .agg #[.int .i64 (tLo (lenL (p - c.x1) c.h1) c.v1 + (tLo (lenL (c.x2 - p) c.h2) c.v2)), .int .i64 (tHi (lenU (p - c.x1) c.h1) c.v1 + (tHi (lenU (c.x2 - p) c.h2) c.v2))]) 2 (#[.int .i64 (tLo (lenL (p - c.x1) c.h1) c.v1 + (tLo (lenL (c.x2 - p) c.h2) c.v2)), .int .i64 (tHi (lenU (p - c.x1) c.h1) c.v1 + (tHi (lenU (c.x2 - p) c.h2) c.v2))]) A209 S196 (by kernel_rfl) (by kernel_rfl) rfl (by kernel_rfl) (fun wc S211 => ?_)
            refine wpList_nil ?_
            refine n_then ?_
            refine wp_ret ?_
            refine fin1 (.agg #[.int .i64 (tLo (lenL (p - c.x1) c.h1) c.v1 + (tLo (lenL (c.x2 - p) c.h2) c.v2)), .int .i64 (tHi (lenU (p - c.x1) c.h1) c.v1 + (tHi (lenU (c.x2 - p) c.h2) c.v2))]) Try.results62 A209 S211 (rv_cell (g := g7) (off := 0) 2 (by kernel_rfl) rfl (by kernel_rfl)) ⟨?_, S211.kp⟩
            rfl
          · refine rs_alloc (#[.int .i64 0, .int .i64 0]) A177 S178 (sub_skip sub_all) sub_all (by kernel_rfl) rfl rfl rfl (fun g215 ac wc A213 S214 => ?_)
            have T216 := S214.sub (sub_skip (sub_skip sub_all)) sub_all
            refine r_1 (i := 19) (by kernel_rfl) ?_
            have q221 := t_bd (l := (lenL (c.x2 - p) c.h2)) (v := c.v2) (by omega) (by omega) (by omega)
            have q222 := tH_bd (l := (lenU (c.x2 - p) c.h2)) (v := c.v2) (by omega) (by omega) (by omega)
            refine rs_call (fs := #[]) (cp := #[]) (r := [(0, .agg #[.int .i64 (lenL (c.x2 - p) c.h2), .int .i64 (lenU (c.x2 - p) c.h2)]), (0, .int .i64 c.v2)]) #[.agg #[.int .i64 (lenL (c.x2 - p) c.h2), .int .i64 (lenU (c.x2 - p) c.h2)], .int .i64 c.v2] (.agg #[.int .i64 (tLo (lenL (c.x2 - p) c.h2) c.v2), .int .i64 (tHi (lenU (c.x2 - p) c.h2) c.v2)]) A213 S214 (sub_skip (sub_skip sub_all)) sub_all (lasting_s (lenL (c.x2 - p) c.h2) (lenU (c.x2 - p) c.h2) c.v2 _ (by omega) (by omega) (by omega) (by omega) (by omega)) Try.call93 rfl rfl (by kernel_rfl) (by kernel_rfl) (by kernel_rfl) rfl (fun ac wc A217 S218 => ?_)
            have T220 := S218.sub (sub_skip (sub_skip sub_all)) sub_all
            refine r_1 (i := 22) (by kernel_rfl) ?_
            refine rs_store (g := g215) (off := 0) (v := .agg #[.int .i64 (tLo (lenL (p - c.x1) c.h1) c.v1), .int .i64 (tHi (lenU (p - c.x1) c.h1) c.v1)]) 0 (#[.int .i64 (tLo (lenL (p - c.x1) c.h1) c.v1), .int .i64 (tHi (lenU (p - c.x1) c.h1) c.v1)]) A217 S218 (sub_skip (sub_skip sub_all)) sub_all (by kernel_rfl) (by kernel_rfl) rfl (by kernel_rfl) rfl rfl (fun wc S224 => ?_)
            have T226 := S224.sub (sub_skip (sub_skip sub_all)) sub_all
            refine r_1 (i := 23) (by kernel_rfl) ?_
            refine rs_store (g := g179) (off := 0) (v := .agg #[.int .i64 (tLo (lenL (c.x2 - p) c.h2) c.v2), .int .i64 (tHi (lenU (c.x2 - p) c.h2) c.v2)]) 1 (#[.int .i64 (tLo (lenL (c.x2 - p) c.h2) c.v2), .int .i64 (tHi (lenU (c.x2 - p) c.h2) c.v2)]) A217 S224 (sub_skip (sub_skip sub_all)) sub_all (by kernel_rfl) (by kernel_rfl) rfl (by kernel_rfl) rfl rfl (fun wc S228 => ?_)
            have T230 := S228.sub (sub_skip (sub_skip sub_all)) sub_all
            refine r_done (by kernel_rfl) ?_
            refine n_then ?_
            refine wp_seq ?_
            refine wp_region_lit ?_
            refine s_one (.pointer (some ⟨g215, 0, none⟩)) A217 S228 (g_field (u := .pointer (some ⟨g215, 0, none⟩)) (by kernel_rfl) (fun _ => by kernel_rfl)) rfl (fun ac A231 => ?_)
            refine s_one (.int .i64 (tLo (lenL (p - c.x1) c.h1) c.v1)) A231 S228 (g_load (g := g215) (off := 0) 0 (by kernel_rfl) rfl (by kernel_rfl)) rfl (fun ac A232 => ?_)
            refine s_one (.pointer (some ⟨g179, 0, none⟩)) A232 S228 (g_field (u := .pointer (some ⟨g179, 0, none⟩)) (by kernel_rfl) (fun _ => by kernel_rfl)) rfl (fun ac A233 => ?_)
            refine s_one (.int .i64 (tLo (lenL (c.x2 - p) c.h2) c.v2)) A233 S228 (g_load (g := g179) (off := 0) 1 (by kernel_rfl) rfl (by kernel_rfl)) rfl (fun ac A234 => ?_)
            refine s_one (.int .i64 (tLo (lenL (p - c.x1) c.h1) c.v1 + (tLo (lenL (c.x2 - p) c.h2) c.v2))) A234 S228 (g_bin (u := .int .i64 (tLo (lenL (p - c.x1) c.h1) c.v1)) (k := .int .i64 (tLo (lenL (c.x2 - p) c.h2) c.v2)) (by kernel_rfl) (by kernel_rfl) (fun _ => by kernel_rfl) (b_add (by omega))) rfl (fun ac A235 => ?_)
            refine s_one (.pointer (some ⟨g215, 1, none⟩)) A235 S228 (g_field (u := .pointer (some ⟨g215, 0, none⟩)) (by kernel_rfl) (fun _ => by kernel_rfl)) rfl (fun ac A236 => ?_)
            refine s_one (.int .i64 (tHi (lenU (p - c.x1) c.h1) c.v1)) A236 S228 (g_load (g := g215) (off := 1) 0 (by kernel_rfl) rfl (by kernel_rfl)) rfl (fun ac A237 => ?_)
            refine s_one (.pointer (some ⟨g179, 1, none⟩)) A237 S228 (g_field (u := .pointer (some ⟨g179, 0, none⟩)) (by kernel_rfl) (fun _ => by kernel_rfl)) rfl (fun ac A238 => ?_)
            refine s_one (.int .i64 (tHi (lenU (c.x2 - p) c.h2) c.v2)) A238 S228 (g_load (g := g179) (off := 1) 1 (by kernel_rfl) rfl (by kernel_rfl)) rfl (fun ac A239 => ?_)
            refine s_one (.int .i64 (tHi (lenU (p - c.x1) c.h1) c.v1 + (tHi (lenU (c.x2 - p) c.h2) c.v2))) A239 S228 (g_bin (u := .int .i64 (tHi (lenU (p - c.x1) c.h1) c.v1)) (k := .int .i64 (tHi (lenU (c.x2 - p) c.h2) c.v2)) (by kernel_rfl) (by kernel_rfl) (fun _ => by kernel_rfl) (b_add (by omega))) rfl (fun ac A240 => ?_)
            refine s_one (.agg #[.int .i64 (tLo (lenL (p - c.x1) c.h1) c.v1 + (tLo (lenL (c.x2 - p) c.h2) c.v2)), .int .i64 (tHi (lenU (p - c.x1) c.h1) c.v1 + (tHi (lenU (c.x2 - p) c.h2) c.v2))]) A240 S228 (g_build (r := [(0, .int .i64 (tLo (lenL (p - c.x1) c.h1) c.v1 + (tLo (lenL (c.x2 - p) c.h2) c.v2))), (1, .int .i64 (tHi (lenU (p - c.x1) c.h1) c.v1 + (tHi (lenU (c.x2 - p) c.h2) c.v2)))]) (by kernel_rfl) (fun _ => by kernel_rfl)) rfl (fun ac A241 => ?_)
            refine s_store (g := g7) (off := 0) (v := .agg #[.int .i64 (tLo (lenL (p - c.x1) c.h1) c.v1 + (tLo (lenL (c.x2 - p) c.h2) c.v2)), .int .i64 (tHi (lenU (p - c.x1) c.h1) c.v1 + (tHi (lenU (c.x2 - p) c.h2) c.v2))]) 2 (#[.int .i64 (tLo (lenL (p - c.x1) c.h1) c.v1 + (tLo (lenL (c.x2 - p) c.h2) c.v2)), .int .i64 (tHi (lenU (p - c.x1) c.h1) c.v1 + (tHi (lenU (c.x2 - p) c.h2) c.v2))]) A241 S228 (by kernel_rfl) (by kernel_rfl) rfl (by kernel_rfl) (fun wc S243 => ?_)
            refine wpList_nil ?_
            refine n_then ?_
            refine wp_ret ?_
            refine fin1 (.agg #[.int .i64 (tLo (lenL (p - c.x1) c.h1) c.v1 + (tLo (lenL (c.x2 - p) c.h2) c.v2)), .int .i64 (tHi (lenU (p - c.x1) c.h1) c.v1 + (tHi (lenU (c.x2 - p) c.h2) c.v2))]) Try.results62 A241 S243 (rv_cell (g := g7) (off := 0) 2 (by kernel_rfl) rfl (by kernel_rfl)) ⟨?_, S243.kp⟩
            rfl
      · refine rs_alloc (#[.int .i64 0, .int .i64 0]) A32 S33 sub_all sub_all (by kernel_rfl) rfl rfl rfl (fun g247 ac wc A245 S246 => ?_)
        have T248 := S246.sub (sub_skip sub_all) sub_all
        refine r_2 (i := 16) (j := 21) (by kernel_rfl) ?_ ?_
        · have q253 := len_bd (x := c.x2 - p) (z := c.h2) (by omega) (by omega)
          refine rs_call (fs := #[]) (cp := #[]) (r := [(0, .int .i64 (c.x2 - p)), (0, .int .i64 c.h2)]) #[.int .i64 (c.x2 - p), .int .i64 c.h2] (.agg #[.int .i64 (lenL (c.x2 - p) c.h2), .int .i64 (lenU (c.x2 - p) c.h2)]) A245 S246 (sub_skip sub_all) sub_all (lengthOf_s (c.x2 - p) c.h2 _ (by omega) (by omega) (by omega) (by omega)) Try.call92 rfl rfl (by kernel_rfl) (by kernel_rfl) (by kernel_rfl) rfl (fun ac wc A249 S250 => ?_)
          have T252 := S250.sub (sub_skip sub_all) sub_all
          refine r_2 (i := 19) (j := 21) (by kernel_rfl) ?_ ?_
          · have q258 := t_bd (l := (lenL (c.x2 - p) c.h2)) (v := c.v2) (by omega) (by omega) (by omega)
            have q259 := tH_bd (l := (lenU (c.x2 - p) c.h2)) (v := c.v2) (by omega) (by omega) (by omega)
            refine rs_call (fs := #[]) (cp := #[]) (r := [(0, .agg #[.int .i64 (lenL (c.x2 - p) c.h2), .int .i64 (lenU (c.x2 - p) c.h2)]), (0, .int .i64 c.v2)]) #[.agg #[.int .i64 (lenL (c.x2 - p) c.h2), .int .i64 (lenU (c.x2 - p) c.h2)], .int .i64 c.v2] (.agg #[.int .i64 (tLo (lenL (c.x2 - p) c.h2) c.v2), .int .i64 (tHi (lenU (c.x2 - p) c.h2) c.v2)]) A249 S250 (sub_skip sub_all) sub_all (lasting_s (lenL (c.x2 - p) c.h2) (lenU (c.x2 - p) c.h2) c.v2 _ (by omega) (by omega) (by omega) (by omega) (by omega)) Try.call93 rfl rfl (by kernel_rfl) (by kernel_rfl) (by kernel_rfl) rfl (fun ac wc A254 S255 => ?_)
            have T257 := S255.sub (sub_skip sub_all) sub_all
            refine r_1 (i := 21) (by kernel_rfl) ?_
            refine rs_alloc (#[.int .i64 0, .int .i64 0]) A254 S255 (sub_skip sub_all) sub_all (by kernel_rfl) rfl rfl rfl (fun g262 ac wc A260 S261 => ?_)
            have T263 := S261.sub (sub_skip (sub_skip sub_all)) sub_all
            refine r_1 (i := 22) (by kernel_rfl) ?_
            refine rs_store (g := g247) (off := 0) (v := .agg #[.int .i64 (tLo (lenL (p - c.x1) c.h1) c.v1), .int .i64 (tHi (lenU (p - c.x1) c.h1) c.v1)]) 1 (#[.int .i64 (tLo (lenL (p - c.x1) c.h1) c.v1), .int .i64 (tHi (lenU (p - c.x1) c.h1) c.v1)]) A260 S261 (sub_skip (sub_skip sub_all)) sub_all (by kernel_rfl) (by kernel_rfl) rfl (by kernel_rfl) rfl rfl (fun wc S265 => ?_)
            have T267 := S265.sub (sub_skip (sub_skip sub_all)) sub_all
            refine r_1 (i := 23) (by kernel_rfl) ?_
            refine rs_store (g := g262) (off := 0) (v := .agg #[.int .i64 (tLo (lenL (c.x2 - p) c.h2) c.v2), .int .i64 (tHi (lenU (c.x2 - p) c.h2) c.v2)]) 0 (#[.int .i64 (tLo (lenL (c.x2 - p) c.h2) c.v2), .int .i64 (tHi (lenU (c.x2 - p) c.h2) c.v2)]) A260 S265 (sub_skip (sub_skip sub_all)) sub_all (by kernel_rfl) (by kernel_rfl) rfl (by kernel_rfl) rfl rfl (fun wc S269 => ?_)
            have T271 := S269.sub (sub_skip (sub_skip sub_all)) sub_all
            refine r_done (by kernel_rfl) ?_
            refine n_then ?_
            refine wp_seq ?_
            refine wp_region_lit ?_
            refine s_one (.pointer (some ⟨g247, 0, none⟩)) A260 S269 (g_field (u := .pointer (some ⟨g247, 0, none⟩)) (by kernel_rfl) (fun _ => by kernel_rfl)) rfl (fun ac A272 => ?_)
            refine s_one (.int .i64 (tLo (lenL (p - c.x1) c.h1) c.v1)) A272 S269 (g_load (g := g247) (off := 0) 1 (by kernel_rfl) rfl (by kernel_rfl)) rfl (fun ac A273 => ?_)
            refine s_one (.pointer (some ⟨g262, 0, none⟩)) A273 S269 (g_field (u := .pointer (some ⟨g262, 0, none⟩)) (by kernel_rfl) (fun _ => by kernel_rfl)) rfl (fun ac A274 => ?_)
            refine s_one (.int .i64 (tLo (lenL (c.x2 - p) c.h2) c.v2)) A274 S269 (g_load (g := g262) (off := 0) 0 (by kernel_rfl) rfl (by kernel_rfl)) rfl (fun ac A275 => ?_)
            refine s_one (.int .i64 (tLo (lenL (p - c.x1) c.h1) c.v1 + (tLo (lenL (c.x2 - p) c.h2) c.v2))) A275 S269 (g_bin (u := .int .i64 (tLo (lenL (p - c.x1) c.h1) c.v1)) (k := .int .i64 (tLo (lenL (c.x2 - p) c.h2) c.v2)) (by kernel_rfl) (by kernel_rfl) (fun _ => by kernel_rfl) (b_add (by omega))) rfl (fun ac A276 => ?_)
            refine s_one (.pointer (some ⟨g247, 1, none⟩)) A276 S269 (g_field (u := .pointer (some ⟨g247, 0, none⟩)) (by kernel_rfl) (fun _ => by kernel_rfl)) rfl (fun ac A277 => ?_)
            refine s_one (.int .i64 (tHi (lenU (p - c.x1) c.h1) c.v1)) A277 S269 (g_load (g := g247) (off := 1) 1 (by kernel_rfl) rfl (by kernel_rfl)) rfl (fun ac A278 => ?_)
            refine s_one (.pointer (some ⟨g262, 1, none⟩)) A278 S269 (g_field (u := .pointer (some ⟨g262, 0, none⟩)) (by kernel_rfl) (fun _ => by kernel_rfl)) rfl (fun ac A279 => ?_)
            refine s_one (.int .i64 (tHi (lenU (c.x2 - p) c.h2) c.v2)) A279 S269 (g_load (g := g262) (off := 1) 0 (by kernel_rfl) rfl (by kernel_rfl)) rfl (fun ac A280 => ?_)
            refine s_one (.int .i64 (tHi (lenU (p - c.x1) c.h1) c.v1 + (tHi (lenU (c.x2 - p) c.h2) c.v2))) A280 S269 (g_bin (u := .int .i64 (tHi (lenU (p - c.x1) c.h1) c.v1)) (k := .int .i64 (tHi (lenU (c.x2 - p) c.h2) c.v2)) (by kernel_rfl) (by kernel_rfl) (fun _ => by kernel_rfl) (b_add (by omega))) rfl (fun ac A281 => ?_)
            refine s_one (.agg #[.int .i64 (tLo (lenL (p - c.x1) c.h1) c.v1 + (tLo (lenL (c.x2 - p) c.h2) c.v2)), .int .i64 (tHi (lenU (p - c.x1) c.h1) c.v1 + (tHi (lenU (c.x2 - p) c.h2) c.v2))]) A281 S269 (g_build (r := [(0, .int .i64 (tLo (lenL (p - c.x1) c.h1) c.v1 + (tLo (lenL (c.x2 - p) c.h2) c.v2))), (1, .int .i64 (tHi (lenU (p - c.x1) c.h1) c.v1 + (tHi (lenU (c.x2 - p) c.h2) c.v2)))]) (by kernel_rfl) (fun _ => by kernel_rfl)) rfl (fun ac A282 => ?_)
            refine s_store (g := g7) (off := 0) (v := .agg #[.int .i64 (tLo (lenL (p - c.x1) c.h1) c.v1 + (tLo (lenL (c.x2 - p) c.h2) c.v2)), .int .i64 (tHi (lenU (p - c.x1) c.h1) c.v1 + (tHi (lenU (c.x2 - p) c.h2) c.v2))]) 2 (#[.int .i64 (tLo (lenL (p - c.x1) c.h1) c.v1 + (tLo (lenL (c.x2 - p) c.h2) c.v2)), .int .i64 (tHi (lenU (p - c.x1) c.h1) c.v1 + (tHi (lenU (c.x2 - p) c.h2) c.v2))]) A282 S269 (by kernel_rfl) (by kernel_rfl) rfl (by kernel_rfl) (fun wc S284 => ?_)
            refine wpList_nil ?_
            refine n_then ?_
            refine wp_ret ?_
            refine fin1 (.agg #[.int .i64 (tLo (lenL (p - c.x1) c.h1) c.v1 + (tLo (lenL (c.x2 - p) c.h2) c.v2)), .int .i64 (tHi (lenU (p - c.x1) c.h1) c.v1 + (tHi (lenU (c.x2 - p) c.h2) c.v2))]) Try.results62 A282 S284 (rv_cell (g := g7) (off := 0) 2 (by kernel_rfl) rfl (by kernel_rfl)) ⟨?_, S284.kp⟩
            rfl
          · refine rs_alloc (#[.int .i64 0, .int .i64 0]) A249 S250 (sub_skip sub_all) sub_all (by kernel_rfl) rfl rfl rfl (fun g288 ac wc A286 S287 => ?_)
            have T289 := S287.sub (sub_skip (sub_skip sub_all)) sub_all
            refine r_1 (i := 19) (by kernel_rfl) ?_
            have q294 := t_bd (l := (lenL (c.x2 - p) c.h2)) (v := c.v2) (by omega) (by omega) (by omega)
            have q295 := tH_bd (l := (lenU (c.x2 - p) c.h2)) (v := c.v2) (by omega) (by omega) (by omega)
            refine rs_call (fs := #[]) (cp := #[]) (r := [(0, .agg #[.int .i64 (lenL (c.x2 - p) c.h2), .int .i64 (lenU (c.x2 - p) c.h2)]), (0, .int .i64 c.v2)]) #[.agg #[.int .i64 (lenL (c.x2 - p) c.h2), .int .i64 (lenU (c.x2 - p) c.h2)], .int .i64 c.v2] (.agg #[.int .i64 (tLo (lenL (c.x2 - p) c.h2) c.v2), .int .i64 (tHi (lenU (c.x2 - p) c.h2) c.v2)]) A286 S287 (sub_skip (sub_skip sub_all)) sub_all (lasting_s (lenL (c.x2 - p) c.h2) (lenU (c.x2 - p) c.h2) c.v2 _ (by omega) (by omega) (by omega) (by omega) (by omega)) Try.call93 rfl rfl (by kernel_rfl) (by kernel_rfl) (by kernel_rfl) rfl (fun ac wc A290 S291 => ?_)
            have T293 := S291.sub (sub_skip (sub_skip sub_all)) sub_all
            refine r_1 (i := 22) (by kernel_rfl) ?_
            refine rs_store (g := g247) (off := 0) (v := .agg #[.int .i64 (tLo (lenL (p - c.x1) c.h1) c.v1), .int .i64 (tHi (lenU (p - c.x1) c.h1) c.v1)]) 1 (#[.int .i64 (tLo (lenL (p - c.x1) c.h1) c.v1), .int .i64 (tHi (lenU (p - c.x1) c.h1) c.v1)]) A290 S291 (sub_skip (sub_skip sub_all)) sub_all (by kernel_rfl) (by kernel_rfl) rfl (by kernel_rfl) rfl rfl (fun wc S297 => ?_)
            have T299 := S297.sub (sub_skip (sub_skip sub_all)) sub_all
            refine r_1 (i := 23) (by kernel_rfl) ?_
            refine rs_store (g := g288) (off := 0) (v := .agg #[.int .i64 (tLo (lenL (c.x2 - p) c.h2) c.v2), .int .i64 (tHi (lenU (c.x2 - p) c.h2) c.v2)]) 0 (#[.int .i64 (tLo (lenL (c.x2 - p) c.h2) c.v2), .int .i64 (tHi (lenU (c.x2 - p) c.h2) c.v2)]) A290 S297 (sub_skip (sub_skip sub_all)) sub_all (by kernel_rfl) (by kernel_rfl) rfl (by kernel_rfl) rfl rfl (fun wc S301 => ?_)
            have T303 := S301.sub (sub_skip (sub_skip sub_all)) sub_all
            refine r_done (by kernel_rfl) ?_
            refine n_then ?_
            refine wp_seq ?_
            refine wp_region_lit ?_
            refine s_one (.pointer (some ⟨g247, 0, none⟩)) A290 S301 (g_field (u := .pointer (some ⟨g247, 0, none⟩)) (by kernel_rfl) (fun _ => by kernel_rfl)) rfl (fun ac A304 => ?_)
            refine s_one (.int .i64 (tLo (lenL (p - c.x1) c.h1) c.v1)) A304 S301 (g_load (g := g247) (off := 0) 1 (by kernel_rfl) rfl (by kernel_rfl)) rfl (fun ac A305 => ?_)
            refine s_one (.pointer (some ⟨g288, 0, none⟩)) A305 S301 (g_field (u := .pointer (some ⟨g288, 0, none⟩)) (by kernel_rfl) (fun _ => by kernel_rfl)) rfl (fun ac A306 => ?_)
            refine s_one (.int .i64 (tLo (lenL (c.x2 - p) c.h2) c.v2)) A306 S301 (g_load (g := g288) (off := 0) 0 (by kernel_rfl) rfl (by kernel_rfl)) rfl (fun ac A307 => ?_)
            refine s_one (.int .i64 (tLo (lenL (p - c.x1) c.h1) c.v1 + (tLo (lenL (c.x2 - p) c.h2) c.v2))) A307 S301 (g_bin (u := .int .i64 (tLo (lenL (p - c.x1) c.h1) c.v1)) (k := .int .i64 (tLo (lenL (c.x2 - p) c.h2) c.v2)) (by kernel_rfl) (by kernel_rfl) (fun _ => by kernel_rfl) (b_add (by omega))) rfl (fun ac A308 => ?_)
            refine s_one (.pointer (some ⟨g247, 1, none⟩)) A308 S301 (g_field (u := .pointer (some ⟨g247, 0, none⟩)) (by kernel_rfl) (fun _ => by kernel_rfl)) rfl (fun ac A309 => ?_)
            refine s_one (.int .i64 (tHi (lenU (p - c.x1) c.h1) c.v1)) A309 S301 (g_load (g := g247) (off := 1) 1 (by kernel_rfl) rfl (by kernel_rfl)) rfl (fun ac A310 => ?_)
            refine s_one (.pointer (some ⟨g288, 1, none⟩)) A310 S301 (g_field (u := .pointer (some ⟨g288, 0, none⟩)) (by kernel_rfl) (fun _ => by kernel_rfl)) rfl (fun ac A311 => ?_)
            refine s_one (.int .i64 (tHi (lenU (c.x2 - p) c.h2) c.v2)) A311 S301 (g_load (g := g288) (off := 1) 0 (by kernel_rfl) rfl (by kernel_rfl)) rfl (fun ac A312 => ?_)
            refine s_one (.int .i64 (tHi (lenU (p - c.x1) c.h1) c.v1 + (tHi (lenU (c.x2 - p) c.h2) c.v2))) A312 S301 (g_bin (u := .int .i64 (tHi (lenU (p - c.x1) c.h1) c.v1)) (k := .int .i64 (tHi (lenU (c.x2 - p) c.h2) c.v2)) (by kernel_rfl) (by kernel_rfl) (fun _ => by kernel_rfl) (b_add (by omega))) rfl (fun ac A313 => ?_)
            refine s_one (.agg #[.int .i64 (tLo (lenL (p - c.x1) c.h1) c.v1 + (tLo (lenL (c.x2 - p) c.h2) c.v2)), .int .i64 (tHi (lenU (p - c.x1) c.h1) c.v1 + (tHi (lenU (c.x2 - p) c.h2) c.v2))]) A313 S301 (g_build (r := [(0, .int .i64 (tLo (lenL (p - c.x1) c.h1) c.v1 + (tLo (lenL (c.x2 - p) c.h2) c.v2))), (1, .int .i64 (tHi (lenU (p - c.x1) c.h1) c.v1 + (tHi (lenU (c.x2 - p) c.h2) c.v2)))]) (by kernel_rfl) (fun _ => by kernel_rfl)) rfl (fun ac A314 => ?_)
            refine s_store (g := g7) (off := 0) (v := .agg #[.int .i64 (tLo (lenL (p - c.x1) c.h1) c.v1 + (tLo (lenL (c.x2 - p) c.h2) c.v2)), .int .i64 (tHi (lenU (p - c.x1) c.h1) c.v1 + (tHi (lenU (c.x2 - p) c.h2) c.v2))]) 2 (#[.int .i64 (tLo (lenL (p - c.x1) c.h1) c.v1 + (tLo (lenL (c.x2 - p) c.h2) c.v2)), .int .i64 (tHi (lenU (p - c.x1) c.h1) c.v1 + (tHi (lenU (c.x2 - p) c.h2) c.v2))]) A314 S301 (by kernel_rfl) (by kernel_rfl) rfl (by kernel_rfl) (fun wc S316 => ?_)
            refine wpList_nil ?_
            refine n_then ?_
            refine wp_ret ?_
            refine fin1 (.agg #[.int .i64 (tLo (lenL (p - c.x1) c.h1) c.v1 + (tLo (lenL (c.x2 - p) c.h2) c.v2)), .int .i64 (tHi (lenU (p - c.x1) c.h1) c.v1 + (tHi (lenU (c.x2 - p) c.h2) c.v2))]) Try.results62 A314 S316 (rv_cell (g := g7) (off := 0) 2 (by kernel_rfl) rfl (by kernel_rfl)) ⟨?_, S316.kp⟩
            rfl
        · refine rs_alloc (#[.int .i64 0, .int .i64 0]) A245 S246 (sub_skip sub_all) sub_all (by kernel_rfl) rfl rfl rfl (fun g320 ac wc A318 S319 => ?_)
          have T321 := S319.sub (sub_skip (sub_skip sub_all)) sub_all
          refine r_1 (i := 16) (by kernel_rfl) ?_
          have q326 := len_bd (x := c.x2 - p) (z := c.h2) (by omega) (by omega)
          refine rs_call (fs := #[]) (cp := #[]) (r := [(0, .int .i64 (c.x2 - p)), (0, .int .i64 c.h2)]) #[.int .i64 (c.x2 - p), .int .i64 c.h2] (.agg #[.int .i64 (lenL (c.x2 - p) c.h2), .int .i64 (lenU (c.x2 - p) c.h2)]) A318 S319 (sub_skip (sub_skip sub_all)) sub_all (lengthOf_s (c.x2 - p) c.h2 _ (by omega) (by omega) (by omega) (by omega)) Try.call92 rfl rfl (by kernel_rfl) (by kernel_rfl) (by kernel_rfl) rfl (fun ac wc A322 S323 => ?_)
          have T325 := S323.sub (sub_skip (sub_skip sub_all)) sub_all
          refine r_1 (i := 19) (by kernel_rfl) ?_
          have q331 := t_bd (l := (lenL (c.x2 - p) c.h2)) (v := c.v2) (by omega) (by omega) (by omega)
          have q332 := tH_bd (l := (lenU (c.x2 - p) c.h2)) (v := c.v2) (by omega) (by omega) (by omega)
          refine rs_call (fs := #[]) (cp := #[]) (r := [(0, .agg #[.int .i64 (lenL (c.x2 - p) c.h2), .int .i64 (lenU (c.x2 - p) c.h2)]), (0, .int .i64 c.v2)]) #[.agg #[.int .i64 (lenL (c.x2 - p) c.h2), .int .i64 (lenU (c.x2 - p) c.h2)], .int .i64 c.v2] (.agg #[.int .i64 (tLo (lenL (c.x2 - p) c.h2) c.v2), .int .i64 (tHi (lenU (c.x2 - p) c.h2) c.v2)]) A322 S323 (sub_skip (sub_skip sub_all)) sub_all (lasting_s (lenL (c.x2 - p) c.h2) (lenU (c.x2 - p) c.h2) c.v2 _ (by omega) (by omega) (by omega) (by omega) (by omega)) Try.call93 rfl rfl (by kernel_rfl) (by kernel_rfl) (by kernel_rfl) rfl (fun ac wc A327 S328 => ?_)
          have T330 := S328.sub (sub_skip (sub_skip sub_all)) sub_all
          refine r_1 (i := 22) (by kernel_rfl) ?_
          refine rs_store (g := g247) (off := 0) (v := .agg #[.int .i64 (tLo (lenL (p - c.x1) c.h1) c.v1), .int .i64 (tHi (lenU (p - c.x1) c.h1) c.v1)]) 1 (#[.int .i64 (tLo (lenL (p - c.x1) c.h1) c.v1), .int .i64 (tHi (lenU (p - c.x1) c.h1) c.v1)]) A327 S328 (sub_skip (sub_skip sub_all)) sub_all (by kernel_rfl) (by kernel_rfl) rfl (by kernel_rfl) rfl rfl (fun wc S334 => ?_)
          have T336 := S334.sub (sub_skip (sub_skip sub_all)) sub_all
          refine r_1 (i := 23) (by kernel_rfl) ?_
          refine rs_store (g := g320) (off := 0) (v := .agg #[.int .i64 (tLo (lenL (c.x2 - p) c.h2) c.v2), .int .i64 (tHi (lenU (c.x2 - p) c.h2) c.v2)]) 0 (#[.int .i64 (tLo (lenL (c.x2 - p) c.h2) c.v2), .int .i64 (tHi (lenU (c.x2 - p) c.h2) c.v2)]) A327 S334 (sub_skip (sub_skip sub_all)) sub_all (by kernel_rfl) (by kernel_rfl) rfl (by kernel_rfl) rfl rfl (fun wc S338 => ?_)
          have T340 := S338.sub (sub_skip (sub_skip sub_all)) sub_all
          refine r_done (by kernel_rfl) ?_
          refine n_then ?_
          refine wp_seq ?_
          refine wp_region_lit ?_
          refine s_one (.pointer (some ⟨g247, 0, none⟩)) A327 S338 (g_field (u := .pointer (some ⟨g247, 0, none⟩)) (by kernel_rfl) (fun _ => by kernel_rfl)) rfl (fun ac A341 => ?_)
          refine s_one (.int .i64 (tLo (lenL (p - c.x1) c.h1) c.v1)) A341 S338 (g_load (g := g247) (off := 0) 1 (by kernel_rfl) rfl (by kernel_rfl)) rfl (fun ac A342 => ?_)
          refine s_one (.pointer (some ⟨g320, 0, none⟩)) A342 S338 (g_field (u := .pointer (some ⟨g320, 0, none⟩)) (by kernel_rfl) (fun _ => by kernel_rfl)) rfl (fun ac A343 => ?_)
          refine s_one (.int .i64 (tLo (lenL (c.x2 - p) c.h2) c.v2)) A343 S338 (g_load (g := g320) (off := 0) 0 (by kernel_rfl) rfl (by kernel_rfl)) rfl (fun ac A344 => ?_)
          refine s_one (.int .i64 (tLo (lenL (p - c.x1) c.h1) c.v1 + (tLo (lenL (c.x2 - p) c.h2) c.v2))) A344 S338 (g_bin (u := .int .i64 (tLo (lenL (p - c.x1) c.h1) c.v1)) (k := .int .i64 (tLo (lenL (c.x2 - p) c.h2) c.v2)) (by kernel_rfl) (by kernel_rfl) (fun _ => by kernel_rfl) (b_add (by omega))) rfl (fun ac A345 => ?_)
          refine s_one (.pointer (some ⟨g247, 1, none⟩)) A345 S338 (g_field (u := .pointer (some ⟨g247, 0, none⟩)) (by kernel_rfl) (fun _ => by kernel_rfl)) rfl (fun ac A346 => ?_)
          refine s_one (.int .i64 (tHi (lenU (p - c.x1) c.h1) c.v1)) A346 S338 (g_load (g := g247) (off := 1) 1 (by kernel_rfl) rfl (by kernel_rfl)) rfl (fun ac A347 => ?_)
          refine s_one (.pointer (some ⟨g320, 1, none⟩)) A347 S338 (g_field (u := .pointer (some ⟨g320, 0, none⟩)) (by kernel_rfl) (fun _ => by kernel_rfl)) rfl (fun ac A348 => ?_)
          refine s_one (.int .i64 (tHi (lenU (c.x2 - p) c.h2) c.v2)) A348 S338 (g_load (g := g320) (off := 1) 0 (by kernel_rfl) rfl (by kernel_rfl)) rfl (fun ac A349 => ?_)
          refine s_one (.int .i64 (tHi (lenU (p - c.x1) c.h1) c.v1 + (tHi (lenU (c.x2 - p) c.h2) c.v2))) A349 S338 (g_bin (u := .int .i64 (tHi (lenU (p - c.x1) c.h1) c.v1)) (k := .int .i64 (tHi (lenU (c.x2 - p) c.h2) c.v2)) (by kernel_rfl) (by kernel_rfl) (fun _ => by kernel_rfl) (b_add (by omega))) rfl (fun ac A350 => ?_)
          refine s_one (.agg #[.int .i64 (tLo (lenL (p - c.x1) c.h1) c.v1 + (tLo (lenL (c.x2 - p) c.h2) c.v2)), .int .i64 (tHi (lenU (p - c.x1) c.h1) c.v1 + (tHi (lenU (c.x2 - p) c.h2) c.v2))]) A350 S338 (g_build (r := [(0, .int .i64 (tLo (lenL (p - c.x1) c.h1) c.v1 + (tLo (lenL (c.x2 - p) c.h2) c.v2))), (1, .int .i64 (tHi (lenU (p - c.x1) c.h1) c.v1 + (tHi (lenU (c.x2 - p) c.h2) c.v2)))]) (by kernel_rfl) (fun _ => by kernel_rfl)) rfl (fun ac A351 => ?_)
          refine s_store (g := g7) (off := 0) (v := .agg #[.int .i64 (tLo (lenL (p - c.x1) c.h1) c.v1 + (tLo (lenL (c.x2 - p) c.h2) c.v2)), .int .i64 (tHi (lenU (p - c.x1) c.h1) c.v1 + (tHi (lenU (c.x2 - p) c.h2) c.v2))]) 2 (#[.int .i64 (tLo (lenL (p - c.x1) c.h1) c.v1 + (tLo (lenL (c.x2 - p) c.h2) c.v2)), .int .i64 (tHi (lenU (p - c.x1) c.h1) c.v1 + (tHi (lenU (c.x2 - p) c.h2) c.v2))]) A351 S338 (by kernel_rfl) (by kernel_rfl) rfl (by kernel_rfl) (fun wc S353 => ?_)
          refine wpList_nil ?_
          refine n_then ?_
          refine wp_ret ?_
          refine fin1 (.agg #[.int .i64 (tLo (lenL (p - c.x1) c.h1) c.v1 + (tLo (lenL (c.x2 - p) c.h2) c.v2)), .int .i64 (tHi (lenU (p - c.x1) c.h1) c.v1 + (tHi (lenU (c.x2 - p) c.h2) c.v2))]) Try.results62 A351 S353 (rv_cell (g := g7) (off := 0) 2 (by kernel_rfl) rfl (by kernel_rfl)) ⟨?_, S353.kp⟩
          rfl
      · refine rs_alloc (#[.int .i64 0, .int .i64 0]) A32 S33 sub_all sub_all (by kernel_rfl) rfl rfl rfl (fun g357 ac wc A355 S356 => ?_)
        have T358 := S356.sub (sub_skip sub_all) sub_all
        refine r_2 (i := 16) (j := 20) (by kernel_rfl) ?_ ?_
        · have q363 := len_bd (x := c.x2 - p) (z := c.h2) (by omega) (by omega)
          refine rs_call (fs := #[]) (cp := #[]) (r := [(0, .int .i64 (c.x2 - p)), (0, .int .i64 c.h2)]) #[.int .i64 (c.x2 - p), .int .i64 c.h2] (.agg #[.int .i64 (lenL (c.x2 - p) c.h2), .int .i64 (lenU (c.x2 - p) c.h2)]) A355 S356 (sub_skip sub_all) sub_all (lengthOf_s (c.x2 - p) c.h2 _ (by omega) (by omega) (by omega) (by omega)) Try.call92 rfl rfl (by kernel_rfl) (by kernel_rfl) (by kernel_rfl) rfl (fun ac wc A359 S360 => ?_)
          have T362 := S360.sub (sub_skip sub_all) sub_all
          refine r_2 (i := 19) (j := 20) (by kernel_rfl) ?_ ?_
          · have q368 := t_bd (l := (lenL (c.x2 - p) c.h2)) (v := c.v2) (by omega) (by omega) (by omega)
            have q369 := tH_bd (l := (lenU (c.x2 - p) c.h2)) (v := c.v2) (by omega) (by omega) (by omega)
            refine rs_call (fs := #[]) (cp := #[]) (r := [(0, .agg #[.int .i64 (lenL (c.x2 - p) c.h2), .int .i64 (lenU (c.x2 - p) c.h2)]), (0, .int .i64 c.v2)]) #[.agg #[.int .i64 (lenL (c.x2 - p) c.h2), .int .i64 (lenU (c.x2 - p) c.h2)], .int .i64 c.v2] (.agg #[.int .i64 (tLo (lenL (c.x2 - p) c.h2) c.v2), .int .i64 (tHi (lenU (c.x2 - p) c.h2) c.v2)]) A359 S360 (sub_skip sub_all) sub_all (lasting_s (lenL (c.x2 - p) c.h2) (lenU (c.x2 - p) c.h2) c.v2 _ (by omega) (by omega) (by omega) (by omega) (by omega)) Try.call93 rfl rfl (by kernel_rfl) (by kernel_rfl) (by kernel_rfl) rfl (fun ac wc A364 S365 => ?_)
            have T367 := S365.sub (sub_skip sub_all) sub_all
            refine r_1 (i := 20) (by kernel_rfl) ?_
            refine rs_alloc (#[.int .i64 0, .int .i64 0]) A364 S365 (sub_skip sub_all) sub_all (by kernel_rfl) rfl rfl rfl (fun g372 ac wc A370 S371 => ?_)
            have T373 := S371.sub (sub_skip (sub_skip sub_all)) sub_all
            refine r_1 (i := 22) (by kernel_rfl) ?_
            refine rs_store (g := g372) (off := 0) (v := .agg #[.int .i64 (tLo (lenL (p - c.x1) c.h1) c.v1), .int .i64 (tHi (lenU (p - c.x1) c.h1) c.v1)]) 0 (#[.int .i64 (tLo (lenL (p - c.x1) c.h1) c.v1), .int .i64 (tHi (lenU (p - c.x1) c.h1) c.v1)]) A370 S371 (sub_skip (sub_skip sub_all)) sub_all (by kernel_rfl) (by kernel_rfl) rfl (by kernel_rfl) rfl rfl (fun wc S375 => ?_)
            have T377 := S375.sub (sub_skip (sub_skip sub_all)) sub_all
            refine r_1 (i := 23) (by kernel_rfl) ?_
            refine rs_store (g := g357) (off := 0) (v := .agg #[.int .i64 (tLo (lenL (c.x2 - p) c.h2) c.v2), .int .i64 (tHi (lenU (c.x2 - p) c.h2) c.v2)]) 1 (#[.int .i64 (tLo (lenL (c.x2 - p) c.h2) c.v2), .int .i64 (tHi (lenU (c.x2 - p) c.h2) c.v2)]) A370 S375 (sub_skip (sub_skip sub_all)) sub_all (by kernel_rfl) (by kernel_rfl) rfl (by kernel_rfl) rfl rfl (fun wc S379 => ?_)
            have T381 := S379.sub (sub_skip (sub_skip sub_all)) sub_all
            refine r_done (by kernel_rfl) ?_
            refine n_then ?_
            refine wp_seq ?_
            refine wp_region_lit ?_
            refine s_one (.pointer (some ⟨g372, 0, none⟩)) A370 S379 (g_field (u := .pointer (some ⟨g372, 0, none⟩)) (by kernel_rfl) (fun _ => by kernel_rfl)) rfl (fun ac A382 => ?_)
            refine s_one (.int .i64 (tLo (lenL (p - c.x1) c.h1) c.v1)) A382 S379 (g_load (g := g372) (off := 0) 0 (by kernel_rfl) rfl (by kernel_rfl)) rfl (fun ac A383 => ?_)
            refine s_one (.pointer (some ⟨g357, 0, none⟩)) A383 S379 (g_field (u := .pointer (some ⟨g357, 0, none⟩)) (by kernel_rfl) (fun _ => by kernel_rfl)) rfl (fun ac A384 => ?_)
            refine s_one (.int .i64 (tLo (lenL (c.x2 - p) c.h2) c.v2)) A384 S379 (g_load (g := g357) (off := 0) 1 (by kernel_rfl) rfl (by kernel_rfl)) rfl (fun ac A385 => ?_)
            refine s_one (.int .i64 (tLo (lenL (p - c.x1) c.h1) c.v1 + (tLo (lenL (c.x2 - p) c.h2) c.v2))) A385 S379 (g_bin (u := .int .i64 (tLo (lenL (p - c.x1) c.h1) c.v1)) (k := .int .i64 (tLo (lenL (c.x2 - p) c.h2) c.v2)) (by kernel_rfl) (by kernel_rfl) (fun _ => by kernel_rfl) (b_add (by omega))) rfl (fun ac A386 => ?_)
            refine s_one (.pointer (some ⟨g372, 1, none⟩)) A386 S379 (g_field (u := .pointer (some ⟨g372, 0, none⟩)) (by kernel_rfl) (fun _ => by kernel_rfl)) rfl (fun ac A387 => ?_)
            refine s_one (.int .i64 (tHi (lenU (p - c.x1) c.h1) c.v1)) A387 S379 (g_load (g := g372) (off := 1) 0 (by kernel_rfl) rfl (by kernel_rfl)) rfl (fun ac A388 => ?_)
            refine s_one (.pointer (some ⟨g357, 1, none⟩)) A388 S379 (g_field (u := .pointer (some ⟨g357, 0, none⟩)) (by kernel_rfl) (fun _ => by kernel_rfl)) rfl (fun ac A389 => ?_)
            refine s_one (.int .i64 (tHi (lenU (c.x2 - p) c.h2) c.v2)) A389 S379 (g_load (g := g357) (off := 1) 1 (by kernel_rfl) rfl (by kernel_rfl)) rfl (fun ac A390 => ?_)
            refine s_one (.int .i64 (tHi (lenU (p - c.x1) c.h1) c.v1 + (tHi (lenU (c.x2 - p) c.h2) c.v2))) A390 S379 (g_bin (u := .int .i64 (tHi (lenU (p - c.x1) c.h1) c.v1)) (k := .int .i64 (tHi (lenU (c.x2 - p) c.h2) c.v2)) (by kernel_rfl) (by kernel_rfl) (fun _ => by kernel_rfl) (b_add (by omega))) rfl (fun ac A391 => ?_)
            refine s_one (.agg #[.int .i64 (tLo (lenL (p - c.x1) c.h1) c.v1 + (tLo (lenL (c.x2 - p) c.h2) c.v2)), .int .i64 (tHi (lenU (p - c.x1) c.h1) c.v1 + (tHi (lenU (c.x2 - p) c.h2) c.v2))]) A391 S379 (g_build (r := [(0, .int .i64 (tLo (lenL (p - c.x1) c.h1) c.v1 + (tLo (lenL (c.x2 - p) c.h2) c.v2))), (1, .int .i64 (tHi (lenU (p - c.x1) c.h1) c.v1 + (tHi (lenU (c.x2 - p) c.h2) c.v2)))]) (by kernel_rfl) (fun _ => by kernel_rfl)) rfl (fun ac A392 => ?_)
            refine s_store (g := g7) (off := 0) (v := .agg #[.int .i64 (tLo (lenL (p - c.x1) c.h1) c.v1 + (tLo (lenL (c.x2 - p) c.h2) c.v2)), .int .i64 (tHi (lenU (p - c.x1) c.h1) c.v1 + (tHi (lenU (c.x2 - p) c.h2) c.v2))]) 2 (#[.int .i64 (tLo (lenL (p - c.x1) c.h1) c.v1 + (tLo (lenL (c.x2 - p) c.h2) c.v2)), .int .i64 (tHi (lenU (p - c.x1) c.h1) c.v1 + (tHi (lenU (c.x2 - p) c.h2) c.v2))]) A392 S379 (by kernel_rfl) (by kernel_rfl) rfl (by kernel_rfl) (fun wc S394 => ?_)
            refine wpList_nil ?_
            refine n_then ?_
            refine wp_ret ?_
            refine fin1 (.agg #[.int .i64 (tLo (lenL (p - c.x1) c.h1) c.v1 + (tLo (lenL (c.x2 - p) c.h2) c.v2)), .int .i64 (tHi (lenU (p - c.x1) c.h1) c.v1 + (tHi (lenU (c.x2 - p) c.h2) c.v2))]) Try.results62 A392 S394 (rv_cell (g := g7) (off := 0) 2 (by kernel_rfl) rfl (by kernel_rfl)) ⟨?_, S394.kp⟩
            rfl
          · refine rs_alloc (#[.int .i64 0, .int .i64 0]) A359 S360 (sub_skip sub_all) sub_all (by kernel_rfl) rfl rfl rfl (fun g398 ac wc A396 S397 => ?_)
            have T399 := S397.sub (sub_skip (sub_skip sub_all)) sub_all
            refine r_1 (i := 19) (by kernel_rfl) ?_
            have q404 := t_bd (l := (lenL (c.x2 - p) c.h2)) (v := c.v2) (by omega) (by omega) (by omega)
            have q405 := tH_bd (l := (lenU (c.x2 - p) c.h2)) (v := c.v2) (by omega) (by omega) (by omega)
            refine rs_call (fs := #[]) (cp := #[]) (r := [(0, .agg #[.int .i64 (lenL (c.x2 - p) c.h2), .int .i64 (lenU (c.x2 - p) c.h2)]), (0, .int .i64 c.v2)]) #[.agg #[.int .i64 (lenL (c.x2 - p) c.h2), .int .i64 (lenU (c.x2 - p) c.h2)], .int .i64 c.v2] (.agg #[.int .i64 (tLo (lenL (c.x2 - p) c.h2) c.v2), .int .i64 (tHi (lenU (c.x2 - p) c.h2) c.v2)]) A396 S397 (sub_skip (sub_skip sub_all)) sub_all (lasting_s (lenL (c.x2 - p) c.h2) (lenU (c.x2 - p) c.h2) c.v2 _ (by omega) (by omega) (by omega) (by omega) (by omega)) Try.call93 rfl rfl (by kernel_rfl) (by kernel_rfl) (by kernel_rfl) rfl (fun ac wc A400 S401 => ?_)
            have T403 := S401.sub (sub_skip (sub_skip sub_all)) sub_all
            refine r_1 (i := 22) (by kernel_rfl) ?_
            refine rs_store (g := g398) (off := 0) (v := .agg #[.int .i64 (tLo (lenL (p - c.x1) c.h1) c.v1), .int .i64 (tHi (lenU (p - c.x1) c.h1) c.v1)]) 0 (#[.int .i64 (tLo (lenL (p - c.x1) c.h1) c.v1), .int .i64 (tHi (lenU (p - c.x1) c.h1) c.v1)]) A400 S401 (sub_skip (sub_skip sub_all)) sub_all (by kernel_rfl) (by kernel_rfl) rfl (by kernel_rfl) rfl rfl (fun wc S407 => ?_)
            have T409 := S407.sub (sub_skip (sub_skip sub_all)) sub_all
            refine r_1 (i := 23) (by kernel_rfl) ?_
            refine rs_store (g := g357) (off := 0) (v := .agg #[.int .i64 (tLo (lenL (c.x2 - p) c.h2) c.v2), .int .i64 (tHi (lenU (c.x2 - p) c.h2) c.v2)]) 1 (#[.int .i64 (tLo (lenL (c.x2 - p) c.h2) c.v2), .int .i64 (tHi (lenU (c.x2 - p) c.h2) c.v2)]) A400 S407 (sub_skip (sub_skip sub_all)) sub_all (by kernel_rfl) (by kernel_rfl) rfl (by kernel_rfl) rfl rfl (fun wc S411 => ?_)
            have T413 := S411.sub (sub_skip (sub_skip sub_all)) sub_all
            refine r_done (by kernel_rfl) ?_
            refine n_then ?_
            refine wp_seq ?_
            refine wp_region_lit ?_
            refine s_one (.pointer (some ⟨g398, 0, none⟩)) A400 S411 (g_field (u := .pointer (some ⟨g398, 0, none⟩)) (by kernel_rfl) (fun _ => by kernel_rfl)) rfl (fun ac A414 => ?_)
            refine s_one (.int .i64 (tLo (lenL (p - c.x1) c.h1) c.v1)) A414 S411 (g_load (g := g398) (off := 0) 0 (by kernel_rfl) rfl (by kernel_rfl)) rfl (fun ac A415 => ?_)
            refine s_one (.pointer (some ⟨g357, 0, none⟩)) A415 S411 (g_field (u := .pointer (some ⟨g357, 0, none⟩)) (by kernel_rfl) (fun _ => by kernel_rfl)) rfl (fun ac A416 => ?_)
            refine s_one (.int .i64 (tLo (lenL (c.x2 - p) c.h2) c.v2)) A416 S411 (g_load (g := g357) (off := 0) 1 (by kernel_rfl) rfl (by kernel_rfl)) rfl (fun ac A417 => ?_)
            refine s_one (.int .i64 (tLo (lenL (p - c.x1) c.h1) c.v1 + (tLo (lenL (c.x2 - p) c.h2) c.v2))) A417 S411 (g_bin (u := .int .i64 (tLo (lenL (p - c.x1) c.h1) c.v1)) (k := .int .i64 (tLo (lenL (c.x2 - p) c.h2) c.v2)) (by kernel_rfl) (by kernel_rfl) (fun _ => by kernel_rfl) (b_add (by omega))) rfl (fun ac A418 => ?_)
            refine s_one (.pointer (some ⟨g398, 1, none⟩)) A418 S411 (g_field (u := .pointer (some ⟨g398, 0, none⟩)) (by kernel_rfl) (fun _ => by kernel_rfl)) rfl (fun ac A419 => ?_)
            refine s_one (.int .i64 (tHi (lenU (p - c.x1) c.h1) c.v1)) A419 S411 (g_load (g := g398) (off := 1) 0 (by kernel_rfl) rfl (by kernel_rfl)) rfl (fun ac A420 => ?_)
            refine s_one (.pointer (some ⟨g357, 1, none⟩)) A420 S411 (g_field (u := .pointer (some ⟨g357, 0, none⟩)) (by kernel_rfl) (fun _ => by kernel_rfl)) rfl (fun ac A421 => ?_)
            refine s_one (.int .i64 (tHi (lenU (c.x2 - p) c.h2) c.v2)) A421 S411 (g_load (g := g357) (off := 1) 1 (by kernel_rfl) rfl (by kernel_rfl)) rfl (fun ac A422 => ?_)
            refine s_one (.int .i64 (tHi (lenU (p - c.x1) c.h1) c.v1 + (tHi (lenU (c.x2 - p) c.h2) c.v2))) A422 S411 (g_bin (u := .int .i64 (tHi (lenU (p - c.x1) c.h1) c.v1)) (k := .int .i64 (tHi (lenU (c.x2 - p) c.h2) c.v2)) (by kernel_rfl) (by kernel_rfl) (fun _ => by kernel_rfl) (b_add (by omega))) rfl (fun ac A423 => ?_)
            refine s_one (.agg #[.int .i64 (tLo (lenL (p - c.x1) c.h1) c.v1 + (tLo (lenL (c.x2 - p) c.h2) c.v2)), .int .i64 (tHi (lenU (p - c.x1) c.h1) c.v1 + (tHi (lenU (c.x2 - p) c.h2) c.v2))]) A423 S411 (g_build (r := [(0, .int .i64 (tLo (lenL (p - c.x1) c.h1) c.v1 + (tLo (lenL (c.x2 - p) c.h2) c.v2))), (1, .int .i64 (tHi (lenU (p - c.x1) c.h1) c.v1 + (tHi (lenU (c.x2 - p) c.h2) c.v2)))]) (by kernel_rfl) (fun _ => by kernel_rfl)) rfl (fun ac A424 => ?_)
            refine s_store (g := g7) (off := 0) (v := .agg #[.int .i64 (tLo (lenL (p - c.x1) c.h1) c.v1 + (tLo (lenL (c.x2 - p) c.h2) c.v2)), .int .i64 (tHi (lenU (p - c.x1) c.h1) c.v1 + (tHi (lenU (c.x2 - p) c.h2) c.v2))]) 2 (#[.int .i64 (tLo (lenL (p - c.x1) c.h1) c.v1 + (tLo (lenL (c.x2 - p) c.h2) c.v2)), .int .i64 (tHi (lenU (p - c.x1) c.h1) c.v1 + (tHi (lenU (c.x2 - p) c.h2) c.v2))]) A424 S411 (by kernel_rfl) (by kernel_rfl) rfl (by kernel_rfl) (fun wc S426 => ?_)
            refine wpList_nil ?_
            refine n_then ?_
            refine wp_ret ?_
            refine fin1 (.agg #[.int .i64 (tLo (lenL (p - c.x1) c.h1) c.v1 + (tLo (lenL (c.x2 - p) c.h2) c.v2)), .int .i64 (tHi (lenU (p - c.x1) c.h1) c.v1 + (tHi (lenU (c.x2 - p) c.h2) c.v2))]) Try.results62 A424 S426 (rv_cell (g := g7) (off := 0) 2 (by kernel_rfl) rfl (by kernel_rfl)) ⟨?_, S426.kp⟩
            rfl
        · refine rs_alloc (#[.int .i64 0, .int .i64 0]) A355 S356 (sub_skip sub_all) sub_all (by kernel_rfl) rfl rfl rfl (fun g430 ac wc A428 S429 => ?_)
          have T431 := S429.sub (sub_skip (sub_skip sub_all)) sub_all
          refine r_1 (i := 16) (by kernel_rfl) ?_
          have q436 := len_bd (x := c.x2 - p) (z := c.h2) (by omega) (by omega)
          refine rs_call (fs := #[]) (cp := #[]) (r := [(0, .int .i64 (c.x2 - p)), (0, .int .i64 c.h2)]) #[.int .i64 (c.x2 - p), .int .i64 c.h2] (.agg #[.int .i64 (lenL (c.x2 - p) c.h2), .int .i64 (lenU (c.x2 - p) c.h2)]) A428 S429 (sub_skip (sub_skip sub_all)) sub_all (lengthOf_s (c.x2 - p) c.h2 _ (by omega) (by omega) (by omega) (by omega)) Try.call92 rfl rfl (by kernel_rfl) (by kernel_rfl) (by kernel_rfl) rfl (fun ac wc A432 S433 => ?_)
          have T435 := S433.sub (sub_skip (sub_skip sub_all)) sub_all
          refine r_1 (i := 19) (by kernel_rfl) ?_
          have q441 := t_bd (l := (lenL (c.x2 - p) c.h2)) (v := c.v2) (by omega) (by omega) (by omega)
          have q442 := tH_bd (l := (lenU (c.x2 - p) c.h2)) (v := c.v2) (by omega) (by omega) (by omega)
          refine rs_call (fs := #[]) (cp := #[]) (r := [(0, .agg #[.int .i64 (lenL (c.x2 - p) c.h2), .int .i64 (lenU (c.x2 - p) c.h2)]), (0, .int .i64 c.v2)]) #[.agg #[.int .i64 (lenL (c.x2 - p) c.h2), .int .i64 (lenU (c.x2 - p) c.h2)], .int .i64 c.v2] (.agg #[.int .i64 (tLo (lenL (c.x2 - p) c.h2) c.v2), .int .i64 (tHi (lenU (c.x2 - p) c.h2) c.v2)]) A432 S433 (sub_skip (sub_skip sub_all)) sub_all (lasting_s (lenL (c.x2 - p) c.h2) (lenU (c.x2 - p) c.h2) c.v2 _ (by omega) (by omega) (by omega) (by omega) (by omega)) Try.call93 rfl rfl (by kernel_rfl) (by kernel_rfl) (by kernel_rfl) rfl (fun ac wc A437 S438 => ?_)
          have T440 := S438.sub (sub_skip (sub_skip sub_all)) sub_all
          refine r_1 (i := 22) (by kernel_rfl) ?_
          refine rs_store (g := g430) (off := 0) (v := .agg #[.int .i64 (tLo (lenL (p - c.x1) c.h1) c.v1), .int .i64 (tHi (lenU (p - c.x1) c.h1) c.v1)]) 0 (#[.int .i64 (tLo (lenL (p - c.x1) c.h1) c.v1), .int .i64 (tHi (lenU (p - c.x1) c.h1) c.v1)]) A437 S438 (sub_skip (sub_skip sub_all)) sub_all (by kernel_rfl) (by kernel_rfl) rfl (by kernel_rfl) rfl rfl (fun wc S444 => ?_)
          have T446 := S444.sub (sub_skip (sub_skip sub_all)) sub_all
          refine r_1 (i := 23) (by kernel_rfl) ?_
          refine rs_store (g := g357) (off := 0) (v := .agg #[.int .i64 (tLo (lenL (c.x2 - p) c.h2) c.v2), .int .i64 (tHi (lenU (c.x2 - p) c.h2) c.v2)]) 1 (#[.int .i64 (tLo (lenL (c.x2 - p) c.h2) c.v2), .int .i64 (tHi (lenU (c.x2 - p) c.h2) c.v2)]) A437 S444 (sub_skip (sub_skip sub_all)) sub_all (by kernel_rfl) (by kernel_rfl) rfl (by kernel_rfl) rfl rfl (fun wc S448 => ?_)
          have T450 := S448.sub (sub_skip (sub_skip sub_all)) sub_all
          refine r_done (by kernel_rfl) ?_
          refine n_then ?_
          refine wp_seq ?_
          refine wp_region_lit ?_
          refine s_one (.pointer (some ⟨g430, 0, none⟩)) A437 S448 (g_field (u := .pointer (some ⟨g430, 0, none⟩)) (by kernel_rfl) (fun _ => by kernel_rfl)) rfl (fun ac A451 => ?_)
          refine s_one (.int .i64 (tLo (lenL (p - c.x1) c.h1) c.v1)) A451 S448 (g_load (g := g430) (off := 0) 0 (by kernel_rfl) rfl (by kernel_rfl)) rfl (fun ac A452 => ?_)
          refine s_one (.pointer (some ⟨g357, 0, none⟩)) A452 S448 (g_field (u := .pointer (some ⟨g357, 0, none⟩)) (by kernel_rfl) (fun _ => by kernel_rfl)) rfl (fun ac A453 => ?_)
          refine s_one (.int .i64 (tLo (lenL (c.x2 - p) c.h2) c.v2)) A453 S448 (g_load (g := g357) (off := 0) 1 (by kernel_rfl) rfl (by kernel_rfl)) rfl (fun ac A454 => ?_)
          refine s_one (.int .i64 (tLo (lenL (p - c.x1) c.h1) c.v1 + (tLo (lenL (c.x2 - p) c.h2) c.v2))) A454 S448 (g_bin (u := .int .i64 (tLo (lenL (p - c.x1) c.h1) c.v1)) (k := .int .i64 (tLo (lenL (c.x2 - p) c.h2) c.v2)) (by kernel_rfl) (by kernel_rfl) (fun _ => by kernel_rfl) (b_add (by omega))) rfl (fun ac A455 => ?_)
          refine s_one (.pointer (some ⟨g430, 1, none⟩)) A455 S448 (g_field (u := .pointer (some ⟨g430, 0, none⟩)) (by kernel_rfl) (fun _ => by kernel_rfl)) rfl (fun ac A456 => ?_)
          refine s_one (.int .i64 (tHi (lenU (p - c.x1) c.h1) c.v1)) A456 S448 (g_load (g := g430) (off := 1) 0 (by kernel_rfl) rfl (by kernel_rfl)) rfl (fun ac A457 => ?_)
          refine s_one (.pointer (some ⟨g357, 1, none⟩)) A457 S448 (g_field (u := .pointer (some ⟨g357, 0, none⟩)) (by kernel_rfl) (fun _ => by kernel_rfl)) rfl (fun ac A458 => ?_)
          refine s_one (.int .i64 (tHi (lenU (c.x2 - p) c.h2) c.v2)) A458 S448 (g_load (g := g357) (off := 1) 1 (by kernel_rfl) rfl (by kernel_rfl)) rfl (fun ac A459 => ?_)
          refine s_one (.int .i64 (tHi (lenU (p - c.x1) c.h1) c.v1 + (tHi (lenU (c.x2 - p) c.h2) c.v2))) A459 S448 (g_bin (u := .int .i64 (tHi (lenU (p - c.x1) c.h1) c.v1)) (k := .int .i64 (tHi (lenU (c.x2 - p) c.h2) c.v2)) (by kernel_rfl) (by kernel_rfl) (fun _ => by kernel_rfl) (b_add (by omega))) rfl (fun ac A460 => ?_)
          refine s_one (.agg #[.int .i64 (tLo (lenL (p - c.x1) c.h1) c.v1 + (tLo (lenL (c.x2 - p) c.h2) c.v2)), .int .i64 (tHi (lenU (p - c.x1) c.h1) c.v1 + (tHi (lenU (c.x2 - p) c.h2) c.v2))]) A460 S448 (g_build (r := [(0, .int .i64 (tLo (lenL (p - c.x1) c.h1) c.v1 + (tLo (lenL (c.x2 - p) c.h2) c.v2))), (1, .int .i64 (tHi (lenU (p - c.x1) c.h1) c.v1 + (tHi (lenU (c.x2 - p) c.h2) c.v2)))]) (by kernel_rfl) (fun _ => by kernel_rfl)) rfl (fun ac A461 => ?_)
          refine s_store (g := g7) (off := 0) (v := .agg #[.int .i64 (tLo (lenL (p - c.x1) c.h1) c.v1 + (tLo (lenL (c.x2 - p) c.h2) c.v2)), .int .i64 (tHi (lenU (p - c.x1) c.h1) c.v1 + (tHi (lenU (c.x2 - p) c.h2) c.v2))]) 2 (#[.int .i64 (tLo (lenL (p - c.x1) c.h1) c.v1 + (tLo (lenL (c.x2 - p) c.h2) c.v2)), .int .i64 (tHi (lenU (p - c.x1) c.h1) c.v1 + (tHi (lenU (c.x2 - p) c.h2) c.v2))]) A461 S448 (by kernel_rfl) (by kernel_rfl) rfl (by kernel_rfl) (fun wc S463 => ?_)
          refine wpList_nil ?_
          refine n_then ?_
          refine wp_ret ?_
          refine fin1 (.agg #[.int .i64 (tLo (lenL (p - c.x1) c.h1) c.v1 + (tLo (lenL (c.x2 - p) c.h2) c.v2)), .int .i64 (tHi (lenU (p - c.x1) c.h1) c.v1 + (tHi (lenU (c.x2 - p) c.h2) c.v2))]) Try.results62 A461 S463 (rv_cell (g := g7) (off := 0) 2 (by kernel_rfl) rfl (by kernel_rfl)) ⟨?_, S463.kp⟩
          rfl
    · refine rs_alloc (#[.int .i64 0, .int .i64 0]) A27 S28 sub_all sub_all (by kernel_rfl) rfl rfl rfl (fun g467 ac wc A465 S466 => ?_)
      have T468 := S466.sub (sub_skip sub_all) sub_all
      refine r_2 (i := 9) (j := 21) (by kernel_rfl) ?_ ?_
      · have q473 := t_bd (l := (lenL (p - c.x1) c.h1)) (v := c.v1) (by omega) (by omega) (by omega)
        have q474 := tH_bd (l := (lenU (p - c.x1) c.h1)) (v := c.v1) (by omega) (by omega) (by omega)
        refine rs_call (fs := #[]) (cp := #[]) (r := [(0, .agg #[.int .i64 (lenL (p - c.x1) c.h1), .int .i64 (lenU (p - c.x1) c.h1)]), (0, .int .i64 c.v1)]) #[.agg #[.int .i64 (lenL (p - c.x1) c.h1), .int .i64 (lenU (p - c.x1) c.h1)], .int .i64 c.v1] (.agg #[.int .i64 (tLo (lenL (p - c.x1) c.h1) c.v1), .int .i64 (tHi (lenU (p - c.x1) c.h1) c.v1)]) A465 S466 (sub_skip sub_all) sub_all (lasting_s (lenL (p - c.x1) c.h1) (lenU (p - c.x1) c.h1) c.v1 _ (by omega) (by omega) (by omega) (by omega) (by omega)) Try.call93 rfl rfl (by kernel_rfl) (by kernel_rfl) (by kernel_rfl) rfl (fun ac wc A469 S470 => ?_)
        have T472 := S470.sub (sub_skip sub_all) sub_all
        refine r_2 (i := 16) (j := 21) (by kernel_rfl) ?_ ?_
        · have q479 := len_bd (x := c.x2 - p) (z := c.h2) (by omega) (by omega)
          refine rs_call (fs := #[]) (cp := #[]) (r := [(0, .int .i64 (c.x2 - p)), (0, .int .i64 c.h2)]) #[.int .i64 (c.x2 - p), .int .i64 c.h2] (.agg #[.int .i64 (lenL (c.x2 - p) c.h2), .int .i64 (lenU (c.x2 - p) c.h2)]) A469 S470 (sub_skip sub_all) sub_all (lengthOf_s (c.x2 - p) c.h2 _ (by omega) (by omega) (by omega) (by omega)) Try.call92 rfl rfl (by kernel_rfl) (by kernel_rfl) (by kernel_rfl) rfl (fun ac wc A475 S476 => ?_)
          have T478 := S476.sub (sub_skip sub_all) sub_all
          refine r_2 (i := 19) (j := 21) (by kernel_rfl) ?_ ?_
          · have q484 := t_bd (l := (lenL (c.x2 - p) c.h2)) (v := c.v2) (by omega) (by omega) (by omega)
            have q485 := tH_bd (l := (lenU (c.x2 - p) c.h2)) (v := c.v2) (by omega) (by omega) (by omega)
            refine rs_call (fs := #[]) (cp := #[]) (r := [(0, .agg #[.int .i64 (lenL (c.x2 - p) c.h2), .int .i64 (lenU (c.x2 - p) c.h2)]), (0, .int .i64 c.v2)]) #[.agg #[.int .i64 (lenL (c.x2 - p) c.h2), .int .i64 (lenU (c.x2 - p) c.h2)], .int .i64 c.v2] (.agg #[.int .i64 (tLo (lenL (c.x2 - p) c.h2) c.v2), .int .i64 (tHi (lenU (c.x2 - p) c.h2) c.v2)]) A475 S476 (sub_skip sub_all) sub_all (lasting_s (lenL (c.x2 - p) c.h2) (lenU (c.x2 - p) c.h2) c.v2 _ (by omega) (by omega) (by omega) (by omega) (by omega)) Try.call93 rfl rfl (by kernel_rfl) (by kernel_rfl) (by kernel_rfl) rfl (fun ac wc A480 S481 => ?_)
            have T483 := S481.sub (sub_skip sub_all) sub_all
            refine r_1 (i := 21) (by kernel_rfl) ?_
            refine rs_alloc (#[.int .i64 0, .int .i64 0]) A480 S481 (sub_skip sub_all) sub_all (by kernel_rfl) rfl rfl rfl (fun g488 ac wc A486 S487 => ?_)
            have T489 := S487.sub (sub_skip (sub_skip sub_all)) sub_all
            refine r_1 (i := 22) (by kernel_rfl) ?_
            refine rs_store (g := g467) (off := 0) (v := .agg #[.int .i64 (tLo (lenL (p - c.x1) c.h1) c.v1), .int .i64 (tHi (lenU (p - c.x1) c.h1) c.v1)]) 1 (#[.int .i64 (tLo (lenL (p - c.x1) c.h1) c.v1), .int .i64 (tHi (lenU (p - c.x1) c.h1) c.v1)]) A486 S487 (sub_skip (sub_skip sub_all)) sub_all (by kernel_rfl) (by kernel_rfl) rfl (by kernel_rfl) rfl rfl (fun wc S491 => ?_)
            have T493 := S491.sub (sub_skip (sub_skip sub_all)) sub_all
            refine r_1 (i := 23) (by kernel_rfl) ?_
            refine rs_store (g := g488) (off := 0) (v := .agg #[.int .i64 (tLo (lenL (c.x2 - p) c.h2) c.v2), .int .i64 (tHi (lenU (c.x2 - p) c.h2) c.v2)]) 0 (#[.int .i64 (tLo (lenL (c.x2 - p) c.h2) c.v2), .int .i64 (tHi (lenU (c.x2 - p) c.h2) c.v2)]) A486 S491 (sub_skip (sub_skip sub_all)) sub_all (by kernel_rfl) (by kernel_rfl) rfl (by kernel_rfl) rfl rfl (fun wc S495 => ?_)
            have T497 := S495.sub (sub_skip (sub_skip sub_all)) sub_all
            refine r_done (by kernel_rfl) ?_
            refine n_then ?_
            refine wp_seq ?_
            refine wp_region_lit ?_
            refine s_one (.pointer (some ⟨g467, 0, none⟩)) A486 S495 (g_field (u := .pointer (some ⟨g467, 0, none⟩)) (by kernel_rfl) (fun _ => by kernel_rfl)) rfl (fun ac A498 => ?_)
            refine s_one (.int .i64 (tLo (lenL (p - c.x1) c.h1) c.v1)) A498 S495 (g_load (g := g467) (off := 0) 1 (by kernel_rfl) rfl (by kernel_rfl)) rfl (fun ac A499 => ?_)
            refine s_one (.pointer (some ⟨g488, 0, none⟩)) A499 S495 (g_field (u := .pointer (some ⟨g488, 0, none⟩)) (by kernel_rfl) (fun _ => by kernel_rfl)) rfl (fun ac A500 => ?_)
            refine s_one (.int .i64 (tLo (lenL (c.x2 - p) c.h2) c.v2)) A500 S495 (g_load (g := g488) (off := 0) 0 (by kernel_rfl) rfl (by kernel_rfl)) rfl (fun ac A501 => ?_)
            refine s_one (.int .i64 (tLo (lenL (p - c.x1) c.h1) c.v1 + (tLo (lenL (c.x2 - p) c.h2) c.v2))) A501 S495 (g_bin (u := .int .i64 (tLo (lenL (p - c.x1) c.h1) c.v1)) (k := .int .i64 (tLo (lenL (c.x2 - p) c.h2) c.v2)) (by kernel_rfl) (by kernel_rfl) (fun _ => by kernel_rfl) (b_add (by omega))) rfl (fun ac A502 => ?_)
            refine s_one (.pointer (some ⟨g467, 1, none⟩)) A502 S495 (g_field (u := .pointer (some ⟨g467, 0, none⟩)) (by kernel_rfl) (fun _ => by kernel_rfl)) rfl (fun ac A503 => ?_)
            refine s_one (.int .i64 (tHi (lenU (p - c.x1) c.h1) c.v1)) A503 S495 (g_load (g := g467) (off := 1) 1 (by kernel_rfl) rfl (by kernel_rfl)) rfl (fun ac A504 => ?_)
            refine s_one (.pointer (some ⟨g488, 1, none⟩)) A504 S495 (g_field (u := .pointer (some ⟨g488, 0, none⟩)) (by kernel_rfl) (fun _ => by kernel_rfl)) rfl (fun ac A505 => ?_)
            refine s_one (.int .i64 (tHi (lenU (c.x2 - p) c.h2) c.v2)) A505 S495 (g_load (g := g488) (off := 1) 0 (by kernel_rfl) rfl (by kernel_rfl)) rfl (fun ac A506 => ?_)
            refine s_one (.int .i64 (tHi (lenU (p - c.x1) c.h1) c.v1 + (tHi (lenU (c.x2 - p) c.h2) c.v2))) A506 S495 (g_bin (u := .int .i64 (tHi (lenU (p - c.x1) c.h1) c.v1)) (k := .int .i64 (tHi (lenU (c.x2 - p) c.h2) c.v2)) (by kernel_rfl) (by kernel_rfl) (fun _ => by kernel_rfl) (b_add (by omega))) rfl (fun ac A507 => ?_)
            refine s_one (.agg #[.int .i64 (tLo (lenL (p - c.x1) c.h1) c.v1 + (tLo (lenL (c.x2 - p) c.h2) c.v2)), .int .i64 (tHi (lenU (p - c.x1) c.h1) c.v1 + (tHi (lenU (c.x2 - p) c.h2) c.v2))]) A507 S495 (g_build (r := [(0, .int .i64 (tLo (lenL (p - c.x1) c.h1) c.v1 + (tLo (lenL (c.x2 - p) c.h2) c.v2))), (1, .int .i64 (tHi (lenU (p - c.x1) c.h1) c.v1 + (tHi (lenU (c.x2 - p) c.h2) c.v2)))]) (by kernel_rfl) (fun _ => by kernel_rfl)) rfl (fun ac A508 => ?_)
            refine s_store (g := g7) (off := 0) (v := .agg #[.int .i64 (tLo (lenL (p - c.x1) c.h1) c.v1 + (tLo (lenL (c.x2 - p) c.h2) c.v2)), .int .i64 (tHi (lenU (p - c.x1) c.h1) c.v1 + (tHi (lenU (c.x2 - p) c.h2) c.v2))]) 2 (#[.int .i64 (tLo (lenL (p - c.x1) c.h1) c.v1 + (tLo (lenL (c.x2 - p) c.h2) c.v2)), .int .i64 (tHi (lenU (p - c.x1) c.h1) c.v1 + (tHi (lenU (c.x2 - p) c.h2) c.v2))]) A508 S495 (by kernel_rfl) (by kernel_rfl) rfl (by kernel_rfl) (fun wc S510 => ?_)
            refine wpList_nil ?_
            refine n_then ?_
            refine wp_ret ?_
            refine fin1 (.agg #[.int .i64 (tLo (lenL (p - c.x1) c.h1) c.v1 + (tLo (lenL (c.x2 - p) c.h2) c.v2)), .int .i64 (tHi (lenU (p - c.x1) c.h1) c.v1 + (tHi (lenU (c.x2 - p) c.h2) c.v2))]) Try.results62 A508 S510 (rv_cell (g := g7) (off := 0) 2 (by kernel_rfl) rfl (by kernel_rfl)) ⟨?_, S510.kp⟩
            rfl
          · refine rs_alloc (#[.int .i64 0, .int .i64 0]) A475 S476 (sub_skip sub_all) sub_all (by kernel_rfl) rfl rfl rfl (fun g514 ac wc A512 S513 => ?_)
            have T515 := S513.sub (sub_skip (sub_skip sub_all)) sub_all
            refine r_1 (i := 19) (by kernel_rfl) ?_
            have q520 := t_bd (l := (lenL (c.x2 - p) c.h2)) (v := c.v2) (by omega) (by omega) (by omega)
            have q521 := tH_bd (l := (lenU (c.x2 - p) c.h2)) (v := c.v2) (by omega) (by omega) (by omega)
            refine rs_call (fs := #[]) (cp := #[]) (r := [(0, .agg #[.int .i64 (lenL (c.x2 - p) c.h2), .int .i64 (lenU (c.x2 - p) c.h2)]), (0, .int .i64 c.v2)]) #[.agg #[.int .i64 (lenL (c.x2 - p) c.h2), .int .i64 (lenU (c.x2 - p) c.h2)], .int .i64 c.v2] (.agg #[.int .i64 (tLo (lenL (c.x2 - p) c.h2) c.v2), .int .i64 (tHi (lenU (c.x2 - p) c.h2) c.v2)]) A512 S513 (sub_skip (sub_skip sub_all)) sub_all (lasting_s (lenL (c.x2 - p) c.h2) (lenU (c.x2 - p) c.h2) c.v2 _ (by omega) (by omega) (by omega) (by omega) (by omega)) Try.call93 rfl rfl (by kernel_rfl) (by kernel_rfl) (by kernel_rfl) rfl (fun ac wc A516 S517 => ?_)
            have T519 := S517.sub (sub_skip (sub_skip sub_all)) sub_all
            refine r_1 (i := 22) (by kernel_rfl) ?_
            refine rs_store (g := g467) (off := 0) (v := .agg #[.int .i64 (tLo (lenL (p - c.x1) c.h1) c.v1), .int .i64 (tHi (lenU (p - c.x1) c.h1) c.v1)]) 1 (#[.int .i64 (tLo (lenL (p - c.x1) c.h1) c.v1), .int .i64 (tHi (lenU (p - c.x1) c.h1) c.v1)]) A516 S517 (sub_skip (sub_skip sub_all)) sub_all (by kernel_rfl) (by kernel_rfl) rfl (by kernel_rfl) rfl rfl (fun wc S523 => ?_)
            have T525 := S523.sub (sub_skip (sub_skip sub_all)) sub_all
            refine r_1 (i := 23) (by kernel_rfl) ?_
            refine rs_store (g := g514) (off := 0) (v := .agg #[.int .i64 (tLo (lenL (c.x2 - p) c.h2) c.v2), .int .i64 (tHi (lenU (c.x2 - p) c.h2) c.v2)]) 0 (#[.int .i64 (tLo (lenL (c.x2 - p) c.h2) c.v2), .int .i64 (tHi (lenU (c.x2 - p) c.h2) c.v2)]) A516 S523 (sub_skip (sub_skip sub_all)) sub_all (by kernel_rfl) (by kernel_rfl) rfl (by kernel_rfl) rfl rfl (fun wc S527 => ?_)
            have T529 := S527.sub (sub_skip (sub_skip sub_all)) sub_all
            refine r_done (by kernel_rfl) ?_
            refine n_then ?_
            refine wp_seq ?_
            refine wp_region_lit ?_
            refine s_one (.pointer (some ⟨g467, 0, none⟩)) A516 S527 (g_field (u := .pointer (some ⟨g467, 0, none⟩)) (by kernel_rfl) (fun _ => by kernel_rfl)) rfl (fun ac A530 => ?_)
            refine s_one (.int .i64 (tLo (lenL (p - c.x1) c.h1) c.v1)) A530 S527 (g_load (g := g467) (off := 0) 1 (by kernel_rfl) rfl (by kernel_rfl)) rfl (fun ac A531 => ?_)
            refine s_one (.pointer (some ⟨g514, 0, none⟩)) A531 S527 (g_field (u := .pointer (some ⟨g514, 0, none⟩)) (by kernel_rfl) (fun _ => by kernel_rfl)) rfl (fun ac A532 => ?_)
            refine s_one (.int .i64 (tLo (lenL (c.x2 - p) c.h2) c.v2)) A532 S527 (g_load (g := g514) (off := 0) 0 (by kernel_rfl) rfl (by kernel_rfl)) rfl (fun ac A533 => ?_)
            refine s_one (.int .i64 (tLo (lenL (p - c.x1) c.h1) c.v1 + (tLo (lenL (c.x2 - p) c.h2) c.v2))) A533 S527 (g_bin (u := .int .i64 (tLo (lenL (p - c.x1) c.h1) c.v1)) (k := .int .i64 (tLo (lenL (c.x2 - p) c.h2) c.v2)) (by kernel_rfl) (by kernel_rfl) (fun _ => by kernel_rfl) (b_add (by omega))) rfl (fun ac A534 => ?_)
            refine s_one (.pointer (some ⟨g467, 1, none⟩)) A534 S527 (g_field (u := .pointer (some ⟨g467, 0, none⟩)) (by kernel_rfl) (fun _ => by kernel_rfl)) rfl (fun ac A535 => ?_)
            refine s_one (.int .i64 (tHi (lenU (p - c.x1) c.h1) c.v1)) A535 S527 (g_load (g := g467) (off := 1) 1 (by kernel_rfl) rfl (by kernel_rfl)) rfl (fun ac A536 => ?_)
            refine s_one (.pointer (some ⟨g514, 1, none⟩)) A536 S527 (g_field (u := .pointer (some ⟨g514, 0, none⟩)) (by kernel_rfl) (fun _ => by kernel_rfl)) rfl (fun ac A537 => ?_)
            refine s_one (.int .i64 (tHi (lenU (c.x2 - p) c.h2) c.v2)) A537 S527 (g_load (g := g514) (off := 1) 0 (by kernel_rfl) rfl (by kernel_rfl)) rfl (fun ac A538 => ?_)
            refine s_one (.int .i64 (tHi (lenU (p - c.x1) c.h1) c.v1 + (tHi (lenU (c.x2 - p) c.h2) c.v2))) A538 S527 (g_bin (u := .int .i64 (tHi (lenU (p - c.x1) c.h1) c.v1)) (k := .int .i64 (tHi (lenU (c.x2 - p) c.h2) c.v2)) (by kernel_rfl) (by kernel_rfl) (fun _ => by kernel_rfl) (b_add (by omega))) rfl (fun ac A539 => ?_)
            refine s_one (.agg #[.int .i64 (tLo (lenL (p - c.x1) c.h1) c.v1 + (tLo (lenL (c.x2 - p) c.h2) c.v2)), .int .i64 (tHi (lenU (p - c.x1) c.h1) c.v1 + (tHi (lenU (c.x2 - p) c.h2) c.v2))]) A539 S527 (g_build (r := [(0, .int .i64 (tLo (lenL (p - c.x1) c.h1) c.v1 + (tLo (lenL (c.x2 - p) c.h2) c.v2))), (1, .int .i64 (tHi (lenU (p - c.x1) c.h1) c.v1 + (tHi (lenU (c.x2 - p) c.h2) c.v2)))]) (by kernel_rfl) (fun _ => by kernel_rfl)) rfl (fun ac A540 => ?_)
            refine s_store (g := g7) (off := 0) (v := .agg #[.int .i64 (tLo (lenL (p - c.x1) c.h1) c.v1 + (tLo (lenL (c.x2 - p) c.h2) c.v2)), .int .i64 (tHi (lenU (p - c.x1) c.h1) c.v1 + (tHi (lenU (c.x2 - p) c.h2) c.v2))]) 2 (#[.int .i64 (tLo (lenL (p - c.x1) c.h1) c.v1 + (tLo (lenL (c.x2 - p) c.h2) c.v2)), .int .i64 (tHi (lenU (p - c.x1) c.h1) c.v1 + (tHi (lenU (c.x2 - p) c.h2) c.v2))]) A540 S527 (by kernel_rfl) (by kernel_rfl) rfl (by kernel_rfl) (fun wc S542 => ?_)
            refine wpList_nil ?_
            refine n_then ?_
            refine wp_ret ?_
            refine fin1 (.agg #[.int .i64 (tLo (lenL (p - c.x1) c.h1) c.v1 + (tLo (lenL (c.x2 - p) c.h2) c.v2)), .int .i64 (tHi (lenU (p - c.x1) c.h1) c.v1 + (tHi (lenU (c.x2 - p) c.h2) c.v2))]) Try.results62 A540 S542 (rv_cell (g := g7) (off := 0) 2 (by kernel_rfl) rfl (by kernel_rfl)) ⟨?_, S542.kp⟩
            rfl
        · refine rs_alloc (#[.int .i64 0, .int .i64 0]) A469 S470 (sub_skip sub_all) sub_all (by kernel_rfl) rfl rfl rfl (fun g546 ac wc A544 S545 => ?_)
          have T547 := S545.sub (sub_skip (sub_skip sub_all)) sub_all
          refine r_1 (i := 16) (by kernel_rfl) ?_
          have q552 := len_bd (x := c.x2 - p) (z := c.h2) (by omega) (by omega)
          refine rs_call (fs := #[]) (cp := #[]) (r := [(0, .int .i64 (c.x2 - p)), (0, .int .i64 c.h2)]) #[.int .i64 (c.x2 - p), .int .i64 c.h2] (.agg #[.int .i64 (lenL (c.x2 - p) c.h2), .int .i64 (lenU (c.x2 - p) c.h2)]) A544 S545 (sub_skip (sub_skip sub_all)) sub_all (lengthOf_s (c.x2 - p) c.h2 _ (by omega) (by omega) (by omega) (by omega)) Try.call92 rfl rfl (by kernel_rfl) (by kernel_rfl) (by kernel_rfl) rfl (fun ac wc A548 S549 => ?_)
          have T551 := S549.sub (sub_skip (sub_skip sub_all)) sub_all
          refine r_1 (i := 19) (by kernel_rfl) ?_
          have q557 := t_bd (l := (lenL (c.x2 - p) c.h2)) (v := c.v2) (by omega) (by omega) (by omega)
          have q558 := tH_bd (l := (lenU (c.x2 - p) c.h2)) (v := c.v2) (by omega) (by omega) (by omega)
          refine rs_call (fs := #[]) (cp := #[]) (r := [(0, .agg #[.int .i64 (lenL (c.x2 - p) c.h2), .int .i64 (lenU (c.x2 - p) c.h2)]), (0, .int .i64 c.v2)]) #[.agg #[.int .i64 (lenL (c.x2 - p) c.h2), .int .i64 (lenU (c.x2 - p) c.h2)], .int .i64 c.v2] (.agg #[.int .i64 (tLo (lenL (c.x2 - p) c.h2) c.v2), .int .i64 (tHi (lenU (c.x2 - p) c.h2) c.v2)]) A548 S549 (sub_skip (sub_skip sub_all)) sub_all (lasting_s (lenL (c.x2 - p) c.h2) (lenU (c.x2 - p) c.h2) c.v2 _ (by omega) (by omega) (by omega) (by omega) (by omega)) Try.call93 rfl rfl (by kernel_rfl) (by kernel_rfl) (by kernel_rfl) rfl (fun ac wc A553 S554 => ?_)
          have T556 := S554.sub (sub_skip (sub_skip sub_all)) sub_all
          refine r_1 (i := 22) (by kernel_rfl) ?_
          refine rs_store (g := g467) (off := 0) (v := .agg #[.int .i64 (tLo (lenL (p - c.x1) c.h1) c.v1), .int .i64 (tHi (lenU (p - c.x1) c.h1) c.v1)]) 1 (#[.int .i64 (tLo (lenL (p - c.x1) c.h1) c.v1), .int .i64 (tHi (lenU (p - c.x1) c.h1) c.v1)]) A553 S554 (sub_skip (sub_skip sub_all)) sub_all (by kernel_rfl) (by kernel_rfl) rfl (by kernel_rfl) rfl rfl (fun wc S560 => ?_)
          have T562 := S560.sub (sub_skip (sub_skip sub_all)) sub_all
          refine r_1 (i := 23) (by kernel_rfl) ?_
          refine rs_store (g := g546) (off := 0) (v := .agg #[.int .i64 (tLo (lenL (c.x2 - p) c.h2) c.v2), .int .i64 (tHi (lenU (c.x2 - p) c.h2) c.v2)]) 0 (#[.int .i64 (tLo (lenL (c.x2 - p) c.h2) c.v2), .int .i64 (tHi (lenU (c.x2 - p) c.h2) c.v2)]) A553 S560 (sub_skip (sub_skip sub_all)) sub_all (by kernel_rfl) (by kernel_rfl) rfl (by kernel_rfl) rfl rfl (fun wc S564 => ?_)
          have T566 := S564.sub (sub_skip (sub_skip sub_all)) sub_all
          refine r_done (by kernel_rfl) ?_
          refine n_then ?_
          refine wp_seq ?_
          refine wp_region_lit ?_
          refine s_one (.pointer (some ⟨g467, 0, none⟩)) A553 S564 (g_field (u := .pointer (some ⟨g467, 0, none⟩)) (by kernel_rfl) (fun _ => by kernel_rfl)) rfl (fun ac A567 => ?_)
          refine s_one (.int .i64 (tLo (lenL (p - c.x1) c.h1) c.v1)) A567 S564 (g_load (g := g467) (off := 0) 1 (by kernel_rfl) rfl (by kernel_rfl)) rfl (fun ac A568 => ?_)
          refine s_one (.pointer (some ⟨g546, 0, none⟩)) A568 S564 (g_field (u := .pointer (some ⟨g546, 0, none⟩)) (by kernel_rfl) (fun _ => by kernel_rfl)) rfl (fun ac A569 => ?_)
          refine s_one (.int .i64 (tLo (lenL (c.x2 - p) c.h2) c.v2)) A569 S564 (g_load (g := g546) (off := 0) 0 (by kernel_rfl) rfl (by kernel_rfl)) rfl (fun ac A570 => ?_)
          refine s_one (.int .i64 (tLo (lenL (p - c.x1) c.h1) c.v1 + (tLo (lenL (c.x2 - p) c.h2) c.v2))) A570 S564 (g_bin (u := .int .i64 (tLo (lenL (p - c.x1) c.h1) c.v1)) (k := .int .i64 (tLo (lenL (c.x2 - p) c.h2) c.v2)) (by kernel_rfl) (by kernel_rfl) (fun _ => by kernel_rfl) (b_add (by omega))) rfl (fun ac A571 => ?_)
          refine s_one (.pointer (some ⟨g467, 1, none⟩)) A571 S564 (g_field (u := .pointer (some ⟨g467, 0, none⟩)) (by kernel_rfl) (fun _ => by kernel_rfl)) rfl (fun ac A572 => ?_)
          refine s_one (.int .i64 (tHi (lenU (p - c.x1) c.h1) c.v1)) A572 S564 (g_load (g := g467) (off := 1) 1 (by kernel_rfl) rfl (by kernel_rfl)) rfl (fun ac A573 => ?_)
          refine s_one (.pointer (some ⟨g546, 1, none⟩)) A573 S564 (g_field (u := .pointer (some ⟨g546, 0, none⟩)) (by kernel_rfl) (fun _ => by kernel_rfl)) rfl (fun ac A574 => ?_)
          refine s_one (.int .i64 (tHi (lenU (c.x2 - p) c.h2) c.v2)) A574 S564 (g_load (g := g546) (off := 1) 0 (by kernel_rfl) rfl (by kernel_rfl)) rfl (fun ac A575 => ?_)
          refine s_one (.int .i64 (tHi (lenU (p - c.x1) c.h1) c.v1 + (tHi (lenU (c.x2 - p) c.h2) c.v2))) A575 S564 (g_bin (u := .int .i64 (tHi (lenU (p - c.x1) c.h1) c.v1)) (k := .int .i64 (tHi (lenU (c.x2 - p) c.h2) c.v2)) (by kernel_rfl) (by kernel_rfl) (fun _ => by kernel_rfl) (b_add (by omega))) rfl (fun ac A576 => ?_)
          refine s_one (.agg #[.int .i64 (tLo (lenL (p - c.x1) c.h1) c.v1 + (tLo (lenL (c.x2 - p) c.h2) c.v2)), .int .i64 (tHi (lenU (p - c.x1) c.h1) c.v1 + (tHi (lenU (c.x2 - p) c.h2) c.v2))]) A576 S564 (g_build (r := [(0, .int .i64 (tLo (lenL (p - c.x1) c.h1) c.v1 + (tLo (lenL (c.x2 - p) c.h2) c.v2))), (1, .int .i64 (tHi (lenU (p - c.x1) c.h1) c.v1 + (tHi (lenU (c.x2 - p) c.h2) c.v2)))]) (by kernel_rfl) (fun _ => by kernel_rfl)) rfl (fun ac A577 => ?_)
          refine s_store (g := g7) (off := 0) (v := .agg #[.int .i64 (tLo (lenL (p - c.x1) c.h1) c.v1 + (tLo (lenL (c.x2 - p) c.h2) c.v2)), .int .i64 (tHi (lenU (p - c.x1) c.h1) c.v1 + (tHi (lenU (c.x2 - p) c.h2) c.v2))]) 2 (#[.int .i64 (tLo (lenL (p - c.x1) c.h1) c.v1 + (tLo (lenL (c.x2 - p) c.h2) c.v2)), .int .i64 (tHi (lenU (p - c.x1) c.h1) c.v1 + (tHi (lenU (c.x2 - p) c.h2) c.v2))]) A577 S564 (by kernel_rfl) (by kernel_rfl) rfl (by kernel_rfl) (fun wc S579 => ?_)
          refine wpList_nil ?_
          refine n_then ?_
          refine wp_ret ?_
          refine fin1 (.agg #[.int .i64 (tLo (lenL (p - c.x1) c.h1) c.v1 + (tLo (lenL (c.x2 - p) c.h2) c.v2)), .int .i64 (tHi (lenU (p - c.x1) c.h1) c.v1 + (tHi (lenU (c.x2 - p) c.h2) c.v2))]) Try.results62 A577 S579 (rv_cell (g := g7) (off := 0) 2 (by kernel_rfl) rfl (by kernel_rfl)) ⟨?_, S579.kp⟩
          rfl
      · refine rs_alloc (#[.int .i64 0, .int .i64 0]) A465 S466 (sub_skip sub_all) sub_all (by kernel_rfl) rfl rfl rfl (fun g583 ac wc A581 S582 => ?_)
        have T584 := S582.sub (sub_skip (sub_skip sub_all)) sub_all
        refine r_1 (i := 9) (by kernel_rfl) ?_
        have q589 := t_bd (l := (lenL (p - c.x1) c.h1)) (v := c.v1) (by omega) (by omega) (by omega)
        have q590 := tH_bd (l := (lenU (p - c.x1) c.h1)) (v := c.v1) (by omega) (by omega) (by omega)
        refine rs_call (fs := #[]) (cp := #[]) (r := [(0, .agg #[.int .i64 (lenL (p - c.x1) c.h1), .int .i64 (lenU (p - c.x1) c.h1)]), (0, .int .i64 c.v1)]) #[.agg #[.int .i64 (lenL (p - c.x1) c.h1), .int .i64 (lenU (p - c.x1) c.h1)], .int .i64 c.v1] (.agg #[.int .i64 (tLo (lenL (p - c.x1) c.h1) c.v1), .int .i64 (tHi (lenU (p - c.x1) c.h1) c.v1)]) A581 S582 (sub_skip (sub_skip sub_all)) sub_all (lasting_s (lenL (p - c.x1) c.h1) (lenU (p - c.x1) c.h1) c.v1 _ (by omega) (by omega) (by omega) (by omega) (by omega)) Try.call93 rfl rfl (by kernel_rfl) (by kernel_rfl) (by kernel_rfl) rfl (fun ac wc A585 S586 => ?_)
        have T588 := S586.sub (sub_skip (sub_skip sub_all)) sub_all
        refine r_1 (i := 16) (by kernel_rfl) ?_
        have q595 := len_bd (x := c.x2 - p) (z := c.h2) (by omega) (by omega)
        refine rs_call (fs := #[]) (cp := #[]) (r := [(0, .int .i64 (c.x2 - p)), (0, .int .i64 c.h2)]) #[.int .i64 (c.x2 - p), .int .i64 c.h2] (.agg #[.int .i64 (lenL (c.x2 - p) c.h2), .int .i64 (lenU (c.x2 - p) c.h2)]) A585 S586 (sub_skip (sub_skip sub_all)) sub_all (lengthOf_s (c.x2 - p) c.h2 _ (by omega) (by omega) (by omega) (by omega)) Try.call92 rfl rfl (by kernel_rfl) (by kernel_rfl) (by kernel_rfl) rfl (fun ac wc A591 S592 => ?_)
        have T594 := S592.sub (sub_skip (sub_skip sub_all)) sub_all
        refine r_1 (i := 19) (by kernel_rfl) ?_
        have q600 := t_bd (l := (lenL (c.x2 - p) c.h2)) (v := c.v2) (by omega) (by omega) (by omega)
        have q601 := tH_bd (l := (lenU (c.x2 - p) c.h2)) (v := c.v2) (by omega) (by omega) (by omega)
        refine rs_call (fs := #[]) (cp := #[]) (r := [(0, .agg #[.int .i64 (lenL (c.x2 - p) c.h2), .int .i64 (lenU (c.x2 - p) c.h2)]), (0, .int .i64 c.v2)]) #[.agg #[.int .i64 (lenL (c.x2 - p) c.h2), .int .i64 (lenU (c.x2 - p) c.h2)], .int .i64 c.v2] (.agg #[.int .i64 (tLo (lenL (c.x2 - p) c.h2) c.v2), .int .i64 (tHi (lenU (c.x2 - p) c.h2) c.v2)]) A591 S592 (sub_skip (sub_skip sub_all)) sub_all (lasting_s (lenL (c.x2 - p) c.h2) (lenU (c.x2 - p) c.h2) c.v2 _ (by omega) (by omega) (by omega) (by omega) (by omega)) Try.call93 rfl rfl (by kernel_rfl) (by kernel_rfl) (by kernel_rfl) rfl (fun ac wc A596 S597 => ?_)
        have T599 := S597.sub (sub_skip (sub_skip sub_all)) sub_all
        refine r_1 (i := 22) (by kernel_rfl) ?_
        refine rs_store (g := g467) (off := 0) (v := .agg #[.int .i64 (tLo (lenL (p - c.x1) c.h1) c.v1), .int .i64 (tHi (lenU (p - c.x1) c.h1) c.v1)]) 1 (#[.int .i64 (tLo (lenL (p - c.x1) c.h1) c.v1), .int .i64 (tHi (lenU (p - c.x1) c.h1) c.v1)]) A596 S597 (sub_skip (sub_skip sub_all)) sub_all (by kernel_rfl) (by kernel_rfl) rfl (by kernel_rfl) rfl rfl (fun wc S603 => ?_)
        have T605 := S603.sub (sub_skip (sub_skip sub_all)) sub_all
        refine r_1 (i := 23) (by kernel_rfl) ?_
        refine rs_store (g := g583) (off := 0) (v := .agg #[.int .i64 (tLo (lenL (c.x2 - p) c.h2) c.v2), .int .i64 (tHi (lenU (c.x2 - p) c.h2) c.v2)]) 0 (#[.int .i64 (tLo (lenL (c.x2 - p) c.h2) c.v2), .int .i64 (tHi (lenU (c.x2 - p) c.h2) c.v2)]) A596 S603 (sub_skip (sub_skip sub_all)) sub_all (by kernel_rfl) (by kernel_rfl) rfl (by kernel_rfl) rfl rfl (fun wc S607 => ?_)
        have T609 := S607.sub (sub_skip (sub_skip sub_all)) sub_all
        refine r_done (by kernel_rfl) ?_
        refine n_then ?_
        refine wp_seq ?_
        refine wp_region_lit ?_
        refine s_one (.pointer (some ⟨g467, 0, none⟩)) A596 S607 (g_field (u := .pointer (some ⟨g467, 0, none⟩)) (by kernel_rfl) (fun _ => by kernel_rfl)) rfl (fun ac A610 => ?_)
        refine s_one (.int .i64 (tLo (lenL (p - c.x1) c.h1) c.v1)) A610 S607 (g_load (g := g467) (off := 0) 1 (by kernel_rfl) rfl (by kernel_rfl)) rfl (fun ac A611 => ?_)
        refine s_one (.pointer (some ⟨g583, 0, none⟩)) A611 S607 (g_field (u := .pointer (some ⟨g583, 0, none⟩)) (by kernel_rfl) (fun _ => by kernel_rfl)) rfl (fun ac A612 => ?_)
        refine s_one (.int .i64 (tLo (lenL (c.x2 - p) c.h2) c.v2)) A612 S607 (g_load (g := g583) (off := 0) 0 (by kernel_rfl) rfl (by kernel_rfl)) rfl (fun ac A613 => ?_)
        refine s_one (.int .i64 (tLo (lenL (p - c.x1) c.h1) c.v1 + (tLo (lenL (c.x2 - p) c.h2) c.v2))) A613 S607 (g_bin (u := .int .i64 (tLo (lenL (p - c.x1) c.h1) c.v1)) (k := .int .i64 (tLo (lenL (c.x2 - p) c.h2) c.v2)) (by kernel_rfl) (by kernel_rfl) (fun _ => by kernel_rfl) (b_add (by omega))) rfl (fun ac A614 => ?_)
        refine s_one (.pointer (some ⟨g467, 1, none⟩)) A614 S607 (g_field (u := .pointer (some ⟨g467, 0, none⟩)) (by kernel_rfl) (fun _ => by kernel_rfl)) rfl (fun ac A615 => ?_)
        refine s_one (.int .i64 (tHi (lenU (p - c.x1) c.h1) c.v1)) A615 S607 (g_load (g := g467) (off := 1) 1 (by kernel_rfl) rfl (by kernel_rfl)) rfl (fun ac A616 => ?_)
        refine s_one (.pointer (some ⟨g583, 1, none⟩)) A616 S607 (g_field (u := .pointer (some ⟨g583, 0, none⟩)) (by kernel_rfl) (fun _ => by kernel_rfl)) rfl (fun ac A617 => ?_)
        refine s_one (.int .i64 (tHi (lenU (c.x2 - p) c.h2) c.v2)) A617 S607 (g_load (g := g583) (off := 1) 0 (by kernel_rfl) rfl (by kernel_rfl)) rfl (fun ac A618 => ?_)
        refine s_one (.int .i64 (tHi (lenU (p - c.x1) c.h1) c.v1 + (tHi (lenU (c.x2 - p) c.h2) c.v2))) A618 S607 (g_bin (u := .int .i64 (tHi (lenU (p - c.x1) c.h1) c.v1)) (k := .int .i64 (tHi (lenU (c.x2 - p) c.h2) c.v2)) (by kernel_rfl) (by kernel_rfl) (fun _ => by kernel_rfl) (b_add (by omega))) rfl (fun ac A619 => ?_)
        refine s_one (.agg #[.int .i64 (tLo (lenL (p - c.x1) c.h1) c.v1 + (tLo (lenL (c.x2 - p) c.h2) c.v2)), .int .i64 (tHi (lenU (p - c.x1) c.h1) c.v1 + (tHi (lenU (c.x2 - p) c.h2) c.v2))]) A619 S607 (g_build (r := [(0, .int .i64 (tLo (lenL (p - c.x1) c.h1) c.v1 + (tLo (lenL (c.x2 - p) c.h2) c.v2))), (1, .int .i64 (tHi (lenU (p - c.x1) c.h1) c.v1 + (tHi (lenU (c.x2 - p) c.h2) c.v2)))]) (by kernel_rfl) (fun _ => by kernel_rfl)) rfl (fun ac A620 => ?_)
        refine s_store (g := g7) (off := 0) (v := .agg #[.int .i64 (tLo (lenL (p - c.x1) c.h1) c.v1 + (tLo (lenL (c.x2 - p) c.h2) c.v2)), .int .i64 (tHi (lenU (p - c.x1) c.h1) c.v1 + (tHi (lenU (c.x2 - p) c.h2) c.v2))]) 2 (#[.int .i64 (tLo (lenL (p - c.x1) c.h1) c.v1 + (tLo (lenL (c.x2 - p) c.h2) c.v2)), .int .i64 (tHi (lenU (p - c.x1) c.h1) c.v1 + (tHi (lenU (c.x2 - p) c.h2) c.v2))]) A620 S607 (by kernel_rfl) (by kernel_rfl) rfl (by kernel_rfl) (fun wc S622 => ?_)
        refine wpList_nil ?_
        refine n_then ?_
        refine wp_ret ?_
        refine fin1 (.agg #[.int .i64 (tLo (lenL (p - c.x1) c.h1) c.v1 + (tLo (lenL (c.x2 - p) c.h2) c.v2)), .int .i64 (tHi (lenU (p - c.x1) c.h1) c.v1 + (tHi (lenU (c.x2 - p) c.h2) c.v2))]) Try.results62 A620 S622 (rv_cell (g := g7) (off := 0) 2 (by kernel_rfl) rfl (by kernel_rfl)) ⟨?_, S622.kp⟩
        rfl
    · refine rs_alloc (#[.int .i64 0, .int .i64 0]) A27 S28 sub_all sub_all (by kernel_rfl) rfl rfl rfl (fun g626 ac wc A624 S625 => ?_)
      have T627 := S625.sub (sub_skip sub_all) sub_all
      refine r_2 (i := 9) (j := 20) (by kernel_rfl) ?_ ?_
      · have q632 := t_bd (l := (lenL (p - c.x1) c.h1)) (v := c.v1) (by omega) (by omega) (by omega)
        have q633 := tH_bd (l := (lenU (p - c.x1) c.h1)) (v := c.v1) (by omega) (by omega) (by omega)
        refine rs_call (fs := #[]) (cp := #[]) (r := [(0, .agg #[.int .i64 (lenL (p - c.x1) c.h1), .int .i64 (lenU (p - c.x1) c.h1)]), (0, .int .i64 c.v1)]) #[.agg #[.int .i64 (lenL (p - c.x1) c.h1), .int .i64 (lenU (p - c.x1) c.h1)], .int .i64 c.v1] (.agg #[.int .i64 (tLo (lenL (p - c.x1) c.h1) c.v1), .int .i64 (tHi (lenU (p - c.x1) c.h1) c.v1)]) A624 S625 (sub_skip sub_all) sub_all (lasting_s (lenL (p - c.x1) c.h1) (lenU (p - c.x1) c.h1) c.v1 _ (by omega) (by omega) (by omega) (by omega) (by omega)) Try.call93 rfl rfl (by kernel_rfl) (by kernel_rfl) (by kernel_rfl) rfl (fun ac wc A628 S629 => ?_)
        have T631 := S629.sub (sub_skip sub_all) sub_all
        refine r_2 (i := 16) (j := 20) (by kernel_rfl) ?_ ?_
        · have q638 := len_bd (x := c.x2 - p) (z := c.h2) (by omega) (by omega)
          refine rs_call (fs := #[]) (cp := #[]) (r := [(0, .int .i64 (c.x2 - p)), (0, .int .i64 c.h2)]) #[.int .i64 (c.x2 - p), .int .i64 c.h2] (.agg #[.int .i64 (lenL (c.x2 - p) c.h2), .int .i64 (lenU (c.x2 - p) c.h2)]) A628 S629 (sub_skip sub_all) sub_all (lengthOf_s (c.x2 - p) c.h2 _ (by omega) (by omega) (by omega) (by omega)) Try.call92 rfl rfl (by kernel_rfl) (by kernel_rfl) (by kernel_rfl) rfl (fun ac wc A634 S635 => ?_)
          have T637 := S635.sub (sub_skip sub_all) sub_all
          refine r_2 (i := 19) (j := 20) (by kernel_rfl) ?_ ?_
          · have q643 := t_bd (l := (lenL (c.x2 - p) c.h2)) (v := c.v2) (by omega) (by omega) (by omega)
            have q644 := tH_bd (l := (lenU (c.x2 - p) c.h2)) (v := c.v2) (by omega) (by omega) (by omega)
            refine rs_call (fs := #[]) (cp := #[]) (r := [(0, .agg #[.int .i64 (lenL (c.x2 - p) c.h2), .int .i64 (lenU (c.x2 - p) c.h2)]), (0, .int .i64 c.v2)]) #[.agg #[.int .i64 (lenL (c.x2 - p) c.h2), .int .i64 (lenU (c.x2 - p) c.h2)], .int .i64 c.v2] (.agg #[.int .i64 (tLo (lenL (c.x2 - p) c.h2) c.v2), .int .i64 (tHi (lenU (c.x2 - p) c.h2) c.v2)]) A634 S635 (sub_skip sub_all) sub_all (lasting_s (lenL (c.x2 - p) c.h2) (lenU (c.x2 - p) c.h2) c.v2 _ (by omega) (by omega) (by omega) (by omega) (by omega)) Try.call93 rfl rfl (by kernel_rfl) (by kernel_rfl) (by kernel_rfl) rfl (fun ac wc A639 S640 => ?_)
            have T642 := S640.sub (sub_skip sub_all) sub_all
            refine r_1 (i := 20) (by kernel_rfl) ?_
            refine rs_alloc (#[.int .i64 0, .int .i64 0]) A639 S640 (sub_skip sub_all) sub_all (by kernel_rfl) rfl rfl rfl (fun g647 ac wc A645 S646 => ?_)
            have T648 := S646.sub (sub_skip (sub_skip sub_all)) sub_all
            refine r_1 (i := 22) (by kernel_rfl) ?_
            refine rs_store (g := g647) (off := 0) (v := .agg #[.int .i64 (tLo (lenL (p - c.x1) c.h1) c.v1), .int .i64 (tHi (lenU (p - c.x1) c.h1) c.v1)]) 0 (#[.int .i64 (tLo (lenL (p - c.x1) c.h1) c.v1), .int .i64 (tHi (lenU (p - c.x1) c.h1) c.v1)]) A645 S646 (sub_skip (sub_skip sub_all)) sub_all (by kernel_rfl) (by kernel_rfl) rfl (by kernel_rfl) rfl rfl (fun wc S650 => ?_)
            have T652 := S650.sub (sub_skip (sub_skip sub_all)) sub_all
            refine r_1 (i := 23) (by kernel_rfl) ?_
            refine rs_store (g := g626) (off := 0) (v := .agg #[.int .i64 (tLo (lenL (c.x2 - p) c.h2) c.v2), .int .i64 (tHi (lenU (c.x2 - p) c.h2) c.v2)]) 1 (#[.int .i64 (tLo (lenL (c.x2 - p) c.h2) c.v2), .int .i64 (tHi (lenU (c.x2 - p) c.h2) c.v2)]) A645 S650 (sub_skip (sub_skip sub_all)) sub_all (by kernel_rfl) (by kernel_rfl) rfl (by kernel_rfl) rfl rfl (fun wc S654 => ?_)
            have T656 := S654.sub (sub_skip (sub_skip sub_all)) sub_all
            refine r_done (by kernel_rfl) ?_
            refine n_then ?_
            refine wp_seq ?_
            refine wp_region_lit ?_
            refine s_one (.pointer (some ⟨g647, 0, none⟩)) A645 S654 (g_field (u := .pointer (some ⟨g647, 0, none⟩)) (by kernel_rfl) (fun _ => by kernel_rfl)) rfl (fun ac A657 => ?_)
            refine s_one (.int .i64 (tLo (lenL (p - c.x1) c.h1) c.v1)) A657 S654 (g_load (g := g647) (off := 0) 0 (by kernel_rfl) rfl (by kernel_rfl)) rfl (fun ac A658 => ?_)
            refine s_one (.pointer (some ⟨g626, 0, none⟩)) A658 S654 (g_field (u := .pointer (some ⟨g626, 0, none⟩)) (by kernel_rfl) (fun _ => by kernel_rfl)) rfl (fun ac A659 => ?_)
            refine s_one (.int .i64 (tLo (lenL (c.x2 - p) c.h2) c.v2)) A659 S654 (g_load (g := g626) (off := 0) 1 (by kernel_rfl) rfl (by kernel_rfl)) rfl (fun ac A660 => ?_)
            refine s_one (.int .i64 (tLo (lenL (p - c.x1) c.h1) c.v1 + (tLo (lenL (c.x2 - p) c.h2) c.v2))) A660 S654 (g_bin (u := .int .i64 (tLo (lenL (p - c.x1) c.h1) c.v1)) (k := .int .i64 (tLo (lenL (c.x2 - p) c.h2) c.v2)) (by kernel_rfl) (by kernel_rfl) (fun _ => by kernel_rfl) (b_add (by omega))) rfl (fun ac A661 => ?_)
            refine s_one (.pointer (some ⟨g647, 1, none⟩)) A661 S654 (g_field (u := .pointer (some ⟨g647, 0, none⟩)) (by kernel_rfl) (fun _ => by kernel_rfl)) rfl (fun ac A662 => ?_)
            refine s_one (.int .i64 (tHi (lenU (p - c.x1) c.h1) c.v1)) A662 S654 (g_load (g := g647) (off := 1) 0 (by kernel_rfl) rfl (by kernel_rfl)) rfl (fun ac A663 => ?_)
            refine s_one (.pointer (some ⟨g626, 1, none⟩)) A663 S654 (g_field (u := .pointer (some ⟨g626, 0, none⟩)) (by kernel_rfl) (fun _ => by kernel_rfl)) rfl (fun ac A664 => ?_)
            refine s_one (.int .i64 (tHi (lenU (c.x2 - p) c.h2) c.v2)) A664 S654 (g_load (g := g626) (off := 1) 1 (by kernel_rfl) rfl (by kernel_rfl)) rfl (fun ac A665 => ?_)
            refine s_one (.int .i64 (tHi (lenU (p - c.x1) c.h1) c.v1 + (tHi (lenU (c.x2 - p) c.h2) c.v2))) A665 S654 (g_bin (u := .int .i64 (tHi (lenU (p - c.x1) c.h1) c.v1)) (k := .int .i64 (tHi (lenU (c.x2 - p) c.h2) c.v2)) (by kernel_rfl) (by kernel_rfl) (fun _ => by kernel_rfl) (b_add (by omega))) rfl (fun ac A666 => ?_)
            refine s_one (.agg #[.int .i64 (tLo (lenL (p - c.x1) c.h1) c.v1 + (tLo (lenL (c.x2 - p) c.h2) c.v2)), .int .i64 (tHi (lenU (p - c.x1) c.h1) c.v1 + (tHi (lenU (c.x2 - p) c.h2) c.v2))]) A666 S654 (g_build (r := [(0, .int .i64 (tLo (lenL (p - c.x1) c.h1) c.v1 + (tLo (lenL (c.x2 - p) c.h2) c.v2))), (1, .int .i64 (tHi (lenU (p - c.x1) c.h1) c.v1 + (tHi (lenU (c.x2 - p) c.h2) c.v2)))]) (by kernel_rfl) (fun _ => by kernel_rfl)) rfl (fun ac A667 => ?_)
            refine s_store (g := g7) (off := 0) (v := .agg #[.int .i64 (tLo (lenL (p - c.x1) c.h1) c.v1 + (tLo (lenL (c.x2 - p) c.h2) c.v2)), .int .i64 (tHi (lenU (p - c.x1) c.h1) c.v1 + (tHi (lenU (c.x2 - p) c.h2) c.v2))]) 2 (#[.int .i64 (tLo (lenL (p - c.x1) c.h1) c.v1 + (tLo (lenL (c.x2 - p) c.h2) c.v2)), .int .i64 (tHi (lenU (p - c.x1) c.h1) c.v1 + (tHi (lenU (c.x2 - p) c.h2) c.v2))]) A667 S654 (by kernel_rfl) (by kernel_rfl) rfl (by kernel_rfl) (fun wc S669 => ?_)
            refine wpList_nil ?_
            refine n_then ?_
            refine wp_ret ?_
            refine fin1 (.agg #[.int .i64 (tLo (lenL (p - c.x1) c.h1) c.v1 + (tLo (lenL (c.x2 - p) c.h2) c.v2)), .int .i64 (tHi (lenU (p - c.x1) c.h1) c.v1 + (tHi (lenU (c.x2 - p) c.h2) c.v2))]) Try.results62 A667 S669 (rv_cell (g := g7) (off := 0) 2 (by kernel_rfl) rfl (by kernel_rfl)) ⟨?_, S669.kp⟩
            rfl
          · refine rs_alloc (#[.int .i64 0, .int .i64 0]) A634 S635 (sub_skip sub_all) sub_all (by kernel_rfl) rfl rfl rfl (fun g673 ac wc A671 S672 => ?_)
            have T674 := S672.sub (sub_skip (sub_skip sub_all)) sub_all
            refine r_1 (i := 19) (by kernel_rfl) ?_
            have q679 := t_bd (l := (lenL (c.x2 - p) c.h2)) (v := c.v2) (by omega) (by omega) (by omega)
            have q680 := tH_bd (l := (lenU (c.x2 - p) c.h2)) (v := c.v2) (by omega) (by omega) (by omega)
            refine rs_call (fs := #[]) (cp := #[]) (r := [(0, .agg #[.int .i64 (lenL (c.x2 - p) c.h2), .int .i64 (lenU (c.x2 - p) c.h2)]), (0, .int .i64 c.v2)]) #[.agg #[.int .i64 (lenL (c.x2 - p) c.h2), .int .i64 (lenU (c.x2 - p) c.h2)], .int .i64 c.v2] (.agg #[.int .i64 (tLo (lenL (c.x2 - p) c.h2) c.v2), .int .i64 (tHi (lenU (c.x2 - p) c.h2) c.v2)]) A671 S672 (sub_skip (sub_skip sub_all)) sub_all (lasting_s (lenL (c.x2 - p) c.h2) (lenU (c.x2 - p) c.h2) c.v2 _ (by omega) (by omega) (by omega) (by omega) (by omega)) Try.call93 rfl rfl (by kernel_rfl) (by kernel_rfl) (by kernel_rfl) rfl (fun ac wc A675 S676 => ?_)
            have T678 := S676.sub (sub_skip (sub_skip sub_all)) sub_all
            refine r_1 (i := 22) (by kernel_rfl) ?_
            refine rs_store (g := g673) (off := 0) (v := .agg #[.int .i64 (tLo (lenL (p - c.x1) c.h1) c.v1), .int .i64 (tHi (lenU (p - c.x1) c.h1) c.v1)]) 0 (#[.int .i64 (tLo (lenL (p - c.x1) c.h1) c.v1), .int .i64 (tHi (lenU (p - c.x1) c.h1) c.v1)]) A675 S676 (sub_skip (sub_skip sub_all)) sub_all (by kernel_rfl) (by kernel_rfl) rfl (by kernel_rfl) rfl rfl (fun wc S682 => ?_)
            have T684 := S682.sub (sub_skip (sub_skip sub_all)) sub_all
            refine r_1 (i := 23) (by kernel_rfl) ?_
            refine rs_store (g := g626) (off := 0) (v := .agg #[.int .i64 (tLo (lenL (c.x2 - p) c.h2) c.v2), .int .i64 (tHi (lenU (c.x2 - p) c.h2) c.v2)]) 1 (#[.int .i64 (tLo (lenL (c.x2 - p) c.h2) c.v2), .int .i64 (tHi (lenU (c.x2 - p) c.h2) c.v2)]) A675 S682 (sub_skip (sub_skip sub_all)) sub_all (by kernel_rfl) (by kernel_rfl) rfl (by kernel_rfl) rfl rfl (fun wc S686 => ?_)
            have T688 := S686.sub (sub_skip (sub_skip sub_all)) sub_all
            refine r_done (by kernel_rfl) ?_
            refine n_then ?_
            refine wp_seq ?_
            refine wp_region_lit ?_
            refine s_one (.pointer (some ⟨g673, 0, none⟩)) A675 S686 (g_field (u := .pointer (some ⟨g673, 0, none⟩)) (by kernel_rfl) (fun _ => by kernel_rfl)) rfl (fun ac A689 => ?_)
            refine s_one (.int .i64 (tLo (lenL (p - c.x1) c.h1) c.v1)) A689 S686 (g_load (g := g673) (off := 0) 0 (by kernel_rfl) rfl (by kernel_rfl)) rfl (fun ac A690 => ?_)
            refine s_one (.pointer (some ⟨g626, 0, none⟩)) A690 S686 (g_field (u := .pointer (some ⟨g626, 0, none⟩)) (by kernel_rfl) (fun _ => by kernel_rfl)) rfl (fun ac A691 => ?_)
            refine s_one (.int .i64 (tLo (lenL (c.x2 - p) c.h2) c.v2)) A691 S686 (g_load (g := g626) (off := 0) 1 (by kernel_rfl) rfl (by kernel_rfl)) rfl (fun ac A692 => ?_)
            refine s_one (.int .i64 (tLo (lenL (p - c.x1) c.h1) c.v1 + (tLo (lenL (c.x2 - p) c.h2) c.v2))) A692 S686 (g_bin (u := .int .i64 (tLo (lenL (p - c.x1) c.h1) c.v1)) (k := .int .i64 (tLo (lenL (c.x2 - p) c.h2) c.v2)) (by kernel_rfl) (by kernel_rfl) (fun _ => by kernel_rfl) (b_add (by omega))) rfl (fun ac A693 => ?_)
            refine s_one (.pointer (some ⟨g673, 1, none⟩)) A693 S686 (g_field (u := .pointer (some ⟨g673, 0, none⟩)) (by kernel_rfl) (fun _ => by kernel_rfl)) rfl (fun ac A694 => ?_)
            refine s_one (.int .i64 (tHi (lenU (p - c.x1) c.h1) c.v1)) A694 S686 (g_load (g := g673) (off := 1) 0 (by kernel_rfl) rfl (by kernel_rfl)) rfl (fun ac A695 => ?_)
            refine s_one (.pointer (some ⟨g626, 1, none⟩)) A695 S686 (g_field (u := .pointer (some ⟨g626, 0, none⟩)) (by kernel_rfl) (fun _ => by kernel_rfl)) rfl (fun ac A696 => ?_)
            refine s_one (.int .i64 (tHi (lenU (c.x2 - p) c.h2) c.v2)) A696 S686 (g_load (g := g626) (off := 1) 1 (by kernel_rfl) rfl (by kernel_rfl)) rfl (fun ac A697 => ?_)
            refine s_one (.int .i64 (tHi (lenU (p - c.x1) c.h1) c.v1 + (tHi (lenU (c.x2 - p) c.h2) c.v2))) A697 S686 (g_bin (u := .int .i64 (tHi (lenU (p - c.x1) c.h1) c.v1)) (k := .int .i64 (tHi (lenU (c.x2 - p) c.h2) c.v2)) (by kernel_rfl) (by kernel_rfl) (fun _ => by kernel_rfl) (b_add (by omega))) rfl (fun ac A698 => ?_)
            refine s_one (.agg #[.int .i64 (tLo (lenL (p - c.x1) c.h1) c.v1 + (tLo (lenL (c.x2 - p) c.h2) c.v2)), .int .i64 (tHi (lenU (p - c.x1) c.h1) c.v1 + (tHi (lenU (c.x2 - p) c.h2) c.v2))]) A698 S686 (g_build (r := [(0, .int .i64 (tLo (lenL (p - c.x1) c.h1) c.v1 + (tLo (lenL (c.x2 - p) c.h2) c.v2))), (1, .int .i64 (tHi (lenU (p - c.x1) c.h1) c.v1 + (tHi (lenU (c.x2 - p) c.h2) c.v2)))]) (by kernel_rfl) (fun _ => by kernel_rfl)) rfl (fun ac A699 => ?_)
            refine s_store (g := g7) (off := 0) (v := .agg #[.int .i64 (tLo (lenL (p - c.x1) c.h1) c.v1 + (tLo (lenL (c.x2 - p) c.h2) c.v2)), .int .i64 (tHi (lenU (p - c.x1) c.h1) c.v1 + (tHi (lenU (c.x2 - p) c.h2) c.v2))]) 2 (#[.int .i64 (tLo (lenL (p - c.x1) c.h1) c.v1 + (tLo (lenL (c.x2 - p) c.h2) c.v2)), .int .i64 (tHi (lenU (p - c.x1) c.h1) c.v1 + (tHi (lenU (c.x2 - p) c.h2) c.v2))]) A699 S686 (by kernel_rfl) (by kernel_rfl) rfl (by kernel_rfl) (fun wc S701 => ?_)
            refine wpList_nil ?_
            refine n_then ?_
            refine wp_ret ?_
            refine fin1 (.agg #[.int .i64 (tLo (lenL (p - c.x1) c.h1) c.v1 + (tLo (lenL (c.x2 - p) c.h2) c.v2)), .int .i64 (tHi (lenU (p - c.x1) c.h1) c.v1 + (tHi (lenU (c.x2 - p) c.h2) c.v2))]) Try.results62 A699 S701 (rv_cell (g := g7) (off := 0) 2 (by kernel_rfl) rfl (by kernel_rfl)) ⟨?_, S701.kp⟩
            rfl
        · refine rs_alloc (#[.int .i64 0, .int .i64 0]) A628 S629 (sub_skip sub_all) sub_all (by kernel_rfl) rfl rfl rfl (fun g705 ac wc A703 S704 => ?_)
          have T706 := S704.sub (sub_skip (sub_skip sub_all)) sub_all
          refine r_1 (i := 16) (by kernel_rfl) ?_
          have q711 := len_bd (x := c.x2 - p) (z := c.h2) (by omega) (by omega)
          refine rs_call (fs := #[]) (cp := #[]) (r := [(0, .int .i64 (c.x2 - p)), (0, .int .i64 c.h2)]) #[.int .i64 (c.x2 - p), .int .i64 c.h2] (.agg #[.int .i64 (lenL (c.x2 - p) c.h2), .int .i64 (lenU (c.x2 - p) c.h2)]) A703 S704 (sub_skip (sub_skip sub_all)) sub_all (lengthOf_s (c.x2 - p) c.h2 _ (by omega) (by omega) (by omega) (by omega)) Try.call92 rfl rfl (by kernel_rfl) (by kernel_rfl) (by kernel_rfl) rfl (fun ac wc A707 S708 => ?_)
          have T710 := S708.sub (sub_skip (sub_skip sub_all)) sub_all
          refine r_1 (i := 19) (by kernel_rfl) ?_
          have q716 := t_bd (l := (lenL (c.x2 - p) c.h2)) (v := c.v2) (by omega) (by omega) (by omega)
          have q717 := tH_bd (l := (lenU (c.x2 - p) c.h2)) (v := c.v2) (by omega) (by omega) (by omega)
          refine rs_call (fs := #[]) (cp := #[]) (r := [(0, .agg #[.int .i64 (lenL (c.x2 - p) c.h2), .int .i64 (lenU (c.x2 - p) c.h2)]), (0, .int .i64 c.v2)]) #[.agg #[.int .i64 (lenL (c.x2 - p) c.h2), .int .i64 (lenU (c.x2 - p) c.h2)], .int .i64 c.v2] (.agg #[.int .i64 (tLo (lenL (c.x2 - p) c.h2) c.v2), .int .i64 (tHi (lenU (c.x2 - p) c.h2) c.v2)]) A707 S708 (sub_skip (sub_skip sub_all)) sub_all (lasting_s (lenL (c.x2 - p) c.h2) (lenU (c.x2 - p) c.h2) c.v2 _ (by omega) (by omega) (by omega) (by omega) (by omega)) Try.call93 rfl rfl (by kernel_rfl) (by kernel_rfl) (by kernel_rfl) rfl (fun ac wc A712 S713 => ?_)
          have T715 := S713.sub (sub_skip (sub_skip sub_all)) sub_all
          refine r_1 (i := 22) (by kernel_rfl) ?_
          refine rs_store (g := g705) (off := 0) (v := .agg #[.int .i64 (tLo (lenL (p - c.x1) c.h1) c.v1), .int .i64 (tHi (lenU (p - c.x1) c.h1) c.v1)]) 0 (#[.int .i64 (tLo (lenL (p - c.x1) c.h1) c.v1), .int .i64 (tHi (lenU (p - c.x1) c.h1) c.v1)]) A712 S713 (sub_skip (sub_skip sub_all)) sub_all (by kernel_rfl) (by kernel_rfl) rfl (by kernel_rfl) rfl rfl (fun wc S719 => ?_)
          have T721 := S719.sub (sub_skip (sub_skip sub_all)) sub_all
          refine r_1 (i := 23) (by kernel_rfl) ?_
          refine rs_store (g := g626) (off := 0) (v := .agg #[.int .i64 (tLo (lenL (c.x2 - p) c.h2) c.v2), .int .i64 (tHi (lenU (c.x2 - p) c.h2) c.v2)]) 1 (#[.int .i64 (tLo (lenL (c.x2 - p) c.h2) c.v2), .int .i64 (tHi (lenU (c.x2 - p) c.h2) c.v2)]) A712 S719 (sub_skip (sub_skip sub_all)) sub_all (by kernel_rfl) (by kernel_rfl) rfl (by kernel_rfl) rfl rfl (fun wc S723 => ?_)
          have T725 := S723.sub (sub_skip (sub_skip sub_all)) sub_all
          refine r_done (by kernel_rfl) ?_
          refine n_then ?_
          refine wp_seq ?_
          refine wp_region_lit ?_
          refine s_one (.pointer (some ⟨g705, 0, none⟩)) A712 S723 (g_field (u := .pointer (some ⟨g705, 0, none⟩)) (by kernel_rfl) (fun _ => by kernel_rfl)) rfl (fun ac A726 => ?_)
          refine s_one (.int .i64 (tLo (lenL (p - c.x1) c.h1) c.v1)) A726 S723 (g_load (g := g705) (off := 0) 0 (by kernel_rfl) rfl (by kernel_rfl)) rfl (fun ac A727 => ?_)
          refine s_one (.pointer (some ⟨g626, 0, none⟩)) A727 S723 (g_field (u := .pointer (some ⟨g626, 0, none⟩)) (by kernel_rfl) (fun _ => by kernel_rfl)) rfl (fun ac A728 => ?_)
          refine s_one (.int .i64 (tLo (lenL (c.x2 - p) c.h2) c.v2)) A728 S723 (g_load (g := g626) (off := 0) 1 (by kernel_rfl) rfl (by kernel_rfl)) rfl (fun ac A729 => ?_)
          refine s_one (.int .i64 (tLo (lenL (p - c.x1) c.h1) c.v1 + (tLo (lenL (c.x2 - p) c.h2) c.v2))) A729 S723 (g_bin (u := .int .i64 (tLo (lenL (p - c.x1) c.h1) c.v1)) (k := .int .i64 (tLo (lenL (c.x2 - p) c.h2) c.v2)) (by kernel_rfl) (by kernel_rfl) (fun _ => by kernel_rfl) (b_add (by omega))) rfl (fun ac A730 => ?_)
          refine s_one (.pointer (some ⟨g705, 1, none⟩)) A730 S723 (g_field (u := .pointer (some ⟨g705, 0, none⟩)) (by kernel_rfl) (fun _ => by kernel_rfl)) rfl (fun ac A731 => ?_)
          refine s_one (.int .i64 (tHi (lenU (p - c.x1) c.h1) c.v1)) A731 S723 (g_load (g := g705) (off := 1) 0 (by kernel_rfl) rfl (by kernel_rfl)) rfl (fun ac A732 => ?_)
          refine s_one (.pointer (some ⟨g626, 1, none⟩)) A732 S723 (g_field (u := .pointer (some ⟨g626, 0, none⟩)) (by kernel_rfl) (fun _ => by kernel_rfl)) rfl (fun ac A733 => ?_)
          refine s_one (.int .i64 (tHi (lenU (c.x2 - p) c.h2) c.v2)) A733 S723 (g_load (g := g626) (off := 1) 1 (by kernel_rfl) rfl (by kernel_rfl)) rfl (fun ac A734 => ?_)
          refine s_one (.int .i64 (tHi (lenU (p - c.x1) c.h1) c.v1 + (tHi (lenU (c.x2 - p) c.h2) c.v2))) A734 S723 (g_bin (u := .int .i64 (tHi (lenU (p - c.x1) c.h1) c.v1)) (k := .int .i64 (tHi (lenU (c.x2 - p) c.h2) c.v2)) (by kernel_rfl) (by kernel_rfl) (fun _ => by kernel_rfl) (b_add (by omega))) rfl (fun ac A735 => ?_)
          refine s_one (.agg #[.int .i64 (tLo (lenL (p - c.x1) c.h1) c.v1 + (tLo (lenL (c.x2 - p) c.h2) c.v2)), .int .i64 (tHi (lenU (p - c.x1) c.h1) c.v1 + (tHi (lenU (c.x2 - p) c.h2) c.v2))]) A735 S723 (g_build (r := [(0, .int .i64 (tLo (lenL (p - c.x1) c.h1) c.v1 + (tLo (lenL (c.x2 - p) c.h2) c.v2))), (1, .int .i64 (tHi (lenU (p - c.x1) c.h1) c.v1 + (tHi (lenU (c.x2 - p) c.h2) c.v2)))]) (by kernel_rfl) (fun _ => by kernel_rfl)) rfl (fun ac A736 => ?_)
          refine s_store (g := g7) (off := 0) (v := .agg #[.int .i64 (tLo (lenL (p - c.x1) c.h1) c.v1 + (tLo (lenL (c.x2 - p) c.h2) c.v2)), .int .i64 (tHi (lenU (p - c.x1) c.h1) c.v1 + (tHi (lenU (c.x2 - p) c.h2) c.v2))]) 2 (#[.int .i64 (tLo (lenL (p - c.x1) c.h1) c.v1 + (tLo (lenL (c.x2 - p) c.h2) c.v2)), .int .i64 (tHi (lenU (p - c.x1) c.h1) c.v1 + (tHi (lenU (c.x2 - p) c.h2) c.v2))]) A736 S723 (by kernel_rfl) (by kernel_rfl) rfl (by kernel_rfl) (fun wc S738 => ?_)
          refine wpList_nil ?_
          refine n_then ?_
          refine wp_ret ?_
          refine fin1 (.agg #[.int .i64 (tLo (lenL (p - c.x1) c.h1) c.v1 + (tLo (lenL (c.x2 - p) c.h2) c.v2)), .int .i64 (tHi (lenU (p - c.x1) c.h1) c.v1 + (tHi (lenU (c.x2 - p) c.h2) c.v2))]) Try.results62 A736 S738 (rv_cell (g := g7) (off := 0) 2 (by kernel_rfl) rfl (by kernel_rfl)) ⟨?_, S738.kp⟩
          rfl
      · refine rs_alloc (#[.int .i64 0, .int .i64 0]) A624 S625 (sub_skip sub_all) sub_all (by kernel_rfl) rfl rfl rfl (fun g742 ac wc A740 S741 => ?_)
        have T743 := S741.sub (sub_skip (sub_skip sub_all)) sub_all
        refine r_1 (i := 9) (by kernel_rfl) ?_
        have q748 := t_bd (l := (lenL (p - c.x1) c.h1)) (v := c.v1) (by omega) (by omega) (by omega)
        have q749 := tH_bd (l := (lenU (p - c.x1) c.h1)) (v := c.v1) (by omega) (by omega) (by omega)
        refine rs_call (fs := #[]) (cp := #[]) (r := [(0, .agg #[.int .i64 (lenL (p - c.x1) c.h1), .int .i64 (lenU (p - c.x1) c.h1)]), (0, .int .i64 c.v1)]) #[.agg #[.int .i64 (lenL (p - c.x1) c.h1), .int .i64 (lenU (p - c.x1) c.h1)], .int .i64 c.v1] (.agg #[.int .i64 (tLo (lenL (p - c.x1) c.h1) c.v1), .int .i64 (tHi (lenU (p - c.x1) c.h1) c.v1)]) A740 S741 (sub_skip (sub_skip sub_all)) sub_all (lasting_s (lenL (p - c.x1) c.h1) (lenU (p - c.x1) c.h1) c.v1 _ (by omega) (by omega) (by omega) (by omega) (by omega)) Try.call93 rfl rfl (by kernel_rfl) (by kernel_rfl) (by kernel_rfl) rfl (fun ac wc A744 S745 => ?_)
        have T747 := S745.sub (sub_skip (sub_skip sub_all)) sub_all
        refine r_1 (i := 16) (by kernel_rfl) ?_
        have q754 := len_bd (x := c.x2 - p) (z := c.h2) (by omega) (by omega)
        refine rs_call (fs := #[]) (cp := #[]) (r := [(0, .int .i64 (c.x2 - p)), (0, .int .i64 c.h2)]) #[.int .i64 (c.x2 - p), .int .i64 c.h2] (.agg #[.int .i64 (lenL (c.x2 - p) c.h2), .int .i64 (lenU (c.x2 - p) c.h2)]) A744 S745 (sub_skip (sub_skip sub_all)) sub_all (lengthOf_s (c.x2 - p) c.h2 _ (by omega) (by omega) (by omega) (by omega)) Try.call92 rfl rfl (by kernel_rfl) (by kernel_rfl) (by kernel_rfl) rfl (fun ac wc A750 S751 => ?_)
        have T753 := S751.sub (sub_skip (sub_skip sub_all)) sub_all
        refine r_1 (i := 19) (by kernel_rfl) ?_
        have q759 := t_bd (l := (lenL (c.x2 - p) c.h2)) (v := c.v2) (by omega) (by omega) (by omega)
        have q760 := tH_bd (l := (lenU (c.x2 - p) c.h2)) (v := c.v2) (by omega) (by omega) (by omega)
        refine rs_call (fs := #[]) (cp := #[]) (r := [(0, .agg #[.int .i64 (lenL (c.x2 - p) c.h2), .int .i64 (lenU (c.x2 - p) c.h2)]), (0, .int .i64 c.v2)]) #[.agg #[.int .i64 (lenL (c.x2 - p) c.h2), .int .i64 (lenU (c.x2 - p) c.h2)], .int .i64 c.v2] (.agg #[.int .i64 (tLo (lenL (c.x2 - p) c.h2) c.v2), .int .i64 (tHi (lenU (c.x2 - p) c.h2) c.v2)]) A750 S751 (sub_skip (sub_skip sub_all)) sub_all (lasting_s (lenL (c.x2 - p) c.h2) (lenU (c.x2 - p) c.h2) c.v2 _ (by omega) (by omega) (by omega) (by omega) (by omega)) Try.call93 rfl rfl (by kernel_rfl) (by kernel_rfl) (by kernel_rfl) rfl (fun ac wc A755 S756 => ?_)
        have T758 := S756.sub (sub_skip (sub_skip sub_all)) sub_all
        refine r_1 (i := 22) (by kernel_rfl) ?_
        refine rs_store (g := g742) (off := 0) (v := .agg #[.int .i64 (tLo (lenL (p - c.x1) c.h1) c.v1), .int .i64 (tHi (lenU (p - c.x1) c.h1) c.v1)]) 0 (#[.int .i64 (tLo (lenL (p - c.x1) c.h1) c.v1), .int .i64 (tHi (lenU (p - c.x1) c.h1) c.v1)]) A755 S756 (sub_skip (sub_skip sub_all)) sub_all (by kernel_rfl) (by kernel_rfl) rfl (by kernel_rfl) rfl rfl (fun wc S762 => ?_)
        have T764 := S762.sub (sub_skip (sub_skip sub_all)) sub_all
        refine r_1 (i := 23) (by kernel_rfl) ?_
        refine rs_store (g := g626) (off := 0) (v := .agg #[.int .i64 (tLo (lenL (c.x2 - p) c.h2) c.v2), .int .i64 (tHi (lenU (c.x2 - p) c.h2) c.v2)]) 1 (#[.int .i64 (tLo (lenL (c.x2 - p) c.h2) c.v2), .int .i64 (tHi (lenU (c.x2 - p) c.h2) c.v2)]) A755 S762 (sub_skip (sub_skip sub_all)) sub_all (by kernel_rfl) (by kernel_rfl) rfl (by kernel_rfl) rfl rfl (fun wc S766 => ?_)
        have T768 := S766.sub (sub_skip (sub_skip sub_all)) sub_all
        refine r_done (by kernel_rfl) ?_
        refine n_then ?_
        refine wp_seq ?_
        refine wp_region_lit ?_
        refine s_one (.pointer (some ⟨g742, 0, none⟩)) A755 S766 (g_field (u := .pointer (some ⟨g742, 0, none⟩)) (by kernel_rfl) (fun _ => by kernel_rfl)) rfl (fun ac A769 => ?_)
        refine s_one (.int .i64 (tLo (lenL (p - c.x1) c.h1) c.v1)) A769 S766 (g_load (g := g742) (off := 0) 0 (by kernel_rfl) rfl (by kernel_rfl)) rfl (fun ac A770 => ?_)
        refine s_one (.pointer (some ⟨g626, 0, none⟩)) A770 S766 (g_field (u := .pointer (some ⟨g626, 0, none⟩)) (by kernel_rfl) (fun _ => by kernel_rfl)) rfl (fun ac A771 => ?_)
        refine s_one (.int .i64 (tLo (lenL (c.x2 - p) c.h2) c.v2)) A771 S766 (g_load (g := g626) (off := 0) 1 (by kernel_rfl) rfl (by kernel_rfl)) rfl (fun ac A772 => ?_)
        refine s_one (.int .i64 (tLo (lenL (p - c.x1) c.h1) c.v1 + (tLo (lenL (c.x2 - p) c.h2) c.v2))) A772 S766 (g_bin (u := .int .i64 (tLo (lenL (p - c.x1) c.h1) c.v1)) (k := .int .i64 (tLo (lenL (c.x2 - p) c.h2) c.v2)) (by kernel_rfl) (by kernel_rfl) (fun _ => by kernel_rfl) (b_add (by omega))) rfl (fun ac A773 => ?_)
        refine s_one (.pointer (some ⟨g742, 1, none⟩)) A773 S766 (g_field (u := .pointer (some ⟨g742, 0, none⟩)) (by kernel_rfl) (fun _ => by kernel_rfl)) rfl (fun ac A774 => ?_)
        refine s_one (.int .i64 (tHi (lenU (p - c.x1) c.h1) c.v1)) A774 S766 (g_load (g := g742) (off := 1) 0 (by kernel_rfl) rfl (by kernel_rfl)) rfl (fun ac A775 => ?_)
        refine s_one (.pointer (some ⟨g626, 1, none⟩)) A775 S766 (g_field (u := .pointer (some ⟨g626, 0, none⟩)) (by kernel_rfl) (fun _ => by kernel_rfl)) rfl (fun ac A776 => ?_)
        refine s_one (.int .i64 (tHi (lenU (c.x2 - p) c.h2) c.v2)) A776 S766 (g_load (g := g626) (off := 1) 1 (by kernel_rfl) rfl (by kernel_rfl)) rfl (fun ac A777 => ?_)
        refine s_one (.int .i64 (tHi (lenU (p - c.x1) c.h1) c.v1 + (tHi (lenU (c.x2 - p) c.h2) c.v2))) A777 S766 (g_bin (u := .int .i64 (tHi (lenU (p - c.x1) c.h1) c.v1)) (k := .int .i64 (tHi (lenU (c.x2 - p) c.h2) c.v2)) (by kernel_rfl) (by kernel_rfl) (fun _ => by kernel_rfl) (b_add (by omega))) rfl (fun ac A778 => ?_)
        refine s_one (.agg #[.int .i64 (tLo (lenL (p - c.x1) c.h1) c.v1 + (tLo (lenL (c.x2 - p) c.h2) c.v2)), .int .i64 (tHi (lenU (p - c.x1) c.h1) c.v1 + (tHi (lenU (c.x2 - p) c.h2) c.v2))]) A778 S766 (g_build (r := [(0, .int .i64 (tLo (lenL (p - c.x1) c.h1) c.v1 + (tLo (lenL (c.x2 - p) c.h2) c.v2))), (1, .int .i64 (tHi (lenU (p - c.x1) c.h1) c.v1 + (tHi (lenU (c.x2 - p) c.h2) c.v2)))]) (by kernel_rfl) (fun _ => by kernel_rfl)) rfl (fun ac A779 => ?_)
        refine s_store (g := g7) (off := 0) (v := .agg #[.int .i64 (tLo (lenL (p - c.x1) c.h1) c.v1 + (tLo (lenL (c.x2 - p) c.h2) c.v2)), .int .i64 (tHi (lenU (p - c.x1) c.h1) c.v1 + (tHi (lenU (c.x2 - p) c.h2) c.v2))]) 2 (#[.int .i64 (tLo (lenL (p - c.x1) c.h1) c.v1 + (tLo (lenL (c.x2 - p) c.h2) c.v2)), .int .i64 (tHi (lenU (p - c.x1) c.h1) c.v1 + (tHi (lenU (c.x2 - p) c.h2) c.v2))]) A779 S766 (by kernel_rfl) (by kernel_rfl) rfl (by kernel_rfl) (fun wc S781 => ?_)
        refine wpList_nil ?_
        refine n_then ?_
        refine wp_ret ?_
        refine fin1 (.agg #[.int .i64 (tLo (lenL (p - c.x1) c.h1) c.v1 + (tLo (lenL (c.x2 - p) c.h2) c.v2)), .int .i64 (tHi (lenU (p - c.x1) c.h1) c.v1 + (tHi (lenU (c.x2 - p) c.h2) c.v2))]) Try.results62 A779 S781 (rv_cell (g := g7) (off := 0) 2 (by kernel_rfl) rfl (by kernel_rfl)) ⟨?_, S781.kp⟩
        rfl
  · refine rs_alloc (#[.int .i64 0, .int .i64 0]) A26 S10 sub_all sub_all (by kernel_rfl) rfl rfl rfl (fun g785 ac wc A783 S784 => ?_)
    have T786 := S784.sub (sub_skip sub_all) sub_all
    refine r_2 (i := 6) (j := 21) (by kernel_rfl) ?_ ?_
    · have q791 := len_bd (x := p - c.x1) (z := c.h1) (by omega) (by omega)
      refine rs_call (fs := #[]) (cp := #[]) (r := [(0, .int .i64 (p - c.x1)), (0, .int .i64 c.h1)]) #[.int .i64 (p - c.x1), .int .i64 c.h1] (.agg #[.int .i64 (lenL (p - c.x1) c.h1), .int .i64 (lenU (p - c.x1) c.h1)]) A783 S784 (sub_skip sub_all) sub_all (lengthOf_s (p - c.x1) c.h1 _ (by omega) (by omega) (by omega) (by omega)) Try.call92 rfl rfl (by kernel_rfl) (by kernel_rfl) (by kernel_rfl) rfl (fun ac wc A787 S788 => ?_)
      have T790 := S788.sub (sub_skip sub_all) sub_all
      refine r_2 (i := 9) (j := 21) (by kernel_rfl) ?_ ?_
      · have q796 := t_bd (l := (lenL (p - c.x1) c.h1)) (v := c.v1) (by omega) (by omega) (by omega)
        have q797 := tH_bd (l := (lenU (p - c.x1) c.h1)) (v := c.v1) (by omega) (by omega) (by omega)
        refine rs_call (fs := #[]) (cp := #[]) (r := [(0, .agg #[.int .i64 (lenL (p - c.x1) c.h1), .int .i64 (lenU (p - c.x1) c.h1)]), (0, .int .i64 c.v1)]) #[.agg #[.int .i64 (lenL (p - c.x1) c.h1), .int .i64 (lenU (p - c.x1) c.h1)], .int .i64 c.v1] (.agg #[.int .i64 (tLo (lenL (p - c.x1) c.h1) c.v1), .int .i64 (tHi (lenU (p - c.x1) c.h1) c.v1)]) A787 S788 (sub_skip sub_all) sub_all (lasting_s (lenL (p - c.x1) c.h1) (lenU (p - c.x1) c.h1) c.v1 _ (by omega) (by omega) (by omega) (by omega) (by omega)) Try.call93 rfl rfl (by kernel_rfl) (by kernel_rfl) (by kernel_rfl) rfl (fun ac wc A792 S793 => ?_)
        have T795 := S793.sub (sub_skip sub_all) sub_all
        refine r_2 (i := 16) (j := 21) (by kernel_rfl) ?_ ?_
        · have q802 := len_bd (x := c.x2 - p) (z := c.h2) (by omega) (by omega)
          refine rs_call (fs := #[]) (cp := #[]) (r := [(0, .int .i64 (c.x2 - p)), (0, .int .i64 c.h2)]) #[.int .i64 (c.x2 - p), .int .i64 c.h2] (.agg #[.int .i64 (lenL (c.x2 - p) c.h2), .int .i64 (lenU (c.x2 - p) c.h2)]) A792 S793 (sub_skip sub_all) sub_all (lengthOf_s (c.x2 - p) c.h2 _ (by omega) (by omega) (by omega) (by omega)) Try.call92 rfl rfl (by kernel_rfl) (by kernel_rfl) (by kernel_rfl) rfl (fun ac wc A798 S799 => ?_)
          have T801 := S799.sub (sub_skip sub_all) sub_all
          refine r_2 (i := 19) (j := 21) (by kernel_rfl) ?_ ?_
          · have q807 := t_bd (l := (lenL (c.x2 - p) c.h2)) (v := c.v2) (by omega) (by omega) (by omega)
            have q808 := tH_bd (l := (lenU (c.x2 - p) c.h2)) (v := c.v2) (by omega) (by omega) (by omega)
            refine rs_call (fs := #[]) (cp := #[]) (r := [(0, .agg #[.int .i64 (lenL (c.x2 - p) c.h2), .int .i64 (lenU (c.x2 - p) c.h2)]), (0, .int .i64 c.v2)]) #[.agg #[.int .i64 (lenL (c.x2 - p) c.h2), .int .i64 (lenU (c.x2 - p) c.h2)], .int .i64 c.v2] (.agg #[.int .i64 (tLo (lenL (c.x2 - p) c.h2) c.v2), .int .i64 (tHi (lenU (c.x2 - p) c.h2) c.v2)]) A798 S799 (sub_skip sub_all) sub_all (lasting_s (lenL (c.x2 - p) c.h2) (lenU (c.x2 - p) c.h2) c.v2 _ (by omega) (by omega) (by omega) (by omega) (by omega)) Try.call93 rfl rfl (by kernel_rfl) (by kernel_rfl) (by kernel_rfl) rfl (fun ac wc A803 S804 => ?_)
            have T806 := S804.sub (sub_skip sub_all) sub_all
            refine r_1 (i := 21) (by kernel_rfl) ?_
            refine rs_alloc (#[.int .i64 0, .int .i64 0]) A803 S804 (sub_skip sub_all) sub_all (by kernel_rfl) rfl rfl rfl (fun g811 ac wc A809 S810 => ?_)
            have T812 := S810.sub (sub_skip (sub_skip sub_all)) sub_all
            refine r_1 (i := 22) (by kernel_rfl) ?_
            refine rs_store (g := g785) (off := 0) (v := .agg #[.int .i64 (tLo (lenL (p - c.x1) c.h1) c.v1), .int .i64 (tHi (lenU (p - c.x1) c.h1) c.v1)]) 1 (#[.int .i64 (tLo (lenL (p - c.x1) c.h1) c.v1), .int .i64 (tHi (lenU (p - c.x1) c.h1) c.v1)]) A809 S810 (sub_skip (sub_skip sub_all)) sub_all (by kernel_rfl) (by kernel_rfl) rfl (by kernel_rfl) rfl rfl (fun wc S814 => ?_)
            have T816 := S814.sub (sub_skip (sub_skip sub_all)) sub_all
            refine r_1 (i := 23) (by kernel_rfl) ?_
            refine rs_store (g := g811) (off := 0) (v := .agg #[.int .i64 (tLo (lenL (c.x2 - p) c.h2) c.v2), .int .i64 (tHi (lenU (c.x2 - p) c.h2) c.v2)]) 0 (#[.int .i64 (tLo (lenL (c.x2 - p) c.h2) c.v2), .int .i64 (tHi (lenU (c.x2 - p) c.h2) c.v2)]) A809 S814 (sub_skip (sub_skip sub_all)) sub_all (by kernel_rfl) (by kernel_rfl) rfl (by kernel_rfl) rfl rfl (fun wc S818 => ?_)
            have T820 := S818.sub (sub_skip (sub_skip sub_all)) sub_all
            refine r_done (by kernel_rfl) ?_
            refine n_then ?_
            refine wp_seq ?_
            refine wp_region_lit ?_
            refine s_one (.pointer (some ⟨g785, 0, none⟩)) A809 S818 (g_field (u := .pointer (some ⟨g785, 0, none⟩)) (by kernel_rfl) (fun _ => by kernel_rfl)) rfl (fun ac A821 => ?_)
            refine s_one (.int .i64 (tLo (lenL (p - c.x1) c.h1) c.v1)) A821 S818 (g_load (g := g785) (off := 0) 1 (by kernel_rfl) rfl (by kernel_rfl)) rfl (fun ac A822 => ?_)
            refine s_one (.pointer (some ⟨g811, 0, none⟩)) A822 S818 (g_field (u := .pointer (some ⟨g811, 0, none⟩)) (by kernel_rfl) (fun _ => by kernel_rfl)) rfl (fun ac A823 => ?_)
            refine s_one (.int .i64 (tLo (lenL (c.x2 - p) c.h2) c.v2)) A823 S818 (g_load (g := g811) (off := 0) 0 (by kernel_rfl) rfl (by kernel_rfl)) rfl (fun ac A824 => ?_)
            refine s_one (.int .i64 (tLo (lenL (p - c.x1) c.h1) c.v1 + (tLo (lenL (c.x2 - p) c.h2) c.v2))) A824 S818 (g_bin (u := .int .i64 (tLo (lenL (p - c.x1) c.h1) c.v1)) (k := .int .i64 (tLo (lenL (c.x2 - p) c.h2) c.v2)) (by kernel_rfl) (by kernel_rfl) (fun _ => by kernel_rfl) (b_add (by omega))) rfl (fun ac A825 => ?_)
            refine s_one (.pointer (some ⟨g785, 1, none⟩)) A825 S818 (g_field (u := .pointer (some ⟨g785, 0, none⟩)) (by kernel_rfl) (fun _ => by kernel_rfl)) rfl (fun ac A826 => ?_)
            refine s_one (.int .i64 (tHi (lenU (p - c.x1) c.h1) c.v1)) A826 S818 (g_load (g := g785) (off := 1) 1 (by kernel_rfl) rfl (by kernel_rfl)) rfl (fun ac A827 => ?_)
            refine s_one (.pointer (some ⟨g811, 1, none⟩)) A827 S818 (g_field (u := .pointer (some ⟨g811, 0, none⟩)) (by kernel_rfl) (fun _ => by kernel_rfl)) rfl (fun ac A828 => ?_)
            refine s_one (.int .i64 (tHi (lenU (c.x2 - p) c.h2) c.v2)) A828 S818 (g_load (g := g811) (off := 1) 0 (by kernel_rfl) rfl (by kernel_rfl)) rfl (fun ac A829 => ?_)
            refine s_one (.int .i64 (tHi (lenU (p - c.x1) c.h1) c.v1 + (tHi (lenU (c.x2 - p) c.h2) c.v2))) A829 S818 (g_bin (u := .int .i64 (tHi (lenU (p - c.x1) c.h1) c.v1)) (k := .int .i64 (tHi (lenU (c.x2 - p) c.h2) c.v2)) (by kernel_rfl) (by kernel_rfl) (fun _ => by kernel_rfl) (b_add (by omega))) rfl (fun ac A830 => ?_)
            refine s_one (.agg #[.int .i64 (tLo (lenL (p - c.x1) c.h1) c.v1 + (tLo (lenL (c.x2 - p) c.h2) c.v2)), .int .i64 (tHi (lenU (p - c.x1) c.h1) c.v1 + (tHi (lenU (c.x2 - p) c.h2) c.v2))]) A830 S818 (g_build (r := [(0, .int .i64 (tLo (lenL (p - c.x1) c.h1) c.v1 + (tLo (lenL (c.x2 - p) c.h2) c.v2))), (1, .int .i64 (tHi (lenU (p - c.x1) c.h1) c.v1 + (tHi (lenU (c.x2 - p) c.h2) c.v2)))]) (by kernel_rfl) (fun _ => by kernel_rfl)) rfl (fun ac A831 => ?_)
            refine s_store (g := g7) (off := 0) (v := .agg #[.int .i64 (tLo (lenL (p - c.x1) c.h1) c.v1 + (tLo (lenL (c.x2 - p) c.h2) c.v2)), .int .i64 (tHi (lenU (p - c.x1) c.h1) c.v1 + (tHi (lenU (c.x2 - p) c.h2) c.v2))]) 2 (#[.int .i64 (tLo (lenL (p - c.x1) c.h1) c.v1 + (tLo (lenL (c.x2 - p) c.h2) c.v2)), .int .i64 (tHi (lenU (p - c.x1) c.h1) c.v1 + (tHi (lenU (c.x2 - p) c.h2) c.v2))]) A831 S818 (by kernel_rfl) (by kernel_rfl) rfl (by kernel_rfl) (fun wc S833 => ?_)
            refine wpList_nil ?_
            refine n_then ?_
            refine wp_ret ?_
            refine fin1 (.agg #[.int .i64 (tLo (lenL (p - c.x1) c.h1) c.v1 + (tLo (lenL (c.x2 - p) c.h2) c.v2)), .int .i64 (tHi (lenU (p - c.x1) c.h1) c.v1 + (tHi (lenU (c.x2 - p) c.h2) c.v2))]) Try.results62 A831 S833 (rv_cell (g := g7) (off := 0) 2 (by kernel_rfl) rfl (by kernel_rfl)) ⟨?_, S833.kp⟩
            rfl
          · refine rs_alloc (#[.int .i64 0, .int .i64 0]) A798 S799 (sub_skip sub_all) sub_all (by kernel_rfl) rfl rfl rfl (fun g837 ac wc A835 S836 => ?_)
            have T838 := S836.sub (sub_skip (sub_skip sub_all)) sub_all
            refine r_1 (i := 19) (by kernel_rfl) ?_
            have q843 := t_bd (l := (lenL (c.x2 - p) c.h2)) (v := c.v2) (by omega) (by omega) (by omega)
            have q844 := tH_bd (l := (lenU (c.x2 - p) c.h2)) (v := c.v2) (by omega) (by omega) (by omega)
            refine rs_call (fs := #[]) (cp := #[]) (r := [(0, .agg #[.int .i64 (lenL (c.x2 - p) c.h2), .int .i64 (lenU (c.x2 - p) c.h2)]), (0, .int .i64 c.v2)]) #[.agg #[.int .i64 (lenL (c.x2 - p) c.h2), .int .i64 (lenU (c.x2 - p) c.h2)], .int .i64 c.v2] (.agg #[.int .i64 (tLo (lenL (c.x2 - p) c.h2) c.v2), .int .i64 (tHi (lenU (c.x2 - p) c.h2) c.v2)]) A835 S836 (sub_skip (sub_skip sub_all)) sub_all (lasting_s (lenL (c.x2 - p) c.h2) (lenU (c.x2 - p) c.h2) c.v2 _ (by omega) (by omega) (by omega) (by omega) (by omega)) Try.call93 rfl rfl (by kernel_rfl) (by kernel_rfl) (by kernel_rfl) rfl (fun ac wc A839 S840 => ?_)
            have T842 := S840.sub (sub_skip (sub_skip sub_all)) sub_all
            refine r_1 (i := 22) (by kernel_rfl) ?_
            refine rs_store (g := g785) (off := 0) (v := .agg #[.int .i64 (tLo (lenL (p - c.x1) c.h1) c.v1), .int .i64 (tHi (lenU (p - c.x1) c.h1) c.v1)]) 1 (#[.int .i64 (tLo (lenL (p - c.x1) c.h1) c.v1), .int .i64 (tHi (lenU (p - c.x1) c.h1) c.v1)]) A839 S840 (sub_skip (sub_skip sub_all)) sub_all (by kernel_rfl) (by kernel_rfl) rfl (by kernel_rfl) rfl rfl (fun wc S846 => ?_)
            have T848 := S846.sub (sub_skip (sub_skip sub_all)) sub_all
            refine r_1 (i := 23) (by kernel_rfl) ?_
            refine rs_store (g := g837) (off := 0) (v := .agg #[.int .i64 (tLo (lenL (c.x2 - p) c.h2) c.v2), .int .i64 (tHi (lenU (c.x2 - p) c.h2) c.v2)]) 0 (#[.int .i64 (tLo (lenL (c.x2 - p) c.h2) c.v2), .int .i64 (tHi (lenU (c.x2 - p) c.h2) c.v2)]) A839 S846 (sub_skip (sub_skip sub_all)) sub_all (by kernel_rfl) (by kernel_rfl) rfl (by kernel_rfl) rfl rfl (fun wc S850 => ?_)
            have T852 := S850.sub (sub_skip (sub_skip sub_all)) sub_all
            refine r_done (by kernel_rfl) ?_
            refine n_then ?_
            refine wp_seq ?_
            refine wp_region_lit ?_
            refine s_one (.pointer (some ⟨g785, 0, none⟩)) A839 S850 (g_field (u := .pointer (some ⟨g785, 0, none⟩)) (by kernel_rfl) (fun _ => by kernel_rfl)) rfl (fun ac A853 => ?_)
            refine s_one (.int .i64 (tLo (lenL (p - c.x1) c.h1) c.v1)) A853 S850 (g_load (g := g785) (off := 0) 1 (by kernel_rfl) rfl (by kernel_rfl)) rfl (fun ac A854 => ?_)
            refine s_one (.pointer (some ⟨g837, 0, none⟩)) A854 S850 (g_field (u := .pointer (some ⟨g837, 0, none⟩)) (by kernel_rfl) (fun _ => by kernel_rfl)) rfl (fun ac A855 => ?_)
            refine s_one (.int .i64 (tLo (lenL (c.x2 - p) c.h2) c.v2)) A855 S850 (g_load (g := g837) (off := 0) 0 (by kernel_rfl) rfl (by kernel_rfl)) rfl (fun ac A856 => ?_)
            refine s_one (.int .i64 (tLo (lenL (p - c.x1) c.h1) c.v1 + (tLo (lenL (c.x2 - p) c.h2) c.v2))) A856 S850 (g_bin (u := .int .i64 (tLo (lenL (p - c.x1) c.h1) c.v1)) (k := .int .i64 (tLo (lenL (c.x2 - p) c.h2) c.v2)) (by kernel_rfl) (by kernel_rfl) (fun _ => by kernel_rfl) (b_add (by omega))) rfl (fun ac A857 => ?_)
            refine s_one (.pointer (some ⟨g785, 1, none⟩)) A857 S850 (g_field (u := .pointer (some ⟨g785, 0, none⟩)) (by kernel_rfl) (fun _ => by kernel_rfl)) rfl (fun ac A858 => ?_)
            refine s_one (.int .i64 (tHi (lenU (p - c.x1) c.h1) c.v1)) A858 S850 (g_load (g := g785) (off := 1) 1 (by kernel_rfl) rfl (by kernel_rfl)) rfl (fun ac A859 => ?_)
            refine s_one (.pointer (some ⟨g837, 1, none⟩)) A859 S850 (g_field (u := .pointer (some ⟨g837, 0, none⟩)) (by kernel_rfl) (fun _ => by kernel_rfl)) rfl (fun ac A860 => ?_)
            refine s_one (.int .i64 (tHi (lenU (c.x2 - p) c.h2) c.v2)) A860 S850 (g_load (g := g837) (off := 1) 0 (by kernel_rfl) rfl (by kernel_rfl)) rfl (fun ac A861 => ?_)
            refine s_one (.int .i64 (tHi (lenU (p - c.x1) c.h1) c.v1 + (tHi (lenU (c.x2 - p) c.h2) c.v2))) A861 S850 (g_bin (u := .int .i64 (tHi (lenU (p - c.x1) c.h1) c.v1)) (k := .int .i64 (tHi (lenU (c.x2 - p) c.h2) c.v2)) (by kernel_rfl) (by kernel_rfl) (fun _ => by kernel_rfl) (b_add (by omega))) rfl (fun ac A862 => ?_)
            refine s_one (.agg #[.int .i64 (tLo (lenL (p - c.x1) c.h1) c.v1 + (tLo (lenL (c.x2 - p) c.h2) c.v2)), .int .i64 (tHi (lenU (p - c.x1) c.h1) c.v1 + (tHi (lenU (c.x2 - p) c.h2) c.v2))]) A862 S850 (g_build (r := [(0, .int .i64 (tLo (lenL (p - c.x1) c.h1) c.v1 + (tLo (lenL (c.x2 - p) c.h2) c.v2))), (1, .int .i64 (tHi (lenU (p - c.x1) c.h1) c.v1 + (tHi (lenU (c.x2 - p) c.h2) c.v2)))]) (by kernel_rfl) (fun _ => by kernel_rfl)) rfl (fun ac A863 => ?_)
            refine s_store (g := g7) (off := 0) (v := .agg #[.int .i64 (tLo (lenL (p - c.x1) c.h1) c.v1 + (tLo (lenL (c.x2 - p) c.h2) c.v2)), .int .i64 (tHi (lenU (p - c.x1) c.h1) c.v1 + (tHi (lenU (c.x2 - p) c.h2) c.v2))]) 2 (#[.int .i64 (tLo (lenL (p - c.x1) c.h1) c.v1 + (tLo (lenL (c.x2 - p) c.h2) c.v2)), .int .i64 (tHi (lenU (p - c.x1) c.h1) c.v1 + (tHi (lenU (c.x2 - p) c.h2) c.v2))]) A863 S850 (by kernel_rfl) (by kernel_rfl) rfl (by kernel_rfl) (fun wc S865 => ?_)
            refine wpList_nil ?_
            refine n_then ?_
            refine wp_ret ?_
            refine fin1 (.agg #[.int .i64 (tLo (lenL (p - c.x1) c.h1) c.v1 + (tLo (lenL (c.x2 - p) c.h2) c.v2)), .int .i64 (tHi (lenU (p - c.x1) c.h1) c.v1 + (tHi (lenU (c.x2 - p) c.h2) c.v2))]) Try.results62 A863 S865 (rv_cell (g := g7) (off := 0) 2 (by kernel_rfl) rfl (by kernel_rfl)) ⟨?_, S865.kp⟩
            rfl
        · refine rs_alloc (#[.int .i64 0, .int .i64 0]) A792 S793 (sub_skip sub_all) sub_all (by kernel_rfl) rfl rfl rfl (fun g869 ac wc A867 S868 => ?_)
          have T870 := S868.sub (sub_skip (sub_skip sub_all)) sub_all
          refine r_1 (i := 16) (by kernel_rfl) ?_
          have q875 := len_bd (x := c.x2 - p) (z := c.h2) (by omega) (by omega)
          refine rs_call (fs := #[]) (cp := #[]) (r := [(0, .int .i64 (c.x2 - p)), (0, .int .i64 c.h2)]) #[.int .i64 (c.x2 - p), .int .i64 c.h2] (.agg #[.int .i64 (lenL (c.x2 - p) c.h2), .int .i64 (lenU (c.x2 - p) c.h2)]) A867 S868 (sub_skip (sub_skip sub_all)) sub_all (lengthOf_s (c.x2 - p) c.h2 _ (by omega) (by omega) (by omega) (by omega)) Try.call92 rfl rfl (by kernel_rfl) (by kernel_rfl) (by kernel_rfl) rfl (fun ac wc A871 S872 => ?_)
          have T874 := S872.sub (sub_skip (sub_skip sub_all)) sub_all
          refine r_1 (i := 19) (by kernel_rfl) ?_
          have q880 := t_bd (l := (lenL (c.x2 - p) c.h2)) (v := c.v2) (by omega) (by omega) (by omega)
          have q881 := tH_bd (l := (lenU (c.x2 - p) c.h2)) (v := c.v2) (by omega) (by omega) (by omega)
          refine rs_call (fs := #[]) (cp := #[]) (r := [(0, .agg #[.int .i64 (lenL (c.x2 - p) c.h2), .int .i64 (lenU (c.x2 - p) c.h2)]), (0, .int .i64 c.v2)]) #[.agg #[.int .i64 (lenL (c.x2 - p) c.h2), .int .i64 (lenU (c.x2 - p) c.h2)], .int .i64 c.v2] (.agg #[.int .i64 (tLo (lenL (c.x2 - p) c.h2) c.v2), .int .i64 (tHi (lenU (c.x2 - p) c.h2) c.v2)]) A871 S872 (sub_skip (sub_skip sub_all)) sub_all (lasting_s (lenL (c.x2 - p) c.h2) (lenU (c.x2 - p) c.h2) c.v2 _ (by omega) (by omega) (by omega) (by omega) (by omega)) Try.call93 rfl rfl (by kernel_rfl) (by kernel_rfl) (by kernel_rfl) rfl (fun ac wc A876 S877 => ?_)
          have T879 := S877.sub (sub_skip (sub_skip sub_all)) sub_all
          refine r_1 (i := 22) (by kernel_rfl) ?_
          refine rs_store (g := g785) (off := 0) (v := .agg #[.int .i64 (tLo (lenL (p - c.x1) c.h1) c.v1), .int .i64 (tHi (lenU (p - c.x1) c.h1) c.v1)]) 1 (#[.int .i64 (tLo (lenL (p - c.x1) c.h1) c.v1), .int .i64 (tHi (lenU (p - c.x1) c.h1) c.v1)]) A876 S877 (sub_skip (sub_skip sub_all)) sub_all (by kernel_rfl) (by kernel_rfl) rfl (by kernel_rfl) rfl rfl (fun wc S883 => ?_)
          have T885 := S883.sub (sub_skip (sub_skip sub_all)) sub_all
          refine r_1 (i := 23) (by kernel_rfl) ?_
          refine rs_store (g := g869) (off := 0) (v := .agg #[.int .i64 (tLo (lenL (c.x2 - p) c.h2) c.v2), .int .i64 (tHi (lenU (c.x2 - p) c.h2) c.v2)]) 0 (#[.int .i64 (tLo (lenL (c.x2 - p) c.h2) c.v2), .int .i64 (tHi (lenU (c.x2 - p) c.h2) c.v2)]) A876 S883 (sub_skip (sub_skip sub_all)) sub_all (by kernel_rfl) (by kernel_rfl) rfl (by kernel_rfl) rfl rfl (fun wc S887 => ?_)
          have T889 := S887.sub (sub_skip (sub_skip sub_all)) sub_all
          refine r_done (by kernel_rfl) ?_
          refine n_then ?_
          refine wp_seq ?_
          refine wp_region_lit ?_
          refine s_one (.pointer (some ⟨g785, 0, none⟩)) A876 S887 (g_field (u := .pointer (some ⟨g785, 0, none⟩)) (by kernel_rfl) (fun _ => by kernel_rfl)) rfl (fun ac A890 => ?_)
          refine s_one (.int .i64 (tLo (lenL (p - c.x1) c.h1) c.v1)) A890 S887 (g_load (g := g785) (off := 0) 1 (by kernel_rfl) rfl (by kernel_rfl)) rfl (fun ac A891 => ?_)
          refine s_one (.pointer (some ⟨g869, 0, none⟩)) A891 S887 (g_field (u := .pointer (some ⟨g869, 0, none⟩)) (by kernel_rfl) (fun _ => by kernel_rfl)) rfl (fun ac A892 => ?_)
          refine s_one (.int .i64 (tLo (lenL (c.x2 - p) c.h2) c.v2)) A892 S887 (g_load (g := g869) (off := 0) 0 (by kernel_rfl) rfl (by kernel_rfl)) rfl (fun ac A893 => ?_)
          refine s_one (.int .i64 (tLo (lenL (p - c.x1) c.h1) c.v1 + (tLo (lenL (c.x2 - p) c.h2) c.v2))) A893 S887 (g_bin (u := .int .i64 (tLo (lenL (p - c.x1) c.h1) c.v1)) (k := .int .i64 (tLo (lenL (c.x2 - p) c.h2) c.v2)) (by kernel_rfl) (by kernel_rfl) (fun _ => by kernel_rfl) (b_add (by omega))) rfl (fun ac A894 => ?_)
          refine s_one (.pointer (some ⟨g785, 1, none⟩)) A894 S887 (g_field (u := .pointer (some ⟨g785, 0, none⟩)) (by kernel_rfl) (fun _ => by kernel_rfl)) rfl (fun ac A895 => ?_)
          refine s_one (.int .i64 (tHi (lenU (p - c.x1) c.h1) c.v1)) A895 S887 (g_load (g := g785) (off := 1) 1 (by kernel_rfl) rfl (by kernel_rfl)) rfl (fun ac A896 => ?_)
          refine s_one (.pointer (some ⟨g869, 1, none⟩)) A896 S887 (g_field (u := .pointer (some ⟨g869, 0, none⟩)) (by kernel_rfl) (fun _ => by kernel_rfl)) rfl (fun ac A897 => ?_)
          refine s_one (.int .i64 (tHi (lenU (c.x2 - p) c.h2) c.v2)) A897 S887 (g_load (g := g869) (off := 1) 0 (by kernel_rfl) rfl (by kernel_rfl)) rfl (fun ac A898 => ?_)
          refine s_one (.int .i64 (tHi (lenU (p - c.x1) c.h1) c.v1 + (tHi (lenU (c.x2 - p) c.h2) c.v2))) A898 S887 (g_bin (u := .int .i64 (tHi (lenU (p - c.x1) c.h1) c.v1)) (k := .int .i64 (tHi (lenU (c.x2 - p) c.h2) c.v2)) (by kernel_rfl) (by kernel_rfl) (fun _ => by kernel_rfl) (b_add (by omega))) rfl (fun ac A899 => ?_)
          refine s_one (.agg #[.int .i64 (tLo (lenL (p - c.x1) c.h1) c.v1 + (tLo (lenL (c.x2 - p) c.h2) c.v2)), .int .i64 (tHi (lenU (p - c.x1) c.h1) c.v1 + (tHi (lenU (c.x2 - p) c.h2) c.v2))]) A899 S887 (g_build (r := [(0, .int .i64 (tLo (lenL (p - c.x1) c.h1) c.v1 + (tLo (lenL (c.x2 - p) c.h2) c.v2))), (1, .int .i64 (tHi (lenU (p - c.x1) c.h1) c.v1 + (tHi (lenU (c.x2 - p) c.h2) c.v2)))]) (by kernel_rfl) (fun _ => by kernel_rfl)) rfl (fun ac A900 => ?_)
          refine s_store (g := g7) (off := 0) (v := .agg #[.int .i64 (tLo (lenL (p - c.x1) c.h1) c.v1 + (tLo (lenL (c.x2 - p) c.h2) c.v2)), .int .i64 (tHi (lenU (p - c.x1) c.h1) c.v1 + (tHi (lenU (c.x2 - p) c.h2) c.v2))]) 2 (#[.int .i64 (tLo (lenL (p - c.x1) c.h1) c.v1 + (tLo (lenL (c.x2 - p) c.h2) c.v2)), .int .i64 (tHi (lenU (p - c.x1) c.h1) c.v1 + (tHi (lenU (c.x2 - p) c.h2) c.v2))]) A900 S887 (by kernel_rfl) (by kernel_rfl) rfl (by kernel_rfl) (fun wc S902 => ?_)
          refine wpList_nil ?_
          refine n_then ?_
          refine wp_ret ?_
          refine fin1 (.agg #[.int .i64 (tLo (lenL (p - c.x1) c.h1) c.v1 + (tLo (lenL (c.x2 - p) c.h2) c.v2)), .int .i64 (tHi (lenU (p - c.x1) c.h1) c.v1 + (tHi (lenU (c.x2 - p) c.h2) c.v2))]) Try.results62 A900 S902 (rv_cell (g := g7) (off := 0) 2 (by kernel_rfl) rfl (by kernel_rfl)) ⟨?_, S902.kp⟩
          rfl
      · refine rs_alloc (#[.int .i64 0, .int .i64 0]) A787 S788 (sub_skip sub_all) sub_all (by kernel_rfl) rfl rfl rfl (fun g906 ac wc A904 S905 => ?_)
        have T907 := S905.sub (sub_skip (sub_skip sub_all)) sub_all
        refine r_1 (i := 9) (by kernel_rfl) ?_
        have q912 := t_bd (l := (lenL (p - c.x1) c.h1)) (v := c.v1) (by omega) (by omega) (by omega)
        have q913 := tH_bd (l := (lenU (p - c.x1) c.h1)) (v := c.v1) (by omega) (by omega) (by omega)
        refine rs_call (fs := #[]) (cp := #[]) (r := [(0, .agg #[.int .i64 (lenL (p - c.x1) c.h1), .int .i64 (lenU (p - c.x1) c.h1)]), (0, .int .i64 c.v1)]) #[.agg #[.int .i64 (lenL (p - c.x1) c.h1), .int .i64 (lenU (p - c.x1) c.h1)], .int .i64 c.v1] (.agg #[.int .i64 (tLo (lenL (p - c.x1) c.h1) c.v1), .int .i64 (tHi (lenU (p - c.x1) c.h1) c.v1)]) A904 S905 (sub_skip (sub_skip sub_all)) sub_all (lasting_s (lenL (p - c.x1) c.h1) (lenU (p - c.x1) c.h1) c.v1 _ (by omega) (by omega) (by omega) (by omega) (by omega)) Try.call93 rfl rfl (by kernel_rfl) (by kernel_rfl) (by kernel_rfl) rfl (fun ac wc A908 S909 => ?_)
        have T911 := S909.sub (sub_skip (sub_skip sub_all)) sub_all
        refine r_1 (i := 16) (by kernel_rfl) ?_
        have q918 := len_bd (x := c.x2 - p) (z := c.h2) (by omega) (by omega)
        refine rs_call (fs := #[]) (cp := #[]) (r := [(0, .int .i64 (c.x2 - p)), (0, .int .i64 c.h2)]) #[.int .i64 (c.x2 - p), .int .i64 c.h2] (.agg #[.int .i64 (lenL (c.x2 - p) c.h2), .int .i64 (lenU (c.x2 - p) c.h2)]) A908 S909 (sub_skip (sub_skip sub_all)) sub_all (lengthOf_s (c.x2 - p) c.h2 _ (by omega) (by omega) (by omega) (by omega)) Try.call92 rfl rfl (by kernel_rfl) (by kernel_rfl) (by kernel_rfl) rfl (fun ac wc A914 S915 => ?_)
        have T917 := S915.sub (sub_skip (sub_skip sub_all)) sub_all
        refine r_1 (i := 19) (by kernel_rfl) ?_
        have q923 := t_bd (l := (lenL (c.x2 - p) c.h2)) (v := c.v2) (by omega) (by omega) (by omega)
        have q924 := tH_bd (l := (lenU (c.x2 - p) c.h2)) (v := c.v2) (by omega) (by omega) (by omega)
        refine rs_call (fs := #[]) (cp := #[]) (r := [(0, .agg #[.int .i64 (lenL (c.x2 - p) c.h2), .int .i64 (lenU (c.x2 - p) c.h2)]), (0, .int .i64 c.v2)]) #[.agg #[.int .i64 (lenL (c.x2 - p) c.h2), .int .i64 (lenU (c.x2 - p) c.h2)], .int .i64 c.v2] (.agg #[.int .i64 (tLo (lenL (c.x2 - p) c.h2) c.v2), .int .i64 (tHi (lenU (c.x2 - p) c.h2) c.v2)]) A914 S915 (sub_skip (sub_skip sub_all)) sub_all (lasting_s (lenL (c.x2 - p) c.h2) (lenU (c.x2 - p) c.h2) c.v2 _ (by omega) (by omega) (by omega) (by omega) (by omega)) Try.call93 rfl rfl (by kernel_rfl) (by kernel_rfl) (by kernel_rfl) rfl (fun ac wc A919 S920 => ?_)
        have T922 := S920.sub (sub_skip (sub_skip sub_all)) sub_all
        refine r_1 (i := 22) (by kernel_rfl) ?_
        refine rs_store (g := g785) (off := 0) (v := .agg #[.int .i64 (tLo (lenL (p - c.x1) c.h1) c.v1), .int .i64 (tHi (lenU (p - c.x1) c.h1) c.v1)]) 1 (#[.int .i64 (tLo (lenL (p - c.x1) c.h1) c.v1), .int .i64 (tHi (lenU (p - c.x1) c.h1) c.v1)]) A919 S920 (sub_skip (sub_skip sub_all)) sub_all (by kernel_rfl) (by kernel_rfl) rfl (by kernel_rfl) rfl rfl (fun wc S926 => ?_)
        have T928 := S926.sub (sub_skip (sub_skip sub_all)) sub_all
        refine r_1 (i := 23) (by kernel_rfl) ?_
        refine rs_store (g := g906) (off := 0) (v := .agg #[.int .i64 (tLo (lenL (c.x2 - p) c.h2) c.v2), .int .i64 (tHi (lenU (c.x2 - p) c.h2) c.v2)]) 0 (#[.int .i64 (tLo (lenL (c.x2 - p) c.h2) c.v2), .int .i64 (tHi (lenU (c.x2 - p) c.h2) c.v2)]) A919 S926 (sub_skip (sub_skip sub_all)) sub_all (by kernel_rfl) (by kernel_rfl) rfl (by kernel_rfl) rfl rfl (fun wc S930 => ?_)
        have T932 := S930.sub (sub_skip (sub_skip sub_all)) sub_all
        refine r_done (by kernel_rfl) ?_
        refine n_then ?_
        refine wp_seq ?_
        refine wp_region_lit ?_
        refine s_one (.pointer (some ⟨g785, 0, none⟩)) A919 S930 (g_field (u := .pointer (some ⟨g785, 0, none⟩)) (by kernel_rfl) (fun _ => by kernel_rfl)) rfl (fun ac A933 => ?_)
        refine s_one (.int .i64 (tLo (lenL (p - c.x1) c.h1) c.v1)) A933 S930 (g_load (g := g785) (off := 0) 1 (by kernel_rfl) rfl (by kernel_rfl)) rfl (fun ac A934 => ?_)
        refine s_one (.pointer (some ⟨g906, 0, none⟩)) A934 S930 (g_field (u := .pointer (some ⟨g906, 0, none⟩)) (by kernel_rfl) (fun _ => by kernel_rfl)) rfl (fun ac A935 => ?_)
        refine s_one (.int .i64 (tLo (lenL (c.x2 - p) c.h2) c.v2)) A935 S930 (g_load (g := g906) (off := 0) 0 (by kernel_rfl) rfl (by kernel_rfl)) rfl (fun ac A936 => ?_)
        refine s_one (.int .i64 (tLo (lenL (p - c.x1) c.h1) c.v1 + (tLo (lenL (c.x2 - p) c.h2) c.v2))) A936 S930 (g_bin (u := .int .i64 (tLo (lenL (p - c.x1) c.h1) c.v1)) (k := .int .i64 (tLo (lenL (c.x2 - p) c.h2) c.v2)) (by kernel_rfl) (by kernel_rfl) (fun _ => by kernel_rfl) (b_add (by omega))) rfl (fun ac A937 => ?_)
        refine s_one (.pointer (some ⟨g785, 1, none⟩)) A937 S930 (g_field (u := .pointer (some ⟨g785, 0, none⟩)) (by kernel_rfl) (fun _ => by kernel_rfl)) rfl (fun ac A938 => ?_)
        refine s_one (.int .i64 (tHi (lenU (p - c.x1) c.h1) c.v1)) A938 S930 (g_load (g := g785) (off := 1) 1 (by kernel_rfl) rfl (by kernel_rfl)) rfl (fun ac A939 => ?_)
        refine s_one (.pointer (some ⟨g906, 1, none⟩)) A939 S930 (g_field (u := .pointer (some ⟨g906, 0, none⟩)) (by kernel_rfl) (fun _ => by kernel_rfl)) rfl (fun ac A940 => ?_)
        refine s_one (.int .i64 (tHi (lenU (c.x2 - p) c.h2) c.v2)) A940 S930 (g_load (g := g906) (off := 1) 0 (by kernel_rfl) rfl (by kernel_rfl)) rfl (fun ac A941 => ?_)
        refine s_one (.int .i64 (tHi (lenU (p - c.x1) c.h1) c.v1 + (tHi (lenU (c.x2 - p) c.h2) c.v2))) A941 S930 (g_bin (u := .int .i64 (tHi (lenU (p - c.x1) c.h1) c.v1)) (k := .int .i64 (tHi (lenU (c.x2 - p) c.h2) c.v2)) (by kernel_rfl) (by kernel_rfl) (fun _ => by kernel_rfl) (b_add (by omega))) rfl (fun ac A942 => ?_)
        refine s_one (.agg #[.int .i64 (tLo (lenL (p - c.x1) c.h1) c.v1 + (tLo (lenL (c.x2 - p) c.h2) c.v2)), .int .i64 (tHi (lenU (p - c.x1) c.h1) c.v1 + (tHi (lenU (c.x2 - p) c.h2) c.v2))]) A942 S930 (g_build (r := [(0, .int .i64 (tLo (lenL (p - c.x1) c.h1) c.v1 + (tLo (lenL (c.x2 - p) c.h2) c.v2))), (1, .int .i64 (tHi (lenU (p - c.x1) c.h1) c.v1 + (tHi (lenU (c.x2 - p) c.h2) c.v2)))]) (by kernel_rfl) (fun _ => by kernel_rfl)) rfl (fun ac A943 => ?_)
        refine s_store (g := g7) (off := 0) (v := .agg #[.int .i64 (tLo (lenL (p - c.x1) c.h1) c.v1 + (tLo (lenL (c.x2 - p) c.h2) c.v2)), .int .i64 (tHi (lenU (p - c.x1) c.h1) c.v1 + (tHi (lenU (c.x2 - p) c.h2) c.v2))]) 2 (#[.int .i64 (tLo (lenL (p - c.x1) c.h1) c.v1 + (tLo (lenL (c.x2 - p) c.h2) c.v2)), .int .i64 (tHi (lenU (p - c.x1) c.h1) c.v1 + (tHi (lenU (c.x2 - p) c.h2) c.v2))]) A943 S930 (by kernel_rfl) (by kernel_rfl) rfl (by kernel_rfl) (fun wc S945 => ?_)
        refine wpList_nil ?_
        refine n_then ?_
        refine wp_ret ?_
        refine fin1 (.agg #[.int .i64 (tLo (lenL (p - c.x1) c.h1) c.v1 + (tLo (lenL (c.x2 - p) c.h2) c.v2)), .int .i64 (tHi (lenU (p - c.x1) c.h1) c.v1 + (tHi (lenU (c.x2 - p) c.h2) c.v2))]) Try.results62 A943 S945 (rv_cell (g := g7) (off := 0) 2 (by kernel_rfl) rfl (by kernel_rfl)) ⟨?_, S945.kp⟩
        rfl
    · refine rs_alloc (#[.int .i64 0, .int .i64 0]) A783 S784 (sub_skip sub_all) sub_all (by kernel_rfl) rfl rfl rfl (fun g949 ac wc A947 S948 => ?_)
      have T950 := S948.sub (sub_skip (sub_skip sub_all)) sub_all
      refine r_1 (i := 6) (by kernel_rfl) ?_
      have q955 := len_bd (x := p - c.x1) (z := c.h1) (by omega) (by omega)
      refine rs_call (fs := #[]) (cp := #[]) (r := [(0, .int .i64 (p - c.x1)), (0, .int .i64 c.h1)]) #[.int .i64 (p - c.x1), .int .i64 c.h1] (.agg #[.int .i64 (lenL (p - c.x1) c.h1), .int .i64 (lenU (p - c.x1) c.h1)]) A947 S948 (sub_skip (sub_skip sub_all)) sub_all (lengthOf_s (p - c.x1) c.h1 _ (by omega) (by omega) (by omega) (by omega)) Try.call92 rfl rfl (by kernel_rfl) (by kernel_rfl) (by kernel_rfl) rfl (fun ac wc A951 S952 => ?_)
      have T954 := S952.sub (sub_skip (sub_skip sub_all)) sub_all
      refine r_1 (i := 9) (by kernel_rfl) ?_
      have q960 := t_bd (l := (lenL (p - c.x1) c.h1)) (v := c.v1) (by omega) (by omega) (by omega)
      have q961 := tH_bd (l := (lenU (p - c.x1) c.h1)) (v := c.v1) (by omega) (by omega) (by omega)
      refine rs_call (fs := #[]) (cp := #[]) (r := [(0, .agg #[.int .i64 (lenL (p - c.x1) c.h1), .int .i64 (lenU (p - c.x1) c.h1)]), (0, .int .i64 c.v1)]) #[.agg #[.int .i64 (lenL (p - c.x1) c.h1), .int .i64 (lenU (p - c.x1) c.h1)], .int .i64 c.v1] (.agg #[.int .i64 (tLo (lenL (p - c.x1) c.h1) c.v1), .int .i64 (tHi (lenU (p - c.x1) c.h1) c.v1)]) A951 S952 (sub_skip (sub_skip sub_all)) sub_all (lasting_s (lenL (p - c.x1) c.h1) (lenU (p - c.x1) c.h1) c.v1 _ (by omega) (by omega) (by omega) (by omega) (by omega)) Try.call93 rfl rfl (by kernel_rfl) (by kernel_rfl) (by kernel_rfl) rfl (fun ac wc A956 S957 => ?_)
      have T959 := S957.sub (sub_skip (sub_skip sub_all)) sub_all
      refine r_1 (i := 16) (by kernel_rfl) ?_
      have q966 := len_bd (x := c.x2 - p) (z := c.h2) (by omega) (by omega)
      refine rs_call (fs := #[]) (cp := #[]) (r := [(0, .int .i64 (c.x2 - p)), (0, .int .i64 c.h2)]) #[.int .i64 (c.x2 - p), .int .i64 c.h2] (.agg #[.int .i64 (lenL (c.x2 - p) c.h2), .int .i64 (lenU (c.x2 - p) c.h2)]) A956 S957 (sub_skip (sub_skip sub_all)) sub_all (lengthOf_s (c.x2 - p) c.h2 _ (by omega) (by omega) (by omega) (by omega)) Try.call92 rfl rfl (by kernel_rfl) (by kernel_rfl) (by kernel_rfl) rfl (fun ac wc A962 S963 => ?_)
      have T965 := S963.sub (sub_skip (sub_skip sub_all)) sub_all
      refine r_1 (i := 19) (by kernel_rfl) ?_
      have q971 := t_bd (l := (lenL (c.x2 - p) c.h2)) (v := c.v2) (by omega) (by omega) (by omega)
      have q972 := tH_bd (l := (lenU (c.x2 - p) c.h2)) (v := c.v2) (by omega) (by omega) (by omega)
      refine rs_call (fs := #[]) (cp := #[]) (r := [(0, .agg #[.int .i64 (lenL (c.x2 - p) c.h2), .int .i64 (lenU (c.x2 - p) c.h2)]), (0, .int .i64 c.v2)]) #[.agg #[.int .i64 (lenL (c.x2 - p) c.h2), .int .i64 (lenU (c.x2 - p) c.h2)], .int .i64 c.v2] (.agg #[.int .i64 (tLo (lenL (c.x2 - p) c.h2) c.v2), .int .i64 (tHi (lenU (c.x2 - p) c.h2) c.v2)]) A962 S963 (sub_skip (sub_skip sub_all)) sub_all (lasting_s (lenL (c.x2 - p) c.h2) (lenU (c.x2 - p) c.h2) c.v2 _ (by omega) (by omega) (by omega) (by omega) (by omega)) Try.call93 rfl rfl (by kernel_rfl) (by kernel_rfl) (by kernel_rfl) rfl (fun ac wc A967 S968 => ?_)
      have T970 := S968.sub (sub_skip (sub_skip sub_all)) sub_all
      refine r_1 (i := 22) (by kernel_rfl) ?_
      refine rs_store (g := g785) (off := 0) (v := .agg #[.int .i64 (tLo (lenL (p - c.x1) c.h1) c.v1), .int .i64 (tHi (lenU (p - c.x1) c.h1) c.v1)]) 1 (#[.int .i64 (tLo (lenL (p - c.x1) c.h1) c.v1), .int .i64 (tHi (lenU (p - c.x1) c.h1) c.v1)]) A967 S968 (sub_skip (sub_skip sub_all)) sub_all (by kernel_rfl) (by kernel_rfl) rfl (by kernel_rfl) rfl rfl (fun wc S974 => ?_)
      have T976 := S974.sub (sub_skip (sub_skip sub_all)) sub_all
      refine r_1 (i := 23) (by kernel_rfl) ?_
      refine rs_store (g := g949) (off := 0) (v := .agg #[.int .i64 (tLo (lenL (c.x2 - p) c.h2) c.v2), .int .i64 (tHi (lenU (c.x2 - p) c.h2) c.v2)]) 0 (#[.int .i64 (tLo (lenL (c.x2 - p) c.h2) c.v2), .int .i64 (tHi (lenU (c.x2 - p) c.h2) c.v2)]) A967 S974 (sub_skip (sub_skip sub_all)) sub_all (by kernel_rfl) (by kernel_rfl) rfl (by kernel_rfl) rfl rfl (fun wc S978 => ?_)
      have T980 := S978.sub (sub_skip (sub_skip sub_all)) sub_all
      refine r_done (by kernel_rfl) ?_
      refine n_then ?_
      refine wp_seq ?_
      refine wp_region_lit ?_
      refine s_one (.pointer (some ⟨g785, 0, none⟩)) A967 S978 (g_field (u := .pointer (some ⟨g785, 0, none⟩)) (by kernel_rfl) (fun _ => by kernel_rfl)) rfl (fun ac A981 => ?_)
      refine s_one (.int .i64 (tLo (lenL (p - c.x1) c.h1) c.v1)) A981 S978 (g_load (g := g785) (off := 0) 1 (by kernel_rfl) rfl (by kernel_rfl)) rfl (fun ac A982 => ?_)
      refine s_one (.pointer (some ⟨g949, 0, none⟩)) A982 S978 (g_field (u := .pointer (some ⟨g949, 0, none⟩)) (by kernel_rfl) (fun _ => by kernel_rfl)) rfl (fun ac A983 => ?_)
      refine s_one (.int .i64 (tLo (lenL (c.x2 - p) c.h2) c.v2)) A983 S978 (g_load (g := g949) (off := 0) 0 (by kernel_rfl) rfl (by kernel_rfl)) rfl (fun ac A984 => ?_)
      refine s_one (.int .i64 (tLo (lenL (p - c.x1) c.h1) c.v1 + (tLo (lenL (c.x2 - p) c.h2) c.v2))) A984 S978 (g_bin (u := .int .i64 (tLo (lenL (p - c.x1) c.h1) c.v1)) (k := .int .i64 (tLo (lenL (c.x2 - p) c.h2) c.v2)) (by kernel_rfl) (by kernel_rfl) (fun _ => by kernel_rfl) (b_add (by omega))) rfl (fun ac A985 => ?_)
      refine s_one (.pointer (some ⟨g785, 1, none⟩)) A985 S978 (g_field (u := .pointer (some ⟨g785, 0, none⟩)) (by kernel_rfl) (fun _ => by kernel_rfl)) rfl (fun ac A986 => ?_)
      refine s_one (.int .i64 (tHi (lenU (p - c.x1) c.h1) c.v1)) A986 S978 (g_load (g := g785) (off := 1) 1 (by kernel_rfl) rfl (by kernel_rfl)) rfl (fun ac A987 => ?_)
      refine s_one (.pointer (some ⟨g949, 1, none⟩)) A987 S978 (g_field (u := .pointer (some ⟨g949, 0, none⟩)) (by kernel_rfl) (fun _ => by kernel_rfl)) rfl (fun ac A988 => ?_)
      refine s_one (.int .i64 (tHi (lenU (c.x2 - p) c.h2) c.v2)) A988 S978 (g_load (g := g949) (off := 1) 0 (by kernel_rfl) rfl (by kernel_rfl)) rfl (fun ac A989 => ?_)
      refine s_one (.int .i64 (tHi (lenU (p - c.x1) c.h1) c.v1 + (tHi (lenU (c.x2 - p) c.h2) c.v2))) A989 S978 (g_bin (u := .int .i64 (tHi (lenU (p - c.x1) c.h1) c.v1)) (k := .int .i64 (tHi (lenU (c.x2 - p) c.h2) c.v2)) (by kernel_rfl) (by kernel_rfl) (fun _ => by kernel_rfl) (b_add (by omega))) rfl (fun ac A990 => ?_)
      refine s_one (.agg #[.int .i64 (tLo (lenL (p - c.x1) c.h1) c.v1 + (tLo (lenL (c.x2 - p) c.h2) c.v2)), .int .i64 (tHi (lenU (p - c.x1) c.h1) c.v1 + (tHi (lenU (c.x2 - p) c.h2) c.v2))]) A990 S978 (g_build (r := [(0, .int .i64 (tLo (lenL (p - c.x1) c.h1) c.v1 + (tLo (lenL (c.x2 - p) c.h2) c.v2))), (1, .int .i64 (tHi (lenU (p - c.x1) c.h1) c.v1 + (tHi (lenU (c.x2 - p) c.h2) c.v2)))]) (by kernel_rfl) (fun _ => by kernel_rfl)) rfl (fun ac A991 => ?_)
      refine s_store (g := g7) (off := 0) (v := .agg #[.int .i64 (tLo (lenL (p - c.x1) c.h1) c.v1 + (tLo (lenL (c.x2 - p) c.h2) c.v2)), .int .i64 (tHi (lenU (p - c.x1) c.h1) c.v1 + (tHi (lenU (c.x2 - p) c.h2) c.v2))]) 2 (#[.int .i64 (tLo (lenL (p - c.x1) c.h1) c.v1 + (tLo (lenL (c.x2 - p) c.h2) c.v2)), .int .i64 (tHi (lenU (p - c.x1) c.h1) c.v1 + (tHi (lenU (c.x2 - p) c.h2) c.v2))]) A991 S978 (by kernel_rfl) (by kernel_rfl) rfl (by kernel_rfl) (fun wc S993 => ?_)
      refine wpList_nil ?_
      refine n_then ?_
      refine wp_ret ?_
      refine fin1 (.agg #[.int .i64 (tLo (lenL (p - c.x1) c.h1) c.v1 + (tLo (lenL (c.x2 - p) c.h2) c.v2)), .int .i64 (tHi (lenU (p - c.x1) c.h1) c.v1 + (tHi (lenU (c.x2 - p) c.h2) c.v2))]) Try.results62 A991 S993 (rv_cell (g := g7) (off := 0) 2 (by kernel_rfl) rfl (by kernel_rfl)) ⟨?_, S993.kp⟩
      rfl
  · refine rs_alloc (#[.int .i64 0, .int .i64 0]) A26 S10 sub_all sub_all (by kernel_rfl) rfl rfl rfl (fun g997 ac wc A995 S996 => ?_)
    have T998 := S996.sub (sub_skip sub_all) sub_all
    refine r_2 (i := 6) (j := 20) (by kernel_rfl) ?_ ?_
    · have q1003 := len_bd (x := p - c.x1) (z := c.h1) (by omega) (by omega)
      refine rs_call (fs := #[]) (cp := #[]) (r := [(0, .int .i64 (p - c.x1)), (0, .int .i64 c.h1)]) #[.int .i64 (p - c.x1), .int .i64 c.h1] (.agg #[.int .i64 (lenL (p - c.x1) c.h1), .int .i64 (lenU (p - c.x1) c.h1)]) A995 S996 (sub_skip sub_all) sub_all (lengthOf_s (p - c.x1) c.h1 _ (by omega) (by omega) (by omega) (by omega)) Try.call92 rfl rfl (by kernel_rfl) (by kernel_rfl) (by kernel_rfl) rfl (fun ac wc A999 S1000 => ?_)
      have T1002 := S1000.sub (sub_skip sub_all) sub_all
      refine r_2 (i := 9) (j := 20) (by kernel_rfl) ?_ ?_
      · have q1008 := t_bd (l := (lenL (p - c.x1) c.h1)) (v := c.v1) (by omega) (by omega) (by omega)
        have q1009 := tH_bd (l := (lenU (p - c.x1) c.h1)) (v := c.v1) (by omega) (by omega) (by omega)
        refine rs_call (fs := #[]) (cp := #[]) (r := [(0, .agg #[.int .i64 (lenL (p - c.x1) c.h1), .int .i64 (lenU (p - c.x1) c.h1)]), (0, .int .i64 c.v1)]) #[.agg #[.int .i64 (lenL (p - c.x1) c.h1), .int .i64 (lenU (p - c.x1) c.h1)], .int .i64 c.v1] (.agg #[.int .i64 (tLo (lenL (p - c.x1) c.h1) c.v1), .int .i64 (tHi (lenU (p - c.x1) c.h1) c.v1)]) A999 S1000 (sub_skip sub_all) sub_all (lasting_s (lenL (p - c.x1) c.h1) (lenU (p - c.x1) c.h1) c.v1 _ (by omega) (by omega) (by omega) (by omega) (by omega)) Try.call93 rfl rfl (by kernel_rfl) (by kernel_rfl) (by kernel_rfl) rfl (fun ac wc A1004 S1005 => ?_)
        have T1007 := S1005.sub (sub_skip sub_all) sub_all
        refine r_2 (i := 16) (j := 20) (by kernel_rfl) ?_ ?_
        · have q1014 := len_bd (x := c.x2 - p) (z := c.h2) (by omega) (by omega)
          refine rs_call (fs := #[]) (cp := #[]) (r := [(0, .int .i64 (c.x2 - p)), (0, .int .i64 c.h2)]) #[.int .i64 (c.x2 - p), .int .i64 c.h2] (.agg #[.int .i64 (lenL (c.x2 - p) c.h2), .int .i64 (lenU (c.x2 - p) c.h2)]) A1004 S1005 (sub_skip sub_all) sub_all (lengthOf_s (c.x2 - p) c.h2 _ (by omega) (by omega) (by omega) (by omega)) Try.call92 rfl rfl (by kernel_rfl) (by kernel_rfl) (by kernel_rfl) rfl (fun ac wc A1010 S1011 => ?_)
          have T1013 := S1011.sub (sub_skip sub_all) sub_all
          refine r_2 (i := 19) (j := 20) (by kernel_rfl) ?_ ?_
          · have q1019 := t_bd (l := (lenL (c.x2 - p) c.h2)) (v := c.v2) (by omega) (by omega) (by omega)
            have q1020 := tH_bd (l := (lenU (c.x2 - p) c.h2)) (v := c.v2) (by omega) (by omega) (by omega)
            refine rs_call (fs := #[]) (cp := #[]) (r := [(0, .agg #[.int .i64 (lenL (c.x2 - p) c.h2), .int .i64 (lenU (c.x2 - p) c.h2)]), (0, .int .i64 c.v2)]) #[.agg #[.int .i64 (lenL (c.x2 - p) c.h2), .int .i64 (lenU (c.x2 - p) c.h2)], .int .i64 c.v2] (.agg #[.int .i64 (tLo (lenL (c.x2 - p) c.h2) c.v2), .int .i64 (tHi (lenU (c.x2 - p) c.h2) c.v2)]) A1010 S1011 (sub_skip sub_all) sub_all (lasting_s (lenL (c.x2 - p) c.h2) (lenU (c.x2 - p) c.h2) c.v2 _ (by omega) (by omega) (by omega) (by omega) (by omega)) Try.call93 rfl rfl (by kernel_rfl) (by kernel_rfl) (by kernel_rfl) rfl (fun ac wc A1015 S1016 => ?_)
            have T1018 := S1016.sub (sub_skip sub_all) sub_all
            refine r_1 (i := 20) (by kernel_rfl) ?_
            refine rs_alloc (#[.int .i64 0, .int .i64 0]) A1015 S1016 (sub_skip sub_all) sub_all (by kernel_rfl) rfl rfl rfl (fun g1023 ac wc A1021 S1022 => ?_)
            have T1024 := S1022.sub (sub_skip (sub_skip sub_all)) sub_all
            refine r_1 (i := 22) (by kernel_rfl) ?_
            refine rs_store (g := g1023) (off := 0) (v := .agg #[.int .i64 (tLo (lenL (p - c.x1) c.h1) c.v1), .int .i64 (tHi (lenU (p - c.x1) c.h1) c.v1)]) 0 (#[.int .i64 (tLo (lenL (p - c.x1) c.h1) c.v1), .int .i64 (tHi (lenU (p - c.x1) c.h1) c.v1)]) A1021 S1022 (sub_skip (sub_skip sub_all)) sub_all (by kernel_rfl) (by kernel_rfl) rfl (by kernel_rfl) rfl rfl (fun wc S1026 => ?_)
            have T1028 := S1026.sub (sub_skip (sub_skip sub_all)) sub_all
            refine r_1 (i := 23) (by kernel_rfl) ?_
            refine rs_store (g := g997) (off := 0) (v := .agg #[.int .i64 (tLo (lenL (c.x2 - p) c.h2) c.v2), .int .i64 (tHi (lenU (c.x2 - p) c.h2) c.v2)]) 1 (#[.int .i64 (tLo (lenL (c.x2 - p) c.h2) c.v2), .int .i64 (tHi (lenU (c.x2 - p) c.h2) c.v2)]) A1021 S1026 (sub_skip (sub_skip sub_all)) sub_all (by kernel_rfl) (by kernel_rfl) rfl (by kernel_rfl) rfl rfl (fun wc S1030 => ?_)
            have T1032 := S1030.sub (sub_skip (sub_skip sub_all)) sub_all
            refine r_done (by kernel_rfl) ?_
            refine n_then ?_
            refine wp_seq ?_
            refine wp_region_lit ?_
            refine s_one (.pointer (some ⟨g1023, 0, none⟩)) A1021 S1030 (g_field (u := .pointer (some ⟨g1023, 0, none⟩)) (by kernel_rfl) (fun _ => by kernel_rfl)) rfl (fun ac A1033 => ?_)
            refine s_one (.int .i64 (tLo (lenL (p - c.x1) c.h1) c.v1)) A1033 S1030 (g_load (g := g1023) (off := 0) 0 (by kernel_rfl) rfl (by kernel_rfl)) rfl (fun ac A1034 => ?_)
            refine s_one (.pointer (some ⟨g997, 0, none⟩)) A1034 S1030 (g_field (u := .pointer (some ⟨g997, 0, none⟩)) (by kernel_rfl) (fun _ => by kernel_rfl)) rfl (fun ac A1035 => ?_)
            refine s_one (.int .i64 (tLo (lenL (c.x2 - p) c.h2) c.v2)) A1035 S1030 (g_load (g := g997) (off := 0) 1 (by kernel_rfl) rfl (by kernel_rfl)) rfl (fun ac A1036 => ?_)
            refine s_one (.int .i64 (tLo (lenL (p - c.x1) c.h1) c.v1 + (tLo (lenL (c.x2 - p) c.h2) c.v2))) A1036 S1030 (g_bin (u := .int .i64 (tLo (lenL (p - c.x1) c.h1) c.v1)) (k := .int .i64 (tLo (lenL (c.x2 - p) c.h2) c.v2)) (by kernel_rfl) (by kernel_rfl) (fun _ => by kernel_rfl) (b_add (by omega))) rfl (fun ac A1037 => ?_)
            refine s_one (.pointer (some ⟨g1023, 1, none⟩)) A1037 S1030 (g_field (u := .pointer (some ⟨g1023, 0, none⟩)) (by kernel_rfl) (fun _ => by kernel_rfl)) rfl (fun ac A1038 => ?_)
            refine s_one (.int .i64 (tHi (lenU (p - c.x1) c.h1) c.v1)) A1038 S1030 (g_load (g := g1023) (off := 1) 0 (by kernel_rfl) rfl (by kernel_rfl)) rfl (fun ac A1039 => ?_)
            refine s_one (.pointer (some ⟨g997, 1, none⟩)) A1039 S1030 (g_field (u := .pointer (some ⟨g997, 0, none⟩)) (by kernel_rfl) (fun _ => by kernel_rfl)) rfl (fun ac A1040 => ?_)
            refine s_one (.int .i64 (tHi (lenU (c.x2 - p) c.h2) c.v2)) A1040 S1030 (g_load (g := g997) (off := 1) 1 (by kernel_rfl) rfl (by kernel_rfl)) rfl (fun ac A1041 => ?_)
            refine s_one (.int .i64 (tHi (lenU (p - c.x1) c.h1) c.v1 + (tHi (lenU (c.x2 - p) c.h2) c.v2))) A1041 S1030 (g_bin (u := .int .i64 (tHi (lenU (p - c.x1) c.h1) c.v1)) (k := .int .i64 (tHi (lenU (c.x2 - p) c.h2) c.v2)) (by kernel_rfl) (by kernel_rfl) (fun _ => by kernel_rfl) (b_add (by omega))) rfl (fun ac A1042 => ?_)
            refine s_one (.agg #[.int .i64 (tLo (lenL (p - c.x1) c.h1) c.v1 + (tLo (lenL (c.x2 - p) c.h2) c.v2)), .int .i64 (tHi (lenU (p - c.x1) c.h1) c.v1 + (tHi (lenU (c.x2 - p) c.h2) c.v2))]) A1042 S1030 (g_build (r := [(0, .int .i64 (tLo (lenL (p - c.x1) c.h1) c.v1 + (tLo (lenL (c.x2 - p) c.h2) c.v2))), (1, .int .i64 (tHi (lenU (p - c.x1) c.h1) c.v1 + (tHi (lenU (c.x2 - p) c.h2) c.v2)))]) (by kernel_rfl) (fun _ => by kernel_rfl)) rfl (fun ac A1043 => ?_)
            refine s_store (g := g7) (off := 0) (v := .agg #[.int .i64 (tLo (lenL (p - c.x1) c.h1) c.v1 + (tLo (lenL (c.x2 - p) c.h2) c.v2)), .int .i64 (tHi (lenU (p - c.x1) c.h1) c.v1 + (tHi (lenU (c.x2 - p) c.h2) c.v2))]) 2 (#[.int .i64 (tLo (lenL (p - c.x1) c.h1) c.v1 + (tLo (lenL (c.x2 - p) c.h2) c.v2)), .int .i64 (tHi (lenU (p - c.x1) c.h1) c.v1 + (tHi (lenU (c.x2 - p) c.h2) c.v2))]) A1043 S1030 (by kernel_rfl) (by kernel_rfl) rfl (by kernel_rfl) (fun wc S1045 => ?_)
            refine wpList_nil ?_
            refine n_then ?_
            refine wp_ret ?_
            refine fin1 (.agg #[.int .i64 (tLo (lenL (p - c.x1) c.h1) c.v1 + (tLo (lenL (c.x2 - p) c.h2) c.v2)), .int .i64 (tHi (lenU (p - c.x1) c.h1) c.v1 + (tHi (lenU (c.x2 - p) c.h2) c.v2))]) Try.results62 A1043 S1045 (rv_cell (g := g7) (off := 0) 2 (by kernel_rfl) rfl (by kernel_rfl)) ⟨?_, S1045.kp⟩
            rfl
          · refine rs_alloc (#[.int .i64 0, .int .i64 0]) A1010 S1011 (sub_skip sub_all) sub_all (by kernel_rfl) rfl rfl rfl (fun g1049 ac wc A1047 S1048 => ?_)
            have T1050 := S1048.sub (sub_skip (sub_skip sub_all)) sub_all
            refine r_1 (i := 19) (by kernel_rfl) ?_
            have q1055 := t_bd (l := (lenL (c.x2 - p) c.h2)) (v := c.v2) (by omega) (by omega) (by omega)
            have q1056 := tH_bd (l := (lenU (c.x2 - p) c.h2)) (v := c.v2) (by omega) (by omega) (by omega)
            refine rs_call (fs := #[]) (cp := #[]) (r := [(0, .agg #[.int .i64 (lenL (c.x2 - p) c.h2), .int .i64 (lenU (c.x2 - p) c.h2)]), (0, .int .i64 c.v2)]) #[.agg #[.int .i64 (lenL (c.x2 - p) c.h2), .int .i64 (lenU (c.x2 - p) c.h2)], .int .i64 c.v2] (.agg #[.int .i64 (tLo (lenL (c.x2 - p) c.h2) c.v2), .int .i64 (tHi (lenU (c.x2 - p) c.h2) c.v2)]) A1047 S1048 (sub_skip (sub_skip sub_all)) sub_all (lasting_s (lenL (c.x2 - p) c.h2) (lenU (c.x2 - p) c.h2) c.v2 _ (by omega) (by omega) (by omega) (by omega) (by omega)) Try.call93 rfl rfl (by kernel_rfl) (by kernel_rfl) (by kernel_rfl) rfl (fun ac wc A1051 S1052 => ?_)
            have T1054 := S1052.sub (sub_skip (sub_skip sub_all)) sub_all
            refine r_1 (i := 22) (by kernel_rfl) ?_
            refine rs_store (g := g1049) (off := 0) (v := .agg #[.int .i64 (tLo (lenL (p - c.x1) c.h1) c.v1), .int .i64 (tHi (lenU (p - c.x1) c.h1) c.v1)]) 0 (#[.int .i64 (tLo (lenL (p - c.x1) c.h1) c.v1), .int .i64 (tHi (lenU (p - c.x1) c.h1) c.v1)]) A1051 S1052 (sub_skip (sub_skip sub_all)) sub_all (by kernel_rfl) (by kernel_rfl) rfl (by kernel_rfl) rfl rfl (fun wc S1058 => ?_)
            have T1060 := S1058.sub (sub_skip (sub_skip sub_all)) sub_all
            refine r_1 (i := 23) (by kernel_rfl) ?_
            refine rs_store (g := g997) (off := 0) (v := .agg #[.int .i64 (tLo (lenL (c.x2 - p) c.h2) c.v2), .int .i64 (tHi (lenU (c.x2 - p) c.h2) c.v2)]) 1 (#[.int .i64 (tLo (lenL (c.x2 - p) c.h2) c.v2), .int .i64 (tHi (lenU (c.x2 - p) c.h2) c.v2)]) A1051 S1058 (sub_skip (sub_skip sub_all)) sub_all (by kernel_rfl) (by kernel_rfl) rfl (by kernel_rfl) rfl rfl (fun wc S1062 => ?_)
            have T1064 := S1062.sub (sub_skip (sub_skip sub_all)) sub_all
            refine r_done (by kernel_rfl) ?_
            refine n_then ?_
            refine wp_seq ?_
            refine wp_region_lit ?_
            refine s_one (.pointer (some ⟨g1049, 0, none⟩)) A1051 S1062 (g_field (u := .pointer (some ⟨g1049, 0, none⟩)) (by kernel_rfl) (fun _ => by kernel_rfl)) rfl (fun ac A1065 => ?_)
            refine s_one (.int .i64 (tLo (lenL (p - c.x1) c.h1) c.v1)) A1065 S1062 (g_load (g := g1049) (off := 0) 0 (by kernel_rfl) rfl (by kernel_rfl)) rfl (fun ac A1066 => ?_)
            refine s_one (.pointer (some ⟨g997, 0, none⟩)) A1066 S1062 (g_field (u := .pointer (some ⟨g997, 0, none⟩)) (by kernel_rfl) (fun _ => by kernel_rfl)) rfl (fun ac A1067 => ?_)
            refine s_one (.int .i64 (tLo (lenL (c.x2 - p) c.h2) c.v2)) A1067 S1062 (g_load (g := g997) (off := 0) 1 (by kernel_rfl) rfl (by kernel_rfl)) rfl (fun ac A1068 => ?_)
            refine s_one (.int .i64 (tLo (lenL (p - c.x1) c.h1) c.v1 + (tLo (lenL (c.x2 - p) c.h2) c.v2))) A1068 S1062 (g_bin (u := .int .i64 (tLo (lenL (p - c.x1) c.h1) c.v1)) (k := .int .i64 (tLo (lenL (c.x2 - p) c.h2) c.v2)) (by kernel_rfl) (by kernel_rfl) (fun _ => by kernel_rfl) (b_add (by omega))) rfl (fun ac A1069 => ?_)
            refine s_one (.pointer (some ⟨g1049, 1, none⟩)) A1069 S1062 (g_field (u := .pointer (some ⟨g1049, 0, none⟩)) (by kernel_rfl) (fun _ => by kernel_rfl)) rfl (fun ac A1070 => ?_)
            refine s_one (.int .i64 (tHi (lenU (p - c.x1) c.h1) c.v1)) A1070 S1062 (g_load (g := g1049) (off := 1) 0 (by kernel_rfl) rfl (by kernel_rfl)) rfl (fun ac A1071 => ?_)
            refine s_one (.pointer (some ⟨g997, 1, none⟩)) A1071 S1062 (g_field (u := .pointer (some ⟨g997, 0, none⟩)) (by kernel_rfl) (fun _ => by kernel_rfl)) rfl (fun ac A1072 => ?_)
            refine s_one (.int .i64 (tHi (lenU (c.x2 - p) c.h2) c.v2)) A1072 S1062 (g_load (g := g997) (off := 1) 1 (by kernel_rfl) rfl (by kernel_rfl)) rfl (fun ac A1073 => ?_)
            refine s_one (.int .i64 (tHi (lenU (p - c.x1) c.h1) c.v1 + (tHi (lenU (c.x2 - p) c.h2) c.v2))) A1073 S1062 (g_bin (u := .int .i64 (tHi (lenU (p - c.x1) c.h1) c.v1)) (k := .int .i64 (tHi (lenU (c.x2 - p) c.h2) c.v2)) (by kernel_rfl) (by kernel_rfl) (fun _ => by kernel_rfl) (b_add (by omega))) rfl (fun ac A1074 => ?_)
            refine s_one (.agg #[.int .i64 (tLo (lenL (p - c.x1) c.h1) c.v1 + (tLo (lenL (c.x2 - p) c.h2) c.v2)), .int .i64 (tHi (lenU (p - c.x1) c.h1) c.v1 + (tHi (lenU (c.x2 - p) c.h2) c.v2))]) A1074 S1062 (g_build (r := [(0, .int .i64 (tLo (lenL (p - c.x1) c.h1) c.v1 + (tLo (lenL (c.x2 - p) c.h2) c.v2))), (1, .int .i64 (tHi (lenU (p - c.x1) c.h1) c.v1 + (tHi (lenU (c.x2 - p) c.h2) c.v2)))]) (by kernel_rfl) (fun _ => by kernel_rfl)) rfl (fun ac A1075 => ?_)
            refine s_store (g := g7) (off := 0) (v := .agg #[.int .i64 (tLo (lenL (p - c.x1) c.h1) c.v1 + (tLo (lenL (c.x2 - p) c.h2) c.v2)), .int .i64 (tHi (lenU (p - c.x1) c.h1) c.v1 + (tHi (lenU (c.x2 - p) c.h2) c.v2))]) 2 (#[.int .i64 (tLo (lenL (p - c.x1) c.h1) c.v1 + (tLo (lenL (c.x2 - p) c.h2) c.v2)), .int .i64 (tHi (lenU (p - c.x1) c.h1) c.v1 + (tHi (lenU (c.x2 - p) c.h2) c.v2))]) A1075 S1062 (by kernel_rfl) (by kernel_rfl) rfl (by kernel_rfl) (fun wc S1077 => ?_)
            refine wpList_nil ?_
            refine n_then ?_
            refine wp_ret ?_
            refine fin1 (.agg #[.int .i64 (tLo (lenL (p - c.x1) c.h1) c.v1 + (tLo (lenL (c.x2 - p) c.h2) c.v2)), .int .i64 (tHi (lenU (p - c.x1) c.h1) c.v1 + (tHi (lenU (c.x2 - p) c.h2) c.v2))]) Try.results62 A1075 S1077 (rv_cell (g := g7) (off := 0) 2 (by kernel_rfl) rfl (by kernel_rfl)) ⟨?_, S1077.kp⟩
            rfl
        · refine rs_alloc (#[.int .i64 0, .int .i64 0]) A1004 S1005 (sub_skip sub_all) sub_all (by kernel_rfl) rfl rfl rfl (fun g1081 ac wc A1079 S1080 => ?_)
          have T1082 := S1080.sub (sub_skip (sub_skip sub_all)) sub_all
          refine r_1 (i := 16) (by kernel_rfl) ?_
          have q1087 := len_bd (x := c.x2 - p) (z := c.h2) (by omega) (by omega)
          refine rs_call (fs := #[]) (cp := #[]) (r := [(0, .int .i64 (c.x2 - p)), (0, .int .i64 c.h2)]) #[.int .i64 (c.x2 - p), .int .i64 c.h2] (.agg #[.int .i64 (lenL (c.x2 - p) c.h2), .int .i64 (lenU (c.x2 - p) c.h2)]) A1079 S1080 (sub_skip (sub_skip sub_all)) sub_all (lengthOf_s (c.x2 - p) c.h2 _ (by omega) (by omega) (by omega) (by omega)) Try.call92 rfl rfl (by kernel_rfl) (by kernel_rfl) (by kernel_rfl) rfl (fun ac wc A1083 S1084 => ?_)
          have T1086 := S1084.sub (sub_skip (sub_skip sub_all)) sub_all
          refine r_1 (i := 19) (by kernel_rfl) ?_
          have q1092 := t_bd (l := (lenL (c.x2 - p) c.h2)) (v := c.v2) (by omega) (by omega) (by omega)
          have q1093 := tH_bd (l := (lenU (c.x2 - p) c.h2)) (v := c.v2) (by omega) (by omega) (by omega)
          refine rs_call (fs := #[]) (cp := #[]) (r := [(0, .agg #[.int .i64 (lenL (c.x2 - p) c.h2), .int .i64 (lenU (c.x2 - p) c.h2)]), (0, .int .i64 c.v2)]) #[.agg #[.int .i64 (lenL (c.x2 - p) c.h2), .int .i64 (lenU (c.x2 - p) c.h2)], .int .i64 c.v2] (.agg #[.int .i64 (tLo (lenL (c.x2 - p) c.h2) c.v2), .int .i64 (tHi (lenU (c.x2 - p) c.h2) c.v2)]) A1083 S1084 (sub_skip (sub_skip sub_all)) sub_all (lasting_s (lenL (c.x2 - p) c.h2) (lenU (c.x2 - p) c.h2) c.v2 _ (by omega) (by omega) (by omega) (by omega) (by omega)) Try.call93 rfl rfl (by kernel_rfl) (by kernel_rfl) (by kernel_rfl) rfl (fun ac wc A1088 S1089 => ?_)
          have T1091 := S1089.sub (sub_skip (sub_skip sub_all)) sub_all
          refine r_1 (i := 22) (by kernel_rfl) ?_
          refine rs_store (g := g1081) (off := 0) (v := .agg #[.int .i64 (tLo (lenL (p - c.x1) c.h1) c.v1), .int .i64 (tHi (lenU (p - c.x1) c.h1) c.v1)]) 0 (#[.int .i64 (tLo (lenL (p - c.x1) c.h1) c.v1), .int .i64 (tHi (lenU (p - c.x1) c.h1) c.v1)]) A1088 S1089 (sub_skip (sub_skip sub_all)) sub_all (by kernel_rfl) (by kernel_rfl) rfl (by kernel_rfl) rfl rfl (fun wc S1095 => ?_)
          have T1097 := S1095.sub (sub_skip (sub_skip sub_all)) sub_all
          refine r_1 (i := 23) (by kernel_rfl) ?_
          refine rs_store (g := g997) (off := 0) (v := .agg #[.int .i64 (tLo (lenL (c.x2 - p) c.h2) c.v2), .int .i64 (tHi (lenU (c.x2 - p) c.h2) c.v2)]) 1 (#[.int .i64 (tLo (lenL (c.x2 - p) c.h2) c.v2), .int .i64 (tHi (lenU (c.x2 - p) c.h2) c.v2)]) A1088 S1095 (sub_skip (sub_skip sub_all)) sub_all (by kernel_rfl) (by kernel_rfl) rfl (by kernel_rfl) rfl rfl (fun wc S1099 => ?_)
          have T1101 := S1099.sub (sub_skip (sub_skip sub_all)) sub_all
          refine r_done (by kernel_rfl) ?_
          refine n_then ?_
          refine wp_seq ?_
          refine wp_region_lit ?_
          refine s_one (.pointer (some ⟨g1081, 0, none⟩)) A1088 S1099 (g_field (u := .pointer (some ⟨g1081, 0, none⟩)) (by kernel_rfl) (fun _ => by kernel_rfl)) rfl (fun ac A1102 => ?_)
          refine s_one (.int .i64 (tLo (lenL (p - c.x1) c.h1) c.v1)) A1102 S1099 (g_load (g := g1081) (off := 0) 0 (by kernel_rfl) rfl (by kernel_rfl)) rfl (fun ac A1103 => ?_)
          refine s_one (.pointer (some ⟨g997, 0, none⟩)) A1103 S1099 (g_field (u := .pointer (some ⟨g997, 0, none⟩)) (by kernel_rfl) (fun _ => by kernel_rfl)) rfl (fun ac A1104 => ?_)
          refine s_one (.int .i64 (tLo (lenL (c.x2 - p) c.h2) c.v2)) A1104 S1099 (g_load (g := g997) (off := 0) 1 (by kernel_rfl) rfl (by kernel_rfl)) rfl (fun ac A1105 => ?_)
          refine s_one (.int .i64 (tLo (lenL (p - c.x1) c.h1) c.v1 + (tLo (lenL (c.x2 - p) c.h2) c.v2))) A1105 S1099 (g_bin (u := .int .i64 (tLo (lenL (p - c.x1) c.h1) c.v1)) (k := .int .i64 (tLo (lenL (c.x2 - p) c.h2) c.v2)) (by kernel_rfl) (by kernel_rfl) (fun _ => by kernel_rfl) (b_add (by omega))) rfl (fun ac A1106 => ?_)
          refine s_one (.pointer (some ⟨g1081, 1, none⟩)) A1106 S1099 (g_field (u := .pointer (some ⟨g1081, 0, none⟩)) (by kernel_rfl) (fun _ => by kernel_rfl)) rfl (fun ac A1107 => ?_)
          refine s_one (.int .i64 (tHi (lenU (p - c.x1) c.h1) c.v1)) A1107 S1099 (g_load (g := g1081) (off := 1) 0 (by kernel_rfl) rfl (by kernel_rfl)) rfl (fun ac A1108 => ?_)
          refine s_one (.pointer (some ⟨g997, 1, none⟩)) A1108 S1099 (g_field (u := .pointer (some ⟨g997, 0, none⟩)) (by kernel_rfl) (fun _ => by kernel_rfl)) rfl (fun ac A1109 => ?_)
          refine s_one (.int .i64 (tHi (lenU (c.x2 - p) c.h2) c.v2)) A1109 S1099 (g_load (g := g997) (off := 1) 1 (by kernel_rfl) rfl (by kernel_rfl)) rfl (fun ac A1110 => ?_)
          refine s_one (.int .i64 (tHi (lenU (p - c.x1) c.h1) c.v1 + (tHi (lenU (c.x2 - p) c.h2) c.v2))) A1110 S1099 (g_bin (u := .int .i64 (tHi (lenU (p - c.x1) c.h1) c.v1)) (k := .int .i64 (tHi (lenU (c.x2 - p) c.h2) c.v2)) (by kernel_rfl) (by kernel_rfl) (fun _ => by kernel_rfl) (b_add (by omega))) rfl (fun ac A1111 => ?_)
          refine s_one (.agg #[.int .i64 (tLo (lenL (p - c.x1) c.h1) c.v1 + (tLo (lenL (c.x2 - p) c.h2) c.v2)), .int .i64 (tHi (lenU (p - c.x1) c.h1) c.v1 + (tHi (lenU (c.x2 - p) c.h2) c.v2))]) A1111 S1099 (g_build (r := [(0, .int .i64 (tLo (lenL (p - c.x1) c.h1) c.v1 + (tLo (lenL (c.x2 - p) c.h2) c.v2))), (1, .int .i64 (tHi (lenU (p - c.x1) c.h1) c.v1 + (tHi (lenU (c.x2 - p) c.h2) c.v2)))]) (by kernel_rfl) (fun _ => by kernel_rfl)) rfl (fun ac A1112 => ?_)
          refine s_store (g := g7) (off := 0) (v := .agg #[.int .i64 (tLo (lenL (p - c.x1) c.h1) c.v1 + (tLo (lenL (c.x2 - p) c.h2) c.v2)), .int .i64 (tHi (lenU (p - c.x1) c.h1) c.v1 + (tHi (lenU (c.x2 - p) c.h2) c.v2))]) 2 (#[.int .i64 (tLo (lenL (p - c.x1) c.h1) c.v1 + (tLo (lenL (c.x2 - p) c.h2) c.v2)), .int .i64 (tHi (lenU (p - c.x1) c.h1) c.v1 + (tHi (lenU (c.x2 - p) c.h2) c.v2))]) A1112 S1099 (by kernel_rfl) (by kernel_rfl) rfl (by kernel_rfl) (fun wc S1114 => ?_)
          refine wpList_nil ?_
          refine n_then ?_
          refine wp_ret ?_
          refine fin1 (.agg #[.int .i64 (tLo (lenL (p - c.x1) c.h1) c.v1 + (tLo (lenL (c.x2 - p) c.h2) c.v2)), .int .i64 (tHi (lenU (p - c.x1) c.h1) c.v1 + (tHi (lenU (c.x2 - p) c.h2) c.v2))]) Try.results62 A1112 S1114 (rv_cell (g := g7) (off := 0) 2 (by kernel_rfl) rfl (by kernel_rfl)) ⟨?_, S1114.kp⟩
          rfl
      · refine rs_alloc (#[.int .i64 0, .int .i64 0]) A999 S1000 (sub_skip sub_all) sub_all (by kernel_rfl) rfl rfl rfl (fun g1118 ac wc A1116 S1117 => ?_)
        have T1119 := S1117.sub (sub_skip (sub_skip sub_all)) sub_all
        refine r_1 (i := 9) (by kernel_rfl) ?_
        have q1124 := t_bd (l := (lenL (p - c.x1) c.h1)) (v := c.v1) (by omega) (by omega) (by omega)
        have q1125 := tH_bd (l := (lenU (p - c.x1) c.h1)) (v := c.v1) (by omega) (by omega) (by omega)
        refine rs_call (fs := #[]) (cp := #[]) (r := [(0, .agg #[.int .i64 (lenL (p - c.x1) c.h1), .int .i64 (lenU (p - c.x1) c.h1)]), (0, .int .i64 c.v1)]) #[.agg #[.int .i64 (lenL (p - c.x1) c.h1), .int .i64 (lenU (p - c.x1) c.h1)], .int .i64 c.v1] (.agg #[.int .i64 (tLo (lenL (p - c.x1) c.h1) c.v1), .int .i64 (tHi (lenU (p - c.x1) c.h1) c.v1)]) A1116 S1117 (sub_skip (sub_skip sub_all)) sub_all (lasting_s (lenL (p - c.x1) c.h1) (lenU (p - c.x1) c.h1) c.v1 _ (by omega) (by omega) (by omega) (by omega) (by omega)) Try.call93 rfl rfl (by kernel_rfl) (by kernel_rfl) (by kernel_rfl) rfl (fun ac wc A1120 S1121 => ?_)
        have T1123 := S1121.sub (sub_skip (sub_skip sub_all)) sub_all
        refine r_1 (i := 16) (by kernel_rfl) ?_
        have q1130 := len_bd (x := c.x2 - p) (z := c.h2) (by omega) (by omega)
        refine rs_call (fs := #[]) (cp := #[]) (r := [(0, .int .i64 (c.x2 - p)), (0, .int .i64 c.h2)]) #[.int .i64 (c.x2 - p), .int .i64 c.h2] (.agg #[.int .i64 (lenL (c.x2 - p) c.h2), .int .i64 (lenU (c.x2 - p) c.h2)]) A1120 S1121 (sub_skip (sub_skip sub_all)) sub_all (lengthOf_s (c.x2 - p) c.h2 _ (by omega) (by omega) (by omega) (by omega)) Try.call92 rfl rfl (by kernel_rfl) (by kernel_rfl) (by kernel_rfl) rfl (fun ac wc A1126 S1127 => ?_)
        have T1129 := S1127.sub (sub_skip (sub_skip sub_all)) sub_all
        refine r_1 (i := 19) (by kernel_rfl) ?_
        have q1135 := t_bd (l := (lenL (c.x2 - p) c.h2)) (v := c.v2) (by omega) (by omega) (by omega)
        have q1136 := tH_bd (l := (lenU (c.x2 - p) c.h2)) (v := c.v2) (by omega) (by omega) (by omega)
        refine rs_call (fs := #[]) (cp := #[]) (r := [(0, .agg #[.int .i64 (lenL (c.x2 - p) c.h2), .int .i64 (lenU (c.x2 - p) c.h2)]), (0, .int .i64 c.v2)]) #[.agg #[.int .i64 (lenL (c.x2 - p) c.h2), .int .i64 (lenU (c.x2 - p) c.h2)], .int .i64 c.v2] (.agg #[.int .i64 (tLo (lenL (c.x2 - p) c.h2) c.v2), .int .i64 (tHi (lenU (c.x2 - p) c.h2) c.v2)]) A1126 S1127 (sub_skip (sub_skip sub_all)) sub_all (lasting_s (lenL (c.x2 - p) c.h2) (lenU (c.x2 - p) c.h2) c.v2 _ (by omega) (by omega) (by omega) (by omega) (by omega)) Try.call93 rfl rfl (by kernel_rfl) (by kernel_rfl) (by kernel_rfl) rfl (fun ac wc A1131 S1132 => ?_)
        have T1134 := S1132.sub (sub_skip (sub_skip sub_all)) sub_all
        refine r_1 (i := 22) (by kernel_rfl) ?_
        refine rs_store (g := g1118) (off := 0) (v := .agg #[.int .i64 (tLo (lenL (p - c.x1) c.h1) c.v1), .int .i64 (tHi (lenU (p - c.x1) c.h1) c.v1)]) 0 (#[.int .i64 (tLo (lenL (p - c.x1) c.h1) c.v1), .int .i64 (tHi (lenU (p - c.x1) c.h1) c.v1)]) A1131 S1132 (sub_skip (sub_skip sub_all)) sub_all (by kernel_rfl) (by kernel_rfl) rfl (by kernel_rfl) rfl rfl (fun wc S1138 => ?_)
        have T1140 := S1138.sub (sub_skip (sub_skip sub_all)) sub_all
        refine r_1 (i := 23) (by kernel_rfl) ?_
        refine rs_store (g := g997) (off := 0) (v := .agg #[.int .i64 (tLo (lenL (c.x2 - p) c.h2) c.v2), .int .i64 (tHi (lenU (c.x2 - p) c.h2) c.v2)]) 1 (#[.int .i64 (tLo (lenL (c.x2 - p) c.h2) c.v2), .int .i64 (tHi (lenU (c.x2 - p) c.h2) c.v2)]) A1131 S1138 (sub_skip (sub_skip sub_all)) sub_all (by kernel_rfl) (by kernel_rfl) rfl (by kernel_rfl) rfl rfl (fun wc S1142 => ?_)
        have T1144 := S1142.sub (sub_skip (sub_skip sub_all)) sub_all
        refine r_done (by kernel_rfl) ?_
        refine n_then ?_
        refine wp_seq ?_
        refine wp_region_lit ?_
        refine s_one (.pointer (some ⟨g1118, 0, none⟩)) A1131 S1142 (g_field (u := .pointer (some ⟨g1118, 0, none⟩)) (by kernel_rfl) (fun _ => by kernel_rfl)) rfl (fun ac A1145 => ?_)
        refine s_one (.int .i64 (tLo (lenL (p - c.x1) c.h1) c.v1)) A1145 S1142 (g_load (g := g1118) (off := 0) 0 (by kernel_rfl) rfl (by kernel_rfl)) rfl (fun ac A1146 => ?_)
        refine s_one (.pointer (some ⟨g997, 0, none⟩)) A1146 S1142 (g_field (u := .pointer (some ⟨g997, 0, none⟩)) (by kernel_rfl) (fun _ => by kernel_rfl)) rfl (fun ac A1147 => ?_)
        refine s_one (.int .i64 (tLo (lenL (c.x2 - p) c.h2) c.v2)) A1147 S1142 (g_load (g := g997) (off := 0) 1 (by kernel_rfl) rfl (by kernel_rfl)) rfl (fun ac A1148 => ?_)
        refine s_one (.int .i64 (tLo (lenL (p - c.x1) c.h1) c.v1 + (tLo (lenL (c.x2 - p) c.h2) c.v2))) A1148 S1142 (g_bin (u := .int .i64 (tLo (lenL (p - c.x1) c.h1) c.v1)) (k := .int .i64 (tLo (lenL (c.x2 - p) c.h2) c.v2)) (by kernel_rfl) (by kernel_rfl) (fun _ => by kernel_rfl) (b_add (by omega))) rfl (fun ac A1149 => ?_)
        refine s_one (.pointer (some ⟨g1118, 1, none⟩)) A1149 S1142 (g_field (u := .pointer (some ⟨g1118, 0, none⟩)) (by kernel_rfl) (fun _ => by kernel_rfl)) rfl (fun ac A1150 => ?_)
        refine s_one (.int .i64 (tHi (lenU (p - c.x1) c.h1) c.v1)) A1150 S1142 (g_load (g := g1118) (off := 1) 0 (by kernel_rfl) rfl (by kernel_rfl)) rfl (fun ac A1151 => ?_)
        refine s_one (.pointer (some ⟨g997, 1, none⟩)) A1151 S1142 (g_field (u := .pointer (some ⟨g997, 0, none⟩)) (by kernel_rfl) (fun _ => by kernel_rfl)) rfl (fun ac A1152 => ?_)
        refine s_one (.int .i64 (tHi (lenU (c.x2 - p) c.h2) c.v2)) A1152 S1142 (g_load (g := g997) (off := 1) 1 (by kernel_rfl) rfl (by kernel_rfl)) rfl (fun ac A1153 => ?_)
        refine s_one (.int .i64 (tHi (lenU (p - c.x1) c.h1) c.v1 + (tHi (lenU (c.x2 - p) c.h2) c.v2))) A1153 S1142 (g_bin (u := .int .i64 (tHi (lenU (p - c.x1) c.h1) c.v1)) (k := .int .i64 (tHi (lenU (c.x2 - p) c.h2) c.v2)) (by kernel_rfl) (by kernel_rfl) (fun _ => by kernel_rfl) (b_add (by omega))) rfl (fun ac A1154 => ?_)
        refine s_one (.agg #[.int .i64 (tLo (lenL (p - c.x1) c.h1) c.v1 + (tLo (lenL (c.x2 - p) c.h2) c.v2)), .int .i64 (tHi (lenU (p - c.x1) c.h1) c.v1 + (tHi (lenU (c.x2 - p) c.h2) c.v2))]) A1154 S1142 (g_build (r := [(0, .int .i64 (tLo (lenL (p - c.x1) c.h1) c.v1 + (tLo (lenL (c.x2 - p) c.h2) c.v2))), (1, .int .i64 (tHi (lenU (p - c.x1) c.h1) c.v1 + (tHi (lenU (c.x2 - p) c.h2) c.v2)))]) (by kernel_rfl) (fun _ => by kernel_rfl)) rfl (fun ac A1155 => ?_)
        refine s_store (g := g7) (off := 0) (v := .agg #[.int .i64 (tLo (lenL (p - c.x1) c.h1) c.v1 + (tLo (lenL (c.x2 - p) c.h2) c.v2)), .int .i64 (tHi (lenU (p - c.x1) c.h1) c.v1 + (tHi (lenU (c.x2 - p) c.h2) c.v2))]) 2 (#[.int .i64 (tLo (lenL (p - c.x1) c.h1) c.v1 + (tLo (lenL (c.x2 - p) c.h2) c.v2)), .int .i64 (tHi (lenU (p - c.x1) c.h1) c.v1 + (tHi (lenU (c.x2 - p) c.h2) c.v2))]) A1155 S1142 (by kernel_rfl) (by kernel_rfl) rfl (by kernel_rfl) (fun wc S1157 => ?_)
        refine wpList_nil ?_
        refine n_then ?_
        refine wp_ret ?_
        refine fin1 (.agg #[.int .i64 (tLo (lenL (p - c.x1) c.h1) c.v1 + (tLo (lenL (c.x2 - p) c.h2) c.v2)), .int .i64 (tHi (lenU (p - c.x1) c.h1) c.v1 + (tHi (lenU (c.x2 - p) c.h2) c.v2))]) Try.results62 A1155 S1157 (rv_cell (g := g7) (off := 0) 2 (by kernel_rfl) rfl (by kernel_rfl)) ⟨?_, S1157.kp⟩
        rfl
    · refine rs_alloc (#[.int .i64 0, .int .i64 0]) A995 S996 (sub_skip sub_all) sub_all (by kernel_rfl) rfl rfl rfl (fun g1161 ac wc A1159 S1160 => ?_)
      have T1162 := S1160.sub (sub_skip (sub_skip sub_all)) sub_all
      refine r_1 (i := 6) (by kernel_rfl) ?_
      have q1167 := len_bd (x := p - c.x1) (z := c.h1) (by omega) (by omega)
      refine rs_call (fs := #[]) (cp := #[]) (r := [(0, .int .i64 (p - c.x1)), (0, .int .i64 c.h1)]) #[.int .i64 (p - c.x1), .int .i64 c.h1] (.agg #[.int .i64 (lenL (p - c.x1) c.h1), .int .i64 (lenU (p - c.x1) c.h1)]) A1159 S1160 (sub_skip (sub_skip sub_all)) sub_all (lengthOf_s (p - c.x1) c.h1 _ (by omega) (by omega) (by omega) (by omega)) Try.call92 rfl rfl (by kernel_rfl) (by kernel_rfl) (by kernel_rfl) rfl (fun ac wc A1163 S1164 => ?_)
      have T1166 := S1164.sub (sub_skip (sub_skip sub_all)) sub_all
      refine r_1 (i := 9) (by kernel_rfl) ?_
      have q1172 := t_bd (l := (lenL (p - c.x1) c.h1)) (v := c.v1) (by omega) (by omega) (by omega)
      have q1173 := tH_bd (l := (lenU (p - c.x1) c.h1)) (v := c.v1) (by omega) (by omega) (by omega)
      refine rs_call (fs := #[]) (cp := #[]) (r := [(0, .agg #[.int .i64 (lenL (p - c.x1) c.h1), .int .i64 (lenU (p - c.x1) c.h1)]), (0, .int .i64 c.v1)]) #[.agg #[.int .i64 (lenL (p - c.x1) c.h1), .int .i64 (lenU (p - c.x1) c.h1)], .int .i64 c.v1] (.agg #[.int .i64 (tLo (lenL (p - c.x1) c.h1) c.v1), .int .i64 (tHi (lenU (p - c.x1) c.h1) c.v1)]) A1163 S1164 (sub_skip (sub_skip sub_all)) sub_all (lasting_s (lenL (p - c.x1) c.h1) (lenU (p - c.x1) c.h1) c.v1 _ (by omega) (by omega) (by omega) (by omega) (by omega)) Try.call93 rfl rfl (by kernel_rfl) (by kernel_rfl) (by kernel_rfl) rfl (fun ac wc A1168 S1169 => ?_)
      have T1171 := S1169.sub (sub_skip (sub_skip sub_all)) sub_all
      refine r_1 (i := 16) (by kernel_rfl) ?_
      have q1178 := len_bd (x := c.x2 - p) (z := c.h2) (by omega) (by omega)
      refine rs_call (fs := #[]) (cp := #[]) (r := [(0, .int .i64 (c.x2 - p)), (0, .int .i64 c.h2)]) #[.int .i64 (c.x2 - p), .int .i64 c.h2] (.agg #[.int .i64 (lenL (c.x2 - p) c.h2), .int .i64 (lenU (c.x2 - p) c.h2)]) A1168 S1169 (sub_skip (sub_skip sub_all)) sub_all (lengthOf_s (c.x2 - p) c.h2 _ (by omega) (by omega) (by omega) (by omega)) Try.call92 rfl rfl (by kernel_rfl) (by kernel_rfl) (by kernel_rfl) rfl (fun ac wc A1174 S1175 => ?_)
      have T1177 := S1175.sub (sub_skip (sub_skip sub_all)) sub_all
      refine r_1 (i := 19) (by kernel_rfl) ?_
      have q1183 := t_bd (l := (lenL (c.x2 - p) c.h2)) (v := c.v2) (by omega) (by omega) (by omega)
      have q1184 := tH_bd (l := (lenU (c.x2 - p) c.h2)) (v := c.v2) (by omega) (by omega) (by omega)
      refine rs_call (fs := #[]) (cp := #[]) (r := [(0, .agg #[.int .i64 (lenL (c.x2 - p) c.h2), .int .i64 (lenU (c.x2 - p) c.h2)]), (0, .int .i64 c.v2)]) #[.agg #[.int .i64 (lenL (c.x2 - p) c.h2), .int .i64 (lenU (c.x2 - p) c.h2)], .int .i64 c.v2] (.agg #[.int .i64 (tLo (lenL (c.x2 - p) c.h2) c.v2), .int .i64 (tHi (lenU (c.x2 - p) c.h2) c.v2)]) A1174 S1175 (sub_skip (sub_skip sub_all)) sub_all (lasting_s (lenL (c.x2 - p) c.h2) (lenU (c.x2 - p) c.h2) c.v2 _ (by omega) (by omega) (by omega) (by omega) (by omega)) Try.call93 rfl rfl (by kernel_rfl) (by kernel_rfl) (by kernel_rfl) rfl (fun ac wc A1179 S1180 => ?_)
      have T1182 := S1180.sub (sub_skip (sub_skip sub_all)) sub_all
      refine r_1 (i := 22) (by kernel_rfl) ?_
      refine rs_store (g := g1161) (off := 0) (v := .agg #[.int .i64 (tLo (lenL (p - c.x1) c.h1) c.v1), .int .i64 (tHi (lenU (p - c.x1) c.h1) c.v1)]) 0 (#[.int .i64 (tLo (lenL (p - c.x1) c.h1) c.v1), .int .i64 (tHi (lenU (p - c.x1) c.h1) c.v1)]) A1179 S1180 (sub_skip (sub_skip sub_all)) sub_all (by kernel_rfl) (by kernel_rfl) rfl (by kernel_rfl) rfl rfl (fun wc S1186 => ?_)
      have T1188 := S1186.sub (sub_skip (sub_skip sub_all)) sub_all
      refine r_1 (i := 23) (by kernel_rfl) ?_
      refine rs_store (g := g997) (off := 0) (v := .agg #[.int .i64 (tLo (lenL (c.x2 - p) c.h2) c.v2), .int .i64 (tHi (lenU (c.x2 - p) c.h2) c.v2)]) 1 (#[.int .i64 (tLo (lenL (c.x2 - p) c.h2) c.v2), .int .i64 (tHi (lenU (c.x2 - p) c.h2) c.v2)]) A1179 S1186 (sub_skip (sub_skip sub_all)) sub_all (by kernel_rfl) (by kernel_rfl) rfl (by kernel_rfl) rfl rfl (fun wc S1190 => ?_)
      have T1192 := S1190.sub (sub_skip (sub_skip sub_all)) sub_all
      refine r_done (by kernel_rfl) ?_
      refine n_then ?_
      refine wp_seq ?_
      refine wp_region_lit ?_
      refine s_one (.pointer (some ⟨g1161, 0, none⟩)) A1179 S1190 (g_field (u := .pointer (some ⟨g1161, 0, none⟩)) (by kernel_rfl) (fun _ => by kernel_rfl)) rfl (fun ac A1193 => ?_)
      refine s_one (.int .i64 (tLo (lenL (p - c.x1) c.h1) c.v1)) A1193 S1190 (g_load (g := g1161) (off := 0) 0 (by kernel_rfl) rfl (by kernel_rfl)) rfl (fun ac A1194 => ?_)
      refine s_one (.pointer (some ⟨g997, 0, none⟩)) A1194 S1190 (g_field (u := .pointer (some ⟨g997, 0, none⟩)) (by kernel_rfl) (fun _ => by kernel_rfl)) rfl (fun ac A1195 => ?_)
      refine s_one (.int .i64 (tLo (lenL (c.x2 - p) c.h2) c.v2)) A1195 S1190 (g_load (g := g997) (off := 0) 1 (by kernel_rfl) rfl (by kernel_rfl)) rfl (fun ac A1196 => ?_)
      refine s_one (.int .i64 (tLo (lenL (p - c.x1) c.h1) c.v1 + (tLo (lenL (c.x2 - p) c.h2) c.v2))) A1196 S1190 (g_bin (u := .int .i64 (tLo (lenL (p - c.x1) c.h1) c.v1)) (k := .int .i64 (tLo (lenL (c.x2 - p) c.h2) c.v2)) (by kernel_rfl) (by kernel_rfl) (fun _ => by kernel_rfl) (b_add (by omega))) rfl (fun ac A1197 => ?_)
      refine s_one (.pointer (some ⟨g1161, 1, none⟩)) A1197 S1190 (g_field (u := .pointer (some ⟨g1161, 0, none⟩)) (by kernel_rfl) (fun _ => by kernel_rfl)) rfl (fun ac A1198 => ?_)
      refine s_one (.int .i64 (tHi (lenU (p - c.x1) c.h1) c.v1)) A1198 S1190 (g_load (g := g1161) (off := 1) 0 (by kernel_rfl) rfl (by kernel_rfl)) rfl (fun ac A1199 => ?_)
      refine s_one (.pointer (some ⟨g997, 1, none⟩)) A1199 S1190 (g_field (u := .pointer (some ⟨g997, 0, none⟩)) (by kernel_rfl) (fun _ => by kernel_rfl)) rfl (fun ac A1200 => ?_)
      refine s_one (.int .i64 (tHi (lenU (c.x2 - p) c.h2) c.v2)) A1200 S1190 (g_load (g := g997) (off := 1) 1 (by kernel_rfl) rfl (by kernel_rfl)) rfl (fun ac A1201 => ?_)
      refine s_one (.int .i64 (tHi (lenU (p - c.x1) c.h1) c.v1 + (tHi (lenU (c.x2 - p) c.h2) c.v2))) A1201 S1190 (g_bin (u := .int .i64 (tHi (lenU (p - c.x1) c.h1) c.v1)) (k := .int .i64 (tHi (lenU (c.x2 - p) c.h2) c.v2)) (by kernel_rfl) (by kernel_rfl) (fun _ => by kernel_rfl) (b_add (by omega))) rfl (fun ac A1202 => ?_)
      refine s_one (.agg #[.int .i64 (tLo (lenL (p - c.x1) c.h1) c.v1 + (tLo (lenL (c.x2 - p) c.h2) c.v2)), .int .i64 (tHi (lenU (p - c.x1) c.h1) c.v1 + (tHi (lenU (c.x2 - p) c.h2) c.v2))]) A1202 S1190 (g_build (r := [(0, .int .i64 (tLo (lenL (p - c.x1) c.h1) c.v1 + (tLo (lenL (c.x2 - p) c.h2) c.v2))), (1, .int .i64 (tHi (lenU (p - c.x1) c.h1) c.v1 + (tHi (lenU (c.x2 - p) c.h2) c.v2)))]) (by kernel_rfl) (fun _ => by kernel_rfl)) rfl (fun ac A1203 => ?_)
      refine s_store (g := g7) (off := 0) (v := .agg #[.int .i64 (tLo (lenL (p - c.x1) c.h1) c.v1 + (tLo (lenL (c.x2 - p) c.h2) c.v2)), .int .i64 (tHi (lenU (p - c.x1) c.h1) c.v1 + (tHi (lenU (c.x2 - p) c.h2) c.v2))]) 2 (#[.int .i64 (tLo (lenL (p - c.x1) c.h1) c.v1 + (tLo (lenL (c.x2 - p) c.h2) c.v2)), .int .i64 (tHi (lenU (p - c.x1) c.h1) c.v1 + (tHi (lenU (c.x2 - p) c.h2) c.v2))]) A1203 S1190 (by kernel_rfl) (by kernel_rfl) rfl (by kernel_rfl) (fun wc S1205 => ?_)
      refine wpList_nil ?_
      refine n_then ?_
      refine wp_ret ?_
      refine fin1 (.agg #[.int .i64 (tLo (lenL (p - c.x1) c.h1) c.v1 + (tLo (lenL (c.x2 - p) c.h2) c.v2)), .int .i64 (tHi (lenU (p - c.x1) c.h1) c.v1 + (tHi (lenU (c.x2 - p) c.h2) c.v2))]) Try.results62 A1203 S1205 (rv_cell (g := g7) (off := 0) 2 (by kernel_rfl) rfl (by kernel_rfl)) ⟨?_, S1205.kp⟩
      rfl

end Go.Proofs.Ytnfmfkejhgbipaa
