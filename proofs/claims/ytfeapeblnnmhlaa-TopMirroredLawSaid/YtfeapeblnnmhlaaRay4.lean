/- Crossings and times of chapter 1. -/
import Derived.Test.YtfeapeblnnmhlaaRay3
namespace Go.Proofs.Ytfeapeblnnmhlaa
open Go.RowKit Go.Cpl Go.Ray1

set_option maxRecDepth 100000 in
set_option maxHeartbeats 400000 in
theorem crossing1_s (c : Cr) (h : Int) (gx gl : Nat) (w0 : World) (hb1 : Blk w0 gx 77 #[.int .i64 c.x1, .int .i64 c.h1, .int .i64 c.v1, .int .i64 c.x2, .int .i64 c.h2, .int .i64 c.v2]) (hb2 : Blk w0 gl 3 #[.int .i64 c.lo]) (ok : c.Ok) (h0 : 0 ≤ h) (h1 : c.lo + h ≤ c.hi) :
    Calls Try.prog 59 #[.int .i64 h, .pointer (some ⟨gx, 0, none⟩), .pointer (some ⟨gl, 0, none⟩)] w0 fun e w' => e = .returned (.bool (decide (slp c (c.lo + h) > 0))) ∧ Below w0.heap.size w0 w' := by
  have S0 := St.start w0
  have S0 := S0.came hb2 (by simp)
  have S0 := S0.came hb1 (by simp)
  have p1 := ok.x1
  have p2 := ok.x2
  have p3 := ok.h1
  have p4 := ok.h2
  have p5 := ok.v1
  have p6 := ok.v2
  have pl : c.lo = min c.x1 c.x2 := rfl
  have ph : c.hi = max c.x1 c.x2 := rfl
  refine enter (n := 11) Try.func59 rfl rfl rfl (fun ac A0 => ?_)
  refine wp_seq ?_
  refine wp_region_lit ?_
  refine s_one (.bool false) A0 S0 (g_assign (by kernel_rfl)) rfl (fun ac A1 => ?_)
  refine wpList_nil ?_
  refine n_then ?_
  refine wp_seq ?_
  refine wp_region_lit ?_
  refine s_one (.agg #[.int .i64 c.x1, .int .i64 c.h1, .int .i64 c.v1, .int .i64 c.x2, .int .i64 c.h2, .int .i64 c.v2]) A1 S0 (g_load (g := gx) (off := 0) 0 (by kernel_rfl) rfl (by kernel_rfl)) rfl (fun ac A2 => ?_)
  refine s_one (.int .i64 c.lo) A2 S0 (g_load (g := gl) (off := 0) 1 (by kernel_rfl) rfl (by kernel_rfl)) rfl (fun ac A3 => ?_)
  refine s_one (.int .i64 h) A3 S0 (g_move (by kernel_rfl)) rfl (fun ac A4 => ?_)
  refine s_one (.int .i64 (c.lo + h)) A4 S0 (g_bin (u := .int .i64 c.lo) (k := .int .i64 h) (by kernel_rfl) (by kernel_rfl) (fun _ => by kernel_rfl) (b_add (by omega))) rfl (fun ac A5 => ?_)
  refine s_call (fs := #[]) (cp := #[]) (r := [(0, .agg #[.int .i64 c.x1, .int .i64 c.h1, .int .i64 c.v1, .int .i64 c.x2, .int .i64 c.h2, .int .i64 c.v2]), (0, .int .i64 (c.lo + h))]) #[.agg #[.int .i64 c.x1, .int .i64 c.h1, .int .i64 c.v1, .int .i64 c.x2, .int .i64 c.h2, .int .i64 c.v2], .int .i64 (c.lo + h)] (.int .i64 (slp c (c.lo + h))) A5 S0 (slope_s c (c.lo + h) _ ok (by omega) (by omega)) Try.call60 (by kernel_rfl) (by kernel_rfl) (by kernel_rfl) rfl (fun ac wc A6 S7 => ?_)
  refine s_one (.bool (decide (slp c (c.lo + h) > 0))) A6 S7 (g_bin (u := .int .i64 (slp c (c.lo + h))) (k := .int .i64 0) (by kernel_rfl) (by kernel_rfl) (fun _ => by kernel_rfl) (fun _ => by kernel_rfl)) rfl (fun ac A9 => ?_)
  refine s_one (.bool (decide (slp c (c.lo + h) > 0))) A9 S7 (g_assign (by kernel_rfl)) rfl (fun ac A10 => ?_)
  refine wpList_nil ?_
  refine n_then ?_
  refine wp_ret ?_
  refine fin1 (.bool (decide (slp c (c.lo + h) > 0))) Try.results59 A10 S7 (rv_tmp (by kernel_rfl)) ⟨?_, S7.kp⟩
  rfl

theorem crs_of {c : Cr} (ok : c.Ok) {i : Int} (hi : 0 ≤ i ∧ i ≤ c.hi - c.lo + 1) (a : i = 0 ∨ slp c (c.lo + (i - 1)) ≤ 0) (b : i = c.hi - c.lo + 1 ∨ slp c (c.lo + i) > 0) : i = crs c - c.lo + 1 := by
  have hlh : c.lo ≤ c.hi := by unfold Cr.lo Cr.hi; omega
  have hz : i ≠ 0 := by
    intro e
    subst e
    rcases b with b | b
    · omega
    · have := slp_lo ok; rw [show c.lo + 0 = c.lo by omega] at b; omega
  have h : IsCrs c (c.lo + (i - 1)) := by
    refine ⟨by omega, by omega, ?_, fun h => ?_⟩
    · rcases a with a | a
      · exact absurd a hz
      · exact a
    · rw [show c.lo + (i - 1) + 1 = c.lo + i by omega]
      rcases b with b | b
      · omega
      · exact b
  rw [crs_eq ok h]; omega
theorem crs_y {c : Cr} {h : Int} (hh : ¬ slp c (c.lo + h) > 0) : h + 1 = 0 ∨ slp c (c.lo + (h + 1 - 1)) ≤ 0 := by rw [show h + 1 - 1 = h by omega]; omega

set_option maxRecDepth 100000 in
set_option maxHeartbeats 400000 in
theorem SearchC_s (c : Cr) (gx gl : Nat) (w0 : World) (hb1 : Blk w0 gx 77 #[.int .i64 c.x1, .int .i64 c.h1, .int .i64 c.v1, .int .i64 c.x2, .int .i64 c.h2, .int .i64 c.v2]) (hb2 : Blk w0 gl 3 #[.int .i64 c.lo]) (ok : c.Ok) :
    Calls Try.prog 58 #[.int .i64 (c.hi - c.lo + 1), .func (.func 59) #[] #[.pointer (some ⟨gx, 0, none⟩), .pointer (some ⟨gl, 0, none⟩)]] w0 fun e w' => e = .returned (.int .i64 (crs c - c.lo + 1)) ∧ Below w0.heap.size w0 w' := by
  have S0 := St.start w0
  have S0 := S0.came hb2 (by simp)
  have S0 := S0.came hb1 (by simp)
  have p1 := ok.x1
  have p2 := ok.x2
  have p3 := ok.h1
  have p4 := ok.h2
  have p5 := ok.v1
  have p6 := ok.v2
  have pl : c.lo = min c.x1 c.x2 := rfl
  have ph : c.hi = max c.x1 c.x2 := rfl
  refine enter (n := 26) Try.func58 rfl rfl rfl (fun ac A0 => ?_)
  refine wp_seq ?_
  refine wp_region_lit ?_
  refine s_one (.int .i64 0) A0 S0 (g_assign (by kernel_rfl)) rfl (fun ac A1 => ?_)
  refine wpList_nil ?_
  refine n_then ?_
  refine wp_seq ?_
  refine wp_region_lit ?_
  refine s_one (.int .i64 (c.hi - c.lo + 1)) A1 S0 (g_move (by kernel_rfl)) rfl (fun ac A2 => ?_)
  refine s_one (.int .i64 0) A2 S0 (g_assign (by kernel_rfl)) rfl (fun ac A3 => ?_)
  refine s_one (.int .i64 (c.hi - c.lo + 1)) A3 S0 (g_assign (by kernel_rfl)) rfl (fun ac A4 => ?_)
  refine wpList_nil ?_
  refine n_then ?_
  refine wp_seq ?_
  refine wp_block ?_
  refine c_loopN (fun mm ac wc => ∃ (i : Int) (j : Int), mm = (j - i).toNat ∧ (0 ≤ i ∧ i ≤ j) ∧ (j ≤ c.hi - c.lo + 1) ∧ (i = 0 ∨ slp c (c.lo + (i - 1)) ≤ 0) ∧ (j = c.hi - c.lo + 1 ∨ slp c (c.lo + j) > 0) ∧ Fr 26 ac [(0, .int .i64 (c.hi - c.lo + 1)), (1, .func (.func 59) #[] #[.pointer (some ⟨gx, 0, none⟩), .pointer (some ⟨gl, 0, none⟩)]), (4, .int .i64 0), (8, .int .i64 (c.hi - c.lo + 1)), (5, .int .i64 i), (6, .int .i64 j)] ∧ St w0 [⟨gx, 77, #[.int .i64 c.x1, .int .i64 c.h1, .int .i64 c.v1, .int .i64 c.x2, .int .i64 c.h2, .int .i64 c.v2], false⟩, ⟨gl, 3, #[.int .i64 c.lo], false⟩] [] wc) _ ⟨0, c.hi - c.lo + 1, rfl, (by omega), (by omega), (.inl rfl), (.inl rfl), (A4.slot (A4.slot (A4.slot (A4.slot (A4.slot (A4.slot A4.nil (v := .int .i64 (c.hi - c.lo + 1)) (by kernel_rfl) (congrArg (Value.int .i64) (by omega))) (v := .int .i64 0) (by kernel_rfl) (congrArg (Value.int .i64) (by omega))) (v := .int .i64 (c.hi - c.lo + 1)) (by kernel_rfl) rfl) (v := .int .i64 0) (by kernel_rfl) rfl) (v := .func (.func 59) #[] #[.pointer (some ⟨gx, 0, none⟩), .pointer (some ⟨gl, 0, none⟩)]) (by kernel_rfl) rfl) (v := .int .i64 (c.hi - c.lo + 1)) (by kernel_rfl) rfl), S0.sub sub_all sub_all⟩ ?_
  rintro mm ac wc ⟨i, j, hm7, h3, h4, ha, hc, A5, S6⟩
  refine wp_seq ?_
  refine wp_seq ?_
  refine wp_region_lit ?_
  refine s_one (.int .i64 i) A5 S6 (g_move (by kernel_rfl)) rfl (fun ac A8 => ?_)
  refine s_one (.int .i64 j) A8 S6 (g_move (by kernel_rfl)) rfl (fun ac A9 => ?_)
  refine s_one (.bool (decide (i < j))) A9 S6 (g_bin (u := .int .i64 i) (k := .int .i64 j) (by kernel_rfl) (by kernel_rfl) (fun _ => by kernel_rfl) (fun _ => by kernel_rfl)) rfl (fun ac A10 => ?_)
  refine wpList_nil ?_
  refine n_then ?_
  refine c_ifb (b := (decide (i < j))) A10 (by kernel_rfl) (fun h11 => ?_) (fun h11 => ?_)
  · have p12 := of_decide_eq_true h11
    refine wp_skip ?_
    refine n_then ?_
    refine wp_block ?_
    refine wp_seq ?_
    refine wp_region_lit ?_
    refine s_one (.int .i64 i) A10 S6 (g_move (by kernel_rfl)) rfl (fun ac A13 => ?_)
    refine s_one (.int .i64 j) A13 S6 (g_move (by kernel_rfl)) rfl (fun ac A14 => ?_)
    refine s_one (.int .i64 (i + j)) A14 S6 (g_bin (u := .int .i64 i) (k := .int .i64 j) (by kernel_rfl) (by kernel_rfl) (fun _ => by kernel_rfl) (b_add (by omega))) rfl (fun ac A15 => ?_)
    refine s_one (.int .u64 (i + j)) A15 S6 (g_conv (u := .int .i64 (i + j)) (by kernel_rfl) (cv_iu (by kernel_rfl) (by kernel_rfl) (by kernel_rfl) (by omega))) rfl (fun ac A16 => ?_)
    refine s_one (.int .u64 ((i + j) / 2)) A16 S6 (g_bin (u := .int .u64 (i + j)) (k := .int .u64 1) (by kernel_rfl) (by kernel_rfl) (fun _ => by kernel_rfl) u_shr1) rfl (fun ac A17 => ?_)
    refine s_one (.int .i64 ((i + j) / 2)) A17 S6 (g_conv (u := .int .u64 ((i + j) / 2)) (by kernel_rfl) (cv_ui (by kernel_rfl) (by kernel_rfl) (by kernel_rfl) (by omega))) rfl (fun ac A18 => ?_)
    refine s_one (.int .i64 ((i + j) / 2)) A18 S6 (g_assign (by kernel_rfl)) rfl (fun ac A19 => ?_)
    refine wpList_nil ?_
    refine n_then ?_
    refine wp_seq ?_
    refine wp_region_lit ?_
    refine s_one (.func (.func 59) #[] #[.pointer (some ⟨gx, 0, none⟩), .pointer (some ⟨gl, 0, none⟩)]) A19 S6 (g_move (by kernel_rfl)) rfl (fun ac A20 => ?_)
    refine s_one (.int .i64 ((i + j) / 2)) A20 S6 (g_move (by kernel_rfl)) rfl (fun ac A21 => ?_)
    refine s_call (fs := #[]) (cp := #[.pointer (some ⟨gx, 0, none⟩), .pointer (some ⟨gl, 0, none⟩)]) (r := [(0, .int .i64 ((i + j) / 2))]) #[.int .i64 ((i + j) / 2), .pointer (some ⟨gx, 0, none⟩), .pointer (some ⟨gl, 0, none⟩)] (.bool (decide (slp c (c.lo + ((i + j) / 2)) > 0))) A21 S6 (crossing1_s c ((i + j) / 2) gx gl _ (S6.get 0 rfl) (S6.get 1 rfl) ok (by omega) (by omega)) Try.call59 (by kernel_rfl) (by kernel_rfl) (by kernel_rfl) rfl (fun ac wc A22 S23 => ?_)
    refine s_one (.bool (!(decide (slp c (c.lo + ((i + j) / 2)) > 0)))) A22 S23 (g_un (u := .bool (decide (slp c (c.lo + ((i + j) / 2)) > 0))) (by kernel_rfl) (fun _ => by kernel_rfl)) rfl (fun ac A25 => ?_)
    refine wpList_nil ?_
    refine n_then ?_
    refine c_ifb (b := (!(decide (slp c (c.lo + ((i + j) / 2)) > 0)))) A25 (by kernel_rfl) (fun h26 => ?_) (fun h26 => ?_)
    · have h27 : decide (slp c (c.lo + ((i + j) / 2)) > 0) = false := by simpa using h26
      have p28 := of_decide_eq_false h27
      refine wp_region_lit ?_
      refine s_one (.int .i64 ((i + j) / 2)) A25 S23 (g_move (by kernel_rfl)) rfl (fun ac A29 => ?_)
      refine s_one (.int .i64 ((i + j) / 2 + 1)) A29 S23 (g_bin (u := .int .i64 ((i + j) / 2)) (k := .int .i64 1) (by kernel_rfl) (by kernel_rfl) (fun _ => by kernel_rfl) (b_add (by omega))) rfl (fun ac A30 => ?_)
      refine s_one (.int .i64 ((i + j) / 2 + 1)) A30 S23 (g_assign (by kernel_rfl)) rfl (fun ac A31 => ?_)
      refine wpList_nil ?_
      refine n_block ?_
      refine n_then ?_
      refine ⟨_, ⟨(i + j) / 2 + 1, j, rfl, (by omega), (by omega), (crs_y p28), hc, (A31.slot (A31.slot (A31.slot (A31.slot (A31.slot (A31.slot A31.nil (v := .int .i64 j) (by kernel_rfl) rfl) (v := .int .i64 ((i + j) / 2 + 1)) (by kernel_rfl) rfl) (v := .int .i64 (c.hi - c.lo + 1)) (by kernel_rfl) rfl) (v := .int .i64 0) (by kernel_rfl) rfl) (v := .func (.func 59) #[] #[.pointer (some ⟨gx, 0, none⟩), .pointer (some ⟨gl, 0, none⟩)]) (by kernel_rfl) rfl) (v := .int .i64 (c.hi - c.lo + 1)) (by kernel_rfl) rfl), S23.sub sub_all sub_all⟩, ?_⟩
      omega
    · have h32 : decide (slp c (c.lo + ((i + j) / 2)) > 0) = true := by simpa using h26
      have p33 := of_decide_eq_true h32
      refine wp_region_lit ?_
      refine s_one (.int .i64 ((i + j) / 2)) A25 S23 (g_move (by kernel_rfl)) rfl (fun ac A34 => ?_)
      refine s_one (.int .i64 ((i + j) / 2)) A34 S23 (g_assign (by kernel_rfl)) rfl (fun ac A35 => ?_)
      refine wpList_nil ?_
      refine n_block ?_
      refine n_then ?_
      refine ⟨_, ⟨i, (i + j) / 2, rfl, (by omega), (by omega), ha, (.inr p33), (A35.slot (A35.slot (A35.slot (A35.slot (A35.slot (A35.slot A35.nil (v := .int .i64 ((i + j) / 2)) (by kernel_rfl) rfl) (v := .int .i64 i) (by kernel_rfl) rfl) (v := .int .i64 (c.hi - c.lo + 1)) (by kernel_rfl) rfl) (v := .int .i64 0) (by kernel_rfl) rfl) (v := .func (.func 59) #[] #[.pointer (some ⟨gx, 0, none⟩), .pointer (some ⟨gl, 0, none⟩)]) (by kernel_rfl) rfl) (v := .int .i64 (c.hi - c.lo + 1)) (by kernel_rfl) rfl), S23.sub sub_all sub_all⟩, ?_⟩
      omega
  · have p36 := of_decide_eq_false h11
    refine wp_exit ?_
    refine x_then ?_
    refine x_then ?_
    refine x_hit ?_
    refine n_then ?_
    refine wp_seq ?_
    refine wp_region_lit ?_
    refine s_one (.int .i64 i) A10 S6 (g_move (by kernel_rfl)) rfl (fun ac A37 => ?_)
    refine s_one (.int .i64 i) A37 S6 (g_assign (by kernel_rfl)) rfl (fun ac A38 => ?_)
    refine wpList_nil ?_
    refine n_then ?_
    refine wp_ret ?_
    refine fin1 (.int .i64 i) Try.results58 A38 S6 (rv_tmp (by kernel_rfl)) ⟨?_, S6.kp⟩
    obtain rfl : j = i := by omega
    rw [← crs_of ok (by omega) ha hc]

theorem crs_bd {c : Cr} (ok : c.Ok) : c.lo ≤ crs c ∧ crs c ≤ c.hi := ⟨(crs_is ok).lo, (crs_is ok).hi⟩

set_option maxRecDepth 100000 in
set_option maxHeartbeats 400000 in
theorem crossing_s (c : Cr) (w0 : World) (ok : c.Ok) :
    Calls Try.prog 46 #[.agg #[.int .i64 c.x1, .int .i64 c.h1, .int .i64 c.v1, .int .i64 c.x2, .int .i64 c.h2, .int .i64 c.v2]] w0 fun e w' => e = .returned (.int .i64 (crs c)) ∧ Below w0.heap.size w0 w' := by
  have S0 := St.start w0
  have p1 := ok.x1
  have p2 := ok.x2
  have p3 := ok.h1
  have p4 := ok.h2
  have p5 := ok.v1
  have p6 := ok.v2
  have pl : c.lo = min c.x1 c.x2 := rfl
  have ph : c.hi = max c.x1 c.x2 := rfl
  have kk := crs_is ok
  have kk1 := kk.lo
  have kk2 := kk.hi
  refine enter (n := 19) Try.func46 rfl rfl rfl (fun ac A0 => ?_)
  refine wp_seq ?_
  refine wp_region_lit ?_
  refine s_box (.agg #[.int .i64 c.x1, .int .i64 c.h1, .int .i64 c.v1, .int .i64 c.x2, .int .i64 c.h2, .int .i64 c.v2]) A0 S0 (by kernel_rfl) rfl (fun g3 ac wc A1 S2 => ?_)
  replace S2 : St _ (⟨g3, 77, #[.int .i64 c.x1, .int .i64 c.h1, .int .i64 c.v1, .int .i64 c.x2, .int .i64 c.h2, .int .i64 c.v2], true⟩ :: _) _ _ := S2
  refine s_one (.int .i64 0) A1 S2 (g_assign (by kernel_rfl)) rfl (fun ac A5 => ?_)
  refine wpList_nil ?_
  refine n_then ?_
  refine wp_seq ?_
  refine wp_region_lit ?_
  refine s_one (.agg #[.int .i64 c.x1, .int .i64 c.h1, .int .i64 c.v1, .int .i64 c.x2, .int .i64 c.h2, .int .i64 c.v2]) A5 S2 (g_load (g := g3) (off := 0) 0 (by kernel_rfl) rfl (by kernel_rfl)) rfl (fun ac A6 => ?_)
  refine s_call (fs := #[]) (cp := #[]) (r := [(0, .agg #[.int .i64 c.x1, .int .i64 c.h1, .int .i64 c.v1, .int .i64 c.x2, .int .i64 c.h2, .int .i64 c.v2])]) #[.agg #[.int .i64 c.x1, .int .i64 c.h1, .int .i64 c.v1, .int .i64 c.x2, .int .i64 c.h2, .int .i64 c.v2]] (.tuple #[.int .i64 c.lo, .int .i64 c.hi]) A6 S2 (ends_s c _) Try.call57 (by kernel_rfl) (by kernel_rfl) (by kernel_rfl) rfl (fun ac wc A7 S8 => ?_)
  refine s_one (.tuple #[.int .i64 c.lo, .int .i64 c.hi]) A7 S8 (g_move (by kernel_rfl)) rfl (fun ac A10 => ?_)
  refine s_one (.int .i64 c.lo) A10 S8 (g_extract (u := .tuple #[.int .i64 c.lo, .int .i64 c.hi]) (by kernel_rfl) (fun _ => by kernel_rfl)) rfl (fun ac A11 => ?_)
  refine s_one (.int .i64 c.hi) A11 S8 (g_extract (u := .tuple #[.int .i64 c.lo, .int .i64 c.hi]) (by kernel_rfl) (fun _ => by kernel_rfl)) rfl (fun ac A12 => ?_)
  refine s_alloc (#[.int .i64 0]) A12 S8 (by kernel_rfl) rfl (fun g15 ac wc A13 S14 => ?_)
  refine s_store (g := g15) (off := 0) (v := .int .i64 c.lo) 0 (#[.int .i64 c.lo]) A13 S14 (by kernel_rfl) (by kernel_rfl) rfl (by kernel_rfl) (fun wc S17 => ?_)
  refine s_one (.int .i64 c.hi) A13 S17 (g_assign (by kernel_rfl)) rfl (fun ac A19 => ?_)
  refine wpList_nil ?_
  refine n_then ?_
  refine wp_seq ?_
  refine r_begin (w0 := w0) (by kernel_rfl) (S17.sub sub_all sub_all) (fun wc T20 B21 => ?_)
  have S22 := S17.kept B21
  refine r_take 0 (.int .i64 c.lo) A19 T20 (g_load (g := g15) (off := 0) 0 (by kernel_rfl) rfl (by kernel_rfl)) rfl rfl rfl (pf_then pf_body) (by kernel_rfl) (fun ac A23 => ?_)
  refine r_take 1 (.int .i64 (c.lo - 1)) A23 T20 (g_bin (u := .int .i64 c.lo) (k := .int .i64 1) (by kernel_rfl) (by kernel_rfl) (fun _ => by kernel_rfl) (b_sub (by omega))) rfl rfl rfl (pf_then pf_body) (by kernel_rfl) (fun ac A24 => ?_)
  refine r_take 2 (.int .i64 c.hi) A24 T20 (g_move (by kernel_rfl)) rfl rfl rfl (pf_then pf_body) (by kernel_rfl) (fun ac A25 => ?_)
  refine r_take 3 (.int .i64 c.lo) A25 T20 (g_load (g := g15) (off := 0) 0 (by kernel_rfl) rfl (by kernel_rfl)) rfl rfl rfl (pf_then pf_body) (by kernel_rfl) (fun ac A26 => ?_)
  refine r_take 4 (.int .i64 (c.hi - c.lo)) A26 T20 (g_bin (u := .int .i64 c.hi) (k := .int .i64 c.lo) (by kernel_rfl) (by kernel_rfl) (fun _ => by kernel_rfl) (b_sub (by omega))) rfl rfl rfl (pf_then pf_body) (by kernel_rfl) (fun ac A27 => ?_)
  refine r_take 5 (.int .i64 (c.hi - c.lo + 1)) A27 T20 (g_bin (u := .int .i64 (c.hi - c.lo)) (k := .int .i64 1) (by kernel_rfl) (by kernel_rfl) (fun _ => by kernel_rfl) (b_add (by omega))) rfl rfl rfl (pf_then pf_body) (by kernel_rfl) (fun ac A28 => ?_)
  refine r_take 6 (.func (.func 59) #[] #[.pointer (some ⟨g3, 0, none⟩), .pointer (some ⟨g15, 0, none⟩)]) A28 T20 (g_func (us := []) (vs := [(0, .pointer (some ⟨g3, 0, none⟩)), (0, .pointer (some ⟨g15, 0, none⟩))]) (by kernel_rfl) (by kernel_rfl) (fun _ => by kernel_rfl)) rfl rfl rfl (pf_then pf_body) (by kernel_rfl) (fun ac A29 => ?_)
  refine r_1 (i := 7) (by kernel_rfl) ?_
  refine rs_call (fs := #[]) (cp := #[]) (r := [(0, .int .i64 (c.hi - c.lo + 1)), (0, .func (.func 59) #[] #[.pointer (some ⟨g3, 0, none⟩), .pointer (some ⟨g15, 0, none⟩)])]) #[.int .i64 (c.hi - c.lo + 1), .func (.func 59) #[] #[.pointer (some ⟨g3, 0, none⟩), .pointer (some ⟨g15, 0, none⟩)]] (.int .i64 (crs c - c.lo + 1)) A29 S22 sub_all sub_all (SearchC_s c g3 g15 _ (S22.get 1 rfl) (S22.get 0 rfl) ok) Try.call58 rfl rfl (by kernel_rfl) (by kernel_rfl) (by kernel_rfl) rfl (fun ac wc A30 S31 => ?_)
  have T33 := S31.sub sub_all sub_all
  refine r_take 8 (.int .i64 (c.lo - 1 + (crs c - c.lo + 1))) A30 T33 (g_bin (u := .int .i64 (c.lo - 1)) (k := .int .i64 (crs c - c.lo + 1)) (by kernel_rfl) (by kernel_rfl) (fun _ => by kernel_rfl) (b_add (by omega))) rfl rfl rfl (pf_then pf_body) (by kernel_rfl) (fun ac A34 => ?_)
  refine r_take 9 (.int .i64 (c.lo - 1 + (crs c - c.lo + 1))) A34 T33 (g_assign (by kernel_rfl)) rfl rfl rfl (pf_then pf_body) (by kernel_rfl) (fun ac A35 => ?_)
  refine r_done (by kernel_rfl) ?_
  refine n_then ?_
  refine wp_ret ?_
  refine fin1 (.int .i64 (c.lo - 1 + (crs c - c.lo + 1))) Try.results46 A35 S31 (rv_tmp (by kernel_rfl)) ⟨?_, S31.kp⟩
  rw [show c.lo - 1 + (crs c - c.lo + 1) = crs c by omega]

theorem crs_hi {c : Cr} (ok : c.Ok) (h : slp c c.hi ≤ 0) : crs c = c.hi := crs_eq ok ⟨by unfold Cr.lo Cr.hi; omega, Int.le_refl _, h, fun z => by omega⟩
theorem crs_bi {c : Cr} (ok : c.Ok) {l h : Int} (h1 : c.lo ≤ l) (h2 : l < h) (h3 : h ≤ c.hi) (hl : slp c l ≤ 0) (hh : slp c h > 0) (he : ¬ h - l > 1) : crs c = l := crs_eq ok ⟨h1, by omega, hl, fun _ => by rw [show l + 1 = h by omega]; exact hh⟩

theorem crs_ne {c : Cr} (ok : c.Ok) (h : slp c c.hi > 0) : c.lo ≤ c.lo ∧ c.lo < c.hi := by
  refine ⟨Int.le_refl _, ?_⟩
  have hlh : c.lo ≤ c.hi := by unfold Cr.lo Cr.hi; omega
  by_cases z : c.lo < c.hi
  · exact z
  · have := slp_lo ok; rw [show c.lo = c.hi by omega] at this; omega

theorem tLH {l u v : Int} (hv : 0 < v) (h : l ≤ u) : tLo l v ≤ tHi u v := by
  have a := tLo_le (l := l) hv; have b := tHi_ge (u := u) hv
  exact Int.le_of_mul_le_mul_left (show v * tLo l v ≤ v * tHi u v by omega) hv
theorem tim_bd {c : Cr} {p : Int} (ok : c.Ok) (k0 : c.lo ≤ p) (k1 : p ≤ c.hi) : 0 ≤ timLo c p ∧ timLo c p ≤ timHi c p ∧ timHi c p ≤ 12000000000 := by
  have p1 := ok.x1; have p2 := ok.x2; have p3 := ok.h1; have p4 := ok.h2; have p5 := ok.v1; have p6 := ok.v2
  unfold Cr.lo at k0; unfold Cr.hi at k1
  have a := len_bd (x := p - c.x1) (z := c.h1) (by omega) (by omega)
  have b := len_bd (x := c.x2 - p) (z := c.h2) (by omega) (by omega)
  have a1 := t_bd (l := lenL (p - c.x1) c.h1) (v := c.v1) (by omega) (by omega) (by omega)
  have b1 := t_bd (l := lenL (c.x2 - p) c.h2) (v := c.v2) (by omega) (by omega) (by omega)
  have a2 := tH_bd (l := lenU (p - c.x1) c.h1) (v := c.v1) (by omega) (by omega) (by omega)
  have b2 := tH_bd (l := lenU (c.x2 - p) c.h2) (v := c.v2) (by omega) (by omega) (by omega)
  have a3 := tLH (v := c.v1) (by omega) a.2.1
  have b3 := tLH (v := c.v2) (by omega) b.2.1
  unfold timLo timHi
  omega

set_option maxRecDepth 100000 in
set_option maxHeartbeats 400000 in
theorem ctime_s (c : Cr) (p : Int) (w0 : World) (ok : c.Ok) (k0 : c.lo ≤ p) (k1 : p ≤ c.hi) :
    Calls Try.prog 47 #[.agg #[.int .i64 c.x1, .int .i64 c.h1, .int .i64 c.v1, .int .i64 c.x2, .int .i64 c.h2, .int .i64 c.v2], .int .i64 p] w0 fun e w' => e = .returned (.agg #[.int .i64 (timLo c p), .int .i64 (timHi c p)]) ∧ Below w0.heap.size w0 w' := by
  have S0 := St.start w0
  have p1 := ok.x1
  have p2 := ok.x2
  have p3 := ok.h1
  have p4 := ok.h2
  have p5 := ok.v1
  have p6 := ok.v2
  have pl : c.lo = min c.x1 c.x2 := rfl
  have ph : c.hi = max c.x1 c.x2 := rfl
  refine enter (n := 32) Try.func47 rfl rfl rfl (fun ac A0 => ?_)
  refine wp_seq ?_
  refine wp_region_lit ?_
  refine s_box (.agg #[.int .i64 c.x1, .int .i64 c.h1, .int .i64 c.v1, .int .i64 c.x2, .int .i64 c.h2, .int .i64 c.v2]) A0 S0 (by kernel_rfl) rfl (fun g3 ac wc A1 S2 => ?_)
  replace S2 : St _ (⟨g3, 77, #[.int .i64 c.x1, .int .i64 c.h1, .int .i64 c.v1, .int .i64 c.x2, .int .i64 c.h2, .int .i64 c.v2], true⟩ :: _) _ _ := S2
  refine s_alloc (#[.int .i64 0, .int .i64 0]) A1 S2 (by kernel_rfl) rfl (fun g7 ac wc A5 S6 => ?_)
  refine wpList_nil ?_
  refine n_then ?_
  refine wp_seq ?_
  refine r_begin (w0 := w0) (by kernel_rfl) (S6.sub (sub_skip sub_all) sub_all) (fun wc T8 B9 => ?_)
  have S10 := S6.kept B9
  refine r_take 0 (.int .i64 p) A5 T8 (g_move (by kernel_rfl)) rfl rfl rfl (pf_then pf_body) (by kernel_rfl) (fun ac A11 => ?_)
  refine r_take 1 (.pointer (some ⟨g3, 0, none⟩)) A11 T8 (g_field (u := .pointer (some ⟨g3, 0, none⟩)) (by kernel_rfl) (fun _ => by kernel_rfl)) rfl rfl rfl (pf_then pf_body) (by kernel_rfl) (fun ac A12 => ?_)
  refine r_take 2 (.pointer (some ⟨g3, 0, none⟩)) A12 T8 (g_field (u := .pointer (some ⟨g3, 0, none⟩)) (by kernel_rfl) (fun _ => by kernel_rfl)) rfl rfl rfl (pf_then pf_body) (by kernel_rfl) (fun ac A13 => ?_)
  refine r_take 3 (.int .i64 c.x1) A13 T8 (g_load (g := g3) (off := 0) 0 (by kernel_rfl) rfl (by kernel_rfl)) rfl rfl rfl (pf_then pf_body) (by kernel_rfl) (fun ac A14 => ?_)
  refine r_take 4 (.int .i64 (p - c.x1)) A14 T8 (g_bin (u := .int .i64 p) (k := .int .i64 c.x1) (by kernel_rfl) (by kernel_rfl) (fun _ => by kernel_rfl) (b_sub (by omega))) rfl rfl rfl (pf_then pf_body) (by kernel_rfl) (fun ac A15 => ?_)
  refine r_take 5 (.pointer (some ⟨g3, 0, none⟩)) A15 T8 (g_field (u := .pointer (some ⟨g3, 0, none⟩)) (by kernel_rfl) (fun _ => by kernel_rfl)) rfl rfl rfl (pf_then pf_body) (by kernel_rfl) (fun ac A16 => ?_)
  refine r_take 6 (.pointer (some ⟨g3, 1, none⟩)) A16 T8 (g_field (u := .pointer (some ⟨g3, 0, none⟩)) (by kernel_rfl) (fun _ => by kernel_rfl)) rfl rfl rfl (pf_then pf_body) (by kernel_rfl) (fun ac A17 => ?_)
  refine r_take 7 (.int .i64 c.h1) A17 T8 (g_load (g := g3) (off := 1) 0 (by kernel_rfl) rfl (by kernel_rfl)) rfl rfl rfl (pf_then pf_body) (by kernel_rfl) (fun ac A18 => ?_)
  refine r_take 9 (.pointer (some ⟨g3, 0, none⟩)) A18 T8 (g_field (u := .pointer (some ⟨g3, 0, none⟩)) (by kernel_rfl) (fun _ => by kernel_rfl)) rfl rfl rfl (pf_then pf_body) (by kernel_rfl) (fun ac A19 => ?_)
  refine r_take 10 (.pointer (some ⟨g3, 2, none⟩)) A19 T8 (g_field (u := .pointer (some ⟨g3, 0, none⟩)) (by kernel_rfl) (fun _ => by kernel_rfl)) rfl rfl rfl (pf_then pf_body) (by kernel_rfl) (fun ac A20 => ?_)
  refine r_take 11 (.int .i64 c.v1) A20 T8 (g_load (g := g3) (off := 2) 0 (by kernel_rfl) rfl (by kernel_rfl)) rfl rfl rfl (pf_then pf_body) (by kernel_rfl) (fun ac A21 => ?_)
  refine r_take 13 (.pointer (some ⟨g3, 0, none⟩)) A21 T8 (g_field (u := .pointer (some ⟨g3, 0, none⟩)) (by kernel_rfl) (fun _ => by kernel_rfl)) rfl rfl rfl (pf_then pf_body) (by kernel_rfl) (fun ac A22 => ?_)
  refine r_take 14 (.pointer (some ⟨g3, 3, none⟩)) A22 T8 (g_field (u := .pointer (some ⟨g3, 0, none⟩)) (by kernel_rfl) (fun _ => by kernel_rfl)) rfl rfl rfl (pf_then pf_body) (by kernel_rfl) (fun ac A23 => ?_)
  refine r_take 15 (.int .i64 c.x2) A23 T8 (g_load (g := g3) (off := 3) 0 (by kernel_rfl) rfl (by kernel_rfl)) rfl rfl rfl (pf_then pf_body) (by kernel_rfl) (fun ac A24 => ?_)
  refine r_take 16 (.int .i64 p) A24 T8 (g_move (by kernel_rfl)) rfl rfl rfl (pf_then pf_body) (by kernel_rfl) (fun ac A25 => ?_)
  refine r_take 17 (.int .i64 (c.x2 - p)) A25 T8 (g_bin (u := .int .i64 c.x2) (k := .int .i64 p) (by kernel_rfl) (by kernel_rfl) (fun _ => by kernel_rfl) (b_sub (by omega))) rfl rfl rfl (pf_then pf_body) (by kernel_rfl) (fun ac A26 => ?_)
  refine r_take 18 (.pointer (some ⟨g3, 0, none⟩)) A26 T8 (g_field (u := .pointer (some ⟨g3, 0, none⟩)) (by kernel_rfl) (fun _ => by kernel_rfl)) rfl rfl rfl (pf_then pf_body) (by kernel_rfl) (fun ac A27 => ?_)
  refine r_take 19 (.pointer (some ⟨g3, 4, none⟩)) A27 T8 (g_field (u := .pointer (some ⟨g3, 0, none⟩)) (by kernel_rfl) (fun _ => by kernel_rfl)) rfl rfl rfl (pf_then pf_body) (by kernel_rfl) (fun ac A28 => ?_)
  refine r_take 20 (.int .i64 c.h2) A28 T8 (g_load (g := g3) (off := 4) 0 (by kernel_rfl) rfl (by kernel_rfl)) rfl rfl rfl (pf_then pf_body) (by kernel_rfl) (fun ac A29 => ?_)
  refine r_take 22 (.pointer (some ⟨g3, 0, none⟩)) A29 T8 (g_field (u := .pointer (some ⟨g3, 0, none⟩)) (by kernel_rfl) (fun _ => by kernel_rfl)) rfl rfl rfl (pf_then pf_body) (by kernel_rfl) (fun ac A30 => ?_)
  refine r_take 23 (.pointer (some ⟨g3, 5, none⟩)) A30 T8 (g_field (u := .pointer (some ⟨g3, 0, none⟩)) (by kernel_rfl) (fun _ => by kernel_rfl)) rfl rfl rfl (pf_then pf_body) (by kernel_rfl) (fun ac A31 => ?_)
  refine r_take 24 (.int .i64 c.v2) A31 T8 (g_load (g := g3) (off := 5) 0 (by kernel_rfl) rfl (by kernel_rfl)) rfl rfl rfl (pf_then pf_body) (by kernel_rfl) (fun ac A32 => ?_)
  refine r_1 (i := 8) (by kernel_rfl) ?_
  have q37 := len_bd (x := p - c.x1) (z := c.h1) (by omega) (by omega)
  refine rs_call (fs := #[]) (cp := #[]) (r := [(0, .int .i64 (p - c.x1)), (0, .int .i64 c.h1)]) #[.int .i64 (p - c.x1), .int .i64 c.h1] (.agg #[.int .i64 (lenL (p - c.x1) c.h1), .int .i64 (lenU (p - c.x1) c.h1)]) A32 S10 (sub_skip sub_all) sub_all (length_s (p - c.x1) c.h1 _ (by omega) (by omega) (by omega) (by omega)) Try.call63 rfl rfl (by kernel_rfl) (by kernel_rfl) (by kernel_rfl) rfl (fun ac wc A33 S34 => ?_)
  have T36 := S34.sub (sub_skip sub_all) sub_all
  refine r_1 (i := 12) (by kernel_rfl) ?_
  have q42 := t_bd (l := (lenL (p - c.x1) c.h1)) (v := c.v1) (by omega) (by omega) (by omega)
  have q43 := tH_bd (l := (lenU (p - c.x1) c.h1)) (v := c.v1) (by omega) (by omega) (by omega)
  refine rs_call (fs := #[]) (cp := #[]) (r := [(0, .agg #[.int .i64 (lenL (p - c.x1) c.h1), .int .i64 (lenU (p - c.x1) c.h1)]), (0, .int .i64 c.v1)]) #[.agg #[.int .i64 (lenL (p - c.x1) c.h1), .int .i64 (lenU (p - c.x1) c.h1)], .int .i64 c.v1] (.agg #[.int .i64 (tLo (lenL (p - c.x1) c.h1) c.v1), .int .i64 (tHi (lenU (p - c.x1) c.h1) c.v1)]) A33 S34 (sub_skip sub_all) sub_all (time_s (lenL (p - c.x1) c.h1) (lenU (p - c.x1) c.h1) c.v1 _ (by omega) (by omega) (by omega) (by omega) (by omega)) Try.call62 rfl rfl (by kernel_rfl) (by kernel_rfl) (by kernel_rfl) rfl (fun ac wc A38 S39 => ?_)
  have T41 := S39.sub (sub_skip sub_all) sub_all
  refine r_1 (i := 21) (by kernel_rfl) ?_
  have q48 := len_bd (x := c.x2 - p) (z := c.h2) (by omega) (by omega)
  refine rs_call (fs := #[]) (cp := #[]) (r := [(0, .int .i64 (c.x2 - p)), (0, .int .i64 c.h2)]) #[.int .i64 (c.x2 - p), .int .i64 c.h2] (.agg #[.int .i64 (lenL (c.x2 - p) c.h2), .int .i64 (lenU (c.x2 - p) c.h2)]) A38 S39 (sub_skip sub_all) sub_all (length_s (c.x2 - p) c.h2 _ (by omega) (by omega) (by omega) (by omega)) Try.call63 rfl rfl (by kernel_rfl) (by kernel_rfl) (by kernel_rfl) rfl (fun ac wc A44 S45 => ?_)
  have T47 := S45.sub (sub_skip sub_all) sub_all
  refine r_1 (i := 25) (by kernel_rfl) ?_
  have q53 := t_bd (l := (lenL (c.x2 - p) c.h2)) (v := c.v2) (by omega) (by omega) (by omega)
  have q54 := tH_bd (l := (lenU (c.x2 - p) c.h2)) (v := c.v2) (by omega) (by omega) (by omega)
  refine rs_call (fs := #[]) (cp := #[]) (r := [(0, .agg #[.int .i64 (lenL (c.x2 - p) c.h2), .int .i64 (lenU (c.x2 - p) c.h2)]), (0, .int .i64 c.v2)]) #[.agg #[.int .i64 (lenL (c.x2 - p) c.h2), .int .i64 (lenU (c.x2 - p) c.h2)], .int .i64 c.v2] (.agg #[.int .i64 (tLo (lenL (c.x2 - p) c.h2) c.v2), .int .i64 (tHi (lenU (c.x2 - p) c.h2) c.v2)]) A44 S45 (sub_skip sub_all) sub_all (time_s (lenL (c.x2 - p) c.h2) (lenU (c.x2 - p) c.h2) c.v2 _ (by omega) (by omega) (by omega) (by omega) (by omega)) Try.call62 rfl rfl (by kernel_rfl) (by kernel_rfl) (by kernel_rfl) rfl (fun ac wc A49 S50 => ?_)
  have T52 := S50.sub (sub_skip sub_all) sub_all
  refine r_1 (i := 26) (by kernel_rfl) ?_
  refine rs_call (fs := #[]) (cp := #[]) (r := [(0, .agg #[.int .i64 (tLo (lenL (p - c.x1) c.h1) c.v1), .int .i64 (tHi (lenU (p - c.x1) c.h1) c.v1)]), (0, .agg #[.int .i64 (tLo (lenL (c.x2 - p) c.h2) c.v2), .int .i64 (tHi (lenU (c.x2 - p) c.h2) c.v2)])]) #[.agg #[.int .i64 (tLo (lenL (p - c.x1) c.h1) c.v1), .int .i64 (tHi (lenU (p - c.x1) c.h1) c.v1)], .agg #[.int .i64 (tLo (lenL (c.x2 - p) c.h2) c.v2), .int .i64 (tHi (lenU (c.x2 - p) c.h2) c.v2)]] (.agg #[.int .i64 (tLo (lenL (p - c.x1) c.h1) c.v1 + (tLo (lenL (c.x2 - p) c.h2) c.v2)), .int .i64 (tHi (lenU (p - c.x1) c.h1) c.v1 + (tHi (lenU (c.x2 - p) c.h2) c.v2))]) A49 S50 (sub_skip sub_all) sub_all (plus_s (tLo (lenL (p - c.x1) c.h1) c.v1) (tHi (lenU (p - c.x1) c.h1) c.v1) (tLo (lenL (c.x2 - p) c.h2) c.v2) (tHi (lenU (c.x2 - p) c.h2) c.v2) _ (by omega) (by omega) (by omega) (by omega) (by omega) (by omega) (by omega) (by omega)) Try.call61 rfl rfl (by kernel_rfl) (by kernel_rfl) (by kernel_rfl) rfl (fun ac wc A55 S56 => ?_)
  have T58 := S56.sub (sub_skip sub_all) sub_all
  refine r_1 (i := 27) (by kernel_rfl) ?_
  refine rs_store (g := g7) (off := 0) (v := .agg #[.int .i64 (tLo (lenL (p - c.x1) c.h1) c.v1 + (tLo (lenL (c.x2 - p) c.h2) c.v2)), .int .i64 (tHi (lenU (p - c.x1) c.h1) c.v1 + (tHi (lenU (c.x2 - p) c.h2) c.v2))]) 0 (#[.int .i64 (tLo (lenL (p - c.x1) c.h1) c.v1 + (tLo (lenL (c.x2 - p) c.h2) c.v2)), .int .i64 (tHi (lenU (p - c.x1) c.h1) c.v1 + (tHi (lenU (c.x2 - p) c.h2) c.v2))]) A55 S56 (sub_skip sub_all) sub_all (by kernel_rfl) (by kernel_rfl) rfl (by kernel_rfl) rfl rfl (fun wc S60 => ?_)
  have T62 := S60.sub (sub_skip sub_all) sub_all
  refine r_done (by kernel_rfl) ?_
  refine n_then ?_
  refine wp_ret ?_
  refine fin1 (.agg #[.int .i64 (tLo (lenL (p - c.x1) c.h1) c.v1 + (tLo (lenL (c.x2 - p) c.h2) c.v2)), .int .i64 (tHi (lenU (p - c.x1) c.h1) c.v1 + (tHi (lenU (c.x2 - p) c.h2) c.v2))]) Try.results47 A55 S60 (rv_cell (g := g7) (off := 0) 0 (by kernel_rfl) rfl (by kernel_rfl)) ⟨?_, S60.kp⟩
  rfl

end Go.Proofs.Ytfeapeblnnmhlaa
