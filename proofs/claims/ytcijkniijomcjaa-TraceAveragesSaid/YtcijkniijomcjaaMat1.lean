/- Matrices: which are right. -/
import Derived.Test.YtcijkniijomcjaaFlo
import Derived.Test.YtcijkniijomcjaaSpike
namespace Go.Proofs.Ytcijkniijomcjaa
open Go.RowKit Go.Cpl

def zT : List Nat := List.replicate 64 0
theorem zT_length : zT.length = 64 := List.length_replicate

theorem samplesErr_n {n : Nat} {xs : List Nat} (hn : xs.length = n) (A : Option Addr) (cap : Nat) (w : World) (hr : FReads w A xs) (hl : n ≤ maxLen) :
    Calls Try.prog 61 #[.slice A n cap] w fun e w' => e = .returned (.tuple #[.int .i64 (firstErr xs 0).1, .int .i64 (firstErr xs 0).2]) ∧ ∃ n, w' = w.drewN n := by
  subst hn; exact samplesErr_any A cap xs w hr hl

theorem refSamplesErr_n {n : Nat} {xs : List Nat} (hn : xs.length = n) (A : Option Addr) (cap : Nat) (w : World) (hr : FReads w A xs) (hl : n ≤ maxLen) :
    Calls Try.prog 67 #[.slice A n cap] w fun e w' => e = .returned (.tuple #[.int .i64 (firstErr xs 0).1, .int .i64 (firstErr xs 0).2]) ∧ ∃ n, w' = w.drewN n := by
  subst hn; exact refSamplesErr_any A cap xs w hr hl

set_option maxRecDepth 100000 in
set_option maxHeartbeats 400000 in
theorem few_s (el : Int) (SA : Option Addr) (sn scap : Nat) (RA : Option Addr) (rn rcap : Nat) (mo : Int) (w0 : World) :
    Calls Try.prog 12 #[.agg #[.int .i64 el, .slice SA sn scap, .slice RA rn rcap, .int .i64 mo]] w0 fun e w' => e = .returned (.bool (decide ((sn : Int) ≤ 40) && decide ((rn : Int) ≤ 200))) ∧ Below w0.heap.size w0 w' := by
  have S0 := St.start w0
  refine enter (n := 13) Try.func12 rfl rfl rfl (fun ac A0 => ?_)
  refine wp_seq ?_
  refine wp_region_lit ?_
  refine s_box (.agg #[.int .i64 el, .slice SA sn scap, .slice RA rn rcap, .int .i64 mo]) A0 S0 (by kernel_rfl) rfl (fun g3 ac wc A1 S2 => ?_)
  replace S2 : St _ (⟨g3, 25, #[.int .i64 el, .slice SA sn scap, .slice RA rn rcap, .int .i64 mo], true⟩ :: _) _ _ := S2
  refine s_one (.bool false) A1 S2 (g_assign (by kernel_rfl)) rfl (fun ac A5 => ?_)
  refine wpList_nil ?_
  refine n_then ?_
  refine wp_seq ?_
  refine c_cut (fun ac wc => Fr 13 ac [(2, .bool ((decide ((sn : Int) ≤ 40)) && (decide ((rn : Int) ≤ 200)))), (0, .agg #[.int .i64 el, .slice SA sn scap, .slice RA rn rcap, .int .i64 mo]), (1, .pointer (some ⟨g3, 0, none⟩))] ∧ St w0 [⟨g3, 25, #[.int .i64 el, .slice SA sn scap, .slice RA rn rcap, .int .i64 mo], true⟩] [] wc) ?_ ?_
  · refine wp_region_lit ?_
    refine s_one (.pointer (some ⟨g3, 1, none⟩)) A5 S2 (g_field (u := .pointer (some ⟨g3, 0, none⟩)) (by kernel_rfl) (fun _ => by kernel_rfl)) rfl (fun ac A6 => ?_)
    refine s_one (.slice SA sn scap) A6 S2 (g_load (g := g3) (off := 1) 0 (by kernel_rfl) rfl (by kernel_rfl)) rfl (fun ac A7 => ?_)
    refine s_one (.int .i64 (sn : Int)) A7 S2 (g_built (r := [(0, .slice SA sn scap)]) (by kernel_rfl) (fun _ _ _ => by kernel_rfl)) rfl (fun ac A8 => ?_)
    refine s_one (.bool (decide ((sn : Int) ≤ 40))) A8 S2 (g_bin (u := .int .i64 (sn : Int)) (k := .int .i64 40) (by kernel_rfl) (by kernel_rfl) (fun _ => by kernel_rfl) (fun _ => by kernel_rfl)) rfl (fun ac A9 => ?_)
    refine s_one (.bool (decide ((sn : Int) ≤ 40))) A9 S2 (g_move (by kernel_rfl)) rfl (fun ac A10 => ?_)
    refine by_bool (decide ((sn : Int) ≤ 40)) (fun h11 => ?_) (fun h11 => ?_)
    · have p12 := of_decide_eq_true h11
      refine s_want (dj := 7) (b := (decide ((sn : Int) ≤ 40))) A10 (by kernel_rfl) (by kernel_rfl) h11 ?_
      refine s_one (.pointer (some ⟨g3, 2, none⟩)) A10 S2 (g_field (u := .pointer (some ⟨g3, 0, none⟩)) (by kernel_rfl) (fun _ => by kernel_rfl)) rfl (fun ac A13 => ?_)
      refine s_want (dj := 7) (b := (decide ((sn : Int) ≤ 40))) A13 (by kernel_rfl) (by kernel_rfl) h11 ?_
      refine s_one (.slice RA rn rcap) A13 S2 (g_load (g := g3) (off := 2) 0 (by kernel_rfl) rfl (by kernel_rfl)) rfl (fun ac A14 => ?_)
      refine s_want (dj := 7) (b := (decide ((sn : Int) ≤ 40))) A14 (by kernel_rfl) (by kernel_rfl) h11 ?_
      refine s_one (.int .i64 (rn : Int)) A14 S2 (g_built (r := [(0, .slice RA rn rcap)]) (by kernel_rfl) (fun _ _ _ => by kernel_rfl)) rfl (fun ac A15 => ?_)
      refine s_want (dj := 7) (b := (decide ((sn : Int) ≤ 40))) A15 (by kernel_rfl) (by kernel_rfl) h11 ?_
      refine s_one (.bool (decide ((rn : Int) ≤ 200))) A15 S2 (g_bin (u := .int .i64 (rn : Int)) (k := .int .i64 200) (by kernel_rfl) (by kernel_rfl) (fun _ => by kernel_rfl) (fun _ => by kernel_rfl)) rfl (fun ac A16 => ?_)
      refine s_one (.bool (decide ((rn : Int) ≤ 200))) A16 S2 (g_pick_t (b := (decide ((sn : Int) ≤ 40))) (by kernel_rfl) h11 (by kernel_rfl)) rfl (fun ac A17 => ?_)
      refine s_one (.bool (decide ((rn : Int) ≤ 200))) A17 S2 (g_assign (by kernel_rfl)) rfl (fun ac A18 => ?_)
      refine wpList_nil ?_
      refine n_then ?_
      exact ⟨(A18.slot (A18.slot (A18.slot A18.nil (v := .pointer (some ⟨g3, 0, none⟩)) (by kernel_rfl) rfl) (v := .agg #[.int .i64 el, .slice SA sn scap, .slice RA rn rcap, .int .i64 mo]) (by kernel_rfl) rfl) (v := .bool (decide ((rn : Int) ≤ 200))) (by kernel_rfl) (congrArg Value.bool (b_and_t h11 (Eq.refl (decide ((rn : Int) ≤ 200)))).symm)), S2.sub sub_all sub_all⟩
    · have p19 := of_decide_eq_false h11
      refine s_not (dj := 7) (b := (decide ((sn : Int) ≤ 40))) A10 (by kernel_rfl) (by kernel_rfl) h11 rfl (fun ac A20 => ?_)
      refine s_not (dj := 7) (b := (decide ((sn : Int) ≤ 40))) A20 (by kernel_rfl) (by kernel_rfl) h11 rfl (fun ac A21 => ?_)
      refine s_not (dj := 7) (b := (decide ((sn : Int) ≤ 40))) A21 (by kernel_rfl) (by kernel_rfl) h11 rfl (fun ac A22 => ?_)
      refine s_not (dj := 7) (b := (decide ((sn : Int) ≤ 40))) A22 (by kernel_rfl) (by kernel_rfl) h11 rfl (fun ac A23 => ?_)
      refine s_one (.bool false) A23 S2 (g_pick_f (b := (decide ((sn : Int) ≤ 40))) (by kernel_rfl) h11 (by kernel_rfl)) rfl (fun ac A24 => ?_)
      refine s_one (.bool false) A24 S2 (g_assign (by kernel_rfl)) rfl (fun ac A25 => ?_)
      refine wpList_nil ?_
      refine n_then ?_
      exact ⟨(A25.slot (A25.slot (A25.slot A25.nil (v := .pointer (some ⟨g3, 0, none⟩)) (by kernel_rfl) rfl) (v := .agg #[.int .i64 el, .slice SA sn scap, .slice RA rn rcap, .int .i64 mo]) (by kernel_rfl) rfl) (v := .bool false) (by kernel_rfl) (congrArg Value.bool (b_af1 h11).symm)), S2.sub sub_all sub_all⟩
  · rintro ac wc ⟨A26, S27⟩
    refine n_then ?_
    refine wp_ret ?_
    refine fin1 (.bool ((decide ((sn : Int) ≤ 40)) && (decide ((rn : Int) ≤ 200)))) Try.results12 A26 S27 (rv_tmp (by kernel_rfl)) ⟨?_, S27.kp⟩
    rfl

set_option maxRecDepth 100000 in
set_option maxHeartbeats 400000 in
theorem CopyMatrix_s (el : Int) (A : Option Addr) (n cap : Nat) (xs : List Nat) (w0 : World) (hn : xs.length = n) (hr : FReads w0 A xs) (hm : n ≤ 1000) :
    Calls Try.prog 15 #[.agg #[.int .i64 el, .slice A n cap]] w0 fun e w' => ∃ v, e = .returned (.agg #[.int .i64 el, v]) ∧ Below w0.heap.size w0 w' ∧ w'.ownsRow w0.heap.size 36 1 v n (rowF xs) := by
  have S0 := St.start w0
  refine enter (n := 10) Try.func15 rfl rfl rfl (fun ac A0 => ?_)
  refine wp_seq ?_
  refine wp_region_lit ?_
  refine s_box (.agg #[.int .i64 el, .slice A n cap]) A0 S0 (by kernel_rfl) rfl (fun g3 ac wc A1 S2 => ?_)
  replace S2 : St _ (⟨g3, 30, #[.int .i64 el, .slice A n cap], true⟩ :: _) _ _ := S2
  refine s_alloc (#[.int .i64 0, .slice none 0 0]) A1 S2 (by kernel_rfl) rfl (fun g7 ac wc A5 S6 => ?_)
  refine wpList_nil ?_
  refine n_then ?_
  refine wp_seq ?_
  refine r_begin (w0 := w0) (by kernel_rfl) (S6.sub (sub_skip sub_all) sub_all) (fun wc T8 B9 => ?_)
  have S10 := S6.kept B9
  refine r_take 0 (.pointer (some ⟨g3, 0, none⟩)) A5 T8 (g_field (u := .pointer (some ⟨g3, 0, none⟩)) (by kernel_rfl) (fun _ => by kernel_rfl)) rfl rfl rfl (pf_then pf_body) (by kernel_rfl) (fun ac A11 => ?_)
  refine r_take 1 (.int .i64 el) A11 T8 (g_load (g := g3) (off := 0) 0 (by kernel_rfl) rfl (by kernel_rfl)) rfl rfl rfl (pf_then pf_body) (by kernel_rfl) (fun ac A12 => ?_)
  refine r_take 3 (.pointer (some ⟨g3, 1, none⟩)) A12 T8 (g_field (u := .pointer (some ⟨g3, 0, none⟩)) (by kernel_rfl) (fun _ => by kernel_rfl)) rfl rfl rfl (pf_then pf_body) (by kernel_rfl) (fun ac A13 => ?_)
  refine r_take 4 (.slice A n cap) A13 T8 (g_load (g := g3) (off := 1) 0 (by kernel_rfl) rfl (by kernel_rfl)) rfl rfl rfl (pf_then pf_body) (by kernel_rfl) (fun ac A14 => ?_)
  refine r_1 (i := 2) (by kernel_rfl) ?_
  refine rs_bs (e := 36) (r := []) (#[]) A14 S10 (sub_skip sub_all) sub_all (by kernel_rfl) (by kernel_rfl) rfl rfl rfl (fun g17 ac wc A15 S16 => ?_)
  have T18 := S16.sub (sub_skip (sub_skip sub_all)) sub_all
  refine r_1 (i := 5) (by kernel_rfl) ?_
  have S19 : St w0 [⟨g7, 30, #[.int .i64 0, .slice none 0 0], true⟩, ⟨g3, 30, #[.int .i64 el, .slice A n cap], true⟩] [⟨.slice (some ⟨g17, 0, none⟩) 0 0, 36, 1, 0, []⟩] _ := St.toRow S16 0 rfl rfl (by decide)
  refine rs_appendXF (e := 36) (bytes := 4) (v := .slice (some ⟨g17, 0, none⟩) 0 0) (m' := n) (c := cap) (l := xs) 0 A15 S19 (sub_skip sub_all) (fun _ => sub_nil) (by kernel_rfl) (by kernel_rfl) (by kernel_rfl) rfl (hr.kept S19.kp) hn (by omega) (by omega) rfl rfl rfl (fun v23 ac wc A20 S21 => ?_)
  have S24 : St w0 [⟨g7, 30, #[.int .i64 0, .slice none 0 0], true⟩, ⟨g3, 30, #[.int .i64 el, .slice A n cap], true⟩] [⟨v23, 36, 1, n, (rowF xs)⟩] _ := St.rerow 0 S21 rfl ⟨Nat.zero_add _, List.nil_append _⟩
  obtain ⟨A25, cap26, rfl⟩ := row_slice (v := v23) (m := n) (S24.row 0 rfl)
  have T22 := S24.sub (sub_skip sub_all) sub_nil
  refine r_take 6 (.agg #[.int .i64 el, .slice A25 n cap26]) A20 T22 (g_build (r := [(0, .int .i64 el), (1, .slice A25 n cap26)]) (by kernel_rfl) (fun _ => by kernel_rfl)) rfl rfl rfl (pf_then pf_body) (by kernel_rfl) (fun ac A27 => ?_)
  refine r_1 (i := 7) (by kernel_rfl) ?_
  refine rs_store (g := g7) (off := 0) (v := .agg #[.int .i64 el, .slice A25 n cap26]) 0 (#[.int .i64 el, .slice A25 n cap26]) A27 S24 (sub_skip sub_all) sub_nil (by kernel_rfl) (by kernel_rfl) rfl (by kernel_rfl) rfl rfl (fun wc S29 => ?_)
  have T31 := S29.sub (sub_skip sub_all) sub_nil
  refine r_done (by kernel_rfl) ?_
  refine n_then ?_
  refine wp_ret ?_
  refine fin1 (.agg #[.int .i64 el, .slice A25 n cap26]) Try.results15 A27 S29 (rv_cell (g := g7) (off := 0) 0 (by kernel_rfl) rfl (by kernel_rfl)) ?_
  have bw := S29.kp
  have ow := S29.row 0 rfl
  exact ⟨_, rfl, bw, ow⟩

/-- Which matrices are right, and the number of the first wrong sample. -/
def mxC (el : Int) (xs : List Nat) : Int × Int := if inB el 1 16 = true then (if (xs.length : Int) = el * el * 64 then (((firstErr xs 0).1 : Int), (firstErr xs 0).2) else (0, 10)) else (0, 2)
theorem mxC_r {el : Int} {xs : List Nat} (h : inB el 1 16 = false) : mxC el xs = (0, 2) := if_neg (by rw [h]; decide)
theorem mxC_s {el : Int} {xs : List Nat} (h : inB el 1 16 = true) (h2 : (xs.length : Int) ≠ el * el * 64) : mxC el xs = (0, 10) := (if_pos h).trans (if_neg h2)
theorem mxC_y {el : Int} {xs : List Nat} (h : inB el 1 16 = true) (h2 : (xs.length : Int) = el * el * 64) : mxC el xs = (((firstErr xs 0).1 : Int), (firstErr xs 0).2) := (if_pos h).trans (if_pos h2)
theorem mxC_0 {el : Int} {xs : List Nat} (h : (mxC el xs).2 = 0) : (1 ≤ el ∧ el ≤ 16) ∧ (xs.length : Int) = el * el * 64 ∧ (firstErr xs 0).2 = 0 := by
  cases q : inB el 1 16 with
  | false => rw [mxC_r q] at h; exact absurd h (by decide)
  | true =>
    by_cases z : (xs.length : Int) = el * el * 64
    · rw [mxC_y q z] at h; exact ⟨inB_true.1 q, z, h⟩
    · rw [mxC_s q z] at h; exact absurd h (by decide)
theorem sq_bd {el : Int} (h : 1 ≤ el ∧ el ≤ 16) : 1 ≤ el * el ∧ el * el ≤ 256 := by
  have a := Int.mul_le_mul h.2 h.2 (by omega) (by omega)
  have b := Int.mul_le_mul h.1 h.1 (by omega) (by omega)
  omega
def el1 (el : Int) : Int := if el = -9223372036854775808 then 9223372036854775807 else el - 1
theorem sub_el1 {P : Program} {t : TypeId} {el : Int} (h : -9223372036854775808 ≤ el ∧ el ≤ 9223372036854775807) (w : World) : (binOp .sub t (.int .i64 el) (.int .i64 1)).run P w = .ok (.int .i64 (el1 el)) w := by
  unfold el1
  by_cases z : el = -9223372036854775808
  · subst z; rw [if_pos rfl]; rfl
  · rw [if_neg z]; exact b_sub (by omega) w
/-- The error of a pair. -/
def pairE (el p q : Int) : Int := if inB p 0 (el1 el) = true ∧ inB q 0 (el1 el) = true then 0 else 6
theorem pairE_y {el p q : Int} (h : inB p 0 (el1 el) = true) (h2 : inB q 0 (el1 el) = true) : pairE el p q = 0 := if_pos ⟨h, h2⟩
theorem pairE_1 {el p q : Int} (h : inB p 0 (el1 el) = false) : pairE el p q = 6 := if_neg (by rw [h]; simp)
theorem pairE_2 {el p q : Int} (h : inB q 0 (el1 el) = false) : pairE el p q = 6 := if_neg (by rw [h]; simp)
theorem pairE_0 {el p q : Int} (he : 1 ≤ el ∧ el ≤ 16) (h : pairE el p q = 0) : (0 ≤ p ∧ p ≤ el - 1) ∧ 0 ≤ q ∧ q ≤ el - 1 := by
  have e : el1 el = el - 1 := if_neg (by omega)
  unfold pairE at h
  by_cases z : inB p 0 (el1 el) = true ∧ inB q 0 (el1 el) = true
  · rw [e] at z; exact ⟨inB_true.1 z.1, inB_true.1 z.2⟩
  · rw [if_neg z] at h; exact absurd h (by decide)
/-- Where the trace of a pair lies. -/
theorem pair_at {el p q : Int} (he : 1 ≤ el ∧ el ≤ 16) (hp : 0 ≤ p ∧ p ≤ el - 1) (hq : 0 ≤ q ∧ q ≤ el - 1) : 0 ≤ p * el ∧ p * el ≤ 256 ∧ 0 ≤ p * el + q ∧ p * el + q + 1 ≤ el * el := by
  have a := Int.mul_nonneg hp.1 (show 0 ≤ el by omega)
  have b := Int.mul_le_mul_of_nonneg_right hp.2 (show 0 ≤ el by omega)
  have e : (el - 1) * el = el * el - el := by rw [Int.sub_mul, Int.one_mul]
  have := sq_bd he
  omega

set_option maxRecDepth 100000 in
set_option maxHeartbeats 400000 in
theorem CheckMatrix_s (el : Int) (A : Option Addr) (n cap : Nat) (xs : List Nat) (w0 : World) (hn : xs.length = n) (hr : FReads w0 A xs) (hm : n ≤ 1000) :
    Calls Try.prog 14 #[.agg #[.int .i64 el, .slice A n cap]] w0 fun e w' => e = .returned (.tuple #[.int .i64 (mxC el xs).1, .int .i64 (mxC el xs).2]) ∧ Below w0.heap.size w0 w' := by
  have S0 := St.start w0
  refine enter (n := 25) Try.func14 rfl rfl rfl (fun ac A0 => ?_)
  refine wp_seq ?_
  refine wp_region_lit ?_
  refine s_box (.agg #[.int .i64 el, .slice A n cap]) A0 S0 (by kernel_rfl) rfl (fun g3 ac wc A1 S2 => ?_)
  replace S2 : St _ (⟨g3, 30, #[.int .i64 el, .slice A n cap], true⟩ :: _) _ _ := S2
  refine s_one (.int .i64 0) A1 S2 (g_assign (by kernel_rfl)) rfl (fun ac A5 => ?_)
  refine s_one (.int .i64 0) A5 S2 (g_assign (by kernel_rfl)) rfl (fun ac A6 => ?_)
  refine wpList_nil ?_
  refine n_then ?_
  refine wp_seq ?_
  refine wp_block ?_
  refine wp_seq ?_
  refine wp_region_lit ?_
  refine s_one (.pointer (some ⟨g3, 0, none⟩)) A6 S2 (g_field (u := .pointer (some ⟨g3, 0, none⟩)) (by kernel_rfl) (fun _ => by kernel_rfl)) rfl (fun ac A7 => ?_)
  refine s_one (.int .i64 el) A7 S2 (g_load (g := g3) (off := 0) 0 (by kernel_rfl) rfl (by kernel_rfl)) rfl (fun ac A8 => ?_)
  refine s_call (fs := #[]) (cp := #[]) (r := [(0, .int .i64 el), (0, .int .i64 1), (0, .int .i64 16)]) #[.int .i64 el, .int .i64 1, .int .i64 16] (.bool (inB el 1 16)) A8 S2 (sameB (within_any el 1 16 _)) Try.call60 (by kernel_rfl) (by kernel_rfl) (by kernel_rfl) rfl (fun ac wc A9 S10 => ?_)
  refine s_one (.bool (!(inB el 1 16))) A9 S10 (g_un (u := .bool (inB el 1 16)) (by kernel_rfl) (fun _ => by kernel_rfl)) rfl (fun ac A12 => ?_)
  refine s_one (.bool (!(inB el 1 16))) A12 S10 (g_assign (by kernel_rfl)) rfl (fun ac A13 => ?_)
  refine wpList_nil ?_
  refine n_then ?_
  refine c_ifb (b := (!(inB el 1 16))) A13 (by kernel_rfl) (fun h14 => ?_) (fun h14 => ?_)
  · have h15 : inB el 1 16 = false := by simpa using h14
    refine wp_seq ?_
    refine wp_region_lit ?_
    refine s_one (.int .i64 0) A13 S10 (g_assign (by kernel_rfl)) rfl (fun ac A16 => ?_)
    refine s_one (.int .i64 2) A16 S10 (g_assign (by kernel_rfl)) rfl (fun ac A17 => ?_)
    refine wpList_nil ?_
    refine n_then ?_
    refine wp_ret ?_
    refine r_block ?_
    refine r_then ?_
    refine fin2 (.int .i64 0) (.int .i64 2) Try.results14 A17 S10 (rv_tmp (by kernel_rfl)) (rv_tmp (by kernel_rfl)) ⟨?_, S10.kp⟩
    rw [mxC_r h15]
  · have h18 : inB el 1 16 = true := by simpa using h14
    have hel := inB_true.1 h18
    have hsq := sq_bd hel
    refine wp_seq ?_
    refine wp_region_lit ?_
    refine s_one (.pointer (some ⟨g3, 1, none⟩)) A13 S10 (g_field (u := .pointer (some ⟨g3, 0, none⟩)) (by kernel_rfl) (fun _ => by kernel_rfl)) rfl (fun ac A19 => ?_)
    refine s_one (.slice A n cap) A19 S10 (g_load (g := g3) (off := 1) 0 (by kernel_rfl) rfl (by kernel_rfl)) rfl (fun ac A20 => ?_)
    refine s_one (.int .i64 (n : Int)) A20 S10 (g_built (r := [(0, .slice A n cap)]) (by kernel_rfl) (fun _ _ _ => by kernel_rfl)) rfl (fun ac A21 => ?_)
    refine s_one (.pointer (some ⟨g3, 0, none⟩)) A21 S10 (g_field (u := .pointer (some ⟨g3, 0, none⟩)) (by kernel_rfl) (fun _ => by kernel_rfl)) rfl (fun ac A22 => ?_)
    refine s_one (.int .i64 el) A22 S10 (g_load (g := g3) (off := 0) 0 (by kernel_rfl) rfl (by kernel_rfl)) rfl (fun ac A23 => ?_)
    refine s_one (.pointer (some ⟨g3, 0, none⟩)) A23 S10 (g_field (u := .pointer (some ⟨g3, 0, none⟩)) (by kernel_rfl) (fun _ => by kernel_rfl)) rfl (fun ac A24 => ?_)
    refine s_one (.int .i64 el) A24 S10 (g_load (g := g3) (off := 0) 0 (by kernel_rfl) rfl (by kernel_rfl)) rfl (fun ac A25 => ?_)
    refine s_one (.int .i64 (el * el)) A25 S10 (g_bin (u := .int .i64 el) (k := .int .i64 el) (by kernel_rfl) (by kernel_rfl) (fun _ => by kernel_rfl) (b_mul (by omega))) rfl (fun ac A26 => ?_)
    refine s_one (.int .i64 ((el * el) * 64)) A26 S10 (g_bin (u := .int .i64 (el * el)) (k := .int .i64 64) (by kernel_rfl) (by kernel_rfl) (fun _ => by kernel_rfl) (b_mul (by omega))) rfl (fun ac A27 => ?_)
    refine s_one (.bool (decide ((n : Int) ≠ (el * el) * 64))) A27 S10 (g_bin (u := .int .i64 (n : Int)) (k := .int .i64 ((el * el) * 64)) (by kernel_rfl) (by kernel_rfl) (fun _ => by kernel_rfl) b_neq) rfl (fun ac A28 => ?_)
    refine s_one (.bool (decide ((n : Int) ≠ (el * el) * 64))) A28 S10 (g_assign (by kernel_rfl)) rfl (fun ac A29 => ?_)
    refine wpList_nil ?_
    refine n_then ?_
    refine c_ifb (b := (decide ((n : Int) ≠ (el * el) * 64))) A29 (by kernel_rfl) (fun h30 => ?_) (fun h30 => ?_)
    · have p31 := of_decide_eq_true h30
      refine wp_seq ?_
      refine wp_region_lit ?_
      refine s_one (.int .i64 0) A29 S10 (g_assign (by kernel_rfl)) rfl (fun ac A32 => ?_)
      refine s_one (.int .i64 10) A32 S10 (g_assign (by kernel_rfl)) rfl (fun ac A33 => ?_)
      refine wpList_nil ?_
      refine n_then ?_
      refine wp_ret ?_
      refine r_block ?_
      refine r_then ?_
      refine fin2 (.int .i64 0) (.int .i64 10) Try.results14 A33 S10 (rv_tmp (by kernel_rfl)) (rv_tmp (by kernel_rfl)) ⟨?_, S10.kp⟩
      rw [mxC_s h18 (by rw [hn]; omega)]
    · have p34 := of_decide_eq_false h30
      refine wp_skip ?_
      refine n_block ?_
      refine n_then ?_
      refine wp_seq ?_
      refine wp_region_lit ?_
      refine s_one (.pointer (some ⟨g3, 1, none⟩)) A29 S10 (g_field (u := .pointer (some ⟨g3, 0, none⟩)) (by kernel_rfl) (fun _ => by kernel_rfl)) rfl (fun ac A35 => ?_)
      refine s_one (.slice A n cap) A35 S10 (g_load (g := g3) (off := 1) 0 (by kernel_rfl) rfl (by kernel_rfl)) rfl (fun ac A36 => ?_)
      refine s_call (fs := #[]) (cp := #[]) (r := [(0, .slice A n cap)]) #[.slice A n cap] (.tuple #[.int .i64 ((firstErr xs 0).1 : Int), .int .i64 ((firstErr xs 0).2)]) A36 S10 (drewB (samplesErr_n hn A cap _ (hr.kept S10.kp) (by unfold maxLen; omega))) Try.call61 (by kernel_rfl) (by kernel_rfl) (by kernel_rfl) rfl (fun ac wc A37 S38 => ?_)
      refine s_one (.int .i64 ((firstErr xs 0).1 : Int)) A37 S38 (g_extract (u := .tuple #[.int .i64 ((firstErr xs 0).1 : Int), .int .i64 ((firstErr xs 0).2)]) (by kernel_rfl) (fun _ => by kernel_rfl)) rfl (fun ac A40 => ?_)
      refine s_one (.int .i64 ((firstErr xs 0).2)) A40 S38 (g_extract (u := .tuple #[.int .i64 ((firstErr xs 0).1 : Int), .int .i64 ((firstErr xs 0).2)]) (by kernel_rfl) (fun _ => by kernel_rfl)) rfl (fun ac A41 => ?_)
      refine s_one (.int .i64 ((firstErr xs 0).1 : Int)) A41 S38 (g_assign (by kernel_rfl)) rfl (fun ac A42 => ?_)
      refine s_one (.int .i64 ((firstErr xs 0).2)) A42 S38 (g_assign (by kernel_rfl)) rfl (fun ac A43 => ?_)
      refine wpList_nil ?_
      refine n_then ?_
      refine wp_ret ?_
      refine fin2 (.int .i64 ((firstErr xs 0).1 : Int)) (.int .i64 ((firstErr xs 0).2)) Try.results14 A43 S38 (rv_tmp (by kernel_rfl)) (rv_tmp (by kernel_rfl)) ⟨?_, S38.kp⟩
      rw [mxC_y h18 (by rw [hn]; omega)]

set_option maxRecDepth 100000 in
set_option maxHeartbeats 400000 in
theorem refCheckMatrix_s (el : Int) (A : Option Addr) (n cap : Nat) (xs : List Nat) (w0 : World) (hn : xs.length = n) (hr : FReads w0 A xs) (hm : n ≤ 1000) :
    Calls Try.prog 17 #[.agg #[.int .i64 el, .slice A n cap]] w0 fun e w' => e = .returned (.tuple #[.int .i64 (mxC el xs).1, .int .i64 (mxC el xs).2]) ∧ Below w0.heap.size w0 w' := by
  have S0 := St.start w0
  refine enter (n := 23) Try.func17 rfl rfl rfl (fun ac A0 => ?_)
  refine wp_seq ?_
  refine wp_region_lit ?_
  refine s_box (.agg #[.int .i64 el, .slice A n cap]) A0 S0 (by kernel_rfl) rfl (fun g3 ac wc A1 S2 => ?_)
  replace S2 : St _ (⟨g3, 30, #[.int .i64 el, .slice A n cap], true⟩ :: _) _ _ := S2
  refine s_one (.int .i64 0) A1 S2 (g_assign (by kernel_rfl)) rfl (fun ac A5 => ?_)
  refine s_one (.int .i64 0) A5 S2 (g_assign (by kernel_rfl)) rfl (fun ac A6 => ?_)
  refine wpList_nil ?_
  refine n_then ?_
  refine wp_seq ?_
  refine wp_seq ?_
  refine wp_region_lit ?_
  refine s_one (.pointer (some ⟨g3, 0, none⟩)) A6 S2 (g_field (u := .pointer (some ⟨g3, 0, none⟩)) (by kernel_rfl) (fun _ => by kernel_rfl)) rfl (fun ac A7 => ?_)
  refine s_one (.int .i64 el) A7 S2 (g_load (g := g3) (off := 0) 0 (by kernel_rfl) rfl (by kernel_rfl)) rfl (fun ac A8 => ?_)
  refine s_call (fs := #[]) (cp := #[]) (r := [(0, .int .i64 el), (0, .int .i64 1), (0, .int .i64 16)]) #[.int .i64 el, .int .i64 1, .int .i64 16] (.bool (inB el 1 16)) A8 S2 (sameB (Within_any el 1 16 _)) Try.call39 (by kernel_rfl) (by kernel_rfl) (by kernel_rfl) rfl (fun ac wc A9 S10 => ?_)
  refine s_one (.bool (!(inB el 1 16))) A9 S10 (g_un (u := .bool (inB el 1 16)) (by kernel_rfl) (fun _ => by kernel_rfl)) rfl (fun ac A12 => ?_)
  refine wpList_nil ?_
  refine n_then ?_
  refine c_ifb (b := (!(inB el 1 16))) A12 (by kernel_rfl) (fun h13 => ?_) (fun h13 => ?_)
  · have h14 : inB el 1 16 = false := by simpa using h13
    refine wp_seq ?_
    refine wp_region_lit ?_
    refine s_one (.int .i64 0) A12 S10 (g_assign (by kernel_rfl)) rfl (fun ac A15 => ?_)
    refine s_one (.int .i64 2) A15 S10 (g_assign (by kernel_rfl)) rfl (fun ac A16 => ?_)
    refine wpList_nil ?_
    refine n_then ?_
    refine wp_ret ?_
    refine r_then ?_
    refine fin2 (.int .i64 0) (.int .i64 2) Try.results17 A16 S10 (rv_tmp (by kernel_rfl)) (rv_tmp (by kernel_rfl)) ⟨?_, S10.kp⟩
    rw [mxC_r h14]
  · have h17 : inB el 1 16 = true := by simpa using h13
    have hel := inB_true.1 h17
    have hsq := sq_bd hel
    refine wp_skip ?_
    refine n_then ?_
    refine wp_seq ?_
    refine wp_seq ?_
    refine wp_region_lit ?_
    refine s_one (.pointer (some ⟨g3, 1, none⟩)) A12 S10 (g_field (u := .pointer (some ⟨g3, 0, none⟩)) (by kernel_rfl) (fun _ => by kernel_rfl)) rfl (fun ac A18 => ?_)
    refine s_one (.slice A n cap) A18 S10 (g_load (g := g3) (off := 1) 0 (by kernel_rfl) rfl (by kernel_rfl)) rfl (fun ac A19 => ?_)
    refine s_one (.int .i64 (n : Int)) A19 S10 (g_built (r := [(0, .slice A n cap)]) (by kernel_rfl) (fun _ _ _ => by kernel_rfl)) rfl (fun ac A20 => ?_)
    refine s_one (.pointer (some ⟨g3, 0, none⟩)) A20 S10 (g_field (u := .pointer (some ⟨g3, 0, none⟩)) (by kernel_rfl) (fun _ => by kernel_rfl)) rfl (fun ac A21 => ?_)
    refine s_one (.int .i64 el) A21 S10 (g_load (g := g3) (off := 0) 0 (by kernel_rfl) rfl (by kernel_rfl)) rfl (fun ac A22 => ?_)
    refine s_one (.pointer (some ⟨g3, 0, none⟩)) A22 S10 (g_field (u := .pointer (some ⟨g3, 0, none⟩)) (by kernel_rfl) (fun _ => by kernel_rfl)) rfl (fun ac A23 => ?_)
    refine s_one (.int .i64 el) A23 S10 (g_load (g := g3) (off := 0) 0 (by kernel_rfl) rfl (by kernel_rfl)) rfl (fun ac A24 => ?_)
    refine s_one (.int .i64 (el * el)) A24 S10 (g_bin (u := .int .i64 el) (k := .int .i64 el) (by kernel_rfl) (by kernel_rfl) (fun _ => by kernel_rfl) (b_mul (by omega))) rfl (fun ac A25 => ?_)
    refine s_one (.int .i64 ((el * el) * 64)) A25 S10 (g_bin (u := .int .i64 (el * el)) (k := .int .i64 64) (by kernel_rfl) (by kernel_rfl) (fun _ => by kernel_rfl) (b_mul (by omega))) rfl (fun ac A26 => ?_)
    refine s_one (.bool (decide ((n : Int) ≠ (el * el) * 64))) A26 S10 (g_bin (u := .int .i64 (n : Int)) (k := .int .i64 ((el * el) * 64)) (by kernel_rfl) (by kernel_rfl) (fun _ => by kernel_rfl) b_neq) rfl (fun ac A27 => ?_)
    refine wpList_nil ?_
    refine n_then ?_
    refine c_ifb (b := (decide ((n : Int) ≠ (el * el) * 64))) A27 (by kernel_rfl) (fun h28 => ?_) (fun h28 => ?_)
    · have p29 := of_decide_eq_true h28
      refine wp_seq ?_
      refine wp_region_lit ?_
      refine s_one (.int .i64 0) A27 S10 (g_assign (by kernel_rfl)) rfl (fun ac A30 => ?_)
      refine s_one (.int .i64 10) A30 S10 (g_assign (by kernel_rfl)) rfl (fun ac A31 => ?_)
      refine wpList_nil ?_
      refine n_then ?_
      refine wp_ret ?_
      refine r_then ?_
      refine fin2 (.int .i64 0) (.int .i64 10) Try.results17 A31 S10 (rv_tmp (by kernel_rfl)) (rv_tmp (by kernel_rfl)) ⟨?_, S10.kp⟩
      rw [mxC_s h17 (by rw [hn]; omega)]
    · have p32 := of_decide_eq_false h28
      refine wp_skip ?_
      refine n_then ?_
      refine wp_seq ?_
      refine wp_region_lit ?_
      refine s_one (.pointer (some ⟨g3, 1, none⟩)) A27 S10 (g_field (u := .pointer (some ⟨g3, 0, none⟩)) (by kernel_rfl) (fun _ => by kernel_rfl)) rfl (fun ac A33 => ?_)
      refine s_one (.slice A n cap) A33 S10 (g_load (g := g3) (off := 1) 0 (by kernel_rfl) rfl (by kernel_rfl)) rfl (fun ac A34 => ?_)
      refine s_call (fs := #[]) (cp := #[]) (r := [(0, .slice A n cap)]) #[.slice A n cap] (.tuple #[.int .i64 ((firstErr xs 0).1 : Int), .int .i64 ((firstErr xs 0).2)]) A34 S10 (drewB (refSamplesErr_n hn A cap _ (hr.kept S10.kp) (by unfold maxLen; omega))) Try.call67 (by kernel_rfl) (by kernel_rfl) (by kernel_rfl) rfl (fun ac wc A35 S36 => ?_)
      refine s_one (.int .i64 ((firstErr xs 0).1 : Int)) A35 S36 (g_extract (u := .tuple #[.int .i64 ((firstErr xs 0).1 : Int), .int .i64 ((firstErr xs 0).2)]) (by kernel_rfl) (fun _ => by kernel_rfl)) rfl (fun ac A38 => ?_)
      refine s_one (.int .i64 ((firstErr xs 0).2)) A38 S36 (g_extract (u := .tuple #[.int .i64 ((firstErr xs 0).1 : Int), .int .i64 ((firstErr xs 0).2)]) (by kernel_rfl) (fun _ => by kernel_rfl)) rfl (fun ac A39 => ?_)
      refine s_one (.int .i64 ((firstErr xs 0).1 : Int)) A39 S36 (g_assign (by kernel_rfl)) rfl (fun ac A40 => ?_)
      refine s_one (.int .i64 ((firstErr xs 0).2)) A40 S36 (g_assign (by kernel_rfl)) rfl (fun ac A41 => ?_)
      refine wpList_nil ?_
      refine n_then ?_
      refine wp_ret ?_
      refine fin2 (.int .i64 ((firstErr xs 0).1 : Int)) (.int .i64 ((firstErr xs 0).2)) Try.results17 A41 S36 (rv_tmp (by kernel_rfl)) (rv_tmp (by kernel_rfl)) ⟨?_, S36.kp⟩
      rw [mxC_y h17 (by rw [hn]; omega)]

end Go.Proofs.Ytcijkniijomcjaa
