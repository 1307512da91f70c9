/- The walk of RayFirst: it returns true. -/
import Derived.Test.YtnfmfkejhgbipaaRay13
import Derived.Test.YtnfmfkejhgbipaaArgs2
namespace Go.Proofs.Ytnfmfkejhgbipaa
open Go.RowKit Go.Cpl Go.Ray1

set_option maxRecDepth 100000 in
set_option maxHeartbeats 400000 in
theorem RayFirst_s (l : List Int) (A : Option Addr) (cap n : Nat) (fx fz tx tz : Int) (w0 : World) (hn : l.length = n * 4) (hr : IReads w0 A l) :
    Calls Try.prog 18 #[.slice A n cap, .agg #[.int .i64 fx, .int .i64 fz], .agg #[.int .i64 tx, .int .i64 tz]] w0 fun e w' => e = .returned (.bool true) ∧ Below w0.heap.size w0 w' := by
  have S0 := St.start w0
  have hle := mfL_le l fx fz tx tz n
  refine enter (n := 48) Try.func18 rfl rfl rfl (fun ac A0 => ?_)
  refine wp_seq ?_
  refine wp_region_lit ?_
  refine s_box (.agg #[.int .i64 fx, .int .i64 fz]) A0 S0 (by kernel_rfl) rfl (fun g3 ac wc A1 S2 => ?_)
  replace S2 : St _ (⟨g3, 41, #[.int .i64 fx, .int .i64 fz], true⟩ :: _) _ _ := S2
  refine s_box (.agg #[.int .i64 tx, .int .i64 tz]) A1 S2 (by kernel_rfl) rfl (fun g7 ac wc A5 S6 => ?_)
  replace S6 : St _ (⟨g7, 41, #[.int .i64 tx, .int .i64 tz], true⟩ :: _) _ _ := S6
  refine s_one (.bool false) A5 S6 (g_assign (by kernel_rfl)) rfl (fun ac A9 => ?_)
  refine wpList_nil ?_
  refine n_then ?_
  refine wp_seq ?_
  refine wp_seq ?_
  refine wp_region_lit ?_
  refine s_call (fs := #[]) (cp := #[]) (r := []) #[] (.bool true) A9 S6 (awake_s _) Try.call19 (by kernel_rfl) (by kernel_rfl) (by kernel_rfl) rfl (fun ac wc A10 S11 => ?_)
  refine s_one (.bool false) A10 S11 (g_un (u := .bool true) (by kernel_rfl) (fun _ => by kernel_rfl)) rfl (fun ac A13 => ?_)
  refine wpList_nil ?_
  refine n_then ?_
  refine c_f (b := false) A13 (by kernel_rfl) rfl ?_
  refine wp_skip ?_
  refine n_then ?_
  refine wp_seq ?_
  refine wp_seq ?_
  refine wp_region_lit ?_
  refine s_one (.slice A n cap) A13 S11 (g_move (by kernel_rfl)) rfl (fun ac A14 => ?_)
  refine s_one (.int .i64 (n : Int)) A14 S11 (g_built (r := [(0, .slice A n cap)]) (by kernel_rfl) (fun _ _ _ => by kernel_rfl)) rfl (fun ac A15 => ?_)
  refine s_one (.bool (decide ((n : Int) > 10))) A15 S11 (g_bin (u := .int .i64 (n : Int)) (k := .int .i64 10) (by kernel_rfl) (by kernel_rfl) (fun _ => by kernel_rfl) (fun _ => by kernel_rfl)) rfl (fun ac A16 => ?_)
  refine wpList_nil ?_
  refine n_then ?_
  refine c_ifb (b := (decide ((n : Int) > 10))) A16 (by kernel_rfl) (fun h17 => ?_) (fun h17 => ?_)
  · have p18 := of_decide_eq_true h17
    refine wp_seq ?_
    refine wp_region_lit ?_
    refine s_one (.bool true) A16 S11 (g_assign (by kernel_rfl)) rfl (fun ac A19 => ?_)
    refine wpList_nil ?_
    refine n_then ?_
    refine wp_ret ?_
    refine r_then ?_
    refine fin1 (.bool true) Try.results18 A19 S11 (rv_tmp (by kernel_rfl)) ⟨?_, S11.kp⟩
    rfl
  · have p20 := of_decide_eq_false h17
    refine wp_skip ?_
    refine n_then ?_
    refine wp_seq ?_
    refine r_begin (w0 := w0) (by kernel_rfl) (S11.sub sub_all sub_all) (fun wc T21 B22 => ?_)
    have S23 := S11.kept B22
    refine r_take 1 (.slice A n cap) A16 T21 (g_move (by kernel_rfl)) rfl rfl rfl (pf_then pf_body) (by kernel_rfl) (fun ac A24 => ?_)
    refine r_take 3 (.agg #[.int .i64 fx, .int .i64 fz]) A24 T21 (g_load (g := g3) (off := 0) 1 (by kernel_rfl) rfl (by kernel_rfl)) rfl rfl rfl (pf_then pf_body) (by kernel_rfl) (fun ac A25 => ?_)
    refine r_take 4 (.agg #[.int .i64 tx, .int .i64 tz]) A25 T21 (g_load (g := g7) (off := 0) 0 (by kernel_rfl) rfl (by kernel_rfl)) rfl rfl rfl (pf_then pf_body) (by kernel_rfl) (fun ac A26 => ?_)
    refine r_1 (i := 0) (by kernel_rfl) ?_
    refine rs_bs (e := 39) (r := []) (#[]) A26 S23 sub_all sub_all (by kernel_rfl) (by kernel_rfl) rfl rfl rfl (fun g29 ac wc A27 S28 => ?_)
    have T30 := S28.sub (sub_skip sub_all) sub_all
    refine r_1 (i := 2) (by kernel_rfl) ?_
    have S31 : St w0 [⟨g7, 41, #[.int .i64 tx, .int .i64 tz], true⟩, ⟨g3, 41, #[.int .i64 fx, .int .i64 fz], true⟩] [⟨.slice (some ⟨g29, 0, none⟩) 0 0, 39, 4, 0, []⟩] _ := St.toRow S28 0 rfl rfl (by decide)
    refine rs_appendX (e := 39) (size := 4) (bytes := 32) (v := .slice (some ⟨g29, 0, none⟩) 0 0) (m' := n) (c := cap) (l := l) 0 A27 S31 sub_all (fun _ => sub_nil) (by kernel_rfl) (by kernel_rfl) (by kernel_rfl) rfl (hr.kept S31.kp) (by have hlen := hn; omega) (by omega) (by omega) rfl rfl rfl (fun v35 ac wc A32 S33 => ?_)
    have S36 : St w0 [⟨g7, 41, #[.int .i64 tx, .int .i64 tz], true⟩, ⟨g3, 41, #[.int .i64 fx, .int .i64 fz], true⟩] [⟨v35, 39, 4, n, (rowI l)⟩] _ := St.rerow 0 S33 rfl ⟨Nat.zero_add _, List.nil_append _⟩
    have T34 := S36.sub sub_all sub_nil
    refine r_1 (i := 5) (by kernel_rfl) ?_
    obtain ⟨hl41, A42, cap43, rfl, hr44⟩ := rowI_reads2 (v := v35) (size := 4) (m := n) (l := l) (S36.row 0 rfl)
    refine rs_callRT (u := .int .i64 (mfErr l fx fz tx tz n)) (fs := #[]) (cp := #[]) (r := [(0, .slice A42 n cap43), (0, .agg #[.int .i64 fx, .int .i64 fz]), (0, .agg #[.int .i64 tx, .int .i64 tz])]) #[.slice A42 n cap43, .agg #[.int .i64 fx, .int .i64 fz], .agg #[.int .i64 tx, .int .i64 tz]] A32 S36 sub_all sub_nil (MayBeFirst_s l A42 cap43 n fx fz tx tz _ (by have hlen := hl41; omega) (row_ir (S36.row 0 rfl)) (by omega)) Try.call72 rfl rfl (by kernel_rfl) (by kernel_rfl) (by kernel_rfl) rfl (fun v45 ac wc A37 S38 => ?_)
    obtain ⟨hl46, A47, cap48, rfl, hr49⟩ := rowI_reads2 (v := v45) (size := 1) (m := (mfL l fx fz tx tz n).length) (l := mfL l fx fz tx tz n) (S38.row 0 rfl)
    have T40 := S38.sub sub_all sub_nil
    refine r_take 6 (.tuple #[.slice A47 ((mfL l fx fz tx tz n).length) cap48, .int .i64 (mfErr l fx fz tx tz n)]) A37 T40 (g_move (by kernel_rfl)) rfl rfl rfl (pf_then pf_body) (by kernel_rfl) (fun ac A50 => ?_)
    refine r_take 7 (.slice A47 ((mfL l fx fz tx tz n).length) cap48) A50 T40 (g_extract (u := .tuple #[.slice A47 ((mfL l fx fz tx tz n).length) cap48, .int .i64 (mfErr l fx fz tx tz n)]) (by kernel_rfl) (fun _ => by kernel_rfl)) rfl rfl rfl (pf_then pf_body) (by kernel_rfl) (fun ac A51 => ?_)
    refine r_take 8 (.int .i64 (mfErr l fx fz tx tz n)) A51 T40 (g_extract (u := .tuple #[.slice A47 ((mfL l fx fz tx tz n).length) cap48, .int .i64 (mfErr l fx fz tx tz n)]) (by kernel_rfl) (fun _ => by kernel_rfl)) rfl rfl rfl (pf_then pf_body) (by kernel_rfl) (fun ac A52 => ?_)
    refine r_take 9 (.slice A47 ((mfL l fx fz tx tz n).length) cap48) A52 T40 (g_assign (by kernel_rfl)) rfl rfl rfl (pf_then pf_body) (by kernel_rfl) (fun ac A53 => ?_)
    refine r_take 10 (.int .i64 (mfErr l fx fz tx tz n)) A53 T40 (g_assign (by kernel_rfl)) rfl rfl rfl (pf_then pf_body) (by kernel_rfl) (fun ac A54 => ?_)
    refine r_done (by kernel_rfl) ?_
    refine n_then ?_
    refine wp_seq ?_
    refine wp_region_lit ?_
    refine s_one (.slice A n cap) A54 S38 (g_move (by kernel_rfl)) rfl (fun ac A55 => ?_)
    refine s_one (.agg #[.int .i64 fx, .int .i64 fz]) A55 S38 (g_load (g := g3) (off := 0) 1 (by kernel_rfl) rfl (by kernel_rfl)) rfl (fun ac A56 => ?_)
    refine s_one (.agg #[.int .i64 tx, .int .i64 tz]) A56 S38 (g_load (g := g7) (off := 0) 0 (by kernel_rfl) rfl (by kernel_rfl)) rfl (fun ac A57 => ?_)
    refine s_callRT (u := .int .i64 (mfErr l fx fz tx tz n)) (fs := #[]) (cp := #[]) (r := [(0, .slice A n cap), (0, .agg #[.int .i64 fx, .int .i64 fz]), (0, .agg #[.int .i64 tx, .int .i64 tz])]) #[.slice A n cap, .agg #[.int .i64 fx, .int .i64 fz], .agg #[.int .i64 tx, .int .i64 tz]] A57 S38 (refMayBeFirst_s l A cap n fx fz tx tz _ (by have hlen := hl41; omega) (hr.kept S38.kp) (by omega)) Try.call73 (by kernel_rfl) (by kernel_rfl) (by kernel_rfl) rfl (fun v61 ac wc A58 S59 => ?_)
    obtain ⟨hl62, A63, cap64, rfl, hr65⟩ := rowI_reads2 (v := v61) (size := 1) (m := (mfL l fx fz tx tz n).length) (l := mfL l fx fz tx tz n) (S59.row 0 rfl)
    refine s_one (.tuple #[.slice A63 ((mfL l fx fz tx tz n).length) cap64, .int .i64 (mfErr l fx fz tx tz n)]) A58 S59 (g_move (by kernel_rfl)) rfl (fun ac A66 => ?_)
    refine s_one (.slice A63 ((mfL l fx fz tx tz n).length) cap64) A66 S59 (g_extract (u := .tuple #[.slice A63 ((mfL l fx fz tx tz n).length) cap64, .int .i64 (mfErr l fx fz tx tz n)]) (by kernel_rfl) (fun _ => by kernel_rfl)) rfl (fun ac A67 => ?_)
    refine s_one (.int .i64 (mfErr l fx fz tx tz n)) A67 S59 (g_extract (u := .tuple #[.slice A63 ((mfL l fx fz tx tz n).length) cap64, .int .i64 (mfErr l fx fz tx tz n)]) (by kernel_rfl) (fun _ => by kernel_rfl)) rfl (fun ac A68 => ?_)
    refine s_one (.slice A63 ((mfL l fx fz tx tz n).length) cap64) A68 S59 (g_assign (by kernel_rfl)) rfl (fun ac A69 => ?_)
    refine s_one (.int .i64 (mfErr l fx fz tx tz n)) A69 S59 (g_assign (by kernel_rfl)) rfl (fun ac A70 => ?_)
    refine wpList_nil ?_
    refine n_then ?_
    refine wp_seq ?_
    refine wp_seq ?_
    refine wp_region_lit ?_
    refine s_one (.int .i64 (mfErr l fx fz tx tz n)) A70 S59 (g_move (by kernel_rfl)) rfl (fun ac A71 => ?_)
    refine s_one (.int .i64 (mfErr l fx fz tx tz n)) A71 S59 (g_move (by kernel_rfl)) rfl (fun ac A72 => ?_)
    refine s_one (.bool (decide (mfErr l fx fz tx tz n ≠ mfErr l fx fz tx tz n))) A72 S59 (g_bin (u := .int .i64 (mfErr l fx fz tx tz n)) (k := .int .i64 (mfErr l fx fz tx tz n)) (by kernel_rfl) (by kernel_rfl) (fun _ => by kernel_rfl) b_neq) rfl (fun ac A73 => ?_)
    refine s_one (.bool (decide (mfErr l fx fz tx tz n ≠ mfErr l fx fz tx tz n))) A73 S59 (g_move (by kernel_rfl)) rfl (fun ac A74 => ?_)
    refine s_want (dj := 35) (b := (decide (mfErr l fx fz tx tz n ≠ mfErr l fx fz tx tz n))) A74 (by kernel_rfl) (by kernel_rfl) (decide_eq_false (fun h => h rfl)) ?_
    refine s_one (.slice A47 ((mfL l fx fz tx tz n).length) cap48) A74 S59 (g_move (by kernel_rfl)) rfl (fun ac A75 => ?_)
    refine s_want (dj := 35) (b := (decide (mfErr l fx fz tx tz n ≠ mfErr l fx fz tx tz n))) A75 (by kernel_rfl) (by kernel_rfl) (decide_eq_false (fun h => h rfl)) ?_
    refine s_one (.slice A63 ((mfL l fx fz tx tz n).length) cap64) A75 S59 (g_move (by kernel_rfl)) rfl (fun ac A76 => ?_)
    refine s_want (dj := 35) (b := (decide (mfErr l fx fz tx tz n ≠ mfErr l fx fz tx tz n))) A76 (by kernel_rfl) (by kernel_rfl) (decide_eq_false (fun h => h rfl)) ?_
    refine s_call (fs := #[]) (cp := #[]) (r := [(0, .slice A47 ((mfL l fx fz tx tz n).length) cap48), (0, .slice A63 ((mfL l fx fz tx tz n).length) cap64)]) #[.slice A47 ((mfL l fx fz tx tz n).length) cap48, .slice A63 ((mfL l fx fz tx tz n).length) cap64] (.bool true) A76 S59 (Ints_s (mfL l fx fz tx tz n) A47 A63 cap48 cap64 ((mfL l fx fz tx tz n).length) _ (by have hlen := hl62; omega) (row_ir (S59.row 1 rfl)) (row_ir (S59.row 0 rfl)) (by omega)) Try.call74 (by kernel_rfl) (by kernel_rfl) (by kernel_rfl) rfl (fun ac wc A77 S78 => ?_)
    refine s_want (dj := 35) (b := (decide (mfErr l fx fz tx tz n ≠ mfErr l fx fz tx tz n))) A77 (by kernel_rfl) (by kernel_rfl) (decide_eq_false (fun h => h rfl)) ?_
    refine s_one (.bool false) A77 S78 (g_un (u := .bool true) (by kernel_rfl) (fun _ => by kernel_rfl)) rfl (fun ac A80 => ?_)
    refine s_one (.bool false) A80 S78 (g_pick_f (b := (decide (mfErr l fx fz tx tz n ≠ mfErr l fx fz tx tz n))) (by kernel_rfl) (decide_eq_false (fun h => h rfl)) (by kernel_rfl)) rfl (fun ac A81 => ?_)
    refine wpList_nil ?_
    refine n_then ?_
    refine c_f (b := false) A81 (by kernel_rfl) rfl ?_
    refine wp_skip ?_
    refine n_then ?_
    refine wp_seq ?_
    refine wp_region_lit ?_
    refine s_one (.int .i64 (mfErr l fx fz tx tz n)) A81 S78 (g_move (by kernel_rfl)) rfl (fun ac A82 => ?_)
    refine s_one (.bool (decide (mfErr l fx fz tx tz n ≠ 0))) A82 S78 (g_bin (u := .int .i64 (mfErr l fx fz tx tz n)) (k := .int .i64 0) (by kernel_rfl) (by kernel_rfl) (fun _ => by kernel_rfl) b_neq) rfl (fun ac A83 => ?_)
    refine s_one (.bool (decide (mfErr l fx fz tx tz n ≠ 0))) A83 S78 (g_move (by kernel_rfl)) rfl (fun ac A84 => ?_)
    refine by_bool (decide (mfErr l fx fz tx tz n ≠ 0)) (fun h85 => ?_) (fun h85 => ?_)
    · have p86 := of_decide_eq_true h85
      refine s_not (dj := 43) (b := (decide (mfErr l fx fz tx tz n ≠ 0))) A84 (by kernel_rfl) (by kernel_rfl) h85 rfl (fun ac A87 => ?_)
      refine s_not (dj := 43) (b := (decide (mfErr l fx fz tx tz n ≠ 0))) A87 (by kernel_rfl) (by kernel_rfl) h85 rfl (fun ac A88 => ?_)
      refine s_not (dj := 43) (b := (decide (mfErr l fx fz tx tz n ≠ 0))) A88 (by kernel_rfl) (by kernel_rfl) h85 rfl (fun ac A89 => ?_)
      refine s_one (.bool true) A89 S78 (g_pick_t (b := (decide (mfErr l fx fz tx tz n ≠ 0))) (by kernel_rfl) h85 (by kernel_rfl)) rfl (fun ac A90 => ?_)
      refine s_one (.bool true) A90 S78 (g_assign (by kernel_rfl)) rfl (fun ac A91 => ?_)
      refine wpList_nil ?_
      refine n_then ?_
      refine wp_ret ?_
      refine fin1 (.bool true) Try.results18 A91 S78 (rv_tmp (by kernel_rfl)) ⟨?_, S78.kp⟩
      rfl
    · have p92 := of_decide_eq_false h85
      have z0 : mfErr l fx fz tx tz n = 0 := by simpa using h85
      have sm := mf_some z0
      refine s_want (dj := 43) (b := (decide (mfErr l fx fz tx tz n ≠ 0))) A84 (by kernel_rfl) (by kernel_rfl) h85 ?_
      refine s_one (.slice A47 ((mfL l fx fz tx tz n).length) cap48) A84 S78 (g_move (by kernel_rfl)) rfl (fun ac A93 => ?_)
      refine s_want (dj := 43) (b := (decide (mfErr l fx fz tx tz n ≠ 0))) A93 (by kernel_rfl) (by kernel_rfl) h85 ?_
      refine s_one (.int .i64 ((mfL l fx fz tx tz n).length : Int)) A93 S78 (g_built (r := [(0, .slice A47 ((mfL l fx fz tx tz n).length) cap48)]) (by kernel_rfl) (fun _ _ _ => by kernel_rfl)) rfl (fun ac A94 => ?_)
      refine s_want (dj := 43) (b := (decide (mfErr l fx fz tx tz n ≠ 0))) A94 (by kernel_rfl) (by kernel_rfl) h85 ?_
      refine s_one (.bool (decide (((mfL l fx fz tx tz n).length : Int) > 0))) A94 S78 (g_bin (u := .int .i64 ((mfL l fx fz tx tz n).length : Int)) (k := .int .i64 0) (by kernel_rfl) (by kernel_rfl) (fun _ => by kernel_rfl) (fun _ => by kernel_rfl)) rfl (fun ac A95 => ?_)
      refine s_one (.bool (decide (((mfL l fx fz tx tz n).length : Int) > 0))) A95 S78 (g_pick_f (b := (decide (mfErr l fx fz tx tz n ≠ 0))) (by kernel_rfl) h85 (by kernel_rfl)) rfl (fun ac A96 => ?_)
      refine s_one (.bool (decide (((mfL l fx fz tx tz n).length : Int) > 0))) A96 S78 (g_assign (by kernel_rfl)) rfl (fun ac A97 => ?_)
      refine wpList_nil ?_
      refine n_then ?_
      refine wp_ret ?_
      refine fin1 (.bool (decide (((mfL l fx fz tx tz n).length : Int) > 0))) Try.results18 A97 S78 (rv_tmp (by kernel_rfl)) ⟨?_, S78.kp⟩
      exact congrArg (fun b => Ending.returned (Value.bool b)) (decide_eq_true (by first | rfl | assumption | omega))

end Go.Proofs.Ytnfmfkejhgbipaa
