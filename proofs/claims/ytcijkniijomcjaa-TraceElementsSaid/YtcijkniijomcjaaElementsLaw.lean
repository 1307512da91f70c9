/- The walk of TraceElements: it returns true. -/
import Derived.Test.YtcijkniijomcjaaMx14
import Derived.Test.YtcijkniijomcjaaArgsF
namespace Go.Proofs.Ytcijkniijomcjaa
open Go.RowKit Go.Cpl

set_option maxRecDepth 100000 in
set_option maxHeartbeats 400000 in
theorem TraceElements_s (el : Int) (SA : Option Addr) (sn scap : Nat) (sl : List Int) (RA : Option Addr) (rn rcap : Nat) (rl : List Nat) (mo : Int) (lv : Int) (w0 : World) (hsn : sl.length = sn * 2) (hsr : IReads w0 SA sl) (hrn : rl.length = rn) (hrr : FReads w0 RA rl) :
    Calls Try.prog 7 #[.agg #[.int .i64 el, .slice SA sn scap, .slice RA rn rcap, .int .i64 mo], .int .i64 lv] w0 fun e w' => e = .returned (.bool true) ∧ Below w0.heap.size w0 w' := by
  have S0 := St.start w0
  refine enter (n := 79) Try.func7 rfl rfl rfl (fun ac A0 => ?_)
  refine wp_seq ?_
  refine wp_region_lit ?_
  refine s_box (.agg #[.int .i64 el, .slice SA sn scap, .slice RA rn rcap, .int .i64 mo]) A0 S0 (by kernel_rfl) rfl (fun g3 ac wc A1 S2 => ?_)
  replace S2 : St _ (⟨g3, 25, #[.int .i64 el, .slice SA sn scap, .slice RA rn rcap, .int .i64 mo], true⟩ :: _) _ _ := S2
  refine s_one (.bool false) A1 S2 (g_assign (by kernel_rfl)) rfl (fun ac A5 => ?_)
  refine wpList_nil ?_
  refine n_then ?_
  refine wp_seq ?_
  refine wp_seq ?_
  refine wp_region_lit ?_
  refine s_call (fs := #[]) (cp := #[]) (r := []) #[] (.bool true) A5 S2 (awake_any _) Try.call11 (by kernel_rfl) (by kernel_rfl) (by kernel_rfl) rfl (fun ac wc A6 S7 => ?_)
  refine s_one (.bool false) A6 S7 (g_un (u := .bool true) (by kernel_rfl) (fun _ => by kernel_rfl)) rfl (fun ac A9 => ?_)
  refine wpList_nil ?_
  refine n_then ?_
  refine c_f (b := false) A9 (by kernel_rfl) rfl ?_
  refine wp_skip ?_
  refine n_then ?_
  refine wp_seq ?_
  refine wp_seq ?_
  refine wp_region_lit ?_
  refine s_one (.agg #[.int .i64 el, .slice SA sn scap, .slice RA rn rcap, .int .i64 mo]) A9 S7 (g_load (g := g3) (off := 0) 0 (by kernel_rfl) rfl (by kernel_rfl)) rfl (fun ac A10 => ?_)
  refine s_call (fs := #[]) (cp := #[]) (r := [(0, .agg #[.int .i64 el, .slice SA sn scap, .slice RA rn rcap, .int .i64 mo])]) #[.agg #[.int .i64 el, .slice SA sn scap, .slice RA rn rcap, .int .i64 mo]] (.bool ((decide ((sn : Int) ≤ 40)) && (decide ((rn : Int) ≤ 200)))) A10 S7 (few_s el SA sn scap RA rn rcap mo _) Try.call12 (by kernel_rfl) (by kernel_rfl) (by kernel_rfl) rfl (fun ac wc A11 S12 => ?_)
  refine s_one (.bool (!((decide ((sn : Int) ≤ 40)) && (decide ((rn : Int) ≤ 200))))) A11 S12 (g_un (u := .bool ((decide ((sn : Int) ≤ 40)) && (decide ((rn : Int) ≤ 200)))) (by kernel_rfl) (fun _ => by kernel_rfl)) rfl (fun ac A14 => ?_)
  refine wpList_nil ?_
  refine n_then ?_
  refine c_ifb (b := (!((decide ((sn : Int) ≤ 40)) && (decide ((rn : Int) ≤ 200))))) A14 (by kernel_rfl) (fun h15 => ?_) (fun h15 => ?_)
  · have h16 : ((decide ((sn : Int) ≤ 40)) && (decide ((rn : Int) ≤ 200))) = false := Eq.mp (Bool.not_eq_true' _) h15
    refine wp_seq ?_
    refine wp_region_lit ?_
    refine s_one (.bool true) A14 S12 (g_assign (by kernel_rfl)) rfl (fun ac A17 => ?_)
    refine wpList_nil ?_
    refine n_then ?_
    refine wp_ret ?_
    refine r_then ?_
    refine fin1 (.bool true) Try.results7 A17 S12 (rv_tmp (by kernel_rfl)) ⟨?_, S12.kp⟩
    rfl
  · have h18 : ((decide ((sn : Int) ≤ 40)) && (decide ((rn : Int) ≤ 200))) = true := Eq.mp (Bool.not_eq_false' _) h15
    have h19 := (Bool.and_eq_true_iff.1 h18).1
    have p20 := of_decide_eq_true h19
    have h21 := (Bool.and_eq_true_iff.1 h18).2
    have p22 := of_decide_eq_true h21
    refine wp_skip ?_
    refine n_then ?_
    refine wp_seq ?_
    refine wp_region_lit ?_
    refine s_one (.agg #[.int .i64 el, .slice SA sn scap, .slice RA rn rcap, .int .i64 mo]) A14 S12 (g_load (g := g3) (off := 0) 0 (by kernel_rfl) rfl (by kernel_rfl)) rfl (fun ac A23 => ?_)
    refine s_callRY (T := List Nat) (p := fun u => u.length ≤ 600) (m := fun u => u.length) (xs := fun u => (rowF u)) (fs := #[]) (cp := #[]) (r := [(0, .agg #[.int .i64 el, .slice SA sn scap, .slice RA rn rcap, .int .i64 mo])]) (fun v => .agg #[.int .i64 el, v]) #[.agg #[.int .i64 el, .slice SA sn scap, .slice RA rn rcap, .int .i64 mo]] A23 S12 (Matrix_s el SA sn scap sl RA rn rcap rl mo _ hsn (hsr.kept S12.kp) hrn (hrr.kept S12.kp) (by omega) (by omega)) Try.call13 (by kernel_rfl) (by kernel_rfl) (by kernel_rfl) rfl (fun ys28 hu29 v27 ac wc A24 S25 => ?_)
    obtain ⟨hl30, A31, cap32, rfl, hc33, hr34⟩ := rowF_reads (v := v27) (m := ys28.length) (l := ys28) (S25.row 0 rfl)
    refine s_alloc (#[.int .i64 0, .slice none 0 0]) A24 S25 (by kernel_rfl) rfl (fun g37 ac wc A35 S36 => ?_)
    refine s_store (g := g37) (off := 0) (v := .agg #[.int .i64 el, .slice A31 ys28.length cap32]) 0 (#[.int .i64 el, .slice A31 ys28.length cap32]) A35 S36 (by kernel_rfl) (by kernel_rfl) rfl (by kernel_rfl) (fun wc S39 => ?_)
    refine wpList_nil ?_
    refine n_then ?_
    refine wp_seq ?_
    refine wp_region_lit ?_
    refine s_one (.agg #[.int .i64 el, .slice A31 ys28.length cap32]) A35 S39 (g_load (g := g37) (off := 0) 0 (by kernel_rfl) rfl (by kernel_rfl)) rfl (fun ac A41 => ?_)
    refine s_callRF (fs := #[]) (cp := #[]) (r := [(0, .agg #[.int .i64 el, .slice A31 ys28.length cap32])]) (fun v => .agg #[.int .i64 el, v]) #[.agg #[.int .i64 el, .slice A31 ys28.length cap32]] A41 S39 (CopyMatrix_s el A31 ys28.length cap32 ys28 _ hl30 (row_fr (S39.row 0 rfl)) (by omega)) Try.call15 (by kernel_rfl) (by kernel_rfl) (by kernel_rfl) rfl (fun v45 ac wc A42 S43 => ?_)
    obtain ⟨hl46, A47, cap48, rfl, hc49, hr50⟩ := rowF_reads (v := v45) (m := ys28.length) (l := ys28) (S43.row 0 rfl)
    refine s_one (.int .i64 lv) A42 S43 (g_move (by kernel_rfl)) rfl (fun ac A51 => ?_)
    have hw55 := deW_le el ys28 lv
    refine s_callRT (u := .int .i64 (deZ el ys28 lv)) (fs := #[]) (cp := #[]) (r := [(0, .agg #[.int .i64 el, .slice A47 ys28.length cap48]), (0, .int .i64 lv)]) #[.agg #[.int .i64 el, .slice A47 ys28.length cap48], .int .i64 lv] A51 S43 (DeadElements_s el A47 ys28.length cap48 ys28 lv _ hl46 (row_fr (S43.row 0 rfl)) (by omega) (by omega)) Try.call35 (by kernel_rfl) (by kernel_rfl) (by kernel_rfl) rfl (fun v56 ac wc A52 S53 => ?_)
    obtain ⟨hl57, A58, cap59, rfl, hr60⟩ := rowI_reads2 (v := v56) (size := 1) (m := (deW el ys28 lv).length) (l := deW el ys28 lv) (S53.row 0 rfl)
    refine s_one (.tuple #[.slice A58 ((deW el ys28 lv).length) cap59, .int .i64 (deZ el ys28 lv)]) A52 S53 (g_move (by kernel_rfl)) rfl (fun ac A61 => ?_)
    refine s_one (.slice A58 ((deW el ys28 lv).length) cap59) A61 S53 (g_extract (u := .tuple #[.slice A58 ((deW el ys28 lv).length) cap59, .int .i64 (deZ el ys28 lv)]) (by kernel_rfl) (fun _ => by kernel_rfl)) rfl (fun ac A62 => ?_)
    refine s_one (.int .i64 (deZ el ys28 lv)) A62 S53 (g_extract (u := .tuple #[.slice A58 ((deW el ys28 lv).length) cap59, .int .i64 (deZ el ys28 lv)]) (by kernel_rfl) (fun _ => by kernel_rfl)) rfl (fun ac A63 => ?_)
    refine s_one (.slice A58 ((deW el ys28 lv).length) cap59) A63 S53 (g_assign (by kernel_rfl)) rfl (fun ac A64 => ?_)
    refine s_one (.int .i64 (deZ el ys28 lv)) A64 S53 (g_assign (by kernel_rfl)) rfl (fun ac A65 => ?_)
    refine wpList_nil ?_
    refine n_then ?_
    refine wp_seq ?_
    refine wp_region_lit ?_
    refine s_one (.agg #[.int .i64 el, .slice A31 ys28.length cap32]) A65 S53 (g_load (g := g37) (off := 0) 0 (by kernel_rfl) rfl (by kernel_rfl)) rfl (fun ac A66 => ?_)
    refine s_callRF (fs := #[]) (cp := #[]) (r := [(0, .agg #[.int .i64 el, .slice A31 ys28.length cap32])]) (fun v => .agg #[.int .i64 el, v]) #[.agg #[.int .i64 el, .slice A31 ys28.length cap32]] A66 S53 (CopyMatrix_s el A31 ys28.length cap32 ys28 _ hl46 (row_fr (S53.row 2 rfl)) (by omega)) Try.call15 (by kernel_rfl) (by kernel_rfl) (by kernel_rfl) rfl (fun v70 ac wc A67 S68 => ?_)
    obtain ⟨hl71, A72, cap73, rfl, hc74, hr75⟩ := rowF_reads (v := v70) (m := ys28.length) (l := ys28) (S68.row 0 rfl)
    have hw79 := saW_le el ys28
    refine s_callRT (u := .int .i64 ((mxC el ys28).2)) (fs := #[]) (cp := #[]) (r := [(0, .agg #[.int .i64 el, .slice A72 ys28.length cap73])]) #[.agg #[.int .i64 el, .slice A72 ys28.length cap73]] A67 S68 (Saturated_s el A72 ys28.length cap73 ys28 _ hl71 (row_fr (S68.row 0 rfl)) (by omega) (by omega)) Try.call36 (by kernel_rfl) (by kernel_rfl) (by kernel_rfl) rfl (fun v80 ac wc A76 S77 => ?_)
    obtain ⟨hl81, A82, cap83, rfl, hr84⟩ := rowI_reads2 (v := v80) (size := 2) (m := (saW el ys28).length) (l := flP (saW el ys28)) (S77.row 0 rfl)
    refine s_one (.tuple #[.slice A82 ((saW el ys28).length) cap83, .int .i64 ((mxC el ys28).2)]) A76 S77 (g_move (by kernel_rfl)) rfl (fun ac A85 => ?_)
    refine s_one (.slice A82 ((saW el ys28).length) cap83) A85 S77 (g_extract (u := .tuple #[.slice A82 ((saW el ys28).length) cap83, .int .i64 ((mxC el ys28).2)]) (by kernel_rfl) (fun _ => by kernel_rfl)) rfl (fun ac A86 => ?_)
    refine s_one (.int .i64 ((mxC el ys28).2)) A86 S77 (g_extract (u := .tuple #[.slice A82 ((saW el ys28).length) cap83, .int .i64 ((mxC el ys28).2)]) (by kernel_rfl) (fun _ => by kernel_rfl)) rfl (fun ac A87 => ?_)
    refine s_one (.slice A82 ((saW el ys28).length) cap83) A87 S77 (g_assign (by kernel_rfl)) rfl (fun ac A88 => ?_)
    refine s_one (.int .i64 ((mxC el ys28).2)) A88 S77 (g_assign (by kernel_rfl)) rfl (fun ac A89 => ?_)
    refine wpList_nil ?_
    refine n_then ?_
    refine wp_seq ?_
    refine wp_region_lit ?_
    refine s_one (.agg #[.int .i64 el, .slice A31 ys28.length cap32]) A89 S77 (g_load (g := g37) (off := 0) 0 (by kernel_rfl) rfl (by kernel_rfl)) rfl (fun ac A90 => ?_)
    refine s_call (fs := #[]) (cp := #[]) (r := [(0, .agg #[.int .i64 el, .slice A31 ys28.length cap32])]) #[.agg #[.int .i64 el, .slice A31 ys28.length cap32]] (.int .i64 ((mxC el ys28).2)) A90 S77 (err_s el A31 ys28.length cap32 ys28 _ hl71 (row_fr (S77.row 4 rfl)) (by omega)) Try.call23 (by kernel_rfl) (by kernel_rfl) (by kernel_rfl) rfl (fun ac wc A91 S92 => ?_)
    refine s_one (.int .i64 ((mxC el ys28).2)) A91 S92 (g_assign (by kernel_rfl)) rfl (fun ac A94 => ?_)
    refine wpList_nil ?_
    refine n_then ?_
    refine wp_seq ?_
    refine wp_seq ?_
    refine wp_region_lit ?_
    refine s_one (.int .i64 ((mxC el ys28).2)) A94 S92 (g_move (by kernel_rfl)) rfl (fun ac A95 => ?_)
    refine s_one (.bool (decide ((mxC el ys28).2 ≠ 0))) A95 S92 (g_bin (u := .int .i64 ((mxC el ys28).2)) (k := .int .i64 0) (by kernel_rfl) (by kernel_rfl) (fun _ => by kernel_rfl) b_neq) rfl (fun ac A96 => ?_)
    refine wpList_nil ?_
    refine n_then ?_
    refine c_ifb (b := (decide ((mxC el ys28).2 ≠ 0))) A96 (by kernel_rfl) (fun h97 => ?_) (fun h97 => ?_)
    · have p98 := of_decide_eq_true h97
      refine wp_seq ?_
      refine wp_region_lit ?_
      refine s_one (.int .i64 (deZ el ys28 lv)) A96 S92 (g_move (by kernel_rfl)) rfl (fun ac A99 => ?_)
      refine s_one (.int .i64 ((mxC el ys28).2)) A99 S92 (g_move (by kernel_rfl)) rfl (fun ac A100 => ?_)
      refine s_one (.bool (decide (deZ el ys28 lv = (mxC el ys28).2))) A100 S92 (g_bin (u := .int .i64 (deZ el ys28 lv)) (k := .int .i64 ((mxC el ys28).2)) (by kernel_rfl) (by kernel_rfl) (fun _ => by kernel_rfl) b_eql) rfl (fun ac A101 => ?_)
      refine s_one (.bool (decide (deZ el ys28 lv = (mxC el ys28).2))) A101 S92 (g_move (by kernel_rfl)) rfl (fun ac A102 => ?_)
      refine s_want (dj := 38) (b := (decide (deZ el ys28 lv = (mxC el ys28).2))) A102 (by kernel_rfl) (by kernel_rfl) (decide_eq_true (deZ_n p98)) ?_
      refine s_one (.int .i64 ((mxC el ys28).2)) A102 S92 (g_move (by kernel_rfl)) rfl (fun ac A103 => ?_)
      refine s_want (dj := 38) (b := (decide (deZ el ys28 lv = (mxC el ys28).2))) A103 (by kernel_rfl) (by kernel_rfl) (decide_eq_true (deZ_n p98)) ?_
      refine s_one (.int .i64 ((mxC el ys28).2)) A103 S92 (g_move (by kernel_rfl)) rfl (fun ac A104 => ?_)
      refine s_want (dj := 38) (b := (decide (deZ el ys28 lv = (mxC el ys28).2))) A104 (by kernel_rfl) (by kernel_rfl) (decide_eq_true (deZ_n p98)) ?_
      refine s_one (.bool (decide ((mxC el ys28).2 = (mxC el ys28).2))) A104 S92 (g_bin (u := .int .i64 ((mxC el ys28).2)) (k := .int .i64 ((mxC el ys28).2)) (by kernel_rfl) (by kernel_rfl) (fun _ => by kernel_rfl) b_eql) rfl (fun ac A105 => ?_)
      refine s_one (.bool (decide ((mxC el ys28).2 = (mxC el ys28).2))) A105 S92 (g_pick_t (b := (decide (deZ el ys28 lv = (mxC el ys28).2))) (by kernel_rfl) (decide_eq_true (deZ_n p98)) (by kernel_rfl)) rfl (fun ac A106 => ?_)
      refine s_one (.bool (decide ((mxC el ys28).2 = (mxC el ys28).2))) A106 S92 (g_move (by kernel_rfl)) rfl (fun ac A107 => ?_)
      refine s_want (dj := 43) (b := (decide ((mxC el ys28).2 = (mxC el ys28).2))) A107 (by kernel_rfl) (by kernel_rfl) (decide_eq_true rfl) ?_
      refine s_one (.slice A58 ((deW el ys28 lv).length) cap59) A107 S92 (g_move (by kernel_rfl)) rfl (fun ac A108 => ?_)
      refine s_want (dj := 43) (b := (decide ((mxC el ys28).2 = (mxC el ys28).2))) A108 (by kernel_rfl) (by kernel_rfl) (decide_eq_true rfl) ?_
      refine s_one (.int .i64 ((deW el ys28 lv).length : Int)) A108 S92 (g_built (r := [(0, .slice A58 ((deW el ys28 lv).length) cap59)]) (by kernel_rfl) (fun _ _ _ => by kernel_rfl)) rfl (fun ac A109 => ?_)
      refine s_want (dj := 43) (b := (decide ((mxC el ys28).2 = (mxC el ys28).2))) A109 (by kernel_rfl) (by kernel_rfl) (decide_eq_true rfl) ?_
      refine s_one (.slice A82 ((saW el ys28).length) cap83) A109 S92 (g_move (by kernel_rfl)) rfl (fun ac A110 => ?_)
      refine s_want (dj := 43) (b := (decide ((mxC el ys28).2 = (mxC el ys28).2))) A110 (by kernel_rfl) (by kernel_rfl) (decide_eq_true rfl) ?_
      refine s_one (.int .i64 ((saW el ys28).length : Int)) A110 S92 (g_built (r := [(0, .slice A82 ((saW el ys28).length) cap83)]) (by kernel_rfl) (fun _ _ _ => by kernel_rfl)) rfl (fun ac A111 => ?_)
      refine s_want (dj := 43) (b := (decide ((mxC el ys28).2 = (mxC el ys28).2))) A111 (by kernel_rfl) (by kernel_rfl) (decide_eq_true rfl) ?_
      refine s_one (.int .i64 (((deW el ys28 lv).length : Int) + ((saW el ys28).length : Int))) A111 S92 (g_bin (u := .int .i64 ((deW el ys28 lv).length : Int)) (k := .int .i64 ((saW el ys28).length : Int)) (by kernel_rfl) (by kernel_rfl) (fun _ => by kernel_rfl) (b_add (by omega))) rfl (fun ac A112 => ?_)
      refine s_want (dj := 43) (b := (decide ((mxC el ys28).2 = (mxC el ys28).2))) A112 (by kernel_rfl) (by kernel_rfl) (decide_eq_true rfl) ?_
      refine s_one (.bool (decide (((deW el ys28 lv).length : Int) + ((saW el ys28).length : Int) = 0))) A112 S92 (g_bin (u := .int .i64 (((deW el ys28 lv).length : Int) + ((saW el ys28).length : Int))) (k := .int .i64 0) (by kernel_rfl) (by kernel_rfl) (fun _ => by kernel_rfl) b_eql) rfl (fun ac A113 => ?_)
      refine s_one (.bool (decide (((deW el ys28 lv).length : Int) + ((saW el ys28).length : Int) = 0))) A113 S92 (g_pick_t (b := (decide ((mxC el ys28).2 = (mxC el ys28).2))) (by kernel_rfl) (decide_eq_true rfl) (by kernel_rfl)) rfl (fun ac A114 => ?_)
      refine s_one (.bool (decide (((deW el ys28 lv).length : Int) + ((saW el ys28).length : Int) = 0))) A114 S92 (g_assign (by kernel_rfl)) rfl (fun ac A115 => ?_)
      refine wpList_nil ?_
      refine n_then ?_
      refine wp_ret ?_
      refine r_then ?_
      refine fin1 (.bool (decide (((deW el ys28 lv).length : Int) + ((saW el ys28).length : Int) = 0))) Try.results7 A115 S92 (rv_tmp (by kernel_rfl)) ⟨?_, S92.kp⟩
      exact congrArg (fun b => Ending.returned (Value.bool b)) (decide_eq_true (by rw [deW_n p98, saW_n p98]; rfl))
    · have p116 := of_decide_eq_false h97
      refine wp_skip ?_
      refine n_then ?_
      refine wp_seq ?_
      refine wp_seq ?_
      refine wp_region_lit ?_
      refine s_one (.int .i64 ((mxC el ys28).2)) A96 S92 (g_move (by kernel_rfl)) rfl (fun ac A117 => ?_)
      refine s_one (.bool (decide ((mxC el ys28).2 ≠ 0))) A117 S92 (g_bin (u := .int .i64 ((mxC el ys28).2)) (k := .int .i64 0) (by kernel_rfl) (by kernel_rfl) (fun _ => by kernel_rfl) b_neq) rfl (fun ac A118 => ?_)
      refine s_one (.bool (decide ((mxC el ys28).2 ≠ 0))) A118 S92 (g_move (by kernel_rfl)) rfl (fun ac A119 => ?_)
      refine s_want (dj := 53) (b := (decide ((mxC el ys28).2 ≠ 0))) A119 (by kernel_rfl) (by kernel_rfl) h97 ?_
      refine s_one (.slice A82 ((saW el ys28).length) cap83) A119 S92 (g_move (by kernel_rfl)) rfl (fun ac A120 => ?_)
      refine s_want (dj := 53) (b := (decide ((mxC el ys28).2 ≠ 0))) A120 (by kernel_rfl) (by kernel_rfl) h97 ?_
      refine s_one (.agg #[.int .i64 el, .slice A31 ys28.length cap32]) A120 S92 (g_load (g := g37) (off := 0) 0 (by kernel_rfl) rfl (by kernel_rfl)) rfl (fun ac A121 => ?_)
      refine s_want (dj := 53) (b := (decide ((mxC el ys28).2 ≠ 0))) A121 (by kernel_rfl) (by kernel_rfl) h97 ?_
      have hw125 := saW_le el ys28
      refine s_callR (fs := #[]) (cp := #[]) (r := [(0, .agg #[.int .i64 el, .slice A31 ys28.length cap32])]) #[.agg #[.int .i64 el, .slice A31 ys28.length cap32]] A121 S92 (refSaturated_s el A31 ys28.length cap32 ys28 _ hl71 (row_fr (S92.row 4 rfl)) (by omega) (by omega)) Try.call38 (by kernel_rfl) (by kernel_rfl) (by kernel_rfl) rfl (fun v126 ac wc A122 S123 => ?_)
      refine s_want (dj := 53) (b := (decide ((mxC el ys28).2 ≠ 0))) A122 (by kernel_rfl) (by kernel_rfl) h97 ?_
      obtain ⟨hl130, A131, cap132, rfl, hr133⟩ := rowI_reads2 (v := v126) (size := 2) (m := (saW el ys28).length) (l := flP (saW el ys28)) (S123.row 0 rfl)
      refine s_call (fs := #[]) (cp := #[]) (r := [(0, .slice A82 ((saW el ys28).length) cap83), (0, .slice A131 ((saW el ys28).length) cap132)]) #[.slice A82 ((saW el ys28).length) cap83, .slice A131 ((saW el ys28).length) cap132] (.bool true) A122 S123 (pairs_eq (flP (saW el ys28)) (flP (saW el ys28)) rfl A82 A131 cap83 cap132 ((saW el ys28).length) ((saW el ys28).length) _ (by have hlen := hl130; omega) (by have hlen := hl130; omega) (Nat.le_trans (saW_le el ys28) (by decide)) (row_ir (S123.row 1 rfl)) (row_ir (S123.row 0 rfl))) Try.call37 (by kernel_rfl) (by kernel_rfl) (by kernel_rfl) rfl (fun ac wc A127 S128 => ?_)
      refine s_want (dj := 53) (b := (decide ((mxC el ys28).2 ≠ 0))) A127 (by kernel_rfl) (by kernel_rfl) h97 ?_
      refine s_one (.bool false) A127 S128 (g_un (u := .bool true) (by kernel_rfl) (fun _ => by kernel_rfl)) rfl (fun ac A134 => ?_)
      refine s_one (.bool false) A134 S128 (g_pick_f (b := (decide ((mxC el ys28).2 ≠ 0))) (by kernel_rfl) h97 (by kernel_rfl)) rfl (fun ac A135 => ?_)
      refine wpList_nil ?_
      refine n_then ?_
      refine c_f (b := false) A135 (by kernel_rfl) rfl ?_
      refine wp_skip ?_
      refine n_then ?_
      refine wp_seq ?_
      refine wp_seq ?_
      refine wp_region_lit ?_
      refine s_one (.int .i64 lv) A135 S128 (g_move (by kernel_rfl)) rfl (fun ac A136 => ?_)
      refine s_call (fs := #[]) (cp := #[]) (r := [(0, .int .i64 lv), (0, .int .i64 0), (0, .int .i64 2047)]) #[.int .i64 lv, .int .i64 0, .int .i64 2047] (.bool (inB lv 0 2047)) A136 S128 (sameB (Within_any lv 0 2047 _)) Try.call39 (by kernel_rfl) (by kernel_rfl) (by kernel_rfl) rfl (fun ac wc A137 S138 => ?_)
      refine s_one (.bool (!(inB lv 0 2047))) A137 S138 (g_un (u := .bool (inB lv 0 2047)) (by kernel_rfl) (fun _ => by kernel_rfl)) rfl (fun ac A140 => ?_)
      refine wpList_nil ?_
      refine n_then ?_
      refine c_ifb (b := (!(inB lv 0 2047))) A140 (by kernel_rfl) (fun h141 => ?_) (fun h141 => ?_)
      · have h142 : inB lv 0 2047 = false := by simpa using h141
        refine wp_seq ?_
        refine wp_region_lit ?_
        refine s_one (.int .i64 (deZ el ys28 lv)) A140 S138 (g_move (by kernel_rfl)) rfl (fun ac A143 => ?_)
        refine s_one (.bool (decide (deZ el ys28 lv = 2))) A143 S138 (g_bin (u := .int .i64 (deZ el ys28 lv)) (k := .int .i64 2) (by kernel_rfl) (by kernel_rfl) (fun _ => by kernel_rfl) b_eql) rfl (fun ac A144 => ?_)
        refine s_one (.bool (decide (deZ el ys28 lv = 2))) A144 S138 (g_move (by kernel_rfl)) rfl (fun ac A145 => ?_)
        refine s_want (dj := 65) (b := (decide (deZ el ys28 lv = 2))) A145 (by kernel_rfl) (by kernel_rfl) (decide_eq_true (deZ_r (by omega) h142)) ?_
        refine s_one (.slice A58 ((deW el ys28 lv).length) cap59) A145 S138 (g_move (by kernel_rfl)) rfl (fun ac A146 => ?_)
        refine s_want (dj := 65) (b := (decide (deZ el ys28 lv = 2))) A146 (by kernel_rfl) (by kernel_rfl) (decide_eq_true (deZ_r (by omega) h142)) ?_
        refine s_one (.int .i64 ((deW el ys28 lv).length : Int)) A146 S138 (g_built (r := [(0, .slice A58 ((deW el ys28 lv).length) cap59)]) (by kernel_rfl) (fun _ _ _ => by kernel_rfl)) rfl (fun ac A147 => ?_)
        refine s_want (dj := 65) (b := (decide (deZ el ys28 lv = 2))) A147 (by kernel_rfl) (by kernel_rfl) (decide_eq_true (deZ_r (by omega) h142)) ?_
        refine s_one (.bool (decide (((deW el ys28 lv).length : Int) = 0))) A147 S138 (g_bin (u := .int .i64 ((deW el ys28 lv).length : Int)) (k := .int .i64 0) (by kernel_rfl) (by kernel_rfl) (fun _ => by kernel_rfl) b_eql) rfl (fun ac A148 => ?_)
        refine s_one (.bool (decide (((deW el ys28 lv).length : Int) = 0))) A148 S138 (g_pick_t (b := (decide (deZ el ys28 lv = 2))) (by kernel_rfl) (decide_eq_true (deZ_r (by omega) h142)) (by kernel_rfl)) rfl (fun ac A149 => ?_)
        refine s_one (.bool (decide (((deW el ys28 lv).length : Int) = 0))) A149 S138 (g_assign (by kernel_rfl)) rfl (fun ac A150 => ?_)
        refine wpList_nil ?_
        refine n_then ?_
        refine wp_ret ?_
        refine r_then ?_
        refine fin1 (.bool (decide (((deW el ys28 lv).length : Int) = 0))) Try.results7 A150 S138 (rv_tmp (by kernel_rfl)) ⟨?_, S138.kp⟩
        exact congrArg (fun b => Ending.returned (Value.bool b)) (decide_eq_true (by rw [deW_r h142]; rfl))
      · have h151 : inB lv 0 2047 = true := by simpa using h141
        refine wp_skip ?_
        refine n_then ?_
        refine wp_seq ?_
        refine wp_region_lit ?_
        refine s_one (.int .i64 (deZ el ys28 lv)) A140 S138 (g_move (by kernel_rfl)) rfl (fun ac A152 => ?_)
        refine s_one (.bool (decide (deZ el ys28 lv = 0))) A152 S138 (g_bin (u := .int .i64 (deZ el ys28 lv)) (k := .int .i64 0) (by kernel_rfl) (by kernel_rfl) (fun _ => by kernel_rfl) b_eql) rfl (fun ac A153 => ?_)
        refine s_one (.bool (decide (deZ el ys28 lv = 0))) A153 S138 (g_move (by kernel_rfl)) rfl (fun ac A154 => ?_)
        refine s_want (dj := 72) (b := (decide (deZ el ys28 lv = 0))) A154 (by kernel_rfl) (by kernel_rfl) (decide_eq_true (deZ_y (by omega) h151)) ?_
        refine s_one (.slice A58 ((deW el ys28 lv).length) cap59) A154 S138 (g_move (by kernel_rfl)) rfl (fun ac A155 => ?_)
        refine s_want (dj := 72) (b := (decide (deZ el ys28 lv = 0))) A155 (by kernel_rfl) (by kernel_rfl) (decide_eq_true (deZ_y (by omega) h151)) ?_
        refine s_one (.agg #[.int .i64 el, .slice A31 ys28.length cap32]) A155 S138 (g_load (g := g37) (off := 0) 0 (by kernel_rfl) rfl (by kernel_rfl)) rfl (fun ac A156 => ?_)
        refine s_want (dj := 72) (b := (decide (deZ el ys28 lv = 0))) A156 (by kernel_rfl) (by kernel_rfl) (decide_eq_true (deZ_y (by omega) h151)) ?_
        refine s_one (.int .i64 lv) A156 S138 (g_move (by kernel_rfl)) rfl (fun ac A157 => ?_)
        refine s_want (dj := 72) (b := (decide (deZ el ys28 lv = 0))) A157 (by kernel_rfl) (by kernel_rfl) (decide_eq_true (deZ_y (by omega) h151)) ?_
        have hw161 := deW_le el ys28 lv
        refine s_callR (fs := #[]) (cp := #[]) (r := [(0, .agg #[.int .i64 el, .slice A31 ys28.length cap32]), (0, .int .i64 lv)]) #[.agg #[.int .i64 el, .slice A31 ys28.length cap32], .int .i64 lv] A157 S138 (refDeadElements_s el A31 ys28.length cap32 ys28 lv _ hl71 (row_fr (S138.row 5 rfl)) (by omega) (by omega) h151) Try.call41 (by kernel_rfl) (by kernel_rfl) (by kernel_rfl) rfl (fun v162 ac wc A158 S159 => ?_)
        refine s_want (dj := 72) (b := (decide (deZ el ys28 lv = 0))) A158 (by kernel_rfl) (by kernel_rfl) (decide_eq_true (deZ_y (by omega) h151)) ?_
        obtain ⟨hl166, A167, cap168, rfl, hr169⟩ := rowI_reads2 (v := v162) (size := 1) (m := (deW el ys28 lv).length) (l := deW el ys28 lv) (S159.row 0 rfl)
        refine s_call (fs := #[]) (cp := #[]) (r := [(0, .slice A58 ((deW el ys28 lv).length) cap59), (0, .slice A167 ((deW el ys28 lv).length) cap168)]) #[.slice A58 ((deW el ys28 lv).length) cap59, .slice A167 ((deW el ys28 lv).length) cap168] (.bool true) A158 S159 (baseInts_eq (deW el ys28 lv) (deW el ys28 lv) rfl A58 A167 cap59 cap168 ((deW el ys28 lv).length) ((deW el ys28 lv).length) _ (by have hlen := hl166; omega) (by have hlen := hl166; omega) (Nat.le_trans (deW_le el ys28 lv) (by decide)) (row_ir (S159.row 4 rfl)) (row_ir (S159.row 0 rfl))) Try.call40 (by kernel_rfl) (by kernel_rfl) (by kernel_rfl) rfl (fun ac wc A163 S164 => ?_)
        refine s_one (.bool true) A163 S164 (g_pick_t (b := (decide (deZ el ys28 lv = 0))) (by kernel_rfl) (decide_eq_true (deZ_y (by omega) h151)) (by kernel_rfl)) rfl (fun ac A170 => ?_)
        refine s_one (.bool true) A170 S164 (g_assign (by kernel_rfl)) rfl (fun ac A171 => ?_)
        refine wpList_nil ?_
        refine n_then ?_
        refine wp_ret ?_
        refine fin1 (.bool true) Try.results7 A171 S164 (rv_tmp (by kernel_rfl)) ⟨?_, S164.kp⟩
        rfl

end Go.Proofs.Ytcijkniijomcjaa
