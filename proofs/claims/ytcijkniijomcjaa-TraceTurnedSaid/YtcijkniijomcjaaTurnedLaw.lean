/- The walk of TraceTurned: it returns true. -/
import Derived.Test.YtcijkniijomcjaaMx18
import Derived.Test.YtcijkniijomcjaaArgsF
namespace Go.Proofs.Ytcijkniijomcjaa
open Go.RowKit Go.Cpl

set_option maxRecDepth 100000 in
set_option maxHeartbeats 400000 in
theorem TraceTurned_s (el : Int) (SA : Option Addr) (sn scap : Nat) (sl : List Int) (RA : Option Addr) (rn rcap : Nat) (rl : List Nat) (mo : Int) (nz : Int) (w0 : World) (hsn : sl.length = sn * 2) (hsr : IReads w0 SA sl) (hrn : rl.length = rn) (hrr : FReads w0 RA rl) :
    Calls Try.prog 8 #[.agg #[.int .i64 el, .slice SA sn scap, .slice RA rn rcap, .int .i64 mo], .int .i64 nz] w0 fun e w' => e = .returned (.bool true) ∧ Below w0.heap.size w0 w' := by
  have S0 := St.start w0
  refine enter (n := 106) Try.func8 rfl rfl rfl (fun ac A0 => ?_)
  refine wp_seq ?_
  refine wp_region_lit ?_
  refine s_box (.agg #[.int .i64 el, .slice SA sn scap, .slice RA rn rcap, .int .i64 mo]) A0 S0 (by kernel_rfl) rfl (fun g3 ac wc A1 S2 => ?_)
  replace S2 : St _ (⟨g3, 25, #[.int .i64 el, .slice SA sn scap, .slice RA rn rcap, .int .i64 mo], true⟩ :: _) _ _ := S2
  refine s_one (.bool false) A1 S2 (g_assign (by kernel_rfl)) rfl (fun ac A5 => ?_)
  refine wpList_nil ?_
  refine n_then ?_
  refine wp_seq ?_
  refine wp_seq ?_
  refine wp_region_lit ?_
  refine s_call (fs := #[]) (cp := #[]) (r := []) #[] (.bool true) A5 S2 (awake_any _) Try.call11 (by kernel_rfl) (by kernel_rfl) (by kernel_rfl) rfl (fun ac wc A6 S7 => ?_)
  refine s_one (.bool false) A6 S7 (g_un (u := .bool true) (by kernel_rfl) (fun _ => by kernel_rfl)) rfl (fun ac A9 => ?_)
  refine wpList_nil ?_
  refine n_then ?_
  refine c_f (b := false) A9 (by kernel_rfl) rfl ?_
  refine wp_skip ?_
  refine n_then ?_
  refine wp_seq ?_
  refine wp_seq ?_
  refine wp_region_lit ?_
  refine s_one (.agg #[.int .i64 el, .slice SA sn scap, .slice RA rn rcap, .int .i64 mo]) A9 S7 (g_load (g := g3) (off := 0) 0 (by kernel_rfl) rfl (by kernel_rfl)) rfl (fun ac A10 => ?_)
  refine s_call (fs := #[]) (cp := #[]) (r := [(0, .agg #[.int .i64 el, .slice SA sn scap, .slice RA rn rcap, .int .i64 mo])]) #[.agg #[.int .i64 el, .slice SA sn scap, .slice RA rn rcap, .int .i64 mo]] (.bool ((decide ((sn : Int) ≤ 40)) && (decide ((rn : Int) ≤ 200)))) A10 S7 (few_s el SA sn scap RA rn rcap mo _) Try.call12 (by kernel_rfl) (by kernel_rfl) (by kernel_rfl) rfl (fun ac wc A11 S12 => ?_)
  refine s_one (.bool (!((decide ((sn : Int) ≤ 40)) && (decide ((rn : Int) ≤ 200))))) A11 S12 (g_un (u := .bool ((decide ((sn : Int) ≤ 40)) && (decide ((rn : Int) ≤ 200)))) (by kernel_rfl) (fun _ => by kernel_rfl)) rfl (fun ac A14 => ?_)
  refine wpList_nil ?_
  refine n_then ?_
  refine c_ifb (b := (!((decide ((sn : Int) ≤ 40)) && (decide ((rn : Int) ≤ 200))))) A14 (by kernel_rfl) (fun h15 => ?_) (fun h15 => ?_)
  · have h16 : ((decide ((sn : Int) ≤ 40)) && (decide ((rn : Int) ≤ 200))) = false := Eq.mp (Bool.not_eq_true' _) h15
    refine wp_seq ?_
    refine wp_region_lit ?_
    refine s_one (.bool true) A14 S12 (g_assign (by kernel_rfl)) rfl (fun ac A17 => ?_)
    refine wpList_nil ?_
    refine n_then ?_
    refine wp_ret ?_
    refine r_then ?_
    refine fin1 (.bool true) Try.results8 A17 S12 (rv_tmp (by kernel_rfl)) ⟨?_, S12.kp⟩
    rfl
  · have h18 : ((decide ((sn : Int) ≤ 40)) && (decide ((rn : Int) ≤ 200))) = true := Eq.mp (Bool.not_eq_false' _) h15
    have h19 := (Bool.and_eq_true_iff.1 h18).1
    have p20 := of_decide_eq_true h19
    have h21 := (Bool.and_eq_true_iff.1 h18).2
    have p22 := of_decide_eq_true h21
    refine wp_skip ?_
    refine n_then ?_
    refine wp_seq ?_
    refine wp_region_lit ?_
    refine s_one (.agg #[.int .i64 el, .slice SA sn scap, .slice RA rn rcap, .int .i64 mo]) A14 S12 (g_load (g := g3) (off := 0) 0 (by kernel_rfl) rfl (by kernel_rfl)) rfl (fun ac A23 => ?_)
    refine s_callRY (T := List Nat) (p := fun u => u.length ≤ 600) (m := fun u => u.length) (xs := fun u => (rowF u)) (fs := #[]) (cp := #[]) (r := [(0, .agg #[.int .i64 el, .slice SA sn scap, .slice RA rn rcap, .int .i64 mo])]) (fun v => .agg #[.int .i64 el, v]) #[.agg #[.int .i64 el, .slice SA sn scap, .slice RA rn rcap, .int .i64 mo]] A23 S12 (Matrix_s el SA sn scap sl RA rn rcap rl mo _ hsn (hsr.kept S12.kp) hrn (hrr.kept S12.kp) (by omega) (by omega)) Try.call13 (by kernel_rfl) (by kernel_rfl) (by kernel_rfl) rfl (fun ys28 hu29 v27 ac wc A24 S25 => ?_)
    obtain ⟨hl30, A31, cap32, rfl, hc33, hr34⟩ := rowF_reads (v := v27) (m := ys28.length) (l := ys28) (S25.row 0 rfl)
    refine s_alloc (#[.int .i64 0, .slice none 0 0]) A24 S25 (by kernel_rfl) rfl (fun g37 ac wc A35 S36 => ?_)
    refine s_store (g := g37) (off := 0) (v := .agg #[.int .i64 el, .slice A31 ys28.length cap32]) 0 (#[.int .i64 el, .slice A31 ys28.length cap32]) A35 S36 (by kernel_rfl) (by kernel_rfl) rfl (by kernel_rfl) (fun wc S39 => ?_)
    refine wpList_nil ?_
    refine n_then ?_
    refine wp_seq ?_
    refine wp_region_lit ?_
    refine s_one (.agg #[.int .i64 el, .slice A31 ys28.length cap32]) A35 S39 (g_load (g := g37) (off := 0) 0 (by kernel_rfl) rfl (by kernel_rfl)) rfl (fun ac A41 => ?_)
    refine s_callRF (fs := #[]) (cp := #[]) (r := [(0, .agg #[.int .i64 el, .slice A31 ys28.length cap32])]) (fun v => .agg #[.int .i64 el, v]) #[.agg #[.int .i64 el, .slice A31 ys28.length cap32]] A41 S39 (CopyMatrix_s el A31 ys28.length cap32 ys28 _ hl30 (row_fr (S39.row 0 rfl)) (by omega)) Try.call15 (by kernel_rfl) (by kernel_rfl) (by kernel_rfl) rfl (fun v45 ac wc A42 S43 => ?_)
    obtain ⟨hl46, A47, cap48, rfl, hc49, hr50⟩ := rowF_reads (v := v45) (m := ys28.length) (l := ys28) (S43.row 0 rfl)
    have hw54 := trW_le (el := el) hl46
    refine s_callRF (fs := #[]) (cp := #[]) (r := [(0, .agg #[.int .i64 el, .slice A47 ys28.length cap48])]) (fun v => .tuple #[.agg #[.int .i64 (trE el ys28), v], .int .i64 ((mxC el ys28).2)]) #[.agg #[.int .i64 el, .slice A47 ys28.length cap48]] A42 S43 (Transposed_s el A47 ys28.length cap48 ys28 _ hl46 (row_fr (S43.row 0 rfl)) (by omega) (by omega)) Try.call42 (by kernel_rfl) (by kernel_rfl) (by kernel_rfl) rfl (fun v55 ac wc A51 S52 => ?_)
    obtain ⟨hl56, A57, cap58, rfl, hc59, hr60⟩ := rowF_reads (v := v55) (m := (trW el ys28).length) (l := trW el ys28) (S52.row 0 rfl)
    refine s_one (.tuple #[.agg #[.int .i64 (trE el ys28), .slice A57 ((trW el ys28).length) cap58], .int .i64 ((mxC el ys28).2)]) A51 S52 (g_move (by kernel_rfl)) rfl (fun ac A61 => ?_)
    refine s_one (.agg #[.int .i64 (trE el ys28), .slice A57 ((trW el ys28).length) cap58]) A61 S52 (g_extract (u := .tuple #[.agg #[.int .i64 (trE el ys28), .slice A57 ((trW el ys28).length) cap58], .int .i64 ((mxC el ys28).2)]) (by kernel_rfl) (fun _ => by kernel_rfl)) rfl (fun ac A62 => ?_)
    refine s_one (.int .i64 ((mxC el ys28).2)) A62 S52 (g_extract (u := .tuple #[.agg #[.int .i64 (trE el ys28), .slice A57 ((trW el ys28).length) cap58], .int .i64 ((mxC el ys28).2)]) (by kernel_rfl) (fun _ => by kernel_rfl)) rfl (fun ac A63 => ?_)
    refine s_alloc (#[.int .i64 0, .slice none 0 0]) A63 S52 (by kernel_rfl) rfl (fun g66 ac wc A64 S65 => ?_)
    refine s_store (g := g66) (off := 0) (v := .agg #[.int .i64 (trE el ys28), .slice A57 ((trW el ys28).length) cap58]) 0 (#[.int .i64 (trE el ys28), .slice A57 ((trW el ys28).length) cap58]) A64 S65 (by kernel_rfl) (by kernel_rfl) rfl (by kernel_rfl) (fun wc S68 => ?_)
    refine s_one (.int .i64 ((mxC el ys28).2)) A64 S68 (g_assign (by kernel_rfl)) rfl (fun ac A70 => ?_)
    refine wpList_nil ?_
    refine n_then ?_
    refine wp_seq ?_
    refine wp_region_lit ?_
    refine s_one (.agg #[.int .i64 el, .slice A31 ys28.length cap32]) A70 S68 (g_load (g := g37) (off := 0) 1 (by kernel_rfl) rfl (by kernel_rfl)) rfl (fun ac A71 => ?_)
    refine s_callRF (fs := #[]) (cp := #[]) (r := [(0, .agg #[.int .i64 el, .slice A31 ys28.length cap32])]) (fun v => .agg #[.int .i64 el, v]) #[.agg #[.int .i64 el, .slice A31 ys28.length cap32]] A71 S68 (CopyMatrix_s el A31 ys28.length cap32 ys28 _ hl46 (row_fr (S68.row 2 rfl)) (by omega)) Try.call15 (by kernel_rfl) (by kernel_rfl) (by kernel_rfl) rfl (fun v75 ac wc A72 S73 => ?_)
    obtain ⟨hl76, A77, cap78, rfl, hc79, hr80⟩ := rowF_reads (v := v75) (m := ys28.length) (l := ys28) (S73.row 0 rfl)
    refine s_one (.int .i64 nz) A72 S73 (g_move (by kernel_rfl)) rfl (fun ac A81 => ?_)
    have hw85 := unW_le el ys28 nz
    refine s_callRT (u := .int .i64 (unZ el ys28 nz)) (fs := #[]) (cp := #[]) (r := [(0, .agg #[.int .i64 el, .slice A77 ys28.length cap78]), (0, .int .i64 nz)]) #[.agg #[.int .i64 el, .slice A77 ys28.length cap78], .int .i64 nz] A81 S73 (Unlike_s el A77 ys28.length cap78 ys28 nz _ hl76 (row_fr (S73.row 0 rfl)) (by omega) (by omega)) Try.call43 (by kernel_rfl) (by kernel_rfl) (by kernel_rfl) rfl (fun v86 ac wc A82 S83 => ?_)
    obtain ⟨hl87, A88, cap89, rfl, hr90⟩ := rowI_reads2 (v := v86) (size := 2) (m := (unW el ys28 nz).length) (l := flP (unW el ys28 nz)) (S83.row 0 rfl)
    refine s_one (.tuple #[.slice A88 ((unW el ys28 nz).length) cap89, .int .i64 (unZ el ys28 nz)]) A82 S83 (g_move (by kernel_rfl)) rfl (fun ac A91 => ?_)
    refine s_one (.slice A88 ((unW el ys28 nz).length) cap89) A91 S83 (g_extract (u := .tuple #[.slice A88 ((unW el ys28 nz).length) cap89, .int .i64 (unZ el ys28 nz)]) (by kernel_rfl) (fun _ => by kernel_rfl)) rfl (fun ac A92 => ?_)
    refine s_one (.int .i64 (unZ el ys28 nz)) A92 S83 (g_extract (u := .tuple #[.slice A88 ((unW el ys28 nz).length) cap89, .int .i64 (unZ el ys28 nz)]) (by kernel_rfl) (fun _ => by kernel_rfl)) rfl (fun ac A93 => ?_)
    refine s_one (.slice A88 ((unW el ys28 nz).length) cap89) A93 S83 (g_assign (by kernel_rfl)) rfl (fun ac A94 => ?_)
    refine s_one (.int .i64 (unZ el ys28 nz)) A94 S83 (g_assign (by kernel_rfl)) rfl (fun ac A95 => ?_)
    refine wpList_nil ?_
    refine n_then ?_
    refine wp_seq ?_
    refine wp_region_lit ?_
    refine s_one (.agg #[.int .i64 el, .slice A31 ys28.length cap32]) A95 S83 (g_load (g := g37) (off := 0) 1 (by kernel_rfl) rfl (by kernel_rfl)) rfl (fun ac A96 => ?_)
    refine s_call (fs := #[]) (cp := #[]) (r := [(0, .agg #[.int .i64 el, .slice A31 ys28.length cap32])]) #[.agg #[.int .i64 el, .slice A31 ys28.length cap32]] (.int .i64 ((mxC el ys28).2)) A96 S83 (err_s el A31 ys28.length cap32 ys28 _ hl76 (row_fr (S83.row 4 rfl)) (by omega)) Try.call23 (by kernel_rfl) (by kernel_rfl) (by kernel_rfl) rfl (fun ac wc A97 S98 => ?_)
    refine s_one (.int .i64 ((mxC el ys28).2)) A97 S98 (g_assign (by kernel_rfl)) rfl (fun ac A100 => ?_)
    refine wpList_nil ?_
    refine n_then ?_
    refine wp_seq ?_
    refine wp_seq ?_
    refine wp_region_lit ?_
    refine s_one (.int .i64 ((mxC el ys28).2)) A100 S98 (g_move (by kernel_rfl)) rfl (fun ac A101 => ?_)
    refine s_one (.bool (decide ((mxC el ys28).2 ≠ 0))) A101 S98 (g_bin (u := .int .i64 ((mxC el ys28).2)) (k := .int .i64 0) (by kernel_rfl) (by kernel_rfl) (fun _ => by kernel_rfl) b_neq) rfl (fun ac A102 => ?_)
    refine wpList_nil ?_
    refine n_then ?_
    refine c_ifb (b := (decide ((mxC el ys28).2 ≠ 0))) A102 (by kernel_rfl) (fun h103 => ?_) (fun h103 => ?_)
    · have p104 := of_decide_eq_true h103
      refine wp_seq ?_
      refine wp_region_lit ?_
      refine s_one (.agg #[.int .i64 (trE el ys28), .slice A57 ((trW el ys28).length) cap58]) A102 S98 (g_load (g := g66) (off := 0) 0 (by kernel_rfl) rfl (by kernel_rfl)) rfl (fun ac A105 => ?_)
      refine s_one (.int .i64 ((mxC el ys28).2)) A105 S98 (g_move (by kernel_rfl)) rfl (fun ac A106 => ?_)
      refine s_one (.agg #[.int .i64 0, .slice none 0 0]) A106 S98 (g_build (r := []) (by kernel_rfl) (fun _ => by kernel_rfl)) rfl (fun ac A107 => ?_)
      refine s_one (.int .i64 ((mxC el ys28).2)) A107 S98 (g_move (by kernel_rfl)) rfl (fun ac A108 => ?_)
      refine s_call (fs := #[]) (cp := #[]) (r := [(0, .agg #[.int .i64 (trE el ys28), .slice A57 ((trW el ys28).length) cap58]), (0, .int .i64 ((mxC el ys28).2)), (0, .agg #[.int .i64 0, .slice none 0 0]), (0, .int .i64 ((mxC el ys28).2))]) #[.agg #[.int .i64 (trE el ys28), .slice A57 ((trW el ys28).length) cap58], .int .i64 ((mxC el ys28).2), .agg #[.int .i64 0, .slice none 0 0], .int .i64 ((mxC el ys28).2)] (.bool true) A108 S98 (same_eq ((mxC el ys28).2) ((mxC el ys28).2) rfl (trE el ys28) 0 (if_neg p104) (trW el ys28) ([]) (if_neg p104) A57 none cap58 0 ((trW el ys28).length) 0 _ hl56 rfl (len_bd (ys := []) (m := 0) (if_neg p104) hl56 rfl (by omega)) (row_fr (S98.row 2 rfl)) FReads.nil) Try.call26 (by kernel_rfl) (by kernel_rfl) (by kernel_rfl) rfl (fun ac wc A109 S110 => ?_)
      refine s_one (.bool true) A109 S110 (g_move (by kernel_rfl)) rfl (fun ac A112 => ?_)
      refine s_want (dj := 44) (b := true) A112 (by kernel_rfl) (by kernel_rfl) rfl ?_
      refine s_one (.int .i64 (unZ el ys28 nz)) A112 S110 (g_move (by kernel_rfl)) rfl (fun ac A113 => ?_)
      refine s_want (dj := 44) (b := true) A113 (by kernel_rfl) (by kernel_rfl) rfl ?_
      refine s_one (.int .i64 ((mxC el ys28).2)) A113 S110 (g_move (by kernel_rfl)) rfl (fun ac A114 => ?_)
      refine s_want (dj := 44) (b := true) A114 (by kernel_rfl) (by kernel_rfl) rfl ?_
      refine s_one (.bool (decide (unZ el ys28 nz = (mxC el ys28).2))) A114 S110 (g_bin (u := .int .i64 (unZ el ys28 nz)) (k := .int .i64 ((mxC el ys28).2)) (by kernel_rfl) (by kernel_rfl) (fun _ => by kernel_rfl) b_eql) rfl (fun ac A115 => ?_)
      refine s_one (.bool (decide (unZ el ys28 nz = (mxC el ys28).2))) A115 S110 (g_pick_t (b := true) (by kernel_rfl) rfl (by kernel_rfl)) rfl (fun ac A116 => ?_)
      refine s_one (.bool (decide (unZ el ys28 nz = (mxC el ys28).2))) A116 S110 (g_move (by kernel_rfl)) rfl (fun ac A117 => ?_)
      refine s_want (dj := 49) (b := (decide (unZ el ys28 nz = (mxC el ys28).2))) A117 (by kernel_rfl) (by kernel_rfl) (decide_eq_true (unZ_n p104)) ?_
      refine s_one (.slice A88 ((unW el ys28 nz).length) cap89) A117 S110 (g_move (by kernel_rfl)) rfl (fun ac A118 => ?_)
      refine s_want (dj := 49) (b := (decide (unZ el ys28 nz = (mxC el ys28).2))) A118 (by kernel_rfl) (by kernel_rfl) (decide_eq_true (unZ_n p104)) ?_
      refine s_one (.int .i64 ((unW el ys28 nz).length : Int)) A118 S110 (g_built (r := [(0, .slice A88 ((unW el ys28 nz).length) cap89)]) (by kernel_rfl) (fun _ _ _ => by kernel_rfl)) rfl (fun ac A119 => ?_)
      refine s_want (dj := 49) (b := (decide (unZ el ys28 nz = (mxC el ys28).2))) A119 (by kernel_rfl) (by kernel_rfl) (decide_eq_true (unZ_n p104)) ?_
      refine s_one (.bool (decide (((unW el ys28 nz).length : Int) = 0))) A119 S110 (g_bin (u := .int .i64 ((unW el ys28 nz).length : Int)) (k := .int .i64 0) (by kernel_rfl) (by kernel_rfl) (fun _ => by kernel_rfl) b_eql) rfl (fun ac A120 => ?_)
      refine s_one (.bool (decide (((unW el ys28 nz).length : Int) = 0))) A120 S110 (g_pick_t (b := (decide (unZ el ys28 nz = (mxC el ys28).2))) (by kernel_rfl) (decide_eq_true (unZ_n p104)) (by kernel_rfl)) rfl (fun ac A121 => ?_)
      refine s_one (.bool (decide (((unW el ys28 nz).length : Int) = 0))) A121 S110 (g_assign (by kernel_rfl)) rfl (fun ac A122 => ?_)
      refine wpList_nil ?_
      refine n_then ?_
      refine wp_ret ?_
      refine r_then ?_
      refine fin1 (.bool (decide (((unW el ys28 nz).length : Int) = 0))) Try.results8 A122 S110 (rv_tmp (by kernel_rfl)) ⟨?_, S110.kp⟩
      exact congrArg (fun b => Ending.returned (Value.bool b)) (decide_eq_true (by rw [unW_n p104]; rfl))
    · have p123 := of_decide_eq_false h103
      have hz0 : (mxC el ys28).2 = 0 := by omega
      refine wp_skip ?_
      refine n_then ?_
      refine wp_seq ?_
      refine wp_seq ?_
      refine r_begin (w0 := w0) (by kernel_rfl) (S98.sub sub_all sub_all) (fun wc T124 B125 => ?_)
      have S126 := S98.kept B125
      refine r_take 0 (.agg #[.int .i64 (trE el ys28), .slice A57 ((trW el ys28).length) cap58]) A102 T124 (g_load (g := g66) (off := 0) 0 (by kernel_rfl) rfl (by kernel_rfl)) rfl rfl rfl (pf_then (pf_then pf_body)) (by kernel_rfl) (fun ac A127 => ?_)
      refine r_take 1 (.int .i64 ((mxC el ys28).2)) A127 T124 (g_move (by kernel_rfl)) rfl rfl rfl (pf_then (pf_then pf_body)) (by kernel_rfl) (fun ac A128 => ?_)
      refine r_take 2 (.agg #[.int .i64 el, .slice A31 ys28.length cap32]) A128 T124 (g_load (g := g37) (off := 0) 1 (by kernel_rfl) rfl (by kernel_rfl)) rfl rfl rfl (pf_then (pf_then pf_body)) (by kernel_rfl) (fun ac A129 => ?_)
      refine r_1 (i := 3) (by kernel_rfl) ?_
      refine rs_callRF (fs := #[]) (cp := #[]) (r := [(0, .agg #[.int .i64 el, .slice A31 ys28.length cap32])]) (fun v => .agg #[.int .i64 el, v]) #[.agg #[.int .i64 el, .slice A31 ys28.length cap32]] A129 S126 sub_all sub_all (refTransposed_s el A31 ys28.length cap32 ys28 _ hl76 (row_fr (S126.row 4 rfl)) (by omega) hz0) Try.call44 rfl rfl (by kernel_rfl) (by kernel_rfl) (by kernel_rfl) rfl (fun v134 ac wc A130 S131 => ?_)
      obtain ⟨hl135, A136, cap137, rfl, hc138, hr139⟩ := rowF_reads (v := v134) (m := (trW el ys28).length) (l := trW el ys28) (S131.row 0 rfl)
      have T133 := S131.sub sub_all (sub_skip sub_all)
      refine r_1 (i := 4) (by kernel_rfl) ?_
      refine rs_call (fs := #[]) (cp := #[]) (r := [(0, .agg #[.int .i64 (trE el ys28), .slice A57 ((trW el ys28).length) cap58]), (0, .int .i64 ((mxC el ys28).2)), (0, .agg #[.int .i64 el, .slice A136 ((trW el ys28).length) cap137]), (0, .int .i64 0)]) #[.agg #[.int .i64 (trE el ys28), .slice A57 ((trW el ys28).length) cap58], .int .i64 ((mxC el ys28).2), .agg #[.int .i64 el, .slice A136 ((trW el ys28).length) cap137], .int .i64 0] (.bool true) A130 S131 sub_all (sub_skip sub_all) (same_eq ((mxC el ys28).2) 0 hz0 (trE el ys28) el (trE_ok hz0) (trW el ys28) (trW el ys28) rfl A57 A136 cap58 cap137 ((trW el ys28).length) ((trW el ys28).length) _ hl135 hl135 (by omega) (row_fr (S131.row 3 rfl)) (row_fr (S131.row 0 rfl))) Try.call26 rfl rfl (by kernel_rfl) (by kernel_rfl) (by kernel_rfl) rfl (fun ac wc A140 S141 => ?_)
      have T143 := S141.sub sub_all (sub_skip sub_all)
      refine r_take 5 (.bool false) A140 T143 (g_un (u := .bool true) (by kernel_rfl) (fun _ => by kernel_rfl)) rfl rfl rfl (pf_then (pf_then pf_body)) (by kernel_rfl) (fun ac A144 => ?_)
      refine r_done (by kernel_rfl) ?_
      refine n_then ?_
      refine c_f (b := false) A144 (by kernel_rfl) rfl ?_
      refine wp_skip ?_
      refine n_then ?_
      refine wp_seq ?_
      refine wp_seq ?_
      refine wp_region_lit ?_
      refine s_one (.int .i64 nz) A144 S141 (g_move (by kernel_rfl)) rfl (fun ac A145 => ?_)
      refine s_call (fs := #[]) (cp := #[]) (r := [(0, .int .i64 nz), (0, .int .i64 0), (0, .int .i64 4094)]) #[.int .i64 nz, .int .i64 0, .int .i64 4094] (.bool (inB nz 0 4094)) A145 S141 (sameB (Within_any nz 0 4094 _)) Try.call39 (by kernel_rfl) (by kernel_rfl) (by kernel_rfl) rfl (fun ac wc A146 S147 => ?_)
      refine s_one (.bool (!(inB nz 0 4094))) A146 S147 (g_un (u := .bool (inB nz 0 4094)) (by kernel_rfl) (fun _ => by kernel_rfl)) rfl (fun ac A149 => ?_)
      refine wpList_nil ?_
      refine n_then ?_
      refine c_ifb (b := (!(inB nz 0 4094))) A149 (by kernel_rfl) (fun h150 => ?_) (fun h150 => ?_)
      · have h151 : inB nz 0 4094 = false := by simpa using h150
        refine wp_seq ?_
        refine wp_region_lit ?_
        refine s_one (.int .i64 (unZ el ys28 nz)) A149 S147 (g_move (by kernel_rfl)) rfl (fun ac A152 => ?_)
        refine s_one (.bool (decide (unZ el ys28 nz = 2))) A152 S147 (g_bin (u := .int .i64 (unZ el ys28 nz)) (k := .int .i64 2) (by kernel_rfl) (by kernel_rfl) (fun _ => by kernel_rfl) b_eql) rfl (fun ac A153 => ?_)
        refine s_one (.bool (decide (unZ el ys28 nz = 2))) A153 S147 (g_move (by kernel_rfl)) rfl (fun ac A154 => ?_)
        refine s_want (dj := 65) (b := (decide (unZ el ys28 nz = 2))) A154 (by kernel_rfl) (by kernel_rfl) (decide_eq_true (unZ_r hz0 h151)) ?_
        refine s_one (.slice A88 ((unW el ys28 nz).length) cap89) A154 S147 (g_move (by kernel_rfl)) rfl (fun ac A155 => ?_)
        refine s_want (dj := 65) (b := (decide (unZ el ys28 nz = 2))) A155 (by kernel_rfl) (by kernel_rfl) (decide_eq_true (unZ_r hz0 h151)) ?_
        refine s_one (.int .i64 ((unW el ys28 nz).length : Int)) A155 S147 (g_built (r := [(0, .slice A88 ((unW el ys28 nz).length) cap89)]) (by kernel_rfl) (fun _ _ _ => by kernel_rfl)) rfl (fun ac A156 => ?_)
        refine s_want (dj := 65) (b := (decide (unZ el ys28 nz = 2))) A156 (by kernel_rfl) (by kernel_rfl) (decide_eq_true (unZ_r hz0 h151)) ?_
        refine s_one (.bool (decide (((unW el ys28 nz).length : Int) = 0))) A156 S147 (g_bin (u := .int .i64 ((unW el ys28 nz).length : Int)) (k := .int .i64 0) (by kernel_rfl) (by kernel_rfl) (fun _ => by kernel_rfl) b_eql) rfl (fun ac A157 => ?_)
        refine s_one (.bool (decide (((unW el ys28 nz).length : Int) = 0))) A157 S147 (g_pick_t (b := (decide (unZ el ys28 nz = 2))) (by kernel_rfl) (decide_eq_true (unZ_r hz0 h151)) (by kernel_rfl)) rfl (fun ac A158 => ?_)
        refine s_one (.bool (decide (((unW el ys28 nz).length : Int) = 0))) A158 S147 (g_assign (by kernel_rfl)) rfl (fun ac A159 => ?_)
        refine wpList_nil ?_
        refine n_then ?_
        refine wp_ret ?_
        refine r_then ?_
        refine fin1 (.bool (decide (((unW el ys28 nz).length : Int) = 0))) Try.results8 A159 S147 (rv_tmp (by kernel_rfl)) ⟨?_, S147.kp⟩
        exact congrArg (fun b => Ending.returned (Value.bool b)) (decide_eq_true (by rw [unW_r h151]; rfl))
      · have h160 : inB nz 0 4094 = true := by simpa using h150
        refine wp_skip ?_
        refine n_then ?_
        refine wp_seq ?_
        refine wp_seq ?_
        refine wp_region_lit ?_
        refine s_one (.int .i64 (unZ el ys28 nz)) A149 S147 (g_move (by kernel_rfl)) rfl (fun ac A161 => ?_)
        refine s_one (.bool (decide (unZ el ys28 nz ≠ 0))) A161 S147 (g_bin (u := .int .i64 (unZ el ys28 nz)) (k := .int .i64 0) (by kernel_rfl) (by kernel_rfl) (fun _ => by kernel_rfl) b_neq) rfl (fun ac A162 => ?_)
        refine s_one (.bool (decide (unZ el ys28 nz ≠ 0))) A162 S147 (g_move (by kernel_rfl)) rfl (fun ac A163 => ?_)
        refine s_want (dj := 72) (b := (decide (unZ el ys28 nz ≠ 0))) A163 (by kernel_rfl) (by kernel_rfl) (decide_eq_false (fun h => h (unZ_y hz0 h160))) ?_
        refine s_one (.slice A88 ((unW el ys28 nz).length) cap89) A163 S147 (g_move (by kernel_rfl)) rfl (fun ac A164 => ?_)
        refine s_want (dj := 72) (b := (decide (unZ el ys28 nz ≠ 0))) A164 (by kernel_rfl) (by kernel_rfl) (decide_eq_false (fun h => h (unZ_y hz0 h160))) ?_
        refine s_one (.agg #[.int .i64 el, .slice A31 ys28.length cap32]) A164 S147 (g_load (g := g37) (off := 0) 1 (by kernel_rfl) rfl (by kernel_rfl)) rfl (fun ac A165 => ?_)
        refine s_want (dj := 72) (b := (decide (unZ el ys28 nz ≠ 0))) A165 (by kernel_rfl) (by kernel_rfl) (decide_eq_false (fun h => h (unZ_y hz0 h160))) ?_
        refine s_one (.int .i64 nz) A165 S147 (g_move (by kernel_rfl)) rfl (fun ac A166 => ?_)
        refine s_want (dj := 72) (b := (decide (unZ el ys28 nz ≠ 0))) A166 (by kernel_rfl) (by kernel_rfl) (decide_eq_false (fun h => h (unZ_y hz0 h160))) ?_
        have hw170 := unW_le el ys28 nz
        refine s_callR (fs := #[]) (cp := #[]) (r := [(0, .agg #[.int .i64 el, .slice A31 ys28.length cap32]), (0, .int .i64 nz)]) #[.agg #[.int .i64 el, .slice A31 ys28.length cap32], .int .i64 nz] A166 S147 (refUnlike_s el A31 ys28.length cap32 ys28 nz _ hl76 (row_fr (S147.row 5 rfl)) (by omega) hz0 h160) Try.call45 (by kernel_rfl) (by kernel_rfl) (by kernel_rfl) rfl (fun v171 ac wc A167 S168 => ?_)
        refine s_want (dj := 72) (b := (decide (unZ el ys28 nz ≠ 0))) A167 (by kernel_rfl) (by kernel_rfl) (decide_eq_false (fun h => h (unZ_y hz0 h160))) ?_
        obtain ⟨hl175, A176, cap177, rfl, hr178⟩ := rowI_reads2 (v := v171) (size := 2) (m := (unW el ys28 nz).length) (l := flP (unW el ys28 nz)) (S168.row 0 rfl)
        refine s_call (fs := #[]) (cp := #[]) (r := [(0, .slice A88 ((unW el ys28 nz).length) cap89), (0, .slice A176 ((unW el ys28 nz).length) cap177)]) #[.slice A88 ((unW el ys28 nz).length) cap89, .slice A176 ((unW el ys28 nz).length) cap177] (.bool true) A167 S168 (pairs_eq (flP (unW el ys28 nz)) (flP (unW el ys28 nz)) rfl A88 A176 cap89 cap177 ((unW el ys28 nz).length) ((unW el ys28 nz).length) _ (by have hlen := hl175; omega) (by have hlen := hl175; omega) (Nat.le_trans (unW_le _ _ nz) (by decide)) (row_ir (S168.row 2 rfl)) (row_ir (S168.row 0 rfl))) Try.call37 (by kernel_rfl) (by kernel_rfl) (by kernel_rfl) rfl (fun ac wc A172 S173 => ?_)
        refine s_want (dj := 72) (b := (decide (unZ el ys28 nz ≠ 0))) A172 (by kernel_rfl) (by kernel_rfl) (decide_eq_false (fun h => h (unZ_y hz0 h160))) ?_
        refine s_one (.bool false) A172 S173 (g_un (u := .bool true) (by kernel_rfl) (fun _ => by kernel_rfl)) rfl (fun ac A179 => ?_)
        refine s_one (.bool false) A179 S173 (g_pick_f (b := (decide (unZ el ys28 nz ≠ 0))) (by kernel_rfl) (decide_eq_false (fun h => h (unZ_y hz0 h160))) (by kernel_rfl)) rfl (fun ac A180 => ?_)
        refine wpList_nil ?_
        refine n_then ?_
        refine c_f (b := false) A180 (by kernel_rfl) rfl ?_
        refine wp_skip ?_
        refine n_then ?_
        refine wp_seq ?_
        refine wp_region_lit ?_
        refine s_one (.agg #[.int .i64 (trE el ys28), .slice A57 ((trW el ys28).length) cap58]) A180 S173 (g_load (g := g66) (off := 0) 0 (by kernel_rfl) rfl (by kernel_rfl)) rfl (fun ac A181 => ?_)
        refine s_callRF (fs := #[]) (cp := #[]) (r := [(0, .agg #[.int .i64 (trE el ys28), .slice A57 ((trW el ys28).length) cap58])]) (fun v => .agg #[.int .i64 (trE el ys28), v]) #[.agg #[.int .i64 (trE el ys28), .slice A57 ((trW el ys28).length) cap58]] A181 S173 (CopyMatrix_s (trE el ys28) A57 ((trW el ys28).length) cap58 (trW el ys28) _ hl135 (row_fr (S173.row 4 rfl)) (by omega)) Try.call15 (by kernel_rfl) (by kernel_rfl) (by kernel_rfl) rfl (fun v185 ac wc A182 S183 => ?_)
        obtain ⟨hl186, A187, cap188, rfl, hc189, hr190⟩ := rowF_reads (v := v185) (m := ((trW el ys28).length)) (l := trW el ys28) (S183.row 0 rfl)
        have hw194 := trW_le (el := trE el ys28) hl186
        refine s_callRF (fs := #[]) (cp := #[]) (r := [(0, .agg #[.int .i64 (trE el ys28), .slice A187 ((trW el ys28).length) cap188])]) (fun v => .tuple #[.agg #[.int .i64 (trE (trE el ys28) (trW el ys28)), v], .int .i64 ((mxC (trE el ys28) (trW el ys28)).2)]) #[.agg #[.int .i64 (trE el ys28), .slice A187 ((trW el ys28).length) cap188]] A182 S183 (Transposed_s (trE el ys28) A187 ((trW el ys28).length) cap188 (trW el ys28) _ hl186 (row_fr (S183.row 0 rfl)) (by omega) (by omega)) Try.call42 (by kernel_rfl) (by kernel_rfl) (by kernel_rfl) rfl (fun v195 ac wc A191 S192 => ?_)
        obtain ⟨hl196, A197, cap198, rfl, hc199, hr200⟩ := rowF_reads (v := v195) (m := (trW (trE el ys28) (trW el ys28)).length) (l := trW (trE el ys28) (trW el ys28)) (S192.row 0 rfl)
        refine s_one (.tuple #[.agg #[.int .i64 (trE (trE el ys28) (trW el ys28)), .slice A197 ((trW (trE el ys28) (trW el ys28)).length) cap198], .int .i64 ((mxC (trE el ys28) (trW el ys28)).2)]) A191 S192 (g_move (by kernel_rfl)) rfl (fun ac A201 => ?_)
        refine s_one (.agg #[.int .i64 (trE (trE el ys28) (trW el ys28)), .slice A197 ((trW (trE el ys28) (trW el ys28)).length) cap198]) A201 S192 (g_extract (u := .tuple #[.agg #[.int .i64 (trE (trE el ys28) (trW el ys28)), .slice A197 ((trW (trE el ys28) (trW el ys28)).length) cap198], .int .i64 ((mxC (trE el ys28) (trW el ys28)).2)]) (by kernel_rfl) (fun _ => by kernel_rfl)) rfl (fun ac A202 => ?_)
        refine s_one (.int .i64 ((mxC (trE el ys28) (trW el ys28)).2)) A202 S192 (g_extract (u := .tuple #[.agg #[.int .i64 (trE (trE el ys28) (trW el ys28)), .slice A197 ((trW (trE el ys28) (trW el ys28)).length) cap198], .int .i64 ((mxC (trE el ys28) (trW el ys28)).2)]) (by kernel_rfl) (fun _ => by kernel_rfl)) rfl (fun ac A203 => ?_)
        refine s_alloc (#[.int .i64 0, .slice none 0 0]) A203 S192 (by kernel_rfl) rfl (fun g206 ac wc A204 S205 => ?_)
        refine s_store (g := g206) (off := 0) (v := .agg #[.int .i64 (trE (trE el ys28) (trW el ys28)), .slice A197 ((trW (trE el ys28) (trW el ys28)).length) cap198]) 0 (#[.int .i64 (trE (trE el ys28) (trW el ys28)), .slice A197 ((trW (trE el ys28) (trW el ys28)).length) cap198]) A204 S205 (by kernel_rfl) (by kernel_rfl) rfl (by kernel_rfl) (fun wc S208 => ?_)
        refine s_one (.int .i64 ((mxC (trE el ys28) (trW el ys28)).2)) A204 S208 (g_assign (by kernel_rfl)) rfl (fun ac A210 => ?_)
        refine wpList_nil ?_
        refine n_then ?_
        refine wp_seq ?_
        refine wp_region_lit ?_
        refine s_one (.agg #[.int .i64 (trE el ys28), .slice A57 ((trW el ys28).length) cap58]) A210 S208 (g_load (g := g66) (off := 0) 1 (by kernel_rfl) rfl (by kernel_rfl)) rfl (fun ac A211 => ?_)
        refine s_one (.int .i64 nz) A211 S208 (g_move (by kernel_rfl)) rfl (fun ac A212 => ?_)
        have hw216 := unW_le (trE el ys28) (trW el ys28) nz
        refine s_callRT (u := .int .i64 (unZ (trE el ys28) (trW el ys28) nz)) (fs := #[]) (cp := #[]) (r := [(0, .agg #[.int .i64 (trE el ys28), .slice A57 ((trW el ys28).length) cap58]), (0, .int .i64 nz)]) #[.agg #[.int .i64 (trE el ys28), .slice A57 ((trW el ys28).length) cap58], .int .i64 nz] A212 S208 (Unlike_s (trE el ys28) A57 ((trW el ys28).length) cap58 (trW el ys28) nz _ hl186 (row_fr (S208.row 6 rfl)) (by omega) (by omega)) Try.call43 (by kernel_rfl) (by kernel_rfl) (by kernel_rfl) rfl (fun v217 ac wc A213 S214 => ?_)
        obtain ⟨hl218, A219, cap220, rfl, hr221⟩ := rowI_reads2 (v := v217) (size := 2) (m := (unW (trE el ys28) (trW el ys28) nz).length) (l := flP (unW (trE el ys28) (trW el ys28) nz)) (S214.row 0 rfl)
        refine s_one (.tuple #[.slice A219 ((unW (trE el ys28) (trW el ys28) nz).length) cap220, .int .i64 (unZ (trE el ys28) (trW el ys28) nz)]) A213 S214 (g_move (by kernel_rfl)) rfl (fun ac A222 => ?_)
        refine s_one (.slice A219 ((unW (trE el ys28) (trW el ys28) nz).length) cap220) A222 S214 (g_extract (u := .tuple #[.slice A219 ((unW (trE el ys28) (trW el ys28) nz).length) cap220, .int .i64 (unZ (trE el ys28) (trW el ys28) nz)]) (by kernel_rfl) (fun _ => by kernel_rfl)) rfl (fun ac A223 => ?_)
        refine s_one (.int .i64 (unZ (trE el ys28) (trW el ys28) nz)) A223 S214 (g_extract (u := .tuple #[.slice A219 ((unW (trE el ys28) (trW el ys28) nz).length) cap220, .int .i64 (unZ (trE el ys28) (trW el ys28) nz)]) (by kernel_rfl) (fun _ => by kernel_rfl)) rfl (fun ac A224 => ?_)
        refine s_one (.slice A219 ((unW (trE el ys28) (trW el ys28) nz).length) cap220) A224 S214 (g_assign (by kernel_rfl)) rfl (fun ac A225 => ?_)
        refine s_one (.int .i64 (unZ (trE el ys28) (trW el ys28) nz)) A225 S214 (g_assign (by kernel_rfl)) rfl (fun ac A226 => ?_)
        refine wpList_nil ?_
        refine n_then ?_
        refine wp_seq ?_
        refine r_begin (w0 := w0) (by kernel_rfl) (S214.sub sub_all sub_all) (fun wc T227 B228 => ?_)
        have S229 := S214.kept B228
        refine r_take 0 (.agg #[.int .i64 (trE (trE el ys28) (trW el ys28)), .slice A197 ((trW (trE el ys28) (trW el ys28)).length) cap198]) A226 T227 (g_load (g := g206) (off := 0) 0 (by kernel_rfl) rfl (by kernel_rfl)) rfl rfl rfl (pf_then pf_body) (by kernel_rfl) (fun ac A230 => ?_)
        refine r_take 1 (.int .i64 ((mxC (trE el ys28) (trW el ys28)).2)) A230 T227 (g_move (by kernel_rfl)) rfl rfl rfl (pf_then pf_body) (by kernel_rfl) (fun ac A231 => ?_)
        refine r_take 2 (.agg #[.int .i64 el, .slice A31 ys28.length cap32]) A231 T227 (g_load (g := g37) (off := 0) 2 (by kernel_rfl) rfl (by kernel_rfl)) rfl rfl rfl (pf_then pf_body) (by kernel_rfl) (fun ac A232 => ?_)
        refine r_1 (i := 3) (by kernel_rfl) ?_
        have hfm : (fw (mi ys28)).length = ys28.length := (fw_length _).trans ((mi_length _).trans hl76)
        refine rs_callRF (fs := #[]) (cp := #[]) (r := [(0, .agg #[.int .i64 el, .slice A31 ys28.length cap32])]) (fun v => .agg #[.int .i64 el, v]) #[.agg #[.int .i64 el, .slice A31 ys28.length cap32]] A232 S229 sub_all sub_all (Plain_s el A31 ys28.length cap32 ys28 _ hl76 (row_fr (S229.row 9 rfl)) (by omega) (right_of (mxC_0 (by assumption)).2.2)) Try.call27 rfl rfl (by kernel_rfl) (by kernel_rfl) (by kernel_rfl) rfl (fun v237 ac wc A233 S234 => ?_)
        obtain ⟨hl238, A239, cap240, rfl, hc241, hr242⟩ := rowF_reads (v := v237) (m := ys28.length) (l := fw (mi ys28)) (S234.row 0 rfl)
        have T236 := S234.sub sub_all (sub_skip sub_all)
        refine r_1 (i := 4) (by kernel_rfl) ?_
        refine rs_call (fs := #[]) (cp := #[]) (r := [(0, .agg #[.int .i64 (trE (trE el ys28) (trW el ys28)), .slice A197 ((trW (trE el ys28) (trW el ys28)).length) cap198]), (0, .int .i64 ((mxC (trE el ys28) (trW el ys28)).2)), (0, .agg #[.int .i64 el, .slice A239 ys28.length cap240]), (0, .int .i64 0)]) #[.agg #[.int .i64 (trE (trE el ys28) (trW el ys28)), .slice A197 ((trW (trE el ys28) (trW el ys28)).length) cap198], .int .i64 ((mxC (trE el ys28) (trW el ys28)).2), .agg #[.int .i64 el, .slice A239 ys28.length cap240], .int .i64 0] (.bool true) A233 S234 sub_all (sub_skip sub_all) (same_eq ((mxC (trE el ys28) (trW el ys28)).2) 0 (trW_ok hz0) (trE (trE el ys28) (trW el ys28)) el (trE_twice hz0) (trW (trE el ys28) (trW el ys28)) (fw (mi ys28)) (trW_twice hz0) A197 A239 cap198 cap240 ((trW (trE el ys28) (trW el ys28)).length) ys28.length _ hl196 hl238 (len_bd (ys := fw (mi ys28)) (m := ys28.length) (trW_twice hz0) hl196 hl238 (by omega)) (row_fr (S234.row 2 rfl)) (row_fr (S234.row 0 rfl))) Try.call26 rfl rfl (by kernel_rfl) (by kernel_rfl) (by kernel_rfl) rfl (fun ac wc A243 S244 => ?_)
        have T246 := S244.sub sub_all (sub_skip sub_all)
        refine r_take 5 (.bool true) A243 T246 (g_move (by kernel_rfl)) rfl rfl rfl (pf_then pf_body) (by kernel_rfl) (fun ac A247 => ?_)
        refine r_take 6 (.int .i64 (unZ (trE el ys28) (trW el ys28) nz)) A247 T246 (g_move (by kernel_rfl)) rfl (want_t (dj := 97) (b := true) A247 rfl (by kernel_rfl) (by kernel_rfl) rfl) rfl (pf_then pf_body) (by kernel_rfl) (fun ac A248 => ?_)
        refine r_take 7 (.bool (decide (unZ (trE el ys28) (trW el ys28) nz = 0))) A248 T246 (g_bin (u := .int .i64 (unZ (trE el ys28) (trW el ys28) nz)) (k := .int .i64 0) (by kernel_rfl) (by kernel_rfl) (fun _ => by kernel_rfl) b_eql) rfl (want_t (dj := 97) (b := true) A248 rfl (by kernel_rfl) (by kernel_rfl) rfl) rfl (pf_then pf_body) (by kernel_rfl) (fun ac A249 => ?_)
        refine r_take 8 (.bool (decide (unZ (trE el ys28) (trW el ys28) nz = 0))) A249 T246 (g_pick_t (b := true) (by kernel_rfl) rfl (by kernel_rfl)) rfl rfl rfl (pf_then pf_body) (by kernel_rfl) (fun ac A250 => ?_)
        refine r_take 9 (.bool (decide (unZ (trE el ys28) (trW el ys28) nz = 0))) A250 T246 (g_move (by kernel_rfl)) rfl rfl rfl (pf_then pf_body) (by kernel_rfl) (fun ac A251 => ?_)
        refine r_take 10 (.slice A219 ((unW (trE el ys28) (trW el ys28) nz).length) cap220) A251 T246 (g_move (by kernel_rfl)) rfl (want_t (dj := 101) (b := (decide (unZ (trE el ys28) (trW el ys28) nz = 0))) A251 rfl (by kernel_rfl) (by kernel_rfl) (decide_eq_true (unZ_y (trW_ok hz0) h160))) rfl (pf_then pf_body) (by kernel_rfl) (fun ac A252 => ?_)
        refine r_take 11 (.slice A88 ((unW el ys28 nz).length) cap89) A252 T246 (g_move (by kernel_rfl)) rfl (want_t (dj := 101) (b := (decide (unZ (trE el ys28) (trW el ys28) nz = 0))) A252 rfl (by kernel_rfl) (by kernel_rfl) (decide_eq_true (unZ_y (trW_ok hz0) h160))) rfl (pf_then pf_body) (by kernel_rfl) (fun ac A253 => ?_)
        refine r_1 (i := 12) (by kernel_rfl) ?_
        refine rs_call (fs := #[]) (cp := #[]) (r := [(0, .slice A219 ((unW (trE el ys28) (trW el ys28) nz).length) cap220), (0, .slice A88 ((unW el ys28 nz).length) cap89)]) #[.slice A219 ((unW (trE el ys28) (trW el ys28) nz).length) cap220, .slice A88 ((unW el ys28 nz).length) cap89] (.bool true) A253 S244 sub_all (sub_skip sub_all) (pairs_eq (flP (unW (trE el ys28) (trW el ys28) nz)) (flP (unW el ys28 nz)) (congrArg flP (unW_tr hz0)) A219 A88 cap220 cap89 ((unW (trE el ys28) (trW el ys28) nz).length) ((unW el ys28 nz).length) _ (by have hlen := hl218; omega) (by have hlen := hl175; omega) (Nat.le_trans (unW_le _ _ nz) (by decide)) (row_ir (S244.row 1 rfl)) (row_ir (S244.row 6 rfl))) Try.call37 rfl (want_t (dj := 101) (b := (decide (unZ (trE el ys28) (trW el ys28) nz = 0))) A253 rfl (by kernel_rfl) (by kernel_rfl) (decide_eq_true (unZ_y (trW_ok hz0) h160))) (by kernel_rfl) (by kernel_rfl) (by kernel_rfl) rfl (fun ac wc A254 S255 => ?_)
        have T257 := S255.sub sub_all (sub_skip sub_all)
        refine r_take 13 (.bool true) A254 T257 (g_pick_t (b := (decide (unZ (trE el ys28) (trW el ys28) nz = 0))) (by kernel_rfl) (decide_eq_true (unZ_y (trW_ok hz0) h160)) (by kernel_rfl)) rfl rfl rfl (pf_then pf_body) (by kernel_rfl) (fun ac A258 => ?_)
        refine r_take 14 (.bool true) A258 T257 (g_assign (by kernel_rfl)) rfl rfl rfl (pf_then pf_body) (by kernel_rfl) (fun ac A259 => ?_)
        refine r_done (by kernel_rfl) ?_
        refine n_then ?_
        refine wp_ret ?_
        refine fin1 (.bool true) Try.results8 A259 S255 (rv_tmp (by kernel_rfl)) ⟨?_, S255.kp⟩
        rfl

end Go.Proofs.Ytcijkniijomcjaa
