/- The walk of TraceMatrices: it returns true. -/
import Derived.Test.YtcijkniijomcjaaMat4
import Derived.Test.YtcijkniijomcjaaArgsF
namespace Go.Proofs.Ytcijkniijomcjaa
open Go.RowKit Go.Cpl

theorem fo_0 {e f : Int} (h : e = 0) : firstOf [e, f] = f := by subst h; simp only [firstOf, if_true]; split <;> simp_all
theorem fo_1 {e f : Int} (h : e ≠ 0) : firstOf [e, f] = e := by simp only [firstOf, if_neg h]

set_option maxRecDepth 100000 in
set_option maxHeartbeats 400000 in
theorem TraceMatrices_s (el : Int) (SA : Option Addr) (sn scap : Nat) (sl : List Int) (RA : Option Addr) (rn rcap : Nat) (rl : List Nat) (mo : Int) (p q : Int) (w0 : World) (hsn : sl.length = sn * 2) (hsr : IReads w0 SA sl) (hrn : rl.length = rn) (hrr : FReads w0 RA rl) (hel : -9223372036854775808 ≤ el ∧ el ≤ 9223372036854775807) :
    Calls Try.prog 3 #[.agg #[.int .i64 el, .slice SA sn scap, .slice RA rn rcap, .int .i64 mo], .agg #[.int .i64 p, .int .i64 q]] w0 fun e w' => e = .returned (.bool true) ∧ Below w0.heap.size w0 w' := by
  have S0 := St.start w0
  refine enter (n := 69) Try.func3 rfl rfl rfl (fun ac A0 => ?_)
  refine wp_seq ?_
  refine wp_region_lit ?_
  refine s_box (.agg #[.int .i64 el, .slice SA sn scap, .slice RA rn rcap, .int .i64 mo]) A0 S0 (by kernel_rfl) rfl (fun g3 ac wc A1 S2 => ?_)
  replace S2 : St _ (⟨g3, 25, #[.int .i64 el, .slice SA sn scap, .slice RA rn rcap, .int .i64 mo], true⟩ :: _) _ _ := S2
  refine s_box (.agg #[.int .i64 p, .int .i64 q]) A1 S2 (by kernel_rfl) rfl (fun g7 ac wc A5 S6 => ?_)
  replace S6 : St _ (⟨g7, 26, #[.int .i64 p, .int .i64 q], true⟩ :: _) _ _ := S6
  refine s_one (.bool false) A5 S6 (g_assign (by kernel_rfl)) rfl (fun ac A9 => ?_)
  refine wpList_nil ?_
  refine n_then ?_
  refine wp_seq ?_
  refine wp_seq ?_
  refine wp_region_lit ?_
  refine s_call (fs := #[]) (cp := #[]) (r := []) #[] (.bool true) A9 S6 (awake_any _) Try.call11 (by kernel_rfl) (by kernel_rfl) (by kernel_rfl) rfl (fun ac wc A10 S11 => ?_)
  refine s_one (.bool false) A10 S11 (g_un (u := .bool true) (by kernel_rfl) (fun _ => by kernel_rfl)) rfl (fun ac A13 => ?_)
  refine wpList_nil ?_
  refine n_then ?_
  refine c_f (b := false) A13 (by kernel_rfl) rfl ?_
  refine wp_skip ?_
  refine n_then ?_
  refine wp_seq ?_
  refine wp_seq ?_
  refine wp_region_lit ?_
  refine s_one (.agg #[.int .i64 el, .slice SA sn scap, .slice RA rn rcap, .int .i64 mo]) A13 S11 (g_load (g := g3) (off := 0) 1 (by kernel_rfl) rfl (by kernel_rfl)) rfl (fun ac A14 => ?_)
  refine s_call (fs := #[]) (cp := #[]) (r := [(0, .agg #[.int .i64 el, .slice SA sn scap, .slice RA rn rcap, .int .i64 mo])]) #[.agg #[.int .i64 el, .slice SA sn scap, .slice RA rn rcap, .int .i64 mo]] (.bool ((decide ((sn : Int) ≤ 40)) && (decide ((rn : Int) ≤ 200)))) A14 S11 (few_s el SA sn scap RA rn rcap mo _) Try.call12 (by kernel_rfl) (by kernel_rfl) (by kernel_rfl) rfl (fun ac wc A15 S16 => ?_)
  refine s_one (.bool (!((decide ((sn : Int) ≤ 40)) && (decide ((rn : Int) ≤ 200))))) A15 S16 (g_un (u := .bool ((decide ((sn : Int) ≤ 40)) && (decide ((rn : Int) ≤ 200)))) (by kernel_rfl) (fun _ => by kernel_rfl)) rfl (fun ac A18 => ?_)
  refine wpList_nil ?_
  refine n_then ?_
  refine c_ifb (b := (!((decide ((sn : Int) ≤ 40)) && (decide ((rn : Int) ≤ 200))))) A18 (by kernel_rfl) (fun h19 => ?_) (fun h19 => ?_)
  · have h20 : ((decide ((sn : Int) ≤ 40)) && (decide ((rn : Int) ≤ 200))) = false := Eq.mp (Bool.not_eq_true' _) h19
    refine wp_seq ?_
    refine wp_region_lit ?_
    refine s_one (.bool true) A18 S16 (g_assign (by kernel_rfl)) rfl (fun ac A21 => ?_)
    refine wpList_nil ?_
    refine n_then ?_
    refine wp_ret ?_
    refine r_then ?_
    refine fin1 (.bool true) Try.results3 A21 S16 (rv_tmp (by kernel_rfl)) ⟨?_, S16.kp⟩
    rfl
  · have h22 : ((decide ((sn : Int) ≤ 40)) && (decide ((rn : Int) ≤ 200))) = true := Eq.mp (Bool.not_eq_false' _) h19
    have h23 := (Bool.and_eq_true_iff.1 h22).1
    have p24 := of_decide_eq_true h23
    have h25 := (Bool.and_eq_true_iff.1 h22).2
    have p26 := of_decide_eq_true h25
    refine wp_skip ?_
    refine n_then ?_
    refine wp_seq ?_
    refine wp_region_lit ?_
    refine s_one (.agg #[.int .i64 el, .slice SA sn scap, .slice RA rn rcap, .int .i64 mo]) A18 S16 (g_load (g := g3) (off := 0) 1 (by kernel_rfl) rfl (by kernel_rfl)) rfl (fun ac A27 => ?_)
    refine s_callRY (T := List Nat) (p := fun u => u.length ≤ 600) (m := fun u => u.length) (xs := fun u => (rowF u)) (fs := #[]) (cp := #[]) (r := [(0, .agg #[.int .i64 el, .slice SA sn scap, .slice RA rn rcap, .int .i64 mo])]) (fun v => .agg #[.int .i64 el, v]) #[.agg #[.int .i64 el, .slice SA sn scap, .slice RA rn rcap, .int .i64 mo]] A27 S16 (Matrix_s el SA sn scap sl RA rn rcap rl mo _ hsn (hsr.kept S16.kp) hrn (hrr.kept S16.kp) (by omega) (by omega)) Try.call13 (by kernel_rfl) (by kernel_rfl) (by kernel_rfl) rfl (fun ys32 hu33 v31 ac wc A28 S29 => ?_)
    obtain ⟨hl34, A35, cap36, rfl, hc37, hr38⟩ := rowF_reads (v := v31) (m := ys32.length) (l := ys32) (S29.row 0 rfl)
    refine s_alloc (#[.int .i64 0, .slice none 0 0]) A28 S29 (by kernel_rfl) rfl (fun g41 ac wc A39 S40 => ?_)
    refine s_store (g := g41) (off := 0) (v := .agg #[.int .i64 el, .slice A35 ys32.length cap36]) 0 (#[.int .i64 el, .slice A35 ys32.length cap36]) A39 S40 (by kernel_rfl) (by kernel_rfl) rfl (by kernel_rfl) (fun wc S43 => ?_)
    refine wpList_nil ?_
    refine n_then ?_
    refine wp_seq ?_
    refine wp_region_lit ?_
    refine s_one (.agg #[.int .i64 el, .slice A35 ys32.length cap36]) A39 S43 (g_load (g := g41) (off := 0) 0 (by kernel_rfl) rfl (by kernel_rfl)) rfl (fun ac A45 => ?_)
    refine s_callRF (fs := #[]) (cp := #[]) (r := [(0, .agg #[.int .i64 el, .slice A35 ys32.length cap36])]) (fun v => .agg #[.int .i64 el, v]) #[.agg #[.int .i64 el, .slice A35 ys32.length cap36]] A45 S43 (CopyMatrix_s el A35 ys32.length cap36 ys32 _ hl34 (row_fr (S43.row 0 rfl)) (by omega)) Try.call15 (by kernel_rfl) (by kernel_rfl) (by kernel_rfl) rfl (fun v49 ac wc A46 S47 => ?_)
    obtain ⟨hl50, A51, cap52, rfl, hc53, hr54⟩ := rowF_reads (v := v49) (m := ys32.length) (l := ys32) (S47.row 0 rfl)
    refine s_call (fs := #[]) (cp := #[]) (r := [(0, .agg #[.int .i64 el, .slice A51 ys32.length cap52])]) #[.agg #[.int .i64 el, .slice A51 ys32.length cap52]] (.tuple #[.int .i64 ((mxC el ys32).1), .int .i64 ((mxC el ys32).2)]) A46 S47 (CheckMatrix_s el A51 ys32.length cap52 ys32 _ hl50 (row_fr (S47.row 0 rfl)) (by omega)) Try.call14 (by kernel_rfl) (by kernel_rfl) (by kernel_rfl) rfl (fun ac wc A55 S56 => ?_)
    refine s_one (.tuple #[.int .i64 ((mxC el ys32).1), .int .i64 ((mxC el ys32).2)]) A55 S56 (g_move (by kernel_rfl)) rfl (fun ac A58 => ?_)
    refine s_one (.int .i64 ((mxC el ys32).1)) A58 S56 (g_extract (u := .tuple #[.int .i64 ((mxC el ys32).1), .int .i64 ((mxC el ys32).2)]) (by kernel_rfl) (fun _ => by kernel_rfl)) rfl (fun ac A59 => ?_)
    refine s_one (.int .i64 ((mxC el ys32).2)) A59 S56 (g_extract (u := .tuple #[.int .i64 ((mxC el ys32).1), .int .i64 ((mxC el ys32).2)]) (by kernel_rfl) (fun _ => by kernel_rfl)) rfl (fun ac A60 => ?_)
    refine s_one (.int .i64 ((mxC el ys32).1)) A60 S56 (g_assign (by kernel_rfl)) rfl (fun ac A61 => ?_)
    refine s_one (.int .i64 ((mxC el ys32).2)) A61 S56 (g_assign (by kernel_rfl)) rfl (fun ac A62 => ?_)
    refine wpList_nil ?_
    refine n_then ?_
    refine wp_seq ?_
    refine c_cut (fun ac wc => ∃ (g63 : Nat), Fr 69 ac [(0, .agg #[.int .i64 el, .slice SA sn scap, .slice RA rn rcap, .int .i64 mo]), (1, .agg #[.int .i64 p, .int .i64 q]), (2, .pointer (some ⟨g3, 0, none⟩)), (3, .pointer (some ⟨g7, 0, none⟩)), (4, .bool false), (12, .bool true), (13, .bool false), (14, .agg #[.int .i64 el, .slice SA sn scap, .slice RA rn rcap, .int .i64 mo]), (15, .bool ((decide ((sn : Int) ≤ 40)) && (decide ((rn : Int) ≤ 200)))), (16, .bool (!((decide ((sn : Int) ≤ 40)) && (decide ((rn : Int) ≤ 200))))), (17, .agg #[.int .i64 el, .slice SA sn scap, .slice RA rn rcap, .int .i64 mo]), (18, .agg #[.int .i64 el, .slice A35 ys32.length cap36]), (5, .pointer (some ⟨g41, 0, none⟩)), (20, .agg #[.int .i64 el, .slice A35 ys32.length cap36]), (21, .agg #[.int .i64 el, .slice A51 ys32.length cap52]), (22, .tuple #[.int .i64 ((mxC el ys32).1), .int .i64 ((mxC el ys32).2)]), (19, .tuple #[.int .i64 ((mxC el ys32).1), .int .i64 ((mxC el ys32).2)]), (23, .int .i64 ((mxC el ys32).1)), (24, .int .i64 ((mxC el ys32).2)), (6, .int .i64 ((mxC el ys32).1)), (7, .int .i64 ((mxC el ys32).2)), (8, .pointer (some ⟨g63, 0, none⟩)), (9, .int .i64 (firstOf [(mxC el ys32).2, pairE el p q]))] ∧ St w0 [⟨g63, 38, (trc (toF el ys32 p q)), true⟩, ⟨g41, 30, #[.int .i64 el, .slice A35 ys32.length cap36], true⟩, ⟨g7, 26, #[.int .i64 p, .int .i64 q], true⟩, ⟨g3, 25, #[.int .i64 el, .slice SA sn scap, .slice RA rn rcap, .int .i64 mo], true⟩] [⟨.slice A51 ys32.length cap52, 36, 1, ys32.length, (rowF ys32)⟩, ⟨.slice A35 ys32.length cap36, 36, 1, ys32.length, (rowF ys32)⟩] wc) ?_ ?_
    · refine r_begin (w0 := w0) (by kernel_rfl) (S56.sub sub_all sub_all) (fun wc T64 B65 => ?_)
      have S66 := S56.kept B65
      refine r_take 0 (.agg #[.int .i64 el, .slice A35 ys32.length cap36]) A62 T64 (g_load (g := g41) (off := 0) 0 (by kernel_rfl) rfl (by kernel_rfl)) rfl rfl rfl (pf_then (pf_then pf_body)) (by kernel_rfl) (fun ac A67 => ?_)
      refine r_take 2 (.agg #[.int .i64 p, .int .i64 q]) A67 T64 (g_load (g := g7) (off := 0) 1 (by kernel_rfl) rfl (by kernel_rfl)) rfl rfl rfl (pf_then (pf_then pf_body)) (by kernel_rfl) (fun ac A68 => ?_)
      refine r_2 (i := 1) (j := 7) (by kernel_rfl) ?_ ?_
      · refine rs_callRF (fs := #[]) (cp := #[]) (r := [(0, .agg #[.int .i64 el, .slice A35 ys32.length cap36])]) (fun v => .agg #[.int .i64 el, v]) #[.agg #[.int .i64 el, .slice A35 ys32.length cap36]] A68 S66 sub_all sub_all (CopyMatrix_s el A35 ys32.length cap36 ys32 _ hl50 (row_fr (S66.row 1 rfl)) (by omega)) Try.call15 rfl rfl (by kernel_rfl) (by kernel_rfl) (by kernel_rfl) rfl (fun v73 ac wc A69 S70 => ?_)
        obtain ⟨hl74, A75, cap76, rfl, hc77, hr78⟩ := rowF_reads (v := v73) (m := ys32.length) (l := ys32) (S70.row 0 rfl)
        have T72 := S70.sub sub_all (sub_skip sub_all)
        refine r_2 (i := 3) (j := 7) (by kernel_rfl) ?_ ?_
        · refine rs_call (fs := #[]) (cp := #[]) (r := [(0, .agg #[.int .i64 el, .slice A75 ys32.length cap76]), (0, .agg #[.int .i64 p, .int .i64 q])]) #[.agg #[.int .i64 el, .slice A75 ys32.length cap76], .agg #[.int .i64 p, .int .i64 q]] (.tuple #[.agg (trc (toF el ys32 p q)), .int .i64 (firstOf [(mxC el ys32).2, pairE el p q])]) A69 S70 sub_all (sub_skip sub_all) (TraceOf_s el A75 ys32.length cap76 ys32 p q _ hl74 (row_fr (S70.row 0 rfl)) (by omega) (by omega) (by omega)) Try.call16 rfl rfl (by kernel_rfl) (by kernel_rfl) (by kernel_rfl) rfl (fun ac wc A79 S80 => ?_)
          have T82 := S80.sub sub_all (sub_skip sub_all)
          refine r_take 4 (.tuple #[.agg (trc (toF el ys32 p q)), .int .i64 (firstOf [(mxC el ys32).2, pairE el p q])]) A79 T82 (g_move (by kernel_rfl)) rfl rfl rfl (pf_then (pf_then pf_body)) (by kernel_rfl) (fun ac A83 => ?_)
          refine r_take 5 (.agg (trc (toF el ys32 p q))) A83 T82 (g_extract (u := .tuple #[.agg (trc (toF el ys32 p q)), .int .i64 (firstOf [(mxC el ys32).2, pairE el p q])]) (by kernel_rfl) (fun _ => by kernel_rfl)) rfl rfl rfl (pf_then (pf_then pf_body)) (by kernel_rfl) (fun ac A84 => ?_)
          refine r_take 6 (.int .i64 (firstOf [(mxC el ys32).2, pairE el p q])) A84 T82 (g_extract (u := .tuple #[.agg (trc (toF el ys32 p q)), .int .i64 (firstOf [(mxC el ys32).2, pairE el p q])]) (by kernel_rfl) (fun _ => by kernel_rfl)) rfl rfl rfl (pf_then (pf_then pf_body)) (by kernel_rfl) (fun ac A85 => ?_)
          refine r_1 (i := 7) (by kernel_rfl) ?_
          refine rs_alloc (trc zT) A85 S80 sub_all (sub_skip sub_all) zero26 rfl rfl rfl (fun g88 ac wc A86 S87 => ?_)
          have T89 := S87.sub (sub_skip sub_all) (sub_skip sub_all)
          refine r_1 (i := 8) (by kernel_rfl) ?_
          refine rs_store (g := g88) (off := 0) (v := .agg (trc (toF el ys32 p q))) 0 (trc (toF el ys32 p q)) A86 S87 (sub_skip sub_all) (sub_skip sub_all) (by kernel_rfl) (by kernel_rfl) rfl (putVal_whole ((trc_size _).trans zT_length) ((trc_size _).trans (toF_length _ _ _ _)) ⟨⟨_, Try.underlying38, rfl⟩, by kernel_rfl⟩ (trc_one _)) rfl rfl (fun wc S91 => ?_)
          have T93 := S91.sub (sub_skip sub_all) (sub_skip sub_all)
          refine r_take 9 (.int .i64 (firstOf [(mxC el ys32).2, pairE el p q])) A86 T93 (g_assign (by kernel_rfl)) rfl rfl rfl (pf_then (pf_then pf_body)) (by kernel_rfl) (fun ac A94 => ?_)
          refine r_done (by kernel_rfl) ?_
          refine n_then ?_
          exact ⟨g88, (A94.slot (A94.slot (A94.slot (A94.slot (A94.slot (A94.slot (A94.slot (A94.slot (A94.slot (A94.slot (A94.slot (A94.slot (A94.slot (A94.slot (A94.slot (A94.slot (A94.slot (A94.slot (A94.slot (A94.slot (A94.slot (A94.slot (A94.slot A94.nil (v := .int .i64 (firstOf [(mxC el ys32).2, pairE el p q])) (by kernel_rfl) rfl) (v := .pointer (some ⟨g88, 0, none⟩)) (by kernel_rfl) rfl) (v := .int .i64 ((mxC el ys32).2)) (by kernel_rfl) rfl) (v := .int .i64 ((mxC el ys32).1)) (by kernel_rfl) rfl) (v := .int .i64 ((mxC el ys32).2)) (by kernel_rfl) rfl) (v := .int .i64 ((mxC el ys32).1)) (by kernel_rfl) rfl) (v := .tuple #[.int .i64 ((mxC el ys32).1), .int .i64 ((mxC el ys32).2)]) (by kernel_rfl) rfl) (v := .tuple #[.int .i64 ((mxC el ys32).1), .int .i64 ((mxC el ys32).2)]) (by kernel_rfl) rfl) (v := .agg #[.int .i64 el, .slice A51 ys32.length cap52]) (by kernel_rfl) rfl) (v := .agg #[.int .i64 el, .slice A35 ys32.length cap36]) (by kernel_rfl) rfl) (v := .pointer (some ⟨g41, 0, none⟩)) (by kernel_rfl) rfl) (v := .agg #[.int .i64 el, .slice A35 ys32.length cap36]) (by kernel_rfl) rfl) (v := .agg #[.int .i64 el, .slice SA sn scap, .slice RA rn rcap, .int .i64 mo]) (by kernel_rfl) rfl) (v := .bool (!((decide ((sn : Int) ≤ 40)) && (decide ((rn : Int) ≤ 200))))) (by kernel_rfl) rfl) (v := .bool ((decide ((sn : Int) ≤ 40)) && (decide ((rn : Int) ≤ 200)))) (by kernel_rfl) rfl) (v := .agg #[.int .i64 el, .slice SA sn scap, .slice RA rn rcap, .int .i64 mo]) (by kernel_rfl) rfl) (v := .bool false) (by kernel_rfl) rfl) (v := .bool true) (by kernel_rfl) rfl) (v := .bool false) (by kernel_rfl) rfl) (v := .pointer (some ⟨g7, 0, none⟩)) (by kernel_rfl) rfl) (v := .pointer (some ⟨g3, 0, none⟩)) (by kernel_rfl) rfl) (v := .agg #[.int .i64 p, .int .i64 q]) (by kernel_rfl) rfl) (v := .agg #[.int .i64 el, .slice SA sn scap, .slice RA rn rcap, .int .i64 mo]) (by kernel_rfl) rfl), S91.sub sub_all (sub_skip sub_all)⟩
        · refine rs_alloc (trc zT) A69 S70 sub_all (sub_skip sub_all) zero26 rfl rfl rfl (fun g97 ac wc A95 S96 => ?_)
          have T98 := S96.sub (sub_skip sub_all) (sub_skip sub_all)
          refine r_1 (i := 3) (by kernel_rfl) ?_
          refine rs_call (fs := #[]) (cp := #[]) (r := [(0, .agg #[.int .i64 el, .slice A75 ys32.length cap76]), (0, .agg #[.int .i64 p, .int .i64 q])]) #[.agg #[.int .i64 el, .slice A75 ys32.length cap76], .agg #[.int .i64 p, .int .i64 q]] (.tuple #[.agg (trc (toF el ys32 p q)), .int .i64 (firstOf [(mxC el ys32).2, pairE el p q])]) A95 S96 (sub_skip sub_all) (sub_skip sub_all) (TraceOf_s el A75 ys32.length cap76 ys32 p q _ hl74 (row_fr (S96.row 0 rfl)) (by omega) (by omega) (by omega)) Try.call16 rfl rfl (by kernel_rfl) (by kernel_rfl) (by kernel_rfl) rfl (fun ac wc A99 S100 => ?_)
          have T102 := S100.sub (sub_skip sub_all) (sub_skip sub_all)
          refine r_take 4 (.tuple #[.agg (trc (toF el ys32 p q)), .int .i64 (firstOf [(mxC el ys32).2, pairE el p q])]) A99 T102 (g_move (by kernel_rfl)) rfl rfl rfl (pf_then (pf_then pf_body)) (by kernel_rfl) (fun ac A103 => ?_)
          refine r_take 5 (.agg (trc (toF el ys32 p q))) A103 T102 (g_extract (u := .tuple #[.agg (trc (toF el ys32 p q)), .int .i64 (firstOf [(mxC el ys32).2, pairE el p q])]) (by kernel_rfl) (fun _ => by kernel_rfl)) rfl rfl rfl (pf_then (pf_then pf_body)) (by kernel_rfl) (fun ac A104 => ?_)
          refine r_take 6 (.int .i64 (firstOf [(mxC el ys32).2, pairE el p q])) A104 T102 (g_extract (u := .tuple #[.agg (trc (toF el ys32 p q)), .int .i64 (firstOf [(mxC el ys32).2, pairE el p q])]) (by kernel_rfl) (fun _ => by kernel_rfl)) rfl rfl rfl (pf_then (pf_then pf_body)) (by kernel_rfl) (fun ac A105 => ?_)
          refine r_1 (i := 8) (by kernel_rfl) ?_
          refine rs_store (g := g97) (off := 0) (v := .agg (trc (toF el ys32 p q))) 0 (trc (toF el ys32 p q)) A105 S100 (sub_skip sub_all) (sub_skip sub_all) (by kernel_rfl) (by kernel_rfl) rfl (putVal_whole ((trc_size _).trans zT_length) ((trc_size _).trans (toF_length _ _ _ _)) ⟨⟨_, Try.underlying38, rfl⟩, by kernel_rfl⟩ (trc_one _)) rfl rfl (fun wc S107 => ?_)
          have T109 := S107.sub (sub_skip sub_all) (sub_skip sub_all)
          refine r_take 9 (.int .i64 (firstOf [(mxC el ys32).2, pairE el p q])) A105 T109 (g_assign (by kernel_rfl)) rfl rfl rfl (pf_then (pf_then pf_body)) (by kernel_rfl) (fun ac A110 => ?_)
          refine r_done (by kernel_rfl) ?_
          refine n_then ?_
          exact ⟨g97, (A110.slot (A110.slot (A110.slot (A110.slot (A110.slot (A110.slot (A110.slot (A110.slot (A110.slot (A110.slot (A110.slot (A110.slot (A110.slot (A110.slot (A110.slot (A110.slot (A110.slot (A110.slot (A110.slot (A110.slot (A110.slot (A110.slot (A110.slot A110.nil (v := .int .i64 (firstOf [(mxC el ys32).2, pairE el p q])) (by kernel_rfl) rfl) (v := .pointer (some ⟨g97, 0, none⟩)) (by kernel_rfl) rfl) (v := .int .i64 ((mxC el ys32).2)) (by kernel_rfl) rfl) (v := .int .i64 ((mxC el ys32).1)) (by kernel_rfl) rfl) (v := .int .i64 ((mxC el ys32).2)) (by kernel_rfl) rfl) (v := .int .i64 ((mxC el ys32).1)) (by kernel_rfl) rfl) (v := .tuple #[.int .i64 ((mxC el ys32).1), .int .i64 ((mxC el ys32).2)]) (by kernel_rfl) rfl) (v := .tuple #[.int .i64 ((mxC el ys32).1), .int .i64 ((mxC el ys32).2)]) (by kernel_rfl) rfl) (v := .agg #[.int .i64 el, .slice A51 ys32.length cap52]) (by kernel_rfl) rfl) (v := .agg #[.int .i64 el, .slice A35 ys32.length cap36]) (by kernel_rfl) rfl) (v := .pointer (some ⟨g41, 0, none⟩)) (by kernel_rfl) rfl) (v := .agg #[.int .i64 el, .slice A35 ys32.length cap36]) (by kernel_rfl) rfl) (v := .agg #[.int .i64 el, .slice SA sn scap, .slice RA rn rcap, .int .i64 mo]) (by kernel_rfl) rfl) (v := .bool (!((decide ((sn : Int) ≤ 40)) && (decide ((rn : Int) ≤ 200))))) (by kernel_rfl) rfl) (v := .bool ((decide ((sn : Int) ≤ 40)) && (decide ((rn : Int) ≤ 200)))) (by kernel_rfl) rfl) (v := .agg #[.int .i64 el, .slice SA sn scap, .slice RA rn rcap, .int .i64 mo]) (by kernel_rfl) rfl) (v := .bool false) (by kernel_rfl) rfl) (v := .bool true) (by kernel_rfl) rfl) (v := .bool false) (by kernel_rfl) rfl) (v := .pointer (some ⟨g7, 0, none⟩)) (by kernel_rfl) rfl) (v := .pointer (some ⟨g3, 0, none⟩)) (by kernel_rfl) rfl) (v := .agg #[.int .i64 p, .int .i64 q]) (by kernel_rfl) rfl) (v := .agg #[.int .i64 el, .slice SA sn scap, .slice RA rn rcap, .int .i64 mo]) (by kernel_rfl) rfl), S107.sub sub_all (sub_skip sub_all)⟩
      · refine rs_alloc (trc zT) A68 S66 sub_all sub_all zero26 rfl rfl rfl (fun g113 ac wc A111 S112 => ?_)
        have T114 := S112.sub (sub_skip sub_all) sub_all
        refine r_1 (i := 1) (by kernel_rfl) ?_
        refine rs_callRF (fs := #[]) (cp := #[]) (r := [(0, .agg #[.int .i64 el, .slice A35 ys32.length cap36])]) (fun v => .agg #[.int .i64 el, v]) #[.agg #[.int .i64 el, .slice A35 ys32.length cap36]] A111 S112 (sub_skip sub_all) sub_all (CopyMatrix_s el A35 ys32.length cap36 ys32 _ hl50 (row_fr (S112.row 1 rfl)) (by omega)) Try.call15 rfl rfl (by kernel_rfl) (by kernel_rfl) (by kernel_rfl) rfl (fun v119 ac wc A115 S116 => ?_)
        obtain ⟨hl120, A121, cap122, rfl, hc123, hr124⟩ := rowF_reads (v := v119) (m := ys32.length) (l := ys32) (S116.row 0 rfl)
        have T118 := S116.sub (sub_skip sub_all) (sub_skip sub_all)
        refine r_1 (i := 3) (by kernel_rfl) ?_
        refine rs_call (fs := #[]) (cp := #[]) (r := [(0, .agg #[.int .i64 el, .slice A121 ys32.length cap122]), (0, .agg #[.int .i64 p, .int .i64 q])]) #[.agg #[.int .i64 el, .slice A121 ys32.length cap122], .agg #[.int .i64 p, .int .i64 q]] (.tuple #[.agg (trc (toF el ys32 p q)), .int .i64 (firstOf [(mxC el ys32).2, pairE el p q])]) A115 S116 (sub_skip sub_all) (sub_skip sub_all) (TraceOf_s el A121 ys32.length cap122 ys32 p q _ hl120 (row_fr (S116.row 0 rfl)) (by omega) (by omega) (by omega)) Try.call16 rfl rfl (by kernel_rfl) (by kernel_rfl) (by kernel_rfl) rfl (fun ac wc A125 S126 => ?_)
        have T128 := S126.sub (sub_skip sub_all) (sub_skip sub_all)
        refine r_take 4 (.tuple #[.agg (trc (toF el ys32 p q)), .int .i64 (firstOf [(mxC el ys32).2, pairE el p q])]) A125 T128 (g_move (by kernel_rfl)) rfl rfl rfl (pf_then (pf_then pf_body)) (by kernel_rfl) (fun ac A129 => ?_)
        refine r_take 5 (.agg (trc (toF el ys32 p q))) A129 T128 (g_extract (u := .tuple #[.agg (trc (toF el ys32 p q)), .int .i64 (firstOf [(mxC el ys32).2, pairE el p q])]) (by kernel_rfl) (fun _ => by kernel_rfl)) rfl rfl rfl (pf_then (pf_then pf_body)) (by kernel_rfl) (fun ac A130 => ?_)
        refine r_take 6 (.int .i64 (firstOf [(mxC el ys32).2, pairE el p q])) A130 T128 (g_extract (u := .tuple #[.agg (trc (toF el ys32 p q)), .int .i64 (firstOf [(mxC el ys32).2, pairE el p q])]) (by kernel_rfl) (fun _ => by kernel_rfl)) rfl rfl rfl (pf_then (pf_then pf_body)) (by kernel_rfl) (fun ac A131 => ?_)
        refine r_1 (i := 8) (by kernel_rfl) ?_
        refine rs_store (g := g113) (off := 0) (v := .agg (trc (toF el ys32 p q))) 0 (trc (toF el ys32 p q)) A131 S126 (sub_skip sub_all) (sub_skip sub_all) (by kernel_rfl) (by kernel_rfl) rfl (putVal_whole ((trc_size _).trans zT_length) ((trc_size _).trans (toF_length _ _ _ _)) ⟨⟨_, Try.underlying38, rfl⟩, by kernel_rfl⟩ (trc_one _)) rfl rfl (fun wc S133 => ?_)
        have T135 := S133.sub (sub_skip sub_all) (sub_skip sub_all)
        refine r_take 9 (.int .i64 (firstOf [(mxC el ys32).2, pairE el p q])) A131 T135 (g_assign (by kernel_rfl)) rfl rfl rfl (pf_then (pf_then pf_body)) (by kernel_rfl) (fun ac A136 => ?_)
        refine r_done (by kernel_rfl) ?_
        refine n_then ?_
        exact ⟨g113, (A136.slot (A136.slot (A136.slot (A136.slot (A136.slot (A136.slot (A136.slot (A136.slot (A136.slot (A136.slot (A136.slot (A136.slot (A136.slot (A136.slot (A136.slot (A136.slot (A136.slot (A136.slot (A136.slot (A136.slot (A136.slot (A136.slot (A136.slot A136.nil (v := .int .i64 (firstOf [(mxC el ys32).2, pairE el p q])) (by kernel_rfl) rfl) (v := .pointer (some ⟨g113, 0, none⟩)) (by kernel_rfl) rfl) (v := .int .i64 ((mxC el ys32).2)) (by kernel_rfl) rfl) (v := .int .i64 ((mxC el ys32).1)) (by kernel_rfl) rfl) (v := .int .i64 ((mxC el ys32).2)) (by kernel_rfl) rfl) (v := .int .i64 ((mxC el ys32).1)) (by kernel_rfl) rfl) (v := .tuple #[.int .i64 ((mxC el ys32).1), .int .i64 ((mxC el ys32).2)]) (by kernel_rfl) rfl) (v := .tuple #[.int .i64 ((mxC el ys32).1), .int .i64 ((mxC el ys32).2)]) (by kernel_rfl) rfl) (v := .agg #[.int .i64 el, .slice A51 ys32.length cap52]) (by kernel_rfl) rfl) (v := .agg #[.int .i64 el, .slice A35 ys32.length cap36]) (by kernel_rfl) rfl) (v := .pointer (some ⟨g41, 0, none⟩)) (by kernel_rfl) rfl) (v := .agg #[.int .i64 el, .slice A35 ys32.length cap36]) (by kernel_rfl) rfl) (v := .agg #[.int .i64 el, .slice SA sn scap, .slice RA rn rcap, .int .i64 mo]) (by kernel_rfl) rfl) (v := .bool (!((decide ((sn : Int) ≤ 40)) && (decide ((rn : Int) ≤ 200))))) (by kernel_rfl) rfl) (v := .bool ((decide ((sn : Int) ≤ 40)) && (decide ((rn : Int) ≤ 200)))) (by kernel_rfl) rfl) (v := .agg #[.int .i64 el, .slice SA sn scap, .slice RA rn rcap, .int .i64 mo]) (by kernel_rfl) rfl) (v := .bool false) (by kernel_rfl) rfl) (v := .bool true) (by kernel_rfl) rfl) (v := .bool false) (by kernel_rfl) rfl) (v := .pointer (some ⟨g7, 0, none⟩)) (by kernel_rfl) rfl) (v := .pointer (some ⟨g3, 0, none⟩)) (by kernel_rfl) rfl) (v := .agg #[.int .i64 p, .int .i64 q]) (by kernel_rfl) rfl) (v := .agg #[.int .i64 el, .slice SA sn scap, .slice RA rn rcap, .int .i64 mo]) (by kernel_rfl) rfl), S133.sub sub_all (sub_skip sub_all)⟩
    · rintro ac wc ⟨g63, A137, S138⟩
      refine n_then ?_
      refine wp_seq ?_
      refine wp_region_lit ?_
      refine s_one (.agg #[.int .i64 el, .slice A35 ys32.length cap36]) A137 S138 (g_load (g := g41) (off := 0) 1 (by kernel_rfl) rfl (by kernel_rfl)) rfl (fun ac A139 => ?_)
      refine s_call (fs := #[]) (cp := #[]) (r := [(0, .agg #[.int .i64 el, .slice A35 ys32.length cap36])]) #[.agg #[.int .i64 el, .slice A35 ys32.length cap36]] (.tuple #[.int .i64 ((mxC el ys32).1), .int .i64 ((mxC el ys32).2)]) A139 S138 (refCheckMatrix_s el A35 ys32.length cap36 ys32 _ hl50 (row_fr (S138.row 1 rfl)) (by omega)) Try.call17 (by kernel_rfl) (by kernel_rfl) (by kernel_rfl) rfl (fun ac wc A140 S141 => ?_)
      refine s_one (.tuple #[.int .i64 ((mxC el ys32).1), .int .i64 ((mxC el ys32).2)]) A140 S141 (g_move (by kernel_rfl)) rfl (fun ac A143 => ?_)
      refine s_one (.int .i64 ((mxC el ys32).1)) A143 S141 (g_extract (u := .tuple #[.int .i64 ((mxC el ys32).1), .int .i64 ((mxC el ys32).2)]) (by kernel_rfl) (fun _ => by kernel_rfl)) rfl (fun ac A144 => ?_)
      refine s_one (.int .i64 ((mxC el ys32).2)) A144 S141 (g_extract (u := .tuple #[.int .i64 ((mxC el ys32).1), .int .i64 ((mxC el ys32).2)]) (by kernel_rfl) (fun _ => by kernel_rfl)) rfl (fun ac A145 => ?_)
      refine s_one (.int .i64 ((mxC el ys32).1)) A145 S141 (g_assign (by kernel_rfl)) rfl (fun ac A146 => ?_)
      refine s_one (.int .i64 ((mxC el ys32).2)) A146 S141 (g_assign (by kernel_rfl)) rfl (fun ac A147 => ?_)
      refine wpList_nil ?_
      refine n_then ?_
      refine wp_seq ?_
      refine wp_seq ?_
      refine wp_region_lit ?_
      refine s_one (.int .i64 ((mxC el ys32).2)) A147 S141 (g_move (by kernel_rfl)) rfl (fun ac A148 => ?_)
      refine s_one (.int .i64 ((mxC el ys32).2)) A148 S141 (g_move (by kernel_rfl)) rfl (fun ac A149 => ?_)
      refine s_one (.bool (decide ((mxC el ys32).2 ≠ (mxC el ys32).2))) A149 S141 (g_bin (u := .int .i64 ((mxC el ys32).2)) (k := .int .i64 ((mxC el ys32).2)) (by kernel_rfl) (by kernel_rfl) (fun _ => by kernel_rfl) b_neq) rfl (fun ac A150 => ?_)
      refine s_one (.bool (decide ((mxC el ys32).2 ≠ (mxC el ys32).2))) A150 S141 (g_move (by kernel_rfl)) rfl (fun ac A151 => ?_)
      refine s_want (dj := 40) (b := (decide ((mxC el ys32).2 ≠ (mxC el ys32).2))) A151 (by kernel_rfl) (by kernel_rfl) (decide_eq_false (fun h => h rfl)) ?_
      refine s_one (.int .i64 ((mxC el ys32).1)) A151 S141 (g_move (by kernel_rfl)) rfl (fun ac A152 => ?_)
      refine s_want (dj := 40) (b := (decide ((mxC el ys32).2 ≠ (mxC el ys32).2))) A152 (by kernel_rfl) (by kernel_rfl) (decide_eq_false (fun h => h rfl)) ?_
      refine s_one (.int .i64 ((mxC el ys32).1)) A152 S141 (g_move (by kernel_rfl)) rfl (fun ac A153 => ?_)
      refine s_want (dj := 40) (b := (decide ((mxC el ys32).2 ≠ (mxC el ys32).2))) A153 (by kernel_rfl) (by kernel_rfl) (decide_eq_false (fun h => h rfl)) ?_
      refine s_one (.bool (decide ((mxC el ys32).1 ≠ (mxC el ys32).1))) A153 S141 (g_bin (u := .int .i64 ((mxC el ys32).1)) (k := .int .i64 ((mxC el ys32).1)) (by kernel_rfl) (by kernel_rfl) (fun _ => by kernel_rfl) b_neq) rfl (fun ac A154 => ?_)
      refine s_one (.bool (decide ((mxC el ys32).1 ≠ (mxC el ys32).1))) A154 S141 (g_pick_f (b := (decide ((mxC el ys32).2 ≠ (mxC el ys32).2))) (by kernel_rfl) (decide_eq_false (fun h => h rfl)) (by kernel_rfl)) rfl (fun ac A155 => ?_)
      refine wpList_nil ?_
      refine n_then ?_
      refine c_f (b := (decide ((mxC el ys32).1 ≠ (mxC el ys32).1))) A155 (by kernel_rfl) (decide_eq_false (fun h => h rfl)) ?_
      refine wp_skip ?_
      refine n_then ?_
      refine wp_seq ?_
      refine wp_seq ?_
      refine wp_region_lit ?_
      refine s_one (.int .i64 ((mxC el ys32).2)) A155 S141 (g_move (by kernel_rfl)) rfl (fun ac A156 => ?_)
      refine s_one (.bool (decide ((mxC el ys32).2 = 0))) A156 S141 (g_bin (u := .int .i64 ((mxC el ys32).2)) (k := .int .i64 0) (by kernel_rfl) (by kernel_rfl) (fun _ => by kernel_rfl) b_eql) rfl (fun ac A157 => ?_)
      refine wpList_nil ?_
      refine n_then ?_
      refine c_ifb (b := (decide ((mxC el ys32).2 = 0))) A157 (by kernel_rfl) (fun h158 => ?_) (fun h158 => ?_)
      · have p159 := of_decide_eq_true h158
        have hz1 := of_decide_eq_true h158
        refine wp_region_lit ?_
        refine s_one (.agg #[.int .i64 el, .slice A35 ys32.length cap36]) A157 S141 (g_load (g := g41) (off := 0) 1 (by kernel_rfl) rfl (by kernel_rfl)) rfl (fun ac A160 => ?_)
        refine s_one (.agg #[.int .i64 p, .int .i64 q]) A160 S141 (g_load (g := g7) (off := 0) 2 (by kernel_rfl) rfl (by kernel_rfl)) rfl (fun ac A161 => ?_)
        refine s_call (fs := #[]) (cp := #[]) (r := [(0, .agg #[.int .i64 el, .slice A35 ys32.length cap36]), (0, .agg #[.int .i64 p, .int .i64 q])]) #[.agg #[.int .i64 el, .slice A35 ys32.length cap36], .agg #[.int .i64 p, .int .i64 q]] (.int .i64 (pairE el p q)) A161 S141 (refPairErr_s el p q A35 ys32.length cap36 _ (by omega)) Try.call18 (by kernel_rfl) (by kernel_rfl) (by kernel_rfl) rfl (fun ac wc A162 S163 => ?_)
        refine s_one (.int .i64 (pairE el p q)) A162 S163 (g_assign (by kernel_rfl)) rfl (fun ac A165 => ?_)
        refine wpList_nil ?_
        refine n_then ?_
        refine wp_seq ?_
        refine wp_seq ?_
        refine wp_region_lit ?_
        refine s_one (.int .i64 (pairE el p q)) A165 S163 (g_move (by kernel_rfl)) rfl (fun ac A166 => ?_)
        refine s_one (.bool (decide (pairE el p q ≠ 0))) A166 S163 (g_bin (u := .int .i64 (pairE el p q)) (k := .int .i64 0) (by kernel_rfl) (by kernel_rfl) (fun _ => by kernel_rfl) b_neq) rfl (fun ac A167 => ?_)
        refine wpList_nil ?_
        refine n_then ?_
        refine c_ifb (b := (decide (pairE el p q ≠ 0))) A167 (by kernel_rfl) (fun h168 => ?_) (fun h168 => ?_)
        · have p169 := of_decide_eq_true h168
          have hn2 := of_decide_eq_true h168
          refine wp_seq ?_
          refine wp_region_lit ?_
          refine s_one (.int .i64 (firstOf [(mxC el ys32).2, pairE el p q])) A167 S163 (g_move (by kernel_rfl)) rfl (fun ac A170 => ?_)
          refine s_one (.int .i64 (pairE el p q)) A170 S163 (g_move (by kernel_rfl)) rfl (fun ac A171 => ?_)
          refine s_one (.bool (decide (firstOf [(mxC el ys32).2, pairE el p q] = pairE el p q))) A171 S163 (g_bin (u := .int .i64 (firstOf [(mxC el ys32).2, pairE el p q])) (k := .int .i64 (pairE el p q)) (by kernel_rfl) (by kernel_rfl) (fun _ => by kernel_rfl) b_eql) rfl (fun ac A172 => ?_)
          refine s_one (.bool (decide (firstOf [(mxC el ys32).2, pairE el p q] = pairE el p q))) A172 S163 (g_move (by kernel_rfl)) rfl (fun ac A173 => ?_)
          refine s_want (dj := 55) (b := (decide (firstOf [(mxC el ys32).2, pairE el p q] = pairE el p q))) A173 (by kernel_rfl) (by kernel_rfl) (decide_eq_true (fo_0 hz1)) ?_
          refine s_one (.agg (trc (toF el ys32 p q))) A173 S163 (g_loadW (g := g63) 0 (by kernel_rfl) rfl ((trc_size _).trans (toF_length _ _ _ _)) ⟨⟨_, Try.underlying38, rfl⟩, by kernel_rfl⟩) rfl (fun ac A174 => ?_)
          refine s_want (dj := 55) (b := (decide (firstOf [(mxC el ys32).2, pairE el p q] = pairE el p q))) A174 (by kernel_rfl) (by kernel_rfl) (decide_eq_true (fo_0 hz1)) ?_
          refine s_one (.agg (trc zT)) A174 S163 (g_build (r := []) (by kernel_rfl) (fun _ => by kernel_rfl)) rfl (fun ac A175 => ?_)
          refine s_want (dj := 55) (b := (decide (firstOf [(mxC el ys32).2, pairE el p q] = pairE el p q))) A175 (by kernel_rfl) (by kernel_rfl) (decide_eq_true (fo_0 hz1)) ?_
          refine s_call (fs := #[]) (cp := #[]) (r := [(0, .agg (trc (toF el ys32 p q))), (0, .agg (trc zT))]) #[.agg (trc (toF el ys32 p q)), .agg (trc zT)] (.bool true) A175 S163 (SameTrace_eq (toF el ys32 p q) zT (toF_n (by rw [fo_0 hz1]; exact hn2)) _ (toF_length _ _ _ _)) Try.call19 (by kernel_rfl) (by kernel_rfl) (by kernel_rfl) rfl (fun ac wc A176 S177 => ?_)
          refine s_one (.bool true) A176 S177 (g_pick_t (b := (decide (firstOf [(mxC el ys32).2, pairE el p q] = pairE el p q))) (by kernel_rfl) (decide_eq_true (fo_0 hz1)) (by kernel_rfl)) rfl (fun ac A179 => ?_)
          refine s_one (.bool true) A179 S177 (g_assign (by kernel_rfl)) rfl (fun ac A180 => ?_)
          refine wpList_nil ?_
          refine n_then ?_
          refine wp_ret ?_
          refine r_then ?_
          refine fin1 (.bool true) Try.results3 A180 S177 (rv_tmp (by kernel_rfl)) ⟨?_, S177.kp⟩
          rfl
        · have p181 := of_decide_eq_false h168
          have hz2 : pairE el p q = 0 := by simpa using h168
          refine wp_skip ?_
          refine n_then ?_
          refine wp_seq ?_
          refine r_begin (w0 := w0) (by kernel_rfl) (S163.sub sub_all sub_all) (fun wc T182 B183 => ?_)
          have S184 := S163.kept B183
          refine r_take 0 (.int .i64 (firstOf [(mxC el ys32).2, pairE el p q])) A167 T182 (g_move (by kernel_rfl)) rfl rfl rfl (pf_then pf_body) (by kernel_rfl) (fun ac A185 => ?_)
          refine r_take 1 (.bool (decide (firstOf [(mxC el ys32).2, pairE el p q] = 0))) A185 T182 (g_bin (u := .int .i64 (firstOf [(mxC el ys32).2, pairE el p q])) (k := .int .i64 0) (by kernel_rfl) (by kernel_rfl) (fun _ => by kernel_rfl) b_eql) rfl rfl rfl (pf_then pf_body) (by kernel_rfl) (fun ac A186 => ?_)
          refine r_take 2 (.bool (decide (firstOf [(mxC el ys32).2, pairE el p q] = 0))) A186 T182 (g_move (by kernel_rfl)) rfl rfl rfl (pf_then pf_body) (by kernel_rfl) (fun ac A187 => ?_)
          refine r_take 3 (.agg (trc (toF el ys32 p q))) A187 T182 (g_loadW (g := g63) 0 (by kernel_rfl) rfl ((trc_size _).trans (toF_length _ _ _ _)) ⟨⟨_, Try.underlying38, rfl⟩, by kernel_rfl⟩) rfl (want_t (dj := 62) (b := (decide (firstOf [(mxC el ys32).2, pairE el p q] = 0))) A187 rfl (by kernel_rfl) (by kernel_rfl) (decide_eq_true (by rw [fo_0 hz1]; exact hz2))) rfl (pf_then pf_body) (by kernel_rfl) (fun ac A188 => ?_)
          refine r_take 4 (.agg #[.int .i64 el, .slice A35 ys32.length cap36]) A188 T182 (g_load (g := g41) (off := 0) 1 (by kernel_rfl) rfl (by kernel_rfl)) rfl (want_t (dj := 62) (b := (decide (firstOf [(mxC el ys32).2, pairE el p q] = 0))) A188 rfl (by kernel_rfl) (by kernel_rfl) (decide_eq_true (by rw [fo_0 hz1]; exact hz2))) rfl (pf_then pf_body) (by kernel_rfl) (fun ac A189 => ?_)
          refine r_take 5 (.agg #[.int .i64 p, .int .i64 q]) A189 T182 (g_load (g := g7) (off := 0) 2 (by kernel_rfl) rfl (by kernel_rfl)) rfl (want_t (dj := 62) (b := (decide (firstOf [(mxC el ys32).2, pairE el p q] = 0))) A189 rfl (by kernel_rfl) (by kernel_rfl) (decide_eq_true (by rw [fo_0 hz1]; exact hz2))) rfl (pf_then pf_body) (by kernel_rfl) (fun ac A190 => ?_)
          refine r_1 (i := 6) (by kernel_rfl) ?_
          refine rs_call (fs := #[]) (cp := #[]) (r := [(0, .agg #[.int .i64 el, .slice A35 ys32.length cap36]), (0, .agg #[.int .i64 p, .int .i64 q])]) #[.agg #[.int .i64 el, .slice A35 ys32.length cap36], .agg #[.int .i64 p, .int .i64 q]] (.agg (trc (mkT (nums (cutF ys32 (toI el p q) 64)) 64))) A190 S184 sub_all sub_all (refTraceOf_s el A35 ys32.length cap36 ys32 p q _ hl50 (row_fr (S184.row 1 rfl)) (by omega) (by rw [fo_0 hz1]; exact hz2)) Try.call20 rfl (want_t (dj := 62) (b := (decide (firstOf [(mxC el ys32).2, pairE el p q] = 0))) A190 rfl (by kernel_rfl) (by kernel_rfl) (decide_eq_true (by rw [fo_0 hz1]; exact hz2))) (by kernel_rfl) (by kernel_rfl) (by kernel_rfl) rfl (fun ac wc A191 S192 => ?_)
          have T194 := S192.sub sub_all sub_all
          refine r_1 (i := 7) (by kernel_rfl) ?_
          refine rs_call (fs := #[]) (cp := #[]) (r := [(0, .agg (trc (toF el ys32 p q))), (0, .agg (trc (mkT (nums (cutF ys32 (toI el p q) 64)) 64)))]) #[.agg (trc (toF el ys32 p q)), .agg (trc (mkT (nums (cutF ys32 (toI el p q) 64)) 64))] (.bool true) A191 S192 sub_all sub_all (SameTrace_eq (toF el ys32 p q) (mkT (nums (cutF ys32 (toI el p q) 64)) 64) (toF_y (by rw [fo_0 hz1]; exact hz2)) _ (toF_length _ _ _ _)) Try.call19 rfl (want_t (dj := 62) (b := (decide (firstOf [(mxC el ys32).2, pairE el p q] = 0))) A191 rfl (by kernel_rfl) (by kernel_rfl) (decide_eq_true (by rw [fo_0 hz1]; exact hz2))) (by kernel_rfl) (by kernel_rfl) (by kernel_rfl) rfl (fun ac wc A195 S196 => ?_)
          have T198 := S196.sub sub_all sub_all
          refine r_take 8 (.bool true) A195 T198 (g_pick_t (b := (decide (firstOf [(mxC el ys32).2, pairE el p q] = 0))) (by kernel_rfl) (decide_eq_true (by rw [fo_0 hz1]; exact hz2)) (by kernel_rfl)) rfl rfl rfl (pf_then pf_body) (by kernel_rfl) (fun ac A199 => ?_)
          refine r_take 9 (.bool true) A199 T198 (g_assign (by kernel_rfl)) rfl rfl rfl (pf_then pf_body) (by kernel_rfl) (fun ac A200 => ?_)
          refine r_done (by kernel_rfl) ?_
          refine n_then ?_
          refine wp_ret ?_
          refine fin1 (.bool true) Try.results3 A200 S196 (rv_tmp (by kernel_rfl)) ⟨?_, S196.kp⟩
          rfl
      · have p201 := of_decide_eq_false h158
        have hn1 := of_decide_eq_false h158
        refine wp_skip ?_
        refine n_then ?_
        refine wp_seq ?_
        refine wp_seq ?_
        refine wp_region_lit ?_
        refine s_one (.int .i64 ((mxC el ys32).2)) A157 S141 (g_move (by kernel_rfl)) rfl (fun ac A202 => ?_)
        refine s_one (.bool (decide ((mxC el ys32).2 ≠ 0))) A202 S141 (g_bin (u := .int .i64 ((mxC el ys32).2)) (k := .int .i64 0) (by kernel_rfl) (by kernel_rfl) (fun _ => by kernel_rfl) b_neq) rfl (fun ac A203 => ?_)
        refine wpList_nil ?_
        refine n_then ?_
        refine c_t (b := (decide ((mxC el ys32).2 ≠ 0))) A203 (by kernel_rfl) (decide_eq_true hn1) ?_
        refine wp_seq ?_
        refine wp_region_lit ?_
        refine s_one (.int .i64 (firstOf [(mxC el ys32).2, pairE el p q])) A203 S141 (g_move (by kernel_rfl)) rfl (fun ac A204 => ?_)
        refine s_one (.int .i64 ((mxC el ys32).2)) A204 S141 (g_move (by kernel_rfl)) rfl (fun ac A205 => ?_)
        refine s_one (.bool (decide (firstOf [(mxC el ys32).2, pairE el p q] = (mxC el ys32).2))) A205 S141 (g_bin (u := .int .i64 (firstOf [(mxC el ys32).2, pairE el p q])) (k := .int .i64 ((mxC el ys32).2)) (by kernel_rfl) (by kernel_rfl) (fun _ => by kernel_rfl) b_eql) rfl (fun ac A206 => ?_)
        refine s_one (.bool (decide (firstOf [(mxC el ys32).2, pairE el p q] = (mxC el ys32).2))) A206 S141 (g_move (by kernel_rfl)) rfl (fun ac A207 => ?_)
        refine s_want (dj := 55) (b := (decide (firstOf [(mxC el ys32).2, pairE el p q] = (mxC el ys32).2))) A207 (by kernel_rfl) (by kernel_rfl) (decide_eq_true (fo_1 hn1)) ?_
        refine s_one (.agg (trc (toF el ys32 p q))) A207 S141 (g_loadW (g := g63) 0 (by kernel_rfl) rfl ((trc_size _).trans (toF_length _ _ _ _)) ⟨⟨_, Try.underlying38, rfl⟩, by kernel_rfl⟩) rfl (fun ac A208 => ?_)
        refine s_want (dj := 55) (b := (decide (firstOf [(mxC el ys32).2, pairE el p q] = (mxC el ys32).2))) A208 (by kernel_rfl) (by kernel_rfl) (decide_eq_true (fo_1 hn1)) ?_
        refine s_one (.agg (trc zT)) A208 S141 (g_build (r := []) (by kernel_rfl) (fun _ => by kernel_rfl)) rfl (fun ac A209 => ?_)
        refine s_want (dj := 55) (b := (decide (firstOf [(mxC el ys32).2, pairE el p q] = (mxC el ys32).2))) A209 (by kernel_rfl) (by kernel_rfl) (decide_eq_true (fo_1 hn1)) ?_
        refine s_call (fs := #[]) (cp := #[]) (r := [(0, .agg (trc (toF el ys32 p q))), (0, .agg (trc zT))]) #[.agg (trc (toF el ys32 p q)), .agg (trc zT)] (.bool true) A209 S141 (SameTrace_eq (toF el ys32 p q) zT (toF_n (by rw [fo_1 hn1]; exact hn1)) _ (toF_length _ _ _ _)) Try.call19 (by kernel_rfl) (by kernel_rfl) (by kernel_rfl) rfl (fun ac wc A210 S211 => ?_)
        refine s_one (.bool true) A210 S211 (g_pick_t (b := (decide (firstOf [(mxC el ys32).2, pairE el p q] = (mxC el ys32).2))) (by kernel_rfl) (decide_eq_true (fo_1 hn1)) (by kernel_rfl)) rfl (fun ac A213 => ?_)
        refine s_one (.bool true) A213 S211 (g_assign (by kernel_rfl)) rfl (fun ac A214 => ?_)
        refine wpList_nil ?_
        refine n_then ?_
        refine wp_ret ?_
        refine r_then ?_
        refine fin1 (.bool true) Try.results3 A214 S211 (rv_tmp (by kernel_rfl)) ⟨?_, S211.kp⟩
        rfl

end Go.Proofs.Ytcijkniijomcjaa
