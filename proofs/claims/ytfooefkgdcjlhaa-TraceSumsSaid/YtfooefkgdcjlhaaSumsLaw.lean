/- The walk of TraceSums: it returns true. -/
import Derived.Test.YtfooefkgdcjlhaaSums2
import Derived.Test.YtfooefkgdcjlhaaArgs
namespace Go.Proofs.Ytfooefkgdcjlhaa
open Go.RowKit Go.Cpl

set_option maxRecDepth 100000 in
set_option maxHeartbeats 400000 in
theorem TraceSums_s (l r : List Int) (A B : Option Addr) (cap cap2 n m : Nat) (b : Int) (w0 : World) (hn : l.length = n) (hr : IReads w0 A l) (hn2 : r.length = m) (hr2 : IReads w0 B r) :
    Calls Try.prog 12 #[.slice A n cap, .slice B m cap2, .int .i64 b] w0 fun e w' => e = .returned (.bool true) ∧ Below w0.heap.size w0 w' := by
  have S0 := St.start w0
  refine enter (n := 98) Try.func12 rfl rfl rfl (fun ac A0 => ?_)
  refine wp_seq ?_
  refine wp_region_lit ?_
  refine s_one (.bool false) A0 S0 (g_assign (by kernel_rfl)) rfl (fun ac A1 => ?_)
  refine wpList_nil ?_
  refine n_then ?_
  refine wp_seq ?_
  refine wp_seq ?_
  refine wp_region_lit ?_
  refine s_call (fs := #[]) (cp := #[]) (r := []) #[] (.bool true) A1 S0 (awake_any _) Try.call13 (by kernel_rfl) (by kernel_rfl) (by kernel_rfl) rfl (fun ac wc A2 S3 => ?_)
  refine s_one (.bool false) A2 S3 (g_un (u := .bool true) (by kernel_rfl) (fun _ => by kernel_rfl)) rfl (fun ac A5 => ?_)
  refine wpList_nil ?_
  refine n_then ?_
  refine c_f (b := false) A5 (by kernel_rfl) rfl ?_
  refine wp_skip ?_
  refine n_then ?_
  refine wp_seq ?_
  refine wp_seq ?_
  refine c_cut (fun ac wc => Fr 98 ac [(29, .bool ((decide ((n : Int) > 64)) || (decide ((m : Int) > 64)))), (0, .slice A n cap), (1, .slice B m cap2), (2, .int .i64 b), (6, .bool false), (20, .bool true), (21, .bool false)] ∧ St w0 [] [] wc) ?_ ?_
  · refine wp_region_lit ?_
    refine s_one (.slice A n cap) A5 S3 (g_move (by kernel_rfl)) rfl (fun ac A6 => ?_)
    refine s_one (.int .i64 (n : Int)) A6 S3 (g_built (r := [(0, .slice A n cap)]) (by kernel_rfl) (fun _ _ _ => by kernel_rfl)) rfl (fun ac A7 => ?_)
    refine s_one (.bool (decide ((n : Int) > 64))) A7 S3 (g_bin (u := .int .i64 (n : Int)) (k := .int .i64 64) (by kernel_rfl) (by kernel_rfl) (fun _ => by kernel_rfl) (fun _ => by kernel_rfl)) rfl (fun ac A8 => ?_)
    refine s_one (.bool (decide ((n : Int) > 64))) A8 S3 (g_move (by kernel_rfl)) rfl (fun ac A9 => ?_)
    refine by_bool (decide ((n : Int) > 64)) (fun h10 => ?_) (fun h10 => ?_)
    · have p11 := of_decide_eq_true h10
      refine s_not (dj := 25) (b := (decide ((n : Int) > 64))) A9 (by kernel_rfl) (by kernel_rfl) h10 rfl (fun ac A12 => ?_)
      refine s_not (dj := 25) (b := (decide ((n : Int) > 64))) A12 (by kernel_rfl) (by kernel_rfl) h10 rfl (fun ac A13 => ?_)
      refine s_not (dj := 25) (b := (decide ((n : Int) > 64))) A13 (by kernel_rfl) (by kernel_rfl) h10 rfl (fun ac A14 => ?_)
      refine s_one (.bool true) A14 S3 (g_pick_t (b := (decide ((n : Int) > 64))) (by kernel_rfl) h10 (by kernel_rfl)) rfl (fun ac A15 => ?_)
      refine wpList_nil ?_
      refine n_then ?_
      exact ⟨(A15.slot (A15.slot (A15.slot (A15.slot (A15.slot (A15.slot (A15.slot A15.nil (v := .bool false) (by kernel_rfl) rfl) (v := .bool true) (by kernel_rfl) rfl) (v := .bool false) (by kernel_rfl) rfl) (v := .int .i64 b) (by kernel_rfl) rfl) (v := .slice B m cap2) (by kernel_rfl) rfl) (v := .slice A n cap) (by kernel_rfl) rfl) (v := .bool true) (by kernel_rfl) (congrArg Value.bool (b_ot1 h10).symm)), S3.sub sub_all sub_all⟩
    · have p16 := of_decide_eq_false h10
      refine s_want (dj := 25) (b := (decide ((n : Int) > 64))) A9 (by kernel_rfl) (by kernel_rfl) h10 ?_
      refine s_one (.slice B m cap2) A9 S3 (g_move (by kernel_rfl)) rfl (fun ac A17 => ?_)
      refine s_want (dj := 25) (b := (decide ((n : Int) > 64))) A17 (by kernel_rfl) (by kernel_rfl) h10 ?_
      refine s_one (.int .i64 (m : Int)) A17 S3 (g_built (r := [(0, .slice B m cap2)]) (by kernel_rfl) (fun _ _ _ => by kernel_rfl)) rfl (fun ac A18 => ?_)
      refine s_want (dj := 25) (b := (decide ((n : Int) > 64))) A18 (by kernel_rfl) (by kernel_rfl) h10 ?_
      refine s_one (.bool (decide ((m : Int) > 64))) A18 S3 (g_bin (u := .int .i64 (m : Int)) (k := .int .i64 64) (by kernel_rfl) (by kernel_rfl) (fun _ => by kernel_rfl) (fun _ => by kernel_rfl)) rfl (fun ac A19 => ?_)
      refine s_one (.bool (decide ((m : Int) > 64))) A19 S3 (g_pick_f (b := (decide ((n : Int) > 64))) (by kernel_rfl) h10 (by kernel_rfl)) rfl (fun ac A20 => ?_)
      refine wpList_nil ?_
      refine n_then ?_
      exact ⟨(A20.slot (A20.slot (A20.slot (A20.slot (A20.slot (A20.slot (A20.slot A20.nil (v := .bool false) (by kernel_rfl) rfl) (v := .bool true) (by kernel_rfl) rfl) (v := .bool false) (by kernel_rfl) rfl) (v := .int .i64 b) (by kernel_rfl) rfl) (v := .slice B m cap2) (by kernel_rfl) rfl) (v := .slice A n cap) (by kernel_rfl) rfl) (v := .bool (decide ((m : Int) > 64))) (by kernel_rfl) (congrArg Value.bool (b_or_f h10 (Eq.refl (decide ((m : Int) > 64)))).symm)), S3.sub sub_all sub_all⟩
  · rintro ac wc ⟨A21, S22⟩
    refine n_then ?_
    refine c_ifb (b := ((decide ((n : Int) > 64)) || (decide ((m : Int) > 64)))) A21 (by kernel_rfl) (fun h23 => ?_) (fun h23 => ?_)
    · refine wp_seq ?_
      refine wp_region_lit ?_
      refine s_one (.bool true) A21 S22 (g_assign (by kernel_rfl)) rfl (fun ac A24 => ?_)
      refine wpList_nil ?_
      refine n_then ?_
      refine wp_ret ?_
      refine r_then ?_
      refine fin1 (.bool true) Try.results12 A24 S22 (rv_tmp (by kernel_rfl)) ⟨?_, S22.kp⟩
      rfl
    · have h25 := (Bool.or_eq_false_iff.1 h23).1
      have p26 := of_decide_eq_false h25
      have h27 := (Bool.or_eq_false_iff.1 h23).2
      have p28 := of_decide_eq_false h27
      refine wp_skip ?_
      refine n_then ?_
      refine wp_seq ?_
      refine wp_region_lit ?_
      refine s_one (.slice A n cap) A21 S22 (g_move (by kernel_rfl)) rfl (fun ac A29 => ?_)
      refine s_call (fs := #[]) (cp := #[]) (r := [(0, .slice A n cap)]) #[.slice A n cap] (.agg (trc (mkT (cuts l) n))) A29 S22 (made_s l A cap n _ hn (hr.kept S22.kp) (by omega)) Try.call16 (by kernel_rfl) (by kernel_rfl) (by kernel_rfl) rfl (fun ac wc A30 S31 => ?_)
      refine s_one (.slice B m cap2) A30 S31 (g_move (by kernel_rfl)) rfl (fun ac A33 => ?_)
      refine s_call (fs := #[]) (cp := #[]) (r := [(0, .slice B m cap2)]) #[.slice B m cap2] (.agg (trc (mkT (cuts r) m))) A33 S31 (made_s r B cap2 m _ hn2 (hr2.kept S31.kp) (by omega)) Try.call16 (by kernel_rfl) (by kernel_rfl) (by kernel_rfl) rfl (fun ac wc A34 S35 => ?_)
      refine s_alloc (trc zT) A34 S35 zero26 rfl (fun g39 ac wc A37 S38 => ?_)
      refine s_alloc (trc zT) A37 S38 zero26 rfl (fun g42 ac wc A40 S41 => ?_)
      refine s_store (g := g39) (off := 0) (v := .agg (trc (mkT (cuts l) n))) 1 (trc (mkT (cuts l) n)) A40 S41 (by kernel_rfl) (by kernel_rfl) rfl (putVal_whole ((trc_size _).trans zT_length) ((trc_size _).trans (done_length _ _ _ _)) ⟨⟨_, Try.underlying26, rfl⟩, by kernel_rfl⟩ (trc_one _)) (fun wc S44 => ?_)
      refine s_store (g := g42) (off := 0) (v := .agg (trc (mkT (cuts r) m))) 0 (trc (mkT (cuts r) m)) A40 S44 (by kernel_rfl) (by kernel_rfl) rfl (putVal_whole ((trc_size _).trans zT_length) ((trc_size _).trans (done_length _ _ _ _)) ⟨⟨_, Try.underlying26, rfl⟩, by kernel_rfl⟩ (trc_one _)) (fun wc S47 => ?_)
      refine wpList_nil ?_
      refine n_then ?_
      refine wp_seq ?_
      refine wp_region_lit ?_
      refine s_one (.agg (trc (mkT (cuts l) n))) A40 S47 (g_loadW (g := g39) 1 (by kernel_rfl) rfl ((trc_size _).trans (done_length _ _ _ _)) ⟨⟨_, Try.underlying26, rfl⟩, by kernel_rfl⟩) rfl (fun ac A49 => ?_)
      refine s_one (.agg (trc (mkT (cuts r) m))) A49 S47 (g_loadW (g := g42) 0 (by kernel_rfl) rfl ((trc_size _).trans (done_length _ _ _ _)) ⟨⟨_, Try.underlying26, rfl⟩, by kernel_rfl⟩) rfl (fun ac A50 => ?_)
      refine s_call (fs := #[]) (cp := #[]) (r := [(0, .agg (trc (mkT (cuts l) n))), (0, .agg (trc (mkT (cuts r) m)))]) #[.agg (trc (mkT (cuts l) n)), .agg (trc (mkT (cuts r) m))] (.tuple #[.agg (trc ((adRes (mkT (cuts l) n) (mkT (cuts r) m)).1)), .int .i64 ((adRes (mkT (cuts l) n) (mkT (cuts r) m)).2)]) A50 S47 (Added_s (mkT (cuts l) n) (mkT (cuts r) m) _ (done_length _ _ _ _) (done_length _ _ _ _)) Try.call45 (by kernel_rfl) (by kernel_rfl) (by kernel_rfl) rfl (fun ac wc A51 S52 => ?_)
      refine s_one (.tuple #[.agg (trc ((adRes (mkT (cuts l) n) (mkT (cuts r) m)).1)), .int .i64 ((adRes (mkT (cuts l) n) (mkT (cuts r) m)).2)]) A51 S52 (g_move (by kernel_rfl)) rfl (fun ac A54 => ?_)
      refine s_one (.agg (trc ((adRes (mkT (cuts l) n) (mkT (cuts r) m)).1))) A54 S52 (g_extract (u := .tuple #[.agg (trc ((adRes (mkT (cuts l) n) (mkT (cuts r) m)).1)), .int .i64 ((adRes (mkT (cuts l) n) (mkT (cuts r) m)).2)]) (by kernel_rfl) (fun _ => by kernel_rfl)) rfl (fun ac A55 => ?_)
      refine s_one (.int .i64 ((adRes (mkT (cuts l) n) (mkT (cuts r) m)).2)) A55 S52 (g_extract (u := .tuple #[.agg (trc ((adRes (mkT (cuts l) n) (mkT (cuts r) m)).1)), .int .i64 ((adRes (mkT (cuts l) n) (mkT (cuts r) m)).2)]) (by kernel_rfl) (fun _ => by kernel_rfl)) rfl (fun ac A56 => ?_)
      refine s_alloc (trc zT) A56 S52 zero26 rfl (fun g59 ac wc A57 S58 => ?_)
      refine s_store (g := g59) (off := 0) (v := .agg (trc ((adRes (mkT (cuts l) n) (mkT (cuts r) m)).1))) 0 (trc ((adRes (mkT (cuts l) n) (mkT (cuts r) m)).1)) A57 S58 (by kernel_rfl) (by kernel_rfl) rfl (putVal_whole ((trc_size _).trans zT_length) ((trc_size _).trans (adRes_length _ _)) ⟨⟨_, Try.underlying26, rfl⟩, by kernel_rfl⟩ (trc_one _)) (fun wc S61 => ?_)
      refine s_one (.int .i64 ((adRes (mkT (cuts l) n) (mkT (cuts r) m)).2)) A57 S61 (g_assign (by kernel_rfl)) rfl (fun ac A63 => ?_)
      refine wpList_nil ?_
      refine n_then ?_
      refine wp_seq ?_
      refine wp_region_lit ?_
      refine s_one (.agg (trc (mkT (cuts l) n))) A63 S61 (g_loadW (g := g39) 2 (by kernel_rfl) rfl ((trc_size _).trans (done_length _ _ _ _)) ⟨⟨_, Try.underlying26, rfl⟩, by kernel_rfl⟩) rfl (fun ac A64 => ?_)
      refine s_one (.int .i64 b) A64 S61 (g_move (by kernel_rfl)) rfl (fun ac A65 => ?_)
      refine s_call (fs := #[]) (cp := #[]) (r := [(0, .agg (trc (mkT (cuts l) n))), (0, .int .i64 b)]) #[.agg (trc (mkT (cuts l) n)), .int .i64 b] (.tuple #[.agg (trc ((shRes (mkT (cuts l) n) b).1)), .int .i64 ((shRes (mkT (cuts l) n) b).2)]) A65 S61 (Shifted_s (mkT (cuts l) n) b _ (done_length _ _ _ _)) Try.call30 (by kernel_rfl) (by kernel_rfl) (by kernel_rfl) rfl (fun ac wc A66 S67 => ?_)
      refine s_one (.tuple #[.agg (trc ((shRes (mkT (cuts l) n) b).1)), .int .i64 ((shRes (mkT (cuts l) n) b).2)]) A66 S67 (g_move (by kernel_rfl)) rfl (fun ac A69 => ?_)
      refine s_one (.agg (trc ((shRes (mkT (cuts l) n) b).1))) A69 S67 (g_extract (u := .tuple #[.agg (trc ((shRes (mkT (cuts l) n) b).1)), .int .i64 ((shRes (mkT (cuts l) n) b).2)]) (by kernel_rfl) (fun _ => by kernel_rfl)) rfl (fun ac A70 => ?_)
      refine s_one (.int .i64 ((shRes (mkT (cuts l) n) b).2)) A70 S67 (g_extract (u := .tuple #[.agg (trc ((shRes (mkT (cuts l) n) b).1)), .int .i64 ((shRes (mkT (cuts l) n) b).2)]) (by kernel_rfl) (fun _ => by kernel_rfl)) rfl (fun ac A71 => ?_)
      refine s_alloc (trc zT) A71 S67 zero26 rfl (fun g74 ac wc A72 S73 => ?_)
      refine s_store (g := g74) (off := 0) (v := .agg (trc ((shRes (mkT (cuts l) n) b).1))) 0 (trc ((shRes (mkT (cuts l) n) b).1)) A72 S73 (by kernel_rfl) (by kernel_rfl) rfl (putVal_whole ((trc_size _).trans zT_length) ((trc_size _).trans (shRes_length _ _)) ⟨⟨_, Try.underlying26, rfl⟩, by kernel_rfl⟩ (trc_one _)) (fun wc S76 => ?_)
      refine s_one (.int .i64 ((shRes (mkT (cuts l) n) b).2)) A72 S76 (g_assign (by kernel_rfl)) rfl (fun ac A78 => ?_)
      refine wpList_nil ?_
      refine n_then ?_
      refine wp_seq ?_
      refine wp_region_lit ?_
      refine s_one (.agg (trc (mkT (cuts l) n))) A78 S76 (g_loadW (g := g39) 3 (by kernel_rfl) rfl ((trc_size _).trans (done_length _ _ _ _)) ⟨⟨_, Try.underlying26, rfl⟩, by kernel_rfl⟩) rfl (fun ac A79 => ?_)
      refine s_call (fs := #[]) (cp := #[]) (r := [(0, .agg (trc (mkT (cuts l) n)))]) #[.agg (trc (mkT (cuts l) n))] (.tuple #[.int .i64 ((firstErr (mkT (cuts l) n) 0).1 : Int), .int .i64 ((firstErr (mkT (cuts l) n) 0).2)]) A79 S76 (refCheckTrace_any (mkT (cuts l) n) _ (done_length _ _ _ _)) Try.call15 (by kernel_rfl) (by kernel_rfl) (by kernel_rfl) rfl (fun ac wc A80 S81 => ?_)
      refine s_one (.tuple #[.int .i64 ((firstErr (mkT (cuts l) n) 0).1 : Int), .int .i64 ((firstErr (mkT (cuts l) n) 0).2)]) A80 S81 (g_move (by kernel_rfl)) rfl (fun ac A83 => ?_)
      refine s_one (.int .i64 ((firstErr (mkT (cuts l) n) 0).1 : Int)) A83 S81 (g_extract (u := .tuple #[.int .i64 ((firstErr (mkT (cuts l) n) 0).1 : Int), .int .i64 ((firstErr (mkT (cuts l) n) 0).2)]) (by kernel_rfl) (fun _ => by kernel_rfl)) rfl (fun ac A84 => ?_)
      refine s_one (.int .i64 ((firstErr (mkT (cuts l) n) 0).2)) A84 S81 (g_extract (u := .tuple #[.int .i64 ((firstErr (mkT (cuts l) n) 0).1 : Int), .int .i64 ((firstErr (mkT (cuts l) n) 0).2)]) (by kernel_rfl) (fun _ => by kernel_rfl)) rfl (fun ac A85 => ?_)
      refine s_one (.int .i64 ((firstErr (mkT (cuts l) n) 0).1 : Int)) A85 S81 (g_assign (by kernel_rfl)) rfl (fun ac A86 => ?_)
      refine s_one (.int .i64 ((firstErr (mkT (cuts l) n) 0).2)) A86 S81 (g_assign (by kernel_rfl)) rfl (fun ac A87 => ?_)
      refine wpList_nil ?_
      refine n_then ?_
      refine wp_seq ?_
      refine wp_region_lit ?_
      refine s_one (.agg (trc (mkT (cuts r) m))) A87 S81 (g_loadW (g := g42) 2 (by kernel_rfl) rfl ((trc_size _).trans (done_length _ _ _ _)) ⟨⟨_, Try.underlying26, rfl⟩, by kernel_rfl⟩) rfl (fun ac A88 => ?_)
      refine s_call (fs := #[]) (cp := #[]) (r := [(0, .agg (trc (mkT (cuts r) m)))]) #[.agg (trc (mkT (cuts r) m))] (.tuple #[.int .i64 ((firstErr (mkT (cuts r) m) 0).1 : Int), .int .i64 ((firstErr (mkT (cuts r) m) 0).2)]) A88 S81 (refCheckTrace_any (mkT (cuts r) m) _ (done_length _ _ _ _)) Try.call15 (by kernel_rfl) (by kernel_rfl) (by kernel_rfl) rfl (fun ac wc A89 S90 => ?_)
      refine s_one (.tuple #[.int .i64 ((firstErr (mkT (cuts r) m) 0).1 : Int), .int .i64 ((firstErr (mkT (cuts r) m) 0).2)]) A89 S90 (g_move (by kernel_rfl)) rfl (fun ac A92 => ?_)
      refine s_one (.int .i64 ((firstErr (mkT (cuts r) m) 0).1 : Int)) A92 S90 (g_extract (u := .tuple #[.int .i64 ((firstErr (mkT (cuts r) m) 0).1 : Int), .int .i64 ((firstErr (mkT (cuts r) m) 0).2)]) (by kernel_rfl) (fun _ => by kernel_rfl)) rfl (fun ac A93 => ?_)
      refine s_one (.int .i64 ((firstErr (mkT (cuts r) m) 0).2)) A93 S90 (g_extract (u := .tuple #[.int .i64 ((firstErr (mkT (cuts r) m) 0).1 : Int), .int .i64 ((firstErr (mkT (cuts r) m) 0).2)]) (by kernel_rfl) (fun _ => by kernel_rfl)) rfl (fun ac A94 => ?_)
      refine s_one (.int .i64 ((firstErr (mkT (cuts r) m) 0).1 : Int)) A94 S90 (g_assign (by kernel_rfl)) rfl (fun ac A95 => ?_)
      refine s_one (.int .i64 ((firstErr (mkT (cuts r) m) 0).2)) A95 S90 (g_assign (by kernel_rfl)) rfl (fun ac A96 => ?_)
      refine wpList_nil ?_
      refine n_then ?_
      refine wp_seq ?_
      refine wp_region_lit ?_
      refine s_one (.int .i64 ((firstErr (mkT (cuts l) n) 0).2)) A96 S90 (g_move (by kernel_rfl)) rfl (fun ac A97 => ?_)
      refine s_one (.int .i64 ((firstErr (mkT (cuts l) n) 0).2)) A97 S90 (g_assign (by kernel_rfl)) rfl (fun ac A98 => ?_)
      refine wpList_nil ?_
      refine n_then ?_
      refine wp_seq ?_
      refine wp_seq ?_
      refine c_cut (fun ac wc => Fr 98 ac [(63, .bool ((decide ((firstErr (mkT (cuts l) n) 0).2 = 0)) && (!(inB b (-64) 64)))), (0, .slice A n cap), (1, .slice B m cap2), (2, .int .i64 b), (6, .bool false), (20, .bool true), (21, .bool false), (29, .bool ((decide ((n : Int) > 64)) || (decide ((m : Int) > 64)))), (30, .slice A n cap), (31, .agg (trc (mkT (cuts l) n))), (32, .slice B m cap2), (33, .agg (trc (mkT (cuts r) m))), (7, .pointer (some ⟨g39, 0, none⟩)), (8, .pointer (some ⟨g42, 0, none⟩)), (35, .agg (trc (mkT (cuts l) n))), (36, .agg (trc (mkT (cuts r) m))), (37, .tuple #[.agg (trc ((adRes (mkT (cuts l) n) (mkT (cuts r) m)).1)), .int .i64 ((adRes (mkT (cuts l) n) (mkT (cuts r) m)).2)]), (34, .tuple #[.agg (trc ((adRes (mkT (cuts l) n) (mkT (cuts r) m)).1)), .int .i64 ((adRes (mkT (cuts l) n) (mkT (cuts r) m)).2)]), (38, .agg (trc ((adRes (mkT (cuts l) n) (mkT (cuts r) m)).1))), (39, .int .i64 ((adRes (mkT (cuts l) n) (mkT (cuts r) m)).2)), (9, .pointer (some ⟨g59, 0, none⟩)), (10, .int .i64 ((adRes (mkT (cuts l) n) (mkT (cuts r) m)).2)), (41, .agg (trc (mkT (cuts l) n))), (42, .int .i64 b), (43, .tuple #[.agg (trc ((shRes (mkT (cuts l) n) b).1)), .int .i64 ((shRes (mkT (cuts l) n) b).2)]), (40, .tuple #[.agg (trc ((shRes (mkT (cuts l) n) b).1)), .int .i64 ((shRes (mkT (cuts l) n) b).2)]), (44, .agg (trc ((shRes (mkT (cuts l) n) b).1))), (45, .int .i64 ((shRes (mkT (cuts l) n) b).2)), (11, .pointer (some ⟨g74, 0, none⟩)), (12, .int .i64 ((shRes (mkT (cuts l) n) b).2)), (47, .agg (trc (mkT (cuts l) n))), (48, .tuple #[.int .i64 ((firstErr (mkT (cuts l) n) 0).1 : Int), .int .i64 ((firstErr (mkT (cuts l) n) 0).2)]), (46, .tuple #[.int .i64 ((firstErr (mkT (cuts l) n) 0).1 : Int), .int .i64 ((firstErr (mkT (cuts l) n) 0).2)]), (49, .int .i64 ((firstErr (mkT (cuts l) n) 0).1 : Int)), (50, .int .i64 ((firstErr (mkT (cuts l) n) 0).2)), (13, .int .i64 ((firstErr (mkT (cuts l) n) 0).1 : Int)), (14, .int .i64 ((firstErr (mkT (cuts l) n) 0).2)), (52, .agg (trc (mkT (cuts r) m))), (53, .tuple #[.int .i64 ((firstErr (mkT (cuts r) m) 0).1 : Int), .int .i64 ((firstErr (mkT (cuts r) m) 0).2)]), (51, .tuple #[.int .i64 ((firstErr (mkT (cuts r) m) 0).1 : Int), .int .i64 ((firstErr (mkT (cuts r) m) 0).2)]), (54, .int .i64 ((firstErr (mkT (cuts r) m) 0).1 : Int)), (55, .int .i64 ((firstErr (mkT (cuts r) m) 0).2)), (15, .int .i64 ((firstErr (mkT (cuts r) m) 0).1 : Int)), (16, .int .i64 ((firstErr (mkT (cuts r) m) 0).2)), (56, .int .i64 ((firstErr (mkT (cuts l) n) 0).2)), (17, .int .i64 ((firstErr (mkT (cuts l) n) 0).2))] ∧ St w0 [⟨g74, 26, (trc ((shRes (mkT (cuts l) n) b).1)), true⟩, ⟨g59, 26, (trc ((adRes (mkT (cuts l) n) (mkT (cuts r) m)).1)), true⟩, ⟨g42, 26, (trc (mkT (cuts r) m)), true⟩, ⟨g39, 26, (trc (mkT (cuts l) n)), true⟩] [] wc) ?_ ?_
      · refine wp_region_lit ?_
        refine s_one (.int .i64 ((firstErr (mkT (cuts l) n) 0).2)) A98 S90 (g_move (by kernel_rfl)) rfl (fun ac A99 => ?_)
        refine s_one (.bool (decide ((firstErr (mkT (cuts l) n) 0).2 = 0))) A99 S90 (g_bin (u := .int .i64 ((firstErr (mkT (cuts l) n) 0).2)) (k := .int .i64 0) (by kernel_rfl) (by kernel_rfl) (fun _ => by kernel_rfl) b_eql) rfl (fun ac A100 => ?_)
        refine s_one (.bool (decide ((firstErr (mkT (cuts l) n) 0).2 = 0))) A100 S90 (g_move (by kernel_rfl)) rfl (fun ac A101 => ?_)
        refine by_bool (decide ((firstErr (mkT (cuts l) n) 0).2 = 0)) (fun h102 => ?_) (fun h102 => ?_)
        · have p103 := of_decide_eq_true h102
          refine s_want (dj := 59) (b := (decide ((firstErr (mkT (cuts l) n) 0).2 = 0))) A101 (by kernel_rfl) (by kernel_rfl) h102 ?_
          refine s_one (.int .i64 b) A101 S90 (g_move (by kernel_rfl)) rfl (fun ac A104 => ?_)
          refine s_want (dj := 59) (b := (decide ((firstErr (mkT (cuts l) n) 0).2 = 0))) A104 (by kernel_rfl) (by kernel_rfl) h102 ?_
          refine s_call (fs := #[]) (cp := #[]) (r := [(0, .int .i64 b), (0, .int .i64 (-64)), (0, .int .i64 64)]) #[.int .i64 b, .int .i64 (-64), .int .i64 64] (.bool (inB b (-64) 64)) A104 S90 (sameB (Within_any b (-64) 64 _)) Try.call22 (by kernel_rfl) (by kernel_rfl) (by kernel_rfl) rfl (fun ac wc A105 S106 => ?_)
          refine s_want (dj := 59) (b := (decide ((firstErr (mkT (cuts l) n) 0).2 = 0))) A105 (by kernel_rfl) (by kernel_rfl) h102 ?_
          refine s_one (.bool (!(inB b (-64) 64))) A105 S106 (g_un (u := .bool (inB b (-64) 64)) (by kernel_rfl) (fun _ => by kernel_rfl)) rfl (fun ac A108 => ?_)
          refine s_one (.bool (!(inB b (-64) 64))) A108 S106 (g_pick_t (b := (decide ((firstErr (mkT (cuts l) n) 0).2 = 0))) (by kernel_rfl) h102 (by kernel_rfl)) rfl (fun ac A109 => ?_)
          refine wpList_nil ?_
          refine n_then ?_
          exact ⟨(A109.slot (A109.slot (A109.slot (A109.slot (A109.slot (A109.slot (A109.slot (A109.slot (A109.slot (A109.slot (A109.slot (A109.slot (A109.slot (A109.slot (A109.slot (A109.slot (A109.slot (A109.slot (A109.slot (A109.slot (A109.slot (A109.slot (A109.slot (A109.slot (A109.slot (A109.slot (A109.slot (A109.slot (A109.slot (A109.slot (A109.slot (A109.slot (A109.slot (A109.slot (A109.slot (A109.slot (A109.slot (A109.slot (A109.slot (A109.slot (A109.slot (A109.slot (A109.slot (A109.slot (A109.slot (A109.slot A109.nil (v := .int .i64 ((firstErr (mkT (cuts l) n) 0).2)) (by kernel_rfl) rfl) (v := .int .i64 ((firstErr (mkT (cuts l) n) 0).2)) (by kernel_rfl) rfl) (v := .int .i64 ((firstErr (mkT (cuts r) m) 0).2)) (by kernel_rfl) rfl) (v := .int .i64 ((firstErr (mkT (cuts r) m) 0).1 : Int)) (by kernel_rfl) rfl) (v := .int .i64 ((firstErr (mkT (cuts r) m) 0).2)) (by kernel_rfl) rfl) (v := .int .i64 ((firstErr (mkT (cuts r) m) 0).1 : Int)) (by kernel_rfl) rfl) (v := .tuple #[.int .i64 ((firstErr (mkT (cuts r) m) 0).1 : Int), .int .i64 ((firstErr (mkT (cuts r) m) 0).2)]) (by kernel_rfl) rfl) (v := .tuple #[.int .i64 ((firstErr (mkT (cuts r) m) 0).1 : Int), .int .i64 ((firstErr (mkT (cuts r) m) 0).2)]) (by kernel_rfl) rfl) (v := .agg (trc (mkT (cuts r) m))) (by kernel_rfl) rfl) (v := .int .i64 ((firstErr (mkT (cuts l) n) 0).2)) (by kernel_rfl) rfl) (v := .int .i64 ((firstErr (mkT (cuts l) n) 0).1 : Int)) (by kernel_rfl) rfl) (v := .int .i64 ((firstErr (mkT (cuts l) n) 0).2)) (by kernel_rfl) rfl) (v := .int .i64 ((firstErr (mkT (cuts l) n) 0).1 : Int)) (by kernel_rfl) rfl) (v := .tuple #[.int .i64 ((firstErr (mkT (cuts l) n) 0).1 : Int), .int .i64 ((firstErr (mkT (cuts l) n) 0).2)]) (by kernel_rfl) rfl) (v := .tuple #[.int .i64 ((firstErr (mkT (cuts l) n) 0).1 : Int), .int .i64 ((firstErr (mkT (cuts l) n) 0).2)]) (by kernel_rfl) rfl) (v := .agg (trc (mkT (cuts l) n))) (by kernel_rfl) rfl) (v := .int .i64 ((shRes (mkT (cuts l) n) b).2)) (by kernel_rfl) rfl) (v := .pointer (some ⟨g74, 0, none⟩)) (by kernel_rfl) rfl) (v := .int .i64 ((shRes (mkT (cuts l) n) b).2)) (by kernel_rfl) rfl) (v := .agg (trc ((shRes (mkT (cuts l) n) b).1))) (by kernel_rfl) rfl) (v := .tuple #[.agg (trc ((shRes (mkT (cuts l) n) b).1)), .int .i64 ((shRes (mkT (cuts l) n) b).2)]) (by kernel_rfl) rfl) (v := .tuple #[.agg (trc ((shRes (mkT (cuts l) n) b).1)), .int .i64 ((shRes (mkT (cuts l) n) b).2)]) (by kernel_rfl) rfl) (v := .int .i64 b) (by kernel_rfl) rfl) (v := .agg (trc (mkT (cuts l) n))) (by kernel_rfl) rfl) (v := .int .i64 ((adRes (mkT (cuts l) n) (mkT (cuts r) m)).2)) (by kernel_rfl) rfl) (v := .pointer (some ⟨g59, 0, none⟩)) (by kernel_rfl) rfl) (v := .int .i64 ((adRes (mkT (cuts l) n) (mkT (cuts r) m)).2)) (by kernel_rfl) rfl) (v := .agg (trc ((adRes (mkT (cuts l) n) (mkT (cuts r) m)).1))) (by kernel_rfl) rfl) (v := .tuple #[.agg (trc ((adRes (mkT (cuts l) n) (mkT (cuts r) m)).1)), .int .i64 ((adRes (mkT (cuts l) n) (mkT (cuts r) m)).2)]) (by kernel_rfl) rfl) (v := .tuple #[.agg (trc ((adRes (mkT (cuts l) n) (mkT (cuts r) m)).1)), .int .i64 ((adRes (mkT (cuts l) n) (mkT (cuts r) m)).2)]) (by kernel_rfl) rfl) (v := .agg (trc (mkT (cuts r) m))) (by kernel_rfl) rfl) (v := .agg (trc (mkT (cuts l) n))) (by kernel_rfl) rfl) (v := .pointer (some ⟨g42, 0, none⟩)) (by kernel_rfl) rfl) (v := .pointer (some ⟨g39, 0, none⟩)) (by kernel_rfl) rfl) (v := .agg (trc (mkT (cuts r) m))) (by kernel_rfl) rfl) (v := .slice B m cap2) (by kernel_rfl) rfl) (v := .agg (trc (mkT (cuts l) n))) (by kernel_rfl) rfl) (v := .slice A n cap) (by kernel_rfl) rfl) (v := .bool ((decide ((n : Int) > 64)) || (decide ((m : Int) > 64)))) (by kernel_rfl) rfl) (v := .bool false) (by kernel_rfl) rfl) (v := .bool true) (by kernel_rfl) rfl) (v := .bool false) (by kernel_rfl) rfl) (v := .int .i64 b) (by kernel_rfl) rfl) (v := .slice B m cap2) (by kernel_rfl) rfl) (v := .slice A n cap) (by kernel_rfl) rfl) (v := .bool (!(inB b (-64) 64))) (by kernel_rfl) (congrArg Value.bool (b_and_t h102 (Eq.refl (!(inB b (-64) 64)))).symm)), S106.sub sub_all sub_all⟩
        · have p110 := of_decide_eq_false h102
          refine s_not (dj := 59) (b := (decide ((firstErr (mkT (cuts l) n) 0).2 = 0))) A101 (by kernel_rfl) (by kernel_rfl) h102 rfl (fun ac A111 => ?_)
          refine s_not (dj := 59) (b := (decide ((firstErr (mkT (cuts l) n) 0).2 = 0))) A111 (by kernel_rfl) (by kernel_rfl) h102 rfl (fun ac A112 => ?_)
          refine s_not (dj := 59) (b := (decide ((firstErr (mkT (cuts l) n) 0).2 = 0))) A112 (by kernel_rfl) (by kernel_rfl) h102 rfl (fun ac A113 => ?_)
          refine s_one (.bool false) A113 S90 (g_pick_f (b := (decide ((firstErr (mkT (cuts l) n) 0).2 = 0))) (by kernel_rfl) h102 (by kernel_rfl)) rfl (fun ac A114 => ?_)
          refine wpList_nil ?_
          refine n_then ?_
          exact ⟨(A114.slot (A114.slot (A114.slot (A114.slot (A114.slot (A114.slot (A114.slot (A114.slot (A114.slot (A114.slot (A114.slot (A114.slot (A114.slot (A114.slot (A114.slot (A114.slot (A114.slot (A114.slot (A114.slot (A114.slot (A114.slot (A114.slot (A114.slot (A114.slot (A114.slot (A114.slot (A114.slot (A114.slot (A114.slot (A114.slot (A114.slot (A114.slot (A114.slot (A114.slot (A114.slot (A114.slot (A114.slot (A114.slot (A114.slot (A114.slot (A114.slot (A114.slot (A114.slot (A114.slot (A114.slot (A114.slot A114.nil (v := .int .i64 ((firstErr (mkT (cuts l) n) 0).2)) (by kernel_rfl) rfl) (v := .int .i64 ((firstErr (mkT (cuts l) n) 0).2)) (by kernel_rfl) rfl) (v := .int .i64 ((firstErr (mkT (cuts r) m) 0).2)) (by kernel_rfl) rfl) (v := .int .i64 ((firstErr (mkT (cuts r) m) 0).1 : Int)) (by kernel_rfl) rfl) (v := .int .i64 ((firstErr (mkT (cuts r) m) 0).2)) (by kernel_rfl) rfl) (v := .int .i64 ((firstErr (mkT (cuts r) m) 0).1 : Int)) (by kernel_rfl) rfl) (v := .tuple #[.int .i64 ((firstErr (mkT (cuts r) m) 0).1 : Int), .int .i64 ((firstErr (mkT (cuts r) m) 0).2)]) (by kernel_rfl) rfl) (v := .tuple #[.int .i64 ((firstErr (mkT (cuts r) m) 0).1 : Int), .int .i64 ((firstErr (mkT (cuts r) m) 0).2)]) (by kernel_rfl) rfl) (v := .agg (trc (mkT (cuts r) m))) (by kernel_rfl) rfl) (v := .int .i64 ((firstErr (mkT (cuts l) n) 0).2)) (by kernel_rfl) rfl) (v := .int .i64 ((firstErr (mkT (cuts l) n) 0).1 : Int)) (by kernel_rfl) rfl) (v := .int .i64 ((firstErr (mkT (cuts l) n) 0).2)) (by kernel_rfl) rfl) (v := .int .i64 ((firstErr (mkT (cuts l) n) 0).1 : Int)) (by kernel_rfl) rfl) (v := .tuple #[.int .i64 ((firstErr (mkT (cuts l) n) 0).1 : Int), .int .i64 ((firstErr (mkT (cuts l) n) 0).2)]) (by kernel_rfl) rfl) (v := .tuple #[.int .i64 ((firstErr (mkT (cuts l) n) 0).1 : Int), .int .i64 ((firstErr (mkT (cuts l) n) 0).2)]) (by kernel_rfl) rfl) (v := .agg (trc (mkT (cuts l) n))) (by kernel_rfl) rfl) (v := .int .i64 ((shRes (mkT (cuts l) n) b).2)) (by kernel_rfl) rfl) (v := .pointer (some ⟨g74, 0, none⟩)) (by kernel_rfl) rfl) (v := .int .i64 ((shRes (mkT (cuts l) n) b).2)) (by kernel_rfl) rfl) (v := .agg (trc ((shRes (mkT (cuts l) n) b).1))) (by kernel_rfl) rfl) (v := .tuple #[.agg (trc ((shRes (mkT (cuts l) n) b).1)), .int .i64 ((shRes (mkT (cuts l) n) b).2)]) (by kernel_rfl) rfl) (v := .tuple #[.agg (trc ((shRes (mkT (cuts l) n) b).1)), .int .i64 ((shRes (mkT (cuts l) n) b).2)]) (by kernel_rfl) rfl) (v := .int .i64 b) (by kernel_rfl) rfl) (v := .agg (trc (mkT (cuts l) n))) (by kernel_rfl) rfl) (v := .int .i64 ((adRes (mkT (cuts l) n) (mkT (cuts r) m)).2)) (by kernel_rfl) rfl) (v := .pointer (some ⟨g59, 0, none⟩)) (by kernel_rfl) rfl) (v := .int .i64 ((adRes (mkT (cuts l) n) (mkT (cuts r) m)).2)) (by kernel_rfl) rfl) (v := .agg (trc ((adRes (mkT (cuts l) n) (mkT (cuts r) m)).1))) (by kernel_rfl) rfl) (v := .tuple #[.agg (trc ((adRes (mkT (cuts l) n) (mkT (cuts r) m)).1)), .int .i64 ((adRes (mkT (cuts l) n) (mkT (cuts r) m)).2)]) (by kernel_rfl) rfl) (v := .tuple #[.agg (trc ((adRes (mkT (cuts l) n) (mkT (cuts r) m)).1)), .int .i64 ((adRes (mkT (cuts l) n) (mkT (cuts r) m)).2)]) (by kernel_rfl) rfl) (v := .agg (trc (mkT (cuts r) m))) (by kernel_rfl) rfl) (v := .agg (trc (mkT (cuts l) n))) (by kernel_rfl) rfl) (v := .pointer (some ⟨g42, 0, none⟩)) (by kernel_rfl) rfl) (v := .pointer (some ⟨g39, 0, none⟩)) (by kernel_rfl) rfl) (v := .agg (trc (mkT (cuts r) m))) (by kernel_rfl) rfl) (v := .slice B m cap2) (by kernel_rfl) rfl) (v := .agg (trc (mkT (cuts l) n))) (by kernel_rfl) rfl) (v := .slice A n cap) (by kernel_rfl) rfl) (v := .bool ((decide ((n : Int) > 64)) || (decide ((m : Int) > 64)))) (by kernel_rfl) rfl) (v := .bool false) (by kernel_rfl) rfl) (v := .bool true) (by kernel_rfl) rfl) (v := .bool false) (by kernel_rfl) rfl) (v := .int .i64 b) (by kernel_rfl) rfl) (v := .slice B m cap2) (by kernel_rfl) rfl) (v := .slice A n cap) (by kernel_rfl) rfl) (v := .bool false) (by kernel_rfl) (congrArg Value.bool (b_af1 h102).symm)), S90.sub sub_all sub_all⟩
      · rintro ac wc ⟨A115, S116⟩
        refine n_then ?_
        refine c_ifb (b := ((decide ((firstErr (mkT (cuts l) n) 0).2 = 0)) && (!(inB b (-64) 64)))) A115 (by kernel_rfl) (fun h117 => ?_) (fun h117 => ?_)
        · have h118 := (Bool.and_eq_true_iff.1 h117).1
          have p119 := of_decide_eq_true h118
          have h120 := (Bool.and_eq_true_iff.1 h117).2
          have h121 : inB b (-64) 64 = false := by simpa using h120
          refine wp_region_lit ?_
          refine s_one (.int .i64 2) A115 S116 (g_assign (by kernel_rfl)) rfl (fun ac A122 => ?_)
          refine wpList_nil ?_
          refine n_then ?_
          refine wp_seq ?_
          refine wp_region_lit ?_
          refine s_alloc (trc zT) A122 S116 zero26 rfl (fun g125 ac wc A123 S124 => ?_)
          refine s_alloc (trc zT) A123 S124 zero26 rfl (fun g128 ac wc A126 S127 => ?_)
          refine wpList_nil ?_
          refine n_then ?_
          refine wp_seq ?_
          refine wp_seq ?_
          refine wp_region_lit ?_
          refine s_one (.int .i64 2) A126 S127 (g_move (by kernel_rfl)) rfl (fun ac A129 => ?_)
          refine s_one (.bool (decide (2 = 0))) A129 S127 (g_bin (u := .int .i64 2) (k := .int .i64 0) (by kernel_rfl) (by kernel_rfl) (fun _ => by kernel_rfl) b_eql) rfl (fun ac A130 => ?_)
          refine wpList_nil ?_
          refine n_then ?_
          refine c_f (b := (decide (2 = 0))) A130 (by kernel_rfl) (by decide) ?_
          refine wp_skip ?_
          refine n_then ?_
          refine wp_seq ?_
          refine wp_seq ?_
          refine wp_region_lit ?_
          refine s_one (.int .i64 ((firstErr (mkT (cuts l) n) 0).2)) A130 S127 (g_move (by kernel_rfl)) rfl (fun ac A131 => ?_)
          refine s_one (.bool (decide ((firstErr (mkT (cuts l) n) 0).2 = 0))) A131 S127 (g_bin (u := .int .i64 ((firstErr (mkT (cuts l) n) 0).2)) (k := .int .i64 0) (by kernel_rfl) (by kernel_rfl) (fun _ => by kernel_rfl) b_eql) rfl (fun ac A132 => ?_)
          refine wpList_nil ?_
          refine n_then ?_
          refine c_t (b := (decide ((firstErr (mkT (cuts l) n) 0).2 = 0))) A132 (by kernel_rfl) h118 ?_
          refine wp_region_lit ?_
          refine s_one (.int .i64 ((firstErr (mkT (cuts r) m) 0).2)) A132 S127 (g_move (by kernel_rfl)) rfl (fun ac A133 => ?_)
          refine s_one (.int .i64 ((firstErr (mkT (cuts r) m) 0).2)) A133 S127 (g_assign (by kernel_rfl)) rfl (fun ac A134 => ?_)
          refine wpList_nil ?_
          refine n_then ?_
          refine wp_seq ?_
          refine wp_seq ?_
          refine wp_region_lit ?_
          refine s_one (.int .i64 ((firstErr (mkT (cuts r) m) 0).2)) A134 S127 (g_move (by kernel_rfl)) rfl (fun ac A135 => ?_)
          refine s_one (.bool (decide ((firstErr (mkT (cuts r) m) 0).2 = 0))) A135 S127 (g_bin (u := .int .i64 ((firstErr (mkT (cuts r) m) 0).2)) (k := .int .i64 0) (by kernel_rfl) (by kernel_rfl) (fun _ => by kernel_rfl) b_eql) rfl (fun ac A136 => ?_)
          refine wpList_nil ?_
          refine n_then ?_
          refine c_ifb (b := (decide ((firstErr (mkT (cuts r) m) 0).2 = 0))) A136 (by kernel_rfl) (fun h137 => ?_) (fun h137 => ?_)
          · have p138 := of_decide_eq_true h137
            refine wp_region_lit ?_
            refine s_one (.agg (trc (mkT (cuts l) n))) A136 S127 (g_loadW (g := g39) 5 (by kernel_rfl) rfl ((trc_size _).trans (done_length _ _ _ _)) ⟨⟨_, Try.underlying26, rfl⟩, by kernel_rfl⟩) rfl (fun ac A139 => ?_)
            refine s_one (.agg (trc (mkT (cuts r) m))) A139 S127 (g_loadW (g := g42) 4 (by kernel_rfl) rfl ((trc_size _).trans (done_length _ _ _ _)) ⟨⟨_, Try.underlying26, rfl⟩, by kernel_rfl⟩) rfl (fun ac A140 => ?_)
            refine s_call (fs := #[]) (cp := #[]) (r := [(0, .agg (trc (mkT (cuts l) n))), (0, .agg (trc (mkT (cuts r) m)))]) #[.agg (trc (mkT (cuts l) n)), .agg (trc (mkT (cuts r) m))] (.tuple #[.agg (trc ((adRight (nums (mkT (cuts l) n)) (nums (mkT (cuts r) m))).1)), .int .i64 ((adRight (nums (mkT (cuts l) n)) (nums (mkT (cuts r) m))).2)]) A140 S127 (refAdded_s (mkT (cuts l) n) (mkT (cuts r) m) _ (done_length _ _ _ _) (done_length _ _ _ _) (right_of (by assumption)) (right_of (by assumption))) Try.call49 (by kernel_rfl) (by kernel_rfl) (by kernel_rfl) rfl (fun ac wc A141 S142 => ?_)
            refine s_one (.tuple #[.agg (trc ((adRight (nums (mkT (cuts l) n)) (nums (mkT (cuts r) m))).1)), .int .i64 ((adRight (nums (mkT (cuts l) n)) (nums (mkT (cuts r) m))).2)]) A141 S142 (g_move (by kernel_rfl)) rfl (fun ac A144 => ?_)
            refine s_one (.agg (trc ((adRight (nums (mkT (cuts l) n)) (nums (mkT (cuts r) m))).1))) A144 S142 (g_extract (u := .tuple #[.agg (trc ((adRight (nums (mkT (cuts l) n)) (nums (mkT (cuts r) m))).1)), .int .i64 ((adRight (nums (mkT (cuts l) n)) (nums (mkT (cuts r) m))).2)]) (by kernel_rfl) (fun _ => by kernel_rfl)) rfl (fun ac A145 => ?_)
            refine s_one (.int .i64 ((adRight (nums (mkT (cuts l) n)) (nums (mkT (cuts r) m))).2)) A145 S142 (g_extract (u := .tuple #[.agg (trc ((adRight (nums (mkT (cuts l) n)) (nums (mkT (cuts r) m))).1)), .int .i64 ((adRight (nums (mkT (cuts l) n)) (nums (mkT (cuts r) m))).2)]) (by kernel_rfl) (fun _ => by kernel_rfl)) rfl (fun ac A146 => ?_)
            refine s_store (g := g125) (off := 0) (v := .agg (trc ((adRight (nums (mkT (cuts l) n)) (nums (mkT (cuts r) m))).1))) 1 (trc ((adRight (nums (mkT (cuts l) n)) (nums (mkT (cuts r) m))).1)) A146 S142 (by kernel_rfl) (by kernel_rfl) rfl (putVal_whole ((trc_size _).trans zT_length) ((trc_size _).trans (adRight_length _ _)) ⟨⟨_, Try.underlying26, rfl⟩, by kernel_rfl⟩ (trc_one _)) (fun wc S148 => ?_)
            refine s_one (.int .i64 ((adRight (nums (mkT (cuts l) n)) (nums (mkT (cuts r) m))).2)) A146 S148 (g_assign (by kernel_rfl)) rfl (fun ac A150 => ?_)
            refine wpList_nil ?_
            refine n_then ?_
            refine wp_seq ?_
            refine wp_region_lit ?_
            refine s_one (.int .i64 ((adRes (mkT (cuts l) n) (mkT (cuts r) m)).2)) A150 S148 (g_move (by kernel_rfl)) rfl (fun ac A151 => ?_)
            refine s_one (.int .i64 ((adRight (nums (mkT (cuts l) n)) (nums (mkT (cuts r) m))).2)) A151 S148 (g_move (by kernel_rfl)) rfl (fun ac A152 => ?_)
            refine s_one (.bool (decide ((adRes (mkT (cuts l) n) (mkT (cuts r) m)).2 = (adRight (nums (mkT (cuts l) n)) (nums (mkT (cuts r) m))).2))) A152 S148 (g_bin (u := .int .i64 ((adRes (mkT (cuts l) n) (mkT (cuts r) m)).2)) (k := .int .i64 ((adRight (nums (mkT (cuts l) n)) (nums (mkT (cuts r) m))).2)) (by kernel_rfl) (by kernel_rfl) (fun _ => by kernel_rfl) b_eql) rfl (fun ac A153 => ?_)
            refine s_one (.bool (decide ((adRes (mkT (cuts l) n) (mkT (cuts r) m)).2 = (adRight (nums (mkT (cuts l) n)) (nums (mkT (cuts r) m))).2))) A153 S148 (g_move (by kernel_rfl)) rfl (fun ac A154 => ?_)
            refine s_want (dj := 83) (b := (decide ((adRes (mkT (cuts l) n) (mkT (cuts r) m)).2 = (adRight (nums (mkT (cuts l) n)) (nums (mkT (cuts r) m))).2))) A154 (by kernel_rfl) (by kernel_rfl) (decide_eq_true (by rw [(ad_r p119 p138)])) ?_
            refine s_one (.agg (trc ((adRes (mkT (cuts l) n) (mkT (cuts r) m)).1))) A154 S148 (g_loadW (g := g59) 3 (by kernel_rfl) rfl ((trc_size _).trans (adRes_length _ _)) ⟨⟨_, Try.underlying26, rfl⟩, by kernel_rfl⟩) rfl (fun ac A155 => ?_)
            refine s_want (dj := 83) (b := (decide ((adRes (mkT (cuts l) n) (mkT (cuts r) m)).2 = (adRight (nums (mkT (cuts l) n)) (nums (mkT (cuts r) m))).2))) A155 (by kernel_rfl) (by kernel_rfl) (decide_eq_true (by rw [(ad_r p119 p138)])) ?_
            refine s_one (.agg (trc ((adRight (nums (mkT (cuts l) n)) (nums (mkT (cuts r) m))).1))) A155 S148 (g_loadW (g := g125) 1 (by kernel_rfl) rfl ((trc_size _).trans (adRight_length _ _)) ⟨⟨_, Try.underlying26, rfl⟩, by kernel_rfl⟩) rfl (fun ac A156 => ?_)
            refine s_want (dj := 83) (b := (decide ((adRes (mkT (cuts l) n) (mkT (cuts r) m)).2 = (adRight (nums (mkT (cuts l) n)) (nums (mkT (cuts r) m))).2))) A156 (by kernel_rfl) (by kernel_rfl) (decide_eq_true (by rw [(ad_r p119 p138)])) ?_
            refine s_call (fs := #[]) (cp := #[]) (r := [(0, .agg (trc ((adRes (mkT (cuts l) n) (mkT (cuts r) m)).1))), (0, .agg (trc ((adRight (nums (mkT (cuts l) n)) (nums (mkT (cuts r) m))).1)))]) #[.agg (trc ((adRes (mkT (cuts l) n) (mkT (cuts r) m)).1)), .agg (trc ((adRight (nums (mkT (cuts l) n)) (nums (mkT (cuts r) m))).1))] (.bool true) A156 S148 (SameTrace_eq ((adRes (mkT (cuts l) n) (mkT (cuts r) m)).1) ((adRight (nums (mkT (cuts l) n)) (nums (mkT (cuts r) m))).1) (by rw [(ad_r p119 p138)]) _ (adRes_length _ _)) Try.call43 (by kernel_rfl) (by kernel_rfl) (by kernel_rfl) rfl (fun ac wc A157 S158 => ?_)
            refine s_one (.bool true) A157 S158 (g_pick_t (b := (decide ((adRes (mkT (cuts l) n) (mkT (cuts r) m)).2 = (adRight (nums (mkT (cuts l) n)) (nums (mkT (cuts r) m))).2))) (by kernel_rfl) (decide_eq_true (by rw [(ad_r p119 p138)])) (by kernel_rfl)) rfl (fun ac A160 => ?_)
            refine s_one (.bool true) A160 S158 (g_move (by kernel_rfl)) rfl (fun ac A161 => ?_)
            refine s_want (dj := 88) (b := true) A161 (by kernel_rfl) (by kernel_rfl) rfl ?_
            refine s_one (.int .i64 ((shRes (mkT (cuts l) n) b).2)) A161 S158 (g_move (by kernel_rfl)) rfl (fun ac A162 => ?_)
            refine s_want (dj := 88) (b := true) A162 (by kernel_rfl) (by kernel_rfl) rfl ?_
            refine s_one (.int .i64 2) A162 S158 (g_move (by kernel_rfl)) rfl (fun ac A163 => ?_)
            refine s_want (dj := 88) (b := true) A163 (by kernel_rfl) (by kernel_rfl) rfl ?_
            refine s_one (.bool (decide ((shRes (mkT (cuts l) n) b).2 = 2))) A163 S158 (g_bin (u := .int .i64 ((shRes (mkT (cuts l) n) b).2)) (k := .int .i64 2) (by kernel_rfl) (by kernel_rfl) (fun _ => by kernel_rfl) b_eql) rfl (fun ac A164 => ?_)
            refine s_one (.bool (decide ((shRes (mkT (cuts l) n) b).2 = 2))) A164 S158 (g_pick_t (b := true) (by kernel_rfl) rfl (by kernel_rfl)) rfl (fun ac A165 => ?_)
            refine s_one (.bool (decide ((shRes (mkT (cuts l) n) b).2 = 2))) A165 S158 (g_move (by kernel_rfl)) rfl (fun ac A166 => ?_)
            refine s_want (dj := 93) (b := (decide ((shRes (mkT (cuts l) n) b).2 = 2))) A166 (by kernel_rfl) (by kernel_rfl) (decide_eq_true (by rw [(sh_w2 p119 h121)])) ?_
            refine s_one (.agg (trc ((shRes (mkT (cuts l) n) b).1))) A166 S158 (g_loadW (g := g74) 2 (by kernel_rfl) rfl ((trc_size _).trans (shRes_length _ _)) ⟨⟨_, Try.underlying26, rfl⟩, by kernel_rfl⟩) rfl (fun ac A167 => ?_)
            refine s_want (dj := 93) (b := (decide ((shRes (mkT (cuts l) n) b).2 = 2))) A167 (by kernel_rfl) (by kernel_rfl) (decide_eq_true (by rw [(sh_w2 p119 h121)])) ?_
            refine s_one (.agg (trc zT)) A167 S158 (g_loadW (g := g128) 0 (by kernel_rfl) rfl ((trc_size _).trans zT_length) ⟨⟨_, Try.underlying26, rfl⟩, by kernel_rfl⟩) rfl (fun ac A168 => ?_)
            refine s_want (dj := 93) (b := (decide ((shRes (mkT (cuts l) n) b).2 = 2))) A168 (by kernel_rfl) (by kernel_rfl) (decide_eq_true (by rw [(sh_w2 p119 h121)])) ?_
            refine s_call (fs := #[]) (cp := #[]) (r := [(0, .agg (trc ((shRes (mkT (cuts l) n) b).1))), (0, .agg (trc zT))]) #[.agg (trc ((shRes (mkT (cuts l) n) b).1)), .agg (trc zT)] (.bool true) A168 S158 (SameTrace_eq ((shRes (mkT (cuts l) n) b).1) zT (by rw [(sh_w2 p119 h121)]) _ (shRes_length _ _)) Try.call43 (by kernel_rfl) (by kernel_rfl) (by kernel_rfl) rfl (fun ac wc A169 S170 => ?_)
            refine s_one (.bool true) A169 S170 (g_pick_t (b := (decide ((shRes (mkT (cuts l) n) b).2 = 2))) (by kernel_rfl) (decide_eq_true (by rw [(sh_w2 p119 h121)])) (by kernel_rfl)) rfl (fun ac A172 => ?_)
            refine s_one (.bool true) A172 S170 (g_assign (by kernel_rfl)) rfl (fun ac A173 => ?_)
            refine wpList_nil ?_
            refine n_then ?_
            refine wp_ret ?_
            refine fin1 (.bool true) Try.results12 A173 S170 (rv_tmp (by kernel_rfl)) ⟨?_, S170.kp⟩
            rfl
          · have p174 := of_decide_eq_false h137
            refine wp_skip ?_
            refine n_then ?_
            refine wp_seq ?_
            refine wp_region_lit ?_
            refine s_one (.int .i64 ((adRes (mkT (cuts l) n) (mkT (cuts r) m)).2)) A136 S127 (g_move (by kernel_rfl)) rfl (fun ac A175 => ?_)
            refine s_one (.int .i64 ((firstErr (mkT (cuts r) m) 0).2)) A175 S127 (g_move (by kernel_rfl)) rfl (fun ac A176 => ?_)
            refine s_one (.bool (decide ((adRes (mkT (cuts l) n) (mkT (cuts r) m)).2 = (firstErr (mkT (cuts r) m) 0).2))) A176 S127 (g_bin (u := .int .i64 ((adRes (mkT (cuts l) n) (mkT (cuts r) m)).2)) (k := .int .i64 ((firstErr (mkT (cuts r) m) 0).2)) (by kernel_rfl) (by kernel_rfl) (fun _ => by kernel_rfl) b_eql) rfl (fun ac A177 => ?_)
            refine s_one (.bool (decide ((adRes (mkT (cuts l) n) (mkT (cuts r) m)).2 = (firstErr (mkT (cuts r) m) 0).2))) A177 S127 (g_move (by kernel_rfl)) rfl (fun ac A178 => ?_)
            refine s_want (dj := 83) (b := (decide ((adRes (mkT (cuts l) n) (mkT (cuts r) m)).2 = (firstErr (mkT (cuts r) m) 0).2))) A178 (by kernel_rfl) (by kernel_rfl) (decide_eq_true (by rw [(ad_w2 p119 p174)])) ?_
            refine s_one (.agg (trc ((adRes (mkT (cuts l) n) (mkT (cuts r) m)).1))) A178 S127 (g_loadW (g := g59) 3 (by kernel_rfl) rfl ((trc_size _).trans (adRes_length _ _)) ⟨⟨_, Try.underlying26, rfl⟩, by kernel_rfl⟩) rfl (fun ac A179 => ?_)
            refine s_want (dj := 83) (b := (decide ((adRes (mkT (cuts l) n) (mkT (cuts r) m)).2 = (firstErr (mkT (cuts r) m) 0).2))) A179 (by kernel_rfl) (by kernel_rfl) (decide_eq_true (by rw [(ad_w2 p119 p174)])) ?_
            refine s_one (.agg (trc zT)) A179 S127 (g_loadW (g := g125) 1 (by kernel_rfl) rfl ((trc_size _).trans zT_length) ⟨⟨_, Try.underlying26, rfl⟩, by kernel_rfl⟩) rfl (fun ac A180 => ?_)
            refine s_want (dj := 83) (b := (decide ((adRes (mkT (cuts l) n) (mkT (cuts r) m)).2 = (firstErr (mkT (cuts r) m) 0).2))) A180 (by kernel_rfl) (by kernel_rfl) (decide_eq_true (by rw [(ad_w2 p119 p174)])) ?_
            refine s_call (fs := #[]) (cp := #[]) (r := [(0, .agg (trc ((adRes (mkT (cuts l) n) (mkT (cuts r) m)).1))), (0, .agg (trc zT))]) #[.agg (trc ((adRes (mkT (cuts l) n) (mkT (cuts r) m)).1)), .agg (trc zT)] (.bool true) A180 S127 (SameTrace_eq ((adRes (mkT (cuts l) n) (mkT (cuts r) m)).1) zT (by rw [(ad_w2 p119 p174)]) _ (adRes_length _ _)) Try.call43 (by kernel_rfl) (by kernel_rfl) (by kernel_rfl) rfl (fun ac wc A181 S182 => ?_)
            refine s_one (.bool true) A181 S182 (g_pick_t (b := (decide ((adRes (mkT (cuts l) n) (mkT (cuts r) m)).2 = (firstErr (mkT (cuts r) m) 0).2))) (by kernel_rfl) (decide_eq_true (by rw [(ad_w2 p119 p174)])) (by kernel_rfl)) rfl (fun ac A184 => ?_)
            refine s_one (.bool true) A184 S182 (g_move (by kernel_rfl)) rfl (fun ac A185 => ?_)
            refine s_want (dj := 88) (b := true) A185 (by kernel_rfl) (by kernel_rfl) rfl ?_
            refine s_one (.int .i64 ((shRes (mkT (cuts l) n) b).2)) A185 S182 (g_move (by kernel_rfl)) rfl (fun ac A186 => ?_)
            refine s_want (dj := 88) (b := true) A186 (by kernel_rfl) (by kernel_rfl) rfl ?_
            refine s_one (.int .i64 2) A186 S182 (g_move (by kernel_rfl)) rfl (fun ac A187 => ?_)
            refine s_want (dj := 88) (b := true) A187 (by kernel_rfl) (by kernel_rfl) rfl ?_
            refine s_one (.bool (decide ((shRes (mkT (cuts l) n) b).2 = 2))) A187 S182 (g_bin (u := .int .i64 ((shRes (mkT (cuts l) n) b).2)) (k := .int .i64 2) (by kernel_rfl) (by kernel_rfl) (fun _ => by kernel_rfl) b_eql) rfl (fun ac A188 => ?_)
            refine s_one (.bool (decide ((shRes (mkT (cuts l) n) b).2 = 2))) A188 S182 (g_pick_t (b := true) (by kernel_rfl) rfl (by kernel_rfl)) rfl (fun ac A189 => ?_)
            refine s_one (.bool (decide ((shRes (mkT (cuts l) n) b).2 = 2))) A189 S182 (g_move (by kernel_rfl)) rfl (fun ac A190 => ?_)
            refine s_want (dj := 93) (b := (decide ((shRes (mkT (cuts l) n) b).2 = 2))) A190 (by kernel_rfl) (by kernel_rfl) (decide_eq_true (by rw [(sh_w2 p119 h121)])) ?_
            refine s_one (.agg (trc ((shRes (mkT (cuts l) n) b).1))) A190 S182 (g_loadW (g := g74) 2 (by kernel_rfl) rfl ((trc_size _).trans (shRes_length _ _)) ⟨⟨_, Try.underlying26, rfl⟩, by kernel_rfl⟩) rfl (fun ac A191 => ?_)
            refine s_want (dj := 93) (b := (decide ((shRes (mkT (cuts l) n) b).2 = 2))) A191 (by kernel_rfl) (by kernel_rfl) (decide_eq_true (by rw [(sh_w2 p119 h121)])) ?_
            refine s_one (.agg (trc zT)) A191 S182 (g_loadW (g := g128) 0 (by kernel_rfl) rfl ((trc_size _).trans zT_length) ⟨⟨_, Try.underlying26, rfl⟩, by kernel_rfl⟩) rfl (fun ac A192 => ?_)
            refine s_want (dj := 93) (b := (decide ((shRes (mkT (cuts l) n) b).2 = 2))) A192 (by kernel_rfl) (by kernel_rfl) (decide_eq_true (by rw [(sh_w2 p119 h121)])) ?_
            refine s_call (fs := #[]) (cp := #[]) (r := [(0, .agg (trc ((shRes (mkT (cuts l) n) b).1))), (0, .agg (trc zT))]) #[.agg (trc ((shRes (mkT (cuts l) n) b).1)), .agg (trc zT)] (.bool true) A192 S182 (SameTrace_eq ((shRes (mkT (cuts l) n) b).1) zT (by rw [(sh_w2 p119 h121)]) _ (shRes_length _ _)) Try.call43 (by kernel_rfl) (by kernel_rfl) (by kernel_rfl) rfl (fun ac wc A193 S194 => ?_)
            refine s_one (.bool true) A193 S194 (g_pick_t (b := (decide ((shRes (mkT (cuts l) n) b).2 = 2))) (by kernel_rfl) (decide_eq_true (by rw [(sh_w2 p119 h121)])) (by kernel_rfl)) rfl (fun ac A196 => ?_)
            refine s_one (.bool true) A196 S194 (g_assign (by kernel_rfl)) rfl (fun ac A197 => ?_)
            refine wpList_nil ?_
            refine n_then ?_
            refine wp_ret ?_
            refine fin1 (.bool true) Try.results12 A197 S194 (rv_tmp (by kernel_rfl)) ⟨?_, S194.kp⟩
            rfl
        · refine wp_skip ?_
          refine n_then ?_
          refine wp_seq ?_
          refine wp_region_lit ?_
          refine s_alloc (trc zT) A115 S116 zero26 rfl (fun g200 ac wc A198 S199 => ?_)
          refine s_alloc (trc zT) A198 S199 zero26 rfl (fun g203 ac wc A201 S202 => ?_)
          refine wpList_nil ?_
          refine n_then ?_
          refine wp_seq ?_
          refine wp_seq ?_
          refine wp_region_lit ?_
          refine s_one (.int .i64 ((firstErr (mkT (cuts l) n) 0).2)) A201 S202 (g_move (by kernel_rfl)) rfl (fun ac A204 => ?_)
          refine s_one (.bool (decide ((firstErr (mkT (cuts l) n) 0).2 = 0))) A204 S202 (g_bin (u := .int .i64 ((firstErr (mkT (cuts l) n) 0).2)) (k := .int .i64 0) (by kernel_rfl) (by kernel_rfl) (fun _ => by kernel_rfl) b_eql) rfl (fun ac A205 => ?_)
          refine wpList_nil ?_
          refine n_then ?_
          refine c_ifb (b := (decide ((firstErr (mkT (cuts l) n) 0).2 = 0))) A205 (by kernel_rfl) (fun h206 => ?_) (fun h206 => ?_)
          · have p207 := of_decide_eq_true h206
            refine wp_region_lit ?_
            refine s_one (.agg (trc (mkT (cuts l) n))) A205 S202 (g_loadW (g := g39) 5 (by kernel_rfl) rfl ((trc_size _).trans (done_length _ _ _ _)) ⟨⟨_, Try.underlying26, rfl⟩, by kernel_rfl⟩) rfl (fun ac A208 => ?_)
            refine s_one (.int .i64 b) A208 S202 (g_move (by kernel_rfl)) rfl (fun ac A209 => ?_)
            refine s_call (fs := #[]) (cp := #[]) (r := [(0, .agg (trc (mkT (cuts l) n))), (0, .int .i64 b)]) #[.agg (trc (mkT (cuts l) n)), .int .i64 b] (.agg (trc (mkT (shL (nums (mkT (cuts l) n)) b) 64))) A209 S202 (refShifted_s (mkT (cuts l) n) b _ (done_length _ _ _ _) (right_of (by assumption)) (inB_true.1 (b_nnt (b_apr h117 h206)))) Try.call48 (by kernel_rfl) (by kernel_rfl) (by kernel_rfl) rfl (fun ac wc A210 S211 => ?_)
            refine s_store (g := g203) (off := 0) (v := .agg (trc (mkT (shL (nums (mkT (cuts l) n)) b) 64))) 0 (trc (mkT (shL (nums (mkT (cuts l) n)) b) 64)) A210 S211 (by kernel_rfl) (by kernel_rfl) rfl (putVal_whole ((trc_size _).trans zT_length) ((trc_size _).trans (done_length _ _ _ _)) ⟨⟨_, Try.underlying26, rfl⟩, by kernel_rfl⟩ (trc_one _)) (fun wc S214 => ?_)
            refine wpList_nil ?_
            refine n_then ?_
            refine wp_seq ?_
            refine wp_seq ?_
            refine wp_region_lit ?_
            refine s_one (.int .i64 ((firstErr (mkT (cuts l) n) 0).2)) A210 S214 (g_move (by kernel_rfl)) rfl (fun ac A216 => ?_)
            refine s_one (.bool (decide ((firstErr (mkT (cuts l) n) 0).2 = 0))) A216 S214 (g_bin (u := .int .i64 ((firstErr (mkT (cuts l) n) 0).2)) (k := .int .i64 0) (by kernel_rfl) (by kernel_rfl) (fun _ => by kernel_rfl) b_eql) rfl (fun ac A217 => ?_)
            refine wpList_nil ?_
            refine n_then ?_
            refine c_t (b := (decide ((firstErr (mkT (cuts l) n) 0).2 = 0))) A217 (by kernel_rfl) h206 ?_
            refine wp_region_lit ?_
            refine s_one (.int .i64 ((firstErr (mkT (cuts r) m) 0).2)) A217 S214 (g_move (by kernel_rfl)) rfl (fun ac A218 => ?_)
            refine s_one (.int .i64 ((firstErr (mkT (cuts r) m) 0).2)) A218 S214 (g_assign (by kernel_rfl)) rfl (fun ac A219 => ?_)
            refine wpList_nil ?_
            refine n_then ?_
            refine wp_seq ?_
            refine wp_seq ?_
            refine wp_region_lit ?_
            refine s_one (.int .i64 ((firstErr (mkT (cuts r) m) 0).2)) A219 S214 (g_move (by kernel_rfl)) rfl (fun ac A220 => ?_)
            refine s_one (.bool (decide ((firstErr (mkT (cuts r) m) 0).2 = 0))) A220 S214 (g_bin (u := .int .i64 ((firstErr (mkT (cuts r) m) 0).2)) (k := .int .i64 0) (by kernel_rfl) (by kernel_rfl) (fun _ => by kernel_rfl) b_eql) rfl (fun ac A221 => ?_)
            refine wpList_nil ?_
            refine n_then ?_
            refine c_ifb (b := (decide ((firstErr (mkT (cuts r) m) 0).2 = 0))) A221 (by kernel_rfl) (fun h222 => ?_) (fun h222 => ?_)
            · have p223 := of_decide_eq_true h222
              refine wp_region_lit ?_
              refine s_one (.agg (trc (mkT (cuts l) n))) A221 S214 (g_loadW (g := g39) 5 (by kernel_rfl) rfl ((trc_size _).trans (done_length _ _ _ _)) ⟨⟨_, Try.underlying26, rfl⟩, by kernel_rfl⟩) rfl (fun ac A224 => ?_)
              refine s_one (.agg (trc (mkT (cuts r) m))) A224 S214 (g_loadW (g := g42) 4 (by kernel_rfl) rfl ((trc_size _).trans (done_length _ _ _ _)) ⟨⟨_, Try.underlying26, rfl⟩, by kernel_rfl⟩) rfl (fun ac A225 => ?_)
              refine s_call (fs := #[]) (cp := #[]) (r := [(0, .agg (trc (mkT (cuts l) n))), (0, .agg (trc (mkT (cuts r) m)))]) #[.agg (trc (mkT (cuts l) n)), .agg (trc (mkT (cuts r) m))] (.tuple #[.agg (trc ((adRight (nums (mkT (cuts l) n)) (nums (mkT (cuts r) m))).1)), .int .i64 ((adRight (nums (mkT (cuts l) n)) (nums (mkT (cuts r) m))).2)]) A225 S214 (refAdded_s (mkT (cuts l) n) (mkT (cuts r) m) _ (done_length _ _ _ _) (done_length _ _ _ _) (right_of (by assumption)) (right_of (by assumption))) Try.call49 (by kernel_rfl) (by kernel_rfl) (by kernel_rfl) rfl (fun ac wc A226 S227 => ?_)
              refine s_one (.tuple #[.agg (trc ((adRight (nums (mkT (cuts l) n)) (nums (mkT (cuts r) m))).1)), .int .i64 ((adRight (nums (mkT (cuts l) n)) (nums (mkT (cuts r) m))).2)]) A226 S227 (g_move (by kernel_rfl)) rfl (fun ac A229 => ?_)
              refine s_one (.agg (trc ((adRight (nums (mkT (cuts l) n)) (nums (mkT (cuts r) m))).1))) A229 S227 (g_extract (u := .tuple #[.agg (trc ((adRight (nums (mkT (cuts l) n)) (nums (mkT (cuts r) m))).1)), .int .i64 ((adRight (nums (mkT (cuts l) n)) (nums (mkT (cuts r) m))).2)]) (by kernel_rfl) (fun _ => by kernel_rfl)) rfl (fun ac A230 => ?_)
              refine s_one (.int .i64 ((adRight (nums (mkT (cuts l) n)) (nums (mkT (cuts r) m))).2)) A230 S227 (g_extract (u := .tuple #[.agg (trc ((adRight (nums (mkT (cuts l) n)) (nums (mkT (cuts r) m))).1)), .int .i64 ((adRight (nums (mkT (cuts l) n)) (nums (mkT (cuts r) m))).2)]) (by kernel_rfl) (fun _ => by kernel_rfl)) rfl (fun ac A231 => ?_)
              refine s_store (g := g200) (off := 0) (v := .agg (trc ((adRight (nums (mkT (cuts l) n)) (nums (mkT (cuts r) m))).1))) 1 (trc ((adRight (nums (mkT (cuts l) n)) (nums (mkT (cuts r) m))).1)) A231 S227 (by kernel_rfl) (by kernel_rfl) rfl (putVal_whole ((trc_size _).trans zT_length) ((trc_size _).trans (adRight_length _ _)) ⟨⟨_, Try.underlying26, rfl⟩, by kernel_rfl⟩ (trc_one _)) (fun wc S233 => ?_)
              refine s_one (.int .i64 ((adRight (nums (mkT (cuts l) n)) (nums (mkT (cuts r) m))).2)) A231 S233 (g_assign (by kernel_rfl)) rfl (fun ac A235 => ?_)
              refine wpList_nil ?_
              refine n_then ?_
              refine wp_seq ?_
              refine wp_region_lit ?_
              refine s_one (.int .i64 ((adRes (mkT (cuts l) n) (mkT (cuts r) m)).2)) A235 S233 (g_move (by kernel_rfl)) rfl (fun ac A236 => ?_)
              refine s_one (.int .i64 ((adRight (nums (mkT (cuts l) n)) (nums (mkT (cuts r) m))).2)) A236 S233 (g_move (by kernel_rfl)) rfl (fun ac A237 => ?_)
              refine s_one (.bool (decide ((adRes (mkT (cuts l) n) (mkT (cuts r) m)).2 = (adRight (nums (mkT (cuts l) n)) (nums (mkT (cuts r) m))).2))) A237 S233 (g_bin (u := .int .i64 ((adRes (mkT (cuts l) n) (mkT (cuts r) m)).2)) (k := .int .i64 ((adRight (nums (mkT (cuts l) n)) (nums (mkT (cuts r) m))).2)) (by kernel_rfl) (by kernel_rfl) (fun _ => by kernel_rfl) b_eql) rfl (fun ac A238 => ?_)
              refine s_one (.bool (decide ((adRes (mkT (cuts l) n) (mkT (cuts r) m)).2 = (adRight (nums (mkT (cuts l) n)) (nums (mkT (cuts r) m))).2))) A238 S233 (g_move (by kernel_rfl)) rfl (fun ac A239 => ?_)
              refine s_want (dj := 83) (b := (decide ((adRes (mkT (cuts l) n) (mkT (cuts r) m)).2 = (adRight (nums (mkT (cuts l) n)) (nums (mkT (cuts r) m))).2))) A239 (by kernel_rfl) (by kernel_rfl) (decide_eq_true (by rw [(ad_r p207 p223)])) ?_
              refine s_one (.agg (trc ((adRes (mkT (cuts l) n) (mkT (cuts r) m)).1))) A239 S233 (g_loadW (g := g59) 3 (by kernel_rfl) rfl ((trc_size _).trans (adRes_length _ _)) ⟨⟨_, Try.underlying26, rfl⟩, by kernel_rfl⟩) rfl (fun ac A240 => ?_)
              refine s_want (dj := 83) (b := (decide ((adRes (mkT (cuts l) n) (mkT (cuts r) m)).2 = (adRight (nums (mkT (cuts l) n)) (nums (mkT (cuts r) m))).2))) A240 (by kernel_rfl) (by kernel_rfl) (decide_eq_true (by rw [(ad_r p207 p223)])) ?_
              refine s_one (.agg (trc ((adRight (nums (mkT (cuts l) n)) (nums (mkT (cuts r) m))).1))) A240 S233 (g_loadW (g := g200) 1 (by kernel_rfl) rfl ((trc_size _).trans (adRight_length _ _)) ⟨⟨_, Try.underlying26, rfl⟩, by kernel_rfl⟩) rfl (fun ac A241 => ?_)
              refine s_want (dj := 83) (b := (decide ((adRes (mkT (cuts l) n) (mkT (cuts r) m)).2 = (adRight (nums (mkT (cuts l) n)) (nums (mkT (cuts r) m))).2))) A241 (by kernel_rfl) (by kernel_rfl) (decide_eq_true (by rw [(ad_r p207 p223)])) ?_
              refine s_call (fs := #[]) (cp := #[]) (r := [(0, .agg (trc ((adRes (mkT (cuts l) n) (mkT (cuts r) m)).1))), (0, .agg (trc ((adRight (nums (mkT (cuts l) n)) (nums (mkT (cuts r) m))).1)))]) #[.agg (trc ((adRes (mkT (cuts l) n) (mkT (cuts r) m)).1)), .agg (trc ((adRight (nums (mkT (cuts l) n)) (nums (mkT (cuts r) m))).1))] (.bool true) A241 S233 (SameTrace_eq ((adRes (mkT (cuts l) n) (mkT (cuts r) m)).1) ((adRight (nums (mkT (cuts l) n)) (nums (mkT (cuts r) m))).1) (by rw [(ad_r p207 p223)]) _ (adRes_length _ _)) Try.call43 (by kernel_rfl) (by kernel_rfl) (by kernel_rfl) rfl (fun ac wc A242 S243 => ?_)
              refine s_one (.bool true) A242 S243 (g_pick_t (b := (decide ((adRes (mkT (cuts l) n) (mkT (cuts r) m)).2 = (adRight (nums (mkT (cuts l) n)) (nums (mkT (cuts r) m))).2))) (by kernel_rfl) (decide_eq_true (by rw [(ad_r p207 p223)])) (by kernel_rfl)) rfl (fun ac A245 => ?_)
              refine s_one (.bool true) A245 S243 (g_move (by kernel_rfl)) rfl (fun ac A246 => ?_)
              refine s_want (dj := 88) (b := true) A246 (by kernel_rfl) (by kernel_rfl) rfl ?_
              refine s_one (.int .i64 ((shRes (mkT (cuts l) n) b).2)) A246 S243 (g_move (by kernel_rfl)) rfl (fun ac A247 => ?_)
              refine s_want (dj := 88) (b := true) A247 (by kernel_rfl) (by kernel_rfl) rfl ?_
              refine s_one (.int .i64 ((firstErr (mkT (cuts l) n) 0).2)) A247 S243 (g_move (by kernel_rfl)) rfl (fun ac A248 => ?_)
              refine s_want (dj := 88) (b := true) A248 (by kernel_rfl) (by kernel_rfl) rfl ?_
              refine s_one (.bool (decide ((shRes (mkT (cuts l) n) b).2 = (firstErr (mkT (cuts l) n) 0).2))) A248 S243 (g_bin (u := .int .i64 ((shRes (mkT (cuts l) n) b).2)) (k := .int .i64 ((firstErr (mkT (cuts l) n) 0).2)) (by kernel_rfl) (by kernel_rfl) (fun _ => by kernel_rfl) b_eql) rfl (fun ac A249 => ?_)
              refine s_one (.bool (decide ((shRes (mkT (cuts l) n) b).2 = (firstErr (mkT (cuts l) n) 0).2))) A249 S243 (g_pick_t (b := true) (by kernel_rfl) rfl (by kernel_rfl)) rfl (fun ac A250 => ?_)
              refine s_one (.bool (decide ((shRes (mkT (cuts l) n) b).2 = (firstErr (mkT (cuts l) n) 0).2))) A250 S243 (g_move (by kernel_rfl)) rfl (fun ac A251 => ?_)
              refine s_want (dj := 93) (b := (decide ((shRes (mkT (cuts l) n) b).2 = (firstErr (mkT (cuts l) n) 0).2))) A251 (by kernel_rfl) (by kernel_rfl) (decide_eq_true (by rw [(sh_r p207 (b_nnt (b_apr h117 h206)))]; show (0 : Int) = _; omega)) ?_
              refine s_one (.agg (trc ((shRes (mkT (cuts l) n) b).1))) A251 S243 (g_loadW (g := g74) 2 (by kernel_rfl) rfl ((trc_size _).trans (shRes_length _ _)) ⟨⟨_, Try.underlying26, rfl⟩, by kernel_rfl⟩) rfl (fun ac A252 => ?_)
              refine s_want (dj := 93) (b := (decide ((shRes (mkT (cuts l) n) b).2 = (firstErr (mkT (cuts l) n) 0).2))) A252 (by kernel_rfl) (by kernel_rfl) (decide_eq_true (by rw [(sh_r p207 (b_nnt (b_apr h117 h206)))]; show (0 : Int) = _; omega)) ?_
              refine s_one (.agg (trc (mkT (shL (nums (mkT (cuts l) n)) b) 64))) A252 S243 (g_loadW (g := g203) 0 (by kernel_rfl) rfl ((trc_size _).trans (done_length _ _ _ _)) ⟨⟨_, Try.underlying26, rfl⟩, by kernel_rfl⟩) rfl (fun ac A253 => ?_)
              refine s_want (dj := 93) (b := (decide ((shRes (mkT (cuts l) n) b).2 = (firstErr (mkT (cuts l) n) 0).2))) A253 (by kernel_rfl) (by kernel_rfl) (decide_eq_true (by rw [(sh_r p207 (b_nnt (b_apr h117 h206)))]; show (0 : Int) = _; omega)) ?_
              refine s_call (fs := #[]) (cp := #[]) (r := [(0, .agg (trc ((shRes (mkT (cuts l) n) b).1))), (0, .agg (trc (mkT (shL (nums (mkT (cuts l) n)) b) 64)))]) #[.agg (trc ((shRes (mkT (cuts l) n) b).1)), .agg (trc (mkT (shL (nums (mkT (cuts l) n)) b) 64))] (.bool true) A253 S243 (SameTrace_eq ((shRes (mkT (cuts l) n) b).1) (mkT (shL (nums (mkT (cuts l) n)) b) 64) (by rw [(sh_r p207 (b_nnt (b_apr h117 h206)))]) _ (shRes_length _ _)) Try.call43 (by kernel_rfl) (by kernel_rfl) (by kernel_rfl) rfl (fun ac wc A254 S255 => ?_)
              refine s_one (.bool true) A254 S255 (g_pick_t (b := (decide ((shRes (mkT (cuts l) n) b).2 = (firstErr (mkT (cuts l) n) 0).2))) (by kernel_rfl) (decide_eq_true (by rw [(sh_r p207 (b_nnt (b_apr h117 h206)))]; show (0 : Int) = _; omega)) (by kernel_rfl)) rfl (fun ac A257 => ?_)
              refine s_one (.bool true) A257 S255 (g_assign (by kernel_rfl)) rfl (fun ac A258 => ?_)
              refine wpList_nil ?_
              refine n_then ?_
              refine wp_ret ?_
              refine fin1 (.bool true) Try.results12 A258 S255 (rv_tmp (by kernel_rfl)) ⟨?_, S255.kp⟩
              rfl
            · have p259 := of_decide_eq_false h222
              refine wp_skip ?_
              refine n_then ?_
              refine wp_seq ?_
              refine wp_region_lit ?_
              refine s_one (.int .i64 ((adRes (mkT (cuts l) n) (mkT (cuts r) m)).2)) A221 S214 (g_move (by kernel_rfl)) rfl (fun ac A260 => ?_)
              refine s_one (.int .i64 ((firstErr (mkT (cuts r) m) 0).2)) A260 S214 (g_move (by kernel_rfl)) rfl (fun ac A261 => ?_)
              refine s_one (.bool (decide ((adRes (mkT (cuts l) n) (mkT (cuts r) m)).2 = (firstErr (mkT (cuts r) m) 0).2))) A261 S214 (g_bin (u := .int .i64 ((adRes (mkT (cuts l) n) (mkT (cuts r) m)).2)) (k := .int .i64 ((firstErr (mkT (cuts r) m) 0).2)) (by kernel_rfl) (by kernel_rfl) (fun _ => by kernel_rfl) b_eql) rfl (fun ac A262 => ?_)
              refine s_one (.bool (decide ((adRes (mkT (cuts l) n) (mkT (cuts r) m)).2 = (firstErr (mkT (cuts r) m) 0).2))) A262 S214 (g_move (by kernel_rfl)) rfl (fun ac A263 => ?_)
              refine s_want (dj := 83) (b := (decide ((adRes (mkT (cuts l) n) (mkT (cuts r) m)).2 = (firstErr (mkT (cuts r) m) 0).2))) A263 (by kernel_rfl) (by kernel_rfl) (decide_eq_true (by rw [(ad_w2 p207 p259)])) ?_
              refine s_one (.agg (trc ((adRes (mkT (cuts l) n) (mkT (cuts r) m)).1))) A263 S214 (g_loadW (g := g59) 3 (by kernel_rfl) rfl ((trc_size _).trans (adRes_length _ _)) ⟨⟨_, Try.underlying26, rfl⟩, by kernel_rfl⟩) rfl (fun ac A264 => ?_)
              refine s_want (dj := 83) (b := (decide ((adRes (mkT (cuts l) n) (mkT (cuts r) m)).2 = (firstErr (mkT (cuts r) m) 0).2))) A264 (by kernel_rfl) (by kernel_rfl) (decide_eq_true (by rw [(ad_w2 p207 p259)])) ?_
              refine s_one (.agg (trc zT)) A264 S214 (g_loadW (g := g200) 1 (by kernel_rfl) rfl ((trc_size _).trans zT_length) ⟨⟨_, Try.underlying26, rfl⟩, by kernel_rfl⟩) rfl (fun ac A265 => ?_)
              refine s_want (dj := 83) (b := (decide ((adRes (mkT (cuts l) n) (mkT (cuts r) m)).2 = (firstErr (mkT (cuts r) m) 0).2))) A265 (by kernel_rfl) (by kernel_rfl) (decide_eq_true (by rw [(ad_w2 p207 p259)])) ?_
              refine s_call (fs := #[]) (cp := #[]) (r := [(0, .agg (trc ((adRes (mkT (cuts l) n) (mkT (cuts r) m)).1))), (0, .agg (trc zT))]) #[.agg (trc ((adRes (mkT (cuts l) n) (mkT (cuts r) m)).1)), .agg (trc zT)] (.bool true) A265 S214 (SameTrace_eq ((adRes (mkT (cuts l) n) (mkT (cuts r) m)).1) zT (by rw [(ad_w2 p207 p259)]) _ (adRes_length _ _)) Try.call43 (by kernel_rfl) (by kernel_rfl) (by kernel_rfl) rfl (fun ac wc A266 S267 => ?_)
              refine s_one (.bool true) A266 S267 (g_pick_t (b := (decide ((adRes (mkT (cuts l) n) (mkT (cuts r) m)).2 = (firstErr (mkT (cuts r) m) 0).2))) (by kernel_rfl) (decide_eq_true (by rw [(ad_w2 p207 p259)])) (by kernel_rfl)) rfl (fun ac A269 => ?_)
              refine s_one (.bool true) A269 S267 (g_move (by kernel_rfl)) rfl (fun ac A270 => ?_)
              refine s_want (dj := 88) (b := true) A270 (by kernel_rfl) (by kernel_rfl) rfl ?_
              refine s_one (.int .i64 ((shRes (mkT (cuts l) n) b).2)) A270 S267 (g_move (by kernel_rfl)) rfl (fun ac A271 => ?_)
              refine s_want (dj := 88) (b := true) A271 (by kernel_rfl) (by kernel_rfl) rfl ?_
              refine s_one (.int .i64 ((firstErr (mkT (cuts l) n) 0).2)) A271 S267 (g_move (by kernel_rfl)) rfl (fun ac A272 => ?_)
              refine s_want (dj := 88) (b := true) A272 (by kernel_rfl) (by kernel_rfl) rfl ?_
              refine s_one (.bool (decide ((shRes (mkT (cuts l) n) b).2 = (firstErr (mkT (cuts l) n) 0).2))) A272 S267 (g_bin (u := .int .i64 ((shRes (mkT (cuts l) n) b).2)) (k := .int .i64 ((firstErr (mkT (cuts l) n) 0).2)) (by kernel_rfl) (by kernel_rfl) (fun _ => by kernel_rfl) b_eql) rfl (fun ac A273 => ?_)
              refine s_one (.bool (decide ((shRes (mkT (cuts l) n) b).2 = (firstErr (mkT (cuts l) n) 0).2))) A273 S267 (g_pick_t (b := true) (by kernel_rfl) rfl (by kernel_rfl)) rfl (fun ac A274 => ?_)
              refine s_one (.bool (decide ((shRes (mkT (cuts l) n) b).2 = (firstErr (mkT (cuts l) n) 0).2))) A274 S267 (g_move (by kernel_rfl)) rfl (fun ac A275 => ?_)
              refine s_want (dj := 93) (b := (decide ((shRes (mkT (cuts l) n) b).2 = (firstErr (mkT (cuts l) n) 0).2))) A275 (by kernel_rfl) (by kernel_rfl) (decide_eq_true (by rw [(sh_r p207 (b_nnt (b_apr h117 h206)))]; show (0 : Int) = _; omega)) ?_
              refine s_one (.agg (trc ((shRes (mkT (cuts l) n) b).1))) A275 S267 (g_loadW (g := g74) 2 (by kernel_rfl) rfl ((trc_size _).trans (shRes_length _ _)) ⟨⟨_, Try.underlying26, rfl⟩, by kernel_rfl⟩) rfl (fun ac A276 => ?_)
              refine s_want (dj := 93) (b := (decide ((shRes (mkT (cuts l) n) b).2 = (firstErr (mkT (cuts l) n) 0).2))) A276 (by kernel_rfl) (by kernel_rfl) (decide_eq_true (by rw [(sh_r p207 (b_nnt (b_apr h117 h206)))]; show (0 : Int) = _; omega)) ?_
              refine s_one (.agg (trc (mkT (shL (nums (mkT (cuts l) n)) b) 64))) A276 S267 (g_loadW (g := g203) 0 (by kernel_rfl) rfl ((trc_size _).trans (done_length _ _ _ _)) ⟨⟨_, Try.underlying26, rfl⟩, by kernel_rfl⟩) rfl (fun ac A277 => ?_)
              refine s_want (dj := 93) (b := (decide ((shRes (mkT (cuts l) n) b).2 = (firstErr (mkT (cuts l) n) 0).2))) A277 (by kernel_rfl) (by kernel_rfl) (decide_eq_true (by rw [(sh_r p207 (b_nnt (b_apr h117 h206)))]; show (0 : Int) = _; omega)) ?_
              refine s_call (fs := #[]) (cp := #[]) (r := [(0, .agg (trc ((shRes (mkT (cuts l) n) b).1))), (0, .agg (trc (mkT (shL (nums (mkT (cuts l) n)) b) 64)))]) #[.agg (trc ((shRes (mkT (cuts l) n) b).1)), .agg (trc (mkT (shL (nums (mkT (cuts l) n)) b) 64))] (.bool true) A277 S267 (SameTrace_eq ((shRes (mkT (cuts l) n) b).1) (mkT (shL (nums (mkT (cuts l) n)) b) 64) (by rw [(sh_r p207 (b_nnt (b_apr h117 h206)))]) _ (shRes_length _ _)) Try.call43 (by kernel_rfl) (by kernel_rfl) (by kernel_rfl) rfl (fun ac wc A278 S279 => ?_)
              refine s_one (.bool true) A278 S279 (g_pick_t (b := (decide ((shRes (mkT (cuts l) n) b).2 = (firstErr (mkT (cuts l) n) 0).2))) (by kernel_rfl) (decide_eq_true (by rw [(sh_r p207 (b_nnt (b_apr h117 h206)))]; show (0 : Int) = _; omega)) (by kernel_rfl)) rfl (fun ac A281 => ?_)
              refine s_one (.bool true) A281 S279 (g_assign (by kernel_rfl)) rfl (fun ac A282 => ?_)
              refine wpList_nil ?_
              refine n_then ?_
              refine wp_ret ?_
              refine fin1 (.bool true) Try.results12 A282 S279 (rv_tmp (by kernel_rfl)) ⟨?_, S279.kp⟩
              rfl
          · have p283 := of_decide_eq_false h206
            refine wp_skip ?_
            refine n_then ?_
            refine wp_seq ?_
            refine wp_seq ?_
            refine wp_region_lit ?_
            refine s_one (.int .i64 ((firstErr (mkT (cuts l) n) 0).2)) A205 S202 (g_move (by kernel_rfl)) rfl (fun ac A284 => ?_)
            refine s_one (.bool (decide ((firstErr (mkT (cuts l) n) 0).2 = 0))) A284 S202 (g_bin (u := .int .i64 ((firstErr (mkT (cuts l) n) 0).2)) (k := .int .i64 0) (by kernel_rfl) (by kernel_rfl) (fun _ => by kernel_rfl) b_eql) rfl (fun ac A285 => ?_)
            refine wpList_nil ?_
            refine n_then ?_
            refine c_f (b := (decide ((firstErr (mkT (cuts l) n) 0).2 = 0))) A285 (by kernel_rfl) h206 ?_
            refine wp_skip ?_
            refine n_then ?_
            refine wp_seq ?_
            refine wp_seq ?_
            refine wp_region_lit ?_
            refine s_one (.int .i64 ((firstErr (mkT (cuts l) n) 0).2)) A285 S202 (g_move (by kernel_rfl)) rfl (fun ac A286 => ?_)
            refine s_one (.bool (decide ((firstErr (mkT (cuts l) n) 0).2 = 0))) A286 S202 (g_bin (u := .int .i64 ((firstErr (mkT (cuts l) n) 0).2)) (k := .int .i64 0) (by kernel_rfl) (by kernel_rfl) (fun _ => by kernel_rfl) b_eql) rfl (fun ac A287 => ?_)
            refine wpList_nil ?_
            refine n_then ?_
            refine c_f (b := (decide ((firstErr (mkT (cuts l) n) 0).2 = 0))) A287 (by kernel_rfl) h206 ?_
            refine wp_skip ?_
            refine n_then ?_
            refine wp_seq ?_
            refine wp_region_lit ?_
            refine s_one (.int .i64 ((adRes (mkT (cuts l) n) (mkT (cuts r) m)).2)) A287 S202 (g_move (by kernel_rfl)) rfl (fun ac A288 => ?_)
            refine s_one (.int .i64 ((firstErr (mkT (cuts l) n) 0).2)) A288 S202 (g_move (by kernel_rfl)) rfl (fun ac A289 => ?_)
            refine s_one (.bool (decide ((adRes (mkT (cuts l) n) (mkT (cuts r) m)).2 = (firstErr (mkT (cuts l) n) 0).2))) A289 S202 (g_bin (u := .int .i64 ((adRes (mkT (cuts l) n) (mkT (cuts r) m)).2)) (k := .int .i64 ((firstErr (mkT (cuts l) n) 0).2)) (by kernel_rfl) (by kernel_rfl) (fun _ => by kernel_rfl) b_eql) rfl (fun ac A290 => ?_)
            refine s_one (.bool (decide ((adRes (mkT (cuts l) n) (mkT (cuts r) m)).2 = (firstErr (mkT (cuts l) n) 0).2))) A290 S202 (g_move (by kernel_rfl)) rfl (fun ac A291 => ?_)
            refine s_want (dj := 83) (b := (decide ((adRes (mkT (cuts l) n) (mkT (cuts r) m)).2 = (firstErr (mkT (cuts l) n) 0).2))) A291 (by kernel_rfl) (by kernel_rfl) (decide_eq_true (by rw [(ad_w1 p283)])) ?_
            refine s_one (.agg (trc ((adRes (mkT (cuts l) n) (mkT (cuts r) m)).1))) A291 S202 (g_loadW (g := g59) 3 (by kernel_rfl) rfl ((trc_size _).trans (adRes_length _ _)) ⟨⟨_, Try.underlying26, rfl⟩, by kernel_rfl⟩) rfl (fun ac A292 => ?_)
            refine s_want (dj := 83) (b := (decide ((adRes (mkT (cuts l) n) (mkT (cuts r) m)).2 = (firstErr (mkT (cuts l) n) 0).2))) A292 (by kernel_rfl) (by kernel_rfl) (decide_eq_true (by rw [(ad_w1 p283)])) ?_
            refine s_one (.agg (trc zT)) A292 S202 (g_loadW (g := g200) 1 (by kernel_rfl) rfl ((trc_size _).trans zT_length) ⟨⟨_, Try.underlying26, rfl⟩, by kernel_rfl⟩) rfl (fun ac A293 => ?_)
            refine s_want (dj := 83) (b := (decide ((adRes (mkT (cuts l) n) (mkT (cuts r) m)).2 = (firstErr (mkT (cuts l) n) 0).2))) A293 (by kernel_rfl) (by kernel_rfl) (decide_eq_true (by rw [(ad_w1 p283)])) ?_
            refine s_call (fs := #[]) (cp := #[]) (r := [(0, .agg (trc ((adRes (mkT (cuts l) n) (mkT (cuts r) m)).1))), (0, .agg (trc zT))]) #[.agg (trc ((adRes (mkT (cuts l) n) (mkT (cuts r) m)).1)), .agg (trc zT)] (.bool true) A293 S202 (SameTrace_eq ((adRes (mkT (cuts l) n) (mkT (cuts r) m)).1) zT (by rw [(ad_w1 p283)]) _ (adRes_length _ _)) Try.call43 (by kernel_rfl) (by kernel_rfl) (by kernel_rfl) rfl (fun ac wc A294 S295 => ?_)
            refine s_one (.bool true) A294 S295 (g_pick_t (b := (decide ((adRes (mkT (cuts l) n) (mkT (cuts r) m)).2 = (firstErr (mkT (cuts l) n) 0).2))) (by kernel_rfl) (decide_eq_true (by rw [(ad_w1 p283)])) (by kernel_rfl)) rfl (fun ac A297 => ?_)
            refine s_one (.bool true) A297 S295 (g_move (by kernel_rfl)) rfl (fun ac A298 => ?_)
            refine s_want (dj := 88) (b := true) A298 (by kernel_rfl) (by kernel_rfl) rfl ?_
            refine s_one (.int .i64 ((shRes (mkT (cuts l) n) b).2)) A298 S295 (g_move (by kernel_rfl)) rfl (fun ac A299 => ?_)
            refine s_want (dj := 88) (b := true) A299 (by kernel_rfl) (by kernel_rfl) rfl ?_
            refine s_one (.int .i64 ((firstErr (mkT (cuts l) n) 0).2)) A299 S295 (g_move (by kernel_rfl)) rfl (fun ac A300 => ?_)
            refine s_want (dj := 88) (b := true) A300 (by kernel_rfl) (by kernel_rfl) rfl ?_
            refine s_one (.bool (decide ((shRes (mkT (cuts l) n) b).2 = (firstErr (mkT (cuts l) n) 0).2))) A300 S295 (g_bin (u := .int .i64 ((shRes (mkT (cuts l) n) b).2)) (k := .int .i64 ((firstErr (mkT (cuts l) n) 0).2)) (by kernel_rfl) (by kernel_rfl) (fun _ => by kernel_rfl) b_eql) rfl (fun ac A301 => ?_)
            refine s_one (.bool (decide ((shRes (mkT (cuts l) n) b).2 = (firstErr (mkT (cuts l) n) 0).2))) A301 S295 (g_pick_t (b := true) (by kernel_rfl) rfl (by kernel_rfl)) rfl (fun ac A302 => ?_)
            refine s_one (.bool (decide ((shRes (mkT (cuts l) n) b).2 = (firstErr (mkT (cuts l) n) 0).2))) A302 S295 (g_move (by kernel_rfl)) rfl (fun ac A303 => ?_)
            refine s_want (dj := 93) (b := (decide ((shRes (mkT (cuts l) n) b).2 = (firstErr (mkT (cuts l) n) 0).2))) A303 (by kernel_rfl) (by kernel_rfl) (decide_eq_true (by rw [(sh_w1 p283)])) ?_
            refine s_one (.agg (trc ((shRes (mkT (cuts l) n) b).1))) A303 S295 (g_loadW (g := g74) 2 (by kernel_rfl) rfl ((trc_size _).trans (shRes_length _ _)) ⟨⟨_, Try.underlying26, rfl⟩, by kernel_rfl⟩) rfl (fun ac A304 => ?_)
            refine s_want (dj := 93) (b := (decide ((shRes (mkT (cuts l) n) b).2 = (firstErr (mkT (cuts l) n) 0).2))) A304 (by kernel_rfl) (by kernel_rfl) (decide_eq_true (by rw [(sh_w1 p283)])) ?_
            refine s_one (.agg (trc zT)) A304 S295 (g_loadW (g := g203) 0 (by kernel_rfl) rfl ((trc_size _).trans zT_length) ⟨⟨_, Try.underlying26, rfl⟩, by kernel_rfl⟩) rfl (fun ac A305 => ?_)
            refine s_want (dj := 93) (b := (decide ((shRes (mkT (cuts l) n) b).2 = (firstErr (mkT (cuts l) n) 0).2))) A305 (by kernel_rfl) (by kernel_rfl) (decide_eq_true (by rw [(sh_w1 p283)])) ?_
            refine s_call (fs := #[]) (cp := #[]) (r := [(0, .agg (trc ((shRes (mkT (cuts l) n) b).1))), (0, .agg (trc zT))]) #[.agg (trc ((shRes (mkT (cuts l) n) b).1)), .agg (trc zT)] (.bool true) A305 S295 (SameTrace_eq ((shRes (mkT (cuts l) n) b).1) zT (by rw [(sh_w1 p283)]) _ (shRes_length _ _)) Try.call43 (by kernel_rfl) (by kernel_rfl) (by kernel_rfl) rfl (fun ac wc A306 S307 => ?_)
            refine s_one (.bool true) A306 S307 (g_pick_t (b := (decide ((shRes (mkT (cuts l) n) b).2 = (firstErr (mkT (cuts l) n) 0).2))) (by kernel_rfl) (decide_eq_true (by rw [(sh_w1 p283)])) (by kernel_rfl)) rfl (fun ac A309 => ?_)
            refine s_one (.bool true) A309 S307 (g_assign (by kernel_rfl)) rfl (fun ac A310 => ?_)
            refine wpList_nil ?_
            refine n_then ?_
            refine wp_ret ?_
            refine fin1 (.bool true) Try.results12 A310 S307 (rv_tmp (by kernel_rfl)) ⟨?_, S307.kp⟩
            rfl

end Go.Proofs.Ytfooefkgdcjlhaa
