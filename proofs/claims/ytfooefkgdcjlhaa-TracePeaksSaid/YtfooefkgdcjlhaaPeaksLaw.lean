/- The walk of TracePeaks: it returns true. -/
import Derived.Test.YtfooefkgdcjlhaaPeaks2
import Derived.Test.YtfooefkgdcjlhaaArgs
namespace Go.Proofs.Ytfooefkgdcjlhaa
open Go.RowKit Go.Cpl

theorem fo_0 {e f : Int} (h : e = 0) : firstOf [e, f] = f := by subst h; simp only [firstOf, if_true]; split <;> simp_all
theorem fo_1 {e f : Int} (h : e ≠ 0) : firstOf [e, f] = e := by simp only [firstOf, if_neg h]
theorem pkRes_right {xs : List Nat} {x y : Int} (h1 : (firstErr xs 0).2 = 0) (h2 : gErr x y = 0) : pkRes xs x y = peakOf (nums xs) x.toNat y.toNat := if_pos (by rw [fo_0 h1, h2])
theorem pkRes_wrong {xs : List Nat} {x y : Int} (h : firstOf [(firstErr xs 0).2, gErr x y] ≠ 0) : pkRes xs x y = (0, 0) := if_neg h
theorem faRes_right {xs : List Nat} {x y sq : Int} (h1 : (firstErr xs 0).2 = 0) (h2 : gErr x y = 0) : faRes xs x y sq = faRight (nums xs) x y sq := if_neg (by rw [fo_0 h1, h2]; simp)
theorem faRes_wrong {xs : List Nat} {x y sq : Int} (h : firstOf [(firstErr xs 0).2, gErr x y] ≠ 0) : faRes xs x y sq = (0, firstOf [(firstErr xs 0).2, gErr x y]) := if_pos h

set_option maxRecDepth 100000 in
set_option maxHeartbeats 400000 in
theorem TracePeaks_s (l : List Int) (A : Option Addr) (cap n : Nat) (x y sq : Int) (w0 : World) (hn : l.length = n) (hr : IReads w0 A l) :
    Calls Try.prog 6 #[.slice A n cap, .agg #[.int .i64 x, .int .i64 y], .int .i64 sq] w0 fun e w' => e = .returned (.bool true) ∧ Below w0.heap.size w0 w' := by
  have S0 := St.start w0
  refine enter (n := 90) Try.func6 rfl rfl rfl (fun ac A0 => ?_)
  refine wp_seq ?_
  refine wp_region_lit ?_
  refine s_box (.agg #[.int .i64 x, .int .i64 y]) A0 S0 (by kernel_rfl) rfl (fun g3 ac wc A1 S2 => ?_)
  replace S2 : St _ (⟨g3, 51, #[.int .i64 x, .int .i64 y], true⟩ :: _) _ _ := S2
  refine s_one (.bool false) A1 S2 (g_assign (by kernel_rfl)) rfl (fun ac A5 => ?_)
  refine wpList_nil ?_
  refine n_then ?_
  refine wp_seq ?_
  refine wp_seq ?_
  refine wp_region_lit ?_
  refine s_call (fs := #[]) (cp := #[]) (r := []) #[] (.bool true) A5 S2 (awake_any _) Try.call13 (by kernel_rfl) (by kernel_rfl) (by kernel_rfl) rfl (fun ac wc A6 S7 => ?_)
  refine s_one (.bool false) A6 S7 (g_un (u := .bool true) (by kernel_rfl) (fun _ => by kernel_rfl)) rfl (fun ac A9 => ?_)
  refine wpList_nil ?_
  refine n_then ?_
  refine c_f (b := false) A9 (by kernel_rfl) rfl ?_
  refine wp_skip ?_
  refine n_then ?_
  refine wp_seq ?_
  refine wp_seq ?_
  refine wp_region_lit ?_
  refine s_one (.slice A n cap) A9 S7 (g_move (by kernel_rfl)) rfl (fun ac A10 => ?_)
  refine s_one (.int .i64 (n : Int)) A10 S7 (g_built (r := [(0, .slice A n cap)]) (by kernel_rfl) (fun _ _ _ => by kernel_rfl)) rfl (fun ac A11 => ?_)
  refine s_one (.bool (decide ((n : Int) > 64))) A11 S7 (g_bin (u := .int .i64 (n : Int)) (k := .int .i64 64) (by kernel_rfl) (by kernel_rfl) (fun _ => by kernel_rfl) (fun _ => by kernel_rfl)) rfl (fun ac A12 => ?_)
  refine wpList_nil ?_
  refine n_then ?_
  refine c_ifb (b := (decide ((n : Int) > 64))) A12 (by kernel_rfl) (fun h13 => ?_) (fun h13 => ?_)
  · have p14 := of_decide_eq_true h13
    refine wp_seq ?_
    refine wp_region_lit ?_
    refine s_one (.bool true) A12 S7 (g_assign (by kernel_rfl)) rfl (fun ac A15 => ?_)
    refine wpList_nil ?_
    refine n_then ?_
    refine wp_ret ?_
    refine r_then ?_
    refine fin1 (.bool true) Try.results6 A15 S7 (rv_tmp (by kernel_rfl)) ⟨?_, S7.kp⟩
    rfl
  · have p16 := of_decide_eq_false h13
    refine wp_skip ?_
    refine n_then ?_
    refine wp_seq ?_
    refine wp_region_lit ?_
    refine s_one (.slice A n cap) A12 S7 (g_move (by kernel_rfl)) rfl (fun ac A17 => ?_)
    refine s_call (fs := #[]) (cp := #[]) (r := [(0, .slice A n cap)]) #[.slice A n cap] (.agg (trc (mkT (cuts l) n))) A17 S7 (made_s l A cap n _ hn (hr.kept S7.kp) (by omega)) Try.call16 (by kernel_rfl) (by kernel_rfl) (by kernel_rfl) rfl (fun ac wc A18 S19 => ?_)
    refine s_alloc (trc (List.replicate 64 0)) A18 S19 zero26 rfl (fun g23 ac wc A21 S22 => ?_)
    refine s_store (g := g23) (off := 0) (v := .agg (trc (mkT (cuts l) n))) 0 (trc (mkT (cuts l) n)) A21 S22 (by kernel_rfl) (by kernel_rfl) rfl (putVal_whole ((trc_size _).trans List.length_replicate) ((trc_size _).trans (done_length _ _ _ _)) ⟨⟨_, Try.underlying26, rfl⟩, by kernel_rfl⟩ (trc_one _)) (fun wc S25 => ?_)
    refine wpList_nil ?_
    refine n_then ?_
    refine wp_seq ?_
    refine wp_region_lit ?_
    refine s_one (.agg (trc (mkT (cuts l) n))) A21 S25 (g_loadW (g := g23) 0 (by kernel_rfl) rfl ((trc_size _).trans (done_length _ _ _ _)) ⟨⟨_, Try.underlying26, rfl⟩, by kernel_rfl⟩) rfl (fun ac A27 => ?_)
    refine s_one (.agg #[.int .i64 x, .int .i64 y]) A27 S25 (g_load (g := g3) (off := 0) 1 (by kernel_rfl) rfl (by kernel_rfl)) rfl (fun ac A28 => ?_)
    refine s_call (fs := #[]) (cp := #[]) (r := [(0, .agg (trc (mkT (cuts l) n))), (0, .agg #[.int .i64 x, .int .i64 y])]) #[.agg (trc (mkT (cuts l) n)), .agg #[.int .i64 x, .int .i64 y]] (.tuple #[.agg #[.int .i64 ((pkRes (mkT (cuts l) n) x y).1), .int .i64 ((pkRes (mkT (cuts l) n) x y).2)], .int .i64 (firstOf [(firstErr (mkT (cuts l) n) 0).2, gErr x y])]) A28 S25 (PeakIn_any (mkT (cuts l) n) x y _ (done_length _ _ _ _)) Try.call23 (by kernel_rfl) (by kernel_rfl) (by kernel_rfl) rfl (fun ac wc A29 S30 => ?_)
    refine s_one (.tuple #[.agg #[.int .i64 ((pkRes (mkT (cuts l) n) x y).1), .int .i64 ((pkRes (mkT (cuts l) n) x y).2)], .int .i64 (firstOf [(firstErr (mkT (cuts l) n) 0).2, gErr x y])]) A29 S30 (g_move (by kernel_rfl)) rfl (fun ac A32 => ?_)
    refine s_one (.agg #[.int .i64 ((pkRes (mkT (cuts l) n) x y).1), .int .i64 ((pkRes (mkT (cuts l) n) x y).2)]) A32 S30 (g_extract (u := .tuple #[.agg #[.int .i64 ((pkRes (mkT (cuts l) n) x y).1), .int .i64 ((pkRes (mkT (cuts l) n) x y).2)], .int .i64 (firstOf [(firstErr (mkT (cuts l) n) 0).2, gErr x y])]) (by kernel_rfl) (fun _ => by kernel_rfl)) rfl (fun ac A33 => ?_)
    refine s_one (.int .i64 (firstOf [(firstErr (mkT (cuts l) n) 0).2, gErr x y])) A33 S30 (g_extract (u := .tuple #[.agg #[.int .i64 ((pkRes (mkT (cuts l) n) x y).1), .int .i64 ((pkRes (mkT (cuts l) n) x y).2)], .int .i64 (firstOf [(firstErr (mkT (cuts l) n) 0).2, gErr x y])]) (by kernel_rfl) (fun _ => by kernel_rfl)) rfl (fun ac A34 => ?_)
    refine s_alloc (#[.int .i64 0, .int .i64 0]) A34 S30 (by kernel_rfl) rfl (fun g37 ac wc A35 S36 => ?_)
    refine s_store (g := g37) (off := 0) (v := .agg #[.int .i64 ((pkRes (mkT (cuts l) n) x y).1), .int .i64 ((pkRes (mkT (cuts l) n) x y).2)]) 0 (#[.int .i64 ((pkRes (mkT (cuts l) n) x y).1), .int .i64 ((pkRes (mkT (cuts l) n) x y).2)]) A35 S36 (by kernel_rfl) (by kernel_rfl) rfl (by kernel_rfl) (fun wc S39 => ?_)
    refine s_one (.int .i64 (firstOf [(firstErr (mkT (cuts l) n) 0).2, gErr x y])) A35 S39 (g_assign (by kernel_rfl)) rfl (fun ac A41 => ?_)
    refine wpList_nil ?_
    refine n_then ?_
    refine wp_seq ?_
    refine wp_region_lit ?_
    refine s_one (.agg (trc (mkT (cuts l) n))) A41 S39 (g_loadW (g := g23) 1 (by kernel_rfl) rfl ((trc_size _).trans (done_length _ _ _ _)) ⟨⟨_, Try.underlying26, rfl⟩, by kernel_rfl⟩) rfl (fun ac A42 => ?_)
    refine s_one (.agg #[.int .i64 x, .int .i64 y]) A42 S39 (g_load (g := g3) (off := 0) 2 (by kernel_rfl) rfl (by kernel_rfl)) rfl (fun ac A43 => ?_)
    refine s_one (.int .i64 sq) A43 S39 (g_move (by kernel_rfl)) rfl (fun ac A44 => ?_)
    refine s_call (fs := #[]) (cp := #[]) (r := [(0, .agg (trc (mkT (cuts l) n))), (0, .agg #[.int .i64 x, .int .i64 y]), (0, .int .i64 sq)]) #[.agg (trc (mkT (cuts l) n)), .agg #[.int .i64 x, .int .i64 y], .int .i64 sq] (.tuple #[.int .i64 ((faRes (mkT (cuts l) n) x y sq).1), .int .i64 ((faRes (mkT (cuts l) n) x y sq).2)]) A44 S39 (FirstAbove_s (mkT (cuts l) n) x y sq _ (done_length _ _ _ _)) Try.call24 (by kernel_rfl) (by kernel_rfl) (by kernel_rfl) rfl (fun ac wc A45 S46 => ?_)
    refine s_one (.tuple #[.int .i64 ((faRes (mkT (cuts l) n) x y sq).1), .int .i64 ((faRes (mkT (cuts l) n) x y sq).2)]) A45 S46 (g_move (by kernel_rfl)) rfl (fun ac A48 => ?_)
    refine s_one (.int .i64 ((faRes (mkT (cuts l) n) x y sq).1)) A48 S46 (g_extract (u := .tuple #[.int .i64 ((faRes (mkT (cuts l) n) x y sq).1), .int .i64 ((faRes (mkT (cuts l) n) x y sq).2)]) (by kernel_rfl) (fun _ => by kernel_rfl)) rfl (fun ac A49 => ?_)
    refine s_one (.int .i64 ((faRes (mkT (cuts l) n) x y sq).2)) A49 S46 (g_extract (u := .tuple #[.int .i64 ((faRes (mkT (cuts l) n) x y sq).1), .int .i64 ((faRes (mkT (cuts l) n) x y sq).2)]) (by kernel_rfl) (fun _ => by kernel_rfl)) rfl (fun ac A50 => ?_)
    refine s_one (.int .i64 ((faRes (mkT (cuts l) n) x y sq).1)) A50 S46 (g_assign (by kernel_rfl)) rfl (fun ac A51 => ?_)
    refine s_one (.int .i64 ((faRes (mkT (cuts l) n) x y sq).2)) A51 S46 (g_assign (by kernel_rfl)) rfl (fun ac A52 => ?_)
    refine wpList_nil ?_
    refine n_then ?_
    refine wp_seq ?_
    refine wp_region_lit ?_
    refine s_one (.agg (trc (mkT (cuts l) n))) A52 S46 (g_loadW (g := g23) 1 (by kernel_rfl) rfl ((trc_size _).trans (done_length _ _ _ _)) ⟨⟨_, Try.underlying26, rfl⟩, by kernel_rfl⟩) rfl (fun ac A53 => ?_)
    refine s_call (fs := #[]) (cp := #[]) (r := [(0, .agg (trc (mkT (cuts l) n)))]) #[.agg (trc (mkT (cuts l) n))] (.tuple #[.int .i64 ((firstErr (mkT (cuts l) n) 0).1 : Int), .int .i64 ((firstErr (mkT (cuts l) n) 0).2)]) A53 S46 (refCheckTrace_any (mkT (cuts l) n) _ (done_length _ _ _ _)) Try.call15 (by kernel_rfl) (by kernel_rfl) (by kernel_rfl) rfl (fun ac wc A54 S55 => ?_)
    refine s_one (.tuple #[.int .i64 ((firstErr (mkT (cuts l) n) 0).1 : Int), .int .i64 ((firstErr (mkT (cuts l) n) 0).2)]) A54 S55 (g_move (by kernel_rfl)) rfl (fun ac A57 => ?_)
    refine s_one (.int .i64 ((firstErr (mkT (cuts l) n) 0).1 : Int)) A57 S55 (g_extract (u := .tuple #[.int .i64 ((firstErr (mkT (cuts l) n) 0).1 : Int), .int .i64 ((firstErr (mkT (cuts l) n) 0).2)]) (by kernel_rfl) (fun _ => by kernel_rfl)) rfl (fun ac A58 => ?_)
    refine s_one (.int .i64 ((firstErr (mkT (cuts l) n) 0).2)) A58 S55 (g_extract (u := .tuple #[.int .i64 ((firstErr (mkT (cuts l) n) 0).1 : Int), .int .i64 ((firstErr (mkT (cuts l) n) 0).2)]) (by kernel_rfl) (fun _ => by kernel_rfl)) rfl (fun ac A59 => ?_)
    refine s_one (.int .i64 ((firstErr (mkT (cuts l) n) 0).1 : Int)) A59 S55 (g_assign (by kernel_rfl)) rfl (fun ac A60 => ?_)
    refine s_one (.int .i64 ((firstErr (mkT (cuts l) n) 0).2)) A60 S55 (g_assign (by kernel_rfl)) rfl (fun ac A61 => ?_)
    refine wpList_nil ?_
    refine n_then ?_
    refine wp_seq ?_
    refine wp_seq ?_
    refine wp_region_lit ?_
    refine s_one (.int .i64 ((firstErr (mkT (cuts l) n) 0).2)) A61 S55 (g_move (by kernel_rfl)) rfl (fun ac A62 => ?_)
    refine s_one (.bool (decide ((firstErr (mkT (cuts l) n) 0).2 = 0))) A62 S55 (g_bin (u := .int .i64 ((firstErr (mkT (cuts l) n) 0).2)) (k := .int .i64 0) (by kernel_rfl) (by kernel_rfl) (fun _ => by kernel_rfl) b_eql) rfl (fun ac A63 => ?_)
    refine wpList_nil ?_
    refine n_then ?_
    refine c_ifb (b := (decide ((firstErr (mkT (cuts l) n) 0).2 = 0))) A63 (by kernel_rfl) (fun h64 => ?_) (fun h64 => ?_)
    · have p65 := of_decide_eq_true h64
      have e0 := of_decide_eq_true h64
      refine wp_region_lit ?_
      refine s_one (.agg #[.int .i64 x, .int .i64 y]) A63 S55 (g_load (g := g3) (off := 0) 2 (by kernel_rfl) rfl (by kernel_rfl)) rfl (fun ac A66 => ?_)
      refine s_call (fs := #[]) (cp := #[]) (r := [(0, .agg #[.int .i64 x, .int .i64 y])]) #[.agg #[.int .i64 x, .int .i64 y]] (.int .i64 (gErr x y)) A66 S55 (refGateErr_s x y _) Try.call25 (by kernel_rfl) (by kernel_rfl) (by kernel_rfl) rfl (fun ac wc A67 S68 => ?_)
      refine s_one (.int .i64 (gErr x y)) A67 S68 (g_assign (by kernel_rfl)) rfl (fun ac A70 => ?_)
      refine wpList_nil ?_
      refine n_then ?_
      refine wp_seq ?_
      refine wp_seq ?_
      refine wp_region_lit ?_
      refine s_one (.int .i64 (gErr x y)) A70 S68 (g_move (by kernel_rfl)) rfl (fun ac A71 => ?_)
      refine s_one (.bool (decide (gErr x y ≠ 0))) A71 S68 (g_bin (u := .int .i64 (gErr x y)) (k := .int .i64 0) (by kernel_rfl) (by kernel_rfl) (fun _ => by kernel_rfl) b_neq) rfl (fun ac A72 => ?_)
      refine wpList_nil ?_
      refine n_then ?_
      refine c_ifb (b := (decide (gErr x y ≠ 0))) A72 (by kernel_rfl) (fun h73 => ?_) (fun h73 => ?_)
      · have p74 := of_decide_eq_true h73
        refine wp_seq ?_
        refine wp_region_lit ?_
        refine s_one (.int .i64 (firstOf [(firstErr (mkT (cuts l) n) 0).2, gErr x y])) A72 S68 (g_move (by kernel_rfl)) rfl (fun ac A75 => ?_)
        refine s_one (.int .i64 (gErr x y)) A75 S68 (g_move (by kernel_rfl)) rfl (fun ac A76 => ?_)
        refine s_one (.bool (decide (firstOf [(firstErr (mkT (cuts l) n) 0).2, gErr x y] = gErr x y))) A76 S68 (g_bin (u := .int .i64 (firstOf [(firstErr (mkT (cuts l) n) 0).2, gErr x y])) (k := .int .i64 (gErr x y)) (by kernel_rfl) (by kernel_rfl) (fun _ => by kernel_rfl) b_eql) rfl (fun ac A77 => ?_)
        refine s_one (.bool (decide (firstOf [(firstErr (mkT (cuts l) n) 0).2, gErr x y] = gErr x y))) A77 S68 (g_move (by kernel_rfl)) rfl (fun ac A78 => ?_)
        refine s_want (dj := 50) (b := (decide (firstOf [(firstErr (mkT (cuts l) n) 0).2, gErr x y] = gErr x y))) A78 (by kernel_rfl) (by kernel_rfl) (decide_eq_true (fo_0 p65)) ?_
        refine s_one (.int .i64 ((faRes (mkT (cuts l) n) x y sq).2)) A78 S68 (g_move (by kernel_rfl)) rfl (fun ac A79 => ?_)
        refine s_want (dj := 50) (b := (decide (firstOf [(firstErr (mkT (cuts l) n) 0).2, gErr x y] = gErr x y))) A79 (by kernel_rfl) (by kernel_rfl) (decide_eq_true (fo_0 p65)) ?_
        refine s_one (.int .i64 (gErr x y)) A79 S68 (g_move (by kernel_rfl)) rfl (fun ac A80 => ?_)
        refine s_want (dj := 50) (b := (decide (firstOf [(firstErr (mkT (cuts l) n) 0).2, gErr x y] = gErr x y))) A80 (by kernel_rfl) (by kernel_rfl) (decide_eq_true (fo_0 p65)) ?_
        refine s_one (.bool (decide ((faRes (mkT (cuts l) n) x y sq).2 = gErr x y))) A80 S68 (g_bin (u := .int .i64 ((faRes (mkT (cuts l) n) x y sq).2)) (k := .int .i64 (gErr x y)) (by kernel_rfl) (by kernel_rfl) (fun _ => by kernel_rfl) b_eql) rfl (fun ac A81 => ?_)
        refine s_one (.bool (decide ((faRes (mkT (cuts l) n) x y sq).2 = gErr x y))) A81 S68 (g_pick_t (b := (decide (firstOf [(firstErr (mkT (cuts l) n) 0).2, gErr x y] = gErr x y))) (by kernel_rfl) (decide_eq_true (fo_0 p65)) (by kernel_rfl)) rfl (fun ac A82 => ?_)
        refine s_one (.bool (decide ((faRes (mkT (cuts l) n) x y sq).2 = gErr x y))) A82 S68 (g_move (by kernel_rfl)) rfl (fun ac A83 => ?_)
        refine s_want (dj := 55) (b := (decide ((faRes (mkT (cuts l) n) x y sq).2 = gErr x y))) A83 (by kernel_rfl) (by kernel_rfl) (decide_eq_true (by rw [faRes_wrong (by rw [fo_0 p65]; exact p74)]; exact fo_0 p65)) ?_
        refine s_one (.agg #[.int .i64 ((pkRes (mkT (cuts l) n) x y).1), .int .i64 ((pkRes (mkT (cuts l) n) x y).2)]) A83 S68 (g_load (g := g37) (off := 0) 0 (by kernel_rfl) rfl (by kernel_rfl)) rfl (fun ac A84 => ?_)
        refine s_want (dj := 55) (b := (decide ((faRes (mkT (cuts l) n) x y sq).2 = gErr x y))) A84 (by kernel_rfl) (by kernel_rfl) (decide_eq_true (by rw [faRes_wrong (by rw [fo_0 p65]; exact p74)]; exact fo_0 p65)) ?_
        refine s_one (.agg #[.int .i64 0, .int .i64 0]) A84 S68 (g_build (r := []) (by kernel_rfl) (fun _ => by kernel_rfl)) rfl (fun ac A85 => ?_)
        refine s_want (dj := 55) (b := (decide ((faRes (mkT (cuts l) n) x y sq).2 = gErr x y))) A85 (by kernel_rfl) (by kernel_rfl) (decide_eq_true (by rw [faRes_wrong (by rw [fo_0 p65]; exact p74)]; exact fo_0 p65)) ?_
        refine s_one (.bool (decide ([(pkRes (mkT (cuts l) n) x y).1, (pkRes (mkT (cuts l) n) x y).2] = [0, 0]))) A85 S68 (g_bin (u := .agg #[.int .i64 ((pkRes (mkT (cuts l) n) x y).1), .int .i64 ((pkRes (mkT (cuts l) n) x y).2)]) (k := .agg #[.int .i64 0, .int .i64 0]) (by kernel_rfl) (by kernel_rfl) (fun _ => by kernel_rfl) (q_struct (n := 2) [(pkRes (mkT (cuts l) n) x y).1, (pkRes (mkT (cuts l) n) x y).2] [0, 0] (by kernel_rfl) rfl rfl)) rfl (fun ac A86 => ?_)
        refine s_one (.bool (decide ([(pkRes (mkT (cuts l) n) x y).1, (pkRes (mkT (cuts l) n) x y).2] = [0, 0]))) A86 S68 (g_pick_t (b := (decide ((faRes (mkT (cuts l) n) x y sq).2 = gErr x y))) (by kernel_rfl) (decide_eq_true (by rw [faRes_wrong (by rw [fo_0 p65]; exact p74)]; exact fo_0 p65)) (by kernel_rfl)) rfl (fun ac A87 => ?_)
        refine s_one (.bool (decide ([(pkRes (mkT (cuts l) n) x y).1, (pkRes (mkT (cuts l) n) x y).2] = [0, 0]))) A87 S68 (g_move (by kernel_rfl)) rfl (fun ac A88 => ?_)
        refine s_want (dj := 60) (b := (decide ([(pkRes (mkT (cuts l) n) x y).1, (pkRes (mkT (cuts l) n) x y).2] = [0, 0]))) A88 (by kernel_rfl) (by kernel_rfl) (decide_eq_true (by rw [pkRes_wrong (by rw [fo_0 p65]; exact p74)])) ?_
        refine s_one (.int .i64 ((faRes (mkT (cuts l) n) x y sq).1)) A88 S68 (g_move (by kernel_rfl)) rfl (fun ac A89 => ?_)
        refine s_want (dj := 60) (b := (decide ([(pkRes (mkT (cuts l) n) x y).1, (pkRes (mkT (cuts l) n) x y).2] = [0, 0]))) A89 (by kernel_rfl) (by kernel_rfl) (decide_eq_true (by rw [pkRes_wrong (by rw [fo_0 p65]; exact p74)])) ?_
        refine s_one (.bool (decide ((faRes (mkT (cuts l) n) x y sq).1 = 0))) A89 S68 (g_bin (u := .int .i64 ((faRes (mkT (cuts l) n) x y sq).1)) (k := .int .i64 0) (by kernel_rfl) (by kernel_rfl) (fun _ => by kernel_rfl) b_eql) rfl (fun ac A90 => ?_)
        refine s_one (.bool (decide ((faRes (mkT (cuts l) n) x y sq).1 = 0))) A90 S68 (g_pick_t (b := (decide ([(pkRes (mkT (cuts l) n) x y).1, (pkRes (mkT (cuts l) n) x y).2] = [0, 0]))) (by kernel_rfl) (decide_eq_true (by rw [pkRes_wrong (by rw [fo_0 p65]; exact p74)])) (by kernel_rfl)) rfl (fun ac A91 => ?_)
        refine s_one (.bool (decide ((faRes (mkT (cuts l) n) x y sq).1 = 0))) A91 S68 (g_assign (by kernel_rfl)) rfl (fun ac A92 => ?_)
        refine wpList_nil ?_
        refine n_then ?_
        refine wp_ret ?_
        refine r_then ?_
        refine fin1 (.bool (decide ((faRes (mkT (cuts l) n) x y sq).1 = 0))) Try.results6 A92 S68 (rv_tmp (by kernel_rfl)) ⟨?_, S68.kp⟩
        exact congrArg (fun b => Ending.returned (Value.bool b)) (decide_eq_true (by rw [faRes_wrong (by rw [fo_0 p65]; exact p74)]))
      · have p93 := of_decide_eq_false h73
        have hg0 : gErr x y = 0 := by simpa using h73
        have hg := gErr_zero hg0
        refine wp_skip ?_
        refine n_then ?_
        refine wp_seq ?_
        refine wp_region_lit ?_
        refine s_one (.agg (trc (mkT (cuts l) n))) A72 S68 (g_loadW (g := g23) 1 (by kernel_rfl) rfl ((trc_size _).trans (done_length _ _ _ _)) ⟨⟨_, Try.underlying26, rfl⟩, by kernel_rfl⟩) rfl (fun ac A94 => ?_)
        refine s_one (.agg #[.int .i64 x, .int .i64 y]) A94 S68 (g_load (g := g3) (off := 0) 2 (by kernel_rfl) rfl (by kernel_rfl)) rfl (fun ac A95 => ?_)
        refine s_one (.int .i64 sq) A95 S68 (g_move (by kernel_rfl)) rfl (fun ac A96 => ?_)
        refine s_call (fs := #[]) (cp := #[]) (r := [(0, .agg (trc (mkT (cuts l) n))), (0, .agg #[.int .i64 x, .int .i64 y]), (0, .int .i64 sq)]) #[.agg (trc (mkT (cuts l) n)), .agg #[.int .i64 x, .int .i64 y], .int .i64 sq] (.tuple #[.int .i64 ((faRight (nums (mkT (cuts l) n)) x y sq).1), .int .i64 ((faRight (nums (mkT (cuts l) n)) x y sq).2)]) A96 S68 (refFirstAbove_s (mkT (cuts l) n) x y sq _ (done_length _ _ _ _) (right_of e0) hg) Try.call26 (by kernel_rfl) (by kernel_rfl) (by kernel_rfl) rfl (fun ac wc A97 S98 => ?_)
        refine s_one (.tuple #[.int .i64 ((faRight (nums (mkT (cuts l) n)) x y sq).1), .int .i64 ((faRight (nums (mkT (cuts l) n)) x y sq).2)]) A97 S98 (g_move (by kernel_rfl)) rfl (fun ac A100 => ?_)
        refine s_one (.int .i64 ((faRight (nums (mkT (cuts l) n)) x y sq).1)) A100 S98 (g_extract (u := .tuple #[.int .i64 ((faRight (nums (mkT (cuts l) n)) x y sq).1), .int .i64 ((faRight (nums (mkT (cuts l) n)) x y sq).2)]) (by kernel_rfl) (fun _ => by kernel_rfl)) rfl (fun ac A101 => ?_)
        refine s_one (.int .i64 ((faRight (nums (mkT (cuts l) n)) x y sq).2)) A101 S98 (g_extract (u := .tuple #[.int .i64 ((faRight (nums (mkT (cuts l) n)) x y sq).1), .int .i64 ((faRight (nums (mkT (cuts l) n)) x y sq).2)]) (by kernel_rfl) (fun _ => by kernel_rfl)) rfl (fun ac A102 => ?_)
        refine s_one (.int .i64 ((faRight (nums (mkT (cuts l) n)) x y sq).1)) A102 S98 (g_assign (by kernel_rfl)) rfl (fun ac A103 => ?_)
        refine s_one (.int .i64 ((faRight (nums (mkT (cuts l) n)) x y sq).2)) A103 S98 (g_assign (by kernel_rfl)) rfl (fun ac A104 => ?_)
        refine wpList_nil ?_
        refine n_then ?_
        refine wp_seq ?_
        refine r_begin (w0 := w0) (by kernel_rfl) (S98.sub sub_all sub_all) (fun wc T105 B106 => ?_)
        have S107 := S98.kept B106
        refine r_take 0 (.int .i64 (firstOf [(firstErr (mkT (cuts l) n) 0).2, gErr x y])) A104 T105 (g_move (by kernel_rfl)) rfl rfl rfl (pf_then pf_body) (by kernel_rfl) (fun ac A108 => ?_)
        refine r_take 1 (.bool (decide (firstOf [(firstErr (mkT (cuts l) n) 0).2, gErr x y] = 0))) A108 T105 (g_bin (u := .int .i64 (firstOf [(firstErr (mkT (cuts l) n) 0).2, gErr x y])) (k := .int .i64 0) (by kernel_rfl) (by kernel_rfl) (fun _ => by kernel_rfl) b_eql) rfl rfl rfl (pf_then pf_body) (by kernel_rfl) (fun ac A109 => ?_)
        refine r_take 2 (.bool (decide (firstOf [(firstErr (mkT (cuts l) n) 0).2, gErr x y] = 0))) A109 T105 (g_move (by kernel_rfl)) rfl rfl rfl (pf_then pf_body) (by kernel_rfl) (fun ac A110 => ?_)
        refine r_take 3 (.agg #[.int .i64 ((pkRes (mkT (cuts l) n) x y).1), .int .i64 ((pkRes (mkT (cuts l) n) x y).2)]) A110 T105 (g_load (g := g37) (off := 0) 0 (by kernel_rfl) rfl (by kernel_rfl)) rfl (want_t (dj := 73) (b := (decide (firstOf [(firstErr (mkT (cuts l) n) 0).2, gErr x y] = 0))) A110 rfl (by kernel_rfl) (by kernel_rfl) (decide_eq_true (by rw [fo_0 p65, hg0]))) rfl (pf_then pf_body) (by kernel_rfl) (fun ac A111 => ?_)
        refine r_take 4 (.agg (trc (mkT (cuts l) n))) A111 T105 (g_loadW (g := g23) 1 (by kernel_rfl) rfl ((trc_size _).trans (done_length _ _ _ _)) ⟨⟨_, Try.underlying26, rfl⟩, by kernel_rfl⟩) rfl (want_t (dj := 73) (b := (decide (firstOf [(firstErr (mkT (cuts l) n) 0).2, gErr x y] = 0))) A111 rfl (by kernel_rfl) (by kernel_rfl) (decide_eq_true (by rw [fo_0 p65, hg0]))) rfl (pf_then pf_body) (by kernel_rfl) (fun ac A112 => ?_)
        refine r_take 5 (.agg #[.int .i64 x, .int .i64 y]) A112 T105 (g_load (g := g3) (off := 0) 2 (by kernel_rfl) rfl (by kernel_rfl)) rfl (want_t (dj := 73) (b := (decide (firstOf [(firstErr (mkT (cuts l) n) 0).2, gErr x y] = 0))) A112 rfl (by kernel_rfl) (by kernel_rfl) (decide_eq_true (by rw [fo_0 p65, hg0]))) rfl (pf_then pf_body) (by kernel_rfl) (fun ac A113 => ?_)
        refine r_1 (i := 6) (by kernel_rfl) ?_
        refine rs_call (fs := #[]) (cp := #[]) (r := [(0, .agg (trc (mkT (cuts l) n))), (0, .agg #[.int .i64 x, .int .i64 y])]) #[.agg (trc (mkT (cuts l) n)), .agg #[.int .i64 x, .int .i64 y]] (.agg #[.int .i64 ((peakOf (nums (mkT (cuts l) n)) (x).toNat (y).toNat).1), .int .i64 ((peakOf (nums (mkT (cuts l) n)) (x).toNat (y).toNat).2)]) A113 S107 sub_all sub_all (refPeakIn_s (mkT (cuts l) n) x y _ (done_length _ _ _ _) (right_of e0) hg) Try.call27 rfl (want_t (dj := 73) (b := (decide (firstOf [(firstErr (mkT (cuts l) n) 0).2, gErr x y] = 0))) A113 rfl (by kernel_rfl) (by kernel_rfl) (decide_eq_true (by rw [fo_0 p65, hg0]))) (by kernel_rfl) (by kernel_rfl) (by kernel_rfl) rfl (fun ac wc A114 S115 => ?_)
        have T117 := S115.sub sub_all sub_all
        refine r_take 7 (.bool (decide ([(pkRes (mkT (cuts l) n) x y).1, (pkRes (mkT (cuts l) n) x y).2] = [(peakOf (nums (mkT (cuts l) n)) (x).toNat (y).toNat).1, (peakOf (nums (mkT (cuts l) n)) (x).toNat (y).toNat).2]))) A114 T117 (g_bin (u := .agg #[.int .i64 ((pkRes (mkT (cuts l) n) x y).1), .int .i64 ((pkRes (mkT (cuts l) n) x y).2)]) (k := .agg #[.int .i64 ((peakOf (nums (mkT (cuts l) n)) (x).toNat (y).toNat).1), .int .i64 ((peakOf (nums (mkT (cuts l) n)) (x).toNat (y).toNat).2)]) (by kernel_rfl) (by kernel_rfl) (fun _ => by kernel_rfl) (q_struct (n := 2) [(pkRes (mkT (cuts l) n) x y).1, (pkRes (mkT (cuts l) n) x y).2] [(peakOf (nums (mkT (cuts l) n)) (x).toNat (y).toNat).1, (peakOf (nums (mkT (cuts l) n)) (x).toNat (y).toNat).2] (by kernel_rfl) rfl rfl)) rfl (want_t (dj := 73) (b := (decide (firstOf [(firstErr (mkT (cuts l) n) 0).2, gErr x y] = 0))) A114 rfl (by kernel_rfl) (by kernel_rfl) (decide_eq_true (by rw [fo_0 p65, hg0]))) rfl (pf_then pf_body) (by kernel_rfl) (fun ac A118 => ?_)
        refine r_take 8 (.bool (decide ([(pkRes (mkT (cuts l) n) x y).1, (pkRes (mkT (cuts l) n) x y).2] = [(peakOf (nums (mkT (cuts l) n)) (x).toNat (y).toNat).1, (peakOf (nums (mkT (cuts l) n)) (x).toNat (y).toNat).2]))) A118 T117 (g_pick_t (b := (decide (firstOf [(firstErr (mkT (cuts l) n) 0).2, gErr x y] = 0))) (by kernel_rfl) (decide_eq_true (by rw [fo_0 p65, hg0])) (by kernel_rfl)) rfl rfl rfl (pf_then pf_body) (by kernel_rfl) (fun ac A119 => ?_)
        refine r_take 9 (.bool (decide ([(pkRes (mkT (cuts l) n) x y).1, (pkRes (mkT (cuts l) n) x y).2] = [(peakOf (nums (mkT (cuts l) n)) (x).toNat (y).toNat).1, (peakOf (nums (mkT (cuts l) n)) (x).toNat (y).toNat).2]))) A119 T117 (g_move (by kernel_rfl)) rfl rfl rfl (pf_then pf_body) (by kernel_rfl) (fun ac A120 => ?_)
        refine r_take 10 (.int .i64 ((faRes (mkT (cuts l) n) x y sq).2)) A120 T117 (g_move (by kernel_rfl)) rfl (want_t (dj := 80) (b := (decide ([(pkRes (mkT (cuts l) n) x y).1, (pkRes (mkT (cuts l) n) x y).2] = [(peakOf (nums (mkT (cuts l) n)) (x).toNat (y).toNat).1, (peakOf (nums (mkT (cuts l) n)) (x).toNat (y).toNat).2]))) A120 rfl (by kernel_rfl) (by kernel_rfl) (decide_eq_true (by rw [pkRes_right p65 hg0]))) rfl (pf_then pf_body) (by kernel_rfl) (fun ac A121 => ?_)
        refine r_take 11 (.int .i64 ((faRight (nums (mkT (cuts l) n)) x y sq).2)) A121 T117 (g_move (by kernel_rfl)) rfl (want_t (dj := 80) (b := (decide ([(pkRes (mkT (cuts l) n) x y).1, (pkRes (mkT (cuts l) n) x y).2] = [(peakOf (nums (mkT (cuts l) n)) (x).toNat (y).toNat).1, (peakOf (nums (mkT (cuts l) n)) (x).toNat (y).toNat).2]))) A121 rfl (by kernel_rfl) (by kernel_rfl) (decide_eq_true (by rw [pkRes_right p65 hg0]))) rfl (pf_then pf_body) (by kernel_rfl) (fun ac A122 => ?_)
        refine r_take 12 (.bool (decide ((faRes (mkT (cuts l) n) x y sq).2 = (faRight (nums (mkT (cuts l) n)) x y sq).2))) A122 T117 (g_bin (u := .int .i64 ((faRes (mkT (cuts l) n) x y sq).2)) (k := .int .i64 ((faRight (nums (mkT (cuts l) n)) x y sq).2)) (by kernel_rfl) (by kernel_rfl) (fun _ => by kernel_rfl) b_eql) rfl (want_t (dj := 80) (b := (decide ([(pkRes (mkT (cuts l) n) x y).1, (pkRes (mkT (cuts l) n) x y).2] = [(peakOf (nums (mkT (cuts l) n)) (x).toNat (y).toNat).1, (peakOf (nums (mkT (cuts l) n)) (x).toNat (y).toNat).2]))) A122 rfl (by kernel_rfl) (by kernel_rfl) (decide_eq_true (by rw [pkRes_right p65 hg0]))) rfl (pf_then pf_body) (by kernel_rfl) (fun ac A123 => ?_)
        refine r_take 13 (.bool (decide ((faRes (mkT (cuts l) n) x y sq).2 = (faRight (nums (mkT (cuts l) n)) x y sq).2))) A123 T117 (g_pick_t (b := (decide ([(pkRes (mkT (cuts l) n) x y).1, (pkRes (mkT (cuts l) n) x y).2] = [(peakOf (nums (mkT (cuts l) n)) (x).toNat (y).toNat).1, (peakOf (nums (mkT (cuts l) n)) (x).toNat (y).toNat).2]))) (by kernel_rfl) (decide_eq_true (by rw [pkRes_right p65 hg0])) (by kernel_rfl)) rfl rfl rfl (pf_then pf_body) (by kernel_rfl) (fun ac A124 => ?_)
        refine r_take 14 (.bool (decide ((faRes (mkT (cuts l) n) x y sq).2 = (faRight (nums (mkT (cuts l) n)) x y sq).2))) A124 T117 (g_move (by kernel_rfl)) rfl rfl rfl (pf_then pf_body) (by kernel_rfl) (fun ac A125 => ?_)
        refine r_take 15 (.int .i64 ((faRes (mkT (cuts l) n) x y sq).1)) A125 T117 (g_move (by kernel_rfl)) rfl (want_t (dj := 85) (b := (decide ((faRes (mkT (cuts l) n) x y sq).2 = (faRight (nums (mkT (cuts l) n)) x y sq).2))) A125 rfl (by kernel_rfl) (by kernel_rfl) (decide_eq_true (by rw [faRes_right p65 hg0]))) rfl (pf_then pf_body) (by kernel_rfl) (fun ac A126 => ?_)
        refine r_take 16 (.int .i64 ((faRight (nums (mkT (cuts l) n)) x y sq).1)) A126 T117 (g_move (by kernel_rfl)) rfl (want_t (dj := 85) (b := (decide ((faRes (mkT (cuts l) n) x y sq).2 = (faRight (nums (mkT (cuts l) n)) x y sq).2))) A126 rfl (by kernel_rfl) (by kernel_rfl) (decide_eq_true (by rw [faRes_right p65 hg0]))) rfl (pf_then pf_body) (by kernel_rfl) (fun ac A127 => ?_)
        refine r_take 17 (.bool (decide ((faRes (mkT (cuts l) n) x y sq).1 = (faRight (nums (mkT (cuts l) n)) x y sq).1))) A127 T117 (g_bin (u := .int .i64 ((faRes (mkT (cuts l) n) x y sq).1)) (k := .int .i64 ((faRight (nums (mkT (cuts l) n)) x y sq).1)) (by kernel_rfl) (by kernel_rfl) (fun _ => by kernel_rfl) b_eql) rfl (want_t (dj := 85) (b := (decide ((faRes (mkT (cuts l) n) x y sq).2 = (faRight (nums (mkT (cuts l) n)) x y sq).2))) A127 rfl (by kernel_rfl) (by kernel_rfl) (decide_eq_true (by rw [faRes_right p65 hg0]))) rfl (pf_then pf_body) (by kernel_rfl) (fun ac A128 => ?_)
        refine r_take 18 (.bool (decide ((faRes (mkT (cuts l) n) x y sq).1 = (faRight (nums (mkT (cuts l) n)) x y sq).1))) A128 T117 (g_pick_t (b := (decide ((faRes (mkT (cuts l) n) x y sq).2 = (faRight (nums (mkT (cuts l) n)) x y sq).2))) (by kernel_rfl) (decide_eq_true (by rw [faRes_right p65 hg0])) (by kernel_rfl)) rfl rfl rfl (pf_then pf_body) (by kernel_rfl) (fun ac A129 => ?_)
        refine r_take 19 (.bool (decide ((faRes (mkT (cuts l) n) x y sq).1 = (faRight (nums (mkT (cuts l) n)) x y sq).1))) A129 T117 (g_assign (by kernel_rfl)) rfl rfl rfl (pf_then pf_body) (by kernel_rfl) (fun ac A130 => ?_)
        refine r_done (by kernel_rfl) ?_
        refine n_then ?_
        refine wp_ret ?_
        refine fin1 (.bool (decide ((faRes (mkT (cuts l) n) x y sq).1 = (faRight (nums (mkT (cuts l) n)) x y sq).1))) Try.results6 A130 S115 (rv_tmp (by kernel_rfl)) ⟨?_, S115.kp⟩
        exact congrArg (fun b => Ending.returned (Value.bool b)) (decide_eq_true (by rw [faRes_right p65 hg0]))
    · have p131 := of_decide_eq_false h64
      refine wp_skip ?_
      refine n_then ?_
      refine wp_seq ?_
      refine wp_seq ?_
      refine wp_region_lit ?_
      refine s_one (.int .i64 ((firstErr (mkT (cuts l) n) 0).2)) A63 S55 (g_move (by kernel_rfl)) rfl (fun ac A132 => ?_)
      refine s_one (.bool (decide ((firstErr (mkT (cuts l) n) 0).2 ≠ 0))) A132 S55 (g_bin (u := .int .i64 ((firstErr (mkT (cuts l) n) 0).2)) (k := .int .i64 0) (by kernel_rfl) (by kernel_rfl) (fun _ => by kernel_rfl) b_neq) rfl (fun ac A133 => ?_)
      refine wpList_nil ?_
      refine n_then ?_
      refine c_t (b := (decide ((firstErr (mkT (cuts l) n) 0).2 ≠ 0))) A133 (by kernel_rfl) (decide_eq_true p131) ?_
      refine wp_seq ?_
      refine wp_region_lit ?_
      refine s_one (.int .i64 (firstOf [(firstErr (mkT (cuts l) n) 0).2, gErr x y])) A133 S55 (g_move (by kernel_rfl)) rfl (fun ac A134 => ?_)
      refine s_one (.int .i64 ((firstErr (mkT (cuts l) n) 0).2)) A134 S55 (g_move (by kernel_rfl)) rfl (fun ac A135 => ?_)
      refine s_one (.bool (decide (firstOf [(firstErr (mkT (cuts l) n) 0).2, gErr x y] = (firstErr (mkT (cuts l) n) 0).2))) A135 S55 (g_bin (u := .int .i64 (firstOf [(firstErr (mkT (cuts l) n) 0).2, gErr x y])) (k := .int .i64 ((firstErr (mkT (cuts l) n) 0).2)) (by kernel_rfl) (by kernel_rfl) (fun _ => by kernel_rfl) b_eql) rfl (fun ac A136 => ?_)
      refine s_one (.bool (decide (firstOf [(firstErr (mkT (cuts l) n) 0).2, gErr x y] = (firstErr (mkT (cuts l) n) 0).2))) A136 S55 (g_move (by kernel_rfl)) rfl (fun ac A137 => ?_)
      refine s_want (dj := 50) (b := (decide (firstOf [(firstErr (mkT (cuts l) n) 0).2, gErr x y] = (firstErr (mkT (cuts l) n) 0).2))) A137 (by kernel_rfl) (by kernel_rfl) (decide_eq_true (fo_1 p131)) ?_
      refine s_one (.int .i64 ((faRes (mkT (cuts l) n) x y sq).2)) A137 S55 (g_move (by kernel_rfl)) rfl (fun ac A138 => ?_)
      refine s_want (dj := 50) (b := (decide (firstOf [(firstErr (mkT (cuts l) n) 0).2, gErr x y] = (firstErr (mkT (cuts l) n) 0).2))) A138 (by kernel_rfl) (by kernel_rfl) (decide_eq_true (fo_1 p131)) ?_
      refine s_one (.int .i64 ((firstErr (mkT (cuts l) n) 0).2)) A138 S55 (g_move (by kernel_rfl)) rfl (fun ac A139 => ?_)
      refine s_want (dj := 50) (b := (decide (firstOf [(firstErr (mkT (cuts l) n) 0).2, gErr x y] = (firstErr (mkT (cuts l) n) 0).2))) A139 (by kernel_rfl) (by kernel_rfl) (decide_eq_true (fo_1 p131)) ?_
      refine s_one (.bool (decide ((faRes (mkT (cuts l) n) x y sq).2 = (firstErr (mkT (cuts l) n) 0).2))) A139 S55 (g_bin (u := .int .i64 ((faRes (mkT (cuts l) n) x y sq).2)) (k := .int .i64 ((firstErr (mkT (cuts l) n) 0).2)) (by kernel_rfl) (by kernel_rfl) (fun _ => by kernel_rfl) b_eql) rfl (fun ac A140 => ?_)
      refine s_one (.bool (decide ((faRes (mkT (cuts l) n) x y sq).2 = (firstErr (mkT (cuts l) n) 0).2))) A140 S55 (g_pick_t (b := (decide (firstOf [(firstErr (mkT (cuts l) n) 0).2, gErr x y] = (firstErr (mkT (cuts l) n) 0).2))) (by kernel_rfl) (decide_eq_true (fo_1 p131)) (by kernel_rfl)) rfl (fun ac A141 => ?_)
      refine s_one (.bool (decide ((faRes (mkT (cuts l) n) x y sq).2 = (firstErr (mkT (cuts l) n) 0).2))) A141 S55 (g_move (by kernel_rfl)) rfl (fun ac A142 => ?_)
      refine s_want (dj := 55) (b := (decide ((faRes (mkT (cuts l) n) x y sq).2 = (firstErr (mkT (cuts l) n) 0).2))) A142 (by kernel_rfl) (by kernel_rfl) (decide_eq_true (by rw [faRes_wrong (by rw [fo_1 p131]; exact p131)]; exact fo_1 p131)) ?_
      refine s_one (.agg #[.int .i64 ((pkRes (mkT (cuts l) n) x y).1), .int .i64 ((pkRes (mkT (cuts l) n) x y).2)]) A142 S55 (g_load (g := g37) (off := 0) 0 (by kernel_rfl) rfl (by kernel_rfl)) rfl (fun ac A143 => ?_)
      refine s_want (dj := 55) (b := (decide ((faRes (mkT (cuts l) n) x y sq).2 = (firstErr (mkT (cuts l) n) 0).2))) A143 (by kernel_rfl) (by kernel_rfl) (decide_eq_true (by rw [faRes_wrong (by rw [fo_1 p131]; exact p131)]; exact fo_1 p131)) ?_
      refine s_one (.agg #[.int .i64 0, .int .i64 0]) A143 S55 (g_build (r := []) (by kernel_rfl) (fun _ => by kernel_rfl)) rfl (fun ac A144 => ?_)
      refine s_want (dj := 55) (b := (decide ((faRes (mkT (cuts l) n) x y sq).2 = (firstErr (mkT (cuts l) n) 0).2))) A144 (by kernel_rfl) (by kernel_rfl) (decide_eq_true (by rw [faRes_wrong (by rw [fo_1 p131]; exact p131)]; exact fo_1 p131)) ?_
      refine s_one (.bool (decide ([(pkRes (mkT (cuts l) n) x y).1, (pkRes (mkT (cuts l) n) x y).2] = [0, 0]))) A144 S55 (g_bin (u := .agg #[.int .i64 ((pkRes (mkT (cuts l) n) x y).1), .int .i64 ((pkRes (mkT (cuts l) n) x y).2)]) (k := .agg #[.int .i64 0, .int .i64 0]) (by kernel_rfl) (by kernel_rfl) (fun _ => by kernel_rfl) (q_struct (n := 2) [(pkRes (mkT (cuts l) n) x y).1, (pkRes (mkT (cuts l) n) x y).2] [0, 0] (by kernel_rfl) rfl rfl)) rfl (fun ac A145 => ?_)
      refine s_one (.bool (decide ([(pkRes (mkT (cuts l) n) x y).1, (pkRes (mkT (cuts l) n) x y).2] = [0, 0]))) A145 S55 (g_pick_t (b := (decide ((faRes (mkT (cuts l) n) x y sq).2 = (firstErr (mkT (cuts l) n) 0).2))) (by kernel_rfl) (decide_eq_true (by rw [faRes_wrong (by rw [fo_1 p131]; exact p131)]; exact fo_1 p131)) (by kernel_rfl)) rfl (fun ac A146 => ?_)
      refine s_one (.bool (decide ([(pkRes (mkT (cuts l) n) x y).1, (pkRes (mkT (cuts l) n) x y).2] = [0, 0]))) A146 S55 (g_move (by kernel_rfl)) rfl (fun ac A147 => ?_)
      refine s_want (dj := 60) (b := (decide ([(pkRes (mkT (cuts l) n) x y).1, (pkRes (mkT (cuts l) n) x y).2] = [0, 0]))) A147 (by kernel_rfl) (by kernel_rfl) (decide_eq_true (by rw [pkRes_wrong (by rw [fo_1 p131]; exact p131)])) ?_
      refine s_one (.int .i64 ((faRes (mkT (cuts l) n) x y sq).1)) A147 S55 (g_move (by kernel_rfl)) rfl (fun ac A148 => ?_)
      refine s_want (dj := 60) (b := (decide ([(pkRes (mkT (cuts l) n) x y).1, (pkRes (mkT (cuts l) n) x y).2] = [0, 0]))) A148 (by kernel_rfl) (by kernel_rfl) (decide_eq_true (by rw [pkRes_wrong (by rw [fo_1 p131]; exact p131)])) ?_
      refine s_one (.bool (decide ((faRes (mkT (cuts l) n) x y sq).1 = 0))) A148 S55 (g_bin (u := .int .i64 ((faRes (mkT (cuts l) n) x y sq).1)) (k := .int .i64 0) (by kernel_rfl) (by kernel_rfl) (fun _ => by kernel_rfl) b_eql) rfl (fun ac A149 => ?_)
      refine s_one (.bool (decide ((faRes (mkT (cuts l) n) x y sq).1 = 0))) A149 S55 (g_pick_t (b := (decide ([(pkRes (mkT (cuts l) n) x y).1, (pkRes (mkT (cuts l) n) x y).2] = [0, 0]))) (by kernel_rfl) (decide_eq_true (by rw [pkRes_wrong (by rw [fo_1 p131]; exact p131)])) (by kernel_rfl)) rfl (fun ac A150 => ?_)
      refine s_one (.bool (decide ((faRes (mkT (cuts l) n) x y sq).1 = 0))) A150 S55 (g_assign (by kernel_rfl)) rfl (fun ac A151 => ?_)
      refine wpList_nil ?_
      refine n_then ?_
      refine wp_ret ?_
      refine r_then ?_
      refine fin1 (.bool (decide ((faRes (mkT (cuts l) n) x y sq).1 = 0))) Try.results6 A151 S55 (rv_tmp (by kernel_rfl)) ⟨?_, S55.kp⟩
      exact congrArg (fun b => Ending.returned (Value.bool b)) (decide_eq_true (by rw [faRes_wrong (by rw [fo_1 p131]; exact p131)]))

end Go.Proofs.Ytfooefkgdcjlhaa
