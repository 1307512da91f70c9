/- The walk of RaySteep: it returns true. -/
import Derived.Test.YtnfmfkejhgbipaaRay10
import Derived.Test.YtnfmfkejhgbipaaPlain
import Derived.Test.YtnfmfkejhgbipaaArgs
namespace Go.Proofs.Ytnfmfkejhgbipaa
open Go.RowKit Go.Cpl Go.Ray1

set_option maxRecDepth 100000 in
set_option maxHeartbeats 400000 in
theorem RaySteep_s (a b n d m k : Int) (w0 : World) (hd : d ≤ 9223372036854775807) (hk : k ≤ 9223372036854775807) :
    Calls Try.prog 14 #[.agg #[.int .i64 a, .int .i64 b], .agg #[.int .i64 n, .int .i64 d], .agg #[.int .i64 m, .int .i64 k]] w0 fun e w' => e = .returned (.bool true) ∧ Below w0.heap.size w0 w' := by
  have S0 := St.start w0
  refine enter (n := 39) Try.func14 rfl rfl rfl (fun ac A0 => ?_)
  refine wp_seq ?_
  refine wp_region_lit ?_
  refine s_box (.agg #[.int .i64 a, .int .i64 b]) A0 S0 (by kernel_rfl) rfl (fun g3 ac wc A1 S2 => ?_)
  replace S2 : St _ (⟨g3, 71, #[.int .i64 a, .int .i64 b], true⟩ :: _) _ _ := S2
  refine s_box (.agg #[.int .i64 n, .int .i64 d]) A1 S2 (by kernel_rfl) rfl (fun g7 ac wc A5 S6 => ?_)
  replace S6 : St _ (⟨g7, 75, #[.int .i64 n, .int .i64 d], true⟩ :: _) _ _ := S6
  refine s_box (.agg #[.int .i64 m, .int .i64 k]) A5 S6 (by kernel_rfl) rfl (fun g11 ac wc A9 S10 => ?_)
  replace S10 : St _ (⟨g11, 75, #[.int .i64 m, .int .i64 k], true⟩ :: _) _ _ := S10
  refine s_one (.bool false) A9 S10 (g_assign (by kernel_rfl)) rfl (fun ac A13 => ?_)
  refine wpList_nil ?_
  refine n_then ?_
  refine wp_seq ?_
  refine wp_seq ?_
  refine wp_region_lit ?_
  refine s_call (fs := #[]) (cp := #[]) (r := []) #[] (.bool true) A13 S10 (awake_s _) Try.call19 (by kernel_rfl) (by kernel_rfl) (by kernel_rfl) rfl (fun ac wc A14 S15 => ?_)
  refine s_one (.bool false) A14 S15 (g_un (u := .bool true) (by kernel_rfl) (fun _ => by kernel_rfl)) rfl (fun ac A17 => ?_)
  refine wpList_nil ?_
  refine n_then ?_
  refine c_f (b := false) A17 (by kernel_rfl) rfl ?_
  refine wp_skip ?_
  refine n_then ?_
  refine wp_seq ?_
  refine wp_region_lit ?_
  refine s_one (.agg #[.int .i64 a, .int .i64 b]) A17 S15 (g_load (g := g3) (off := 0) 2 (by kernel_rfl) rfl (by kernel_rfl)) rfl (fun ac A18 => ?_)
  refine s_one (.agg #[.int .i64 n, .int .i64 d]) A18 S15 (g_load (g := g7) (off := 0) 1 (by kernel_rfl) rfl (by kernel_rfl)) rfl (fun ac A19 => ?_)
  refine s_one (.agg #[.int .i64 m, .int .i64 k]) A19 S15 (g_load (g := g11) (off := 0) 0 (by kernel_rfl) rfl (by kernel_rfl)) rfl (fun ac A20 => ?_)
  refine s_call (fs := #[]) (cp := #[]) (r := [(0, .agg #[.int .i64 a, .int .i64 b]), (0, .agg #[.int .i64 n, .int .i64 d]), (0, .agg #[.int .i64 m, .int .i64 k])]) #[.agg #[.int .i64 a, .int .i64 b], .agg #[.int .i64 n, .int .i64 d], .agg #[.int .i64 m, .int .i64 k]] (.tuple #[.bool (zb (stE a b n d m k) (stB a b n d m k)), .int .i64 (stE a b n d m k)]) A20 S15 (SteepWithin_s a b n d m k _ (by omega) (by omega)) Try.call64 (by kernel_rfl) (by kernel_rfl) (by kernel_rfl) rfl (fun ac wc A21 S22 => ?_)
  refine s_one (.tuple #[.bool (zb (stE a b n d m k) (stB a b n d m k)), .int .i64 (stE a b n d m k)]) A21 S22 (g_move (by kernel_rfl)) rfl (fun ac A24 => ?_)
  refine s_one (.bool (zb (stE a b n d m k) (stB a b n d m k))) A24 S22 (g_extract (u := .tuple #[.bool (zb (stE a b n d m k) (stB a b n d m k)), .int .i64 (stE a b n d m k)]) (by kernel_rfl) (fun _ => by kernel_rfl)) rfl (fun ac A25 => ?_)
  refine s_one (.int .i64 (stE a b n d m k)) A25 S22 (g_extract (u := .tuple #[.bool (zb (stE a b n d m k) (stB a b n d m k)), .int .i64 (stE a b n d m k)]) (by kernel_rfl) (fun _ => by kernel_rfl)) rfl (fun ac A26 => ?_)
  refine s_one (.bool (zb (stE a b n d m k) (stB a b n d m k))) A26 S22 (g_assign (by kernel_rfl)) rfl (fun ac A27 => ?_)
  refine s_one (.int .i64 (stE a b n d m k)) A27 S22 (g_assign (by kernel_rfl)) rfl (fun ac A28 => ?_)
  refine wpList_nil ?_
  refine n_then ?_
  refine wp_seq ?_
  refine wp_region_lit ?_
  refine s_one (.agg #[.int .i64 a, .int .i64 b]) A28 S22 (g_load (g := g3) (off := 0) 2 (by kernel_rfl) rfl (by kernel_rfl)) rfl (fun ac A29 => ?_)
  refine s_call (fs := #[]) (cp := #[]) (r := [(0, .agg #[.int .i64 a, .int .i64 b])]) #[.agg #[.int .i64 a, .int .i64 b]] (.int .i64 (dirE a b)) A29 S22 (refDirectionErr_s a b _) Try.call65 (by kernel_rfl) (by kernel_rfl) (by kernel_rfl) rfl (fun ac wc A30 S31 => ?_)
  refine s_one (.int .i64 (dirE a b)) A30 S31 (g_assign (by kernel_rfl)) rfl (fun ac A33 => ?_)
  refine wpList_nil ?_
  refine n_then ?_
  refine wp_seq ?_
  refine wp_region_lit ?_
  refine s_one (.bool false) A33 S31 (g_assign (by kernel_rfl)) rfl (fun ac A34 => ?_)
  refine wpList_nil ?_
  refine n_then ?_
  refine wp_seq ?_
  refine wp_seq ?_
  refine wp_region_lit ?_
  refine s_one (.int .i64 (dirE a b)) A34 S31 (g_move (by kernel_rfl)) rfl (fun ac A35 => ?_)
  refine s_one (.bool (decide (dirE a b = 0))) A35 S31 (g_bin (u := .int .i64 (dirE a b)) (k := .int .i64 0) (by kernel_rfl) (by kernel_rfl) (fun _ => by kernel_rfl) b_eql) rfl (fun ac A36 => ?_)
  refine wpList_nil ?_
  refine n_then ?_
  refine c_ifb (b := (decide (dirE a b = 0))) A36 (by kernel_rfl) (fun h37 => ?_) (fun h37 => ?_)
  · have p38 := of_decide_eq_true h37
    have z1 := of_decide_eq_true h37
    refine wp_region_lit ?_
    refine s_one (.agg #[.int .i64 a, .int .i64 b]) A36 S31 (g_load (g := g3) (off := 0) 2 (by kernel_rfl) rfl (by kernel_rfl)) rfl (fun ac A39 => ?_)
    refine s_one (.agg #[.int .i64 n, .int .i64 d]) A39 S31 (g_load (g := g7) (off := 0) 1 (by kernel_rfl) rfl (by kernel_rfl)) rfl (fun ac A40 => ?_)
    refine s_one (.agg #[.int .i64 m, .int .i64 k]) A40 S31 (g_load (g := g11) (off := 0) 0 (by kernel_rfl) rfl (by kernel_rfl)) rfl (fun ac A41 => ?_)
    refine s_call (fs := #[]) (cp := #[]) (r := [(0, .agg #[.int .i64 a, .int .i64 b]), (0, .agg #[.int .i64 n, .int .i64 d]), (0, .agg #[.int .i64 m, .int .i64 k])]) #[.agg #[.int .i64 a, .int .i64 b], .agg #[.int .i64 n, .int .i64 d], .agg #[.int .i64 m, .int .i64 k]] (.tuple #[.bool (zb (stE a b n d m k) (stB a b n d m k)), .int .i64 (stE a b n d m k)]) A41 S31 (refSteepWithin_s a b n d m k _ (by omega) (by omega) z1) Try.call66 (by kernel_rfl) (by kernel_rfl) (by kernel_rfl) rfl (fun ac wc A42 S43 => ?_)
    refine s_one (.tuple #[.bool (zb (stE a b n d m k) (stB a b n d m k)), .int .i64 (stE a b n d m k)]) A42 S43 (g_move (by kernel_rfl)) rfl (fun ac A45 => ?_)
    refine s_one (.bool (zb (stE a b n d m k) (stB a b n d m k))) A45 S43 (g_extract (u := .tuple #[.bool (zb (stE a b n d m k) (stB a b n d m k)), .int .i64 (stE a b n d m k)]) (by kernel_rfl) (fun _ => by kernel_rfl)) rfl (fun ac A46 => ?_)
    refine s_one (.int .i64 (stE a b n d m k)) A46 S43 (g_extract (u := .tuple #[.bool (zb (stE a b n d m k) (stB a b n d m k)), .int .i64 (stE a b n d m k)]) (by kernel_rfl) (fun _ => by kernel_rfl)) rfl (fun ac A47 => ?_)
    refine s_one (.bool (zb (stE a b n d m k) (stB a b n d m k))) A47 S43 (g_assign (by kernel_rfl)) rfl (fun ac A48 => ?_)
    refine s_one (.int .i64 (stE a b n d m k)) A48 S43 (g_assign (by kernel_rfl)) rfl (fun ac A49 => ?_)
    refine wpList_nil ?_
    refine n_then ?_
    refine wp_seq ?_
    refine wp_region_lit ?_
    refine s_one (.int .i64 (stE a b n d m k)) A49 S43 (g_move (by kernel_rfl)) rfl (fun ac A50 => ?_)
    refine s_one (.int .i64 (stE a b n d m k)) A50 S43 (g_move (by kernel_rfl)) rfl (fun ac A51 => ?_)
    refine s_one (.bool (decide (stE a b n d m k = stE a b n d m k))) A51 S43 (g_bin (u := .int .i64 (stE a b n d m k)) (k := .int .i64 (stE a b n d m k)) (by kernel_rfl) (by kernel_rfl) (fun _ => by kernel_rfl) b_eql) rfl (fun ac A52 => ?_)
    refine s_one (.bool (decide (stE a b n d m k = stE a b n d m k))) A52 S43 (g_move (by kernel_rfl)) rfl (fun ac A53 => ?_)
    refine s_want (dj := 34) (b := (decide (stE a b n d m k = stE a b n d m k))) A53 (by kernel_rfl) (by kernel_rfl) (decide_eq_true rfl) ?_
    refine s_one (.bool (zb (stE a b n d m k) (stB a b n d m k))) A53 S43 (g_move (by kernel_rfl)) rfl (fun ac A54 => ?_)
    refine s_want (dj := 34) (b := (decide (stE a b n d m k = stE a b n d m k))) A54 (by kernel_rfl) (by kernel_rfl) (decide_eq_true rfl) ?_
    refine s_one (.bool (zb (stE a b n d m k) (stB a b n d m k))) A54 S43 (g_move (by kernel_rfl)) rfl (fun ac A55 => ?_)
    refine s_want (dj := 34) (b := (decide (stE a b n d m k = stE a b n d m k))) A55 (by kernel_rfl) (by kernel_rfl) (decide_eq_true rfl) ?_
    refine s_one (.bool true) A55 S43 (g_bin (u := .bool (zb (stE a b n d m k) (stB a b n d m k))) (k := .bool (zb (stE a b n d m k) (stB a b n d m k))) (by kernel_rfl) (by kernel_rfl) (fun _ => by kernel_rfl) (b_boolS Try.underlying4)) rfl (fun ac A56 => ?_)
    refine s_one (.bool true) A56 S43 (g_pick_t (b := (decide (stE a b n d m k = stE a b n d m k))) (by kernel_rfl) (decide_eq_true rfl) (by kernel_rfl)) rfl (fun ac A57 => ?_)
    refine s_one (.bool true) A57 S43 (g_assign (by kernel_rfl)) rfl (fun ac A58 => ?_)
    refine wpList_nil ?_
    refine n_then ?_
    refine wp_ret ?_
    refine fin1 (.bool true) Try.results14 A58 S43 (rv_tmp (by kernel_rfl)) ⟨?_, S43.kp⟩
    rfl
  · have p59 := of_decide_eq_false h37
    have zn := of_decide_eq_false h37
    have zf : stF a b n d m k ≠ 0 := by unfold stF; rw [fo_ne zn]; exact zn
    have ee : stE a b n d m k = dirE a b := (stE_f zf).trans (fo_ne zn)
    have zs : stE a b n d m k ≠ 0 := ee ▸ zn
    refine wp_skip ?_
    refine n_then ?_
    refine wp_seq ?_
    refine wp_region_lit ?_
    refine s_one (.int .i64 (stE a b n d m k)) A36 S31 (g_move (by kernel_rfl)) rfl (fun ac A60 => ?_)
    refine s_one (.int .i64 (dirE a b)) A60 S31 (g_move (by kernel_rfl)) rfl (fun ac A61 => ?_)
    refine s_one (.bool (decide (stE a b n d m k = dirE a b))) A61 S31 (g_bin (u := .int .i64 (stE a b n d m k)) (k := .int .i64 (dirE a b)) (by kernel_rfl) (by kernel_rfl) (fun _ => by kernel_rfl) b_eql) rfl (fun ac A62 => ?_)
    refine s_one (.bool (decide (stE a b n d m k = dirE a b))) A62 S31 (g_move (by kernel_rfl)) rfl (fun ac A63 => ?_)
    refine s_want (dj := 34) (b := (decide (stE a b n d m k = dirE a b))) A63 (by kernel_rfl) (by kernel_rfl) (decide_eq_true (by first | rfl | assumption | omega)) ?_
    refine s_one (.bool (zb (stE a b n d m k) (stB a b n d m k))) A63 S31 (g_move (by kernel_rfl)) rfl (fun ac A64 => ?_)
    refine s_want (dj := 34) (b := (decide (stE a b n d m k = dirE a b))) A64 (by kernel_rfl) (by kernel_rfl) (decide_eq_true (by first | rfl | assumption | omega)) ?_
    refine s_one (.bool false) A64 S31 (g_move (by kernel_rfl)) rfl (fun ac A65 => ?_)
    refine s_want (dj := 34) (b := (decide (stE a b n d m k = dirE a b))) A65 (by kernel_rfl) (by kernel_rfl) (decide_eq_true (by first | rfl | assumption | omega)) ?_
    refine s_one (.bool (!(zb (stE a b n d m k) (stB a b n d m k)))) A65 S31 (g_bin (u := .bool (zb (stE a b n d m k) (stB a b n d m k))) (k := .bool false) (by kernel_rfl) (by kernel_rfl) (fun _ => by kernel_rfl) (b_boolF Try.underlying4)) rfl (fun ac A66 => ?_)
    refine s_one (.bool (!(zb (stE a b n d m k) (stB a b n d m k)))) A66 S31 (g_pick_t (b := (decide (stE a b n d m k = dirE a b))) (by kernel_rfl) (decide_eq_true (by first | rfl | assumption | omega)) (by kernel_rfl)) rfl (fun ac A67 => ?_)
    refine s_one (.bool (!(zb (stE a b n d m k) (stB a b n d m k)))) A67 S31 (g_assign (by kernel_rfl)) rfl (fun ac A68 => ?_)
    refine wpList_nil ?_
    refine n_then ?_
    refine wp_ret ?_
    refine fin1 (.bool (!(zb (stE a b n d m k) (stB a b n d m k)))) Try.results14 A68 S31 (rv_tmp (by kernel_rfl)) ⟨?_, S31.kp⟩
    exact congrArg (fun b => Ending.returned (Value.bool b)) (b_nf (zb_n zs _))

end Go.Proofs.Ytnfmfkejhgbipaa
