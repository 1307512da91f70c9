/- A matrix with another trace. -/
import Derived.Test.YtcijkniijomcjaaMx9
namespace Go.Proofs.Ytcijkniijomcjaa
open Go.RowKit Go.Cpl

theorem fw_nums {ys : List Nat} {k : Nat} (h : k < 64) : (fw (nums ys))[k]? = some (floatOfInt .f32 (num (nth ys k))) := by
  rw [fw, List.getElem?_map, List.getElem?_eq_getElem (by rw [nums_length]; exact h)]
  simp [nums]
/-- A matrix with another trace of a pair: its words, and what it says of its elements. -/
def wiE (el : Int) (xs : List Nat) (p q : Int) (ys : List Nat) : Int := if firstOf [(mxC el xs).2, pairE el p q, (firstErr ys 0).2] = 0 then el else 0
def wiW (el : Int) (xs : List Nat) (p q : Int) (ys : List Nat) : List Nat := if firstOf [(mxC el xs).2, pairE el p q, (firstErr ys 0).2] = 0 then fw (putL (mi xs) (toI el p q) (nums ys)) else []

set_option maxRecDepth 100000 in
set_option maxHeartbeats 400000 in
theorem refWith_s (el : Int) (A : Option Addr) (n cap : Nat) (xs : List Nat) (p q : Int) (ys : List Nat) (w0 : World) (hn : xs.length = n) (hr : FReads w0 A xs) (hm : n ≤ 1000) (hy : ys.length = 64) (h0 : firstOf [(mxC el xs).2, pairE el p q, (firstErr ys 0).2] = 0) :
    Calls Try.prog 25 #[.agg #[.int .i64 el, .slice A n cap], .agg #[.int .i64 p, .int .i64 q], .agg (trc ys)] w0 fun e w' => ∃ v, e = .returned (.agg #[.int .i64 el, v]) ∧ Below w0.heap.size w0 w' ∧ w'.ownsRow w0.heap.size 36 1 v n (rowF (fw (putL (mi xs) (toI el p q) (nums ys)))) := by
  have S0 := St.start w0
  obtain ⟨z1, z2, z3⟩ := firstOf_three h0
  obtain ⟨he1, he2, he3⟩ := mxC_0 z1
  obtain ⟨hp, hq⟩ := pairE_0 he1 z2
  have hsq := sq_bd he1
  have hpa := pair_at he1 hp hq
  have hti : toI el p q = ((p * el + q) * 64).toNat := rfl
  have hR : Right xs := right_of he3
  have hRy : Right ys := right_of z3
  have HR : ∀ k, k < 64 → sErr (nth ys k) = 0 := fun k hk => hRy.at_ (by omega)
  have hfl : (fw (mi xs)).length = n := (fw_length _).trans ((mi_length _).trans hn)
  have hnl : (fw (nums ys)).length = 64 := (fw_length _).trans (nums_length _)
  have hof : toI el p q + 64 ≤ n := by omega
  refine enter (n := 32) Try.func25 rfl rfl rfl (fun ac A0 => ?_)
  refine wp_seq ?_
  refine wp_region_lit ?_
  refine s_box (.agg #[.int .i64 el, .slice A n cap]) A0 S0 (by kernel_rfl) rfl (fun g3 ac wc A1 S2 => ?_)
  replace S2 : St _ (⟨g3, 30, #[.int .i64 el, .slice A n cap], true⟩ :: _) _ _ := S2
  refine s_box (.agg #[.int .i64 p, .int .i64 q]) A1 S2 (by kernel_rfl) rfl (fun g7 ac wc A5 S6 => ?_)
  replace S6 : St _ (⟨g7, 26, #[.int .i64 p, .int .i64 q], true⟩ :: _) _ _ := S6
  refine s_box (.agg (trc ys)) A5 S6 (by kernel_rfl) rfl (fun g11 ac wc A9 S10 => ?_)
  replace S10 : St _ (⟨g11, 38, (trc ys), true⟩ :: _) _ _ := S10
  refine s_alloc (#[.int .i64 0, .slice none 0 0]) A9 S10 (by kernel_rfl) rfl (fun g15 ac wc A13 S14 => ?_)
  refine wpList_nil ?_
  refine n_then ?_
  refine wp_seq ?_
  refine wp_region_lit ?_
  refine s_one (.agg #[.int .i64 el, .slice A n cap]) A13 S14 (g_load (g := g3) (off := 0) 3 (by kernel_rfl) rfl (by kernel_rfl)) rfl (fun ac A16 => ?_)
  have hfm : (fw (mi xs)).length = n := (fw_length _).trans ((mi_length _).trans hn)
  refine s_callRF (fs := #[]) (cp := #[]) (r := [(0, .agg #[.int .i64 el, .slice A n cap])]) (fun v => .agg #[.int .i64 el, v]) #[.agg #[.int .i64 el, .slice A n cap]] A16 S14 (Plain_s el A n cap xs _ hn (hr.kept S14.kp) (by omega) (hR)) Try.call27 (by kernel_rfl) (by kernel_rfl) (by kernel_rfl) rfl (fun v20 ac wc A17 S18 => ?_)
  obtain ⟨hl21, A22, cap23, rfl, hc24, hr25⟩ := rowF_reads (v := v20) (m := n) (l := fw (mi xs)) (S18.row 0 rfl)
  refine s_alloc (#[.int .i64 0, .slice none 0 0]) A17 S18 (by kernel_rfl) rfl (fun g28 ac wc A26 S27 => ?_)
  refine s_store (g := g28) (off := 0) (v := .agg #[.int .i64 el, .slice A22 n cap23]) 0 (#[.int .i64 el, .slice A22 n cap23]) A26 S27 (by kernel_rfl) (by kernel_rfl) rfl (by kernel_rfl) (fun wc S30 => ?_)
  refine wpList_nil ?_
  refine n_then ?_
  refine wp_seq ?_
  refine wp_seq ?_
  obtain ⟨gr32, cq33, hX34⟩ := row_some (v := .slice A22 n cap23) (m := n) (St.row S30 0 rfl) (by omega)
  obtain rfl := (Value.slice.inj hX34).1
  refine wp_region_lit ?_
  refine s_one (.int .i64 0) A26 S30 (g_assign (by kernel_rfl)) rfl (fun ac A35 => ?_)
  refine wpList_nil ?_
  refine n_then ?_
  refine wp_block ?_
  refine c_loopN (fun mm ac wc => ∃ (k : Nat), mm = 64 - k ∧ (k ≤ 64) ∧ Fr 32 ac [(0, .agg #[.int .i64 el, .slice A n cap]), (1, .agg #[.int .i64 p, .int .i64 q]), (2, .agg (trc ys)), (3, .pointer (some ⟨g3, 0, none⟩)), (4, .pointer (some ⟨g7, 0, none⟩)), (5, .pointer (some ⟨g11, 0, none⟩)), (6, .pointer (some ⟨g15, 0, none⟩)), (9, .agg #[.int .i64 el, .slice A n cap]), (10, .agg #[.int .i64 el, .slice (some (Addr.mk gr32 0 none)) n cap23]), (7, .pointer (some ⟨g28, 0, none⟩)), (8, .int .i64 (k : Int))] ∧ St w0 [⟨g28, 30, #[.int .i64 el, .slice (some (Addr.mk gr32 0 none)) n cap23], true⟩, ⟨g15, 30, #[.int .i64 0, .slice none 0 0], true⟩, ⟨g11, 38, (trc ys), true⟩, ⟨g7, 26, #[.int .i64 p, .int .i64 q], true⟩, ⟨g3, 30, #[.int .i64 el, .slice A n cap], true⟩] [⟨.slice (some (Addr.mk gr32 0 none)) n cap23, 36, 1, n, (rowF (putK (fw (mi xs)) (fw (nums ys)) (toI el p q) k))⟩] wc) _ ⟨0, rfl, by omega, (A35.slot (A35.slot (A35.slot (A35.slot (A35.slot (A35.slot (A35.slot (A35.slot (A35.slot (A35.slot (A35.slot A35.nil (v := .int .i64 0) (by kernel_rfl) (congrArg (Value.int .i64) (by omega))) (v := .pointer (some ⟨g28, 0, none⟩)) (by kernel_rfl) rfl) (v := .agg #[.int .i64 el, .slice (some (Addr.mk gr32 0 none)) n cap23]) (by kernel_rfl) rfl) (v := .agg #[.int .i64 el, .slice A n cap]) (by kernel_rfl) rfl) (v := .pointer (some ⟨g15, 0, none⟩)) (by kernel_rfl) rfl) (v := .pointer (some ⟨g11, 0, none⟩)) (by kernel_rfl) rfl) (v := .pointer (some ⟨g7, 0, none⟩)) (by kernel_rfl) rfl) (v := .pointer (some ⟨g3, 0, none⟩)) (by kernel_rfl) rfl) (v := .agg (trc ys)) (by kernel_rfl) rfl) (v := .agg #[.int .i64 p, .int .i64 q]) (by kernel_rfl) rfl) (v := .agg #[.int .i64 el, .slice A n cap]) (by kernel_rfl) rfl), (St.rerow 0 S30 rfl ⟨rfl, congrArg rowF (putK_zero _ _ _).symm⟩).sub sub_all sub_all⟩ ?_
  rintro mm ac wc ⟨k, hm38, hk, A36, S37⟩
  have hkl : (putK (fw (mi xs)) (fw (nums ys)) (toI el p q) k).length = n := (putK_length (by omega)).trans hfl
  refine wp_seq ?_
  refine wp_seq ?_
  refine wp_region_lit ?_
  refine s_one (.int .i64 (k : Int)) A36 S37 (g_move (by kernel_rfl)) rfl (fun ac A39 => ?_)
  refine s_one (.bool (decide ((k : Int) < 64))) A39 S37 (g_bin (u := .int .i64 (k : Int)) (k := .int .i64 64) (by kernel_rfl) (by kernel_rfl) (fun _ => by kernel_rfl) (fun _ => by kernel_rfl)) rfl (fun ac A40 => ?_)
  refine wpList_nil ?_
  refine n_then ?_
  refine c_ifb (b := (decide ((k : Int) < 64))) A40 (by kernel_rfl) (fun h41 => ?_) (fun h41 => ?_)
  · have p42 := of_decide_eq_true h41
    refine wp_skip ?_
    refine n_then ?_
    refine wp_seq ?_
    refine wp_block ?_
    refine r_begin (w0 := w0) (by kernel_rfl) (S37.sub sub_all sub_nil) (fun wc T43 B44 => ?_)
    have S45 := S37.kept B44
    refine r_take 0 (.pointer (some ⟨g28, 1, none⟩)) A40 T43 (g_field (u := .pointer (some ⟨g28, 0, none⟩)) (by kernel_rfl) (fun _ => by kernel_rfl)) rfl rfl rfl (pf_block (pf_then (pf_then (pf_block (pf_then pf_body))))) (by kernel_rfl) (fun ac A46 => ?_)
    refine r_take 1 (.slice (some (Addr.mk gr32 0 none)) n cap23) A46 T43 (g_load (g := g28) (off := 1) 0 (by kernel_rfl) rfl (by kernel_rfl)) rfl rfl rfl (pf_block (pf_then (pf_then (pf_block (pf_then pf_body))))) (by kernel_rfl) (fun ac A47 => ?_)
    refine r_take 2 (.agg #[.int .i64 el, .slice A n cap]) A47 T43 (g_load (g := g3) (off := 0) 4 (by kernel_rfl) rfl (by kernel_rfl)) rfl rfl rfl (pf_block (pf_then (pf_then (pf_block (pf_then pf_body))))) (by kernel_rfl) (fun ac A48 => ?_)
    refine r_take 3 (.pointer (some ⟨g7, 0, none⟩)) A48 T43 (g_index (u := .pointer (some ⟨g7, 0, none⟩)) (k := .int .i64 0) (by kernel_rfl) (by kernel_rfl) (fun _ => by kernel_rfl)) rfl rfl rfl (pf_block (pf_then (pf_then (pf_block (pf_then pf_body))))) (by kernel_rfl) (fun ac A49 => ?_)
    refine r_take 4 (.int .i64 p) A49 T43 (g_load (g := g7) (off := 0) 3 (by kernel_rfl) rfl (by kernel_rfl)) rfl rfl rfl (pf_block (pf_then (pf_then (pf_block (pf_then pf_body))))) (by kernel_rfl) (fun ac A50 => ?_)
    refine r_take 5 (.pointer (some ⟨g7, 1, none⟩)) A50 T43 (g_index (u := .pointer (some ⟨g7, 0, none⟩)) (k := .int .i64 1) (by kernel_rfl) (by kernel_rfl) (fun _ => by kernel_rfl)) rfl rfl rfl (pf_block (pf_then (pf_then (pf_block (pf_then pf_body))))) (by kernel_rfl) (fun ac A51 => ?_)
    refine r_take 6 (.int .i64 q) A51 T43 (g_load (g := g7) (off := 1) 3 (by kernel_rfl) rfl (by kernel_rfl)) rfl rfl rfl (pf_block (pf_then (pf_then (pf_block (pf_then pf_body))))) (by kernel_rfl) (fun ac A52 => ?_)
    refine r_take 8 (.int .i64 (k : Int)) A52 T43 (g_move (by kernel_rfl)) rfl rfl rfl (pf_block (pf_then (pf_then (pf_block (pf_then pf_body))))) (by kernel_rfl) (fun ac A53 => ?_)
    refine r_take 10 (.int .i64 (k : Int)) A53 T43 (g_move (by kernel_rfl)) rfl rfl rfl (pf_block (pf_then (pf_then (pf_block (pf_then pf_body))))) (by kernel_rfl) (fun ac A54 => ?_)
    refine r_take 11 (.pointer (some ⟨g11, k, none⟩)) A54 T43 (g_index (u := .pointer (some ⟨g11, 0, none⟩)) (k := .int .i64 (k : Int)) (by kernel_rfl) (by kernel_rfl) (ix_arr1 k (len := 64) (by kernel_rfl) (by omega) (by omega))) rfl rfl rfl (pf_block (pf_then (pf_then (pf_block (pf_then pf_body))))) (by kernel_rfl) (fun ac A55 => ?_)
    refine r_take 12 (.float .f32 (nth ys k)) A55 T43 (g_load (g := g11) (off := k) 2 (by kernel_rfl) rfl (rv_of (by kernel_rfl) (trc_get (by rw [hy]; omega)))) rfl rfl rfl (pf_block (pf_then (pf_then (pf_block (pf_then pf_body))))) (by kernel_rfl) (fun ac A56 => ?_)
    refine r_take 13 (.int .i64 (num (nth ys k))) A56 T43 (g_conv (u := .float .f32 (nth ys k)) (by kernel_rfl) (run_toInt (HR _ (by omega)))) rfl rfl rfl (pf_block (pf_then (pf_then (pf_block (pf_then pf_body))))) (by kernel_rfl) (fun ac A57 => ?_)
    refine r_take 14 (.float .f32 (floatOfInt .f32 (num (nth ys k)))) A57 T43 (g_conv (u := .int .i64 (num (nth ys k))) (by kernel_rfl) (fun _ => by kernel_rfl)) rfl rfl rfl (pf_block (pf_then (pf_then (pf_block (pf_then pf_body))))) (by kernel_rfl) (fun ac A58 => ?_)
    refine r_1 (i := 7) (by kernel_rfl) ?_
    refine rs_call (fs := #[]) (cp := #[]) (r := [(0, .agg #[.int .i64 el, .slice A n cap]), (0, .int .i64 p), (0, .int .i64 q)]) #[.agg #[.int .i64 el, .slice A n cap], .int .i64 p, .int .i64 q] (.int .i64 ((p * el + q) * 64)) A58 S45 sub_all sub_nil (at_s el p q A n cap _ (by omega) (by omega)) Try.call69 rfl rfl (by kernel_rfl) (by kernel_rfl) (by kernel_rfl) rfl (fun ac wc A59 S60 => ?_)
    have T62 := S60.sub sub_all sub_nil
    refine r_take 9 (.int .i64 ((p * el + q) * 64 + (k : Int))) A59 T62 (g_bin (u := .int .i64 ((p * el + q) * 64)) (k := .int .i64 (k : Int)) (by kernel_rfl) (by kernel_rfl) (fun _ => by kernel_rfl) (b_add (by omega))) rfl rfl rfl (pf_block (pf_then (pf_then (pf_block (pf_then pf_body))))) (by kernel_rfl) (fun ac A63 => ?_)
    refine r_1 (i := 15) (by kernel_rfl) ?_
    refine rs_gives (.pointer (some ((Addr.mk gr32 0 none).add (toI el p q + k)))) A63 S60 sub_all sub_nil (g_index (u := .slice (some (Addr.mk gr32 0 none)) n cap23) (k := .int .i64 ((p * el + q) * 64 + (k : Int))) (by kernel_rfl) (by kernel_rfl) (ix_x (e := 36) (bytes := 4) (toI el p q + k) (by kernel_rfl) (by omega) (by omega))) rfl rfl rfl (fun ac A64 => ?_)
    refine r_1 (i := 16) (by kernel_rfl) ?_
    have hl69 : ((putK (fw (mi xs)) (fw (nums ys)) (toI el p q) k).set (toI el p q + k) (floatOfInt .f32 (num (nth ys k)))).length = (putK (fw (mi xs)) (fw (nums ys)) (toI el p q) k).length := List.length_set
    refine rs_storeR 0 (ad := (Addr.mk gr32 0 none)) (off := toI el p q + k) (u := .float .f32 (floatOfInt .f32 (num (nth ys k)))) 1 [.float .f32 (floatOfInt .f32 (num (nth ys k)))] (rowF ((putK (fw (mi xs)) (fw (nums ys)) (toI el p q) k).set (toI el p q + k) (floatOfInt .f32 (num (nth ys k))))) A64 S60 sub_all (fun _ => sub_nil) (by kernel_rfl) (by kernel_rfl) rfl rfl rfl (by kernel_rfl) rfl (by rw [rowF_length]; have hlen := hkl; omega) (putF1 (by have hlen := hkl; omega)) rfl rfl (fun wc S68 => ?_)
    have T70 := S68.sub sub_all sub_nil
    refine r_done (by kernel_rfl) ?_
    refine n_block ?_
    refine n_then ?_
    refine wp_region_lit ?_
    refine s_one (.int .i64 (k : Int)) A64 S68 (g_move (by kernel_rfl)) rfl (fun ac A71 => ?_)
    refine s_one (.int .i64 ((k : Int) + 1)) A71 S68 (g_bin (u := .int .i64 (k : Int)) (k := .int .i64 1) (by kernel_rfl) (by kernel_rfl) (fun _ => by kernel_rfl) (b_add (by omega))) rfl (fun ac A72 => ?_)
    refine s_one (.int .i64 ((k : Int) + 1)) A72 S68 (g_assign (by kernel_rfl)) rfl (fun ac A73 => ?_)
    refine wpList_nil ?_
    refine n_then ?_
    refine ⟨_, ⟨k + 1, rfl, by omega, (A73.slot (A73.slot (A73.slot (A73.slot (A73.slot (A73.slot (A73.slot (A73.slot (A73.slot (A73.slot (A73.slot A73.nil (v := .int .i64 ((k : Int) + 1)) (by kernel_rfl) (congrArg (Value.int .i64) (by omega))) (v := .pointer (some ⟨g28, 0, none⟩)) (by kernel_rfl) rfl) (v := .agg #[.int .i64 el, .slice (some (Addr.mk gr32 0 none)) n cap23]) (by kernel_rfl) rfl) (v := .agg #[.int .i64 el, .slice A n cap]) (by kernel_rfl) rfl) (v := .pointer (some ⟨g15, 0, none⟩)) (by kernel_rfl) rfl) (v := .pointer (some ⟨g11, 0, none⟩)) (by kernel_rfl) rfl) (v := .pointer (some ⟨g7, 0, none⟩)) (by kernel_rfl) rfl) (v := .pointer (some ⟨g3, 0, none⟩)) (by kernel_rfl) rfl) (v := .agg (trc ys)) (by kernel_rfl) rfl) (v := .agg #[.int .i64 p, .int .i64 q]) (by kernel_rfl) rfl) (v := .agg #[.int .i64 el, .slice A n cap]) (by kernel_rfl) rfl), (St.rerow 0 S68 rfl ⟨rfl, congrArg rowF (putK_set (fw_nums (by omega)) (by omega))⟩).sub sub_all sub_all⟩, ?_⟩
    omega
  · have p74 := of_decide_eq_false h41
    refine wp_exit ?_
    refine x_then ?_
    refine x_then ?_
    refine x_hit ?_
    refine n_then ?_
    refine wp_seq ?_
    refine wp_region_lit ?_
    refine s_one (.agg #[.int .i64 el, .slice (some (Addr.mk gr32 0 none)) n cap23]) A40 S37 (g_load (g := g28) (off := 0) 0 (by kernel_rfl) rfl (by kernel_rfl)) rfl (fun ac A75 => ?_)
    refine s_store (g := g15) (off := 0) (v := .agg #[.int .i64 el, .slice (some (Addr.mk gr32 0 none)) n cap23]) 1 (#[.int .i64 el, .slice (some (Addr.mk gr32 0 none)) n cap23]) A75 S37 (by kernel_rfl) (by kernel_rfl) rfl (by kernel_rfl) (fun wc S77 => ?_)
    refine wpList_nil ?_
    refine n_then ?_
    refine wp_ret ?_
    obtain rfl : k = 64 := by omega
    have SR : St w0 [⟨g28, 30, #[.int .i64 el, .slice (some (Addr.mk gr32 0 none)) n cap23], true⟩, ⟨g15, 30, #[.int .i64 el, .slice (some (Addr.mk gr32 0 none)) n cap23], true⟩, ⟨g11, 38, (trc ys), true⟩, ⟨g7, 26, #[.int .i64 p, .int .i64 q], true⟩, ⟨g3, 30, #[.int .i64 el, .slice A n cap], true⟩] [⟨.slice (some (Addr.mk gr32 0 none)) n cap23, 36, 1, n, (rowF (fw (putL (mi xs) (toI el p q) (nums ys))))⟩] _ := St.rerow 0 S77 rfl ⟨rfl, by rw [putK_all (by omega), fw_put]⟩
    refine fin1 (.agg #[.int .i64 el, .slice (some (Addr.mk gr32 0 none)) n cap23]) Try.results25 A75 SR (rv_cell (g := g15) (off := 0) 1 (by kernel_rfl) rfl (by kernel_rfl)) ?_
    have bw := SR.kp
    have ow := SR.row 0 rfl
    exact ⟨_, rfl, bw, ow⟩

set_option maxRecDepth 100000 in
set_option maxHeartbeats 400000 in
theorem With_err (el : Int) (A : Option Addr) (n cap : Nat) (xs : List Nat) (p q : Int) (ys : List Nat) (w0 : World) (hn : xs.length = n) (hr : FReads w0 A xs) (hm : n ≤ 1000) (hy : ys.length = 64) (hel : -9223372036854775808 ≤ el ∧ el ≤ 9223372036854775807) (h0 : firstOf [(mxC el xs).2, pairE el p q, (firstErr ys 0).2] ≠ 0) :
    Calls Try.prog 22 #[.agg #[.int .i64 el, .slice A n cap], .agg #[.int .i64 p, .int .i64 q], .agg (trc ys)] w0 fun e w' => ∃ v, e = .returned (.tuple #[.agg #[.int .i64 0, v], .int .i64 (firstOf [(mxC el xs).2, pairE el p q, (firstErr ys 0).2])]) ∧ Below w0.heap.size w0 w' ∧ w'.ownsRow w0.heap.size 36 1 v 0 [] := by
  have S0 := St.start w0
  refine enter (n := 39) Try.func22 rfl rfl rfl (fun ac A0 => ?_)
  refine wp_seq ?_
  refine wp_region_lit ?_
  refine s_box (.agg #[.int .i64 el, .slice A n cap]) A0 S0 (by kernel_rfl) rfl (fun g3 ac wc A1 S2 => ?_)
  replace S2 : St _ (⟨g3, 30, #[.int .i64 el, .slice A n cap], true⟩ :: _) _ _ := S2
  refine s_box (.agg #[.int .i64 p, .int .i64 q]) A1 S2 (by kernel_rfl) rfl (fun g7 ac wc A5 S6 => ?_)
  replace S6 : St _ (⟨g7, 26, #[.int .i64 p, .int .i64 q], true⟩ :: _) _ _ := S6
  refine s_box (.agg (trc ys)) A5 S6 (by kernel_rfl) rfl (fun g11 ac wc A9 S10 => ?_)
  replace S10 : St _ (⟨g11, 38, (trc ys), true⟩ :: _) _ _ := S10
  refine s_alloc (#[.int .i64 0, .slice none 0 0]) A9 S10 (by kernel_rfl) rfl (fun g15 ac wc A13 S14 => ?_)
  refine s_one (.int .i64 0) A13 S14 (g_assign (by kernel_rfl)) rfl (fun ac A16 => ?_)
  refine wpList_nil ?_
  refine n_then ?_
  refine wp_seq ?_
  refine wp_seq ?_
  refine r_begin (w0 := w0) (by kernel_rfl) (S14.sub sub_all sub_all) (fun wc T17 B18 => ?_)
  have S19 := S14.kept B18
  refine r_take 0 (.agg #[.int .i64 el, .slice A n cap]) A16 T17 (g_load (g := g3) (off := 0) 3 (by kernel_rfl) rfl (by kernel_rfl)) rfl rfl rfl (pf_then (pf_then pf_body)) (by kernel_rfl) (fun ac A20 => ?_)
  refine r_take 2 (.agg #[.int .i64 el, .slice A n cap]) A20 T17 (g_load (g := g3) (off := 0) 3 (by kernel_rfl) rfl (by kernel_rfl)) rfl rfl rfl (pf_then (pf_then pf_body)) (by kernel_rfl) (fun ac A21 => ?_)
  refine r_take 3 (.agg #[.int .i64 p, .int .i64 q]) A21 T17 (g_load (g := g7) (off := 0) 2 (by kernel_rfl) rfl (by kernel_rfl)) rfl rfl rfl (pf_then (pf_then pf_body)) (by kernel_rfl) (fun ac A22 => ?_)
  refine r_take 5 (.agg (trc ys)) A22 T17 (g_loadW (g := g11) 1 (by kernel_rfl) rfl ((trc_size _).trans hy) ⟨⟨_, Try.underlying38, rfl⟩, by kernel_rfl⟩) rfl rfl rfl (pf_then (pf_then pf_body)) (by kernel_rfl) (fun ac A23 => ?_)
  refine r_1 (i := 1) (by kernel_rfl) ?_
  refine rs_call (fs := #[]) (cp := #[]) (r := [(0, .agg #[.int .i64 el, .slice A n cap])]) #[.agg #[.int .i64 el, .slice A n cap]] (.int .i64 ((mxC el xs).2)) A23 S19 sub_all sub_all (matrixErr_s el A n cap xs _ hn (hr.kept S19.kp) (by omega)) Try.call63 rfl rfl (by kernel_rfl) (by kernel_rfl) (by kernel_rfl) rfl (fun ac wc A24 S25 => ?_)
  have T27 := S25.sub sub_all sub_all
  refine r_1 (i := 4) (by kernel_rfl) ?_
  refine rs_call (fs := #[]) (cp := #[]) (r := [(0, .agg #[.int .i64 el, .slice A n cap]), (0, .agg #[.int .i64 p, .int .i64 q])]) #[.agg #[.int .i64 el, .slice A n cap], .agg #[.int .i64 p, .int .i64 q]] (.int .i64 (pairE el p q)) A24 S25 sub_all sub_all (pairErr_s el p q A n cap _ (by omega)) Try.call64 rfl rfl (by kernel_rfl) (by kernel_rfl) (by kernel_rfl) rfl (fun ac wc A28 S29 => ?_)
  have T31 := S29.sub sub_all sub_all
  refine r_1 (i := 6) (by kernel_rfl) ?_
  refine rs_call (fs := #[]) (cp := #[]) (r := [(0, .agg (trc ys))]) #[.agg (trc ys)] (.int .i64 ((firstErr ys 0).2)) A28 S29 sub_all sub_all (traceErr_any ys _ hy) Try.call71 rfl rfl (by kernel_rfl) (by kernel_rfl) (by kernel_rfl) rfl (fun ac wc A32 S33 => ?_)
  have T35 := S33.sub sub_all sub_all
  refine r_1 (i := 7) (by kernel_rfl) ?_
  refine rs_bs (e := 32) (r := [(0, .int .i64 ((mxC el xs).2)), (1, .int .i64 (pairE el p q)), (2, .int .i64 ((firstErr ys 0).2))]) (#[.int .i64 ((mxC el xs).2), .int .i64 (pairE el p q), .int .i64 ((firstErr ys 0).2)]) A32 S33 sub_all sub_all (by kernel_rfl) (by kernel_rfl) rfl rfl rfl (fun g38 ac wc A36 S37 => ?_)
  have T39 := S37.sub (sub_skip sub_all) sub_all
  refine r_1 (i := 8) (by kernel_rfl) ?_
  refine rs_call (fs := #[]) (cp := #[]) (r := [(0, .slice (some ⟨g38, 0, none⟩) 3 3)]) #[.slice (some ⟨g38, 0, none⟩) 3 3] (.int .i64 (firstOf [(mxC el xs).2, pairE el p q, (firstErr ys 0).2])) A36 S37 (sub_skip sub_all) sub_all (sameB (first_any g38 32 3 [(mxC el xs).2, pairE el p q, (firstErr ys 0).2] 3 _ (S37.get 0 rfl) rfl (by omega))) Try.call62 rfl rfl (by kernel_rfl) (by kernel_rfl) (by kernel_rfl) rfl (fun ac wc A40 S41 => ?_)
  have T43 := S41.sub (sub_skip sub_all) sub_all
  refine r_take 9 (.int .i64 (firstOf [(mxC el xs).2, pairE el p q, (firstErr ys 0).2])) A40 T43 (g_assign (by kernel_rfl)) rfl rfl rfl (pf_then (pf_then pf_body)) (by kernel_rfl) (fun ac A44 => ?_)
  refine r_done (by kernel_rfl) ?_
  refine n_then ?_
  refine wp_seq ?_
  refine wp_region_lit ?_
  refine s_one (.int .i64 (firstOf [(mxC el xs).2, pairE el p q, (firstErr ys 0).2])) A44 S41 (g_move (by kernel_rfl)) rfl (fun ac A45 => ?_)
  refine s_one (.bool (decide (firstOf [(mxC el xs).2, pairE el p q, (firstErr ys 0).2] ≠ 0))) A45 S41 (g_bin (u := .int .i64 (firstOf [(mxC el xs).2, pairE el p q, (firstErr ys 0).2])) (k := .int .i64 0) (by kernel_rfl) (by kernel_rfl) (fun _ => by kernel_rfl) b_neq) rfl (fun ac A46 => ?_)
  refine wpList_nil ?_
  refine n_then ?_
  refine c_t (b := (decide (firstOf [(mxC el xs).2, pairE el p q, (firstErr ys 0).2] ≠ 0))) A46 (by kernel_rfl) (decide_eq_true h0) ?_
  refine wp_seq ?_
  refine wp_region_lit ?_
  refine s_one (.agg #[.int .i64 0, .slice none 0 0]) A46 S41 (g_build (r := []) (by kernel_rfl) (fun _ => by kernel_rfl)) rfl (fun ac A47 => ?_)
  refine s_one (.int .i64 (firstOf [(mxC el xs).2, pairE el p q, (firstErr ys 0).2])) A47 S41 (g_move (by kernel_rfl)) rfl (fun ac A48 => ?_)
  refine s_store (g := g15) (off := 0) (v := .agg #[.int .i64 0, .slice none 0 0]) 1 (#[.int .i64 0, .slice none 0 0]) A48 S41 (by kernel_rfl) (by kernel_rfl) rfl (by kernel_rfl) (fun wc S50 => ?_)
  refine s_one (.int .i64 (firstOf [(mxC el xs).2, pairE el p q, (firstErr ys 0).2])) A48 S50 (g_assign (by kernel_rfl)) rfl (fun ac A52 => ?_)
  refine wpList_nil ?_
  refine n_then ?_
  refine wp_ret ?_
  refine r_then ?_
  have S53 := S50.nilRow 36 1
  refine fin2 (.agg #[.int .i64 0, .slice none 0 0]) (.int .i64 (firstOf [(mxC el xs).2, pairE el p q, (firstErr ys 0).2])) Try.results22 A52 S53 (rv_cell (g := g15) (off := 0) 1 (by kernel_rfl) rfl (by kernel_rfl)) (rv_tmp (by kernel_rfl)) ?_
  have bw := S53.kp
  have ow := S53.row 0 rfl
  exact ⟨_, rfl, bw, ow⟩

theorem pair_lt {f r n : Nat} (h : f < n) (h2 : r < n) : f * n + r < n * n := by
  have := Nat.mul_le_mul_right n (show f + 1 ≤ n from h)
  rw [Nat.succ_mul] at this
  omega

set_option maxRecDepth 100000 in
set_option maxHeartbeats 400000 in
theorem With_ok (ne n cap : Nat) (ad : Addr) (xs : List Nat) (f r : Nat) (ys : List Nat) (w0 : World) (hn : xs.length = n) (hr : FReads w0 (some ad) xs) (hm : n ≤ 1000) (hcp : n ≤ cap) (h1 : 1 ≤ ne) (hne : n = ne * ne * 64) (hy : ys.length = 64) (hz : firstOf [(mxC (ne : Int) xs).2, pairE (ne : Int) (f : Int) (r : Int), (firstErr ys 0).2] = 0) (hfr : f < ne ∧ r < ne) :
    Calls Try.prog 22 #[.agg #[.int .i64 (ne : Int), .slice (some ad) n cap], .agg #[.int .i64 (f : Int), .int .i64 (r : Int)], .agg (trc ys)] w0 fun e w' => ∃ v, e = .returned (.tuple #[.agg #[.int .i64 (ne : Int), v], .int .i64 0]) ∧ Below w0.heap.size w0 w' ∧ w'.ownsRow w0.heap.size 36 1 v (ne * ne * 64) (rowF (fw (putL (mi xs) ((f * ne + r) * 64) (nums ys)))) := by
  have S0 := St.start w0
  obtain ⟨h0, hz2, hz3⟩ := firstOf_three hz
  have hR : Right xs := right_of (mxC_0 h0).2.2
  have hpos : 0 < ne * ne := Nat.mul_pos h1 h1
  have hml : (mi xs).length = ne * ne * 64 := by rw [mi_length, hn, hne]
  have hne3 : ne ≤ 3 := by rcases Nat.lt_or_ge 3 ne with q | q; have := Nat.mul_le_mul q q; omega; exact q
  have hee : ne * ne ≤ 15 := by omega
  have hRy : Right ys := right_of hz3
  have hfe : f * ne + r < ne * ne := pair_lt hfr.1 hfr.2
  refine enter (n := 39) Try.func22 rfl rfl rfl (fun ac A0 => ?_)
  refine wp_seq ?_
  refine wp_region_lit ?_
  refine s_box (.agg #[.int .i64 (ne : Int), .slice (some ad) n cap]) A0 S0 (by kernel_rfl) rfl (fun g3 ac wc A1 S2 => ?_)
  replace S2 : St _ (⟨g3, 30, #[.int .i64 (ne : Int), .slice (some ad) n cap], true⟩ :: _) _ _ := S2
  refine s_box (.agg #[.int .i64 (f : Int), .int .i64 (r : Int)]) A1 S2 (by kernel_rfl) rfl (fun g7 ac wc A5 S6 => ?_)
  replace S6 : St _ (⟨g7, 26, #[.int .i64 (f : Int), .int .i64 (r : Int)], true⟩ :: _) _ _ := S6
  refine s_box (.agg (trc ys)) A5 S6 (by kernel_rfl) rfl (fun g11 ac wc A9 S10 => ?_)
  replace S10 : St _ (⟨g11, 38, (trc ys), true⟩ :: _) _ _ := S10
  refine s_alloc (#[.int .i64 0, .slice none 0 0]) A9 S10 (by kernel_rfl) rfl (fun g15 ac wc A13 S14 => ?_)
  refine s_one (.int .i64 0) A13 S14 (g_assign (by kernel_rfl)) rfl (fun ac A16 => ?_)
  refine wpList_nil ?_
  refine n_then ?_
  refine wp_seq ?_
  refine wp_seq ?_
  refine r_begin (w0 := w0) (by kernel_rfl) (S14.sub sub_all sub_all) (fun wc T17 B18 => ?_)
  have S19 := S14.kept B18
  refine r_take 0 (.agg #[.int .i64 (ne : Int), .slice (some ad) n cap]) A16 T17 (g_load (g := g3) (off := 0) 3 (by kernel_rfl) rfl (by kernel_rfl)) rfl rfl rfl (pf_then (pf_then pf_body)) (by kernel_rfl) (fun ac A20 => ?_)
  refine r_take 2 (.agg #[.int .i64 (ne : Int), .slice (some ad) n cap]) A20 T17 (g_load (g := g3) (off := 0) 3 (by kernel_rfl) rfl (by kernel_rfl)) rfl rfl rfl (pf_then (pf_then pf_body)) (by kernel_rfl) (fun ac A21 => ?_)
  refine r_take 3 (.agg #[.int .i64 (f : Int), .int .i64 (r : Int)]) A21 T17 (g_load (g := g7) (off := 0) 2 (by kernel_rfl) rfl (by kernel_rfl)) rfl rfl rfl (pf_then (pf_then pf_body)) (by kernel_rfl) (fun ac A22 => ?_)
  refine r_take 5 (.agg (trc ys)) A22 T17 (g_loadW (g := g11) 1 (by kernel_rfl) rfl ((trc_size _).trans hy) ⟨⟨_, Try.underlying38, rfl⟩, by kernel_rfl⟩) rfl rfl rfl (pf_then (pf_then pf_body)) (by kernel_rfl) (fun ac A23 => ?_)
  refine r_1 (i := 1) (by kernel_rfl) ?_
  refine rs_call (fs := #[]) (cp := #[]) (r := [(0, .agg #[.int .i64 (ne : Int), .slice (some ad) n cap])]) #[.agg #[.int .i64 (ne : Int), .slice (some ad) n cap]] (.int .i64 ((mxC (ne : Int) xs).2)) A23 S19 sub_all sub_all (matrixErr_s (ne : Int) (some ad) n cap xs _ hn (hr.kept S19.kp) (by omega)) Try.call63 rfl rfl (by kernel_rfl) (by kernel_rfl) (by kernel_rfl) rfl (fun ac wc A24 S25 => ?_)
  have T27 := S25.sub sub_all sub_all
  refine r_1 (i := 4) (by kernel_rfl) ?_
  refine rs_call (fs := #[]) (cp := #[]) (r := [(0, .agg #[.int .i64 (ne : Int), .slice (some ad) n cap]), (0, .agg #[.int .i64 (f : Int), .int .i64 (r : Int)])]) #[.agg #[.int .i64 (ne : Int), .slice (some ad) n cap], .agg #[.int .i64 (f : Int), .int .i64 (r : Int)]] (.int .i64 (pairE (ne : Int) (f : Int) (r : Int))) A24 S25 sub_all sub_all (pairErr_s (ne : Int) (f : Int) (r : Int) (some ad) n cap _ (by omega)) Try.call64 rfl rfl (by kernel_rfl) (by kernel_rfl) (by kernel_rfl) rfl (fun ac wc A28 S29 => ?_)
  have T31 := S29.sub sub_all sub_all
  refine r_1 (i := 6) (by kernel_rfl) ?_
  refine rs_call (fs := #[]) (cp := #[]) (r := [(0, .agg (trc ys))]) #[.agg (trc ys)] (.int .i64 ((firstErr ys 0).2)) A28 S29 sub_all sub_all (traceErr_any ys _ hy) Try.call71 rfl rfl (by kernel_rfl) (by kernel_rfl) (by kernel_rfl) rfl (fun ac wc A32 S33 => ?_)
  have T35 := S33.sub sub_all sub_all
  refine r_1 (i := 7) (by kernel_rfl) ?_
  refine rs_bs (e := 32) (r := [(0, .int .i64 ((mxC (ne : Int) xs).2)), (1, .int .i64 (pairE (ne : Int) (f : Int) (r : Int))), (2, .int .i64 ((firstErr ys 0).2))]) (#[.int .i64 ((mxC (ne : Int) xs).2), .int .i64 (pairE (ne : Int) (f : Int) (r : Int)), .int .i64 ((firstErr ys 0).2)]) A32 S33 sub_all sub_all (by kernel_rfl) (by kernel_rfl) rfl rfl rfl (fun g38 ac wc A36 S37 => ?_)
  have T39 := S37.sub (sub_skip sub_all) sub_all
  refine r_1 (i := 8) (by kernel_rfl) ?_
  refine rs_call (fs := #[]) (cp := #[]) (r := [(0, .slice (some ⟨g38, 0, none⟩) 3 3)]) #[.slice (some ⟨g38, 0, none⟩) 3 3] (.int .i64 (firstOf [(mxC (ne : Int) xs).2, pairE (ne : Int) (f : Int) (r : Int), (firstErr ys 0).2])) A36 S37 (sub_skip sub_all) sub_all (sameB (first_any g38 32 3 [(mxC (ne : Int) xs).2, pairE (ne : Int) (f : Int) (r : Int), (firstErr ys 0).2] 3 _ (S37.get 0 rfl) rfl (by omega))) Try.call62 rfl rfl (by kernel_rfl) (by kernel_rfl) (by kernel_rfl) rfl (fun ac wc A40 S41 => ?_)
  have T43 := S41.sub (sub_skip sub_all) sub_all
  refine r_take 9 (.int .i64 (firstOf [(mxC (ne : Int) xs).2, pairE (ne : Int) (f : Int) (r : Int), (firstErr ys 0).2])) A40 T43 (g_assign (by kernel_rfl)) rfl rfl rfl (pf_then (pf_then pf_body)) (by kernel_rfl) (fun ac A44 => ?_)
  refine r_done (by kernel_rfl) ?_
  refine n_then ?_
  refine wp_seq ?_
  refine wp_region_lit ?_
  refine s_one (.int .i64 (firstOf [(mxC (ne : Int) xs).2, pairE (ne : Int) (f : Int) (r : Int), (firstErr ys 0).2])) A44 S41 (g_move (by kernel_rfl)) rfl (fun ac A45 => ?_)
  refine s_one (.bool (decide (firstOf [(mxC (ne : Int) xs).2, pairE (ne : Int) (f : Int) (r : Int), (firstErr ys 0).2] ≠ 0))) A45 S41 (g_bin (u := .int .i64 (firstOf [(mxC (ne : Int) xs).2, pairE (ne : Int) (f : Int) (r : Int), (firstErr ys 0).2])) (k := .int .i64 0) (by kernel_rfl) (by kernel_rfl) (fun _ => by kernel_rfl) b_neq) rfl (fun ac A46 => ?_)
  refine wpList_nil ?_
  refine n_then ?_
  refine c_f (b := (decide (firstOf [(mxC (ne : Int) xs).2, pairE (ne : Int) (f : Int) (r : Int), (firstErr ys 0).2] ≠ 0))) A46 (by kernel_rfl) (decide_eq_false (fun h => h hz)) ?_
  refine wp_skip ?_
  refine n_then ?_
  refine wp_seq ?_
  refine wp_region_lit ?_
  refine s_one (.agg #[.int .i64 (ne : Int), .slice (some ad) n cap]) A46 S41 (g_load (g := g3) (off := 0) 4 (by kernel_rfl) rfl (by kernel_rfl)) rfl (fun ac A47 => ?_)
  refine s_callSt (T := Nat × Nat × Nat) (fs := #[]) (cp := #[]) (r := [(0, .agg #[.int .i64 (ne : Int), .slice (some ad) n cap])]) #[.agg #[.int .i64 (ne : Int), .slice (some ad) n cap]] (fun u => .tuple #[.pointer (some ⟨u.1, 0, none⟩), .int .i64 0]) (fun u => [⟨u.1, 137, #[.int .i64 (ne : Int), .slice (some (Addr.mk u.2.1 0 none)) (ne * ne) u.2.2], true⟩]) (fun u => [⟨.slice (some (Addr.mk u.2.1 0 none)) (ne * ne) u.2.2, 123, 64, (ne * ne), (rowI (mi xs))⟩]) A47 S41 (open_ok ne n cap ad xs _ hn (hr.kept S41.kp) hm hcp h1 hne h0) (fun u x hx => by simp only [List.mem_cons, List.not_mem_nil, or_false] at hx; subst hx; rfl) Try.call72 (by kernel_rfl) (by kernel_rfl) (by kernel_rfl) rfl (fun u54 ac wc A48 S49 => ?_)
  obtain ⟨gm51, gr52, cp53⟩ := u54
  replace S49 : St w0 [⟨gm51, 137, #[.int .i64 (ne : Int), .slice (some (Addr.mk gr52 0 none)) (ne * ne) cp53], true⟩, ⟨g38, 32, #[.int .i64 ((mxC (ne : Int) xs).2), .int .i64 (pairE (ne : Int) (f : Int) (r : Int)), .int .i64 ((firstErr ys 0).2)], true⟩, ⟨g15, 30, #[.int .i64 0, .slice none 0 0], true⟩, ⟨g11, 38, (trc ys), true⟩, ⟨g7, 26, #[.int .i64 (f : Int), .int .i64 (r : Int)], true⟩, ⟨g3, 30, #[.int .i64 (ne : Int), .slice (some ad) n cap], true⟩] [⟨.slice (some (Addr.mk gr52 0 none)) (ne * ne) cp53, 123, 64, (ne * ne), (rowI (mi xs))⟩] _ := S49
  refine s_one (.tuple #[.pointer (some ⟨gm51, 0, none⟩), .int .i64 0]) A48 S49 (g_move (by kernel_rfl)) rfl (fun ac A55 => ?_)
  refine s_one (.pointer (some ⟨gm51, 0, none⟩)) A55 S49 (g_extract (u := .tuple #[.pointer (some ⟨gm51, 0, none⟩), .int .i64 0]) (by kernel_rfl) (fun _ => by kernel_rfl)) rfl (fun ac A56 => ?_)
  refine s_one (.int .i64 0) A56 S49 (g_extract (u := .tuple #[.pointer (some ⟨gm51, 0, none⟩), .int .i64 0]) (by kernel_rfl) (fun _ => by kernel_rfl)) rfl (fun ac A57 => ?_)
  refine s_one (.pointer (some ⟨gm51, 0, none⟩)) A57 S49 (g_assign (by kernel_rfl)) rfl (fun ac A58 => ?_)
  refine s_one (.int .i64 0) A58 S49 (g_assign (by kernel_rfl)) rfl (fun ac A59 => ?_)
  refine wpList_nil ?_
  refine n_then ?_
  refine wp_seq ?_
  refine wp_region_lit ?_
  refine s_one (.pointer (some ⟨gm51, 0, none⟩)) A59 S49 (g_move (by kernel_rfl)) rfl (fun ac A60 => ?_)
  refine s_one (.pointer (some ⟨g7, 0, none⟩)) A60 S49 (g_index (u := .pointer (some ⟨g7, 0, none⟩)) (k := .int .i64 0) (by kernel_rfl) (by kernel_rfl) (fun _ => by kernel_rfl)) rfl (fun ac A61 => ?_)
  refine s_one (.int .i64 (f : Int)) A61 S49 (g_load (g := g7) (off := 0) 4 (by kernel_rfl) rfl (by kernel_rfl)) rfl (fun ac A62 => ?_)
  refine s_one (.pointer (some ⟨g7, 1, none⟩)) A62 S49 (g_index (u := .pointer (some ⟨g7, 0, none⟩)) (k := .int .i64 1) (by kernel_rfl) (by kernel_rfl) (fun _ => by kernel_rfl)) rfl (fun ac A63 => ?_)
  refine s_one (.int .i64 (r : Int)) A63 S49 (g_load (g := g7) (off := 1) 4 (by kernel_rfl) rfl (by kernel_rfl)) rfl (fun ac A64 => ?_)
  refine s_call (fs := #[]) (cp := #[]) (r := [(0, .pointer (some ⟨gm51, 0, none⟩)), (0, .int .i64 (f : Int)), (0, .int .i64 (r : Int))]) #[.pointer (some ⟨gm51, 0, none⟩), .int .i64 (f : Int), .int .i64 (r : Int)] (.pointer (some ((Addr.mk gr52 0 none).add ((f * ne + r) * 64)))) A64 S49 (mat_at gm51 ne (ne * ne) cp53 f r (Addr.mk gr52 0 none) (mi xs) _ (S49.get 0 rfl) (by have hlen := hml; omega) hfe (by omega)) Try.call73 (by kernel_rfl) (by kernel_rfl) (by kernel_rfl) rfl (fun ac wc A65 S66 => ?_)
  refine s_call (fs := #[]) (cp := #[]) (r := [(0, .pointer (some ⟨g11, 0, none⟩))]) #[.pointer (some ⟨g11, 0, none⟩)] (.agg (ints (nums ys))) A65 S66 (numbersOf_any g11 ys _ hy (S66.get 3 rfl) hRy) Try.call66 (by kernel_rfl) (by kernel_rfl) (by kernel_rfl) rfl (fun ac wc A68 S69 => ?_)
  refine s_one (.pointer (some ((Addr.mk gr52 0 none).add ((f * ne + r) * 64)))) A68 S69 (g_nil (by kernel_rfl)) rfl (fun ac A71 => ?_)
  have hl73 : (putL (mi xs) ((f * ne + r) * 64) (nums ys)).length = (mi xs).length := putL_length (by have h1 := (show (nums ys).length = 64 from nums_length _); have h2 := hml; omega)
  refine s_storeR 0 (ad := (Addr.mk gr52 0 none)) (off := (f * ne + r) * 64) (u := .agg (ints (nums ys))) 64 (rowI (nums ys)) (rowI (putL (mi xs) ((f * ne + r) * 64) (nums ys))) A71 S69 (by kernel_rfl) (by kernel_rfl) rfl (ints_cells _) ((rowI_length _).trans (nums_length _)) (by kernel_rfl) (rowI_one _) (by rw [rowI_length]; have hlen := hml; omega) (putI _ _ _) (fun wc S72 => ?_)
  refine wpList_nil ?_
  refine n_then ?_
  refine wp_seq ?_
  refine wp_region_lit ?_
  refine s_one (.pointer (some ⟨gm51, 0, none⟩)) A71 S72 (g_move (by kernel_rfl)) rfl (fun ac A74 => ?_)
  refine s_callRF (fs := #[]) (cp := #[]) (r := [(0, .pointer (some ⟨gm51, 0, none⟩))]) (fun v => .agg #[.int .i64 (ne : Int), v]) #[.pointer (some ⟨gm51, 0, none⟩)] A74 S72 (full_s gm51 ne (ne * ne) cp53 (Addr.mk gr52 0 none) (putL (mi xs) ((f * ne + r) * 64) (nums ys)) _ (S72.get 0 rfl) (by have hlen := (hl73.trans hml); omega) (row_ir (S72.row 0 rfl)) (by omega)) Try.call74 (by kernel_rfl) (by kernel_rfl) (by kernel_rfl) rfl (fun v78 ac wc A75 S76 => ?_)
  obtain ⟨hl79, A80, cap81, rfl, hc82, hr83⟩ := rowF_reads (v := v78) (m := ((ne * ne) * 64)) (l := fw (putL (mi xs) ((f * ne + r) * 64) (nums ys))) (S76.row 0 rfl)
  refine s_store (g := g15) (off := 0) (v := .agg #[.int .i64 (ne : Int), .slice A80 ((ne * ne) * 64) cap81]) 2 (#[.int .i64 (ne : Int), .slice A80 ((ne * ne) * 64) cap81]) A75 S76 (by kernel_rfl) (by kernel_rfl) rfl (by kernel_rfl) (fun wc S85 => ?_)
  refine s_one (.int .i64 0) A75 S85 (g_assign (by kernel_rfl)) rfl (fun ac A87 => ?_)
  refine wpList_nil ?_
  refine n_then ?_
  refine wp_ret ?_
  refine fin2 (.agg #[.int .i64 (ne : Int), .slice A80 ((ne * ne) * 64) cap81]) (.int .i64 0) Try.results22 A87 S85 (rv_cell (g := g15) (off := 0) 2 (by kernel_rfl) rfl (by kernel_rfl)) (rv_tmp (by kernel_rfl)) ?_
  have bw := S85.kp
  have ow := S85.row 0 rfl
  exact ⟨_, rfl, bw, ow⟩

end Go.Proofs.Ytcijkniijomcjaa
