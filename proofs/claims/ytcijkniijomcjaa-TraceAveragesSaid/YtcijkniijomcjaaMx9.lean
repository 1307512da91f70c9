/- Matrices that are the same; without signs of 0. -/
import Derived.Test.YtcijkniijomcjaaMy
namespace Go.Proofs.Ytcijkniijomcjaa
open Go.RowKit Go.Cpl

theorem ints_cells (l : List Int) : (Value.agg (ints l)).cells.toList = rowI l := by simp [Value.cells, ints, rowI]
theorem rowI_length (l : List Int) : (rowI l).length = l.length := by simp [rowI]
theorem rowF_length (l : List Nat) : (rowF l).length = l.length := by simp [rowF]
theorem FReads.nil {w : World} {A : Option Addr} : FReads w A [] := fun k hk => absurd hk (Nat.not_lt_zero k)
theorem fw_snoc1 {xs : List Nat} {k : Nat} (h : k < xs.length) : rowF (fw ((mi xs).take k)) ++ [.float .f32 (floatOfInt .f32 (num (nth xs k)))] = rowF (fw ((mi xs).take (k + 1))) := by
  rw [List.take_add_one, mi, List.getElem?_map, List.getElem?_eq_getElem h, nth_eq h]
  simp [rowF, fw]

theorem len_bd {xs ys : List Nat} {n m : Nat} (e : xs = ys) (hx : xs.length = n) (hy : ys.length = m) (hm : m ≤ 100000) : n ≤ 100000 := by subst e; omega
theorem SameFloats_eq (xs ys : List Nat) (e : xs = ys) (C D : Option Addr) (c d n m : Nat) (w : World) (hn : xs.length = n) (hm : ys.length = m) (hl : n ≤ maxLen) (hC : FReads w C xs) (hD : FReads w D ys) : Calls Try.prog 68 #[.slice C n c, .slice D m d] w fun en w' => en = .returned (.bool true) ∧ Below w.heap.size w w' := by
  subst e; subst hn; subst hm
  exact SameFloats_s xs C D c d xs.length w rfl hl hC hD

set_option maxRecDepth 100000 in
set_option maxHeartbeats 400000 in
theorem SameMatrix_s (el : Int) (C D : Option Addr) (c d n : Nat) (xs : List Nat) (w0 : World) (hn : xs.length = n) (hm : n ≤ 100000) (hC : FReads w0 C xs) (hD : FReads w0 D xs) :
    Calls Try.prog 52 #[.agg #[.int .i64 el, .slice C n c], .agg #[.int .i64 el, .slice D n d]] w0 fun e w' => e = .returned (.bool true) ∧ Below w0.heap.size w0 w' := by
  have S0 := St.start w0
  refine enter (n := 17) Try.func52 rfl rfl rfl (fun ac A0 => ?_)
  refine wp_seq ?_
  refine wp_region_lit ?_
  refine s_box (.agg #[.int .i64 el, .slice C n c]) A0 S0 (by kernel_rfl) rfl (fun g3 ac wc A1 S2 => ?_)
  replace S2 : St _ (⟨g3, 30, #[.int .i64 el, .slice C n c], true⟩ :: _) _ _ := S2
  refine s_box (.agg #[.int .i64 el, .slice D n d]) A1 S2 (by kernel_rfl) rfl (fun g7 ac wc A5 S6 => ?_)
  replace S6 : St _ (⟨g7, 30, #[.int .i64 el, .slice D n d], true⟩ :: _) _ _ := S6
  refine s_one (.bool false) A5 S6 (g_assign (by kernel_rfl)) rfl (fun ac A9 => ?_)
  refine wpList_nil ?_
  refine n_then ?_
  refine wp_seq ?_
  refine wp_region_lit ?_
  refine s_one (.pointer (some ⟨g3, 0, none⟩)) A9 S6 (g_field (u := .pointer (some ⟨g3, 0, none⟩)) (by kernel_rfl) (fun _ => by kernel_rfl)) rfl (fun ac A10 => ?_)
  refine s_one (.int .i64 el) A10 S6 (g_load (g := g3) (off := 0) 1 (by kernel_rfl) rfl (by kernel_rfl)) rfl (fun ac A11 => ?_)
  refine s_one (.pointer (some ⟨g7, 0, none⟩)) A11 S6 (g_field (u := .pointer (some ⟨g7, 0, none⟩)) (by kernel_rfl) (fun _ => by kernel_rfl)) rfl (fun ac A12 => ?_)
  refine s_one (.int .i64 el) A12 S6 (g_load (g := g7) (off := 0) 0 (by kernel_rfl) rfl (by kernel_rfl)) rfl (fun ac A13 => ?_)
  refine s_one (.bool (decide (el = el))) A13 S6 (g_bin (u := .int .i64 el) (k := .int .i64 el) (by kernel_rfl) (by kernel_rfl) (fun _ => by kernel_rfl) b_eql) rfl (fun ac A14 => ?_)
  refine s_one (.bool (decide (el = el))) A14 S6 (g_move (by kernel_rfl)) rfl (fun ac A15 => ?_)
  refine s_want (dj := 10) (b := (decide (el = el))) A15 (by kernel_rfl) (by kernel_rfl) (decide_eq_true rfl) ?_
  refine s_one (.pointer (some ⟨g3, 1, none⟩)) A15 S6 (g_field (u := .pointer (some ⟨g3, 0, none⟩)) (by kernel_rfl) (fun _ => by kernel_rfl)) rfl (fun ac A16 => ?_)
  refine s_want (dj := 10) (b := (decide (el = el))) A16 (by kernel_rfl) (by kernel_rfl) (decide_eq_true rfl) ?_
  refine s_one (.slice C n c) A16 S6 (g_load (g := g3) (off := 1) 1 (by kernel_rfl) rfl (by kernel_rfl)) rfl (fun ac A17 => ?_)
  refine s_want (dj := 10) (b := (decide (el = el))) A17 (by kernel_rfl) (by kernel_rfl) (decide_eq_true rfl) ?_
  refine s_one (.pointer (some ⟨g7, 1, none⟩)) A17 S6 (g_field (u := .pointer (some ⟨g7, 0, none⟩)) (by kernel_rfl) (fun _ => by kernel_rfl)) rfl (fun ac A18 => ?_)
  refine s_want (dj := 10) (b := (decide (el = el))) A18 (by kernel_rfl) (by kernel_rfl) (decide_eq_true rfl) ?_
  refine s_one (.slice D n d) A18 S6 (g_load (g := g7) (off := 1) 0 (by kernel_rfl) rfl (by kernel_rfl)) rfl (fun ac A19 => ?_)
  refine s_want (dj := 10) (b := (decide (el = el))) A19 (by kernel_rfl) (by kernel_rfl) (decide_eq_true rfl) ?_
  refine s_call (fs := #[]) (cp := #[]) (r := [(0, .slice C n c), (0, .slice D n d)]) #[.slice C n c, .slice D n d] (.bool true) A19 S6 (SameFloats_eq xs xs rfl C D c d n n _ hn hn (by unfold maxLen; omega) (hC.kept S6.kp) (hD.kept S6.kp)) Try.call68 (by kernel_rfl) (by kernel_rfl) (by kernel_rfl) rfl (fun ac wc A20 S21 => ?_)
  refine s_one (.bool true) A20 S21 (g_pick_t (b := (decide (el = el))) (by kernel_rfl) (decide_eq_true rfl) (by kernel_rfl)) rfl (fun ac A23 => ?_)
  refine s_one (.bool true) A23 S21 (g_assign (by kernel_rfl)) rfl (fun ac A24 => ?_)
  refine wpList_nil ?_
  refine n_then ?_
  refine wp_ret ?_
  refine fin1 (.bool true) Try.results52 A24 S21 (rv_tmp (by kernel_rfl)) ⟨?_, S21.kp⟩
  rfl

theorem SameMatrix_eq (e1 e2 : Int) (he : e1 = e2) (xs ys : List Nat) (e : xs = ys) (C D : Option Addr) (c d n m : Nat) (w : World) (hn : xs.length = n) (hm : ys.length = m) (hl : n ≤ 100000) (hC : FReads w C xs) (hD : FReads w D ys) : Calls Try.prog 52 #[.agg #[.int .i64 e1, .slice C n c], .agg #[.int .i64 e2, .slice D m d]] w fun en w' => en = .returned (.bool true) ∧ Below w.heap.size w w' := by
  subst e; subst hn; subst hm; subst he
  exact SameMatrix_s e1 C D c d xs.length xs w rfl hl hC hD

set_option maxRecDepth 100000 in
set_option maxHeartbeats 400000 in
theorem same_s (el z : Int) (C D : Option Addr) (c d n : Nat) (xs : List Nat) (w0 : World) (hn : xs.length = n) (hm : n ≤ 100000) (hC : FReads w0 C xs) (hD : FReads w0 D xs) :
    Calls Try.prog 26 #[.agg #[.int .i64 el, .slice C n c], .int .i64 z, .agg #[.int .i64 el, .slice D n d], .int .i64 z] w0 fun e w' => e = .returned (.bool true) ∧ Below w0.heap.size w0 w' := by
  have S0 := St.start w0
  refine enter (n := 17) Try.func26 rfl rfl rfl (fun ac A0 => ?_)
  refine wp_seq ?_
  refine wp_region_lit ?_
  refine s_box (.agg #[.int .i64 el, .slice C n c]) A0 S0 (by kernel_rfl) rfl (fun g3 ac wc A1 S2 => ?_)
  replace S2 : St _ (⟨g3, 30, #[.int .i64 el, .slice C n c], true⟩ :: _) _ _ := S2
  refine s_box (.agg #[.int .i64 el, .slice D n d]) A1 S2 (by kernel_rfl) rfl (fun g7 ac wc A5 S6 => ?_)
  replace S6 : St _ (⟨g7, 30, #[.int .i64 el, .slice D n d], true⟩ :: _) _ _ := S6
  refine s_one (.bool false) A5 S6 (g_assign (by kernel_rfl)) rfl (fun ac A9 => ?_)
  refine wpList_nil ?_
  refine n_then ?_
  refine wp_seq ?_
  refine wp_region_lit ?_
  refine s_one (.int .i64 z) A9 S6 (g_move (by kernel_rfl)) rfl (fun ac A10 => ?_)
  refine s_one (.int .i64 z) A10 S6 (g_move (by kernel_rfl)) rfl (fun ac A11 => ?_)
  refine s_one (.bool (decide (z = z))) A11 S6 (g_bin (u := .int .i64 z) (k := .int .i64 z) (by kernel_rfl) (by kernel_rfl) (fun _ => by kernel_rfl) b_eql) rfl (fun ac A12 => ?_)
  refine s_one (.bool (decide (z = z))) A12 S6 (g_move (by kernel_rfl)) rfl (fun ac A13 => ?_)
  refine s_want (dj := 12) (b := (decide (z = z))) A13 (by kernel_rfl) (by kernel_rfl) (decide_eq_true rfl) ?_
  refine s_one (.agg #[.int .i64 el, .slice C n c]) A13 S6 (g_load (g := g3) (off := 0) 1 (by kernel_rfl) rfl (by kernel_rfl)) rfl (fun ac A14 => ?_)
  refine s_want (dj := 12) (b := (decide (z = z))) A14 (by kernel_rfl) (by kernel_rfl) (decide_eq_true rfl) ?_
  refine s_one (.agg #[.int .i64 el, .slice D n d]) A14 S6 (g_load (g := g7) (off := 0) 0 (by kernel_rfl) rfl (by kernel_rfl)) rfl (fun ac A15 => ?_)
  refine s_want (dj := 12) (b := (decide (z = z))) A15 (by kernel_rfl) (by kernel_rfl) (decide_eq_true rfl) ?_
  refine s_call (fs := #[]) (cp := #[]) (r := [(0, .agg #[.int .i64 el, .slice C n c]), (0, .agg #[.int .i64 el, .slice D n d])]) #[.agg #[.int .i64 el, .slice C n c], .agg #[.int .i64 el, .slice D n d]] (.bool true) A15 S6 (SameMatrix_eq el el rfl xs xs rfl C D c d n n _ hn hn (by omega) (hC.kept S6.kp) (hD.kept S6.kp)) Try.call52 (by kernel_rfl) (by kernel_rfl) (by kernel_rfl) rfl (fun ac wc A16 S17 => ?_)
  refine s_one (.bool true) A16 S17 (g_pick_t (b := (decide (z = z))) (by kernel_rfl) (decide_eq_true rfl) (by kernel_rfl)) rfl (fun ac A19 => ?_)
  refine s_one (.bool true) A19 S17 (g_assign (by kernel_rfl)) rfl (fun ac A20 => ?_)
  refine wpList_nil ?_
  refine n_then ?_
  refine wp_ret ?_
  refine fin1 (.bool true) Try.results26 A20 S17 (rv_tmp (by kernel_rfl)) ⟨?_, S17.kp⟩
  rfl

theorem same_eq (z1 z2 : Int) (hz : z1 = z2) (e1 e2 : Int) (he : e1 = e2) (xs ys : List Nat) (e : xs = ys) (C D : Option Addr) (c d n m : Nat) (w : World) (hn : xs.length = n) (hm : ys.length = m) (hl : n ≤ 100000) (hC : FReads w C xs) (hD : FReads w D ys) : Calls Try.prog 26 #[.agg #[.int .i64 e1, .slice C n c], .int .i64 z1, .agg #[.int .i64 e2, .slice D m d], .int .i64 z2] w fun en w' => en = .returned (.bool true) ∧ Below w.heap.size w w' := by
  subst e; subst hn; subst hm; subst he; subst hz
  exact same_s e1 z1 C D c d xs.length xs w rfl hl hC hD

set_option maxRecDepth 100000 in
set_option maxHeartbeats 400000 in
theorem err_s (el : Int) (A : Option Addr) (n cap : Nat) (xs : List Nat) (w0 : World) (hn : xs.length = n) (hr : FReads w0 A xs) (hm : n ≤ 1000) :
    Calls Try.prog 23 #[.agg #[.int .i64 el, .slice A n cap]] w0 fun e w' => e = .returned (.int .i64 (mxC el xs).2) ∧ Below w0.heap.size w0 w' := by
  have S0 := St.start w0
  refine enter (n := 11) Try.func23 rfl rfl rfl (fun ac A0 => ?_)
  refine wp_seq ?_
  refine wp_region_lit ?_
  refine s_box (.agg #[.int .i64 el, .slice A n cap]) A0 S0 (by kernel_rfl) rfl (fun g3 ac wc A1 S2 => ?_)
  replace S2 : St _ (⟨g3, 30, #[.int .i64 el, .slice A n cap], true⟩ :: _) _ _ := S2
  refine s_one (.int .i64 0) A1 S2 (g_assign (by kernel_rfl)) rfl (fun ac A5 => ?_)
  refine wpList_nil ?_
  refine n_then ?_
  refine wp_seq ?_
  refine wp_region_lit ?_
  refine s_one (.agg #[.int .i64 el, .slice A n cap]) A5 S2 (g_load (g := g3) (off := 0) 0 (by kernel_rfl) rfl (by kernel_rfl)) rfl (fun ac A6 => ?_)
  refine s_call (fs := #[]) (cp := #[]) (r := [(0, .agg #[.int .i64 el, .slice A n cap])]) #[.agg #[.int .i64 el, .slice A n cap]] (.tuple #[.int .i64 ((mxC el xs).1), .int .i64 ((mxC el xs).2)]) A6 S2 (refCheckMatrix_s el A n cap xs _ hn (hr.kept S2.kp) (by omega)) Try.call17 (by kernel_rfl) (by kernel_rfl) (by kernel_rfl) rfl (fun ac wc A7 S8 => ?_)
  refine s_one (.tuple #[.int .i64 ((mxC el xs).1), .int .i64 ((mxC el xs).2)]) A7 S8 (g_move (by kernel_rfl)) rfl (fun ac A10 => ?_)
  refine s_one (.int .i64 ((mxC el xs).1)) A10 S8 (g_extract (u := .tuple #[.int .i64 ((mxC el xs).1), .int .i64 ((mxC el xs).2)]) (by kernel_rfl) (fun _ => by kernel_rfl)) rfl (fun ac A11 => ?_)
  refine s_one (.int .i64 ((mxC el xs).2)) A11 S8 (g_extract (u := .tuple #[.int .i64 ((mxC el xs).1), .int .i64 ((mxC el xs).2)]) (by kernel_rfl) (fun _ => by kernel_rfl)) rfl (fun ac A12 => ?_)
  refine s_one (.int .i64 ((mxC el xs).1)) A12 S8 (g_assign (by kernel_rfl)) rfl (fun ac A13 => ?_)
  refine s_one (.int .i64 ((mxC el xs).2)) A13 S8 (g_assign (by kernel_rfl)) rfl (fun ac A14 => ?_)
  refine wpList_nil ?_
  refine n_then ?_
  refine wp_seq ?_
  refine wp_region_lit ?_
  refine s_one (.int .i64 ((mxC el xs).2)) A14 S8 (g_move (by kernel_rfl)) rfl (fun ac A15 => ?_)
  refine s_one (.int .i64 ((mxC el xs).2)) A15 S8 (g_assign (by kernel_rfl)) rfl (fun ac A16 => ?_)
  refine wpList_nil ?_
  refine n_then ?_
  refine wp_ret ?_
  refine fin1 (.int .i64 ((mxC el xs).2)) Try.results23 A16 S8 (rv_tmp (by kernel_rfl)) ⟨?_, S8.kp⟩
  rfl

set_option maxRecDepth 100000 in
set_option maxHeartbeats 400000 in
theorem Plain_s (el : Int) (A : Option Addr) (n cap : Nat) (xs : List Nat) (w0 : World) (hn : xs.length = n) (hr : FReads w0 A xs) (hm : n ≤ 1000) (hR : Right xs) :
    Calls Try.prog 27 #[.agg #[.int .i64 el, .slice A n cap]] w0 fun e w' => ∃ v, e = .returned (.agg #[.int .i64 el, v]) ∧ Below w0.heap.size w0 w' ∧ w'.ownsRow w0.heap.size 36 1 v n (rowF (fw (mi xs))) := by
  have S0 := St.start w0
  have HR : ∀ k, k < n → sErr (nth xs k) = 0 := fun k hk => hR.at_ (by omega)
  refine enter (n := 28) Try.func27 rfl rfl rfl (fun ac A0 => ?_)
  refine wp_seq ?_
  refine wp_region_lit ?_
  refine s_box (.agg #[.int .i64 el, .slice A n cap]) A0 S0 (by kernel_rfl) rfl (fun g3 ac wc A1 S2 => ?_)
  replace S2 : St _ (⟨g3, 30, #[.int .i64 el, .slice A n cap], true⟩ :: _) _ _ := S2
  refine s_alloc (#[.int .i64 0, .slice none 0 0]) A1 S2 (by kernel_rfl) rfl (fun g7 ac wc A5 S6 => ?_)
  refine wpList_nil ?_
  refine n_then ?_
  refine wp_seq ?_
  refine wp_region_lit ?_
  refine s_one (.pointer (some ⟨g3, 0, none⟩)) A5 S6 (g_field (u := .pointer (some ⟨g3, 0, none⟩)) (by kernel_rfl) (fun _ => by kernel_rfl)) rfl (fun ac A8 => ?_)
  refine s_one (.int .i64 el) A8 S6 (g_load (g := g3) (off := 0) 1 (by kernel_rfl) rfl (by kernel_rfl)) rfl (fun ac A9 => ?_)
  refine s_one (.agg #[.int .i64 el, .slice none 0 0]) A9 S6 (g_build (r := [(0, .int .i64 el)]) (by kernel_rfl) (fun _ => by kernel_rfl)) rfl (fun ac A10 => ?_)
  refine s_alloc (#[.int .i64 0, .slice none 0 0]) A10 S6 (by kernel_rfl) rfl (fun g13 ac wc A11 S12 => ?_)
  refine s_store (g := g13) (off := 0) (v := .agg #[.int .i64 el, .slice none 0 0]) 0 (#[.int .i64 el, .slice none 0 0]) A11 S12 (by kernel_rfl) (by kernel_rfl) rfl (by kernel_rfl) (fun wc S15 => ?_)
  refine wpList_nil ?_
  refine n_then ?_
  refine wp_seq ?_
  refine wp_seq ?_
  have S0n := S15.nilRow 36 1
  refine wp_region_lit ?_
  refine s_one (.int .i64 0) A11 S0n (g_assign (by kernel_rfl)) rfl (fun ac A17 => ?_)
  refine wpList_nil ?_
  refine n_then ?_
  refine wp_block ?_
  refine c_loopN (fun mm ac wc => ∃ (k : Nat) (v : Value), mm = n - k ∧ (k ≤ n) ∧ Fr 28 ac [(0, .agg #[.int .i64 el, .slice A n cap]), (1, .pointer (some ⟨g3, 0, none⟩)), (2, .pointer (some ⟨g7, 0, none⟩)), (5, .pointer (some ⟨g3, 0, none⟩)), (6, .int .i64 el), (7, .agg #[.int .i64 el, .slice none 0 0]), (3, .pointer (some ⟨g13, 0, none⟩)), (4, .int .i64 (k : Int))] ∧ St w0 [⟨g13, 30, #[.int .i64 el, v], true⟩, ⟨g7, 30, #[.int .i64 0, .slice none 0 0], true⟩, ⟨g3, 30, #[.int .i64 el, .slice A n cap], true⟩] [⟨v, 36, 1, k, (rowF (fw ((mi xs).take k)))⟩] wc) _ ⟨0, .slice none 0 0, rfl, by omega, (A17.slot (A17.slot (A17.slot (A17.slot (A17.slot (A17.slot (A17.slot (A17.slot A17.nil (v := .int .i64 0) (by kernel_rfl) (congrArg (Value.int .i64) (by omega))) (v := .pointer (some ⟨g13, 0, none⟩)) (by kernel_rfl) rfl) (v := .agg #[.int .i64 el, .slice none 0 0]) (by kernel_rfl) rfl) (v := .int .i64 el) (by kernel_rfl) rfl) (v := .pointer (some ⟨g3, 0, none⟩)) (by kernel_rfl) rfl) (v := .pointer (some ⟨g7, 0, none⟩)) (by kernel_rfl) rfl) (v := .pointer (some ⟨g3, 0, none⟩)) (by kernel_rfl) rfl) (v := .agg #[.int .i64 el, .slice A n cap]) (by kernel_rfl) rfl), (St.rerow 0 (St.recell 0 S0n rfl (by rfl)) rfl ⟨rfl, rfl⟩).sub sub_all sub_all⟩ ?_
  rintro mm ac wc ⟨k, v, hm20, hk, A18, S19⟩
  refine wp_seq ?_
  refine wp_seq ?_
  refine wp_region_lit ?_
  refine s_one (.int .i64 (k : Int)) A18 S19 (g_move (by kernel_rfl)) rfl (fun ac A21 => ?_)
  refine s_one (.pointer (some ⟨g3, 1, none⟩)) A21 S19 (g_field (u := .pointer (some ⟨g3, 0, none⟩)) (by kernel_rfl) (fun _ => by kernel_rfl)) rfl (fun ac A22 => ?_)
  refine s_one (.slice A n cap) A22 S19 (g_load (g := g3) (off := 1) 2 (by kernel_rfl) rfl (by kernel_rfl)) rfl (fun ac A23 => ?_)
  refine s_one (.int .i64 (n : Int)) A23 S19 (g_built (r := [(0, .slice A n cap)]) (by kernel_rfl) (fun _ _ _ => by kernel_rfl)) rfl (fun ac A24 => ?_)
  refine s_one (.bool (decide ((k : Int) < (n : Int)))) A24 S19 (g_bin (u := .int .i64 (k : Int)) (k := .int .i64 (n : Int)) (by kernel_rfl) (by kernel_rfl) (fun _ => by kernel_rfl) (fun _ => by kernel_rfl)) rfl (fun ac A25 => ?_)
  refine wpList_nil ?_
  refine n_then ?_
  refine c_ifb (b := (decide ((k : Int) < (n : Int)))) A25 (by kernel_rfl) (fun h26 => ?_) (fun h26 => ?_)
  · have p27 := of_decide_eq_true h26
    refine wp_skip ?_
    refine n_then ?_
    refine wp_seq ?_
    refine wp_block ?_
    refine r_begin (w0 := w0) (by kernel_rfl) (S19.sub (sub_skip (sub_skip sub_all)) sub_nil) (fun wc T28 B29 => ?_)
    have S30 := S19.kept B29
    refine r_take 0 (.pointer (some ⟨g13, 1, none⟩)) A25 T28 (g_field (u := .pointer (some ⟨g13, 0, none⟩)) (by kernel_rfl) (fun _ => by kernel_rfl)) rfl rfl rfl (pf_block (pf_then (pf_then (pf_block (pf_then pf_body))))) (by kernel_rfl) (fun ac A31 => ?_)
    refine r_take 2 (.pointer (some ⟨g3, 1, none⟩)) A31 T28 (g_field (u := .pointer (some ⟨g3, 0, none⟩)) (by kernel_rfl) (fun _ => by kernel_rfl)) rfl rfl rfl (pf_block (pf_then (pf_then (pf_block (pf_then pf_body))))) (by kernel_rfl) (fun ac A32 => ?_)
    refine r_take 3 (.slice A n cap) A32 T28 (g_load (g := g3) (off := 1) 0 (by kernel_rfl) rfl (by kernel_rfl)) rfl rfl rfl (pf_block (pf_then (pf_then (pf_block (pf_then pf_body))))) (by kernel_rfl) (fun ac A33 => ?_)
    refine r_take 4 (.int .i64 (k : Int)) A33 T28 (g_move (by kernel_rfl)) rfl rfl rfl (pf_block (pf_then (pf_then (pf_block (pf_then pf_body))))) (by kernel_rfl) (fun ac A34 => ?_)
    obtain ⟨ad35, rfl, _⟩ := hr (k) (by have hlen := hn; omega)
    refine r_take 5 (.pointer (some (ad35.add k))) A34 T28 (g_index (u := .slice (some ad35) n cap) (k := .int .i64 (k : Int)) (by kernel_rfl) (by kernel_rfl) (ix_x (e := 36) (bytes := 4) k (by kernel_rfl) (by omega) (by omega))) rfl rfl rfl (pf_block (pf_then (pf_then (pf_block (pf_then pf_body))))) (by kernel_rfl) (fun ac A36 => ?_)
    refine r_take 6 (.float .f32 (nth xs k)) A36 T28 (g_loadXF (l := xs) (k := k) (by kernel_rfl) hr (by have hlen := hn; omega) (by kernel_rfl)) rfl rfl rfl (pf_block (pf_then (pf_then (pf_block (pf_then pf_body))))) (by kernel_rfl) (fun ac A37 => ?_)
    refine r_take 7 (.int .i64 (num (nth xs k))) A37 T28 (g_conv (u := .float .f32 (nth xs k)) (by kernel_rfl) (run_toInt (HR _ (by omega)))) rfl rfl rfl (pf_block (pf_then (pf_then (pf_block (pf_then pf_body))))) (by kernel_rfl) (fun ac A38 => ?_)
    refine r_take 8 (.float .f32 (floatOfInt .f32 (num (nth xs k)))) A38 T28 (g_conv (u := .int .i64 (num (nth xs k))) (by kernel_rfl) (fun _ => by kernel_rfl)) rfl rfl rfl (pf_block (pf_then (pf_then (pf_block (pf_then pf_body))))) (by kernel_rfl) (fun ac A39 => ?_)
    refine r_2 (i := 1) (j := 9) (by kernel_rfl) ?_ ?_
    · refine rs_gives (v) A39 S30 (sub_skip (sub_skip sub_all)) sub_nil (g_load (g := g13) (off := 1) 0 (by kernel_rfl) rfl (by kernel_rfl)) rfl rfl rfl (fun ac A40 => ?_)
      refine r_1 (i := 9) (by kernel_rfl) ?_
      refine rs_bs (e := 36) (r := [(0, .float .f32 (floatOfInt .f32 (num (nth xs k))))]) (#[.float .f32 (floatOfInt .f32 (num (nth xs k)))]) A40 S30 (sub_skip (sub_skip sub_all)) sub_nil (by kernel_rfl) (by kernel_rfl) rfl rfl rfl (fun g46 ac wc A44 S45 => ?_)
      have T47 := S45.sub (sub_skip (sub_skip (sub_skip sub_all))) sub_nil
      refine r_1 (i := 10) (by kernel_rfl) ?_
      refine rs_append (e := 36) (size := 1) (bytes := 4) (v := v) (g := g46) (m' := 1) (c := 1) 0 0 [.float .f32 (floatOfInt .f32 (num (nth xs k)))] A44 S45 (sub_skip (sub_skip (sub_skip sub_all))) (fun _ => sub_nil) (by kernel_rfl) (by kernel_rfl) (by kernel_rfl) rfl rfl (by kernel_rfl) rfl (by kernel_rfl) (by omega) (by omega) rfl rfl rfl (fun v52 ac wc A48 S49 => ?_)
      have T51 := S49.sub (sub_skip (sub_skip (sub_skip sub_all))) sub_nil
      refine r_take 11 (.pointer (some ⟨g13, 1, none⟩)) A48 T51 (g_field (u := .pointer (some ⟨g13, 0, none⟩)) (by kernel_rfl) (fun _ => by kernel_rfl)) rfl rfl rfl (pf_block (pf_then (pf_then (pf_block (pf_then pf_body))))) (by kernel_rfl) (fun ac A53 => ?_)
      refine r_1 (i := 12) (by kernel_rfl) ?_
      obtain ⟨A54, cap55, rfl⟩ := row_slice (v := v52) (m := k + 1) (S49.row 0 rfl)
      refine rs_store (g := g13) (off := 1) (v := .slice A54 (k + 1) cap55) 1 (#[.int .i64 el, .slice A54 (k + 1) cap55]) A53 S49 (sub_skip (sub_skip (sub_skip sub_all))) sub_nil (by kernel_rfl) (by kernel_rfl) rfl (by kernel_rfl) rfl rfl (fun wc S57 => ?_)
      have T59 := S57.sub (sub_skip (sub_skip (sub_skip sub_all))) sub_nil
      refine r_done (by kernel_rfl) ?_
      refine n_block ?_
      refine n_then ?_
      refine wp_region_lit ?_
      refine s_one (.int .i64 (k : Int)) A53 S57 (g_move (by kernel_rfl)) rfl (fun ac A60 => ?_)
      refine s_one (.int .i64 ((k : Int) + 1)) A60 S57 (g_bin (u := .int .i64 (k : Int)) (k := .int .i64 1) (by kernel_rfl) (by kernel_rfl) (fun _ => by kernel_rfl) (b_add (by omega))) rfl (fun ac A61 => ?_)
      refine s_one (.int .i64 ((k : Int) + 1)) A61 S57 (g_assign (by kernel_rfl)) rfl (fun ac A62 => ?_)
      refine wpList_nil ?_
      refine n_then ?_
      refine ⟨_, ⟨k + 1, .slice A54 (k + 1) cap55, rfl, by omega, (A62.slot (A62.slot (A62.slot (A62.slot (A62.slot (A62.slot (A62.slot (A62.slot A62.nil (v := .int .i64 ((k : Int) + 1)) (by kernel_rfl) (congrArg (Value.int .i64) (by omega))) (v := .pointer (some ⟨g13, 0, none⟩)) (by kernel_rfl) rfl) (v := .agg #[.int .i64 el, .slice none 0 0]) (by kernel_rfl) rfl) (v := .int .i64 el) (by kernel_rfl) rfl) (v := .pointer (some ⟨g3, 0, none⟩)) (by kernel_rfl) rfl) (v := .pointer (some ⟨g7, 0, none⟩)) (by kernel_rfl) rfl) (v := .pointer (some ⟨g3, 0, none⟩)) (by kernel_rfl) rfl) (v := .agg #[.int .i64 el, .slice (some ad35) n cap]) (by kernel_rfl) (by first | rfl | simp)), (St.rerow 0 (St.recell 3 (St.recell 1 S57 rfl (by rfl)) rfl (by rfl)) rfl ⟨rfl, fw_snoc1 (by omega)⟩).sub (sub_skip sub_all) sub_all⟩, ?_⟩
      omega
    · refine rs_bs (e := 36) (r := [(0, .float .f32 (floatOfInt .f32 (num (nth xs k))))]) (#[.float .f32 (floatOfInt .f32 (num (nth xs k)))]) A39 S30 (sub_skip (sub_skip sub_all)) sub_nil (by kernel_rfl) (by kernel_rfl) rfl rfl rfl (fun g65 ac wc A63 S64 => ?_)
      have T66 := S64.sub (sub_skip (sub_skip (sub_skip sub_all))) sub_nil
      refine r_1 (i := 1) (by kernel_rfl) ?_
      refine rs_gives (v) A63 S64 (sub_skip (sub_skip (sub_skip sub_all))) sub_nil (g_load (g := g13) (off := 1) 1 (by kernel_rfl) rfl (by kernel_rfl)) rfl rfl rfl (fun ac A67 => ?_)
      refine r_1 (i := 10) (by kernel_rfl) ?_
      refine rs_append (e := 36) (size := 1) (bytes := 4) (v := v) (g := g65) (m' := 1) (c := 1) 0 0 [.float .f32 (floatOfInt .f32 (num (nth xs k)))] A67 S64 (sub_skip (sub_skip (sub_skip sub_all))) (fun _ => sub_nil) (by kernel_rfl) (by kernel_rfl) (by kernel_rfl) rfl rfl (by kernel_rfl) rfl (by kernel_rfl) (by omega) (by omega) rfl rfl rfl (fun v75 ac wc A71 S72 => ?_)
      have T74 := S72.sub (sub_skip (sub_skip (sub_skip sub_all))) sub_nil
      refine r_take 11 (.pointer (some ⟨g13, 1, none⟩)) A71 T74 (g_field (u := .pointer (some ⟨g13, 0, none⟩)) (by kernel_rfl) (fun _ => by kernel_rfl)) rfl rfl rfl (pf_block (pf_then (pf_then (pf_block (pf_then pf_body))))) (by kernel_rfl) (fun ac A76 => ?_)
      refine r_1 (i := 12) (by kernel_rfl) ?_
      obtain ⟨A77, cap78, rfl⟩ := row_slice (v := v75) (m := k + 1) (S72.row 0 rfl)
      refine rs_store (g := g13) (off := 1) (v := .slice A77 (k + 1) cap78) 1 (#[.int .i64 el, .slice A77 (k + 1) cap78]) A76 S72 (sub_skip (sub_skip (sub_skip sub_all))) sub_nil (by kernel_rfl) (by kernel_rfl) rfl (by kernel_rfl) rfl rfl (fun wc S80 => ?_)
      have T82 := S80.sub (sub_skip (sub_skip (sub_skip sub_all))) sub_nil
      refine r_done (by kernel_rfl) ?_
      refine n_block ?_
      refine n_then ?_
      refine wp_region_lit ?_
      refine s_one (.int .i64 (k : Int)) A76 S80 (g_move (by kernel_rfl)) rfl (fun ac A83 => ?_)
      refine s_one (.int .i64 ((k : Int) + 1)) A83 S80 (g_bin (u := .int .i64 (k : Int)) (k := .int .i64 1) (by kernel_rfl) (by kernel_rfl) (fun _ => by kernel_rfl) (b_add (by omega))) rfl (fun ac A84 => ?_)
      refine s_one (.int .i64 ((k : Int) + 1)) A84 S80 (g_assign (by kernel_rfl)) rfl (fun ac A85 => ?_)
      refine wpList_nil ?_
      refine n_then ?_
      refine ⟨_, ⟨k + 1, .slice A77 (k + 1) cap78, rfl, by omega, (A85.slot (A85.slot (A85.slot (A85.slot (A85.slot (A85.slot (A85.slot (A85.slot A85.nil (v := .int .i64 ((k : Int) + 1)) (by kernel_rfl) (congrArg (Value.int .i64) (by omega))) (v := .pointer (some ⟨g13, 0, none⟩)) (by kernel_rfl) rfl) (v := .agg #[.int .i64 el, .slice none 0 0]) (by kernel_rfl) rfl) (v := .int .i64 el) (by kernel_rfl) rfl) (v := .pointer (some ⟨g3, 0, none⟩)) (by kernel_rfl) rfl) (v := .pointer (some ⟨g7, 0, none⟩)) (by kernel_rfl) rfl) (v := .pointer (some ⟨g3, 0, none⟩)) (by kernel_rfl) rfl) (v := .agg #[.int .i64 el, .slice (some ad35) n cap]) (by kernel_rfl) (by first | rfl | simp)), (St.rerow 0 (St.recell 3 (St.recell 1 S80 rfl (by rfl)) rfl (by rfl)) rfl ⟨rfl, fw_snoc1 (by omega)⟩).sub (sub_skip sub_all) sub_all⟩, ?_⟩
      omega
  · have p86 := of_decide_eq_false h26
    refine wp_exit ?_
    refine x_then ?_
    refine x_then ?_
    refine x_hit ?_
    refine n_then ?_
    refine wp_seq ?_
    refine wp_region_lit ?_
    refine s_one (.agg #[.int .i64 el, v]) A25 S19 (g_load (g := g13) (off := 0) 0 (by kernel_rfl) rfl (by kernel_rfl)) rfl (fun ac A87 => ?_)
    obtain ⟨A88, cap89, rfl⟩ := row_slice (v := v) (m := k) (S19.row 0 rfl)
    refine s_store (g := g7) (off := 0) (v := .agg #[.int .i64 el, .slice A88 k cap89]) 1 (#[.int .i64 el, .slice A88 k cap89]) A87 S19 (by kernel_rfl) (by kernel_rfl) rfl (by kernel_rfl) (fun wc S91 => ?_)
    refine wpList_nil ?_
    refine n_then ?_
    refine wp_ret ?_
    obtain rfl : n = k := by omega
    have SR : St w0 [⟨g13, 30, #[.int .i64 el, .slice A88 n cap89], true⟩, ⟨g7, 30, #[.int .i64 el, .slice A88 n cap89], true⟩, ⟨g3, 30, #[.int .i64 el, .slice A n cap], true⟩] [⟨.slice A88 n cap89, 36, 1, n, (rowF (fw (mi xs)))⟩] _ := St.rerow 0 S91 rfl ⟨rfl, by rw [List.take_of_length_le (by rw [mi_length]; omega)]⟩
    refine fin1 (.agg #[.int .i64 el, .slice A88 n cap89]) Try.results27 A87 SR (rv_cell (g := g7) (off := 0) 1 (by kernel_rfl) rfl (by kernel_rfl)) ?_
    have bw := SR.kp
    have ow := SR.row 0 rfl
    exact ⟨_, rfl, bw, ow⟩

end Go.Proofs.Ytcijkniijomcjaa
