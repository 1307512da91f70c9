/- Texts of the proof of TopReciprocalBack, put together (part 5): Mx16, Mx18, By, By2. -/
import Derived.Test.YtcijkniijomcjaaRb4
import Derived.Laws.Concat
import Derived.Laws.IdiomStrings
import Derived.Laws.Shifts
import Derived.Laws.Strings2
namespace Go.Proofs.Ytcijkniijomcjaa
open Go.RowKit Go.Cpl
/-- Do two traces of a pair differ too much, in the first k samples? -/
def dif (l : List Int) (n : Nat) (p : Nat × Nat) (i : Nat) : Int := nthI l ((p.1 * n + p.2) * 64 + i) - nthI l ((p.2 * n + p.1) * 64 + i)
def anyD (l : List Int) (n : Nat) (nz : Int) (p : Nat × Nat) (k : Nat) : Bool := (List.range k).any fun i => decide (mx (dif l n p i) (-(dif l n p i)) > nz)
theorem anyD_succ (l : List Int) (n : Nat) (nz : Int) (p : Nat × Nat) (k : Nat) : anyD l n nz p (k + 1) = (anyD l n nz p k || decide (mx (dif l n p k) (-(dif l n p k)) > nz)) := by simp [anyD, List.range_succ]
def unB (l : List Int) (n : Nat) (nz : Int) (p : Nat × Nat) : Bool := decide (p.1 < p.2) && anyD l n nz p 64
theorem unK_n {l : List Int} {n : Nat} {nz : Int} {x : Nat × Nat} {k : Nat} (hu : (decide (x.1 < x.2) && anyD l n nz x k) = false) (h : (decide ((x.1 : Int) < (x.2 : Int)) && decide (mx (nthI l ((x.1 * n + x.2) * 64 + k) - nthI l ((x.2 * n + x.1) * 64 + k)) (-(nthI l ((x.1 * n + x.2) * 64 + k) - nthI l ((x.2 * n + x.1) * 64 + k))) > nz)) = false) : (decide (x.1 < x.2) && anyD l n nz x (k + 1)) = false := by
  rw [anyD_succ]
  cases hd : decide (x.1 < x.2) with
  | false => rfl
  | true =>
    rw [hd, Bool.true_and] at hu
    have hlt : (x.1 : Int) < (x.2 : Int) := by have := of_decide_eq_true hd; omega
    rw [decide_eq_true hlt, Bool.true_and] at h
    rw [hu, Bool.false_or, Bool.true_and]; exact h
theorem anyD_mono {l : List Int} {n : Nat} {nz : Int} {x : Nat × Nat} {k m : Nat} (h : k < m) (hd : mx (dif l n x k) (-(dif l n x k)) > nz) : anyD l n nz x m = true := by
  unfold anyD
  rw [List.any_eq_true]
  exact ⟨k, List.mem_range.2 h, decide_eq_true hd⟩
theorem unB_y {l : List Int} {n : Nat} {nz : Int} {x : Nat × Nat} {k : Nat} (hk : k < 64) (h : (decide ((x.1 : Int) < (x.2 : Int)) && decide (mx (nthI l ((x.1 * n + x.2) * 64 + k) - nthI l ((x.2 * n + x.1) * 64 + k)) (-(nthI l ((x.1 * n + x.2) * 64 + k) - nthI l ((x.2 * n + x.1) * 64 + k))) > nz)) = true) : unB l n nz (x.1, x.2) = true := by
  rw [Bool.and_eq_true, decide_eq_true_iff, decide_eq_true_iff] at h
  unfold unB
  rw [anyD_mono hk (show mx (dif l n (x.1, x.2) k) (-(dif l n (x.1, x.2) k)) > nz from h.2), decide_eq_true (show x.1 < x.2 by omega)]; rfl
set_option maxRecDepth 100000 in
set_option maxHeartbeats 400000 in
theorem Unlike_err (el : Int) (A : Option Addr) (n cap : Nat) (xs : List Nat) (nz : Int) (w0 : World) (hn : xs.length = n) (hr : FReads w0 A xs) (hm : n ≤ 1000) (h0 : (mxC el xs).2 ≠ 0) :
    Calls Try.prog 43 #[.agg #[.int .i64 el, .slice A n cap], .int .i64 nz] w0 fun e w' => e = .returned (.tuple #[.slice none 0 0, .int .i64 (mxC el xs).2]) ∧ Below w0.heap.size w0 w' := by
  have S0 := St.start w0
  refine enterM (n := 69) Try.func43 rfl rfl rfl (fun ac A0 => ?_)
  refine wp_seq ?_
  refine wp_region_lit ?_
  refine s_box (.agg #[.int .i64 el, .slice A n cap]) A0 S0 (by kernel_rfl) rfl (fun g3 ac wc A1 S2 => ?_)
  replace S2 : St _ (⟨g3, 30, #[.int .i64 el, .slice A n cap], true⟩ :: _) _ _ := S2
  refine s_box (.int .i64 nz) A1 S2 (by kernel_rfl) rfl (fun g7 ac wc A5 S6 => ?_)
  replace S6 : St _ (⟨g7, 3, #[.int .i64 nz], true⟩ :: _) _ _ := S6
  refine s_one (.slice none 0 0) A5 S6 (g_assign (by kernel_rfl)) rfl (fun ac A9 => ?_)
  refine s_one (.int .i64 0) A9 S6 (g_assign (by kernel_rfl)) rfl (fun ac A10 => ?_)
  refine wpList_nil ?_
  refine n_then ?_
  refine wp_seq ?_
  refine wp_region_lit ?_
  refine s_one (.agg #[.int .i64 el, .slice A n cap]) A10 S6 (g_load (g := g3) (off := 0) 1 (by kernel_rfl) rfl (by kernel_rfl)) rfl (fun ac A11 => ?_)
  refine s_call (fs := #[]) (cp := #[]) (r := [(0, .agg #[.int .i64 el, .slice A n cap])]) #[.agg #[.int .i64 el, .slice A n cap]] (.tuple #[.pointer none, .int .i64 ((mxC el xs).2)]) A11 S6 (open_err el A n cap xs _ hn (hr.kept S6.kp) (by omega) h0) Try.call72 (by kernel_rfl) (by kernel_rfl) (by kernel_rfl) rfl (fun ac wc A12 S13 => ?_)
  refine s_one (.tuple #[.pointer none, .int .i64 ((mxC el xs).2)]) A12 S13 (g_move (by kernel_rfl)) rfl (fun ac A15 => ?_)
  refine s_one (.pointer none) A15 S13 (g_extract (u := .tuple #[.pointer none, .int .i64 ((mxC el xs).2)]) (by kernel_rfl) (fun _ => by kernel_rfl)) rfl (fun ac A16 => ?_)
  refine s_one (.int .i64 ((mxC el xs).2)) A16 S13 (g_extract (u := .tuple #[.pointer none, .int .i64 ((mxC el xs).2)]) (by kernel_rfl) (fun _ => by kernel_rfl)) rfl (fun ac A17 => ?_)
  refine s_alloc (#[.pointer none]) A17 S13 (by kernel_rfl) rfl (fun g20 ac wc A18 S19 => ?_)
  refine s_store (g := g20) (off := 0) (v := .pointer none) 0 (#[.pointer none]) A18 S19 (by kernel_rfl) (by kernel_rfl) rfl (by kernel_rfl) (fun wc S22 => ?_)
  refine s_one (.int .i64 ((mxC el xs).2)) A18 S22 (g_assign (by kernel_rfl)) rfl (fun ac A24 => ?_)
  refine wpList_nil ?_
  refine n_then ?_
  refine wp_seq ?_
  refine wp_block ?_
  refine wp_seq ?_
  refine wp_region_lit ?_
  refine s_one (.int .i64 ((mxC el xs).2)) A24 S22 (g_move (by kernel_rfl)) rfl (fun ac A25 => ?_)
  refine s_one (.bool (decide ((mxC el xs).2 ≠ 0))) A25 S22 (g_bin (u := .int .i64 ((mxC el xs).2)) (k := .int .i64 0) (by kernel_rfl) (by kernel_rfl) (fun _ => by kernel_rfl) b_neq) rfl (fun ac A26 => ?_)
  refine s_one (.bool (decide ((mxC el xs).2 ≠ 0))) A26 S22 (g_assign (by kernel_rfl)) rfl (fun ac A27 => ?_)
  refine wpList_nil ?_
  refine n_then ?_
  refine c_t (b := (decide ((mxC el xs).2 ≠ 0))) A27 (by kernel_rfl) (decide_eq_true h0) ?_
  refine wp_seq ?_
  refine wp_region_lit ?_
  refine s_one (.int .i64 ((mxC el xs).2)) A27 S22 (g_move (by kernel_rfl)) rfl (fun ac A28 => ?_)
  refine s_one (.slice none 0 0) A28 S22 (g_assign (by kernel_rfl)) rfl (fun ac A29 => ?_)
  refine s_one (.int .i64 ((mxC el xs).2)) A29 S22 (g_assign (by kernel_rfl)) rfl (fun ac A30 => ?_)
  refine wpList_nil ?_
  refine n_then ?_
  refine wp_ret ?_
  refine r_block ?_
  refine r_then ?_
  refine m_ret0 A30 ?_
  refine fin2 (.slice none 0 0) (.int .i64 ((mxC el xs).2)) Try.results43 A30 S22 (rv_tmp (by kernel_rfl)) (rv_tmp (by kernel_rfl)) ⟨?_, S22.kp⟩
  rfl
set_option maxRecDepth 100000 in
set_option maxHeartbeats 400000 in
theorem Unlike_nz (ne n cap : Nat) (ad : Addr) (xs : List Nat) (nz : Int) (w0 : World) (hn : xs.length = n) (hr : FReads w0 (some ad) xs) (hm : n ≤ 1000) (hcp : n ≤ cap) (h1 : 1 ≤ ne) (hne : n = ne * ne * 64) (h0 : (mxC (ne : Int) xs).2 = 0) (hnz : inB nz 0 4094 = false) :
    Calls Try.prog 43 #[.agg #[.int .i64 (ne : Int), .slice (some ad) n cap], .int .i64 nz] w0 fun e w' => e = .returned (.tuple #[.slice none 0 0, .int .i64 2]) ∧ Below w0.heap.size w0 w' := by
  have S0 := St.start w0
  have hR : Right xs := right_of (mxC_0 h0).2.2
  have hpos : 0 < ne * ne := Nat.mul_pos h1 h1
  have hml : (mi xs).length = ne * ne * 64 := by rw [mi_length, hn, hne]
  have hne3 : ne ≤ 3 := by rcases Nat.lt_or_ge 3 ne with q | q; have := Nat.mul_le_mul q q; omega; exact q
  have hee : ne * ne ≤ 15 := by omega
  refine enterM (n := 69) Try.func43 rfl rfl rfl (fun ac A0 => ?_)
  refine wp_seq ?_
  refine wp_region_lit ?_
  refine s_box (.agg #[.int .i64 (ne : Int), .slice (some ad) n cap]) A0 S0 (by kernel_rfl) rfl (fun g3 ac wc A1 S2 => ?_)
  replace S2 : St _ (⟨g3, 30, #[.int .i64 (ne : Int), .slice (some ad) n cap], true⟩ :: _) _ _ := S2
  refine s_box (.int .i64 nz) A1 S2 (by kernel_rfl) rfl (fun g7 ac wc A5 S6 => ?_)
  replace S6 : St _ (⟨g7, 3, #[.int .i64 nz], true⟩ :: _) _ _ := S6
  refine s_one (.slice none 0 0) A5 S6 (g_assign (by kernel_rfl)) rfl (fun ac A9 => ?_)
  refine s_one (.int .i64 0) A9 S6 (g_assign (by kernel_rfl)) rfl (fun ac A10 => ?_)
  refine wpList_nil ?_
  refine n_then ?_
  refine wp_seq ?_
  refine wp_region_lit ?_
  refine s_one (.agg #[.int .i64 (ne : Int), .slice (some ad) n cap]) A10 S6 (g_load (g := g3) (off := 0) 1 (by kernel_rfl) rfl (by kernel_rfl)) rfl (fun ac A11 => ?_)
  refine s_callSt (T := Nat × Nat × Nat) (fs := #[]) (cp := #[]) (r := [(0, .agg #[.int .i64 (ne : Int), .slice (some ad) n cap])]) #[.agg #[.int .i64 (ne : Int), .slice (some ad) n cap]] (fun u => .tuple #[.pointer (some ⟨u.1, 0, none⟩), .int .i64 0]) (fun u => [⟨u.1, 137, #[.int .i64 (ne : Int), .slice (some (Addr.mk u.2.1 0 none)) (ne * ne) u.2.2], true⟩]) (fun u => [⟨.slice (some (Addr.mk u.2.1 0 none)) (ne * ne) u.2.2, 123, 64, (ne * ne), (rowI (mi xs))⟩]) A11 S6 (open_ok ne n cap ad xs _ hn (hr.kept S6.kp) hm hcp h1 hne h0) (fun u x hx => by simp only [List.mem_cons, List.not_mem_nil, or_false] at hx; subst hx; rfl) Try.call72 (by kernel_rfl) (by kernel_rfl) (by kernel_rfl) rfl (fun u18 ac wc A12 S13 => ?_)
  obtain ⟨gm15, gr16, cp17⟩ := u18
  replace S13 : St w0 [⟨gm15, 137, #[.int .i64 (ne : Int), .slice (some (Addr.mk gr16 0 none)) (ne * ne) cp17], true⟩, ⟨g7, 3, #[.int .i64 nz], true⟩, ⟨g3, 30, #[.int .i64 (ne : Int), .slice (some ad) n cap], true⟩] [⟨.slice (some (Addr.mk gr16 0 none)) (ne * ne) cp17, 123, 64, (ne * ne), (rowI (mi xs))⟩] _ := S13
  refine s_one (.tuple #[.pointer (some ⟨gm15, 0, none⟩), .int .i64 0]) A12 S13 (g_move (by kernel_rfl)) rfl (fun ac A19 => ?_)
  refine s_one (.pointer (some ⟨gm15, 0, none⟩)) A19 S13 (g_extract (u := .tuple #[.pointer (some ⟨gm15, 0, none⟩), .int .i64 0]) (by kernel_rfl) (fun _ => by kernel_rfl)) rfl (fun ac A20 => ?_)
  refine s_one (.int .i64 0) A20 S13 (g_extract (u := .tuple #[.pointer (some ⟨gm15, 0, none⟩), .int .i64 0]) (by kernel_rfl) (fun _ => by kernel_rfl)) rfl (fun ac A21 => ?_)
  refine s_alloc (#[.pointer none]) A21 S13 (by kernel_rfl) rfl (fun g24 ac wc A22 S23 => ?_)
  refine s_store (g := g24) (off := 0) (v := .pointer (some ⟨gm15, 0, none⟩)) 0 (#[.pointer (some ⟨gm15, 0, none⟩)]) A22 S23 (by kernel_rfl) (by kernel_rfl) rfl (by kernel_rfl) (fun wc S26 => ?_)
  refine s_one (.int .i64 0) A22 S26 (g_assign (by kernel_rfl)) rfl (fun ac A28 => ?_)
  refine wpList_nil ?_
  refine n_then ?_
  refine wp_seq ?_
  refine wp_block ?_
  refine wp_seq ?_
  refine wp_region_lit ?_
  refine s_one (.int .i64 0) A28 S26 (g_move (by kernel_rfl)) rfl (fun ac A29 => ?_)
  refine s_one (.bool (decide (0 ≠ 0))) A29 S26 (g_bin (u := .int .i64 0) (k := .int .i64 0) (by kernel_rfl) (by kernel_rfl) (fun _ => by kernel_rfl) b_neq) rfl (fun ac A30 => ?_)
  refine s_one (.bool (decide (0 ≠ 0))) A30 S26 (g_assign (by kernel_rfl)) rfl (fun ac A31 => ?_)
  refine wpList_nil ?_
  refine n_then ?_
  refine c_f (b := (decide (0 ≠ 0))) A31 (by kernel_rfl) (by decide) ?_
  refine wp_seq ?_
  refine wp_region_lit ?_
  refine s_one (.int .i64 nz) A31 S26 (g_load (g := g7) (off := 0) 2 (by kernel_rfl) rfl (by kernel_rfl)) rfl (fun ac A32 => ?_)
  refine s_call (fs := #[]) (cp := #[]) (r := [(0, .int .i64 nz), (0, .int .i64 0), (0, .int .i64 4094)]) #[.int .i64 nz, .int .i64 0, .int .i64 4094] (.bool (inB nz 0 4094)) A32 S26 (sameB (within_any nz 0 4094 _)) Try.call60 (by kernel_rfl) (by kernel_rfl) (by kernel_rfl) rfl (fun ac wc A33 S34 => ?_)
  refine s_one (.bool (!(inB nz 0 4094))) A33 S34 (g_un (u := .bool (inB nz 0 4094)) (by kernel_rfl) (fun _ => by kernel_rfl)) rfl (fun ac A36 => ?_)
  refine s_one (.bool (!(inB nz 0 4094))) A36 S34 (g_assign (by kernel_rfl)) rfl (fun ac A37 => ?_)
  refine wpList_nil ?_
  refine n_then ?_
  refine c_t (b := (!(inB nz 0 4094))) A37 (by kernel_rfl) (b_nf hnz) ?_
  refine wp_seq ?_
  refine wp_region_lit ?_
  refine s_one (.slice none 0 0) A37 S34 (g_assign (by kernel_rfl)) rfl (fun ac A38 => ?_)
  refine s_one (.int .i64 2) A38 S34 (g_assign (by kernel_rfl)) rfl (fun ac A39 => ?_)
  refine wpList_nil ?_
  refine n_then ?_
  refine wp_ret ?_
  refine r_block ?_
  refine r_then ?_
  refine m_ret0 A39 ?_
  refine fin2 (.slice none 0 0) (.int .i64 2) Try.results43 A39 S34 (rv_tmp (by kernel_rfl)) (rv_tmp (by kernel_rfl)) ⟨?_, S34.kp⟩
  rfl
set_option maxRecDepth 100000 in
set_option maxHeartbeats 400000 in
theorem Unlike_ok (ne n cap : Nat) (ad : Addr) (xs : List Nat) (nz : Int) (w0 : World) (hn : xs.length = n) (hr : FReads w0 (some ad) xs) (hm : n ≤ 1000) (hcp : n ≤ cap) (h1 : 1 ≤ ne) (hne : n = ne * ne * 64) (h0 : (mxC (ne : Int) xs).2 = 0) (hnz : inB nz 0 4094 = true) :
    Calls Try.prog 43 #[.agg #[.int .i64 (ne : Int), .slice (some ad) n cap], .int .i64 nz] w0 fun e w' => ∃ v, e = .returned (.tuple #[v, .int .i64 0]) ∧ Below w0.heap.size w0 w' ∧ w'.ownsRow w0.heap.size 26 2 v (((pairsOf ne).filter (unB (mi xs) ne nz)).length) (rowI (flP (((pairsOf ne)).filter (unB (mi xs) ne nz)))) := by
  have S0 := St.start w0
  have hR : Right xs := right_of (mxC_0 h0).2.2
  have hpos : 0 < ne * ne := Nat.mul_pos h1 h1
  have hml : (mi xs).length = ne * ne * 64 := by rw [mi_length, hn, hne]
  have hne3 : ne ≤ 3 := by rcases Nat.lt_or_ge 3 ne with q | q; have := Nat.mul_le_mul q q; omega; exact q
  have hee : ne * ne ≤ 15 := by omega
  have HB := mi_range hR
  refine enterM (n := 69) Try.func43 rfl rfl rfl (fun ac A0 => ?_)
  refine wp_seq ?_
  refine wp_region_lit ?_
  refine s_box (.agg #[.int .i64 (ne : Int), .slice (some ad) n cap]) A0 S0 (by kernel_rfl) rfl (fun g3 ac wc A1 S2 => ?_)
  replace S2 : St _ (⟨g3, 30, #[.int .i64 (ne : Int), .slice (some ad) n cap], true⟩ :: _) _ _ := S2
  refine s_box (.int .i64 nz) A1 S2 (by kernel_rfl) rfl (fun g7 ac wc A5 S6 => ?_)
  replace S6 : St _ (⟨g7, 3, #[.int .i64 nz], true⟩ :: _) _ _ := S6
  refine s_one (.slice none 0 0) A5 S6 (g_assign (by kernel_rfl)) rfl (fun ac A9 => ?_)
  refine s_one (.int .i64 0) A9 S6 (g_assign (by kernel_rfl)) rfl (fun ac A10 => ?_)
  refine wpList_nil ?_
  refine n_then ?_
  refine wp_seq ?_
  refine wp_region_lit ?_
  refine s_one (.agg #[.int .i64 (ne : Int), .slice (some ad) n cap]) A10 S6 (g_load (g := g3) (off := 0) 1 (by kernel_rfl) rfl (by kernel_rfl)) rfl (fun ac A11 => ?_)
  refine s_callSt (T := Nat × Nat × Nat) (fs := #[]) (cp := #[]) (r := [(0, .agg #[.int .i64 (ne : Int), .slice (some ad) n cap])]) #[.agg #[.int .i64 (ne : Int), .slice (some ad) n cap]] (fun u => .tuple #[.pointer (some ⟨u.1, 0, none⟩), .int .i64 0]) (fun u => [⟨u.1, 137, #[.int .i64 (ne : Int), .slice (some (Addr.mk u.2.1 0 none)) (ne * ne) u.2.2], true⟩]) (fun u => [⟨.slice (some (Addr.mk u.2.1 0 none)) (ne * ne) u.2.2, 123, 64, (ne * ne), (rowI (mi xs))⟩]) A11 S6 (open_ok ne n cap ad xs _ hn (hr.kept S6.kp) hm hcp h1 hne h0) (fun u x hx => by simp only [List.mem_cons, List.not_mem_nil, or_false] at hx; subst hx; rfl) Try.call72 (by kernel_rfl) (by kernel_rfl) (by kernel_rfl) rfl (fun u18 ac wc A12 S13 => ?_)
  obtain ⟨gm15, gr16, cp17⟩ := u18
  replace S13 : St w0 [⟨gm15, 137, #[.int .i64 (ne : Int), .slice (some (Addr.mk gr16 0 none)) (ne * ne) cp17], true⟩, ⟨g7, 3, #[.int .i64 nz], true⟩, ⟨g3, 30, #[.int .i64 (ne : Int), .slice (some ad) n cap], true⟩] [⟨.slice (some (Addr.mk gr16 0 none)) (ne * ne) cp17, 123, 64, (ne * ne), (rowI (mi xs))⟩] _ := S13
  refine s_one (.tuple #[.pointer (some ⟨gm15, 0, none⟩), .int .i64 0]) A12 S13 (g_move (by kernel_rfl)) rfl (fun ac A19 => ?_)
  refine s_one (.pointer (some ⟨gm15, 0, none⟩)) A19 S13 (g_extract (u := .tuple #[.pointer (some ⟨gm15, 0, none⟩), .int .i64 0]) (by kernel_rfl) (fun _ => by kernel_rfl)) rfl (fun ac A20 => ?_)
  refine s_one (.int .i64 0) A20 S13 (g_extract (u := .tuple #[.pointer (some ⟨gm15, 0, none⟩), .int .i64 0]) (by kernel_rfl) (fun _ => by kernel_rfl)) rfl (fun ac A21 => ?_)
  refine s_alloc (#[.pointer none]) A21 S13 (by kernel_rfl) rfl (fun g24 ac wc A22 S23 => ?_)
  refine s_store (g := g24) (off := 0) (v := .pointer (some ⟨gm15, 0, none⟩)) 0 (#[.pointer (some ⟨gm15, 0, none⟩)]) A22 S23 (by kernel_rfl) (by kernel_rfl) rfl (by kernel_rfl) (fun wc S26 => ?_)
  refine s_one (.int .i64 0) A22 S26 (g_assign (by kernel_rfl)) rfl (fun ac A28 => ?_)
  refine wpList_nil ?_
  refine n_then ?_
  refine wp_seq ?_
  refine wp_block ?_
  refine wp_seq ?_
  refine wp_region_lit ?_
  refine s_one (.int .i64 0) A28 S26 (g_move (by kernel_rfl)) rfl (fun ac A29 => ?_)
  refine s_one (.bool (decide (0 ≠ 0))) A29 S26 (g_bin (u := .int .i64 0) (k := .int .i64 0) (by kernel_rfl) (by kernel_rfl) (fun _ => by kernel_rfl) b_neq) rfl (fun ac A30 => ?_)
  refine s_one (.bool (decide (0 ≠ 0))) A30 S26 (g_assign (by kernel_rfl)) rfl (fun ac A31 => ?_)
  refine wpList_nil ?_
  refine n_then ?_
  refine c_f (b := (decide (0 ≠ 0))) A31 (by kernel_rfl) (by decide) ?_
  refine wp_seq ?_
  refine wp_region_lit ?_
  refine s_one (.int .i64 nz) A31 S26 (g_load (g := g7) (off := 0) 2 (by kernel_rfl) rfl (by kernel_rfl)) rfl (fun ac A32 => ?_)
  refine s_call (fs := #[]) (cp := #[]) (r := [(0, .int .i64 nz), (0, .int .i64 0), (0, .int .i64 4094)]) #[.int .i64 nz, .int .i64 0, .int .i64 4094] (.bool (inB nz 0 4094)) A32 S26 (sameB (within_any nz 0 4094 _)) Try.call60 (by kernel_rfl) (by kernel_rfl) (by kernel_rfl) rfl (fun ac wc A33 S34 => ?_)
  refine s_one (.bool (!(inB nz 0 4094))) A33 S34 (g_un (u := .bool (inB nz 0 4094)) (by kernel_rfl) (fun _ => by kernel_rfl)) rfl (fun ac A36 => ?_)
  refine s_one (.bool (!(inB nz 0 4094))) A36 S34 (g_assign (by kernel_rfl)) rfl (fun ac A37 => ?_)
  refine wpList_nil ?_
  refine n_then ?_
  refine c_f (b := (!(inB nz 0 4094))) A37 (by kernel_rfl) (b_nt hnz) ?_
  refine wp_skip ?_
  refine n_block ?_
  refine n_then ?_
  refine wp_seq ?_
  refine wp_region_lit ?_
  refine s_alloc (#[.slice none 0 0]) A37 S34 (by kernel_rfl) rfl (fun g40 ac wc A38 S39 => ?_)
  refine wpList_nil ?_
  refine n_then ?_
  refine wp_seq ?_
  refine wp_seq ?_
  refine wp_region_lit ?_
  refine s_one (.pointer (some ⟨gm15, 0, none⟩)) A38 S39 (g_load (g := g24) (off := 0) 1 (by kernel_rfl) rfl (by kernel_rfl)) rfl (fun ac A41 => ?_)
  refine s_one (.func (.func 86) #[.pointer (some ⟨gm15, 0, none⟩)] #[]) A41 S39 (g_func (us := [(0, .pointer (some ⟨gm15, 0, none⟩))]) (vs := []) (by kernel_rfl) (by kernel_rfl) (fun _ => by kernel_rfl)) rfl (fun ac A42 => ?_)
  refine wpList_nil ?_
  refine n_then ?_
  refine wp_block ?_
  refine c_range (α := Nat × Nat) (gf := 86) (fs := #[.pointer (some ⟨gm15, 0, none⟩)]) (lb := #[]) (encs := fun x => #[.int .i64 (x.1 : Int), .int .i64 (x.2 : Int)]) (G := [⟨gm15, 137, #[.int .i64 (ne : Int), .slice (some (Addr.mk gr16 0 none)) (ne * ne) cp17], true⟩]) (xs := pairsOf ne) A42 S39 (by kernel_rfl) Try.call86 (List.forall_mem_cons.2 ⟨S39.get 2 rfl, (List.forall_mem_nil _)⟩) (all_seq gm15 ne (.slice (some (Addr.mk gr16 0 none)) (ne * ne) cp17) true (by omega)) (fun _ => rfl) (fun x => [(29, .int .i64 (x.1 : Int)), (30, .int .i64 (x.2 : Int))]) (fun _ => (by first | rfl | simp)) (fun _ => (List.forall_mem_cons.2 ⟨(show 29 < 69 by decide), (List.forall_mem_cons.2 ⟨(show 30 < 69 by decide), (List.forall_mem_nil _)⟩)⟩)) (fun pre W => ∃ (v : Value), St w0 [⟨g40, 22, #[v], true⟩, ⟨g24, 130, #[.pointer (some ⟨gm15, 0, none⟩)], true⟩, ⟨gm15, 137, #[.int .i64 (ne : Int), .slice (some (Addr.mk gr16 0 none)) (ne * ne) cp17], true⟩, ⟨g7, 3, #[.int .i64 nz], true⟩, ⟨g3, 30, #[.int .i64 (ne : Int), .slice (some ad) n cap], true⟩] [⟨v, 26, 2, (((pre).filter (unB (mi xs) ne nz)).length), (rowI (flP ((pre).filter (unB (mi xs) ne nz))))⟩, ⟨.slice (some (Addr.mk gr16 0 none)) (ne * ne) cp17, 123, 64, (ne * ne), (rowI (mi xs))⟩] W) (fun _ _ => False) ?_ ?_ ?_ ?_ (fun x => [(9, .int .i64 (x.1 : Int)), (10, .int .i64 (x.2 : Int)), (29, .int .i64 (x.1 : Int)), (30, .int .i64 (x.2 : Int)), (0, .agg #[.int .i64 (ne : Int), .slice (some ad) n cap]), (1, .int .i64 nz), (2, .pointer (some ⟨g3, 0, none⟩)), (3, .pointer (some ⟨g7, 0, none⟩)), (4, .slice none 0 0), (5, .int .i64 0), (15, .agg #[.int .i64 (ne : Int), .slice (some ad) n cap]), (16, .tuple #[.pointer (some ⟨gm15, 0, none⟩), .int .i64 0]), (14, .tuple #[.pointer (some ⟨gm15, 0, none⟩), .int .i64 0]), (17, .pointer (some ⟨gm15, 0, none⟩)), (18, .int .i64 0), (6, .pointer (some ⟨g24, 0, none⟩)), (7, .int .i64 0), (20, .int .i64 0), (21, .bool (decide (0 ≠ 0))), (19, .bool (decide (0 ≠ 0))), (24, .int .i64 nz), (25, .bool (inB nz 0 4094)), (26, .bool (!(inB nz 0 4094))), (23, .bool (!(inB nz 0 4094))), (8, .pointer (some ⟨g40, 0, none⟩)), (27, .pointer (some ⟨gm15, 0, none⟩)), (28, .func (.func 86) #[.pointer (some ⟨gm15, 0, none⟩)] #[])]) ?_ ?_ ?_ ?_
  · rintro pre W W' row ⟨v, hS⟩ hg hr
    exact ⟨v, St.round hS hg hr⟩
  · rintro pre W W' ⟨v, hS⟩ hb
    exact ⟨v, hS.kept hb⟩
  · exact fun _ _ _ _ h _ _ => h
  · have S43 := S39.nilRow 26 2
    exact ⟨.slice none 0 0, (St.rerow 0 (St.recell 0 S43 rfl (by rfl)) rfl ⟨rfl, rfl⟩).sub sub_all sub_all⟩
  · intro lz x a' WA K HA HK
    have SA := St.start WA
    replace HA : Fr 69 a' [(30, .int .i64 (x.2 : Int)), (29, .int .i64 (x.1 : Int)), (0, .agg #[.int .i64 (ne : Int), .slice (some ad) n cap]), (1, .int .i64 nz), (2, .pointer (some ⟨g3, 0, none⟩)), (3, .pointer (some ⟨g7, 0, none⟩)), (4, .slice none 0 0), (5, .int .i64 0), (15, .agg #[.int .i64 (ne : Int), .slice (some ad) n cap]), (16, .tuple #[.pointer (some ⟨gm15, 0, none⟩), .int .i64 0]), (14, .tuple #[.pointer (some ⟨gm15, 0, none⟩), .int .i64 0]), (17, .pointer (some ⟨gm15, 0, none⟩)), (18, .int .i64 0), (6, .pointer (some ⟨g24, 0, none⟩)), (7, .int .i64 0), (20, .int .i64 0), (21, .bool (decide (0 ≠ 0))), (19, .bool (decide (0 ≠ 0))), (24, .int .i64 nz), (25, .bool (inB nz 0 4094)), (26, .bool (!(inB nz 0 4094))), (23, .bool (!(inB nz 0 4094))), (8, .pointer (some ⟨g40, 0, none⟩)), (27, .pointer (some ⟨gm15, 0, none⟩)), (28, .func (.func 86) #[.pointer (some ⟨gm15, 0, none⟩)] #[])] := (HA.slot (HA.slot (HA.slot (HA.slot (HA.slot (HA.slot (HA.slot (HA.slot (HA.slot (HA.slot (HA.slot (HA.slot (HA.slot (HA.slot (HA.slot (HA.slot (HA.slot (HA.slot (HA.slot (HA.slot (HA.slot (HA.slot (HA.slot (HA.slot (HA.slot HA.nil (v := .func (.func 86) #[.pointer (some ⟨gm15, 0, none⟩)] #[]) (by kernel_rfl) rfl) (v := .pointer (some ⟨gm15, 0, none⟩)) (by kernel_rfl) rfl) (v := .pointer (some ⟨g40, 0, none⟩)) (by kernel_rfl) rfl) (v := .bool (!(inB nz 0 4094))) (by kernel_rfl) rfl) (v := .bool (!(inB nz 0 4094))) (by kernel_rfl) rfl) (v := .bool (inB nz 0 4094)) (by kernel_rfl) rfl) (v := .int .i64 nz) (by kernel_rfl) rfl) (v := .bool (decide (0 ≠ 0))) (by kernel_rfl) rfl) (v := .bool (decide (0 ≠ 0))) (by kernel_rfl) rfl) (v := .int .i64 0) (by kernel_rfl) rfl) (v := .int .i64 0) (by kernel_rfl) rfl) (v := .pointer (some ⟨g24, 0, none⟩)) (by kernel_rfl) rfl) (v := .int .i64 0) (by kernel_rfl) rfl) (v := .pointer (some ⟨gm15, 0, none⟩)) (by kernel_rfl) rfl) (v := .tuple #[.pointer (some ⟨gm15, 0, none⟩), .int .i64 0]) (by kernel_rfl) rfl) (v := .tuple #[.pointer (some ⟨gm15, 0, none⟩), .int .i64 0]) (by kernel_rfl) rfl) (v := .agg #[.int .i64 (ne : Int), .slice (some ad) n cap]) (by kernel_rfl) rfl) (v := .int .i64 0) (by kernel_rfl) rfl) (v := .slice none 0 0) (by kernel_rfl) rfl) (v := .pointer (some ⟨g7, 0, none⟩)) (by kernel_rfl) rfl) (v := .pointer (some ⟨g3, 0, none⟩)) (by kernel_rfl) rfl) (v := .int .i64 nz) (by kernel_rfl) rfl) (v := .agg #[.int .i64 (ne : Int), .slice (some ad) n cap]) (by kernel_rfl) rfl) (v := .int .i64 (x.1 : Int)) (by kernel_rfl) rfl) (v := .int .i64 (x.2 : Int)) (by kernel_rfl) rfl)
    refine wpIn_seq ?_
    refine i_region (noOut_then noOut_assign) (by kernel_rfl) ?_
    refine s_one (.int .i64 (x.1 : Int)) HA SA (g_assign (by kernel_rfl)) rfl (fun ac A44 => ?_)
    refine wpList_nil ?_
    refine n_then ?_
    refine i_region noOut_assign (by kernel_rfl) ?_
    refine s_one (.int .i64 (x.2 : Int)) A44 SA (g_assign (by kernel_rfl)) rfl (fun ac A45 => ?_)
    refine wpList_nil ?_
    refine n_then ?_
    exact HK _ (A45.slot (A45.slot (A45.slot (A45.slot (A45.slot (A45.slot (A45.slot (A45.slot (A45.slot (A45.slot (A45.slot (A45.slot (A45.slot (A45.slot (A45.slot (A45.slot (A45.slot (A45.slot (A45.slot (A45.slot (A45.slot (A45.slot (A45.slot (A45.slot (A45.slot (A45.slot (A45.slot A45.nil (v := .func (.func 86) #[.pointer (some ⟨gm15, 0, none⟩)] #[]) (by kernel_rfl) rfl) (v := .pointer (some ⟨gm15, 0, none⟩)) (by kernel_rfl) rfl) (v := .pointer (some ⟨g40, 0, none⟩)) (by kernel_rfl) rfl) (v := .bool (!(inB nz 0 4094))) (by kernel_rfl) rfl) (v := .bool (!(inB nz 0 4094))) (by kernel_rfl) rfl) (v := .bool (inB nz 0 4094)) (by kernel_rfl) rfl) (v := .int .i64 nz) (by kernel_rfl) rfl) (v := .bool (decide (0 ≠ 0))) (by kernel_rfl) rfl) (v := .bool (decide (0 ≠ 0))) (by kernel_rfl) rfl) (v := .int .i64 0) (by kernel_rfl) rfl) (v := .int .i64 0) (by kernel_rfl) rfl) (v := .pointer (some ⟨g24, 0, none⟩)) (by kernel_rfl) rfl) (v := .int .i64 0) (by kernel_rfl) rfl) (v := .pointer (some ⟨gm15, 0, none⟩)) (by kernel_rfl) rfl) (v := .tuple #[.pointer (some ⟨gm15, 0, none⟩), .int .i64 0]) (by kernel_rfl) rfl) (v := .tuple #[.pointer (some ⟨gm15, 0, none⟩), .int .i64 0]) (by kernel_rfl) rfl) (v := .agg #[.int .i64 (ne : Int), .slice (some ad) n cap]) (by kernel_rfl) rfl) (v := .int .i64 0) (by kernel_rfl) rfl) (v := .slice none 0 0) (by kernel_rfl) rfl) (v := .pointer (some ⟨g7, 0, none⟩)) (by kernel_rfl) rfl) (v := .pointer (some ⟨g3, 0, none⟩)) (by kernel_rfl) rfl) (v := .int .i64 nz) (by kernel_rfl) rfl) (v := .agg #[.int .i64 (ne : Int), .slice (some ad) n cap]) (by kernel_rfl) rfl) (v := .int .i64 (x.2 : Int)) (by kernel_rfl) rfl) (v := .int .i64 (x.1 : Int)) (by kernel_rfl) rfl) (v := .int .i64 (x.2 : Int)) (by kernel_rfl) rfl) (v := .int .i64 (x.1 : Int)) (by kernel_rfl) rfl)
  · rintro lz pre x rest a' WB46 hx ⟨v, hS⟩ HA
    have SB47 := St.begin hS
    obtain ⟨hx1, hx2, hx3⟩ := pairs_next hx
    have hxk : x.1 * ne + x.2 < ne * ne := pair_lt hx1 hx2
    have hxr : x.2 * ne + x.1 < ne * ne := pair_lt hx2 hx1
    have hpl := pre_len hx
    have hsl := sel_len (B := unB (mi xs) ne nz) pre
    refine wpIn_block ?_
    refine wpIn_seq ?_
    refine i_begin (w0 := ⟨w0, WB46⟩) (by kernel_rfl) (noOut_then (noOut_block noOut_body)) (by kernel_rfl) (SB47.sub sub_all sub_all) (fun wc T48 B49 => ?_)
    have S50 := SB47.kept B49
    refine r_take 0 (.pointer (some ⟨gm15, 0, none⟩)) HA T48 (g_load (g := g24) (off := 0) 1 (by kernel_rfl) rfl (by kernel_rfl)) rfl rfl rfl (pf_then (pf_block pf_round)) (by kernel_rfl) (fun ac A51 => ?_)
    refine r_take 1 (.int .i64 (x.1 : Int)) A51 T48 (g_move (by kernel_rfl)) rfl rfl rfl (pf_then (pf_block pf_round)) (by kernel_rfl) (fun ac A52 => ?_)
    refine r_take 2 (.int .i64 (x.2 : Int)) A52 T48 (g_move (by kernel_rfl)) rfl rfl rfl (pf_then (pf_block pf_round)) (by kernel_rfl) (fun ac A53 => ?_)
    refine r_take 4 (.pointer (some ⟨gm15, 0, none⟩)) A53 T48 (g_load (g := g24) (off := 0) 1 (by kernel_rfl) rfl (by kernel_rfl)) rfl rfl rfl (pf_then (pf_block pf_round)) (by kernel_rfl) (fun ac A54 => ?_)
    refine r_take 5 (.int .i64 (x.2 : Int)) A54 T48 (g_move (by kernel_rfl)) rfl rfl rfl (pf_then (pf_block pf_round)) (by kernel_rfl) (fun ac A55 => ?_)
    refine r_take 6 (.int .i64 (x.1 : Int)) A55 T48 (g_move (by kernel_rfl)) rfl rfl rfl (pf_then (pf_block pf_round)) (by kernel_rfl) (fun ac A56 => ?_)
    refine r_1 (i := 3) (by kernel_rfl) ?_
    refine rs_call (fs := #[]) (cp := #[]) (r := [(0, .pointer (some ⟨gm15, 0, none⟩)), (0, .int .i64 (x.1 : Int)), (0, .int .i64 (x.2 : Int))]) #[.pointer (some ⟨gm15, 0, none⟩), .int .i64 (x.1 : Int), .int .i64 (x.2 : Int)] (.pointer (some ((Addr.mk gr16 0 none).add ((x.1 * ne + x.2) * 64)))) A56 S50 sub_all sub_all (mat_at gm15 ne (ne * ne) cp17 x.1 x.2 (Addr.mk gr16 0 none) (mi xs) _ (S50.get 2 rfl) (by have hlen := hml; omega) hxk (by omega)) Try.call73 rfl rfl (by kernel_rfl) (by kernel_rfl) (by kernel_rfl) rfl (fun ac wc A57 S58 => ?_)
    have T60 := S58.sub sub_all sub_all
    refine r_1 (i := 7) (by kernel_rfl) ?_
    refine rs_call (fs := #[]) (cp := #[]) (r := [(0, .pointer (some ⟨gm15, 0, none⟩)), (0, .int .i64 (x.2 : Int)), (0, .int .i64 (x.1 : Int))]) #[.pointer (some ⟨gm15, 0, none⟩), .int .i64 (x.2 : Int), .int .i64 (x.1 : Int)] (.pointer (some ((Addr.mk gr16 0 none).add ((x.2 * ne + x.1) * 64)))) A57 S58 sub_all sub_all (mat_at gm15 ne (ne * ne) cp17 x.2 x.1 (Addr.mk gr16 0 none) (mi xs) _ (S58.get 2 rfl) (by have hlen := hml; omega) hxr (by omega)) Try.call73 rfl rfl (by kernel_rfl) (by kernel_rfl) (by kernel_rfl) rfl (fun ac wc A61 S62 => ?_)
    have T64 := S62.sub sub_all sub_all
    refine r_take 8 (.pointer (some ((Addr.mk gr16 0 none).add ((x.1 * ne + x.2) * 64)))) A61 T64 (g_assign (by kernel_rfl)) rfl rfl rfl (pf_then (pf_block pf_round)) (by kernel_rfl) (fun ac A65 => ?_)
    refine r_take 9 (.pointer (some ((Addr.mk gr16 0 none).add ((x.2 * ne + x.1) * 64)))) A65 T64 (g_assign (by kernel_rfl)) rfl rfl rfl (pf_then (pf_block pf_round)) (by kernel_rfl) (fun ac A66 => ?_)
    refine r_done (by kernel_rfl) ?_
    refine n_then ?_
    refine wpIn_seq ?_
    refine i_region (noOut_then (noOut_block noOut_body)) (by kernel_rfl) ?_
    refine s_one (.int .i64 0) A66 S62 (g_move (by kernel_rfl)) rfl (fun ac A67 => ?_)
    refine wpList_nil ?_
    refine n_then ?_
    refine wpIn_block ?_
    refine i_loopN (fun mm ac wc => ∃ (k : Nat), mm = 64 - k ∧ (k ≤ 64) ∧ ((decide (x.1 < x.2) && anyD (mi xs) ne nz x k) = false) ∧ Fr 69 ac [(9, .int .i64 (x.1 : Int)), (10, .int .i64 (x.2 : Int)), (29, .int .i64 (x.1 : Int)), (30, .int .i64 (x.2 : Int)), (0, .agg #[.int .i64 (ne : Int), .slice (some ad) n cap]), (1, .int .i64 nz), (2, .pointer (some ⟨g3, 0, none⟩)), (3, .pointer (some ⟨g7, 0, none⟩)), (4, .slice none 0 0), (5, .int .i64 0), (15, .agg #[.int .i64 (ne : Int), .slice (some ad) n cap]), (16, .tuple #[.pointer (some ⟨gm15, 0, none⟩), .int .i64 0]), (14, .tuple #[.pointer (some ⟨gm15, 0, none⟩), .int .i64 0]), (17, .pointer (some ⟨gm15, 0, none⟩)), (18, .int .i64 0), (6, .pointer (some ⟨g24, 0, none⟩)), (7, .int .i64 0), (20, .int .i64 0), (21, .bool (decide (0 ≠ 0))), (19, .bool (decide (0 ≠ 0))), (24, .int .i64 nz), (25, .bool (inB nz 0 4094)), (26, .bool (!(inB nz 0 4094))), (23, .bool (!(inB nz 0 4094))), (8, .pointer (some ⟨g40, 0, none⟩)), (27, .pointer (some ⟨gm15, 0, none⟩)), (28, .func (.func 86) #[.pointer (some ⟨gm15, 0, none⟩)] #[]), (31, .pointer (some ⟨gm15, 0, none⟩)), (32, .int .i64 (x.1 : Int)), (33, .int .i64 (x.2 : Int)), (35, .pointer (some ⟨gm15, 0, none⟩)), (36, .int .i64 (x.2 : Int)), (37, .int .i64 (x.1 : Int)), (34, .pointer (some ((Addr.mk gr16 0 none).add ((x.1 * ne + x.2) * 64)))), (38, .pointer (some ((Addr.mk gr16 0 none).add ((x.2 * ne + x.1) * 64)))), (11, .pointer (some ((Addr.mk gr16 0 none).add ((x.1 * ne + x.2) * 64)))), (12, .pointer (some ((Addr.mk gr16 0 none).add ((x.2 * ne + x.1) * 64)))), (39, .int .i64 (k : Int))] ∧ St ⟨w0, WB46⟩ [⟨g40, 22, #[v], true⟩, ⟨g24, 130, #[.pointer (some ⟨gm15, 0, none⟩)], true⟩, ⟨gm15, 137, #[.int .i64 (ne : Int), .slice (some (Addr.mk gr16 0 none)) (ne * ne) cp17], true⟩, ⟨g7, 3, #[.int .i64 nz], true⟩, ⟨g3, 30, #[.int .i64 (ne : Int), .slice (some ad) n cap], true⟩] [⟨v, 26, 2, (((pre).filter (unB (mi xs) ne nz)).length), (rowI (flP ((pre).filter (unB (mi xs) ne nz))))⟩, ⟨.slice (some (Addr.mk gr16 0 none)) (ne * ne) cp17, 123, 64, (ne * ne), (rowI (mi xs))⟩] wc) _ ⟨0, rfl, Nat.zero_le _, by simp [anyD], (A67.slot (A67.slot (A67.slot (A67.slot (A67.slot (A67.slot (A67.slot (A67.slot (A67.slot (A67.slot (A67.slot (A67.slot (A67.slot (A67.slot (A67.slot (A67.slot (A67.slot (A67.slot (A67.slot (A67.slot (A67.slot (A67.slot (A67.slot (A67.slot (A67.slot (A67.slot (A67.slot (A67.slot (A67.slot (A67.slot (A67.slot (A67.slot (A67.slot (A67.slot (A67.slot (A67.slot (A67.slot (A67.slot A67.nil (v := .int .i64 0) (by kernel_rfl) (congrArg (Value.int .i64) (by omega))) (v := .pointer (some ((Addr.mk gr16 0 none).add ((x.2 * ne + x.1) * 64)))) (by kernel_rfl) rfl) (v := .pointer (some ((Addr.mk gr16 0 none).add ((x.1 * ne + x.2) * 64)))) (by kernel_rfl) rfl) (v := .pointer (some ((Addr.mk gr16 0 none).add ((x.2 * ne + x.1) * 64)))) (by kernel_rfl) rfl) (v := .pointer (some ((Addr.mk gr16 0 none).add ((x.1 * ne + x.2) * 64)))) (by kernel_rfl) rfl) (v := .int .i64 (x.1 : Int)) (by kernel_rfl) rfl) (v := .int .i64 (x.2 : Int)) (by kernel_rfl) rfl) (v := .pointer (some ⟨gm15, 0, none⟩)) (by kernel_rfl) rfl) (v := .int .i64 (x.2 : Int)) (by kernel_rfl) rfl) (v := .int .i64 (x.1 : Int)) (by kernel_rfl) rfl) (v := .pointer (some ⟨gm15, 0, none⟩)) (by kernel_rfl) rfl) (v := .func (.func 86) #[.pointer (some ⟨gm15, 0, none⟩)] #[]) (by kernel_rfl) rfl) (v := .pointer (some ⟨gm15, 0, none⟩)) (by kernel_rfl) rfl) (v := .pointer (some ⟨g40, 0, none⟩)) (by kernel_rfl) rfl) (v := .bool (!(inB nz 0 4094))) (by kernel_rfl) rfl) (v := .bool (!(inB nz 0 4094))) (by kernel_rfl) rfl) (v := .bool (inB nz 0 4094)) (by kernel_rfl) rfl) (v := .int .i64 nz) (by kernel_rfl) rfl) (v := .bool (decide (0 ≠ 0))) (by kernel_rfl) rfl) (v := .bool (decide (0 ≠ 0))) (by kernel_rfl) rfl) (v := .int .i64 0) (by kernel_rfl) rfl) (v := .int .i64 0) (by kernel_rfl) rfl) (v := .pointer (some ⟨g24, 0, none⟩)) (by kernel_rfl) rfl) (v := .int .i64 0) (by kernel_rfl) rfl) (v := .pointer (some ⟨gm15, 0, none⟩)) (by kernel_rfl) rfl) (v := .tuple #[.pointer (some ⟨gm15, 0, none⟩), .int .i64 0]) (by kernel_rfl) rfl) (v := .tuple #[.pointer (some ⟨gm15, 0, none⟩), .int .i64 0]) (by kernel_rfl) rfl) (v := .agg #[.int .i64 (ne : Int), .slice (some ad) n cap]) (by kernel_rfl) rfl) (v := .int .i64 0) (by kernel_rfl) rfl) (v := .slice none 0 0) (by kernel_rfl) rfl) (v := .pointer (some ⟨g7, 0, none⟩)) (by kernel_rfl) rfl) (v := .pointer (some ⟨g3, 0, none⟩)) (by kernel_rfl) rfl) (v := .int .i64 nz) (by kernel_rfl) rfl) (v := .agg #[.int .i64 (ne : Int), .slice (some ad) n cap]) (by kernel_rfl) rfl) (v := .int .i64 (x.2 : Int)) (by kernel_rfl) rfl) (v := .int .i64 (x.1 : Int)) (by kernel_rfl) rfl) (v := .int .i64 (x.2 : Int)) (by kernel_rfl) rfl) (v := .int .i64 (x.1 : Int)) (by kernel_rfl) rfl), S62.sub sub_all sub_all⟩ ?_
    rintro mm ac wc ⟨k, hm70, hk, hu, A68, S69⟩
    have hb1 := HB ((x.1 * ne + x.2) * 64 + k)
    have hb2 := HB ((x.2 * ne + x.1) * 64 + k)
    refine wpIn_seq ?_
    refine i_region (noOut_then (noOut_then (noOut_block (noOut_block noOut_body)))) (by kernel_rfl) ?_
    refine s_one (.bool (decide ((k : Int) < 64))) A68 S69 (g_bin (u := .int .i64 (k : Int)) (k := .int .i64 64) (by kernel_rfl) (by kernel_rfl) (fun _ => by kernel_rfl) (fun _ => by kernel_rfl)) rfl (fun ac A71 => ?_)
    refine wpList_nil ?_
    refine n_then ?_
    refine wpIn_seq ?_
    refine i_ifb (b := (decide ((k : Int) < 64))) A71 (by kernel_rfl) (fun h72 => ?_) (fun h72 => ?_)
    · have p73 := of_decide_eq_true h72
      refine wpIn_skip ?_
      refine n_then ?_
      refine wpIn_seq ?_
      refine wpIn_block ?_
      refine wpIn_seq ?_
      refine i_region (noOut_then (noOut_block (noOut_then (noOut_then (noOut_block (noOut_block noOut_body)))))) (by kernel_rfl) ?_
      refine s_one (.int .i64 (k : Int)) A71 S69 (g_move (by kernel_rfl)) rfl (fun ac A74 => ?_)
      refine s_one (.int .i64 (k : Int)) A74 S69 (g_assign (by kernel_rfl)) rfl (fun ac A75 => ?_)
      refine wpList_nil ?_
      refine n_then ?_
      refine wpIn_seq ?_
      refine i_cut (fun ac wc => Fr 69 ac [(60, .bool ((decide ((x.1 : Int) < (x.2 : Int))) && (decide (mx (nthI (mi xs) ((x.1 * ne + x.2) * 64 + k) - (nthI (mi xs) ((x.2 * ne + x.1) * 64 + k))) (-(nthI (mi xs) ((x.1 * ne + x.2) * 64 + k) - (nthI (mi xs) ((x.2 * ne + x.1) * 64 + k)))) > nz)))), (9, .int .i64 (x.1 : Int)), (10, .int .i64 (x.2 : Int)), (29, .int .i64 (x.1 : Int)), (30, .int .i64 (x.2 : Int)), (0, .agg #[.int .i64 (ne : Int), .slice (some ad) n cap]), (1, .int .i64 nz), (2, .pointer (some ⟨g3, 0, none⟩)), (3, .pointer (some ⟨g7, 0, none⟩)), (4, .slice none 0 0), (5, .int .i64 0), (15, .agg #[.int .i64 (ne : Int), .slice (some ad) n cap]), (16, .tuple #[.pointer (some ⟨gm15, 0, none⟩), .int .i64 0]), (14, .tuple #[.pointer (some ⟨gm15, 0, none⟩), .int .i64 0]), (17, .pointer (some ⟨gm15, 0, none⟩)), (18, .int .i64 0), (6, .pointer (some ⟨g24, 0, none⟩)), (7, .int .i64 0), (20, .int .i64 0), (21, .bool (decide (0 ≠ 0))), (19, .bool (decide (0 ≠ 0))), (24, .int .i64 nz), (25, .bool (inB nz 0 4094)), (26, .bool (!(inB nz 0 4094))), (23, .bool (!(inB nz 0 4094))), (8, .pointer (some ⟨g40, 0, none⟩)), (27, .pointer (some ⟨gm15, 0, none⟩)), (28, .func (.func 86) #[.pointer (some ⟨gm15, 0, none⟩)] #[]), (31, .pointer (some ⟨gm15, 0, none⟩)), (32, .int .i64 (x.1 : Int)), (33, .int .i64 (x.2 : Int)), (35, .pointer (some ⟨gm15, 0, none⟩)), (36, .int .i64 (x.2 : Int)), (37, .int .i64 (x.1 : Int)), (34, .pointer (some ((Addr.mk gr16 0 none).add ((x.1 * ne + x.2) * 64)))), (38, .pointer (some ((Addr.mk gr16 0 none).add ((x.2 * ne + x.1) * 64)))), (11, .pointer (some ((Addr.mk gr16 0 none).add ((x.1 * ne + x.2) * 64)))), (12, .pointer (some ((Addr.mk gr16 0 none).add ((x.2 * ne + x.1) * 64)))), (39, .int .i64 (k : Int)), (40, .bool (decide ((k : Int) < 64))), (41, .int .i64 (k : Int)), (13, .int .i64 (k : Int))] ∧ St ⟨w0, WB46⟩ [⟨g40, 22, #[v], true⟩, ⟨g24, 130, #[.pointer (some ⟨gm15, 0, none⟩)], true⟩, ⟨gm15, 137, #[.int .i64 (ne : Int), .slice (some (Addr.mk gr16 0 none)) (ne * ne) cp17], true⟩, ⟨g7, 3, #[.int .i64 nz], true⟩, ⟨g3, 30, #[.int .i64 (ne : Int), .slice (some ad) n cap], true⟩] [⟨v, 26, 2, (((pre).filter (unB (mi xs) ne nz)).length), (rowI (flP ((pre).filter (unB (mi xs) ne nz))))⟩, ⟨.slice (some (Addr.mk gr16 0 none)) (ne * ne) cp17, 123, 64, (ne * ne), (rowI (mi xs))⟩] wc) ?_ ?_
      · refine i_begin (w0 := ⟨w0, WB46⟩) (by kernel_rfl) (noOut_then (noOut_then (noOut_block (noOut_then (noOut_then (noOut_block (noOut_block noOut_body))))))) (by kernel_rfl) (S69.sub sub_all sub_all) (fun wc T76 B77 => ?_)
        have S78 := S69.kept B77
        refine r_take 0 (.int .i64 (x.1 : Int)) A75 T76 (g_move (by kernel_rfl)) rfl rfl rfl (pf_then (pf_then (pf_block (pf_then (pf_then (pf_block (pf_block pf_round))))))) (by kernel_rfl) (fun ac A79 => ?_)
        refine r_take 1 (.int .i64 (x.2 : Int)) A79 T76 (g_move (by kernel_rfl)) rfl rfl rfl (pf_then (pf_then (pf_block (pf_then (pf_then (pf_block (pf_block pf_round))))))) (by kernel_rfl) (fun ac A80 => ?_)
        refine r_take 2 (.bool (decide ((x.1 : Int) < (x.2 : Int)))) A80 T76 (g_bin (u := .int .i64 (x.1 : Int)) (k := .int .i64 (x.2 : Int)) (by kernel_rfl) (by kernel_rfl) (fun _ => by kernel_rfl) (fun _ => by kernel_rfl)) rfl rfl rfl (pf_then (pf_then (pf_block (pf_then (pf_then (pf_block (pf_block pf_round))))))) (by kernel_rfl) (fun ac A81 => ?_)
        refine r_take 3 (.bool (decide ((x.1 : Int) < (x.2 : Int)))) A81 T76 (g_move (by kernel_rfl)) rfl rfl rfl (pf_then (pf_then (pf_block (pf_then (pf_then (pf_block (pf_block pf_round))))))) (by kernel_rfl) (fun ac A82 => ?_)
        refine by_bool (decide ((x.1 : Int) < (x.2 : Int))) (fun h83 => ?_) (fun h83 => ?_)
        · have p84 := of_decide_eq_true h83
          refine r_take 4 (.pointer (some ((Addr.mk gr16 0 none).add ((x.1 * ne + x.2) * 64)))) A82 T76 (g_move (by kernel_rfl)) rfl (want_t (dj := 45) (b := (decide ((x.1 : Int) < (x.2 : Int)))) A82 rfl (by kernel_rfl) (by kernel_rfl) h83) rfl (pf_then (pf_then (pf_block (pf_then (pf_then (pf_block (pf_block pf_round))))))) (by kernel_rfl) (fun ac A85 => ?_)
          refine r_take 5 (.int .i64 (k : Int)) A85 T76 (g_move (by kernel_rfl)) rfl (want_t (dj := 45) (b := (decide ((x.1 : Int) < (x.2 : Int)))) A85 rfl (by kernel_rfl) (by kernel_rfl) h83) rfl (pf_then (pf_then (pf_block (pf_then (pf_then (pf_block (pf_block pf_round))))))) (by kernel_rfl) (fun ac A86 => ?_)
          refine r_take 6 (.pointer (some ((Addr.mk gr16 0 none).add ((x.1 * ne + x.2) * 64)))) A86 T76 (g_nil (by kernel_rfl)) rfl (want_t (dj := 45) (b := (decide ((x.1 : Int) < (x.2 : Int)))) A86 rfl (by kernel_rfl) (by kernel_rfl) h83) rfl (pf_then (pf_then (pf_block (pf_then (pf_then (pf_block (pf_block pf_round))))))) (by kernel_rfl) (fun ac A87 => ?_)
          refine r_take 7 (.pointer (some ((Addr.mk gr16 0 none).add ((x.1 * ne + x.2) * 64 + k)))) A87 T76 (g_index (u := .pointer (some ((Addr.mk gr16 0 none).add ((x.1 * ne + x.2) * 64)))) (k := .int .i64 (k : Int)) (by kernel_rfl) (by kernel_rfl) (ix_xarr (len := 64) (size := 1) (y := (x.1 * ne + x.2) * 64 + k) k (by kernel_rfl) (by omega) (by omega) (by omega))) rfl (want_t (dj := 45) (b := (decide ((x.1 : Int) < (x.2 : Int)))) A87 rfl (by kernel_rfl) (by kernel_rfl) h83) rfl (pf_then (pf_then (pf_block (pf_then (pf_then (pf_block (pf_block pf_round))))))) (by kernel_rfl) (fun ac A88 => ?_)
          refine r_take 8 (.int .i64 (nthI (mi xs) ((x.1 * ne + x.2) * 64 + k))) A88 T76 (g_loadRI (l := mi xs) (k := (x.1 * ne + x.2) * 64 + k) 1 (by kernel_rfl) rfl (by have hlen := hml; omega) (by kernel_rfl)) rfl (want_t (dj := 45) (b := (decide ((x.1 : Int) < (x.2 : Int)))) A88 rfl (by kernel_rfl) (by kernel_rfl) h83) rfl (pf_then (pf_then (pf_block (pf_then (pf_then (pf_block (pf_block pf_round))))))) (by kernel_rfl) (fun ac A89 => ?_)
          refine r_take 9 (.pointer (some ((Addr.mk gr16 0 none).add ((x.2 * ne + x.1) * 64)))) A89 T76 (g_move (by kernel_rfl)) rfl (want_t (dj := 45) (b := (decide ((x.1 : Int) < (x.2 : Int)))) A89 rfl (by kernel_rfl) (by kernel_rfl) h83) rfl (pf_then (pf_then (pf_block (pf_then (pf_then (pf_block (pf_block pf_round))))))) (by kernel_rfl) (fun ac A90 => ?_)
          refine r_take 10 (.int .i64 (k : Int)) A90 T76 (g_move (by kernel_rfl)) rfl (want_t (dj := 45) (b := (decide ((x.1 : Int) < (x.2 : Int)))) A90 rfl (by kernel_rfl) (by kernel_rfl) h83) rfl (pf_then (pf_then (pf_block (pf_then (pf_then (pf_block (pf_block pf_round))))))) (by kernel_rfl) (fun ac A91 => ?_)
          refine r_take 11 (.pointer (some ((Addr.mk gr16 0 none).add ((x.2 * ne + x.1) * 64)))) A91 T76 (g_nil (by kernel_rfl)) rfl (want_t (dj := 45) (b := (decide ((x.1 : Int) < (x.2 : Int)))) A91 rfl (by kernel_rfl) (by kernel_rfl) h83) rfl (pf_then (pf_then (pf_block (pf_then (pf_then (pf_block (pf_block pf_round))))))) (by kernel_rfl) (fun ac A92 => ?_)
          refine r_take 12 (.pointer (some ((Addr.mk gr16 0 none).add ((x.2 * ne + x.1) * 64 + k)))) A92 T76 (g_index (u := .pointer (some ((Addr.mk gr16 0 none).add ((x.2 * ne + x.1) * 64)))) (k := .int .i64 (k : Int)) (by kernel_rfl) (by kernel_rfl) (ix_xarr (len := 64) (size := 1) (y := (x.2 * ne + x.1) * 64 + k) k (by kernel_rfl) (by omega) (by omega) (by omega))) rfl (want_t (dj := 45) (b := (decide ((x.1 : Int) < (x.2 : Int)))) A92 rfl (by kernel_rfl) (by kernel_rfl) h83) rfl (pf_then (pf_then (pf_block (pf_then (pf_then (pf_block (pf_block pf_round))))))) (by kernel_rfl) (fun ac A93 => ?_)
          refine r_take 13 (.int .i64 (nthI (mi xs) ((x.2 * ne + x.1) * 64 + k))) A93 T76 (g_loadRI (l := mi xs) (k := (x.2 * ne + x.1) * 64 + k) 1 (by kernel_rfl) rfl (by have hlen := hml; omega) (by kernel_rfl)) rfl (want_t (dj := 45) (b := (decide ((x.1 : Int) < (x.2 : Int)))) A93 rfl (by kernel_rfl) (by kernel_rfl) h83) rfl (pf_then (pf_then (pf_block (pf_then (pf_then (pf_block (pf_block pf_round))))))) (by kernel_rfl) (fun ac A94 => ?_)
          refine r_take 14 (.int .i64 (nthI (mi xs) ((x.1 * ne + x.2) * 64 + k) - (nthI (mi xs) ((x.2 * ne + x.1) * 64 + k)))) A94 T76 (g_bin (u := .int .i64 (nthI (mi xs) ((x.1 * ne + x.2) * 64 + k))) (k := .int .i64 (nthI (mi xs) ((x.2 * ne + x.1) * 64 + k))) (by kernel_rfl) (by kernel_rfl) (fun _ => by kernel_rfl) (b_sub (by omega))) rfl (want_t (dj := 45) (b := (decide ((x.1 : Int) < (x.2 : Int)))) A94 rfl (by kernel_rfl) (by kernel_rfl) h83) rfl (pf_then (pf_then (pf_block (pf_then (pf_then (pf_block (pf_block pf_round))))))) (by kernel_rfl) (fun ac A95 => ?_)
          refine r_take 16 (.int .i64 nz) A95 T76 (g_load (g := g7) (off := 0) 3 (by kernel_rfl) rfl (by kernel_rfl)) rfl (want_t (dj := 45) (b := (decide ((x.1 : Int) < (x.2 : Int)))) A95 rfl (by kernel_rfl) (by kernel_rfl) h83) rfl (pf_then (pf_then (pf_block (pf_then (pf_then (pf_block (pf_block pf_round))))))) (by kernel_rfl) (fun ac A96 => ?_)
          refine r_1 (i := 15) (by kernel_rfl) ?_
          refine rs_call (fs := #[]) (cp := #[]) (r := [(0, .int .i64 (nthI (mi xs) ((x.1 * ne + x.2) * 64 + k) - (nthI (mi xs) ((x.2 * ne + x.1) * 64 + k))))]) #[.int .i64 (nthI (mi xs) ((x.1 * ne + x.2) * 64 + k) - (nthI (mi xs) ((x.2 * ne + x.1) * 64 + k)))] (.int .i64 (mx (nthI (mi xs) ((x.1 * ne + x.2) * 64 + k) - (nthI (mi xs) ((x.2 * ne + x.1) * 64 + k))) (-(nthI (mi xs) ((x.1 * ne + x.2) * 64 + k) - (nthI (mi xs) ((x.2 * ne + x.1) * 64 + k)))))) A96 S78 sub_all sub_all (size_s (nthI (mi xs) ((x.1 * ne + x.2) * 64 + k) - (nthI (mi xs) ((x.2 * ne + x.1) * 64 + k))) _ (by omega)) Try.call89 rfl (want_t (dj := 45) (b := (decide ((x.1 : Int) < (x.2 : Int)))) A96 rfl (by kernel_rfl) (by kernel_rfl) h83) (by kernel_rfl) (by kernel_rfl) (by kernel_rfl) rfl (fun ac wc A97 S98 => ?_)
          have T100 := S98.sub sub_all sub_all
          refine r_take 17 (.bool (decide (mx (nthI (mi xs) ((x.1 * ne + x.2) * 64 + k) - (nthI (mi xs) ((x.2 * ne + x.1) * 64 + k))) (-(nthI (mi xs) ((x.1 * ne + x.2) * 64 + k) - (nthI (mi xs) ((x.2 * ne + x.1) * 64 + k)))) > nz))) A97 T100 (g_bin (u := .int .i64 (mx (nthI (mi xs) ((x.1 * ne + x.2) * 64 + k) - (nthI (mi xs) ((x.2 * ne + x.1) * 64 + k))) (-(nthI (mi xs) ((x.1 * ne + x.2) * 64 + k) - (nthI (mi xs) ((x.2 * ne + x.1) * 64 + k)))))) (k := .int .i64 nz) (by kernel_rfl) (by kernel_rfl) (fun _ => by kernel_rfl) (fun _ => by kernel_rfl)) rfl (want_t (dj := 45) (b := (decide ((x.1 : Int) < (x.2 : Int)))) A97 rfl (by kernel_rfl) (by kernel_rfl) h83) rfl (pf_then (pf_then (pf_block (pf_then (pf_then (pf_block (pf_block pf_round))))))) (by kernel_rfl) (fun ac A101 => ?_)
          refine r_take 18 (.bool (decide (mx (nthI (mi xs) ((x.1 * ne + x.2) * 64 + k) - (nthI (mi xs) ((x.2 * ne + x.1) * 64 + k))) (-(nthI (mi xs) ((x.1 * ne + x.2) * 64 + k) - (nthI (mi xs) ((x.2 * ne + x.1) * 64 + k)))) > nz))) A101 T100 (g_pick_t (b := (decide ((x.1 : Int) < (x.2 : Int)))) (by kernel_rfl) h83 (by kernel_rfl)) rfl rfl rfl (pf_then (pf_then (pf_block (pf_then (pf_then (pf_block (pf_block pf_round))))))) (by kernel_rfl) (fun ac A102 => ?_)
          refine r_done (by kernel_rfl) ?_
          refine n_then ?_
          exact ⟨(A102.slot (A102.slot (A102.slot (A102.slot (A102.slot (A102.slot (A102.slot (A102.slot (A102.slot (A102.slot (A102.slot (A102.slot (A102.slot (A102.slot (A102.slot (A102.slot (A102.slot (A102.slot (A102.slot (A102.slot (A102.slot (A102.slot (A102.slot (A102.slot (A102.slot (A102.slot (A102.slot (A102.slot (A102.slot (A102.slot (A102.slot (A102.slot (A102.slot (A102.slot (A102.slot (A102.slot (A102.slot (A102.slot (A102.slot (A102.slot (A102.slot (A102.slot A102.nil (v := .int .i64 (k : Int)) (by kernel_rfl) rfl) (v := .int .i64 (k : Int)) (by kernel_rfl) rfl) (v := .bool (decide ((k : Int) < 64))) (by kernel_rfl) rfl) (v := .int .i64 (k : Int)) (by kernel_rfl) rfl) (v := .pointer (some ((Addr.mk gr16 0 none).add ((x.2 * ne + x.1) * 64)))) (by kernel_rfl) rfl) (v := .pointer (some ((Addr.mk gr16 0 none).add ((x.1 * ne + x.2) * 64)))) (by kernel_rfl) rfl) (v := .pointer (some ((Addr.mk gr16 0 none).add ((x.2 * ne + x.1) * 64)))) (by kernel_rfl) rfl) (v := .pointer (some ((Addr.mk gr16 0 none).add ((x.1 * ne + x.2) * 64)))) (by kernel_rfl) rfl) (v := .int .i64 (x.1 : Int)) (by kernel_rfl) rfl) (v := .int .i64 (x.2 : Int)) (by kernel_rfl) rfl) (v := .pointer (some ⟨gm15, 0, none⟩)) (by kernel_rfl) rfl) (v := .int .i64 (x.2 : Int)) (by kernel_rfl) rfl) (v := .int .i64 (x.1 : Int)) (by kernel_rfl) rfl) (v := .pointer (some ⟨gm15, 0, none⟩)) (by kernel_rfl) rfl) (v := .func (.func 86) #[.pointer (some ⟨gm15, 0, none⟩)] #[]) (by kernel_rfl) rfl) (v := .pointer (some ⟨gm15, 0, none⟩)) (by kernel_rfl) rfl) (v := .pointer (some ⟨g40, 0, none⟩)) (by kernel_rfl) rfl) (v := .bool (!(inB nz 0 4094))) (by kernel_rfl) rfl) (v := .bool (!(inB nz 0 4094))) (by kernel_rfl) rfl) (v := .bool (inB nz 0 4094)) (by kernel_rfl) rfl) (v := .int .i64 nz) (by kernel_rfl) rfl) (v := .bool (decide (0 ≠ 0))) (by kernel_rfl) rfl) (v := .bool (decide (0 ≠ 0))) (by kernel_rfl) rfl) (v := .int .i64 0) (by kernel_rfl) rfl) (v := .int .i64 0) (by kernel_rfl) rfl) (v := .pointer (some ⟨g24, 0, none⟩)) (by kernel_rfl) rfl) (v := .int .i64 0) (by kernel_rfl) rfl) (v := .pointer (some ⟨gm15, 0, none⟩)) (by kernel_rfl) rfl) (v := .tuple #[.pointer (some ⟨gm15, 0, none⟩), .int .i64 0]) (by kernel_rfl) rfl) (v := .tuple #[.pointer (some ⟨gm15, 0, none⟩), .int .i64 0]) (by kernel_rfl) rfl) (v := .agg #[.int .i64 (ne : Int), .slice (some ad) n cap]) (by kernel_rfl) rfl) (v := .int .i64 0) (by kernel_rfl) rfl) (v := .slice none 0 0) (by kernel_rfl) rfl) (v := .pointer (some ⟨g7, 0, none⟩)) (by kernel_rfl) rfl) (v := .pointer (some ⟨g3, 0, none⟩)) (by kernel_rfl) rfl) (v := .int .i64 nz) (by kernel_rfl) rfl) (v := .agg #[.int .i64 (ne : Int), .slice (some ad) n cap]) (by kernel_rfl) rfl) (v := .int .i64 (x.2 : Int)) (by kernel_rfl) rfl) (v := .int .i64 (x.1 : Int)) (by kernel_rfl) rfl) (v := .int .i64 (x.2 : Int)) (by kernel_rfl) rfl) (v := .int .i64 (x.1 : Int)) (by kernel_rfl) rfl) (v := .bool (decide (mx (nthI (mi xs) ((x.1 * ne + x.2) * 64 + k) - (nthI (mi xs) ((x.2 * ne + x.1) * 64 + k))) (-(nthI (mi xs) ((x.1 * ne + x.2) * 64 + k) - (nthI (mi xs) ((x.2 * ne + x.1) * 64 + k)))) > nz))) (by kernel_rfl) (congrArg Value.bool (b_and_t h83 (Eq.refl (decide (mx (nthI (mi xs) ((x.1 * ne + x.2) * 64 + k) - (nthI (mi xs) ((x.2 * ne + x.1) * 64 + k))) (-(nthI (mi xs) ((x.1 * ne + x.2) * 64 + k) - (nthI (mi xs) ((x.2 * ne + x.1) * 64 + k)))) > nz)))).symm)), S98.sub sub_all sub_all⟩
        · have p103 := of_decide_eq_false h83
          refine r_skip 4 A82 T76 rfl (want_f (dj := 45) (b := (decide ((x.1 : Int) < (x.2 : Int)))) A82 rfl (by kernel_rfl) (by kernel_rfl) h83) rfl (pf_then (pf_then (pf_block (pf_then (pf_then (pf_block (pf_block pf_round))))))) (by kernel_rfl) (fun ac A104 => ?_)
          refine r_skip 5 A104 T76 rfl (want_f (dj := 45) (b := (decide ((x.1 : Int) < (x.2 : Int)))) A104 rfl (by kernel_rfl) (by kernel_rfl) h83) rfl (pf_then (pf_then (pf_block (pf_then (pf_then (pf_block (pf_block pf_round))))))) (by kernel_rfl) (fun ac A105 => ?_)
          refine r_skip 6 A105 T76 rfl (want_f (dj := 45) (b := (decide ((x.1 : Int) < (x.2 : Int)))) A105 rfl (by kernel_rfl) (by kernel_rfl) h83) rfl (pf_then (pf_then (pf_block (pf_then (pf_then (pf_block (pf_block pf_round))))))) (by kernel_rfl) (fun ac A106 => ?_)
          refine r_skip 7 A106 T76 rfl (want_f (dj := 45) (b := (decide ((x.1 : Int) < (x.2 : Int)))) A106 rfl (by kernel_rfl) (by kernel_rfl) h83) rfl (pf_then (pf_then (pf_block (pf_then (pf_then (pf_block (pf_block pf_round))))))) (by kernel_rfl) (fun ac A107 => ?_)
          refine r_skip 8 A107 T76 rfl (want_f (dj := 45) (b := (decide ((x.1 : Int) < (x.2 : Int)))) A107 rfl (by kernel_rfl) (by kernel_rfl) h83) rfl (pf_then (pf_then (pf_block (pf_then (pf_then (pf_block (pf_block pf_round))))))) (by kernel_rfl) (fun ac A108 => ?_)
          refine r_skip 9 A108 T76 rfl (want_f (dj := 45) (b := (decide ((x.1 : Int) < (x.2 : Int)))) A108 rfl (by kernel_rfl) (by kernel_rfl) h83) rfl (pf_then (pf_then (pf_block (pf_then (pf_then (pf_block (pf_block pf_round))))))) (by kernel_rfl) (fun ac A109 => ?_)
          refine r_skip 10 A109 T76 rfl (want_f (dj := 45) (b := (decide ((x.1 : Int) < (x.2 : Int)))) A109 rfl (by kernel_rfl) (by kernel_rfl) h83) rfl (pf_then (pf_then (pf_block (pf_then (pf_then (pf_block (pf_block pf_round))))))) (by kernel_rfl) (fun ac A110 => ?_)
          refine r_skip 11 A110 T76 rfl (want_f (dj := 45) (b := (decide ((x.1 : Int) < (x.2 : Int)))) A110 rfl (by kernel_rfl) (by kernel_rfl) h83) rfl (pf_then (pf_then (pf_block (pf_then (pf_then (pf_block (pf_block pf_round))))))) (by kernel_rfl) (fun ac A111 => ?_)
          refine r_skip 12 A111 T76 rfl (want_f (dj := 45) (b := (decide ((x.1 : Int) < (x.2 : Int)))) A111 rfl (by kernel_rfl) (by kernel_rfl) h83) rfl (pf_then (pf_then (pf_block (pf_then (pf_then (pf_block (pf_block pf_round))))))) (by kernel_rfl) (fun ac A112 => ?_)
          refine r_skip 13 A112 T76 rfl (want_f (dj := 45) (b := (decide ((x.1 : Int) < (x.2 : Int)))) A112 rfl (by kernel_rfl) (by kernel_rfl) h83) rfl (pf_then (pf_then (pf_block (pf_then (pf_then (pf_block (pf_block pf_round))))))) (by kernel_rfl) (fun ac A113 => ?_)
          refine r_skip 14 A113 T76 rfl (want_f (dj := 45) (b := (decide ((x.1 : Int) < (x.2 : Int)))) A113 rfl (by kernel_rfl) (by kernel_rfl) h83) rfl (pf_then (pf_then (pf_block (pf_then (pf_then (pf_block (pf_block pf_round))))))) (by kernel_rfl) (fun ac A114 => ?_)
          refine r_skip 15 A114 T76 rfl (want_f (dj := 45) (b := (decide ((x.1 : Int) < (x.2 : Int)))) A114 rfl (by kernel_rfl) (by kernel_rfl) h83) rfl (pf_then (pf_then (pf_block (pf_then (pf_then (pf_block (pf_block pf_round))))))) (by kernel_rfl) (fun ac A115 => ?_)
          refine r_skip 16 A115 T76 rfl (want_f (dj := 45) (b := (decide ((x.1 : Int) < (x.2 : Int)))) A115 rfl (by kernel_rfl) (by kernel_rfl) h83) rfl (pf_then (pf_then (pf_block (pf_then (pf_then (pf_block (pf_block pf_round))))))) (by kernel_rfl) (fun ac A116 => ?_)
          refine r_skip 17 A116 T76 rfl (want_f (dj := 45) (b := (decide ((x.1 : Int) < (x.2 : Int)))) A116 rfl (by kernel_rfl) (by kernel_rfl) h83) rfl (pf_then (pf_then (pf_block (pf_then (pf_then (pf_block (pf_block pf_round))))))) (by kernel_rfl) (fun ac A117 => ?_)
          refine r_take 18 (.bool false) A117 T76 (g_pick_f (b := (decide ((x.1 : Int) < (x.2 : Int)))) (by kernel_rfl) h83 (by kernel_rfl)) rfl rfl rfl (pf_then (pf_then (pf_block (pf_then (pf_then (pf_block (pf_block pf_round))))))) (by kernel_rfl) (fun ac A118 => ?_)
          refine r_done (by kernel_rfl) ?_
          refine n_then ?_
          exact ⟨(A118.slot (A118.slot (A118.slot (A118.slot (A118.slot (A118.slot (A118.slot (A118.slot (A118.slot (A118.slot (A118.slot (A118.slot (A118.slot (A118.slot (A118.slot (A118.slot (A118.slot (A118.slot (A118.slot (A118.slot (A118.slot (A118.slot (A118.slot (A118.slot (A118.slot (A118.slot (A118.slot (A118.slot (A118.slot (A118.slot (A118.slot (A118.slot (A118.slot (A118.slot (A118.slot (A118.slot (A118.slot (A118.slot (A118.slot (A118.slot (A118.slot (A118.slot A118.nil (v := .int .i64 (k : Int)) (by kernel_rfl) rfl) (v := .int .i64 (k : Int)) (by kernel_rfl) rfl) (v := .bool (decide ((k : Int) < 64))) (by kernel_rfl) rfl) (v := .int .i64 (k : Int)) (by kernel_rfl) rfl) (v := .pointer (some ((Addr.mk gr16 0 none).add ((x.2 * ne + x.1) * 64)))) (by kernel_rfl) rfl) (v := .pointer (some ((Addr.mk gr16 0 none).add ((x.1 * ne + x.2) * 64)))) (by kernel_rfl) rfl) (v := .pointer (some ((Addr.mk gr16 0 none).add ((x.2 * ne + x.1) * 64)))) (by kernel_rfl) rfl) (v := .pointer (some ((Addr.mk gr16 0 none).add ((x.1 * ne + x.2) * 64)))) (by kernel_rfl) rfl) (v := .int .i64 (x.1 : Int)) (by kernel_rfl) rfl) (v := .int .i64 (x.2 : Int)) (by kernel_rfl) rfl) (v := .pointer (some ⟨gm15, 0, none⟩)) (by kernel_rfl) rfl) (v := .int .i64 (x.2 : Int)) (by kernel_rfl) rfl) (v := .int .i64 (x.1 : Int)) (by kernel_rfl) rfl) (v := .pointer (some ⟨gm15, 0, none⟩)) (by kernel_rfl) rfl) (v := .func (.func 86) #[.pointer (some ⟨gm15, 0, none⟩)] #[]) (by kernel_rfl) rfl) (v := .pointer (some ⟨gm15, 0, none⟩)) (by kernel_rfl) rfl) (v := .pointer (some ⟨g40, 0, none⟩)) (by kernel_rfl) rfl) (v := .bool (!(inB nz 0 4094))) (by kernel_rfl) rfl) (v := .bool (!(inB nz 0 4094))) (by kernel_rfl) rfl) (v := .bool (inB nz 0 4094)) (by kernel_rfl) rfl) (v := .int .i64 nz) (by kernel_rfl) rfl) (v := .bool (decide (0 ≠ 0))) (by kernel_rfl) rfl) (v := .bool (decide (0 ≠ 0))) (by kernel_rfl) rfl) (v := .int .i64 0) (by kernel_rfl) rfl) (v := .int .i64 0) (by kernel_rfl) rfl) (v := .pointer (some ⟨g24, 0, none⟩)) (by kernel_rfl) rfl) (v := .int .i64 0) (by kernel_rfl) rfl) (v := .pointer (some ⟨gm15, 0, none⟩)) (by kernel_rfl) rfl) (v := .tuple #[.pointer (some ⟨gm15, 0, none⟩), .int .i64 0]) (by kernel_rfl) rfl) (v := .tuple #[.pointer (some ⟨gm15, 0, none⟩), .int .i64 0]) (by kernel_rfl) rfl) (v := .agg #[.int .i64 (ne : Int), .slice (some ad) n cap]) (by kernel_rfl) rfl) (v := .int .i64 0) (by kernel_rfl) rfl) (v := .slice none 0 0) (by kernel_rfl) rfl) (v := .pointer (some ⟨g7, 0, none⟩)) (by kernel_rfl) rfl) (v := .pointer (some ⟨g3, 0, none⟩)) (by kernel_rfl) rfl) (v := .int .i64 nz) (by kernel_rfl) rfl) (v := .agg #[.int .i64 (ne : Int), .slice (some ad) n cap]) (by kernel_rfl) rfl) (v := .int .i64 (x.2 : Int)) (by kernel_rfl) rfl) (v := .int .i64 (x.1 : Int)) (by kernel_rfl) rfl) (v := .int .i64 (x.2 : Int)) (by kernel_rfl) rfl) (v := .int .i64 (x.1 : Int)) (by kernel_rfl) rfl) (v := .bool false) (by kernel_rfl) (congrArg Value.bool (b_af1 h83).symm)), S78.sub sub_all sub_all⟩
      · rintro ac wc ⟨A119, S120⟩
        refine n_then ?_
        refine i_ifb (b := ((decide ((x.1 : Int) < (x.2 : Int))) && (decide (mx (nthI (mi xs) ((x.1 * ne + x.2) * 64 + k) - (nthI (mi xs) ((x.2 * ne + x.1) * 64 + k))) (-(nthI (mi xs) ((x.1 * ne + x.2) * 64 + k) - (nthI (mi xs) ((x.2 * ne + x.1) * 64 + k)))) > nz)))) A119 (by kernel_rfl) (fun h121 => ?_) (fun h121 => ?_)
        · have h122 := (Bool.and_eq_true_iff.1 h121).1
          have p123 := of_decide_eq_true h122
          have h124 := (Bool.and_eq_true_iff.1 h121).2
          have p125 := of_decide_eq_true h124
          refine wpIn_seq ?_
          refine i_region (noOut_then (noOut_block (noOut_then (noOut_then (noOut_block (noOut_block noOut_body)))))) (by kernel_rfl) ?_
          refine s_one (v) A119 S120 (g_load (g := g40) (off := 0) 0 (by kernel_rfl) rfl (by kernel_rfl)) rfl (fun ac A126 => ?_)
          refine s_one (.int .i64 (x.1 : Int)) A126 S120 (g_move (by kernel_rfl)) rfl (fun ac A127 => ?_)
          refine s_one (.int .i64 (x.2 : Int)) A127 S120 (g_move (by kernel_rfl)) rfl (fun ac A128 => ?_)
          refine s_one (.agg #[.int .i64 (x.1 : Int), .int .i64 (x.2 : Int)]) A128 S120 (g_build (r := [(0, .int .i64 (x.1 : Int)), (1, .int .i64 (x.2 : Int))]) (by kernel_rfl) (fun _ => by kernel_rfl)) rfl (fun ac A129 => ?_)
          refine s_bs (e := 26) (r := [(0, .agg #[.int .i64 (x.1 : Int), .int .i64 (x.2 : Int)])]) (#[.int .i64 (x.1 : Int), .int .i64 (x.2 : Int)]) A129 S120 (by kernel_rfl) (by kernel_rfl) rfl (fun g132 ac wc A130 S131 => ?_)
          refine s_append (e := 26) (size := 2) (bytes := 16) (v := v) (g := g132) (m' := 1) (c := 1) 0 0 [.int .i64 (x.1 : Int), .int .i64 (x.2 : Int)] A130 S131 (by kernel_rfl) (by kernel_rfl) (by kernel_rfl) rfl rfl (by kernel_rfl) rfl (by kernel_rfl) (by omega) (by omega) rfl (fun v136 ac wc A133 S134 => ?_)
          obtain ⟨A137, cap138, rfl⟩ := row_slice (v := v136) (m := ((pre).filter (unB (mi xs) ne nz)).length + 1) (S134.row 0 rfl)
          refine s_store (g := g40) (off := 0) (v := .slice A137 (((pre).filter (unB (mi xs) ne nz)).length + 1) cap138) 1 (#[.slice A137 (((pre).filter (unB (mi xs) ne nz)).length + 1) cap138]) A133 S134 (by kernel_rfl) (by kernel_rfl) rfl (by kernel_rfl) (fun wc S140 => ?_)
          refine wpList_nil ?_
          refine n_then ?_
          refine wpIn_exit ?_
          refine x_miss rfl ?_
          refine x_then ?_
          refine x_then ?_
          refine x_hit ?_
          refine n_block ?_
          refine r_end (w0 := w0) S140 (KpG.cons (S140.get 3 rfl) KpG.nil) (fun SE => ?_)
          exact ⟨.slice A137 (((pre).filter (unB (mi xs) ne nz)).length + 1) cap138, (St.rerow 0 (St.recell 1 SE rfl (by rfl)) rfl ⟨by rw [sel_y (unB_y (by omega) h121), List.length_append]; rfl, by rw [sel_y (unB_y (by omega) h121)]; exact flP_snoc _ _ _⟩).sub (sub_skip sub_all) sub_all⟩
        · refine wpIn_skip ?_
          refine n_block ?_
          refine n_then ?_
          refine i_region (noOut_then (noOut_block (noOut_block noOut_body))) (by kernel_rfl) ?_
          refine s_one (.int .i64 ((k : Int) + 1)) A119 S120 (g_bin (u := .int .i64 (k : Int)) (k := .int .i64 1) (by kernel_rfl) (by kernel_rfl) (fun _ => by kernel_rfl) (b_add (by omega))) rfl (fun ac A142 => ?_)
          refine s_one (.int .i64 ((k : Int) + 1)) A142 S120 (g_move (by kernel_rfl)) rfl (fun ac A143 => ?_)
          refine wpList_nil ?_
          refine n_then ?_
          refine ⟨_, ⟨k + 1, rfl, by omega, unK_n hu h121, (A143.slot (A143.slot (A143.slot (A143.slot (A143.slot (A143.slot (A143.slot (A143.slot (A143.slot (A143.slot (A143.slot (A143.slot (A143.slot (A143.slot (A143.slot (A143.slot (A143.slot (A143.slot (A143.slot (A143.slot (A143.slot (A143.slot (A143.slot (A143.slot (A143.slot (A143.slot (A143.slot (A143.slot (A143.slot (A143.slot (A143.slot (A143.slot (A143.slot (A143.slot (A143.slot (A143.slot (A143.slot (A143.slot A143.nil (v := .int .i64 ((k : Int) + 1)) (by kernel_rfl) (congrArg (Value.int .i64) (by omega))) (v := .pointer (some ((Addr.mk gr16 0 none).add ((x.2 * ne + x.1) * 64)))) (by kernel_rfl) rfl) (v := .pointer (some ((Addr.mk gr16 0 none).add ((x.1 * ne + x.2) * 64)))) (by kernel_rfl) rfl) (v := .pointer (some ((Addr.mk gr16 0 none).add ((x.2 * ne + x.1) * 64)))) (by kernel_rfl) rfl) (v := .pointer (some ((Addr.mk gr16 0 none).add ((x.1 * ne + x.2) * 64)))) (by kernel_rfl) rfl) (v := .int .i64 (x.1 : Int)) (by kernel_rfl) rfl) (v := .int .i64 (x.2 : Int)) (by kernel_rfl) rfl) (v := .pointer (some ⟨gm15, 0, none⟩)) (by kernel_rfl) rfl) (v := .int .i64 (x.2 : Int)) (by kernel_rfl) rfl) (v := .int .i64 (x.1 : Int)) (by kernel_rfl) rfl) (v := .pointer (some ⟨gm15, 0, none⟩)) (by kernel_rfl) rfl) (v := .func (.func 86) #[.pointer (some ⟨gm15, 0, none⟩)] #[]) (by kernel_rfl) rfl) (v := .pointer (some ⟨gm15, 0, none⟩)) (by kernel_rfl) rfl) (v := .pointer (some ⟨g40, 0, none⟩)) (by kernel_rfl) rfl) (v := .bool (!(inB nz 0 4094))) (by kernel_rfl) rfl) (v := .bool (!(inB nz 0 4094))) (by kernel_rfl) rfl) (v := .bool (inB nz 0 4094)) (by kernel_rfl) rfl) (v := .int .i64 nz) (by kernel_rfl) rfl) (v := .bool (decide (0 ≠ 0))) (by kernel_rfl) rfl) (v := .bool (decide (0 ≠ 0))) (by kernel_rfl) rfl) (v := .int .i64 0) (by kernel_rfl) rfl) (v := .int .i64 0) (by kernel_rfl) rfl) (v := .pointer (some ⟨g24, 0, none⟩)) (by kernel_rfl) rfl) (v := .int .i64 0) (by kernel_rfl) rfl) (v := .pointer (some ⟨gm15, 0, none⟩)) (by kernel_rfl) rfl) (v := .tuple #[.pointer (some ⟨gm15, 0, none⟩), .int .i64 0]) (by kernel_rfl) rfl) (v := .tuple #[.pointer (some ⟨gm15, 0, none⟩), .int .i64 0]) (by kernel_rfl) rfl) (v := .agg #[.int .i64 (ne : Int), .slice (some ad) n cap]) (by kernel_rfl) rfl) (v := .int .i64 0) (by kernel_rfl) rfl) (v := .slice none 0 0) (by kernel_rfl) rfl) (v := .pointer (some ⟨g7, 0, none⟩)) (by kernel_rfl) rfl) (v := .pointer (some ⟨g3, 0, none⟩)) (by kernel_rfl) rfl) (v := .int .i64 nz) (by kernel_rfl) rfl) (v := .agg #[.int .i64 (ne : Int), .slice (some ad) n cap]) (by kernel_rfl) rfl) (v := .int .i64 (x.2 : Int)) (by kernel_rfl) rfl) (v := .int .i64 (x.1 : Int)) (by kernel_rfl) rfl) (v := .int .i64 (x.2 : Int)) (by kernel_rfl) rfl) (v := .int .i64 (x.1 : Int)) (by kernel_rfl) rfl), S120.sub sub_all sub_all⟩, ?_⟩
          omega
    · have p144 := of_decide_eq_false h72
      refine wpIn_exit ?_
      refine x_then ?_
      refine x_then ?_
      refine x_hit ?_
      refine n_block ?_
      have e64 : k = 64 := by omega
      rw [e64] at hu
      refine r_end (w0 := w0) S69 (KpG.cons (S69.get 2 rfl) KpG.nil) (fun SE => ?_)
      exact ⟨v, (St.rerow 0 SE rfl ⟨by rw [sel_n (show unB (mi xs) ne nz (x.1, x.2) = false from hu)], by rw [sel_n (show unB (mi xs) ne nz (x.1, x.2) = false from hu)]⟩).sub sub_all sub_all⟩
  · rintro D145 a' WD146 hD147 ⟨v, hS⟩ hK148 HA149
    have SD150 := St.begin hS
    refine n_block ?_
    refine n_then ?_
    refine wp_seq ?_
    refine wp_region_lit ?_
    refine s_one (v) HA149 SD150 (g_load (g := g40) (off := 0) 0 (by kernel_rfl) rfl (by kernel_rfl)) rfl (fun ac A151 => ?_)
    refine s_one (v) A151 SD150 (g_assign (by kernel_rfl)) rfl (fun ac A152 => ?_)
    refine s_one (.int .i64 0) A152 SD150 (g_assign (by kernel_rfl)) rfl (fun ac A153 => ?_)
    refine wpList_nil ?_
    refine n_then ?_
    refine wp_ret ?_
    refine m_ret (w0 := w0) A153 SD150 hK148 hD147 (fun ac wc A154 S155 => ?_)
    obtain ⟨A156, cap157, rfl⟩ := row_slice (v := v) (m := (((pairsOf ne)).filter (unB (mi xs) ne nz)).length) (S155.row 0 rfl)
    refine fin2 (.slice A156 ((((pairsOf ne)).filter (unB (mi xs) ne nz)).length) cap157) (.int .i64 0) Try.results43 A154 S155 (rv_tmp (by kernel_rfl)) (rv_tmp (by kernel_rfl)) ?_
    have bw := S155.kp
    have ow := S155.row 0 rfl
    exact ⟨_, rfl, bw, ow⟩
  · exact fun _ _ _ _ _ h => h.elim
end Go.Proofs.Ytcijkniijomcjaa
namespace Go.Proofs.Ytcijkniijomcjaa
open Go.RowKit Go.Cpl
def trE (el : Int) (xs : List Nat) : Int := if (mxC el xs).2 = 0 then el else 0
def trW (el : Int) (xs : List Nat) : List Nat := if (mxC el xs).2 = 0 then fw (trL (mi xs) el.toNat (pairsOf el.toNat)) else []
def unW (el : Int) (xs : List Nat) (nz : Int) : List (Nat × Nat) := if (mxC el xs).2 = 0 ∧ inB nz 0 4094 = true then (pairsOf el.toNat).filter (unB (mi xs) el.toNat nz) else []
def unZ (el : Int) (xs : List Nat) (nz : Int) : Int := if (mxC el xs).2 = 0 then (if inB nz 0 4094 = true then 0 else 2) else (mxC el xs).2
theorem unW_n {el : Int} {xs : List Nat} {nz : Int} (h : ¬ (mxC el xs).2 = 0) : unW el xs nz = [] := if_neg fun q => h q.1
theorem unW_r {el : Int} {xs : List Nat} {nz : Int} (h : inB nz 0 4094 = false) : unW el xs nz = [] := if_neg fun q => by rw [h] at q; exact absurd q.2 (by decide)
theorem unZ_n {el : Int} {xs : List Nat} {nz : Int} (h : ¬ (mxC el xs).2 = 0) : unZ el xs nz = (mxC el xs).2 := if_neg h
theorem unZ_r {el : Int} {xs : List Nat} {nz : Int} (h : (mxC el xs).2 = 0) (h2 : inB nz 0 4094 = false) : unZ el xs nz = 2 := by unfold unZ; rw [if_pos h, h2]; rfl
theorem unZ_y {el : Int} {xs : List Nat} {nz : Int} (h : (mxC el xs).2 = 0) (h2 : inB nz 0 4094 = true) : unZ el xs nz = 0 := by unfold unZ; rw [if_pos h, h2]; rfl
theorem Transposed_s (el : Int) (A : Option Addr) (n cap : Nat) (xs : List Nat) (w0 : World) (hn : xs.length = n) (hr : FReads w0 A xs) (hm : n ≤ 1000) (hcp : n ≤ cap) :
    Calls Try.prog 42 #[.agg #[.int .i64 el, .slice A n cap]] w0 fun e w' => ∃ v, e = .returned (.tuple #[.agg #[.int .i64 (trE el xs), v], .int .i64 (mxC el xs).2]) ∧ Below w0.heap.size w0 w' ∧ w'.ownsRow w0.heap.size 36 1 v (trW el xs).length (rowF (trW el xs)) := by
  by_cases h0 : (mxC el xs).2 = 0
  · rw [trE, trW, if_pos h0, if_pos h0, h0]
    obtain ⟨he1, he2, he3⟩ := mxC_0 h0
    have hsq := sq_bd he1
    obtain ⟨ne, rfl⟩ := Int.eq_ofNat_of_zero_le (show 0 ≤ el by omega)
    have hne : n = ne * ne * 64 := by
      have e : ((ne * ne : Nat) : Int) = (ne : Int) * (ne : Int) := Int.natCast_mul _ _
      omega
    obtain ⟨ad, rfl, _⟩ := hr 0 (by omega)
    have hl : (fw (trL (mi xs) (ne : Int).toNat (pairsOf (ne : Int).toNat))).length = ne * ne * 64 := by rw [fw_length, trL_length, pairs_len]; rfl
    rw [hl]
    exact Transposed_ok ne n cap ad xs w0 hn hr hm hcp (by omega) hne h0
  · rw [trE, trW, if_neg h0, if_neg h0]
    exact Transposed_err el A n cap xs w0 hn hr hm h0
theorem Unlike_s (el : Int) (A : Option Addr) (n cap : Nat) (xs : List Nat) (nz : Int) (w0 : World) (hn : xs.length = n) (hr : FReads w0 A xs) (hm : n ≤ 1000) (hcp : n ≤ cap) :
    Calls Try.prog 43 #[.agg #[.int .i64 el, .slice A n cap], .int .i64 nz] w0 fun e w' => ∃ v, e = .returned (.tuple #[v, .int .i64 (unZ el xs nz)]) ∧ Below w0.heap.size w0 w' ∧ w'.ownsRow w0.heap.size 26 2 v (unW el xs nz).length (rowI (flP (unW el xs nz))) := by
  by_cases h0 : (mxC el xs).2 = 0
  · cases hnz : inB nz 0 4094 with
    | true =>
      rw [unZ_y h0 hnz, unW, if_pos ⟨h0, hnz⟩]
      obtain ⟨he1, he2, he3⟩ := mxC_0 h0
      have hsq := sq_bd he1
      obtain ⟨ne, rfl⟩ := Int.eq_ofNat_of_zero_le (show 0 ≤ el by omega)
      have hne : n = ne * ne * 64 := by
        have e : ((ne * ne : Nat) : Int) = (ne : Int) * (ne : Int) := Int.natCast_mul _ _
        omega
      obtain ⟨ad, rfl, _⟩ := hr 0 (by omega)
      exact Unlike_ok ne n cap ad xs nz w0 hn hr hm hcp (by omega) hne h0 hnz
    | false =>
      rw [unZ_r h0 hnz, unW_r hnz]
      obtain ⟨he1, he2, he3⟩ := mxC_0 h0
      have hsq := sq_bd he1
      obtain ⟨ne, rfl⟩ := Int.eq_ofNat_of_zero_le (show 0 ≤ el by omega)
      have hne : n = ne * ne * 64 := by
        have e : ((ne * ne : Nat) : Int) = (ne : Int) * (ne : Int) := Int.natCast_mul _ _
        omega
      obtain ⟨ad, rfl, _⟩ := hr 0 (by omega)
      refine (Unlike_nz ne n cap ad xs nz w0 hn hr hm hcp (by omega) hne h0 hnz).mono ?_
      rintro e w' ⟨rfl, hb⟩
      exact ⟨_, rfl, hb, ownsRow_nil'⟩
  · rw [unZ_n h0, unW_n h0]
    refine (Unlike_err el A n cap xs nz w0 hn hr hm h0).mono ?_
    rintro e w' ⟨rfl, hb⟩
    exact ⟨_, rfl, hb, ownsRow_nil'⟩
/-! Twice -/
theorem trL_at {l : List Int} {n f r : Nat} (hf : f < n) (hr : r < n) : cutN (trL l n (pairsOf n)) ((f * n + r) * 64) 64 = cutN l ((r * n + f) * 64) 64 := by
  obtain ⟨rest, e⟩ := pairs_at hf hr
  have hlt := pair_lt hf hr
  have hl := trL_length l n (pairsOf n)
  rw [pairs_len] at hl
  rw [cutN_take (by omega), e, trL_app, List.drop_append_of_le_length (by rw [trL_length, preP_length]; exact Nat.le_refl _), List.drop_of_length_le (by rw [trL_length, preP_length]; exact Nat.le_refl _), List.nil_append]
  have e2 : trL l n ((f, r) :: rest) = cutN l ((r * n + f) * 64) 64 ++ trL l n rest := by simp [trL]
  rw [e2, List.take_append_of_le_length (by rw [cutN_length]; exact Nat.le_refl _), List.take_of_length_le (by rw [cutN_length]; exact Nat.le_refl _)]
theorem id_take {l : List Int} {n : Nat} (hl : l.length = n * n * 64) : ∀ k, k ≤ n * n → (((pairsOf n).take k).flatMap fun p => cutN l ((p.1 * n + p.2) * 64) 64) = l.take (k * 64) := by
  intro k
  induction k with
  | zero => intro _; simp
  | succ k ih =>
    intro hk
    have hkl : k < (pairsOf n).length := by rw [pairs_len]; omega
    have e : pairsOf n = (pairsOf n).take k ++ (pairsOf n)[k] :: (pairsOf n).drop (k + 1) := by
      rw [← List.drop_eq_getElem_cons hkl, List.take_append_drop]
    obtain ⟨h1, h2, h3⟩ := pairs_next e
    rw [List.length_take, Nat.min_eq_left (by omega)] at h3
    rw [List.take_add_one, List.getElem?_eq_getElem hkl, List.flatMap_append, ih (by omega)]
    simp only [Option.toList_some, List.flatMap_cons, List.flatMap_nil, List.append_nil]
    rw [← h3, take_cutN (by omega), Nat.succ_mul]
theorem mx_nat {el : Int} {xs : List Nat} (h : (mxC el xs).2 = 0) : ∃ n : Nat, el = (n : Int) ∧ (mi xs).length = n * n * 64 ∧ 1 ≤ n ∧ n ≤ 16 ∧ Right xs := by
  obtain ⟨h1, h2, h3⟩ := mxC_0 h
  obtain ⟨n, rfl⟩ := Int.eq_ofNat_of_zero_le (show 0 ≤ el by omega)
  refine ⟨n, rfl, ?_, by omega, by omega, right_of h3⟩
  have e : ((n * n : Nat) : Int) = (n : Int) * (n : Int) := Int.natCast_mul _ _
  rw [mi_length]; omega
theorem trE_ok {el : Int} {xs : List Nat} (h : (mxC el xs).2 = 0) : trE el xs = el := if_pos h
theorem trW_ok {el : Int} {xs : List Nat} (h : (mxC el xs).2 = 0) : (mxC (trE el xs) (trW el xs)).2 = 0 := by
  rw [trE, trW, if_pos h, if_pos h]
  obtain ⟨n, rfl, hl, h1, h2, hR⟩ := mx_nat h
  refine mxC_fw (inB_true.2 ⟨by omega, by omega⟩) ?_ (trL_range (mi_range hR) _ _)
  rw [trL_length, pairs_len]
  simp
end Go.Proofs.Ytcijkniijomcjaa
/-! Strings and bytes in the calculus of single steps: a string is told by the list of its bytes. -/
namespace Go.Proofs.Ytcijkniijomcjaa
open Go.RowKit Go.Cpl
abbrev Bs := List UInt8
/-- A byte of a list, as a number. -/
def nthU (l : Bs) (k : Nat) : Nat := (l.getD k 0).toNat
theorem nthU_lt (l : Bs) (k : Nat) : nthU l k < 256 := (l.getD k 0).toNat_lt
theorem nthU_eq {l : Bs} {k : Nat} (h : k < l.length) : nthU l k = l[k].toNat := by simp [nthU, List.getD_eq_getElem?_getD, List.getElem?_eq_getElem h]
/-- A part of a list of bytes. -/
def subU (l : Bs) (i n : Nat) : Bs := (l.drop i).take n
theorem subU_length {l : Bs} {i n : Nat} (h : i + n ≤ l.length) : (subU l i n).length = n := by simp [subU]; omega
theorem subU_le (l : Bs) (i n : Nat) : (subU l i n).length ≤ n := by simp [subU]; omega
theorem subU_nth {l : Bs} {i n k : Nat} (h : k < n) : nthU (subU l i n) k = nthU l (i + k) := by
  unfold nthU subU
  rw [List.getD_eq_getElem?_getD, List.getElem?_take, if_pos h, List.getElem?_drop, List.getD_eq_getElem?_getD]
theorem subU_sub {l : Bs} {i n j m : Nat} (h : j + m ≤ n) : subU (subU l i n) j m = subU l (i + j) m := by
  unfold subU
  rw [List.drop_take, List.take_take, List.drop_drop, Nat.min_eq_left (by omega)]
/-- Bytes that lie in a block with a mark. -/
def BRd (e : TypeId) (w : World) (ad : Addr) (l : Bs) : Prop := ∃ g cs fz, ad = ⟨g, 0, none⟩ ∧ w.heap[g]? = some (.cells cs e fz) ∧ plainO (.cells cs e fz) = false ∧ ∀ j, j < l.length → cs[j]? = some (.int .u8 (nthU l j))
theorem BRd.cell {e : TypeId} {w : World} {ad : Addr} {l : Bs} (h : BRd e w ad l) {k : Nat} (hk : k < l.length) : w.cell? (ad.add k) = some (.int .u8 (nthU l k)) := by
  obtain ⟨g, cs, fz, rfl, hg, _, hc⟩ := h
  rw [add_zero_off]
  unfold World.cell?
  simp only [hg]
  exact hc k hk
theorem BRd.keep {e : TypeId} {v w : World} {ad : Addr} {l : Bs} (h : BRd e v ad l) (k : KeepsX v w) : BRd e w ad l := by
  obtain ⟨g, cs, fz, rfl, hg, hp, hc⟩ := h
  exact ⟨g, cs, fz, rfl, k.same _ _ hg hp, hp, hc⟩
theorem BRd.round {e : TypeId} {W W' : World} {ad : Addr} {l : Bs} {row : Option Nat} (h : BRd e W ad l) (hg : W.grownBy W' row) (hr : ∀ r, row = some r → ∃ o : Obj, W.heap[r]? = some o ∧ o.isCells = false) : BRd e W' ad l := by
  obtain ⟨g, cs, fz, rfl, hgg, hp, hc⟩ := h
  refine ⟨g, cs, fz, rfl, (hg.block g (Array.getElem?_eq_some_iff.1 hgg).1 fun e' => ?_).trans hgg, hp, hc⟩
  obtain ⟨o, ho, hoc⟩ := hr g e'.symm
  rw [hgg] at ho; cases ho; cases hoc
theorem BRd.below {e : TypeId} {W W' : World} {ad : Addr} {l : Bs} (h : BRd e W ad l) (k : Below W.heap.size W W') : BRd e W' ad l := h.keep (keeps_of_below k (Nat.le_refl _))
section
variable {P : Program} {ops : Array Oper} {Q : Exit → Act → World → Prop} {n : Sz} {a : Act} {w0 : Base} {w : World} {F : Fm} {L Ls : List Bk} {M Ms : List Rw} {rest : List Oper}
theorem size_str (l : Bs) : (ByteArray.mk l.toArray).size = l.length := by simp [ByteArray.size]
/-- len, index and parts of a string. -/
theorem bl_str {t : TypeId} {l : Bs} (h : P.underlying t = some .string) (ty : TypeId) (cs : Array Bool) (w : World) : (builtin .len #[t] ty cs #[.string ⟨l.toArray⟩]).run P w = .ok (.value (.int .i64 (l.length : Int))) w := by
  show (do let x ← Builtin.len_ #[t] ty #[.string ⟨l.toArray⟩]; pure (Next.value x) : Sem Next).run P w = _
  rw [Sem.run_bind, run_len_string w t ty _ h, size_str]; rfl
theorem ix_str {t : TypeId} {l : Bs} {i : Int} (k : Nat) (h : P.underlying t = some .string) (hi : i = (k : Int)) (hk : k < l.length) (w : World) : (Instr.index t (.string ⟨l.toArray⟩) (.int .i64 i)).run P w = .ok (.int .u8 (nthU l k)) w := by
  subst hi
  rw [run_index_string w t _ _ _ h, dif_pos ⟨by omega, by rw [size_str]; omega⟩]
  have e : (ByteArray.mk l.toArray)[((k : Int)).toNat]'(by rw [size_str]; omega) = l[k] := by
    show (l.toArray)[(k : Int).toNat]'_ = l[k]
    simp
  rw [e, nthU_eq hk]
theorem sl_str {t : TypeId} {l : Bs} {i h : Nat} {x y : Int} (ht : P.underlying t = some .string) (h1 : i ≤ h) (h2 : h ≤ l.length) (hx : x = (i : Int)) (hy : y = (h : Int)) (w : World) : (Instr.sliceAt t (.string ⟨l.toArray⟩) (some (.int .i64 x)) (some (.int .i64 y)) none).run P w = .ok (.string ⟨(subU l i (h - i)).toArray⟩) w := by
  subst hx; subst hy
  rw [run_sliceAt_string w t _ _ _ _ ht, run_slice_string w t _ _ _ _ _ ht (by omega) (by omega) (by rw [size_str]; omega), ByteArray.extract_mk]
  simp [subU]
theorem sl_str_n {t : TypeId} {l : Bs} {i h k : Nat} {x y : Int} (ht : P.underlying t = some .string) (h1 : i ≤ h) (hk : k = h - i) (h2 : h ≤ l.length) (hx : x = (i : Int)) (hy : y = (h : Int)) (w : World) : (Instr.sliceAt t (.string ⟨l.toArray⟩) (some (.int .i64 x)) (some (.int .i64 y)) none).run P w = .ok (.string ⟨(subU l i k).toArray⟩) w := by
  subst hk; exact sl_str ht h1 h2 hx hy w
theorem sl_strL_n {t : TypeId} {l : Bs} {i k : Nat} {x : Int} (ht : P.underlying t = some .string) (h1 : i ≤ l.length) (hk : k = l.length - i) (hx : x = (i : Int)) (w : World) : (Instr.sliceAt t (.string ⟨l.toArray⟩) (some (.int .i64 x)) none none).run P w = .ok (.string ⟨(subU l i k).toArray⟩) w := by
  subst hk; subst hx
  rw [run_sliceAt_string w t _ _ _ _ ht, run_slice_string_l w t _ ht _ _ (by omega) (by rw [size_str]; omega), ByteArray.extract_mk, size_str]
  simp [subU]
theorem sl_strH {t : TypeId} {l : Bs} {h : Nat} {y : Int} (ht : P.underlying t = some .string) (h2 : h ≤ l.length) (hy : y = (h : Int)) (w : World) : (Instr.sliceAt t (.string ⟨l.toArray⟩) none (some (.int .i64 y)) none).run P w = .ok (.string ⟨(subU l 0 h).toArray⟩) w := by
  subst hy
  rw [run_sliceAt_string w t _ _ _ _ ht, run_slice_string_h w t _ ht _ _ (by omega) (by rw [size_str]; omega), ByteArray.extract_mk]
  simp [subU]
/-- A part of a part. -/
theorem sl_sub_n {t : TypeId} {l : Bs} {b n i h j k : Nat} {x y : Int} (ht : P.underlying t = some .string) (hn : b + n ≤ l.length) (h1 : i ≤ h) (h2 : h ≤ n) (hj : j = b + i) (hk : k = h - i) (hx : x = (i : Int)) (hy : y = (h : Int)) (w : World) : (Instr.sliceAt t (.string ⟨(subU l b n).toArray⟩) (some (.int .i64 x)) (some (.int .i64 y)) none).run P w = .ok (.string ⟨(subU l j k).toArray⟩) w := by
  have hl := subU_length hn
  rw [sl_str_n ht h1 hk (by omega) hx hy, subU_sub (by omega), hj]
theorem sl_subL_n {t : TypeId} {l : Bs} {b n i j k : Nat} {x : Int} (ht : P.underlying t = some .string) (hn : b + n ≤ l.length) (h1 : i ≤ n) (hj : j = b + i) (hk : k = n - i) (hx : x = (i : Int)) (w : World) : (Instr.sliceAt t (.string ⟨(subU l b n).toArray⟩) (some (.int .i64 x)) none none).run P w = .ok (.string ⟨(subU l j k).toArray⟩) w := by
  have hl := subU_length hn
  rw [sl_strL_n ht (by omega) (k := k) (by omega) hx, subU_sub (by omega), hj]
theorem q_str {t : TypeId} {l m : Bs} (w : World) : (binOp .eql t (.string ⟨l.toArray⟩) (.string ⟨m.toArray⟩)).run P w = .ok (.bool (decide (l = m))) w := by
  rw [binOp_string_eql, ByteArray.toList_mk, ByteArray.toList_mk]
  show Result.ok (Value.bool (l == m)) w = _
  congr 2
  by_cases e : l = m <;> simp [e]
/-- Shifts and bits of numbers that are small. -/
theorem b_shl8 {t : TypeId} {x : Int} (h : 0 ≤ x ∧ x ≤ 1000000000000) (w : World) : (binOp .shl t (.int .i64 x) (.int .u64 8)).run P w = .ok (.int .i64 (x * 256)) w := by
  show (Op.shift .shl .i64 x .u64 8).run P w = _
  rw [shift_shl_any _ _ _ _ (by decide)]
  show Result.ok (Value.int .i64 (IntKind.i64.wrap (x * 2 ^ 8))) w = _
  rw [IntWalk.i64_in _ (by omega)]; rfl
theorem or_byte (a b : Nat) (h : b < 256) : a * 256 ||| b = a * 256 + b := by
  have := Nat.shiftLeft_add_eq_or_of_lt (b := b) (i := 8) h a
  rw [Nat.shiftLeft_eq] at this
  exact this.symm
theorem b_or8 {t : TypeId} {x : Int} {c : Nat} (h : 0 ≤ x ∧ x ≤ 1000000000000) (hc : c < 256) (w : World) : (binOp .or t (.int .i64 (x * 256)) (.int .i64 (c : Int))).run P w = .ok (.int .i64 (x * 256 + (c : Int))) w := by
  obtain ⟨a, rfl⟩ := Int.eq_ofNat_of_zero_le h.1
  show Result.ok (Value.int .i64 (IntKind.i64.wrap ((BitVec.ofInt 64 ((a : Int) * 256) ||| BitVec.ofInt 64 (c : Int)).toNat : Int))) w = _
  have h1 : (BitVec.ofInt 64 ((a : Int) * 256)).toNat = a * 256 := by
    rw [show (a : Int) * 256 = ((a * 256 : Nat) : Int) by simp, BitVec.ofInt_natCast, BitVec.toNat_ofNat]; exact Nat.mod_eq_of_lt (by omega)
  have h2 : (BitVec.ofInt 64 (c : Int)).toNat = c := by
    rw [BitVec.ofInt_natCast, BitVec.toNat_ofNat]; exact Nat.mod_eq_of_lt (by omega)
  rw [BitVec.toNat_or, h1, h2, or_byte _ _ hc, IntWalk.i64_in _ (by omega)]
  simp
/-- Numbers of other sizes. -/
def w16 (x : Int) : Int := IntKind.i16.wrap x
def w32 (x : Int) : Int := IntKind.i32.wrap x
/-- A string's bytes in new memory. -/
theorem s_bytesOf {d : Nat} {src dst ty e : TypeId} {x : Operand} {pos : String} {aft : Array Edge} {l : Bs} (hA : Fr n a F) (hS : St w0 L M w) (hx : evO F x = some (.string ⟨l.toArray⟩)) (hs : P.underlying src = some .string) (hd : P.underlying dst = some (.slice e)) (he : P.underlying e = some (.int .u8)) (hdn : Nat.blt d n = true)
    (k : ∀ (w' : World) (ad : Addr) (cap : Nat) (a' : Act), l.length ≤ cap → BRd e w' ad l → Fr n a' ((d, .slice (some ad) l.length cap) :: F) → KeepsX w0.v w' → St ⟨w0.w, w'⟩ L M w' → wpList P ops Q rest a' w') : wpList P ops Q (⟨some d, .convert src dst x, ty, pos, aft, none⟩ :: rest) a w := by
  refine wpList_plain rfl fun K hK => ?_
  have hrun := run_bytes_of_string (P := P) w src dst e ⟨l.toArray⟩ hs hd he
  have hcap := grownCap_ge w (ByteArray.mk l.toArray).size 0 e
  rw [size_str] at hcap hrun
  generalize grownCap w l.length 0 e = c at hcap hrun
  generalize hz : (bytesRow ⟨l.toArray⟩ c) = cs at hrun
  generalize hw' : w.drew.alloc (.cells cs e (cs.size, cs.size + 1)) = w' at hrun
  have hb : Below w.heap.size w w' := by rw [← hw']; exact (Below.drew (Below.refl _ _)).alloc (Nat.le_refl _) _
  have hbr : BRd e w' ⟨w.heap.size, 0, none⟩ l := by
    refine ⟨w.heap.size, cs, _, rfl, by rw [← hw']; exact World.alloc_heap_new w.drew _, by simp [plainO], fun j hj => ?_⟩
    rw [← hz, bytesRow_at _ _ _ (by simpa using hj), nthU_eq hj]
    simp
  have hS' := hS.kept hb
  unfold Oper.wp execOp
  simp only [Sem.run_bind, Sem.run_pure, Result.andThen_ok, hA.ev hx, hrun]
  exact hK _ _ (k w' ⟨w.heap.size, 0, none⟩ c _ hcap hbr (hA.put (blt_lt hdn) _) hS'.others (hS'.since (KeepsX.refl _)))
/-- A byte, and a string of bytes. -/
theorem g_loadXB {ty e : TypeId} {x : Operand} {ad : Addr} {l : Bs} {k : Nat} (hx : evO F x = some (.pointer (some (ad.add k)))) (hr : BRd e w0.v ad l) (hk : k < l.length) (hs : scalar P ty = true) : Gives P F w0 L M (.load ty x) (.int .u8 (nthU l k)) := fun _ _ w hA hS _ _ _ _ _ => by
  have h1 := (hr.keep hS.others).cell hk
  have hi : (isAgg ty).run P w = .ok false w := by
    unfold scalar at hs
    unfold isAgg
    cases hu : P.underlying ty with
    | none => rw [hu] at hs; cases hs
    | some d => rw [hu] at hs; rw [Sem.run_bind, run_underlying hu]; cases d <;> first | rfl | cases hs
  have hl : (loadVar ty (ad.add k)).run P w = .ok (.int .u8 (nthU l k)) w := by
    unfold loadVar
    rw [Sem.run_bind, hi]
    simp only [Result.andThen_ok]
    rw [if_neg (by decide), run_load, h1]
  simp only [execOp, hA.ev hx, Instr.loadAt, Instr.sureAddr, Sem.run_bind, Sem.run_pure, Result.andThen_ok, hl]
theorem g_strOf {src dst e : TypeId} {x : Operand} {ad : Addr} {l : Bs} {i k c : Nat} (hx : evO F x = some (.slice (some (ad.add i)) k c)) (hr : BRd e w0.v ad l) (hk : i + k ≤ l.length) (hs : P.underlying src = some (.slice e)) (he : P.underlying e = some (.int .u8)) (hd : P.underlying dst = some .string) : Gives P F w0 L M (.convert src dst x) (.string ⟨(subU l i k).toArray⟩) := fun _ _ w hA hS _ _ _ _ _ => by
  have hlen := subU_length hk
  have := run_convert_bytes_back (P := P) w src dst e (ad.add i) c (subU l i k) hs he hd (fun j hj => by
    rw [hlen] at hj
    rw [Addr.add_add, (hr.keep hS.others).cell (by omega), ← nthU_eq (by rw [hlen]; exact hj), subU_nth hj])
  rw [hlen] at this
  simp [execOp, hA.ev hx, this]
theorem ix_by {t e : TypeId} {bytes : Nat} {ad : Addr} {m c : Nat} {i : Int} (k : Nat) (he : elemInfo P t = some (e, 1, bytes)) (hi : i = (k : Int)) (hk : k < m) (w : World) : (Instr.indexAt t (.slice (some ad) m c) (.int .i64 i)).run P w = .ok (.pointer (some (ad.add k))) w := ix_x k he hi hk w
end
theorem conv_u8 {P : Program} {t t' : TypeId} {x : Int} (h : P.underlying t = some (.int .u8)) (h' : P.underlying t' = some (.int .i64)) (hx : 0 ≤ x ∧ x < 256) (w : World) : (convert t t' (.int .u8 x)).run P w = .ok (.int .i64 x) w := by
  have : (convert t t' (.int .u8 x)).run P w = .ok (.int .i64 (IntKind.i64.wrap x)) w := by simp [convert, run_underlying h, run_underlying h', Conv.intToInt]
  rw [this, IntWalk.i64_in _ (by omega)]
theorem w16_mod (x : Int) : w16 x = (x + 32768) % 65536 - 32768 := by
  simp [w16, IntKind.wrap, IntKind.bits, IntKind.signed]
  split <;> omega
theorem w32_mod (x : Int) : w32 x = (x + 2147483648) % 4294967296 - 2147483648 := by
  simp [w32, IntKind.wrap, IntKind.bits, IntKind.signed]
  split <;> omega
theorem w16_range (x : Int) : -32768 ≤ w16 x ∧ w16 x < 32768 := by rw [w16_mod]; omega
theorem w32_range (x : Int) : -2147483648 ≤ w32 x ∧ w32 x < 2147483648 := by rw [w32_mod]; omega
theorem conv_w16 {P : Program} {t t' : TypeId} {x : Int} (h : P.underlying t = some (.int .i16)) (h' : P.underlying t' = some (.int .i64)) (w : World) : (convert t t' (.int .i16 (w16 x))).run P w = .ok (.int .i64 (w16 x)) w := by
  have : (convert t t' (.int .i16 (w16 x))).run P w = .ok (.int .i64 (IntKind.i64.wrap (w16 x))) w := by simp [convert, run_underlying h, run_underlying h', Conv.intToInt]
  have := w16_range x
  rw [‹(convert t t' (.int .i16 (w16 x))).run P w = _›, IntWalk.i64_in _ (by omega)]
theorem conv_w32 {P : Program} {t t' : TypeId} {x : Int} (h : P.underlying t = some (.int .i32)) (h' : P.underlying t' = some (.int .i64)) (w : World) : (convert t t' (.int .i32 (w32 x))).run P w = .ok (.int .i64 (w32 x)) w := by
  have : (convert t t' (.int .i32 (w32 x))).run P w = .ok (.int .i64 (IntKind.i64.wrap (w32 x))) w := by simp [convert, run_underlying h, run_underlying h', Conv.intToInt]
  have := w32_range x
  rw [‹(convert t t' (.int .i32 (w32 x))).run P w = _›, IntWalk.i64_in _ (by omega)]
end Go.Proofs.Ytcijkniijomcjaa
namespace Go.Proofs.Ytcijkniijomcjaa
open Go.RowKit Go.Cpl
/-- The check of bytes. -/
def ckU (l : Bs) : Nat → Int
  | 0 => 1
  | k + 1 => (257 * ckU l k + (nthU l k : Int) + 1).tmod 65521
theorem ckU_range (l : Bs) (k : Nat) : 0 ≤ ckU l k ∧ ckU l k < 65521 := by
  induction k with
  | zero => exact ⟨by simp [ckU], by simp [ckU]⟩
  | succ k ih =>
    unfold ckU
    rw [Int.tmod_eq_emod_of_nonneg (by omega)]
    omega
/-- A number in bytes, the greatest ones first. -/
def whI (l : Bs) (i : Nat) : Nat → Int
  | 0 => 0
  | k + 1 => whI l i k * 256 + (nthU l (i + k) : Int)
theorem whI_range (l : Bs) (i : Nat) : ∀ k, k ≤ 4 → 0 ≤ whI l i k ∧ whI l i k < 256 ^ k := by
  intro k
  induction k with
  | zero => intro _; exact ⟨by simp [whI], by simp [whI]⟩
  | succ k ih =>
    intro hk
    have h := ih (by omega)
    have hb := nthU_lt l (i + k)
    have e : (256 : Int) ^ (k + 1) = 256 ^ k * 256 := rfl
    unfold whI
    rw [e]; omega
theorem whI_bd (l : Bs) (i k : Nat) (hk : k ≤ 4) : 0 ≤ whI l i k ∧ whI l i k < 4294967296 := by
  have h := whI_range l i k hk
  have : (256 : Int) ^ k ≤ 4294967296 := by
    rcases (by omega : k = 0 ∨ k = 1 ∨ k = 2 ∨ k = 3 ∨ k = 4) with rfl | rfl | rfl | rfl | rfl <;> decide
  omega
theorem whI_sub {l : Bs} {i n j k : Nat} (h : j + k ≤ n) : whI (subU l i n) j k = whI l (i + j) k := by
  induction k with
  | zero => rfl
  | succ k ih =>
    unfold whI
    rw [ih (by omega), subU_nth (by omega), Nat.add_assoc]
set_option maxRecDepth 100000 in
set_option maxHeartbeats 400000 in
theorem check_s (l : List UInt8) (w0 : World) (hl : l.length ≤ 1000000) :
    Calls Try.prog 79 #[.string ⟨l.toArray⟩] w0 fun e w' => e = .returned (.int .i64 (ckU l l.length)) ∧ Below w0.heap.size w0 w' := by
  have S0 := St.start w0
  refine enter (n := 21) Try.func79 rfl rfl rfl (fun ac A0 => ?_)
  refine wp_seq ?_
  refine wp_region_lit ?_
  refine s_one (.int .i64 0) A0 S0 (g_assign (by kernel_rfl)) rfl (fun ac A1 => ?_)
  refine wpList_nil ?_
  refine n_then ?_
  refine wp_seq ?_
  refine wp_region_lit ?_
  refine s_one (.int .i64 1) A1 S0 (g_assign (by kernel_rfl)) rfl (fun ac A2 => ?_)
  refine wpList_nil ?_
  refine n_then ?_
  refine wp_seq ?_
  refine wp_seq ?_
  refine wp_region_lit ?_
  refine s_one (.string ⟨l.toArray⟩) A2 S0 (g_move (by kernel_rfl)) rfl (fun ac A3 => ?_)
  refine s_one (.int .i64 (l.length : Int)) A3 S0 (g_built (r := [(0, .string ⟨l.toArray⟩)]) (by kernel_rfl) (fun ty cs w => bl_str (l := l) Try.underlying9 ty cs w)) rfl (fun ac A4 => ?_)
  refine s_one (.int .i64 0) A4 S0 (g_move (by kernel_rfl)) rfl (fun ac A5 => ?_)
  refine wpList_nil ?_
  refine n_then ?_
  refine wp_block ?_
  refine c_loopN (fun mm ac wc => ∃ (k : Nat), mm = l.length - k ∧ (k ≤ l.length) ∧ Fr 21 ac [(0, .string ⟨l.toArray⟩), (2, .int .i64 0), (5, .string ⟨l.toArray⟩), (6, .int .i64 (l.length : Int)), (7, .int .i64 (k : Int)), (3, .int .i64 (ckU l k))] ∧ St w0 [] [] wc) _ ⟨0, rfl, Nat.zero_le _, (A5.slot (A5.slot (A5.slot (A5.slot (A5.slot (A5.slot A5.nil (v := .int .i64 1) (by kernel_rfl) rfl) (v := .int .i64 0) (by kernel_rfl) (congrArg (Value.int .i64) (by omega))) (v := .int .i64 (l.length : Int)) (by kernel_rfl) rfl) (v := .string ⟨l.toArray⟩) (by kernel_rfl) rfl) (v := .int .i64 0) (by kernel_rfl) rfl) (v := .string ⟨l.toArray⟩) (by kernel_rfl) rfl), S0.sub sub_all sub_all⟩ ?_
  rintro mm ac wc ⟨k, hm8, hk, A6, S7⟩
  have hr := ckU_range l k
  have hu := nthU_lt l k
  refine wp_seq ?_
  refine wp_region_lit ?_
  refine s_one (.bool (decide ((k : Int) < (l.length : Int)))) A6 S7 (g_bin (u := .int .i64 (k : Int)) (k := .int .i64 (l.length : Int)) (by kernel_rfl) (by kernel_rfl) (fun _ => by kernel_rfl) (fun _ => by kernel_rfl)) rfl (fun ac A9 => ?_)
  refine wpList_nil ?_
  refine n_then ?_
  refine wp_seq ?_
  refine c_ifb (b := (decide ((k : Int) < (l.length : Int)))) A9 (by kernel_rfl) (fun h10 => ?_) (fun h10 => ?_)
  · have p11 := of_decide_eq_true h10
    refine wp_skip ?_
    refine n_then ?_
    refine wp_seq ?_
    refine wp_block ?_
    refine wp_seq ?_
    refine wp_region_lit ?_
    refine s_one (.int .i64 (k : Int)) A9 S7 (g_move (by kernel_rfl)) rfl (fun ac A12 => ?_)
    refine s_one (.int .i64 (k : Int)) A12 S7 (g_assign (by kernel_rfl)) rfl (fun ac A13 => ?_)
    refine wpList_nil ?_
    refine n_then ?_
    refine wp_region_lit ?_
    refine s_one (.int .i64 (ckU l k)) A13 S7 (g_move (by kernel_rfl)) rfl (fun ac A14 => ?_)
    refine s_one (.int .i64 (257 * (ckU l k))) A14 S7 (g_bin (u := .int .i64 257) (k := .int .i64 (ckU l k)) (by kernel_rfl) (by kernel_rfl) (fun _ => by kernel_rfl) (b_mul (by omega))) rfl (fun ac A15 => ?_)
    refine s_one (.string ⟨l.toArray⟩) A15 S7 (g_move (by kernel_rfl)) rfl (fun ac A16 => ?_)
    refine s_one (.int .i64 (k : Int)) A16 S7 (g_move (by kernel_rfl)) rfl (fun ac A17 => ?_)
    refine s_one (.int .u8 (nthU l k : Int)) A17 S7 (g_indexv (u := .string ⟨l.toArray⟩) (k := .int .i64 (k : Int)) (by kernel_rfl) (by kernel_rfl) (ix_str (l := l) k Try.underlying9 (by omega) (by omega))) rfl (fun ac A18 => ?_)
    refine s_one (.int .i64 (nthU l k : Int)) A18 S7 (g_conv (u := .int .u8 (nthU l k : Int)) (by kernel_rfl) (conv_u8 Try.underlying5 Try.underlying3 ⟨by omega, by have h9 := nthU_lt l k; omega⟩)) rfl (fun ac A19 => ?_)
    refine s_one (.int .i64 (257 * (ckU l k) + (nthU l k : Int))) A19 S7 (g_bin (u := .int .i64 (257 * (ckU l k))) (k := .int .i64 (nthU l k : Int)) (by kernel_rfl) (by kernel_rfl) (fun _ => by kernel_rfl) (b_add (by omega))) rfl (fun ac A20 => ?_)
    refine s_one (.int .i64 (257 * (ckU l k) + (nthU l k : Int) + 1)) A20 S7 (g_bin (u := .int .i64 (257 * (ckU l k) + (nthU l k : Int))) (k := .int .i64 1) (by kernel_rfl) (by kernel_rfl) (fun _ => by kernel_rfl) (b_add (by omega))) rfl (fun ac A21 => ?_)
    refine s_one (.int .i64 ((257 * (ckU l k) + (nthU l k : Int) + 1).tmod 65521)) A21 S7 (g_bin (u := .int .i64 (257 * (ckU l k) + (nthU l k : Int) + 1)) (k := .int .i64 65521) (by kernel_rfl) (by kernel_rfl) (fun _ => by kernel_rfl) (b_rem (by omega))) rfl (fun ac A22 => ?_)
    refine s_one (.int .i64 ((257 * (ckU l k) + (nthU l k : Int) + 1).tmod 65521)) A22 S7 (g_assign (by kernel_rfl)) rfl (fun ac A23 => ?_)
    refine wpList_nil ?_
    refine n_block ?_
    refine n_then ?_
    refine wp_region_lit ?_
    refine s_one (.int .i64 ((k : Int) + 1)) A23 S7 (g_bin (u := .int .i64 (k : Int)) (k := .int .i64 1) (by kernel_rfl) (by kernel_rfl) (fun _ => by kernel_rfl) (b_add (by omega))) rfl (fun ac A24 => ?_)
    refine s_one (.int .i64 ((k : Int) + 1)) A24 S7 (g_move (by kernel_rfl)) rfl (fun ac A25 => ?_)
    refine wpList_nil ?_
    refine n_then ?_
    refine ⟨_, ⟨k + 1, rfl, by omega, (A25.slot (A25.slot (A25.slot (A25.slot (A25.slot (A25.slot A25.nil (v := .int .i64 ((257 * (ckU l k) + (nthU l k : Int) + 1).tmod 65521)) (by kernel_rfl) rfl) (v := .int .i64 ((k : Int) + 1)) (by kernel_rfl) (congrArg (Value.int .i64) (by omega))) (v := .int .i64 (l.length : Int)) (by kernel_rfl) rfl) (v := .string ⟨l.toArray⟩) (by kernel_rfl) rfl) (v := .int .i64 0) (by kernel_rfl) rfl) (v := .string ⟨l.toArray⟩) (by kernel_rfl) rfl), S7.sub sub_all sub_all⟩, ?_⟩
    omega
  · have p26 := of_decide_eq_false h10
    refine wp_exit ?_
    refine x_then ?_
    refine x_then ?_
    refine x_hit ?_
    refine n_then ?_
    refine wp_seq ?_
    refine wp_region_lit ?_
    refine s_one (.int .i64 (ckU l k)) A9 S7 (g_move (by kernel_rfl)) rfl (fun ac A27 => ?_)
    refine s_one (.int .i64 (ckU l k)) A27 S7 (g_assign (by kernel_rfl)) rfl (fun ac A28 => ?_)
    refine wpList_nil ?_
    refine n_then ?_
    refine wp_ret ?_
    refine fin1 (.int .i64 (ckU l k)) Try.results79 A28 S7 (rv_tmp (by kernel_rfl)) ⟨?_, S7.kp⟩
    obtain rfl : k = l.length := by omega
    rfl
set_option maxRecDepth 100000 in
set_option maxHeartbeats 400000 in
theorem whole_s (l : List UInt8) (w0 : World) (hl : l.length ≤ 4) :
    Calls Try.prog 80 #[.string ⟨l.toArray⟩] w0 fun e w' => e = .returned (.int .i64 (whI l 0 l.length)) ∧ Below w0.heap.size w0 w' := by
  have S0 := St.start w0
  refine enter (n := 20) Try.func80 rfl rfl rfl (fun ac A0 => ?_)
  refine wp_seq ?_
  refine wp_region_lit ?_
  refine s_one (.int .i64 0) A0 S0 (g_assign (by kernel_rfl)) rfl (fun ac A1 => ?_)
  refine wpList_nil ?_
  refine n_then ?_
  refine wp_seq ?_
  refine wp_region_lit ?_
  refine s_one (.int .i64 0) A1 S0 (g_assign (by kernel_rfl)) rfl (fun ac A2 => ?_)
  refine wpList_nil ?_
  refine n_then ?_
  refine wp_seq ?_
  refine wp_seq ?_
  refine wp_region_lit ?_
  refine s_one (.string ⟨l.toArray⟩) A2 S0 (g_move (by kernel_rfl)) rfl (fun ac A3 => ?_)
  refine s_bytesOf (l := l) A3 S0 (by kernel_rfl) Try.underlying9 Try.underlying144 Try.underlying5 rfl (fun wz4 ad5 cap6 ac hc8 hz9 A7 hkx10 S11 => ?_)
  refine s_one (.int .i64 (l.length : Int)) A7 S11 (g_built (r := [(0, .slice (some ad5) l.length cap6)]) (by kernel_rfl) (fun _ _ _ => by kernel_rfl)) rfl (fun ac A12 => ?_)
  refine s_one (.int .i64 0) A12 S11 (g_move (by kernel_rfl)) rfl (fun ac A13 => ?_)
  refine wpList_nil ?_
  refine n_then ?_
  refine wp_block ?_
  refine c_loopN (fun mm ac wc => ∃ (k : Nat), mm = l.length - k ∧ (k ≤ l.length) ∧ Fr 20 ac [(0, .string ⟨l.toArray⟩), (2, .int .i64 0), (6, .string ⟨l.toArray⟩), (7, .slice (some ad5) l.length cap6), (8, .int .i64 (l.length : Int)), (9, .int .i64 (k : Int)), (3, .int .i64 (whI l 0 k))] ∧ St ⟨w0, wz4⟩ [] [] wc) _ ⟨0, rfl, Nat.zero_le _, (A13.slot (A13.slot (A13.slot (A13.slot (A13.slot (A13.slot (A13.slot A13.nil (v := .int .i64 0) (by kernel_rfl) rfl) (v := .int .i64 0) (by kernel_rfl) (congrArg (Value.int .i64) (by omega))) (v := .int .i64 (l.length : Int)) (by kernel_rfl) rfl) (v := .slice (some ad5) l.length cap6) (by kernel_rfl) rfl) (v := .string ⟨l.toArray⟩) (by kernel_rfl) rfl) (v := .int .i64 0) (by kernel_rfl) rfl) (v := .string ⟨l.toArray⟩) (by kernel_rfl) rfl), S11.sub sub_all sub_all⟩ ?_
  rintro mm ac wc ⟨k, hm16, hk, A14, S15⟩
  have hr := whI_bd l 0 k (by omega)
  have hu := nthU_lt l k
  refine wp_seq ?_
  refine wp_region_lit ?_
  refine s_one (.bool (decide ((k : Int) < (l.length : Int)))) A14 S15 (g_bin (u := .int .i64 (k : Int)) (k := .int .i64 (l.length : Int)) (by kernel_rfl) (by kernel_rfl) (fun _ => by kernel_rfl) (fun _ => by kernel_rfl)) rfl (fun ac A17 => ?_)
  refine wpList_nil ?_
  refine n_then ?_
  refine wp_seq ?_
  refine c_ifb (b := (decide ((k : Int) < (l.length : Int)))) A17 (by kernel_rfl) (fun h18 => ?_) (fun h18 => ?_)
  · have p19 := of_decide_eq_true h18
    refine wp_skip ?_
    refine n_then ?_
    refine wp_seq ?_
    refine wp_block ?_
    refine wp_seq ?_
    refine wp_region_lit ?_
    refine s_one (.pointer (some (ad5.add k))) A17 S15 (g_index (u := .slice (some ad5) l.length cap6) (k := .int .i64 (k : Int)) (by kernel_rfl) (by kernel_rfl) (ix_by (e := 5) (bytes := 1) k (by kernel_rfl) (by omega) (by omega))) rfl (fun ac A20 => ?_)
    refine s_one (.int .u8 (nthU l k : Int)) A20 S15 (g_loadXB (l := l) (k := k) (by kernel_rfl) hz9 (by omega) (by kernel_rfl)) rfl (fun ac A21 => ?_)
    refine s_one (.int .u8 (nthU l k : Int)) A21 S15 (g_assign (by kernel_rfl)) rfl (fun ac A22 => ?_)
    refine wpList_nil ?_
    refine n_then ?_
    refine wp_region_lit ?_
    refine s_one (.int .i64 (whI l 0 k)) A22 S15 (g_move (by kernel_rfl)) rfl (fun ac A23 => ?_)
    refine s_one (.int .i64 ((whI l 0 k) * 256)) A23 S15 (g_bin (u := .int .i64 (whI l 0 k)) (k := .int .u64 8) (by kernel_rfl) (by kernel_rfl) (fun _ => by kernel_rfl) (b_shl8 (by omega))) rfl (fun ac A24 => ?_)
    refine s_one (.int .u8 (nthU l k : Int)) A24 S15 (g_move (by kernel_rfl)) rfl (fun ac A25 => ?_)
    refine s_one (.int .i64 (nthU l k : Int)) A25 S15 (g_conv (u := .int .u8 (nthU l k : Int)) (by kernel_rfl) (conv_u8 Try.underlying5 Try.underlying3 ⟨by omega, by have h9 := nthU_lt l k; omega⟩)) rfl (fun ac A26 => ?_)
    refine s_one (.int .i64 ((whI l 0 k) * 256 + (nthU l k : Int))) A26 S15 (g_bin (u := .int .i64 ((whI l 0 k) * 256)) (k := .int .i64 (nthU l k : Int)) (by kernel_rfl) (by kernel_rfl) (fun _ => by kernel_rfl) (b_or8 (c := nthU l k) (by omega) (nthU_lt _ _))) rfl (fun ac A27 => ?_)
    refine s_one (.int .i64 ((whI l 0 k) * 256 + (nthU l k : Int))) A27 S15 (g_assign (by kernel_rfl)) rfl (fun ac A28 => ?_)
    refine wpList_nil ?_
    refine n_block ?_
    refine n_then ?_
    refine wp_region_lit ?_
    refine s_one (.int .i64 ((k : Int) + 1)) A28 S15 (g_bin (u := .int .i64 (k : Int)) (k := .int .i64 1) (by kernel_rfl) (by kernel_rfl) (fun _ => by kernel_rfl) (b_add (by omega))) rfl (fun ac A29 => ?_)
    refine s_one (.int .i64 ((k : Int) + 1)) A29 S15 (g_move (by kernel_rfl)) rfl (fun ac A30 => ?_)
    refine wpList_nil ?_
    refine n_then ?_
    refine ⟨_, ⟨k + 1, rfl, by omega, (A30.slot (A30.slot (A30.slot (A30.slot (A30.slot (A30.slot (A30.slot A30.nil (v := .int .i64 ((whI l 0 k) * 256 + (nthU l k : Int))) (by kernel_rfl) (congrArg (Value.int .i64) (by simp only [whI, Nat.zero_add]))) (v := .int .i64 ((k : Int) + 1)) (by kernel_rfl) (congrArg (Value.int .i64) (by omega))) (v := .int .i64 (l.length : Int)) (by kernel_rfl) rfl) (v := .slice (some ad5) l.length cap6) (by kernel_rfl) rfl) (v := .string ⟨l.toArray⟩) (by kernel_rfl) rfl) (v := .int .i64 0) (by kernel_rfl) rfl) (v := .string ⟨l.toArray⟩) (by kernel_rfl) rfl), S15.sub sub_all sub_all⟩, ?_⟩
    omega
  · have p31 := of_decide_eq_false h18
    refine wp_exit ?_
    refine x_then ?_
    refine x_then ?_
    refine x_hit ?_
    refine n_then ?_
    refine wp_seq ?_
    refine wp_region_lit ?_
    refine s_one (.int .i64 (whI l 0 k)) A17 S15 (g_move (by kernel_rfl)) rfl (fun ac A32 => ?_)
    refine s_one (.int .i64 (whI l 0 k)) A32 S15 (g_assign (by kernel_rfl)) rfl (fun ac A33 => ?_)
    refine wpList_nil ?_
    refine n_then ?_
    refine wp_ret ?_
    refine fin1 (.int .i64 (whI l 0 k)) Try.results80 A33 S15 (rv_tmp (by kernel_rfl)) ⟨?_, S15.kp⟩
    obtain rfl : k = l.length := by omega
    rfl
theorem whole_at (l : Bs) (i n : Nat) (w : World) (hn : n ≤ 4) (h : i + n ≤ l.length) : Calls Try.prog 80 #[.string ⟨(subU l i n).toArray⟩] w fun e w' => e = .returned (.int .i64 (whI l i n)) ∧ Below w.heap.size w w' := by
  have hl := subU_length h
  have := whole_s (subU l i n) w (by omega)
  rw [hl, whI_sub (by omega), Nat.add_zero] at this
  exact this
set_option maxRecDepth 100000 in
set_option maxHeartbeats 400000 in
theorem hasPrefix0_s (l : List UInt8) (w0 : World) (h2 : 8 ≤ l.length) :
    Calls Try.prog 107 #[.string ⟨l.toArray⟩, .string ⟨([67, 80] : List UInt8).toArray⟩] w0 fun e w' => e = .returned (.bool (decide (subU l 0 2 = [67, 80]))) ∧ Below w0.heap.size w0 w' := by
  have S0 := St.start w0
  refine enter (n := 18) Try.func107 rfl rfl rfl (fun ac A0 => ?_)
  refine wp_seq ?_
  refine wp_region_lit ?_
  refine s_one (.bool false) A0 S0 (g_assign (by kernel_rfl)) rfl (fun ac A1 => ?_)
  refine wpList_nil ?_
  refine n_then ?_
  refine wp_seq ?_
  refine wp_region_lit ?_
  refine s_one (.string ⟨l.toArray⟩) A1 S0 (g_move (by kernel_rfl)) rfl (fun ac A2 => ?_)
  refine s_one (.int .i64 (l.length : Int)) A2 S0 (g_built (r := [(0, .string ⟨l.toArray⟩)]) (by kernel_rfl) (fun ty cs w => bl_str (l := l) Try.underlying9 ty cs w)) rfl (fun ac A3 => ?_)
  refine s_one (.string ⟨([67, 80] : List UInt8).toArray⟩) A3 S0 (g_move (by kernel_rfl)) rfl (fun ac A4 => ?_)
  refine s_one (.int .i64 2) A4 S0 (g_built (r := [(0, .string ⟨([67, 80] : List UInt8).toArray⟩)]) (by kernel_rfl) (fun ty cs w => bl_str (l := ([67, 80] : List UInt8)) Try.underlying9 ty cs w)) rfl (fun ac A5 => ?_)
  refine s_one (.bool (decide ((l.length : Int) ≥ 2))) A5 S0 (g_bin (u := .int .i64 (l.length : Int)) (k := .int .i64 2) (by kernel_rfl) (by kernel_rfl) (fun _ => by kernel_rfl) (fun _ => by kernel_rfl)) rfl (fun ac A6 => ?_)
  refine s_one (.bool (decide ((l.length : Int) ≥ 2))) A6 S0 (g_move (by kernel_rfl)) rfl (fun ac A7 => ?_)
  refine s_want (dj := 10) (b := (decide ((l.length : Int) ≥ 2))) A7 (by kernel_rfl) (by kernel_rfl) (decide_eq_true (by omega)) ?_
  refine s_one (.string ⟨l.toArray⟩) A7 S0 (g_move (by kernel_rfl)) rfl (fun ac A8 => ?_)
  refine s_want (dj := 10) (b := (decide ((l.length : Int) ≥ 2))) A8 (by kernel_rfl) (by kernel_rfl) (decide_eq_true (by omega)) ?_
  refine s_one (.string ⟨([67, 80] : List UInt8).toArray⟩) A8 S0 (g_move (by kernel_rfl)) rfl (fun ac A9 => ?_)
  refine s_want (dj := 10) (b := (decide ((l.length : Int) ≥ 2))) A9 (by kernel_rfl) (by kernel_rfl) (decide_eq_true (by omega)) ?_
  refine s_one (.int .i64 2) A9 S0 (g_built (r := [(0, .string ⟨([67, 80] : List UInt8).toArray⟩)]) (by kernel_rfl) (fun ty cs w => bl_str (l := ([67, 80] : List UInt8)) Try.underlying9 ty cs w)) rfl (fun ac A10 => ?_)
  refine s_want (dj := 10) (b := (decide ((l.length : Int) ≥ 2))) A10 (by kernel_rfl) (by kernel_rfl) (decide_eq_true (by omega)) ?_
  refine s_one (.string ⟨(subU l 0 2).toArray⟩) A10 S0 (g_slice (u := .string ⟨l.toArray⟩) (lo' := none) (hi' := (some (.int .i64 2))) (mx' := none) (by kernel_rfl) (by kernel_rfl) (by kernel_rfl) (by kernel_rfl) (sl_strH (l := l) (h := 2) Try.underlying9 (by omega) (by omega))) rfl (fun ac A11 => ?_)
  refine s_want (dj := 10) (b := (decide ((l.length : Int) ≥ 2))) A11 (by kernel_rfl) (by kernel_rfl) (decide_eq_true (by omega)) ?_
  refine s_one (.string ⟨([67, 80] : List UInt8).toArray⟩) A11 S0 (g_move (by kernel_rfl)) rfl (fun ac A12 => ?_)
  refine s_want (dj := 10) (b := (decide ((l.length : Int) ≥ 2))) A12 (by kernel_rfl) (by kernel_rfl) (decide_eq_true (by omega)) ?_
  refine s_one (.bool (decide (subU l 0 2 = ([67, 80] : List UInt8)))) A12 S0 (g_bin (u := .string ⟨(subU l 0 2).toArray⟩) (k := .string ⟨([67, 80] : List UInt8).toArray⟩) (by kernel_rfl) (by kernel_rfl) (fun _ => by kernel_rfl) (q_str (l := subU l 0 2) (m := ([67, 80] : List UInt8)))) rfl (fun ac A13 => ?_)
  refine s_one (.bool (decide (subU l 0 2 = ([67, 80] : List UInt8)))) A13 S0 (g_pick_t (b := (decide ((l.length : Int) ≥ 2))) (by kernel_rfl) (decide_eq_true (by omega)) (by kernel_rfl)) rfl (fun ac A14 => ?_)
  refine s_one (.bool (decide (subU l 0 2 = ([67, 80] : List UInt8)))) A14 S0 (g_assign (by kernel_rfl)) rfl (fun ac A15 => ?_)
  refine wpList_nil ?_
  refine n_then ?_
  refine wp_ret ?_
  refine fin1 (.bool (decide (subU l 0 2 = ([67, 80] : List UInt8)))) Try.results107 A15 S0 (rv_tmp (by kernel_rfl)) ⟨?_, S0.kp⟩
  rfl
set_option maxRecDepth 100000 in
set_option maxHeartbeats 400000 in
theorem hasPrefix_s (l : List UInt8) (w0 : World) (h2 : 8 ≤ l.length) :
    Calls Try.prog 78 #[.string ⟨l.toArray⟩, .string ⟨([67, 80] : List UInt8).toArray⟩] w0 fun e w' => e = .returned (.bool (decide (subU l 0 2 = [67, 80]))) ∧ Below w0.heap.size w0 w' := by
  have S0 := St.start w0
  refine enter (n := 8) Try.func78 rfl rfl rfl (fun ac A0 => ?_)
  refine wp_seq ?_
  refine wp_region_lit ?_
  refine s_one (.bool false) A0 S0 (g_assign (by kernel_rfl)) rfl (fun ac A1 => ?_)
  refine wpList_nil ?_
  refine n_then ?_
  refine wp_seq ?_
  refine wp_region_lit ?_
  refine s_one (.string ⟨l.toArray⟩) A1 S0 (g_move (by kernel_rfl)) rfl (fun ac A2 => ?_)
  refine s_one (.string ⟨([67, 80] : List UInt8).toArray⟩) A2 S0 (g_move (by kernel_rfl)) rfl (fun ac A3 => ?_)
  refine s_call (fs := #[]) (cp := #[]) (r := [(0, .string ⟨l.toArray⟩), (0, .string ⟨([67, 80] : List UInt8).toArray⟩)]) #[.string ⟨l.toArray⟩, .string ⟨([67, 80] : List UInt8).toArray⟩] (.bool (decide (subU l 0 2 = [67, 80]))) A3 S0 (hasPrefix0_s l _ (by omega)) Try.call107 (by kernel_rfl) (by kernel_rfl) (by kernel_rfl) rfl (fun ac wc A4 S5 => ?_)
  refine s_one (.bool (decide (subU l 0 2 = [67, 80]))) A4 S5 (g_assign (by kernel_rfl)) rfl (fun ac A7 => ?_)
  refine wpList_nil ?_
  refine n_then ?_
  refine wp_ret ?_
  refine fin1 (.bool (decide (subU l 0 2 = [67, 80]))) Try.results78 A7 S5 (rv_tmp (by kernel_rfl)) ⟨?_, S5.kp⟩
  rfl
theorem sz_eq (n : Nat) : (8 : Int) + 2 * (n : Int) * (n : Int) * 64 + 2 = ((10 + 128 * (n * n) : Nat) : Int) := by
  have e : ((n * n : Nat) : Int) = (n : Int) * (n : Int) := Int.natCast_mul _ _
  rw [Int.mul_assoc 2, ← e]; omega
theorem sq_le {n m : Nat} (h : n ≤ m) : n * n ≤ m * m := Nat.mul_le_mul h h
set_option maxRecDepth 100000 in
set_option maxHeartbeats 400000 in
theorem frameSize_s (n : Nat) (w0 : World) (hn : n ≤ 255) :
    Calls Try.prog 77 #[.int .i64 (n : Int)] w0 fun e w' => e = .returned (.int .i64 ((10 + 128 * (n * n) : Nat) : Int)) ∧ Below w0.heap.size w0 w' := by
  have S0 := St.start w0
  have hq := sq_le hn
  have e : ((n * n : Nat) : Int) = (n : Int) * (n : Int) := Int.natCast_mul _ _
  have e2 : 2 * (n : Int) * (n : Int) = 2 * ((n * n : Nat) : Int) := by rw [Int.mul_assoc, e]
  have e3 : 128 * (n : Int) * (n : Int) = 128 * ((n * n : Nat) : Int) := by rw [Int.mul_assoc, e]
  refine enter (n := 10) Try.func77 rfl rfl rfl (fun ac A0 => ?_)
  refine wp_seq ?_
  refine wp_region_lit ?_
  refine s_one (.int .i64 0) A0 S0 (g_assign (by kernel_rfl)) rfl (fun ac A1 => ?_)
  refine wpList_nil ?_
  refine n_then ?_
  refine wp_seq ?_
  refine wp_region_lit ?_
  refine s_one (.int .i64 (n : Int)) A1 S0 (g_move (by kernel_rfl)) rfl (fun ac A2 => ?_)
  refine s_one (.int .i64 (2 * (n : Int))) A2 S0 (g_bin (u := .int .i64 2) (k := .int .i64 (n : Int)) (by kernel_rfl) (by kernel_rfl) (fun _ => by kernel_rfl) (b_mul (by omega))) rfl (fun ac A3 => ?_)
  refine s_one (.int .i64 (n : Int)) A3 S0 (g_move (by kernel_rfl)) rfl (fun ac A4 => ?_)
  refine s_one (.int .i64 ((2 * (n : Int)) * (n : Int))) A4 S0 (g_bin (u := .int .i64 (2 * (n : Int))) (k := .int .i64 (n : Int)) (by kernel_rfl) (by kernel_rfl) (fun _ => by kernel_rfl) (b_mul (by omega))) rfl (fun ac A5 => ?_)
  refine s_one (.int .i64 (((2 * (n : Int)) * (n : Int)) * 64)) A5 S0 (g_bin (u := .int .i64 ((2 * (n : Int)) * (n : Int))) (k := .int .i64 64) (by kernel_rfl) (by kernel_rfl) (fun _ => by kernel_rfl) (b_mul (by omega))) rfl (fun ac A6 => ?_)
  refine s_one (.int .i64 (8 + (((2 * (n : Int)) * (n : Int)) * 64))) A6 S0 (g_bin (u := .int .i64 8) (k := .int .i64 (((2 * (n : Int)) * (n : Int)) * 64)) (by kernel_rfl) (by kernel_rfl) (fun _ => by kernel_rfl) (b_add (by omega))) rfl (fun ac A7 => ?_)
  refine s_one (.int .i64 (8 + (((2 * (n : Int)) * (n : Int)) * 64) + 2)) A7 S0 (g_bin (u := .int .i64 (8 + (((2 * (n : Int)) * (n : Int)) * 64))) (k := .int .i64 2) (by kernel_rfl) (by kernel_rfl) (fun _ => by kernel_rfl) (b_add (by omega))) rfl (fun ac A8 => ?_)
  refine s_one (.int .i64 (8 + (((2 * (n : Int)) * (n : Int)) * 64) + 2)) A8 S0 (g_assign (by kernel_rfl)) rfl (fun ac A9 => ?_)
  refine wpList_nil ?_
  refine n_then ?_
  refine wp_ret ?_
  refine fin1 (.int .i64 (8 + (((2 * (n : Int)) * (n : Int)) * 64) + 2)) Try.results77 A9 S0 (rv_tmp (by kernel_rfl)) ⟨?_, S0.kp⟩
  exact congrArg (fun x => Ending.returned (Value.int .i64 x)) (sz_eq n)
end Go.Proofs.Ytcijkniijomcjaa
