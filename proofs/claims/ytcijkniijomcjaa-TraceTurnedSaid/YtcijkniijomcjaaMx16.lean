/- Which pairs are unlike. -/
import Derived.Test.YtcijkniijomcjaaMx15
namespace Go.Proofs.Ytcijkniijomcjaa
open Go.RowKit Go.Cpl

/-- Do two traces of a pair differ too much, in the first k samples? -/
def dif (l : List Int) (n : Nat) (p : Nat × Nat) (i : Nat) : Int := nthI l ((p.1 * n + p.2) * 64 + i) - nthI l ((p.2 * n + p.1) * 64 + i)
def anyD (l : List Int) (n : Nat) (nz : Int) (p : Nat × Nat) (k : Nat) : Bool := (List.range k).any fun i => decide (mx (dif l n p i) (-(dif l n p i)) > nz)
theorem anyD_succ (l : List Int) (n : Nat) (nz : Int) (p : Nat × Nat) (k : Nat) : anyD l n nz p (k + 1) = (anyD l n nz p k || decide (mx (dif l n p k) (-(dif l n p k)) > nz)) := by simp [anyD, List.range_succ]
def unB (l : List Int) (n : Nat) (nz : Int) (p : Nat × Nat) : Bool := decide (p.1 < p.2) && anyD l n nz p 64
theorem unK_n {l : List Int} {n : Nat} {nz : Int} {x : Nat × Nat} {k : Nat} (hu : (decide (x.1 < x.2) && anyD l n nz x k) = false) (h : (decide ((x.1 : Int) < (x.2 : Int)) && decide (mx (nthI l ((x.1 * n + x.2) * 64 + k) - nthI l ((x.2 * n + x.1) * 64 + k)) (-(nthI l ((x.1 * n + x.2) * 64 + k) - nthI l ((x.2 * n + x.1) * 64 + k))) > nz)) = false) : (decide (x.1 < x.2) && anyD l n nz x (k + 1)) = false := by
  rw [anyD_succ]
  cases hd : decide (x.1 < x.2) with
  | false => rfl
  | true =>
    rw [hd, Bool.true_and] at hu
    have hlt : (x.1 : Int) < (x.2 : Int) := by have := of_decide_eq_true hd; omega
    rw [decide_eq_true hlt, Bool.true_and] at h
    rw [hu, Bool.false_or, Bool.true_and]; exact h
theorem anyD_mono {l : List Int} {n : Nat} {nz : Int} {x : Nat × Nat} {k m : Nat} (h : k < m) (hd : mx (dif l n x k) (-(dif l n x k)) > nz) : anyD l n nz x m = true := by
  unfold anyD
  rw [List.any_eq_true]
  exact ⟨k, List.mem_range.2 h, decide_eq_true hd⟩
theorem unB_y {l : List Int} {n : Nat} {nz : Int} {x : Nat × Nat} {k : Nat} (hk : k < 64) (h : (decide ((x.1 : Int) < (x.2 : Int)) && decide (mx (nthI l ((x.1 * n + x.2) * 64 + k) - nthI l ((x.2 * n + x.1) * 64 + k)) (-(nthI l ((x.1 * n + x.2) * 64 + k) - nthI l ((x.2 * n + x.1) * 64 + k))) > nz)) = true) : unB l n nz (x.1, x.2) = true := by
  rw [Bool.and_eq_true, decide_eq_true_iff, decide_eq_true_iff] at h
  unfold unB
  rw [anyD_mono hk (show mx (dif l n (x.1, x.2) k) (-(dif l n (x.1, x.2) k)) > nz from h.2), decide_eq_true (show x.1 < x.2 by omega)]; rfl

set_option maxRecDepth 100000 in
set_option maxHeartbeats 400000 in
theorem Unlike_err (el : Int) (A : Option Addr) (n cap : Nat) (xs : List Nat) (nz : Int) (w0 : World) (hn : xs.length = n) (hr : FReads w0 A xs) (hm : n ≤ 1000) (h0 : (mxC el xs).2 ≠ 0) :
    Calls Try.prog 43 #[.agg #[.int .i64 el, .slice A n cap], .int .i64 nz] w0 fun e w' => e = .returned (.tuple #[.slice none 0 0, .int .i64 (mxC el xs).2]) ∧ Below w0.heap.size w0 w' := by
  have S0 := St.start w0
  refine enterM (n := 69) Try.func43 rfl rfl rfl (fun ac A0 => ?_)
  refine wp_seq ?_
  refine wp_region_lit ?_
  refine s_box (.agg #[.int .i64 el, .slice A n cap]) A0 S0 (by kernel_rfl) rfl (fun g3 ac wc A1 S2 => ?_)
  replace S2 : St _ (⟨g3, 30, #[.int .i64 el, .slice A n cap], true⟩ :: _) _ _ := S2
  refine s_box (.int .i64 nz) A1 S2 (by kernel_rfl) rfl (fun g7 ac wc A5 S6 => ?_)
  replace S6 : St _ (⟨g7, 3, #[.int .i64 nz], true⟩ :: _) _ _ := S6
  refine s_one (.slice none 0 0) A5 S6 (g_assign (by kernel_rfl)) rfl (fun ac A9 => ?_)
  refine s_one (.int .i64 0) A9 S6 (g_assign (by kernel_rfl)) rfl (fun ac A10 => ?_)
  refine wpList_nil ?_
  refine n_then ?_
  refine wp_seq ?_
  refine wp_region_lit ?_
  refine s_one (.agg #[.int .i64 el, .slice A n cap]) A10 S6 (g_load (g := g3) (off := 0) 1 (by kernel_rfl) rfl (by kernel_rfl)) rfl (fun ac A11 => ?_)
  refine s_call (fs := #[]) (cp := #[]) (r := [(0, .agg #[.int .i64 el, .slice A n cap])]) #[.agg #[.int .i64 el, .slice A n cap]] (.tuple #[.pointer none, .int .i64 ((mxC el xs).2)]) A11 S6 (open_err el A n cap xs _ hn (hr.kept S6.kp) (by omega) h0) Try.call72 (by kernel_rfl) (by kernel_rfl) (by kernel_rfl) rfl (fun ac wc A12 S13 => ?_)
  refine s_one (.tuple #[.pointer none, .int .i64 ((mxC el xs).2)]) A12 S13 (g_move (by kernel_rfl)) rfl (fun ac A15 => ?_)
  refine s_one (.pointer none) A15 S13 (g_extract (u := .tuple #[.pointer none, .int .i64 ((mxC el xs).2)]) (by kernel_rfl) (fun _ => by kernel_rfl)) rfl (fun ac A16 => ?_)
  refine s_one (.int .i64 ((mxC el xs).2)) A16 S13 (g_extract (u := .tuple #[.pointer none, .int .i64 ((mxC el xs).2)]) (by kernel_rfl) (fun _ => by kernel_rfl)) rfl (fun ac A17 => ?_)
  refine s_alloc (#[.pointer none]) A17 S13 (by kernel_rfl) rfl (fun g20 ac wc A18 S19 => ?_)
  refine s_store (g := g20) (off := 0) (v := .pointer none) 0 (#[.pointer none]) A18 S19 (by kernel_rfl) (by kernel_rfl) rfl (by kernel_rfl) (fun wc S22 => ?_)
  refine s_one (.int .i64 ((mxC el xs).2)) A18 S22 (g_assign (by kernel_rfl)) rfl (fun ac A24 => ?_)
  refine wpList_nil ?_
  refine n_then ?_
  refine wp_seq ?_
  refine wp_block ?_
  refine wp_seq ?_
  refine wp_region_lit ?_
  refine s_one (.int .i64 ((mxC el xs).2)) A24 S22 (g_move (by kernel_rfl)) rfl (fun ac A25 => ?_)
  refine s_one (.bool (decide ((mxC el xs).2 ≠ 0))) A25 S22 (g_bin (u := .int .i64 ((mxC el xs).2)) (k := .int .i64 0) (by kernel_rfl) (by kernel_rfl) (fun _ => by kernel_rfl) b_neq) rfl (fun ac A26 => ?_)
  refine s_one (.bool (decide ((mxC el xs).2 ≠ 0))) A26 S22 (g_assign (by kernel_rfl)) rfl (fun ac A27 => ?_)
  refine wpList_nil ?_
  refine n_then ?_
  refine c_t (b := (decide ((mxC el xs).2 ≠ 0))) A27 (by kernel_rfl) (decide_eq_true h0) ?_
  refine wp_seq ?_
  refine wp_region_lit ?_
  refine s_one (.int .i64 ((mxC el xs).2)) A27 S22 (g_move (by kernel_rfl)) rfl (fun ac A28 => ?_)
  refine s_one (.slice none 0 0) A28 S22 (g_assign (by kernel_rfl)) rfl (fun ac A29 => ?_)
  refine s_one (.int .i64 ((mxC el xs).2)) A29 S22 (g_assign (by kernel_rfl)) rfl (fun ac A30 => ?_)
  refine wpList_nil ?_
  refine n_then ?_
  refine wp_ret ?_
  refine r_block ?_
  refine r_then ?_
  refine m_ret0 A30 ?_
  refine fin2 (.slice none 0 0) (.int .i64 ((mxC el xs).2)) Try.results43 A30 S22 (rv_tmp (by kernel_rfl)) (rv_tmp (by kernel_rfl)) ⟨?_, S22.kp⟩
  rfl

set_option maxRecDepth 100000 in
set_option maxHeartbeats 400000 in
theorem Unlike_nz (ne n cap : Nat) (ad : Addr) (xs : List Nat) (nz : Int) (w0 : World) (hn : xs.length = n) (hr : FReads w0 (some ad) xs) (hm : n ≤ 1000) (hcp : n ≤ cap) (h1 : 1 ≤ ne) (hne : n = ne * ne * 64) (h0 : (mxC (ne : Int) xs).2 = 0) (hnz : inB nz 0 4094 = false) :
    Calls Try.prog 43 #[.agg #[.int .i64 (ne : Int), .slice (some ad) n cap], .int .i64 nz] w0 fun e w' => e = .returned (.tuple #[.slice none 0 0, .int .i64 2]) ∧ Below w0.heap.size w0 w' := by
  have S0 := St.start w0
  have hR : Right xs := right_of (mxC_0 h0).2.2
  have hpos : 0 < ne * ne := Nat.mul_pos h1 h1
  have hml : (mi xs).length = ne * ne * 64 := by rw [mi_length, hn, hne]
  have hne3 : ne ≤ 3 := by rcases Nat.lt_or_ge 3 ne with q | q; have := Nat.mul_le_mul q q; omega; exact q
  have hee : ne * ne ≤ 15 := by omega
  refine enterM (n := 69) Try.func43 rfl rfl rfl (fun ac A0 => ?_)
  refine wp_seq ?_
  refine wp_region_lit ?_
  refine s_box (.agg #[.int .i64 (ne : Int), .slice (some ad) n cap]) A0 S0 (by kernel_rfl) rfl (fun g3 ac wc A1 S2 => ?_)
  replace S2 : St _ (⟨g3, 30, #[.int .i64 (ne : Int), .slice (some ad) n cap], true⟩ :: _) _ _ := S2
  refine s_box (.int .i64 nz) A1 S2 (by kernel_rfl) rfl (fun g7 ac wc A5 S6 => ?_)
  replace S6 : St _ (⟨g7, 3, #[.int .i64 nz], true⟩ :: _) _ _ := S6
  refine s_one (.slice none 0 0) A5 S6 (g_assign (by kernel_rfl)) rfl (fun ac A9 => ?_)
  refine s_one (.int .i64 0) A9 S6 (g_assign (by kernel_rfl)) rfl (fun ac A10 => ?_)
  refine wpList_nil ?_
  refine n_then ?_
  refine wp_seq ?_
  refine wp_region_lit ?_
  refine s_one (.agg #[.int .i64 (ne : Int), .slice (some ad) n cap]) A10 S6 (g_load (g := g3) (off := 0) 1 (by kernel_rfl) rfl (by kernel_rfl)) rfl (fun ac A11 => ?_)
  refine s_callSt (T := Nat × Nat × Nat) (fs := #[]) (cp := #[]) (r := [(0, .agg #[.int .i64 (ne : Int), .slice (some ad) n cap])]) #[.agg #[.int .i64 (ne : Int), .slice (some ad) n cap]] (fun u => .tuple #[.pointer (some ⟨u.1, 0, none⟩), .int .i64 0]) (fun u => [⟨u.1, 137, #[.int .i64 (ne : Int), .slice (some (Addr.mk u.2.1 0 none)) (ne * ne) u.2.2], true⟩]) (fun u => [⟨.slice (some (Addr.mk u.2.1 0 none)) (ne * ne) u.2.2, 123, 64, (ne * ne), (rowI (mi xs))⟩]) A11 S6 (open_ok ne n cap ad xs _ hn (hr.kept S6.kp) hm hcp h1 hne h0) (fun u x hx => by simp only [List.mem_cons, List.not_mem_nil, or_false] at hx; subst hx; rfl) Try.call72 (by kernel_rfl) (by kernel_rfl) (by kernel_rfl) rfl (fun u18 ac wc A12 S13 => ?_)
  obtain ⟨gm15, gr16, cp17⟩ := u18
  replace S13 : St w0 [⟨gm15, 137, #[.int .i64 (ne : Int), .slice (some (Addr.mk gr16 0 none)) (ne * ne) cp17], true⟩, ⟨g7, 3, #[.int .i64 nz], true⟩, ⟨g3, 30, #[.int .i64 (ne : Int), .slice (some ad) n cap], true⟩] [⟨.slice (some (Addr.mk gr16 0 none)) (ne * ne) cp17, 123, 64, (ne * ne), (rowI (mi xs))⟩] _ := S13
  refine s_one (.tuple #[.pointer (some ⟨gm15, 0, none⟩), .int .i64 0]) A12 S13 (g_move (by kernel_rfl)) rfl (fun ac A19 => ?_)
  refine s_one (.pointer (some ⟨gm15, 0, none⟩)) A19 S13 (g_extract (u := .tuple #[.pointer (some ⟨gm15, 0, none⟩), .int .i64 0]) (by kernel_rfl) (fun _ => by kernel_rfl)) rfl (fun ac A20 => ?_)
  refine s_one (.int .i64 0) A20 S13 (g_extract (u := .tuple #[.pointer (some ⟨gm15, 0, none⟩), .int .i64 0]) (by kernel_rfl) (fun _ => by kernel_rfl)) rfl (fun ac A21 => ?_)
  refine s_alloc (#[.pointer none]) A21 S13 (by kernel_rfl) rfl (fun g24 ac wc A22 S23 => ?_)
  refine s_store (g := g24) (off := 0) (v := .pointer (some ⟨gm15, 0, none⟩)) 0 (#[.pointer (some ⟨gm15, 0, none⟩)]) A22 S23 (by kernel_rfl) (by kernel_rfl) rfl (by kernel_rfl) (fun wc S26 => ?_)
  refine s_one (.int .i64 0) A22 S26 (g_assign (by kernel_rfl)) rfl (fun ac A28 => ?_)
  refine wpList_nil ?_
  refine n_then ?_
  refine wp_seq ?_
  refine wp_block ?_
  refine wp_seq ?_
  refine wp_region_lit ?_
  refine s_one (.int .i64 0) A28 S26 (g_move (by kernel_rfl)) rfl (fun ac A29 => ?_)
  refine s_one (.bool (decide (0 ≠ 0))) A29 S26 (g_bin (u := .int .i64 0) (k := .int .i64 0) (by kernel_rfl) (by kernel_rfl) (fun _ => by kernel_rfl) b_neq) rfl (fun ac A30 => ?_)
  refine s_one (.bool (decide (0 ≠ 0))) A30 S26 (g_assign (by kernel_rfl)) rfl (fun ac A31 => ?_)
  refine wpList_nil ?_
  refine n_then ?_
  refine c_f (b := (decide (0 ≠ 0))) A31 (by kernel_rfl) (by decide) ?_
  refine wp_seq ?_
  refine wp_region_lit ?_
  refine s_one (.int .i64 nz) A31 S26 (g_load (g := g7) (off := 0) 2 (by kernel_rfl) rfl (by kernel_rfl)) rfl (fun ac A32 => ?_)
  refine s_call (fs := #[]) (cp := #[]) (r := [(0, .int .i64 nz), (0, .int .i64 0), (0, .int .i64 4094)]) #[.int .i64 nz, .int .i64 0, .int .i64 4094] (.bool (inB nz 0 4094)) A32 S26 (sameB (within_any nz 0 4094 _)) Try.call60 (by kernel_rfl) (by kernel_rfl) (by kernel_rfl) rfl (fun ac wc A33 S34 => ?_)
  refine s_one (.bool (!(inB nz 0 4094))) A33 S34 (g_un (u := .bool (inB nz 0 4094)) (by kernel_rfl) (fun _ => by kernel_rfl)) rfl (fun ac A36 => ?_)
  refine s_one (.bool (!(inB nz 0 4094))) A36 S34 (g_assign (by kernel_rfl)) rfl (fun ac A37 => ?_)
  refine wpList_nil ?_
  refine n_then ?_
  refine c_t (b := (!(inB nz 0 4094))) A37 (by kernel_rfl) (b_nf hnz) ?_
  refine wp_seq ?_
  refine wp_region_lit ?_
  refine s_one (.slice none 0 0) A37 S34 (g_assign (by kernel_rfl)) rfl (fun ac A38 => ?_)
  refine s_one (.int .i64 2) A38 S34 (g_assign (by kernel_rfl)) rfl (fun ac A39 => ?_)
  refine wpList_nil ?_
  refine n_then ?_
  refine wp_ret ?_
  refine r_block ?_
  refine r_then ?_
  refine m_ret0 A39 ?_
  refine fin2 (.slice none 0 0) (.int .i64 2) Try.results43 A39 S34 (rv_tmp (by kernel_rfl)) (rv_tmp (by kernel_rfl)) ⟨?_, S34.kp⟩
  rfl

set_option maxRecDepth 100000 in
set_option maxHeartbeats 400000 in
theorem Unlike_ok (ne n cap : Nat) (ad : Addr) (xs : List Nat) (nz : Int) (w0 : World) (hn : xs.length = n) (hr : FReads w0 (some ad) xs) (hm : n ≤ 1000) (hcp : n ≤ cap) (h1 : 1 ≤ ne) (hne : n = ne * ne * 64) (h0 : (mxC (ne : Int) xs).2 = 0) (hnz : inB nz 0 4094 = true) :
    Calls Try.prog 43 #[.agg #[.int .i64 (ne : Int), .slice (some ad) n cap], .int .i64 nz] w0 fun e w' => ∃ v, e = .returned (.tuple #[v, .int .i64 0]) ∧ Below w0.heap.size w0 w' ∧ w'.ownsRow w0.heap.size 26 2 v (((pairsOf ne).filter (unB (mi xs) ne nz)).length) (rowI (flP (((pairsOf ne)).filter (unB (mi xs) ne nz)))) := by
  have S0 := St.start w0
  have hR : Right xs := right_of (mxC_0 h0).2.2
  have hpos : 0 < ne * ne := Nat.mul_pos h1 h1
  have hml : (mi xs).length = ne * ne * 64 := by rw [mi_length, hn, hne]
  have hne3 : ne ≤ 3 := by rcases Nat.lt_or_ge 3 ne with q | q; have := Nat.mul_le_mul q q; omega; exact q
  have hee : ne * ne ≤ 15 := by omega
  have HB := mi_range hR
  refine enterM (n := 69) Try.func43 rfl rfl rfl (fun ac A0 => ?_)
  refine wp_seq ?_
  refine wp_region_lit ?_
  refine s_box (.agg #[.int .i64 (ne : Int), .slice (some ad) n cap]) A0 S0 (by kernel_rfl) rfl (fun g3 ac wc A1 S2 => ?_)
  replace S2 : St _ (⟨g3, 30, #[.int .i64 (ne : Int), .slice (some ad) n cap], true⟩ :: _) _ _ := S2
  refine s_box (.int .i64 nz) A1 S2 (by kernel_rfl) rfl (fun g7 ac wc A5 S6 => ?_)
  replace S6 : St _ (⟨g7, 3, #[.int .i64 nz], true⟩ :: _) _ _ := S6
  refine s_one (.slice none 0 0) A5 S6 (g_assign (by kernel_rfl)) rfl (fun ac A9 => ?_)
  refine s_one (.int .i64 0) A9 S6 (g_assign (by kernel_rfl)) rfl (fun ac A10 => ?_)
  refine wpList_nil ?_
  refine n_then ?_
  refine wp_seq ?_
  refine wp_region_lit ?_
  refine s_one (.agg #[.int .i64 (ne : Int), .slice (some ad) n cap]) A10 S6 (g_load (g := g3) (off := 0) 1 (by kernel_rfl) rfl (by kernel_rfl)) rfl (fun ac A11 => ?_)
  refine s_callSt (T := Nat × Nat × Nat) (fs := #[]) (cp := #[]) (r := [(0, .agg #[.int .i64 (ne : Int), .slice (some ad) n cap])]) #[.agg #[.int .i64 (ne : Int), .slice (some ad) n cap]] (fun u => .tuple #[.pointer (some ⟨u.1, 0, none⟩), .int .i64 0]) (fun u => [⟨u.1, 137, #[.int .i64 (ne : Int), .slice (some (Addr.mk u.2.1 0 none)) (ne * ne) u.2.2], true⟩]) (fun u => [⟨.slice (some (Addr.mk u.2.1 0 none)) (ne * ne) u.2.2, 123, 64, (ne * ne), (rowI (mi xs))⟩]) A11 S6 (open_ok ne n cap ad xs _ hn (hr.kept S6.kp) hm hcp h1 hne h0) (fun u x hx => by simp only [List.mem_cons, List.not_mem_nil, or_false] at hx; subst hx; rfl) Try.call72 (by kernel_rfl) (by kernel_rfl) (by kernel_rfl) rfl (fun u18 ac wc A12 S13 => ?_)
  obtain ⟨gm15, gr16, cp17⟩ := u18
  replace S13 : St w0 [⟨gm15, 137, #[.int .i64 (ne : Int), .slice (some (Addr.mk gr16 0 none)) (ne * ne) cp17], true⟩, ⟨g7, 3, #[.int .i64 nz], true⟩, ⟨g3, 30, #[.int .i64 (ne : Int), .slice (some ad) n cap], true⟩] [⟨.slice (some (Addr.mk gr16 0 none)) (ne * ne) cp17, 123, 64, (ne * ne), (rowI (mi xs))⟩] _ := S13
  refine s_one (.tuple #[.pointer (some ⟨gm15, 0, none⟩), .int .i64 0]) A12 S13 (g_move (by kernel_rfl)) rfl (fun ac A19 => ?_)
  refine s_one (.pointer (some ⟨gm15, 0, none⟩)) A19 S13 (g_extract (u := .tuple #[.pointer (some ⟨gm15, 0, none⟩), .int .i64 0]) (by kernel_rfl) (fun _ => by kernel_rfl)) rfl (fun ac A20 => ?_)
  refine s_one (.int .i64 0) A20 S13 (g_extract (u := .tuple #[.pointer (some ⟨gm15, 0, none⟩), .int .i64 0]) (by kernel_rfl) (fun _ => by kernel_rfl)) rfl (fun ac A21 => ?_)
  refine s_alloc (#[.pointer none]) A21 S13 (by kernel_rfl) rfl (fun g24 ac wc A22 S23 => ?_)
  refine s_store (g := g24) (off := 0) (v := .pointer (some ⟨gm15, 0, none⟩)) 0 (#[.pointer (some ⟨gm15, 0, none⟩)]) A22 S23 (by kernel_rfl) (by kernel_rfl) rfl (by kernel_rfl) (fun wc S26 => ?_)
  refine s_one (.int .i64 0) A22 S26 (g_assign (by kernel_rfl)) rfl (fun ac A28 => ?_)
  refine wpList_nil ?_
  refine n_then ?_
  refine wp_seq ?_
  refine wp_block ?_
  refine wp_seq ?_
  refine wp_region_lit ?_
  refine s_one (.int .i64 0) A28 S26 (g_move (by kernel_rfl)) rfl (fun ac A29 => ?_)
  refine s_one (.bool (decide (0 ≠ 0))) A29 S26 (g_bin (u := .int .i64 0) (k := .int .i64 0) (by kernel_rfl) (by kernel_rfl) (fun _ => by kernel_rfl) b_neq) rfl (fun ac A30 => ?_)
  refine s_one (.bool (decide (0 ≠ 0))) A30 S26 (g_assign (by kernel_rfl)) rfl (fun ac A31 => ?_)
  refine wpList_nil ?_
  refine n_then ?_
  refine c_f (b := (decide (0 ≠ 0))) A31 (by kernel_rfl) (by decide) ?_
  refine wp_seq ?_
  refine wp_region_lit ?_
  refine s_one (.int .i64 nz) A31 S26 (g_load (g := g7) (off := 0) 2 (by kernel_rfl) rfl (by kernel_rfl)) rfl (fun ac A32 => ?_)
  refine s_call (fs := #[]) (cp := #[]) (r := [(0, .int .i64 nz), (0, .int .i64 0), (0, .int .i64 4094)]) #[.int .i64 nz, .int .i64 0, .int .i64 4094] (.bool (inB nz 0 4094)) A32 S26 (sameB (within_any nz 0 4094 _)) Try.call60 (by kernel_rfl) (by kernel_rfl) (by kernel_rfl) rfl (fun ac wc A33 S34 => ?_)
  refine s_one (.bool (!(inB nz 0 4094))) A33 S34 (g_un (u := .bool (inB nz 0 4094)) (by kernel_rfl) (fun _ => by kernel_rfl)) rfl (fun ac A36 => ?_)
  refine s_one (.bool (!(inB nz 0 4094))) A36 S34 (g_assign (by kernel_rfl)) rfl (fun ac A37 => ?_)
  refine wpList_nil ?_
  refine n_then ?_
  refine c_f (b := (!(inB nz 0 4094))) A37 (by kernel_rfl) (b_nt hnz) ?_
  refine wp_skip ?_
  refine n_block ?_
  refine n_then ?_
  refine wp_seq ?_
  refine wp_region_lit ?_
  refine s_alloc (#[.slice none 0 0]) A37 S34 (by kernel_rfl) rfl (fun g40 ac wc A38 S39 => ?_)
  refine wpList_nil ?_
  refine n_then ?_
  refine wp_seq ?_
  refine wp_seq ?_
  refine wp_region_lit ?_
  refine s_one (.pointer (some ⟨gm15, 0, none⟩)) A38 S39 (g_load (g := g24) (off := 0) 1 (by kernel_rfl) rfl (by kernel_rfl)) rfl (fun ac A41 => ?_)
  refine s_one (.func (.func 86) #[.pointer (some ⟨gm15, 0, none⟩)] #[]) A41 S39 (g_func (us := [(0, .pointer (some ⟨gm15, 0, none⟩))]) (vs := []) (by kernel_rfl) (by kernel_rfl) (fun _ => by kernel_rfl)) rfl (fun ac A42 => ?_)
  refine wpList_nil ?_
  refine n_then ?_
  refine wp_block ?_
  refine c_range (α := Nat × Nat) (gf := 86) (fs := #[.pointer (some ⟨gm15, 0, none⟩)]) (lb := #[]) (encs := fun x => #[.int .i64 (x.1 : Int), .int .i64 (x.2 : Int)]) (G := [⟨gm15, 137, #[.int .i64 (ne : Int), .slice (some (Addr.mk gr16 0 none)) (ne * ne) cp17], true⟩]) (xs := pairsOf ne) A42 S39 (by kernel_rfl) Try.call86 (List.forall_mem_cons.2 ⟨S39.get 2 rfl, (List.forall_mem_nil _)⟩) (all_seq gm15 ne (.slice (some (Addr.mk gr16 0 none)) (ne * ne) cp17) true (by omega)) (fun _ => rfl) (fun x => [(29, .int .i64 (x.1 : Int)), (30, .int .i64 (x.2 : Int))]) (fun _ => (by first | rfl | simp)) (fun _ => (List.forall_mem_cons.2 ⟨(show 29 < 69 by decide), (List.forall_mem_cons.2 ⟨(show 30 < 69 by decide), (List.forall_mem_nil _)⟩)⟩)) (fun pre W => ∃ (v : Value), St w0 [⟨g40, 22, #[v], true⟩, ⟨g24, 130, #[.pointer (some ⟨gm15, 0, none⟩)], true⟩, ⟨gm15, 137, #[.int .i64 (ne : Int), .slice (some (Addr.mk gr16 0 none)) (ne * ne) cp17], true⟩, ⟨g7, 3, #[.int .i64 nz], true⟩, ⟨g3, 30, #[.int .i64 (ne : Int), .slice (some ad) n cap], true⟩] [⟨v, 26, 2, (((pre).filter (unB (mi xs) ne nz)).length), (rowI (flP ((pre).filter (unB (mi xs) ne nz))))⟩, ⟨.slice (some (Addr.mk gr16 0 none)) (ne * ne) cp17, 123, 64, (ne * ne), (rowI (mi xs))⟩] W) (fun _ _ => False) ?_ ?_ ?_ ?_ (fun x => [(9, .int .i64 (x.1 : Int)), (10, .int .i64 (x.2 : Int)), (29, .int .i64 (x.1 : Int)), (30, .int .i64 (x.2 : Int)), (0, .agg #[.int .i64 (ne : Int), .slice (some ad) n cap]), (1, .int .i64 nz), (2, .pointer (some ⟨g3, 0, none⟩)), (3, .pointer (some ⟨g7, 0, none⟩)), (4, .slice none 0 0), (5, .int .i64 0), (15, .agg #[.int .i64 (ne : Int), .slice (some ad) n cap]), (16, .tuple #[.pointer (some ⟨gm15, 0, none⟩), .int .i64 0]), (14, .tuple #[.pointer (some ⟨gm15, 0, none⟩), .int .i64 0]), (17, .pointer (some ⟨gm15, 0, none⟩)), (18, .int .i64 0), (6, .pointer (some ⟨g24, 0, none⟩)), (7, .int .i64 0), (20, .int .i64 0), (21, .bool (decide (0 ≠ 0))), (19, .bool (decide (0 ≠ 0))), (24, .int .i64 nz), (25, .bool (inB nz 0 4094)), (26, .bool (!(inB nz 0 4094))), (23, .bool (!(inB nz 0 4094))), (8, .pointer (some ⟨g40, 0, none⟩)), (27, .pointer (some ⟨gm15, 0, none⟩)), (28, .func (.func 86) #[.pointer (some ⟨gm15, 0, none⟩)] #[])]) ?_ ?_ ?_ ?_
  · rintro pre W W' row ⟨v, hS⟩ hg hr
    exact ⟨v, St.round hS hg hr⟩
  · rintro pre W W' ⟨v, hS⟩ hb
    exact ⟨v, hS.kept hb⟩
  · exact fun _ _ _ _ h _ _ => h
  · have S43 := S39.nilRow 26 2
    exact ⟨.slice none 0 0, (St.rerow 0 (St.recell 0 S43 rfl (by rfl)) rfl ⟨rfl, rfl⟩).sub sub_all sub_all⟩
  · intro l x a' WA K HA HK
    have SA := St.start WA
    replace HA : Fr 69 a' [(30, .int .i64 (x.2 : Int)), (29, .int .i64 (x.1 : Int)), (0, .agg #[.int .i64 (ne : Int), .slice (some ad) n cap]), (1, .int .i64 nz), (2, .pointer (some ⟨g3, 0, none⟩)), (3, .pointer (some ⟨g7, 0, none⟩)), (4, .slice none 0 0), (5, .int .i64 0), (15, .agg #[.int .i64 (ne : Int), .slice (some ad) n cap]), (16, .tuple #[.pointer (some ⟨gm15, 0, none⟩), .int .i64 0]), (14, .tuple #[.pointer (some ⟨gm15, 0, none⟩), .int .i64 0]), (17, .pointer (some ⟨gm15, 0, none⟩)), (18, .int .i64 0), (6, .pointer (some ⟨g24, 0, none⟩)), (7, .int .i64 0), (20, .int .i64 0), (21, .bool (decide (0 ≠ 0))), (19, .bool (decide (0 ≠ 0))), (24, .int .i64 nz), (25, .bool (inB nz 0 4094)), (26, .bool (!(inB nz 0 4094))), (23, .bool (!(inB nz 0 4094))), (8, .pointer (some ⟨g40, 0, none⟩)), (27, .pointer (some ⟨gm15, 0, none⟩)), (28, .func (.func 86) #[.pointer (some ⟨gm15, 0, none⟩)] #[])] := (HA.slot (HA.slot (HA.slot (HA.slot (HA.slot (HA.slot (HA.slot (HA.slot (HA.slot (HA.slot (HA.slot (HA.slot (HA.slot (HA.slot (HA.slot (HA.slot (HA.slot (HA.slot (HA.slot (HA.slot (HA.slot (HA.slot (HA.slot (HA.slot (HA.slot HA.nil (v := .func (.func 86) #[.pointer (some ⟨gm15, 0, none⟩)] #[]) (by kernel_rfl) rfl) (v := .pointer (some ⟨gm15, 0, none⟩)) (by kernel_rfl) rfl) (v := .pointer (some ⟨g40, 0, none⟩)) (by kernel_rfl) rfl) (v := .bool (!(inB nz 0 4094))) (by kernel_rfl) rfl) (v := .bool (!(inB nz 0 4094))) (by kernel_rfl) rfl) (v := .bool (inB nz 0 4094)) (by kernel_rfl) rfl) (v := .int .i64 nz) (by kernel_rfl) rfl) (v := .bool (decide (0 ≠ 0))) (by kernel_rfl) rfl) (v := .bool (decide (0 ≠ 0))) (by kernel_rfl) rfl) (v := .int .i64 0) (by kernel_rfl) rfl) (v := .int .i64 0) (by kernel_rfl) rfl) (v := .pointer (some ⟨g24, 0, none⟩)) (by kernel_rfl) rfl) (v := .int .i64 0) (by kernel_rfl) rfl) (v := .pointer (some ⟨gm15, 0, none⟩)) (by kernel_rfl) rfl) (v := .tuple #[.pointer (some ⟨gm15, 0, none⟩), .int .i64 0]) (by kernel_rfl) rfl) (v := .tuple #[.pointer (some ⟨gm15, 0, none⟩), .int .i64 0]) (by kernel_rfl) rfl) (v := .agg #[.int .i64 (ne : Int), .slice (some ad) n cap]) (by kernel_rfl) rfl) (v := .int .i64 0) (by kernel_rfl) rfl) (v := .slice none 0 0) (by kernel_rfl) rfl) (v := .pointer (some ⟨g7, 0, none⟩)) (by kernel_rfl) rfl) (v := .pointer (some ⟨g3, 0, none⟩)) (by kernel_rfl) rfl) (v := .int .i64 nz) (by kernel_rfl) rfl) (v := .agg #[.int .i64 (ne : Int), .slice (some ad) n cap]) (by kernel_rfl) rfl) (v := .int .i64 (x.1 : Int)) (by kernel_rfl) rfl) (v := .int .i64 (x.2 : Int)) (by kernel_rfl) rfl)
    refine wpIn_seq ?_
    refine i_region (noOut_then noOut_assign) (by kernel_rfl) ?_
    refine s_one (.int .i64 (x.1 : Int)) HA SA (g_assign (by kernel_rfl)) rfl (fun ac A44 => ?_)
    refine wpList_nil ?_
    refine n_then ?_
    refine i_region noOut_assign (by kernel_rfl) ?_
    refine s_one (.int .i64 (x.2 : Int)) A44 SA (g_assign (by kernel_rfl)) rfl (fun ac A45 => ?_)
    refine wpList_nil ?_
    refine n_then ?_
    exact HK _ (A45.slot (A45.slot (A45.slot (A45.slot (A45.slot (A45.slot (A45.slot (A45.slot (A45.slot (A45.slot (A45.slot (A45.slot (A45.slot (A45.slot (A45.slot (A45.slot (A45.slot (A45.slot (A45.slot (A45.slot (A45.slot (A45.slot (A45.slot (A45.slot (A45.slot (A45.slot (A45.slot A45.nil (v := .func (.func 86) #[.pointer (some ⟨gm15, 0, none⟩)] #[]) (by kernel_rfl) rfl) (v := .pointer (some ⟨gm15, 0, none⟩)) (by kernel_rfl) rfl) (v := .pointer (some ⟨g40, 0, none⟩)) (by kernel_rfl) rfl) (v := .bool (!(inB nz 0 4094))) (by kernel_rfl) rfl) (v := .bool (!(inB nz 0 4094))) (by kernel_rfl) rfl) (v := .bool (inB nz 0 4094)) (by kernel_rfl) rfl) (v := .int .i64 nz) (by kernel_rfl) rfl) (v := .bool (decide (0 ≠ 0))) (by kernel_rfl) rfl) (v := .bool (decide (0 ≠ 0))) (by kernel_rfl) rfl) (v := .int .i64 0) (by kernel_rfl) rfl) (v := .int .i64 0) (by kernel_rfl) rfl) (v := .pointer (some ⟨g24, 0, none⟩)) (by kernel_rfl) rfl) (v := .int .i64 0) (by kernel_rfl) rfl) (v := .pointer (some ⟨gm15, 0, none⟩)) (by kernel_rfl) rfl) (v := .tuple #[.pointer (some ⟨gm15, 0, none⟩), .int .i64 0]) (by kernel_rfl) rfl) (v := .tuple #[.pointer (some ⟨gm15, 0, none⟩), .int .i64 0]) (by kernel_rfl) rfl) (v := .agg #[.int .i64 (ne : Int), .slice (some ad) n cap]) (by kernel_rfl) rfl) (v := .int .i64 0) (by kernel_rfl) rfl) (v := .slice none 0 0) (by kernel_rfl) rfl) (v := .pointer (some ⟨g7, 0, none⟩)) (by kernel_rfl) rfl) (v := .pointer (some ⟨g3, 0, none⟩)) (by kernel_rfl) rfl) (v := .int .i64 nz) (by kernel_rfl) rfl) (v := .agg #[.int .i64 (ne : Int), .slice (some ad) n cap]) (by kernel_rfl) rfl) (v := .int .i64 (x.2 : Int)) (by kernel_rfl) rfl) (v := .int .i64 (x.1 : Int)) (by kernel_rfl) rfl) (v := .int .i64 (x.2 : Int)) (by kernel_rfl) rfl) (v := .int .i64 (x.1 : Int)) (by kernel_rfl) rfl)
  · rintro l pre x rest a' WB46 hx ⟨v, hS⟩ HA
    have SB47 := St.begin hS
    obtain ⟨hx1, hx2, hx3⟩ := pairs_next hx
    have hxk : x.1 * ne + x.2 < ne * ne := pair_lt hx1 hx2
    have hxr : x.2 * ne + x.1 < ne * ne := pair_lt hx2 hx1
    have hpl := pre_len hx
    have hsl := sel_len (B := unB (mi xs) ne nz) pre
    refine wpIn_block ?_
    refine wpIn_seq ?_
    refine i_begin (w0 := ⟨w0, WB46⟩) (by kernel_rfl) (noOut_then (noOut_block noOut_body)) (by kernel_rfl) (SB47.sub sub_all sub_all) (fun wc T48 B49 => ?_)
    have S50 := SB47.kept B49
    refine r_take 0 (.pointer (some ⟨gm15, 0, none⟩)) HA T48 (g_load (g := g24) (off := 0) 1 (by kernel_rfl) rfl (by kernel_rfl)) rfl rfl rfl (pf_then (pf_block pf_round)) (by kernel_rfl) (fun ac A51 => ?_)
    refine r_take 1 (.int .i64 (x.1 : Int)) A51 T48 (g_move (by kernel_rfl)) rfl rfl rfl (pf_then (pf_block pf_round)) (by kernel_rfl) (fun ac A52 => ?_)
    refine r_take 2 (.int .i64 (x.2 : Int)) A52 T48 (g_move (by kernel_rfl)) rfl rfl rfl (pf_then (pf_block pf_round)) (by kernel_rfl) (fun ac A53 => ?_)
    refine r_take 4 (.pointer (some ⟨gm15, 0, none⟩)) A53 T48 (g_load (g := g24) (off := 0) 1 (by kernel_rfl) rfl (by kernel_rfl)) rfl rfl rfl (pf_then (pf_block pf_round)) (by kernel_rfl) (fun ac A54 => ?_)
    refine r_take 5 (.int .i64 (x.2 : Int)) A54 T48 (g_move (by kernel_rfl)) rfl rfl rfl (pf_then (pf_block pf_round)) (by kernel_rfl) (fun ac A55 => ?_)
    refine r_take 6 (.int .i64 (x.1 : Int)) A55 T48 (g_move (by kernel_rfl)) rfl rfl rfl (pf_then (pf_block pf_round)) (by kernel_rfl) (fun ac A56 => ?_)
    refine r_1 (i := 3) (by kernel_rfl) ?_
    refine rs_call (fs := #[]) (cp := #[]) (r := [(0, .pointer (some ⟨gm15, 0, none⟩)), (0, .int .i64 (x.1 : Int)), (0, .int .i64 (x.2 : Int))]) #[.pointer (some ⟨gm15, 0, none⟩), .int .i64 (x.1 : Int), .int .i64 (x.2 : Int)] (.pointer (some ((Addr.mk gr16 0 none).add ((x.1 * ne + x.2) * 64)))) A56 S50 sub_all sub_all (mat_at gm15 ne (ne * ne) cp17 x.1 x.2 (Addr.mk gr16 0 none) (mi xs) _ (S50.get 2 rfl) (by have hlen := hml; omega) hxk (by omega)) Try.call73 rfl rfl (by kernel_rfl) (by kernel_rfl) (by kernel_rfl) rfl (fun ac wc A57 S58 => ?_)
    have T60 := S58.sub sub_all sub_all
    refine r_1 (i := 7) (by kernel_rfl) ?_
    refine rs_call (fs := #[]) (cp := #[]) (r := [(0, .pointer (some ⟨gm15, 0, none⟩)), (0, .int .i64 (x.2 : Int)), (0, .int .i64 (x.1 : Int))]) #[.pointer (some ⟨gm15, 0, none⟩), .int .i64 (x.2 : Int), .int .i64 (x.1 : Int)] (.pointer (some ((Addr.mk gr16 0 none).add ((x.2 * ne + x.1) * 64)))) A57 S58 sub_all sub_all (mat_at gm15 ne (ne * ne) cp17 x.2 x.1 (Addr.mk gr16 0 none) (mi xs) _ (S58.get 2 rfl) (by have hlen := hml; omega) hxr (by omega)) Try.call73 rfl rfl (by kernel_rfl) (by kernel_rfl) (by kernel_rfl) rfl (fun ac wc A61 S62 => ?_)
    have T64 := S62.sub sub_all sub_all
    refine r_take 8 (.pointer (some ((Addr.mk gr16 0 none).add ((x.1 * ne + x.2) * 64)))) A61 T64 (g_assign (by kernel_rfl)) rfl rfl rfl (pf_then (pf_block pf_round)) (by kernel_rfl) (fun ac A65 => ?_)
    refine r_take 9 (.pointer (some ((Addr.mk gr16 0 none).add ((x.2 * ne + x.1) * 64)))) A65 T64 (g_assign (by kernel_rfl)) rfl rfl rfl (pf_then (pf_block pf_round)) (by kernel_rfl) (fun ac A66 => ?_)
    refine r_done (by kernel_rfl) ?_
    refine n_then ?_
    refine wpIn_seq ?_
    refine i_region (noOut_then (noOut_block noOut_body)) (by kernel_rfl) ?_
    refine s_one (.int .i64 0) A66 S62 (g_move (by kernel_rfl)) rfl (fun ac A67 => ?_)
    refine wpList_nil ?_
    refine n_then ?_
    refine wpIn_block ?_
    refine i_loopN (fun mm ac wc => ∃ (k : Nat), mm = 64 - k ∧ (k ≤ 64) ∧ ((decide (x.1 < x.2) && anyD (mi xs) ne nz x k) = false) ∧ Fr 69 ac [(9, .int .i64 (x.1 : Int)), (10, .int .i64 (x.2 : Int)), (29, .int .i64 (x.1 : Int)), (30, .int .i64 (x.2 : Int)), (0, .agg #[.int .i64 (ne : Int), .slice (some ad) n cap]), (1, .int .i64 nz), (2, .pointer (some ⟨g3, 0, none⟩)), (3, .pointer (some ⟨g7, 0, none⟩)), (4, .slice none 0 0), (5, .int .i64 0), (15, .agg #[.int .i64 (ne : Int), .slice (some ad) n cap]), (16, .tuple #[.pointer (some ⟨gm15, 0, none⟩), .int .i64 0]), (14, .tuple #[.pointer (some ⟨gm15, 0, none⟩), .int .i64 0]), (17, .pointer (some ⟨gm15, 0, none⟩)), (18, .int .i64 0), (6, .pointer (some ⟨g24, 0, none⟩)), (7, .int .i64 0), (20, .int .i64 0), (21, .bool (decide (0 ≠ 0))), (19, .bool (decide (0 ≠ 0))), (24, .int .i64 nz), (25, .bool (inB nz 0 4094)), (26, .bool (!(inB nz 0 4094))), (23, .bool (!(inB nz 0 4094))), (8, .pointer (some ⟨g40, 0, none⟩)), (27, .pointer (some ⟨gm15, 0, none⟩)), (28, .func (.func 86) #[.pointer (some ⟨gm15, 0, none⟩)] #[]), (31, .pointer (some ⟨gm15, 0, none⟩)), (32, .int .i64 (x.1 : Int)), (33, .int .i64 (x.2 : Int)), (35, .pointer (some ⟨gm15, 0, none⟩)), (36, .int .i64 (x.2 : Int)), (37, .int .i64 (x.1 : Int)), (34, .pointer (some ((Addr.mk gr16 0 none).add ((x.1 * ne + x.2) * 64)))), (38, .pointer (some ((Addr.mk gr16 0 none).add ((x.2 * ne + x.1) * 64)))), (11, .pointer (some ((Addr.mk gr16 0 none).add ((x.1 * ne + x.2) * 64)))), (12, .pointer (some ((Addr.mk gr16 0 none).add ((x.2 * ne + x.1) * 64)))), (39, .int .i64 (k : Int))] ∧ St ⟨w0, WB46⟩ [⟨g40, 22, #[v], true⟩, ⟨g24, 130, #[.pointer (some ⟨gm15, 0, none⟩)], true⟩, ⟨gm15, 137, #[.int .i64 (ne : Int), .slice (some (Addr.mk gr16 0 none)) (ne * ne) cp17], true⟩, ⟨g7, 3, #[.int .i64 nz], true⟩, ⟨g3, 30, #[.int .i64 (ne : Int), .slice (some ad) n cap], true⟩] [⟨v, 26, 2, (((pre).filter (unB (mi xs) ne nz)).length), (rowI (flP ((pre).filter (unB (mi xs) ne nz))))⟩, ⟨.slice (some (Addr.mk gr16 0 none)) (ne * ne) cp17, 123, 64, (ne * ne), (rowI (mi xs))⟩] wc) _ ⟨0, rfl, Nat.zero_le _, by simp [anyD], (A67.slot (A67.slot (A67.slot (A67.slot (A67.slot (A67.slot (A67.slot (A67.slot (A67.slot (A67.slot (A67.slot (A67.slot (A67.slot (A67.slot (A67.slot (A67.slot (A67.slot (A67.slot (A67.slot (A67.slot (A67.slot (A67.slot (A67.slot (A67.slot (A67.slot (A67.slot (A67.slot (A67.slot (A67.slot (A67.slot (A67.slot (A67.slot (A67.slot (A67.slot (A67.slot (A67.slot (A67.slot (A67.slot A67.nil (v := .int .i64 0) (by kernel_rfl) (congrArg (Value.int .i64) (by omega))) (v := .pointer (some ((Addr.mk gr16 0 none).add ((x.2 * ne + x.1) * 64)))) (by kernel_rfl) rfl) (v := .pointer (some ((Addr.mk gr16 0 none).add ((x.1 * ne + x.2) * 64)))) (by kernel_rfl) rfl) (v := .pointer (some ((Addr.mk gr16 0 none).add ((x.2 * ne + x.1) * 64)))) (by kernel_rfl) rfl) (v := .pointer (some ((Addr.mk gr16 0 none).add ((x.1 * ne + x.2) * 64)))) (by kernel_rfl) rfl) (v := .int .i64 (x.1 : Int)) (by kernel_rfl) rfl) (v := .int .i64 (x.2 : Int)) (by kernel_rfl) rfl) (v := .pointer (some ⟨gm15, 0, none⟩)) (by kernel_rfl) rfl) (v := .int .i64 (x.2 : Int)) (by kernel_rfl) rfl) (v := .int .i64 (x.1 : Int)) (by kernel_rfl) rfl) (v := .pointer (some ⟨gm15, 0, none⟩)) (by kernel_rfl) rfl) (v := .func (.func 86) #[.pointer (some ⟨gm15, 0, none⟩)] #[]) (by kernel_rfl) rfl) (v := .pointer (some ⟨gm15, 0, none⟩)) (by kernel_rfl) rfl) (v := .pointer (some ⟨g40, 0, none⟩)) (by kernel_rfl) rfl) (v := .bool (!(inB nz 0 4094))) (by kernel_rfl) rfl) (v := .bool (!(inB nz 0 4094))) (by kernel_rfl) rfl) (v := .bool (inB nz 0 4094)) (by kernel_rfl) rfl) (v := .int .i64 nz) (by kernel_rfl) rfl) (v := .bool (decide (0 ≠ 0))) (by kernel_rfl) rfl) (v := .bool (decide (0 ≠ 0))) (by kernel_rfl) rfl) (v := .int .i64 0) (by kernel_rfl) rfl) (v := .int .i64 0) (by kernel_rfl) rfl) (v := .pointer (some ⟨g24, 0, none⟩)) (by kernel_rfl) rfl) (v := .int .i64 0) (by kernel_rfl) rfl) (v := .pointer (some ⟨gm15, 0, none⟩)) (by kernel_rfl) rfl) (v := .tuple #[.pointer (some ⟨gm15, 0, none⟩), .int .i64 0]) (by kernel_rfl) rfl) (v := .tuple #[.pointer (some ⟨gm15, 0, none⟩), .int .i64 0]) (by kernel_rfl) rfl) (v := .agg #[.int .i64 (ne : Int), .slice (some ad) n cap]) (by kernel_rfl) rfl) (v := .int .i64 0) (by kernel_rfl) rfl) (v := .slice none 0 0) (by kernel_rfl) rfl) (v := .pointer (some ⟨g7, 0, none⟩)) (by kernel_rfl) rfl) (v := .pointer (some ⟨g3, 0, none⟩)) (by kernel_rfl) rfl) (v := .int .i64 nz) (by kernel_rfl) rfl) (v := .agg #[.int .i64 (ne : Int), .slice (some ad) n cap]) (by kernel_rfl) rfl) (v := .int .i64 (x.2 : Int)) (by kernel_rfl) rfl) (v := .int .i64 (x.1 : Int)) (by kernel_rfl) rfl) (v := .int .i64 (x.2 : Int)) (by kernel_rfl) rfl) (v := .int .i64 (x.1 : Int)) (by kernel_rfl) rfl), S62.sub sub_all sub_all⟩ ?_
    rintro mm ac wc ⟨k, hm70, hk, hu, A68, S69⟩
    have hb1 := HB ((x.1 * ne + x.2) * 64 + k)
    have hb2 := HB ((x.2 * ne + x.1) * 64 + k)
    refine wpIn_seq ?_
    refine i_region (noOut_then (noOut_then (noOut_block (noOut_block noOut_body)))) (by kernel_rfl) ?_
    refine s_one (.bool (decide ((k : Int) < 64))) A68 S69 (g_bin (u := .int .i64 (k : Int)) (k := .int .i64 64) (by kernel_rfl) (by kernel_rfl) (fun _ => by kernel_rfl) (fun _ => by kernel_rfl)) rfl (fun ac A71 => ?_)
    refine wpList_nil ?_
    refine n_then ?_
    refine wpIn_seq ?_
    refine i_ifb (b := (decide ((k : Int) < 64))) A71 (by kernel_rfl) (fun h72 => ?_) (fun h72 => ?_)
    · have p73 := of_decide_eq_true h72
      refine wpIn_skip ?_
      refine n_then ?_
      refine wpIn_seq ?_
      refine wpIn_block ?_
      refine wpIn_seq ?_
      refine i_region (noOut_then (noOut_block (noOut_then (noOut_then (noOut_block (noOut_block noOut_body)))))) (by kernel_rfl) ?_
      refine s_one (.int .i64 (k : Int)) A71 S69 (g_move (by kernel_rfl)) rfl (fun ac A74 => ?_)
      refine s_one (.int .i64 (k : Int)) A74 S69 (g_assign (by kernel_rfl)) rfl (fun ac A75 => ?_)
      refine wpList_nil ?_
      refine n_then ?_
      refine wpIn_seq ?_
      refine i_cut (fun ac wc => Fr 69 ac [(60, .bool ((decide ((x.1 : Int) < (x.2 : Int))) && (decide (mx (nthI (mi xs) ((x.1 * ne + x.2) * 64 + k) - (nthI (mi xs) ((x.2 * ne + x.1) * 64 + k))) (-(nthI (mi xs) ((x.1 * ne + x.2) * 64 + k) - (nthI (mi xs) ((x.2 * ne + x.1) * 64 + k)))) > nz)))), (9, .int .i64 (x.1 : Int)), (10, .int .i64 (x.2 : Int)), (29, .int .i64 (x.1 : Int)), (30, .int .i64 (x.2 : Int)), (0, .agg #[.int .i64 (ne : Int), .slice (some ad) n cap]), (1, .int .i64 nz), (2, .pointer (some ⟨g3, 0, none⟩)), (3, .pointer (some ⟨g7, 0, none⟩)), (4, .slice none 0 0), (5, .int .i64 0), (15, .agg #[.int .i64 (ne : Int), .slice (some ad) n cap]), (16, .tuple #[.pointer (some ⟨gm15, 0, none⟩), .int .i64 0]), (14, .tuple #[.pointer (some ⟨gm15, 0, none⟩), .int .i64 0]), (17, .pointer (some ⟨gm15, 0, none⟩)), (18, .int .i64 0), (6, .pointer (some ⟨g24, 0, none⟩)), (7, .int .i64 0), (20, .int .i64 0), (21, .bool (decide (0 ≠ 0))), (19, .bool (decide (0 ≠ 0))), (24, .int .i64 nz), (25, .bool (inB nz 0 4094)), (26, .bool (!(inB nz 0 4094))), (23, .bool (!(inB nz 0 4094))), (8, .pointer (some ⟨g40, 0, none⟩)), (27, .pointer (some ⟨gm15, 0, none⟩)), (28, .func (.func 86) #[.pointer (some ⟨gm15, 0, none⟩)] #[]), (31, .pointer (some ⟨gm15, 0, none⟩)), (32, .int .i64 (x.1 : Int)), (33, .int .i64 (x.2 : Int)), (35, .pointer (some ⟨gm15, 0, none⟩)), (36, .int .i64 (x.2 : Int)), (37, .int .i64 (x.1 : Int)), (34, .pointer (some ((Addr.mk gr16 0 none).add ((x.1 * ne + x.2) * 64)))), (38, .pointer (some ((Addr.mk gr16 0 none).add ((x.2 * ne + x.1) * 64)))), (11, .pointer (some ((Addr.mk gr16 0 none).add ((x.1 * ne + x.2) * 64)))), (12, .pointer (some ((Addr.mk gr16 0 none).add ((x.2 * ne + x.1) * 64)))), (39, .int .i64 (k : Int)), (40, .bool (decide ((k : Int) < 64))), (41, .int .i64 (k : Int)), (13, .int .i64 (k : Int))] ∧ St ⟨w0, WB46⟩ [⟨g40, 22, #[v], true⟩, ⟨g24, 130, #[.pointer (some ⟨gm15, 0, none⟩)], true⟩, ⟨gm15, 137, #[.int .i64 (ne : Int), .slice (some (Addr.mk gr16 0 none)) (ne * ne) cp17], true⟩, ⟨g7, 3, #[.int .i64 nz], true⟩, ⟨g3, 30, #[.int .i64 (ne : Int), .slice (some ad) n cap], true⟩] [⟨v, 26, 2, (((pre).filter (unB (mi xs) ne nz)).length), (rowI (flP ((pre).filter (unB (mi xs) ne nz))))⟩, ⟨.slice (some (Addr.mk gr16 0 none)) (ne * ne) cp17, 123, 64, (ne * ne), (rowI (mi xs))⟩] wc) ?_ ?_
      · refine i_begin (w0 := ⟨w0, WB46⟩) (by kernel_rfl) (noOut_then (noOut_then (noOut_block (noOut_then (noOut_then (noOut_block (noOut_block noOut_body))))))) (by kernel_rfl) (S69.sub sub_all sub_all) (fun wc T76 B77 => ?_)
        have S78 := S69.kept B77
        refine r_take 0 (.int .i64 (x.1 : Int)) A75 T76 (g_move (by kernel_rfl)) rfl rfl rfl (pf_then (pf_then (pf_block (pf_then (pf_then (pf_block (pf_block pf_round))))))) (by kernel_rfl) (fun ac A79 => ?_)
        refine r_take 1 (.int .i64 (x.2 : Int)) A79 T76 (g_move (by kernel_rfl)) rfl rfl rfl (pf_then (pf_then (pf_block (pf_then (pf_then (pf_block (pf_block pf_round))))))) (by kernel_rfl) (fun ac A80 => ?_)
        refine r_take 2 (.bool (decide ((x.1 : Int) < (x.2 : Int)))) A80 T76 (g_bin (u := .int .i64 (x.1 : Int)) (k := .int .i64 (x.2 : Int)) (by kernel_rfl) (by kernel_rfl) (fun _ => by kernel_rfl) (fun _ => by kernel_rfl)) rfl rfl rfl (pf_then (pf_then (pf_block (pf_then (pf_then (pf_block (pf_block pf_round))))))) (by kernel_rfl) (fun ac A81 => ?_)
        refine r_take 3 (.bool (decide ((x.1 : Int) < (x.2 : Int)))) A81 T76 (g_move (by kernel_rfl)) rfl rfl rfl (pf_then (pf_then (pf_block (pf_then (pf_then (pf_block (pf_block pf_round))))))) (by kernel_rfl) (fun ac A82 => ?_)
        refine by_bool (decide ((x.1 : Int) < (x.2 : Int))) (fun h83 => ?_) (fun h83 => ?_)
        · have p84 := of_decide_eq_true h83
          refine r_take 4 (.pointer (some ((Addr.mk gr16 0 none).add ((x.1 * ne + x.2) * 64)))) A82 T76 (g_move (by kernel_rfl)) rfl (want_t (dj := 45) (b := (decide ((x.1 : Int) < (x.2 : Int)))) A82 rfl (by kernel_rfl) (by kernel_rfl) h83) rfl (pf_then (pf_then (pf_block (pf_then (pf_then (pf_block (pf_block pf_round))))))) (by kernel_rfl) (fun ac A85 => ?_)
          refine r_take 5 (.int .i64 (k : Int)) A85 T76 (g_move (by kernel_rfl)) rfl (want_t (dj := 45) (b := (decide ((x.1 : Int) < (x.2 : Int)))) A85 rfl (by kernel_rfl) (by kernel_rfl) h83) rfl (pf_then (pf_then (pf_block (pf_then (pf_then (pf_block (pf_block pf_round))))))) (by kernel_rfl) (fun ac A86 => ?_)
          refine r_take 6 (.pointer (some ((Addr.mk gr16 0 none).add ((x.1 * ne + x.2) * 64)))) A86 T76 (g_nil (by kernel_rfl)) rfl (want_t (dj := 45) (b := (decide ((x.1 : Int) < (x.2 : Int)))) A86 rfl (by kernel_rfl) (by kernel_rfl) h83) rfl (pf_then (pf_then (pf_block (pf_then (pf_then (pf_block (pf_block pf_round))))))) (by kernel_rfl) (fun ac A87 => ?_)
          refine r_take 7 (.pointer (some ((Addr.mk gr16 0 none).add ((x.1 * ne + x.2) * 64 + k)))) A87 T76 (g_index (u := .pointer (some ((Addr.mk gr16 0 none).add ((x.1 * ne + x.2) * 64)))) (k := .int .i64 (k : Int)) (by kernel_rfl) (by kernel_rfl) (ix_xarr (len := 64) (size := 1) (y := (x.1 * ne + x.2) * 64 + k) k (by kernel_rfl) (by omega) (by omega) (by omega))) rfl (want_t (dj := 45) (b := (decide ((x.1 : Int) < (x.2 : Int)))) A87 rfl (by kernel_rfl) (by kernel_rfl) h83) rfl (pf_then (pf_then (pf_block (pf_then (pf_then (pf_block (pf_block pf_round))))))) (by kernel_rfl) (fun ac A88 => ?_)
          refine r_take 8 (.int .i64 (nthI (mi xs) ((x.1 * ne + x.2) * 64 + k))) A88 T76 (g_loadRI (l := mi xs) (k := (x.1 * ne + x.2) * 64 + k) 1 (by kernel_rfl) rfl (by have hlen := hml; omega) (by kernel_rfl)) rfl (want_t (dj := 45) (b := (decide ((x.1 : Int) < (x.2 : Int)))) A88 rfl (by kernel_rfl) (by kernel_rfl) h83) rfl (pf_then (pf_then (pf_block (pf_then (pf_then (pf_block (pf_block pf_round))))))) (by kernel_rfl) (fun ac A89 => ?_)
          refine r_take 9 (.pointer (some ((Addr.mk gr16 0 none).add ((x.2 * ne + x.1) * 64)))) A89 T76 (g_move (by kernel_rfl)) rfl (want_t (dj := 45) (b := (decide ((x.1 : Int) < (x.2 : Int)))) A89 rfl (by kernel_rfl) (by kernel_rfl) h83) rfl (pf_then (pf_then (pf_block (pf_then (pf_then (pf_block (pf_block pf_round))))))) (by kernel_rfl) (fun ac A90 => ?_)
          refine r_take 10 (.int .i64 (k : Int)) A90 T76 (g_move (by kernel_rfl)) rfl (want_t (dj := 45) (b := (decide ((x.1 : Int) < (x.2 : Int)))) A90 rfl (by kernel_rfl) (by kernel_rfl) h83) rfl (pf_then (pf_then (pf_block (pf_then (pf_then (pf_block (pf_block pf_round))))))) (by kernel_rfl) (fun ac A91 => ?_)
          refine r_take 11 (.pointer (some ((Addr.mk gr16 0 none).add ((x.2 * ne + x.1) * 64)))) A91 T76 (g_nil (by kernel_rfl)) rfl (want_t (dj := 45) (b := (decide ((x.1 : Int) < (x.2 : Int)))) A91 rfl (by kernel_rfl) (by kernel_rfl) h83) rfl (pf_then (pf_then (pf_block (pf_then (pf_then (pf_block (pf_block pf_round))))))) (by kernel_rfl) (fun ac A92 => ?_)
          refine r_take 12 (.pointer (some ((Addr.mk gr16 0 none).add ((x.2 * ne + x.1) * 64 + k)))) A92 T76 (g_index (u := .pointer (some ((Addr.mk gr16 0 none).add ((x.2 * ne + x.1) * 64)))) (k := .int .i64 (k : Int)) (by kernel_rfl) (by kernel_rfl) (ix_xarr (len := 64) (size := 1) (y := (x.2 * ne + x.1) * 64 + k) k (by kernel_rfl) (by omega) (by omega) (by omega))) rfl (want_t (dj := 45) (b := (decide ((x.1 : Int) < (x.2 : Int)))) A92 rfl (by kernel_rfl) (by kernel_rfl) h83) rfl (pf_then (pf_then (pf_block (pf_then (pf_then (pf_block (pf_block pf_round))))))) (by kernel_rfl) (fun ac A93 => ?_)
          refine r_take 13 (.int .i64 (nthI (mi xs) ((x.2 * ne + x.1) * 64 + k))) A93 T76 (g_loadRI (l := mi xs) (k := (x.2 * ne + x.1) * 64 + k) 1 (by kernel_rfl) rfl (by have hlen := hml; omega) (by kernel_rfl)) rfl (want_t (dj := 45) (b := (decide ((x.1 : Int) < (x.2 : Int)))) A93 rfl (by kernel_rfl) (by kernel_rfl) h83) rfl (pf_then (pf_then (pf_block (pf_then (pf_then (pf_block (pf_block pf_round))))))) (by kernel_rfl) (fun ac A94 => ?_)
          refine r_take 14 (.int .i64 (nthI (mi xs) ((x.1 * ne + x.2) * 64 + k) - (nthI (mi xs) ((x.2 * ne + x.1) * 64 + k)))) A94 T76 (g_bin (u := .int .i64 (nthI (mi xs) ((x.1 * ne + x.2) * 64 + k))) (k := .int .i64 (nthI (mi xs) ((x.2 * ne + x.1) * 64 + k))) (by kernel_rfl) (by kernel_rfl) (fun _ => by kernel_rfl) (b_sub (by omega))) rfl (want_t (dj := 45) (b := (decide ((x.1 : Int) < (x.2 : Int)))) A94 rfl (by kernel_rfl) (by kernel_rfl) h83) rfl (pf_then (pf_then (pf_block (pf_then (pf_then (pf_block (pf_block pf_round))))))) (by kernel_rfl) (fun ac A95 => ?_)
          refine r_take 16 (.int .i64 nz) A95 T76 (g_load (g := g7) (off := 0) 3 (by kernel_rfl) rfl (by kernel_rfl)) rfl (want_t (dj := 45) (b := (decide ((x.1 : Int) < (x.2 : Int)))) A95 rfl (by kernel_rfl) (by kernel_rfl) h83) rfl (pf_then (pf_then (pf_block (pf_then (pf_then (pf_block (pf_block pf_round))))))) (by kernel_rfl) (fun ac A96 => ?_)
          refine r_1 (i := 15) (by kernel_rfl) ?_
          refine rs_call (fs := #[]) (cp := #[]) (r := [(0, .int .i64 (nthI (mi xs) ((x.1 * ne + x.2) * 64 + k) - (nthI (mi xs) ((x.2 * ne + x.1) * 64 + k))))]) #[.int .i64 (nthI (mi xs) ((x.1 * ne + x.2) * 64 + k) - (nthI (mi xs) ((x.2 * ne + x.1) * 64 + k)))] (.int .i64 (mx (nthI (mi xs) ((x.1 * ne + x.2) * 64 + k) - (nthI (mi xs) ((x.2 * ne + x.1) * 64 + k))) (-(nthI (mi xs) ((x.1 * ne + x.2) * 64 + k) - (nthI (mi xs) ((x.2 * ne + x.1) * 64 + k)))))) A96 S78 sub_all sub_all (size_s (nthI (mi xs) ((x.1 * ne + x.2) * 64 + k) - (nthI (mi xs) ((x.2 * ne + x.1) * 64 + k))) _ (by omega)) Try.call89 rfl (want_t (dj := 45) (b := (decide ((x.1 : Int) < (x.2 : Int)))) A96 rfl (by kernel_rfl) (by kernel_rfl) h83) (by kernel_rfl) (by kernel_rfl) (by kernel_rfl) rfl (fun ac wc A97 S98 => ?_)
          have T100 := S98.sub sub_all sub_all
          refine r_take 17 (.bool (decide (mx (nthI (mi xs) ((x.1 * ne + x.2) * 64 + k) - (nthI (mi xs) ((x.2 * ne + x.1) * 64 + k))) (-(nthI (mi xs) ((x.1 * ne + x.2) * 64 + k) - (nthI (mi xs) ((x.2 * ne + x.1) * 64 + k)))) > nz))) A97 T100 (g_bin (u := .int .i64 (mx (nthI (mi xs) ((x.1 * ne + x.2) * 64 + k) - (nthI (mi xs) ((x.2 * ne + x.1) * 64 + k))) (-(nthI (mi xs) ((x.1 * ne + x.2) * 64 + k) - (nthI (mi xs) ((x.2 * ne + x.1) * 64 + k)))))) (k := .int .i64 nz) (by kernel_rfl) (by kernel_rfl) (fun _ => by kernel_rfl) (fun _ => by kernel_rfl)) rfl (want_t (dj := 45) (b := (decide ((x.1 : Int) < (x.2 : Int)))) A97 rfl (by kernel_rfl) (by kernel_rfl) h83) rfl (pf_then (pf_then (pf_block (pf_then (pf_then (pf_block (pf_block pf_round))))))) (by kernel_rfl) (fun ac A101 => ?_)
          refine r_take 18 (.bool (decide (mx (nthI (mi xs) ((x.1 * ne + x.2) * 64 + k) - (nthI (mi xs) ((x.2 * ne + x.1) * 64 + k))) (-(nthI (mi xs) ((x.1 * ne + x.2) * 64 + k) - (nthI (mi xs) ((x.2 * ne + x.1) * 64 + k)))) > nz))) A101 T100 (g_pick_t (b := (decide ((x.1 : Int) < (x.2 : Int)))) (by kernel_rfl) h83 (by kernel_rfl)) rfl rfl rfl (pf_then (pf_then (pf_block (pf_then (pf_then (pf_block (pf_block pf_round))))))) (by kernel_rfl) (fun ac A102 => ?_)
          refine r_done (by kernel_rfl) ?_
          refine n_then ?_
          exact ⟨(A102.slot (A102.slot (A102.slot (A102.slot (A102.slot (A102.slot (A102.slot (A102.slot (A102.slot (A102.slot (A102.slot (A102.slot (A102.slot (A102.slot (A102.slot (A102.slot (A102.slot (A102.slot (A102.slot (A102.slot (A102.slot (A102.slot (A102.slot (A102.slot (A102.slot (A102.slot (A102.slot (A102.slot (A102.slot (A102.slot (A102.slot (A102.slot (A102.slot (A102.slot (A102.slot (A102.slot (A102.slot (A102.slot (A102.slot (A102.slot (A102.slot (A102.slot A102.nil (v := .int .i64 (k : Int)) (by kernel_rfl) rfl) (v := .int .i64 (k : Int)) (by kernel_rfl) rfl) (v := .bool (decide ((k : Int) < 64))) (by kernel_rfl) rfl) (v := .int .i64 (k : Int)) (by kernel_rfl) rfl) (v := .pointer (some ((Addr.mk gr16 0 none).add ((x.2 * ne + x.1) * 64)))) (by kernel_rfl) rfl) (v := .pointer (some ((Addr.mk gr16 0 none).add ((x.1 * ne + x.2) * 64)))) (by kernel_rfl) rfl) (v := .pointer (some ((Addr.mk gr16 0 none).add ((x.2 * ne + x.1) * 64)))) (by kernel_rfl) rfl) (v := .pointer (some ((Addr.mk gr16 0 none).add ((x.1 * ne + x.2) * 64)))) (by kernel_rfl) rfl) (v := .int .i64 (x.1 : Int)) (by kernel_rfl) rfl) (v := .int .i64 (x.2 : Int)) (by kernel_rfl) rfl) (v := .pointer (some ⟨gm15, 0, none⟩)) (by kernel_rfl) rfl) (v := .int .i64 (x.2 : Int)) (by kernel_rfl) rfl) (v := .int .i64 (x.1 : Int)) (by kernel_rfl) rfl) (v := .pointer (some ⟨gm15, 0, none⟩)) (by kernel_rfl) rfl) (v := .func (.func 86) #[.pointer (some ⟨gm15, 0, none⟩)] #[]) (by kernel_rfl) rfl) (v := .pointer (some ⟨gm15, 0, none⟩)) (by kernel_rfl) rfl) (v := .pointer (some ⟨g40, 0, none⟩)) (by kernel_rfl) rfl) (v := .bool (!(inB nz 0 4094))) (by kernel_rfl) rfl) (v := .bool (!(inB nz 0 4094))) (by kernel_rfl) rfl) (v := .bool (inB nz 0 4094)) (by kernel_rfl) rfl) (v := .int .i64 nz) (by kernel_rfl) rfl) (v := .bool (decide (0 ≠ 0))) (by kernel_rfl) rfl) (v := .bool (decide (0 ≠ 0))) (by kernel_rfl) rfl) (v := .int .i64 0) (by kernel_rfl) rfl) (v := .int .i64 0) (by kernel_rfl) rfl) (v := .pointer (some ⟨g24, 0, none⟩)) (by kernel_rfl) rfl) (v := .int .i64 0) (by kernel_rfl) rfl) (v := .pointer (some ⟨gm15, 0, none⟩)) (by kernel_rfl) rfl) (v := .tuple #[.pointer (some ⟨gm15, 0, none⟩), .int .i64 0]) (by kernel_rfl) rfl) (v := .tuple #[.pointer (some ⟨gm15, 0, none⟩), .int .i64 0]) (by kernel_rfl) rfl) (v := .agg #[.int .i64 (ne : Int), .slice (some ad) n cap]) (by kernel_rfl) rfl) (v := .int .i64 0) (by kernel_rfl) rfl) (v := .slice none 0 0) (by kernel_rfl) rfl) (v := .pointer (some ⟨g7, 0, none⟩)) (by kernel_rfl) rfl) (v := .pointer (some ⟨g3, 0, none⟩)) (by kernel_rfl) rfl) (v := .int .i64 nz) (by kernel_rfl) rfl) (v := .agg #[.int .i64 (ne : Int), .slice (some ad) n cap]) (by kernel_rfl) rfl) (v := .int .i64 (x.2 : Int)) (by kernel_rfl) rfl) (v := .int .i64 (x.1 : Int)) (by kernel_rfl) rfl) (v := .int .i64 (x.2 : Int)) (by kernel_rfl) rfl) (v := .int .i64 (x.1 : Int)) (by kernel_rfl) rfl) (v := .bool (decide (mx (nthI (mi xs) ((x.1 * ne + x.2) * 64 + k) - (nthI (mi xs) ((x.2 * ne + x.1) * 64 + k))) (-(nthI (mi xs) ((x.1 * ne + x.2) * 64 + k) - (nthI (mi xs) ((x.2 * ne + x.1) * 64 + k)))) > nz))) (by kernel_rfl) (congrArg Value.bool (b_and_t h83 (Eq.refl (decide (mx (nthI (mi xs) ((x.1 * ne + x.2) * 64 + k) - (nthI (mi xs) ((x.2 * ne + x.1) * 64 + k))) (-(nthI (mi xs) ((x.1 * ne + x.2) * 64 + k) - (nthI (mi xs) ((x.2 * ne + x.1) * 64 + k)))) > nz)))).symm)), S98.sub sub_all sub_all⟩
        · have p103 := of_decide_eq_false h83
          refine r_skip 4 A82 T76 rfl (want_f (dj := 45) (b := (decide ((x.1 : Int) < (x.2 : Int)))) A82 rfl (by kernel_rfl) (by kernel_rfl) h83) rfl (pf_then (pf_then (pf_block (pf_then (pf_then (pf_block (pf_block pf_round))))))) (by kernel_rfl) (fun ac A104 => ?_)
          refine r_skip 5 A104 T76 rfl (want_f (dj := 45) (b := (decide ((x.1 : Int) < (x.2 : Int)))) A104 rfl (by kernel_rfl) (by kernel_rfl) h83) rfl (pf_then (pf_then (pf_block (pf_then (pf_then (pf_block (pf_block pf_round))))))) (by kernel_rfl) (fun ac A105 => ?_)
          refine r_skip 6 A105 T76 rfl (want_f (dj := 45) (b := (decide ((x.1 : Int) < (x.2 : Int)))) A105 rfl (by kernel_rfl) (by kernel_rfl) h83) rfl (pf_then (pf_then (pf_block (pf_then (pf_then (pf_block (pf_block pf_round))))))) (by kernel_rfl) (fun ac A106 => ?_)
          refine r_skip 7 A106 T76 rfl (want_f (dj := 45) (b := (decide ((x.1 : Int) < (x.2 : Int)))) A106 rfl (by kernel_rfl) (by kernel_rfl) h83) rfl (pf_then (pf_then (pf_block (pf_then (pf_then (pf_block (pf_block pf_round))))))) (by kernel_rfl) (fun ac A107 => ?_)
          refine r_skip 8 A107 T76 rfl (want_f (dj := 45) (b := (decide ((x.1 : Int) < (x.2 : Int)))) A107 rfl (by kernel_rfl) (by kernel_rfl) h83) rfl (pf_then (pf_then (pf_block (pf_then (pf_then (pf_block (pf_block pf_round))))))) (by kernel_rfl) (fun ac A108 => ?_)
          refine r_skip 9 A108 T76 rfl (want_f (dj := 45) (b := (decide ((x.1 : Int) < (x.2 : Int)))) A108 rfl (by kernel_rfl) (by kernel_rfl) h83) rfl (pf_then (pf_then (pf_block (pf_then (pf_then (pf_block (pf_block pf_round))))))) (by kernel_rfl) (fun ac A109 => ?_)
          refine r_skip 10 A109 T76 rfl (want_f (dj := 45) (b := (decide ((x.1 : Int) < (x.2 : Int)))) A109 rfl (by kernel_rfl) (by kernel_rfl) h83) rfl (pf_then (pf_then (pf_block (pf_then (pf_then (pf_block (pf_block pf_round))))))) (by kernel_rfl) (fun ac A110 => ?_)
          refine r_skip 11 A110 T76 rfl (want_f (dj := 45) (b := (decide ((x.1 : Int) < (x.2 : Int)))) A110 rfl (by kernel_rfl) (by kernel_rfl) h83) rfl (pf_then (pf_then (pf_block (pf_then (pf_then (pf_block (pf_block pf_round))))))) (by kernel_rfl) (fun ac A111 => ?_)
          refine r_skip 12 A111 T76 rfl (want_f (dj := 45) (b := (decide ((x.1 : Int) < (x.2 : Int)))) A111 rfl (by kernel_rfl) (by kernel_rfl) h83) rfl (pf_then (pf_then (pf_block (pf_then (pf_then (pf_block (pf_block pf_round))))))) (by kernel_rfl) (fun ac A112 => ?_)
          refine r_skip 13 A112 T76 rfl (want_f (dj := 45) (b := (decide ((x.1 : Int) < (x.2 : Int)))) A112 rfl (by kernel_rfl) (by kernel_rfl) h83) rfl (pf_then (pf_then (pf_block (pf_then (pf_then (pf_block (pf_block pf_round))))))) (by kernel_rfl) (fun ac A113 => ?_)
          refine r_skip 14 A113 T76 rfl (want_f (dj := 45) (b := (decide ((x.1 : Int) < (x.2 : Int)))) A113 rfl (by kernel_rfl) (by kernel_rfl) h83) rfl (pf_then (pf_then (pf_block (pf_then (pf_then (pf_block (pf_block pf_round))))))) (by kernel_rfl) (fun ac A114 => ?_)
          refine r_skip 15 A114 T76 rfl (want_f (dj := 45) (b := (decide ((x.1 : Int) < (x.2 : Int)))) A114 rfl (by kernel_rfl) (by kernel_rfl) h83) rfl (pf_then (pf_then (pf_block (pf_then (pf_then (pf_block (pf_block pf_round))))))) (by kernel_rfl) (fun ac A115 => ?_)
          refine r_skip 16 A115 T76 rfl (want_f (dj := 45) (b := (decide ((x.1 : Int) < (x.2 : Int)))) A115 rfl (by kernel_rfl) (by kernel_rfl) h83) rfl (pf_then (pf_then (pf_block (pf_then (pf_then (pf_block (pf_block pf_round))))))) (by kernel_rfl) (fun ac A116 => ?_)
          refine r_skip 17 A116 T76 rfl (want_f (dj := 45) (b := (decide ((x.1 : Int) < (x.2 : Int)))) A116 rfl (by kernel_rfl) (by kernel_rfl) h83) rfl (pf_then (pf_then (pf_block (pf_then (pf_then (pf_block (pf_block pf_round))))))) (by kernel_rfl) (fun ac A117 => ?_)
          refine r_take 18 (.bool false) A117 T76 (g_pick_f (b := (decide ((x.1 : Int) < (x.2 : Int)))) (by kernel_rfl) h83 (by kernel_rfl)) rfl rfl rfl (pf_then (pf_then (pf_block (pf_then (pf_then (pf_block (pf_block pf_round))))))) (by kernel_rfl) (fun ac A118 => ?_)
          refine r_done (by kernel_rfl) ?_
          refine n_then ?_
          exact ⟨(A118.slot (A118.slot (A118.slot (A118.slot (A118.slot (A118.slot (A118.slot (A118.slot (A118.slot (A118.slot (A118.slot (A118.slot (A118.slot (A118.slot (A118.slot (A118.slot (A118.slot (A118.slot (A118.slot (A118.slot (A118.slot (A118.slot (A118.slot (A118.slot (A118.slot (A118.slot (A118.slot (A118.slot (A118.slot (A118.slot (A118.slot (A118.slot (A118.slot (A118.slot (A118.slot (A118.slot (A118.slot (A118.slot (A118.slot (A118.slot (A118.slot (A118.slot A118.nil (v := .int .i64 (k : Int)) (by kernel_rfl) rfl) (v := .int .i64 (k : Int)) (by kernel_rfl) rfl) (v := .bool (decide ((k : Int) < 64))) (by kernel_rfl) rfl) (v := .int .i64 (k : Int)) (by kernel_rfl) rfl) (v := .pointer (some ((Addr.mk gr16 0 none).add ((x.2 * ne + x.1) * 64)))) (by kernel_rfl) rfl) (v := .pointer (some ((Addr.mk gr16 0 none).add ((x.1 * ne + x.2) * 64)))) (by kernel_rfl) rfl) (v := .pointer (some ((Addr.mk gr16 0 none).add ((x.2 * ne + x.1) * 64)))) (by kernel_rfl) rfl) (v := .pointer (some ((Addr.mk gr16 0 none).add ((x.1 * ne + x.2) * 64)))) (by kernel_rfl) rfl) (v := .int .i64 (x.1 : Int)) (by kernel_rfl) rfl) (v := .int .i64 (x.2 : Int)) (by kernel_rfl) rfl) (v := .pointer (some ⟨gm15, 0, none⟩)) (by kernel_rfl) rfl) (v := .int .i64 (x.2 : Int)) (by kernel_rfl) rfl) (v := .int .i64 (x.1 : Int)) (by kernel_rfl) rfl) (v := .pointer (some ⟨gm15, 0, none⟩)) (by kernel_rfl) rfl) (v := .func (.func 86) #[.pointer (some ⟨gm15, 0, none⟩)] #[]) (by kernel_rfl) rfl) (v := .pointer (some ⟨gm15, 0, none⟩)) (by kernel_rfl) rfl) (v := .pointer (some ⟨g40, 0, none⟩)) (by kernel_rfl) rfl) (v := .bool (!(inB nz 0 4094))) (by kernel_rfl) rfl) (v := .bool (!(inB nz 0 4094))) (by kernel_rfl) rfl) (v := .bool (inB nz 0 4094)) (by kernel_rfl) rfl) (v := .int .i64 nz) (by kernel_rfl) rfl) (v := .bool (decide (0 ≠ 0))) (by kernel_rfl) rfl) (v := .bool (decide (0 ≠ 0))) (by kernel_rfl) rfl) (v := .int .i64 0) (by kernel_rfl) rfl) (v := .int .i64 0) (by kernel_rfl) rfl) (v := .pointer (some ⟨g24, 0, none⟩)) (by kernel_rfl) rfl) (v := .int .i64 0) (by kernel_rfl) rfl) (v := .pointer (some ⟨gm15, 0, none⟩)) (by kernel_rfl) rfl) (v := .tuple #[.pointer (some ⟨gm15, 0, none⟩), .int .i64 0]) (by kernel_rfl) rfl) (v := .tuple #[.pointer (some ⟨gm15, 0, none⟩), .int .i64 0]) (by kernel_rfl) rfl) (v := .agg #[.int .i64 (ne : Int), .slice (some ad) n cap]) (by kernel_rfl) rfl) (v := .int .i64 0) (by kernel_rfl) rfl) (v := .slice none 0 0) (by kernel_rfl) rfl) (v := .pointer (some ⟨g7, 0, none⟩)) (by kernel_rfl) rfl) (v := .pointer (some ⟨g3, 0, none⟩)) (by kernel_rfl) rfl) (v := .int .i64 nz) (by kernel_rfl) rfl) (v := .agg #[.int .i64 (ne : Int), .slice (some ad) n cap]) (by kernel_rfl) rfl) (v := .int .i64 (x.2 : Int)) (by kernel_rfl) rfl) (v := .int .i64 (x.1 : Int)) (by kernel_rfl) rfl) (v := .int .i64 (x.2 : Int)) (by kernel_rfl) rfl) (v := .int .i64 (x.1 : Int)) (by kernel_rfl) rfl) (v := .bool false) (by kernel_rfl) (congrArg Value.bool (b_af1 h83).symm)), S78.sub sub_all sub_all⟩
      · rintro ac wc ⟨A119, S120⟩
        refine n_then ?_
        refine i_ifb (b := ((decide ((x.1 : Int) < (x.2 : Int))) && (decide (mx (nthI (mi xs) ((x.1 * ne + x.2) * 64 + k) - (nthI (mi xs) ((x.2 * ne + x.1) * 64 + k))) (-(nthI (mi xs) ((x.1 * ne + x.2) * 64 + k) - (nthI (mi xs) ((x.2 * ne + x.1) * 64 + k)))) > nz)))) A119 (by kernel_rfl) (fun h121 => ?_) (fun h121 => ?_)
        · have h122 := (Bool.and_eq_true_iff.1 h121).1
          have p123 := of_decide_eq_true h122
          have h124 := (Bool.and_eq_true_iff.1 h121).2
          have p125 := of_decide_eq_true h124
          refine wpIn_seq ?_
          refine i_region (noOut_then (noOut_block (noOut_then (noOut_then (noOut_block (noOut_block noOut_body)))))) (by kernel_rfl) ?_
          refine s_one (v) A119 S120 (g_load (g := g40) (off := 0) 0 (by kernel_rfl) rfl (by kernel_rfl)) rfl (fun ac A126 => ?_)
          refine s_one (.int .i64 (x.1 : Int)) A126 S120 (g_move (by kernel_rfl)) rfl (fun ac A127 => ?_)
          refine s_one (.int .i64 (x.2 : Int)) A127 S120 (g_move (by kernel_rfl)) rfl (fun ac A128 => ?_)
          refine s_one (.agg #[.int .i64 (x.1 : Int), .int .i64 (x.2 : Int)]) A128 S120 (g_build (r := [(0, .int .i64 (x.1 : Int)), (1, .int .i64 (x.2 : Int))]) (by kernel_rfl) (fun _ => by kernel_rfl)) rfl (fun ac A129 => ?_)
          refine s_bs (e := 26) (r := [(0, .agg #[.int .i64 (x.1 : Int), .int .i64 (x.2 : Int)])]) (#[.int .i64 (x.1 : Int), .int .i64 (x.2 : Int)]) A129 S120 (by kernel_rfl) (by kernel_rfl) rfl (fun g132 ac wc A130 S131 => ?_)
          refine s_append (e := 26) (size := 2) (bytes := 16) (v := v) (g := g132) (m' := 1) (c := 1) 0 0 [.int .i64 (x.1 : Int), .int .i64 (x.2 : Int)] A130 S131 (by kernel_rfl) (by kernel_rfl) (by kernel_rfl) rfl rfl (by kernel_rfl) rfl (by kernel_rfl) (by omega) (by omega) rfl (fun v136 ac wc A133 S134 => ?_)
          obtain ⟨A137, cap138, rfl⟩ := row_slice (v := v136) (m := ((pre).filter (unB (mi xs) ne nz)).length + 1) (S134.row 0 rfl)
          refine s_store (g := g40) (off := 0) (v := .slice A137 (((pre).filter (unB (mi xs) ne nz)).length + 1) cap138) 1 (#[.slice A137 (((pre).filter (unB (mi xs) ne nz)).length + 1) cap138]) A133 S134 (by kernel_rfl) (by kernel_rfl) rfl (by kernel_rfl) (fun wc S140 => ?_)
          refine wpList_nil ?_
          refine n_then ?_
          refine wpIn_exit ?_
          refine x_miss rfl ?_
          refine x_then ?_
          refine x_then ?_
          refine x_hit ?_
          refine n_block ?_
          refine r_end (w0 := w0) S140 (KpG.cons (S140.get 3 rfl) KpG.nil) (fun SE => ?_)
          exact ⟨.slice A137 (((pre).filter (unB (mi xs) ne nz)).length + 1) cap138, (St.rerow 0 (St.recell 1 SE rfl (by rfl)) rfl ⟨by rw [sel_y (unB_y (by omega) h121), List.length_append]; rfl, by rw [sel_y (unB_y (by omega) h121)]; exact flP_snoc _ _ _⟩).sub (sub_skip sub_all) sub_all⟩
        · refine wpIn_skip ?_
          refine n_block ?_
          refine n_then ?_
          refine i_region (noOut_then (noOut_block (noOut_block noOut_body))) (by kernel_rfl) ?_
          refine s_one (.int .i64 ((k : Int) + 1)) A119 S120 (g_bin (u := .int .i64 (k : Int)) (k := .int .i64 1) (by kernel_rfl) (by kernel_rfl) (fun _ => by kernel_rfl) (b_add (by omega))) rfl (fun ac A142 => ?_)
          refine s_one (.int .i64 ((k : Int) + 1)) A142 S120 (g_move (by kernel_rfl)) rfl (fun ac A143 => ?_)
          refine wpList_nil ?_
          refine n_then ?_
          refine ⟨_, ⟨k + 1, rfl, by omega, unK_n hu h121, (A143.slot (A143.slot (A143.slot (A143.slot (A143.slot (A143.slot (A143.slot (A143.slot (A143.slot (A143.slot (A143.slot (A143.slot (A143.slot (A143.slot (A143.slot (A143.slot (A143.slot (A143.slot (A143.slot (A143.slot (A143.slot (A143.slot (A143.slot (A143.slot (A143.slot (A143.slot (A143.slot (A143.slot (A143.slot (A143.slot (A143.slot (A143.slot (A143.slot (A143.slot (A143.slot (A143.slot (A143.slot (A143.slot A143.nil (v := .int .i64 ((k : Int) + 1)) (by kernel_rfl) (congrArg (Value.int .i64) (by omega))) (v := .pointer (some ((Addr.mk gr16 0 none).add ((x.2 * ne + x.1) * 64)))) (by kernel_rfl) rfl) (v := .pointer (some ((Addr.mk gr16 0 none).add ((x.1 * ne + x.2) * 64)))) (by kernel_rfl) rfl) (v := .pointer (some ((Addr.mk gr16 0 none).add ((x.2 * ne + x.1) * 64)))) (by kernel_rfl) rfl) (v := .pointer (some ((Addr.mk gr16 0 none).add ((x.1 * ne + x.2) * 64)))) (by kernel_rfl) rfl) (v := .int .i64 (x.1 : Int)) (by kernel_rfl) rfl) (v := .int .i64 (x.2 : Int)) (by kernel_rfl) rfl) (v := .pointer (some ⟨gm15, 0, none⟩)) (by kernel_rfl) rfl) (v := .int .i64 (x.2 : Int)) (by kernel_rfl) rfl) (v := .int .i64 (x.1 : Int)) (by kernel_rfl) rfl) (v := .pointer (some ⟨gm15, 0, none⟩)) (by kernel_rfl) rfl) (v := .func (.func 86) #[.pointer (some ⟨gm15, 0, none⟩)] #[]) (by kernel_rfl) rfl) (v := .pointer (some ⟨gm15, 0, none⟩)) (by kernel_rfl) rfl) (v := .pointer (some ⟨g40, 0, none⟩)) (by kernel_rfl) rfl) (v := .bool (!(inB nz 0 4094))) (by kernel_rfl) rfl) (v := .bool (!(inB nz 0 4094))) (by kernel_rfl) rfl) (v := .bool (inB nz 0 4094)) (by kernel_rfl) rfl) (v := .int .i64 nz) (by kernel_rfl) rfl) (v := .bool (decide (0 ≠ 0))) (by kernel_rfl) rfl) (v := .bool (decide (0 ≠ 0))) (by kernel_rfl) rfl) (v := .int .i64 0) (by kernel_rfl) rfl) (v := .int .i64 0) (by kernel_rfl) rfl) (v := .pointer (some ⟨g24, 0, none⟩)) (by kernel_rfl) rfl) (v := .int .i64 0) (by kernel_rfl) rfl) (v := .pointer (some ⟨gm15, 0, none⟩)) (by kernel_rfl) rfl) (v := .tuple #[.pointer (some ⟨gm15, 0, none⟩), .int .i64 0]) (by kernel_rfl) rfl) (v := .tuple #[.pointer (some ⟨gm15, 0, none⟩), .int .i64 0]) (by kernel_rfl) rfl) (v := .agg #[.int .i64 (ne : Int), .slice (some ad) n cap]) (by kernel_rfl) rfl) (v := .int .i64 0) (by kernel_rfl) rfl) (v := .slice none 0 0) (by kernel_rfl) rfl) (v := .pointer (some ⟨g7, 0, none⟩)) (by kernel_rfl) rfl) (v := .pointer (some ⟨g3, 0, none⟩)) (by kernel_rfl) rfl) (v := .int .i64 nz) (by kernel_rfl) rfl) (v := .agg #[.int .i64 (ne : Int), .slice (some ad) n cap]) (by kernel_rfl) rfl) (v := .int .i64 (x.2 : Int)) (by kernel_rfl) rfl) (v := .int .i64 (x.1 : Int)) (by kernel_rfl) rfl) (v := .int .i64 (x.2 : Int)) (by kernel_rfl) rfl) (v := .int .i64 (x.1 : Int)) (by kernel_rfl) rfl), S120.sub sub_all sub_all⟩, ?_⟩
          omega
    · have p144 := of_decide_eq_false h72
      refine wpIn_exit ?_
      refine x_then ?_
      refine x_then ?_
      refine x_hit ?_
      refine n_block ?_
      have e64 : k = 64 := by omega
      rw [e64] at hu
      refine r_end (w0 := w0) S69 (KpG.cons (S69.get 2 rfl) KpG.nil) (fun SE => ?_)
      exact ⟨v, (St.rerow 0 SE rfl ⟨by rw [sel_n (show unB (mi xs) ne nz (x.1, x.2) = false from hu)], by rw [sel_n (show unB (mi xs) ne nz (x.1, x.2) = false from hu)]⟩).sub sub_all sub_all⟩
  · rintro D145 a' WD146 hD147 ⟨v, hS⟩ hK148 HA149
    have SD150 := St.begin hS
    refine n_block ?_
    refine n_then ?_
    refine wp_seq ?_
    refine wp_region_lit ?_
    refine s_one (v) HA149 SD150 (g_load (g := g40) (off := 0) 0 (by kernel_rfl) rfl (by kernel_rfl)) rfl (fun ac A151 => ?_)
    refine s_one (v) A151 SD150 (g_assign (by kernel_rfl)) rfl (fun ac A152 => ?_)
    refine s_one (.int .i64 0) A152 SD150 (g_assign (by kernel_rfl)) rfl (fun ac A153 => ?_)
    refine wpList_nil ?_
    refine n_then ?_
    refine wp_ret ?_
    refine m_ret (w0 := w0) A153 SD150 hK148 hD147 (fun ac wc A154 S155 => ?_)
    obtain ⟨A156, cap157, rfl⟩ := row_slice (v := v) (m := (((pairsOf ne)).filter (unB (mi xs) ne nz)).length) (S155.row 0 rfl)
    refine fin2 (.slice A156 ((((pairsOf ne)).filter (unB (mi xs) ne nz)).length) cap157) (.int .i64 0) Try.results43 A154 S155 (rv_tmp (by kernel_rfl)) (rv_tmp (by kernel_rfl)) ?_
    have bw := S155.kp
    have ow := S155.row 0 rfl
    exact ⟨_, rfl, bw, ow⟩
  · exact fun _ _ _ _ _ h => h.elim

end Go.Proofs.Ytcijkniijomcjaa
