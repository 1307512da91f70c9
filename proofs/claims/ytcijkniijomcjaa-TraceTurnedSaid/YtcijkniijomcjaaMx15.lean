/- Matrices turned round. -/
import Derived.Test.YtcijkniijomcjaaMx14
namespace Go.Proofs.Ytcijkniijomcjaa
open Go.RowKit Go.Cpl

/-- A matrix turned round, by so many pairs. -/
def trL (l : List Int) (n : Nat) (ps : List (Nat × Nat)) : List Int := ps.flatMap fun p => cutN l ((p.2 * n + p.1) * 64) 64
theorem trL_length (l : List Int) (n : Nat) (ps : List (Nat × Nat)) : (trL l n ps).length = ps.length * 64 := by
  induction ps with
  | nil => rfl
  | cons p ps ih => simp only [trL, List.flatMap_cons, List.length_append, cutN_length, List.length_cons] at ih ⊢; omega
theorem trL_snoc {l : List Int} {n : Nat} {ps : List (Nat × Nat)} {f r : Nat} : rowI (trL l n ps) ++ rowI (cutN l ((r * n + f) * 64) 64) = rowI (trL l n (ps ++ [(f, r)])) := by
  rw [rowI_app]; simp [trL]
theorem trL_app (l : List Int) (n : Nat) (ps qs : List (Nat × Nat)) : trL l n (ps ++ qs) = trL l n ps ++ trL l n qs := by simp [trL]

set_option maxRecDepth 100000 in
set_option maxHeartbeats 400000 in
theorem Transposed_err (el : Int) (A : Option Addr) (n cap : Nat) (xs : List Nat) (w0 : World) (hn : xs.length = n) (hr : FReads w0 A xs) (hm : n ≤ 1000) (h0 : (mxC el xs).2 ≠ 0) :
    Calls Try.prog 42 #[.agg #[.int .i64 el, .slice A n cap]] w0 fun e w' => ∃ v, e = .returned (.tuple #[.agg #[.int .i64 0, v], .int .i64 ((mxC el xs).2)]) ∧ Below w0.heap.size w0 w' ∧ w'.ownsRow w0.heap.size 36 1 v 0 [] := by
  have S0 := St.start w0
  refine enterM (n := 45) Try.func42 rfl rfl rfl (fun ac A0 => ?_)
  refine wp_seq ?_
  refine wp_region_lit ?_
  refine s_box (.agg #[.int .i64 el, .slice A n cap]) A0 S0 (by kernel_rfl) rfl (fun g3 ac wc A1 S2 => ?_)
  replace S2 : St _ (⟨g3, 30, #[.int .i64 el, .slice A n cap], true⟩ :: _) _ _ := S2
  refine s_alloc (#[.int .i64 0, .slice none 0 0]) A1 S2 (by kernel_rfl) rfl (fun g7 ac wc A5 S6 => ?_)
  refine s_one (.int .i64 0) A5 S6 (g_assign (by kernel_rfl)) rfl (fun ac A8 => ?_)
  refine wpList_nil ?_
  refine n_then ?_
  refine wp_seq ?_
  refine wp_region_lit ?_
  refine s_one (.agg #[.int .i64 el, .slice A n cap]) A8 S6 (g_load (g := g3) (off := 0) 1 (by kernel_rfl) rfl (by kernel_rfl)) rfl (fun ac A9 => ?_)
  refine s_call (fs := #[]) (cp := #[]) (r := [(0, .agg #[.int .i64 el, .slice A n cap])]) #[.agg #[.int .i64 el, .slice A n cap]] (.tuple #[.pointer none, .int .i64 ((mxC el xs).2)]) A9 S6 (open_err el A n cap xs _ hn (hr.kept S6.kp) (by omega) h0) Try.call72 (by kernel_rfl) (by kernel_rfl) (by kernel_rfl) rfl (fun ac wc A10 S11 => ?_)
  refine s_one (.tuple #[.pointer none, .int .i64 ((mxC el xs).2)]) A10 S11 (g_move (by kernel_rfl)) rfl (fun ac A13 => ?_)
  refine s_one (.pointer none) A13 S11 (g_extract (u := .tuple #[.pointer none, .int .i64 ((mxC el xs).2)]) (by kernel_rfl) (fun _ => by kernel_rfl)) rfl (fun ac A14 => ?_)
  refine s_one (.int .i64 ((mxC el xs).2)) A14 S11 (g_extract (u := .tuple #[.pointer none, .int .i64 ((mxC el xs).2)]) (by kernel_rfl) (fun _ => by kernel_rfl)) rfl (fun ac A15 => ?_)
  refine s_alloc (#[.pointer none]) A15 S11 (by kernel_rfl) rfl (fun g18 ac wc A16 S17 => ?_)
  refine s_store (g := g18) (off := 0) (v := .pointer none) 0 (#[.pointer none]) A16 S17 (by kernel_rfl) (by kernel_rfl) rfl (by kernel_rfl) (fun wc S20 => ?_)
  refine s_one (.int .i64 ((mxC el xs).2)) A16 S20 (g_assign (by kernel_rfl)) rfl (fun ac A22 => ?_)
  refine wpList_nil ?_
  refine n_then ?_
  refine wp_seq ?_
  refine wp_seq ?_
  refine wp_region_lit ?_
  refine s_one (.int .i64 ((mxC el xs).2)) A22 S20 (g_move (by kernel_rfl)) rfl (fun ac A23 => ?_)
  refine s_one (.bool (decide ((mxC el xs).2 ≠ 0))) A23 S20 (g_bin (u := .int .i64 ((mxC el xs).2)) (k := .int .i64 0) (by kernel_rfl) (by kernel_rfl) (fun _ => by kernel_rfl) b_neq) rfl (fun ac A24 => ?_)
  refine wpList_nil ?_
  refine n_then ?_
  refine c_t (b := (decide ((mxC el xs).2 ≠ 0))) A24 (by kernel_rfl) (decide_eq_true h0) ?_
  refine wp_seq ?_
  refine wp_region_lit ?_
  refine s_one (.agg #[.int .i64 0, .slice none 0 0]) A24 S20 (g_build (r := []) (by kernel_rfl) (fun _ => by kernel_rfl)) rfl (fun ac A25 => ?_)
  refine s_one (.int .i64 ((mxC el xs).2)) A25 S20 (g_move (by kernel_rfl)) rfl (fun ac A26 => ?_)
  refine s_store (g := g7) (off := 0) (v := .agg #[.int .i64 0, .slice none 0 0]) 1 (#[.int .i64 0, .slice none 0 0]) A26 S20 (by kernel_rfl) (by kernel_rfl) rfl (by kernel_rfl) (fun wc S28 => ?_)
  refine s_one (.int .i64 ((mxC el xs).2)) A26 S28 (g_assign (by kernel_rfl)) rfl (fun ac A30 => ?_)
  refine wpList_nil ?_
  refine n_then ?_
  refine wp_ret ?_
  refine r_then ?_
  refine m_ret0 A30 ?_
  have S31 := S28.nilRow 36 1
  refine fin2 (.agg #[.int .i64 0, .slice none 0 0]) (.int .i64 ((mxC el xs).2)) Try.results42 A30 S31 (rv_cell (g := g7) (off := 0) 1 (by kernel_rfl) rfl (by kernel_rfl)) (rv_tmp (by kernel_rfl)) ?_
  have bw := S31.kp
  have ow := S31.row 0 rfl
  exact ⟨_, rfl, bw, ow⟩

set_option maxRecDepth 100000 in
set_option maxHeartbeats 400000 in
theorem Transposed_ok (ne n cap : Nat) (ad : Addr) (xs : List Nat) (w0 : World) (hn : xs.length = n) (hr : FReads w0 (some ad) xs) (hm : n ≤ 1000) (hcp : n ≤ cap) (h1 : 1 ≤ ne) (hne : n = ne * ne * 64) (h0 : (mxC (ne : Int) xs).2 = 0) :
    Calls Try.prog 42 #[.agg #[.int .i64 (ne : Int), .slice (some ad) n cap]] w0 fun e w' => ∃ v, e = .returned (.tuple #[.agg #[.int .i64 (ne : Int), v], .int .i64 0]) ∧ Below w0.heap.size w0 w' ∧ w'.ownsRow w0.heap.size 36 1 v (ne * ne * 64) (rowF (fw (trL (mi xs) ne (pairsOf ne)))) := by
  have S0 := St.start w0
  have hR : Right xs := right_of (mxC_0 h0).2.2
  have hpos : 0 < ne * ne := Nat.mul_pos h1 h1
  have hml : (mi xs).length = ne * ne * 64 := by rw [mi_length, hn, hne]
  have hne3 : ne ≤ 3 := by rcases Nat.lt_or_ge 3 ne with q | q; have := Nat.mul_le_mul q q; omega; exact q
  have hee : ne * ne ≤ 15 := by omega
  refine enterM (n := 45) Try.func42 rfl rfl rfl (fun ac A0 => ?_)
  refine wp_seq ?_
  refine wp_region_lit ?_
  refine s_box (.agg #[.int .i64 (ne : Int), .slice (some ad) n cap]) A0 S0 (by kernel_rfl) rfl (fun g3 ac wc A1 S2 => ?_)
  replace S2 : St _ (⟨g3, 30, #[.int .i64 (ne : Int), .slice (some ad) n cap], true⟩ :: _) _ _ := S2
  refine s_alloc (#[.int .i64 0, .slice none 0 0]) A1 S2 (by kernel_rfl) rfl (fun g7 ac wc A5 S6 => ?_)
  refine s_one (.int .i64 0) A5 S6 (g_assign (by kernel_rfl)) rfl (fun ac A8 => ?_)
  refine wpList_nil ?_
  refine n_then ?_
  refine wp_seq ?_
  refine wp_region_lit ?_
  refine s_one (.agg #[.int .i64 (ne : Int), .slice (some ad) n cap]) A8 S6 (g_load (g := g3) (off := 0) 1 (by kernel_rfl) rfl (by kernel_rfl)) rfl (fun ac A9 => ?_)
  refine s_callSt (T := Nat × Nat × Nat) (fs := #[]) (cp := #[]) (r := [(0, .agg #[.int .i64 (ne : Int), .slice (some ad) n cap])]) #[.agg #[.int .i64 (ne : Int), .slice (some ad) n cap]] (fun u => .tuple #[.pointer (some ⟨u.1, 0, none⟩), .int .i64 0]) (fun u => [⟨u.1, 137, #[.int .i64 (ne : Int), .slice (some (Addr.mk u.2.1 0 none)) (ne * ne) u.2.2], true⟩]) (fun u => [⟨.slice (some (Addr.mk u.2.1 0 none)) (ne * ne) u.2.2, 123, 64, (ne * ne), (rowI (mi xs))⟩]) A9 S6 (open_ok ne n cap ad xs _ hn (hr.kept S6.kp) hm hcp h1 hne h0) (fun u x hx => by simp only [List.mem_cons, List.not_mem_nil, or_false] at hx; subst hx; rfl) Try.call72 (by kernel_rfl) (by kernel_rfl) (by kernel_rfl) rfl (fun u16 ac wc A10 S11 => ?_)
  obtain ⟨gm13, gr14, cp15⟩ := u16
  replace S11 : St w0 [⟨gm13, 137, #[.int .i64 (ne : Int), .slice (some (Addr.mk gr14 0 none)) (ne * ne) cp15], true⟩, ⟨g7, 30, #[.int .i64 0, .slice none 0 0], true⟩, ⟨g3, 30, #[.int .i64 (ne : Int), .slice (some ad) n cap], true⟩] [⟨.slice (some (Addr.mk gr14 0 none)) (ne * ne) cp15, 123, 64, (ne * ne), (rowI (mi xs))⟩] _ := S11
  refine s_one (.tuple #[.pointer (some ⟨gm13, 0, none⟩), .int .i64 0]) A10 S11 (g_move (by kernel_rfl)) rfl (fun ac A17 => ?_)
  refine s_one (.pointer (some ⟨gm13, 0, none⟩)) A17 S11 (g_extract (u := .tuple #[.pointer (some ⟨gm13, 0, none⟩), .int .i64 0]) (by kernel_rfl) (fun _ => by kernel_rfl)) rfl (fun ac A18 => ?_)
  refine s_one (.int .i64 0) A18 S11 (g_extract (u := .tuple #[.pointer (some ⟨gm13, 0, none⟩), .int .i64 0]) (by kernel_rfl) (fun _ => by kernel_rfl)) rfl (fun ac A19 => ?_)
  refine s_alloc (#[.pointer none]) A19 S11 (by kernel_rfl) rfl (fun g22 ac wc A20 S21 => ?_)
  refine s_store (g := g22) (off := 0) (v := .pointer (some ⟨gm13, 0, none⟩)) 0 (#[.pointer (some ⟨gm13, 0, none⟩)]) A20 S21 (by kernel_rfl) (by kernel_rfl) rfl (by kernel_rfl) (fun wc S24 => ?_)
  refine s_one (.int .i64 0) A20 S24 (g_assign (by kernel_rfl)) rfl (fun ac A26 => ?_)
  refine wpList_nil ?_
  refine n_then ?_
  refine wp_seq ?_
  refine wp_seq ?_
  refine wp_region_lit ?_
  refine s_one (.int .i64 0) A26 S24 (g_move (by kernel_rfl)) rfl (fun ac A27 => ?_)
  refine s_one (.bool (decide (0 ≠ 0))) A27 S24 (g_bin (u := .int .i64 0) (k := .int .i64 0) (by kernel_rfl) (by kernel_rfl) (fun _ => by kernel_rfl) b_neq) rfl (fun ac A28 => ?_)
  refine wpList_nil ?_
  refine n_then ?_
  refine c_f (b := (decide (0 ≠ 0))) A28 (by kernel_rfl) (by decide) ?_
  refine wp_skip ?_
  refine n_then ?_
  refine wp_seq ?_
  refine wp_region_lit ?_
  refine s_one (.pointer (some ⟨gm13, 0, none⟩)) A28 S24 (g_load (g := g22) (off := 0) 0 (by kernel_rfl) rfl (by kernel_rfl)) rfl (fun ac A29 => ?_)
  refine s_one (.pointer (some ⟨gm13, 0, none⟩)) A29 S24 (g_nil (by kernel_rfl)) rfl (fun ac A30 => ?_)
  refine s_one (.pointer (some ⟨gm13, 0, none⟩)) A30 S24 (g_field (u := .pointer (some ⟨gm13, 0, none⟩)) (by kernel_rfl) (fun _ => by kernel_rfl)) rfl (fun ac A31 => ?_)
  refine s_one (.int .i64 (ne : Int)) A31 S24 (g_load (g := gm13) (off := 0) 1 (by kernel_rfl) rfl (by kernel_rfl)) rfl (fun ac A32 => ?_)
  refine s_one (.agg #[.int .i64 (ne : Int), .slice none 0 0]) A32 S24 (g_build (r := [(0, .int .i64 (ne : Int))]) (by kernel_rfl) (fun _ => by kernel_rfl)) rfl (fun ac A33 => ?_)
  refine s_box (.agg #[.int .i64 (ne : Int), .slice none 0 0]) A33 S24 (by kernel_rfl) rfl (fun g36 ac wc A34 S35 => ?_)
  replace S35 : St _ (⟨g36, 137, #[.int .i64 (ne : Int), .slice none 0 0], true⟩ :: _) _ _ := S35
  refine s_alloc (#[.pointer none]) A34 S35 (by kernel_rfl) rfl (fun g40 ac wc A38 S39 => ?_)
  refine s_store (g := g40) (off := 0) (v := .pointer (some ⟨g36, 0, none⟩)) 0 (#[.pointer (some ⟨g36, 0, none⟩)]) A38 S39 (by kernel_rfl) (by kernel_rfl) rfl (by kernel_rfl) (fun wc S42 => ?_)
  refine wpList_nil ?_
  refine n_then ?_
  refine wp_seq ?_
  refine wp_seq ?_
  refine wp_region_lit ?_
  refine s_one (.pointer (some ⟨gm13, 0, none⟩)) A38 S42 (g_load (g := g22) (off := 0) 2 (by kernel_rfl) rfl (by kernel_rfl)) rfl (fun ac A44 => ?_)
  refine s_one (.func (.func 86) #[.pointer (some ⟨gm13, 0, none⟩)] #[]) A44 S42 (g_func (us := [(0, .pointer (some ⟨gm13, 0, none⟩))]) (vs := []) (by kernel_rfl) (by kernel_rfl) (fun _ => by kernel_rfl)) rfl (fun ac A45 => ?_)
  refine wpList_nil ?_
  refine n_then ?_
  refine wp_block ?_
  refine c_range (α := Nat × Nat) (gf := 86) (fs := #[.pointer (some ⟨gm13, 0, none⟩)]) (lb := #[]) (encs := fun x => #[.int .i64 (x.1 : Int), .int .i64 (x.2 : Int)]) (G := [⟨gm13, 137, #[.int .i64 (ne : Int), .slice (some (Addr.mk gr14 0 none)) (ne * ne) cp15], true⟩]) (xs := pairsOf ne) A45 S42 (by kernel_rfl) Try.call86 (List.forall_mem_cons.2 ⟨S42.get 3 rfl, (List.forall_mem_nil _)⟩) (all_seq gm13 ne (.slice (some (Addr.mk gr14 0 none)) (ne * ne) cp15) true (by omega)) (fun _ => rfl) (fun x => [(26, .int .i64 (x.1 : Int)), (27, .int .i64 (x.2 : Int))]) (fun _ => (by first | rfl | simp)) (fun _ => (List.forall_mem_cons.2 ⟨(show 26 < 45 by decide), (List.forall_mem_cons.2 ⟨(show 27 < 45 by decide), (List.forall_mem_nil _)⟩)⟩)) (fun pre W => ∃ (v : Value), St w0 [⟨g40, 130, #[.pointer (some ⟨g36, 0, none⟩)], true⟩, ⟨g36, 137, #[.int .i64 (ne : Int), v], true⟩, ⟨g22, 130, #[.pointer (some ⟨gm13, 0, none⟩)], true⟩, ⟨gm13, 137, #[.int .i64 (ne : Int), .slice (some (Addr.mk gr14 0 none)) (ne * ne) cp15], true⟩, ⟨g7, 30, #[.int .i64 0, .slice none 0 0], true⟩, ⟨g3, 30, #[.int .i64 (ne : Int), .slice (some ad) n cap], true⟩] [⟨v, 123, 64, pre.length, (rowI (trL (mi xs) ne pre))⟩, ⟨.slice (some (Addr.mk gr14 0 none)) (ne * ne) cp15, 123, 64, (ne * ne), (rowI (mi xs))⟩] W) (fun _ _ => False) ?_ ?_ ?_ ?_ (fun x => [(7, .int .i64 (x.1 : Int)), (8, .int .i64 (x.2 : Int)), (26, .int .i64 (x.1 : Int)), (27, .int .i64 (x.2 : Int)), (0, .agg #[.int .i64 (ne : Int), .slice (some ad) n cap]), (1, .pointer (some ⟨g3, 0, none⟩)), (2, .pointer (some ⟨g7, 0, none⟩)), (3, .int .i64 0), (10, .agg #[.int .i64 (ne : Int), .slice (some ad) n cap]), (11, .tuple #[.pointer (some ⟨gm13, 0, none⟩), .int .i64 0]), (9, .tuple #[.pointer (some ⟨gm13, 0, none⟩), .int .i64 0]), (12, .pointer (some ⟨gm13, 0, none⟩)), (13, .int .i64 0), (4, .pointer (some ⟨g22, 0, none⟩)), (5, .int .i64 0), (14, .int .i64 0), (15, .bool (decide (0 ≠ 0))), (18, .pointer (some ⟨gm13, 0, none⟩)), (19, .pointer (some ⟨gm13, 0, none⟩)), (20, .pointer (some ⟨gm13, 0, none⟩)), (21, .int .i64 (ne : Int)), (22, .agg #[.int .i64 (ne : Int), .slice none 0 0]), (23, .pointer (some ⟨g36, 0, none⟩)), (6, .pointer (some ⟨g40, 0, none⟩)), (24, .pointer (some ⟨gm13, 0, none⟩)), (25, .func (.func 86) #[.pointer (some ⟨gm13, 0, none⟩)] #[])]) ?_ ?_ ?_ ?_
  · rintro pre W W' row ⟨v, hS⟩ hg hr
    exact ⟨v, St.round hS hg hr⟩
  · rintro pre W W' ⟨v, hS⟩ hb
    exact ⟨v, hS.kept hb⟩
  · exact fun _ _ _ _ h _ _ => h
  · have S46 := S42.nilRow 123 64
    exact ⟨.slice none 0 0, (St.rerow 0 (St.recell 1 S46 rfl (by rfl)) rfl ⟨rfl, rfl⟩).sub sub_all sub_all⟩
  · intro l x a' WA K HA HK
    have SA := St.start WA
    replace HA : Fr 45 a' [(27, .int .i64 (x.2 : Int)), (26, .int .i64 (x.1 : Int)), (0, .agg #[.int .i64 (ne : Int), .slice (some ad) n cap]), (1, .pointer (some ⟨g3, 0, none⟩)), (2, .pointer (some ⟨g7, 0, none⟩)), (3, .int .i64 0), (10, .agg #[.int .i64 (ne : Int), .slice (some ad) n cap]), (11, .tuple #[.pointer (some ⟨gm13, 0, none⟩), .int .i64 0]), (9, .tuple #[.pointer (some ⟨gm13, 0, none⟩), .int .i64 0]), (12, .pointer (some ⟨gm13, 0, none⟩)), (13, .int .i64 0), (4, .pointer (some ⟨g22, 0, none⟩)), (5, .int .i64 0), (14, .int .i64 0), (15, .bool (decide (0 ≠ 0))), (18, .pointer (some ⟨gm13, 0, none⟩)), (19, .pointer (some ⟨gm13, 0, none⟩)), (20, .pointer (some ⟨gm13, 0, none⟩)), (21, .int .i64 (ne : Int)), (22, .agg #[.int .i64 (ne : Int), .slice none 0 0]), (23, .pointer (some ⟨g36, 0, none⟩)), (6, .pointer (some ⟨g40, 0, none⟩)), (24, .pointer (some ⟨gm13, 0, none⟩)), (25, .func (.func 86) #[.pointer (some ⟨gm13, 0, none⟩)] #[])] := (HA.slot (HA.slot (HA.slot (HA.slot (HA.slot (HA.slot (HA.slot (HA.slot (HA.slot (HA.slot (HA.slot (HA.slot (HA.slot (HA.slot (HA.slot (HA.slot (HA.slot (HA.slot (HA.slot (HA.slot (HA.slot (HA.slot (HA.slot (HA.slot HA.nil (v := .func (.func 86) #[.pointer (some ⟨gm13, 0, none⟩)] #[]) (by kernel_rfl) rfl) (v := .pointer (some ⟨gm13, 0, none⟩)) (by kernel_rfl) rfl) (v := .pointer (some ⟨g40, 0, none⟩)) (by kernel_rfl) rfl) (v := .pointer (some ⟨g36, 0, none⟩)) (by kernel_rfl) rfl) (v := .agg #[.int .i64 (ne : Int), .slice none 0 0]) (by kernel_rfl) rfl) (v := .int .i64 (ne : Int)) (by kernel_rfl) rfl) (v := .pointer (some ⟨gm13, 0, none⟩)) (by kernel_rfl) rfl) (v := .pointer (some ⟨gm13, 0, none⟩)) (by kernel_rfl) rfl) (v := .pointer (some ⟨gm13, 0, none⟩)) (by kernel_rfl) rfl) (v := .bool (decide (0 ≠ 0))) (by kernel_rfl) rfl) (v := .int .i64 0) (by kernel_rfl) rfl) (v := .int .i64 0) (by kernel_rfl) rfl) (v := .pointer (some ⟨g22, 0, none⟩)) (by kernel_rfl) rfl) (v := .int .i64 0) (by kernel_rfl) rfl) (v := .pointer (some ⟨gm13, 0, none⟩)) (by kernel_rfl) rfl) (v := .tuple #[.pointer (some ⟨gm13, 0, none⟩), .int .i64 0]) (by kernel_rfl) rfl) (v := .tuple #[.pointer (some ⟨gm13, 0, none⟩), .int .i64 0]) (by kernel_rfl) rfl) (v := .agg #[.int .i64 (ne : Int), .slice (some ad) n cap]) (by kernel_rfl) rfl) (v := .int .i64 0) (by kernel_rfl) rfl) (v := .pointer (some ⟨g7, 0, none⟩)) (by kernel_rfl) rfl) (v := .pointer (some ⟨g3, 0, none⟩)) (by kernel_rfl) rfl) (v := .agg #[.int .i64 (ne : Int), .slice (some ad) n cap]) (by kernel_rfl) rfl) (v := .int .i64 (x.1 : Int)) (by kernel_rfl) rfl) (v := .int .i64 (x.2 : Int)) (by kernel_rfl) rfl)
    refine wpIn_seq ?_
    refine i_region (noOut_then noOut_assign) (by kernel_rfl) ?_
    refine s_one (.int .i64 (x.1 : Int)) HA SA (g_assign (by kernel_rfl)) rfl (fun ac A47 => ?_)
    refine wpList_nil ?_
    refine n_then ?_
    refine i_region noOut_assign (by kernel_rfl) ?_
    refine s_one (.int .i64 (x.2 : Int)) A47 SA (g_assign (by kernel_rfl)) rfl (fun ac A48 => ?_)
    refine wpList_nil ?_
    refine n_then ?_
    exact HK _ (A48.slot (A48.slot (A48.slot (A48.slot (A48.slot (A48.slot (A48.slot (A48.slot (A48.slot (A48.slot (A48.slot (A48.slot (A48.slot (A48.slot (A48.slot (A48.slot (A48.slot (A48.slot (A48.slot (A48.slot (A48.slot (A48.slot (A48.slot (A48.slot (A48.slot (A48.slot A48.nil (v := .func (.func 86) #[.pointer (some ⟨gm13, 0, none⟩)] #[]) (by kernel_rfl) rfl) (v := .pointer (some ⟨gm13, 0, none⟩)) (by kernel_rfl) rfl) (v := .pointer (some ⟨g40, 0, none⟩)) (by kernel_rfl) rfl) (v := .pointer (some ⟨g36, 0, none⟩)) (by kernel_rfl) rfl) (v := .agg #[.int .i64 (ne : Int), .slice none 0 0]) (by kernel_rfl) rfl) (v := .int .i64 (ne : Int)) (by kernel_rfl) rfl) (v := .pointer (some ⟨gm13, 0, none⟩)) (by kernel_rfl) rfl) (v := .pointer (some ⟨gm13, 0, none⟩)) (by kernel_rfl) rfl) (v := .pointer (some ⟨gm13, 0, none⟩)) (by kernel_rfl) rfl) (v := .bool (decide (0 ≠ 0))) (by kernel_rfl) rfl) (v := .int .i64 0) (by kernel_rfl) rfl) (v := .int .i64 0) (by kernel_rfl) rfl) (v := .pointer (some ⟨g22, 0, none⟩)) (by kernel_rfl) rfl) (v := .int .i64 0) (by kernel_rfl) rfl) (v := .pointer (some ⟨gm13, 0, none⟩)) (by kernel_rfl) rfl) (v := .tuple #[.pointer (some ⟨gm13, 0, none⟩), .int .i64 0]) (by kernel_rfl) rfl) (v := .tuple #[.pointer (some ⟨gm13, 0, none⟩), .int .i64 0]) (by kernel_rfl) rfl) (v := .agg #[.int .i64 (ne : Int), .slice (some ad) n cap]) (by kernel_rfl) rfl) (v := .int .i64 0) (by kernel_rfl) rfl) (v := .pointer (some ⟨g7, 0, none⟩)) (by kernel_rfl) rfl) (v := .pointer (some ⟨g3, 0, none⟩)) (by kernel_rfl) rfl) (v := .agg #[.int .i64 (ne : Int), .slice (some ad) n cap]) (by kernel_rfl) rfl) (v := .int .i64 (x.2 : Int)) (by kernel_rfl) rfl) (v := .int .i64 (x.1 : Int)) (by kernel_rfl) rfl) (v := .int .i64 (x.2 : Int)) (by kernel_rfl) rfl) (v := .int .i64 (x.1 : Int)) (by kernel_rfl) rfl)
  · rintro l pre x rest a' WB49 hx ⟨v, hS⟩ HA
    have SB50 := St.begin hS
    obtain ⟨hx1, hx2, hx3⟩ := pairs_next hx
    have hxk : x.1 * ne + x.2 < ne * ne := pair_lt hx1 hx2
    have hxr : x.2 * ne + x.1 < ne * ne := pair_lt hx2 hx1
    have hpl := pre_len hx
    refine wpIn_block ?_
    refine i_begin (w0 := ⟨w0, WB49⟩) (by kernel_rfl) (noOut_block noOut_body) (by kernel_rfl) (SB50.sub (sub_keep (sub_skip sub_all)) sub_nil) (fun wc T51 B52 => ?_)
    have S53 := SB50.kept B52
    refine r_take 0 (.pointer (some ⟨g36, 0, none⟩)) HA T51 (g_load (g := g40) (off := 0) 0 (by kernel_rfl) rfl (by kernel_rfl)) rfl rfl rfl (pf_block pf_round) (by kernel_rfl) (fun ac A54 => ?_)
    refine r_take 1 (.pointer (some ⟨g36, 0, none⟩)) A54 T51 (g_load (g := g40) (off := 0) 0 (by kernel_rfl) rfl (by kernel_rfl)) rfl rfl rfl (pf_block pf_round) (by kernel_rfl) (fun ac A55 => ?_)
    refine r_take 2 (.pointer (some ⟨g36, 0, none⟩)) A55 T51 (g_nil (by kernel_rfl)) rfl rfl rfl (pf_block pf_round) (by kernel_rfl) (fun ac A56 => ?_)
    refine r_take 3 (.pointer (some ⟨g36, 1, none⟩)) A56 T51 (g_field (u := .pointer (some ⟨g36, 0, none⟩)) (by kernel_rfl) (fun _ => by kernel_rfl)) rfl rfl rfl (pf_block pf_round) (by kernel_rfl) (fun ac A57 => ?_)
    refine r_take 5 (.pointer (some ⟨gm13, 0, none⟩)) A57 T51 (g_load (g := g22) (off := 0) 1 (by kernel_rfl) rfl (by kernel_rfl)) rfl rfl rfl (pf_block pf_round) (by kernel_rfl) (fun ac A58 => ?_)
    refine r_take 6 (.int .i64 (x.2 : Int)) A58 T51 (g_move (by kernel_rfl)) rfl rfl rfl (pf_block pf_round) (by kernel_rfl) (fun ac A59 => ?_)
    refine r_take 7 (.int .i64 (x.1 : Int)) A59 T51 (g_move (by kernel_rfl)) rfl rfl rfl (pf_block pf_round) (by kernel_rfl) (fun ac A60 => ?_)
    refine r_2 (i := 4) (j := 8) (by kernel_rfl) ?_ ?_
    · refine rs_gives (v) A60 S53 (sub_keep (sub_skip sub_all)) sub_nil (g_load (g := g36) (off := 1) 1 (by kernel_rfl) rfl (by kernel_rfl)) rfl rfl rfl (fun ac A61 => ?_)
      refine r_1 (i := 8) (by kernel_rfl) ?_
      refine rs_call (fs := #[]) (cp := #[]) (r := [(0, .pointer (some ⟨gm13, 0, none⟩)), (0, .int .i64 (x.2 : Int)), (0, .int .i64 (x.1 : Int))]) #[.pointer (some ⟨gm13, 0, none⟩), .int .i64 (x.2 : Int), .int .i64 (x.1 : Int)] (.pointer (some ((Addr.mk gr14 0 none).add ((x.2 * ne + x.1) * 64)))) A61 S53 (sub_keep (sub_skip sub_all)) sub_nil (mat_at gm13 ne (ne * ne) cp15 x.2 x.1 (Addr.mk gr14 0 none) (mi xs) _ (S53.get 3 rfl) (by have hlen := hml; omega) hxr (by omega)) Try.call73 rfl rfl (by kernel_rfl) (by kernel_rfl) (by kernel_rfl) rfl (fun ac wc A65 S66 => ?_)
      have T68 := S66.sub (sub_keep (sub_skip sub_all)) sub_nil
      refine r_take 9 (.pointer (some ((Addr.mk gr14 0 none).add ((x.2 * ne + x.1) * 64)))) A65 T68 (g_nil (by kernel_rfl)) rfl rfl rfl (pf_block pf_round) (by kernel_rfl) (fun ac A69 => ?_)
      refine r_1 (i := 10) (by kernel_rfl) ?_
      refine rs_gives (.agg (ints (cutN (mi xs) ((x.2 * ne + x.1) * 64) 64))) A69 S66 (sub_keep (sub_skip sub_all)) sub_nil (g_loadRN (l := mi xs) (k := (x.2 * ne + x.1) * 64) 1 64 (by kernel_rfl) rfl (by have hlen := hml; omega) (by kernel_rfl)) rfl rfl rfl (fun ac A70 => ?_)
      refine r_1 (i := 11) (by kernel_rfl) ?_
      refine rs_bs (e := 123) (r := [(0, .agg (ints (cutN (mi xs) ((x.2 * ne + x.1) * 64) 64)))]) (ints (cutN (mi xs) ((x.2 * ne + x.1) * 64) 64)) A70 S66 (sub_keep (sub_skip sub_all)) sub_nil (by kernel_rfl) (bsRow_one (bytes := 512) (by kernel_rfl) ((ints_size _).trans (cutN_length _ _ _)) (by decide)) rfl rfl rfl (fun g76 ac wc A74 S75 => ?_)
      have T77 := S75.sub (sub_skip (sub_keep (sub_skip sub_all))) sub_nil
      refine r_1 (i := 12) (by kernel_rfl) ?_
      refine rs_append (e := 123) (size := 64) (bytes := 512) (v := v) (g := g76) (m' := 1) (c := 1) 0 0 (rowI (cutN (mi xs) ((x.2 * ne + x.1) * 64) 64)) A74 S75 (sub_skip (sub_keep (sub_skip sub_all))) (fun _ => sub_nil) (by kernel_rfl) (by kernel_rfl) (by kernel_rfl) rfl rfl (take_rowI (cutN_length _ _ _)) (ble_ints (cutN_length _ _ _)) (rowI_one _) (by omega) (by omega) rfl rfl rfl (fun v80 ac wc A78 S79 => ?_)
      obtain ⟨A81, cap82, rfl⟩ := row_slice (v := v80) (m := pre.length + 1) (S79.row 0 rfl)
      have T83 := S79.sub (sub_skip (sub_keep (sub_skip sub_all))) sub_nil
      refine r_take 13 (.pointer (some ⟨g36, 0, none⟩)) A78 T83 (g_nil (by kernel_rfl)) rfl rfl rfl (pf_block pf_round) (by kernel_rfl) (fun ac A84 => ?_)
      refine r_take 14 (.pointer (some ⟨g36, 1, none⟩)) A84 T83 (g_field (u := .pointer (some ⟨g36, 0, none⟩)) (by kernel_rfl) (fun _ => by kernel_rfl)) rfl rfl rfl (pf_block pf_round) (by kernel_rfl) (fun ac A85 => ?_)
      refine r_1 (i := 15) (by kernel_rfl) ?_
      refine rs_store (g := g36) (off := 1) (v := .slice A81 (pre.length + 1) cap82) 2 (#[.int .i64 (ne : Int), .slice A81 (pre.length + 1) cap82]) A85 S79 (sub_skip (sub_keep (sub_skip sub_all))) sub_nil (by kernel_rfl) (by kernel_rfl) rfl (by kernel_rfl) rfl rfl (fun wc S87 => ?_)
      have T89 := S87.sub (sub_skip (sub_keep (sub_skip sub_all))) sub_nil
      refine r_done (by kernel_rfl) ?_
      refine n_block ?_
      refine r_end (w0 := w0) S87 (KpG.cons (S87.get 4 rfl) KpG.nil) (fun SE => ?_)
      exact ⟨.slice A81 (pre.length + 1) cap82, (St.rerow 0 (St.recell 2 SE rfl (by rfl)) rfl ⟨by simp, trL_snoc⟩).sub (sub_skip sub_all) sub_all⟩
    · refine rs_call (fs := #[]) (cp := #[]) (r := [(0, .pointer (some ⟨gm13, 0, none⟩)), (0, .int .i64 (x.2 : Int)), (0, .int .i64 (x.1 : Int))]) #[.pointer (some ⟨gm13, 0, none⟩), .int .i64 (x.2 : Int), .int .i64 (x.1 : Int)] (.pointer (some ((Addr.mk gr14 0 none).add ((x.2 * ne + x.1) * 64)))) A60 S53 (sub_keep (sub_skip sub_all)) sub_nil (mat_at gm13 ne (ne * ne) cp15 x.2 x.1 (Addr.mk gr14 0 none) (mi xs) _ (S53.get 3 rfl) (by have hlen := hml; omega) hxr (by omega)) Try.call73 rfl rfl (by kernel_rfl) (by kernel_rfl) (by kernel_rfl) rfl (fun ac wc A90 S91 => ?_)
      have T93 := S91.sub (sub_keep (sub_skip sub_all)) sub_nil
      refine r_take 9 (.pointer (some ((Addr.mk gr14 0 none).add ((x.2 * ne + x.1) * 64)))) A90 T93 (g_nil (by kernel_rfl)) rfl rfl rfl (pf_block pf_round) (by kernel_rfl) (fun ac A94 => ?_)
      refine r_2 (i := 4) (j := 10) (by kernel_rfl) ?_ ?_
      · refine rs_gives (v) A94 S91 (sub_keep (sub_skip sub_all)) sub_nil (g_load (g := g36) (off := 1) 1 (by kernel_rfl) rfl (by kernel_rfl)) rfl rfl rfl (fun ac A95 => ?_)
        refine r_1 (i := 10) (by kernel_rfl) ?_
        refine rs_gives (.agg (ints (cutN (mi xs) ((x.2 * ne + x.1) * 64) 64))) A95 S91 (sub_keep (sub_skip sub_all)) sub_nil (g_loadRN (l := mi xs) (k := (x.2 * ne + x.1) * 64) 1 64 (by kernel_rfl) rfl (by have hlen := hml; omega) (by kernel_rfl)) rfl rfl rfl (fun ac A99 => ?_)
        refine r_1 (i := 11) (by kernel_rfl) ?_
        refine rs_bs (e := 123) (r := [(0, .agg (ints (cutN (mi xs) ((x.2 * ne + x.1) * 64) 64)))]) (ints (cutN (mi xs) ((x.2 * ne + x.1) * 64) 64)) A99 S91 (sub_keep (sub_skip sub_all)) sub_nil (by kernel_rfl) (bsRow_one (bytes := 512) (by kernel_rfl) ((ints_size _).trans (cutN_length _ _ _)) (by decide)) rfl rfl rfl (fun g105 ac wc A103 S104 => ?_)
        have T106 := S104.sub (sub_skip (sub_keep (sub_skip sub_all))) sub_nil
        refine r_1 (i := 12) (by kernel_rfl) ?_
        refine rs_append (e := 123) (size := 64) (bytes := 512) (v := v) (g := g105) (m' := 1) (c := 1) 0 0 (rowI (cutN (mi xs) ((x.2 * ne + x.1) * 64) 64)) A103 S104 (sub_skip (sub_keep (sub_skip sub_all))) (fun _ => sub_nil) (by kernel_rfl) (by kernel_rfl) (by kernel_rfl) rfl rfl (take_rowI (cutN_length _ _ _)) (ble_ints (cutN_length _ _ _)) (rowI_one _) (by omega) (by omega) rfl rfl rfl (fun v109 ac wc A107 S108 => ?_)
        obtain ⟨A110, cap111, rfl⟩ := row_slice (v := v109) (m := pre.length + 1) (S108.row 0 rfl)
        have T112 := S108.sub (sub_skip (sub_keep (sub_skip sub_all))) sub_nil
        refine r_take 13 (.pointer (some ⟨g36, 0, none⟩)) A107 T112 (g_nil (by kernel_rfl)) rfl rfl rfl (pf_block pf_round) (by kernel_rfl) (fun ac A113 => ?_)
        refine r_take 14 (.pointer (some ⟨g36, 1, none⟩)) A113 T112 (g_field (u := .pointer (some ⟨g36, 0, none⟩)) (by kernel_rfl) (fun _ => by kernel_rfl)) rfl rfl rfl (pf_block pf_round) (by kernel_rfl) (fun ac A114 => ?_)
        refine r_1 (i := 15) (by kernel_rfl) ?_
        refine rs_store (g := g36) (off := 1) (v := .slice A110 (pre.length + 1) cap111) 2 (#[.int .i64 (ne : Int), .slice A110 (pre.length + 1) cap111]) A114 S108 (sub_skip (sub_keep (sub_skip sub_all))) sub_nil (by kernel_rfl) (by kernel_rfl) rfl (by kernel_rfl) rfl rfl (fun wc S116 => ?_)
        have T118 := S116.sub (sub_skip (sub_keep (sub_skip sub_all))) sub_nil
        refine r_done (by kernel_rfl) ?_
        refine n_block ?_
        refine r_end (w0 := w0) S116 (KpG.cons (S116.get 4 rfl) KpG.nil) (fun SE => ?_)
        exact ⟨.slice A110 (pre.length + 1) cap111, (St.rerow 0 (St.recell 2 SE rfl (by rfl)) rfl ⟨by simp, trL_snoc⟩).sub (sub_skip sub_all) sub_all⟩
      · refine rs_gives (.agg (ints (cutN (mi xs) ((x.2 * ne + x.1) * 64) 64))) A94 S91 (sub_keep (sub_skip sub_all)) sub_nil (g_loadRN (l := mi xs) (k := (x.2 * ne + x.1) * 64) 1 64 (by kernel_rfl) rfl (by have hlen := hml; omega) (by kernel_rfl)) rfl rfl rfl (fun ac A119 => ?_)
        refine r_2 (i := 4) (j := 11) (by kernel_rfl) ?_ ?_
        · refine rs_gives (v) A119 S91 (sub_keep (sub_skip sub_all)) sub_nil (g_load (g := g36) (off := 1) 1 (by kernel_rfl) rfl (by kernel_rfl)) rfl rfl rfl (fun ac A123 => ?_)
          refine r_1 (i := 11) (by kernel_rfl) ?_
          refine rs_bs (e := 123) (r := [(0, .agg (ints (cutN (mi xs) ((x.2 * ne + x.1) * 64) 64)))]) (ints (cutN (mi xs) ((x.2 * ne + x.1) * 64) 64)) A123 S91 (sub_keep (sub_skip sub_all)) sub_nil (by kernel_rfl) (bsRow_one (bytes := 512) (by kernel_rfl) ((ints_size _).trans (cutN_length _ _ _)) (by decide)) rfl rfl rfl (fun g129 ac wc A127 S128 => ?_)
          have T130 := S128.sub (sub_skip (sub_keep (sub_skip sub_all))) sub_nil
          refine r_1 (i := 12) (by kernel_rfl) ?_
          refine rs_append (e := 123) (size := 64) (bytes := 512) (v := v) (g := g129) (m' := 1) (c := 1) 0 0 (rowI (cutN (mi xs) ((x.2 * ne + x.1) * 64) 64)) A127 S128 (sub_skip (sub_keep (sub_skip sub_all))) (fun _ => sub_nil) (by kernel_rfl) (by kernel_rfl) (by kernel_rfl) rfl rfl (take_rowI (cutN_length _ _ _)) (ble_ints (cutN_length _ _ _)) (rowI_one _) (by omega) (by omega) rfl rfl rfl (fun v133 ac wc A131 S132 => ?_)
          obtain ⟨A134, cap135, rfl⟩ := row_slice (v := v133) (m := pre.length + 1) (S132.row 0 rfl)
          have T136 := S132.sub (sub_skip (sub_keep (sub_skip sub_all))) sub_nil
          refine r_take 13 (.pointer (some ⟨g36, 0, none⟩)) A131 T136 (g_nil (by kernel_rfl)) rfl rfl rfl (pf_block pf_round) (by kernel_rfl) (fun ac A137 => ?_)
          refine r_take 14 (.pointer (some ⟨g36, 1, none⟩)) A137 T136 (g_field (u := .pointer (some ⟨g36, 0, none⟩)) (by kernel_rfl) (fun _ => by kernel_rfl)) rfl rfl rfl (pf_block pf_round) (by kernel_rfl) (fun ac A138 => ?_)
          refine r_1 (i := 15) (by kernel_rfl) ?_
          refine rs_store (g := g36) (off := 1) (v := .slice A134 (pre.length + 1) cap135) 2 (#[.int .i64 (ne : Int), .slice A134 (pre.length + 1) cap135]) A138 S132 (sub_skip (sub_keep (sub_skip sub_all))) sub_nil (by kernel_rfl) (by kernel_rfl) rfl (by kernel_rfl) rfl rfl (fun wc S140 => ?_)
          have T142 := S140.sub (sub_skip (sub_keep (sub_skip sub_all))) sub_nil
          refine r_done (by kernel_rfl) ?_
          refine n_block ?_
          refine r_end (w0 := w0) S140 (KpG.cons (S140.get 4 rfl) KpG.nil) (fun SE => ?_)
          exact ⟨.slice A134 (pre.length + 1) cap135, (St.rerow 0 (St.recell 2 SE rfl (by rfl)) rfl ⟨by simp, trL_snoc⟩).sub (sub_skip sub_all) sub_all⟩
        · refine rs_bs (e := 123) (r := [(0, .agg (ints (cutN (mi xs) ((x.2 * ne + x.1) * 64) 64)))]) (ints (cutN (mi xs) ((x.2 * ne + x.1) * 64) 64)) A119 S91 (sub_keep (sub_skip sub_all)) sub_nil (by kernel_rfl) (bsRow_one (bytes := 512) (by kernel_rfl) ((ints_size _).trans (cutN_length _ _ _)) (by decide)) rfl rfl rfl (fun g145 ac wc A143 S144 => ?_)
          have T146 := S144.sub (sub_skip (sub_keep (sub_skip sub_all))) sub_nil
          refine r_1 (i := 4) (by kernel_rfl) ?_
          refine rs_gives (v) A143 S144 (sub_skip (sub_keep (sub_skip sub_all))) sub_nil (g_load (g := g36) (off := 1) 2 (by kernel_rfl) rfl (by kernel_rfl)) rfl rfl rfl (fun ac A147 => ?_)
          refine r_1 (i := 12) (by kernel_rfl) ?_
          refine rs_append (e := 123) (size := 64) (bytes := 512) (v := v) (g := g145) (m' := 1) (c := 1) 0 0 (rowI (cutN (mi xs) ((x.2 * ne + x.1) * 64) 64)) A147 S144 (sub_skip (sub_keep (sub_skip sub_all))) (fun _ => sub_nil) (by kernel_rfl) (by kernel_rfl) (by kernel_rfl) rfl rfl (take_rowI (cutN_length _ _ _)) (ble_ints (cutN_length _ _ _)) (rowI_one _) (by omega) (by omega) rfl rfl rfl (fun v153 ac wc A151 S152 => ?_)
          obtain ⟨A154, cap155, rfl⟩ := row_slice (v := v153) (m := pre.length + 1) (S152.row 0 rfl)
          have T156 := S152.sub (sub_skip (sub_keep (sub_skip sub_all))) sub_nil
          refine r_take 13 (.pointer (some ⟨g36, 0, none⟩)) A151 T156 (g_nil (by kernel_rfl)) rfl rfl rfl (pf_block pf_round) (by kernel_rfl) (fun ac A157 => ?_)
          refine r_take 14 (.pointer (some ⟨g36, 1, none⟩)) A157 T156 (g_field (u := .pointer (some ⟨g36, 0, none⟩)) (by kernel_rfl) (fun _ => by kernel_rfl)) rfl rfl rfl (pf_block pf_round) (by kernel_rfl) (fun ac A158 => ?_)
          refine r_1 (i := 15) (by kernel_rfl) ?_
          refine rs_store (g := g36) (off := 1) (v := .slice A154 (pre.length + 1) cap155) 2 (#[.int .i64 (ne : Int), .slice A154 (pre.length + 1) cap155]) A158 S152 (sub_skip (sub_keep (sub_skip sub_all))) sub_nil (by kernel_rfl) (by kernel_rfl) rfl (by kernel_rfl) rfl rfl (fun wc S160 => ?_)
          have T162 := S160.sub (sub_skip (sub_keep (sub_skip sub_all))) sub_nil
          refine r_done (by kernel_rfl) ?_
          refine n_block ?_
          refine r_end (w0 := w0) S160 (KpG.cons (S160.get 4 rfl) KpG.nil) (fun SE => ?_)
          exact ⟨.slice A154 (pre.length + 1) cap155, (St.rerow 0 (St.recell 2 SE rfl (by rfl)) rfl ⟨by simp, trL_snoc⟩).sub (sub_skip sub_all) sub_all⟩
  · rintro D163 a' WD164 hD165 ⟨v, hS⟩ hK166 HA167
    have SD168 := St.begin hS
    have SR : St ⟨w0, WD164⟩ [⟨g40, 130, #[.pointer (some ⟨g36, 0, none⟩)], true⟩, ⟨g36, 137, #[.int .i64 (ne : Int), v], true⟩, ⟨g22, 130, #[.pointer (some ⟨gm13, 0, none⟩)], true⟩, ⟨gm13, 137, #[.int .i64 (ne : Int), .slice (some (Addr.mk gr14 0 none)) (ne * ne) cp15], true⟩, ⟨g7, 30, #[.int .i64 0, .slice none 0 0], true⟩, ⟨g3, 30, #[.int .i64 (ne : Int), .slice (some ad) n cap], true⟩] [⟨v, 123, 64, (ne * ne), (rowI (trL (mi xs) ne (pairsOf ne)))⟩, ⟨.slice (some (Addr.mk gr14 0 none)) (ne * ne) cp15, 123, 64, (ne * ne), (rowI (mi xs))⟩] _ := St.rerow 0 SD168 rfl ⟨pairs_len ne, rfl⟩
    obtain ⟨g3, cp3, rfl⟩ := row_some (v := v) (m := ne * ne) (St.row SR 0 rfl) hpos
    have htl : (trL (mi xs) ne (pairsOf ne)).length = ne * ne * 64 := by rw [trL_length, pairs_len]
    refine n_block ?_
    refine n_then ?_
    refine wp_seq ?_
    refine wp_region_lit ?_
    refine s_one (.pointer (some ⟨g36, 0, none⟩)) HA167 SR (g_load (g := g40) (off := 0) 0 (by kernel_rfl) rfl (by kernel_rfl)) rfl (fun ac A169 => ?_)
    refine s_callRF (fs := #[]) (cp := #[]) (r := [(0, .pointer (some ⟨g36, 0, none⟩))]) (fun v => .agg #[.int .i64 (ne : Int), v]) #[.pointer (some ⟨g36, 0, none⟩)] A169 SR (full_s g36 ne (ne * ne) cp3 (Addr.mk g3 0 none) (trL (mi xs) ne (pairsOf ne)) _ (SR.get 1 rfl) (by have hlen := htl; omega) (row_ir (SR.row 0 rfl)) (by omega)) Try.call74 (by kernel_rfl) (by kernel_rfl) (by kernel_rfl) rfl (fun v173 ac wc A170 S171 => ?_)
    obtain ⟨hl174, A175, cap176, rfl, hc177, hr178⟩ := rowF_reads (v := v173) (m := ((ne * ne) * 64)) (l := fw (trL (mi xs) ne (pairsOf ne))) (S171.row 0 rfl)
    refine s_store (g := g7) (off := 0) (v := .agg #[.int .i64 (ne : Int), .slice A175 ((ne * ne) * 64) cap176]) 4 (#[.int .i64 (ne : Int), .slice A175 ((ne * ne) * 64) cap176]) A170 S171 (by kernel_rfl) (by kernel_rfl) rfl (by kernel_rfl) (fun wc S180 => ?_)
    refine s_one (.int .i64 0) A170 S180 (g_assign (by kernel_rfl)) rfl (fun ac A182 => ?_)
    refine wpList_nil ?_
    refine n_then ?_
    refine wp_ret ?_
    refine m_ret (w0 := w0) A182 S180 hK166 hD165 (fun ac wc A183 S184 => ?_)
    refine fin2 (.agg #[.int .i64 (ne : Int), .slice A175 ((ne * ne) * 64) cap176]) (.int .i64 0) Try.results42 A183 S184 (rv_cell (g := g7) (off := 0) 4 (by kernel_rfl) rfl (by kernel_rfl)) (rv_tmp (by kernel_rfl)) ?_
    have bw := S184.kp
    have ow := S184.row 0 rfl
    exact ⟨_, rfl, bw, ow⟩
  · exact fun _ _ _ _ _ h => h.elim

/-- .. in its place. -/
def trM (l : List Int) (n : Nat) (ps : List (Nat × Nat)) : List Int := trL l n ps ++ l.drop (ps.length * 64)
theorem trM_length {l : List Int} {n : Nat} {ps : List (Nat × Nat)} (h : ps.length * 64 ≤ l.length) : (trM l n ps).length = l.length := by
  unfold trM
  rw [List.length_append, trL_length, List.length_drop]; omega
theorem trM_step {l : List Int} {n : Nat} {ps : List (Nat × Nat)} {f r : Nat} : putL (trM l n ps) (ps.length * 64) (cutN l ((r * n + f) * 64) 64) = trM l n (ps ++ [(f, r)]) := by
  have e1 : (trM l n ps).take (ps.length * 64) = trL l n ps := by
    unfold trM
    rw [List.take_append_of_le_length (by rw [trL_length]; exact Nat.le_refl _), List.take_of_length_le (by rw [trL_length]; exact Nat.le_refl _)]
  have e2 : (trM l n ps).drop (ps.length * 64 + 64) = l.drop (ps.length * 64 + 64) := by
    unfold trM
    rw [List.drop_append, trL_length, List.drop_of_length_le (by rw [trL_length]; omega), List.drop_drop, List.nil_append]
    congr 1; omega
  have e3 : trL l n [(f, r)] = cutN l ((r * n + f) * 64) 64 := by simp only [trL, List.flatMap_cons, List.flatMap_nil, List.append_nil]
  unfold putL
  rw [cutN_length, e1, e2]
  unfold trM
  rw [trL_app, e3, List.length_append, List.length_cons, List.length_nil, show (ps.length + (0 + 1)) * 64 = ps.length * 64 + 64 by omega]
theorem range_app {l k : List Int} (h : ∀ i, -2047 ≤ nthI l i ∧ nthI l i ≤ 2047) (h2 : ∀ i, -2047 ≤ nthI k i ∧ nthI k i ≤ 2047) : ∀ i, -2047 ≤ nthI (l ++ k) i ∧ nthI (l ++ k) i ≤ 2047 := by
  intro i
  by_cases q : i < l.length
  · have := h i
    unfold nthI at this ⊢
    rw [List.getD_eq_getElem?_getD] at this ⊢
    rw [List.getElem?_append_left q]; exact this
  · have := h2 (i - l.length)
    unfold nthI at this ⊢
    rw [List.getD_eq_getElem?_getD] at this ⊢
    rw [List.getElem?_append_right (by omega)]; exact this
theorem range_drop {l : List Int} (h : ∀ i, -2047 ≤ nthI l i ∧ nthI l i ≤ 2047) (k : Nat) : ∀ i, -2047 ≤ nthI (l.drop k) i ∧ nthI (l.drop k) i ≤ 2047 := by
  intro i
  have := h (k + i)
  unfold nthI at this ⊢
  rw [List.getD_eq_getElem?_getD] at this ⊢
  rw [List.getElem?_drop]; exact this
theorem trL_range {l : List Int} (h : ∀ i, -2047 ≤ nthI l i ∧ nthI l i ≤ 2047) (n : Nat) (ps : List (Nat × Nat)) : ∀ i, -2047 ≤ nthI (trL l n ps) i ∧ nthI (trL l n ps) i ≤ 2047 := by
  induction ps with
  | nil => intro i; simp [trL, nthI]
  | cons p ps ih =>
    intro i
    have e : trL l n (p :: ps) = cutN l ((p.2 * n + p.1) * 64) 64 ++ trL l n ps := by simp [trL]
    rw [e]; exact range_app (cutN_range h _ _) ih i
theorem trM_range {l : List Int} (h : ∀ i, -2047 ≤ nthI l i ∧ nthI l i ≤ 2047) (n : Nat) (ps : List (Nat × Nat)) : ∀ i, -2047 ≤ nthI (trM l n ps) i ∧ nthI (trM l n ps) i ≤ 2047 := range_app (trL_range h n ps) (range_drop h _)
theorem mxC_fw {el : Int} {l : List Int} (h : inB el 1 16 = true) (hl : (l.length : Int) = el * el * 64) (hr : ∀ i, -2047 ≤ nthI l i ∧ nthI l i ≤ 2047) : (mxC el (fw l)).2 = 0 := by
  rw [mxC_y h (by rw [fw_length]; exact hl)]
  exact firstErr_fw hr
theorem tr_put {xs : List Nat} {n i j : Nat} (hR : Right xs) (hl : xs.length = n * n * 64) (hi : i < n) (hj : j < n) : fw (putL (mi (fw (trM (mi xs) n (preP n i j)))) (toI (n : Int) (i : Int) (j : Int)) (nums (mkT (nums (cutF xs (toI (n : Int) (j : Int) (i : Int)) 64)) 64))) = fw (trM (mi xs) n (preP n i (j + 1))) := by
  have h1 := pair_lt hi hj
  have h2 := pair_lt hj hi
  rw [num_fw (trM_range (mi_range hR) _ _), nums_pair hR (by omega), toI_nat, ← preP_succ, ← trM_step, preP_length]
theorem trM_all {l : List Int} {n : Nat} (hl : l.length = n * n * 64) : trM l n (pairsOf n) = trL l n (pairsOf n) := by
  unfold trM
  rw [pairs_len, List.drop_of_length_le (by omega), List.append_nil]
theorem trM_nil (l : List Int) (n : Nat) : trM l n [] = l := by simp [trM, trL]
theorem trM_ok {xs : List Nat} {n : Nat} (hn : n ≤ 16) (h1 : 1 ≤ n) (hR : Right xs) (hl : xs.length = n * n * 64) {ps : List (Nat × Nat)} (h : ps.length ≤ n * n) : (mxC (n : Int) (fw (trM (mi xs) n ps))).2 = 0 := by
  refine mxC_fw (inB_true.2 ⟨by omega, by omega⟩) ?_ (trM_range (mi_range hR) _ _)
  rw [trM_length (by rw [mi_length]; omega), mi_length, hl]
  simp
theorem pair_ok {xs : List Nat} {n i j : Nat} (hR : Right xs) (hl : xs.length = n * n * 64) (hi : i < n) (hj : j < n) : (firstErr (mkT (nums (cutF xs (toI (n : Int) (i : Int) (j : Int)) 64)) 64) 0).2 = 0 := by
  have h1 := pair_lt hi hj
  rw [pair_words (by omega)]
  exact firstErr_fw (cutN_range (mi_range hR) _ _)

set_option maxRecDepth 100000 in
set_option maxHeartbeats 400000 in
theorem refTransposed_ok (ne n cap : Nat) (A : Option Addr) (xs : List Nat) (w0 : World) (hn : xs.length = n) (hr : FReads w0 A xs) (hm : n ≤ 1000) (h1 : 1 ≤ ne) (hne : n = ne * ne * 64) (h0 : (mxC (ne : Int) xs).2 = 0) :
    Calls Try.prog 44 #[.agg #[.int .i64 (ne : Int), .slice A n cap]] w0 fun e w' => ∃ v, e = .returned (.agg #[.int .i64 (ne : Int), v]) ∧ Below w0.heap.size w0 w' ∧ w'.ownsRow w0.heap.size 36 1 v n (rowF (fw (trL (mi xs) ne (pairsOf ne)))) := by
  have S0 := St.start w0
  have hR : Right xs := right_of (mxC_0 h0).2.2
  have hpos : 0 < ne * ne := Nat.mul_pos h1 h1
  have hne3 : ne ≤ 3 := by rcases Nat.lt_or_ge 3 ne with q | q; have := Nat.mul_le_mul q q; omega; exact q
  have hee : ne * ne ≤ 15 := by omega
  have hxl : xs.length = ne * ne * 64 := by omega
  refine enter (n := 31) Try.func44 rfl rfl rfl (fun ac A0 => ?_)
  refine wp_seq ?_
  refine wp_region_lit ?_
  refine s_box (.agg #[.int .i64 (ne : Int), .slice A n cap]) A0 S0 (by kernel_rfl) rfl (fun g3 ac wc A1 S2 => ?_)
  replace S2 : St _ (⟨g3, 30, #[.int .i64 (ne : Int), .slice A n cap], true⟩ :: _) _ _ := S2
  refine s_alloc (#[.int .i64 0, .slice none 0 0]) A1 S2 (by kernel_rfl) rfl (fun g7 ac wc A5 S6 => ?_)
  refine wpList_nil ?_
  refine n_then ?_
  refine wp_seq ?_
  refine wp_region_lit ?_
  refine s_one (.agg #[.int .i64 (ne : Int), .slice A n cap]) A5 S6 (g_load (g := g3) (off := 0) 1 (by kernel_rfl) rfl (by kernel_rfl)) rfl (fun ac A8 => ?_)
  have hfm : (fw (mi xs)).length = n := (fw_length _).trans ((mi_length _).trans hn)
  refine s_callRF (fs := #[]) (cp := #[]) (r := [(0, .agg #[.int .i64 (ne : Int), .slice A n cap])]) (fun v => .agg #[.int .i64 (ne : Int), v]) #[.agg #[.int .i64 (ne : Int), .slice A n cap]] A8 S6 (Plain_s (ne : Int) A n cap xs _ hn (hr.kept S6.kp) (by omega) (hR)) Try.call27 (by kernel_rfl) (by kernel_rfl) (by kernel_rfl) rfl (fun v12 ac wc A9 S10 => ?_)
  obtain ⟨hl13, A14, cap15, rfl, hc16, hr17⟩ := rowF_reads (v := v12) (m := n) (l := fw (mi xs)) (S10.row 0 rfl)
  refine s_alloc (#[.int .i64 0, .slice none 0 0]) A9 S10 (by kernel_rfl) rfl (fun g20 ac wc A18 S19 => ?_)
  refine s_store (g := g20) (off := 0) (v := .agg #[.int .i64 (ne : Int), .slice A14 n cap15]) 0 (#[.int .i64 (ne : Int), .slice A14 n cap15]) A18 S19 (by kernel_rfl) (by kernel_rfl) rfl (by kernel_rfl) (fun wc S22 => ?_)
  refine wpList_nil ?_
  refine n_then ?_
  refine wp_seq ?_
  refine wp_seq ?_
  refine wp_region_lit ?_
  refine s_one (.int .i64 0) A18 S22 (g_assign (by kernel_rfl)) rfl (fun ac A24 => ?_)
  refine wpList_nil ?_
  refine n_then ?_
  refine wp_block ?_
  refine c_loopN (fun mm ac wc => ∃ (i : Nat) (B : Option Addr) (bc : Nat), mm = ne - i ∧ (i ≤ ne) ∧ ((fw (trM (mi xs) ne (preP ne i 0))).length = n) ∧ Fr 31 ac [(0, .agg #[.int .i64 (ne : Int), .slice A n cap]), (1, .pointer (some ⟨g3, 0, none⟩)), (2, .pointer (some ⟨g7, 0, none⟩)), (6, .agg #[.int .i64 (ne : Int), .slice A n cap]), (7, .agg #[.int .i64 (ne : Int), .slice A14 n cap15]), (3, .pointer (some ⟨g20, 0, none⟩)), (4, .int .i64 (i : Int))] ∧ St w0 [⟨g20, 30, #[.int .i64 (ne : Int), .slice B n bc], true⟩, ⟨g7, 30, #[.int .i64 0, .slice none 0 0], true⟩, ⟨g3, 30, #[.int .i64 (ne : Int), .slice A n cap], true⟩] [⟨.slice B n bc, 36, 1, n, (rowF (fw (trM (mi xs) ne (preP ne i 0))))⟩] wc) _ ⟨0, A14, cap15, rfl, Nat.zero_le _, by rw [preP_zero, trM_nil, fw_length, mi_length]; exact hn, (A24.slot (A24.slot (A24.slot (A24.slot (A24.slot (A24.slot (A24.slot A24.nil (v := .int .i64 0) (by kernel_rfl) (congrArg (Value.int .i64) (by omega))) (v := .pointer (some ⟨g20, 0, none⟩)) (by kernel_rfl) rfl) (v := .agg #[.int .i64 (ne : Int), .slice A14 n cap15]) (by kernel_rfl) rfl) (v := .agg #[.int .i64 (ne : Int), .slice A n cap]) (by kernel_rfl) rfl) (v := .pointer (some ⟨g7, 0, none⟩)) (by kernel_rfl) rfl) (v := .pointer (some ⟨g3, 0, none⟩)) (by kernel_rfl) rfl) (v := .agg #[.int .i64 (ne : Int), .slice A n cap]) (by kernel_rfl) rfl), (St.rerow 0 (St.recell 0 S22 rfl (by rfl)) rfl ⟨rfl, by rw [preP_zero, trM_nil]⟩).sub sub_all sub_all⟩ ?_
  rintro mm ac wc ⟨i, B, bc, hm27, hi, hbl, A25, S26⟩
  refine wp_seq ?_
  refine wp_seq ?_
  refine wp_region_lit ?_
  refine s_one (.int .i64 (i : Int)) A25 S26 (g_move (by kernel_rfl)) rfl (fun ac A28 => ?_)
  refine s_one (.pointer (some ⟨g3, 0, none⟩)) A28 S26 (g_field (u := .pointer (some ⟨g3, 0, none⟩)) (by kernel_rfl) (fun _ => by kernel_rfl)) rfl (fun ac A29 => ?_)
  refine s_one (.int .i64 (ne : Int)) A29 S26 (g_load (g := g3) (off := 0) 2 (by kernel_rfl) rfl (by kernel_rfl)) rfl (fun ac A30 => ?_)
  refine s_one (.bool (decide ((i : Int) < (ne : Int)))) A30 S26 (g_bin (u := .int .i64 (i : Int)) (k := .int .i64 (ne : Int)) (by kernel_rfl) (by kernel_rfl) (fun _ => by kernel_rfl) (fun _ => by kernel_rfl)) rfl (fun ac A31 => ?_)
  refine wpList_nil ?_
  refine n_then ?_
  refine c_ifb (b := (decide ((i : Int) < (ne : Int)))) A31 (by kernel_rfl) (fun h32 => ?_) (fun h32 => ?_)
  · have p33 := of_decide_eq_true h32
    refine wp_skip ?_
    refine n_then ?_
    refine wp_seq ?_
    refine wp_block ?_
    refine wp_seq ?_
    refine wp_region_lit ?_
    refine s_one (.int .i64 0) A31 S26 (g_assign (by kernel_rfl)) rfl (fun ac A34 => ?_)
    refine wpList_nil ?_
    refine n_then ?_
    refine wp_block ?_
    refine c_loopN (fun mm ac wc => ∃ (j : Nat) (B2 : Option Addr) (bc2 : Nat), mm = ne - j ∧ (j ≤ ne) ∧ ((fw (trM (mi xs) ne (preP ne i j))).length = n) ∧ Fr 31 ac [(0, .agg #[.int .i64 (ne : Int), .slice A n cap]), (1, .pointer (some ⟨g3, 0, none⟩)), (2, .pointer (some ⟨g7, 0, none⟩)), (6, .agg #[.int .i64 (ne : Int), .slice A n cap]), (7, .agg #[.int .i64 (ne : Int), .slice A14 n cap15]), (3, .pointer (some ⟨g20, 0, none⟩)), (4, .int .i64 (i : Int)), (8, .int .i64 (i : Int)), (9, .pointer (some ⟨g3, 0, none⟩)), (10, .int .i64 (ne : Int)), (11, .bool (decide ((i : Int) < (ne : Int)))), (5, .int .i64 (j : Int))] ∧ St w0 [⟨g20, 30, #[.int .i64 (ne : Int), .slice B2 n bc2], true⟩, ⟨g7, 30, #[.int .i64 0, .slice none 0 0], true⟩, ⟨g3, 30, #[.int .i64 (ne : Int), .slice A n cap], true⟩] [⟨.slice B2 n bc2, 36, 1, n, (rowF (fw (trM (mi xs) ne (preP ne i j))))⟩] wc) _ ⟨0, B, bc, rfl, Nat.zero_le _, hbl, (A34.slot (A34.slot (A34.slot (A34.slot (A34.slot (A34.slot (A34.slot (A34.slot (A34.slot (A34.slot (A34.slot (A34.slot A34.nil (v := .int .i64 0) (by kernel_rfl) (congrArg (Value.int .i64) (by omega))) (v := .bool (decide ((i : Int) < (ne : Int)))) (by kernel_rfl) rfl) (v := .int .i64 (ne : Int)) (by kernel_rfl) rfl) (v := .pointer (some ⟨g3, 0, none⟩)) (by kernel_rfl) rfl) (v := .int .i64 (i : Int)) (by kernel_rfl) rfl) (v := .int .i64 (i : Int)) (by kernel_rfl) rfl) (v := .pointer (some ⟨g20, 0, none⟩)) (by kernel_rfl) rfl) (v := .agg #[.int .i64 (ne : Int), .slice A14 n cap15]) (by kernel_rfl) rfl) (v := .agg #[.int .i64 (ne : Int), .slice A n cap]) (by kernel_rfl) rfl) (v := .pointer (some ⟨g7, 0, none⟩)) (by kernel_rfl) rfl) (v := .pointer (some ⟨g3, 0, none⟩)) (by kernel_rfl) rfl) (v := .agg #[.int .i64 (ne : Int), .slice A n cap]) (by kernel_rfl) rfl), (St.rerow 0 (St.recell 0 S26 rfl (by rfl)) rfl ⟨rfl, rfl⟩).sub sub_all sub_all⟩ ?_
    rintro mm ac wc ⟨j, B2, bc2, hm37, hj, hbl2, A35, S36⟩
    have hpij : j < ne → i * ne + j < ne * ne := fun h => pair_lt (by omega) h
    refine wp_seq ?_
    refine wp_seq ?_
    refine wp_region_lit ?_
    refine s_one (.int .i64 (j : Int)) A35 S36 (g_move (by kernel_rfl)) rfl (fun ac A38 => ?_)
    refine s_one (.pointer (some ⟨g3, 0, none⟩)) A38 S36 (g_field (u := .pointer (some ⟨g3, 0, none⟩)) (by kernel_rfl) (fun _ => by kernel_rfl)) rfl (fun ac A39 => ?_)
    refine s_one (.int .i64 (ne : Int)) A39 S36 (g_load (g := g3) (off := 0) 2 (by kernel_rfl) rfl (by kernel_rfl)) rfl (fun ac A40 => ?_)
    refine s_one (.bool (decide ((j : Int) < (ne : Int)))) A40 S36 (g_bin (u := .int .i64 (j : Int)) (k := .int .i64 (ne : Int)) (by kernel_rfl) (by kernel_rfl) (fun _ => by kernel_rfl) (fun _ => by kernel_rfl)) rfl (fun ac A41 => ?_)
    refine wpList_nil ?_
    refine n_then ?_
    refine c_ifb (b := (decide ((j : Int) < (ne : Int)))) A41 (by kernel_rfl) (fun h42 => ?_) (fun h42 => ?_)
    · have p43 := of_decide_eq_true h42
      refine wp_skip ?_
      refine n_then ?_
      refine wp_seq ?_
      refine wp_block ?_
      refine r_begin (w0 := w0) (by kernel_rfl) (S36.sub (sub_skip sub_all) sub_all) (fun wc T44 B45 => ?_)
      have S46 := S36.kept B45
      refine r_take 1 (.int .i64 (i : Int)) A41 T44 (g_move (by kernel_rfl)) rfl rfl rfl (pf_block (pf_then (pf_then (pf_block (pf_block (pf_then (pf_then (pf_block (pf_then pf_body))))))))) (by kernel_rfl) (fun ac A47 => ?_)
      refine r_take 2 (.int .i64 (j : Int)) A47 T44 (g_move (by kernel_rfl)) rfl rfl rfl (pf_block (pf_then (pf_then (pf_block (pf_block (pf_then (pf_then (pf_block (pf_then pf_body))))))))) (by kernel_rfl) (fun ac A48 => ?_)
      refine r_take 3 (.agg #[.int .i64 (i : Int), .int .i64 (j : Int)]) A48 T44 (g_build (r := [(0, .int .i64 (i : Int)), (1, .int .i64 (j : Int))]) (by kernel_rfl) (fun _ => by kernel_rfl)) rfl rfl rfl (pf_block (pf_then (pf_then (pf_block (pf_block (pf_then (pf_then (pf_block (pf_then pf_body))))))))) (by kernel_rfl) (fun ac A49 => ?_)
      refine r_take 4 (.agg #[.int .i64 (ne : Int), .slice A n cap]) A49 T44 (g_load (g := g3) (off := 0) 1 (by kernel_rfl) rfl (by kernel_rfl)) rfl rfl rfl (pf_block (pf_then (pf_then (pf_block (pf_block (pf_then (pf_then (pf_block (pf_then pf_body))))))))) (by kernel_rfl) (fun ac A50 => ?_)
      refine r_take 5 (.int .i64 (j : Int)) A50 T44 (g_move (by kernel_rfl)) rfl rfl rfl (pf_block (pf_then (pf_then (pf_block (pf_block (pf_then (pf_then (pf_block (pf_then pf_body))))))))) (by kernel_rfl) (fun ac A51 => ?_)
      refine r_take 6 (.int .i64 (i : Int)) A51 T44 (g_move (by kernel_rfl)) rfl rfl rfl (pf_block (pf_then (pf_then (pf_block (pf_block (pf_then (pf_then (pf_block (pf_then pf_body))))))))) (by kernel_rfl) (fun ac A52 => ?_)
      refine r_take 7 (.agg #[.int .i64 (j : Int), .int .i64 (i : Int)]) A52 T44 (g_build (r := [(0, .int .i64 (j : Int)), (1, .int .i64 (i : Int))]) (by kernel_rfl) (fun _ => by kernel_rfl)) rfl rfl rfl (pf_block (pf_then (pf_then (pf_block (pf_block (pf_then (pf_then (pf_block (pf_then pf_body))))))))) (by kernel_rfl) (fun ac A53 => ?_)
      refine r_2 (i := 0) (j := 8) (by kernel_rfl) ?_ ?_
      · refine rs_gives (.agg #[.int .i64 (ne : Int), .slice B2 n bc2]) A53 S46 (sub_skip sub_all) sub_all (g_load (g := g20) (off := 0) 0 (by kernel_rfl) rfl (by kernel_rfl)) rfl rfl rfl (fun ac A54 => ?_)
        refine r_1 (i := 8) (by kernel_rfl) ?_
        refine rs_call (fs := #[]) (cp := #[]) (r := [(0, .agg #[.int .i64 (ne : Int), .slice A n cap]), (0, .agg #[.int .i64 (j : Int), .int .i64 (i : Int)])]) #[.agg #[.int .i64 (ne : Int), .slice A n cap], .agg #[.int .i64 (j : Int), .int .i64 (i : Int)]] (.agg (trc (mkT (nums (cutF xs (toI (ne : Int) (j : Int) (i : Int)) 64)) 64))) A54 S46 (sub_skip sub_all) sub_all (refTraceOf_s (ne : Int) A n cap xs (j : Int) (i : Int) _ hn (hr.kept S46.kp) (by omega) (fo2_0 h0 (pairE_nat (by omega) (by omega) (by omega)))) Try.call20 rfl rfl (by kernel_rfl) (by kernel_rfl) (by kernel_rfl) rfl (fun ac wc A58 S59 => ?_)
        have T61 := S59.sub (sub_skip sub_all) sub_all
        refine r_1 (i := 9) (by kernel_rfl) ?_
        have hpl2 := pair_lt (n := ne) (f := i) (r := j) (by omega) (by omega)
        refine rs_callRF (fs := #[]) (cp := #[]) (r := [(0, .agg #[.int .i64 (ne : Int), .slice B2 n bc2]), (0, .agg #[.int .i64 (i : Int), .int .i64 (j : Int)]), (0, .agg (trc (mkT (nums (cutF xs (toI (ne : Int) (j : Int) (i : Int)) 64)) 64)))]) (fun v => .agg #[.int .i64 (ne : Int), v]) #[.agg #[.int .i64 (ne : Int), .slice B2 n bc2], .agg #[.int .i64 (i : Int), .int .i64 (j : Int)], .agg (trc (mkT (nums (cutF xs (toI (ne : Int) (j : Int) (i : Int)) 64)) 64))] A58 S59 (sub_skip sub_all) sub_all (refWith_s (ne : Int) B2 n bc2 (fw (trM (mi xs) ne (preP ne i j))) (i : Int) (j : Int) (mkT (nums (cutF xs (toI (ne : Int) (j : Int) (i : Int)) 64)) 64) _ hbl2 (row_fr (S59.row 0 rfl)) (by omega) (done_length _ _ _ _) (fo3_y (trM_ok (by omega) h1 hR hxl (by rw [preP_length]; omega)) (pairE_nat (by omega) (by omega) (by omega)) (pair_ok hR hxl (by omega) (by omega)))) Try.call25 rfl rfl (by kernel_rfl) (by kernel_rfl) (by kernel_rfl) rfl (fun v66 ac wc A62 S63 => ?_)
        obtain ⟨hl67, A68, cap69, rfl, hc70, hr71⟩ := rowF_reads (v := v66) (m := n) (l := fw (putL (mi (fw (trM (mi xs) ne (preP ne i j)))) (toI (ne : Int) (i : Int) (j : Int)) (nums (mkT (nums (cutF xs (toI (ne : Int) (j : Int) (i : Int)) 64)) 64)))) (S63.row 0 rfl)
        have T65 := S63.sub (sub_skip sub_all) (sub_skip sub_all)
        refine r_1 (i := 10) (by kernel_rfl) ?_
        refine rs_store (g := g20) (off := 0) (v := .agg #[.int .i64 (ne : Int), .slice A68 n cap69]) 0 (#[.int .i64 (ne : Int), .slice A68 n cap69]) A62 S63 (sub_skip sub_all) (sub_skip sub_all) (by kernel_rfl) (by kernel_rfl) rfl (by kernel_rfl) rfl rfl (fun wc S73 => ?_)
        have T75 := S73.sub (sub_skip sub_all) (sub_skip sub_all)
        refine r_done (by kernel_rfl) ?_
        refine n_block ?_
        refine n_then ?_
        refine wp_region_lit ?_
        refine s_one (.int .i64 (j : Int)) A62 S73 (g_move (by kernel_rfl)) rfl (fun ac A76 => ?_)
        refine s_one (.int .i64 ((j : Int) + 1)) A76 S73 (g_bin (u := .int .i64 (j : Int)) (k := .int .i64 1) (by kernel_rfl) (by kernel_rfl) (fun _ => by kernel_rfl) (b_add (by omega))) rfl (fun ac A77 => ?_)
        refine s_one (.int .i64 ((j : Int) + 1)) A77 S73 (g_assign (by kernel_rfl)) rfl (fun ac A78 => ?_)
        refine wpList_nil ?_
        refine n_then ?_
        have htp := tr_put (n := ne) (i := i) (j := j) hR hxl (by omega) (by omega)
        have hbl3 : (fw (trM (mi xs) ne (preP ne i (j + 1)))).length = n := by rw [fw_length, trM_length (by rw [preP_length, mi_length]; omega), mi_length]; exact hn
        refine ⟨_, ⟨j + 1, A68, cap69, rfl, by omega, hbl3, (A78.slot (A78.slot (A78.slot (A78.slot (A78.slot (A78.slot (A78.slot (A78.slot (A78.slot (A78.slot (A78.slot (A78.slot A78.nil (v := .int .i64 ((j : Int) + 1)) (by kernel_rfl) (congrArg (Value.int .i64) (by omega))) (v := .bool (decide ((i : Int) < (ne : Int)))) (by kernel_rfl) rfl) (v := .int .i64 (ne : Int)) (by kernel_rfl) rfl) (v := .pointer (some ⟨g3, 0, none⟩)) (by kernel_rfl) rfl) (v := .int .i64 (i : Int)) (by kernel_rfl) rfl) (v := .int .i64 (i : Int)) (by kernel_rfl) rfl) (v := .pointer (some ⟨g20, 0, none⟩)) (by kernel_rfl) rfl) (v := .agg #[.int .i64 (ne : Int), .slice A14 n cap15]) (by kernel_rfl) rfl) (v := .agg #[.int .i64 (ne : Int), .slice A n cap]) (by kernel_rfl) rfl) (v := .pointer (some ⟨g7, 0, none⟩)) (by kernel_rfl) rfl) (v := .pointer (some ⟨g3, 0, none⟩)) (by kernel_rfl) rfl) (v := .agg #[.int .i64 (ne : Int), .slice A n cap]) (by kernel_rfl) rfl), (St.rerow 0 S73 rfl ⟨rfl, congrArg rowF htp⟩).sub sub_all (sub_keep sub_nil)⟩, ?_⟩
        omega
      · refine rs_call (fs := #[]) (cp := #[]) (r := [(0, .agg #[.int .i64 (ne : Int), .slice A n cap]), (0, .agg #[.int .i64 (j : Int), .int .i64 (i : Int)])]) #[.agg #[.int .i64 (ne : Int), .slice A n cap], .agg #[.int .i64 (j : Int), .int .i64 (i : Int)]] (.agg (trc (mkT (nums (cutF xs (toI (ne : Int) (j : Int) (i : Int)) 64)) 64))) A53 S46 (sub_skip sub_all) sub_all (refTraceOf_s (ne : Int) A n cap xs (j : Int) (i : Int) _ hn (hr.kept S46.kp) (by omega) (fo2_0 h0 (pairE_nat (by omega) (by omega) (by omega)))) Try.call20 rfl rfl (by kernel_rfl) (by kernel_rfl) (by kernel_rfl) rfl (fun ac wc A79 S80 => ?_)
        have T82 := S80.sub (sub_skip sub_all) sub_all
        refine r_1 (i := 0) (by kernel_rfl) ?_
        refine rs_gives (.agg #[.int .i64 (ne : Int), .slice B2 n bc2]) A79 S80 (sub_skip sub_all) sub_all (g_load (g := g20) (off := 0) 0 (by kernel_rfl) rfl (by kernel_rfl)) rfl rfl rfl (fun ac A83 => ?_)
        refine r_1 (i := 9) (by kernel_rfl) ?_
        have hpl2 := pair_lt (n := ne) (f := i) (r := j) (by omega) (by omega)
        refine rs_callRF (fs := #[]) (cp := #[]) (r := [(0, .agg #[.int .i64 (ne : Int), .slice B2 n bc2]), (0, .agg #[.int .i64 (i : Int), .int .i64 (j : Int)]), (0, .agg (trc (mkT (nums (cutF xs (toI (ne : Int) (j : Int) (i : Int)) 64)) 64)))]) (fun v => .agg #[.int .i64 (ne : Int), v]) #[.agg #[.int .i64 (ne : Int), .slice B2 n bc2], .agg #[.int .i64 (i : Int), .int .i64 (j : Int)], .agg (trc (mkT (nums (cutF xs (toI (ne : Int) (j : Int) (i : Int)) 64)) 64))] A83 S80 (sub_skip sub_all) sub_all (refWith_s (ne : Int) B2 n bc2 (fw (trM (mi xs) ne (preP ne i j))) (i : Int) (j : Int) (mkT (nums (cutF xs (toI (ne : Int) (j : Int) (i : Int)) 64)) 64) _ hbl2 (row_fr (S80.row 0 rfl)) (by omega) (done_length _ _ _ _) (fo3_y (trM_ok (by omega) h1 hR hxl (by rw [preP_length]; omega)) (pairE_nat (by omega) (by omega) (by omega)) (pair_ok hR hxl (by omega) (by omega)))) Try.call25 rfl rfl (by kernel_rfl) (by kernel_rfl) (by kernel_rfl) rfl (fun v91 ac wc A87 S88 => ?_)
        obtain ⟨hl92, A93, cap94, rfl, hc95, hr96⟩ := rowF_reads (v := v91) (m := n) (l := fw (putL (mi (fw (trM (mi xs) ne (preP ne i j)))) (toI (ne : Int) (i : Int) (j : Int)) (nums (mkT (nums (cutF xs (toI (ne : Int) (j : Int) (i : Int)) 64)) 64)))) (S88.row 0 rfl)
        have T90 := S88.sub (sub_skip sub_all) (sub_skip sub_all)
        refine r_1 (i := 10) (by kernel_rfl) ?_
        refine rs_store (g := g20) (off := 0) (v := .agg #[.int .i64 (ne : Int), .slice A93 n cap94]) 0 (#[.int .i64 (ne : Int), .slice A93 n cap94]) A87 S88 (sub_skip sub_all) (sub_skip sub_all) (by kernel_rfl) (by kernel_rfl) rfl (by kernel_rfl) rfl rfl (fun wc S98 => ?_)
        have T100 := S98.sub (sub_skip sub_all) (sub_skip sub_all)
        refine r_done (by kernel_rfl) ?_
        refine n_block ?_
        refine n_then ?_
        refine wp_region_lit ?_
        refine s_one (.int .i64 (j : Int)) A87 S98 (g_move (by kernel_rfl)) rfl (fun ac A101 => ?_)
        refine s_one (.int .i64 ((j : Int) + 1)) A101 S98 (g_bin (u := .int .i64 (j : Int)) (k := .int .i64 1) (by kernel_rfl) (by kernel_rfl) (fun _ => by kernel_rfl) (b_add (by omega))) rfl (fun ac A102 => ?_)
        refine s_one (.int .i64 ((j : Int) + 1)) A102 S98 (g_assign (by kernel_rfl)) rfl (fun ac A103 => ?_)
        refine wpList_nil ?_
        refine n_then ?_
        have htp := tr_put (n := ne) (i := i) (j := j) hR hxl (by omega) (by omega)
        have hbl3 : (fw (trM (mi xs) ne (preP ne i (j + 1)))).length = n := by rw [fw_length, trM_length (by rw [preP_length, mi_length]; omega), mi_length]; exact hn
        refine ⟨_, ⟨j + 1, A93, cap94, rfl, by omega, hbl3, (A103.slot (A103.slot (A103.slot (A103.slot (A103.slot (A103.slot (A103.slot (A103.slot (A103.slot (A103.slot (A103.slot (A103.slot A103.nil (v := .int .i64 ((j : Int) + 1)) (by kernel_rfl) (congrArg (Value.int .i64) (by omega))) (v := .bool (decide ((i : Int) < (ne : Int)))) (by kernel_rfl) rfl) (v := .int .i64 (ne : Int)) (by kernel_rfl) rfl) (v := .pointer (some ⟨g3, 0, none⟩)) (by kernel_rfl) rfl) (v := .int .i64 (i : Int)) (by kernel_rfl) rfl) (v := .int .i64 (i : Int)) (by kernel_rfl) rfl) (v := .pointer (some ⟨g20, 0, none⟩)) (by kernel_rfl) rfl) (v := .agg #[.int .i64 (ne : Int), .slice A14 n cap15]) (by kernel_rfl) rfl) (v := .agg #[.int .i64 (ne : Int), .slice A n cap]) (by kernel_rfl) rfl) (v := .pointer (some ⟨g7, 0, none⟩)) (by kernel_rfl) rfl) (v := .pointer (some ⟨g3, 0, none⟩)) (by kernel_rfl) rfl) (v := .agg #[.int .i64 (ne : Int), .slice A n cap]) (by kernel_rfl) rfl), (St.rerow 0 S98 rfl ⟨rfl, congrArg rowF htp⟩).sub sub_all (sub_keep sub_nil)⟩, ?_⟩
        omega
    · have p104 := of_decide_eq_false h42
      refine wp_exit ?_
      refine x_then ?_
      refine x_then ?_
      refine x_hit ?_
      refine n_block ?_
      refine n_then ?_
      refine wp_region_lit ?_
      refine s_one (.int .i64 (i : Int)) A41 S36 (g_move (by kernel_rfl)) rfl (fun ac A105 => ?_)
      refine s_one (.int .i64 ((i : Int) + 1)) A105 S36 (g_bin (u := .int .i64 (i : Int)) (k := .int .i64 1) (by kernel_rfl) (by kernel_rfl) (fun _ => by kernel_rfl) (b_add (by omega))) rfl (fun ac A106 => ?_)
      refine s_one (.int .i64 ((i : Int) + 1)) A106 S36 (g_assign (by kernel_rfl)) rfl (fun ac A107 => ?_)
      refine wpList_nil ?_
      refine n_then ?_
      have ej : j = ne := by omega
      rw [ej, preP_row] at hbl2
      refine ⟨_, ⟨i + 1, B2, bc2, rfl, by omega, hbl2, (A107.slot (A107.slot (A107.slot (A107.slot (A107.slot (A107.slot (A107.slot A107.nil (v := .int .i64 ((i : Int) + 1)) (by kernel_rfl) (congrArg (Value.int .i64) (by omega))) (v := .pointer (some ⟨g20, 0, none⟩)) (by kernel_rfl) rfl) (v := .agg #[.int .i64 (ne : Int), .slice A14 n cap15]) (by kernel_rfl) rfl) (v := .agg #[.int .i64 (ne : Int), .slice A n cap]) (by kernel_rfl) rfl) (v := .pointer (some ⟨g7, 0, none⟩)) (by kernel_rfl) rfl) (v := .pointer (some ⟨g3, 0, none⟩)) (by kernel_rfl) rfl) (v := .agg #[.int .i64 (ne : Int), .slice A n cap]) (by kernel_rfl) rfl), (St.rerow 0 S36 rfl ⟨rfl, by rw [ej, preP_row]⟩).sub sub_all sub_all⟩, ?_⟩
      omega
  · have p108 := of_decide_eq_false h32
    refine wp_exit ?_
    refine x_then ?_
    refine x_then ?_
    refine x_hit ?_
    refine n_then ?_
    refine wp_seq ?_
    refine wp_region_lit ?_
    refine s_one (.agg #[.int .i64 (ne : Int), .slice B n bc]) A31 S26 (g_load (g := g20) (off := 0) 0 (by kernel_rfl) rfl (by kernel_rfl)) rfl (fun ac A109 => ?_)
    refine s_store (g := g7) (off := 0) (v := .agg #[.int .i64 (ne : Int), .slice B n bc]) 1 (#[.int .i64 (ne : Int), .slice B n bc]) A109 S26 (by kernel_rfl) (by kernel_rfl) rfl (by kernel_rfl) (fun wc S111 => ?_)
    refine wpList_nil ?_
    refine n_then ?_
    refine wp_ret ?_
    have ei : i = ne := by omega
    have SR : St w0 [⟨g20, 30, #[.int .i64 (ne : Int), .slice B n bc], true⟩, ⟨g7, 30, #[.int .i64 (ne : Int), .slice B n bc], true⟩, ⟨g3, 30, #[.int .i64 (ne : Int), .slice A n cap], true⟩] [⟨.slice B n bc, 36, 1, n, (rowF (fw (trL (mi xs) ne (pairsOf ne))))⟩] _ := (St.rerow 0 S111 rfl ⟨rfl, by rw [ei]; exact congrArg (fun l => rowF (fw l)) (trM_all (by rw [mi_length]; exact hxl))⟩).sub sub_all sub_all
    refine fin1 (.agg #[.int .i64 (ne : Int), .slice B n bc]) Try.results44 A109 SR (rv_cell (g := g7) (off := 0) 1 (by kernel_rfl) rfl (by kernel_rfl)) ?_
    have bw := SR.kp
    have ow := SR.row 0 rfl
    exact ⟨_, rfl, bw, ow⟩

end Go.Proofs.Ytcijkniijomcjaa
