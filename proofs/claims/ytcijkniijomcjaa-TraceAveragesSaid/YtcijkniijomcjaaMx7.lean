/- A matrix is opened. -/
import Derived.Test.YtcijkniijomcjaaMx6
namespace Go.Proofs.Ytcijkniijomcjaa
open Go.RowKit Go.Cpl

theorem pairs_snoc {l : List Int} {k m : Nat} (h : k * 64 + 64 ≤ l.length) (hm : m = k + 1) : rowI (l.take (k * 64)) ++ rowI (cutN l (k * 64) 64) = rowI (l.take (m * 64)) := by
  subst hm
  rw [rowI_app, take_cutN h, Nat.succ_mul]
theorem row_some {w : World} {base : Nat} {e : TypeId} {v : Value} {size m : Nat} {xs : List Value} (h : w.ownsRow base e size v m xs) (hm : 0 < m) : ∃ g cap, v = .slice (some (Addr.mk g 0 none)) m cap := by
  rcases h.2 with ⟨_, h0⟩ | ⟨g, cap, cur, hv, _⟩
  · omega
  · exact ⟨g, cap, hv⟩

set_option maxRecDepth 100000 in
set_option maxHeartbeats 400000 in
theorem open_err (el : Int) (A : Option Addr) (n cap : Nat) (xs : List Nat) (w0 : World) (hn : xs.length = n) (hr : FReads w0 A xs) (hm : n ≤ 1000) (h0 : (mxC el xs).2 ≠ 0) :
    Calls Try.prog 72 #[.agg #[.int .i64 el, .slice A n cap]] w0 fun e w' => e = .returned (.tuple #[.pointer none, .int .i64 (mxC el xs).2]) ∧ Below w0.heap.size w0 w' := by
  have S0 := St.start w0
  refine enterM (n := 33) Try.func72 rfl rfl rfl (fun ac A0 => ?_)
  refine wp_seq ?_
  refine wp_region_lit ?_
  refine s_box (.agg #[.int .i64 el, .slice A n cap]) A0 S0 (by kernel_rfl) rfl (fun g3 ac wc A1 S2 => ?_)
  replace S2 : St _ (⟨g3, 30, #[.int .i64 el, .slice A n cap], true⟩ :: _) _ _ := S2
  refine s_one (.pointer none) A1 S2 (g_assign (by kernel_rfl)) rfl (fun ac A5 => ?_)
  refine s_one (.int .i64 0) A5 S2 (g_assign (by kernel_rfl)) rfl (fun ac A6 => ?_)
  refine wpList_nil ?_
  refine n_then ?_
  refine wp_seq ?_
  refine wp_seq ?_
  refine wp_region_lit ?_
  refine s_one (.agg #[.int .i64 el, .slice A n cap]) A6 S2 (g_load (g := g3) (off := 0) 0 (by kernel_rfl) rfl (by kernel_rfl)) rfl (fun ac A7 => ?_)
  refine s_call (fs := #[]) (cp := #[]) (r := [(0, .agg #[.int .i64 el, .slice A n cap])]) #[.agg #[.int .i64 el, .slice A n cap]] (.int .i64 ((mxC el xs).2)) A7 S2 (matrixErr_s el A n cap xs _ hn (hr.kept S2.kp) (by omega)) Try.call63 (by kernel_rfl) (by kernel_rfl) (by kernel_rfl) rfl (fun ac wc A8 S9 => ?_)
  refine s_one (.int .i64 ((mxC el xs).2)) A8 S9 (g_assign (by kernel_rfl)) rfl (fun ac A11 => ?_)
  refine wpList_nil ?_
  refine n_then ?_
  refine wp_seq ?_
  refine wp_region_lit ?_
  refine s_one (.int .i64 ((mxC el xs).2)) A11 S9 (g_move (by kernel_rfl)) rfl (fun ac A12 => ?_)
  refine s_one (.bool (decide ((mxC el xs).2 ≠ 0))) A12 S9 (g_bin (u := .int .i64 ((mxC el xs).2)) (k := .int .i64 0) (by kernel_rfl) (by kernel_rfl) (fun _ => by kernel_rfl) b_neq) rfl (fun ac A13 => ?_)
  refine wpList_nil ?_
  refine n_then ?_
  refine c_t (b := (decide ((mxC el xs).2 ≠ 0))) A13 (by kernel_rfl) (decide_eq_true h0) ?_
  refine wp_seq ?_
  refine wp_region_lit ?_
  refine s_one (.int .i64 ((mxC el xs).2)) A13 S9 (g_move (by kernel_rfl)) rfl (fun ac A14 => ?_)
  refine s_one (.pointer none) A14 S9 (g_assign (by kernel_rfl)) rfl (fun ac A15 => ?_)
  refine s_one (.int .i64 ((mxC el xs).2)) A15 S9 (g_assign (by kernel_rfl)) rfl (fun ac A16 => ?_)
  refine wpList_nil ?_
  refine n_then ?_
  refine wp_ret ?_
  refine r_then ?_
  refine m_ret0 A16 ?_
  refine fin2 (.pointer none) (.int .i64 ((mxC el xs).2)) Try.results72 A16 S9 (rv_tmp (by kernel_rfl)) (rv_tmp (by kernel_rfl)) ⟨?_, S9.kp⟩
  rfl

set_option maxRecDepth 100000 in
set_option maxHeartbeats 400000 in
theorem open_ok (ne n cap : Nat) (ad : Addr) (xs : List Nat) (w0 : World) (hn : xs.length = n) (hr : FReads w0 (some ad) xs) (hm : n ≤ 1000) (hcp : n ≤ cap) (h1 : 1 ≤ ne) (hne : n = ne * ne * 64) (h0 : (mxC (ne : Int) xs).2 = 0) :
    Calls Try.prog 72 #[.agg #[.int .i64 (ne : Int), .slice (some ad) n cap]] w0 fun e w' => ∃ u : Nat × Nat × Nat, e = .returned (.tuple #[.pointer (some ⟨u.1, 0, none⟩), .int .i64 0]) ∧ St w0 [⟨u.1, 137, #[.int .i64 (ne : Int), .slice (some (Addr.mk u.2.1 0 none)) (ne * ne) u.2.2], true⟩] [⟨.slice (some (Addr.mk u.2.1 0 none)) (ne * ne) u.2.2, 123, 64, (ne * ne), (rowI (mi xs))⟩] w' := by
  have S0 := St.start w0
  have hR : Right xs := right_of (mxC_0 h0).2.2
  have hpos : 0 < ne * ne := Nat.mul_pos h1 h1
  have hml : (mi xs).length = ne * ne * 64 := by rw [mi_length, hn, hne]
  have hne3 : ne ≤ 3 := by rcases Nat.lt_or_ge 3 ne with q | q; have := Nat.mul_le_mul q q; omega; exact q
  have hee : ne * ne ≤ 15 := by omega
  refine enterM (n := 33) Try.func72 rfl rfl rfl (fun ac A0 => ?_)
  refine wp_seq ?_
  refine wp_region_lit ?_
  refine s_box (.agg #[.int .i64 (ne : Int), .slice (some ad) n cap]) A0 S0 (by kernel_rfl) rfl (fun g3 ac wc A1 S2 => ?_)
  replace S2 : St _ (⟨g3, 30, #[.int .i64 (ne : Int), .slice (some ad) n cap], true⟩ :: _) _ _ := S2
  refine s_one (.pointer none) A1 S2 (g_assign (by kernel_rfl)) rfl (fun ac A5 => ?_)
  refine s_one (.int .i64 0) A5 S2 (g_assign (by kernel_rfl)) rfl (fun ac A6 => ?_)
  refine wpList_nil ?_
  refine n_then ?_
  refine wp_seq ?_
  refine wp_seq ?_
  refine wp_region_lit ?_
  refine s_one (.agg #[.int .i64 (ne : Int), .slice (some ad) n cap]) A6 S2 (g_load (g := g3) (off := 0) 0 (by kernel_rfl) rfl (by kernel_rfl)) rfl (fun ac A7 => ?_)
  refine s_call (fs := #[]) (cp := #[]) (r := [(0, .agg #[.int .i64 (ne : Int), .slice (some ad) n cap])]) #[.agg #[.int .i64 (ne : Int), .slice (some ad) n cap]] (.int .i64 ((mxC (ne : Int) xs).2)) A7 S2 (matrixErr_s (ne : Int) (some ad) n cap xs _ hn (hr.kept S2.kp) (by omega)) Try.call63 (by kernel_rfl) (by kernel_rfl) (by kernel_rfl) rfl (fun ac wc A8 S9 => ?_)
  refine s_one (.int .i64 ((mxC (ne : Int) xs).2)) A8 S9 (g_assign (by kernel_rfl)) rfl (fun ac A11 => ?_)
  refine wpList_nil ?_
  refine n_then ?_
  refine wp_seq ?_
  refine wp_region_lit ?_
  refine s_one (.int .i64 ((mxC (ne : Int) xs).2)) A11 S9 (g_move (by kernel_rfl)) rfl (fun ac A12 => ?_)
  refine s_one (.bool (decide ((mxC (ne : Int) xs).2 ≠ 0))) A12 S9 (g_bin (u := .int .i64 ((mxC (ne : Int) xs).2)) (k := .int .i64 0) (by kernel_rfl) (by kernel_rfl) (fun _ => by kernel_rfl) b_neq) rfl (fun ac A13 => ?_)
  refine wpList_nil ?_
  refine n_then ?_
  refine c_f (b := (decide ((mxC (ne : Int) xs).2 ≠ 0))) A13 (by kernel_rfl) (decide_eq_false (fun h => h h0)) ?_
  refine wp_skip ?_
  refine n_then ?_
  refine wp_seq ?_
  refine wp_region_lit ?_
  refine s_one (.pointer (some ⟨g3, 0, none⟩)) A13 S9 (g_field (u := .pointer (some ⟨g3, 0, none⟩)) (by kernel_rfl) (fun _ => by kernel_rfl)) rfl (fun ac A14 => ?_)
  refine s_one (.int .i64 (ne : Int)) A14 S9 (g_load (g := g3) (off := 0) 0 (by kernel_rfl) rfl (by kernel_rfl)) rfl (fun ac A15 => ?_)
  refine s_one (.agg #[.int .i64 (ne : Int), .slice none 0 0]) A15 S9 (g_build (r := [(0, .int .i64 (ne : Int))]) (by kernel_rfl) (fun _ => by kernel_rfl)) rfl (fun ac A16 => ?_)
  refine s_box (.agg #[.int .i64 (ne : Int), .slice none 0 0]) A16 S9 (by kernel_rfl) rfl (fun g19 ac wc A17 S18 => ?_)
  replace S18 : St _ (⟨g19, 137, #[.int .i64 (ne : Int), .slice none 0 0], true⟩ :: _) _ _ := S18
  refine s_alloc (#[.pointer none]) A17 S18 (by kernel_rfl) rfl (fun g23 ac wc A21 S22 => ?_)
  refine s_store (g := g23) (off := 0) (v := .pointer (some ⟨g19, 0, none⟩)) 0 (#[.pointer (some ⟨g19, 0, none⟩)]) A21 S22 (by kernel_rfl) (by kernel_rfl) rfl (by kernel_rfl) (fun wc S25 => ?_)
  refine wpList_nil ?_
  refine n_then ?_
  refine wp_seq ?_
  refine wp_seq ?_
  refine wp_region_lit ?_
  refine s_one (.pointer (some ⟨g3, 1, none⟩)) A21 S25 (g_field (u := .pointer (some ⟨g3, 0, none⟩)) (by kernel_rfl) (fun _ => by kernel_rfl)) rfl (fun ac A27 => ?_)
  refine s_one (.slice (some ad) n cap) A27 S25 (g_load (g := g3) (off := 1) 2 (by kernel_rfl) rfl (by kernel_rfl)) rfl (fun ac A28 => ?_)
  refine s_callSt (T := Nat × Nat) (fs := #[]) (cp := #[]) (r := [(0, .slice (some ad) n cap), (0, .int .i64 64)]) #[.slice (some ad) n cap, .int .i64 64] (fun u => .func (.func 111) #[] #[.pointer (some ⟨u.1, 0, none⟩), .pointer (some ⟨u.2, 0, none⟩)]) (fun u => [⟨u.2, 3, #[.int .i64 64], true⟩, ⟨u.1, 23, #[.slice (some ad) n cap], true⟩]) (fun u => []) A28 S25 (ChunkF_s (some ad) n cap 64 _ (by omega) (by omega)) (fun u x hx => by simp only [List.mem_cons, List.not_mem_nil, or_false] at hx; rcases hx with rfl | rfl <;> rfl) Try.call105 (by kernel_rfl) (by kernel_rfl) (by kernel_rfl) rfl (fun u34 ac wc A29 S30 => ?_)
  obtain ⟨gc32, gd33⟩ := u34
  replace S30 : St w0 [⟨gd33, 3, #[.int .i64 64], true⟩, ⟨gc32, 23, #[.slice (some ad) n cap], true⟩, ⟨g23, 130, #[.pointer (some ⟨g19, 0, none⟩)], true⟩, ⟨g19, 137, #[.int .i64 (ne : Int), .slice none 0 0], true⟩, ⟨g3, 30, #[.int .i64 (ne : Int), .slice (some ad) n cap], true⟩] [] _ := S30
  refine wpList_nil ?_
  refine n_then ?_
  refine wp_block ?_
  refine c_range (α := Nat) (gf := 111) (fs := #[]) (lb := #[.pointer (some ⟨gc32, 0, none⟩), .pointer (some ⟨gd33, 0, none⟩)]) (encs := fun x => #[.slice (some (ad.add (x * 64))) 64 64]) (G := [⟨gc32, 23, #[.slice (some ad) n cap], true⟩, ⟨gd33, 3, #[.int .i64 64], true⟩]) (xs := List.range (ne * ne)) A29 S30 (by kernel_rfl) Try.call111 (List.forall_mem_cons.2 ⟨S30.get 1 rfl, (List.forall_mem_cons.2 ⟨S30.get 0 rfl, (List.forall_mem_nil _)⟩)⟩) (chunkF_seq gc32 gd33 true true ad n cap 64 (ne * ne) (by decide) hne hcp (by omega)) (fun _ => rfl) (fun x => [(19, .slice (some (ad.add (x * 64))) 64 64)]) (fun _ => (by first | rfl | simp)) (fun _ => (List.forall_mem_cons.2 ⟨(show 19 < 33 by decide), (List.forall_mem_nil _)⟩)) (fun pre W => ∃ (v : Value), St w0 [⟨gd33, 3, #[.int .i64 64], true⟩, ⟨gc32, 23, #[.slice (some ad) n cap], true⟩, ⟨g23, 130, #[.pointer (some ⟨g19, 0, none⟩)], true⟩, ⟨g19, 137, #[.int .i64 (ne : Int), v], true⟩, ⟨g3, 30, #[.int .i64 (ne : Int), .slice (some ad) n cap], true⟩] [⟨v, 123, 64, pre.length, (rowI ((mi xs).take (pre.length * 64)))⟩] W) (fun _ _ => False) ?_ ?_ ?_ ?_ (fun x => [(6, .slice (some (ad.add (x * 64))) 64 64), (19, .slice (some (ad.add (x * 64))) 64 64), (0, .agg #[.int .i64 (ne : Int), .slice (some ad) n cap]), (1, .pointer (some ⟨g3, 0, none⟩)), (2, .pointer none), (3, .int .i64 0), (7, .agg #[.int .i64 (ne : Int), .slice (some ad) n cap]), (8, .int .i64 ((mxC (ne : Int) xs).2)), (4, .int .i64 ((mxC (ne : Int) xs).2)), (9, .int .i64 ((mxC (ne : Int) xs).2)), (10, .bool (decide ((mxC (ne : Int) xs).2 ≠ 0))), (12, .pointer (some ⟨g3, 0, none⟩)), (13, .int .i64 (ne : Int)), (14, .agg #[.int .i64 (ne : Int), .slice none 0 0]), (15, .pointer (some ⟨g19, 0, none⟩)), (5, .pointer (some ⟨g23, 0, none⟩)), (16, .pointer (some ⟨g3, 1, none⟩)), (17, .slice (some ad) n cap), (18, .func (.func 111) #[] #[.pointer (some ⟨gc32, 0, none⟩), .pointer (some ⟨gd33, 0, none⟩)])]) ?_ ?_ ?_ ?_
  · rintro pre W W' row ⟨v, hS⟩ hg hr
    exact ⟨v, St.round hS hg hr⟩
  · rintro pre W W' ⟨v, hS⟩ hb
    exact ⟨v, hS.kept hb⟩
  · exact fun _ _ _ _ h _ _ => h
  · have S35 := S30.nilRow 123 64
    exact ⟨.slice none 0 0, (St.rerow 0 (St.recell 3 S35 rfl (by rfl)) rfl ⟨rfl, rfl⟩).sub sub_all sub_all⟩
  · intro l x a' WA K HA HK
    have SA := St.start WA
    replace HA : Fr 33 a' [(19, .slice (some (ad.add (x * 64))) 64 64), (0, .agg #[.int .i64 (ne : Int), .slice (some ad) n cap]), (1, .pointer (some ⟨g3, 0, none⟩)), (2, .pointer none), (3, .int .i64 0), (7, .agg #[.int .i64 (ne : Int), .slice (some ad) n cap]), (8, .int .i64 ((mxC (ne : Int) xs).2)), (4, .int .i64 ((mxC (ne : Int) xs).2)), (9, .int .i64 ((mxC (ne : Int) xs).2)), (10, .bool (decide ((mxC (ne : Int) xs).2 ≠ 0))), (12, .pointer (some ⟨g3, 0, none⟩)), (13, .int .i64 (ne : Int)), (14, .agg #[.int .i64 (ne : Int), .slice none 0 0]), (15, .pointer (some ⟨g19, 0, none⟩)), (5, .pointer (some ⟨g23, 0, none⟩)), (16, .pointer (some ⟨g3, 1, none⟩)), (17, .slice (some ad) n cap), (18, .func (.func 111) #[] #[.pointer (some ⟨gc32, 0, none⟩), .pointer (some ⟨gd33, 0, none⟩)])] := (HA.slot (HA.slot (HA.slot (HA.slot (HA.slot (HA.slot (HA.slot (HA.slot (HA.slot (HA.slot (HA.slot (HA.slot (HA.slot (HA.slot (HA.slot (HA.slot (HA.slot (HA.slot HA.nil (v := .func (.func 111) #[] #[.pointer (some ⟨gc32, 0, none⟩), .pointer (some ⟨gd33, 0, none⟩)]) (by kernel_rfl) rfl) (v := .slice (some ad) n cap) (by kernel_rfl) rfl) (v := .pointer (some ⟨g3, 1, none⟩)) (by kernel_rfl) rfl) (v := .pointer (some ⟨g23, 0, none⟩)) (by kernel_rfl) rfl) (v := .pointer (some ⟨g19, 0, none⟩)) (by kernel_rfl) rfl) (v := .agg #[.int .i64 (ne : Int), .slice none 0 0]) (by kernel_rfl) rfl) (v := .int .i64 (ne : Int)) (by kernel_rfl) rfl) (v := .pointer (some ⟨g3, 0, none⟩)) (by kernel_rfl) rfl) (v := .bool (decide ((mxC (ne : Int) xs).2 ≠ 0))) (by kernel_rfl) rfl) (v := .int .i64 ((mxC (ne : Int) xs).2)) (by kernel_rfl) rfl) (v := .int .i64 ((mxC (ne : Int) xs).2)) (by kernel_rfl) rfl) (v := .int .i64 ((mxC (ne : Int) xs).2)) (by kernel_rfl) rfl) (v := .agg #[.int .i64 (ne : Int), .slice (some ad) n cap]) (by kernel_rfl) rfl) (v := .int .i64 0) (by kernel_rfl) rfl) (v := .pointer none) (by kernel_rfl) rfl) (v := .pointer (some ⟨g3, 0, none⟩)) (by kernel_rfl) rfl) (v := .agg #[.int .i64 (ne : Int), .slice (some ad) n cap]) (by kernel_rfl) rfl) (v := .slice (some (ad.add (x * 64))) 64 64) (by kernel_rfl) rfl)
    refine i_region noOut_assign (by kernel_rfl) ?_
    refine s_one (.slice (some (ad.add (x * 64))) 64 64) HA SA (g_assign (by kernel_rfl)) rfl (fun ac A36 => ?_)
    refine wpList_nil ?_
    refine n_then ?_
    exact HK _ (A36.slot (A36.slot (A36.slot (A36.slot (A36.slot (A36.slot (A36.slot (A36.slot (A36.slot (A36.slot (A36.slot (A36.slot (A36.slot (A36.slot (A36.slot (A36.slot (A36.slot (A36.slot (A36.slot A36.nil (v := .func (.func 111) #[] #[.pointer (some ⟨gc32, 0, none⟩), .pointer (some ⟨gd33, 0, none⟩)]) (by kernel_rfl) rfl) (v := .slice (some ad) n cap) (by kernel_rfl) rfl) (v := .pointer (some ⟨g3, 1, none⟩)) (by kernel_rfl) rfl) (v := .pointer (some ⟨g23, 0, none⟩)) (by kernel_rfl) rfl) (v := .pointer (some ⟨g19, 0, none⟩)) (by kernel_rfl) rfl) (v := .agg #[.int .i64 (ne : Int), .slice none 0 0]) (by kernel_rfl) rfl) (v := .int .i64 (ne : Int)) (by kernel_rfl) rfl) (v := .pointer (some ⟨g3, 0, none⟩)) (by kernel_rfl) rfl) (v := .bool (decide ((mxC (ne : Int) xs).2 ≠ 0))) (by kernel_rfl) rfl) (v := .int .i64 ((mxC (ne : Int) xs).2)) (by kernel_rfl) rfl) (v := .int .i64 ((mxC (ne : Int) xs).2)) (by kernel_rfl) rfl) (v := .int .i64 ((mxC (ne : Int) xs).2)) (by kernel_rfl) rfl) (v := .agg #[.int .i64 (ne : Int), .slice (some ad) n cap]) (by kernel_rfl) rfl) (v := .int .i64 0) (by kernel_rfl) rfl) (v := .pointer none) (by kernel_rfl) rfl) (v := .pointer (some ⟨g3, 0, none⟩)) (by kernel_rfl) rfl) (v := .agg #[.int .i64 (ne : Int), .slice (some ad) n cap]) (by kernel_rfl) rfl) (v := .slice (some (ad.add (x * 64))) 64 64) (by kernel_rfl) rfl) (v := .slice (some (ad.add (x * 64))) 64 64) (by kernel_rfl) rfl)
  · rintro l pre x rest a' WB37 hx ⟨v, hS⟩ HA
    have SB38 := St.begin hS
    obtain ⟨rfl, hpre, hlt⟩ := range_next hx
    refine wpIn_block ?_
    refine i_begin (w0 := ⟨w0, WB37⟩) (by kernel_rfl) (noOut_block noOut_body) (by kernel_rfl) (SB38.sub (sub_keep (sub_keep (sub_keep (sub_skip sub_all)))) sub_nil) (fun wc T39 B40 => ?_)
    have S41 := SB38.kept B40
    refine r_take 0 (.pointer (some ⟨g19, 0, none⟩)) HA T39 (g_load (g := g23) (off := 0) 2 (by kernel_rfl) rfl (by kernel_rfl)) rfl rfl rfl (pf_block pf_round) (by kernel_rfl) (fun ac A42 => ?_)
    refine r_take 1 (.pointer (some ⟨g19, 0, none⟩)) A42 T39 (g_load (g := g23) (off := 0) 2 (by kernel_rfl) rfl (by kernel_rfl)) rfl rfl rfl (pf_block pf_round) (by kernel_rfl) (fun ac A43 => ?_)
    refine r_take 2 (.pointer (some ⟨g19, 0, none⟩)) A43 T39 (g_nil (by kernel_rfl)) rfl rfl rfl (pf_block pf_round) (by kernel_rfl) (fun ac A44 => ?_)
    refine r_take 3 (.pointer (some ⟨g19, 1, none⟩)) A44 T39 (g_field (u := .pointer (some ⟨g19, 0, none⟩)) (by kernel_rfl) (fun _ => by kernel_rfl)) rfl rfl rfl (pf_block pf_round) (by kernel_rfl) (fun ac A45 => ?_)
    refine r_take 5 (.slice (some (ad.add (pre.length * 64))) 64 64) A45 T39 (g_move (by kernel_rfl)) rfl rfl rfl (pf_block pf_round) (by kernel_rfl) (fun ac A46 => ?_)
    refine r_take 6 (.pointer (some (ad.add (pre.length * 64)))) A46 T39 (g_s2a (u := .slice (some (ad.add (pre.length * 64))) 64 64) (by kernel_rfl) (arr_x Try.underlying38 (by omega))) rfl rfl rfl (pf_block pf_round) (by kernel_rfl) (fun ac A47 => ?_)
    refine r_2 (i := 4) (j := 7) (by kernel_rfl) ?_ ?_
    · refine rs_gives (v) A47 S41 (sub_keep (sub_keep (sub_keep (sub_skip sub_all)))) sub_nil (g_load (g := g19) (off := 1) 3 (by kernel_rfl) rfl (by kernel_rfl)) rfl rfl rfl (fun ac A48 => ?_)
      refine r_1 (i := 7) (by kernel_rfl) ?_
      refine rs_call (fs := #[]) (cp := #[]) (r := [(0, .pointer (some (ad.add (pre.length * 64))))]) #[.pointer (some (ad.add (pre.length * 64)))] (.agg (ints (cutN (mi xs) (pre.length * 64) 64))) A48 S41 (sub_keep (sub_keep (sub_keep (sub_skip sub_all)))) sub_nil (numbersOf_x xs ad (pre.length * 64) _ (by have hlen := hn; omega) (hr.kept S41.kp) hR) Try.call66 rfl rfl (by kernel_rfl) (by kernel_rfl) (by kernel_rfl) rfl (fun ac wc A52 S53 => ?_)
      have T55 := S53.sub (sub_keep (sub_keep (sub_keep (sub_skip sub_all)))) sub_nil
      refine r_1 (i := 8) (by kernel_rfl) ?_
      refine rs_bs (e := 123) (r := [(0, .agg (ints (cutN (mi xs) (pre.length * 64) 64)))]) (ints (cutN (mi xs) (pre.length * 64) 64)) A52 S53 (sub_keep (sub_keep (sub_keep (sub_skip sub_all)))) sub_nil (by kernel_rfl) (bsRow_one (bytes := 512) (by kernel_rfl) ((ints_size _).trans (cutN_length _ _ _)) (by decide)) rfl rfl rfl (fun g58 ac wc A56 S57 => ?_)
      have T59 := S57.sub (sub_skip (sub_keep (sub_keep (sub_keep (sub_skip sub_all))))) sub_nil
      refine r_1 (i := 9) (by kernel_rfl) ?_
      refine rs_append (e := 123) (size := 64) (bytes := 512) (v := v) (g := g58) (m' := 1) (c := 1) 0 0 (rowI (cutN (mi xs) (pre.length * 64) 64)) A56 S57 (sub_skip (sub_keep (sub_keep (sub_keep (sub_skip sub_all))))) (fun _ => sub_nil) (by kernel_rfl) (by kernel_rfl) (by kernel_rfl) rfl rfl (take_rowI (cutN_length _ _ _)) (ble_ints (cutN_length _ _ _)) (rowI_one _) (by omega) (by omega) rfl rfl rfl (fun v62 ac wc A60 S61 => ?_)
      obtain ⟨A63, cap64, rfl⟩ := row_slice (v := v62) (m := pre.length + 1) (S61.row 0 rfl)
      have T65 := S61.sub (sub_skip (sub_keep (sub_keep (sub_keep (sub_skip sub_all))))) sub_nil
      refine r_take 10 (.pointer (some ⟨g19, 0, none⟩)) A60 T65 (g_nil (by kernel_rfl)) rfl rfl rfl (pf_block pf_round) (by kernel_rfl) (fun ac A66 => ?_)
      refine r_take 11 (.pointer (some ⟨g19, 1, none⟩)) A66 T65 (g_field (u := .pointer (some ⟨g19, 0, none⟩)) (by kernel_rfl) (fun _ => by kernel_rfl)) rfl rfl rfl (pf_block pf_round) (by kernel_rfl) (fun ac A67 => ?_)
      refine r_1 (i := 12) (by kernel_rfl) ?_
      refine rs_store (g := g19) (off := 1) (v := .slice A63 (pre.length + 1) cap64) 4 (#[.int .i64 (ne : Int), .slice A63 (pre.length + 1) cap64]) A67 S61 (sub_skip (sub_keep (sub_keep (sub_keep (sub_skip sub_all))))) sub_nil (by kernel_rfl) (by kernel_rfl) rfl (by kernel_rfl) rfl rfl (fun wc S69 => ?_)
      have T71 := S69.sub (sub_skip (sub_keep (sub_keep (sub_keep (sub_skip sub_all))))) sub_nil
      refine r_done (by kernel_rfl) ?_
      refine n_block ?_
      refine r_end (w0 := w0) S69 (KpG.cons (S69.get 2 rfl) (KpG.cons (S69.get 1 rfl) KpG.nil)) (fun SE => ?_)
      exact ⟨.slice A63 (pre.length + 1) cap64, (St.rerow 0 (St.recell 4 SE rfl (by rfl)) rfl ⟨by simp, pairs_snoc (by omega) (by simp)⟩).sub (sub_skip sub_all) sub_all⟩
    · refine rs_call (fs := #[]) (cp := #[]) (r := [(0, .pointer (some (ad.add (pre.length * 64))))]) #[.pointer (some (ad.add (pre.length * 64)))] (.agg (ints (cutN (mi xs) (pre.length * 64) 64))) A47 S41 (sub_keep (sub_keep (sub_keep (sub_skip sub_all)))) sub_nil (numbersOf_x xs ad (pre.length * 64) _ (by have hlen := hn; omega) (hr.kept S41.kp) hR) Try.call66 rfl rfl (by kernel_rfl) (by kernel_rfl) (by kernel_rfl) rfl (fun ac wc A72 S73 => ?_)
      have T75 := S73.sub (sub_keep (sub_keep (sub_keep (sub_skip sub_all)))) sub_nil
      refine r_2 (i := 4) (j := 8) (by kernel_rfl) ?_ ?_
      · refine rs_gives (v) A72 S73 (sub_keep (sub_keep (sub_keep (sub_skip sub_all)))) sub_nil (g_load (g := g19) (off := 1) 3 (by kernel_rfl) rfl (by kernel_rfl)) rfl rfl rfl (fun ac A76 => ?_)
        refine r_1 (i := 8) (by kernel_rfl) ?_
        refine rs_bs (e := 123) (r := [(0, .agg (ints (cutN (mi xs) (pre.length * 64) 64)))]) (ints (cutN (mi xs) (pre.length * 64) 64)) A76 S73 (sub_keep (sub_keep (sub_keep (sub_skip sub_all)))) sub_nil (by kernel_rfl) (bsRow_one (bytes := 512) (by kernel_rfl) ((ints_size _).trans (cutN_length _ _ _)) (by decide)) rfl rfl rfl (fun g82 ac wc A80 S81 => ?_)
        have T83 := S81.sub (sub_skip (sub_keep (sub_keep (sub_keep (sub_skip sub_all))))) sub_nil
        refine r_1 (i := 9) (by kernel_rfl) ?_
        refine rs_append (e := 123) (size := 64) (bytes := 512) (v := v) (g := g82) (m' := 1) (c := 1) 0 0 (rowI (cutN (mi xs) (pre.length * 64) 64)) A80 S81 (sub_skip (sub_keep (sub_keep (sub_keep (sub_skip sub_all))))) (fun _ => sub_nil) (by kernel_rfl) (by kernel_rfl) (by kernel_rfl) rfl rfl (take_rowI (cutN_length _ _ _)) (ble_ints (cutN_length _ _ _)) (rowI_one _) (by omega) (by omega) rfl rfl rfl (fun v86 ac wc A84 S85 => ?_)
        obtain ⟨A87, cap88, rfl⟩ := row_slice (v := v86) (m := pre.length + 1) (S85.row 0 rfl)
        have T89 := S85.sub (sub_skip (sub_keep (sub_keep (sub_keep (sub_skip sub_all))))) sub_nil
        refine r_take 10 (.pointer (some ⟨g19, 0, none⟩)) A84 T89 (g_nil (by kernel_rfl)) rfl rfl rfl (pf_block pf_round) (by kernel_rfl) (fun ac A90 => ?_)
        refine r_take 11 (.pointer (some ⟨g19, 1, none⟩)) A90 T89 (g_field (u := .pointer (some ⟨g19, 0, none⟩)) (by kernel_rfl) (fun _ => by kernel_rfl)) rfl rfl rfl (pf_block pf_round) (by kernel_rfl) (fun ac A91 => ?_)
        refine r_1 (i := 12) (by kernel_rfl) ?_
        refine rs_store (g := g19) (off := 1) (v := .slice A87 (pre.length + 1) cap88) 4 (#[.int .i64 (ne : Int), .slice A87 (pre.length + 1) cap88]) A91 S85 (sub_skip (sub_keep (sub_keep (sub_keep (sub_skip sub_all))))) sub_nil (by kernel_rfl) (by kernel_rfl) rfl (by kernel_rfl) rfl rfl (fun wc S93 => ?_)
        have T95 := S93.sub (sub_skip (sub_keep (sub_keep (sub_keep (sub_skip sub_all))))) sub_nil
        refine r_done (by kernel_rfl) ?_
        refine n_block ?_
        refine r_end (w0 := w0) S93 (KpG.cons (S93.get 2 rfl) (KpG.cons (S93.get 1 rfl) KpG.nil)) (fun SE => ?_)
        exact ⟨.slice A87 (pre.length + 1) cap88, (St.rerow 0 (St.recell 4 SE rfl (by rfl)) rfl ⟨by simp, pairs_snoc (by omega) (by simp)⟩).sub (sub_skip sub_all) sub_all⟩
      · refine rs_bs (e := 123) (r := [(0, .agg (ints (cutN (mi xs) (pre.length * 64) 64)))]) (ints (cutN (mi xs) (pre.length * 64) 64)) A72 S73 (sub_keep (sub_keep (sub_keep (sub_skip sub_all)))) sub_nil (by kernel_rfl) (bsRow_one (bytes := 512) (by kernel_rfl) ((ints_size _).trans (cutN_length _ _ _)) (by decide)) rfl rfl rfl (fun g98 ac wc A96 S97 => ?_)
        have T99 := S97.sub (sub_skip (sub_keep (sub_keep (sub_keep (sub_skip sub_all))))) sub_nil
        refine r_1 (i := 4) (by kernel_rfl) ?_
        refine rs_gives (v) A96 S97 (sub_skip (sub_keep (sub_keep (sub_keep (sub_skip sub_all))))) sub_nil (g_load (g := g19) (off := 1) 4 (by kernel_rfl) rfl (by kernel_rfl)) rfl rfl rfl (fun ac A100 => ?_)
        refine r_1 (i := 9) (by kernel_rfl) ?_
        refine rs_append (e := 123) (size := 64) (bytes := 512) (v := v) (g := g98) (m' := 1) (c := 1) 0 0 (rowI (cutN (mi xs) (pre.length * 64) 64)) A100 S97 (sub_skip (sub_keep (sub_keep (sub_keep (sub_skip sub_all))))) (fun _ => sub_nil) (by kernel_rfl) (by kernel_rfl) (by kernel_rfl) rfl rfl (take_rowI (cutN_length _ _ _)) (ble_ints (cutN_length _ _ _)) (rowI_one _) (by omega) (by omega) rfl rfl rfl (fun v106 ac wc A104 S105 => ?_)
        obtain ⟨A107, cap108, rfl⟩ := row_slice (v := v106) (m := pre.length + 1) (S105.row 0 rfl)
        have T109 := S105.sub (sub_skip (sub_keep (sub_keep (sub_keep (sub_skip sub_all))))) sub_nil
        refine r_take 10 (.pointer (some ⟨g19, 0, none⟩)) A104 T109 (g_nil (by kernel_rfl)) rfl rfl rfl (pf_block pf_round) (by kernel_rfl) (fun ac A110 => ?_)
        refine r_take 11 (.pointer (some ⟨g19, 1, none⟩)) A110 T109 (g_field (u := .pointer (some ⟨g19, 0, none⟩)) (by kernel_rfl) (fun _ => by kernel_rfl)) rfl rfl rfl (pf_block pf_round) (by kernel_rfl) (fun ac A111 => ?_)
        refine r_1 (i := 12) (by kernel_rfl) ?_
        refine rs_store (g := g19) (off := 1) (v := .slice A107 (pre.length + 1) cap108) 4 (#[.int .i64 (ne : Int), .slice A107 (pre.length + 1) cap108]) A111 S105 (sub_skip (sub_keep (sub_keep (sub_keep (sub_skip sub_all))))) sub_nil (by kernel_rfl) (by kernel_rfl) rfl (by kernel_rfl) rfl rfl (fun wc S113 => ?_)
        have T115 := S113.sub (sub_skip (sub_keep (sub_keep (sub_keep (sub_skip sub_all))))) sub_nil
        refine r_done (by kernel_rfl) ?_
        refine n_block ?_
        refine r_end (w0 := w0) S113 (KpG.cons (S113.get 2 rfl) (KpG.cons (S113.get 1 rfl) KpG.nil)) (fun SE => ?_)
        exact ⟨.slice A107 (pre.length + 1) cap108, (St.rerow 0 (St.recell 4 SE rfl (by rfl)) rfl ⟨by simp, pairs_snoc (by omega) (by simp)⟩).sub (sub_skip sub_all) sub_all⟩
  · rintro D116 a' WD117 hD118 ⟨v, hS⟩ hK119 HA120
    have SD121 := St.begin hS
    have SR : St ⟨w0, WD117⟩ [⟨gd33, 3, #[.int .i64 64], true⟩, ⟨gc32, 23, #[.slice (some ad) n cap], true⟩, ⟨g23, 130, #[.pointer (some ⟨g19, 0, none⟩)], true⟩, ⟨g19, 137, #[.int .i64 (ne : Int), v], true⟩, ⟨g3, 30, #[.int .i64 (ne : Int), .slice (some ad) n cap], true⟩] [⟨v, 123, 64, (ne * ne), (rowI (mi xs))⟩] _ := St.rerow 0 SD121 rfl ⟨by simp, by rw [List.length_range, List.take_of_length_le (by rw [mi_length]; omega)]⟩
    obtain ⟨g2, cp, rfl⟩ := row_some (v := v) (m := ne * ne) (St.row SR 0 rfl) hpos
    refine n_block ?_
    refine n_then ?_
    refine wp_seq ?_
    refine wp_region_lit ?_
    refine s_one (.pointer (some ⟨g19, 0, none⟩)) HA120 SR (g_load (g := g23) (off := 0) 2 (by kernel_rfl) rfl (by kernel_rfl)) rfl (fun ac A122 => ?_)
    refine s_one (.pointer (some ⟨g19, 0, none⟩)) A122 SR (g_assign (by kernel_rfl)) rfl (fun ac A123 => ?_)
    refine s_one (.int .i64 0) A123 SR (g_assign (by kernel_rfl)) rfl (fun ac A124 => ?_)
    refine wpList_nil ?_
    refine n_then ?_
    refine wp_ret ?_
    refine m_ret (w0 := w0) A124 SR hK119 hD118 (fun ac wc A125 S126 => ?_)
    refine fin2 (.pointer (some ⟨g19, 0, none⟩)) (.int .i64 0) Try.results72 A125 S126 (rv_tmp (by kernel_rfl)) (rv_tmp (by kernel_rfl)) ⟨(g19, g2, cp), rfl, S126.sub (sub_skip (sub_skip (sub_skip (sub_keep sub_nil)))) sub_all⟩
  · exact fun _ _ _ _ _ h => h.elim

end Go.Proofs.Ytcijkniijomcjaa
