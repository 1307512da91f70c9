/- Texts of the proof of TopReciprocalBack, put together (part 7): Av2, Rc, Open, Args, Args2, Args3, ArgsF. -/
import Derived.Test.YtcijkniijomcjaaRb6
import Derived.Below
import Derived.ChangeOld
import Derived.Deep.Slices
import Derived.JoinedOf
import Derived.OpenShut
import Derived.ProofKit
import Derived.ShutString
import Derived.Test.YtcijkniijomcjaaRows
namespace Go.Proofs.Ytcijkniijomcjaa
open Go.RowKit Go.Cpl
theorem open_okN (ne : Nat) (el : Int) (A : Option Addr) (n cap : Nat) (xs : List Nat) (w : World) (hel : el = (ne : Int)) (h1 : 1 ≤ ne) (hx : xs.length = ne * ne * 64) (hn : xs.length = n) (hr : FReads w A xs) (hm : n ≤ 1000) (hcp : n ≤ cap) (h0 : (mxC el xs).2 = 0) : Calls Try.prog 72 #[.agg #[.int .i64 el, .slice A n cap]] w fun e w' => ∃ u : Nat × Nat × Nat, e = .returned (.tuple #[.pointer (some ⟨u.1, 0, none⟩), .int .i64 0]) ∧ St w [⟨u.1, 137, #[.int .i64 (ne : Int), .slice (some (Addr.mk u.2.1 0 none)) (ne * ne) u.2.2], true⟩] [⟨.slice (some (Addr.mk u.2.1 0 none)) (ne * ne) u.2.2, 123, 64, ne * ne, rowI (mi xs)⟩] w' := by
  subst hel
  have hpos : 0 < ne * ne := Nat.mul_pos h1 h1
  obtain ⟨ad, rfl, _⟩ := hr 0 (by omega)
  exact open_ok ne n cap ad xs w hn hr hm hcp h1 (by omega) h0
set_option maxRecDepth 100000 in
set_option maxHeartbeats 400000 in
theorem Averaged_s (A : Option Addr) (cap : Nat) (ms : List Mt) (w0 : World) (hr : MtReads w0 A ms) (hl : ms.length ≤ 1000) :
    Calls Try.prog 28 #[.slice A ms.length cap] w0 fun e w' => ∃ v, e = .returned (.tuple #[.agg #[.int .i64 (avE ms), v], .int .i64 (avZ ms)]) ∧ Below w0.heap.size w0 w' ∧ w'.ownsRow w0.heap.size 36 1 v ((avW ms).length) (rowF (avW ms)) := by
  have S0 := St.start w0
  refine enter (n := 126) Try.func28 rfl rfl rfl (fun ac A0 => ?_)
  refine wp_seq ?_
  refine wp_region_lit ?_
  refine s_alloc (#[.int .i64 0, .slice none 0 0]) A0 S0 (by kernel_rfl) rfl (fun g3 ac wc A1 S2 => ?_)
  refine s_one (.int .i64 0) A1 S2 (g_assign (by kernel_rfl)) rfl (fun ac A4 => ?_)
  refine wpList_nil ?_
  refine n_then ?_
  refine wp_seq ?_
  refine wp_block ?_
  refine wp_seq ?_
  refine wp_region_lit ?_
  refine s_one (.slice A ms.length cap) A4 S2 (g_move (by kernel_rfl)) rfl (fun ac A5 => ?_)
  refine s_one (.int .i64 (ms.length : Int)) A5 S2 (g_built (r := [(0, .slice A ms.length cap)]) (by kernel_rfl) (fun _ _ _ => by kernel_rfl)) rfl (fun ac A6 => ?_)
  refine s_one (.bool (decide ((ms.length : Int) = 0))) A6 S2 (g_bin (u := .int .i64 (ms.length : Int)) (k := .int .i64 0) (by kernel_rfl) (by kernel_rfl) (fun _ => by kernel_rfl) b_eql) rfl (fun ac A7 => ?_)
  refine s_one (.bool (decide ((ms.length : Int) = 0))) A7 S2 (g_assign (by kernel_rfl)) rfl (fun ac A8 => ?_)
  refine wpList_nil ?_
  refine n_then ?_
  refine c_ifb (b := (decide ((ms.length : Int) = 0))) A8 (by kernel_rfl) (fun h9 => ?_) (fun h9 => ?_)
  · have p10 := of_decide_eq_true h9
    refine wp_seq ?_
    refine wp_region_lit ?_
    refine s_one (.agg #[.int .i64 0, .slice none 0 0]) A8 S2 (g_build (r := []) (by kernel_rfl) (fun _ => by kernel_rfl)) rfl (fun ac A11 => ?_)
    refine s_store (g := g3) (off := 0) (v := .agg #[.int .i64 0, .slice none 0 0]) 0 (#[.int .i64 0, .slice none 0 0]) A11 S2 (by kernel_rfl) (by kernel_rfl) rfl (by kernel_rfl) (fun wc S13 => ?_)
    refine s_one (.int .i64 10) A11 S13 (g_assign (by kernel_rfl)) rfl (fun ac A15 => ?_)
    refine wpList_nil ?_
    refine n_then ?_
    refine wp_ret ?_
    refine r_block ?_
    refine r_then ?_
    have S16 := S13.nilRow 36 1
    refine fin2 (.agg #[.int .i64 0, .slice none 0 0]) (.int .i64 10) Try.results28 A15 S16 (rv_cell (g := g3) (off := 0) 0 (by kernel_rfl) rfl (by kernel_rfl)) (rv_tmp (by kernel_rfl)) ?_
    have bw := S16.kp
    have ow := S16.row 0 rfl
    have ez := avZ_0 (ms := ms) (by omega)
    obtain ⟨e1, e2⟩ := av_err ez (by decide)
    rw [e1, e2, ez]
    exact ⟨_, rfl, bw, ow⟩
  · have p17 := of_decide_eq_false h9
    refine wp_seq ?_
    refine wp_region_lit ?_
    refine s_one (.slice A ms.length cap) A8 S2 (g_move (by kernel_rfl)) rfl (fun ac A18 => ?_)
    refine s_one (.int .i64 (ms.length : Int)) A18 S2 (g_built (r := [(0, .slice A ms.length cap)]) (by kernel_rfl) (fun _ _ _ => by kernel_rfl)) rfl (fun ac A19 => ?_)
    refine s_one (.bool (decide ((ms.length : Int) > 32))) A19 S2 (g_bin (u := .int .i64 (ms.length : Int)) (k := .int .i64 32) (by kernel_rfl) (by kernel_rfl) (fun _ => by kernel_rfl) (fun _ => by kernel_rfl)) rfl (fun ac A20 => ?_)
    refine s_one (.bool (decide ((ms.length : Int) > 32))) A20 S2 (g_assign (by kernel_rfl)) rfl (fun ac A21 => ?_)
    refine wpList_nil ?_
    refine n_then ?_
    refine c_ifb (b := (decide ((ms.length : Int) > 32))) A21 (by kernel_rfl) (fun h22 => ?_) (fun h22 => ?_)
    · have p23 := of_decide_eq_true h22
      refine wp_seq ?_
      refine wp_region_lit ?_
      refine s_one (.agg #[.int .i64 0, .slice none 0 0]) A21 S2 (g_build (r := []) (by kernel_rfl) (fun _ => by kernel_rfl)) rfl (fun ac A24 => ?_)
      refine s_store (g := g3) (off := 0) (v := .agg #[.int .i64 0, .slice none 0 0]) 0 (#[.int .i64 0, .slice none 0 0]) A24 S2 (by kernel_rfl) (by kernel_rfl) rfl (by kernel_rfl) (fun wc S26 => ?_)
      refine s_one (.int .i64 8) A24 S26 (g_assign (by kernel_rfl)) rfl (fun ac A28 => ?_)
      refine wpList_nil ?_
      refine n_then ?_
      refine wp_ret ?_
      refine r_block ?_
      refine r_then ?_
      have S29 := S26.nilRow 36 1
      refine fin2 (.agg #[.int .i64 0, .slice none 0 0]) (.int .i64 8) Try.results28 A28 S29 (rv_cell (g := g3) (off := 0) 0 (by kernel_rfl) rfl (by kernel_rfl)) (rv_tmp (by kernel_rfl)) ?_
      have bw := S29.kp
      have ow := S29.row 0 rfl
      have ez := avZ_1 (ms := ms) (by omega)
      obtain ⟨e1, e2⟩ := av_err ez (by decide)
      rw [e1, e2, ez]
      exact ⟨_, rfl, bw, ow⟩
    · have p30 := of_decide_eq_false h22
      refine wp_skip ?_
      refine n_block ?_
      refine n_then ?_
      refine wp_seq ?_
      refine wp_region_lit ?_
      refine s_one (.pointer none) A21 S2 (g_assign (by kernel_rfl)) rfl (fun ac A31 => ?_)
      refine wpList_nil ?_
      refine n_then ?_
      refine wp_seq ?_
      refine wp_seq ?_
      refine wp_region_lit ?_
      refine s_one (.slice A ms.length cap) A31 S2 (g_move (by kernel_rfl)) rfl (fun ac A32 => ?_)
      refine s_one (.int .i64 (ms.length : Int)) A32 S2 (g_built (r := [(0, .slice A ms.length cap)]) (by kernel_rfl) (fun _ _ _ => by kernel_rfl)) rfl (fun ac A33 => ?_)
      refine s_one (.int .i64 0) A33 S2 (g_move (by kernel_rfl)) rfl (fun ac A34 => ?_)
      refine wpList_nil ?_
      refine n_then ?_
      refine wp_block ?_
      refine c_loopP (fun mm ac wc => mm = ms.length ∧ Fr 126 ac [(0, .slice A ms.length cap), (2, .pointer (some ⟨g3, 0, none⟩)), (3, .int .i64 0), (16, .slice A ms.length cap), (17, .int .i64 (ms.length : Int)), (18, .bool (decide ((ms.length : Int) = 0))), (15, .bool (decide ((ms.length : Int) = 0))), (21, .slice A ms.length cap), (22, .int .i64 (ms.length : Int)), (23, .bool (decide ((ms.length : Int) > 32))), (20, .bool (decide ((ms.length : Int) > 32))), (4, .pointer none), (25, .slice A ms.length cap), (26, .int .i64 (ms.length : Int)), (27, .int .i64 0)] ∧ St w0 [⟨g3, 30, #[.int .i64 0, .slice none 0 0], true⟩] [] wc) (fun mm ac wc => ∃ (k : Nat) (ne : Nat) (gm : Nat) (gr : Nat) (cp : Nat), mm = ms.length - k ∧ (k ≤ ms.length) ∧ (1 ≤ k) ∧ (avGood ms k) ∧ ((mtK ms 0).el = (ne : Int)) ∧ (1 ≤ ne) ∧ ((mtK ms 0).xs.length = ne * ne * 64) ∧ Fr 126 ac [(0, .slice A ms.length cap), (2, .pointer (some ⟨g3, 0, none⟩)), (16, .slice A ms.length cap), (17, .int .i64 (ms.length : Int)), (18, .bool (decide ((ms.length : Int) = 0))), (15, .bool (decide ((ms.length : Int) = 0))), (21, .slice A ms.length cap), (22, .int .i64 (ms.length : Int)), (23, .bool (decide ((ms.length : Int) > 32))), (20, .bool (decide ((ms.length : Int) > 32))), (25, .slice A ms.length cap), (26, .int .i64 (ms.length : Int)), (27, .int .i64 (k : Int)), (4, .pointer (some ⟨gm, 0, none⟩))] ∧ St w0 [⟨gm, 137, #[.int .i64 (ne : Int), .slice (some (Addr.mk gr 0 none)) (ne * ne) cp], true⟩, ⟨g3, 30, #[.int .i64 0, .slice none 0 0], true⟩] [⟨.slice (some (Addr.mk gr 0 none)) (ne * ne) cp, 123, 64, (ne * ne), (rowI (sumL ms k))⟩] wc) _ ⟨rfl, (A34.slot (A34.slot (A34.slot (A34.slot (A34.slot (A34.slot (A34.slot (A34.slot (A34.slot (A34.slot (A34.slot (A34.slot (A34.slot (A34.slot (A34.slot A34.nil (v := .int .i64 0) (by kernel_rfl) rfl) (v := .int .i64 (ms.length : Int)) (by kernel_rfl) rfl) (v := .slice A ms.length cap) (by kernel_rfl) rfl) (v := .pointer none) (by kernel_rfl) rfl) (v := .bool (decide ((ms.length : Int) > 32))) (by kernel_rfl) rfl) (v := .bool (decide ((ms.length : Int) > 32))) (by kernel_rfl) rfl) (v := .int .i64 (ms.length : Int)) (by kernel_rfl) rfl) (v := .slice A ms.length cap) (by kernel_rfl) rfl) (v := .bool (decide ((ms.length : Int) = 0))) (by kernel_rfl) rfl) (v := .bool (decide ((ms.length : Int) = 0))) (by kernel_rfl) rfl) (v := .int .i64 (ms.length : Int)) (by kernel_rfl) rfl) (v := .slice A ms.length cap) (by kernel_rfl) rfl) (v := .int .i64 0) (by kernel_rfl) rfl) (v := .pointer (some ⟨g3, 0, none⟩)) (by kernel_rfl) rfl) (v := .slice A ms.length cap) (by kernel_rfl) rfl), S2⟩ ?_ ?_
      · rintro mm ac wc ⟨hm37, A35, S36⟩
        refine wp_seq ?_
        refine wp_region_lit ?_
        refine s_one (.bool (decide (0 < (ms.length : Int)))) A35 S36 (g_bin (u := .int .i64 0) (k := .int .i64 (ms.length : Int)) (by kernel_rfl) (by kernel_rfl) (fun _ => by kernel_rfl) (fun _ => by kernel_rfl)) rfl (fun ac A38 => ?_)
        refine wpList_nil ?_
        refine n_then ?_
        refine wp_seq ?_
        refine c_t (b := (decide (0 < (ms.length : Int)))) A38 (by kernel_rfl) (decide_eq_true (by omega)) ?_
        refine wp_skip ?_
        refine n_then ?_
        refine wp_seq ?_
        refine wp_block ?_
        refine wp_seq ?_
        refine wp_region_lit ?_
        obtain ⟨ad39, he40, hx41⟩ := mt_at hr (k := 0) (by omega)
        have hq42 := (hr.2 0 (by omega)).few
        have hq43 := (hr.2 0 (by omega)).cap
        have hq44 := (hr.2 0 (by omega)).len
        refine s_one (.pointer (some (ad39.add (0 * 2)))) A38 S36 (g_index (u := .slice A ms.length cap) (k := .int .i64 0) (by kernel_rfl) (by kernel_rfl) (ix_xsB (e := 30) (size := 2) (bytes := 32) 0 (by kernel_rfl) (by omega) (by omega) he40)) rfl (fun ac A45 => ?_)
        refine s_one (.agg #[.int .i64 ((mtK ms 0).el), .slice (mtK ms 0).B ((mtK ms 0).n) (mtK ms 0).c]) A45 S36 (g_loadXV (p := ad39.add (0 * 2)) (X := mtC (mtK ms 0)) (by kernel_rfl) hx41 (by kernel_rfl) rfl) rfl (fun ac A46 => ?_)
        refine s_alloc (#[.int .i64 0, .slice none 0 0]) A46 S36 (by kernel_rfl) rfl (fun g49 ac wc A47 S48 => ?_)
        refine s_store (g := g49) (off := 0) (v := .agg #[.int .i64 ((mtK ms 0).el), .slice (mtK ms 0).B ((mtK ms 0).n) (mtK ms 0).c]) 0 (#[.int .i64 ((mtK ms 0).el), .slice (mtK ms 0).B ((mtK ms 0).n) (mtK ms 0).c]) A47 S48 (by kernel_rfl) (by kernel_rfl) rfl (by kernel_rfl) (fun wc S51 => ?_)
        refine wpList_nil ?_
        refine n_then ?_
        refine wp_seq ?_
        rcases Decidable.em ((mxC (mtK ms 0).el (mtK ms 0).xs).2 = 0) with hz | hne
        · obtain ⟨ne, helne, h1ne, hxlne⟩ := mx_natA hz
          refine wp_region_lit ?_
          refine s_one (.agg #[.int .i64 ((mtK ms 0).el), .slice (mtK ms 0).B ((mtK ms 0).n) (mtK ms 0).c]) A47 S51 (g_load (g := g49) (off := 0) 0 (by kernel_rfl) rfl (by kernel_rfl)) rfl (fun ac A53 => ?_)
          refine s_callSt (T := Nat × Nat × Nat) (fs := #[]) (cp := #[]) (r := [(0, .agg #[.int .i64 ((mtK ms 0).el), .slice (mtK ms 0).B ((mtK ms 0).n) (mtK ms 0).c])]) #[.agg #[.int .i64 ((mtK ms 0).el), .slice (mtK ms 0).B ((mtK ms 0).n) (mtK ms 0).c]] (fun u => .tuple #[.pointer (some ⟨u.1, 0, none⟩), .int .i64 0]) (fun u => [⟨u.1, 137, #[.int .i64 (ne : Int), .slice (some (Addr.mk u.2.1 0 none)) (ne * ne) u.2.2], true⟩]) (fun u => [⟨.slice (some (Addr.mk u.2.1 0 none)) (ne * ne) u.2.2, 123, 64, (ne * ne), (rowI (mi ((mtK ms 0).xs)))⟩]) A53 S51 (open_okN ne ((mtK ms 0).el) (mtK ms 0).B (mtK ms 0).n (mtK ms 0).c (mtK ms 0).xs _ helne h1ne hxlne (hr.2 0 (by omega)).len ((hr.2 0 (by omega)).rd.kept S51.kp) (by omega) (by omega) hz) (fun u x hx => by simp only [List.mem_cons, List.not_mem_nil, or_false] at hx; subst hx; rfl) Try.call72 (by kernel_rfl) (by kernel_rfl) (by kernel_rfl) rfl (fun u60 ac wc A54 S55 => ?_)
          obtain ⟨gm57, gr58, cp59⟩ := u60
          replace S55 : St w0 [⟨gm57, 137, #[.int .i64 (ne : Int), .slice (some (Addr.mk gr58 0 none)) (ne * ne) cp59], true⟩, ⟨g49, 30, #[.int .i64 ((mtK ms 0).el), .slice (mtK ms 0).B ((mtK ms 0).n) (mtK ms 0).c], true⟩, ⟨g3, 30, #[.int .i64 0, .slice none 0 0], true⟩] [⟨.slice (some (Addr.mk gr58 0 none)) (ne * ne) cp59, 123, 64, (ne * ne), (rowI (mi ((mtK ms 0).xs)))⟩] _ := S55
          refine s_one (.tuple #[.pointer (some ⟨gm57, 0, none⟩), .int .i64 0]) A54 S55 (g_move (by kernel_rfl)) rfl (fun ac A61 => ?_)
          refine s_one (.pointer (some ⟨gm57, 0, none⟩)) A61 S55 (g_extract (u := .tuple #[.pointer (some ⟨gm57, 0, none⟩), .int .i64 0]) (by kernel_rfl) (fun _ => by kernel_rfl)) rfl (fun ac A62 => ?_)
          refine s_one (.int .i64 0) A62 S55 (g_extract (u := .tuple #[.pointer (some ⟨gm57, 0, none⟩), .int .i64 0]) (by kernel_rfl) (fun _ => by kernel_rfl)) rfl (fun ac A63 => ?_)
          refine s_one (.pointer (some ⟨gm57, 0, none⟩)) A63 S55 (g_assign (by kernel_rfl)) rfl (fun ac A64 => ?_)
          refine s_one (.int .i64 0) A64 S55 (g_assign (by kernel_rfl)) rfl (fun ac A65 => ?_)
          refine wpList_nil ?_
          refine n_then ?_
          refine wp_seq ?_
          refine wp_block ?_
          refine wp_seq ?_
          refine wp_region_lit ?_
          refine s_one (.int .i64 0) A65 S55 (g_move (by kernel_rfl)) rfl (fun ac A66 => ?_)
          refine s_one (.bool (decide (0 ≠ 0))) A66 S55 (g_bin (u := .int .i64 0) (k := .int .i64 0) (by kernel_rfl) (by kernel_rfl) (fun _ => by kernel_rfl) b_neq) rfl (fun ac A67 => ?_)
          refine s_one (.bool (decide (0 ≠ 0))) A67 S55 (g_assign (by kernel_rfl)) rfl (fun ac A68 => ?_)
          refine wpList_nil ?_
          refine n_then ?_
          refine c_f (b := (decide (0 ≠ 0))) A68 (by kernel_rfl) (by decide) ?_
          refine wp_seq ?_
          refine wp_region_lit ?_
          refine s_one (.pointer none) A68 S55 (g_move (by kernel_rfl)) rfl (fun ac A69 => ?_)
          refine s_one (.bool true) A69 S55 (g_bin (u := .pointer none) (k := .pointer none) (by kernel_rfl) (by kernel_rfl) (fun _ => by kernel_rfl) (fun _ => rfl)) rfl (fun ac A70 => ?_)
          refine s_one (.bool true) A70 S55 (g_assign (by kernel_rfl)) rfl (fun ac A71 => ?_)
          refine wpList_nil ?_
          refine n_then ?_
          refine c_t (b := true) A71 (by kernel_rfl) rfl ?_
          refine wp_seq ?_
          refine wp_region_lit ?_
          refine s_one (.pointer (some ⟨gm57, 0, none⟩)) A71 S55 (g_move (by kernel_rfl)) rfl (fun ac A72 => ?_)
          refine s_one (.pointer (some ⟨gm57, 0, none⟩)) A72 S55 (g_assign (by kernel_rfl)) rfl (fun ac A73 => ?_)
          refine wpList_nil ?_
          refine n_then ?_
          refine wp_exit ?_
          refine x_miss rfl ?_
          refine x_then ?_
          refine x_hit ?_
          refine n_then ?_
          refine wp_region_lit ?_
          refine s_one (.int .i64 (0 + 1)) A73 S55 (g_bin (u := .int .i64 0) (k := .int .i64 1) (by kernel_rfl) (by kernel_rfl) (fun _ => by kernel_rfl) (b_add (by omega))) rfl (fun ac A74 => ?_)
          refine s_one (.int .i64 (0 + 1)) A74 S55 (g_move (by kernel_rfl)) rfl (fun ac A75 => ?_)
          refine wpList_nil ?_
          refine n_then ?_
          refine ⟨_, .inr ⟨1, ne, gm57, gr58, cp59, rfl, by omega, Nat.le_refl 1, good_snoc (good_zero ms) hz rfl, helne, h1ne, hxlne, (A75.slot (A75.slot (A75.slot (A75.slot (A75.slot (A75.slot (A75.slot (A75.slot (A75.slot (A75.slot (A75.slot (A75.slot (A75.slot (A75.slot A75.nil (v := .pointer (some ⟨gm57, 0, none⟩)) (by kernel_rfl) rfl) (v := .int .i64 (0 + 1)) (by kernel_rfl) (congrArg (Value.int .i64) (by omega))) (v := .int .i64 (ms.length : Int)) (by kernel_rfl) rfl) (v := .slice A ms.length cap) (by kernel_rfl) rfl) (v := .bool (decide ((ms.length : Int) > 32))) (by kernel_rfl) rfl) (v := .bool (decide ((ms.length : Int) > 32))) (by kernel_rfl) rfl) (v := .int .i64 (ms.length : Int)) (by kernel_rfl) rfl) (v := .slice A ms.length cap) (by kernel_rfl) rfl) (v := .bool (decide ((ms.length : Int) = 0))) (by kernel_rfl) rfl) (v := .bool (decide ((ms.length : Int) = 0))) (by kernel_rfl) rfl) (v := .int .i64 (ms.length : Int)) (by kernel_rfl) rfl) (v := .slice A ms.length cap) (by kernel_rfl) rfl) (v := .pointer (some ⟨g3, 0, none⟩)) (by kernel_rfl) rfl) (v := .slice A ms.length cap) (by kernel_rfl) rfl), (St.rerow 0 S55 rfl ⟨rfl, congrArg rowI (sumL_one ms)⟩).sub (sub_keep (sub_skip sub_all)) sub_all⟩, ?_⟩
          omega
        · refine wp_region_lit ?_
          refine s_one (.agg #[.int .i64 ((mtK ms 0).el), .slice (mtK ms 0).B ((mtK ms 0).n) (mtK ms 0).c]) A47 S51 (g_load (g := g49) (off := 0) 0 (by kernel_rfl) rfl (by kernel_rfl)) rfl (fun ac A76 => ?_)
          refine s_call (fs := #[]) (cp := #[]) (r := [(0, .agg #[.int .i64 ((mtK ms 0).el), .slice (mtK ms 0).B ((mtK ms 0).n) (mtK ms 0).c])]) #[.agg #[.int .i64 ((mtK ms 0).el), .slice (mtK ms 0).B ((mtK ms 0).n) (mtK ms 0).c]] (.tuple #[.pointer none, .int .i64 ((mxC ((mtK ms 0).el) ((mtK ms 0).xs)).2)]) A76 S51 (open_err ((mtK ms 0).el) (mtK ms 0).B ((mtK ms 0).n) (mtK ms 0).c ((mtK ms 0).xs) _ (hr.2 0 (by omega)).len ((hr.2 0 (by omega)).rd.kept S51.kp) (by omega) hne) Try.call72 (by kernel_rfl) (by kernel_rfl) (by kernel_rfl) rfl (fun ac wc A77 S78 => ?_)
          refine s_one (.tuple #[.pointer none, .int .i64 ((mxC ((mtK ms 0).el) ((mtK ms 0).xs)).2)]) A77 S78 (g_move (by kernel_rfl)) rfl (fun ac A80 => ?_)
          refine s_one (.pointer none) A80 S78 (g_extract (u := .tuple #[.pointer none, .int .i64 ((mxC ((mtK ms 0).el) ((mtK ms 0).xs)).2)]) (by kernel_rfl) (fun _ => by kernel_rfl)) rfl (fun ac A81 => ?_)
          refine s_one (.int .i64 ((mxC ((mtK ms 0).el) ((mtK ms 0).xs)).2)) A81 S78 (g_extract (u := .tuple #[.pointer none, .int .i64 ((mxC ((mtK ms 0).el) ((mtK ms 0).xs)).2)]) (by kernel_rfl) (fun _ => by kernel_rfl)) rfl (fun ac A82 => ?_)
          refine s_one (.pointer none) A82 S78 (g_assign (by kernel_rfl)) rfl (fun ac A83 => ?_)
          refine s_one (.int .i64 ((mxC ((mtK ms 0).el) ((mtK ms 0).xs)).2)) A83 S78 (g_assign (by kernel_rfl)) rfl (fun ac A84 => ?_)
          refine wpList_nil ?_
          refine n_then ?_
          refine wp_seq ?_
          refine wp_block ?_
          refine wp_seq ?_
          refine wp_region_lit ?_
          refine s_one (.int .i64 ((mxC ((mtK ms 0).el) ((mtK ms 0).xs)).2)) A84 S78 (g_move (by kernel_rfl)) rfl (fun ac A85 => ?_)
          refine s_one (.bool (decide ((mxC ((mtK ms 0).el) ((mtK ms 0).xs)).2 ≠ 0))) A85 S78 (g_bin (u := .int .i64 ((mxC ((mtK ms 0).el) ((mtK ms 0).xs)).2)) (k := .int .i64 0) (by kernel_rfl) (by kernel_rfl) (fun _ => by kernel_rfl) b_neq) rfl (fun ac A86 => ?_)
          refine s_one (.bool (decide ((mxC ((mtK ms 0).el) ((mtK ms 0).xs)).2 ≠ 0))) A86 S78 (g_assign (by kernel_rfl)) rfl (fun ac A87 => ?_)
          refine wpList_nil ?_
          refine n_then ?_
          refine c_t (b := (decide ((mxC ((mtK ms 0).el) ((mtK ms 0).xs)).2 ≠ 0))) A87 (by kernel_rfl) (decide_eq_true hne) ?_
          refine wp_seq ?_
          refine wp_region_lit ?_
          refine s_one (.agg #[.int .i64 0, .slice none 0 0]) A87 S78 (g_build (r := []) (by kernel_rfl) (fun _ => by kernel_rfl)) rfl (fun ac A88 => ?_)
          refine s_one (.int .i64 ((mxC ((mtK ms 0).el) ((mtK ms 0).xs)).2)) A88 S78 (g_move (by kernel_rfl)) rfl (fun ac A89 => ?_)
          refine s_store (g := g3) (off := 0) (v := .agg #[.int .i64 0, .slice none 0 0]) 1 (#[.int .i64 0, .slice none 0 0]) A89 S78 (by kernel_rfl) (by kernel_rfl) rfl (by kernel_rfl) (fun wc S91 => ?_)
          refine s_one (.int .i64 ((mxC ((mtK ms 0).el) ((mtK ms 0).xs)).2)) A89 S91 (g_assign (by kernel_rfl)) rfl (fun ac A93 => ?_)
          refine wpList_nil ?_
          refine n_then ?_
          refine wp_ret ?_
          refine r_block ?_
          refine r_then ?_
          refine r_block ?_
          refine r_then ?_
          refine r_then ?_
          refine r_block ?_
          refine r_then ?_
          have S94 := S91.nilRow 36 1
          refine fin2 (.agg #[.int .i64 0, .slice none 0 0]) (.int .i64 ((mxC ((mtK ms 0).el) ((mtK ms 0).xs)).2)) Try.results28 A93 S94 (rv_cell (g := g3) (off := 0) 1 (by kernel_rfl) rfl (by kernel_rfl)) (rv_tmp (by kernel_rfl)) ?_
          have bw := S94.kp
          have ow := S94.row 0 rfl
          have ez := avZ_e (ms := ms) (k := 0) (by omega) (by omega) (good_zero ms) hne
          rw [← ez]
          rw [← ez] at hne
          obtain ⟨e1, e2⟩ := av_err rfl hne
          rw [e1, e2]
          exact ⟨_, rfl, bw, ow⟩
      · rintro mm ac wc ⟨k, ne, gm, gr, cp, hm97, hk, hk1, hgd, helne, h1ne, hxlne, A95, S96⟩
        have hsl := sumL_length ms k
        have hn0 := (hr.2 0 (by omega)).len
        have hf0 := (hr.2 0 (by omega)).few
        refine wp_seq ?_
        refine wp_region_lit ?_
        refine s_one (.bool (decide ((k : Int) < (ms.length : Int)))) A95 S96 (g_bin (u := .int .i64 (k : Int)) (k := .int .i64 (ms.length : Int)) (by kernel_rfl) (by kernel_rfl) (fun _ => by kernel_rfl) (fun _ => by kernel_rfl)) rfl (fun ac A98 => ?_)
        refine wpList_nil ?_
        refine n_then ?_
        refine wp_seq ?_
        refine c_ifb (b := (decide ((k : Int) < (ms.length : Int)))) A98 (by kernel_rfl) (fun h99 => ?_) (fun h99 => ?_)
        · have p100 := of_decide_eq_true h99
          refine wp_skip ?_
          refine n_then ?_
          refine wp_seq ?_
          refine wp_block ?_
          refine wp_seq ?_
          refine wp_region_lit ?_
          obtain ⟨ad101, he102, hx103⟩ := mt_at hr (k := k) (by omega)
          have hq104 := (hr.2 k (by omega)).few
          have hq105 := (hr.2 k (by omega)).cap
          have hq106 := (hr.2 k (by omega)).len
          refine s_one (.pointer (some (ad101.add (k * 2)))) A98 S96 (g_index (u := .slice A ms.length cap) (k := .int .i64 (k : Int)) (by kernel_rfl) (by kernel_rfl) (ix_xsB (e := 30) (size := 2) (bytes := 32) k (by kernel_rfl) (by omega) (by omega) he102)) rfl (fun ac A107 => ?_)
          refine s_one (.agg #[.int .i64 ((mtK ms k).el), .slice (mtK ms k).B ((mtK ms k).n) (mtK ms k).c]) A107 S96 (g_loadXV (p := ad101.add (k * 2)) (X := mtC (mtK ms k)) (by kernel_rfl) hx103 (by kernel_rfl) rfl) rfl (fun ac A108 => ?_)
          refine s_alloc (#[.int .i64 0, .slice none 0 0]) A108 S96 (by kernel_rfl) rfl (fun g111 ac wc A109 S110 => ?_)
          refine s_store (g := g111) (off := 0) (v := .agg #[.int .i64 ((mtK ms k).el), .slice (mtK ms k).B ((mtK ms k).n) (mtK ms k).c]) 0 (#[.int .i64 ((mtK ms k).el), .slice (mtK ms k).B ((mtK ms k).n) (mtK ms k).c]) A109 S110 (by kernel_rfl) (by kernel_rfl) rfl (by kernel_rfl) (fun wc S113 => ?_)
          refine wpList_nil ?_
          refine n_then ?_
          refine wp_seq ?_
          rcases Decidable.em ((mxC (mtK ms k).el (mtK ms k).xs).2 = 0) with hz | hne
          · obtain ⟨nk, helnk, h1nk, hxlnk⟩ := mx_natA hz
            refine wp_region_lit ?_
            refine s_one (.agg #[.int .i64 ((mtK ms k).el), .slice (mtK ms k).B ((mtK ms k).n) (mtK ms k).c]) A109 S113 (g_load (g := g111) (off := 0) 0 (by kernel_rfl) rfl (by kernel_rfl)) rfl (fun ac A115 => ?_)
            refine s_callSt (T := Nat × Nat × Nat) (fs := #[]) (cp := #[]) (r := [(0, .agg #[.int .i64 ((mtK ms k).el), .slice (mtK ms k).B ((mtK ms k).n) (mtK ms k).c])]) #[.agg #[.int .i64 ((mtK ms k).el), .slice (mtK ms k).B ((mtK ms k).n) (mtK ms k).c]] (fun u => .tuple #[.pointer (some ⟨u.1, 0, none⟩), .int .i64 0]) (fun u => [⟨u.1, 137, #[.int .i64 (nk : Int), .slice (some (Addr.mk u.2.1 0 none)) (nk * nk) u.2.2], true⟩]) (fun u => [⟨.slice (some (Addr.mk u.2.1 0 none)) (nk * nk) u.2.2, 123, 64, (nk * nk), (rowI (mi ((mtK ms k).xs)))⟩]) A115 S113 (open_okN nk ((mtK ms k).el) (mtK ms k).B (mtK ms k).n (mtK ms k).c (mtK ms k).xs _ helnk h1nk hxlnk (hr.2 k (by omega)).len ((hr.2 k (by omega)).rd.kept S113.kp) (by omega) (by omega) hz) (fun u x hx => by simp only [List.mem_cons, List.not_mem_nil, or_false] at hx; subst hx; rfl) Try.call72 (by kernel_rfl) (by kernel_rfl) (by kernel_rfl) rfl (fun u122 ac wc A116 S117 => ?_)
            obtain ⟨gm119, gr120, cp121⟩ := u122
            replace S117 : St w0 [⟨gm119, 137, #[.int .i64 (nk : Int), .slice (some (Addr.mk gr120 0 none)) (nk * nk) cp121], true⟩, ⟨g111, 30, #[.int .i64 ((mtK ms k).el), .slice (mtK ms k).B ((mtK ms k).n) (mtK ms k).c], true⟩, ⟨gm, 137, #[.int .i64 (ne : Int), .slice (some (Addr.mk gr 0 none)) (ne * ne) cp], true⟩, ⟨g3, 30, #[.int .i64 0, .slice none 0 0], true⟩] [⟨.slice (some (Addr.mk gr120 0 none)) (nk * nk) cp121, 123, 64, (nk * nk), (rowI (mi ((mtK ms k).xs)))⟩, ⟨.slice (some (Addr.mk gr 0 none)) (ne * ne) cp, 123, 64, (ne * ne), (rowI (sumL ms k))⟩] _ := S117
            refine s_one (.tuple #[.pointer (some ⟨gm119, 0, none⟩), .int .i64 0]) A116 S117 (g_move (by kernel_rfl)) rfl (fun ac A123 => ?_)
            refine s_one (.pointer (some ⟨gm119, 0, none⟩)) A123 S117 (g_extract (u := .tuple #[.pointer (some ⟨gm119, 0, none⟩), .int .i64 0]) (by kernel_rfl) (fun _ => by kernel_rfl)) rfl (fun ac A124 => ?_)
            refine s_one (.int .i64 0) A124 S117 (g_extract (u := .tuple #[.pointer (some ⟨gm119, 0, none⟩), .int .i64 0]) (by kernel_rfl) (fun _ => by kernel_rfl)) rfl (fun ac A125 => ?_)
            refine s_one (.pointer (some ⟨gm119, 0, none⟩)) A125 S117 (g_assign (by kernel_rfl)) rfl (fun ac A126 => ?_)
            refine s_one (.int .i64 0) A126 S117 (g_assign (by kernel_rfl)) rfl (fun ac A127 => ?_)
            refine wpList_nil ?_
            refine n_then ?_
            refine wp_seq ?_
            refine wp_block ?_
            refine wp_seq ?_
            refine wp_region_lit ?_
            refine s_one (.int .i64 0) A127 S117 (g_move (by kernel_rfl)) rfl (fun ac A128 => ?_)
            refine s_one (.bool (decide (0 ≠ 0))) A128 S117 (g_bin (u := .int .i64 0) (k := .int .i64 0) (by kernel_rfl) (by kernel_rfl) (fun _ => by kernel_rfl) b_neq) rfl (fun ac A129 => ?_)
            refine s_one (.bool (decide (0 ≠ 0))) A129 S117 (g_assign (by kernel_rfl)) rfl (fun ac A130 => ?_)
            refine wpList_nil ?_
            refine n_then ?_
            refine c_f (b := (decide (0 ≠ 0))) A130 (by kernel_rfl) (by decide) ?_
            refine wp_seq ?_
            refine wp_region_lit ?_
            refine s_one (.pointer (some ⟨gm, 0, none⟩)) A130 S117 (g_move (by kernel_rfl)) rfl (fun ac A131 => ?_)
            refine s_one (.bool false) A131 S117 (g_bin (u := .pointer (some ⟨gm, 0, none⟩)) (k := .pointer none) (by kernel_rfl) (by kernel_rfl) (fun _ => by kernel_rfl) (fun _ => rfl)) rfl (fun ac A132 => ?_)
            refine s_one (.bool false) A132 S117 (g_assign (by kernel_rfl)) rfl (fun ac A133 => ?_)
            refine wpList_nil ?_
            refine n_then ?_
            refine c_f (b := false) A133 (by kernel_rfl) rfl ?_
            refine wp_seq ?_
            refine r_begin (w0 := w0) (by kernel_rfl) (S117.sub sub_all sub_nil) (fun wc T134 B135 => ?_)
            have S136 := S117.kept B135
            refine r_take 0 (.pointer (some ⟨gm119, 0, none⟩)) A133 T134 (g_move (by kernel_rfl)) rfl rfl rfl (pf_then (pf_block (pf_then (pf_block (pf_then (pf_then (pf_block (pf_then pf_body)))))))) (by kernel_rfl) (fun ac A137 => ?_)
            refine r_take 1 (.pointer (some ⟨gm119, 0, none⟩)) A137 T134 (g_nil (by kernel_rfl)) rfl rfl rfl (pf_then (pf_block (pf_then (pf_block (pf_then (pf_then (pf_block (pf_then pf_body)))))))) (by kernel_rfl) (fun ac A138 => ?_)
            refine r_take 2 (.pointer (some ⟨gm119, 0, none⟩)) A138 T134 (g_field (u := .pointer (some ⟨gm119, 0, none⟩)) (by kernel_rfl) (fun _ => by kernel_rfl)) rfl rfl rfl (pf_then (pf_block (pf_then (pf_block (pf_then (pf_then (pf_block (pf_then pf_body)))))))) (by kernel_rfl) (fun ac A139 => ?_)
            refine r_take 3 (.int .i64 (nk : Int)) A139 T134 (g_load (g := gm119) (off := 0) 0 (by kernel_rfl) rfl (by kernel_rfl)) rfl rfl rfl (pf_then (pf_block (pf_then (pf_block (pf_then (pf_then (pf_block (pf_then pf_body)))))))) (by kernel_rfl) (fun ac A140 => ?_)
            refine r_take 4 (.pointer (some ⟨gm, 0, none⟩)) A140 T134 (g_move (by kernel_rfl)) rfl rfl rfl (pf_then (pf_block (pf_then (pf_block (pf_then (pf_then (pf_block (pf_then pf_body)))))))) (by kernel_rfl) (fun ac A141 => ?_)
            refine r_take 5 (.pointer (some ⟨gm, 0, none⟩)) A141 T134 (g_nil (by kernel_rfl)) rfl rfl rfl (pf_then (pf_block (pf_then (pf_block (pf_then (pf_then (pf_block (pf_then pf_body)))))))) (by kernel_rfl) (fun ac A142 => ?_)
            refine r_take 6 (.pointer (some ⟨gm, 0, none⟩)) A142 T134 (g_field (u := .pointer (some ⟨gm, 0, none⟩)) (by kernel_rfl) (fun _ => by kernel_rfl)) rfl rfl rfl (pf_then (pf_block (pf_then (pf_block (pf_then (pf_then (pf_block (pf_then pf_body)))))))) (by kernel_rfl) (fun ac A143 => ?_)
            refine r_take 7 (.int .i64 (ne : Int)) A143 T134 (g_load (g := gm) (off := 0) 2 (by kernel_rfl) rfl (by kernel_rfl)) rfl rfl rfl (pf_then (pf_block (pf_then (pf_block (pf_then (pf_then (pf_block (pf_then pf_body)))))))) (by kernel_rfl) (fun ac A144 => ?_)
            refine r_take 8 (.bool (decide ((nk : Int) ≠ (ne : Int)))) A144 T134 (g_bin (u := .int .i64 (nk : Int)) (k := .int .i64 (ne : Int)) (by kernel_rfl) (by kernel_rfl) (fun _ => by kernel_rfl) b_neq) rfl rfl rfl (pf_then (pf_block (pf_then (pf_block (pf_then (pf_then (pf_block (pf_then pf_body)))))))) (by kernel_rfl) (fun ac A145 => ?_)
            refine r_take 9 (.bool (decide ((nk : Int) ≠ (ne : Int)))) A145 T134 (g_assign (by kernel_rfl)) rfl rfl rfl (pf_then (pf_block (pf_then (pf_block (pf_then (pf_then (pf_block (pf_then pf_body)))))))) (by kernel_rfl) (fun ac A146 => ?_)
            refine r_done (by kernel_rfl) ?_
            refine n_then ?_
            refine c_ifb (b := (decide ((nk : Int) ≠ (ne : Int)))) A146 (by kernel_rfl) (fun h147 => ?_) (fun h147 => ?_)
            · have p148 := of_decide_eq_true h147
              have hcl : ¬ (mtK ms k).el = (mtK ms 0).el := by omega
              refine wp_seq ?_
              refine wp_region_lit ?_
              refine s_one (.agg #[.int .i64 0, .slice none 0 0]) A146 S136 (g_build (r := []) (by kernel_rfl) (fun _ => by kernel_rfl)) rfl (fun ac A149 => ?_)
              refine s_store (g := g3) (off := 0) (v := .agg #[.int .i64 0, .slice none 0 0]) 3 (#[.int .i64 0, .slice none 0 0]) A149 S136 (by kernel_rfl) (by kernel_rfl) rfl (by kernel_rfl) (fun wc S151 => ?_)
              refine s_one (.int .i64 13) A149 S151 (g_assign (by kernel_rfl)) rfl (fun ac A153 => ?_)
              refine wpList_nil ?_
              refine n_then ?_
              refine wp_ret ?_
              refine r_block ?_
              refine r_then ?_
              refine r_block ?_
              refine r_then ?_
              refine r_then ?_
              refine r_block ?_
              refine r_then ?_
              have S154 := S151.nilRow 36 1
              refine fin2 (.agg #[.int .i64 0, .slice none 0 0]) (.int .i64 13) Try.results28 A153 S154 (rv_cell (g := g3) (off := 0) 3 (by kernel_rfl) rfl (by kernel_rfl)) (rv_tmp (by kernel_rfl)) ?_
              have bw := S154.kp
              have ow := S154.row 0 rfl
              have ez := avZ_c (ms := ms) (k := k) (by omega) (by omega) hgd hz hcl
              obtain ⟨e1, e2⟩ := av_err ez (by decide)
              rw [e1, e2, ez]
              exact ⟨_, rfl, bw, ow⟩
            · have p155 := of_decide_eq_false h147
              have hnn : nk = ne := by omega
              have hNN : nk * nk = ne * ne := by rw [hnn]
              refine wp_skip ?_
              refine n_block ?_
              refine n_then ?_
              refine wp_seq ?_
              refine wp_region_lit ?_
              refine s_one (.pointer (some ⟨gm119, 0, none⟩)) A146 S136 (g_move (by kernel_rfl)) rfl (fun ac A156 => ?_)
              refine s_one (.pointer (some ⟨gm119, 0, none⟩)) A156 S136 (g_nil (by kernel_rfl)) rfl (fun ac A157 => ?_)
              refine s_one (.pointer (some ⟨gm119, 1, none⟩)) A157 S136 (g_field (u := .pointer (some ⟨gm119, 0, none⟩)) (by kernel_rfl) (fun _ => by kernel_rfl)) rfl (fun ac A158 => ?_)
              refine s_one (.slice (some (Addr.mk gr120 0 none)) (nk * nk) cp121) A158 S136 (g_load (g := gm119) (off := 1) 0 (by kernel_rfl) rfl (by kernel_rfl)) rfl (fun ac A159 => ?_)
              refine s_one (.int .i64 ((nk * nk) : Int)) A159 S136 (g_built (r := [(0, .slice (some (Addr.mk gr120 0 none)) (nk * nk) cp121)]) (by kernel_rfl) (fun _ _ _ => by kernel_rfl)) rfl (fun ac A160 => ?_)
              refine s_one (.int .i64 0) A160 S136 (g_move (by kernel_rfl)) rfl (fun ac A161 => ?_)
              refine wpList_nil ?_
              refine n_then ?_
              refine wp_block ?_
              refine c_loopN (fun mm ac wc => ∃ (i : Nat), mm = ne * ne - i ∧ (i ≤ ne * ne) ∧ Fr 126 ac [(0, .slice A ms.length cap), (2, .pointer (some ⟨g3, 0, none⟩)), (16, .slice A ms.length cap), (17, .int .i64 (ms.length : Int)), (18, .bool (decide ((ms.length : Int) = 0))), (15, .bool (decide ((ms.length : Int) = 0))), (21, .slice A ms.length cap), (22, .int .i64 (ms.length : Int)), (23, .bool (decide ((ms.length : Int) > 32))), (20, .bool (decide ((ms.length : Int) > 32))), (25, .slice A ms.length cap), (26, .int .i64 (ms.length : Int)), (27, .int .i64 (k : Int)), (4, .pointer (some ⟨gm, 0, none⟩)), (28, .bool (decide ((k : Int) < (ms.length : Int)))), (29, .pointer (some (ad101.add (k * 2)))), (30, .agg #[.int .i64 ((mtK ms k).el), .slice (mtK ms k).B ((mtK ms k).n) (mtK ms k).c]), (6, .pointer (some ⟨g111, 0, none⟩)), (32, .agg #[.int .i64 ((mtK ms k).el), .slice (mtK ms k).B ((mtK ms k).n) (mtK ms k).c]), (33, .tuple #[.pointer (some ⟨gm119, 0, none⟩), .int .i64 0]), (31, .tuple #[.pointer (some ⟨gm119, 0, none⟩), .int .i64 0]), (34, .pointer (some ⟨gm119, 0, none⟩)), (35, .int .i64 0), (7, .pointer (some ⟨gm119, 0, none⟩)), (8, .int .i64 0), (37, .int .i64 0), (38, .bool (decide (0 ≠ 0))), (36, .bool (decide (0 ≠ 0))), (42, .pointer (some ⟨gm, 0, none⟩)), (43, .bool false), (41, .bool false), (46, .pointer (some ⟨gm119, 0, none⟩)), (47, .pointer (some ⟨gm119, 0, none⟩)), (48, .pointer (some ⟨gm119, 0, none⟩)), (49, .int .i64 (nk : Int)), (50, .pointer (some ⟨gm, 0, none⟩)), (51, .pointer (some ⟨gm, 0, none⟩)), (52, .pointer (some ⟨gm, 0, none⟩)), (53, .int .i64 (ne : Int)), (54, .bool (decide ((nk : Int) ≠ (ne : Int)))), (45, .bool (decide ((nk : Int) ≠ (ne : Int)))), (56, .pointer (some ⟨gm119, 0, none⟩)), (57, .pointer (some ⟨gm119, 0, none⟩)), (58, .pointer (some ⟨gm119, 1, none⟩)), (59, .slice (some (Addr.mk gr120 0 none)) (nk * nk) cp121), (60, .int .i64 ((nk * nk) : Int)), (61, .int .i64 (i : Int))] ∧ St w0 [⟨gm119, 137, #[.int .i64 (nk : Int), .slice (some (Addr.mk gr120 0 none)) (nk * nk) cp121], true⟩, ⟨g111, 30, #[.int .i64 ((mtK ms k).el), .slice (mtK ms k).B ((mtK ms k).n) (mtK ms k).c], true⟩, ⟨gm, 137, #[.int .i64 (ne : Int), .slice (some (Addr.mk gr 0 none)) (ne * ne) cp], true⟩, ⟨g3, 30, #[.int .i64 0, .slice none 0 0], true⟩] [⟨.slice (some (Addr.mk gr120 0 none)) (nk * nk) cp121, 123, 64, (nk * nk), (rowI (mi ((mtK ms k).xs)))⟩, ⟨.slice (some (Addr.mk gr 0 none)) (ne * ne) cp, 123, 64, (ne * ne), (rowI (updL (addF (mi (mtK ms k).xs)) (sumL ms k) (i * 64)))⟩] wc) _ ⟨0, rfl, Nat.zero_le _, (A161.slot (A161.slot (A161.slot (A161.slot (A161.slot (A161.slot (A161.slot (A161.slot (A161.slot (A161.slot (A161.slot (A161.slot (A161.slot (A161.slot (A161.slot (A161.slot (A161.slot (A161.slot (A161.slot (A161.slot (A161.slot (A161.slot (A161.slot (A161.slot (A161.slot (A161.slot (A161.slot (A161.slot (A161.slot (A161.slot (A161.slot (A161.slot (A161.slot (A161.slot (A161.slot (A161.slot (A161.slot (A161.slot (A161.slot (A161.slot (A161.slot (A161.slot (A161.slot (A161.slot (A161.slot (A161.slot (A161.slot A161.nil (v := .int .i64 0) (by kernel_rfl) (congrArg (Value.int .i64) (by omega))) (v := .int .i64 ((nk * nk) : Int)) (by kernel_rfl) rfl) (v := .slice (some (Addr.mk gr120 0 none)) (nk * nk) cp121) (by kernel_rfl) rfl) (v := .pointer (some ⟨gm119, 1, none⟩)) (by kernel_rfl) rfl) (v := .pointer (some ⟨gm119, 0, none⟩)) (by kernel_rfl) rfl) (v := .pointer (some ⟨gm119, 0, none⟩)) (by kernel_rfl) rfl) (v := .bool (decide ((nk : Int) ≠ (ne : Int)))) (by kernel_rfl) rfl) (v := .bool (decide ((nk : Int) ≠ (ne : Int)))) (by kernel_rfl) rfl) (v := .int .i64 (ne : Int)) (by kernel_rfl) rfl) (v := .pointer (some ⟨gm, 0, none⟩)) (by kernel_rfl) rfl) (v := .pointer (some ⟨gm, 0, none⟩)) (by kernel_rfl) rfl) (v := .pointer (some ⟨gm, 0, none⟩)) (by kernel_rfl) rfl) (v := .int .i64 (nk : Int)) (by kernel_rfl) rfl) (v := .pointer (some ⟨gm119, 0, none⟩)) (by kernel_rfl) rfl) (v := .pointer (some ⟨gm119, 0, none⟩)) (by kernel_rfl) rfl) (v := .pointer (some ⟨gm119, 0, none⟩)) (by kernel_rfl) rfl) (v := .bool false) (by kernel_rfl) rfl) (v := .bool false) (by kernel_rfl) rfl) (v := .pointer (some ⟨gm, 0, none⟩)) (by kernel_rfl) rfl) (v := .bool (decide (0 ≠ 0))) (by kernel_rfl) rfl) (v := .bool (decide (0 ≠ 0))) (by kernel_rfl) rfl) (v := .int .i64 0) (by kernel_rfl) rfl) (v := .int .i64 0) (by kernel_rfl) rfl) (v := .pointer (some ⟨gm119, 0, none⟩)) (by kernel_rfl) rfl) (v := .int .i64 0) (by kernel_rfl) rfl) (v := .pointer (some ⟨gm119, 0, none⟩)) (by kernel_rfl) rfl) (v := .tuple #[.pointer (some ⟨gm119, 0, none⟩), .int .i64 0]) (by kernel_rfl) rfl) (v := .tuple #[.pointer (some ⟨gm119, 0, none⟩), .int .i64 0]) (by kernel_rfl) rfl) (v := .agg #[.int .i64 ((mtK ms k).el), .slice (mtK ms k).B ((mtK ms k).n) (mtK ms k).c]) (by kernel_rfl) rfl) (v := .pointer (some ⟨g111, 0, none⟩)) (by kernel_rfl) rfl) (v := .agg #[.int .i64 ((mtK ms k).el), .slice (mtK ms k).B ((mtK ms k).n) (mtK ms k).c]) (by kernel_rfl) rfl) (v := .pointer (some (ad101.add (k * 2)))) (by kernel_rfl) rfl) (v := .bool (decide ((k : Int) < (ms.length : Int)))) (by kernel_rfl) rfl) (v := .pointer (some ⟨gm, 0, none⟩)) (by kernel_rfl) rfl) (v := .int .i64 (k : Int)) (by kernel_rfl) rfl) (v := .int .i64 (ms.length : Int)) (by kernel_rfl) rfl) (v := .slice A ms.length cap) (by kernel_rfl) rfl) (v := .bool (decide ((ms.length : Int) > 32))) (by kernel_rfl) rfl) (v := .bool (decide ((ms.length : Int) > 32))) (by kernel_rfl) rfl) (v := .int .i64 (ms.length : Int)) (by kernel_rfl) rfl) (v := .slice A ms.length cap) (by kernel_rfl) rfl) (v := .bool (decide ((ms.length : Int) = 0))) (by kernel_rfl) rfl) (v := .bool (decide ((ms.length : Int) = 0))) (by kernel_rfl) rfl) (v := .int .i64 (ms.length : Int)) (by kernel_rfl) rfl) (v := .slice A ms.length cap) (by kernel_rfl) rfl) (v := .pointer (some ⟨g3, 0, none⟩)) (by kernel_rfl) rfl) (v := .slice A ms.length cap) (by kernel_rfl) rfl), (St.rerow 1 S136 rfl ⟨rfl, congrArg rowI (by rw [Nat.zero_mul, updL_zero])⟩).sub sub_all sub_all⟩ ?_
              rintro mm ac wc ⟨i, hm164, hi, A162, S163⟩
              refine wp_seq ?_
              refine wp_region_lit ?_
              refine s_one (.bool (decide ((i : Int) < ((nk * nk) : Int)))) A162 S163 (g_bin (u := .int .i64 (i : Int)) (k := .int .i64 ((nk * nk) : Int)) (by kernel_rfl) (by kernel_rfl) (fun _ => by kernel_rfl) (fun _ => by kernel_rfl)) rfl (fun ac A165 => ?_)
              refine wpList_nil ?_
              refine n_then ?_
              refine wp_seq ?_
              refine c_ifb (b := (decide ((i : Int) < ((nk * nk) : Int)))) A165 (by kernel_rfl) (fun h166 => ?_) (fun h166 => ?_)
              · have p167 := of_decide_eq_true h166
                refine wp_skip ?_
                refine n_then ?_
                refine wp_seq ?_
                refine wp_block ?_
                refine wp_seq ?_
                refine wp_region_lit ?_
                refine s_one (.int .i64 (i : Int)) A165 S163 (g_move (by kernel_rfl)) rfl (fun ac A168 => ?_)
                refine s_one (.int .i64 (i : Int)) A168 S163 (g_assign (by kernel_rfl)) rfl (fun ac A169 => ?_)
                refine wpList_nil ?_
                refine n_then ?_
                refine wp_seq ?_
                refine wp_region_lit ?_
                refine s_one (.pointer (some ⟨gm119, 0, none⟩)) A169 S163 (g_move (by kernel_rfl)) rfl (fun ac A170 => ?_)
                refine s_one (.pointer (some ⟨gm119, 0, none⟩)) A170 S163 (g_nil (by kernel_rfl)) rfl (fun ac A171 => ?_)
                refine s_one (.pointer (some ⟨gm119, 1, none⟩)) A171 S163 (g_field (u := .pointer (some ⟨gm119, 0, none⟩)) (by kernel_rfl) (fun _ => by kernel_rfl)) rfl (fun ac A172 => ?_)
                refine s_one (.slice (some (Addr.mk gr120 0 none)) (nk * nk) cp121) A172 S163 (g_load (g := gm119) (off := 1) 0 (by kernel_rfl) rfl (by kernel_rfl)) rfl (fun ac A173 => ?_)
                refine s_one (.int .i64 (i : Int)) A173 S163 (g_move (by kernel_rfl)) rfl (fun ac A174 => ?_)
                refine s_one (.pointer (some ((Addr.mk gr120 0 none).add (i * 64)))) A174 S163 (g_index (u := .slice (some (Addr.mk gr120 0 none)) (nk * nk) cp121) (k := .int .i64 (i : Int)) (by kernel_rfl) (by kernel_rfl) (ix_xs (e := 123) (bytes := 512) i (by kernel_rfl) (by omega) (by omega))) rfl (fun ac A175 => ?_)
                refine s_one (.agg (ints (cutN (mi ((mtK ms k).xs)) (i * 64) 64))) A175 S163 (g_loadRN (l := mi ((mtK ms k).xs)) (k := i * 64) 0 64 (by kernel_rfl) rfl (by have hlen := (show (mi ((mtK ms k).xs)).length = (nk * nk) * 64 by rw [mi_length]; omega); omega) (by kernel_rfl)) rfl (fun ac A176 => ?_)
                refine s_one (.int .i64 0) A176 S163 (g_move (by kernel_rfl)) rfl (fun ac A177 => ?_)
                refine wpList_nil ?_
                refine n_then ?_
                refine wp_block ?_
                refine c_loopN (fun mm ac wc => ∃ (q : Nat), mm = 64 - q ∧ (q ≤ 64) ∧ Fr 126 ac [(0, .slice A ms.length cap), (2, .pointer (some ⟨g3, 0, none⟩)), (16, .slice A ms.length cap), (17, .int .i64 (ms.length : Int)), (18, .bool (decide ((ms.length : Int) = 0))), (15, .bool (decide ((ms.length : Int) = 0))), (21, .slice A ms.length cap), (22, .int .i64 (ms.length : Int)), (23, .bool (decide ((ms.length : Int) > 32))), (20, .bool (decide ((ms.length : Int) > 32))), (25, .slice A ms.length cap), (26, .int .i64 (ms.length : Int)), (27, .int .i64 (k : Int)), (4, .pointer (some ⟨gm, 0, none⟩)), (28, .bool (decide ((k : Int) < (ms.length : Int)))), (29, .pointer (some (ad101.add (k * 2)))), (30, .agg #[.int .i64 ((mtK ms k).el), .slice (mtK ms k).B ((mtK ms k).n) (mtK ms k).c]), (6, .pointer (some ⟨g111, 0, none⟩)), (32, .agg #[.int .i64 ((mtK ms k).el), .slice (mtK ms k).B ((mtK ms k).n) (mtK ms k).c]), (33, .tuple #[.pointer (some ⟨gm119, 0, none⟩), .int .i64 0]), (31, .tuple #[.pointer (some ⟨gm119, 0, none⟩), .int .i64 0]), (34, .pointer (some ⟨gm119, 0, none⟩)), (35, .int .i64 0), (7, .pointer (some ⟨gm119, 0, none⟩)), (8, .int .i64 0), (37, .int .i64 0), (38, .bool (decide (0 ≠ 0))), (36, .bool (decide (0 ≠ 0))), (42, .pointer (some ⟨gm, 0, none⟩)), (43, .bool false), (41, .bool false), (46, .pointer (some ⟨gm119, 0, none⟩)), (47, .pointer (some ⟨gm119, 0, none⟩)), (48, .pointer (some ⟨gm119, 0, none⟩)), (49, .int .i64 (nk : Int)), (50, .pointer (some ⟨gm, 0, none⟩)), (51, .pointer (some ⟨gm, 0, none⟩)), (52, .pointer (some ⟨gm, 0, none⟩)), (53, .int .i64 (ne : Int)), (54, .bool (decide ((nk : Int) ≠ (ne : Int)))), (45, .bool (decide ((nk : Int) ≠ (ne : Int)))), (56, .pointer (some ⟨gm119, 0, none⟩)), (57, .pointer (some ⟨gm119, 0, none⟩)), (58, .pointer (some ⟨gm119, 1, none⟩)), (59, .slice (some (Addr.mk gr120 0 none)) (nk * nk) cp121), (60, .int .i64 ((nk * nk) : Int)), (61, .int .i64 (i : Int)), (62, .bool (decide ((i : Int) < ((nk * nk) : Int)))), (63, .int .i64 (i : Int)), (9, .int .i64 (i : Int)), (64, .pointer (some ⟨gm119, 0, none⟩)), (65, .pointer (some ⟨gm119, 0, none⟩)), (66, .pointer (some ⟨gm119, 1, none⟩)), (67, .slice (some (Addr.mk gr120 0 none)) (nk * nk) cp121), (68, .int .i64 (i : Int)), (69, .pointer (some ((Addr.mk gr120 0 none).add (i * 64)))), (70, .agg (ints (cutN (mi ((mtK ms k).xs)) (i * 64) 64))), (71, .int .i64 (q : Int))] ∧ St w0 [⟨gm119, 137, #[.int .i64 (nk : Int), .slice (some (Addr.mk gr120 0 none)) (nk * nk) cp121], true⟩, ⟨g111, 30, #[.int .i64 ((mtK ms k).el), .slice (mtK ms k).B ((mtK ms k).n) (mtK ms k).c], true⟩, ⟨gm, 137, #[.int .i64 (ne : Int), .slice (some (Addr.mk gr 0 none)) (ne * ne) cp], true⟩, ⟨g3, 30, #[.int .i64 0, .slice none 0 0], true⟩] [⟨.slice (some (Addr.mk gr120 0 none)) (nk * nk) cp121, 123, 64, (nk * nk), (rowI (mi ((mtK ms k).xs)))⟩, ⟨.slice (some (Addr.mk gr 0 none)) (ne * ne) cp, 123, 64, (ne * ne), (rowI (updL (addF (mi (mtK ms k).xs)) (sumL ms k) (i * 64 + q)))⟩] wc) _ ⟨0, rfl, Nat.zero_le _, (A177.slot (A177.slot (A177.slot (A177.slot (A177.slot (A177.slot (A177.slot (A177.slot (A177.slot (A177.slot (A177.slot (A177.slot (A177.slot (A177.slot (A177.slot (A177.slot (A177.slot (A177.slot (A177.slot (A177.slot (A177.slot (A177.slot (A177.slot (A177.slot (A177.slot (A177.slot (A177.slot (A177.slot (A177.slot (A177.slot (A177.slot (A177.slot (A177.slot (A177.slot (A177.slot (A177.slot (A177.slot (A177.slot (A177.slot (A177.slot (A177.slot (A177.slot (A177.slot (A177.slot (A177.slot (A177.slot (A177.slot (A177.slot (A177.slot (A177.slot (A177.slot (A177.slot (A177.slot (A177.slot (A177.slot (A177.slot (A177.slot (A177.slot A177.nil (v := .int .i64 0) (by kernel_rfl) (congrArg (Value.int .i64) (by omega))) (v := .agg (ints (cutN (mi ((mtK ms k).xs)) (i * 64) 64))) (by kernel_rfl) rfl) (v := .pointer (some ((Addr.mk gr120 0 none).add (i * 64)))) (by kernel_rfl) rfl) (v := .int .i64 (i : Int)) (by kernel_rfl) rfl) (v := .slice (some (Addr.mk gr120 0 none)) (nk * nk) cp121) (by kernel_rfl) rfl) (v := .pointer (some ⟨gm119, 1, none⟩)) (by kernel_rfl) rfl) (v := .pointer (some ⟨gm119, 0, none⟩)) (by kernel_rfl) rfl) (v := .pointer (some ⟨gm119, 0, none⟩)) (by kernel_rfl) rfl) (v := .int .i64 (i : Int)) (by kernel_rfl) rfl) (v := .int .i64 (i : Int)) (by kernel_rfl) rfl) (v := .bool (decide ((i : Int) < ((nk * nk) : Int)))) (by kernel_rfl) rfl) (v := .int .i64 (i : Int)) (by kernel_rfl) rfl) (v := .int .i64 ((nk * nk) : Int)) (by kernel_rfl) rfl) (v := .slice (some (Addr.mk gr120 0 none)) (nk * nk) cp121) (by kernel_rfl) rfl) (v := .pointer (some ⟨gm119, 1, none⟩)) (by kernel_rfl) rfl) (v := .pointer (some ⟨gm119, 0, none⟩)) (by kernel_rfl) rfl) (v := .pointer (some ⟨gm119, 0, none⟩)) (by kernel_rfl) rfl) (v := .bool (decide ((nk : Int) ≠ (ne : Int)))) (by kernel_rfl) rfl) (v := .bool (decide ((nk : Int) ≠ (ne : Int)))) (by kernel_rfl) rfl) (v := .int .i64 (ne : Int)) (by kernel_rfl) rfl) (v := .pointer (some ⟨gm, 0, none⟩)) (by kernel_rfl) rfl) (v := .pointer (some ⟨gm, 0, none⟩)) (by kernel_rfl) rfl) (v := .pointer (some ⟨gm, 0, none⟩)) (by kernel_rfl) rfl) (v := .int .i64 (nk : Int)) (by kernel_rfl) rfl) (v := .pointer (some ⟨gm119, 0, none⟩)) (by kernel_rfl) rfl) (v := .pointer (some ⟨gm119, 0, none⟩)) (by kernel_rfl) rfl) (v := .pointer (some ⟨gm119, 0, none⟩)) (by kernel_rfl) rfl) (v := .bool false) (by kernel_rfl) rfl) (v := .bool false) (by kernel_rfl) rfl) (v := .pointer (some ⟨gm, 0, none⟩)) (by kernel_rfl) rfl) (v := .bool (decide (0 ≠ 0))) (by kernel_rfl) rfl) (v := .bool (decide (0 ≠ 0))) (by kernel_rfl) rfl) (v := .int .i64 0) (by kernel_rfl) rfl) (v := .int .i64 0) (by kernel_rfl) rfl) (v := .pointer (some ⟨gm119, 0, none⟩)) (by kernel_rfl) rfl) (v := .int .i64 0) (by kernel_rfl) rfl) (v := .pointer (some ⟨gm119, 0, none⟩)) (by kernel_rfl) rfl) (v := .tuple #[.pointer (some ⟨gm119, 0, none⟩), .int .i64 0]) (by kernel_rfl) rfl) (v := .tuple #[.pointer (some ⟨gm119, 0, none⟩), .int .i64 0]) (by kernel_rfl) rfl) (v := .agg #[.int .i64 ((mtK ms k).el), .slice (mtK ms k).B ((mtK ms k).n) (mtK ms k).c]) (by kernel_rfl) rfl) (v := .pointer (some ⟨g111, 0, none⟩)) (by kernel_rfl) rfl) (v := .agg #[.int .i64 ((mtK ms k).el), .slice (mtK ms k).B ((mtK ms k).n) (mtK ms k).c]) (by kernel_rfl) rfl) (v := .pointer (some (ad101.add (k * 2)))) (by kernel_rfl) rfl) (v := .bool (decide ((k : Int) < (ms.length : Int)))) (by kernel_rfl) rfl) (v := .pointer (some ⟨gm, 0, none⟩)) (by kernel_rfl) rfl) (v := .int .i64 (k : Int)) (by kernel_rfl) rfl) (v := .int .i64 (ms.length : Int)) (by kernel_rfl) rfl) (v := .slice A ms.length cap) (by kernel_rfl) rfl) (v := .bool (decide ((ms.length : Int) > 32))) (by kernel_rfl) rfl) (v := .bool (decide ((ms.length : Int) > 32))) (by kernel_rfl) rfl) (v := .int .i64 (ms.length : Int)) (by kernel_rfl) rfl) (v := .slice A ms.length cap) (by kernel_rfl) rfl) (v := .bool (decide ((ms.length : Int) = 0))) (by kernel_rfl) rfl) (v := .bool (decide ((ms.length : Int) = 0))) (by kernel_rfl) rfl) (v := .int .i64 (ms.length : Int)) (by kernel_rfl) rfl) (v := .slice A ms.length cap) (by kernel_rfl) rfl) (v := .pointer (some ⟨g3, 0, none⟩)) (by kernel_rfl) rfl) (v := .slice A ms.length cap) (by kernel_rfl) rfl), (St.rerow 1 S163 rfl ⟨rfl, rfl⟩).sub sub_all sub_all⟩ ?_
                rintro mm ac wc ⟨q, hm180, hq, A178, S179⟩
                refine wp_seq ?_
                refine wp_region_lit ?_
                refine s_one (.bool (decide ((q : Int) < 64))) A178 S179 (g_bin (u := .int .i64 (q : Int)) (k := .int .i64 64) (by kernel_rfl) (by kernel_rfl) (fun _ => by kernel_rfl) (fun _ => by kernel_rfl)) rfl (fun ac A181 => ?_)
                refine wpList_nil ?_
                refine n_then ?_
                refine wp_seq ?_
                refine c_ifb (b := (decide ((q : Int) < 64))) A181 (by kernel_rfl) (fun h182 => ?_) (fun h182 => ?_)
                · have p183 := of_decide_eq_true h182
                  refine wp_skip ?_
                  refine n_then ?_
                  refine wp_seq ?_
                  refine wp_block ?_
                  refine wp_seq ?_
                  refine wp_region_lit ?_
                  refine s_one (.int .i64 (q : Int)) A181 S179 (g_move (by kernel_rfl)) rfl (fun ac A184 => ?_)
                  refine s_one (.int .i64 (nthI (cutN (mi ((mtK ms k).xs)) (i * 64) 64) q)) A184 S179 (g_indexv (u := .agg (ints (cutN (mi ((mtK ms k).xs)) (i * 64) 64))) (k := .int .i64 (q : Int)) (by kernel_rfl) (by kernel_rfl) (index159 (cutN (mi ((mtK ms k).xs)) (i * 64) 64) (cutN_length _ _ _) q (by omega))) rfl (fun ac A185 => ?_)
                  refine s_one (.int .i64 (q : Int)) A185 S179 (g_assign (by kernel_rfl)) rfl (fun ac A186 => ?_)
                  refine s_one (.int .i64 (nthI (cutN (mi ((mtK ms k).xs)) (i * 64) 64) q)) A186 S179 (g_assign (by kernel_rfl)) rfl (fun ac A187 => ?_)
                  refine wpList_nil ?_
                  refine n_then ?_
                  have hv1 : nthI (updL (addF (mi (mtK ms k).xs)) (sumL ms k) (i * 64 + q)) (i * 64 + q) = sumK ms (i * 64 + q) k := by rw [updL_at (by omega), sumL_nth (by omega)]
                  have hv2 := sumK_bd hgd (i * 64 + q)
                  have hv3 := cutN_range (mi_range (right_of (mxC_0 hz).2.2)) (i * 64) 64 q
                  refine r_begin (w0 := w0) (by kernel_rfl) (S179.sub sub_all sub_nil) (fun wc T188 B189 => ?_)
                  have S190 := S179.kept B189
                  refine r_take 0 (.pointer (some ⟨gm, 0, none⟩)) A187 T188 (g_move (by kernel_rfl)) rfl rfl rfl (pf_block (pf_then (pf_then (pf_block (pf_block (pf_then (pf_then (pf_block (pf_block (pf_then (pf_then (pf_block (pf_then pf_body))))))))))))) (by kernel_rfl) (fun ac A191 => ?_)
                  refine r_take 1 (.pointer (some ⟨gm, 0, none⟩)) A191 T188 (g_nil (by kernel_rfl)) rfl rfl rfl (pf_block (pf_then (pf_then (pf_block (pf_block (pf_then (pf_then (pf_block (pf_block (pf_then (pf_then (pf_block (pf_then pf_body))))))))))))) (by kernel_rfl) (fun ac A192 => ?_)
                  refine r_take 2 (.pointer (some ⟨gm, 1, none⟩)) A192 T188 (g_field (u := .pointer (some ⟨gm, 0, none⟩)) (by kernel_rfl) (fun _ => by kernel_rfl)) rfl rfl rfl (pf_block (pf_then (pf_then (pf_block (pf_block (pf_then (pf_then (pf_block (pf_block (pf_then (pf_then (pf_block (pf_then pf_body))))))))))))) (by kernel_rfl) (fun ac A193 => ?_)
                  refine r_take 3 (.slice (some (Addr.mk gr 0 none)) (ne * ne) cp) A193 T188 (g_load (g := gm) (off := 1) 2 (by kernel_rfl) rfl (by kernel_rfl)) rfl rfl rfl (pf_block (pf_then (pf_then (pf_block (pf_block (pf_then (pf_then (pf_block (pf_block (pf_then (pf_then (pf_block (pf_then pf_body))))))))))))) (by kernel_rfl) (fun ac A194 => ?_)
                  refine r_take 4 (.int .i64 (i : Int)) A194 T188 (g_move (by kernel_rfl)) rfl rfl rfl (pf_block (pf_then (pf_then (pf_block (pf_block (pf_then (pf_then (pf_block (pf_block (pf_then (pf_then (pf_block (pf_then pf_body))))))))))))) (by kernel_rfl) (fun ac A195 => ?_)
                  refine r_take 5 (.int .i64 (q : Int)) A195 T188 (g_move (by kernel_rfl)) rfl rfl rfl (pf_block (pf_then (pf_then (pf_block (pf_block (pf_then (pf_then (pf_block (pf_block (pf_then (pf_then (pf_block (pf_then pf_body))))))))))))) (by kernel_rfl) (fun ac A196 => ?_)
                  refine r_take 6 (.pointer (some ((Addr.mk gr 0 none).add (i * 64)))) A196 T188 (g_index (u := .slice (some (Addr.mk gr 0 none)) (ne * ne) cp) (k := .int .i64 (i : Int)) (by kernel_rfl) (by kernel_rfl) (ix_xs (e := 123) (bytes := 512) i (by kernel_rfl) (by omega) (by omega))) rfl rfl rfl (pf_block (pf_then (pf_then (pf_block (pf_block (pf_then (pf_then (pf_block (pf_block (pf_then (pf_then (pf_block (pf_then pf_body))))))))))))) (by kernel_rfl) (fun ac A197 => ?_)
                  refine r_take 7 (.pointer (some ((Addr.mk gr 0 none).add (i * 64 + q)))) A197 T188 (g_index (u := .pointer (some ((Addr.mk gr 0 none).add (i * 64)))) (k := .int .i64 (q : Int)) (by kernel_rfl) (by kernel_rfl) (ix_xarr (len := 64) (size := 1) (y := i * 64 + q) q (by kernel_rfl) (by omega) (by omega) (by omega))) rfl rfl rfl (pf_block (pf_then (pf_then (pf_block (pf_block (pf_then (pf_then (pf_block (pf_block (pf_then (pf_then (pf_block (pf_then pf_body))))))))))))) (by kernel_rfl) (fun ac A198 => ?_)
                  refine r_take 9 (.int .i64 (nthI (cutN (mi ((mtK ms k).xs)) (i * 64) 64) q)) A198 T188 (g_move (by kernel_rfl)) rfl rfl rfl (pf_block (pf_then (pf_then (pf_block (pf_block (pf_then (pf_then (pf_block (pf_block (pf_then (pf_then (pf_block (pf_then pf_body))))))))))))) (by kernel_rfl) (fun ac A199 => ?_)
                  refine r_take 11 (.pointer (some ((Addr.mk gr 0 none).add (i * 64)))) A199 T188 (g_index (u := .slice (some (Addr.mk gr 0 none)) (ne * ne) cp) (k := .int .i64 (i : Int)) (by kernel_rfl) (by kernel_rfl) (ix_xs (e := 123) (bytes := 512) i (by kernel_rfl) (by omega) (by omega))) rfl rfl rfl (pf_block (pf_then (pf_then (pf_block (pf_block (pf_then (pf_then (pf_block (pf_block (pf_then (pf_then (pf_block (pf_then pf_body))))))))))))) (by kernel_rfl) (fun ac A200 => ?_)
                  refine r_1 (i := 8) (by kernel_rfl) ?_
                  refine rs_gives (.int .i64 (nthI (updL (addF (mi (mtK ms k).xs)) (sumL ms k) (i * 64 + q)) (i * 64 + q))) A200 S190 sub_all sub_nil (g_loadRI (l := updL (addF (mi (mtK ms k).xs)) (sumL ms k) (i * 64 + q)) (k := i * 64 + q) 1 (by kernel_rfl) rfl (by have hlen := (show (updL (addF (mi (mtK ms k).xs)) (sumL ms k) (i * 64 + q)).length = ne * ne * 64 by rw [updL_length, sumL_length]; omega); omega) (by kernel_rfl)) rfl rfl rfl (fun ac A201 => ?_)
                  refine r_take 10 (.int .i64 (nthI (updL (addF (mi (mtK ms k).xs)) (sumL ms k) (i * 64 + q)) (i * 64 + q) + (nthI (cutN (mi ((mtK ms k).xs)) (i * 64) 64) q))) A201 T188 (g_bin (u := .int .i64 (nthI (updL (addF (mi (mtK ms k).xs)) (sumL ms k) (i * 64 + q)) (i * 64 + q))) (k := .int .i64 (nthI (cutN (mi ((mtK ms k).xs)) (i * 64) 64) q)) (by kernel_rfl) (by kernel_rfl) (fun _ => by kernel_rfl) (b_add (by omega))) rfl rfl rfl (pf_block (pf_then (pf_then (pf_block (pf_block (pf_then (pf_then (pf_block (pf_block (pf_then (pf_then (pf_block (pf_then pf_body))))))))))))) (by kernel_rfl) (fun ac A205 => ?_)
                  refine r_take 12 (.pointer (some ((Addr.mk gr 0 none).add (i * 64 + q)))) A205 T188 (g_index (u := .pointer (some ((Addr.mk gr 0 none).add (i * 64)))) (k := .int .i64 (q : Int)) (by kernel_rfl) (by kernel_rfl) (ix_xarr (len := 64) (size := 1) (y := i * 64 + q) q (by kernel_rfl) (by omega) (by omega) (by omega))) rfl rfl rfl (pf_block (pf_then (pf_then (pf_block (pf_block (pf_then (pf_then (pf_block (pf_block (pf_then (pf_then (pf_block (pf_then pf_body))))))))))))) (by kernel_rfl) (fun ac A206 => ?_)
                  refine r_1 (i := 13) (by kernel_rfl) ?_
                  have hl208 : ((updL (addF (mi (mtK ms k).xs)) (sumL ms k) (i * 64 + q)).set (i * 64 + q) (nthI (updL (addF (mi (mtK ms k).xs)) (sumL ms k) (i * 64 + q)) (i * 64 + q) + (nthI (cutN (mi ((mtK ms k).xs)) (i * 64) 64) q))).length = (updL (addF (mi (mtK ms k).xs)) (sumL ms k) (i * 64 + q)).length := List.length_set
                  refine rs_storeR 1 (ad := (Addr.mk gr 0 none)) (off := i * 64 + q) (u := .int .i64 (nthI (updL (addF (mi (mtK ms k).xs)) (sumL ms k) (i * 64 + q)) (i * 64 + q) + (nthI (cutN (mi ((mtK ms k).xs)) (i * 64) 64) q))) 1 [.int .i64 (nthI (updL (addF (mi (mtK ms k).xs)) (sumL ms k) (i * 64 + q)) (i * 64 + q) + (nthI (cutN (mi ((mtK ms k).xs)) (i * 64) 64) q))] (rowI ((updL (addF (mi (mtK ms k).xs)) (sumL ms k) (i * 64 + q)).set (i * 64 + q) (nthI (updL (addF (mi (mtK ms k).xs)) (sumL ms k) (i * 64 + q)) (i * 64 + q) + (nthI (cutN (mi ((mtK ms k).xs)) (i * 64) 64) q)))) A206 S190 sub_all (fun _ => sub_nil) (by kernel_rfl) (by kernel_rfl) rfl rfl rfl (by kernel_rfl) rfl (by rw [rowI_length]; have hlen := (show (updL (addF (mi (mtK ms k).xs)) (sumL ms k) (i * 64 + q)).length = ne * ne * 64 by rw [updL_length, sumL_length]; omega); omega) (putI1 (by have hlen := (show (updL (addF (mi (mtK ms k).xs)) (sumL ms k) (i * 64 + q)).length = ne * ne * 64 by rw [updL_length, sumL_length]; omega); omega)) rfl rfl (fun wc S207 => ?_)
                  have T209 := S207.sub sub_all sub_nil
                  refine r_done (by kernel_rfl) ?_
                  refine n_block ?_
                  refine n_then ?_
                  refine wp_region_lit ?_
                  refine s_one (.int .i64 ((q : Int) + 1)) A206 S207 (g_bin (u := .int .i64 (q : Int)) (k := .int .i64 1) (by kernel_rfl) (by kernel_rfl) (fun _ => by kernel_rfl) (b_add (by omega))) rfl (fun ac A210 => ?_)
                  refine s_one (.int .i64 ((q : Int) + 1)) A210 S207 (g_move (by kernel_rfl)) rfl (fun ac A211 => ?_)
                  refine wpList_nil ?_
                  refine n_then ?_
                  refine ⟨_, ⟨q + 1, rfl, by omega, (A211.slot (A211.slot (A211.slot (A211.slot (A211.slot (A211.slot (A211.slot (A211.slot (A211.slot (A211.slot (A211.slot (A211.slot (A211.slot (A211.slot (A211.slot (A211.slot (A211.slot (A211.slot (A211.slot (A211.slot (A211.slot (A211.slot (A211.slot (A211.slot (A211.slot (A211.slot (A211.slot (A211.slot (A211.slot (A211.slot (A211.slot (A211.slot (A211.slot (A211.slot (A211.slot (A211.slot (A211.slot (A211.slot (A211.slot (A211.slot (A211.slot (A211.slot (A211.slot (A211.slot (A211.slot (A211.slot (A211.slot (A211.slot (A211.slot (A211.slot (A211.slot (A211.slot (A211.slot (A211.slot (A211.slot (A211.slot (A211.slot (A211.slot A211.nil (v := .int .i64 ((q : Int) + 1)) (by kernel_rfl) (congrArg (Value.int .i64) (by omega))) (v := .agg (ints (cutN (mi ((mtK ms k).xs)) (i * 64) 64))) (by kernel_rfl) rfl) (v := .pointer (some ((Addr.mk gr120 0 none).add (i * 64)))) (by kernel_rfl) rfl) (v := .int .i64 (i : Int)) (by kernel_rfl) rfl) (v := .slice (some (Addr.mk gr120 0 none)) (nk * nk) cp121) (by kernel_rfl) rfl) (v := .pointer (some ⟨gm119, 1, none⟩)) (by kernel_rfl) rfl) (v := .pointer (some ⟨gm119, 0, none⟩)) (by kernel_rfl) rfl) (v := .pointer (some ⟨gm119, 0, none⟩)) (by kernel_rfl) rfl) (v := .int .i64 (i : Int)) (by kernel_rfl) rfl) (v := .int .i64 (i : Int)) (by kernel_rfl) rfl) (v := .bool (decide ((i : Int) < ((nk * nk) : Int)))) (by kernel_rfl) rfl) (v := .int .i64 (i : Int)) (by kernel_rfl) rfl) (v := .int .i64 ((nk * nk) : Int)) (by kernel_rfl) rfl) (v := .slice (some (Addr.mk gr120 0 none)) (nk * nk) cp121) (by kernel_rfl) rfl) (v := .pointer (some ⟨gm119, 1, none⟩)) (by kernel_rfl) rfl) (v := .pointer (some ⟨gm119, 0, none⟩)) (by kernel_rfl) rfl) (v := .pointer (some ⟨gm119, 0, none⟩)) (by kernel_rfl) rfl) (v := .bool (decide ((nk : Int) ≠ (ne : Int)))) (by kernel_rfl) rfl) (v := .bool (decide ((nk : Int) ≠ (ne : Int)))) (by kernel_rfl) rfl) (v := .int .i64 (ne : Int)) (by kernel_rfl) rfl) (v := .pointer (some ⟨gm, 0, none⟩)) (by kernel_rfl) rfl) (v := .pointer (some ⟨gm, 0, none⟩)) (by kernel_rfl) rfl) (v := .pointer (some ⟨gm, 0, none⟩)) (by kernel_rfl) rfl) (v := .int .i64 (nk : Int)) (by kernel_rfl) rfl) (v := .pointer (some ⟨gm119, 0, none⟩)) (by kernel_rfl) rfl) (v := .pointer (some ⟨gm119, 0, none⟩)) (by kernel_rfl) rfl) (v := .pointer (some ⟨gm119, 0, none⟩)) (by kernel_rfl) rfl) (v := .bool false) (by kernel_rfl) rfl) (v := .bool false) (by kernel_rfl) rfl) (v := .pointer (some ⟨gm, 0, none⟩)) (by kernel_rfl) rfl) (v := .bool (decide (0 ≠ 0))) (by kernel_rfl) rfl) (v := .bool (decide (0 ≠ 0))) (by kernel_rfl) rfl) (v := .int .i64 0) (by kernel_rfl) rfl) (v := .int .i64 0) (by kernel_rfl) rfl) (v := .pointer (some ⟨gm119, 0, none⟩)) (by kernel_rfl) rfl) (v := .int .i64 0) (by kernel_rfl) rfl) (v := .pointer (some ⟨gm119, 0, none⟩)) (by kernel_rfl) rfl) (v := .tuple #[.pointer (some ⟨gm119, 0, none⟩), .int .i64 0]) (by kernel_rfl) rfl) (v := .tuple #[.pointer (some ⟨gm119, 0, none⟩), .int .i64 0]) (by kernel_rfl) rfl) (v := .agg #[.int .i64 ((mtK ms k).el), .slice (mtK ms k).B ((mtK ms k).n) (mtK ms k).c]) (by kernel_rfl) rfl) (v := .pointer (some ⟨g111, 0, none⟩)) (by kernel_rfl) rfl) (v := .agg #[.int .i64 ((mtK ms k).el), .slice (mtK ms k).B ((mtK ms k).n) (mtK ms k).c]) (by kernel_rfl) rfl) (v := .pointer (some (ad101.add (k * 2)))) (by kernel_rfl) rfl) (v := .bool (decide ((k : Int) < (ms.length : Int)))) (by kernel_rfl) rfl) (v := .pointer (some ⟨gm, 0, none⟩)) (by kernel_rfl) rfl) (v := .int .i64 (k : Int)) (by kernel_rfl) rfl) (v := .int .i64 (ms.length : Int)) (by kernel_rfl) rfl) (v := .slice A ms.length cap) (by kernel_rfl) rfl) (v := .bool (decide ((ms.length : Int) > 32))) (by kernel_rfl) rfl) (v := .bool (decide ((ms.length : Int) > 32))) (by kernel_rfl) rfl) (v := .int .i64 (ms.length : Int)) (by kernel_rfl) rfl) (v := .slice A ms.length cap) (by kernel_rfl) rfl) (v := .bool (decide ((ms.length : Int) = 0))) (by kernel_rfl) rfl) (v := .bool (decide ((ms.length : Int) = 0))) (by kernel_rfl) rfl) (v := .int .i64 (ms.length : Int)) (by kernel_rfl) rfl) (v := .slice A ms.length cap) (by kernel_rfl) rfl) (v := .pointer (some ⟨g3, 0, none⟩)) (by kernel_rfl) rfl) (v := .slice A ms.length cap) (by kernel_rfl) rfl), (St.rerow 1 S207 rfl ⟨rfl, congrArg rowI (updL_set (by omega) (by rw [updL_at (by omega), cutN_nth (by omega)]; rfl))⟩).sub sub_all sub_all⟩, ?_⟩
                  omega
                · have p212 := of_decide_eq_false h182
                  refine wp_exit ?_
                  refine x_then ?_
                  refine x_then ?_
                  refine x_hit ?_
                  refine n_block ?_
                  refine n_then ?_
                  refine wp_region_lit ?_
                  refine s_one (.int .i64 ((i : Int) + 1)) A181 S179 (g_bin (u := .int .i64 (i : Int)) (k := .int .i64 1) (by kernel_rfl) (by kernel_rfl) (fun _ => by kernel_rfl) (b_add (by omega))) rfl (fun ac A213 => ?_)
                  refine s_one (.int .i64 ((i : Int) + 1)) A213 S179 (g_move (by kernel_rfl)) rfl (fun ac A214 => ?_)
                  refine wpList_nil ?_
                  refine n_then ?_
                  refine ⟨_, ⟨i + 1, rfl, by omega, (A214.slot (A214.slot (A214.slot (A214.slot (A214.slot (A214.slot (A214.slot (A214.slot (A214.slot (A214.slot (A214.slot (A214.slot (A214.slot (A214.slot (A214.slot (A214.slot (A214.slot (A214.slot (A214.slot (A214.slot (A214.slot (A214.slot (A214.slot (A214.slot (A214.slot (A214.slot (A214.slot (A214.slot (A214.slot (A214.slot (A214.slot (A214.slot (A214.slot (A214.slot (A214.slot (A214.slot (A214.slot (A214.slot (A214.slot (A214.slot (A214.slot (A214.slot (A214.slot (A214.slot (A214.slot (A214.slot (A214.slot A214.nil (v := .int .i64 ((i : Int) + 1)) (by kernel_rfl) (congrArg (Value.int .i64) (by omega))) (v := .int .i64 ((nk * nk) : Int)) (by kernel_rfl) rfl) (v := .slice (some (Addr.mk gr120 0 none)) (nk * nk) cp121) (by kernel_rfl) rfl) (v := .pointer (some ⟨gm119, 1, none⟩)) (by kernel_rfl) rfl) (v := .pointer (some ⟨gm119, 0, none⟩)) (by kernel_rfl) rfl) (v := .pointer (some ⟨gm119, 0, none⟩)) (by kernel_rfl) rfl) (v := .bool (decide ((nk : Int) ≠ (ne : Int)))) (by kernel_rfl) rfl) (v := .bool (decide ((nk : Int) ≠ (ne : Int)))) (by kernel_rfl) rfl) (v := .int .i64 (ne : Int)) (by kernel_rfl) rfl) (v := .pointer (some ⟨gm, 0, none⟩)) (by kernel_rfl) rfl) (v := .pointer (some ⟨gm, 0, none⟩)) (by kernel_rfl) rfl) (v := .pointer (some ⟨gm, 0, none⟩)) (by kernel_rfl) rfl) (v := .int .i64 (nk : Int)) (by kernel_rfl) rfl) (v := .pointer (some ⟨gm119, 0, none⟩)) (by kernel_rfl) rfl) (v := .pointer (some ⟨gm119, 0, none⟩)) (by kernel_rfl) rfl) (v := .pointer (some ⟨gm119, 0, none⟩)) (by kernel_rfl) rfl) (v := .bool false) (by kernel_rfl) rfl) (v := .bool false) (by kernel_rfl) rfl) (v := .pointer (some ⟨gm, 0, none⟩)) (by kernel_rfl) rfl) (v := .bool (decide (0 ≠ 0))) (by kernel_rfl) rfl) (v := .bool (decide (0 ≠ 0))) (by kernel_rfl) rfl) (v := .int .i64 0) (by kernel_rfl) rfl) (v := .int .i64 0) (by kernel_rfl) rfl) (v := .pointer (some ⟨gm119, 0, none⟩)) (by kernel_rfl) rfl) (v := .int .i64 0) (by kernel_rfl) rfl) (v := .pointer (some ⟨gm119, 0, none⟩)) (by kernel_rfl) rfl) (v := .tuple #[.pointer (some ⟨gm119, 0, none⟩), .int .i64 0]) (by kernel_rfl) rfl) (v := .tuple #[.pointer (some ⟨gm119, 0, none⟩), .int .i64 0]) (by kernel_rfl) rfl) (v := .agg #[.int .i64 ((mtK ms k).el), .slice (mtK ms k).B ((mtK ms k).n) (mtK ms k).c]) (by kernel_rfl) rfl) (v := .pointer (some ⟨g111, 0, none⟩)) (by kernel_rfl) rfl) (v := .agg #[.int .i64 ((mtK ms k).el), .slice (mtK ms k).B ((mtK ms k).n) (mtK ms k).c]) (by kernel_rfl) rfl) (v := .pointer (some (ad101.add (k * 2)))) (by kernel_rfl) rfl) (v := .bool (decide ((k : Int) < (ms.length : Int)))) (by kernel_rfl) rfl) (v := .pointer (some ⟨gm, 0, none⟩)) (by kernel_rfl) rfl) (v := .int .i64 (k : Int)) (by kernel_rfl) rfl) (v := .int .i64 (ms.length : Int)) (by kernel_rfl) rfl) (v := .slice A ms.length cap) (by kernel_rfl) rfl) (v := .bool (decide ((ms.length : Int) > 32))) (by kernel_rfl) rfl) (v := .bool (decide ((ms.length : Int) > 32))) (by kernel_rfl) rfl) (v := .int .i64 (ms.length : Int)) (by kernel_rfl) rfl) (v := .slice A ms.length cap) (by kernel_rfl) rfl) (v := .bool (decide ((ms.length : Int) = 0))) (by kernel_rfl) rfl) (v := .bool (decide ((ms.length : Int) = 0))) (by kernel_rfl) rfl) (v := .int .i64 (ms.length : Int)) (by kernel_rfl) rfl) (v := .slice A ms.length cap) (by kernel_rfl) rfl) (v := .pointer (some ⟨g3, 0, none⟩)) (by kernel_rfl) rfl) (v := .slice A ms.length cap) (by kernel_rfl) rfl), (St.rerow 1 S179 rfl ⟨rfl, congrArg rowI (by rw [show i * 64 + q = (i + 1) * 64 by omega])⟩).sub sub_all sub_all⟩, ?_⟩
                  omega
              · have p215 := of_decide_eq_false h166
                refine wp_exit ?_
                refine x_then ?_
                refine x_then ?_
                refine x_hit ?_
                refine n_block ?_
                refine n_then ?_
                refine wp_region_lit ?_
                refine s_one (.int .i64 ((k : Int) + 1)) A165 S163 (g_bin (u := .int .i64 (k : Int)) (k := .int .i64 1) (by kernel_rfl) (by kernel_rfl) (fun _ => by kernel_rfl) (b_add (by omega))) rfl (fun ac A216 => ?_)
                refine s_one (.int .i64 ((k : Int) + 1)) A216 S163 (g_move (by kernel_rfl)) rfl (fun ac A217 => ?_)
                refine wpList_nil ?_
                refine n_then ?_
                have SN : St w0 [⟨gm119, 137, #[.int .i64 (nk : Int), .slice (some (Addr.mk gr120 0 none)) (nk * nk) cp121], true⟩, ⟨g111, 30, #[.int .i64 ((mtK ms k).el), .slice (mtK ms k).B ((mtK ms k).n) (mtK ms k).c], true⟩, ⟨gm, 137, #[.int .i64 (ne : Int), .slice (some (Addr.mk gr 0 none)) (ne * ne) cp], true⟩, ⟨g3, 30, #[.int .i64 0, .slice none 0 0], true⟩] [⟨.slice (some (Addr.mk gr 0 none)) (ne * ne) cp, 123, 64, (ne * ne), (rowI (sumL ms (k + 1)))⟩] _ := (St.rerow 1 S163 rfl ⟨rfl, congrArg rowI (sumL_succ (ms := ms) (k := k) (p := i * 64) (by omega))⟩).sub sub_all (sub_skip (sub_keep sub_nil))
                refine ⟨_, .inr ⟨k + 1, ne, gm, gr, cp, rfl, by omega, by omega, good_snoc hgd hz (by omega), helne, h1ne, hxlne, (A217.slot (A217.slot (A217.slot (A217.slot (A217.slot (A217.slot (A217.slot (A217.slot (A217.slot (A217.slot (A217.slot (A217.slot (A217.slot (A217.slot A217.nil (v := .pointer (some ⟨gm, 0, none⟩)) (by kernel_rfl) rfl) (v := .int .i64 ((k : Int) + 1)) (by kernel_rfl) (congrArg (Value.int .i64) (by omega))) (v := .int .i64 (ms.length : Int)) (by kernel_rfl) rfl) (v := .slice A ms.length cap) (by kernel_rfl) rfl) (v := .bool (decide ((ms.length : Int) > 32))) (by kernel_rfl) rfl) (v := .bool (decide ((ms.length : Int) > 32))) (by kernel_rfl) rfl) (v := .int .i64 (ms.length : Int)) (by kernel_rfl) rfl) (v := .slice A ms.length cap) (by kernel_rfl) rfl) (v := .bool (decide ((ms.length : Int) = 0))) (by kernel_rfl) rfl) (v := .bool (decide ((ms.length : Int) = 0))) (by kernel_rfl) rfl) (v := .int .i64 (ms.length : Int)) (by kernel_rfl) rfl) (v := .slice A ms.length cap) (by kernel_rfl) rfl) (v := .pointer (some ⟨g3, 0, none⟩)) (by kernel_rfl) rfl) (v := .slice A ms.length cap) (by kernel_rfl) rfl), SN.sub (sub_skip (sub_skip sub_all)) sub_all⟩, ?_⟩
                omega
          · refine wp_region_lit ?_
            refine s_one (.agg #[.int .i64 ((mtK ms k).el), .slice (mtK ms k).B ((mtK ms k).n) (mtK ms k).c]) A109 S113 (g_load (g := g111) (off := 0) 0 (by kernel_rfl) rfl (by kernel_rfl)) rfl (fun ac A218 => ?_)
            refine s_call (fs := #[]) (cp := #[]) (r := [(0, .agg #[.int .i64 ((mtK ms k).el), .slice (mtK ms k).B ((mtK ms k).n) (mtK ms k).c])]) #[.agg #[.int .i64 ((mtK ms k).el), .slice (mtK ms k).B ((mtK ms k).n) (mtK ms k).c]] (.tuple #[.pointer none, .int .i64 ((mxC ((mtK ms k).el) ((mtK ms k).xs)).2)]) A218 S113 (open_err ((mtK ms k).el) (mtK ms k).B ((mtK ms k).n) (mtK ms k).c ((mtK ms k).xs) _ (hr.2 k (by omega)).len ((hr.2 k (by omega)).rd.kept S113.kp) (by omega) hne) Try.call72 (by kernel_rfl) (by kernel_rfl) (by kernel_rfl) rfl (fun ac wc A219 S220 => ?_)
            refine s_one (.tuple #[.pointer none, .int .i64 ((mxC ((mtK ms k).el) ((mtK ms k).xs)).2)]) A219 S220 (g_move (by kernel_rfl)) rfl (fun ac A222 => ?_)
            refine s_one (.pointer none) A222 S220 (g_extract (u := .tuple #[.pointer none, .int .i64 ((mxC ((mtK ms k).el) ((mtK ms k).xs)).2)]) (by kernel_rfl) (fun _ => by kernel_rfl)) rfl (fun ac A223 => ?_)
            refine s_one (.int .i64 ((mxC ((mtK ms k).el) ((mtK ms k).xs)).2)) A223 S220 (g_extract (u := .tuple #[.pointer none, .int .i64 ((mxC ((mtK ms k).el) ((mtK ms k).xs)).2)]) (by kernel_rfl) (fun _ => by kernel_rfl)) rfl (fun ac A224 => ?_)
            refine s_one (.pointer none) A224 S220 (g_assign (by kernel_rfl)) rfl (fun ac A225 => ?_)
            refine s_one (.int .i64 ((mxC ((mtK ms k).el) ((mtK ms k).xs)).2)) A225 S220 (g_assign (by kernel_rfl)) rfl (fun ac A226 => ?_)
            refine wpList_nil ?_
            refine n_then ?_
            refine wp_seq ?_
            refine wp_block ?_
            refine wp_seq ?_
            refine wp_region_lit ?_
            refine s_one (.int .i64 ((mxC ((mtK ms k).el) ((mtK ms k).xs)).2)) A226 S220 (g_move (by kernel_rfl)) rfl (fun ac A227 => ?_)
            refine s_one (.bool (decide ((mxC ((mtK ms k).el) ((mtK ms k).xs)).2 ≠ 0))) A227 S220 (g_bin (u := .int .i64 ((mxC ((mtK ms k).el) ((mtK ms k).xs)).2)) (k := .int .i64 0) (by kernel_rfl) (by kernel_rfl) (fun _ => by kernel_rfl) b_neq) rfl (fun ac A228 => ?_)
            refine s_one (.bool (decide ((mxC ((mtK ms k).el) ((mtK ms k).xs)).2 ≠ 0))) A228 S220 (g_assign (by kernel_rfl)) rfl (fun ac A229 => ?_)
            refine wpList_nil ?_
            refine n_then ?_
            refine c_t (b := (decide ((mxC ((mtK ms k).el) ((mtK ms k).xs)).2 ≠ 0))) A229 (by kernel_rfl) (decide_eq_true hne) ?_
            refine wp_seq ?_
            refine wp_region_lit ?_
            refine s_one (.agg #[.int .i64 0, .slice none 0 0]) A229 S220 (g_build (r := []) (by kernel_rfl) (fun _ => by kernel_rfl)) rfl (fun ac A230 => ?_)
            refine s_one (.int .i64 ((mxC ((mtK ms k).el) ((mtK ms k).xs)).2)) A230 S220 (g_move (by kernel_rfl)) rfl (fun ac A231 => ?_)
            refine s_store (g := g3) (off := 0) (v := .agg #[.int .i64 0, .slice none 0 0]) 2 (#[.int .i64 0, .slice none 0 0]) A231 S220 (by kernel_rfl) (by kernel_rfl) rfl (by kernel_rfl) (fun wc S233 => ?_)
            refine s_one (.int .i64 ((mxC ((mtK ms k).el) ((mtK ms k).xs)).2)) A231 S233 (g_assign (by kernel_rfl)) rfl (fun ac A235 => ?_)
            refine wpList_nil ?_
            refine n_then ?_
            refine wp_ret ?_
            refine r_block ?_
            refine r_then ?_
            refine r_block ?_
            refine r_then ?_
            refine r_then ?_
            refine r_block ?_
            refine r_then ?_
            have S236 := S233.nilRow 36 1
            refine fin2 (.agg #[.int .i64 0, .slice none 0 0]) (.int .i64 ((mxC ((mtK ms k).el) ((mtK ms k).xs)).2)) Try.results28 A235 S236 (rv_cell (g := g3) (off := 0) 2 (by kernel_rfl) rfl (by kernel_rfl)) (rv_tmp (by kernel_rfl)) ?_
            have bw := S236.kp
            have ow := S236.row 0 rfl
            have ez := avZ_e (ms := ms) (k := k) (by omega) (by omega) hgd hne
            rw [← ez]
            rw [← ez] at hne
            obtain ⟨e1, e2⟩ := av_err rfl hne
            rw [e1, e2]
            exact ⟨_, rfl, bw, ow⟩
        · have p237 := of_decide_eq_false h99
          refine wp_exit ?_
          refine x_then ?_
          refine x_then ?_
          refine x_hit ?_
          refine n_then ?_
          refine wp_seq ?_
          refine wp_seq ?_
          have ek : k = ms.length := by omega
          have hgA : avGood ms ms.length := by rw [← ek]; exact hgd
          have hslA := sumL_length ms ms.length
          have SQ17 : St w0 [⟨gm, 137, #[.int .i64 (ne : Int), .slice (some (Addr.mk gr 0 none)) (ne * ne) cp], true⟩, ⟨g3, 30, #[.int .i64 0, .slice none 0 0], true⟩] [⟨.slice (some (Addr.mk gr 0 none)) (ne * ne) cp, 123, 64, (ne * ne), (rowI (sumL ms ms.length))⟩] _ := (St.rerow 0 S96 rfl ⟨rfl, congrArg rowI (by rw [ek])⟩).sub sub_all (sub_keep sub_nil)
          refine wp_region_lit ?_
          refine s_one (.pointer (some ⟨gm, 0, none⟩)) A98 SQ17 (g_move (by kernel_rfl)) rfl (fun ac A238 => ?_)
          refine s_one (.pointer (some ⟨gm, 0, none⟩)) A238 SQ17 (g_nil (by kernel_rfl)) rfl (fun ac A239 => ?_)
          refine s_one (.pointer (some ⟨gm, 1, none⟩)) A239 SQ17 (g_field (u := .pointer (some ⟨gm, 0, none⟩)) (by kernel_rfl) (fun _ => by kernel_rfl)) rfl (fun ac A240 => ?_)
          refine s_one (.slice (some (Addr.mk gr 0 none)) (ne * ne) cp) A240 SQ17 (g_load (g := gm) (off := 1) 0 (by kernel_rfl) rfl (by kernel_rfl)) rfl (fun ac A241 => ?_)
          refine s_one (.int .i64 ((ne * ne) : Int)) A241 SQ17 (g_built (r := [(0, .slice (some (Addr.mk gr 0 none)) (ne * ne) cp)]) (by kernel_rfl) (fun _ _ _ => by kernel_rfl)) rfl (fun ac A242 => ?_)
          refine s_one (.int .i64 0) A242 SQ17 (g_move (by kernel_rfl)) rfl (fun ac A243 => ?_)
          refine wpList_nil ?_
          refine n_then ?_
          refine wp_block ?_
          refine c_loopN (fun mm ac wc => ∃ (i : Nat), mm = ne * ne - i ∧ (i ≤ ne * ne) ∧ Fr 126 ac [(0, .slice A ms.length cap), (2, .pointer (some ⟨g3, 0, none⟩)), (16, .slice A ms.length cap), (17, .int .i64 (ms.length : Int)), (18, .bool (decide ((ms.length : Int) = 0))), (15, .bool (decide ((ms.length : Int) = 0))), (21, .slice A ms.length cap), (22, .int .i64 (ms.length : Int)), (23, .bool (decide ((ms.length : Int) > 32))), (20, .bool (decide ((ms.length : Int) > 32))), (25, .slice A ms.length cap), (26, .int .i64 (ms.length : Int)), (27, .int .i64 (k : Int)), (4, .pointer (some ⟨gm, 0, none⟩)), (28, .bool (decide ((k : Int) < (ms.length : Int)))), (91, .pointer (some ⟨gm, 0, none⟩)), (92, .pointer (some ⟨gm, 0, none⟩)), (93, .pointer (some ⟨gm, 1, none⟩)), (94, .slice (some (Addr.mk gr 0 none)) (ne * ne) cp), (95, .int .i64 ((ne * ne) : Int)), (96, .int .i64 (i : Int))] ∧ St w0 [⟨gm, 137, #[.int .i64 (ne : Int), .slice (some (Addr.mk gr 0 none)) (ne * ne) cp], true⟩, ⟨g3, 30, #[.int .i64 0, .slice none 0 0], true⟩] [⟨.slice (some (Addr.mk gr 0 none)) (ne * ne) cp, 123, 64, (ne * ne), (rowI (updL (rndF ms.length) (sumL ms ms.length) (i * 64)))⟩] wc) _ ⟨0, rfl, Nat.zero_le _, (A243.slot (A243.slot (A243.slot (A243.slot (A243.slot (A243.slot (A243.slot (A243.slot (A243.slot (A243.slot (A243.slot (A243.slot (A243.slot (A243.slot (A243.slot (A243.slot (A243.slot (A243.slot (A243.slot (A243.slot (A243.slot A243.nil (v := .int .i64 0) (by kernel_rfl) (congrArg (Value.int .i64) (by omega))) (v := .int .i64 ((ne * ne) : Int)) (by kernel_rfl) rfl) (v := .slice (some (Addr.mk gr 0 none)) (ne * ne) cp) (by kernel_rfl) rfl) (v := .pointer (some ⟨gm, 1, none⟩)) (by kernel_rfl) rfl) (v := .pointer (some ⟨gm, 0, none⟩)) (by kernel_rfl) rfl) (v := .pointer (some ⟨gm, 0, none⟩)) (by kernel_rfl) rfl) (v := .bool (decide ((k : Int) < (ms.length : Int)))) (by kernel_rfl) rfl) (v := .pointer (some ⟨gm, 0, none⟩)) (by kernel_rfl) rfl) (v := .int .i64 (k : Int)) (by kernel_rfl) rfl) (v := .int .i64 (ms.length : Int)) (by kernel_rfl) rfl) (v := .slice A ms.length cap) (by kernel_rfl) rfl) (v := .bool (decide ((ms.length : Int) > 32))) (by kernel_rfl) rfl) (v := .bool (decide ((ms.length : Int) > 32))) (by kernel_rfl) rfl) (v := .int .i64 (ms.length : Int)) (by kernel_rfl) rfl) (v := .slice A ms.length cap) (by kernel_rfl) rfl) (v := .bool (decide ((ms.length : Int) = 0))) (by kernel_rfl) rfl) (v := .bool (decide ((ms.length : Int) = 0))) (by kernel_rfl) rfl) (v := .int .i64 (ms.length : Int)) (by kernel_rfl) rfl) (v := .slice A ms.length cap) (by kernel_rfl) rfl) (v := .pointer (some ⟨g3, 0, none⟩)) (by kernel_rfl) rfl) (v := .slice A ms.length cap) (by kernel_rfl) rfl), (St.rerow 0 SQ17 rfl ⟨rfl, congrArg rowI (by rw [Nat.zero_mul, updL_zero])⟩).sub sub_all sub_all⟩ ?_
          rintro mm ac wc ⟨i, hm246, hi, A244, S245⟩
          refine wp_seq ?_
          refine wp_region_lit ?_
          refine s_one (.bool (decide ((i : Int) < ((ne * ne) : Int)))) A244 S245 (g_bin (u := .int .i64 (i : Int)) (k := .int .i64 ((ne * ne) : Int)) (by kernel_rfl) (by kernel_rfl) (fun _ => by kernel_rfl) (fun _ => by kernel_rfl)) rfl (fun ac A247 => ?_)
          refine wpList_nil ?_
          refine n_then ?_
          refine wp_seq ?_
          refine c_ifb (b := (decide ((i : Int) < ((ne * ne) : Int)))) A247 (by kernel_rfl) (fun h248 => ?_) (fun h248 => ?_)
          · have p249 := of_decide_eq_true h248
            refine wp_skip ?_
            refine n_then ?_
            refine wp_seq ?_
            refine wp_block ?_
            refine wp_seq ?_
            refine wp_region_lit ?_
            refine s_one (.int .i64 (i : Int)) A247 S245 (g_move (by kernel_rfl)) rfl (fun ac A250 => ?_)
            refine s_one (.int .i64 (i : Int)) A250 S245 (g_assign (by kernel_rfl)) rfl (fun ac A251 => ?_)
            refine wpList_nil ?_
            refine n_then ?_
            refine wp_seq ?_
            refine wp_region_lit ?_
            refine s_one (.pointer (some ⟨gm, 0, none⟩)) A251 S245 (g_move (by kernel_rfl)) rfl (fun ac A252 => ?_)
            refine s_one (.pointer (some ⟨gm, 0, none⟩)) A252 S245 (g_nil (by kernel_rfl)) rfl (fun ac A253 => ?_)
            refine s_one (.pointer (some ⟨gm, 1, none⟩)) A253 S245 (g_field (u := .pointer (some ⟨gm, 0, none⟩)) (by kernel_rfl) (fun _ => by kernel_rfl)) rfl (fun ac A254 => ?_)
            refine s_one (.slice (some (Addr.mk gr 0 none)) (ne * ne) cp) A254 S245 (g_load (g := gm) (off := 1) 0 (by kernel_rfl) rfl (by kernel_rfl)) rfl (fun ac A255 => ?_)
            refine s_one (.int .i64 (i : Int)) A255 S245 (g_move (by kernel_rfl)) rfl (fun ac A256 => ?_)
            refine s_one (.pointer (some ((Addr.mk gr 0 none).add (i * 64)))) A256 S245 (g_index (u := .slice (some (Addr.mk gr 0 none)) (ne * ne) cp) (k := .int .i64 (i : Int)) (by kernel_rfl) (by kernel_rfl) (ix_xs (e := 123) (bytes := 512) i (by kernel_rfl) (by omega) (by omega))) rfl (fun ac A257 => ?_)
            refine s_one (.agg (ints (cutN (updL (rndF ms.length) (sumL ms ms.length) (i * 64)) (i * 64) 64))) A257 S245 (g_loadRN (l := updL (rndF ms.length) (sumL ms ms.length) (i * 64)) (k := i * 64) 0 64 (by kernel_rfl) rfl (by have hlen := (show (updL (rndF ms.length) (sumL ms ms.length) (i * 64)).length = ne * ne * 64 by rw [updL_length, sumL_length]; omega); omega) (by kernel_rfl)) rfl (fun ac A258 => ?_)
            refine s_one (.int .i64 0) A258 S245 (g_move (by kernel_rfl)) rfl (fun ac A259 => ?_)
            refine wpList_nil ?_
            refine n_then ?_
            refine wp_block ?_
            refine c_loopN (fun mm ac wc => ∃ (q : Nat), mm = 64 - q ∧ (q ≤ 64) ∧ Fr 126 ac [(0, .slice A ms.length cap), (2, .pointer (some ⟨g3, 0, none⟩)), (16, .slice A ms.length cap), (17, .int .i64 (ms.length : Int)), (18, .bool (decide ((ms.length : Int) = 0))), (15, .bool (decide ((ms.length : Int) = 0))), (21, .slice A ms.length cap), (22, .int .i64 (ms.length : Int)), (23, .bool (decide ((ms.length : Int) > 32))), (20, .bool (decide ((ms.length : Int) > 32))), (25, .slice A ms.length cap), (26, .int .i64 (ms.length : Int)), (27, .int .i64 (k : Int)), (4, .pointer (some ⟨gm, 0, none⟩)), (28, .bool (decide ((k : Int) < (ms.length : Int)))), (91, .pointer (some ⟨gm, 0, none⟩)), (92, .pointer (some ⟨gm, 0, none⟩)), (93, .pointer (some ⟨gm, 1, none⟩)), (94, .slice (some (Addr.mk gr 0 none)) (ne * ne) cp), (95, .int .i64 ((ne * ne) : Int)), (96, .int .i64 (i : Int)), (97, .bool (decide ((i : Int) < ((ne * ne) : Int)))), (98, .int .i64 (i : Int)), (12, .int .i64 (i : Int)), (99, .pointer (some ⟨gm, 0, none⟩)), (100, .pointer (some ⟨gm, 0, none⟩)), (101, .pointer (some ⟨gm, 1, none⟩)), (102, .slice (some (Addr.mk gr 0 none)) (ne * ne) cp), (103, .int .i64 (i : Int)), (104, .pointer (some ((Addr.mk gr 0 none).add (i * 64)))), (105, .agg (ints (cutN (updL (rndF ms.length) (sumL ms ms.length) (i * 64)) (i * 64) 64))), (106, .int .i64 (q : Int))] ∧ St w0 [⟨gm, 137, #[.int .i64 (ne : Int), .slice (some (Addr.mk gr 0 none)) (ne * ne) cp], true⟩, ⟨g3, 30, #[.int .i64 0, .slice none 0 0], true⟩] [⟨.slice (some (Addr.mk gr 0 none)) (ne * ne) cp, 123, 64, (ne * ne), (rowI (updL (rndF ms.length) (sumL ms ms.length) (i * 64 + q)))⟩] wc) _ ⟨0, rfl, Nat.zero_le _, (A259.slot (A259.slot (A259.slot (A259.slot (A259.slot (A259.slot (A259.slot (A259.slot (A259.slot (A259.slot (A259.slot (A259.slot (A259.slot (A259.slot (A259.slot (A259.slot (A259.slot (A259.slot (A259.slot (A259.slot (A259.slot (A259.slot (A259.slot (A259.slot (A259.slot (A259.slot (A259.slot (A259.slot (A259.slot (A259.slot (A259.slot (A259.slot A259.nil (v := .int .i64 0) (by kernel_rfl) (congrArg (Value.int .i64) (by omega))) (v := .agg (ints (cutN (updL (rndF ms.length) (sumL ms ms.length) (i * 64)) (i * 64) 64))) (by kernel_rfl) rfl) (v := .pointer (some ((Addr.mk gr 0 none).add (i * 64)))) (by kernel_rfl) rfl) (v := .int .i64 (i : Int)) (by kernel_rfl) rfl) (v := .slice (some (Addr.mk gr 0 none)) (ne * ne) cp) (by kernel_rfl) rfl) (v := .pointer (some ⟨gm, 1, none⟩)) (by kernel_rfl) rfl) (v := .pointer (some ⟨gm, 0, none⟩)) (by kernel_rfl) rfl) (v := .pointer (some ⟨gm, 0, none⟩)) (by kernel_rfl) rfl) (v := .int .i64 (i : Int)) (by kernel_rfl) rfl) (v := .int .i64 (i : Int)) (by kernel_rfl) rfl) (v := .bool (decide ((i : Int) < ((ne * ne) : Int)))) (by kernel_rfl) rfl) (v := .int .i64 (i : Int)) (by kernel_rfl) rfl) (v := .int .i64 ((ne * ne) : Int)) (by kernel_rfl) rfl) (v := .slice (some (Addr.mk gr 0 none)) (ne * ne) cp) (by kernel_rfl) rfl) (v := .pointer (some ⟨gm, 1, none⟩)) (by kernel_rfl) rfl) (v := .pointer (some ⟨gm, 0, none⟩)) (by kernel_rfl) rfl) (v := .pointer (some ⟨gm, 0, none⟩)) (by kernel_rfl) rfl) (v := .bool (decide ((k : Int) < (ms.length : Int)))) (by kernel_rfl) rfl) (v := .pointer (some ⟨gm, 0, none⟩)) (by kernel_rfl) rfl) (v := .int .i64 (k : Int)) (by kernel_rfl) rfl) (v := .int .i64 (ms.length : Int)) (by kernel_rfl) rfl) (v := .slice A ms.length cap) (by kernel_rfl) rfl) (v := .bool (decide ((ms.length : Int) > 32))) (by kernel_rfl) rfl) (v := .bool (decide ((ms.length : Int) > 32))) (by kernel_rfl) rfl) (v := .int .i64 (ms.length : Int)) (by kernel_rfl) rfl) (v := .slice A ms.length cap) (by kernel_rfl) rfl) (v := .bool (decide ((ms.length : Int) = 0))) (by kernel_rfl) rfl) (v := .bool (decide ((ms.length : Int) = 0))) (by kernel_rfl) rfl) (v := .int .i64 (ms.length : Int)) (by kernel_rfl) rfl) (v := .slice A ms.length cap) (by kernel_rfl) rfl) (v := .pointer (some ⟨g3, 0, none⟩)) (by kernel_rfl) rfl) (v := .slice A ms.length cap) (by kernel_rfl) rfl), (St.rerow 0 S245 rfl ⟨rfl, rfl⟩).sub sub_all sub_all⟩ ?_
            rintro mm ac wc ⟨q, hm262, hq, A260, S261⟩
            refine wp_seq ?_
            refine wp_region_lit ?_
            refine s_one (.bool (decide ((q : Int) < 64))) A260 S261 (g_bin (u := .int .i64 (q : Int)) (k := .int .i64 64) (by kernel_rfl) (by kernel_rfl) (fun _ => by kernel_rfl) (fun _ => by kernel_rfl)) rfl (fun ac A263 => ?_)
            refine wpList_nil ?_
            refine n_then ?_
            refine wp_seq ?_
            refine c_ifb (b := (decide ((q : Int) < 64))) A263 (by kernel_rfl) (fun h264 => ?_) (fun h264 => ?_)
            · have p265 := of_decide_eq_true h264
              refine wp_skip ?_
              refine n_then ?_
              refine wp_seq ?_
              refine wp_block ?_
              refine wp_seq ?_
              refine wp_region_lit ?_
              refine s_one (.int .i64 (q : Int)) A263 S261 (g_move (by kernel_rfl)) rfl (fun ac A266 => ?_)
              refine s_one (.int .i64 (nthI (cutN (updL (rndF ms.length) (sumL ms ms.length) (i * 64)) (i * 64) 64) q)) A266 S261 (g_indexv (u := .agg (ints (cutN (updL (rndF ms.length) (sumL ms ms.length) (i * 64)) (i * 64) 64))) (k := .int .i64 (q : Int)) (by kernel_rfl) (by kernel_rfl) (index159 (cutN (updL (rndF ms.length) (sumL ms ms.length) (i * 64)) (i * 64) 64) (cutN_length _ _ _) q (by omega))) rfl (fun ac A267 => ?_)
              refine s_one (.int .i64 (q : Int)) A267 S261 (g_assign (by kernel_rfl)) rfl (fun ac A268 => ?_)
              refine s_one (.int .i64 (nthI (cutN (updL (rndF ms.length) (sumL ms ms.length) (i * 64)) (i * 64) 64) q)) A268 S261 (g_assign (by kernel_rfl)) rfl (fun ac A269 => ?_)
              refine wpList_nil ?_
              refine n_then ?_
              have hv1 : nthI (cutN (updL (rndF ms.length) (sumL ms ms.length) (i * 64)) (i * 64) 64) q = sumK ms (i * 64 + q) ms.length := by rw [cutN_nth (by omega), updL_nth (by omega), if_neg (by omega), sumL_nth (by omega)]
              have hv2 := sumK_bd hgA (i * 64 + q)
              refine r_begin (w0 := w0) (by kernel_rfl) (S261.sub sub_all sub_nil) (fun wc T270 B271 => ?_)
              have S272 := S261.kept B271
              refine r_take 0 (.pointer (some ⟨gm, 0, none⟩)) A269 T270 (g_move (by kernel_rfl)) rfl rfl rfl (pf_block (pf_then (pf_then (pf_block (pf_block (pf_then (pf_then (pf_block (pf_then pf_body))))))))) (by kernel_rfl) (fun ac A273 => ?_)
              refine r_take 1 (.pointer (some ⟨gm, 0, none⟩)) A273 T270 (g_nil (by kernel_rfl)) rfl rfl rfl (pf_block (pf_then (pf_then (pf_block (pf_block (pf_then (pf_then (pf_block (pf_then pf_body))))))))) (by kernel_rfl) (fun ac A274 => ?_)
              refine r_take 2 (.pointer (some ⟨gm, 1, none⟩)) A274 T270 (g_field (u := .pointer (some ⟨gm, 0, none⟩)) (by kernel_rfl) (fun _ => by kernel_rfl)) rfl rfl rfl (pf_block (pf_then (pf_then (pf_block (pf_block (pf_then (pf_then (pf_block (pf_then pf_body))))))))) (by kernel_rfl) (fun ac A275 => ?_)
              refine r_take 3 (.slice (some (Addr.mk gr 0 none)) (ne * ne) cp) A275 T270 (g_load (g := gm) (off := 1) 0 (by kernel_rfl) rfl (by kernel_rfl)) rfl rfl rfl (pf_block (pf_then (pf_then (pf_block (pf_block (pf_then (pf_then (pf_block (pf_then pf_body))))))))) (by kernel_rfl) (fun ac A276 => ?_)
              refine r_take 4 (.int .i64 (i : Int)) A276 T270 (g_move (by kernel_rfl)) rfl rfl rfl (pf_block (pf_then (pf_then (pf_block (pf_block (pf_then (pf_then (pf_block (pf_then pf_body))))))))) (by kernel_rfl) (fun ac A277 => ?_)
              refine r_take 5 (.int .i64 (q : Int)) A277 T270 (g_move (by kernel_rfl)) rfl rfl rfl (pf_block (pf_then (pf_then (pf_block (pf_block (pf_then (pf_then (pf_block (pf_then pf_body))))))))) (by kernel_rfl) (fun ac A278 => ?_)
              refine r_take 6 (.int .i64 (nthI (cutN (updL (rndF ms.length) (sumL ms ms.length) (i * 64)) (i * 64) 64) q)) A278 T270 (g_move (by kernel_rfl)) rfl rfl rfl (pf_block (pf_then (pf_then (pf_block (pf_block (pf_then (pf_then (pf_block (pf_then pf_body))))))))) (by kernel_rfl) (fun ac A279 => ?_)
              refine r_take 7 (.slice A ms.length cap) A279 T270 (g_move (by kernel_rfl)) rfl rfl rfl (pf_block (pf_then (pf_then (pf_block (pf_block (pf_then (pf_then (pf_block (pf_then pf_body))))))))) (by kernel_rfl) (fun ac A280 => ?_)
              refine r_take 8 (.int .i64 (ms.length : Int)) A280 T270 (g_built (r := [(0, .slice A ms.length cap)]) (by kernel_rfl) (fun _ _ _ => by kernel_rfl)) rfl rfl rfl (pf_block (pf_then (pf_then (pf_block (pf_block (pf_then (pf_then (pf_block (pf_then pf_body))))))))) (by kernel_rfl) (fun ac A281 => ?_)
              refine r_take 10 (.pointer (some ((Addr.mk gr 0 none).add (i * 64)))) A281 T270 (g_index (u := .slice (some (Addr.mk gr 0 none)) (ne * ne) cp) (k := .int .i64 (i : Int)) (by kernel_rfl) (by kernel_rfl) (ix_xs (e := 123) (bytes := 512) i (by kernel_rfl) (by omega) (by omega))) rfl rfl rfl (pf_block (pf_then (pf_then (pf_block (pf_block (pf_then (pf_then (pf_block (pf_then pf_body))))))))) (by kernel_rfl) (fun ac A282 => ?_)
              refine r_1 (i := 9) (by kernel_rfl) ?_
              refine rs_call (fs := #[]) (cp := #[]) (r := [(0, .int .i64 (nthI (cutN (updL (rndF ms.length) (sumL ms ms.length) (i * 64)) (i * 64) 64) q)), (0, .int .i64 (ms.length : Int))]) #[.int .i64 (nthI (cutN (updL (rndF ms.length) (sumL ms ms.length) (i * 64)) (i * 64) 64) q), .int .i64 (ms.length : Int)] (.int .i64 (rndI (nthI (cutN (updL (rndF ms.length) (sumL ms ms.length) (i * 64)) (i * 64) 64) q) ms.length)) A282 S272 sub_all sub_nil (rounded_s (nthI (cutN (updL (rndF ms.length) (sumL ms ms.length) (i * 64)) (i * 64) 64) q) ms.length _ (by omega) (by omega) (by omega)) Try.call75 rfl rfl (by kernel_rfl) (by kernel_rfl) (by kernel_rfl) rfl (fun ac wc A283 S284 => ?_)
              have T286 := S284.sub sub_all sub_nil
              refine r_take 11 (.pointer (some ((Addr.mk gr 0 none).add (i * 64 + q)))) A283 T286 (g_index (u := .pointer (some ((Addr.mk gr 0 none).add (i * 64)))) (k := .int .i64 (q : Int)) (by kernel_rfl) (by kernel_rfl) (ix_xarr (len := 64) (size := 1) (y := i * 64 + q) q (by kernel_rfl) (by omega) (by omega) (by omega))) rfl rfl rfl (pf_block (pf_then (pf_then (pf_block (pf_block (pf_then (pf_then (pf_block (pf_then pf_body))))))))) (by kernel_rfl) (fun ac A287 => ?_)
              refine r_1 (i := 12) (by kernel_rfl) ?_
              have hl289 : ((updL (rndF ms.length) (sumL ms ms.length) (i * 64 + q)).set (i * 64 + q) (rndI (nthI (cutN (updL (rndF ms.length) (sumL ms ms.length) (i * 64)) (i * 64) 64) q) ms.length)).length = (updL (rndF ms.length) (sumL ms ms.length) (i * 64 + q)).length := List.length_set
              refine rs_storeR 0 (ad := (Addr.mk gr 0 none)) (off := i * 64 + q) (u := .int .i64 (rndI (nthI (cutN (updL (rndF ms.length) (sumL ms ms.length) (i * 64)) (i * 64) 64) q) ms.length)) 1 [.int .i64 (rndI (nthI (cutN (updL (rndF ms.length) (sumL ms ms.length) (i * 64)) (i * 64) 64) q) ms.length)] (rowI ((updL (rndF ms.length) (sumL ms ms.length) (i * 64 + q)).set (i * 64 + q) (rndI (nthI (cutN (updL (rndF ms.length) (sumL ms ms.length) (i * 64)) (i * 64) 64) q) ms.length))) A287 S284 sub_all (fun _ => sub_nil) (by kernel_rfl) (by kernel_rfl) rfl rfl rfl (by kernel_rfl) rfl (by rw [rowI_length]; have hlen := (show (updL (rndF ms.length) (sumL ms ms.length) (i * 64 + q)).length = ne * ne * 64 by rw [updL_length, sumL_length]; omega); omega) (putI1 (by have hlen := (show (updL (rndF ms.length) (sumL ms ms.length) (i * 64 + q)).length = ne * ne * 64 by rw [updL_length, sumL_length]; omega); omega)) rfl rfl (fun wc S288 => ?_)
              have T290 := S288.sub sub_all sub_nil
              refine r_done (by kernel_rfl) ?_
              refine n_block ?_
              refine n_then ?_
              refine wp_region_lit ?_
              refine s_one (.int .i64 ((q : Int) + 1)) A287 S288 (g_bin (u := .int .i64 (q : Int)) (k := .int .i64 1) (by kernel_rfl) (by kernel_rfl) (fun _ => by kernel_rfl) (b_add (by omega))) rfl (fun ac A291 => ?_)
              refine s_one (.int .i64 ((q : Int) + 1)) A291 S288 (g_move (by kernel_rfl)) rfl (fun ac A292 => ?_)
              refine wpList_nil ?_
              refine n_then ?_
              refine ⟨_, ⟨q + 1, rfl, by omega, (A292.slot (A292.slot (A292.slot (A292.slot (A292.slot (A292.slot (A292.slot (A292.slot (A292.slot (A292.slot (A292.slot (A292.slot (A292.slot (A292.slot (A292.slot (A292.slot (A292.slot (A292.slot (A292.slot (A292.slot (A292.slot (A292.slot (A292.slot (A292.slot (A292.slot (A292.slot (A292.slot (A292.slot (A292.slot (A292.slot (A292.slot (A292.slot A292.nil (v := .int .i64 ((q : Int) + 1)) (by kernel_rfl) (congrArg (Value.int .i64) (by omega))) (v := .agg (ints (cutN (updL (rndF ms.length) (sumL ms ms.length) (i * 64)) (i * 64) 64))) (by kernel_rfl) rfl) (v := .pointer (some ((Addr.mk gr 0 none).add (i * 64)))) (by kernel_rfl) rfl) (v := .int .i64 (i : Int)) (by kernel_rfl) rfl) (v := .slice (some (Addr.mk gr 0 none)) (ne * ne) cp) (by kernel_rfl) rfl) (v := .pointer (some ⟨gm, 1, none⟩)) (by kernel_rfl) rfl) (v := .pointer (some ⟨gm, 0, none⟩)) (by kernel_rfl) rfl) (v := .pointer (some ⟨gm, 0, none⟩)) (by kernel_rfl) rfl) (v := .int .i64 (i : Int)) (by kernel_rfl) rfl) (v := .int .i64 (i : Int)) (by kernel_rfl) rfl) (v := .bool (decide ((i : Int) < ((ne * ne) : Int)))) (by kernel_rfl) rfl) (v := .int .i64 (i : Int)) (by kernel_rfl) rfl) (v := .int .i64 ((ne * ne) : Int)) (by kernel_rfl) rfl) (v := .slice (some (Addr.mk gr 0 none)) (ne * ne) cp) (by kernel_rfl) rfl) (v := .pointer (some ⟨gm, 1, none⟩)) (by kernel_rfl) rfl) (v := .pointer (some ⟨gm, 0, none⟩)) (by kernel_rfl) rfl) (v := .pointer (some ⟨gm, 0, none⟩)) (by kernel_rfl) rfl) (v := .bool (decide ((k : Int) < (ms.length : Int)))) (by kernel_rfl) rfl) (v := .pointer (some ⟨gm, 0, none⟩)) (by kernel_rfl) rfl) (v := .int .i64 (k : Int)) (by kernel_rfl) rfl) (v := .int .i64 (ms.length : Int)) (by kernel_rfl) rfl) (v := .slice A ms.length cap) (by kernel_rfl) rfl) (v := .bool (decide ((ms.length : Int) > 32))) (by kernel_rfl) rfl) (v := .bool (decide ((ms.length : Int) > 32))) (by kernel_rfl) rfl) (v := .int .i64 (ms.length : Int)) (by kernel_rfl) rfl) (v := .slice A ms.length cap) (by kernel_rfl) rfl) (v := .bool (decide ((ms.length : Int) = 0))) (by kernel_rfl) rfl) (v := .bool (decide ((ms.length : Int) = 0))) (by kernel_rfl) rfl) (v := .int .i64 (ms.length : Int)) (by kernel_rfl) rfl) (v := .slice A ms.length cap) (by kernel_rfl) rfl) (v := .pointer (some ⟨g3, 0, none⟩)) (by kernel_rfl) rfl) (v := .slice A ms.length cap) (by kernel_rfl) rfl), (St.rerow 0 S288 rfl ⟨rfl, congrArg rowI (updL_set (by omega) (by rw [cutN_nth (by omega), updL_nth (by omega), if_neg (by omega)]; rfl))⟩).sub sub_all sub_all⟩, ?_⟩
              omega
            · have p293 := of_decide_eq_false h264
              refine wp_exit ?_
              refine x_then ?_
              refine x_then ?_
              refine x_hit ?_
              refine n_block ?_
              refine n_then ?_
              refine wp_region_lit ?_
              refine s_one (.int .i64 ((i : Int) + 1)) A263 S261 (g_bin (u := .int .i64 (i : Int)) (k := .int .i64 1) (by kernel_rfl) (by kernel_rfl) (fun _ => by kernel_rfl) (b_add (by omega))) rfl (fun ac A294 => ?_)
              refine s_one (.int .i64 ((i : Int) + 1)) A294 S261 (g_move (by kernel_rfl)) rfl (fun ac A295 => ?_)
              refine wpList_nil ?_
              refine n_then ?_
              refine ⟨_, ⟨i + 1, rfl, by omega, (A295.slot (A295.slot (A295.slot (A295.slot (A295.slot (A295.slot (A295.slot (A295.slot (A295.slot (A295.slot (A295.slot (A295.slot (A295.slot (A295.slot (A295.slot (A295.slot (A295.slot (A295.slot (A295.slot (A295.slot (A295.slot A295.nil (v := .int .i64 ((i : Int) + 1)) (by kernel_rfl) (congrArg (Value.int .i64) (by omega))) (v := .int .i64 ((ne * ne) : Int)) (by kernel_rfl) rfl) (v := .slice (some (Addr.mk gr 0 none)) (ne * ne) cp) (by kernel_rfl) rfl) (v := .pointer (some ⟨gm, 1, none⟩)) (by kernel_rfl) rfl) (v := .pointer (some ⟨gm, 0, none⟩)) (by kernel_rfl) rfl) (v := .pointer (some ⟨gm, 0, none⟩)) (by kernel_rfl) rfl) (v := .bool (decide ((k : Int) < (ms.length : Int)))) (by kernel_rfl) rfl) (v := .pointer (some ⟨gm, 0, none⟩)) (by kernel_rfl) rfl) (v := .int .i64 (k : Int)) (by kernel_rfl) rfl) (v := .int .i64 (ms.length : Int)) (by kernel_rfl) rfl) (v := .slice A ms.length cap) (by kernel_rfl) rfl) (v := .bool (decide ((ms.length : Int) > 32))) (by kernel_rfl) rfl) (v := .bool (decide ((ms.length : Int) > 32))) (by kernel_rfl) rfl) (v := .int .i64 (ms.length : Int)) (by kernel_rfl) rfl) (v := .slice A ms.length cap) (by kernel_rfl) rfl) (v := .bool (decide ((ms.length : Int) = 0))) (by kernel_rfl) rfl) (v := .bool (decide ((ms.length : Int) = 0))) (by kernel_rfl) rfl) (v := .int .i64 (ms.length : Int)) (by kernel_rfl) rfl) (v := .slice A ms.length cap) (by kernel_rfl) rfl) (v := .pointer (some ⟨g3, 0, none⟩)) (by kernel_rfl) rfl) (v := .slice A ms.length cap) (by kernel_rfl) rfl), (St.rerow 0 S261 rfl ⟨rfl, congrArg rowI (by rw [show i * 64 + q = (i + 1) * 64 by omega])⟩).sub sub_all sub_all⟩, ?_⟩
              omega
          · have p296 := of_decide_eq_false h248
            refine wp_exit ?_
            refine x_then ?_
            refine x_then ?_
            refine x_hit ?_
            refine n_then ?_
            refine wp_seq ?_
            have SQ27 : St w0 [⟨gm, 137, #[.int .i64 (ne : Int), .slice (some (Addr.mk gr 0 none)) (ne * ne) cp], true⟩, ⟨g3, 30, #[.int .i64 0, .slice none 0 0], true⟩] [⟨.slice (some (Addr.mk gr 0 none)) (ne * ne) cp, 123, 64, (ne * ne), (rowI (avL ms (mtK ms 0).xs.length))⟩] _ := (St.rerow 0 S245 rfl ⟨rfl, congrArg rowI ((congrArg (updL (rndF ms.length) (sumL ms ms.length)) (show i * 64 = (mtK ms 0).xs.length by omega)).trans (sumL_rnd rfl))⟩).sub sub_all (sub_keep sub_nil)
            refine wp_region_lit ?_
            refine s_one (.pointer (some ⟨gm, 0, none⟩)) A247 SQ27 (g_move (by kernel_rfl)) rfl (fun ac A297 => ?_)
            refine s_callRF (fs := #[]) (cp := #[]) (r := [(0, .pointer (some ⟨gm, 0, none⟩))]) (fun v => .agg #[.int .i64 (ne : Int), v]) #[.pointer (some ⟨gm, 0, none⟩)] A297 SQ27 (full_s gm ne (ne * ne) cp (Addr.mk gr 0 none) (avL ms (mtK ms 0).xs.length) _ (SQ27.get 0 rfl) (by have hlen := (avL_length ms (mtK ms 0).xs.length); omega) (row_ir (SQ27.row 0 rfl)) (by omega)) Try.call74 (by kernel_rfl) (by kernel_rfl) (by kernel_rfl) rfl (fun v301 ac wc A298 S299 => ?_)
            obtain ⟨hl302, A303, cap304, rfl, hc305, hr306⟩ := rowF_reads (v := v301) (m := ((ne * ne) * 64)) (l := fw (avL ms (mtK ms 0).xs.length)) (S299.row 0 rfl)
            refine s_store (g := g3) (off := 0) (v := .agg #[.int .i64 (ne : Int), .slice A303 ((ne * ne) * 64) cap304]) 1 (#[.int .i64 (ne : Int), .slice A303 ((ne * ne) * 64) cap304]) A298 S299 (by kernel_rfl) (by kernel_rfl) rfl (by kernel_rfl) (fun wc S308 => ?_)
            refine s_one (.int .i64 0) A298 S308 (g_assign (by kernel_rfl)) rfl (fun ac A310 => ?_)
            refine wpList_nil ?_
            refine n_then ?_
            refine wp_ret ?_
            refine fin2 (.agg #[.int .i64 (ne : Int), .slice A303 ((ne * ne) * 64) cap304]) (.int .i64 0) Try.results28 A310 S308 (rv_cell (g := g3) (off := 0) 1 (by kernel_rfl) rfl (by kernel_rfl)) (rv_tmp (by kernel_rfl)) ?_
            have bw := S308.kp
            have ow := S308.row 0 rfl
            rw [← helne]
            have ez := avZ_g (ms := ms) (by omega) (by omega) hgA
            obtain ⟨e1, e2⟩ := av_ok ez
            rw [e1, e2, ez, fw_length, avL_length]
            exact ⟨_, rfl, bw, by rw [hxlne]; rw [hxlne] at ow; exact ow⟩
end Go.Proofs.Ytcijkniijomcjaa
/-! The mean of a matrix and its transpose. -/
namespace Go.Proofs.Ytcijkniijomcjaa
open Go.RowKit Go.Cpl
def rcL (el : Int) (xs : List Nat) : List Int := (List.range xs.length).map fun j => rndI (nthI (mi xs) j + nthI (trL (mi xs) el.toNat (pairsOf el.toNat)) j) 2
theorem rcL_length (el : Int) (xs : List Nat) : (rcL el xs).length = xs.length := by simp [rcL]
theorem rcL_nth (el : Int) {xs : List Nat} {j : Nat} (h : j < xs.length) : nthI (rcL el xs) j = rndI (nthI (mi xs) j + nthI (trL (mi xs) el.toNat (pairsOf el.toNat)) j) 2 := nthI_map _ h
theorem rcL_range {el : Int} {xs : List Nat} (h : (mxC el xs).2 = 0) (j : Nat) : -2047 ≤ nthI (rcL el xs) j ∧ nthI (rcL el xs) j ≤ 2047 := by
  have hR := right_of (mxC_0 h).2.2
  rcases Nat.lt_or_ge j xs.length with q | q
  · rw [rcL_nth el q]
    have h1 := mi_range hR j
    have h2 := trL_range (mi_range hR) el.toNat (pairsOf el.toNat) j
    unfold rndI
    omega
  · have : nthI (rcL el xs) j = 0 := by
      simp [nthI, List.getD_eq_getElem?_getD, List.getElem?_eq_none (show (rcL el xs).length ≤ j by rw [rcL_length]; exact q)]
    omega
theorem place_lt {n f r i : Nat} (hf : f < n) (hr : r < n) (hi : i < 64) : (f * n + r) * 64 + i < n * n * 64 := by
  have := pair_lt hf hr
  omega
theorem rcL_pair {n : Nat} {xs : List Nat} (hl : xs.length = n * n * 64) {f r i : Nat} (hf : f < n) (hr : r < n) (hi : i < 64) : nthI (rcL (n : Int) xs) ((f * n + r) * 64 + i) = rndI (nthI (mi xs) ((f * n + r) * 64 + i) + nthI (mi xs) ((r * n + f) * 64 + i)) 2 := by
  rw [rcL_nth _ (by rw [hl]; exact place_lt hf hr hi), Int.toNat_natCast]
  have h1 := congrArg (fun k => nthI k i) (trL_at (l := mi xs) hf hr)
  simp only [cutN_nth hi] at h1
  rw [h1]
theorem rcL_sym {n : Nat} {xs : List Nat} (hl : xs.length = n * n * 64) {f r i : Nat} (hf : f < n) (hr : r < n) (hi : i < 64) : nthI (rcL (n : Int) xs) ((f * n + r) * 64 + i) = nthI (rcL (n : Int) xs) ((r * n + f) * 64 + i) := by
  rw [rcL_pair hl hf hr hi, rcL_pair hl hr hf hi, Int.add_comm]
theorem rcL_tr {n : Nat} {xs : List Nat} (hl : xs.length = n * n * 64) : trL (rcL (n : Int) xs) n (pairsOf n) = rcL (n : Int) xs := by
  have hL : (rcL (n : Int) xs).length = n * n * 64 := (rcL_length _ _).trans hl
  have key : ∀ ps : List (Nat × Nat), (∀ p ∈ ps, p.1 < n ∧ p.2 < n) → trL (rcL (n : Int) xs) n ps = ps.flatMap fun p => cutN (rcL (n : Int) xs) ((p.1 * n + p.2) * 64) 64 := by
    intro ps
    induction ps with
    | nil => intro _; rfl
    | cons p ps ih =>
      intro h
      have hp := h p (List.mem_cons_self ..)
      have e0 : cutN (rcL (n : Int) xs) ((p.2 * n + p.1) * 64) 64 = cutN (rcL (n : Int) xs) ((p.1 * n + p.2) * 64) 64 := by
        refine list_extI (by rw [cutN_length, cutN_length]) fun k hk => ?_
        rw [cutN_length] at hk
        rw [cutN_nth hk, cutN_nth hk]
        exact rcL_sym hl hp.2 hp.1 hk
      have e1 : trL (rcL (n : Int) xs) n (p :: ps) = cutN (rcL (n : Int) xs) ((p.2 * n + p.1) * 64) 64 ++ trL (rcL (n : Int) xs) n ps := by simp [trL]
      rw [e1, e0, ih fun q hq => h q (List.mem_cons_of_mem _ hq)]
      simp
  have h2 := id_take hL (n * n) (Nat.le_refl _)
  rw [List.take_of_length_le (by rw [pairs_len]; exact Nat.le_refl _), List.take_of_length_le (by omega)] at h2
  rw [key _ fun p hp => mem_pairs.1 hp, h2]
theorem rc_mx {el : Int} {xs : List Nat} (h : (mxC el xs).2 = 0) : (mxC el (fw (rcL el xs))).2 = 0 := by
  obtain ⟨h1, h2, _⟩ := mxC_0 h
  exact mxC_fw (inB_true.2 h1) (by rw [rcL_length]; exact h2) (rcL_range h)
theorem rc_trW {el : Int} {xs : List Nat} (h : (mxC el xs).2 = 0) : trW el (fw (rcL el xs)) = fw (rcL el xs) := by
  rw [trW, if_pos (rc_mx h), num_fw (rcL_range h)]
  obtain ⟨n, rfl, hl, _, _, _⟩ := mx_nat h
  rw [mi_length] at hl
  show fw (trL (rcL (n : Int) xs) n (pairsOf n)) = _
  rw [rcL_tr hl]
theorem rc_unW {el : Int} {xs : List Nat} (h : (mxC el xs).2 = 0) : unW el (fw (rcL el xs)) 0 = [] := by
  rw [unW, if_pos ⟨rc_mx h, by decide⟩, num_fw (rcL_range h)]
  obtain ⟨n, rfl, hl, _, _, _⟩ := mx_nat h
  rw [mi_length] at hl
  rw [List.filter_eq_nil_iff]
  intro p hp
  obtain ⟨h1, h2⟩ : p.1 < n ∧ p.2 < n := mem_pairs.1 hp
  have e : anyD (rcL (n : Int) xs) n 0 p 64 = false := by
    unfold anyD
    rw [List.any_eq_false]
    intro i hi
    have := rcL_sym hl h1 h2 (List.mem_range.1 hi)
    unfold dif
    rw [this, Int.sub_self]
    decide
  show ¬ (unB (rcL (n : Int) xs) n 0 p) = true
  unfold unB
  rw [e, Bool.and_false]
  decide
theorem good_all {el : Int} {ms : List Mt} (h : ∀ j, j < ms.length → (mxC (mtK ms j).el (mtK ms j).xs).2 = 0 ∧ (mtK ms j).el = el) : avGood ms ms.length := fun j hj => ⟨(h j hj).1, (h j hj).2.trans (h 0 (by omega)).2.symm⟩
theorem av_two {el : Int} {xs : List Nat} {m1 m2 : Mt} (e1 : m1.el = el) (e2 : m2.el = el) (x1 : m1.xs = xs) (x2 : m2.xs = trW el xs) (hz : (mxC el xs).2 = 0) : avZ [m1, m2] = 0 ∧ avE [m1, m2] = el ∧ avW [m1, m2] = fw (rcL el xs) := by
  have hz2 : (mxC el (trW el xs)).2 = 0 := by have := trW_ok hz; rwa [trE_ok hz] at this
  have hg : avGood [m1, m2] ([m1, m2] : List Mt).length := good_all (el := el) fun j hj => by
    rcases (by simp at hj; omega : j = 0 ∨ j = 1) with rfl | rfl
    · show (mxC m1.el m1.xs).2 = 0 ∧ m1.el = el
      rw [e1, x1]; exact ⟨hz, rfl⟩
    · show (mxC m2.el m2.xs).2 = 0 ∧ m2.el = el
      rw [e2, x2]; exact ⟨hz2, rfl⟩
  have ez := avZ_g (ms := [m1, m2]) (by simp) (by simp) hg
  obtain ⟨a1, a2⟩ := av_ok ez
  refine ⟨ez, a1.trans e1, ?_⟩
  rw [a2]
  congr 1
  show avL [m1, m2] m1.xs.length = _
  rw [x1]
  refine list_extI (by rw [avL_length, rcL_length]) fun j hj => ?_
  rw [avL_length] at hj
  unfold avL
  rw [nthI_map _ hj, rcL_nth _ hj]
  show rndI (0 + nthI (mi m1.xs) j + nthI (mi m2.xs) j) 2 = _
  obtain ⟨n, rfl, hl, _, _, hR⟩ := mx_nat hz
  rw [x1, x2, trW, if_pos hz, num_fw (trL_range (mi_range hR) _ _), Int.zero_add]
theorem av_three {el : Int} {l : List Int} {m1 m2 m3 : Mt} (e1 : m1.el = el) (e2 : m2.el = el) (e3 : m3.el = el) (x1 : m1.xs = fw l) (x2 : m2.xs = fw l) (x3 : m3.xs = fw l) (hz : (mxC el (fw l)).2 = 0) (hr : ∀ j, -2047 ≤ nthI l j ∧ nthI l j ≤ 2047) : avZ [m1, m2, m3] = 0 ∧ avE [m1, m2, m3] = el ∧ avW [m1, m2, m3] = fw l := by
  have hg : avGood [m1, m2, m3] ([m1, m2, m3] : List Mt).length := good_all (el := el) fun j hj => by
    rcases (by simp at hj; omega : j = 0 ∨ j = 1 ∨ j = 2) with rfl | rfl | rfl
    · show (mxC m1.el m1.xs).2 = 0 ∧ m1.el = el
      rw [e1, x1]; exact ⟨hz, rfl⟩
    · show (mxC m2.el m2.xs).2 = 0 ∧ m2.el = el
      rw [e2, x2]; exact ⟨hz, rfl⟩
    · show (mxC m3.el m3.xs).2 = 0 ∧ m3.el = el
      rw [e3, x3]; exact ⟨hz, rfl⟩
  have ez := avZ_g (ms := [m1, m2, m3]) (by simp) (by simp) hg
  obtain ⟨a1, a2⟩ := av_ok ez
  refine ⟨ez, a1.trans e1, ?_⟩
  rw [a2]
  congr 1
  show avL [m1, m2, m3] m1.xs.length = _
  rw [x1, fw_length]
  refine list_extI (by rw [avL_length]) fun j hj => ?_
  rw [avL_length] at hj
  unfold avL
  rw [nthI_map _ hj]
  show rndI (0 + nthI (mi m1.xs) j + nthI (mi m2.xs) j + nthI (mi m3.xs) j) 3 = _
  rw [x1, x2, x3, num_fw hr]
  unfold rndI
  omega
/-- A block of matrices. -/
theorem mt_blk {w : World} {g : Nat} {t : TypeId} {ms : List Mt} {cs : Array Value} (hb : Blk w g t cs) (hc : cs = (mtX ms).toArray) (ok : ∀ k, k < ms.length → MtOk w (mtK ms k)) : MtReads w (some ⟨g, 0, none⟩) ms := by
  subst hc
  refine ⟨fun k x hx => ⟨_, rfl, ?_⟩, ok⟩
  refine cells_of_blk (m := (mtX ms).length) hb k x ?_
  simpa using hx
theorem ok_two {w : World} {m1 m2 : Mt} (h1 : MtOk w m1) (h2 : MtOk w m2) : ∀ k, k < ([m1, m2] : List Mt).length → MtOk w (mtK [m1, m2] k) := fun j hj => by
  rcases (by simp at hj; omega : j = 0 ∨ j = 1) with rfl | rfl
  · exact h1
  · exact h2
theorem ok_three {w : World} {m1 m2 m3 : Mt} (h1 : MtOk w m1) (h2 : MtOk w m2) (h3 : MtOk w m3) : ∀ k, k < ([m1, m2, m3] : List Mt).length → MtOk w (mtK [m1, m2, m3] k) := fun j hj => by
  rcases (by simp at hj; omega : j = 0 ∨ j = 1 ∨ j = 2) with rfl | rfl | rfl
  · exact h1
  · exact h2
  · exact h3
theorem rc_fr {p el : Int} {xs : List Nat} (hp : inB p (-1000000000) 1000000000 = true) (h : (mxC el xs).2 = 0) : frE p el (fw (rcL el xs)) = 0 := (frE_y hp).trans (rc_mx h)
theorem rc_back {p el : Int} {xs : List Nat} (h : frE p el xs = 0) : pfZ (fmt p el (mi xs)) = 0 ∧ pfP (fmt p el (mi xs)) = p ∧ pfE (fmt p el (mi xs)) = el ∧ pfW (fmt p el (mi xs)) = fw (mi xs) := by
  obtain ⟨hp, h0⟩ := frE_0 h
  obtain ⟨he1, he2, he3⟩ := mxC_0 h0
  obtain ⟨ne, rfl⟩ := Int.eq_ofNat_of_zero_le (show 0 ≤ el by omega)
  have e : ((ne * ne : Nat) : Int) = (ne : Int) * (ne : Int) := Int.natCast_mul _ _
  exact fmt_back hp (by omega) (by omega) (by rw [mi_length]; omega) (mi_range (right_of he3))
end Go.Proofs.Ytcijkniijomcjaa
namespace Go.Proofs.Ytcijkniijomcjaa
open Go.ChangeShapes Go.WideShapes Go.ChangeAt Go.RowKit Go.Deep Go.Cpl
theorem own : ownKnob Try.prog.godebug = none := by kernel_rfl
section
variable {H : Type} {enc : TypeId × Value → H} {w : World} {base : Nat} {spare : Nat → Bool} {held : Bool}
theorem trod_f32 {fuel : Nat} {v : Value} {y : DataW H × List MemPlace} (h : DataW.trod enc Try.prog w base spare held fuel 36 [v] = some y) : ∃ b, v = .float .f32 b := by
  cases fuel with
  | zero => simp [DataW.trod] at h
  | succ n =>
    simp only [DataW.trod, Try.underlying36] at h
    cases v <;> simp at h
    rename_i k b
    exact ⟨b, by rw [h.1.1]⟩
theorem open_floats {fuel : Nat} {A : Option Addr} {len cap : Nat} {x : DataW H × List MemPlace} (h : DataW.trod enc Try.prog w base spare held fuel 23 [.slice A len cap] = some x) :
    ∃ xs : List Nat, xs.length = len ∧ len ≤ maxLen ∧ FReads w A xs := by
  rcases open_slice1 Try.underlying23 (by kernel_rfl) h with ⟨hcs, _⟩ | ⟨a, l, c, m, n, V, D, Pl, hcs, _, hl, hm, hmm, _, hi⟩
  · simp at hcs
    obtain ⟨rfl, rfl, rfl⟩ := hcs
    exact ⟨[], rfl, Nat.zero_le _, fun k hk => absurd hk (by simp)⟩
  · simp at hcs
    obtain ⟨rfl, rfl, rfl⟩ := hcs
    have hlm : len ≤ m := by rw [hmm]; split <;> omega
    obtain ⟨f, hf⟩ := choose_lt (α := Nat) (p := fun i b => w.cell? (a.add i) = some (.float .f32 b)) (n := len) (fun i hi' => by
      obtain ⟨h1, h2⟩ := hi i (by omega)
      obtain ⟨b, hb⟩ := trod_f32 h2
      exact ⟨b, by rw [h1, hb]⟩)
    refine ⟨(List.range len).map f, by simp, by omega, fun k hk => ⟨a, rfl, ?_⟩⟩
    have hk' : k < len := by simpa using hk
    rw [nth_eq hk, hf k hk']
    simp
end
end Go.Proofs.Ytcijkniijomcjaa
namespace Go.Proofs.Ytcijkniijomcjaa
open Go.ChangeShapes Go.WideShapes Go.ChangeAt Go.RowKit Go.Deep Go.Cpl
theorem own_ : ownKnob Try.prog.godebug = none := by kernel_rfl
theorem laidOut_ : laidOutB Try.prog = true := by kernel_rfl
theorem and_in {a b : Bool} (ha : a = true) (hb : b = true) : (a && b) = true := by rw [ha, hb]; rfl
/-- An int of 64 bits. -/
def In64 (n : Int) : Prop := -9223372036854775808 ≤ n ∧ n ≤ 9223372036854775807
section
variable {H : Type} {enc : TypeId × Value → H} {P : Program} {w : World} {base : Nat} {spare : Nat → Bool} {held : Bool}
def fldI (P : Program) (r : TypeId → Bool) : List Field → Nat → Nat → Bool
  | [], off, tot => Nat.beq off tot
  | f :: fs, off, tot => Nat.beq f.offset off && (r f.type && fldI P r fs (off + P.cellsOf f.type) tot)
/-- A type all of whose cells are ints. -/
def allI (P : Program) : Nat → TypeId → Bool
  | 0, _ => false
  | d + 1, t =>
    match P.underlying t with
    | some (.int .i64) => Nat.beq (P.cellsOf t) 1
    | some (.struct fs) => fldI P (allI P d) fs.toList 0 (P.cellsOf t)
    | some (.array m e) => allI P d e && Nat.beq (m * P.cellsOf e) (P.cellsOf t)
    | _ => false
def IsI (P : Program) (t : TypeId) (cs : List Value) : Prop := ∃ l : List Int, cs = rowI l ∧ l.length = P.cellsOf t ∧ ∀ n ∈ l, In64 n
theorem fld_spec {r : TypeId → Bool} {fuel : Nat} (hr : ∀ t, r t = true → ∀ cs x, DataW.trod enc P w base spare held fuel t cs = some x → IsI P t cs) (cs : List Value) (tot : Nat) (hl : cs.length = tot) :
    ∀ (fs : List Field) (off : Nat) xs, fldI P r fs off tot = true → fs.mapM (fun f => DataW.trod enc P w base spare held fuel f.type ((cs.drop f.offset).take (P.cellsOf f.type))) = some xs →
      ∃ l : List Int, cs.drop off = rowI l ∧ off + l.length = tot ∧ ∀ n ∈ l, In64 n
  | [], off, xs, h, _ => by
    have h' := Nat.eq_of_beq_eq_true h
    exact ⟨[], by rw [List.drop_eq_nil_of_le (by omega)]; rfl, by simp [h'], fun n hn => by cases hn⟩
  | f :: fs, off, xs, h, hm => by
    simp only [fldI, Bool.and_eq_true] at h
    obtain ⟨h1, h2, h3⟩ := h
    have h1' := Nat.eq_of_beq_eq_true h1
    rw [List.mapM_cons] at hm
    simp only [bind, Option.bind_eq_some_iff, pure, Option.some.injEq] at hm
    obtain ⟨x, hx, ys, hys, -⟩ := hm
    obtain ⟨l1, e1, n1, w1⟩ := hr _ h2 _ _ hx
    obtain ⟨l2, e2, n2, w2⟩ := fld_spec hr cs tot hl fs _ ys h3 hys
    refine ⟨l1 ++ l2, ?_, by rw [List.length_append]; omega, fun n hn => ?_⟩
    · rw [h1'] at e1
      have : cs.drop off = (cs.drop off).take (P.cellsOf f.type) ++ cs.drop (off + P.cellsOf f.type) := by rw [← List.drop_drop, List.take_append_drop]
      rw [this, e1, e2]
      simp [rowI]
    · rcases List.mem_append.1 hn with hn | hn
      · exact w1 n hn
      · exact w2 n hn
theorem arr_spec {r : TypeId → Bool} {fuel : Nat} {e : TypeId} (hr : ∀ cs x, DataW.trod enc P w base spare held fuel e cs = some x → IsI P e cs) (cs : List Value) (tot : Nat) (hl : cs.length = tot) :
    ∀ (m k : Nat) xs, (k + m) * P.cellsOf e = tot → (List.range' k m).mapM (fun i => DataW.trod enc P w base spare held fuel e ((cs.drop (i * P.cellsOf e)).take (P.cellsOf e))) = some xs →
      ∃ l : List Int, cs.drop (k * P.cellsOf e) = rowI l ∧ k * P.cellsOf e + l.length = tot ∧ ∀ n ∈ l, In64 n
  | 0, k, xs, h, _ => by
    rw [Nat.add_zero] at h
    exact ⟨[], by rw [List.drop_eq_nil_of_le (by omega)]; rfl, by simp [h], fun n hn => by cases hn⟩
  | m + 1, k, xs, h, hm => by
    rw [List.range'_succ, List.mapM_cons] at hm
    simp only [bind, Option.bind_eq_some_iff, pure, Option.some.injEq] at hm
    obtain ⟨x, hx, ys, hys, -⟩ := hm
    obtain ⟨l1, e1, n1, w1⟩ := hr _ _ hx
    obtain ⟨l2, e2, n2, w2⟩ := arr_spec (r := r) hr cs tot hl m (k + 1) ys (by rw [← h]; congr 1; omega) hys
    refine ⟨l1 ++ l2, ?_, by rw [List.length_append]; rw [Nat.add_mul] at n2; omega, fun n hn => ?_⟩
    · have : cs.drop (k * P.cellsOf e) = (cs.drop (k * P.cellsOf e)).take (P.cellsOf e) ++ cs.drop ((k + 1) * P.cellsOf e) := by
        rw [show (k + 1) * P.cellsOf e = k * P.cellsOf e + P.cellsOf e by rw [Nat.add_mul, Nat.one_mul], ← List.drop_drop, List.take_append_drop]
      rw [this, e1, e2]
      simp [rowI]
    · rcases List.mem_append.1 hn with hn | hn
      · exact w1 n hn
      · exact w2 n hn
theorem trod_allI : ∀ (d : Nat) (t : TypeId), allI P d t = true → ∀ fuel cs x, DataW.trod enc P w base spare held fuel t cs = some x → IsI P t cs
  | 0, _, h => by cases h
  | d + 1, t, h => by
    intro fuel cs x hx
    cases fuel with
    | zero => simp [DataW.trod] at hx
    | succ fuel =>
      have ih := trod_allI d
      unfold allI at h
      split at h
      · rename_i hu
        have h' := Nat.eq_of_beq_eq_true h
        match cs, hx with
        | [], hx => simp [DataW.trod, hu] at hx
        | _ :: _ :: _, hx => simp [DataW.trod, hu] at hx
        | [v], hx =>
          simp only [DataW.trod, hu] at hx
          cases v <;> simp at hx
          rename_i k n
          obtain ⟨⟨hk1, hk2⟩, -⟩ := hx
          subst hk1
          refine ⟨[n], rfl, by rw [h']; rfl, fun m hm => ?_⟩
          rw [List.mem_singleton] at hm
          subst hm
          have hm1 : IntKind.i64.min = -9223372036854775808 := by decide
          have hM1 : IntKind.i64.max = 9223372036854775807 := by decide
          simp only [Lit.wf, hm1, hM1] at hk2
          unfold In64
          simpa using hk2
      · rename_i fs hu
        simp only [DataW.trod, hu] at hx
        split at hx
        · rename_i hl
          simp only [Option.map_eq_some_iff] at hx
          obtain ⟨xs, hxs, -⟩ := hx
          obtain ⟨l, e, nl, wl⟩ := fld_spec (fun t' ht' cs' x' hx' => ih t' ht' fuel cs' x' hx') cs _ hl fs.toList 0 xs h hxs
          exact ⟨l, e, by omega, wl⟩
        · cases hx
      · rename_i m e hu
        simp only [Bool.and_eq_true] at h
        have h2 := Nat.eq_of_beq_eq_true h.2
        simp only [DataW.trod, hu] at hx
        split at hx
        · rename_i hl
          simp only [Option.map_eq_some_iff] at hx
          obtain ⟨xs, hxs, -⟩ := hx
          rw [List.range_eq_range'] at hxs
          obtain ⟨l, e', nl, wl⟩ := arr_spec (r := fun _ => true) (fun cs' x' hx' => ih e h.1 fuel cs' x' hx') cs _ hl m 0 xs (by rw [Nat.zero_add]; exact h2) hxs
          rw [Nat.zero_mul, List.drop_zero] at e'
          rw [Nat.zero_mul, Nat.zero_add] at nl
          exact ⟨l, e', nl, wl⟩
        · cases hx
      · cases h
theorem open_intI {t : TypeId} {v : Value} {n : Int} {d : DataW H} {p : List MemPlace} (k : Nat) (ht : allI P k t = true) (hv : v = .int .i64 n) (h : DataW.Trod enc P w base spare held t v d p) : In64 n := by
  obtain ⟨fuel, hf⟩ := h
  obtain ⟨l, e, nl, wl⟩ := trod_allI k t ht fuel _ _ hf
  subst hv
  cases l with
  | nil => cases e
  | cons m l =>
    have : m = n := by
      simp only [Value.cells, rowI, List.map_cons] at e
      have e1 := (List.cons.inj e).1
      simp only [Value.int.injEq] at e1
      exact e1.2.symm
    exact this ▸ wl m (List.mem_cons_self ..)
end
theorem list1 {l : List Int} (hl : l.length = 1) : ∃ a, l = [a] := by
  match l, hl with
  | [a], _ => exact ⟨a, rfl⟩
end Go.Proofs.Ytcijkniijomcjaa
/-! How an argument that is a slice of structs of ints is opened. -/
namespace Go.Proofs.Ytcijkniijomcjaa
open Go.ChangeShapes Go.WideShapes Go.ChangeAt Go.RowKit Go.Deep Go.Cpl
section
variable {H : Type} {enc : TypeId × Value → H} {P : Program} {w : World} {base : Nat} {spare : Nat → Bool} {held : Bool}
theorem open_slF {t e : TypeId} {A : Option Addr} {len cap : Nat} {d : DataW H} {p : List MemPlace} (s k : Nat) (ht : P.underlying t = some (.slice e)) (hc : P.cellsOf e = s) (hs : Nat.blt 0 s = true) (he : allI P k e = true) (h : DataW.Trod enc P w base spare held t (.slice A len cap) d p) :
    ∃ l : List Int, l.length = len * s ∧ len ≤ maxLen ∧ IReads w A l ∧ ∀ n ∈ l, In64 n := by
  obtain ⟨fuel, hf⟩ := h
  have hs' := blt_lt hs
  rcases open_slice ht hf with ⟨hcs, _⟩ | ⟨a, ln, c, m, n, D, Pl, hcs, _, hl, hm, hmm, _, hi⟩
  · simp [Value.cells] at hcs
    obtain ⟨rfl, rfl, rfl⟩ := hcs
    exact ⟨[], by simp, Nat.zero_le _, fun k hk => absurd hk (by simp), fun n hn => by cases hn⟩
  · simp [Value.cells] at hcs
    obtain ⟨rfl, rfl, rfl⟩ := hcs
    have hlm : len ≤ m := by rw [hmm]; split <;> omega
    obtain ⟨f, hf'⟩ := choose_lt (α := Int) (p := fun i b => w.cell? (a.add i) = some (.int .i64 b) ∧ In64 b) (n := len * s) (fun i hi' => by
      have hq : i / s < len := Nat.div_lt_of_lt_mul (by rw [Nat.mul_comm]; exact hi')
      have hr : i % s < s := Nat.mod_lt _ hs'
      obtain ⟨cs', h1, h2⟩ := hi (i / s) (by omega)
      obtain ⟨l, e1, nl, wl⟩ := trod_allI k e he n _ _ h2
      obtain ⟨_, _, hcell⟩ := World.cells?_some h1
      have hx := hcell (i % s) (by rw [hc]; exact hr)
      rw [Addr.add_add, hc, show i / s * s + i % s = i by rw [Nat.mul_comm]; exact Nat.div_add_mod i s] at hx
      have hrl : i % s < l.length := by rw [nl, hc]; exact hr
      refine ⟨l[i % s], ?_, wl _ (List.getElem_mem hrl)⟩
      rw [hx, e1]
      simp [rowI, hrl])
    refine ⟨(List.range (len * s)).map f, by simp, by omega, fun k hk => ⟨a, rfl, ?_⟩, fun n hn => ?_⟩
    · have hk' : k < len * s := by simpa using hk
      rw [nthI_eq hk, (hf' k hk').1]
      simp
    · simp only [List.mem_map, List.mem_range] at hn
      obtain ⟨i, hi', rfl⟩ := hn
      exact (hf' i hi').2
end
end Go.Proofs.Ytcijkniijomcjaa
/-! How an argument that is a struct with slices in it is opened. -/
namespace Go.Proofs.Ytcijkniijomcjaa
open Go.ChangeShapes Go.WideShapes Go.ChangeAt Go.RowKit Go.Deep Go.Cpl
section
variable {H : Type} {enc : TypeId × Value → H} {P : Program} {w : World} {base : Nat} {spare : Nat → Bool} {held : Bool}
/-- The fields of a struct. -/
theorem open_fld {t : TypeId} {fs : Array Field} {cs : Array Value} {d : DataW H} {p : List MemPlace} (ht : P.underlying t = some (.struct fs)) (h : DataW.Trod enc P w base spare held t (.agg cs) d p) :
    cs.size = P.cellsOf t ∧ ∃ n, ∀ (i : Nat) (f : Field), fs[i]? = some f → ∃ x, DataW.trod enc P w base spare held n f.type ((cs.toList.drop f.offset).take (P.cellsOf f.type)) = some x := by
  obtain ⟨fuel, hf⟩ := h
  have hf' : DataW.trod enc P w base spare held fuel t cs.toList = some (d, p) := hf
  obtain ⟨xs, n, _, _, hl, hlen, hx⟩ := DataW.trod_struct ht hf'
  refine ⟨by simpa using hl, n, fun i f hi => ?_⟩
  have hlt : i < fs.size := by
    rcases Nat.lt_or_ge i fs.size with q | q
    · exact q
    · rw [Array.getElem?_eq_none q] at hi; cases hi
  rw [hx i f hi, List.getElem?_eq_getElem (by omega)]
  exact ⟨_, rfl⟩
theorem open_slV {t e : TypeId} {v : Value} {n : Nat} {x : DataW H × List MemPlace} (s k : Nat) (ht : P.underlying t = some (.slice e)) (hc : P.cellsOf e = s) (hs : Nat.blt 0 s = true) (he : allI P k e = true) (h : DataW.trod enc P w base spare held n t [v] = some x) :
    ∃ A len cap, ∃ l : List Int, v = .slice A len cap ∧ l.length = len * s ∧ len ≤ maxLen ∧ IReads w A l ∧ ∀ n ∈ l, In64 n := by
  rcases open_slice ht h with ⟨hcs, _⟩ | ⟨a, ln, c, m, n', D, Pl, hcs, _⟩
  · obtain rfl : v = .slice none 0 0 := by simpa using hcs
    obtain ⟨l, q⟩ := open_slF (A := none) (len := 0) (cap := 0) s k ht hc hs he ⟨n, h⟩
    exact ⟨none, 0, 0, l, rfl, q⟩
  · obtain rfl : v = .slice (some a) ln c := by simpa using hcs
    obtain ⟨l, q⟩ := open_slF (A := some a) (len := ln) (cap := c) s k ht hc hs he ⟨n, h⟩
    exact ⟨some a, ln, c, l, rfl, q⟩
end
theorem varr4 {cs : Array Value} (h : cs.size = 4) : ∃ c0 c1 c2 c3, cs = #[c0, c1, c2, c3] := by
  match cs, h with
  | ⟨[c0, c1, c2, c3]⟩, _ => exact ⟨c0, c1, c2, c3, rfl⟩
theorem rowI1 {c : Value} {x : Int} (h : [c] = rowI [x]) : c = .int .i64 x := by simpa [rowI] using h
end Go.Proofs.Ytcijkniijomcjaa
/-! How a slice of floats in a struct is opened. -/
namespace Go.Proofs.Ytcijkniijomcjaa
open Go.ChangeShapes Go.WideShapes Go.ChangeAt Go.RowKit Go.Deep Go.Cpl
theorem open_flV {H : Type} {enc : TypeId × Value → H} {w : World} {base : Nat} {spare : Nat → Bool} {held : Bool} {v : Value} {n : Nat} {x : DataW H × List MemPlace} (h : DataW.trod enc Try.prog w base spare held n 23 [v] = some x) :
    ∃ A len cap, ∃ xs : List Nat, v = .slice A len cap ∧ xs.length = len ∧ len ≤ maxLen ∧ FReads w A xs := by
  rcases open_slice Try.underlying23 h with ⟨hcs, _⟩ | ⟨a, ln, c, m, n', D, Pl, hcs, _⟩
  · obtain rfl : v = .slice none 0 0 := by simpa using hcs
    obtain ⟨l, q⟩ := open_floats h
    exact ⟨none, 0, 0, l, rfl, q⟩
  · obtain rfl : v = .slice (some a) ln c := by simpa using hcs
    obtain ⟨l, q⟩ := open_floats h
    exact ⟨some a, ln, c, l, rfl, q⟩
end Go.Proofs.Ytcijkniijomcjaa
