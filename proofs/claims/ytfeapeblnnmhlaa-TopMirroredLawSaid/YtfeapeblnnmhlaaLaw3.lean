/- Recast and FocusLaw. -/
import Derived.Test.YtfeapeblnnmhlaaLaw2
namespace Go.Proofs.Ytfeapeblnnmhlaa
open Go.RowKit Go.Cpl Go.Ray1

set_option maxRecDepth 100000 in
set_option maxHeartbeats 400000 in
theorem focused1_s (k : Nat) (gm gs ga : Nat) (RA EA : Option Addr) (n rcap ecap : Nat) (rs : List Int) (mw md ms mt ck last : Int) (w0 : World) (bm : Blk w0 gm 3 #[.int .i64 last]) (bs : Blk w0 gs 30 #[.slice RA n rcap]) (ba : Blk w0 ga 26 #[.slice EA n ecap, .int .i64 mw, .int .i64 md, .int .i64 ms, .int .i64 mt, .int .i64 ck]) (hnr : rs.length = n * 1) (hrr : IReads w0 RA rs) (hck : 1 ≤ ck ∧ ck ≤ 1000000) (hla : 0 ≤ last ∧ last ≤ 12000000000) (hrs : ∀ i, i < n → 0 ≤ nthI rs i ∧ nthI rs i ≤ 12000000000) (hk : k < n) :
    Calls Try.prog 34 #[.int .i64 (k : Int), .pointer (some ⟨gm, 0, none⟩), .pointer (some ⟨gs, 0, none⟩), .pointer (some ⟨ga, 0, none⟩)] w0 fun e w' => e = .returned (.int .i64 (fcT rs last ck k)) ∧ Below w0.heap.size w0 w' := by
  have S0 := St.start w0
  have S0 := S0.came ba (by simp)
  have S0 := S0.came bs (by simp)
  have S0 := S0.came bm (by simp)
  have hk0 := hrs k hk
  refine enter (n := 15) Try.func34 rfl rfl rfl (fun ac A0 => ?_)
  refine wp_seq ?_
  refine wp_region_lit ?_
  refine s_one (.int .i64 0) A0 S0 (g_assign (by kernel_rfl)) rfl (fun ac A1 => ?_)
  refine wpList_nil ?_
  refine n_then ?_
  refine wp_seq ?_
  refine r_begin (w0 := w0) (by kernel_rfl) (S0.sub sub_all sub_all) (fun wc T2 B3 => ?_)
  have S4 := S0.kept B3
  refine r_take 0 (.int .i64 last) A1 T2 (g_load (g := gm) (off := 0) 0 (by kernel_rfl) rfl (by kernel_rfl)) rfl rfl rfl (pf_then pf_body) (by kernel_rfl) (fun ac A5 => ?_)
  refine r_take 1 (.slice RA n rcap) A5 T2 (g_load (g := gs) (off := 0) 1 (by kernel_rfl) rfl (by kernel_rfl)) rfl rfl rfl (pf_then pf_body) (by kernel_rfl) (fun ac A6 => ?_)
  refine r_take 2 (.int .i64 (k : Int)) A6 T2 (g_move (by kernel_rfl)) rfl rfl rfl (pf_then pf_body) (by kernel_rfl) (fun ac A7 => ?_)
  obtain ⟨ad8, rfl, _⟩ := hrr (k) (by have hlen := hnr; omega)
  refine r_take 3 (.pointer (some (ad8.add k))) A7 T2 (g_index (u := .slice (some ad8) n rcap) (k := .int .i64 (k : Int)) (by kernel_rfl) (by kernel_rfl) (ix_x (e := 3) (bytes := 8) k (by kernel_rfl) (by omega) (by omega))) rfl rfl rfl (pf_then pf_body) (by kernel_rfl) (fun ac A9 => ?_)
  refine r_take 4 (.int .i64 (nthI rs k)) A9 T2 (g_loadXI (l := rs) (k := k) (by kernel_rfl) hrr (by have hlen := hnr; omega) (by kernel_rfl)) rfl rfl rfl (pf_then pf_body) (by kernel_rfl) (fun ac A10 => ?_)
  refine r_take 5 (.int .i64 (last - (nthI rs k))) A10 T2 (g_bin (u := .int .i64 last) (k := .int .i64 (nthI rs k)) (by kernel_rfl) (by kernel_rfl) (fun _ => by kernel_rfl) (b_sub (by omega))) rfl rfl rfl (pf_then pf_body) (by kernel_rfl) (fun ac A11 => ?_)
  refine r_take 6 (.pointer (some ⟨ga, 5, none⟩)) A11 T2 (g_field (u := .pointer (some ⟨ga, 0, none⟩)) (by kernel_rfl) (fun _ => by kernel_rfl)) rfl rfl rfl (pf_then pf_body) (by kernel_rfl) (fun ac A12 => ?_)
  refine r_take 7 (.int .i64 ck) A12 T2 (g_load (g := ga) (off := 5) 2 (by kernel_rfl) rfl (by kernel_rfl)) rfl rfl rfl (pf_then pf_body) (by kernel_rfl) (fun ac A13 => ?_)
  refine r_1 (i := 8) (by kernel_rfl) ?_
  refine rs_call (fs := #[]) (cp := #[]) (r := [(0, .int .i64 (last - (nthI rs k))), (0, .int .i64 ck)]) #[.int .i64 (last - (nthI rs k)), .int .i64 ck] (.int .i64 (rnd (last - (nthI rs k)) ck)) A13 S4 sub_all sub_all (rounded_s (last - (nthI rs k)) ck _ (by omega) (by omega) (by omega) (by omega)) Try.call27 rfl rfl (by kernel_rfl) (by kernel_rfl) (by kernel_rfl) rfl (fun ac wc A14 S15 => ?_)
  have T17 := S15.sub sub_all sub_all
  refine r_take 9 (.int .i64 (rnd (last - (nthI rs k)) ck)) A14 T17 (g_assign (by kernel_rfl)) rfl rfl rfl (pf_then pf_body) (by kernel_rfl) (fun ac A18 => ?_)
  refine r_done (by kernel_rfl) ?_
  refine n_then ?_
  refine wp_ret ?_
  refine fin1 (.int .i64 (rnd (last - (nthI rs k)) ck)) Try.results34 A18 S15 (rv_tmp (by kernel_rfl)) ⟨?_, S15.kp⟩
  rfl

set_option maxRecDepth 100000 in
set_option maxHeartbeats 400000 in
theorem builtF_s (bc : Int) (n : Nat) (gm gs ga : Nat) (RA EA : Option Addr) (rcap ecap : Nat) (rs : List Int) (mw md ms mt ck last : Int) (w0 : World) (bm : Blk w0 gm 3 #[.int .i64 last]) (bs : Blk w0 gs 30 #[.slice RA n rcap]) (ba : Blk w0 ga 26 #[.slice EA n ecap, .int .i64 mw, .int .i64 md, .int .i64 ms, .int .i64 mt, .int .i64 ck]) (hnr : rs.length = n * 1) (hrr : IReads w0 RA rs) (hck : 1 ≤ ck ∧ ck ≤ 1000000) (hla : 0 ≤ last ∧ last ≤ 12000000000) (hrs : ∀ i, i < n → 0 ≤ nthI rs i ∧ nthI rs i ≤ 12000000000) (hn9 : n ≤ 1000) :
    Calls Try.prog 33 #[.int .i64 bc, .int .i64 (n : Int), .func (.func 34) #[] #[.pointer (some ⟨gm, 0, none⟩), .pointer (some ⟨gs, 0, none⟩), .pointer (some ⟨ga, 0, none⟩)]] w0 fun e w' => ∃ v, e = .returned (.tuple #[.agg #[.int .i64 (zv (feT (ovE (fcT rs last ck)) n) bc), v], .int .i64 (feT (ovE (fcT rs last ck)) n)]) ∧ Below w0.heap.size w0 w' ∧ w'.ownsRow w0.heap.size 3 1 v (bN (feT (ovE (fcT rs last ck)) n) n) (rowI (bL (feT (ovE (fcT rs last ck)) n) (tkF (fcT rs last ck) n))) := by
  have S0 := St.start w0
  have S0 := S0.came ba (by simp)
  have S0 := S0.came bs (by simp)
  have S0 := S0.came bm (by simp)
  refine enter (n := 31) Try.func33 rfl rfl rfl (fun ac A0 => ?_)
  refine wp_seq ?_
  refine wp_region_lit ?_
  refine s_alloc (#[.int .i64 0, .slice none 0 0]) A0 S0 (by kernel_rfl) rfl (fun g3 ac wc A1 S2 => ?_)
  refine s_one (.int .i64 0) A1 S2 (g_assign (by kernel_rfl)) rfl (fun ac A4 => ?_)
  refine wpList_nil ?_
  refine n_then ?_
  refine wp_seq ?_
  refine wp_region_lit ?_
  refine s_one (.int .i64 bc) A4 S2 (g_move (by kernel_rfl)) rfl (fun ac A5 => ?_)
  refine s_one (.agg #[.int .i64 bc, .slice none 0 0]) A5 S2 (g_build (r := [(0, .int .i64 bc)]) (by kernel_rfl) (fun _ => by kernel_rfl)) rfl (fun ac A6 => ?_)
  refine s_alloc (#[.int .i64 0, .slice none 0 0]) A6 S2 (by kernel_rfl) rfl (fun g9 ac wc A7 S8 => ?_)
  refine s_store (g := g9) (off := 0) (v := .agg #[.int .i64 bc, .slice none 0 0]) 0 (#[.int .i64 bc, .slice none 0 0]) A7 S8 (by kernel_rfl) (by kernel_rfl) rfl (by kernel_rfl) (fun wc S11 => ?_)
  refine wpList_nil ?_
  refine n_then ?_
  refine wp_seq ?_
  refine wp_seq ?_
  have SN0 := S11.nilRow 3 1
  refine wp_region_lit ?_
  refine s_one (.int .i64 (n : Int)) A7 SN0 (g_move (by kernel_rfl)) rfl (fun ac A13 => ?_)
  refine s_one (.int .i64 0) A13 SN0 (g_move (by kernel_rfl)) rfl (fun ac A14 => ?_)
  refine wpList_nil ?_
  refine n_then ?_
  refine wp_block ?_
  refine c_loopN (fun mm ac wc => ∃ (k : Nat) (v : Value), mm = n - k ∧ (k ≤ n) ∧ (∀ i, i < k → ovE (fcT rs last ck) i = 0) ∧ Fr 31 ac [(0, .int .i64 bc), (1, .int .i64 (n : Int)), (2, .func (.func 34) #[] #[.pointer (some ⟨gm, 0, none⟩), .pointer (some ⟨gs, 0, none⟩), .pointer (some ⟨ga, 0, none⟩)]), (6, .pointer (some ⟨g3, 0, none⟩)), (11, .int .i64 bc), (12, .agg #[.int .i64 bc, .slice none 0 0]), (8, .pointer (some ⟨g9, 0, none⟩)), (13, .int .i64 (n : Int)), (14, .int .i64 (k : Int))] ∧ St w0 [⟨g9, 32, #[.int .i64 bc, v], true⟩, ⟨g3, 32, #[.int .i64 0, .slice none 0 0], true⟩, ⟨gm, 3, #[.int .i64 last], false⟩, ⟨gs, 30, #[.slice RA n rcap], false⟩, ⟨ga, 26, #[.slice EA n ecap, .int .i64 mw, .int .i64 md, .int .i64 ms, .int .i64 mt, .int .i64 ck], false⟩] [⟨v, 3, 1, k, (rowI (tkF (fcT rs last ck) k))⟩] wc) _ ⟨0, .slice none 0 0, rfl, (by omega), (fun i hi => absurd hi (by omega)), (A14.slot (A14.slot (A14.slot (A14.slot (A14.slot (A14.slot (A14.slot (A14.slot (A14.slot A14.nil (v := .int .i64 0) (by kernel_rfl) (congrArg (Value.int .i64) (by omega))) (v := .int .i64 (n : Int)) (by kernel_rfl) rfl) (v := .pointer (some ⟨g9, 0, none⟩)) (by kernel_rfl) rfl) (v := .agg #[.int .i64 bc, .slice none 0 0]) (by kernel_rfl) rfl) (v := .int .i64 bc) (by kernel_rfl) rfl) (v := .pointer (some ⟨g3, 0, none⟩)) (by kernel_rfl) rfl) (v := .func (.func 34) #[] #[.pointer (some ⟨gm, 0, none⟩), .pointer (some ⟨gs, 0, none⟩), .pointer (some ⟨ga, 0, none⟩)]) (by kernel_rfl) rfl) (v := .int .i64 (n : Int)) (by kernel_rfl) rfl) (v := .int .i64 bc) (by kernel_rfl) rfl), (St.rerow 0 (St.recell 0 SN0 rfl (by rfl)) rfl ⟨rfl, rfl⟩).sub sub_all sub_all⟩ ?_
  rintro mm ac wc ⟨k, v, hm17, hk, ha, A15, S16⟩
  refine wp_seq ?_
  refine wp_region_lit ?_
  refine s_one (.bool (decide ((k : Int) < (n : Int)))) A15 S16 (g_bin (u := .int .i64 (k : Int)) (k := .int .i64 (n : Int)) (by kernel_rfl) (by kernel_rfl) (fun _ => by kernel_rfl) (fun _ => by kernel_rfl)) rfl (fun ac A18 => ?_)
  refine wpList_nil ?_
  refine n_then ?_
  refine wp_seq ?_
  refine c_ifb (b := (decide ((k : Int) < (n : Int)))) A18 (by kernel_rfl) (fun h19 => ?_) (fun h19 => ?_)
  · have p20 := of_decide_eq_true h19
    refine wp_skip ?_
    refine n_then ?_
    refine wp_seq ?_
    refine wp_block ?_
    refine wp_seq ?_
    refine wp_region_lit ?_
    refine s_one (.int .i64 (k : Int)) A18 S16 (g_move (by kernel_rfl)) rfl (fun ac A21 => ?_)
    refine s_one (.int .i64 (k : Int)) A21 S16 (g_assign (by kernel_rfl)) rfl (fun ac A22 => ?_)
    refine wpList_nil ?_
    refine n_then ?_
    refine wp_seq ?_
    refine wp_region_lit ?_
    refine s_one (.func (.func 34) #[] #[.pointer (some ⟨gm, 0, none⟩), .pointer (some ⟨gs, 0, none⟩), .pointer (some ⟨ga, 0, none⟩)]) A22 S16 (g_move (by kernel_rfl)) rfl (fun ac A23 => ?_)
    refine s_one (.int .i64 (k : Int)) A23 S16 (g_move (by kernel_rfl)) rfl (fun ac A24 => ?_)
    refine s_call (fs := #[]) (cp := #[.pointer (some ⟨gm, 0, none⟩), .pointer (some ⟨gs, 0, none⟩), .pointer (some ⟨ga, 0, none⟩)]) (r := [(0, .int .i64 (k : Int))]) #[.int .i64 (k : Int), .pointer (some ⟨gm, 0, none⟩), .pointer (some ⟨gs, 0, none⟩), .pointer (some ⟨ga, 0, none⟩)] (.int .i64 (fcT rs last ck k)) A24 S16 (focused1_s k gm gs ga RA EA n rcap ecap rs mw md ms mt ck last _ (S16.get 2 rfl) (S16.get 3 rfl) (S16.get 4 rfl) (by have hlen := hnr; omega) (hrr.kept S16.kp) hck hla hrs (by omega)) Try.call34 (by kernel_rfl) (by kernel_rfl) (by kernel_rfl) rfl (fun ac wc A25 S26 => ?_)
    refine s_one (.int .i64 (fcT rs last ck k)) A25 S26 (g_assign (by kernel_rfl)) rfl (fun ac A28 => ?_)
    refine wpList_nil ?_
    refine n_then ?_
    refine wp_seq ?_
    refine wp_seq ?_
    refine wp_region_lit ?_
    refine s_one (.int .i64 (fcT rs last ck k)) A28 S26 (g_move (by kernel_rfl)) rfl (fun ac A29 => ?_)
    refine s_one (.bool (decide (fcT rs last ck k > 1000000))) A29 S26 (g_bin (u := .int .i64 (fcT rs last ck k)) (k := .int .i64 1000000) (by kernel_rfl) (by kernel_rfl) (fun _ => by kernel_rfl) (fun _ => by kernel_rfl)) rfl (fun ac A30 => ?_)
    refine wpList_nil ?_
    refine n_then ?_
    refine c_ifb (b := (decide (fcT rs last ck k > 1000000))) A30 (by kernel_rfl) (fun h31 => ?_) (fun h31 => ?_)
    · have p32 := of_decide_eq_true h31
      have hz : ovE (fcT rs last ck) k = 8 := ovE_y (of_decide_eq_true h31)
      refine wp_seq ?_
      refine wp_region_lit ?_
      refine s_one (.agg #[.int .i64 0, .slice none 0 0]) A30 S26 (g_build (r := []) (by kernel_rfl) (fun _ => by kernel_rfl)) rfl (fun ac A33 => ?_)
      refine s_store (g := g3) (off := 0) (v := .agg #[.int .i64 0, .slice none 0 0]) 1 (#[.int .i64 0, .slice none 0 0]) A33 S26 (by kernel_rfl) (by kernel_rfl) rfl (by kernel_rfl) (fun wc S35 => ?_)
      refine s_one (.int .i64 8) A33 S35 (g_assign (by kernel_rfl)) rfl (fun ac A37 => ?_)
      refine wpList_nil ?_
      refine n_then ?_
      refine wp_ret ?_
      refine r_then ?_
      refine r_block ?_
      refine r_then ?_
      refine r_then ?_
      refine r_block ?_
      refine r_then ?_
      have S38 := S35.nilRow 3 1
      refine fin2 (.agg #[.int .i64 0, .slice none 0 0]) (.int .i64 8) Try.results33 A37 S38 (rv_cell (g := g3) (off := 0) 1 (by kernel_rfl) rfl (by kernel_rfl)) (rv_tmp (by kernel_rfl)) ?_
      have bw := S38.kp
      have ow := S38.row 0 rfl
      have er : (feT (ovE (fcT rs last ck)) n) = 8 := (feT_at ha (by rw [hz]; decide) (by omega)).1.trans hz
      rw [zv_n (by rw [er]; decide), (b_n (by rw [er]; decide) n (tkF (fcT rs last ck) n)).1, (b_n (by rw [er]; decide) n (tkF (fcT rs last ck) n)).2, er]
      exact ⟨_, rfl, bw, ow⟩
    · have p39 := of_decide_eq_false h31
      have hz : ovE (fcT rs last ck) k = 0 := ovE_n (of_decide_eq_false h31)
      refine wp_skip ?_
      refine n_then ?_
      refine wp_region_lit ?_
      refine s_one (.pointer (some ⟨g9, 1, none⟩)) A30 S26 (g_field (u := .pointer (some ⟨g9, 0, none⟩)) (by kernel_rfl) (fun _ => by kernel_rfl)) rfl (fun ac A40 => ?_)
      refine s_one (v) A40 S26 (g_load (g := g9) (off := 1) 0 (by kernel_rfl) rfl (by kernel_rfl)) rfl (fun ac A41 => ?_)
      refine s_one (.int .i64 (fcT rs last ck k)) A41 S26 (g_move (by kernel_rfl)) rfl (fun ac A42 => ?_)
      refine s_bs (e := 3) (r := [(0, .int .i64 (fcT rs last ck k))]) (#[.int .i64 (fcT rs last ck k)]) A42 S26 (by kernel_rfl) (by kernel_rfl) rfl (fun g45 ac wc A43 S44 => ?_)
      refine s_append (e := 3) (size := 1) (bytes := 8) (v := v) (g := g45) (m' := 1) (c := 1) 0 0 [.int .i64 (fcT rs last ck k)] A43 S44 (by kernel_rfl) (by kernel_rfl) (by kernel_rfl) rfl rfl (by kernel_rfl) rfl (by kernel_rfl) (by omega) (by omega) rfl (fun v49 ac wc A46 S47 => ?_)
      refine s_one (.pointer (some ⟨g9, 1, none⟩)) A46 S47 (g_field (u := .pointer (some ⟨g9, 0, none⟩)) (by kernel_rfl) (fun _ => by kernel_rfl)) rfl (fun ac A50 => ?_)
      obtain ⟨A51, cap52, rfl⟩ := row_slice (v := v49) (m := k + 1) (S47.row 0 rfl)
      refine s_store (g := g9) (off := 1) (v := .slice A51 (k + 1) cap52) 1 (#[.int .i64 bc, .slice A51 (k + 1) cap52]) A50 S47 (by kernel_rfl) (by kernel_rfl) rfl (by kernel_rfl) (fun wc S54 => ?_)
      refine wpList_nil ?_
      refine n_block ?_
      refine n_then ?_
      refine wp_region_lit ?_
      refine s_one (.int .i64 ((k : Int) + 1)) A50 S54 (g_bin (u := .int .i64 (k : Int)) (k := .int .i64 1) (by kernel_rfl) (by kernel_rfl) (fun _ => by kernel_rfl) (b_add (by omega))) rfl (fun ac A56 => ?_)
      refine s_one (.int .i64 ((k : Int) + 1)) A56 S54 (g_move (by kernel_rfl)) rfl (fun ac A57 => ?_)
      refine wpList_nil ?_
      refine n_then ?_
      refine ⟨_, ⟨k + 1, (.slice A51 (k + 1) cap52), rfl, (by omega), (all_step ha hz), (A57.slot (A57.slot (A57.slot (A57.slot (A57.slot (A57.slot (A57.slot (A57.slot (A57.slot A57.nil (v := .int .i64 ((k : Int) + 1)) (by kernel_rfl) (congrArg (Value.int .i64) (by omega))) (v := .int .i64 (n : Int)) (by kernel_rfl) rfl) (v := .pointer (some ⟨g9, 0, none⟩)) (by kernel_rfl) rfl) (v := .agg #[.int .i64 bc, .slice none 0 0]) (by kernel_rfl) rfl) (v := .int .i64 bc) (by kernel_rfl) rfl) (v := .pointer (some ⟨g3, 0, none⟩)) (by kernel_rfl) rfl) (v := .func (.func 34) #[] #[.pointer (some ⟨gm, 0, none⟩), .pointer (some ⟨gs, 0, none⟩), .pointer (some ⟨ga, 0, none⟩)]) (by kernel_rfl) rfl) (v := .int .i64 (n : Int)) (by kernel_rfl) rfl) (v := .int .i64 bc) (by kernel_rfl) rfl), (St.rerow 0 (St.recell 1 S54 rfl (by rfl)) rfl ⟨rfl, tkF_snoc (fcT rs last ck) k⟩).sub (sub_skip sub_all) sub_all⟩, ?_⟩
      omega
  · have p58 := of_decide_eq_false h19
    refine wp_exit ?_
    refine x_then ?_
    refine x_then ?_
    refine x_hit ?_
    refine n_then ?_
    refine wp_seq ?_
    refine wp_region_lit ?_
    refine s_one (.agg #[.int .i64 bc, v]) A18 S16 (g_load (g := g9) (off := 0) 0 (by kernel_rfl) rfl (by kernel_rfl)) rfl (fun ac A59 => ?_)
    obtain ⟨A60, cap61, rfl⟩ := row_slice (v := v) (m := k) (S16.row 0 rfl)
    refine s_store (g := g3) (off := 0) (v := .agg #[.int .i64 bc, .slice A60 k cap61]) 1 (#[.int .i64 bc, .slice A60 k cap61]) A59 S16 (by kernel_rfl) (by kernel_rfl) rfl (by kernel_rfl) (fun wc S63 => ?_)
    refine s_one (.int .i64 0) A59 S63 (g_assign (by kernel_rfl)) rfl (fun ac A65 => ?_)
    refine wpList_nil ?_
    refine n_then ?_
    refine wp_ret ?_
    refine fin2 (.agg #[.int .i64 bc, .slice A60 k cap61]) (.int .i64 0) Try.results33 A65 S63 (rv_cell (g := g3) (off := 0) 1 (by kernel_rfl) rfl (by kernel_rfl)) (rv_tmp (by kernel_rfl)) ?_
    have bw := S63.kp
    have ow := S63.row 0 rfl
    have hke : k = n := by omega
    rw [hke] at ow ha ⊢
    have er : (feT (ovE (fcT rs last ck)) n) = 0 := (feT_0 ha).1
    rw [zv_0 er, (b_0 er n (tkF (fcT rs last ck) n)).1, (b_0 er n (tkF (fcT rs last ck) n)).2, er]
    exact ⟨_, rfl, bw, ow⟩

set_option maxRecDepth 100000 in
set_option maxHeartbeats 400000 in
theorem changed_s (gp gq : Nat) (TA : Option Addr) (m tcap : Nat) (tl : List Int) (lc clk : Int) (w0 : World) (b2 : Blk w0 gp 32 #[.int .i64 lc, .slice TA m tcap]) (b3 : Blk w0 gq 3 #[.int .i64 clk]) (hnt : tl.length = m * 1) (hrt : IReads w0 TA tl) (hc1 : 1 ≤ lc ∧ lc ≤ 1000000) (hc2 : 1 ≤ clk ∧ clk ≤ 1000000) (htk : ∀ i, i < m → tkE tl i = 0) (hm1 : m ≤ 1000) :
    Calls Try.prog 25 #[.agg #[.int .i64 lc, .slice TA m tcap], .int .i64 clk, .func (.func 26) #[] #[.pointer (some ⟨gp, 0, none⟩), .pointer (some ⟨gq, 0, none⟩)]] w0 fun e w' => ∃ v, e = .returned (.tuple #[.agg #[.int .i64 (zv (feT (ovE (rcT tl lc clk)) m) clk), v], .int .i64 (feT (ovE (rcT tl lc clk)) m)]) ∧ Below w0.heap.size w0 w' ∧ w'.ownsRow w0.heap.size 3 1 v (bN (feT (ovE (rcT tl lc clk)) m) m) (rowI (bL (feT (ovE (rcT tl lc clk)) m) (tkF (rcT tl lc clk) m))) := by
  have S0 := St.start w0
  have S0 := S0.came b3 (by simp)
  have S0 := S0.came b2 (by simp)
  refine enter (n := 16) Try.func25 rfl rfl rfl (fun ac A0 => ?_)
  refine wp_seq ?_
  refine wp_region_lit ?_
  refine s_box (.agg #[.int .i64 lc, .slice TA m tcap]) A0 S0 (by kernel_rfl) rfl (fun g3 ac wc A1 S2 => ?_)
  replace S2 : St _ (⟨g3, 32, #[.int .i64 lc, .slice TA m tcap], true⟩ :: _) _ _ := S2
  refine s_box (.func (.func 26) #[] #[.pointer (some ⟨gp, 0, none⟩), .pointer (some ⟨gq, 0, none⟩)]) A1 S2 (by kernel_rfl) rfl (fun g7 ac wc A5 S6 => ?_)
  replace S6 : St _ (⟨g7, 65, #[.func (.func 26) #[] #[.pointer (some ⟨gp, 0, none⟩), .pointer (some ⟨gq, 0, none⟩)]], true⟩ :: _) _ _ := S6
  refine s_alloc (#[.int .i64 0, .slice none 0 0]) A5 S6 (by kernel_rfl) rfl (fun g11 ac wc A9 S10 => ?_)
  refine s_one (.int .i64 0) A9 S10 (g_assign (by kernel_rfl)) rfl (fun ac A12 => ?_)
  refine wpList_nil ?_
  refine n_then ?_
  refine wp_seq ?_
  refine wp_region_lit ?_
  refine s_one (.int .i64 clk) A12 S10 (g_move (by kernel_rfl)) rfl (fun ac A13 => ?_)
  refine s_one (.pointer (some ⟨g3, 1, none⟩)) A13 S10 (g_field (u := .pointer (some ⟨g3, 0, none⟩)) (by kernel_rfl) (fun _ => by kernel_rfl)) rfl (fun ac A14 => ?_)
  refine s_one (.slice TA m tcap) A14 S10 (g_load (g := g3) (off := 1) 2 (by kernel_rfl) rfl (by kernel_rfl)) rfl (fun ac A15 => ?_)
  refine s_one (.int .i64 (m : Int)) A15 S10 (g_built (r := [(0, .slice TA m tcap)]) (by kernel_rfl) (fun _ _ _ => by kernel_rfl)) rfl (fun ac A16 => ?_)
  refine s_one (.func (.func 39) #[] #[.pointer (some ⟨g3, 0, none⟩), .pointer (some ⟨g7, 0, none⟩)]) A16 S10 (g_func (us := []) (vs := [(0, .pointer (some ⟨g3, 0, none⟩)), (0, .pointer (some ⟨g7, 0, none⟩))]) (by kernel_rfl) (by kernel_rfl) (fun _ => by kernel_rfl)) rfl (fun ac A17 => ?_)
  refine s_callRF (fs := #[]) (cp := #[]) (r := [(0, .int .i64 clk), (0, .int .i64 (m : Int)), (0, .func (.func 39) #[] #[.pointer (some ⟨g3, 0, none⟩), .pointer (some ⟨g7, 0, none⟩)])]) (fun v => .tuple #[.agg #[.int .i64 (zv (feT (ovE (rcT tl lc clk)) m) clk), v], .int .i64 (feT (ovE (rcT tl lc clk)) m)]) #[.int .i64 clk, .int .i64 (m : Int), .func (.func 39) #[] #[.pointer (some ⟨g3, 0, none⟩), .pointer (some ⟨g7, 0, none⟩)]] A17 S10 (builtC_s clk m g3 g7 gp gq TA m tcap tl lc clk _ (S10.get 2 rfl) (S10.get 1 rfl) (S10.get 3 rfl) (S10.get 4 rfl) (by have hlen := hnt; omega) (hrt.kept S10.kp) (by omega) (by omega) htk (by omega) (by omega)) Try.call33 (by kernel_rfl) (by kernel_rfl) (by kernel_rfl) rfl (fun v21 ac wc A18 S19 => ?_)
  obtain ⟨hl22, A23, cap24, rfl, hr25⟩ := rowI_reads2 (v := v21) (size := 1) (m := (bN (feT (ovE (rcT tl lc clk)) m) m)) (l := bL (feT (ovE (rcT tl lc clk)) m) (tkF (rcT tl lc clk) m)) (S19.row 0 rfl)
  refine s_one (.agg #[.int .i64 (zv (feT (ovE (rcT tl lc clk)) m) clk), .slice A23 (bN (feT (ovE (rcT tl lc clk)) m) m) cap24]) A18 S19 (g_extract (u := .tuple #[.agg #[.int .i64 (zv (feT (ovE (rcT tl lc clk)) m) clk), .slice A23 (bN (feT (ovE (rcT tl lc clk)) m) m) cap24], .int .i64 (feT (ovE (rcT tl lc clk)) m)]) (by kernel_rfl) (fun _ => by kernel_rfl)) rfl (fun ac A26 => ?_)
  refine s_one (.int .i64 (feT (ovE (rcT tl lc clk)) m)) A26 S19 (g_extract (u := .tuple #[.agg #[.int .i64 (zv (feT (ovE (rcT tl lc clk)) m) clk), .slice A23 (bN (feT (ovE (rcT tl lc clk)) m) m) cap24], .int .i64 (feT (ovE (rcT tl lc clk)) m)]) (by kernel_rfl) (fun _ => by kernel_rfl)) rfl (fun ac A27 => ?_)
  refine s_store (g := g11) (off := 0) (v := .agg #[.int .i64 (zv (feT (ovE (rcT tl lc clk)) m) clk), .slice A23 (bN (feT (ovE (rcT tl lc clk)) m) m) cap24]) 0 (#[.int .i64 (zv (feT (ovE (rcT tl lc clk)) m) clk), .slice A23 (bN (feT (ovE (rcT tl lc clk)) m) m) cap24]) A27 S19 (by kernel_rfl) (by kernel_rfl) rfl (by kernel_rfl) (fun wc S29 => ?_)
  refine s_one (.int .i64 (feT (ovE (rcT tl lc clk)) m)) A27 S29 (g_assign (by kernel_rfl)) rfl (fun ac A31 => ?_)
  refine wpList_nil ?_
  refine n_then ?_
  refine wp_ret ?_
  refine fin2 (.agg #[.int .i64 (zv (feT (ovE (rcT tl lc clk)) m) clk), .slice A23 (bN (feT (ovE (rcT tl lc clk)) m) m) cap24]) (.int .i64 (feT (ovE (rcT tl lc clk)) m)) Try.results25 A31 S29 (rv_cell (g := g11) (off := 0) 0 (by kernel_rfl) rfl (by kernel_rfl)) (rv_tmp (by kernel_rfl)) ?_
  have bw := S29.kp
  have ow := S29.row 0 rfl
  exact ⟨_, rfl, bw, ow⟩

def rcE (tl : List Int) (m : Nat) (lc clk : Int) : Int := if firstOf [lwE tl m lc, clk_a_r clk] = 0 then feT (ovE (rcT tl lc clk)) m else firstOf [lwE tl m lc, clk_a_r clk]
theorem rcE_n {tl : List Int} {m : Nat} {lc clk : Int} (h : firstOf [lwE tl m lc, clk_a_r clk] ≠ 0) : rcE tl m lc clk = firstOf [lwE tl m lc, clk_a_r clk] := if_neg h
theorem rcE_y {tl : List Int} {m : Nat} {lc clk : Int} (h : firstOf [lwE tl m lc, clk_a_r clk] = 0) : rcE tl m lc clk = feT (ovE (rcT tl lc clk)) m := if_pos h

set_option maxRecDepth 100000 in
set_option maxHeartbeats 400000 in
theorem Recast_s (TA : Option Addr) (m tcap : Nat) (tl : List Int) (lc : Int) (clk : Int) (w0 : World) (hnt : tl.length = m * 1) (hrt : IReads w0 TA tl) (hm1 : m ≤ 1000) :
    Calls Try.prog 11 #[.agg #[.int .i64 lc, .slice TA m tcap], .int .i64 clk] w0 fun e w' => ∃ v, e = .returned (.tuple #[.agg #[.int .i64 (zv (rcE tl m lc clk) clk), v], .int .i64 (rcE tl m lc clk)]) ∧ Below w0.heap.size w0 w' ∧ w'.ownsRow w0.heap.size 3 1 v (bN (rcE tl m lc clk) m) (rowI (bL (rcE tl m lc clk) (tkF (rcT tl lc clk) m))) := by
  have S0 := St.start w0
  refine enter (n := 23) Try.func11 rfl rfl rfl (fun ac A0 => ?_)
  refine wp_seq ?_
  refine wp_region_lit ?_
  refine s_box (.agg #[.int .i64 lc, .slice TA m tcap]) A0 S0 (by kernel_rfl) rfl (fun g3 ac wc A1 S2 => ?_)
  replace S2 : St _ (⟨g3, 32, #[.int .i64 lc, .slice TA m tcap], true⟩ :: _) _ _ := S2
  refine s_box (.int .i64 clk) A1 S2 (by kernel_rfl) rfl (fun g7 ac wc A5 S6 => ?_)
  replace S6 : St _ (⟨g7, 3, #[.int .i64 clk], true⟩ :: _) _ _ := S6
  refine s_alloc (#[.int .i64 0, .slice none 0 0]) A5 S6 (by kernel_rfl) rfl (fun g11 ac wc A9 S10 => ?_)
  refine s_one (.int .i64 0) A9 S10 (g_assign (by kernel_rfl)) rfl (fun ac A12 => ?_)
  refine wpList_nil ?_
  refine n_then ?_
  refine wp_seq ?_
  refine wp_seq ?_
  refine r_begin (w0 := w0) (by kernel_rfl) (S10.sub sub_all sub_all) (fun wc T13 B14 => ?_)
  have S15 := S10.kept B14
  refine r_take 0 (.agg #[.int .i64 lc, .slice TA m tcap]) A12 T13 (g_load (g := g3) (off := 0) 2 (by kernel_rfl) rfl (by kernel_rfl)) rfl rfl rfl (pf_then (pf_then pf_body)) (by kernel_rfl) (fun ac A16 => ?_)
  refine r_take 2 (.int .i64 clk) A16 T13 (g_load (g := g7) (off := 0) 1 (by kernel_rfl) rfl (by kernel_rfl)) rfl rfl rfl (pf_then (pf_then pf_body)) (by kernel_rfl) (fun ac A17 => ?_)
  refine r_1 (i := 1) (by kernel_rfl) ?_
  refine rs_call (fs := #[]) (cp := #[]) (r := [(0, .agg #[.int .i64 lc, .slice TA m tcap])]) #[.agg #[.int .i64 lc, .slice TA m tcap]] (.int .i64 (lwE tl m lc)) A17 S15 sub_all sub_all (lawErr_s TA m tcap tl lc _ (by have hlen := hnt; omega) (hrt.kept S15.kp) (by omega)) Try.call23 rfl rfl (by kernel_rfl) (by kernel_rfl) (by kernel_rfl) rfl (fun ac wc A18 S19 => ?_)
  have T21 := S19.sub sub_all sub_all
  refine r_1 (i := 3) (by kernel_rfl) ?_
  refine rs_call (fs := #[]) (cp := #[]) (r := [(0, .int .i64 clk)]) #[.int .i64 clk] (.int .i64 (clk_a_r clk)) A18 S19 sub_all sub_all (clk_a clk _) Try.call24 rfl rfl (by kernel_rfl) (by kernel_rfl) (by kernel_rfl) rfl (fun ac wc A22 S23 => ?_)
  have T25 := S23.sub sub_all sub_all
  refine r_1 (i := 4) (by kernel_rfl) ?_
  refine rs_bs (e := 33) (r := [(0, .int .i64 (lwE tl m lc)), (1, .int .i64 (clk_a_r clk))]) (#[.int .i64 (lwE tl m lc), .int .i64 (clk_a_r clk)]) A22 S23 sub_all sub_all (by kernel_rfl) (by kernel_rfl) rfl rfl rfl (fun g28 ac wc A26 S27 => ?_)
  have T29 := S27.sub (sub_skip sub_all) sub_all
  refine r_1 (i := 5) (by kernel_rfl) ?_
  refine rs_call (fs := #[]) (cp := #[]) (r := [(0, .slice (some ⟨g28, 0, none⟩) 2 2)]) #[.slice (some ⟨g28, 0, none⟩) 2 2] (.int .i64 (firstOf [lwE tl m lc, (clk_a_r clk)])) A26 S27 (sub_skip sub_all) sub_all (lfirst_s g28 ([lwE tl m lc, (clk_a_r clk)]) 2 2 _ (S27.get 0 rfl) rfl (by omega)) Try.call22 rfl rfl (by kernel_rfl) (by kernel_rfl) (by kernel_rfl) rfl (fun ac wc A30 S31 => ?_)
  have T33 := S31.sub (sub_skip sub_all) sub_all
  refine r_take 6 (.int .i64 (firstOf [lwE tl m lc, (clk_a_r clk)])) A30 T33 (g_assign (by kernel_rfl)) rfl rfl rfl (pf_then (pf_then pf_body)) (by kernel_rfl) (fun ac A34 => ?_)
  refine r_done (by kernel_rfl) ?_
  refine n_then ?_
  refine wp_seq ?_
  refine wp_region_lit ?_
  refine s_one (.int .i64 (firstOf [lwE tl m lc, (clk_a_r clk)])) A34 S31 (g_move (by kernel_rfl)) rfl (fun ac A35 => ?_)
  refine s_one (.bool (decide (firstOf [lwE tl m lc, (clk_a_r clk)] ≠ 0))) A35 S31 (g_bin (u := .int .i64 (firstOf [lwE tl m lc, (clk_a_r clk)])) (k := .int .i64 0) (by kernel_rfl) (by kernel_rfl) (fun _ => by kernel_rfl) b_neq) rfl (fun ac A36 => ?_)
  refine wpList_nil ?_
  refine n_then ?_
  refine c_ifb (b := (decide (firstOf [lwE tl m lc, (clk_a_r clk)] ≠ 0))) A36 (by kernel_rfl) (fun h37 => ?_) (fun h37 => ?_)
  · have p38 := of_decide_eq_true h37
    have er : rcE tl m lc clk = _ := rcE_n (of_decide_eq_true h37)
    have zn : rcE tl m lc clk ≠ 0 := er ▸ of_decide_eq_true h37
    refine wp_seq ?_
    refine wp_region_lit ?_
    refine s_one (.agg #[.int .i64 0, .slice none 0 0]) A36 S31 (g_build (r := []) (by kernel_rfl) (fun _ => by kernel_rfl)) rfl (fun ac A39 => ?_)
    refine s_one (.int .i64 (firstOf [lwE tl m lc, (clk_a_r clk)])) A39 S31 (g_move (by kernel_rfl)) rfl (fun ac A40 => ?_)
    refine s_store (g := g11) (off := 0) (v := .agg #[.int .i64 0, .slice none 0 0]) 1 (#[.int .i64 0, .slice none 0 0]) A40 S31 (by kernel_rfl) (by kernel_rfl) rfl (by kernel_rfl) (fun wc S42 => ?_)
    refine s_one (.int .i64 (firstOf [lwE tl m lc, (clk_a_r clk)])) A40 S42 (g_assign (by kernel_rfl)) rfl (fun ac A44 => ?_)
    refine wpList_nil ?_
    refine n_then ?_
    refine wp_ret ?_
    refine r_then ?_
    have S45 := S42.nilRow 3 1
    refine fin2 (.agg #[.int .i64 0, .slice none 0 0]) (.int .i64 (firstOf [lwE tl m lc, (clk_a_r clk)])) Try.results11 A44 S45 (rv_cell (g := g11) (off := 0) 1 (by kernel_rfl) rfl (by kernel_rfl)) (rv_tmp (by kernel_rfl)) ?_
    have bw := S45.kp
    have ow := S45.row 0 rfl
    rw [zv_n zn, (b_n zn m (tkF (rcT tl lc clk) m)).1, (b_n zn m (tkF (rcT tl lc clk) m)).2, er]
    exact ⟨_, rfl, bw, ow⟩
  · have p46 := of_decide_eq_false h37
    have z0 : firstOf [lwE tl m lc, (clk_a_r clk)] = 0 := by simpa using h37
    have er : rcE tl m lc clk = _ := rcE_y z0
    have z1 := fo_zero z0
    have l0 := lw_0 z1.1
    have htk := l0.2.1
    have hc2 := clk_0 ((fo_last _).symm.trans z1.2)
    refine wp_skip ?_
    refine n_then ?_
    refine wp_seq ?_
    refine wp_region_lit ?_
    refine s_one (.agg #[.int .i64 lc, .slice TA m tcap]) A36 S31 (g_load (g := g3) (off := 0) 3 (by kernel_rfl) rfl (by kernel_rfl)) rfl (fun ac A47 => ?_)
    refine s_one (.int .i64 clk) A47 S31 (g_load (g := g7) (off := 0) 2 (by kernel_rfl) rfl (by kernel_rfl)) rfl (fun ac A48 => ?_)
    refine s_one (.func (.func 26) #[] #[.pointer (some ⟨g3, 0, none⟩), .pointer (some ⟨g7, 0, none⟩)]) A48 S31 (g_func (us := []) (vs := [(0, .pointer (some ⟨g3, 0, none⟩)), (0, .pointer (some ⟨g7, 0, none⟩))]) (by kernel_rfl) (by kernel_rfl) (fun _ => by kernel_rfl)) rfl (fun ac A49 => ?_)
    refine s_callRF (fs := #[]) (cp := #[]) (r := [(0, .agg #[.int .i64 lc, .slice TA m tcap]), (0, .int .i64 clk), (0, .func (.func 26) #[] #[.pointer (some ⟨g3, 0, none⟩), .pointer (some ⟨g7, 0, none⟩)])]) (fun v => .tuple #[.agg #[.int .i64 (zv (feT (ovE (rcT tl lc clk)) m) clk), v], .int .i64 (feT (ovE (rcT tl lc clk)) m)]) #[.agg #[.int .i64 lc, .slice TA m tcap], .int .i64 clk, .func (.func 26) #[] #[.pointer (some ⟨g3, 0, none⟩), .pointer (some ⟨g7, 0, none⟩)]] A49 S31 (changed_s g3 g7 TA m tcap tl lc clk _ (S31.get 3 rfl) (S31.get 2 rfl) (by have hlen := hnt; omega) (hrt.kept S31.kp) (by omega) (by omega) htk (by omega)) Try.call25 (by kernel_rfl) (by kernel_rfl) (by kernel_rfl) rfl (fun v53 ac wc A50 S51 => ?_)
    obtain ⟨hl54, A55, cap56, rfl, hr57⟩ := rowI_reads2 (v := v53) (size := 1) (m := (bN (feT (ovE (rcT tl lc clk)) m) m)) (l := bL (feT (ovE (rcT tl lc clk)) m) (tkF (rcT tl lc clk) m)) (S51.row 0 rfl)
    refine s_one (.agg #[.int .i64 (zv (feT (ovE (rcT tl lc clk)) m) clk), .slice A55 (bN (feT (ovE (rcT tl lc clk)) m) m) cap56]) A50 S51 (g_extract (u := .tuple #[.agg #[.int .i64 (zv (feT (ovE (rcT tl lc clk)) m) clk), .slice A55 (bN (feT (ovE (rcT tl lc clk)) m) m) cap56], .int .i64 (feT (ovE (rcT tl lc clk)) m)]) (by kernel_rfl) (fun _ => by kernel_rfl)) rfl (fun ac A58 => ?_)
    refine s_one (.int .i64 (feT (ovE (rcT tl lc clk)) m)) A58 S51 (g_extract (u := .tuple #[.agg #[.int .i64 (zv (feT (ovE (rcT tl lc clk)) m) clk), .slice A55 (bN (feT (ovE (rcT tl lc clk)) m) m) cap56], .int .i64 (feT (ovE (rcT tl lc clk)) m)]) (by kernel_rfl) (fun _ => by kernel_rfl)) rfl (fun ac A59 => ?_)
    refine s_store (g := g11) (off := 0) (v := .agg #[.int .i64 (zv (feT (ovE (rcT tl lc clk)) m) clk), .slice A55 (bN (feT (ovE (rcT tl lc clk)) m) m) cap56]) 1 (#[.int .i64 (zv (feT (ovE (rcT tl lc clk)) m) clk), .slice A55 (bN (feT (ovE (rcT tl lc clk)) m) m) cap56]) A59 S51 (by kernel_rfl) (by kernel_rfl) rfl (by kernel_rfl) (fun wc S61 => ?_)
    refine s_one (.int .i64 (feT (ovE (rcT tl lc clk)) m)) A59 S61 (g_assign (by kernel_rfl)) rfl (fun ac A63 => ?_)
    refine wpList_nil ?_
    refine n_then ?_
    refine wp_ret ?_
    refine fin2 (.agg #[.int .i64 (zv (feT (ovE (rcT tl lc clk)) m) clk), .slice A55 (bN (feT (ovE (rcT tl lc clk)) m) m) cap56]) (.int .i64 (feT (ovE (rcT tl lc clk)) m)) Try.results11 A63 S61 (rv_cell (g := g11) (off := 0) 1 (by kernel_rfl) rfl (by kernel_rfl)) (rv_tmp (by kernel_rfl)) ?_
    have bw := S61.kp
    have ow := S61.row 0 rfl
    rw [er]
    exact ⟨_, rfl, bw, ow⟩

/-- The rounded time from an element. -/
def tmR (el : List Int) (mw md ms mt tx tz : Int) (k : Nat) : Int := (zv (opE mw md ms mt (nthI el (k * 2)) (nthI el (k * 2 + 1)) tx tz) (leLo (wyC mw md ms mt (nthI el (k * 2)) (nthI el (k * 2 + 1)) tx tz)) + zv (opE mw md ms mt (nthI el (k * 2)) (nthI el (k * 2 + 1)) tx tz) (mHi (wyC mw md ms mt (nthI el (k * 2)) (nthI el (k * 2 + 1)) tx tz))) / 2
theorem tmR_bd (el : List Int) (mw md ms mt tx tz : Int) (k : Nat) : 0 ≤ tmR el mw md ms mt tx tz k ∧ tmR el mw md ms mt tx tz k ≤ 12000000000 := by
  have := lt_bd mw md ms mt (nthI el (k * 2)) (nthI el (k * 2 + 1)) tx tz
  unfold tmR
  omega
theorem rs_bd (el : List Int) (mw md ms mt tx tz : Int) (n : Nat) : ∀ i, i < n → 0 ≤ nthI (tkF (tmR el mw md ms mt tx tz) n) i ∧ nthI (tkF (tmR el mw md ms mt tx tz) n) i ≤ 12000000000 := by
  intro i hi
  rw [tkF_nth _ n i hi]
  exact tmR_bd el mw md ms mt tx tz i
def lastOf (el : List Int) (mw md ms mt tx tz : Int) (n : Nat) : Int := mxL (tkF (tmR el mw md ms mt tx tz) n) (n - 1)
theorem last_bd (el : List Int) (mw md ms mt tx tz : Int) {n : Nat} (hn : 1 ≤ n) : 0 ≤ mxL (tkF (tmR el mw md ms mt tx tz) n) (n - 1) ∧ mxL (tkF (tmR el mw md ms mt tx tz) n) (n - 1) ≤ 12000000000 := by
  have b := rs_bd el mw md ms mt tx tz n
  refine ⟨?_, mxL_le _ fun i hi => (b i (by omega)).2⟩
  have := mxL_ge (tkF (tmR el mw md ms mt tx tz) n) (n - 1) 0 (by omega)
  have := (b 0 (by omega)).1
  omega

set_option maxRecDepth 100000 in
set_option maxHeartbeats 400000 in
theorem focused_s (EA : Option Addr) (n ecap : Nat) (el : List Int) (mw md ms mt ck : Int) (tx tz : Int) (w0 : World) (hne : el.length = n * 2) (hre : IReads w0 EA el) (hn1 : n ≤ 1000) (har : arE el n mw md ms mt ck = 0) (hpl : plE mt tx tz = 0) :
    Calls Try.prog 16 #[.agg #[.slice EA n ecap, .int .i64 mw, .int .i64 md, .int .i64 ms, .int .i64 mt, .int .i64 ck], .agg #[.int .i64 tx, .int .i64 tz]] w0 fun e w' => ∃ v, e = .returned (.tuple #[.agg #[.int .i64 (zv (feT (ovE (fcT (tkF (tmR el mw md ms mt tx tz) n) (mxL (tkF (tmR el mw md ms mt tx tz) n) (n - 1)) ck)) n) ck), v], .int .i64 (feT (ovE (fcT (tkF (tmR el mw md ms mt tx tz) n) (mxL (tkF (tmR el mw md ms mt tx tz) n) (n - 1)) ck)) n)]) ∧ Below w0.heap.size w0 w' ∧ w'.ownsRow w0.heap.size 3 1 v (bN (feT (ovE (fcT (tkF (tmR el mw md ms mt tx tz) n) (mxL (tkF (tmR el mw md ms mt tx tz) n) (n - 1)) ck)) n) n) (rowI (bL (feT (ovE (fcT (tkF (tmR el mw md ms mt tx tz) n) (mxL (tkF (tmR el mw md ms mt tx tz) n) (n - 1)) ck)) n) (tkF (fcT (tkF (tmR el mw md ms mt tx tz) n) (mxL (tkF (tmR el mw md ms mt tx tz) n) (n - 1)) ck) n))) := by
  have S0 := St.start w0
  have h0 := ar_0 har
  refine enter (n := 46) Try.func16 rfl rfl rfl (fun ac A0 => ?_)
  refine wp_seq ?_
  refine wp_region_lit ?_
  refine s_box (.agg #[.slice EA n ecap, .int .i64 mw, .int .i64 md, .int .i64 ms, .int .i64 mt, .int .i64 ck]) A0 S0 (by kernel_rfl) rfl (fun g3 ac wc A1 S2 => ?_)
  replace S2 : St _ (⟨g3, 26, #[.slice EA n ecap, .int .i64 mw, .int .i64 md, .int .i64 ms, .int .i64 mt, .int .i64 ck], true⟩ :: _) _ _ := S2
  refine s_box (.agg #[.int .i64 tx, .int .i64 tz]) A1 S2 (by kernel_rfl) rfl (fun g7 ac wc A5 S6 => ?_)
  replace S6 : St _ (⟨g7, 28, #[.int .i64 tx, .int .i64 tz], true⟩ :: _) _ _ := S6
  refine s_alloc (#[.int .i64 0, .slice none 0 0]) A5 S6 (by kernel_rfl) rfl (fun g11 ac wc A9 S10 => ?_)
  refine s_one (.int .i64 0) A9 S10 (g_assign (by kernel_rfl)) rfl (fun ac A12 => ?_)
  refine wpList_nil ?_
  refine n_then ?_
  refine wp_seq ?_
  refine wp_region_lit ?_
  refine s_alloc (#[.slice none 0 0]) A12 S10 (by kernel_rfl) rfl (fun g15 ac wc A13 S14 => ?_)
  refine wpList_nil ?_
  refine n_then ?_
  refine wp_seq ?_
  refine wp_seq ?_
  have SN0 := S14.nilRow 3 1
  refine wp_region_lit ?_
  refine s_one (.pointer (some ⟨g3, 0, none⟩)) A13 SN0 (g_field (u := .pointer (some ⟨g3, 0, none⟩)) (by kernel_rfl) (fun _ => by kernel_rfl)) rfl (fun ac A16 => ?_)
  refine s_one (.slice EA n ecap) A16 SN0 (g_load (g := g3) (off := 0) 3 (by kernel_rfl) rfl (by kernel_rfl)) rfl (fun ac A17 => ?_)
  refine s_one (.int .i64 (n : Int)) A17 SN0 (g_built (r := [(0, .slice EA n ecap)]) (by kernel_rfl) (fun _ _ _ => by kernel_rfl)) rfl (fun ac A18 => ?_)
  refine s_one (.int .i64 0) A18 SN0 (g_move (by kernel_rfl)) rfl (fun ac A19 => ?_)
  refine wpList_nil ?_
  refine n_then ?_
  refine wp_block ?_
  refine c_loopN (fun mm ac wc => ∃ (k : Nat) (v : Value), mm = n - k ∧ (k ≤ n) ∧ Fr 46 ac [(0, .agg #[.slice EA n ecap, .int .i64 mw, .int .i64 md, .int .i64 ms, .int .i64 mt, .int .i64 ck]), (1, .agg #[.int .i64 tx, .int .i64 tz]), (2, .pointer (some ⟨g3, 0, none⟩)), (3, .pointer (some ⟨g7, 0, none⟩)), (4, .pointer (some ⟨g11, 0, none⟩)), (6, .pointer (some ⟨g15, 0, none⟩)), (12, .pointer (some ⟨g3, 0, none⟩)), (13, .slice EA n ecap), (14, .int .i64 (n : Int)), (15, .int .i64 (k : Int))] ∧ St w0 [⟨g15, 30, #[v], true⟩, ⟨g11, 32, #[.int .i64 0, .slice none 0 0], true⟩, ⟨g7, 28, #[.int .i64 tx, .int .i64 tz], true⟩, ⟨g3, 26, #[.slice EA n ecap, .int .i64 mw, .int .i64 md, .int .i64 ms, .int .i64 mt, .int .i64 ck], true⟩] [⟨v, 3, 1, k, (rowI (tkF (tmR el mw md ms mt tx tz) k))⟩] wc) _ ⟨0, .slice none 0 0, rfl, by omega, (A19.slot (A19.slot (A19.slot (A19.slot (A19.slot (A19.slot (A19.slot (A19.slot (A19.slot (A19.slot A19.nil (v := .int .i64 0) (by kernel_rfl) (congrArg (Value.int .i64) (by omega))) (v := .int .i64 (n : Int)) (by kernel_rfl) rfl) (v := .slice EA n ecap) (by kernel_rfl) rfl) (v := .pointer (some ⟨g3, 0, none⟩)) (by kernel_rfl) rfl) (v := .pointer (some ⟨g15, 0, none⟩)) (by kernel_rfl) rfl) (v := .pointer (some ⟨g11, 0, none⟩)) (by kernel_rfl) rfl) (v := .pointer (some ⟨g7, 0, none⟩)) (by kernel_rfl) rfl) (v := .pointer (some ⟨g3, 0, none⟩)) (by kernel_rfl) rfl) (v := .agg #[.int .i64 tx, .int .i64 tz]) (by kernel_rfl) rfl) (v := .agg #[.slice EA n ecap, .int .i64 mw, .int .i64 md, .int .i64 ms, .int .i64 mt, .int .i64 ck]) (by kernel_rfl) rfl), (St.rerow 0 (St.recell 0 SN0 rfl (by rfl)) rfl ⟨rfl, rfl⟩).sub sub_all sub_all⟩ ?_
  rintro mm ac wc ⟨k, v, hm22, hk, A20, S21⟩
  refine wp_seq ?_
  refine wp_region_lit ?_
  refine s_one (.bool (decide ((k : Int) < (n : Int)))) A20 S21 (g_bin (u := .int .i64 (k : Int)) (k := .int .i64 (n : Int)) (by kernel_rfl) (by kernel_rfl) (fun _ => by kernel_rfl) (fun _ => by kernel_rfl)) rfl (fun ac A23 => ?_)
  refine wpList_nil ?_
  refine n_then ?_
  refine wp_seq ?_
  refine c_ifb (b := (decide ((k : Int) < (n : Int)))) A23 (by kernel_rfl) (fun h24 => ?_) (fun h24 => ?_)
  · have p25 := of_decide_eq_true h24
    refine wp_skip ?_
    refine n_then ?_
    refine wp_seq ?_
    refine wp_block ?_
    refine wp_seq ?_
    refine wp_region_lit ?_
    obtain ⟨ad26, rfl, _⟩ := hre (k * 2) (by have hlen := hne; omega)
    refine s_one (.pointer (some (ad26.add (k * 2)))) A23 S21 (g_index (u := .slice (some ad26) n ecap) (k := .int .i64 (k : Int)) (by kernel_rfl) (by kernel_rfl) (ix_xs (e := 28) (bytes := 16) k (by kernel_rfl) (by omega) (by omega))) rfl (fun ac A27 => ?_)
    refine s_one (.agg #[.int .i64 (nthI el (k * 2)), .int .i64 (nthI el (k * 2 + 1))]) A27 S21 (g_loadXS (l := el) (k := k * 2) 2 (by kernel_rfl) hre (by have hlen := hne; omega) (by kernel_rfl) (by kernel_rfl)) rfl (fun ac A28 => ?_)
    refine s_alloc (#[.int .i64 0, .int .i64 0]) A28 S21 (by kernel_rfl) rfl (fun g31 ac wc A29 S30 => ?_)
    refine s_store (g := g31) (off := 0) (v := .agg #[.int .i64 (nthI el (k * 2)), .int .i64 (nthI el (k * 2 + 1))]) 0 (#[.int .i64 (nthI el (k * 2)), .int .i64 (nthI el (k * 2 + 1))]) A29 S30 (by kernel_rfl) (by kernel_rfl) rfl (by kernel_rfl) (fun wc S33 => ?_)
    refine wpList_nil ?_
    refine n_then ?_
    refine wp_seq ?_
    refine wp_region_lit ?_
    refine s_one (.pointer (some ⟨g3, 1, none⟩)) A29 S33 (g_field (u := .pointer (some ⟨g3, 0, none⟩)) (by kernel_rfl) (fun _ => by kernel_rfl)) rfl (fun ac A35 => ?_)
    refine s_one (.agg #[.int .i64 mw, .int .i64 md, .int .i64 ms, .int .i64 mt]) A35 S33 (g_load (g := g3) (off := 1) 4 (by kernel_rfl) rfl (by kernel_rfl)) rfl (fun ac A36 => ?_)
    refine s_one (.agg #[.int .i64 (nthI el (k * 2)), .int .i64 (nthI el (k * 2 + 1))]) A36 S33 (g_load (g := g31) (off := 0) 0 (by kernel_rfl) rfl (by kernel_rfl)) rfl (fun ac A37 => ?_)
    refine s_one (.agg #[.int .i64 tx, .int .i64 tz]) A37 S33 (g_load (g := g7) (off := 0) 3 (by kernel_rfl) rfl (by kernel_rfl)) rfl (fun ac A38 => ?_)
    refine s_call (fs := #[]) (cp := #[]) (r := [(0, .agg #[.int .i64 mw, .int .i64 md, .int .i64 ms, .int .i64 mt]), (0, .agg #[.int .i64 (nthI el (k * 2)), .int .i64 (nthI el (k * 2 + 1))]), (0, .agg #[.int .i64 tx, .int .i64 tz])]) #[.agg #[.int .i64 mw, .int .i64 md, .int .i64 ms, .int .i64 mt], .agg #[.int .i64 (nthI el (k * 2)), .int .i64 (nthI el (k * 2 + 1))], .agg #[.int .i64 tx, .int .i64 tz]] (.tuple #[.int .i64 ((zv (opE mw md ms mt (nthI el (k * 2)) (nthI el (k * 2 + 1)) tx tz) (leLo (wyC mw md ms mt (nthI el (k * 2)) (nthI el (k * 2 + 1)) tx tz)) + zv (opE mw md ms mt (nthI el (k * 2)) (nthI el (k * 2 + 1)) tx tz) (mHi (wyC mw md ms mt (nthI el (k * 2)) (nthI el (k * 2 + 1)) tx tz))) / 2), .int .i64 (opE mw md ms mt (nthI el (k * 2)) (nthI el (k * 2 + 1)) tx tz)]) A38 S33 (RoundedTime_s mw md ms mt (nthI el (k * 2)) (nthI el (k * 2 + 1)) tx tz _) Try.call31 (by kernel_rfl) (by kernel_rfl) (by kernel_rfl) rfl (fun ac wc A39 S40 => ?_)
    refine s_one (.tuple #[.int .i64 ((zv (opE mw md ms mt (nthI el (k * 2)) (nthI el (k * 2 + 1)) tx tz) (leLo (wyC mw md ms mt (nthI el (k * 2)) (nthI el (k * 2 + 1)) tx tz)) + zv (opE mw md ms mt (nthI el (k * 2)) (nthI el (k * 2 + 1)) tx tz) (mHi (wyC mw md ms mt (nthI el (k * 2)) (nthI el (k * 2 + 1)) tx tz))) / 2), .int .i64 (opE mw md ms mt (nthI el (k * 2)) (nthI el (k * 2 + 1)) tx tz)]) A39 S40 (g_move (by kernel_rfl)) rfl (fun ac A42 => ?_)
    refine s_one (.int .i64 ((zv (opE mw md ms mt (nthI el (k * 2)) (nthI el (k * 2 + 1)) tx tz) (leLo (wyC mw md ms mt (nthI el (k * 2)) (nthI el (k * 2 + 1)) tx tz)) + zv (opE mw md ms mt (nthI el (k * 2)) (nthI el (k * 2 + 1)) tx tz) (mHi (wyC mw md ms mt (nthI el (k * 2)) (nthI el (k * 2 + 1)) tx tz))) / 2)) A42 S40 (g_extract (u := .tuple #[.int .i64 ((zv (opE mw md ms mt (nthI el (k * 2)) (nthI el (k * 2 + 1)) tx tz) (leLo (wyC mw md ms mt (nthI el (k * 2)) (nthI el (k * 2 + 1)) tx tz)) + zv (opE mw md ms mt (nthI el (k * 2)) (nthI el (k * 2 + 1)) tx tz) (mHi (wyC mw md ms mt (nthI el (k * 2)) (nthI el (k * 2 + 1)) tx tz))) / 2), .int .i64 (opE mw md ms mt (nthI el (k * 2)) (nthI el (k * 2 + 1)) tx tz)]) (by kernel_rfl) (fun _ => by kernel_rfl)) rfl (fun ac A43 => ?_)
    refine s_one (.int .i64 (opE mw md ms mt (nthI el (k * 2)) (nthI el (k * 2 + 1)) tx tz)) A43 S40 (g_extract (u := .tuple #[.int .i64 ((zv (opE mw md ms mt (nthI el (k * 2)) (nthI el (k * 2 + 1)) tx tz) (leLo (wyC mw md ms mt (nthI el (k * 2)) (nthI el (k * 2 + 1)) tx tz)) + zv (opE mw md ms mt (nthI el (k * 2)) (nthI el (k * 2 + 1)) tx tz) (mHi (wyC mw md ms mt (nthI el (k * 2)) (nthI el (k * 2 + 1)) tx tz))) / 2), .int .i64 (opE mw md ms mt (nthI el (k * 2)) (nthI el (k * 2 + 1)) tx tz)]) (by kernel_rfl) (fun _ => by kernel_rfl)) rfl (fun ac A44 => ?_)
    refine s_one (.int .i64 ((zv (opE mw md ms mt (nthI el (k * 2)) (nthI el (k * 2 + 1)) tx tz) (leLo (wyC mw md ms mt (nthI el (k * 2)) (nthI el (k * 2 + 1)) tx tz)) + zv (opE mw md ms mt (nthI el (k * 2)) (nthI el (k * 2 + 1)) tx tz) (mHi (wyC mw md ms mt (nthI el (k * 2)) (nthI el (k * 2 + 1)) tx tz))) / 2)) A44 S40 (g_assign (by kernel_rfl)) rfl (fun ac A45 => ?_)
    refine s_one (.int .i64 (opE mw md ms mt (nthI el (k * 2)) (nthI el (k * 2 + 1)) tx tz)) A45 S40 (g_assign (by kernel_rfl)) rfl (fun ac A46 => ?_)
    refine wpList_nil ?_
    refine n_then ?_
    refine wp_seq ?_
    refine wp_seq ?_
    refine wp_region_lit ?_
    refine s_one (.int .i64 (opE mw md ms mt (nthI el (k * 2)) (nthI el (k * 2 + 1)) tx tz)) A46 S40 (g_move (by kernel_rfl)) rfl (fun ac A47 => ?_)
    refine s_one (.bool (decide (opE mw md ms mt (nthI el (k * 2)) (nthI el (k * 2 + 1)) tx tz ≠ 0))) A47 S40 (g_bin (u := .int .i64 (opE mw md ms mt (nthI el (k * 2)) (nthI el (k * 2 + 1)) tx tz)) (k := .int .i64 0) (by kernel_rfl) (by kernel_rfl) (fun _ => by kernel_rfl) b_neq) rfl (fun ac A48 => ?_)
    refine wpList_nil ?_
    refine n_then ?_
    refine c_f (b := (decide (opE mw md ms mt (nthI el (k * 2)) (nthI el (k * 2 + 1)) tx tz ≠ 0))) A48 (by kernel_rfl) (decide_eq_false (fun hh => hh (way_ok h0.2.2.1 (elE_0 (h0.2.1 k (by omega))) hpl))) ?_
    refine wp_skip ?_
    refine n_then ?_
    refine wp_region_lit ?_
    refine s_one (v) A48 S40 (g_load (g := g15) (off := 0) 1 (by kernel_rfl) rfl (by kernel_rfl)) rfl (fun ac A49 => ?_)
    refine s_one (.int .i64 ((zv (opE mw md ms mt (nthI el (k * 2)) (nthI el (k * 2 + 1)) tx tz) (leLo (wyC mw md ms mt (nthI el (k * 2)) (nthI el (k * 2 + 1)) tx tz)) + zv (opE mw md ms mt (nthI el (k * 2)) (nthI el (k * 2 + 1)) tx tz) (mHi (wyC mw md ms mt (nthI el (k * 2)) (nthI el (k * 2 + 1)) tx tz))) / 2)) A49 S40 (g_move (by kernel_rfl)) rfl (fun ac A50 => ?_)
    refine s_bs (e := 3) (r := [(0, .int .i64 ((zv (opE mw md ms mt (nthI el (k * 2)) (nthI el (k * 2 + 1)) tx tz) (leLo (wyC mw md ms mt (nthI el (k * 2)) (nthI el (k * 2 + 1)) tx tz)) + zv (opE mw md ms mt (nthI el (k * 2)) (nthI el (k * 2 + 1)) tx tz) (mHi (wyC mw md ms mt (nthI el (k * 2)) (nthI el (k * 2 + 1)) tx tz))) / 2))]) (#[.int .i64 ((zv (opE mw md ms mt (nthI el (k * 2)) (nthI el (k * 2 + 1)) tx tz) (leLo (wyC mw md ms mt (nthI el (k * 2)) (nthI el (k * 2 + 1)) tx tz)) + zv (opE mw md ms mt (nthI el (k * 2)) (nthI el (k * 2 + 1)) tx tz) (mHi (wyC mw md ms mt (nthI el (k * 2)) (nthI el (k * 2 + 1)) tx tz))) / 2)]) A50 S40 (by kernel_rfl) (by kernel_rfl) rfl (fun g53 ac wc A51 S52 => ?_)
    refine s_append (e := 3) (size := 1) (bytes := 8) (v := v) (g := g53) (m' := 1) (c := 1) 0 0 [.int .i64 ((zv (opE mw md ms mt (nthI el (k * 2)) (nthI el (k * 2 + 1)) tx tz) (leLo (wyC mw md ms mt (nthI el (k * 2)) (nthI el (k * 2 + 1)) tx tz)) + zv (opE mw md ms mt (nthI el (k * 2)) (nthI el (k * 2 + 1)) tx tz) (mHi (wyC mw md ms mt (nthI el (k * 2)) (nthI el (k * 2 + 1)) tx tz))) / 2)] A51 S52 (by kernel_rfl) (by kernel_rfl) (by kernel_rfl) rfl rfl (by kernel_rfl) rfl (by kernel_rfl) (by omega) (by omega) rfl (fun v57 ac wc A54 S55 => ?_)
    obtain ⟨A58, cap59, rfl⟩ := row_slice (v := v57) (m := k + 1) (S55.row 0 rfl)
    refine s_store (g := g15) (off := 0) (v := .slice A58 (k + 1) cap59) 2 (#[.slice A58 (k + 1) cap59]) A54 S55 (by kernel_rfl) (by kernel_rfl) rfl (by kernel_rfl) (fun wc S61 => ?_)
    refine wpList_nil ?_
    refine n_block ?_
    refine n_then ?_
    refine wp_region_lit ?_
    refine s_one (.int .i64 ((k : Int) + 1)) A54 S61 (g_bin (u := .int .i64 (k : Int)) (k := .int .i64 1) (by kernel_rfl) (by kernel_rfl) (fun _ => by kernel_rfl) (b_add (by omega))) rfl (fun ac A63 => ?_)
    refine s_one (.int .i64 ((k : Int) + 1)) A63 S61 (g_move (by kernel_rfl)) rfl (fun ac A64 => ?_)
    refine wpList_nil ?_
    refine n_then ?_
    refine ⟨_, ⟨k + 1, (.slice A58 (k + 1) cap59), rfl, by omega, (A64.slot (A64.slot (A64.slot (A64.slot (A64.slot (A64.slot (A64.slot (A64.slot (A64.slot (A64.slot A64.nil (v := .int .i64 ((k : Int) + 1)) (by kernel_rfl) (congrArg (Value.int .i64) (by omega))) (v := .int .i64 (n : Int)) (by kernel_rfl) rfl) (v := .slice (some ad26) n ecap) (by kernel_rfl) (by first | rfl | simp)) (v := .pointer (some ⟨g3, 0, none⟩)) (by kernel_rfl) rfl) (v := .pointer (some ⟨g15, 0, none⟩)) (by kernel_rfl) rfl) (v := .pointer (some ⟨g11, 0, none⟩)) (by kernel_rfl) rfl) (v := .pointer (some ⟨g7, 0, none⟩)) (by kernel_rfl) rfl) (v := .pointer (some ⟨g3, 0, none⟩)) (by kernel_rfl) rfl) (v := .agg #[.int .i64 tx, .int .i64 tz]) (by kernel_rfl) rfl) (v := .agg #[.slice (some ad26) n ecap, .int .i64 mw, .int .i64 md, .int .i64 ms, .int .i64 mt, .int .i64 ck]) (by kernel_rfl) (by first | rfl | simp)), (St.rerow 0 (St.recell 5 (St.recell 2 S61 rfl (by rfl)) rfl (by rfl)) rfl ⟨rfl, tkF_snoc (tmR el mw md ms mt tx tz) k⟩).sub (sub_skip (sub_skip sub_all)) sub_all⟩, ?_⟩
    omega
  · have p65 := of_decide_eq_false h24
    refine wp_exit ?_
    refine x_then ?_
    refine x_then ?_
    refine x_hit ?_
    refine n_then ?_
    refine wp_seq ?_
    have hke : k = n := by omega
    have S10 := S21
    rw [hke] at S10
    have hla := last_bd el mw md ms mt tx tz (n := n) (by omega)
    have hrs := rs_bd el mw md ms mt tx tz n
    refine wp_region_lit ?_
    refine s_one (v) A23 S10 (g_load (g := g15) (off := 0) 0 (by kernel_rfl) rfl (by kernel_rfl)) rfl (fun ac A66 => ?_)
    obtain ⟨hl70, A71, cap72, rfl, hr73⟩ := rowI_reads2 (v := v) (size := 1) (m := n) (l := tkF (tmR el mw md ms mt tx tz) n) (S10.row 0 rfl)
    refine s_call (fs := #[]) (cp := #[]) (r := [(0, .slice A71 n cap72)]) #[.slice A71 n cap72] (.int .i64 (mxL (tkF (tmR el mw md ms mt tx tz) n) (n - 1))) A66 S10 (Max_s (tkF (tmR el mw md ms mt tx tz) n) A71 cap72 n _ (by have hlen := hl70; omega) (row_ir (S10.row 0 rfl)) (by omega) (by omega)) Try.call32 (by kernel_rfl) (by kernel_rfl) (by kernel_rfl) rfl (fun ac wc A67 S68 => ?_)
    refine s_alloc (#[.int .i64 0]) A67 S68 (by kernel_rfl) rfl (fun g76 ac wc A74 S75 => ?_)
    refine s_store (g := g76) (off := 0) (v := .int .i64 (mxL (tkF (tmR el mw md ms mt tx tz) n) (n - 1))) 0 (#[.int .i64 (mxL (tkF (tmR el mw md ms mt tx tz) n) (n - 1))]) A74 S75 (by kernel_rfl) (by kernel_rfl) rfl (by kernel_rfl) (fun wc S78 => ?_)
    refine wpList_nil ?_
    refine n_then ?_
    refine wp_seq ?_
    refine wp_region_lit ?_
    refine s_one (.pointer (some ⟨g3, 5, none⟩)) A74 S78 (g_field (u := .pointer (some ⟨g3, 0, none⟩)) (by kernel_rfl) (fun _ => by kernel_rfl)) rfl (fun ac A80 => ?_)
    refine s_one (.int .i64 ck) A80 S78 (g_load (g := g3) (off := 5) 4 (by kernel_rfl) rfl (by kernel_rfl)) rfl (fun ac A81 => ?_)
    refine s_one (.slice A71 n cap72) A81 S78 (g_load (g := g15) (off := 0) 1 (by kernel_rfl) rfl (by kernel_rfl)) rfl (fun ac A82 => ?_)
    refine s_one (.int .i64 (n : Int)) A82 S78 (g_built (r := [(0, .slice A71 n cap72)]) (by kernel_rfl) (fun _ _ _ => by kernel_rfl)) rfl (fun ac A83 => ?_)
    refine s_one (.func (.func 34) #[] #[.pointer (some ⟨g76, 0, none⟩), .pointer (some ⟨g15, 0, none⟩), .pointer (some ⟨g3, 0, none⟩)]) A83 S78 (g_func (us := []) (vs := [(0, .pointer (some ⟨g76, 0, none⟩)), (0, .pointer (some ⟨g15, 0, none⟩)), (0, .pointer (some ⟨g3, 0, none⟩))]) (by kernel_rfl) (by kernel_rfl) (fun _ => by kernel_rfl)) rfl (fun ac A84 => ?_)
    refine s_callRF (fs := #[]) (cp := #[]) (r := [(0, .int .i64 ck), (0, .int .i64 (n : Int)), (0, .func (.func 34) #[] #[.pointer (some ⟨g76, 0, none⟩), .pointer (some ⟨g15, 0, none⟩), .pointer (some ⟨g3, 0, none⟩)])]) (fun v => .tuple #[.agg #[.int .i64 (zv (feT (ovE (fcT (tkF (tmR el mw md ms mt tx tz) n) (mxL (tkF (tmR el mw md ms mt tx tz) n) (n - 1)) ck)) n) ck), v], .int .i64 (feT (ovE (fcT (tkF (tmR el mw md ms mt tx tz) n) (mxL (tkF (tmR el mw md ms mt tx tz) n) (n - 1)) ck)) n)]) #[.int .i64 ck, .int .i64 (n : Int), .func (.func 34) #[] #[.pointer (some ⟨g76, 0, none⟩), .pointer (some ⟨g15, 0, none⟩), .pointer (some ⟨g3, 0, none⟩)]] A84 S78 (builtF_s ck n g76 g15 g3 A71 EA cap72 ecap (tkF (tmR el mw md ms mt tx tz) n) mw md ms mt ck (mxL (tkF (tmR el mw md ms mt tx tz) n) (n - 1)) _ (S78.get 0 rfl) (S78.get 1 rfl) (S78.get 4 rfl) (by have hlen := hl70; omega) (row_ir (S78.row 0 rfl)) (by omega) hla hrs (by omega)) Try.call33 (by kernel_rfl) (by kernel_rfl) (by kernel_rfl) rfl (fun v88 ac wc A85 S86 => ?_)
    obtain ⟨hl89, A90, cap91, rfl, hr92⟩ := rowI_reads2 (v := v88) (size := 1) (m := (bN (feT (ovE (fcT (tkF (tmR el mw md ms mt tx tz) n) (mxL (tkF (tmR el mw md ms mt tx tz) n) (n - 1)) ck)) n) n)) (l := bL (feT (ovE (fcT (tkF (tmR el mw md ms mt tx tz) n) (mxL (tkF (tmR el mw md ms mt tx tz) n) (n - 1)) ck)) n) (tkF (fcT (tkF (tmR el mw md ms mt tx tz) n) (mxL (tkF (tmR el mw md ms mt tx tz) n) (n - 1)) ck) n)) (S86.row 0 rfl)
    refine s_one (.agg #[.int .i64 (zv (feT (ovE (fcT (tkF (tmR el mw md ms mt tx tz) n) (mxL (tkF (tmR el mw md ms mt tx tz) n) (n - 1)) ck)) n) ck), .slice A90 (bN (feT (ovE (fcT (tkF (tmR el mw md ms mt tx tz) n) (mxL (tkF (tmR el mw md ms mt tx tz) n) (n - 1)) ck)) n) n) cap91]) A85 S86 (g_extract (u := .tuple #[.agg #[.int .i64 (zv (feT (ovE (fcT (tkF (tmR el mw md ms mt tx tz) n) (mxL (tkF (tmR el mw md ms mt tx tz) n) (n - 1)) ck)) n) ck), .slice A90 (bN (feT (ovE (fcT (tkF (tmR el mw md ms mt tx tz) n) (mxL (tkF (tmR el mw md ms mt tx tz) n) (n - 1)) ck)) n) n) cap91], .int .i64 (feT (ovE (fcT (tkF (tmR el mw md ms mt tx tz) n) (mxL (tkF (tmR el mw md ms mt tx tz) n) (n - 1)) ck)) n)]) (by kernel_rfl) (fun _ => by kernel_rfl)) rfl (fun ac A93 => ?_)
    refine s_one (.int .i64 (feT (ovE (fcT (tkF (tmR el mw md ms mt tx tz) n) (mxL (tkF (tmR el mw md ms mt tx tz) n) (n - 1)) ck)) n)) A93 S86 (g_extract (u := .tuple #[.agg #[.int .i64 (zv (feT (ovE (fcT (tkF (tmR el mw md ms mt tx tz) n) (mxL (tkF (tmR el mw md ms mt tx tz) n) (n - 1)) ck)) n) ck), .slice A90 (bN (feT (ovE (fcT (tkF (tmR el mw md ms mt tx tz) n) (mxL (tkF (tmR el mw md ms mt tx tz) n) (n - 1)) ck)) n) n) cap91], .int .i64 (feT (ovE (fcT (tkF (tmR el mw md ms mt tx tz) n) (mxL (tkF (tmR el mw md ms mt tx tz) n) (n - 1)) ck)) n)]) (by kernel_rfl) (fun _ => by kernel_rfl)) rfl (fun ac A94 => ?_)
    refine s_store (g := g11) (off := 0) (v := .agg #[.int .i64 (zv (feT (ovE (fcT (tkF (tmR el mw md ms mt tx tz) n) (mxL (tkF (tmR el mw md ms mt tx tz) n) (n - 1)) ck)) n) ck), .slice A90 (bN (feT (ovE (fcT (tkF (tmR el mw md ms mt tx tz) n) (mxL (tkF (tmR el mw md ms mt tx tz) n) (n - 1)) ck)) n) n) cap91]) 2 (#[.int .i64 (zv (feT (ovE (fcT (tkF (tmR el mw md ms mt tx tz) n) (mxL (tkF (tmR el mw md ms mt tx tz) n) (n - 1)) ck)) n) ck), .slice A90 (bN (feT (ovE (fcT (tkF (tmR el mw md ms mt tx tz) n) (mxL (tkF (tmR el mw md ms mt tx tz) n) (n - 1)) ck)) n) n) cap91]) A94 S86 (by kernel_rfl) (by kernel_rfl) rfl (by kernel_rfl) (fun wc S96 => ?_)
    refine s_one (.int .i64 (feT (ovE (fcT (tkF (tmR el mw md ms mt tx tz) n) (mxL (tkF (tmR el mw md ms mt tx tz) n) (n - 1)) ck)) n)) A94 S96 (g_assign (by kernel_rfl)) rfl (fun ac A98 => ?_)
    refine wpList_nil ?_
    refine n_then ?_
    refine wp_ret ?_
    refine fin2 (.agg #[.int .i64 (zv (feT (ovE (fcT (tkF (tmR el mw md ms mt tx tz) n) (mxL (tkF (tmR el mw md ms mt tx tz) n) (n - 1)) ck)) n) ck), .slice A90 (bN (feT (ovE (fcT (tkF (tmR el mw md ms mt tx tz) n) (mxL (tkF (tmR el mw md ms mt tx tz) n) (n - 1)) ck)) n) n) cap91]) (.int .i64 (feT (ovE (fcT (tkF (tmR el mw md ms mt tx tz) n) (mxL (tkF (tmR el mw md ms mt tx tz) n) (n - 1)) ck)) n)) Try.results16 A98 S96 (rv_cell (g := g11) (off := 0) 2 (by kernel_rfl) rfl (by kernel_rfl)) (rv_tmp (by kernel_rfl)) ?_
    have bw := S96.kp
    have ow := S96.row 0 rfl
    exact ⟨_, rfl, bw, ow⟩

def fwE (el : List Int) (n : Nat) (mw md ms mt ck tx tz : Int) : Int := if arE el n mw md ms mt ck = 0 then (if plE mt tx tz = 0 then feT (ovE (fcT (tkF (tmR el mw md ms mt tx tz) n) (mxL (tkF (tmR el mw md ms mt tx tz) n) (n - 1)) ck)) n else plE mt tx tz) else arE el n mw md ms mt ck
theorem fwE_a {el : List Int} {n : Nat} {mw md ms mt ck tx tz : Int} (h : arE el n mw md ms mt ck ≠ 0) : fwE el n mw md ms mt ck tx tz = arE el n mw md ms mt ck := if_neg h
theorem fwE_p {el : List Int} {n : Nat} {mw md ms mt ck tx tz : Int} (h : arE el n mw md ms mt ck = 0) (h2 : plE mt tx tz ≠ 0) : fwE el n mw md ms mt ck tx tz = plE mt tx tz := (if_pos h).trans (if_neg h2)
theorem fwE_y {el : List Int} {n : Nat} {mw md ms mt ck tx tz : Int} (h : arE el n mw md ms mt ck = 0) (h2 : plE mt tx tz = 0) : fwE el n mw md ms mt ck tx tz = feT (ovE (fcT (tkF (tmR el mw md ms mt tx tz) n) (mxL (tkF (tmR el mw md ms mt tx tz) n) (n - 1)) ck)) n := (if_pos h).trans (if_pos h2)
theorem fwE_0 {el : List Int} {n : Nat} {mw md ms mt ck tx tz : Int} (h : fwE el n mw md ms mt ck tx tz = 0) : arE el n mw md ms mt ck = 0 ∧ plE mt tx tz = 0 := by
  by_cases z : arE el n mw md ms mt ck = 0
  · by_cases y : plE mt tx tz = 0
    · exact ⟨z, y⟩
    · rw [fwE_p z y] at h; exact absurd h y
  · rw [fwE_a z] at h; exact absurd h z

set_option maxRecDepth 100000 in
set_option maxHeartbeats 400000 in
theorem FocusLaw_s (EA : Option Addr) (n ecap : Nat) (el : List Int) (mw md ms mt ck : Int) (tx tz : Int) (w0 : World) (hne : el.length = n * 2) (hre : IReads w0 EA el) (hn1 : n ≤ 1000) :
    Calls Try.prog 6 #[.agg #[.slice EA n ecap, .int .i64 mw, .int .i64 md, .int .i64 ms, .int .i64 mt, .int .i64 ck], .agg #[.int .i64 tx, .int .i64 tz]] w0 fun e w' => ∃ v, e = .returned (.tuple #[.agg #[.int .i64 (zv (fwE el n mw md ms mt ck tx tz) ck), v], .int .i64 (fwE el n mw md ms mt ck tx tz)]) ∧ Below w0.heap.size w0 w' ∧ w'.ownsRow w0.heap.size 3 1 v (bN (fwE el n mw md ms mt ck tx tz) n) (rowI (bL (fwE el n mw md ms mt ck tx tz) (tkF (fcT (tkF (tmR el mw md ms mt tx tz) n) (mxL (tkF (tmR el mw md ms mt tx tz) n) (n - 1)) ck) n))) := by
  have S0 := St.start w0
  refine enter (n := 26) Try.func6 rfl rfl rfl (fun ac A0 => ?_)
  refine wp_seq ?_
  refine wp_region_lit ?_
  refine s_box (.agg #[.slice EA n ecap, .int .i64 mw, .int .i64 md, .int .i64 ms, .int .i64 mt, .int .i64 ck]) A0 S0 (by kernel_rfl) rfl (fun g3 ac wc A1 S2 => ?_)
  replace S2 : St _ (⟨g3, 26, #[.slice EA n ecap, .int .i64 mw, .int .i64 md, .int .i64 ms, .int .i64 mt, .int .i64 ck], true⟩ :: _) _ _ := S2
  refine s_box (.agg #[.int .i64 tx, .int .i64 tz]) A1 S2 (by kernel_rfl) rfl (fun g7 ac wc A5 S6 => ?_)
  replace S6 : St _ (⟨g7, 28, #[.int .i64 tx, .int .i64 tz], true⟩ :: _) _ _ := S6
  refine s_alloc (#[.int .i64 0, .slice none 0 0]) A5 S6 (by kernel_rfl) rfl (fun g11 ac wc A9 S10 => ?_)
  refine s_one (.int .i64 0) A9 S10 (g_assign (by kernel_rfl)) rfl (fun ac A12 => ?_)
  refine wpList_nil ?_
  refine n_then ?_
  refine wp_seq ?_
  refine wp_seq ?_
  refine wp_region_lit ?_
  refine s_one (.agg #[.slice EA n ecap, .int .i64 mw, .int .i64 md, .int .i64 ms, .int .i64 mt, .int .i64 ck]) A12 S10 (g_load (g := g3) (off := 0) 2 (by kernel_rfl) rfl (by kernel_rfl)) rfl (fun ac A13 => ?_)
  refine s_call (fs := #[]) (cp := #[]) (r := [(0, .agg #[.slice EA n ecap, .int .i64 mw, .int .i64 md, .int .i64 ms, .int .i64 mt, .int .i64 ck])]) #[.agg #[.slice EA n ecap, .int .i64 mw, .int .i64 md, .int .i64 ms, .int .i64 mt, .int .i64 ck]] (.int .i64 (arE el n mw md ms mt ck)) A13 S10 (arrayErr_s EA n ecap el mw md ms mt ck _ (by have hlen := hne; omega) (hre.kept S10.kp) (by omega)) Try.call14 (by kernel_rfl) (by kernel_rfl) (by kernel_rfl) rfl (fun ac wc A14 S15 => ?_)
  refine s_one (.int .i64 (arE el n mw md ms mt ck)) A14 S15 (g_assign (by kernel_rfl)) rfl (fun ac A17 => ?_)
  refine wpList_nil ?_
  refine n_then ?_
  refine wp_seq ?_
  refine wp_region_lit ?_
  refine s_one (.int .i64 (arE el n mw md ms mt ck)) A17 S15 (g_move (by kernel_rfl)) rfl (fun ac A18 => ?_)
  refine s_one (.bool (decide (arE el n mw md ms mt ck ≠ 0))) A18 S15 (g_bin (u := .int .i64 (arE el n mw md ms mt ck)) (k := .int .i64 0) (by kernel_rfl) (by kernel_rfl) (fun _ => by kernel_rfl) b_neq) rfl (fun ac A19 => ?_)
  refine wpList_nil ?_
  refine n_then ?_
  refine c_ifb (b := (decide (arE el n mw md ms mt ck ≠ 0))) A19 (by kernel_rfl) (fun h20 => ?_) (fun h20 => ?_)
  · have p21 := of_decide_eq_true h20
    have er : fwE el n mw md ms mt ck tx tz = _ := fwE_a (of_decide_eq_true h20)
    have zn : fwE el n mw md ms mt ck tx tz ≠ 0 := er ▸ of_decide_eq_true h20
    refine wp_seq ?_
    refine wp_region_lit ?_
    refine s_one (.agg #[.int .i64 0, .slice none 0 0]) A19 S15 (g_build (r := []) (by kernel_rfl) (fun _ => by kernel_rfl)) rfl (fun ac A22 => ?_)
    refine s_one (.int .i64 (arE el n mw md ms mt ck)) A22 S15 (g_move (by kernel_rfl)) rfl (fun ac A23 => ?_)
    refine s_store (g := g11) (off := 0) (v := .agg #[.int .i64 0, .slice none 0 0]) 0 (#[.int .i64 0, .slice none 0 0]) A23 S15 (by kernel_rfl) (by kernel_rfl) rfl (by kernel_rfl) (fun wc S25 => ?_)
    refine s_one (.int .i64 (arE el n mw md ms mt ck)) A23 S25 (g_assign (by kernel_rfl)) rfl (fun ac A27 => ?_)
    refine wpList_nil ?_
    refine n_then ?_
    refine wp_ret ?_
    refine r_then ?_
    have S28 := S25.nilRow 3 1
    refine fin2 (.agg #[.int .i64 0, .slice none 0 0]) (.int .i64 (arE el n mw md ms mt ck)) Try.results6 A27 S28 (rv_cell (g := g11) (off := 0) 0 (by kernel_rfl) rfl (by kernel_rfl)) (rv_tmp (by kernel_rfl)) ?_
    have bw := S28.kp
    have ow := S28.row 0 rfl
    rw [zv_n zn, (b_n zn n (tkF (fcT (tkF (tmR el mw md ms mt tx tz) n) (mxL (tkF (tmR el mw md ms mt tx tz) n) (n - 1)) ck) n)).1, (b_n zn n (tkF (fcT (tkF (tmR el mw md ms mt tx tz) n) (mxL (tkF (tmR el mw md ms mt tx tz) n) (n - 1)) ck) n)).2, er]
    exact ⟨_, rfl, bw, ow⟩
  · have p29 := of_decide_eq_false h20
    have har : arE el n mw md ms mt ck = 0 := by simpa using h20
    have h0 := ar_0 har
    have zm := mdE_0 h0.2.2.1
    refine wp_skip ?_
    refine n_then ?_
    refine wp_seq ?_
    refine wp_seq ?_
    refine wp_region_lit ?_
    refine s_one (.agg #[.slice EA n ecap, .int .i64 mw, .int .i64 md, .int .i64 ms, .int .i64 mt, .int .i64 ck]) A19 S15 (g_load (g := g3) (off := 0) 2 (by kernel_rfl) rfl (by kernel_rfl)) rfl (fun ac A30 => ?_)
    refine s_one (.agg #[.int .i64 tx, .int .i64 tz]) A30 S15 (g_load (g := g7) (off := 0) 1 (by kernel_rfl) rfl (by kernel_rfl)) rfl (fun ac A31 => ?_)
    refine s_call (fs := #[]) (cp := #[]) (r := [(0, .agg #[.slice EA n ecap, .int .i64 mw, .int .i64 md, .int .i64 ms, .int .i64 mt, .int .i64 ck]), (0, .agg #[.int .i64 tx, .int .i64 tz])]) #[.agg #[.slice EA n ecap, .int .i64 mw, .int .i64 md, .int .i64 ms, .int .i64 mt, .int .i64 ck], .agg #[.int .i64 tx, .int .i64 tz]] (.int .i64 (plE mt tx tz)) A31 S15 (placeErr_s EA n ecap mw md ms mt ck tx tz _ (by omega)) Try.call15 (by kernel_rfl) (by kernel_rfl) (by kernel_rfl) rfl (fun ac wc A32 S33 => ?_)
    refine s_one (.int .i64 (plE mt tx tz)) A32 S33 (g_assign (by kernel_rfl)) rfl (fun ac A35 => ?_)
    refine wpList_nil ?_
    refine n_then ?_
    refine wp_seq ?_
    refine wp_region_lit ?_
    refine s_one (.int .i64 (plE mt tx tz)) A35 S33 (g_move (by kernel_rfl)) rfl (fun ac A36 => ?_)
    refine s_one (.bool (decide (plE mt tx tz ≠ 0))) A36 S33 (g_bin (u := .int .i64 (plE mt tx tz)) (k := .int .i64 0) (by kernel_rfl) (by kernel_rfl) (fun _ => by kernel_rfl) b_neq) rfl (fun ac A37 => ?_)
    refine wpList_nil ?_
    refine n_then ?_
    refine c_ifb (b := (decide (plE mt tx tz ≠ 0))) A37 (by kernel_rfl) (fun h38 => ?_) (fun h38 => ?_)
    · have p39 := of_decide_eq_true h38
      have er : fwE el n mw md ms mt ck tx tz = _ := fwE_p har (of_decide_eq_true h38)
      have zn : fwE el n mw md ms mt ck tx tz ≠ 0 := er ▸ of_decide_eq_true h38
      refine wp_seq ?_
      refine wp_region_lit ?_
      refine s_one (.agg #[.int .i64 0, .slice none 0 0]) A37 S33 (g_build (r := []) (by kernel_rfl) (fun _ => by kernel_rfl)) rfl (fun ac A40 => ?_)
      refine s_one (.int .i64 (plE mt tx tz)) A40 S33 (g_move (by kernel_rfl)) rfl (fun ac A41 => ?_)
      refine s_store (g := g11) (off := 0) (v := .agg #[.int .i64 0, .slice none 0 0]) 0 (#[.int .i64 0, .slice none 0 0]) A41 S33 (by kernel_rfl) (by kernel_rfl) rfl (by kernel_rfl) (fun wc S43 => ?_)
      refine s_one (.int .i64 (plE mt tx tz)) A41 S43 (g_assign (by kernel_rfl)) rfl (fun ac A45 => ?_)
      refine wpList_nil ?_
      refine n_then ?_
      refine wp_ret ?_
      refine r_then ?_
      have S46 := S43.nilRow 3 1
      refine fin2 (.agg #[.int .i64 0, .slice none 0 0]) (.int .i64 (plE mt tx tz)) Try.results6 A45 S46 (rv_cell (g := g11) (off := 0) 0 (by kernel_rfl) rfl (by kernel_rfl)) (rv_tmp (by kernel_rfl)) ?_
      have bw := S46.kp
      have ow := S46.row 0 rfl
      rw [zv_n zn, (b_n zn n (tkF (fcT (tkF (tmR el mw md ms mt tx tz) n) (mxL (tkF (tmR el mw md ms mt tx tz) n) (n - 1)) ck) n)).1, (b_n zn n (tkF (fcT (tkF (tmR el mw md ms mt tx tz) n) (mxL (tkF (tmR el mw md ms mt tx tz) n) (n - 1)) ck) n)).2, er]
      exact ⟨_, rfl, bw, ow⟩
    · have p47 := of_decide_eq_false h38
      have hpl : plE mt tx tz = 0 := by simpa using h38
      have er : fwE el n mw md ms mt ck tx tz = _ := fwE_y har hpl
      refine wp_skip ?_
      refine n_then ?_
      refine wp_seq ?_
      refine wp_region_lit ?_
      refine s_one (.agg #[.slice EA n ecap, .int .i64 mw, .int .i64 md, .int .i64 ms, .int .i64 mt, .int .i64 ck]) A37 S33 (g_load (g := g3) (off := 0) 2 (by kernel_rfl) rfl (by kernel_rfl)) rfl (fun ac A48 => ?_)
      refine s_one (.agg #[.int .i64 tx, .int .i64 tz]) A48 S33 (g_load (g := g7) (off := 0) 1 (by kernel_rfl) rfl (by kernel_rfl)) rfl (fun ac A49 => ?_)
      refine s_callRF (fs := #[]) (cp := #[]) (r := [(0, .agg #[.slice EA n ecap, .int .i64 mw, .int .i64 md, .int .i64 ms, .int .i64 mt, .int .i64 ck]), (0, .agg #[.int .i64 tx, .int .i64 tz])]) (fun v => .tuple #[.agg #[.int .i64 (zv (feT (ovE (fcT (tkF (tmR el mw md ms mt tx tz) n) (mxL (tkF (tmR el mw md ms mt tx tz) n) (n - 1)) ck)) n) ck), v], .int .i64 (feT (ovE (fcT (tkF (tmR el mw md ms mt tx tz) n) (mxL (tkF (tmR el mw md ms mt tx tz) n) (n - 1)) ck)) n)]) #[.agg #[.slice EA n ecap, .int .i64 mw, .int .i64 md, .int .i64 ms, .int .i64 mt, .int .i64 ck], .agg #[.int .i64 tx, .int .i64 tz]] A49 S33 (focused_s EA n ecap el mw md ms mt ck tx tz _ (by have hlen := hne; omega) (hre.kept S33.kp) (by omega) har hpl) Try.call16 (by kernel_rfl) (by kernel_rfl) (by kernel_rfl) rfl (fun v53 ac wc A50 S51 => ?_)
      obtain ⟨hl54, A55, cap56, rfl, hr57⟩ := rowI_reads2 (v := v53) (size := 1) (m := (bN (feT (ovE (fcT (tkF (tmR el mw md ms mt tx tz) n) (mxL (tkF (tmR el mw md ms mt tx tz) n) (n - 1)) ck)) n) n)) (l := bL (feT (ovE (fcT (tkF (tmR el mw md ms mt tx tz) n) (mxL (tkF (tmR el mw md ms mt tx tz) n) (n - 1)) ck)) n) (tkF (fcT (tkF (tmR el mw md ms mt tx tz) n) (mxL (tkF (tmR el mw md ms mt tx tz) n) (n - 1)) ck) n)) (S51.row 0 rfl)
      refine s_one (.agg #[.int .i64 (zv (feT (ovE (fcT (tkF (tmR el mw md ms mt tx tz) n) (mxL (tkF (tmR el mw md ms mt tx tz) n) (n - 1)) ck)) n) ck), .slice A55 (bN (feT (ovE (fcT (tkF (tmR el mw md ms mt tx tz) n) (mxL (tkF (tmR el mw md ms mt tx tz) n) (n - 1)) ck)) n) n) cap56]) A50 S51 (g_extract (u := .tuple #[.agg #[.int .i64 (zv (feT (ovE (fcT (tkF (tmR el mw md ms mt tx tz) n) (mxL (tkF (tmR el mw md ms mt tx tz) n) (n - 1)) ck)) n) ck), .slice A55 (bN (feT (ovE (fcT (tkF (tmR el mw md ms mt tx tz) n) (mxL (tkF (tmR el mw md ms mt tx tz) n) (n - 1)) ck)) n) n) cap56], .int .i64 (feT (ovE (fcT (tkF (tmR el mw md ms mt tx tz) n) (mxL (tkF (tmR el mw md ms mt tx tz) n) (n - 1)) ck)) n)]) (by kernel_rfl) (fun _ => by kernel_rfl)) rfl (fun ac A58 => ?_)
      refine s_one (.int .i64 (feT (ovE (fcT (tkF (tmR el mw md ms mt tx tz) n) (mxL (tkF (tmR el mw md ms mt tx tz) n) (n - 1)) ck)) n)) A58 S51 (g_extract (u := .tuple #[.agg #[.int .i64 (zv (feT (ovE (fcT (tkF (tmR el mw md ms mt tx tz) n) (mxL (tkF (tmR el mw md ms mt tx tz) n) (n - 1)) ck)) n) ck), .slice A55 (bN (feT (ovE (fcT (tkF (tmR el mw md ms mt tx tz) n) (mxL (tkF (tmR el mw md ms mt tx tz) n) (n - 1)) ck)) n) n) cap56], .int .i64 (feT (ovE (fcT (tkF (tmR el mw md ms mt tx tz) n) (mxL (tkF (tmR el mw md ms mt tx tz) n) (n - 1)) ck)) n)]) (by kernel_rfl) (fun _ => by kernel_rfl)) rfl (fun ac A59 => ?_)
      refine s_store (g := g11) (off := 0) (v := .agg #[.int .i64 (zv (feT (ovE (fcT (tkF (tmR el mw md ms mt tx tz) n) (mxL (tkF (tmR el mw md ms mt tx tz) n) (n - 1)) ck)) n) ck), .slice A55 (bN (feT (ovE (fcT (tkF (tmR el mw md ms mt tx tz) n) (mxL (tkF (tmR el mw md ms mt tx tz) n) (n - 1)) ck)) n) n) cap56]) 0 (#[.int .i64 (zv (feT (ovE (fcT (tkF (tmR el mw md ms mt tx tz) n) (mxL (tkF (tmR el mw md ms mt tx tz) n) (n - 1)) ck)) n) ck), .slice A55 (bN (feT (ovE (fcT (tkF (tmR el mw md ms mt tx tz) n) (mxL (tkF (tmR el mw md ms mt tx tz) n) (n - 1)) ck)) n) n) cap56]) A59 S51 (by kernel_rfl) (by kernel_rfl) rfl (by kernel_rfl) (fun wc S61 => ?_)
      refine s_one (.int .i64 (feT (ovE (fcT (tkF (tmR el mw md ms mt tx tz) n) (mxL (tkF (tmR el mw md ms mt tx tz) n) (n - 1)) ck)) n)) A59 S61 (g_assign (by kernel_rfl)) rfl (fun ac A63 => ?_)
      refine wpList_nil ?_
      refine n_then ?_
      refine wp_ret ?_
      refine fin2 (.agg #[.int .i64 (zv (feT (ovE (fcT (tkF (tmR el mw md ms mt tx tz) n) (mxL (tkF (tmR el mw md ms mt tx tz) n) (n - 1)) ck)) n) ck), .slice A55 (bN (feT (ovE (fcT (tkF (tmR el mw md ms mt tx tz) n) (mxL (tkF (tmR el mw md ms mt tx tz) n) (n - 1)) ck)) n) n) cap56]) (.int .i64 (feT (ovE (fcT (tkF (tmR el mw md ms mt tx tz) n) (mxL (tkF (tmR el mw md ms mt tx tz) n) (n - 1)) ck)) n)) Try.results6 A63 S61 (rv_cell (g := g11) (off := 0) 0 (by kernel_rfl) rfl (by kernel_rfl)) (rv_tmp (by kernel_rfl)) ?_
      have bw := S61.kp
      have ow := S61.row 0 rfl
      rw [er]
      exact ⟨_, rfl, bw, ow⟩

end Go.Proofs.Ytfeapeblnnmhlaa
