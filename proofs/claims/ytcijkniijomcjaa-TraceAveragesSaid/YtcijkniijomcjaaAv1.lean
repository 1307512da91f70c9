/- Means of matrices: the reference. -/
import Derived.Test.YtcijkniijomcjaaAvg
namespace Go.Proofs.Ytcijkniijomcjaa
open Go.RowKit Go.Cpl

theorem ix_xsB {P : Program} {t : TypeId} {A : Option Addr} {ad : Addr} {m c e size : Nat} {bytes : Nat} {i : Int} (k : Nat) (he : elemInfo P t = some (e, size, bytes)) (hi : i = (k : Int)) (hk : k < m) (hA : A = some ad) (w : World) : (Instr.indexAt t (.slice A m c) (.int .i64 i)).run P w = .ok (.pointer (some (ad.add (k * size)))) w := by
  subst hA; exact ix_xs k he hi hk w
theorem ix_xA {P : Program} {t : TypeId} {A : Option Addr} {ad : Addr} {m c e : Nat} {bytes : Nat} {i : Int} (k : Nat) (he : elemInfo P t = some (e, 1, bytes)) (hi : i = (k : Int)) (hk : k < m) (hA : A = some ad) (w : World) : (Instr.indexAt t (.slice A m c) (.int .i64 i)).run P w = .ok (.pointer (some (ad.add k))) w := by
  subst hA; exact ix_x k he hi hk w

set_option maxRecDepth 100000 in
set_option maxHeartbeats 400000 in
theorem rounded_s (s : Int) (n : Nat) (w0 : World) (hs : -1000000 ≤ s ∧ s ≤ 1000000) (h1 : 1 ≤ n) (h2 : n ≤ 1000) :
    Calls Try.prog 75 #[.int .i64 s, .int .i64 (n : Int)] w0 fun e w' => e = .returned (.int .i64 (rndI s n)) ∧ Below w0.heap.size w0 w' := by
  have S0 := St.start w0
  refine enter (n := 12) Try.func75 rfl rfl rfl (fun ac A0 => ?_)
  refine wp_seq ?_
  refine wp_region_lit ?_
  refine s_one (.int .i64 0) A0 S0 (g_assign (by kernel_rfl)) rfl (fun ac A1 => ?_)
  refine wpList_nil ?_
  refine n_then ?_
  refine wp_seq ?_
  refine wp_region_lit ?_
  refine s_one (.int .i64 s) A1 S0 (g_move (by kernel_rfl)) rfl (fun ac A2 => ?_)
  refine s_one (.int .i64 (2 * s)) A2 S0 (g_bin (u := .int .i64 2) (k := .int .i64 s) (by kernel_rfl) (by kernel_rfl) (fun _ => by kernel_rfl) (b_mul (by omega))) rfl (fun ac A3 => ?_)
  refine s_one (.int .i64 (n : Int)) A3 S0 (g_move (by kernel_rfl)) rfl (fun ac A4 => ?_)
  refine s_one (.int .i64 (2 * s + (n : Int))) A4 S0 (g_bin (u := .int .i64 (2 * s)) (k := .int .i64 (n : Int)) (by kernel_rfl) (by kernel_rfl) (fun _ => by kernel_rfl) (b_add (by omega))) rfl (fun ac A5 => ?_)
  refine s_one (.int .i64 (n : Int)) A5 S0 (g_move (by kernel_rfl)) rfl (fun ac A6 => ?_)
  refine s_one (.int .i64 (2 * (n : Int))) A6 S0 (g_bin (u := .int .i64 2) (k := .int .i64 (n : Int)) (by kernel_rfl) (by kernel_rfl) (fun _ => by kernel_rfl) (b_mul (by omega))) rfl (fun ac A7 => ?_)
  refine s_call (fs := #[]) (cp := #[]) (r := [(0, .int .i64 (2 * s + (n : Int))), (0, .int .i64 (2 * (n : Int)))]) #[.int .i64 (2 * s + (n : Int)), .int .i64 (2 * (n : Int))] (.int .i64 ((2 * s + (n : Int)) / (2 * (n : Int)))) A7 S0 (sameB (floor_any (2 * s + (n : Int)) (2 * (n : Int)) _ (by omega) (by omega) (by omega))) Try.call99 (by kernel_rfl) (by kernel_rfl) (by kernel_rfl) rfl (fun ac wc A8 S9 => ?_)
  refine s_one (.int .i64 ((2 * s + (n : Int)) / (2 * (n : Int)))) A8 S9 (g_assign (by kernel_rfl)) rfl (fun ac A11 => ?_)
  refine wpList_nil ?_
  refine n_then ?_
  refine wp_ret ?_
  refine fin1 (.int .i64 ((2 * s + (n : Int)) / (2 * (n : Int)))) Try.results75 A11 S9 (rv_tmp (by kernel_rfl)) ⟨?_, S9.kp⟩
  rfl

set_option maxRecDepth 100000 in
set_option maxHeartbeats 400000 in
theorem refRounded_s (s : Int) (n : Nat) (w0 : World) (hs : -1000000 ≤ s ∧ s ≤ 1000000) (h1 : 1 ≤ n) (h2 : n ≤ 1000) :
    Calls Try.prog 76 #[.int .i64 s, .int .i64 (n : Int)] w0 fun e w' => e = .returned (.int .i64 (rndI s n)) ∧ Below w0.heap.size w0 w' := by
  have S0 := St.start w0
  refine enter (n := 12) Try.func76 rfl rfl rfl (fun ac A0 => ?_)
  refine wp_seq ?_
  refine wp_region_lit ?_
  refine s_one (.int .i64 0) A0 S0 (g_assign (by kernel_rfl)) rfl (fun ac A1 => ?_)
  refine wpList_nil ?_
  refine n_then ?_
  refine wp_seq ?_
  refine wp_region_lit ?_
  refine s_one (.int .i64 s) A1 S0 (g_move (by kernel_rfl)) rfl (fun ac A2 => ?_)
  refine s_one (.int .i64 (2 * s)) A2 S0 (g_bin (u := .int .i64 2) (k := .int .i64 s) (by kernel_rfl) (by kernel_rfl) (fun _ => by kernel_rfl) (b_mul (by omega))) rfl (fun ac A3 => ?_)
  refine s_one (.int .i64 (n : Int)) A3 S0 (g_move (by kernel_rfl)) rfl (fun ac A4 => ?_)
  refine s_one (.int .i64 (2 * s + (n : Int))) A4 S0 (g_bin (u := .int .i64 (2 * s)) (k := .int .i64 (n : Int)) (by kernel_rfl) (by kernel_rfl) (fun _ => by kernel_rfl) (b_add (by omega))) rfl (fun ac A5 => ?_)
  refine s_one (.int .i64 (n : Int)) A5 S0 (g_move (by kernel_rfl)) rfl (fun ac A6 => ?_)
  refine s_one (.int .i64 (2 * (n : Int))) A6 S0 (g_bin (u := .int .i64 2) (k := .int .i64 (n : Int)) (by kernel_rfl) (by kernel_rfl) (fun _ => by kernel_rfl) (b_mul (by omega))) rfl (fun ac A7 => ?_)
  refine s_call (fs := #[]) (cp := #[]) (r := [(0, .int .i64 (2 * s + (n : Int))), (0, .int .i64 (2 * (n : Int)))]) #[.int .i64 (2 * s + (n : Int)), .int .i64 (2 * (n : Int))] (.int .i64 ((2 * s + (n : Int)) / (2 * (n : Int)))) A7 S0 (sameB (Floor_any (2 * s + (n : Int)) (2 * (n : Int)) _ (by omega) (by omega) (by omega))) Try.call106 (by kernel_rfl) (by kernel_rfl) (by kernel_rfl) rfl (fun ac wc A8 S9 => ?_)
  refine s_one (.int .i64 ((2 * s + (n : Int)) / (2 * (n : Int)))) A8 S9 (g_assign (by kernel_rfl)) rfl (fun ac A11 => ?_)
  refine wpList_nil ?_
  refine n_then ?_
  refine wp_ret ?_
  refine fin1 (.int .i64 ((2 * s + (n : Int)) / (2 * (n : Int)))) Try.results76 A11 S9 (rv_tmp (by kernel_rfl)) ⟨?_, S9.kp⟩
  rfl

theorem num_range {x : Nat} (h : sErr x = 0) : -2047 ≤ num x ∧ num x ≤ 2047 := (sErr_zero h).2

set_option maxRecDepth 100000 in
set_option maxHeartbeats 400000 in
theorem refAveraged_s (A : Option Addr) (cap : Nat) (ms : List Mt) (w0 : World) (hr : MtReads w0 A ms) (hl : ms.length ≤ 1000) :
    Calls Try.prog 29 #[.slice A ms.length cap] w0 fun e w' => ∃ v, e = .returned (.tuple #[.agg #[.int .i64 (avE ms), v], .int .i64 (avZ ms)]) ∧ Below w0.heap.size w0 w' ∧ w'.ownsRow w0.heap.size 36 1 v ((avW ms).length) (rowF (avW ms)) := by
  have S0 := St.start w0
  refine enter (n := 90) Try.func29 rfl rfl rfl (fun ac A0 => ?_)
  refine wp_seq ?_
  refine wp_region_lit ?_
  refine s_alloc (#[.int .i64 0, .slice none 0 0]) A0 S0 (by kernel_rfl) rfl (fun g3 ac wc A1 S2 => ?_)
  refine s_one (.int .i64 0) A1 S2 (g_assign (by kernel_rfl)) rfl (fun ac A4 => ?_)
  refine wpList_nil ?_
  refine n_then ?_
  refine wp_seq ?_
  refine wp_seq ?_
  refine wp_region_lit ?_
  refine s_one (.slice A ms.length cap) A4 S2 (g_move (by kernel_rfl)) rfl (fun ac A5 => ?_)
  refine s_one (.int .i64 (ms.length : Int)) A5 S2 (g_built (r := [(0, .slice A ms.length cap)]) (by kernel_rfl) (fun _ _ _ => by kernel_rfl)) rfl (fun ac A6 => ?_)
  refine s_one (.bool (decide ((ms.length : Int) = 0))) A6 S2 (g_bin (u := .int .i64 (ms.length : Int)) (k := .int .i64 0) (by kernel_rfl) (by kernel_rfl) (fun _ => by kernel_rfl) b_eql) rfl (fun ac A7 => ?_)
  refine wpList_nil ?_
  refine n_then ?_
  refine c_ifb (b := (decide ((ms.length : Int) = 0))) A7 (by kernel_rfl) (fun h8 => ?_) (fun h8 => ?_)
  · have p9 := of_decide_eq_true h8
    refine wp_seq ?_
    refine wp_region_lit ?_
    refine s_one (.agg #[.int .i64 0, .slice none 0 0]) A7 S2 (g_build (r := []) (by kernel_rfl) (fun _ => by kernel_rfl)) rfl (fun ac A10 => ?_)
    refine s_store (g := g3) (off := 0) (v := .agg #[.int .i64 0, .slice none 0 0]) 0 (#[.int .i64 0, .slice none 0 0]) A10 S2 (by kernel_rfl) (by kernel_rfl) rfl (by kernel_rfl) (fun wc S12 => ?_)
    refine s_one (.int .i64 10) A10 S12 (g_assign (by kernel_rfl)) rfl (fun ac A14 => ?_)
    refine wpList_nil ?_
    refine n_then ?_
    refine wp_ret ?_
    refine r_then ?_
    have S15 := S12.nilRow 36 1
    refine fin2 (.agg #[.int .i64 0, .slice none 0 0]) (.int .i64 10) Try.results29 A14 S15 (rv_cell (g := g3) (off := 0) 0 (by kernel_rfl) rfl (by kernel_rfl)) (rv_tmp (by kernel_rfl)) ?_
    have bw := S15.kp
    have ow := S15.row 0 rfl
    have ez := avZ_0 (ms := ms) (by omega)
    obtain ⟨e1, e2⟩ := av_err ez (by decide)
    rw [e1, e2, ez]
    exact ⟨_, rfl, bw, ow⟩
  · have p16 := of_decide_eq_false h8
    refine wp_skip ?_
    refine n_then ?_
    refine wp_seq ?_
    refine wp_seq ?_
    refine wp_region_lit ?_
    refine s_one (.slice A ms.length cap) A7 S2 (g_move (by kernel_rfl)) rfl (fun ac A17 => ?_)
    refine s_one (.int .i64 (ms.length : Int)) A17 S2 (g_built (r := [(0, .slice A ms.length cap)]) (by kernel_rfl) (fun _ _ _ => by kernel_rfl)) rfl (fun ac A18 => ?_)
    refine s_one (.bool (decide ((ms.length : Int) > 32))) A18 S2 (g_bin (u := .int .i64 (ms.length : Int)) (k := .int .i64 32) (by kernel_rfl) (by kernel_rfl) (fun _ => by kernel_rfl) (fun _ => by kernel_rfl)) rfl (fun ac A19 => ?_)
    refine wpList_nil ?_
    refine n_then ?_
    refine c_ifb (b := (decide ((ms.length : Int) > 32))) A19 (by kernel_rfl) (fun h20 => ?_) (fun h20 => ?_)
    · have p21 := of_decide_eq_true h20
      refine wp_seq ?_
      refine wp_region_lit ?_
      refine s_one (.agg #[.int .i64 0, .slice none 0 0]) A19 S2 (g_build (r := []) (by kernel_rfl) (fun _ => by kernel_rfl)) rfl (fun ac A22 => ?_)
      refine s_store (g := g3) (off := 0) (v := .agg #[.int .i64 0, .slice none 0 0]) 0 (#[.int .i64 0, .slice none 0 0]) A22 S2 (by kernel_rfl) (by kernel_rfl) rfl (by kernel_rfl) (fun wc S24 => ?_)
      refine s_one (.int .i64 8) A22 S24 (g_assign (by kernel_rfl)) rfl (fun ac A26 => ?_)
      refine wpList_nil ?_
      refine n_then ?_
      refine wp_ret ?_
      refine r_then ?_
      have S27 := S24.nilRow 36 1
      refine fin2 (.agg #[.int .i64 0, .slice none 0 0]) (.int .i64 8) Try.results29 A26 S27 (rv_cell (g := g3) (off := 0) 0 (by kernel_rfl) rfl (by kernel_rfl)) (rv_tmp (by kernel_rfl)) ?_
      have bw := S27.kp
      have ow := S27.row 0 rfl
      have ez := avZ_1 (ms := ms) (by omega)
      obtain ⟨e1, e2⟩ := av_err ez (by decide)
      rw [e1, e2, ez]
      exact ⟨_, rfl, bw, ow⟩
    · have p28 := of_decide_eq_false h20
      refine wp_skip ?_
      refine n_then ?_
      refine wp_seq ?_
      refine wp_seq ?_
      refine wp_region_lit ?_
      refine s_one (.int .i64 0) A19 S2 (g_assign (by kernel_rfl)) rfl (fun ac A29 => ?_)
      refine wpList_nil ?_
      refine n_then ?_
      refine wp_block ?_
      refine c_loopN (fun mm ac wc => ∃ (k : Nat), mm = ms.length - k ∧ (k ≤ ms.length) ∧ (avGood ms k) ∧ Fr 90 ac [(0, .slice A ms.length cap), (2, .pointer (some ⟨g3, 0, none⟩)), (11, .slice A ms.length cap), (12, .int .i64 (ms.length : Int)), (13, .bool (decide ((ms.length : Int) = 0))), (15, .slice A ms.length cap), (16, .int .i64 (ms.length : Int)), (17, .bool (decide ((ms.length : Int) > 32))), (4, .int .i64 (k : Int))] ∧ St w0 [⟨g3, 30, #[.int .i64 0, .slice none 0 0], true⟩] [] wc) _ ⟨0, rfl, Nat.zero_le _, good_zero ms, (A29.slot (A29.slot (A29.slot (A29.slot (A29.slot (A29.slot (A29.slot (A29.slot (A29.slot A29.nil (v := .int .i64 0) (by kernel_rfl) (congrArg (Value.int .i64) (by omega))) (v := .bool (decide ((ms.length : Int) > 32))) (by kernel_rfl) rfl) (v := .int .i64 (ms.length : Int)) (by kernel_rfl) rfl) (v := .slice A ms.length cap) (by kernel_rfl) rfl) (v := .bool (decide ((ms.length : Int) = 0))) (by kernel_rfl) rfl) (v := .int .i64 (ms.length : Int)) (by kernel_rfl) rfl) (v := .slice A ms.length cap) (by kernel_rfl) rfl) (v := .pointer (some ⟨g3, 0, none⟩)) (by kernel_rfl) rfl) (v := .slice A ms.length cap) (by kernel_rfl) rfl), S2.sub sub_all sub_all⟩ ?_
      rintro mm ac wc ⟨k, hm32, hk, hgd, A30, S31⟩
      refine wp_seq ?_
      refine wp_seq ?_
      refine wp_region_lit ?_
      refine s_one (.int .i64 (k : Int)) A30 S31 (g_move (by kernel_rfl)) rfl (fun ac A33 => ?_)
      refine s_one (.slice A ms.length cap) A33 S31 (g_move (by kernel_rfl)) rfl (fun ac A34 => ?_)
      refine s_one (.int .i64 (ms.length : Int)) A34 S31 (g_built (r := [(0, .slice A ms.length cap)]) (by kernel_rfl) (fun _ _ _ => by kernel_rfl)) rfl (fun ac A35 => ?_)
      refine s_one (.bool (decide ((k : Int) < (ms.length : Int)))) A35 S31 (g_bin (u := .int .i64 (k : Int)) (k := .int .i64 (ms.length : Int)) (by kernel_rfl) (by kernel_rfl) (fun _ => by kernel_rfl) (fun _ => by kernel_rfl)) rfl (fun ac A36 => ?_)
      refine wpList_nil ?_
      refine n_then ?_
      refine c_ifb (b := (decide ((k : Int) < (ms.length : Int)))) A36 (by kernel_rfl) (fun h37 => ?_) (fun h37 => ?_)
      · have p38 := of_decide_eq_true h37
        refine wp_skip ?_
        refine n_then ?_
        refine wp_seq ?_
        refine wp_block ?_
        refine wp_seq ?_
        refine wp_seq ?_
        refine wp_region_lit ?_
        refine s_one (.slice A ms.length cap) A36 S31 (g_move (by kernel_rfl)) rfl (fun ac A39 => ?_)
        refine s_one (.int .i64 (k : Int)) A39 S31 (g_move (by kernel_rfl)) rfl (fun ac A40 => ?_)
        obtain ⟨ad41, he42, hx43⟩ := mt_at hr (k := k) (by omega)
        have hq44 := (hr.2 k (by omega)).few
        have hq45 := (hr.2 k (by omega)).cap
        have hq46 := (hr.2 k (by omega)).len
        refine s_one (.pointer (some (ad41.add (k * 2)))) A40 S31 (g_index (u := .slice A ms.length cap) (k := .int .i64 (k : Int)) (by kernel_rfl) (by kernel_rfl) (ix_xsB (e := 30) (size := 2) (bytes := 32) k (by kernel_rfl) (by omega) (by omega) he42)) rfl (fun ac A47 => ?_)
        refine s_one (.agg #[.int .i64 ((mtK ms k).el), .slice (mtK ms k).B ((mtK ms k).n) (mtK ms k).c]) A47 S31 (g_loadXV (p := ad41.add (k * 2)) (X := mtC (mtK ms k)) (by kernel_rfl) hx43 (by kernel_rfl) rfl) rfl (fun ac A48 => ?_)
        refine s_call (fs := #[]) (cp := #[]) (r := [(0, .agg #[.int .i64 ((mtK ms k).el), .slice (mtK ms k).B ((mtK ms k).n) (mtK ms k).c])]) #[.agg #[.int .i64 ((mtK ms k).el), .slice (mtK ms k).B ((mtK ms k).n) (mtK ms k).c]] (.tuple #[.int .i64 ((mxC ((mtK ms k).el) ((mtK ms k).xs)).1), .int .i64 ((mxC ((mtK ms k).el) ((mtK ms k).xs)).2)]) A48 S31 (refCheckMatrix_s ((mtK ms k).el) (mtK ms k).B ((mtK ms k).n) (mtK ms k).c ((mtK ms k).xs) _ (hr.2 k (by omega)).len ((hr.2 k (by omega)).rd.kept S31.kp) (by omega)) Try.call17 (by kernel_rfl) (by kernel_rfl) (by kernel_rfl) rfl (fun ac wc A49 S50 => ?_)
        refine s_one (.tuple #[.int .i64 ((mxC ((mtK ms k).el) ((mtK ms k).xs)).1), .int .i64 ((mxC ((mtK ms k).el) ((mtK ms k).xs)).2)]) A49 S50 (g_move (by kernel_rfl)) rfl (fun ac A52 => ?_)
        refine s_one (.int .i64 ((mxC ((mtK ms k).el) ((mtK ms k).xs)).1)) A52 S50 (g_extract (u := .tuple #[.int .i64 ((mxC ((mtK ms k).el) ((mtK ms k).xs)).1), .int .i64 ((mxC ((mtK ms k).el) ((mtK ms k).xs)).2)]) (by kernel_rfl) (fun _ => by kernel_rfl)) rfl (fun ac A53 => ?_)
        refine s_one (.int .i64 ((mxC ((mtK ms k).el) ((mtK ms k).xs)).2)) A53 S50 (g_extract (u := .tuple #[.int .i64 ((mxC ((mtK ms k).el) ((mtK ms k).xs)).1), .int .i64 ((mxC ((mtK ms k).el) ((mtK ms k).xs)).2)]) (by kernel_rfl) (fun _ => by kernel_rfl)) rfl (fun ac A54 => ?_)
        refine s_one (.int .i64 ((mxC ((mtK ms k).el) ((mtK ms k).xs)).1)) A54 S50 (g_assign (by kernel_rfl)) rfl (fun ac A55 => ?_)
        refine s_one (.int .i64 ((mxC ((mtK ms k).el) ((mtK ms k).xs)).2)) A55 S50 (g_assign (by kernel_rfl)) rfl (fun ac A56 => ?_)
        refine wpList_nil ?_
        refine n_then ?_
        refine wp_seq ?_
        refine wp_region_lit ?_
        refine s_one (.int .i64 ((mxC ((mtK ms k).el) ((mtK ms k).xs)).2)) A56 S50 (g_move (by kernel_rfl)) rfl (fun ac A57 => ?_)
        refine s_one (.bool (decide ((mxC ((mtK ms k).el) ((mtK ms k).xs)).2 ≠ 0))) A57 S50 (g_bin (u := .int .i64 ((mxC ((mtK ms k).el) ((mtK ms k).xs)).2)) (k := .int .i64 0) (by kernel_rfl) (by kernel_rfl) (fun _ => by kernel_rfl) b_neq) rfl (fun ac A58 => ?_)
        refine wpList_nil ?_
        refine n_then ?_
        refine c_ifb (b := (decide ((mxC ((mtK ms k).el) ((mtK ms k).xs)).2 ≠ 0))) A58 (by kernel_rfl) (fun h59 => ?_) (fun h59 => ?_)
        · have p60 := of_decide_eq_true h59
          have hne := p60
          refine wp_seq ?_
          refine wp_region_lit ?_
          refine s_one (.agg #[.int .i64 0, .slice none 0 0]) A58 S50 (g_build (r := []) (by kernel_rfl) (fun _ => by kernel_rfl)) rfl (fun ac A61 => ?_)
          refine s_one (.int .i64 ((mxC ((mtK ms k).el) ((mtK ms k).xs)).2)) A61 S50 (g_move (by kernel_rfl)) rfl (fun ac A62 => ?_)
          refine s_store (g := g3) (off := 0) (v := .agg #[.int .i64 0, .slice none 0 0]) 0 (#[.int .i64 0, .slice none 0 0]) A62 S50 (by kernel_rfl) (by kernel_rfl) rfl (by kernel_rfl) (fun wc S64 => ?_)
          refine s_one (.int .i64 ((mxC ((mtK ms k).el) ((mtK ms k).xs)).2)) A62 S64 (g_assign (by kernel_rfl)) rfl (fun ac A66 => ?_)
          refine wpList_nil ?_
          refine n_then ?_
          refine wp_ret ?_
          refine r_then ?_
          refine r_block ?_
          refine r_then ?_
          refine r_then ?_
          refine r_block ?_
          refine r_then ?_
          have S67 := S64.nilRow 36 1
          refine fin2 (.agg #[.int .i64 0, .slice none 0 0]) (.int .i64 ((mxC ((mtK ms k).el) ((mtK ms k).xs)).2)) Try.results29 A66 S67 (rv_cell (g := g3) (off := 0) 0 (by kernel_rfl) rfl (by kernel_rfl)) (rv_tmp (by kernel_rfl)) ?_
          have bw := S67.kp
          have ow := S67.row 0 rfl
          have ez := avZ_e (ms := ms) (k := k) (by omega) (by omega) hgd hne
          rw [← ez]
          rw [← ez] at hne
          obtain ⟨e1, e2⟩ := av_err rfl hne
          rw [e1, e2]
          exact ⟨_, rfl, bw, ow⟩
        · have p68 := of_decide_eq_false h59
          have hz := Decidable.of_not_not p68
          refine wp_skip ?_
          refine n_then ?_
          refine wp_seq ?_
          refine r_begin (w0 := w0) (by kernel_rfl) (S50.sub sub_all sub_all) (fun wc T69 B70 => ?_)
          have S71 := S50.kept B70
          refine r_take 0 (.slice A ms.length cap) A58 T69 (g_move (by kernel_rfl)) rfl rfl rfl (pf_then (pf_block (pf_then (pf_then (pf_block (pf_then pf_body)))))) (by kernel_rfl) (fun ac A72 => ?_)
          refine r_take 1 (.int .i64 (k : Int)) A72 T69 (g_move (by kernel_rfl)) rfl rfl rfl (pf_then (pf_block (pf_then (pf_then (pf_block (pf_then pf_body)))))) (by kernel_rfl) (fun ac A73 => ?_)
          obtain ⟨ad74, he75, hx76⟩ := mt_at hr (k := k) (by omega)
          have hq77 := (hr.2 k (by omega)).few
          have hq78 := (hr.2 k (by omega)).cap
          have hq79 := (hr.2 k (by omega)).len
          refine r_take 2 (.pointer (some (ad74.add (k * 2)))) A73 T69 (g_index (u := .slice A ms.length cap) (k := .int .i64 (k : Int)) (by kernel_rfl) (by kernel_rfl) (ix_xsB (e := 30) (size := 2) (bytes := 32) k (by kernel_rfl) (by omega) (by omega) he75)) rfl rfl rfl (pf_then (pf_block (pf_then (pf_then (pf_block (pf_then pf_body)))))) (by kernel_rfl) (fun ac A80 => ?_)
          refine r_take 3 (.pointer (some (ad74.add (k * 2 + 0)))) A80 T69 (g_field (u := .pointer (some (ad74.add (k * 2)))) (by kernel_rfl) (fld_x (o := 0) (by kernel_rfl))) rfl rfl rfl (pf_then (pf_block (pf_then (pf_then (pf_block (pf_then pf_body)))))) (by kernel_rfl) (fun ac A81 => ?_)
          refine r_take 4 (.int .i64 ((mtK ms k).el)) A81 T69 (g_loadX (ad := ad74.add (k * 2 + 0)) (by kernel_rfl) (mt_cell (ms := ms) (k := k) (j := 0) hx76 (by omega) rfl) (by kernel_rfl)) rfl rfl rfl (pf_then (pf_block (pf_then (pf_then (pf_block (pf_then pf_body)))))) (by kernel_rfl) (fun ac A82 => ?_)
          refine r_take 5 (.slice A ms.length cap) A82 T69 (g_move (by kernel_rfl)) rfl rfl rfl (pf_then (pf_block (pf_then (pf_then (pf_block (pf_then pf_body)))))) (by kernel_rfl) (fun ac A83 => ?_)
          obtain ⟨ad84, he85, hx86⟩ := mt_at hr (k := 0) (by omega)
          have hq87 := (hr.2 0 (by omega)).few
          have hq88 := (hr.2 0 (by omega)).cap
          have hq89 := (hr.2 0 (by omega)).len
          refine r_take 6 (.pointer (some (ad84.add (0 * 2)))) A83 T69 (g_index (u := .slice A ms.length cap) (k := .int .i64 0) (by kernel_rfl) (by kernel_rfl) (ix_xsB (e := 30) (size := 2) (bytes := 32) 0 (by kernel_rfl) (by omega) (by omega) he85)) rfl rfl rfl (pf_then (pf_block (pf_then (pf_then (pf_block (pf_then pf_body)))))) (by kernel_rfl) (fun ac A90 => ?_)
          refine r_take 7 (.pointer (some (ad84.add (0 * 2 + 0)))) A90 T69 (g_field (u := .pointer (some (ad84.add (0 * 2)))) (by kernel_rfl) (fld_x (o := 0) (by kernel_rfl))) rfl rfl rfl (pf_then (pf_block (pf_then (pf_then (pf_block (pf_then pf_body)))))) (by kernel_rfl) (fun ac A91 => ?_)
          refine r_take 8 (.int .i64 ((mtK ms 0).el)) A91 T69 (g_loadX (ad := ad84.add (0 * 2 + 0)) (by kernel_rfl) (mt_cell (ms := ms) (k := 0) (j := 0) hx86 (by omega) rfl) (by kernel_rfl)) rfl rfl rfl (pf_then (pf_block (pf_then (pf_then (pf_block (pf_then pf_body)))))) (by kernel_rfl) (fun ac A92 => ?_)
          refine r_take 9 (.bool (decide ((mtK ms k).el ≠ (mtK ms 0).el))) A92 T69 (g_bin (u := .int .i64 ((mtK ms k).el)) (k := .int .i64 ((mtK ms 0).el)) (by kernel_rfl) (by kernel_rfl) (fun _ => by kernel_rfl) b_neq) rfl rfl rfl (pf_then (pf_block (pf_then (pf_then (pf_block (pf_then pf_body)))))) (by kernel_rfl) (fun ac A93 => ?_)
          refine r_done (by kernel_rfl) ?_
          refine n_then ?_
          refine c_ifb (b := (decide ((mtK ms k).el ≠ (mtK ms 0).el))) A93 (by kernel_rfl) (fun h94 => ?_) (fun h94 => ?_)
          · have p95 := of_decide_eq_true h94
            have hcl := p95
            refine wp_seq ?_
            refine wp_region_lit ?_
            refine s_one (.agg #[.int .i64 0, .slice none 0 0]) A93 S71 (g_build (r := []) (by kernel_rfl) (fun _ => by kernel_rfl)) rfl (fun ac A96 => ?_)
            refine s_store (g := g3) (off := 0) (v := .agg #[.int .i64 0, .slice none 0 0]) 0 (#[.int .i64 0, .slice none 0 0]) A96 S71 (by kernel_rfl) (by kernel_rfl) rfl (by kernel_rfl) (fun wc S98 => ?_)
            refine s_one (.int .i64 13) A96 S98 (g_assign (by kernel_rfl)) rfl (fun ac A100 => ?_)
            refine wpList_nil ?_
            refine n_then ?_
            refine wp_ret ?_
            refine r_block ?_
            refine r_then ?_
            refine r_then ?_
            refine r_block ?_
            refine r_then ?_
            have S101 := S98.nilRow 36 1
            refine fin2 (.agg #[.int .i64 0, .slice none 0 0]) (.int .i64 13) Try.results29 A100 S101 (rv_cell (g := g3) (off := 0) 0 (by kernel_rfl) rfl (by kernel_rfl)) (rv_tmp (by kernel_rfl)) ?_
            have bw := S101.kp
            have ow := S101.row 0 rfl
            have ez := avZ_c (ms := ms) (k := k) (by omega) (by omega) hgd hz hcl
            obtain ⟨e1, e2⟩ := av_err ez (by decide)
            rw [e1, e2, ez]
            exact ⟨_, rfl, bw, ow⟩
          · have p102 := of_decide_eq_false h94
            have hcl := Decidable.of_not_not p102
            refine wp_skip ?_
            refine n_block ?_
            refine n_then ?_
            refine wp_region_lit ?_
            refine s_one (.int .i64 (k : Int)) A93 S71 (g_move (by kernel_rfl)) rfl (fun ac A103 => ?_)
            refine s_one (.int .i64 ((k : Int) + 1)) A103 S71 (g_bin (u := .int .i64 (k : Int)) (k := .int .i64 1) (by kernel_rfl) (by kernel_rfl) (fun _ => by kernel_rfl) (b_add (by omega))) rfl (fun ac A104 => ?_)
            refine s_one (.int .i64 ((k : Int) + 1)) A104 S71 (g_assign (by kernel_rfl)) rfl (fun ac A105 => ?_)
            refine wpList_nil ?_
            refine n_then ?_
            refine ⟨_, ⟨k + 1, rfl, by omega, good_snoc hgd hz hcl, (A105.slot (A105.slot (A105.slot (A105.slot (A105.slot (A105.slot (A105.slot (A105.slot (A105.slot A105.nil (v := .int .i64 ((k : Int) + 1)) (by kernel_rfl) (congrArg (Value.int .i64) (by omega))) (v := .bool (decide ((ms.length : Int) > 32))) (by kernel_rfl) rfl) (v := .int .i64 (ms.length : Int)) (by kernel_rfl) rfl) (v := .slice A ms.length cap) (by kernel_rfl) rfl) (v := .bool (decide ((ms.length : Int) = 0))) (by kernel_rfl) rfl) (v := .int .i64 (ms.length : Int)) (by kernel_rfl) rfl) (v := .slice A ms.length cap) (by kernel_rfl) rfl) (v := .pointer (some ⟨g3, 0, none⟩)) (by kernel_rfl) rfl) (v := .slice A ms.length cap) (by kernel_rfl) rfl), S71.sub sub_all sub_all⟩, ?_⟩
            omega
      · have p106 := of_decide_eq_false h37
        refine wp_exit ?_
        refine x_then ?_
        refine x_then ?_
        refine x_hit ?_
        refine n_then ?_
        refine wp_seq ?_
        have ek : k = ms.length := by omega
        have hgA : avGood ms ms.length := by rw [← ek]; exact hgd
        have hn0 := (hr.2 0 (by omega)).len
        have hf0 := (hr.2 0 (by omega)).few
        refine wp_region_lit ?_
        refine s_one (.slice A ms.length cap) A36 S31 (g_move (by kernel_rfl)) rfl (fun ac A107 => ?_)
        obtain ⟨ad108, he109, hx110⟩ := mt_at hr (k := 0) (by omega)
        have hq111 := (hr.2 0 (by omega)).few
        have hq112 := (hr.2 0 (by omega)).cap
        have hq113 := (hr.2 0 (by omega)).len
        refine s_one (.pointer (some (ad108.add (0 * 2)))) A107 S31 (g_index (u := .slice A ms.length cap) (k := .int .i64 0) (by kernel_rfl) (by kernel_rfl) (ix_xsB (e := 30) (size := 2) (bytes := 32) 0 (by kernel_rfl) (by omega) (by omega) he109)) rfl (fun ac A114 => ?_)
        refine s_one (.pointer (some (ad108.add (0 * 2 + 0)))) A114 S31 (g_field (u := .pointer (some (ad108.add (0 * 2)))) (by kernel_rfl) (fld_x (o := 0) (by kernel_rfl))) rfl (fun ac A115 => ?_)
        refine s_one (.int .i64 ((mtK ms 0).el)) A115 S31 (g_loadX (ad := ad108.add (0 * 2 + 0)) (by kernel_rfl) (mt_cell (ms := ms) (k := 0) (j := 0) hx110 (by omega) rfl) (by kernel_rfl)) rfl (fun ac A116 => ?_)
        refine s_one (.agg #[.int .i64 ((mtK ms 0).el), .slice none 0 0]) A116 S31 (g_build (r := [(0, .int .i64 ((mtK ms 0).el))]) (by kernel_rfl) (fun _ => by kernel_rfl)) rfl (fun ac A117 => ?_)
        refine s_alloc (#[.int .i64 0, .slice none 0 0]) A117 S31 (by kernel_rfl) rfl (fun g120 ac wc A118 S119 => ?_)
        refine s_store (g := g120) (off := 0) (v := .agg #[.int .i64 ((mtK ms 0).el), .slice none 0 0]) 0 (#[.int .i64 ((mtK ms 0).el), .slice none 0 0]) A118 S119 (by kernel_rfl) (by kernel_rfl) rfl (by kernel_rfl) (fun wc S122 => ?_)
        refine wpList_nil ?_
        refine n_then ?_
        refine wp_seq ?_
        refine wp_seq ?_
        have S0n := S122.nilRow 36 1
        refine wp_region_lit ?_
        refine s_one (.int .i64 0) A118 S0n (g_assign (by kernel_rfl)) rfl (fun ac A124 => ?_)
        refine wpList_nil ?_
        refine n_then ?_
        refine wp_block ?_
        refine c_loopN (fun mm ac wc => ∃ (p : Nat) (v : Value), mm = (mtK ms 0).n - p ∧ (p ≤ (mtK ms 0).n) ∧ Fr 90 ac [(0, .slice A ms.length cap), (2, .pointer (some ⟨g3, 0, none⟩)), (11, .slice A ms.length cap), (12, .int .i64 (ms.length : Int)), (13, .bool (decide ((ms.length : Int) = 0))), (15, .slice A ms.length cap), (16, .int .i64 (ms.length : Int)), (17, .bool (decide ((ms.length : Int) > 32))), (4, .int .i64 (k : Int)), (19, .int .i64 (k : Int)), (20, .slice A ms.length cap), (21, .int .i64 (ms.length : Int)), (22, .bool (decide ((k : Int) < (ms.length : Int)))), (48, .slice A ms.length cap), (49, .pointer (some (ad108.add (0 * 2)))), (50, .pointer (some (ad108.add (0 * 2 + 0)))), (51, .int .i64 ((mtK ms 0).el)), (52, .agg #[.int .i64 ((mtK ms 0).el), .slice none 0 0]), (7, .pointer (some ⟨g120, 0, none⟩)), (8, .int .i64 (p : Int))] ∧ St w0 [⟨g120, 30, #[.int .i64 ((mtK ms 0).el), v], true⟩, ⟨g3, 30, #[.int .i64 0, .slice none 0 0], true⟩] [⟨v, 36, 1, p, (rowF (fw (avL ms p)))⟩] wc) _ ⟨0, .slice none 0 0, rfl, by omega, (A124.slot (A124.slot (A124.slot (A124.slot (A124.slot (A124.slot (A124.slot (A124.slot (A124.slot (A124.slot (A124.slot (A124.slot (A124.slot (A124.slot (A124.slot (A124.slot (A124.slot (A124.slot (A124.slot (A124.slot A124.nil (v := .int .i64 0) (by kernel_rfl) (congrArg (Value.int .i64) (by omega))) (v := .pointer (some ⟨g120, 0, none⟩)) (by kernel_rfl) rfl) (v := .agg #[.int .i64 ((mtK ms 0).el), .slice none 0 0]) (by kernel_rfl) rfl) (v := .int .i64 ((mtK ms 0).el)) (by kernel_rfl) rfl) (v := .pointer (some (ad108.add (0 * 2 + 0)))) (by kernel_rfl) rfl) (v := .pointer (some (ad108.add (0 * 2)))) (by kernel_rfl) rfl) (v := .slice A ms.length cap) (by kernel_rfl) rfl) (v := .bool (decide ((k : Int) < (ms.length : Int)))) (by kernel_rfl) rfl) (v := .int .i64 (ms.length : Int)) (by kernel_rfl) rfl) (v := .slice A ms.length cap) (by kernel_rfl) rfl) (v := .int .i64 (k : Int)) (by kernel_rfl) rfl) (v := .int .i64 (k : Int)) (by kernel_rfl) rfl) (v := .bool (decide ((ms.length : Int) > 32))) (by kernel_rfl) rfl) (v := .int .i64 (ms.length : Int)) (by kernel_rfl) rfl) (v := .slice A ms.length cap) (by kernel_rfl) rfl) (v := .bool (decide ((ms.length : Int) = 0))) (by kernel_rfl) rfl) (v := .int .i64 (ms.length : Int)) (by kernel_rfl) rfl) (v := .slice A ms.length cap) (by kernel_rfl) rfl) (v := .pointer (some ⟨g3, 0, none⟩)) (by kernel_rfl) rfl) (v := .slice A ms.length cap) (by kernel_rfl) rfl), (St.rerow 0 (St.recell 0 S0n rfl (by rfl)) rfl ⟨rfl, rfl⟩).sub sub_all sub_all⟩ ?_
        rintro mm ac wc ⟨p, v, hm127, hp, A125, S126⟩
        refine wp_seq ?_
        refine wp_seq ?_
        refine wp_region_lit ?_
        refine s_one (.int .i64 (p : Int)) A125 S126 (g_move (by kernel_rfl)) rfl (fun ac A128 => ?_)
        refine s_one (.slice A ms.length cap) A128 S126 (g_move (by kernel_rfl)) rfl (fun ac A129 => ?_)
        obtain ⟨ad130, he131, hx132⟩ := mt_at hr (k := 0) (by omega)
        have hq133 := (hr.2 0 (by omega)).few
        have hq134 := (hr.2 0 (by omega)).cap
        have hq135 := (hr.2 0 (by omega)).len
        refine s_one (.pointer (some (ad130.add (0 * 2)))) A129 S126 (g_index (u := .slice A ms.length cap) (k := .int .i64 0) (by kernel_rfl) (by kernel_rfl) (ix_xsB (e := 30) (size := 2) (bytes := 32) 0 (by kernel_rfl) (by omega) (by omega) he131)) rfl (fun ac A136 => ?_)
        refine s_one (.pointer (some (ad130.add (0 * 2 + 1)))) A136 S126 (g_field (u := .pointer (some (ad130.add (0 * 2)))) (by kernel_rfl) (fld_x (o := 1) (by kernel_rfl))) rfl (fun ac A137 => ?_)
        refine s_one (.slice (mtK ms 0).B ((mtK ms 0).n) (mtK ms 0).c) A137 S126 (g_loadX (ad := ad130.add (0 * 2 + 1)) (by kernel_rfl) (mt_cell (ms := ms) (k := 0) (j := 1) hx132 (by omega) rfl) (by kernel_rfl)) rfl (fun ac A138 => ?_)
        refine s_one (.int .i64 ((mtK ms 0).n : Int)) A138 S126 (g_built (r := [(0, .slice (mtK ms 0).B ((mtK ms 0).n) (mtK ms 0).c)]) (by kernel_rfl) (fun _ _ _ => by kernel_rfl)) rfl (fun ac A139 => ?_)
        refine s_one (.bool (decide ((p : Int) < ((mtK ms 0).n : Int)))) A139 S126 (g_bin (u := .int .i64 (p : Int)) (k := .int .i64 ((mtK ms 0).n : Int)) (by kernel_rfl) (by kernel_rfl) (fun _ => by kernel_rfl) (fun _ => by kernel_rfl)) rfl (fun ac A140 => ?_)
        refine wpList_nil ?_
        refine n_then ?_
        refine c_ifb (b := (decide ((p : Int) < ((mtK ms 0).n : Int)))) A140 (by kernel_rfl) (fun h141 => ?_) (fun h141 => ?_)
        · have p142 := of_decide_eq_true h141
          refine wp_skip ?_
          refine n_then ?_
          refine wp_seq ?_
          refine wp_block ?_
          refine wp_seq ?_
          refine wp_region_lit ?_
          refine s_one (.int .i64 0) A140 S126 (g_assign (by kernel_rfl)) rfl (fun ac A143 => ?_)
          refine wpList_nil ?_
          refine n_then ?_
          refine wp_seq ?_
          refine wp_seq ?_
          refine wp_region_lit ?_
          refine s_one (.int .i64 0) A143 S126 (g_assign (by kernel_rfl)) rfl (fun ac A144 => ?_)
          refine wpList_nil ?_
          refine n_then ?_
          refine wp_block ?_
          refine c_loopN (fun mm ac wc => ∃ (i : Nat), mm = ms.length - i ∧ (i ≤ ms.length) ∧ Fr 90 ac [(0, .slice A ms.length cap), (2, .pointer (some ⟨g3, 0, none⟩)), (11, .slice A ms.length cap), (12, .int .i64 (ms.length : Int)), (13, .bool (decide ((ms.length : Int) = 0))), (15, .slice A ms.length cap), (16, .int .i64 (ms.length : Int)), (17, .bool (decide ((ms.length : Int) > 32))), (4, .int .i64 (k : Int)), (19, .int .i64 (k : Int)), (20, .slice A ms.length cap), (21, .int .i64 (ms.length : Int)), (22, .bool (decide ((k : Int) < (ms.length : Int)))), (48, .slice A ms.length cap), (49, .pointer (some (ad108.add (0 * 2)))), (50, .pointer (some (ad108.add (0 * 2 + 0)))), (51, .int .i64 ((mtK ms 0).el)), (52, .agg #[.int .i64 ((mtK ms 0).el), .slice none 0 0]), (7, .pointer (some ⟨g120, 0, none⟩)), (8, .int .i64 (p : Int)), (53, .int .i64 (p : Int)), (54, .slice A ms.length cap), (55, .pointer (some (ad130.add (0 * 2)))), (56, .pointer (some (ad130.add (0 * 2 + 1)))), (57, .slice (mtK ms 0).B ((mtK ms 0).n) (mtK ms 0).c), (58, .int .i64 ((mtK ms 0).n : Int)), (59, .bool (decide ((p : Int) < ((mtK ms 0).n : Int)))), (9, .int .i64 (sumK ms p i)), (10, .int .i64 (i : Int))] ∧ St w0 [⟨g120, 30, #[.int .i64 ((mtK ms 0).el), v], true⟩, ⟨g3, 30, #[.int .i64 0, .slice none 0 0], true⟩] [⟨v, 36, 1, p, (rowF (fw (avL ms p)))⟩] wc) _ ⟨0, rfl, Nat.zero_le _, (A144.slot (A144.slot (A144.slot (A144.slot (A144.slot (A144.slot (A144.slot (A144.slot (A144.slot (A144.slot (A144.slot (A144.slot (A144.slot (A144.slot (A144.slot (A144.slot (A144.slot (A144.slot (A144.slot (A144.slot (A144.slot (A144.slot (A144.slot (A144.slot (A144.slot (A144.slot (A144.slot (A144.slot (A144.slot A144.nil (v := .int .i64 0) (by kernel_rfl) (congrArg (Value.int .i64) (by omega))) (v := .int .i64 0) (by kernel_rfl) rfl) (v := .bool (decide ((p : Int) < ((mtK ms 0).n : Int)))) (by kernel_rfl) rfl) (v := .int .i64 ((mtK ms 0).n : Int)) (by kernel_rfl) rfl) (v := .slice (mtK ms 0).B ((mtK ms 0).n) (mtK ms 0).c) (by kernel_rfl) rfl) (v := .pointer (some (ad130.add (0 * 2 + 1)))) (by kernel_rfl) rfl) (v := .pointer (some (ad130.add (0 * 2)))) (by kernel_rfl) rfl) (v := .slice A ms.length cap) (by kernel_rfl) rfl) (v := .int .i64 (p : Int)) (by kernel_rfl) rfl) (v := .int .i64 (p : Int)) (by kernel_rfl) rfl) (v := .pointer (some ⟨g120, 0, none⟩)) (by kernel_rfl) rfl) (v := .agg #[.int .i64 ((mtK ms 0).el), .slice none 0 0]) (by kernel_rfl) rfl) (v := .int .i64 ((mtK ms 0).el)) (by kernel_rfl) rfl) (v := .pointer (some (ad108.add (0 * 2 + 0)))) (by kernel_rfl) rfl) (v := .pointer (some (ad108.add (0 * 2)))) (by kernel_rfl) rfl) (v := .slice A ms.length cap) (by kernel_rfl) rfl) (v := .bool (decide ((k : Int) < (ms.length : Int)))) (by kernel_rfl) rfl) (v := .int .i64 (ms.length : Int)) (by kernel_rfl) rfl) (v := .slice A ms.length cap) (by kernel_rfl) rfl) (v := .int .i64 (k : Int)) (by kernel_rfl) rfl) (v := .int .i64 (k : Int)) (by kernel_rfl) rfl) (v := .bool (decide ((ms.length : Int) > 32))) (by kernel_rfl) rfl) (v := .int .i64 (ms.length : Int)) (by kernel_rfl) rfl) (v := .slice A ms.length cap) (by kernel_rfl) rfl) (v := .bool (decide ((ms.length : Int) = 0))) (by kernel_rfl) rfl) (v := .int .i64 (ms.length : Int)) (by kernel_rfl) rfl) (v := .slice A ms.length cap) (by kernel_rfl) rfl) (v := .pointer (some ⟨g3, 0, none⟩)) (by kernel_rfl) rfl) (v := .slice A ms.length cap) (by kernel_rfl) rfl), S126.sub sub_all sub_all⟩ ?_
          rintro mm ac wc ⟨i, hm147, hi, A145, S146⟩
          have hsb := sumK_bd (ms := ms) (k := i) (fun j hj => hgA j (by omega)) p
          refine wp_seq ?_
          refine wp_seq ?_
          refine wp_region_lit ?_
          refine s_one (.int .i64 (i : Int)) A145 S146 (g_move (by kernel_rfl)) rfl (fun ac A148 => ?_)
          refine s_one (.slice A ms.length cap) A148 S146 (g_move (by kernel_rfl)) rfl (fun ac A149 => ?_)
          refine s_one (.int .i64 (ms.length : Int)) A149 S146 (g_built (r := [(0, .slice A ms.length cap)]) (by kernel_rfl) (fun _ _ _ => by kernel_rfl)) rfl (fun ac A150 => ?_)
          refine s_one (.bool (decide ((i : Int) < (ms.length : Int)))) A150 S146 (g_bin (u := .int .i64 (i : Int)) (k := .int .i64 (ms.length : Int)) (by kernel_rfl) (by kernel_rfl) (fun _ => by kernel_rfl) (fun _ => by kernel_rfl)) rfl (fun ac A151 => ?_)
          refine wpList_nil ?_
          refine n_then ?_
          refine c_ifb (b := (decide ((i : Int) < (ms.length : Int)))) A151 (by kernel_rfl) (fun h152 => ?_) (fun h152 => ?_)
          · have p153 := of_decide_eq_true h152
            refine wp_skip ?_
            refine n_then ?_
            refine wp_seq ?_
            refine wp_block ?_
            have hgl := good_len hgA (j := i) (by omega)
            have hnl := (hr.2 i (by omega)).len
            have HR : ∀ q, q < (mtK ms i).n → sErr (nth (mtK ms i).xs q) = 0 := fun q hq => (good_right hgA (j := i) (by omega)).at_ (by omega)
            have hnb := num_range (HR p (by omega))
            refine wp_region_lit ?_
            refine s_one (.int .i64 (sumK ms p i)) A151 S146 (g_move (by kernel_rfl)) rfl (fun ac A154 => ?_)
            refine s_one (.slice A ms.length cap) A154 S146 (g_move (by kernel_rfl)) rfl (fun ac A155 => ?_)
            refine s_one (.int .i64 (i : Int)) A155 S146 (g_move (by kernel_rfl)) rfl (fun ac A156 => ?_)
            obtain ⟨ad157, he158, hx159⟩ := mt_at hr (k := i) (by omega)
            have hq160 := (hr.2 i (by omega)).few
            have hq161 := (hr.2 i (by omega)).cap
            have hq162 := (hr.2 i (by omega)).len
            refine s_one (.pointer (some (ad157.add (i * 2)))) A156 S146 (g_index (u := .slice A ms.length cap) (k := .int .i64 (i : Int)) (by kernel_rfl) (by kernel_rfl) (ix_xsB (e := 30) (size := 2) (bytes := 32) i (by kernel_rfl) (by omega) (by omega) he158)) rfl (fun ac A163 => ?_)
            refine s_one (.pointer (some (ad157.add (i * 2 + 1)))) A163 S146 (g_field (u := .pointer (some (ad157.add (i * 2)))) (by kernel_rfl) (fld_x (o := 1) (by kernel_rfl))) rfl (fun ac A164 => ?_)
            refine s_one (.slice (mtK ms i).B ((mtK ms i).n) (mtK ms i).c) A164 S146 (g_loadX (ad := ad157.add (i * 2 + 1)) (by kernel_rfl) (mt_cell (ms := ms) (k := i) (j := 1) hx159 (by omega) rfl) (by kernel_rfl)) rfl (fun ac A165 => ?_)
            refine s_one (.int .i64 (p : Int)) A165 S146 (g_move (by kernel_rfl)) rfl (fun ac A166 => ?_)
            obtain ⟨ad167, he168, hc169⟩ := (hr.2 i (by omega)).rd p (by omega)
            refine s_one (.pointer (some (ad167.add p))) A166 S146 (g_index (u := .slice (mtK ms i).B ((mtK ms i).n) (mtK ms i).c) (k := .int .i64 (p : Int)) (by kernel_rfl) (by kernel_rfl) (ix_xA (e := 36) (bytes := 4) p (by kernel_rfl) (by omega) (by omega) he168)) rfl (fun ac A170 => ?_)
            refine s_one (.float .f32 (nth (mtK ms i).xs p)) A170 S146 (g_loadX (ad := ad167.add p) (by kernel_rfl) hc169 (by kernel_rfl)) rfl (fun ac A171 => ?_)
            refine s_one (.int .i64 (num (nth (mtK ms i).xs p))) A171 S146 (g_conv (u := .float .f32 (nth (mtK ms i).xs p)) (by kernel_rfl) (run_toInt (HR _ (by omega)))) rfl (fun ac A172 => ?_)
            refine s_one (.int .i64 (sumK ms p i + (num (nth (mtK ms i).xs p)))) A172 S146 (g_bin (u := .int .i64 (sumK ms p i)) (k := .int .i64 (num (nth (mtK ms i).xs p))) (by kernel_rfl) (by kernel_rfl) (fun _ => by kernel_rfl) (b_add (by omega))) rfl (fun ac A173 => ?_)
            refine s_one (.int .i64 (sumK ms p i + (num (nth (mtK ms i).xs p)))) A173 S146 (g_assign (by kernel_rfl)) rfl (fun ac A174 => ?_)
            refine wpList_nil ?_
            refine n_block ?_
            refine n_then ?_
            refine wp_region_lit ?_
            refine s_one (.int .i64 (i : Int)) A174 S146 (g_move (by kernel_rfl)) rfl (fun ac A175 => ?_)
            refine s_one (.int .i64 ((i : Int) + 1)) A175 S146 (g_bin (u := .int .i64 (i : Int)) (k := .int .i64 1) (by kernel_rfl) (by kernel_rfl) (fun _ => by kernel_rfl) (b_add (by omega))) rfl (fun ac A176 => ?_)
            refine s_one (.int .i64 ((i : Int) + 1)) A176 S146 (g_assign (by kernel_rfl)) rfl (fun ac A177 => ?_)
            refine wpList_nil ?_
            refine n_then ?_
            refine ⟨_, ⟨i + 1, rfl, by omega, (A177.slot (A177.slot (A177.slot (A177.slot (A177.slot (A177.slot (A177.slot (A177.slot (A177.slot (A177.slot (A177.slot (A177.slot (A177.slot (A177.slot (A177.slot (A177.slot (A177.slot (A177.slot (A177.slot (A177.slot (A177.slot (A177.slot (A177.slot (A177.slot (A177.slot (A177.slot (A177.slot (A177.slot (A177.slot A177.nil (v := .int .i64 ((i : Int) + 1)) (by kernel_rfl) (congrArg (Value.int .i64) (by omega))) (v := .int .i64 (sumK ms p i + (num (nth (mtK ms i).xs p)))) (by kernel_rfl) (congrArg (Value.int .i64) (by rw [sumK, mi_nth (by omega)]))) (v := .bool (decide ((p : Int) < ((mtK ms 0).n : Int)))) (by kernel_rfl) rfl) (v := .int .i64 ((mtK ms 0).n : Int)) (by kernel_rfl) rfl) (v := .slice (mtK ms 0).B ((mtK ms 0).n) (mtK ms 0).c) (by kernel_rfl) rfl) (v := .pointer (some (ad130.add (0 * 2 + 1)))) (by kernel_rfl) rfl) (v := .pointer (some (ad130.add (0 * 2)))) (by kernel_rfl) rfl) (v := .slice A ms.length cap) (by kernel_rfl) rfl) (v := .int .i64 (p : Int)) (by kernel_rfl) rfl) (v := .int .i64 (p : Int)) (by kernel_rfl) rfl) (v := .pointer (some ⟨g120, 0, none⟩)) (by kernel_rfl) rfl) (v := .agg #[.int .i64 ((mtK ms 0).el), .slice none 0 0]) (by kernel_rfl) rfl) (v := .int .i64 ((mtK ms 0).el)) (by kernel_rfl) rfl) (v := .pointer (some (ad108.add (0 * 2 + 0)))) (by kernel_rfl) rfl) (v := .pointer (some (ad108.add (0 * 2)))) (by kernel_rfl) rfl) (v := .slice A ms.length cap) (by kernel_rfl) rfl) (v := .bool (decide ((k : Int) < (ms.length : Int)))) (by kernel_rfl) rfl) (v := .int .i64 (ms.length : Int)) (by kernel_rfl) rfl) (v := .slice A ms.length cap) (by kernel_rfl) rfl) (v := .int .i64 (k : Int)) (by kernel_rfl) rfl) (v := .int .i64 (k : Int)) (by kernel_rfl) rfl) (v := .bool (decide ((ms.length : Int) > 32))) (by kernel_rfl) rfl) (v := .int .i64 (ms.length : Int)) (by kernel_rfl) rfl) (v := .slice A ms.length cap) (by kernel_rfl) rfl) (v := .bool (decide ((ms.length : Int) = 0))) (by kernel_rfl) rfl) (v := .int .i64 (ms.length : Int)) (by kernel_rfl) rfl) (v := .slice A ms.length cap) (by kernel_rfl) rfl) (v := .pointer (some ⟨g3, 0, none⟩)) (by kernel_rfl) rfl) (v := .slice A ms.length cap) (by kernel_rfl) rfl), S146.sub sub_all sub_all⟩, ?_⟩
            omega
          · have p178 := of_decide_eq_false h152
            refine wp_exit ?_
            refine x_then ?_
            refine x_then ?_
            refine x_hit ?_
            refine n_then ?_
            obtain rfl : i = ms.length := by omega
            refine r_begin (w0 := w0) (by kernel_rfl) (S146.sub (sub_skip sub_all) sub_nil) (fun wc T179 B180 => ?_)
            have S181 := S146.kept B180
            refine r_take 0 (.pointer (some ⟨g120, 1, none⟩)) A151 T179 (g_field (u := .pointer (some ⟨g120, 0, none⟩)) (by kernel_rfl) (fun _ => by kernel_rfl)) rfl rfl rfl (pf_block (pf_then (pf_then (pf_block (pf_then pf_body))))) (by kernel_rfl) (fun ac A182 => ?_)
            refine r_take 2 (.int .i64 (sumK ms p ms.length)) A182 T179 (g_move (by kernel_rfl)) rfl rfl rfl (pf_block (pf_then (pf_then (pf_block (pf_then pf_body))))) (by kernel_rfl) (fun ac A183 => ?_)
            refine r_take 3 (.slice A ms.length cap) A183 T179 (g_move (by kernel_rfl)) rfl rfl rfl (pf_block (pf_then (pf_then (pf_block (pf_then pf_body))))) (by kernel_rfl) (fun ac A184 => ?_)
            refine r_take 4 (.int .i64 (ms.length : Int)) A184 T179 (g_built (r := [(0, .slice A ms.length cap)]) (by kernel_rfl) (fun _ _ _ => by kernel_rfl)) rfl rfl rfl (pf_block (pf_then (pf_then (pf_block (pf_then pf_body))))) (by kernel_rfl) (fun ac A185 => ?_)
            refine r_2 (i := 1) (j := 5) (by kernel_rfl) ?_ ?_
            · refine rs_gives (v) A185 S181 (sub_skip sub_all) sub_nil (g_load (g := g120) (off := 1) 0 (by kernel_rfl) rfl (by kernel_rfl)) rfl rfl rfl (fun ac A186 => ?_)
              refine r_1 (i := 5) (by kernel_rfl) ?_
              refine rs_call (fs := #[]) (cp := #[]) (r := [(0, .int .i64 (sumK ms p ms.length)), (0, .int .i64 (ms.length : Int))]) #[.int .i64 (sumK ms p ms.length), .int .i64 (ms.length : Int)] (.int .i64 (rndI (sumK ms p ms.length) ms.length)) A186 S181 (sub_skip sub_all) sub_nil (refRounded_s (sumK ms p ms.length) ms.length _ (by omega) (by omega) (by omega)) Try.call76 rfl rfl (by kernel_rfl) (by kernel_rfl) (by kernel_rfl) rfl (fun ac wc A190 S191 => ?_)
              have T193 := S191.sub (sub_skip sub_all) sub_nil
              refine r_take 6 (.float .f32 (floatOfInt .f32 (rndI (sumK ms p ms.length) ms.length))) A190 T193 (g_conv (u := .int .i64 (rndI (sumK ms p ms.length) ms.length)) (by kernel_rfl) (fun _ => by kernel_rfl)) rfl rfl rfl (pf_block (pf_then (pf_then (pf_block (pf_then pf_body))))) (by kernel_rfl) (fun ac A194 => ?_)
              refine r_1 (i := 7) (by kernel_rfl) ?_
              refine rs_bs (e := 36) (r := [(0, .float .f32 (floatOfInt .f32 (rndI (sumK ms p ms.length) ms.length)))]) (#[.float .f32 (floatOfInt .f32 (rndI (sumK ms p ms.length) ms.length))]) A194 S191 (sub_skip sub_all) sub_nil (by kernel_rfl) (by kernel_rfl) rfl rfl rfl (fun g197 ac wc A195 S196 => ?_)
              have T198 := S196.sub (sub_skip (sub_skip sub_all)) sub_nil
              refine r_1 (i := 8) (by kernel_rfl) ?_
              refine rs_append (e := 36) (size := 1) (bytes := 4) (v := v) (g := g197) (m' := 1) (c := 1) 0 0 [.float .f32 (floatOfInt .f32 (rndI (sumK ms p ms.length) ms.length))] A195 S196 (sub_skip (sub_skip sub_all)) (fun _ => sub_nil) (by kernel_rfl) (by kernel_rfl) (by kernel_rfl) rfl rfl (by kernel_rfl) rfl (by kernel_rfl) (by omega) (by omega) rfl rfl rfl (fun v203 ac wc A199 S200 => ?_)
              have T202 := S200.sub (sub_skip (sub_skip sub_all)) sub_nil
              refine r_take 9 (.pointer (some ⟨g120, 1, none⟩)) A199 T202 (g_field (u := .pointer (some ⟨g120, 0, none⟩)) (by kernel_rfl) (fun _ => by kernel_rfl)) rfl rfl rfl (pf_block (pf_then (pf_then (pf_block (pf_then pf_body))))) (by kernel_rfl) (fun ac A204 => ?_)
              refine r_1 (i := 10) (by kernel_rfl) ?_
              obtain ⟨A205, cap206, rfl⟩ := row_slice (v := v203) (m := p + 1) (S200.row 0 rfl)
              refine rs_store (g := g120) (off := 1) (v := .slice A205 (p + 1) cap206) 1 (#[.int .i64 ((mtK ms 0).el), .slice A205 (p + 1) cap206]) A204 S200 (sub_skip (sub_skip sub_all)) sub_nil (by kernel_rfl) (by kernel_rfl) rfl (by kernel_rfl) rfl rfl (fun wc S208 => ?_)
              have T210 := S208.sub (sub_skip (sub_skip sub_all)) sub_nil
              refine r_done (by kernel_rfl) ?_
              refine n_block ?_
              refine n_then ?_
              refine wp_region_lit ?_
              refine s_one (.int .i64 (p : Int)) A204 S208 (g_move (by kernel_rfl)) rfl (fun ac A211 => ?_)
              refine s_one (.int .i64 ((p : Int) + 1)) A211 S208 (g_bin (u := .int .i64 (p : Int)) (k := .int .i64 1) (by kernel_rfl) (by kernel_rfl) (fun _ => by kernel_rfl) (b_add (by omega))) rfl (fun ac A212 => ?_)
              refine s_one (.int .i64 ((p : Int) + 1)) A212 S208 (g_assign (by kernel_rfl)) rfl (fun ac A213 => ?_)
              refine wpList_nil ?_
              refine n_then ?_
              refine ⟨_, ⟨p + 1, .slice A205 (p + 1) cap206, rfl, by omega, (A213.slot (A213.slot (A213.slot (A213.slot (A213.slot (A213.slot (A213.slot (A213.slot (A213.slot (A213.slot (A213.slot (A213.slot (A213.slot (A213.slot (A213.slot (A213.slot (A213.slot (A213.slot (A213.slot (A213.slot A213.nil (v := .int .i64 ((p : Int) + 1)) (by kernel_rfl) (congrArg (Value.int .i64) (by omega))) (v := .pointer (some ⟨g120, 0, none⟩)) (by kernel_rfl) rfl) (v := .agg #[.int .i64 ((mtK ms 0).el), .slice none 0 0]) (by kernel_rfl) rfl) (v := .int .i64 ((mtK ms 0).el)) (by kernel_rfl) rfl) (v := .pointer (some (ad108.add (0 * 2 + 0)))) (by kernel_rfl) rfl) (v := .pointer (some (ad108.add (0 * 2)))) (by kernel_rfl) rfl) (v := .slice A ms.length cap) (by kernel_rfl) rfl) (v := .bool (decide ((k : Int) < (ms.length : Int)))) (by kernel_rfl) rfl) (v := .int .i64 (ms.length : Int)) (by kernel_rfl) rfl) (v := .slice A ms.length cap) (by kernel_rfl) rfl) (v := .int .i64 (k : Int)) (by kernel_rfl) rfl) (v := .int .i64 (k : Int)) (by kernel_rfl) rfl) (v := .bool (decide ((ms.length : Int) > 32))) (by kernel_rfl) rfl) (v := .int .i64 (ms.length : Int)) (by kernel_rfl) rfl) (v := .slice A ms.length cap) (by kernel_rfl) rfl) (v := .bool (decide ((ms.length : Int) = 0))) (by kernel_rfl) rfl) (v := .int .i64 (ms.length : Int)) (by kernel_rfl) rfl) (v := .slice A ms.length cap) (by kernel_rfl) rfl) (v := .pointer (some ⟨g3, 0, none⟩)) (by kernel_rfl) rfl) (v := .slice A ms.length cap) (by kernel_rfl) rfl), (St.rerow 0 (St.recell 1 S208 rfl (by rfl)) rfl ⟨rfl, avL_snoc ms p⟩).sub (sub_skip sub_all) sub_all⟩, ?_⟩
              omega
            · refine rs_call (fs := #[]) (cp := #[]) (r := [(0, .int .i64 (sumK ms p ms.length)), (0, .int .i64 (ms.length : Int))]) #[.int .i64 (sumK ms p ms.length), .int .i64 (ms.length : Int)] (.int .i64 (rndI (sumK ms p ms.length) ms.length)) A185 S181 (sub_skip sub_all) sub_nil (refRounded_s (sumK ms p ms.length) ms.length _ (by omega) (by omega) (by omega)) Try.call76 rfl rfl (by kernel_rfl) (by kernel_rfl) (by kernel_rfl) rfl (fun ac wc A214 S215 => ?_)
              have T217 := S215.sub (sub_skip sub_all) sub_nil
              refine r_take 6 (.float .f32 (floatOfInt .f32 (rndI (sumK ms p ms.length) ms.length))) A214 T217 (g_conv (u := .int .i64 (rndI (sumK ms p ms.length) ms.length)) (by kernel_rfl) (fun _ => by kernel_rfl)) rfl rfl rfl (pf_block (pf_then (pf_then (pf_block (pf_then pf_body))))) (by kernel_rfl) (fun ac A218 => ?_)
              refine r_2 (i := 1) (j := 7) (by kernel_rfl) ?_ ?_
              · refine rs_gives (v) A218 S215 (sub_skip sub_all) sub_nil (g_load (g := g120) (off := 1) 0 (by kernel_rfl) rfl (by kernel_rfl)) rfl rfl rfl (fun ac A219 => ?_)
                refine r_1 (i := 7) (by kernel_rfl) ?_
                refine rs_bs (e := 36) (r := [(0, .float .f32 (floatOfInt .f32 (rndI (sumK ms p ms.length) ms.length)))]) (#[.float .f32 (floatOfInt .f32 (rndI (sumK ms p ms.length) ms.length))]) A219 S215 (sub_skip sub_all) sub_nil (by kernel_rfl) (by kernel_rfl) rfl rfl rfl (fun g225 ac wc A223 S224 => ?_)
                have T226 := S224.sub (sub_skip (sub_skip sub_all)) sub_nil
                refine r_1 (i := 8) (by kernel_rfl) ?_
                refine rs_append (e := 36) (size := 1) (bytes := 4) (v := v) (g := g225) (m' := 1) (c := 1) 0 0 [.float .f32 (floatOfInt .f32 (rndI (sumK ms p ms.length) ms.length))] A223 S224 (sub_skip (sub_skip sub_all)) (fun _ => sub_nil) (by kernel_rfl) (by kernel_rfl) (by kernel_rfl) rfl rfl (by kernel_rfl) rfl (by kernel_rfl) (by omega) (by omega) rfl rfl rfl (fun v231 ac wc A227 S228 => ?_)
                have T230 := S228.sub (sub_skip (sub_skip sub_all)) sub_nil
                refine r_take 9 (.pointer (some ⟨g120, 1, none⟩)) A227 T230 (g_field (u := .pointer (some ⟨g120, 0, none⟩)) (by kernel_rfl) (fun _ => by kernel_rfl)) rfl rfl rfl (pf_block (pf_then (pf_then (pf_block (pf_then pf_body))))) (by kernel_rfl) (fun ac A232 => ?_)
                refine r_1 (i := 10) (by kernel_rfl) ?_
                obtain ⟨A233, cap234, rfl⟩ := row_slice (v := v231) (m := p + 1) (S228.row 0 rfl)
                refine rs_store (g := g120) (off := 1) (v := .slice A233 (p + 1) cap234) 1 (#[.int .i64 ((mtK ms 0).el), .slice A233 (p + 1) cap234]) A232 S228 (sub_skip (sub_skip sub_all)) sub_nil (by kernel_rfl) (by kernel_rfl) rfl (by kernel_rfl) rfl rfl (fun wc S236 => ?_)
                have T238 := S236.sub (sub_skip (sub_skip sub_all)) sub_nil
                refine r_done (by kernel_rfl) ?_
                refine n_block ?_
                refine n_then ?_
                refine wp_region_lit ?_
                refine s_one (.int .i64 (p : Int)) A232 S236 (g_move (by kernel_rfl)) rfl (fun ac A239 => ?_)
                refine s_one (.int .i64 ((p : Int) + 1)) A239 S236 (g_bin (u := .int .i64 (p : Int)) (k := .int .i64 1) (by kernel_rfl) (by kernel_rfl) (fun _ => by kernel_rfl) (b_add (by omega))) rfl (fun ac A240 => ?_)
                refine s_one (.int .i64 ((p : Int) + 1)) A240 S236 (g_assign (by kernel_rfl)) rfl (fun ac A241 => ?_)
                refine wpList_nil ?_
                refine n_then ?_
                refine ⟨_, ⟨p + 1, .slice A233 (p + 1) cap234, rfl, by omega, (A241.slot (A241.slot (A241.slot (A241.slot (A241.slot (A241.slot (A241.slot (A241.slot (A241.slot (A241.slot (A241.slot (A241.slot (A241.slot (A241.slot (A241.slot (A241.slot (A241.slot (A241.slot (A241.slot (A241.slot A241.nil (v := .int .i64 ((p : Int) + 1)) (by kernel_rfl) (congrArg (Value.int .i64) (by omega))) (v := .pointer (some ⟨g120, 0, none⟩)) (by kernel_rfl) rfl) (v := .agg #[.int .i64 ((mtK ms 0).el), .slice none 0 0]) (by kernel_rfl) rfl) (v := .int .i64 ((mtK ms 0).el)) (by kernel_rfl) rfl) (v := .pointer (some (ad108.add (0 * 2 + 0)))) (by kernel_rfl) rfl) (v := .pointer (some (ad108.add (0 * 2)))) (by kernel_rfl) rfl) (v := .slice A ms.length cap) (by kernel_rfl) rfl) (v := .bool (decide ((k : Int) < (ms.length : Int)))) (by kernel_rfl) rfl) (v := .int .i64 (ms.length : Int)) (by kernel_rfl) rfl) (v := .slice A ms.length cap) (by kernel_rfl) rfl) (v := .int .i64 (k : Int)) (by kernel_rfl) rfl) (v := .int .i64 (k : Int)) (by kernel_rfl) rfl) (v := .bool (decide ((ms.length : Int) > 32))) (by kernel_rfl) rfl) (v := .int .i64 (ms.length : Int)) (by kernel_rfl) rfl) (v := .slice A ms.length cap) (by kernel_rfl) rfl) (v := .bool (decide ((ms.length : Int) = 0))) (by kernel_rfl) rfl) (v := .int .i64 (ms.length : Int)) (by kernel_rfl) rfl) (v := .slice A ms.length cap) (by kernel_rfl) rfl) (v := .pointer (some ⟨g3, 0, none⟩)) (by kernel_rfl) rfl) (v := .slice A ms.length cap) (by kernel_rfl) rfl), (St.rerow 0 (St.recell 1 S236 rfl (by rfl)) rfl ⟨rfl, avL_snoc ms p⟩).sub (sub_skip sub_all) sub_all⟩, ?_⟩
                omega
              · refine rs_bs (e := 36) (r := [(0, .float .f32 (floatOfInt .f32 (rndI (sumK ms p ms.length) ms.length)))]) (#[.float .f32 (floatOfInt .f32 (rndI (sumK ms p ms.length) ms.length))]) A218 S215 (sub_skip sub_all) sub_nil (by kernel_rfl) (by kernel_rfl) rfl rfl rfl (fun g244 ac wc A242 S243 => ?_)
                have T245 := S243.sub (sub_skip (sub_skip sub_all)) sub_nil
                refine r_1 (i := 1) (by kernel_rfl) ?_
                refine rs_gives (v) A242 S243 (sub_skip (sub_skip sub_all)) sub_nil (g_load (g := g120) (off := 1) 1 (by kernel_rfl) rfl (by kernel_rfl)) rfl rfl rfl (fun ac A246 => ?_)
                refine r_1 (i := 8) (by kernel_rfl) ?_
                refine rs_append (e := 36) (size := 1) (bytes := 4) (v := v) (g := g244) (m' := 1) (c := 1) 0 0 [.float .f32 (floatOfInt .f32 (rndI (sumK ms p ms.length) ms.length))] A246 S243 (sub_skip (sub_skip sub_all)) (fun _ => sub_nil) (by kernel_rfl) (by kernel_rfl) (by kernel_rfl) rfl rfl (by kernel_rfl) rfl (by kernel_rfl) (by omega) (by omega) rfl rfl rfl (fun v254 ac wc A250 S251 => ?_)
                have T253 := S251.sub (sub_skip (sub_skip sub_all)) sub_nil
                refine r_take 9 (.pointer (some ⟨g120, 1, none⟩)) A250 T253 (g_field (u := .pointer (some ⟨g120, 0, none⟩)) (by kernel_rfl) (fun _ => by kernel_rfl)) rfl rfl rfl (pf_block (pf_then (pf_then (pf_block (pf_then pf_body))))) (by kernel_rfl) (fun ac A255 => ?_)
                refine r_1 (i := 10) (by kernel_rfl) ?_
                obtain ⟨A256, cap257, rfl⟩ := row_slice (v := v254) (m := p + 1) (S251.row 0 rfl)
                refine rs_store (g := g120) (off := 1) (v := .slice A256 (p + 1) cap257) 1 (#[.int .i64 ((mtK ms 0).el), .slice A256 (p + 1) cap257]) A255 S251 (sub_skip (sub_skip sub_all)) sub_nil (by kernel_rfl) (by kernel_rfl) rfl (by kernel_rfl) rfl rfl (fun wc S259 => ?_)
                have T261 := S259.sub (sub_skip (sub_skip sub_all)) sub_nil
                refine r_done (by kernel_rfl) ?_
                refine n_block ?_
                refine n_then ?_
                refine wp_region_lit ?_
                refine s_one (.int .i64 (p : Int)) A255 S259 (g_move (by kernel_rfl)) rfl (fun ac A262 => ?_)
                refine s_one (.int .i64 ((p : Int) + 1)) A262 S259 (g_bin (u := .int .i64 (p : Int)) (k := .int .i64 1) (by kernel_rfl) (by kernel_rfl) (fun _ => by kernel_rfl) (b_add (by omega))) rfl (fun ac A263 => ?_)
                refine s_one (.int .i64 ((p : Int) + 1)) A263 S259 (g_assign (by kernel_rfl)) rfl (fun ac A264 => ?_)
                refine wpList_nil ?_
                refine n_then ?_
                refine ⟨_, ⟨p + 1, .slice A256 (p + 1) cap257, rfl, by omega, (A264.slot (A264.slot (A264.slot (A264.slot (A264.slot (A264.slot (A264.slot (A264.slot (A264.slot (A264.slot (A264.slot (A264.slot (A264.slot (A264.slot (A264.slot (A264.slot (A264.slot (A264.slot (A264.slot (A264.slot A264.nil (v := .int .i64 ((p : Int) + 1)) (by kernel_rfl) (congrArg (Value.int .i64) (by omega))) (v := .pointer (some ⟨g120, 0, none⟩)) (by kernel_rfl) rfl) (v := .agg #[.int .i64 ((mtK ms 0).el), .slice none 0 0]) (by kernel_rfl) rfl) (v := .int .i64 ((mtK ms 0).el)) (by kernel_rfl) rfl) (v := .pointer (some (ad108.add (0 * 2 + 0)))) (by kernel_rfl) rfl) (v := .pointer (some (ad108.add (0 * 2)))) (by kernel_rfl) rfl) (v := .slice A ms.length cap) (by kernel_rfl) rfl) (v := .bool (decide ((k : Int) < (ms.length : Int)))) (by kernel_rfl) rfl) (v := .int .i64 (ms.length : Int)) (by kernel_rfl) rfl) (v := .slice A ms.length cap) (by kernel_rfl) rfl) (v := .int .i64 (k : Int)) (by kernel_rfl) rfl) (v := .int .i64 (k : Int)) (by kernel_rfl) rfl) (v := .bool (decide ((ms.length : Int) > 32))) (by kernel_rfl) rfl) (v := .int .i64 (ms.length : Int)) (by kernel_rfl) rfl) (v := .slice A ms.length cap) (by kernel_rfl) rfl) (v := .bool (decide ((ms.length : Int) = 0))) (by kernel_rfl) rfl) (v := .int .i64 (ms.length : Int)) (by kernel_rfl) rfl) (v := .slice A ms.length cap) (by kernel_rfl) rfl) (v := .pointer (some ⟨g3, 0, none⟩)) (by kernel_rfl) rfl) (v := .slice A ms.length cap) (by kernel_rfl) rfl), (St.rerow 0 (St.recell 1 S259 rfl (by rfl)) rfl ⟨rfl, avL_snoc ms p⟩).sub (sub_skip sub_all) sub_all⟩, ?_⟩
                omega
        · have p265 := of_decide_eq_false h141
          refine wp_exit ?_
          refine x_then ?_
          refine x_then ?_
          refine x_hit ?_
          refine n_then ?_
          refine wp_seq ?_
          have ep : p = (mtK ms 0).xs.length := by omega
          have SR : St w0 [⟨g120, 30, #[.int .i64 ((mtK ms 0).el), v], true⟩, ⟨g3, 30, #[.int .i64 0, .slice none 0 0], true⟩] [⟨v, 36, 1, ((mtK ms 0).xs.length), (rowF (fw (avL ms (mtK ms 0).xs.length)))⟩] _ := St.rerow 0 S126 rfl ⟨ep, by rw [ep]⟩
          refine wp_region_lit ?_
          refine s_one (.agg #[.int .i64 ((mtK ms 0).el), v]) A140 SR (g_load (g := g120) (off := 0) 0 (by kernel_rfl) rfl (by kernel_rfl)) rfl (fun ac A266 => ?_)
          obtain ⟨A267, cap268, rfl⟩ := row_slice (v := v) (m := (mtK ms 0).xs.length) (SR.row 0 rfl)
          refine s_store (g := g3) (off := 0) (v := .agg #[.int .i64 ((mtK ms 0).el), .slice A267 ((mtK ms 0).xs.length) cap268]) 1 (#[.int .i64 ((mtK ms 0).el), .slice A267 ((mtK ms 0).xs.length) cap268]) A266 SR (by kernel_rfl) (by kernel_rfl) rfl (by kernel_rfl) (fun wc S270 => ?_)
          refine s_one (.int .i64 0) A266 S270 (g_assign (by kernel_rfl)) rfl (fun ac A272 => ?_)
          refine wpList_nil ?_
          refine n_then ?_
          refine wp_ret ?_
          refine fin2 (.agg #[.int .i64 ((mtK ms 0).el), .slice A267 ((mtK ms 0).xs.length) cap268]) (.int .i64 0) Try.results29 A272 S270 (rv_cell (g := g3) (off := 0) 1 (by kernel_rfl) rfl (by kernel_rfl)) (rv_tmp (by kernel_rfl)) ?_
          have bw := S270.kp
          have ow := S270.row 0 rfl
          have ez := avZ_g (ms := ms) (by omega) (by omega) hgA
          obtain ⟨e1, e2⟩ := av_ok ez
          rw [e1, e2, ez, fw_length, avL_length]
          exact ⟨_, rfl, bw, ow⟩

end Go.Proofs.Ytcijkniijomcjaa
