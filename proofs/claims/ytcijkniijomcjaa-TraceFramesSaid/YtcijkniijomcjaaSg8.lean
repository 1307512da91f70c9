/- Texts of the proof of TraceFrames, put together (part 8): Av1, Avg2, Fm1, Fmt2, Fm2, Cut, Fmt3, Fm3. -/
import Derived.Test.YtcijkniijomcjaaSg7
import Derived.Laws.Entries
/- Means of matrices: the reference. -/
namespace Go.Proofs.Ytcijkniijomcjaa
open Go.RowKit Go.Cpl

theorem ix_xsB {P : Program} {t : TypeId} {A : Option Addr} {ad : Addr} {m c e size : Nat} {bytes : Nat} {i : Int} (k : Nat) (he : elemInfo P t = some (e, size, bytes)) (hi : i = (k : Int)) (hk : k < m) (hA : A = some ad) (w : World) : (Instr.indexAt t (.slice A m c) (.int .i64 i)).run P w = .ok (.pointer (some (ad.add (k * size)))) w := by
  subst hA; exact ix_xs k he hi hk w
theorem ix_xA {P : Program} {t : TypeId} {A : Option Addr} {ad : Addr} {m c e : Nat} {bytes : Nat} {i : Int} (k : Nat) (he : elemInfo P t = some (e, 1, bytes)) (hi : i = (k : Int)) (hk : k < m) (hA : A = some ad) (w : World) : (Instr.indexAt t (.slice A m c) (.int .i64 i)).run P w = .ok (.pointer (some (ad.add k))) w := by
  subst hA; exact ix_x k he hi hk w

set_option maxRecDepth 100000 in
set_option maxHeartbeats 400000 in
theorem rounded_s (s : Int) (n : Nat) (w0 : World) (hs : -1000000 ≤ s ∧ s ≤ 1000000) (h1 : 1 ≤ n) (h2 : n ≤ 1000) :
    Calls Try.prog 75 #[.int .i64 s, .int .i64 (n : Int)] w0 fun e w' => e = .returned (.int .i64 (rndI s n)) ∧ Below w0.heap.size w0 w' := by
  have S0 := St.start w0
  refine enter (n := 12) Try.func75 rfl rfl rfl (fun ac A0 => ?_)
  refine wp_seq ?_
  refine wp_region_lit ?_
  refine s_one (.int .i64 0) A0 S0 (g_assign (by kernel_rfl)) rfl (fun ac A1 => ?_)
  refine wpList_nil ?_
  refine n_then ?_
  refine wp_seq ?_
  refine wp_region_lit ?_
  refine s_one (.int .i64 s) A1 S0 (g_move (by kernel_rfl)) rfl (fun ac A2 => ?_)
  refine s_one (.int .i64 (2 * s)) A2 S0 (g_bin (u := .int .i64 2) (k := .int .i64 s) (by kernel_rfl) (by kernel_rfl) (fun _ => by kernel_rfl) (b_mul (by omega))) rfl (fun ac A3 => ?_)
  refine s_one (.int .i64 (n : Int)) A3 S0 (g_move (by kernel_rfl)) rfl (fun ac A4 => ?_)
  refine s_one (.int .i64 (2 * s + (n : Int))) A4 S0 (g_bin (u := .int .i64 (2 * s)) (k := .int .i64 (n : Int)) (by kernel_rfl) (by kernel_rfl) (fun _ => by kernel_rfl) (b_add (by omega))) rfl (fun ac A5 => ?_)
  refine s_one (.int .i64 (n : Int)) A5 S0 (g_move (by kernel_rfl)) rfl (fun ac A6 => ?_)
  refine s_one (.int .i64 (2 * (n : Int))) A6 S0 (g_bin (u := .int .i64 2) (k := .int .i64 (n : Int)) (by kernel_rfl) (by kernel_rfl) (fun _ => by kernel_rfl) (b_mul (by omega))) rfl (fun ac A7 => ?_)
  refine s_call (fs := #[]) (cp := #[]) (r := [(0, .int .i64 (2 * s + (n : Int))), (0, .int .i64 (2 * (n : Int)))]) #[.int .i64 (2 * s + (n : Int)), .int .i64 (2 * (n : Int))] (.int .i64 ((2 * s + (n : Int)) / (2 * (n : Int)))) A7 S0 (sameB (floor_any (2 * s + (n : Int)) (2 * (n : Int)) _ (by omega) (by omega) (by omega))) Try.call99 (by kernel_rfl) (by kernel_rfl) (by kernel_rfl) rfl (fun ac wc A8 S9 => ?_)
  refine s_one (.int .i64 ((2 * s + (n : Int)) / (2 * (n : Int)))) A8 S9 (g_assign (by kernel_rfl)) rfl (fun ac A11 => ?_)
  refine wpList_nil ?_
  refine n_then ?_
  refine wp_ret ?_
  refine fin1 (.int .i64 ((2 * s + (n : Int)) / (2 * (n : Int)))) Try.results75 A11 S9 (rv_tmp (by kernel_rfl)) ⟨?_, S9.kp⟩
  rfl

set_option maxRecDepth 100000 in
set_option maxHeartbeats 400000 in
theorem refRounded_s (s : Int) (n : Nat) (w0 : World) (hs : -1000000 ≤ s ∧ s ≤ 1000000) (h1 : 1 ≤ n) (h2 : n ≤ 1000) :
    Calls Try.prog 76 #[.int .i64 s, .int .i64 (n : Int)] w0 fun e w' => e = .returned (.int .i64 (rndI s n)) ∧ Below w0.heap.size w0 w' := by
  have S0 := St.start w0
  refine enter (n := 12) Try.func76 rfl rfl rfl (fun ac A0 => ?_)
  refine wp_seq ?_
  refine wp_region_lit ?_
  refine s_one (.int .i64 0) A0 S0 (g_assign (by kernel_rfl)) rfl (fun ac A1 => ?_)
  refine wpList_nil ?_
  refine n_then ?_
  refine wp_seq ?_
  refine wp_region_lit ?_
  refine s_one (.int .i64 s) A1 S0 (g_move (by kernel_rfl)) rfl (fun ac A2 => ?_)
  refine s_one (.int .i64 (2 * s)) A2 S0 (g_bin (u := .int .i64 2) (k := .int .i64 s) (by kernel_rfl) (by kernel_rfl) (fun _ => by kernel_rfl) (b_mul (by omega))) rfl (fun ac A3 => ?_)
  refine s_one (.int .i64 (n : Int)) A3 S0 (g_move (by kernel_rfl)) rfl (fun ac A4 => ?_)
  refine s_one (.int .i64 (2 * s + (n : Int))) A4 S0 (g_bin (u := .int .i64 (2 * s)) (k := .int .i64 (n : Int)) (by kernel_rfl) (by kernel_rfl) (fun _ => by kernel_rfl) (b_add (by omega))) rfl (fun ac A5 => ?_)
  refine s_one (.int .i64 (n : Int)) A5 S0 (g_move (by kernel_rfl)) rfl (fun ac A6 => ?_)
  refine s_one (.int .i64 (2 * (n : Int))) A6 S0 (g_bin (u := .int .i64 2) (k := .int .i64 (n : Int)) (by kernel_rfl) (by kernel_rfl) (fun _ => by kernel_rfl) (b_mul (by omega))) rfl (fun ac A7 => ?_)
  refine s_call (fs := #[]) (cp := #[]) (r := [(0, .int .i64 (2 * s + (n : Int))), (0, .int .i64 (2 * (n : Int)))]) #[.int .i64 (2 * s + (n : Int)), .int .i64 (2 * (n : Int))] (.int .i64 ((2 * s + (n : Int)) / (2 * (n : Int)))) A7 S0 (sameB (Floor_any (2 * s + (n : Int)) (2 * (n : Int)) _ (by omega) (by omega) (by omega))) Try.call106 (by kernel_rfl) (by kernel_rfl) (by kernel_rfl) rfl (fun ac wc A8 S9 => ?_)
  refine s_one (.int .i64 ((2 * s + (n : Int)) / (2 * (n : Int)))) A8 S9 (g_assign (by kernel_rfl)) rfl (fun ac A11 => ?_)
  refine wpList_nil ?_
  refine n_then ?_
  refine wp_ret ?_
  refine fin1 (.int .i64 ((2 * s + (n : Int)) / (2 * (n : Int)))) Try.results76 A11 S9 (rv_tmp (by kernel_rfl)) ⟨?_, S9.kp⟩
  rfl

theorem num_range {x : Nat} (h : sErr x = 0) : -2047 ≤ num x ∧ num x ≤ 2047 := (sErr_zero h).2

set_option maxRecDepth 100000 in
set_option maxHeartbeats 400000 in
theorem refAveraged_s (A : Option Addr) (cap : Nat) (ms : List Mt) (w0 : World) (hr : MtReads w0 A ms) (hl : ms.length ≤ 1000) :
    Calls Try.prog 29 #[.slice A ms.length cap] w0 fun e w' => ∃ v, e = .returned (.tuple #[.agg #[.int .i64 (avE ms), v], .int .i64 (avZ ms)]) ∧ Below w0.heap.size w0 w' ∧ w'.ownsRow w0.heap.size 36 1 v ((avW ms).length) (rowF (avW ms)) := by
  have S0 := St.start w0
  refine enter (n := 90) Try.func29 rfl rfl rfl (fun ac A0 => ?_)
  refine wp_seq ?_
  refine wp_region_lit ?_
  refine s_alloc (#[.int .i64 0, .slice none 0 0]) A0 S0 (by kernel_rfl) rfl (fun g3 ac wc A1 S2 => ?_)
  refine s_one (.int .i64 0) A1 S2 (g_assign (by kernel_rfl)) rfl (fun ac A4 => ?_)
  refine wpList_nil ?_
  refine n_then ?_
  refine wp_seq ?_
  refine wp_seq ?_
  refine wp_region_lit ?_
  refine s_one (.slice A ms.length cap) A4 S2 (g_move (by kernel_rfl)) rfl (fun ac A5 => ?_)
  refine s_one (.int .i64 (ms.length : Int)) A5 S2 (g_built (r := [(0, .slice A ms.length cap)]) (by kernel_rfl) (fun _ _ _ => by kernel_rfl)) rfl (fun ac A6 => ?_)
  refine s_one (.bool (decide ((ms.length : Int) = 0))) A6 S2 (g_bin (u := .int .i64 (ms.length : Int)) (k := .int .i64 0) (by kernel_rfl) (by kernel_rfl) (fun _ => by kernel_rfl) b_eql) rfl (fun ac A7 => ?_)
  refine wpList_nil ?_
  refine n_then ?_
  refine c_ifb (b := (decide ((ms.length : Int) = 0))) A7 (by kernel_rfl) (fun h8 => ?_) (fun h8 => ?_)
  · have p9 := of_decide_eq_true h8
    refine wp_seq ?_
    refine wp_region_lit ?_
    refine s_one (.agg #[.int .i64 0, .slice none 0 0]) A7 S2 (g_build (r := []) (by kernel_rfl) (fun _ => by kernel_rfl)) rfl (fun ac A10 => ?_)
    refine s_store (g := g3) (off := 0) (v := .agg #[.int .i64 0, .slice none 0 0]) 0 (#[.int .i64 0, .slice none 0 0]) A10 S2 (by kernel_rfl) (by kernel_rfl) rfl (by kernel_rfl) (fun wc S12 => ?_)
    refine s_one (.int .i64 10) A10 S12 (g_assign (by kernel_rfl)) rfl (fun ac A14 => ?_)
    refine wpList_nil ?_
    refine n_then ?_
    refine wp_ret ?_
    refine r_then ?_
    have S15 := S12.nilRow 36 1
    refine fin2 (.agg #[.int .i64 0, .slice none 0 0]) (.int .i64 10) Try.results29 A14 S15 (rv_cell (g := g3) (off := 0) 0 (by kernel_rfl) rfl (by kernel_rfl)) (rv_tmp (by kernel_rfl)) ?_
    have bw := S15.kp
    have ow := S15.row 0 rfl
    have ez := avZ_0 (ms := ms) (by omega)
    obtain ⟨e1, e2⟩ := av_err ez (by decide)
    rw [e1, e2, ez]
    exact ⟨_, rfl, bw, ow⟩
  · have p16 := of_decide_eq_false h8
    refine wp_skip ?_
    refine n_then ?_
    refine wp_seq ?_
    refine wp_seq ?_
    refine wp_region_lit ?_
    refine s_one (.slice A ms.length cap) A7 S2 (g_move (by kernel_rfl)) rfl (fun ac A17 => ?_)
    refine s_one (.int .i64 (ms.length : Int)) A17 S2 (g_built (r := [(0, .slice A ms.length cap)]) (by kernel_rfl) (fun _ _ _ => by kernel_rfl)) rfl (fun ac A18 => ?_)
    refine s_one (.bool (decide ((ms.length : Int) > 32))) A18 S2 (g_bin (u := .int .i64 (ms.length : Int)) (k := .int .i64 32) (by kernel_rfl) (by kernel_rfl) (fun _ => by kernel_rfl) (fun _ => by kernel_rfl)) rfl (fun ac A19 => ?_)
    refine wpList_nil ?_
    refine n_then ?_
    refine c_ifb (b := (decide ((ms.length : Int) > 32))) A19 (by kernel_rfl) (fun h20 => ?_) (fun h20 => ?_)
    · have p21 := of_decide_eq_true h20
      refine wp_seq ?_
      refine wp_region_lit ?_
      refine s_one (.agg #[.int .i64 0, .slice none 0 0]) A19 S2 (g_build (r := []) (by kernel_rfl) (fun _ => by kernel_rfl)) rfl (fun ac A22 => ?_)
      refine s_store (g := g3) (off := 0) (v := .agg #[.int .i64 0, .slice none 0 0]) 0 (#[.int .i64 0, .slice none 0 0]) A22 S2 (by kernel_rfl) (by kernel_rfl) rfl (by kernel_rfl) (fun wc S24 => ?_)
      refine s_one (.int .i64 8) A22 S24 (g_assign (by kernel_rfl)) rfl (fun ac A26 => ?_)
      refine wpList_nil ?_
      refine n_then ?_
      refine wp_ret ?_
      refine r_then ?_
      have S27 := S24.nilRow 36 1
      refine fin2 (.agg #[.int .i64 0, .slice none 0 0]) (.int .i64 8) Try.results29 A26 S27 (rv_cell (g := g3) (off := 0) 0 (by kernel_rfl) rfl (by kernel_rfl)) (rv_tmp (by kernel_rfl)) ?_
      have bw := S27.kp
      have ow := S27.row 0 rfl
      have ez := avZ_1 (ms := ms) (by omega)
      obtain ⟨e1, e2⟩ := av_err ez (by decide)
      rw [e1, e2, ez]
      exact ⟨_, rfl, bw, ow⟩
    · have p28 := of_decide_eq_false h20
      refine wp_skip ?_
      refine n_then ?_
      refine wp_seq ?_
      refine wp_seq ?_
      refine wp_region_lit ?_
      refine s_one (.int .i64 0) A19 S2 (g_assign (by kernel_rfl)) rfl (fun ac A29 => ?_)
      refine wpList_nil ?_
      refine n_then ?_
      refine wp_block ?_
      refine c_loopN (fun mm ac wc => ∃ (k : Nat), mm = ms.length - k ∧ (k ≤ ms.length) ∧ (avGood ms k) ∧ Fr 90 ac [(0, .slice A ms.length cap), (2, .pointer (some ⟨g3, 0, none⟩)), (11, .slice A ms.length cap), (12, .int .i64 (ms.length : Int)), (13, .bool (decide ((ms.length : Int) = 0))), (15, .slice A ms.length cap), (16, .int .i64 (ms.length : Int)), (17, .bool (decide ((ms.length : Int) > 32))), (4, .int .i64 (k : Int))] ∧ St w0 [⟨g3, 30, #[.int .i64 0, .slice none 0 0], true⟩] [] wc) _ ⟨0, rfl, Nat.zero_le _, good_zero ms, (A29.slot (A29.slot (A29.slot (A29.slot (A29.slot (A29.slot (A29.slot (A29.slot (A29.slot A29.nil (v := .int .i64 0) (by kernel_rfl) (congrArg (Value.int .i64) (by omega))) (v := .bool (decide ((ms.length : Int) > 32))) (by kernel_rfl) rfl) (v := .int .i64 (ms.length : Int)) (by kernel_rfl) rfl) (v := .slice A ms.length cap) (by kernel_rfl) rfl) (v := .bool (decide ((ms.length : Int) = 0))) (by kernel_rfl) rfl) (v := .int .i64 (ms.length : Int)) (by kernel_rfl) rfl) (v := .slice A ms.length cap) (by kernel_rfl) rfl) (v := .pointer (some ⟨g3, 0, none⟩)) (by kernel_rfl) rfl) (v := .slice A ms.length cap) (by kernel_rfl) rfl), S2.sub sub_all sub_all⟩ ?_
      rintro mm ac wc ⟨k, hm32, hk, hgd, A30, S31⟩
      refine wp_seq ?_
      refine wp_seq ?_
      refine wp_region_lit ?_
      refine s_one (.int .i64 (k : Int)) A30 S31 (g_move (by kernel_rfl)) rfl (fun ac A33 => ?_)
      refine s_one (.slice A ms.length cap) A33 S31 (g_move (by kernel_rfl)) rfl (fun ac A34 => ?_)
      refine s_one (.int .i64 (ms.length : Int)) A34 S31 (g_built (r := [(0, .slice A ms.length cap)]) (by kernel_rfl) (fun _ _ _ => by kernel_rfl)) rfl (fun ac A35 => ?_)
      refine s_one (.bool (decide ((k : Int) < (ms.length : Int)))) A35 S31 (g_bin (u := .int .i64 (k : Int)) (k := .int .i64 (ms.length : Int)) (by kernel_rfl) (by kernel_rfl) (fun _ => by kernel_rfl) (fun _ => by kernel_rfl)) rfl (fun ac A36 => ?_)
      refine wpList_nil ?_
      refine n_then ?_
      refine c_ifb (b := (decide ((k : Int) < (ms.length : Int)))) A36 (by kernel_rfl) (fun h37 => ?_) (fun h37 => ?_)
      · have p38 := of_decide_eq_true h37
        refine wp_skip ?_
        refine n_then ?_
        refine wp_seq ?_
        refine wp_block ?_
        refine wp_seq ?_
        refine wp_seq ?_
        refine wp_region_lit ?_
        refine s_one (.slice A ms.length cap) A36 S31 (g_move (by kernel_rfl)) rfl (fun ac A39 => ?_)
        refine s_one (.int .i64 (k : Int)) A39 S31 (g_move (by kernel_rfl)) rfl (fun ac A40 => ?_)
        obtain ⟨ad41, he42, hx43⟩ := mt_at hr (k := k) (by omega)
        have hq44 := (hr.2 k (by omega)).few
        have hq45 := (hr.2 k (by omega)).cap
        have hq46 := (hr.2 k (by omega)).len
        refine s_one (.pointer (some (ad41.add (k * 2)))) A40 S31 (g_index (u := .slice A ms.length cap) (k := .int .i64 (k : Int)) (by kernel_rfl) (by kernel_rfl) (ix_xsB (e := 30) (size := 2) (bytes := 32) k (by kernel_rfl) (by omega) (by omega) he42)) rfl (fun ac A47 => ?_)
        refine s_one (.agg #[.int .i64 ((mtK ms k).el), .slice (mtK ms k).B ((mtK ms k).n) (mtK ms k).c]) A47 S31 (g_loadXV (p := ad41.add (k * 2)) (X := mtC (mtK ms k)) (by kernel_rfl) hx43 (by kernel_rfl) rfl) rfl (fun ac A48 => ?_)
        refine s_call (fs := #[]) (cp := #[]) (r := [(0, .agg #[.int .i64 ((mtK ms k).el), .slice (mtK ms k).B ((mtK ms k).n) (mtK ms k).c])]) #[.agg #[.int .i64 ((mtK ms k).el), .slice (mtK ms k).B ((mtK ms k).n) (mtK ms k).c]] (.tuple #[.int .i64 ((mxC ((mtK ms k).el) ((mtK ms k).xs)).1), .int .i64 ((mxC ((mtK ms k).el) ((mtK ms k).xs)).2)]) A48 S31 (refCheckMatrix_s ((mtK ms k).el) (mtK ms k).B ((mtK ms k).n) (mtK ms k).c ((mtK ms k).xs) _ (hr.2 k (by omega)).len ((hr.2 k (by omega)).rd.kept S31.kp) (by omega)) Try.call17 (by kernel_rfl) (by kernel_rfl) (by kernel_rfl) rfl (fun ac wc A49 S50 => ?_)
        refine s_one (.tuple #[.int .i64 ((mxC ((mtK ms k).el) ((mtK ms k).xs)).1), .int .i64 ((mxC ((mtK ms k).el) ((mtK ms k).xs)).2)]) A49 S50 (g_move (by kernel_rfl)) rfl (fun ac A52 => ?_)
        refine s_one (.int .i64 ((mxC ((mtK ms k).el) ((mtK ms k).xs)).1)) A52 S50 (g_extract (u := .tuple #[.int .i64 ((mxC ((mtK ms k).el) ((mtK ms k).xs)).1), .int .i64 ((mxC ((mtK ms k).el) ((mtK ms k).xs)).2)]) (by kernel_rfl) (fun _ => by kernel_rfl)) rfl (fun ac A53 => ?_)
        refine s_one (.int .i64 ((mxC ((mtK ms k).el) ((mtK ms k).xs)).2)) A53 S50 (g_extract (u := .tuple #[.int .i64 ((mxC ((mtK ms k).el) ((mtK ms k).xs)).1), .int .i64 ((mxC ((mtK ms k).el) ((mtK ms k).xs)).2)]) (by kernel_rfl) (fun _ => by kernel_rfl)) rfl (fun ac A54 => ?_)
        refine s_one (.int .i64 ((mxC ((mtK ms k).el) ((mtK ms k).xs)).1)) A54 S50 (g_assign (by kernel_rfl)) rfl (fun ac A55 => ?_)
        refine s_one (.int .i64 ((mxC ((mtK ms k).el) ((mtK ms k).xs)).2)) A55 S50 (g_assign (by kernel_rfl)) rfl (fun ac A56 => ?_)
        refine wpList_nil ?_
        refine n_then ?_
        refine wp_seq ?_
        refine wp_region_lit ?_
        refine s_one (.int .i64 ((mxC ((mtK ms k).el) ((mtK ms k).xs)).2)) A56 S50 (g_move (by kernel_rfl)) rfl (fun ac A57 => ?_)
        refine s_one (.bool (decide ((mxC ((mtK ms k).el) ((mtK ms k).xs)).2 ≠ 0))) A57 S50 (g_bin (u := .int .i64 ((mxC ((mtK ms k).el) ((mtK ms k).xs)).2)) (k := .int .i64 0) (by kernel_rfl) (by kernel_rfl) (fun _ => by kernel_rfl) b_neq) rfl (fun ac A58 => ?_)
        refine wpList_nil ?_
        refine n_then ?_
        refine c_ifb (b := (decide ((mxC ((mtK ms k).el) ((mtK ms k).xs)).2 ≠ 0))) A58 (by kernel_rfl) (fun h59 => ?_) (fun h59 => ?_)
        · have p60 := of_decide_eq_true h59
          have hne := p60
          refine wp_seq ?_
          refine wp_region_lit ?_
          refine s_one (.agg #[.int .i64 0, .slice none 0 0]) A58 S50 (g_build (r := []) (by kernel_rfl) (fun _ => by kernel_rfl)) rfl (fun ac A61 => ?_)
          refine s_one (.int .i64 ((mxC ((mtK ms k).el) ((mtK ms k).xs)).2)) A61 S50 (g_move (by kernel_rfl)) rfl (fun ac A62 => ?_)
          refine s_store (g := g3) (off := 0) (v := .agg #[.int .i64 0, .slice none 0 0]) 0 (#[.int .i64 0, .slice none 0 0]) A62 S50 (by kernel_rfl) (by kernel_rfl) rfl (by kernel_rfl) (fun wc S64 => ?_)
          refine s_one (.int .i64 ((mxC ((mtK ms k).el) ((mtK ms k).xs)).2)) A62 S64 (g_assign (by kernel_rfl)) rfl (fun ac A66 => ?_)
          refine wpList_nil ?_
          refine n_then ?_
          refine wp_ret ?_
          refine r_then ?_
          refine r_block ?_
          refine r_then ?_
          refine r_then ?_
          refine r_block ?_
          refine r_then ?_
          have S67 := S64.nilRow 36 1
          refine fin2 (.agg #[.int .i64 0, .slice none 0 0]) (.int .i64 ((mxC ((mtK ms k).el) ((mtK ms k).xs)).2)) Try.results29 A66 S67 (rv_cell (g := g3) (off := 0) 0 (by kernel_rfl) rfl (by kernel_rfl)) (rv_tmp (by kernel_rfl)) ?_
          have bw := S67.kp
          have ow := S67.row 0 rfl
          have ez := avZ_e (ms := ms) (k := k) (by omega) (by omega) hgd hne
          rw [← ez]
          rw [← ez] at hne
          obtain ⟨e1, e2⟩ := av_err rfl hne
          rw [e1, e2]
          exact ⟨_, rfl, bw, ow⟩
        · have p68 := of_decide_eq_false h59
          have hz := Decidable.of_not_not p68
          refine wp_skip ?_
          refine n_then ?_
          refine wp_seq ?_
          refine r_begin (w0 := w0) (by kernel_rfl) (S50.sub sub_all sub_all) (fun wc T69 B70 => ?_)
          have S71 := S50.kept B70
          refine r_take 0 (.slice A ms.length cap) A58 T69 (g_move (by kernel_rfl)) rfl rfl rfl (pf_then (pf_block (pf_then (pf_then (pf_block (pf_then pf_body)))))) (by kernel_rfl) (fun ac A72 => ?_)
          refine r_take 1 (.int .i64 (k : Int)) A72 T69 (g_move (by kernel_rfl)) rfl rfl rfl (pf_then (pf_block (pf_then (pf_then (pf_block (pf_then pf_body)))))) (by kernel_rfl) (fun ac A73 => ?_)
          obtain ⟨ad74, he75, hx76⟩ := mt_at hr (k := k) (by omega)
          have hq77 := (hr.2 k (by omega)).few
          have hq78 := (hr.2 k (by omega)).cap
          have hq79 := (hr.2 k (by omega)).len
          refine r_take 2 (.pointer (some (ad74.add (k * 2)))) A73 T69 (g_index (u := .slice A ms.length cap) (k := .int .i64 (k : Int)) (by kernel_rfl) (by kernel_rfl) (ix_xsB (e := 30) (size := 2) (bytes := 32) k (by kernel_rfl) (by omega) (by omega) he75)) rfl rfl rfl (pf_then (pf_block (pf_then (pf_then (pf_block (pf_then pf_body)))))) (by kernel_rfl) (fun ac A80 => ?_)
          refine r_take 3 (.pointer (some (ad74.add (k * 2 + 0)))) A80 T69 (g_field (u := .pointer (some (ad74.add (k * 2)))) (by kernel_rfl) (fld_x (o := 0) (by kernel_rfl))) rfl rfl rfl (pf_then (pf_block (pf_then (pf_then (pf_block (pf_then pf_body)))))) (by kernel_rfl) (fun ac A81 => ?_)
          refine r_take 4 (.int .i64 ((mtK ms k).el)) A81 T69 (g_loadX (ad := ad74.add (k * 2 + 0)) (by kernel_rfl) (mt_cell (ms := ms) (k := k) (j := 0) hx76 (by omega) rfl) (by kernel_rfl)) rfl rfl rfl (pf_then (pf_block (pf_then (pf_then (pf_block (pf_then pf_body)))))) (by kernel_rfl) (fun ac A82 => ?_)
          refine r_take 5 (.slice A ms.length cap) A82 T69 (g_move (by kernel_rfl)) rfl rfl rfl (pf_then (pf_block (pf_then (pf_then (pf_block (pf_then pf_body)))))) (by kernel_rfl) (fun ac A83 => ?_)
          obtain ⟨ad84, he85, hx86⟩ := mt_at hr (k := 0) (by omega)
          have hq87 := (hr.2 0 (by omega)).few
          have hq88 := (hr.2 0 (by omega)).cap
          have hq89 := (hr.2 0 (by omega)).len
          refine r_take 6 (.pointer (some (ad84.add (0 * 2)))) A83 T69 (g_index (u := .slice A ms.length cap) (k := .int .i64 0) (by kernel_rfl) (by kernel_rfl) (ix_xsB (e := 30) (size := 2) (bytes := 32) 0 (by kernel_rfl) (by omega) (by omega) he85)) rfl rfl rfl (pf_then (pf_block (pf_then (pf_then (pf_block (pf_then pf_body)))))) (by kernel_rfl) (fun ac A90 => ?_)
          refine r_take 7 (.pointer (some (ad84.add (0 * 2 + 0)))) A90 T69 (g_field (u := .pointer (some (ad84.add (0 * 2)))) (by kernel_rfl) (fld_x (o := 0) (by kernel_rfl))) rfl rfl rfl (pf_then (pf_block (pf_then (pf_then (pf_block (pf_then pf_body)))))) (by kernel_rfl) (fun ac A91 => ?_)
          refine r_take 8 (.int .i64 ((mtK ms 0).el)) A91 T69 (g_loadX (ad := ad84.add (0 * 2 + 0)) (by kernel_rfl) (mt_cell (ms := ms) (k := 0) (j := 0) hx86 (by omega) rfl) (by kernel_rfl)) rfl rfl rfl (pf_then (pf_block (pf_then (pf_then (pf_block (pf_then pf_body)))))) (by kernel_rfl) (fun ac A92 => ?_)
          refine r_take 9 (.bool (decide ((mtK ms k).el ≠ (mtK ms 0).el))) A92 T69 (g_bin (u := .int .i64 ((mtK ms k).el)) (k := .int .i64 ((mtK ms 0).el)) (by kernel_rfl) (by kernel_rfl) (fun _ => by kernel_rfl) b_neq) rfl rfl rfl (pf_then (pf_block (pf_then (pf_then (pf_block (pf_then pf_body)))))) (by kernel_rfl) (fun ac A93 => ?_)
          refine r_done (by kernel_rfl) ?_
          refine n_then ?_
          refine c_ifb (b := (decide ((mtK ms k).el ≠ (mtK ms 0).el))) A93 (by kernel_rfl) (fun h94 => ?_) (fun h94 => ?_)
          · have p95 := of_decide_eq_true h94
            have hcl := p95
            refine wp_seq ?_
            refine wp_region_lit ?_
            refine s_one (.agg #[.int .i64 0, .slice none 0 0]) A93 S71 (g_build (r := []) (by kernel_rfl) (fun _ => by kernel_rfl)) rfl (fun ac A96 => ?_)
            refine s_store (g := g3) (off := 0) (v := .agg #[.int .i64 0, .slice none 0 0]) 0 (#[.int .i64 0, .slice none 0 0]) A96 S71 (by kernel_rfl) (by kernel_rfl) rfl (by kernel_rfl) (fun wc S98 => ?_)
            refine s_one (.int .i64 13) A96 S98 (g_assign (by kernel_rfl)) rfl (fun ac A100 => ?_)
            refine wpList_nil ?_
            refine n_then ?_
            refine wp_ret ?_
            refine r_block ?_
            refine r_then ?_
            refine r_then ?_
            refine r_block ?_
            refine r_then ?_
            have S101 := S98.nilRow 36 1
            refine fin2 (.agg #[.int .i64 0, .slice none 0 0]) (.int .i64 13) Try.results29 A100 S101 (rv_cell (g := g3) (off := 0) 0 (by kernel_rfl) rfl (by kernel_rfl)) (rv_tmp (by kernel_rfl)) ?_
            have bw := S101.kp
            have ow := S101.row 0 rfl
            have ez := avZ_c (ms := ms) (k := k) (by omega) (by omega) hgd hz hcl
            obtain ⟨e1, e2⟩ := av_err ez (by decide)
            rw [e1, e2, ez]
            exact ⟨_, rfl, bw, ow⟩
          · have p102 := of_decide_eq_false h94
            have hcl := Decidable.of_not_not p102
            refine wp_skip ?_
            refine n_block ?_
            refine n_then ?_
            refine wp_region_lit ?_
            refine s_one (.int .i64 (k : Int)) A93 S71 (g_move (by kernel_rfl)) rfl (fun ac A103 => ?_)
            refine s_one (.int .i64 ((k : Int) + 1)) A103 S71 (g_bin (u := .int .i64 (k : Int)) (k := .int .i64 1) (by kernel_rfl) (by kernel_rfl) (fun _ => by kernel_rfl) (b_add (by omega))) rfl (fun ac A104 => ?_)
            refine s_one (.int .i64 ((k : Int) + 1)) A104 S71 (g_assign (by kernel_rfl)) rfl (fun ac A105 => ?_)
            refine wpList_nil ?_
            refine n_then ?_
            refine ⟨_, ⟨k + 1, rfl, by omega, good_snoc hgd hz hcl, (A105.slot (A105.slot (A105.slot (A105.slot (A105.slot (A105.slot (A105.slot (A105.slot (A105.slot A105.nil (v := .int .i64 ((k : Int) + 1)) (by kernel_rfl) (congrArg (Value.int .i64) (by omega))) (v := .bool (decide ((ms.length : Int) > 32))) (by kernel_rfl) rfl) (v := .int .i64 (ms.length : Int)) (by kernel_rfl) rfl) (v := .slice A ms.length cap) (by kernel_rfl) rfl) (v := .bool (decide ((ms.length : Int) = 0))) (by kernel_rfl) rfl) (v := .int .i64 (ms.length : Int)) (by kernel_rfl) rfl) (v := .slice A ms.length cap) (by kernel_rfl) rfl) (v := .pointer (some ⟨g3, 0, none⟩)) (by kernel_rfl) rfl) (v := .slice A ms.length cap) (by kernel_rfl) rfl), S71.sub sub_all sub_all⟩, ?_⟩
            omega
      · have p106 := of_decide_eq_false h37
        refine wp_exit ?_
        refine x_then ?_
        refine x_then ?_
        refine x_hit ?_
        refine n_then ?_
        refine wp_seq ?_
        have ek : k = ms.length := by omega
        have hgA : avGood ms ms.length := by rw [← ek]; exact hgd
        have hn0 := (hr.2 0 (by omega)).len
        have hf0 := (hr.2 0 (by omega)).few
        refine wp_region_lit ?_
        refine s_one (.slice A ms.length cap) A36 S31 (g_move (by kernel_rfl)) rfl (fun ac A107 => ?_)
        obtain ⟨ad108, he109, hx110⟩ := mt_at hr (k := 0) (by omega)
        have hq111 := (hr.2 0 (by omega)).few
        have hq112 := (hr.2 0 (by omega)).cap
        have hq113 := (hr.2 0 (by omega)).len
        refine s_one (.pointer (some (ad108.add (0 * 2)))) A107 S31 (g_index (u := .slice A ms.length cap) (k := .int .i64 0) (by kernel_rfl) (by kernel_rfl) (ix_xsB (e := 30) (size := 2) (bytes := 32) 0 (by kernel_rfl) (by omega) (by omega) he109)) rfl (fun ac A114 => ?_)
        refine s_one (.pointer (some (ad108.add (0 * 2 + 0)))) A114 S31 (g_field (u := .pointer (some (ad108.add (0 * 2)))) (by kernel_rfl) (fld_x (o := 0) (by kernel_rfl))) rfl (fun ac A115 => ?_)
        refine s_one (.int .i64 ((mtK ms 0).el)) A115 S31 (g_loadX (ad := ad108.add (0 * 2 + 0)) (by kernel_rfl) (mt_cell (ms := ms) (k := 0) (j := 0) hx110 (by omega) rfl) (by kernel_rfl)) rfl (fun ac A116 => ?_)
        refine s_one (.agg #[.int .i64 ((mtK ms 0).el), .slice none 0 0]) A116 S31 (g_build (r := [(0, .int .i64 ((mtK ms 0).el))]) (by kernel_rfl) (fun _ => by kernel_rfl)) rfl (fun ac A117 => ?_)
        refine s_alloc (#[.int .i64 0, .slice none 0 0]) A117 S31 (by kernel_rfl) rfl (fun g120 ac wc A118 S119 => ?_)
        refine s_store (g := g120) (off := 0) (v := .agg #[.int .i64 ((mtK ms 0).el), .slice none 0 0]) 0 (#[.int .i64 ((mtK ms 0).el), .slice none 0 0]) A118 S119 (by kernel_rfl) (by kernel_rfl) rfl (by kernel_rfl) (fun wc S122 => ?_)
        refine wpList_nil ?_
        refine n_then ?_
        refine wp_seq ?_
        refine wp_seq ?_
        have S0n := S122.nilRow 36 1
        refine wp_region_lit ?_
        refine s_one (.int .i64 0) A118 S0n (g_assign (by kernel_rfl)) rfl (fun ac A124 => ?_)
        refine wpList_nil ?_
        refine n_then ?_
        refine wp_block ?_
        refine c_loopN (fun mm ac wc => ∃ (p : Nat) (v : Value), mm = (mtK ms 0).n - p ∧ (p ≤ (mtK ms 0).n) ∧ Fr 90 ac [(0, .slice A ms.length cap), (2, .pointer (some ⟨g3, 0, none⟩)), (11, .slice A ms.length cap), (12, .int .i64 (ms.length : Int)), (13, .bool (decide ((ms.length : Int) = 0))), (15, .slice A ms.length cap), (16, .int .i64 (ms.length : Int)), (17, .bool (decide ((ms.length : Int) > 32))), (4, .int .i64 (k : Int)), (19, .int .i64 (k : Int)), (20, .slice A ms.length cap), (21, .int .i64 (ms.length : Int)), (22, .bool (decide ((k : Int) < (ms.length : Int)))), (48, .slice A ms.length cap), (49, .pointer (some (ad108.add (0 * 2)))), (50, .pointer (some (ad108.add (0 * 2 + 0)))), (51, .int .i64 ((mtK ms 0).el)), (52, .agg #[.int .i64 ((mtK ms 0).el), .slice none 0 0]), (7, .pointer (some ⟨g120, 0, none⟩)), (8, .int .i64 (p : Int))] ∧ St w0 [⟨g120, 30, #[.int .i64 ((mtK ms 0).el), v], true⟩, ⟨g3, 30, #[.int .i64 0, .slice none 0 0], true⟩] [⟨v, 36, 1, p, (rowF (fw (avL ms p)))⟩] wc) _ ⟨0, .slice none 0 0, rfl, by omega, (A124.slot (A124.slot (A124.slot (A124.slot (A124.slot (A124.slot (A124.slot (A124.slot (A124.slot (A124.slot (A124.slot (A124.slot (A124.slot (A124.slot (A124.slot (A124.slot (A124.slot (A124.slot (A124.slot (A124.slot A124.nil (v := .int .i64 0) (by kernel_rfl) (congrArg (Value.int .i64) (by omega))) (v := .pointer (some ⟨g120, 0, none⟩)) (by kernel_rfl) rfl) (v := .agg #[.int .i64 ((mtK ms 0).el), .slice none 0 0]) (by kernel_rfl) rfl) (v := .int .i64 ((mtK ms 0).el)) (by kernel_rfl) rfl) (v := .pointer (some (ad108.add (0 * 2 + 0)))) (by kernel_rfl) rfl) (v := .pointer (some (ad108.add (0 * 2)))) (by kernel_rfl) rfl) (v := .slice A ms.length cap) (by kernel_rfl) rfl) (v := .bool (decide ((k : Int) < (ms.length : Int)))) (by kernel_rfl) rfl) (v := .int .i64 (ms.length : Int)) (by kernel_rfl) rfl) (v := .slice A ms.length cap) (by kernel_rfl) rfl) (v := .int .i64 (k : Int)) (by kernel_rfl) rfl) (v := .int .i64 (k : Int)) (by kernel_rfl) rfl) (v := .bool (decide ((ms.length : Int) > 32))) (by kernel_rfl) rfl) (v := .int .i64 (ms.length : Int)) (by kernel_rfl) rfl) (v := .slice A ms.length cap) (by kernel_rfl) rfl) (v := .bool (decide ((ms.length : Int) = 0))) (by kernel_rfl) rfl) (v := .int .i64 (ms.length : Int)) (by kernel_rfl) rfl) (v := .slice A ms.length cap) (by kernel_rfl) rfl) (v := .pointer (some ⟨g3, 0, none⟩)) (by kernel_rfl) rfl) (v := .slice A ms.length cap) (by kernel_rfl) rfl), (St.rerow 0 (St.recell 0 S0n rfl (by rfl)) rfl ⟨rfl, rfl⟩).sub sub_all sub_all⟩ ?_
        rintro mm ac wc ⟨p, v, hm127, hp, A125, S126⟩
        refine wp_seq ?_
        refine wp_seq ?_
        refine wp_region_lit ?_
        refine s_one (.int .i64 (p : Int)) A125 S126 (g_move (by kernel_rfl)) rfl (fun ac A128 => ?_)
        refine s_one (.slice A ms.length cap) A128 S126 (g_move (by kernel_rfl)) rfl (fun ac A129 => ?_)
        obtain ⟨ad130, he131, hx132⟩ := mt_at hr (k := 0) (by omega)
        have hq133 := (hr.2 0 (by omega)).few
        have hq134 := (hr.2 0 (by omega)).cap
        have hq135 := (hr.2 0 (by omega)).len
        refine s_one (.pointer (some (ad130.add (0 * 2)))) A129 S126 (g_index (u := .slice A ms.length cap) (k := .int .i64 0) (by kernel_rfl) (by kernel_rfl) (ix_xsB (e := 30) (size := 2) (bytes := 32) 0 (by kernel_rfl) (by omega) (by omega) he131)) rfl (fun ac A136 => ?_)
        refine s_one (.pointer (some (ad130.add (0 * 2 + 1)))) A136 S126 (g_field (u := .pointer (some (ad130.add (0 * 2)))) (by kernel_rfl) (fld_x (o := 1) (by kernel_rfl))) rfl (fun ac A137 => ?_)
        refine s_one (.slice (mtK ms 0).B ((mtK ms 0).n) (mtK ms 0).c) A137 S126 (g_loadX (ad := ad130.add (0 * 2 + 1)) (by kernel_rfl) (mt_cell (ms := ms) (k := 0) (j := 1) hx132 (by omega) rfl) (by kernel_rfl)) rfl (fun ac A138 => ?_)
        refine s_one (.int .i64 ((mtK ms 0).n : Int)) A138 S126 (g_built (r := [(0, .slice (mtK ms 0).B ((mtK ms 0).n) (mtK ms 0).c)]) (by kernel_rfl) (fun _ _ _ => by kernel_rfl)) rfl (fun ac A139 => ?_)
        refine s_one (.bool (decide ((p : Int) < ((mtK ms 0).n : Int)))) A139 S126 (g_bin (u := .int .i64 (p : Int)) (k := .int .i64 ((mtK ms 0).n : Int)) (by kernel_rfl) (by kernel_rfl) (fun _ => by kernel_rfl) (fun _ => by kernel_rfl)) rfl (fun ac A140 => ?_)
        refine wpList_nil ?_
        refine n_then ?_
        refine c_ifb (b := (decide ((p : Int) < ((mtK ms 0).n : Int)))) A140 (by kernel_rfl) (fun h141 => ?_) (fun h141 => ?_)
        · have p142 := of_decide_eq_true h141
          refine wp_skip ?_
          refine n_then ?_
          refine wp_seq ?_
          refine wp_block ?_
          refine wp_seq ?_
          refine wp_region_lit ?_
          refine s_one (.int .i64 0) A140 S126 (g_assign (by kernel_rfl)) rfl (fun ac A143 => ?_)
          refine wpList_nil ?_
          refine n_then ?_
          refine wp_seq ?_
          refine wp_seq ?_
          refine wp_region_lit ?_
          refine s_one (.int .i64 0) A143 S126 (g_assign (by kernel_rfl)) rfl (fun ac A144 => ?_)
          refine wpList_nil ?_
          refine n_then ?_
          refine wp_block ?_
          refine c_loopN (fun mm ac wc => ∃ (i : Nat), mm = ms.length - i ∧ (i ≤ ms.length) ∧ Fr 90 ac [(0, .slice A ms.length cap), (2, .pointer (some ⟨g3, 0, none⟩)), (11, .slice A ms.length cap), (12, .int .i64 (ms.length : Int)), (13, .bool (decide ((ms.length : Int) = 0))), (15, .slice A ms.length cap), (16, .int .i64 (ms.length : Int)), (17, .bool (decide ((ms.length : Int) > 32))), (4, .int .i64 (k : Int)), (19, .int .i64 (k : Int)), (20, .slice A ms.length cap), (21, .int .i64 (ms.length : Int)), (22, .bool (decide ((k : Int) < (ms.length : Int)))), (48, .slice A ms.length cap), (49, .pointer (some (ad108.add (0 * 2)))), (50, .pointer (some (ad108.add (0 * 2 + 0)))), (51, .int .i64 ((mtK ms 0).el)), (52, .agg #[.int .i64 ((mtK ms 0).el), .slice none 0 0]), (7, .pointer (some ⟨g120, 0, none⟩)), (8, .int .i64 (p : Int)), (53, .int .i64 (p : Int)), (54, .slice A ms.length cap), (55, .pointer (some (ad130.add (0 * 2)))), (56, .pointer (some (ad130.add (0 * 2 + 1)))), (57, .slice (mtK ms 0).B ((mtK ms 0).n) (mtK ms 0).c), (58, .int .i64 ((mtK ms 0).n : Int)), (59, .bool (decide ((p : Int) < ((mtK ms 0).n : Int)))), (9, .int .i64 (sumK ms p i)), (10, .int .i64 (i : Int))] ∧ St w0 [⟨g120, 30, #[.int .i64 ((mtK ms 0).el), v], true⟩, ⟨g3, 30, #[.int .i64 0, .slice none 0 0], true⟩] [⟨v, 36, 1, p, (rowF (fw (avL ms p)))⟩] wc) _ ⟨0, rfl, Nat.zero_le _, (A144.slot (A144.slot (A144.slot (A144.slot (A144.slot (A144.slot (A144.slot (A144.slot (A144.slot (A144.slot (A144.slot (A144.slot (A144.slot (A144.slot (A144.slot (A144.slot (A144.slot (A144.slot (A144.slot (A144.slot (A144.slot (A144.slot (A144.slot (A144.slot (A144.slot (A144.slot (A144.slot (A144.slot (A144.slot A144.nil (v := .int .i64 0) (by kernel_rfl) (congrArg (Value.int .i64) (by omega))) (v := .int .i64 0) (by kernel_rfl) rfl) (v := .bool (decide ((p : Int) < ((mtK ms 0).n : Int)))) (by kernel_rfl) rfl) (v := .int .i64 ((mtK ms 0).n : Int)) (by kernel_rfl) rfl) (v := .slice (mtK ms 0).B ((mtK ms 0).n) (mtK ms 0).c) (by kernel_rfl) rfl) (v := .pointer (some (ad130.add (0 * 2 + 1)))) (by kernel_rfl) rfl) (v := .pointer (some (ad130.add (0 * 2)))) (by kernel_rfl) rfl) (v := .slice A ms.length cap) (by kernel_rfl) rfl) (v := .int .i64 (p : Int)) (by kernel_rfl) rfl) (v := .int .i64 (p : Int)) (by kernel_rfl) rfl) (v := .pointer (some ⟨g120, 0, none⟩)) (by kernel_rfl) rfl) (v := .agg #[.int .i64 ((mtK ms 0).el), .slice none 0 0]) (by kernel_rfl) rfl) (v := .int .i64 ((mtK ms 0).el)) (by kernel_rfl) rfl) (v := .pointer (some (ad108.add (0 * 2 + 0)))) (by kernel_rfl) rfl) (v := .pointer (some (ad108.add (0 * 2)))) (by kernel_rfl) rfl) (v := .slice A ms.length cap) (by kernel_rfl) rfl) (v := .bool (decide ((k : Int) < (ms.length : Int)))) (by kernel_rfl) rfl) (v := .int .i64 (ms.length : Int)) (by kernel_rfl) rfl) (v := .slice A ms.length cap) (by kernel_rfl) rfl) (v := .int .i64 (k : Int)) (by kernel_rfl) rfl) (v := .int .i64 (k : Int)) (by kernel_rfl) rfl) (v := .bool (decide ((ms.length : Int) > 32))) (by kernel_rfl) rfl) (v := .int .i64 (ms.length : Int)) (by kernel_rfl) rfl) (v := .slice A ms.length cap) (by kernel_rfl) rfl) (v := .bool (decide ((ms.length : Int) = 0))) (by kernel_rfl) rfl) (v := .int .i64 (ms.length : Int)) (by kernel_rfl) rfl) (v := .slice A ms.length cap) (by kernel_rfl) rfl) (v := .pointer (some ⟨g3, 0, none⟩)) (by kernel_rfl) rfl) (v := .slice A ms.length cap) (by kernel_rfl) rfl), S126.sub sub_all sub_all⟩ ?_
          rintro mm ac wc ⟨i, hm147, hi, A145, S146⟩
          have hsb := sumK_bd (ms := ms) (k := i) (fun j hj => hgA j (by omega)) p
          refine wp_seq ?_
          refine wp_seq ?_
          refine wp_region_lit ?_
          refine s_one (.int .i64 (i : Int)) A145 S146 (g_move (by kernel_rfl)) rfl (fun ac A148 => ?_)
          refine s_one (.slice A ms.length cap) A148 S146 (g_move (by kernel_rfl)) rfl (fun ac A149 => ?_)
          refine s_one (.int .i64 (ms.length : Int)) A149 S146 (g_built (r := [(0, .slice A ms.length cap)]) (by kernel_rfl) (fun _ _ _ => by kernel_rfl)) rfl (fun ac A150 => ?_)
          refine s_one (.bool (decide ((i : Int) < (ms.length : Int)))) A150 S146 (g_bin (u := .int .i64 (i : Int)) (k := .int .i64 (ms.length : Int)) (by kernel_rfl) (by kernel_rfl) (fun _ => by kernel_rfl) (fun _ => by kernel_rfl)) rfl (fun ac A151 => ?_)
          refine wpList_nil ?_
          refine n_then ?_
          refine c_ifb (b := (decide ((i : Int) < (ms.length : Int)))) A151 (by kernel_rfl) (fun h152 => ?_) (fun h152 => ?_)
          · have p153 := of_decide_eq_true h152
            refine wp_skip ?_
            refine n_then ?_
            refine wp_seq ?_
            refine wp_block ?_
            have hgl := good_len hgA (j := i) (by omega)
            have hnl := (hr.2 i (by omega)).len
            have HR : ∀ q, q < (mtK ms i).n → sErr (nth (mtK ms i).xs q) = 0 := fun q hq => (good_right hgA (j := i) (by omega)).at_ (by omega)
            have hnb := num_range (HR p (by omega))
            refine wp_region_lit ?_
            refine s_one (.int .i64 (sumK ms p i)) A151 S146 (g_move (by kernel_rfl)) rfl (fun ac A154 => ?_)
            refine s_one (.slice A ms.length cap) A154 S146 (g_move (by kernel_rfl)) rfl (fun ac A155 => ?_)
            refine s_one (.int .i64 (i : Int)) A155 S146 (g_move (by kernel_rfl)) rfl (fun ac A156 => ?_)
            obtain ⟨ad157, he158, hx159⟩ := mt_at hr (k := i) (by omega)
            have hq160 := (hr.2 i (by omega)).few
            have hq161 := (hr.2 i (by omega)).cap
            have hq162 := (hr.2 i (by omega)).len
            refine s_one (.pointer (some (ad157.add (i * 2)))) A156 S146 (g_index (u := .slice A ms.length cap) (k := .int .i64 (i : Int)) (by kernel_rfl) (by kernel_rfl) (ix_xsB (e := 30) (size := 2) (bytes := 32) i (by kernel_rfl) (by omega) (by omega) he158)) rfl (fun ac A163 => ?_)
            refine s_one (.pointer (some (ad157.add (i * 2 + 1)))) A163 S146 (g_field (u := .pointer (some (ad157.add (i * 2)))) (by kernel_rfl) (fld_x (o := 1) (by kernel_rfl))) rfl (fun ac A164 => ?_)
            refine s_one (.slice (mtK ms i).B ((mtK ms i).n) (mtK ms i).c) A164 S146 (g_loadX (ad := ad157.add (i * 2 + 1)) (by kernel_rfl) (mt_cell (ms := ms) (k := i) (j := 1) hx159 (by omega) rfl) (by kernel_rfl)) rfl (fun ac A165 => ?_)
            refine s_one (.int .i64 (p : Int)) A165 S146 (g_move (by kernel_rfl)) rfl (fun ac A166 => ?_)
            obtain ⟨ad167, he168, hc169⟩ := (hr.2 i (by omega)).rd p (by omega)
            refine s_one (.pointer (some (ad167.add p))) A166 S146 (g_index (u := .slice (mtK ms i).B ((mtK ms i).n) (mtK ms i).c) (k := .int .i64 (p : Int)) (by kernel_rfl) (by kernel_rfl) (ix_xA (e := 36) (bytes := 4) p (by kernel_rfl) (by omega) (by omega) he168)) rfl (fun ac A170 => ?_)
            refine s_one (.float .f32 (nth (mtK ms i).xs p)) A170 S146 (g_loadX (ad := ad167.add p) (by kernel_rfl) hc169 (by kernel_rfl)) rfl (fun ac A171 => ?_)
            refine s_one (.int .i64 (num (nth (mtK ms i).xs p))) A171 S146 (g_conv (u := .float .f32 (nth (mtK ms i).xs p)) (by kernel_rfl) (run_toInt (HR _ (by omega)))) rfl (fun ac A172 => ?_)
            refine s_one (.int .i64 (sumK ms p i + (num (nth (mtK ms i).xs p)))) A172 S146 (g_bin (u := .int .i64 (sumK ms p i)) (k := .int .i64 (num (nth (mtK ms i).xs p))) (by kernel_rfl) (by kernel_rfl) (fun _ => by kernel_rfl) (b_add (by omega))) rfl (fun ac A173 => ?_)
            refine s_one (.int .i64 (sumK ms p i + (num (nth (mtK ms i).xs p)))) A173 S146 (g_assign (by kernel_rfl)) rfl (fun ac A174 => ?_)
            refine wpList_nil ?_
            refine n_block ?_
            refine n_then ?_
            refine wp_region_lit ?_
            refine s_one (.int .i64 (i : Int)) A174 S146 (g_move (by kernel_rfl)) rfl (fun ac A175 => ?_)
            refine s_one (.int .i64 ((i : Int) + 1)) A175 S146 (g_bin (u := .int .i64 (i : Int)) (k := .int .i64 1) (by kernel_rfl) (by kernel_rfl) (fun _ => by kernel_rfl) (b_add (by omega))) rfl (fun ac A176 => ?_)
            refine s_one (.int .i64 ((i : Int) + 1)) A176 S146 (g_assign (by kernel_rfl)) rfl (fun ac A177 => ?_)
            refine wpList_nil ?_
            refine n_then ?_
            refine ⟨_, ⟨i + 1, rfl, by omega, (A177.slot (A177.slot (A177.slot (A177.slot (A177.slot (A177.slot (A177.slot (A177.slot (A177.slot (A177.slot (A177.slot (A177.slot (A177.slot (A177.slot (A177.slot (A177.slot (A177.slot (A177.slot (A177.slot (A177.slot (A177.slot (A177.slot (A177.slot (A177.slot (A177.slot (A177.slot (A177.slot (A177.slot (A177.slot A177.nil (v := .int .i64 ((i : Int) + 1)) (by kernel_rfl) (congrArg (Value.int .i64) (by omega))) (v := .int .i64 (sumK ms p i + (num (nth (mtK ms i).xs p)))) (by kernel_rfl) (congrArg (Value.int .i64) (by rw [sumK, mi_nth (by omega)]))) (v := .bool (decide ((p : Int) < ((mtK ms 0).n : Int)))) (by kernel_rfl) rfl) (v := .int .i64 ((mtK ms 0).n : Int)) (by kernel_rfl) rfl) (v := .slice (mtK ms 0).B ((mtK ms 0).n) (mtK ms 0).c) (by kernel_rfl) rfl) (v := .pointer (some (ad130.add (0 * 2 + 1)))) (by kernel_rfl) rfl) (v := .pointer (some (ad130.add (0 * 2)))) (by kernel_rfl) rfl) (v := .slice A ms.length cap) (by kernel_rfl) rfl) (v := .int .i64 (p : Int)) (by kernel_rfl) rfl) (v := .int .i64 (p : Int)) (by kernel_rfl) rfl) (v := .pointer (some ⟨g120, 0, none⟩)) (by kernel_rfl) rfl) (v := .agg #[.int .i64 ((mtK ms 0).el), .slice none 0 0]) (by kernel_rfl) rfl) (v := .int .i64 ((mtK ms 0).el)) (by kernel_rfl) rfl) (v := .pointer (some (ad108.add (0 * 2 + 0)))) (by kernel_rfl) rfl) (v := .pointer (some (ad108.add (0 * 2)))) (by kernel_rfl) rfl) (v := .slice A ms.length cap) (by kernel_rfl) rfl) (v := .bool (decide ((k : Int) < (ms.length : Int)))) (by kernel_rfl) rfl) (v := .int .i64 (ms.length : Int)) (by kernel_rfl) rfl) (v := .slice A ms.length cap) (by kernel_rfl) rfl) (v := .int .i64 (k : Int)) (by kernel_rfl) rfl) (v := .int .i64 (k : Int)) (by kernel_rfl) rfl) (v := .bool (decide ((ms.length : Int) > 32))) (by kernel_rfl) rfl) (v := .int .i64 (ms.length : Int)) (by kernel_rfl) rfl) (v := .slice A ms.length cap) (by kernel_rfl) rfl) (v := .bool (decide ((ms.length : Int) = 0))) (by kernel_rfl) rfl) (v := .int .i64 (ms.length : Int)) (by kernel_rfl) rfl) (v := .slice A ms.length cap) (by kernel_rfl) rfl) (v := .pointer (some ⟨g3, 0, none⟩)) (by kernel_rfl) rfl) (v := .slice A ms.length cap) (by kernel_rfl) rfl), S146.sub sub_all sub_all⟩, ?_⟩
            omega
          · have p178 := of_decide_eq_false h152
            refine wp_exit ?_
            refine x_then ?_
            refine x_then ?_
            refine x_hit ?_
            refine n_then ?_
            obtain rfl : i = ms.length := by omega
            refine r_begin (w0 := w0) (by kernel_rfl) (S146.sub (sub_skip sub_all) sub_nil) (fun wc T179 B180 => ?_)
            have S181 := S146.kept B180
            refine r_take 0 (.pointer (some ⟨g120, 1, none⟩)) A151 T179 (g_field (u := .pointer (some ⟨g120, 0, none⟩)) (by kernel_rfl) (fun _ => by kernel_rfl)) rfl rfl rfl (pf_block (pf_then (pf_then (pf_block (pf_then pf_body))))) (by kernel_rfl) (fun ac A182 => ?_)
            refine r_take 2 (.int .i64 (sumK ms p ms.length)) A182 T179 (g_move (by kernel_rfl)) rfl rfl rfl (pf_block (pf_then (pf_then (pf_block (pf_then pf_body))))) (by kernel_rfl) (fun ac A183 => ?_)
            refine r_take 3 (.slice A ms.length cap) A183 T179 (g_move (by kernel_rfl)) rfl rfl rfl (pf_block (pf_then (pf_then (pf_block (pf_then pf_body))))) (by kernel_rfl) (fun ac A184 => ?_)
            refine r_take 4 (.int .i64 (ms.length : Int)) A184 T179 (g_built (r := [(0, .slice A ms.length cap)]) (by kernel_rfl) (fun _ _ _ => by kernel_rfl)) rfl rfl rfl (pf_block (pf_then (pf_then (pf_block (pf_then pf_body))))) (by kernel_rfl) (fun ac A185 => ?_)
            refine r_2 (i := 1) (j := 5) (by kernel_rfl) ?_ ?_
            · refine rs_gives (v) A185 S181 (sub_skip sub_all) sub_nil (g_load (g := g120) (off := 1) 0 (by kernel_rfl) rfl (by kernel_rfl)) rfl rfl rfl (fun ac A186 => ?_)
              refine r_1 (i := 5) (by kernel_rfl) ?_
              refine rs_call (fs := #[]) (cp := #[]) (r := [(0, .int .i64 (sumK ms p ms.length)), (0, .int .i64 (ms.length : Int))]) #[.int .i64 (sumK ms p ms.length), .int .i64 (ms.length : Int)] (.int .i64 (rndI (sumK ms p ms.length) ms.length)) A186 S181 (sub_skip sub_all) sub_nil (refRounded_s (sumK ms p ms.length) ms.length _ (by omega) (by omega) (by omega)) Try.call76 rfl rfl (by kernel_rfl) (by kernel_rfl) (by kernel_rfl) rfl (fun ac wc A190 S191 => ?_)
              have T193 := S191.sub (sub_skip sub_all) sub_nil
              refine r_take 6 (.float .f32 (floatOfInt .f32 (rndI (sumK ms p ms.length) ms.length))) A190 T193 (g_conv (u := .int .i64 (rndI (sumK ms p ms.length) ms.length)) (by kernel_rfl) (fun _ => by kernel_rfl)) rfl rfl rfl (pf_block (pf_then (pf_then (pf_block (pf_then pf_body))))) (by kernel_rfl) (fun ac A194 => ?_)
              refine r_1 (i := 7) (by kernel_rfl) ?_
              refine rs_bs (e := 36) (r := [(0, .float .f32 (floatOfInt .f32 (rndI (sumK ms p ms.length) ms.length)))]) (#[.float .f32 (floatOfInt .f32 (rndI (sumK ms p ms.length) ms.length))]) A194 S191 (sub_skip sub_all) sub_nil (by kernel_rfl) (by kernel_rfl) rfl rfl rfl (fun g197 ac wc A195 S196 => ?_)
              have T198 := S196.sub (sub_skip (sub_skip sub_all)) sub_nil
              refine r_1 (i := 8) (by kernel_rfl) ?_
              refine rs_append (e := 36) (size := 1) (bytes := 4) (v := v) (g := g197) (m' := 1) (c := 1) 0 0 [.float .f32 (floatOfInt .f32 (rndI (sumK ms p ms.length) ms.length))] A195 S196 (sub_skip (sub_skip sub_all)) (fun _ => sub_nil) (by kernel_rfl) (by kernel_rfl) (by kernel_rfl) rfl rfl (by kernel_rfl) rfl (by kernel_rfl) (by omega) (by omega) rfl rfl rfl (fun v203 ac wc A199 S200 => ?_)
              have T202 := S200.sub (sub_skip (sub_skip sub_all)) sub_nil
              refine r_take 9 (.pointer (some ⟨g120, 1, none⟩)) A199 T202 (g_field (u := .pointer (some ⟨g120, 0, none⟩)) (by kernel_rfl) (fun _ => by kernel_rfl)) rfl rfl rfl (pf_block (pf_then (pf_then (pf_block (pf_then pf_body))))) (by kernel_rfl) (fun ac A204 => ?_)
              refine r_1 (i := 10) (by kernel_rfl) ?_
              obtain ⟨A205, cap206, rfl⟩ := row_slice (v := v203) (m := p + 1) (S200.row 0 rfl)
              refine rs_store (g := g120) (off := 1) (v := .slice A205 (p + 1) cap206) 1 (#[.int .i64 ((mtK ms 0).el), .slice A205 (p + 1) cap206]) A204 S200 (sub_skip (sub_skip sub_all)) sub_nil (by kernel_rfl) (by kernel_rfl) rfl (by kernel_rfl) rfl rfl (fun wc S208 => ?_)
              have T210 := S208.sub (sub_skip (sub_skip sub_all)) sub_nil
              refine r_done (by kernel_rfl) ?_
              refine n_block ?_
              refine n_then ?_
              refine wp_region_lit ?_
              refine s_one (.int .i64 (p : Int)) A204 S208 (g_move (by kernel_rfl)) rfl (fun ac A211 => ?_)
              refine s_one (.int .i64 ((p : Int) + 1)) A211 S208 (g_bin (u := .int .i64 (p : Int)) (k := .int .i64 1) (by kernel_rfl) (by kernel_rfl) (fun _ => by kernel_rfl) (b_add (by omega))) rfl (fun ac A212 => ?_)
              refine s_one (.int .i64 ((p : Int) + 1)) A212 S208 (g_assign (by kernel_rfl)) rfl (fun ac A213 => ?_)
              refine wpList_nil ?_
              refine n_then ?_
              refine ⟨_, ⟨p + 1, .slice A205 (p + 1) cap206, rfl, by omega, (A213.slot (A213.slot (A213.slot (A213.slot (A213.slot (A213.slot (A213.slot (A213.slot (A213.slot (A213.slot (A213.slot (A213.slot (A213.slot (A213.slot (A213.slot (A213.slot (A213.slot (A213.slot (A213.slot (A213.slot A213.nil (v := .int .i64 ((p : Int) + 1)) (by kernel_rfl) (congrArg (Value.int .i64) (by omega))) (v := .pointer (some ⟨g120, 0, none⟩)) (by kernel_rfl) rfl) (v := .agg #[.int .i64 ((mtK ms 0).el), .slice none 0 0]) (by kernel_rfl) rfl) (v := .int .i64 ((mtK ms 0).el)) (by kernel_rfl) rfl) (v := .pointer (some (ad108.add (0 * 2 + 0)))) (by kernel_rfl) rfl) (v := .pointer (some (ad108.add (0 * 2)))) (by kernel_rfl) rfl) (v := .slice A ms.length cap) (by kernel_rfl) rfl) (v := .bool (decide ((k : Int) < (ms.length : Int)))) (by kernel_rfl) rfl) (v := .int .i64 (ms.length : Int)) (by kernel_rfl) rfl) (v := .slice A ms.length cap) (by kernel_rfl) rfl) (v := .int .i64 (k : Int)) (by kernel_rfl) rfl) (v := .int .i64 (k : Int)) (by kernel_rfl) rfl) (v := .bool (decide ((ms.length : Int) > 32))) (by kernel_rfl) rfl) (v := .int .i64 (ms.length : Int)) (by kernel_rfl) rfl) (v := .slice A ms.length cap) (by kernel_rfl) rfl) (v := .bool (decide ((ms.length : Int) = 0))) (by kernel_rfl) rfl) (v := .int .i64 (ms.length : Int)) (by kernel_rfl) rfl) (v := .slice A ms.length cap) (by kernel_rfl) rfl) (v := .pointer (some ⟨g3, 0, none⟩)) (by kernel_rfl) rfl) (v := .slice A ms.length cap) (by kernel_rfl) rfl), (St.rerow 0 (St.recell 1 S208 rfl (by rfl)) rfl ⟨rfl, avL_snoc ms p⟩).sub (sub_skip sub_all) sub_all⟩, ?_⟩
              omega
            · refine rs_call (fs := #[]) (cp := #[]) (r := [(0, .int .i64 (sumK ms p ms.length)), (0, .int .i64 (ms.length : Int))]) #[.int .i64 (sumK ms p ms.length), .int .i64 (ms.length : Int)] (.int .i64 (rndI (sumK ms p ms.length) ms.length)) A185 S181 (sub_skip sub_all) sub_nil (refRounded_s (sumK ms p ms.length) ms.length _ (by omega) (by omega) (by omega)) Try.call76 rfl rfl (by kernel_rfl) (by kernel_rfl) (by kernel_rfl) rfl (fun ac wc A214 S215 => ?_)
              have T217 := S215.sub (sub_skip sub_all) sub_nil
              refine r_take 6 (.float .f32 (floatOfInt .f32 (rndI (sumK ms p ms.length) ms.length))) A214 T217 (g_conv (u := .int .i64 (rndI (sumK ms p ms.length) ms.length)) (by kernel_rfl) (fun _ => by kernel_rfl)) rfl rfl rfl (pf_block (pf_then (pf_then (pf_block (pf_then pf_body))))) (by kernel_rfl) (fun ac A218 => ?_)
              refine r_2 (i := 1) (j := 7) (by kernel_rfl) ?_ ?_
              · refine rs_gives (v) A218 S215 (sub_skip sub_all) sub_nil (g_load (g := g120) (off := 1) 0 (by kernel_rfl) rfl (by kernel_rfl)) rfl rfl rfl (fun ac A219 => ?_)
                refine r_1 (i := 7) (by kernel_rfl) ?_
                refine rs_bs (e := 36) (r := [(0, .float .f32 (floatOfInt .f32 (rndI (sumK ms p ms.length) ms.length)))]) (#[.float .f32 (floatOfInt .f32 (rndI (sumK ms p ms.length) ms.length))]) A219 S215 (sub_skip sub_all) sub_nil (by kernel_rfl) (by kernel_rfl) rfl rfl rfl (fun g225 ac wc A223 S224 => ?_)
                have T226 := S224.sub (sub_skip (sub_skip sub_all)) sub_nil
                refine r_1 (i := 8) (by kernel_rfl) ?_
                refine rs_append (e := 36) (size := 1) (bytes := 4) (v := v) (g := g225) (m' := 1) (c := 1) 0 0 [.float .f32 (floatOfInt .f32 (rndI (sumK ms p ms.length) ms.length))] A223 S224 (sub_skip (sub_skip sub_all)) (fun _ => sub_nil) (by kernel_rfl) (by kernel_rfl) (by kernel_rfl) rfl rfl (by kernel_rfl) rfl (by kernel_rfl) (by omega) (by omega) rfl rfl rfl (fun v231 ac wc A227 S228 => ?_)
                have T230 := S228.sub (sub_skip (sub_skip sub_all)) sub_nil
                refine r_take 9 (.pointer (some ⟨g120, 1, none⟩)) A227 T230 (g_field (u := .pointer (some ⟨g120, 0, none⟩)) (by kernel_rfl) (fun _ => by kernel_rfl)) rfl rfl rfl (pf_block (pf_then (pf_then (pf_block (pf_then pf_body))))) (by kernel_rfl) (fun ac A232 => ?_)
                refine r_1 (i := 10) (by kernel_rfl) ?_
                obtain ⟨A233, cap234, rfl⟩ := row_slice (v := v231) (m := p + 1) (S228.row 0 rfl)
                refine rs_store (g := g120) (off := 1) (v := .slice A233 (p + 1) cap234) 1 (#[.int .i64 ((mtK ms 0).el), .slice A233 (p + 1) cap234]) A232 S228 (sub_skip (sub_skip sub_all)) sub_nil (by kernel_rfl) (by kernel_rfl) rfl (by kernel_rfl) rfl rfl (fun wc S236 => ?_)
                have T238 := S236.sub (sub_skip (sub_skip sub_all)) sub_nil
                refine r_done (by kernel_rfl) ?_
                refine n_block ?_
                refine n_then ?_
                refine wp_region_lit ?_
                refine s_one (.int .i64 (p : Int)) A232 S236 (g_move (by kernel_rfl)) rfl (fun ac A239 => ?_)
                refine s_one (.int .i64 ((p : Int) + 1)) A239 S236 (g_bin (u := .int .i64 (p : Int)) (k := .int .i64 1) (by kernel_rfl) (by kernel_rfl) (fun _ => by kernel_rfl) (b_add (by omega))) rfl (fun ac A240 => ?_)
                refine s_one (.int .i64 ((p : Int) + 1)) A240 S236 (g_assign (by kernel_rfl)) rfl (fun ac A241 => ?_)
                refine wpList_nil ?_
                refine n_then ?_
                refine ⟨_, ⟨p + 1, .slice A233 (p + 1) cap234, rfl, by omega, (A241.slot (A241.slot (A241.slot (A241.slot (A241.slot (A241.slot (A241.slot (A241.slot (A241.slot (A241.slot (A241.slot (A241.slot (A241.slot (A241.slot (A241.slot (A241.slot (A241.slot (A241.slot (A241.slot (A241.slot A241.nil (v := .int .i64 ((p : Int) + 1)) (by kernel_rfl) (congrArg (Value.int .i64) (by omega))) (v := .pointer (some ⟨g120, 0, none⟩)) (by kernel_rfl) rfl) (v := .agg #[.int .i64 ((mtK ms 0).el), .slice none 0 0]) (by kernel_rfl) rfl) (v := .int .i64 ((mtK ms 0).el)) (by kernel_rfl) rfl) (v := .pointer (some (ad108.add (0 * 2 + 0)))) (by kernel_rfl) rfl) (v := .pointer (some (ad108.add (0 * 2)))) (by kernel_rfl) rfl) (v := .slice A ms.length cap) (by kernel_rfl) rfl) (v := .bool (decide ((k : Int) < (ms.length : Int)))) (by kernel_rfl) rfl) (v := .int .i64 (ms.length : Int)) (by kernel_rfl) rfl) (v := .slice A ms.length cap) (by kernel_rfl) rfl) (v := .int .i64 (k : Int)) (by kernel_rfl) rfl) (v := .int .i64 (k : Int)) (by kernel_rfl) rfl) (v := .bool (decide ((ms.length : Int) > 32))) (by kernel_rfl) rfl) (v := .int .i64 (ms.length : Int)) (by kernel_rfl) rfl) (v := .slice A ms.length cap) (by kernel_rfl) rfl) (v := .bool (decide ((ms.length : Int) = 0))) (by kernel_rfl) rfl) (v := .int .i64 (ms.length : Int)) (by kernel_rfl) rfl) (v := .slice A ms.length cap) (by kernel_rfl) rfl) (v := .pointer (some ⟨g3, 0, none⟩)) (by kernel_rfl) rfl) (v := .slice A ms.length cap) (by kernel_rfl) rfl), (St.rerow 0 (St.recell 1 S236 rfl (by rfl)) rfl ⟨rfl, avL_snoc ms p⟩).sub (sub_skip sub_all) sub_all⟩, ?_⟩
                omega
              · refine rs_bs (e := 36) (r := [(0, .float .f32 (floatOfInt .f32 (rndI (sumK ms p ms.length) ms.length)))]) (#[.float .f32 (floatOfInt .f32 (rndI (sumK ms p ms.length) ms.length))]) A218 S215 (sub_skip sub_all) sub_nil (by kernel_rfl) (by kernel_rfl) rfl rfl rfl (fun g244 ac wc A242 S243 => ?_)
                have T245 := S243.sub (sub_skip (sub_skip sub_all)) sub_nil
                refine r_1 (i := 1) (by kernel_rfl) ?_
                refine rs_gives (v) A242 S243 (sub_skip (sub_skip sub_all)) sub_nil (g_load (g := g120) (off := 1) 1 (by kernel_rfl) rfl (by kernel_rfl)) rfl rfl rfl (fun ac A246 => ?_)
                refine r_1 (i := 8) (by kernel_rfl) ?_
                refine rs_append (e := 36) (size := 1) (bytes := 4) (v := v) (g := g244) (m' := 1) (c := 1) 0 0 [.float .f32 (floatOfInt .f32 (rndI (sumK ms p ms.length) ms.length))] A246 S243 (sub_skip (sub_skip sub_all)) (fun _ => sub_nil) (by kernel_rfl) (by kernel_rfl) (by kernel_rfl) rfl rfl (by kernel_rfl) rfl (by kernel_rfl) (by omega) (by omega) rfl rfl rfl (fun v254 ac wc A250 S251 => ?_)
                have T253 := S251.sub (sub_skip (sub_skip sub_all)) sub_nil
                refine r_take 9 (.pointer (some ⟨g120, 1, none⟩)) A250 T253 (g_field (u := .pointer (some ⟨g120, 0, none⟩)) (by kernel_rfl) (fun _ => by kernel_rfl)) rfl rfl rfl (pf_block (pf_then (pf_then (pf_block (pf_then pf_body))))) (by kernel_rfl) (fun ac A255 => ?_)
                refine r_1 (i := 10) (by kernel_rfl) ?_
                obtain ⟨A256, cap257, rfl⟩ := row_slice (v := v254) (m := p + 1) (S251.row 0 rfl)
                refine rs_store (g := g120) (off := 1) (v := .slice A256 (p + 1) cap257) 1 (#[.int .i64 ((mtK ms 0).el), .slice A256 (p + 1) cap257]) A255 S251 (sub_skip (sub_skip sub_all)) sub_nil (by kernel_rfl) (by kernel_rfl) rfl (by kernel_rfl) rfl rfl (fun wc S259 => ?_)
                have T261 := S259.sub (sub_skip (sub_skip sub_all)) sub_nil
                refine r_done (by kernel_rfl) ?_
                refine n_block ?_
                refine n_then ?_
                refine wp_region_lit ?_
                refine s_one (.int .i64 (p : Int)) A255 S259 (g_move (by kernel_rfl)) rfl (fun ac A262 => ?_)
                refine s_one (.int .i64 ((p : Int) + 1)) A262 S259 (g_bin (u := .int .i64 (p : Int)) (k := .int .i64 1) (by kernel_rfl) (by kernel_rfl) (fun _ => by kernel_rfl) (b_add (by omega))) rfl (fun ac A263 => ?_)
                refine s_one (.int .i64 ((p : Int) + 1)) A263 S259 (g_assign (by kernel_rfl)) rfl (fun ac A264 => ?_)
                refine wpList_nil ?_
                refine n_then ?_
                refine ⟨_, ⟨p + 1, .slice A256 (p + 1) cap257, rfl, by omega, (A264.slot (A264.slot (A264.slot (A264.slot (A264.slot (A264.slot (A264.slot (A264.slot (A264.slot (A264.slot (A264.slot (A264.slot (A264.slot (A264.slot (A264.slot (A264.slot (A264.slot (A264.slot (A264.slot (A264.slot A264.nil (v := .int .i64 ((p : Int) + 1)) (by kernel_rfl) (congrArg (Value.int .i64) (by omega))) (v := .pointer (some ⟨g120, 0, none⟩)) (by kernel_rfl) rfl) (v := .agg #[.int .i64 ((mtK ms 0).el), .slice none 0 0]) (by kernel_rfl) rfl) (v := .int .i64 ((mtK ms 0).el)) (by kernel_rfl) rfl) (v := .pointer (some (ad108.add (0 * 2 + 0)))) (by kernel_rfl) rfl) (v := .pointer (some (ad108.add (0 * 2)))) (by kernel_rfl) rfl) (v := .slice A ms.length cap) (by kernel_rfl) rfl) (v := .bool (decide ((k : Int) < (ms.length : Int)))) (by kernel_rfl) rfl) (v := .int .i64 (ms.length : Int)) (by kernel_rfl) rfl) (v := .slice A ms.length cap) (by kernel_rfl) rfl) (v := .int .i64 (k : Int)) (by kernel_rfl) rfl) (v := .int .i64 (k : Int)) (by kernel_rfl) rfl) (v := .bool (decide ((ms.length : Int) > 32))) (by kernel_rfl) rfl) (v := .int .i64 (ms.length : Int)) (by kernel_rfl) rfl) (v := .slice A ms.length cap) (by kernel_rfl) rfl) (v := .bool (decide ((ms.length : Int) = 0))) (by kernel_rfl) rfl) (v := .int .i64 (ms.length : Int)) (by kernel_rfl) rfl) (v := .slice A ms.length cap) (by kernel_rfl) rfl) (v := .pointer (some ⟨g3, 0, none⟩)) (by kernel_rfl) rfl) (v := .slice A ms.length cap) (by kernel_rfl) rfl), (St.rerow 0 (St.recell 1 S259 rfl (by rfl)) rfl ⟨rfl, avL_snoc ms p⟩).sub (sub_skip sub_all) sub_all⟩, ?_⟩
                omega
        · have p265 := of_decide_eq_false h141
          refine wp_exit ?_
          refine x_then ?_
          refine x_then ?_
          refine x_hit ?_
          refine n_then ?_
          refine wp_seq ?_
          have ep : p = (mtK ms 0).xs.length := by omega
          have SR : St w0 [⟨g120, 30, #[.int .i64 ((mtK ms 0).el), v], true⟩, ⟨g3, 30, #[.int .i64 0, .slice none 0 0], true⟩] [⟨v, 36, 1, ((mtK ms 0).xs.length), (rowF (fw (avL ms (mtK ms 0).xs.length)))⟩] _ := St.rerow 0 S126 rfl ⟨ep, by rw [ep]⟩
          refine wp_region_lit ?_
          refine s_one (.agg #[.int .i64 ((mtK ms 0).el), v]) A140 SR (g_load (g := g120) (off := 0) 0 (by kernel_rfl) rfl (by kernel_rfl)) rfl (fun ac A266 => ?_)
          obtain ⟨A267, cap268, rfl⟩ := row_slice (v := v) (m := (mtK ms 0).xs.length) (SR.row 0 rfl)
          refine s_store (g := g3) (off := 0) (v := .agg #[.int .i64 ((mtK ms 0).el), .slice A267 ((mtK ms 0).xs.length) cap268]) 1 (#[.int .i64 ((mtK ms 0).el), .slice A267 ((mtK ms 0).xs.length) cap268]) A266 SR (by kernel_rfl) (by kernel_rfl) rfl (by kernel_rfl) (fun wc S270 => ?_)
          refine s_one (.int .i64 0) A266 S270 (g_assign (by kernel_rfl)) rfl (fun ac A272 => ?_)
          refine wpList_nil ?_
          refine n_then ?_
          refine wp_ret ?_
          refine fin2 (.agg #[.int .i64 ((mtK ms 0).el), .slice A267 ((mtK ms 0).xs.length) cap268]) (.int .i64 0) Try.results29 A272 S270 (rv_cell (g := g3) (off := 0) 1 (by kernel_rfl) rfl (by kernel_rfl)) (rv_tmp (by kernel_rfl)) ?_
          have bw := S270.kp
          have ow := S270.row 0 rfl
          have ez := avZ_g (ms := ms) (by omega) (by omega) hgA
          obtain ⟨e1, e2⟩ := av_ok ez
          rw [e1, e2, ez, fw_length, avL_length]
          exact ⟨_, rfl, bw, ow⟩

end Go.Proofs.Ytcijkniijomcjaa
/-! The means of matrices, step by step. -/
namespace Go.Proofs.Ytcijkniijomcjaa
open Go.RowKit Go.Cpl
/-- A list of ints, changed up to a place. -/
def updL (f : Nat → Int → Int) (S : List Int) (p : Nat) : List Int := (List.range S.length).map fun j => if j < p then f j (nthI S j) else nthI S j
theorem updL_length (f : Nat → Int → Int) (S : List Int) (p : Nat) : (updL f S p).length = S.length := by simp [updL]
theorem nthI_get {l : List Int} {k : Nat} (h : k < l.length) : l[k]? = some (nthI l k) := by rw [nthI_eq h]; exact List.getElem?_eq_getElem h
theorem list_extI {l m : List Int} (hl : l.length = m.length) (h : ∀ k, k < l.length → nthI l k = nthI m k) : l = m := by
  apply List.ext_getElem? 
  intro k
  rcases Nat.lt_or_ge k l.length with q | q
  · rw [nthI_get q, nthI_get (by omega), h k q]
  · rw [List.getElem?_eq_none q, List.getElem?_eq_none (by omega)]
theorem nthI_map {n k : Nat} (f : Nat → Int) (h : k < n) : nthI ((List.range n).map f) k = f k := by
  rw [nthI_eq (by simpa using h)]; simp
theorem updL_nth {f : Nat → Int → Int} {S : List Int} {p j : Nat} (h : j < S.length) : nthI (updL f S p) j = if j < p then f j (nthI S j) else nthI S j := nthI_map _ h
theorem updL_at {f : Nat → Int → Int} {S : List Int} {p : Nat} (h : p < S.length) : nthI (updL f S p) p = nthI S p := by rw [updL_nth h, if_neg (by omega)]
theorem updL_zero (f : Nat → Int → Int) (S : List Int) : updL f S 0 = S :=
  list_extI (updL_length _ _ _) fun k hk => by rw [updL_length] at hk; rw [updL_nth hk, if_neg (by omega)]
theorem nthI_set {l : List Int} {p j : Nat} {x : Int} (hj : j < l.length) : nthI (l.set p x) j = if p = j then x else nthI l j := by
  rw [nthI_eq (by simpa using hj), List.getElem_set]
  split
  · rfl
  · rw [nthI_eq hj]
theorem updL_set {f : Nat → Int → Int} {S : List Int} {p p' : Nat} {x : Int} (hp : p' = p + 1) (hx : x = f p (nthI S p)) : (updL f S p).set p x = updL f S p' := by
  subst hp; subst hx
  refine list_extI (by rw [List.length_set, updL_length, updL_length]) fun j hj => ?_
  rw [List.length_set, updL_length] at hj
  rw [nthI_set (by rw [updL_length]; exact hj), updL_nth hj, updL_nth hj]
  by_cases q : p = j
  · subst q; rw [if_pos rfl, if_pos (by omega)]
  · rw [if_neg q]
    by_cases q2 : j < p
    · rw [if_pos q2, if_pos (by omega)]
    · rw [if_neg q2, if_neg (by omega)]
/-- The sums of all places, of the first matrices. -/
def sumL (ms : List Mt) (k : Nat) : List Int := (List.range (mtK ms 0).xs.length).map fun p => sumK ms p k
theorem sumL_length (ms : List Mt) (k : Nat) : (sumL ms k).length = (mtK ms 0).xs.length := by simp [sumL]
theorem sumL_nth {ms : List Mt} {k p : Nat} (h : p < (mtK ms 0).xs.length) : nthI (sumL ms k) p = sumK ms p k := nthI_map _ h
theorem sumL_one (ms : List Mt) : mi (mtK ms 0).xs = sumL ms 1 :=
  list_extI (by rw [mi_length, sumL_length]) fun p hp => by
    rw [mi_length] at hp
    rw [sumL_nth hp]
    show _ = 0 + nthI (mi (mtK ms 0).xs) p
    omega
def addF (X : List Int) (p : Nat) (s : Int) : Int := s + nthI X p
def rndF (n : Nat) (_ : Nat) (s : Int) : Int := rndI s n
theorem sumL_succ {ms : List Mt} {k p : Nat} (hp : p = (mtK ms 0).xs.length) : updL (addF (mi (mtK ms k).xs)) (sumL ms k) p = sumL ms (k + 1) := by
  subst hp
  refine list_extI (by rw [updL_length, sumL_length, sumL_length]) fun j hj => ?_
  rw [updL_length, sumL_length] at hj
  rw [updL_nth (by rw [sumL_length]; exact hj), if_pos hj, sumL_nth hj, sumL_nth hj]
  rfl
theorem sumL_rnd {ms : List Mt} {p : Nat} (hp : p = (mtK ms 0).xs.length) : updL (rndF ms.length) (sumL ms ms.length) p = avL ms p := by
  subst hp
  refine list_extI (by rw [updL_length, sumL_length, avL_length]) fun j hj => ?_
  rw [updL_length, sumL_length] at hj
  rw [updL_nth (by rw [sumL_length]; exact hj), if_pos hj, sumL_nth hj, avL, nthI_map _ hj]
  rfl
theorem mx_natA {el : Int} {xs : List Nat} (h : (mxC el xs).2 = 0) : ∃ n : Nat, el = (n : Int) ∧ 1 ≤ n ∧ xs.length = n * n * 64 := by
  obtain ⟨h1, h2, _⟩ := mxC_0 h
  obtain ⟨n, rfl⟩ := Int.eq_ofNat_of_zero_le (show 0 ≤ el by omega)
  have e : ((n * n : Nat) : Int) = (n : Int) * (n : Int) := Int.natCast_mul _ _
  exact ⟨n, rfl, by omega, by omega⟩
/-- A loop whose first round is walked alone. -/
theorem c_loopP {P : Program} {Q : Exit → Act → World → Prop} {a : Act} {w : World} {c : Code} (I0 I : Nat → Act → World → Prop) (i0 : Nat) (h0 : I0 i0 a w) (first : ∀ i a w, I0 i a w → c.wp P (Exit.then (fun a' w' => ∃ j, (I0 j a' w' ∨ I j a' w') ∧ j < i) Q) a w) (round : ∀ i a w, I i a w → c.wp P (Exit.then (fun a' w' => ∃ j, (I0 j a' w' ∨ I j a' w') ∧ j < i) Q) a w) : (Code.loop c).wp P Q a w :=
  c_loopN (fun i a w => I0 i a w ∨ I i a w) i0 (.inl h0) fun i a w h => by
    rcases h with h | h
    · exact first i a w h
    · exact round i a w h
end Go.Proofs.Ytcijkniijomcjaa
/- Frames as bytes: the reference. -/
namespace Go.Proofs.Ytcijkniijomcjaa
open Go.RowKit Go.Cpl

attribute [local simp] byU_length smB_length mi_length
theorem str_congr {l m : Bs} (h : l = m) : Value.string ⟨l.toArray⟩ = Value.string ⟨m.toArray⟩ := by rw [h]
theorem smB_snoc {l : List Int} {k : Nat} (h : k < l.length) {x : Int} (e : x = nthI l k) : smB (l.take k) ++ byU x 2 = smB (l.take (k + 1)) := by
  subst e
  rw [List.take_add_one, nthI_get h]; simp [smB]
theorem smB_snoc2 {a : Bs} {l : List Int} {k : Nat} (h : k < l.length) {x : Int} (e : x = nthI l k) : (a ++ smB (l.take k)) ++ byU x 2 = a ++ smB (l.take (k + 1)) := by
  rw [List.append_assoc, smB_snoc h e]
theorem smB_le (l : List Int) (k : Nat) : (smB (l.take k)).length ≤ k * 2 := by rw [smB_length, List.length_take]; omega

set_option maxRecDepth 100000 in
set_option maxHeartbeats 400000 in
theorem refFormatFrame_s (p : Int) (el : Int) (A : Option Addr) (n cap : Nat) (xs : List Nat) (w0 : World) (hn : xs.length = n) (hr : FReads w0 A xs) (hm : n ≤ 1000) (hp : -1000000000 ≤ p ∧ p ≤ 1000000000) (he : 1 ≤ el ∧ el ≤ 16) (hR : Right xs) :
    Calls Try.prog 48 #[.agg #[.int .i64 p, .int .i64 el, .slice A n cap]] w0 fun e w' => e = .returned (.string ⟨(fmt p el (mi xs)).toArray⟩) ∧ Below w0.heap.size w0 w' := by
  have S0 := St.start w0
  have HR : ∀ k, k < n → sErr (nth xs k) = 0 := fun k hk => hR.at_ (by omega)
  refine enter (n := 39) Try.func48 rfl rfl rfl (fun ac A0 => ?_)
  refine wp_seq ?_
  refine wp_region_lit ?_
  refine s_box (.agg #[.int .i64 p, .int .i64 el, .slice A n cap]) A0 S0 (by kernel_rfl) rfl (fun g3 ac wc A1 S2 => ?_)
  replace S2 : St _ (⟨g3, 66, #[.int .i64 p, .int .i64 el, .slice A n cap], true⟩ :: _) _ _ := S2
  refine s_one (.string ⟨([] : List UInt8).toArray⟩) A1 S2 (g_assign (by kernel_rfl)) rfl (fun ac A5 => ?_)
  refine wpList_nil ?_
  refine n_then ?_
  refine wp_seq ?_
  refine r_begin (w0 := w0) (by kernel_rfl) (S2.sub sub_all sub_all) (fun wc T6 B7 => ?_)
  have S8 := S2.kept B7
  refine r_take 2 (.pointer (some ⟨g3, 1, none⟩)) A5 T6 (g_field (u := .pointer (some ⟨g3, 0, none⟩)) (by kernel_rfl) (fun _ => by kernel_rfl)) rfl rfl rfl (pf_then pf_body) (by kernel_rfl) (fun ac A9 => ?_)
  refine r_take 3 (.pointer (some ⟨g3, 1, none⟩)) A9 T6 (g_field (u := .pointer (some ⟨g3, 1, none⟩)) (by kernel_rfl) (fun _ => by kernel_rfl)) rfl rfl rfl (pf_then pf_body) (by kernel_rfl) (fun ac A10 => ?_)
  refine r_take 4 (.int .i64 el) A10 T6 (g_load (g := g3) (off := 1) 0 (by kernel_rfl) rfl (by kernel_rfl)) rfl rfl rfl (pf_then pf_body) (by kernel_rfl) (fun ac A11 => ?_)
  refine r_take 7 (.pointer (some ⟨g3, 0, none⟩)) A11 T6 (g_field (u := .pointer (some ⟨g3, 0, none⟩)) (by kernel_rfl) (fun _ => by kernel_rfl)) rfl rfl rfl (pf_then pf_body) (by kernel_rfl) (fun ac A12 => ?_)
  refine r_take 8 (.int .i64 p) A12 T6 (g_load (g := g3) (off := 0) 0 (by kernel_rfl) rfl (by kernel_rfl)) rfl rfl rfl (pf_then pf_body) (by kernel_rfl) (fun ac A13 => ?_)
  refine r_1 (i := 0) (by kernel_rfl) ?_
  refine rs_call (fs := #[]) (cp := #[]) (r := [(0, .int .i64 1), (0, .int .i64 1)]) #[.int .i64 1, .int .i64 1] (.string ⟨(byU 1 1).toArray⟩) A13 S8 sub_all sub_all (bytes_s 1 1 _ (by omega) (by decide)) Try.call83 rfl rfl (by kernel_rfl) (by kernel_rfl) (by kernel_rfl) rfl (fun ac wc A14 S15 => ?_)
  have T17 := S15.sub sub_all sub_all
  refine r_take 1 (.string ⟨(([67, 80] : List UInt8) ++ byU 1 1).toArray⟩) A14 T17 (g_bin (u := .string ⟨([67, 80] : List UInt8).toArray⟩) (k := .string ⟨(byU 1 1).toArray⟩) (by kernel_rfl) (by kernel_rfl) (fun _ => by kernel_rfl) (b_cat (by simp <;> omega))) rfl rfl rfl (pf_then pf_body) (by kernel_rfl) (fun ac A18 => ?_)
  refine r_1 (i := 5) (by kernel_rfl) ?_
  refine rs_call (fs := #[]) (cp := #[]) (r := [(0, .int .i64 el), (0, .int .i64 1)]) #[.int .i64 el, .int .i64 1] (.string ⟨(byU el 1).toArray⟩) A18 S15 sub_all sub_all (bytes_s el 1 _ (by omega) (by decide)) Try.call83 rfl rfl (by kernel_rfl) (by kernel_rfl) (by kernel_rfl) rfl (fun ac wc A19 S20 => ?_)
  have T22 := S20.sub sub_all sub_all
  refine r_take 6 (.string ⟨(([67, 80] : List UInt8) ++ byU 1 1 ++ byU el 1).toArray⟩) A19 T22 (g_bin (u := .string ⟨(([67, 80] : List UInt8) ++ byU 1 1).toArray⟩) (k := .string ⟨(byU el 1).toArray⟩) (by kernel_rfl) (by kernel_rfl) (fun _ => by kernel_rfl) (b_cat (by simp <;> omega))) rfl rfl rfl (pf_then pf_body) (by kernel_rfl) (fun ac A23 => ?_)
  refine r_1 (i := 9) (by kernel_rfl) ?_
  refine rs_call (fs := #[]) (cp := #[]) (r := [(0, .int .i64 p), (0, .int .i64 4)]) #[.int .i64 p, .int .i64 4] (.string ⟨(byU p 4).toArray⟩) A23 S20 sub_all sub_all (bytes_s p 4 _ (by omega) (by decide)) Try.call83 rfl rfl (by kernel_rfl) (by kernel_rfl) (by kernel_rfl) rfl (fun ac wc A24 S25 => ?_)
  have T27 := S25.sub sub_all sub_all
  refine r_take 10 (.string ⟨(([67, 80] : List UInt8) ++ byU 1 1 ++ byU el 1 ++ byU p 4).toArray⟩) A24 T27 (g_bin (u := .string ⟨(([67, 80] : List UInt8) ++ byU 1 1 ++ byU el 1).toArray⟩) (k := .string ⟨(byU p 4).toArray⟩) (by kernel_rfl) (by kernel_rfl) (fun _ => by kernel_rfl) (b_cat (by simp <;> omega))) rfl rfl rfl (pf_then pf_body) (by kernel_rfl) (fun ac A28 => ?_)
  refine r_take 11 (.string ⟨(([67, 80] : List UInt8) ++ byU 1 1 ++ byU el 1 ++ byU p 4).toArray⟩) A28 T27 (g_assign (by kernel_rfl)) rfl rfl rfl (pf_then pf_body) (by kernel_rfl) (fun ac A29 => ?_)
  refine r_done (by kernel_rfl) ?_
  refine n_then ?_
  refine wp_seq ?_
  refine wp_seq ?_
  refine wp_region_lit ?_
  refine s_one (.int .i64 0) A29 S25 (g_assign (by kernel_rfl)) rfl (fun ac A30 => ?_)
  refine wpList_nil ?_
  refine n_then ?_
  refine wp_block ?_
  refine c_loopN (fun mm ac wc => ∃ (k : Nat), mm = n - k ∧ (k ≤ n) ∧ Fr 39 ac [(0, .agg #[.int .i64 p, .int .i64 el, .slice A n cap]), (1, .pointer (some ⟨g3, 0, none⟩)), (2, .string ⟨([] : List UInt8).toArray⟩), (7, .pointer (some ⟨g3, 1, none⟩)), (8, .pointer (some ⟨g3, 1, none⟩)), (9, .int .i64 el), (12, .pointer (some ⟨g3, 0, none⟩)), (13, .int .i64 p), (5, .string ⟨(byU 1 1).toArray⟩), (6, .string ⟨(([67, 80] : List UInt8) ++ byU 1 1).toArray⟩), (10, .string ⟨(byU el 1).toArray⟩), (11, .string ⟨(([67, 80] : List UInt8) ++ byU 1 1 ++ byU el 1).toArray⟩), (14, .string ⟨(byU p 4).toArray⟩), (15, .string ⟨(([67, 80] : List UInt8) ++ byU 1 1 ++ byU el 1 ++ byU p 4).toArray⟩), (4, .int .i64 (k : Int)), (3, .string ⟨(([67, 80] ++ byU 1 1 ++ byU el 1 ++ byU p 4) ++ smB ((mi xs).take k)).toArray⟩)] ∧ St w0 [⟨g3, 66, #[.int .i64 p, .int .i64 el, .slice A n cap], true⟩] [] wc) _ ⟨0, rfl, Nat.zero_le _, (A30.slot (A30.slot (A30.slot (A30.slot (A30.slot (A30.slot (A30.slot (A30.slot (A30.slot (A30.slot (A30.slot (A30.slot (A30.slot (A30.slot (A30.slot (A30.slot A30.nil (v := .string ⟨(([67, 80] : List UInt8) ++ byU 1 1 ++ byU el 1 ++ byU p 4).toArray⟩) (by kernel_rfl) (str_congr (by simp [smB]))) (v := .int .i64 0) (by kernel_rfl) (congrArg (Value.int .i64) (by omega))) (v := .string ⟨(([67, 80] : List UInt8) ++ byU 1 1 ++ byU el 1 ++ byU p 4).toArray⟩) (by kernel_rfl) rfl) (v := .string ⟨(byU p 4).toArray⟩) (by kernel_rfl) rfl) (v := .string ⟨(([67, 80] : List UInt8) ++ byU 1 1 ++ byU el 1).toArray⟩) (by kernel_rfl) rfl) (v := .string ⟨(byU el 1).toArray⟩) (by kernel_rfl) rfl) (v := .string ⟨(([67, 80] : List UInt8) ++ byU 1 1).toArray⟩) (by kernel_rfl) rfl) (v := .string ⟨(byU 1 1).toArray⟩) (by kernel_rfl) rfl) (v := .int .i64 p) (by kernel_rfl) rfl) (v := .pointer (some ⟨g3, 0, none⟩)) (by kernel_rfl) rfl) (v := .int .i64 el) (by kernel_rfl) rfl) (v := .pointer (some ⟨g3, 1, none⟩)) (by kernel_rfl) rfl) (v := .pointer (some ⟨g3, 1, none⟩)) (by kernel_rfl) rfl) (v := .string ⟨([] : List UInt8).toArray⟩) (by kernel_rfl) rfl) (v := .pointer (some ⟨g3, 0, none⟩)) (by kernel_rfl) rfl) (v := .agg #[.int .i64 p, .int .i64 el, .slice A n cap]) (by kernel_rfl) rfl), S25.sub sub_all sub_all⟩ ?_
  rintro mm ac wc ⟨k, hm33, hk, A31, S32⟩
  refine wp_seq ?_
  refine wp_seq ?_
  refine wp_region_lit ?_
  refine s_one (.int .i64 (k : Int)) A31 S32 (g_move (by kernel_rfl)) rfl (fun ac A34 => ?_)
  refine s_one (.pointer (some ⟨g3, 1, none⟩)) A34 S32 (g_field (u := .pointer (some ⟨g3, 0, none⟩)) (by kernel_rfl) (fun _ => by kernel_rfl)) rfl (fun ac A35 => ?_)
  refine s_one (.pointer (some ⟨g3, 2, none⟩)) A35 S32 (g_field (u := .pointer (some ⟨g3, 1, none⟩)) (by kernel_rfl) (fun _ => by kernel_rfl)) rfl (fun ac A36 => ?_)
  refine s_one (.slice A n cap) A36 S32 (g_load (g := g3) (off := 2) 0 (by kernel_rfl) rfl (by kernel_rfl)) rfl (fun ac A37 => ?_)
  refine s_one (.int .i64 (n : Int)) A37 S32 (g_built (r := [(0, .slice A n cap)]) (by kernel_rfl) (fun _ _ _ => by kernel_rfl)) rfl (fun ac A38 => ?_)
  refine s_one (.bool (decide ((k : Int) < (n : Int)))) A38 S32 (g_bin (u := .int .i64 (k : Int)) (k := .int .i64 (n : Int)) (by kernel_rfl) (by kernel_rfl) (fun _ => by kernel_rfl) (fun _ => by kernel_rfl)) rfl (fun ac A39 => ?_)
  refine wpList_nil ?_
  refine n_then ?_
  refine c_ifb (b := (decide ((k : Int) < (n : Int)))) A39 (by kernel_rfl) (fun h40 => ?_) (fun h40 => ?_)
  · have p41 := of_decide_eq_true h40
    refine wp_skip ?_
    refine n_then ?_
    refine wp_seq ?_
    refine wp_block ?_
    have hnb := num_range (HR k (by omega))
    refine wp_region_lit ?_
    refine s_one (.string ⟨(([67, 80] ++ byU 1 1 ++ byU el 1 ++ byU p 4) ++ smB ((mi xs).take k)).toArray⟩) A39 S32 (g_move (by kernel_rfl)) rfl (fun ac A42 => ?_)
    refine s_one (.pointer (some ⟨g3, 1, none⟩)) A42 S32 (g_field (u := .pointer (some ⟨g3, 0, none⟩)) (by kernel_rfl) (fun _ => by kernel_rfl)) rfl (fun ac A43 => ?_)
    refine s_one (.pointer (some ⟨g3, 2, none⟩)) A43 S32 (g_field (u := .pointer (some ⟨g3, 1, none⟩)) (by kernel_rfl) (fun _ => by kernel_rfl)) rfl (fun ac A44 => ?_)
    refine s_one (.slice A n cap) A44 S32 (g_load (g := g3) (off := 2) 0 (by kernel_rfl) rfl (by kernel_rfl)) rfl (fun ac A45 => ?_)
    refine s_one (.int .i64 (k : Int)) A45 S32 (g_move (by kernel_rfl)) rfl (fun ac A46 => ?_)
    obtain ⟨ad47, rfl, _⟩ := hr (k) (by have hlen := hn; omega)
    refine s_one (.pointer (some (ad47.add k))) A46 S32 (g_index (u := .slice (some ad47) n cap) (k := .int .i64 (k : Int)) (by kernel_rfl) (by kernel_rfl) (ix_x (e := 36) (bytes := 4) k (by kernel_rfl) (by omega) (by omega))) rfl (fun ac A48 => ?_)
    refine s_one (.float .f32 (nth xs k)) A48 S32 (g_loadXF (l := xs) (k := k) (by kernel_rfl) hr (by have hlen := hn; omega) (by kernel_rfl)) rfl (fun ac A49 => ?_)
    refine s_one (.int .i64 (num (nth xs k))) A49 S32 (g_conv (u := .float .f32 (nth xs k)) (by kernel_rfl) (run_toInt (HR _ (by omega)))) rfl (fun ac A50 => ?_)
    refine s_call (fs := #[]) (cp := #[]) (r := [(0, .int .i64 (num (nth xs k))), (0, .int .i64 2)]) #[.int .i64 (num (nth xs k)), .int .i64 2] (.string ⟨(byU (num (nth xs k)) 2).toArray⟩) A50 S32 (bytes_s (num (nth xs k)) 2 _ (by omega) (by decide)) Try.call83 (by kernel_rfl) (by kernel_rfl) (by kernel_rfl) rfl (fun ac wc A51 S52 => ?_)
    refine s_one (.string ⟨(([67, 80] ++ byU 1 1 ++ byU el 1 ++ byU p 4) ++ smB ((mi xs).take k) ++ byU (num (nth xs k)) 2).toArray⟩) A51 S52 (g_bin (u := .string ⟨(([67, 80] ++ byU 1 1 ++ byU el 1 ++ byU p 4) ++ smB ((mi xs).take k)).toArray⟩) (k := .string ⟨(byU (num (nth xs k)) 2).toArray⟩) (by kernel_rfl) (by kernel_rfl) (fun _ => by kernel_rfl) (b_cat (by simp <;> omega))) rfl (fun ac A54 => ?_)
    refine s_one (.string ⟨(([67, 80] ++ byU 1 1 ++ byU el 1 ++ byU p 4) ++ smB ((mi xs).take k) ++ byU (num (nth xs k)) 2).toArray⟩) A54 S52 (g_assign (by kernel_rfl)) rfl (fun ac A55 => ?_)
    refine wpList_nil ?_
    refine n_block ?_
    refine n_then ?_
    refine wp_region_lit ?_
    refine s_one (.int .i64 (k : Int)) A55 S52 (g_move (by kernel_rfl)) rfl (fun ac A56 => ?_)
    refine s_one (.int .i64 ((k : Int) + 1)) A56 S52 (g_bin (u := .int .i64 (k : Int)) (k := .int .i64 1) (by kernel_rfl) (by kernel_rfl) (fun _ => by kernel_rfl) (b_add (by omega))) rfl (fun ac A57 => ?_)
    refine s_one (.int .i64 ((k : Int) + 1)) A57 S52 (g_assign (by kernel_rfl)) rfl (fun ac A58 => ?_)
    refine wpList_nil ?_
    refine n_then ?_
    refine ⟨_, ⟨k + 1, rfl, by omega, (A58.slot (A58.slot (A58.slot (A58.slot (A58.slot (A58.slot (A58.slot (A58.slot (A58.slot (A58.slot (A58.slot (A58.slot (A58.slot (A58.slot (A58.slot (A58.slot A58.nil (v := .string ⟨(([67, 80] ++ byU 1 1 ++ byU el 1 ++ byU p 4) ++ smB ((mi xs).take k) ++ byU (num (nth xs k)) 2).toArray⟩) (by kernel_rfl) (str_congr (smB_snoc2 (by rw [mi_length]; omega) (mi_nth (by omega)).symm))) (v := .int .i64 ((k : Int) + 1)) (by kernel_rfl) (congrArg (Value.int .i64) (by omega))) (v := .string ⟨(([67, 80] : List UInt8) ++ byU 1 1 ++ byU el 1 ++ byU p 4).toArray⟩) (by kernel_rfl) rfl) (v := .string ⟨(byU p 4).toArray⟩) (by kernel_rfl) rfl) (v := .string ⟨(([67, 80] : List UInt8) ++ byU 1 1 ++ byU el 1).toArray⟩) (by kernel_rfl) rfl) (v := .string ⟨(byU el 1).toArray⟩) (by kernel_rfl) rfl) (v := .string ⟨(([67, 80] : List UInt8) ++ byU 1 1).toArray⟩) (by kernel_rfl) rfl) (v := .string ⟨(byU 1 1).toArray⟩) (by kernel_rfl) rfl) (v := .int .i64 p) (by kernel_rfl) rfl) (v := .pointer (some ⟨g3, 0, none⟩)) (by kernel_rfl) rfl) (v := .int .i64 el) (by kernel_rfl) rfl) (v := .pointer (some ⟨g3, 1, none⟩)) (by kernel_rfl) rfl) (v := .pointer (some ⟨g3, 1, none⟩)) (by kernel_rfl) rfl) (v := .string ⟨([] : List UInt8).toArray⟩) (by kernel_rfl) rfl) (v := .pointer (some ⟨g3, 0, none⟩)) (by kernel_rfl) rfl) (v := .agg #[.int .i64 p, .int .i64 el, .slice (some ad47) n cap]) (by kernel_rfl) (by first | rfl | simp)), (St.recell 0 S52 rfl (by rfl)).sub sub_all sub_all⟩, ?_⟩
    omega
  · have p59 := of_decide_eq_false h40
    refine wp_exit ?_
    refine x_then ?_
    refine x_then ?_
    refine x_hit ?_
    refine n_then ?_
    refine wp_seq ?_
    obtain ⟨B, hB⟩ : ∃ B : Bs, ([67, 80] ++ byU 1 1 ++ byU el 1 ++ byU p 4) ++ smB ((mi xs).take k) = B := ⟨_, rfl⟩
    have hBl : B.length ≤ 10000 := by rw [← hB]; simp <;> omega
    have AB := A39
    rw [hB] at AB
    refine wp_region_lit ?_
    refine s_one (.string ⟨B.toArray⟩) AB S32 (g_move (by kernel_rfl)) rfl (fun ac A60 => ?_)
    refine s_one (.string ⟨B.toArray⟩) A60 S32 (g_move (by kernel_rfl)) rfl (fun ac A61 => ?_)
    refine s_call (fs := #[]) (cp := #[]) (r := [(0, .string ⟨B.toArray⟩)]) #[.string ⟨B.toArray⟩] (.int .i64 (ckU B B.length)) A61 S32 (refSum_s B _ (by omega)) Try.call84 (by kernel_rfl) (by kernel_rfl) (by kernel_rfl) rfl (fun ac wc A62 S63 => ?_)
    refine s_call (fs := #[]) (cp := #[]) (r := [(0, .int .i64 (ckU B B.length)), (0, .int .i64 2)]) #[.int .i64 (ckU B B.length), .int .i64 2] (.string ⟨(byU (ckU B B.length) 2).toArray⟩) A62 S63 (bytes_s (ckU B B.length) 2 _ (ckU_c _ _) (by decide)) Try.call83 (by kernel_rfl) (by kernel_rfl) (by kernel_rfl) rfl (fun ac wc A65 S66 => ?_)
    refine s_one (.string ⟨(B ++ byU (ckU B B.length) 2).toArray⟩) A65 S66 (g_bin (u := .string ⟨B.toArray⟩) (k := .string ⟨(byU (ckU B B.length) 2).toArray⟩) (by kernel_rfl) (by kernel_rfl) (fun _ => by kernel_rfl) (b_cat (by rw [byU_length]; omega))) rfl (fun ac A68 => ?_)
    refine s_one (.string ⟨(B ++ byU (ckU B B.length) 2).toArray⟩) A68 S66 (g_assign (by kernel_rfl)) rfl (fun ac A69 => ?_)
    refine wpList_nil ?_
    refine n_then ?_
    refine wp_ret ?_
    refine fin1 (.string ⟨(B ++ byU (ckU B B.length) 2).toArray⟩) Try.results48 A69 S66 (rv_tmp (by kernel_rfl)) ⟨?_, S66.kp⟩
    obtain rfl : k = n := by omega
    have et : (mi xs).take k = mi xs := List.take_of_length_le (by rw [mi_length]; omega)
    rw [et] at hB
    have eF : fmt p el (mi xs) = B ++ byU (ckU B B.length) 2 := by unfold fmt fmB; rw [hB]
    rw [eF]

end Go.Proofs.Ytcijkniijomcjaa
/-! Bytes that are appended: a call that gets a slice of the caller's own and hands it back. -/
namespace Go.Proofs.Ytcijkniijomcjaa
open Go.RowKit Go.Cpl
section
variable {P : Program} {ops : Array Oper} {Q : Exit → Act → World → Prop} {n : Sz} {a : Act} {w0 : Base} {w : World} {F : Fm} {L Ls : List Bk} {M Ms : List Rw} {rest : List Oper}
theorem b_shrU {t : TypeId} {x y : Int} {i : Nat} (hy : y = 8 * (i : Int)) (hi : i ≤ 7) (w : World) : (binOp .shr t (.int .i64 x) (.int .i64 y)).run P w = .ok (.int .i64 (dvU x i)) w := by
  show (Op.shift .shr .i64 x .i64 y).run P w = _
  rw [shift_shr .i64 .i64 x y (by omega) (by show y ≤ 64; omega), dvU_pow, show y.toNat = 8 * i by omega]
  rfl
/-- A call that passes the state. -/
theorem s_callThru {d : Nat} {f : FuncId} {fx : Operand} {args : List Operand} {ats : Array TypeId} {ty : TypeId} {pos : String} {aft : Array Edge} {fs cp : Array Value} {r : List (Nat × Value)} (av : Array Value) (M' : Value → List Rw) (hA : Fr n a F)
    (hc : Calls P f av w fun en w' => ∃ v, en = .returned v ∧ St w0 L (M' v) w') (hcall : ∀ (vs : Array Value) (w : World), (callFunc f vs).run P w = .ok (.enter f vs) w)
    (hf : evO F fx = some (.func (.func f) fs cp)) (hr : evL F (args.map fun x => (0, x)) = some r) (hav : fs ++ (r.map (·.2)).toArray ++ cp = av) (hd : Nat.blt d n = true)
    (k : ∀ v a' w', Fr n a' ((d, v) :: F) → St w0 L (M' v) w' → wpList P ops Q rest a' w') : wpList P ops Q (⟨some d, .call ⟨.value fx, args.toArray, ats⟩, ty, pos, aft, none⟩ :: rest) a w := by
  refine wpList_plain rfl fun K hK => ?_
  unfold Oper.wp
  rw [run_call hA hf hr hav hcall]
  refine hc.mono fun en w' ⟨v, he, hs⟩ => ?_
  subst he
  exact hK _ _ (k v _ w' (hA.put (blt_lt hd) _) hs)
end
end Go.Proofs.Ytcijkniijomcjaa
/- Bytes that are appended. -/
namespace Go.Proofs.Ytcijkniijomcjaa
open Go.RowKit Go.Cpl

theorem conv_toU8 {P : Program} {t t' : TypeId} {x : Int} (h : P.underlying t = some (.int .i64)) (h' : P.underlying t' = some (.int .u8)) (w : World) : (convert t t' (.int .i64 x)).run P w = .ok (.int .u8 (x % 256)) w := by
  have e : (convert t t' (.int .i64 x)).run P w = .ok (.int .u8 (IntKind.u8.wrap x)) w := by simp [convert, run_underlying h, run_underlying h', Conv.intToInt]
  rw [e]
  simp [IntKind.wrap, IntKind.bits, IntKind.signed]
theorem app_snoc (xs : List Value) (c : Int) (k j : Nat) : xs ++ rowU (byT c k j) ++ [.int .u8 (dvU c (k - 1 - j) % 256)] = xs ++ rowU (byT c k (j + 1)) := by
  rw [byT, rowU_app, rowU_one (by omega), List.append_assoc]

set_option maxRecDepth 100000 in
set_option maxHeartbeats 400000 in
theorem appended_s (b : Base) (L : List Bk) (M : List Rw) (v : Value) (c : Int) (m k : Nat) (xs : List Value) (w0 : World) (S9 : St b L (⟨v, 5, 1, m, xs⟩ :: M) w0) (hk : k ≤ 8) (hm : m ≤ 1000000) :
    Calls Try.prog 92 #[v, .int .i64 c, .int .i64 (k : Int)] w0 fun e w' => ∃ v', e = .returned v' ∧ St b L (⟨v', 5, 1, m + k, xs ++ rowU (byU c k)⟩ :: M) w' := by
  have S0 := S9
  refine enter (n := 23) Try.func92 rfl rfl rfl (fun ac A0 => ?_)
  refine wp_seq ?_
  refine wp_region_lit ?_
  refine s_one (.slice none 0 0) A0 S0 (g_assign (by kernel_rfl)) rfl (fun ac A1 => ?_)
  refine wpList_nil ?_
  refine n_then ?_
  refine wp_seq ?_
  refine wp_seq ?_
  refine wp_region_lit ?_
  refine s_one (.int .i64 (k : Int)) A1 S0 (g_move (by kernel_rfl)) rfl (fun ac A2 => ?_)
  refine s_one (.int .i64 ((k : Int) - 1)) A2 S0 (g_bin (u := .int .i64 (k : Int)) (k := .int .i64 1) (by kernel_rfl) (by kernel_rfl) (fun _ => by kernel_rfl) (b_sub (by omega))) rfl (fun ac A3 => ?_)
  refine s_one (.int .i64 ((k : Int) - 1)) A3 S0 (g_assign (by kernel_rfl)) rfl (fun ac A4 => ?_)
  refine wpList_nil ?_
  refine n_then ?_
  refine wp_block ?_
  refine c_loopN (fun mm ac wc => ∃ (j : Nat) (u : Value), mm = k - j ∧ (j ≤ k) ∧ Fr 23 ac [(1, .int .i64 c), (2, .int .i64 (k : Int)), (6, .slice none 0 0), (8, .int .i64 (k : Int)), (9, .int .i64 ((k : Int) - 1)), (0, u), (7, .int .i64 ((k : Int) - 1 - (j : Int)))] ∧ St b L (⟨u, 5, 1, (m + j), (xs ++ rowU (byT c k j))⟩ :: M) wc) _ ⟨0, v, rfl, Nat.zero_le _, (A4.slot (A4.slot (A4.slot (A4.slot (A4.slot (A4.slot (A4.slot A4.nil (v := .int .i64 ((k : Int) - 1)) (by kernel_rfl) (congrArg (Value.int .i64) (by omega))) (v := v) (by kernel_rfl) (by first | rfl | simp)) (v := .int .i64 ((k : Int) - 1)) (by kernel_rfl) rfl) (v := .int .i64 (k : Int)) (by kernel_rfl) rfl) (v := .slice none 0 0) (by kernel_rfl) rfl) (v := .int .i64 (k : Int)) (by kernel_rfl) rfl) (v := .int .i64 c) (by kernel_rfl) rfl), (St.rerow 0 S0 rfl ⟨rfl, (by simp [byT, rowU])⟩).sub sub_all sub_all⟩ ?_
  rintro mm ac wc ⟨j, u, hm7, hj, A5, S6⟩
  refine wp_seq ?_
  refine wp_seq ?_
  refine wp_region_lit ?_
  refine s_one (.int .i64 ((k : Int) - 1 - (j : Int))) A5 S6 (g_move (by kernel_rfl)) rfl (fun ac A8 => ?_)
  refine s_one (.bool (decide ((k : Int) - 1 - (j : Int) ≥ 0))) A8 S6 (g_bin (u := .int .i64 ((k : Int) - 1 - (j : Int))) (k := .int .i64 0) (by kernel_rfl) (by kernel_rfl) (fun _ => by kernel_rfl) (fun _ => by kernel_rfl)) rfl (fun ac A9 => ?_)
  refine wpList_nil ?_
  refine n_then ?_
  refine c_ifb (b := (decide ((k : Int) - 1 - (j : Int) ≥ 0))) A9 (by kernel_rfl) (fun h10 => ?_) (fun h10 => ?_)
  · have p11 := of_decide_eq_true h10
    refine wp_skip ?_
    refine n_then ?_
    refine wp_seq ?_
    refine wp_block ?_
    refine wp_region_lit ?_
    refine s_one (u) A9 S6 (g_move (by kernel_rfl)) rfl (fun ac A12 => ?_)
    refine s_one (.int .i64 c) A12 S6 (g_move (by kernel_rfl)) rfl (fun ac A13 => ?_)
    refine s_one (.int .i64 ((k : Int) - 1 - (j : Int))) A13 S6 (g_move (by kernel_rfl)) rfl (fun ac A14 => ?_)
    refine s_one (.int .i64 (8 * ((k : Int) - 1 - (j : Int)))) A14 S6 (g_bin (u := .int .i64 8) (k := .int .i64 ((k : Int) - 1 - (j : Int))) (by kernel_rfl) (by kernel_rfl) (fun _ => by kernel_rfl) (b_mul (by omega))) rfl (fun ac A15 => ?_)
    refine s_one (.int .i64 (dvU c (k - 1 - j))) A15 S6 (g_bin (u := .int .i64 c) (k := .int .i64 (8 * ((k : Int) - 1 - (j : Int)))) (by kernel_rfl) (by kernel_rfl) (fun _ => by kernel_rfl) (b_shrU (i := k - 1 - j) (by omega) (by omega))) rfl (fun ac A16 => ?_)
    refine s_one (.int .u8 ((dvU c (k - 1 - j)) % 256)) A16 S6 (g_conv (u := .int .i64 (dvU c (k - 1 - j))) (by kernel_rfl) (conv_toU8 Try.underlying3 Try.underlying5)) rfl (fun ac A17 => ?_)
    refine s_bs (e := 5) (r := [(0, .int .u8 ((dvU c (k - 1 - j)) % 256))]) (#[.int .u8 ((dvU c (k - 1 - j)) % 256)]) A17 S6 (by kernel_rfl) (by kernel_rfl) rfl (fun g20 ac wc A18 S19 => ?_)
    refine s_append (e := 5) (size := 1) (bytes := 1) (v := u) (g := g20) (m' := 1) (c := 1) 0 0 [.int .u8 ((dvU c (k - 1 - j)) % 256)] A18 S19 (by kernel_rfl) (by kernel_rfl) (by kernel_rfl) rfl rfl (by kernel_rfl) rfl (by kernel_rfl) (by omega) (by omega) rfl (fun v24 ac wc A21 S22 => ?_)
    refine s_one (v24) A21 S22 (g_assign (by kernel_rfl)) rfl (fun ac A25 => ?_)
    refine wpList_nil ?_
    refine n_block ?_
    refine n_then ?_
    refine wp_region_lit ?_
    refine s_one (.int .i64 ((k : Int) - 1 - (j : Int))) A25 S22 (g_move (by kernel_rfl)) rfl (fun ac A26 => ?_)
    refine s_one (.int .i64 ((k : Int) - 1 - (j : Int) - 1)) A26 S22 (g_bin (u := .int .i64 ((k : Int) - 1 - (j : Int))) (k := .int .i64 1) (by kernel_rfl) (by kernel_rfl) (fun _ => by kernel_rfl) (b_sub (by omega))) rfl (fun ac A27 => ?_)
    refine s_one (.int .i64 ((k : Int) - 1 - (j : Int) - 1)) A27 S22 (g_assign (by kernel_rfl)) rfl (fun ac A28 => ?_)
    refine wpList_nil ?_
    refine n_then ?_
    refine ⟨_, ⟨j + 1, v24, rfl, by omega, (A28.slot (A28.slot (A28.slot (A28.slot (A28.slot (A28.slot (A28.slot A28.nil (v := .int .i64 ((k : Int) - 1 - (j : Int) - 1)) (by kernel_rfl) (congrArg (Value.int .i64) (by omega))) (v := v24) (by kernel_rfl) rfl) (v := .int .i64 ((k : Int) - 1)) (by kernel_rfl) rfl) (v := .int .i64 (k : Int)) (by kernel_rfl) rfl) (v := .slice none 0 0) (by kernel_rfl) rfl) (v := .int .i64 (k : Int)) (by kernel_rfl) rfl) (v := .int .i64 c) (by kernel_rfl) rfl), (St.rerow 0 S22 rfl ⟨rfl, app_snoc xs c k j⟩).sub (sub_skip sub_all) sub_all⟩, ?_⟩
    omega
  · have p29 := of_decide_eq_false h10
    refine wp_exit ?_
    refine x_then ?_
    refine x_then ?_
    refine x_hit ?_
    refine n_then ?_
    refine wp_seq ?_
    refine wp_region_lit ?_
    refine s_one (u) A9 S6 (g_move (by kernel_rfl)) rfl (fun ac A30 => ?_)
    refine s_one (u) A30 S6 (g_assign (by kernel_rfl)) rfl (fun ac A31 => ?_)
    refine wpList_nil ?_
    refine n_then ?_
    refine wp_ret ?_
    have ej : j = k := by omega
    have eb : byT c k j = byU c k := by rw [ej, byT_all]
    refine fin1 (u) Try.results92 A31 S6 (rv_tmp (by kernel_rfl)) ⟨_, rfl, ?_⟩
    have q9 := S6.sub sub_all sub_all
    rw [eb, ej] at q9
    exact q9

end Go.Proofs.Ytcijkniijomcjaa
/-! Frames one behind the other, cut at any byte: the first of them stand there. -/
namespace Go.Proofs.Ytcijkniijomcjaa
open Go.RowKit Go.Cpl
/-- Texts one behind the other. -/
def catU (f : Nat → Bs) : Nat → Bs
  | 0 => []
  | k + 1 => catU f k ++ f k
theorem catU_split (f : Nat → Bs) {i m : Nat} (h : i < m) : ∃ t, catU f m = catU f i ++ (f i ++ t) := by
  obtain ⟨d, rfl⟩ : ∃ d, m = i + 1 + d := ⟨m - (i + 1), by omega⟩
  induction d with
  | zero => exact ⟨[], by simp [catU]⟩
  | succ d ih =>
    obtain ⟨t, ht⟩ := ih (by omega)
    refine ⟨t ++ f (i + 1 + d), ?_⟩
    show catU f (i + 1 + d) ++ f (i + 1 + d) = _
    rw [ht]; simp
theorem catU_succ_len (f : Nat → Bs) (k : Nat) : (catU f (k + 1)).length = (catU f k).length + (f k).length := by simp [catU]
theorem catU_mono (f : Nat → Bs) {i m : Nat} (h : i ≤ m) : (catU f i).length ≤ (catU f m).length := by
  rcases Nat.lt_or_ge i m with q | q
  · obtain ⟨t, ht⟩ := catU_split f q
    rw [ht]; simp
  · obtain rfl : i = m := by omega
    exact Nat.le_refl _
theorem subU_app {a b : Bs} {n : Nat} : subU (a ++ b) a.length n = b.take n := by simp [subU]
theorem atU_self (l : Bs) (k : Nat) : k ≤ atU l k := by
  induction k with
  | zero => exact Nat.zero_le _
  | succ k ih =>
    have := frN_ge l (atU l k)
    show k + 1 ≤ atU l k + frN l (atU l k)
    omega
theorem frK_sp (l : Bs) : (∀ j, j < frK l → frOk l j) ∧ ¬ frOk l (frK l) := by
  refine Classical.epsilon_spec (p := fun k => (∀ j, j < k → frOk l j) ∧ ¬ frOk l k) ?_
  have hn : ¬ frOk l l.length := fun h => by have := h.1; have := frN_ge l; have : l.length ≤ atU l l.length := atU_self l l.length; omega
  have h : ∀ n, ¬ frOk l n → ∃ k, (∀ j, j < k → frOk l j) ∧ ¬ frOk l k := by
    intro n
    induction n using Nat.strongRecOn with
    | _ n ih =>
      intro hn
      by_cases q : ∀ j, j < n → frOk l j
      · exact ⟨n, q, hn⟩
      · obtain ⟨j, hj⟩ := Classical.not_forall.1 q
        obtain ⟨h1, h2⟩ := Classical.not_imp.1 hj
        exact ih j h1 h2
  exact h _ hn
/-- Frames that are right. -/
structure FrAll (f : Nat → Bs) (en : Nat → Nat) (m : Nat) : Prop where
  len : ∀ i, i < m → (f i).length = 10 + 128 * (en i * en i)
  third : ∀ i, i < m → nthU (f i) 3 = en i
  right : ∀ i, i < m → pfZ (f i) = 0
theorem cut_nth {f : Nat → Bs} {i m at_ j : Nat} (hi : i < m) (hj : j < (f i).length) (h : (catU f i).length + j < at_) : nthU (subU (catU f m) 0 at_) ((catU f i).length + j) = nthU (f i) j := by
  obtain ⟨t, ht⟩ := catU_split f hi
  rw [subU_nth (by omega), ht, Nat.zero_add]
  have := nthU_app (pre := catU f i) (m := f i) (suf := t) hj
  rw [List.append_assoc] at this
  exact this
theorem cut_sub {f : Nat → Bs} {i m at_ : Nat} (hi : i < m) (h : (catU f i).length + (f i).length ≤ at_) : subU (subU (catU f m) 0 at_) (catU f i).length (f i).length = f i := by
  obtain ⟨t, ht⟩ := catU_split f hi
  rw [subU_sub (by omega), Nat.zero_add, ht, subU_app]
  simp
theorem cut_step {f : Nat → Bs} {en : Nat → Nat} {m at_ : Nat} (H : FrAll f en m) (ha : at_ ≤ (catU f m).length) {i : Nat} (hi : i ≤ m) (e : atU (subU (catU f m) 0 at_) i = (catU f i).length) (ok : frOk (subU (catU f m) 0 at_) i) : i < m ∧ frB (subU (catU f m) 0 at_) i = f i ∧ atU (subU (catU f m) 0 at_) (i + 1) = (catU f (i + 1)).length := by
  have hl : (subU (catU f m) 0 at_).length = at_ := subU_length (by omega)
  obtain ⟨o1, o2, o3⟩ := ok
  have him : i < m := by
    rcases Nat.lt_or_ge i m with q | q
    · exact q
    · obtain rfl : i = m := by omega
      omega
  have hlen := H.len i him
  have h3 := cut_nth (f := f) (at_ := at_) him (j := 3) (by omega) (by omega)
  rw [H.third i him] at h3
  have hN : frN (subU (catU f m) 0 at_) (atU (subU (catU f m) 0 at_) i) = (f i).length := by
    unfold frN; rw [e, h3, hlen]
  refine ⟨him, ?_, ?_⟩
  · unfold frB
    rw [hN, e]
    exact cut_sub him (by omega)
  · show atU _ i + frN _ (atU _ i) = _
    rw [hN, e, catU_succ_len]
theorem cut_ok {f : Nat → Bs} {en : Nat → Nat} {m at_ : Nat} (H : FrAll f en m) (ha : at_ ≤ (catU f m).length) {i : Nat} (hi : i < m) (e : atU (subU (catU f m) 0 at_) i = (catU f i).length) (h : (catU f (i + 1)).length ≤ at_) : frOk (subU (catU f m) 0 at_) i := by
  have hl : (subU (catU f m) 0 at_).length = at_ := subU_length (by omega)
  have hlen := H.len i hi
  have hs := catU_succ_len f i
  have h3 := cut_nth (f := f) (at_ := at_) hi (j := 3) (by omega) (by omega)
  rw [H.third i hi] at h3
  have hN : frN (subU (catU f m) 0 at_) (atU (subU (catU f m) 0 at_) i) = (f i).length := by
    unfold frN; rw [e, h3, hlen]
  refine ⟨by omega, by omega, ?_⟩
  unfold frB
  rw [hN, e, cut_sub hi (by omega)]
  exact H.right i hi
/-- What stands there: the first frames, and the next one does not fit. -/
theorem cut_all {f : Nat → Bs} {en : Nat → Nat} {m at_ : Nat} (H : FrAll f en m) (ha : at_ ≤ (catU f m).length) :
    frK (subU (catU f m) 0 at_) ≤ m ∧ (∀ j, j < frK (subU (catU f m) 0 at_) → frB (subU (catU f m) 0 at_) j = f j) ∧ atU (subU (catU f m) 0 at_) (frK (subU (catU f m) 0 at_)) = (catU f (frK (subU (catU f m) 0 at_))).length ∧ (catU f (frK (subU (catU f m) 0 at_))).length ≤ at_ ∧ (frK (subU (catU f m) 0 at_) < m → at_ < (catU f (frK (subU (catU f m) 0 at_) + 1)).length) := by
  have hl : (subU (catU f m) 0 at_).length = at_ := subU_length (by omega)
  obtain ⟨s1, s2⟩ := frK_sp (subU (catU f m) 0 at_)
  generalize frK (subU (catU f m) 0 at_) = K at s1 s2 ⊢
  have ind : ∀ j, j ≤ K → j ≤ m ∧ atU (subU (catU f m) 0 at_) j = (catU f j).length := by
    intro j
    induction j with
    | zero => intro _; exact ⟨Nat.zero_le _, rfl⟩
    | succ j ih =>
      intro hj
      obtain ⟨h1, h2⟩ := ih (by omega)
      obtain ⟨g1, _, g3⟩ := cut_step H ha h1 h2 (s1 j (by omega))
      exact ⟨g1, g3⟩
  have hK := ind K (Nat.le_refl _)
  refine ⟨hK.1, fun j hj => ?_, hK.2, ?_, fun hm => ?_⟩
  · have h := ind j (by omega)
    exact (cut_step H ha h.1 h.2 (s1 j hj)).2.1
  · rcases Nat.eq_zero_or_pos K with q | q
    · subst q; exact Nat.zero_le _
    · have h := ind (K - 1) (by omega)
      obtain ⟨_, o2, _⟩ := s1 (K - 1) (by omega)
      have g := (cut_step H ha h.1 h.2 (s1 (K - 1) (by omega))).2.2
      rw [show K - 1 + 1 = K by omega] at g
      have e : atU (subU (catU f m) 0 at_) K = atU (subU (catU f m) 0 at_) (K - 1) + frN (subU (catU f m) 0 at_) (atU (subU (catU f m) 0 at_) (K - 1)) := by
        conv => lhs; rw [show K = K - 1 + 1 by omega]
        rfl
      omega
  · rcases Nat.lt_or_ge at_ (catU f (K + 1)).length with q | q
    · exact q
    · exact absurd (cut_ok H ha hm hK.2 q) s2
end Go.Proofs.Ytcijkniijomcjaa
/-! Bytes of a constant: a block with a mark; an append to it. -/
namespace Go.Proofs.Ytcijkniijomcjaa
open Go.RowKit Go.Cpl
section
variable {P : Program} {ops : Array Oper} {Q : Exit → Act → World → Prop} {n : Sz} {a : Act} {w0 : Base} {w : World} {F : Fm} {L Ls : List Bk} {M Ms : List Rw} {rest : List Oper}
theorem freeze_turn (w : World) (g k m : Nat) : Turn g w (w.freeze ⟨g, k, none⟩ m) := by
  unfold World.freeze
  split
  · exact ⟨rfl, rfl, rfl, rfl, fun _ _ => rfl⟩
  · exact ⟨rfl, rfl, rfl, by simp, fun k hk => by simp [Array.getElem?_modify, Ne.symm hk]⟩
theorem freeze_new {w : World} {g k : Nat} {e : TypeId} {cs : Array Value} (h : Blk w g e cs) : (w.freeze ⟨g, k, none⟩ 1).heap[g]? = some (.cells cs e (k, k + 1)) := by
  have h' : w.heap[g]? = some (.cells cs e (0, 0)) := h
  unfold World.freeze
  rw [if_neg (by decide)]
  simp [Array.getElem?_modify, h']
/-- A block gets a mark: nothing more is known of it as a block. -/
theorem St.mark {g k : Nat} {t : TypeId} {cs : Array Value} (h : St w0 (⟨g, t, cs, true⟩ :: L) M w) : St w0 L M (w.freeze ⟨g, k, none⟩ 1) := by
  have T := freeze_turn w g k 1
  have hm0 : (⟨g, t, cs, true⟩ : Bk) ∈ (⟨g, t, cs, true⟩ :: L : List Bk) := List.mem_cons_self
  have hq := List.pairwise_cons.1 h.apart
  refine ⟨h.kq.turn (h.own _ hm0 rfl) T (h.blk _ hm0), fun b hm => ?_, fun b hm ho => h.own b (List.mem_cons_of_mem _ hm) ho, hq.2, fun r hr => ?_, fun r hr b hb => h.rb r hr b (List.mem_cons_of_mem _ hb), h.rr⟩
  · exact T.blk (h.blk b (List.mem_cons_of_mem _ hm)) (Ne.symm (hq.1 b hm (.inl rfl)))
  · have hg : r.v.ownBlock ≠ some g := h.rb r hr _ hm0
    have hro := h.rows r hr
    refine ⟨hro.1, ?_⟩
    rcases hro.2 with hn | ⟨g', cap, cur, hv, hb', hgg, rest⟩
    · exact .inl hn
    · refine .inr ⟨g', cap, cur, hv, hb', ?_, rest⟩
      rw [T.block g' (fun e => hg (by rw [hv, ← e]; rfl))]
      exact hgg
theorem s_markB {d : Nat} {t ty e : TypeId} {x : Operand} {pos : String} {aft : Array Edge} {g m c : Nat} {cs : Array Value} (l : Bs) (hA : Fr n a F) (hS : St w0 (⟨g, e, cs, true⟩ :: L) M w) (hx : evO F x = some (.slice (some ⟨g, 0, none⟩) m c)) (ht : P.underlying t = some (.slice e)) (he : P.underlying e = some (.int .u8)) (hl : cs.toList = rowU l) (hdn : Nat.blt d n = true)
    (k : ∀ (w' : World) (a' : Act), BRd e w' ⟨g, 0, none⟩ l → Fr n a' ((d, .slice (some ⟨g, 0, none⟩) m c) :: F) → St ⟨w0.w, w'⟩ L M w' → wpList P ops Q rest a' w') : wpList P ops Q (⟨some d, .convert t t x, ty, pos, aft, none⟩ :: rest) a w := by
  refine wpList_plain rfl fun K hK => ?_
  have hb : Blk w g e cs := hS.get 0 rfl
  have hb' : w.heap[g]? = some (.cells cs e (0, 0)) := hb
  have hsh : w.shape? g = some (e, cs.size) := by unfold World.shape?; rw [hb']
  have hsz : cs.size = l.length := by rw [← Array.length_toList, hl, rowU_length]
  have hrun : (convert t t (.slice (some ⟨g, 0, none⟩) m c)).run P w = .ok (.slice (some ⟨g, 0, none⟩) m c) (w.freeze ⟨g, cs.size, none⟩ 1) := by
    simp [convert, run_underlying ht, run_underlying he, markStringish, hsh]
  unfold Oper.wp execOp
  simp only [Sem.run_bind, Sem.run_pure, Result.andThen_ok, hA.ev hx, hrun]
  refine hK _ _ (k _ _ ⟨g, cs, _, rfl, freeze_new hb, by simp [plainO], fun j hj => ?_⟩ (hA.put (blt_lt hdn) _) ((St.mark hS).since (KeepsX.refl _)))
  rw [← Array.getElem?_toList, hl]
  simp only [rowU, List.getElem?_map, nthU]
  rw [List.getElem?_eq_getElem hj, List.getD_eq_getElem?_getD, List.getElem?_eq_getElem hj]
  simp
/-- An append to a slice with a mark that has no room. -/
theorem s_appB {d : Nat} {s x : Operand} {t ty : TypeId} {pos : String} {aft : Array Edge} {e e' : TypeId} {bytes g m' c cp : Nat} {ad : Addr} {l : Bs} {cs : Array Value} {o : Bool} (i : Nat) (news : List Value) (hA : Fr n a F) (hS : St w0 L M w) (hb : BRd e w0.v ad l) (he : elemInfo P t = some (e, 1, bytes))
    (hs : evO F s = some (.slice (some ad) l.length cp)) (hcp : cp < l.length + m') (hx : evO F x = some (.slice (some ⟨g, 0, none⟩) m' c)) (hi : L[i]? = some ⟨g, e', cs, o⟩) (hn : cs.toList.take m' = news) (hl0 : Nat.ble m' cs.size = true)
    (h63 : l.length + m' ≤ 140737488355328) (hbytes : (l.length + m') * bytes ≤ 140737488355328) (hd : Nat.blt d n = true)
    (k : ∀ v' a' w', Fr n a' ((d, v') :: F) → St w0 L (⟨v', e, 1, l.length + m', rowU l ++ news⟩ :: M) w' → wpList P ops Q rest a' w') : wpList P ops Q (⟨some d, .call ⟨.builtin .append, #[s, x], #[t, t]⟩, ty, pos, aft, none⟩ :: rest) a w := by
  refine wpList_plain rfl fun K hK => ?_
  obtain ⟨ti, z, q1, q2, q3, q4, q5, q6, q7⟩ := elemInfo_spec he
  have hl := Nat.le_of_ble_eq_true hl0
  have hlen : news.length = m' := by rw [← hn, List.length_take]; simp; omega
  have hbw := hb.keep hS.others
  have hr := run_append_grow (P := P) w t ty e ti z q1 q2 q3 ad l.length cp (rowU l) (by rw [rowU_length, q4]; omega) (fun j v hv => by
      simp only [rowU, List.getElem?_map] at hv
      rcases Nat.lt_or_ge j l.length with hj | hj
      · rw [List.getElem?_eq_getElem hj] at hv
        rw [hbw.cell hj, ← hv, nthU_eq hj]; rfl
      · rw [List.getElem?_eq_none hj] at hv; cases hv) ⟨g, 0, none⟩ m' c news (by rw [hlen, q4]; omega) (by rw [← hn]; exact cells_of_blk (m := m') (hS.get i hi)) hcp (by omega) (growslice_fits hcp (by rw [q5]; exact hbytes))
  have hge := grownCap_ge w (l.length + m') cp e
  have hcm : grownCap w (l.length + m') cp e ≤ maxLen := grownCap_le_maxLen w (l.length + m') cp e (by unfold maxLen; omega)
  have hxl : (rowU l ++ news).length = (l.length + m') * 1 := by rw [List.length_append, rowU_length, hlen]; omega
  have hS1 := (hS.nilRow e 1).grown 0 rfl (v' := .slice (some ⟨w.heap.size, 0, none⟩) (l.length + m') (grownCap w (l.length + m') cp e)) (w' := w.drew.alloc (.cells ((rowU l).toArray ++ news.toArray ++ Builtin.zeroCells z.cells (grownCap w (l.length + m') cp e - (l.length + m'))) e)) (m' := l.length + m') (xs' := rowU l ++ news)
    ⟨hxl, .inr ⟨w.heap.size, _, _, rfl, hS.kq.size, World.alloc_heap_new w.drew _, hge, hcm, by
      simp only [Array.size_append, List.size_toArray, size_zeroCells, q6, rowU_length, hlen]; omega, by
      simp only [Array.toList_append, List.append_assoc]
      rw [← List.append_assoc, ← hxl]
      exact List.take_left⟩⟩
    ⟨rfl, rfl, rfl, by simp, fun k hk _ => by
      show (w.heap.push _)[k]? = w.heap[k]?
      rw [Array.getElem?_push, if_neg (by omega)]⟩ (.inr fun g' hg' => by cases hg'; exact Nat.le_refl _)
  unfold Oper.wp execOp
  simp only [resolve, invoke, builtin, Sem.run_bind, Sem.run_pure, Result.andThen_ok, List.map_toArray, List.map_cons, List.map_nil, hA.ev hs, hA.ev hx, hr]
  exact hK _ _ (k _ _ _ (hA.put (blt_lt hd) _) hS1)
/-- A string of the bytes of a slice of the call's own. -/
theorem g_strOfRow {src dst e : TypeId} {x : Operand} {v : Value} {m : Nat} {l : Bs} (j : Nat) (hx : evO F x = some v) (hj : M[j]? = some ⟨v, e, 1, m, rowU l⟩) (hm : 0 < m) (hs : P.underlying src = some (.slice e)) (he : P.underlying e = some (.int .u8)) (hd : P.underlying dst = some .string) : Gives P F w0 L M (.convert src dst x) (.string ⟨l.toArray⟩) := fun _ _ w hA hS _ _ _ _ _ => by
  have hro : w.ownsRow w0.w.heap.size e 1 v m (rowU l) := hS.row j hj
  have hln : l.length = m := by have := hro.1; rw [rowU_length] at this; omega
  rcases hro.2 with ⟨_, h0⟩ | ⟨g, cap, cur, hv, _⟩
  · omega
  · subst hln
    subst hv
    have := run_convert_bytes_back (P := P) w src dst e ⟨g, 0, none⟩ cap l hs he hd (fun j hj => hro.cells (g := g) rfl j _ (by simp [rowU, List.getElem?_eq_getElem hj]))
    simp [execOp, hA.ev hx, this]
end
end Go.Proofs.Ytcijkniijomcjaa
/- trace.FormatFrame. -/
namespace Go.Proofs.Ytcijkniijomcjaa
open Go.RowKit Go.Cpl

attribute [local simp] byU_length smB_length mi_length
theorem frE_0 {p el : Int} {xs : List Nat} (h : frE p el xs = 0) : (-1000000000 ≤ p ∧ p ≤ 1000000000) ∧ (mxC el xs).2 = 0 := by
  cases q : inB p (-1000000000) 1000000000 with
  | false => rw [frE_n q] at h; exact absurd h (by decide)
  | true => rw [frE_y q] at h; exact ⟨inB_true.1 q, h⟩
theorem fm_head (el : Int) : rowU [67, 80] ++ [.int .u8 1, .int .u8 (el % 256)] = rowU ([67, 80] ++ byU 1 1 ++ byU el 1) := by
  have e1 : rowU (byU 1 1) = [.int .u8 1] := by kernel_rfl
  have e2 : rowU (byU el 1) = [.int .u8 (el % 256)] := rowU_one (y := el % 256) (by omega)
  rw [rowU_app, rowU_app, e1, e2]; rfl

set_option maxRecDepth 100000 in
set_option maxHeartbeats 400000 in
theorem FormatFrame_ok (p : Int) (el : Int) (A : Option Addr) (n cap : Nat) (xs : List Nat) (w0 : World) (hn : xs.length = n) (hr : FReads w0 A xs) (hm : n ≤ 1000) (hz : frE p el xs = 0) :
    Calls Try.prog 46 #[.agg #[.int .i64 p, .int .i64 el, .slice A n cap]] w0 fun e w' => e = .returned (.tuple #[.string ⟨(fmt p el (mi xs)).toArray⟩, .int .i64 0]) ∧ Below w0.heap.size w0 w' := by
  have S0 := St.start w0
  obtain ⟨hp, h0⟩ := frE_0 hz
  obtain ⟨he1, he2, he3⟩ := mxC_0 h0
  have hR : Right xs := right_of he3
  have HR : ∀ k, k < n → sErr (nth xs k) = 0 := fun k hk => hR.at_ (by omega)
  refine enter (n := 49) Try.func46 rfl rfl rfl (fun ac A0 => ?_)
  refine wp_seq ?_
  refine wp_region_lit ?_
  refine s_box (.agg #[.int .i64 p, .int .i64 el, .slice A n cap]) A0 S0 (by kernel_rfl) rfl (fun g3 ac wc A1 S2 => ?_)
  replace S2 : St _ (⟨g3, 66, #[.int .i64 p, .int .i64 el, .slice A n cap], true⟩ :: _) _ _ := S2
  refine s_one (.string ⟨([] : List UInt8).toArray⟩) A1 S2 (g_assign (by kernel_rfl)) rfl (fun ac A5 => ?_)
  refine s_one (.int .i64 0) A5 S2 (g_assign (by kernel_rfl)) rfl (fun ac A6 => ?_)
  refine wpList_nil ?_
  refine n_then ?_
  refine wp_seq ?_
  refine wp_seq ?_
  refine wp_region_lit ?_
  refine s_one (.pointer (some ⟨g3, 0, none⟩)) A6 S2 (g_field (u := .pointer (some ⟨g3, 0, none⟩)) (by kernel_rfl) (fun _ => by kernel_rfl)) rfl (fun ac A7 => ?_)
  refine s_one (.int .i64 p) A7 S2 (g_load (g := g3) (off := 0) 0 (by kernel_rfl) rfl (by kernel_rfl)) rfl (fun ac A8 => ?_)
  refine s_call (fs := #[]) (cp := #[]) (r := [(0, .int .i64 p), (0, .int .i64 1000000000)]) #[.int .i64 p, .int .i64 1000000000] (.bool (inB p (-1000000000) 1000000000)) A8 S2 (small_s p 1000000000 _ (by omega) (by omega)) Try.call81 (by kernel_rfl) (by kernel_rfl) (by kernel_rfl) rfl (fun ac wc A9 S10 => ?_)
  refine s_one (.bool (!(inB p (-1000000000) 1000000000))) A9 S10 (g_un (u := .bool (inB p (-1000000000) 1000000000)) (by kernel_rfl) (fun _ => by kernel_rfl)) rfl (fun ac A12 => ?_)
  refine wpList_nil ?_
  refine n_then ?_
  refine c_f (b := (!(inB p (-1000000000) 1000000000))) A12 (by kernel_rfl) (b_nt (inB_true.2 hp)) ?_
  refine wp_skip ?_
  refine n_then ?_
  refine wp_seq ?_
  refine wp_seq ?_
  refine wp_region_lit ?_
  refine s_one (.pointer (some ⟨g3, 1, none⟩)) A12 S10 (g_field (u := .pointer (some ⟨g3, 0, none⟩)) (by kernel_rfl) (fun _ => by kernel_rfl)) rfl (fun ac A13 => ?_)
  refine s_one (.agg #[.int .i64 el, .slice A n cap]) A13 S10 (g_load (g := g3) (off := 1) 0 (by kernel_rfl) rfl (by kernel_rfl)) rfl (fun ac A14 => ?_)
  refine s_call (fs := #[]) (cp := #[]) (r := [(0, .agg #[.int .i64 el, .slice A n cap])]) #[.agg #[.int .i64 el, .slice A n cap]] (.int .i64 ((mxC el xs).2)) A14 S10 (matrixErr_s el A n cap xs _ hn (hr.kept S10.kp) (by omega)) Try.call63 (by kernel_rfl) (by kernel_rfl) (by kernel_rfl) rfl (fun ac wc A15 S16 => ?_)
  refine s_one (.int .i64 ((mxC el xs).2)) A15 S16 (g_assign (by kernel_rfl)) rfl (fun ac A18 => ?_)
  refine wpList_nil ?_
  refine n_then ?_
  refine wp_seq ?_
  refine wp_region_lit ?_
  refine s_one (.int .i64 ((mxC el xs).2)) A18 S16 (g_move (by kernel_rfl)) rfl (fun ac A19 => ?_)
  refine s_one (.bool (decide ((mxC el xs).2 ≠ 0))) A19 S16 (g_bin (u := .int .i64 ((mxC el xs).2)) (k := .int .i64 0) (by kernel_rfl) (by kernel_rfl) (fun _ => by kernel_rfl) b_neq) rfl (fun ac A20 => ?_)
  refine wpList_nil ?_
  refine n_then ?_
  refine c_f (b := (decide ((mxC el xs).2 ≠ 0))) A20 (by kernel_rfl) (decide_eq_false (fun h => h h0)) ?_
  refine wp_skip ?_
  refine n_then ?_
  refine wp_seq ?_
  refine wp_region_lit ?_
  refine s_bs (e := 5) (r := [(0, .int .u8 67), (1, .int .u8 80)]) (#[.int .u8 67, .int .u8 80]) A20 S16 (by kernel_rfl) (by kernel_rfl) rfl (fun g23 ac wc A21 S22 => ?_)
  refine s_markB (g := g23) (m := 2) (c := 2) ([67, 80] : List UInt8) A21 S22 (by kernel_rfl) Try.underlying144 Try.underlying5 (by kernel_rfl) rfl (fun wz24 ac hz26 A25 S27 => ?_)
  refine s_one (.pointer (some ⟨g3, 1, none⟩)) A25 S27 (g_field (u := .pointer (some ⟨g3, 0, none⟩)) (by kernel_rfl) (fun _ => by kernel_rfl)) rfl (fun ac A28 => ?_)
  refine s_one (.pointer (some ⟨g3, 1, none⟩)) A28 S27 (g_field (u := .pointer (some ⟨g3, 1, none⟩)) (by kernel_rfl) (fun _ => by kernel_rfl)) rfl (fun ac A29 => ?_)
  refine s_one (.int .i64 el) A29 S27 (g_load (g := g3) (off := 1) 0 (by kernel_rfl) rfl (by kernel_rfl)) rfl (fun ac A30 => ?_)
  refine s_one (.int .u8 (el % 256)) A30 S27 (g_conv (u := .int .i64 el) (by kernel_rfl) (conv_toU8 Try.underlying3 Try.underlying5)) rfl (fun ac A31 => ?_)
  refine s_bs (e := 5) (r := [(0, .int .u8 1), (1, .int .u8 (el % 256))]) (#[.int .u8 1, .int .u8 (el % 256)]) A31 S27 (by kernel_rfl) (by kernel_rfl) rfl (fun g34 ac wc A32 S33 => ?_)
  refine s_appB (l := ([67, 80] : List UInt8)) (bytes := 1) (g := g34) (m' := 2) (c := 2) (cp := 2) 0 [.int .u8 1, .int .u8 (el % 256)] A32 S33 hz26 (by kernel_rfl) (by kernel_rfl) (by decide) (by kernel_rfl) rfl rfl rfl (by decide) (by decide) rfl (fun v38 ac wc A35 S36 => ?_)
  have S39 : St ⟨w0, wz24⟩ [⟨g34, 5, #[.int .u8 1, .int .u8 (el % 256)], true⟩, ⟨g3, 66, #[.int .i64 p, .int .i64 el, .slice A n cap], true⟩] [⟨v38, 5, 1, 4, (rowU ([67, 80] ++ byU 1 1 ++ byU el 1))⟩] _ := St.rerow 0 S36 rfl ⟨rfl, fm_head el⟩
  refine s_one (v38) A35 S39 (g_assign (by kernel_rfl)) rfl (fun ac A40 => ?_)
  refine wpList_nil ?_
  refine n_then ?_
  refine wp_seq ?_
  refine wp_region_lit ?_
  refine s_one (v38) A40 S39 (g_move (by kernel_rfl)) rfl (fun ac A41 => ?_)
  refine s_one (.pointer (some ⟨g3, 0, none⟩)) A41 S39 (g_field (u := .pointer (some ⟨g3, 0, none⟩)) (by kernel_rfl) (fun _ => by kernel_rfl)) rfl (fun ac A42 => ?_)
  refine s_one (.int .i64 p) A42 S39 (g_load (g := g3) (off := 0) 1 (by kernel_rfl) rfl (by kernel_rfl)) rfl (fun ac A43 => ?_)
  refine s_callThru (fs := #[]) (cp := #[]) (r := [(0, v38), (0, .int .i64 p), (0, .int .i64 4)]) #[v38, .int .i64 p, .int .i64 4] (fun v9 => (⟨v9, 5, 1, 4 + 4, rowU ([67, 80] ++ byU 1 1 ++ byU el 1) ++ rowU (byU p 4)⟩ :: [])) A43 (appended_s _ [⟨g34, 5, #[.int .u8 1, .int .u8 (el % 256)], true⟩, ⟨g3, 66, #[.int .i64 p, .int .i64 el, .slice A n cap], true⟩] [] (v38) p (4) 4 (rowU ([67, 80] ++ byU 1 1 ++ byU el 1)) _ S39 (by omega) (by omega)) Try.call92 (by kernel_rfl) (by kernel_rfl) (by kernel_rfl) rfl (fun v44 ac wc A45 S46 => ?_)
  have S47 : St ⟨w0, wz24⟩ [⟨g34, 5, #[.int .u8 1, .int .u8 (el % 256)], true⟩, ⟨g3, 66, #[.int .i64 p, .int .i64 el, .slice A n cap], true⟩] [⟨v44, 5, 1, 8, (rowU ([67, 80] ++ byU 1 1 ++ byU el 1 ++ byU p 4))⟩] _ := St.rerow 0 S46 rfl ⟨rfl, (rowU_app _ _).symm⟩
  refine s_one (v44) A45 S47 (g_assign (by kernel_rfl)) rfl (fun ac A48 => ?_)
  refine wpList_nil ?_
  refine n_then ?_
  refine wp_seq ?_
  refine wp_seq ?_
  refine wp_region_lit ?_
  refine s_one (.pointer (some ⟨g3, 1, none⟩)) A48 S47 (g_field (u := .pointer (some ⟨g3, 0, none⟩)) (by kernel_rfl) (fun _ => by kernel_rfl)) rfl (fun ac A49 => ?_)
  refine s_one (.pointer (some ⟨g3, 2, none⟩)) A49 S47 (g_field (u := .pointer (some ⟨g3, 1, none⟩)) (by kernel_rfl) (fun _ => by kernel_rfl)) rfl (fun ac A50 => ?_)
  refine s_one (.slice A n cap) A50 S47 (g_load (g := g3) (off := 2) 1 (by kernel_rfl) rfl (by kernel_rfl)) rfl (fun ac A51 => ?_)
  refine s_one (.int .i64 (n : Int)) A51 S47 (g_built (r := [(0, .slice A n cap)]) (by kernel_rfl) (fun _ _ _ => by kernel_rfl)) rfl (fun ac A52 => ?_)
  refine s_one (.int .i64 0) A52 S47 (g_move (by kernel_rfl)) rfl (fun ac A53 => ?_)
  refine wpList_nil ?_
  refine n_then ?_
  refine wp_block ?_
  refine c_loopN (fun mm ac wc => ∃ (k : Nat) (v : Value), mm = n - k ∧ (k ≤ n) ∧ Fr 49 ac [(0, .agg #[.int .i64 p, .int .i64 el, .slice A n cap]), (1, .pointer (some ⟨g3, 0, none⟩)), (2, .string ⟨([] : List UInt8).toArray⟩), (3, .int .i64 0), (8, .pointer (some ⟨g3, 0, none⟩)), (9, .int .i64 p), (10, .bool (inB p (-1000000000) 1000000000)), (11, .bool (!(inB p (-1000000000) 1000000000))), (12, .pointer (some ⟨g3, 1, none⟩)), (13, .agg #[.int .i64 el, .slice A n cap]), (14, .int .i64 ((mxC el xs).2)), (4, .int .i64 ((mxC el xs).2)), (15, .int .i64 ((mxC el xs).2)), (16, .bool (decide ((mxC el xs).2 ≠ 0))), (18, .slice (some ⟨g23, 0, none⟩) 2 2), (19, .slice (some ⟨g23, 0, none⟩) 2 2), (20, .pointer (some ⟨g3, 1, none⟩)), (21, .pointer (some ⟨g3, 1, none⟩)), (22, .int .i64 el), (23, .int .u8 (el % 256)), (24, .slice (some ⟨g34, 0, none⟩) 2 2), (25, v38), (26, v38), (27, .pointer (some ⟨g3, 0, none⟩)), (28, .int .i64 p), (29, v44), (30, .pointer (some ⟨g3, 1, none⟩)), (31, .pointer (some ⟨g3, 2, none⟩)), (32, .slice A n cap), (33, .int .i64 (n : Int)), (34, .int .i64 (k : Int)), (5, v)] ∧ St ⟨w0, wz24⟩ [⟨g34, 5, #[.int .u8 1, .int .u8 (el % 256)], true⟩, ⟨g3, 66, #[.int .i64 p, .int .i64 el, .slice A n cap], true⟩] [⟨v, 5, 1, (8 + k * 2), (rowU ([67, 80] ++ byU 1 1 ++ byU el 1 ++ byU p 4 ++ smB ((mi xs).take k)))⟩] wc) _ ⟨0, v44, rfl, Nat.zero_le _, (A53.slot (A53.slot (A53.slot (A53.slot (A53.slot (A53.slot (A53.slot (A53.slot (A53.slot (A53.slot (A53.slot (A53.slot (A53.slot (A53.slot (A53.slot (A53.slot (A53.slot (A53.slot (A53.slot (A53.slot (A53.slot (A53.slot (A53.slot (A53.slot (A53.slot (A53.slot (A53.slot (A53.slot (A53.slot (A53.slot (A53.slot (A53.slot A53.nil (v := v44) (by kernel_rfl) (by first | rfl | simp)) (v := .int .i64 0) (by kernel_rfl) (congrArg (Value.int .i64) (by omega))) (v := .int .i64 (n : Int)) (by kernel_rfl) rfl) (v := .slice A n cap) (by kernel_rfl) rfl) (v := .pointer (some ⟨g3, 2, none⟩)) (by kernel_rfl) rfl) (v := .pointer (some ⟨g3, 1, none⟩)) (by kernel_rfl) rfl) (v := v44) (by kernel_rfl) rfl) (v := .int .i64 p) (by kernel_rfl) rfl) (v := .pointer (some ⟨g3, 0, none⟩)) (by kernel_rfl) rfl) (v := v38) (by kernel_rfl) rfl) (v := v38) (by kernel_rfl) rfl) (v := .slice (some ⟨g34, 0, none⟩) 2 2) (by kernel_rfl) rfl) (v := .int .u8 (el % 256)) (by kernel_rfl) rfl) (v := .int .i64 el) (by kernel_rfl) rfl) (v := .pointer (some ⟨g3, 1, none⟩)) (by kernel_rfl) rfl) (v := .pointer (some ⟨g3, 1, none⟩)) (by kernel_rfl) rfl) (v := .slice (some ⟨g23, 0, none⟩) 2 2) (by kernel_rfl) rfl) (v := .slice (some ⟨g23, 0, none⟩) 2 2) (by kernel_rfl) rfl) (v := .bool (decide ((mxC el xs).2 ≠ 0))) (by kernel_rfl) rfl) (v := .int .i64 ((mxC el xs).2)) (by kernel_rfl) rfl) (v := .int .i64 ((mxC el xs).2)) (by kernel_rfl) rfl) (v := .int .i64 ((mxC el xs).2)) (by kernel_rfl) rfl) (v := .agg #[.int .i64 el, .slice A n cap]) (by kernel_rfl) rfl) (v := .pointer (some ⟨g3, 1, none⟩)) (by kernel_rfl) rfl) (v := .bool (!(inB p (-1000000000) 1000000000))) (by kernel_rfl) rfl) (v := .bool (inB p (-1000000000) 1000000000)) (by kernel_rfl) rfl) (v := .int .i64 p) (by kernel_rfl) rfl) (v := .pointer (some ⟨g3, 0, none⟩)) (by kernel_rfl) rfl) (v := .int .i64 0) (by kernel_rfl) rfl) (v := .string ⟨([] : List UInt8).toArray⟩) (by kernel_rfl) rfl) (v := .pointer (some ⟨g3, 0, none⟩)) (by kernel_rfl) rfl) (v := .agg #[.int .i64 p, .int .i64 el, .slice A n cap]) (by kernel_rfl) rfl), (St.rerow 0 S47 rfl ⟨rfl, congrArg rowU (by simp [smB])⟩).sub sub_all sub_all⟩ ?_
  rintro mm ac wc ⟨k, v, hm56, hk, A54, S55⟩
  refine wp_seq ?_
  refine wp_region_lit ?_
  refine s_one (.bool (decide ((k : Int) < (n : Int)))) A54 S55 (g_bin (u := .int .i64 (k : Int)) (k := .int .i64 (n : Int)) (by kernel_rfl) (by kernel_rfl) (fun _ => by kernel_rfl) (fun _ => by kernel_rfl)) rfl (fun ac A57 => ?_)
  refine wpList_nil ?_
  refine n_then ?_
  refine wp_seq ?_
  refine c_ifb (b := (decide ((k : Int) < (n : Int)))) A57 (by kernel_rfl) (fun h58 => ?_) (fun h58 => ?_)
  · have p59 := of_decide_eq_true h58
    refine wp_skip ?_
    refine n_then ?_
    refine wp_seq ?_
    refine wp_block ?_
    refine wp_seq ?_
    refine wp_region_lit ?_
    obtain ⟨ad60, rfl, _⟩ := hr (k) (by have hlen := hn; omega)
    refine s_one (.pointer (some (ad60.add k))) A57 S55 (g_index (u := .slice (some ad60) n cap) (k := .int .i64 (k : Int)) (by kernel_rfl) (by kernel_rfl) (ix_x (e := 36) (bytes := 4) k (by kernel_rfl) (by omega) (by omega))) rfl (fun ac A61 => ?_)
    refine s_one (.float .f32 (nth xs k)) A61 S55 (g_loadXF (l := xs) (k := k) (by kernel_rfl) hr (by have hlen := hn; omega) (by kernel_rfl)) rfl (fun ac A62 => ?_)
    refine s_one (.float .f32 (nth xs k)) A62 S55 (g_assign (by kernel_rfl)) rfl (fun ac A63 => ?_)
    refine wpList_nil ?_
    refine n_then ?_
    have hnb := num_range (HR k (by omega))
    refine wp_region_lit ?_
    refine s_one (v) A63 S55 (g_move (by kernel_rfl)) rfl (fun ac A64 => ?_)
    refine s_one (.float .f32 (nth xs k)) A64 S55 (g_move (by kernel_rfl)) rfl (fun ac A65 => ?_)
    refine s_one (.int .i64 (num (nth xs k))) A65 S55 (g_conv (u := .float .f32 (nth xs k)) (by kernel_rfl) (run_toInt (HR _ (by omega)))) rfl (fun ac A66 => ?_)
    refine s_callThru (fs := #[]) (cp := #[]) (r := [(0, v), (0, .int .i64 (num (nth xs k))), (0, .int .i64 2)]) #[v, .int .i64 (num (nth xs k)), .int .i64 2] (fun v9 => (⟨v9, 5, 1, 8 + k * 2 + 2, rowU ([67, 80] ++ byU 1 1 ++ byU el 1 ++ byU p 4 ++ smB ((mi xs).take k)) ++ rowU (byU (num (nth xs k)) 2)⟩ :: [])) A66 (appended_s _ [⟨g34, 5, #[.int .u8 1, .int .u8 (el % 256)], true⟩, ⟨g3, 66, #[.int .i64 p, .int .i64 el, .slice (some ad60) n cap], true⟩] [] (v) (num (nth xs k)) (8 + k * 2) 2 (rowU ([67, 80] ++ byU 1 1 ++ byU el 1 ++ byU p 4 ++ smB ((mi xs).take k))) _ S55 (by omega) (by omega)) Try.call92 (by kernel_rfl) (by kernel_rfl) (by kernel_rfl) rfl (fun v67 ac wc A68 S69 => ?_)
    have S70 : St ⟨w0, wz24⟩ [⟨g34, 5, #[.int .u8 1, .int .u8 (el % 256)], true⟩, ⟨g3, 66, #[.int .i64 p, .int .i64 el, .slice (some ad60) n cap], true⟩] [⟨v67, 5, 1, (8 + k * 2 + 2), (rowU ([67, 80] ++ byU 1 1 ++ byU el 1 ++ byU p 4 ++ smB ((mi xs).take k) ++ byU (num (nth xs k)) 2))⟩] _ := St.rerow 0 S69 rfl ⟨rfl, (rowU_app _ _).symm⟩
    refine s_one (v67) A68 S70 (g_assign (by kernel_rfl)) rfl (fun ac A71 => ?_)
    refine wpList_nil ?_
    refine n_block ?_
    refine n_then ?_
    refine wp_region_lit ?_
    refine s_one (.int .i64 ((k : Int) + 1)) A71 S70 (g_bin (u := .int .i64 (k : Int)) (k := .int .i64 1) (by kernel_rfl) (by kernel_rfl) (fun _ => by kernel_rfl) (b_add (by omega))) rfl (fun ac A72 => ?_)
    refine s_one (.int .i64 ((k : Int) + 1)) A72 S70 (g_move (by kernel_rfl)) rfl (fun ac A73 => ?_)
    refine wpList_nil ?_
    refine n_then ?_
    refine ⟨_, ⟨k + 1, v67, rfl, by omega, (A73.slot (A73.slot (A73.slot (A73.slot (A73.slot (A73.slot (A73.slot (A73.slot (A73.slot (A73.slot (A73.slot (A73.slot (A73.slot (A73.slot (A73.slot (A73.slot (A73.slot (A73.slot (A73.slot (A73.slot (A73.slot (A73.slot (A73.slot (A73.slot (A73.slot (A73.slot (A73.slot (A73.slot (A73.slot (A73.slot (A73.slot (A73.slot A73.nil (v := v67) (by kernel_rfl) rfl) (v := .int .i64 ((k : Int) + 1)) (by kernel_rfl) (congrArg (Value.int .i64) (by omega))) (v := .int .i64 (n : Int)) (by kernel_rfl) rfl) (v := .slice (some ad60) n cap) (by kernel_rfl) (by first | rfl | simp)) (v := .pointer (some ⟨g3, 2, none⟩)) (by kernel_rfl) rfl) (v := .pointer (some ⟨g3, 1, none⟩)) (by kernel_rfl) rfl) (v := v44) (by kernel_rfl) rfl) (v := .int .i64 p) (by kernel_rfl) rfl) (v := .pointer (some ⟨g3, 0, none⟩)) (by kernel_rfl) rfl) (v := v38) (by kernel_rfl) rfl) (v := v38) (by kernel_rfl) rfl) (v := .slice (some ⟨g34, 0, none⟩) 2 2) (by kernel_rfl) rfl) (v := .int .u8 (el % 256)) (by kernel_rfl) rfl) (v := .int .i64 el) (by kernel_rfl) rfl) (v := .pointer (some ⟨g3, 1, none⟩)) (by kernel_rfl) rfl) (v := .pointer (some ⟨g3, 1, none⟩)) (by kernel_rfl) rfl) (v := .slice (some ⟨g23, 0, none⟩) 2 2) (by kernel_rfl) rfl) (v := .slice (some ⟨g23, 0, none⟩) 2 2) (by kernel_rfl) rfl) (v := .bool (decide ((mxC el xs).2 ≠ 0))) (by kernel_rfl) rfl) (v := .int .i64 ((mxC el xs).2)) (by kernel_rfl) rfl) (v := .int .i64 ((mxC el xs).2)) (by kernel_rfl) rfl) (v := .int .i64 ((mxC el xs).2)) (by kernel_rfl) rfl) (v := .agg #[.int .i64 el, .slice (some ad60) n cap]) (by kernel_rfl) (by first | rfl | simp)) (v := .pointer (some ⟨g3, 1, none⟩)) (by kernel_rfl) rfl) (v := .bool (!(inB p (-1000000000) 1000000000))) (by kernel_rfl) rfl) (v := .bool (inB p (-1000000000) 1000000000)) (by kernel_rfl) rfl) (v := .int .i64 p) (by kernel_rfl) rfl) (v := .pointer (some ⟨g3, 0, none⟩)) (by kernel_rfl) rfl) (v := .int .i64 0) (by kernel_rfl) rfl) (v := .string ⟨([] : List UInt8).toArray⟩) (by kernel_rfl) rfl) (v := .pointer (some ⟨g3, 0, none⟩)) (by kernel_rfl) rfl) (v := .agg #[.int .i64 p, .int .i64 el, .slice (some ad60) n cap]) (by kernel_rfl) (by first | rfl | simp)), (St.rerow 0 (St.recell 1 S70 rfl (by rfl)) rfl ⟨by omega, congrArg rowU (smB_snoc2 (by rw [mi_length]; omega) (mi_nth (by omega)).symm)⟩).sub sub_all sub_all⟩, ?_⟩
    omega
  · have p74 := of_decide_eq_false h58
    refine wp_exit ?_
    refine x_then ?_
    refine x_then ?_
    refine x_hit ?_
    refine n_then ?_
    refine wp_seq ?_
    obtain ⟨B, hB⟩ : ∃ B : Bs, [67, 80] ++ byU 1 1 ++ byU el 1 ++ byU p 4 ++ smB ((mi xs).take k) = B := ⟨_, rfl⟩
    have hBl : B.length = 8 + k * 2 := by rw [← hB]; simp <;> omega
    have SB : St ⟨w0, wz24⟩ [⟨g34, 5, #[.int .u8 1, .int .u8 (el % 256)], true⟩, ⟨g3, 66, #[.int .i64 p, .int .i64 el, .slice A n cap], true⟩] [⟨v, 5, 1, (8 + k * 2), (rowU B)⟩] _ := St.rerow 0 S55 rfl ⟨rfl, congrArg rowU hB⟩
    refine wp_region_lit ?_
    refine s_one (v) A57 SB (g_move (by kernel_rfl)) rfl (fun ac A75 => ?_)
    refine s_one (v) A75 SB (g_move (by kernel_rfl)) rfl (fun ac A76 => ?_)
    refine s_one (.string ⟨B.toArray⟩) A76 SB (g_strOfRow (l := B) 0 (by kernel_rfl) rfl (by omega) Try.underlying144 Try.underlying5 Try.underlying9) rfl (fun ac A77 => ?_)
    refine s_call (fs := #[]) (cp := #[]) (r := [(0, .string ⟨B.toArray⟩)]) #[.string ⟨B.toArray⟩] (.int .i64 (ckU B B.length)) A77 SB (check_s B _ (by omega)) Try.call79 (by kernel_rfl) (by kernel_rfl) (by kernel_rfl) rfl (fun ac wc A78 S79 => ?_)
    refine s_callThru (fs := #[]) (cp := #[]) (r := [(0, v), (0, .int .i64 (ckU B B.length)), (0, .int .i64 2)]) #[v, .int .i64 (ckU B B.length), .int .i64 2] (fun v9 => (⟨v9, 5, 1, 8 + k * 2 + 2, rowU B ++ rowU (byU (ckU B B.length) 2)⟩ :: [])) A78 (appended_s _ [⟨g34, 5, #[.int .u8 1, .int .u8 (el % 256)], true⟩, ⟨g3, 66, #[.int .i64 p, .int .i64 el, .slice A n cap], true⟩] [] (v) (ckU B B.length) (8 + k * 2) 2 (rowU B) _ S79 (by omega) (by omega)) Try.call92 (by kernel_rfl) (by kernel_rfl) (by kernel_rfl) rfl (fun v81 ac wc A82 S83 => ?_)
    have S84 : St ⟨w0, wz24⟩ [⟨g34, 5, #[.int .u8 1, .int .u8 (el % 256)], true⟩, ⟨g3, 66, #[.int .i64 p, .int .i64 el, .slice A n cap], true⟩] [⟨v81, 5, 1, (8 + k * 2 + 2), (rowU (B ++ byU (ckU B B.length) 2))⟩] _ := St.rerow 0 S83 rfl ⟨rfl, (rowU_app _ _).symm⟩
    refine s_one (.string ⟨(B ++ byU (ckU B B.length) 2).toArray⟩) A82 S84 (g_strOfRow (l := B ++ byU (ckU B B.length) 2) 0 (by kernel_rfl) rfl (by omega) Try.underlying144 Try.underlying5 Try.underlying9) rfl (fun ac A85 => ?_)
    refine s_one (.string ⟨(B ++ byU (ckU B B.length) 2).toArray⟩) A85 S84 (g_assign (by kernel_rfl)) rfl (fun ac A86 => ?_)
    refine s_one (.int .i64 0) A86 S84 (g_assign (by kernel_rfl)) rfl (fun ac A87 => ?_)
    refine wpList_nil ?_
    refine n_then ?_
    refine wp_ret ?_
    refine fin2 (.string ⟨(B ++ byU (ckU B B.length) 2).toArray⟩) (.int .i64 0) Try.results46 A87 S84 (rv_tmp (by kernel_rfl)) (rv_tmp (by kernel_rfl)) ⟨?_, S84.kp⟩
    obtain rfl : k = n := by omega
    have et : (mi xs).take k = mi xs := List.take_of_length_le (by rw [mi_length]; omega)
    rw [et] at hB
    have eF : fmt p el (mi xs) = B ++ byU (ckU B B.length) 2 := by unfold fmt fmB; rw [hB]
    rw [eF]

set_option maxRecDepth 100000 in
set_option maxHeartbeats 400000 in
theorem FormatFrame_err (p : Int) (el : Int) (A : Option Addr) (n cap : Nat) (xs : List Nat) (w0 : World) (hn : xs.length = n) (hr : FReads w0 A xs) (hm : n ≤ 1000) (hz : frE p el xs ≠ 0) :
    Calls Try.prog 46 #[.agg #[.int .i64 p, .int .i64 el, .slice A n cap]] w0 fun e w' => e = .returned (.tuple #[.string ⟨([] : List UInt8).toArray⟩, .int .i64 (frE p el xs)]) ∧ Below w0.heap.size w0 w' := by
  have S0 := St.start w0
  refine enter (n := 49) Try.func46 rfl rfl rfl (fun ac A0 => ?_)
  refine wp_seq ?_
  refine wp_region_lit ?_
  refine s_box (.agg #[.int .i64 p, .int .i64 el, .slice A n cap]) A0 S0 (by kernel_rfl) rfl (fun g3 ac wc A1 S2 => ?_)
  replace S2 : St _ (⟨g3, 66, #[.int .i64 p, .int .i64 el, .slice A n cap], true⟩ :: _) _ _ := S2
  refine s_one (.string ⟨([] : List UInt8).toArray⟩) A1 S2 (g_assign (by kernel_rfl)) rfl (fun ac A5 => ?_)
  refine s_one (.int .i64 0) A5 S2 (g_assign (by kernel_rfl)) rfl (fun ac A6 => ?_)
  refine wpList_nil ?_
  refine n_then ?_
  refine wp_seq ?_
  refine wp_seq ?_
  refine wp_region_lit ?_
  refine s_one (.pointer (some ⟨g3, 0, none⟩)) A6 S2 (g_field (u := .pointer (some ⟨g3, 0, none⟩)) (by kernel_rfl) (fun _ => by kernel_rfl)) rfl (fun ac A7 => ?_)
  refine s_one (.int .i64 p) A7 S2 (g_load (g := g3) (off := 0) 0 (by kernel_rfl) rfl (by kernel_rfl)) rfl (fun ac A8 => ?_)
  refine s_call (fs := #[]) (cp := #[]) (r := [(0, .int .i64 p), (0, .int .i64 1000000000)]) #[.int .i64 p, .int .i64 1000000000] (.bool (inB p (-1000000000) 1000000000)) A8 S2 (small_s p 1000000000 _ (by omega) (by omega)) Try.call81 (by kernel_rfl) (by kernel_rfl) (by kernel_rfl) rfl (fun ac wc A9 S10 => ?_)
  refine s_one (.bool (!(inB p (-1000000000) 1000000000))) A9 S10 (g_un (u := .bool (inB p (-1000000000) 1000000000)) (by kernel_rfl) (fun _ => by kernel_rfl)) rfl (fun ac A12 => ?_)
  refine wpList_nil ?_
  refine n_then ?_
  refine c_ifb (b := (!(inB p (-1000000000) 1000000000))) A12 (by kernel_rfl) (fun h13 => ?_) (fun h13 => ?_)
  · have h14 : inB p (-1000000000) 1000000000 = false := by simpa using h13
    refine wp_seq ?_
    refine wp_region_lit ?_
    refine s_one (.string ⟨([] : List UInt8).toArray⟩) A12 S10 (g_assign (by kernel_rfl)) rfl (fun ac A15 => ?_)
    refine s_one (.int .i64 2) A15 S10 (g_assign (by kernel_rfl)) rfl (fun ac A16 => ?_)
    refine wpList_nil ?_
    refine n_then ?_
    refine wp_ret ?_
    refine r_then ?_
    refine fin2 (.string ⟨([] : List UInt8).toArray⟩) (.int .i64 2) Try.results46 A16 S10 (rv_tmp (by kernel_rfl)) (rv_tmp (by kernel_rfl)) ⟨?_, S10.kp⟩
    rw [frE_n h14]
  · have h17 : inB p (-1000000000) 1000000000 = true := by simpa using h13
    refine wp_skip ?_
    refine n_then ?_
    refine wp_seq ?_
    refine wp_seq ?_
    refine wp_region_lit ?_
    refine s_one (.pointer (some ⟨g3, 1, none⟩)) A12 S10 (g_field (u := .pointer (some ⟨g3, 0, none⟩)) (by kernel_rfl) (fun _ => by kernel_rfl)) rfl (fun ac A18 => ?_)
    refine s_one (.agg #[.int .i64 el, .slice A n cap]) A18 S10 (g_load (g := g3) (off := 1) 0 (by kernel_rfl) rfl (by kernel_rfl)) rfl (fun ac A19 => ?_)
    refine s_call (fs := #[]) (cp := #[]) (r := [(0, .agg #[.int .i64 el, .slice A n cap])]) #[.agg #[.int .i64 el, .slice A n cap]] (.int .i64 ((mxC el xs).2)) A19 S10 (matrixErr_s el A n cap xs _ hn (hr.kept S10.kp) (by omega)) Try.call63 (by kernel_rfl) (by kernel_rfl) (by kernel_rfl) rfl (fun ac wc A20 S21 => ?_)
    refine s_one (.int .i64 ((mxC el xs).2)) A20 S21 (g_assign (by kernel_rfl)) rfl (fun ac A23 => ?_)
    refine wpList_nil ?_
    refine n_then ?_
    refine wp_seq ?_
    refine wp_region_lit ?_
    refine s_one (.int .i64 ((mxC el xs).2)) A23 S21 (g_move (by kernel_rfl)) rfl (fun ac A24 => ?_)
    refine s_one (.bool (decide ((mxC el xs).2 ≠ 0))) A24 S21 (g_bin (u := .int .i64 ((mxC el xs).2)) (k := .int .i64 0) (by kernel_rfl) (by kernel_rfl) (fun _ => by kernel_rfl) b_neq) rfl (fun ac A25 => ?_)
    refine wpList_nil ?_
    refine n_then ?_
    refine c_t (b := (decide ((mxC el xs).2 ≠ 0))) A25 (by kernel_rfl) (decide_eq_true (by rw [← frE_y h17]; exact hz)) ?_
    refine wp_seq ?_
    refine wp_region_lit ?_
    refine s_one (.int .i64 ((mxC el xs).2)) A25 S21 (g_move (by kernel_rfl)) rfl (fun ac A26 => ?_)
    refine s_one (.string ⟨([] : List UInt8).toArray⟩) A26 S21 (g_assign (by kernel_rfl)) rfl (fun ac A27 => ?_)
    refine s_one (.int .i64 ((mxC el xs).2)) A27 S21 (g_assign (by kernel_rfl)) rfl (fun ac A28 => ?_)
    refine wpList_nil ?_
    refine n_then ?_
    refine wp_ret ?_
    refine r_then ?_
    refine fin2 (.string ⟨([] : List UInt8).toArray⟩) (.int .i64 ((mxC el xs).2)) Try.results46 A28 S21 (rv_tmp (by kernel_rfl)) (rv_tmp (by kernel_rfl)) ⟨?_, S21.kp⟩
    rw [frE_y h17]

end Go.Proofs.Ytcijkniijomcjaa
