/- The walk of TraceFrameReads: it returns true. -/
import Derived.Test.YtcijkniijomcjaaFr1
namespace Go.Proofs.Ytcijkniijomcjaa
open Go.RowKit Go.Cpl

theorem frK_spec (l : Bs) : (∀ j, j < frK l → frOk l j) ∧ ¬ frOk l (frK l) := by
  refine Classical.epsilon_spec (p := fun k => (∀ j, j < k → frOk l j) ∧ ¬ frOk l k) ?_
  have hn : ¬ frOk l l.length := fun h => by have := h.1; have := atU_ge l l.length; omega
  have h : ∀ n, ¬ frOk l n → ∃ k, (∀ j, j < k → frOk l j) ∧ ¬ frOk l k := by
    intro n
    induction n using Nat.strongRecOn with
    | _ n ih =>
      intro hn
      by_cases q : ∀ j, j < n → frOk l j
      · exact ⟨n, q, hn⟩
      · obtain ⟨j, hj⟩ := Classical.not_forall.1 q
        obtain ⟨h1, h2⟩ := Classical.not_imp.1 hj
        exact ih j h1 h2
  exact h _ hn
theorem frK_bd (l : Bs) : frK l * 10 ≤ l.length := by
  rcases Nat.eq_zero_or_pos (frK l) with h | h
  · omega
  · have h1 := ((frK_spec l).1 (frK l - 1) (by omega)).2.1
    have h2 := atU_ge l (frK l - 1)
    have h3 := frN_ge l (atU l (frK l - 1))
    omega
theorem ix_xsA {P : Program} {t : TypeId} {A : Option Addr} {ad : Addr} {m c e size : Nat} {bytes : Nat} {i : Int} (k : Nat) (he : elemInfo P t = some (e, size, bytes)) (hi : i = (k : Int)) (hk : k < m) (hA : A = some ad) (w : World) : (Instr.indexAt t (.slice A m c) (.int .i64 i)).run P w = .ok (.pointer (some (ad.add (k * size)))) w := by
  subst hA; exact ix_xs k he hi hk w

set_option maxRecDepth 100000 in
set_option maxHeartbeats 400000 in
theorem frameReads_small (l : List UInt8) (w0 : World) (hl : l.length ≤ 700) :
    Calls Try.prog 6 #[.string ⟨l.toArray⟩] w0 fun e w' => e = .returned (.bool true) ∧ Below w0.heap.size w0 w' := by
  have S0 := St.start w0
  refine enter (n := 102) Try.func6 rfl rfl rfl (fun ac A0 => ?_)
  refine wp_seq ?_
  refine wp_region_lit ?_
  refine s_one (.bool false) A0 S0 (g_assign (by kernel_rfl)) rfl (fun ac A1 => ?_)
  refine wpList_nil ?_
  refine n_then ?_
  refine wp_seq ?_
  refine wp_seq ?_
  refine wp_region_lit ?_
  refine s_call (fs := #[]) (cp := #[]) (r := []) #[] (.bool true) A1 S0 (awake_any _) Try.call11 (by kernel_rfl) (by kernel_rfl) (by kernel_rfl) rfl (fun ac wc A2 S3 => ?_)
  refine s_one (.bool false) A2 S3 (g_un (u := .bool true) (by kernel_rfl) (fun _ => by kernel_rfl)) rfl (fun ac A5 => ?_)
  refine wpList_nil ?_
  refine n_then ?_
  refine c_f (b := false) A5 (by kernel_rfl) rfl ?_
  refine wp_skip ?_
  refine n_then ?_
  refine wp_seq ?_
  refine wp_seq ?_
  refine wp_region_lit ?_
  refine s_one (.string ⟨l.toArray⟩) A5 S3 (g_move (by kernel_rfl)) rfl (fun ac A6 => ?_)
  refine s_one (.int .i64 (l.length : Int)) A6 S3 (g_built (r := [(0, .string ⟨l.toArray⟩)]) (by kernel_rfl) (fun ty cs w => bl_str (l := l) Try.underlying9 ty cs w)) rfl (fun ac A7 => ?_)
  refine s_one (.bool (decide ((l.length : Int) > 700))) A7 S3 (g_bin (u := .int .i64 (l.length : Int)) (k := .int .i64 700) (by kernel_rfl) (by kernel_rfl) (fun _ => by kernel_rfl) (fun _ => by kernel_rfl)) rfl (fun ac A8 => ?_)
  refine s_one (.bool (decide ((l.length : Int) > 700))) A8 S3 (g_move (by kernel_rfl)) rfl (fun ac A9 => ?_)
  refine s_not (dj := 18) (b := (decide ((l.length : Int) > 700))) A9 (by kernel_rfl) (by kernel_rfl) (decide_eq_false (by first | rfl | omega)) rfl (fun ac A10 => ?_)
  refine s_not (dj := 18) (b := (decide ((l.length : Int) > 700))) A10 (by kernel_rfl) (by kernel_rfl) (decide_eq_false (by first | rfl | omega)) rfl (fun ac A11 => ?_)
  refine s_not (dj := 18) (b := (decide ((l.length : Int) > 700))) A11 (by kernel_rfl) (by kernel_rfl) (decide_eq_false (by first | rfl | omega)) rfl (fun ac A12 => ?_)
  refine s_one (.bool false) A12 S3 (g_pick_f (b := (decide ((l.length : Int) > 700))) (by kernel_rfl) (decide_eq_false (by first | rfl | omega)) (by kernel_rfl)) rfl (fun ac A13 => ?_)
  refine s_one (.bool false) A13 S3 (g_move (by kernel_rfl)) rfl (fun ac A14 => ?_)
  refine s_want (dj := 23) (b := false) A14 (by kernel_rfl) (by kernel_rfl) rfl ?_
  refine s_one (.string ⟨l.toArray⟩) A14 S3 (g_move (by kernel_rfl)) rfl (fun ac A15 => ?_)
  refine s_want (dj := 23) (b := false) A15 (by kernel_rfl) (by kernel_rfl) rfl ?_
  refine s_one (.int .i64 (l.length : Int)) A15 S3 (g_built (r := [(0, .string ⟨l.toArray⟩)]) (by kernel_rfl) (fun ty cs w => bl_str (l := l) Try.underlying9 ty cs w)) rfl (fun ac A16 => ?_)
  refine s_want (dj := 23) (b := false) A16 (by kernel_rfl) (by kernel_rfl) rfl ?_
  refine s_one (.bool (decide ((l.length : Int) > 100005))) A16 S3 (g_bin (u := .int .i64 (l.length : Int)) (k := .int .i64 100005) (by kernel_rfl) (by kernel_rfl) (fun _ => by kernel_rfl) (fun _ => by kernel_rfl)) rfl (fun ac A17 => ?_)
  refine s_one (.bool (decide ((l.length : Int) > 100005))) A17 S3 (g_pick_f (b := false) (by kernel_rfl) rfl (by kernel_rfl)) rfl (fun ac A18 => ?_)
  refine wpList_nil ?_
  refine n_then ?_
  refine c_f (b := (decide ((l.length : Int) > 100005))) A18 (by kernel_rfl) (decide_eq_false (by first | rfl | omega)) ?_
  refine wp_skip ?_
  refine n_then ?_
  refine wp_seq ?_
  refine wp_region_lit ?_
  refine s_one (.string ⟨l.toArray⟩) A18 S3 (g_move (by kernel_rfl)) rfl (fun ac A19 => ?_)
  refine s_callSt (T := List Value × Option Addr × Nat) (fs := #[]) (cp := #[]) (r := [(0, .string ⟨l.toArray⟩)]) #[.string ⟨l.toArray⟩] (fun u => .tuple #[.slice u.2.1 (frK l) u.2.2, .int .i64 (atU l (frK l) : Int), .int .i64 0]) (fun u => []) (fun u => (⟨.slice u.2.1 (frK l) u.2.2, 66, 3, (frK l), (frX l u.1)⟩ :: (frM 36 l u.1))) A19 S3 (Frames_s l _ (by omega)) (fun u x hx => by cases hx) Try.call30 (by kernel_rfl) (by kernel_rfl) (by kernel_rfl) rfl (fun u26 ac wc A20 S21 => ?_)
  obtain ⟨vs23, A24, cap25⟩ := u26
  simp only [List.append_nil] at S21
  replace S21 : St w0 [] (⟨.slice A24 (frK l) cap25, 66, 3, (frK l), (frX l vs23)⟩ :: (frM 36 l vs23)) _ := S21
  refine s_one (.tuple #[.slice A24 (frK l) cap25, .int .i64 (atU l (frK l) : Int), .int .i64 0]) A20 S21 (g_move (by kernel_rfl)) rfl (fun ac A27 => ?_)
  refine s_one (.slice A24 (frK l) cap25) A27 S21 (g_extract (u := .tuple #[.slice A24 (frK l) cap25, .int .i64 (atU l (frK l) : Int), .int .i64 0]) (by kernel_rfl) (fun _ => by kernel_rfl)) rfl (fun ac A28 => ?_)
  refine s_one (.int .i64 (atU l (frK l) : Int)) A28 S21 (g_extract (u := .tuple #[.slice A24 (frK l) cap25, .int .i64 (atU l (frK l) : Int), .int .i64 0]) (by kernel_rfl) (fun _ => by kernel_rfl)) rfl (fun ac A29 => ?_)
  refine s_one (.int .i64 0) A29 S21 (g_extract (u := .tuple #[.slice A24 (frK l) cap25, .int .i64 (atU l (frK l) : Int), .int .i64 0]) (by kernel_rfl) (fun _ => by kernel_rfl)) rfl (fun ac A30 => ?_)
  refine s_one (.slice A24 (frK l) cap25) A30 S21 (g_assign (by kernel_rfl)) rfl (fun ac A31 => ?_)
  refine s_one (.int .i64 (atU l (frK l) : Int)) A31 S21 (g_assign (by kernel_rfl)) rfl (fun ac A32 => ?_)
  refine s_one (.int .i64 0) A32 S21 (g_assign (by kernel_rfl)) rfl (fun ac A33 => ?_)
  refine wpList_nil ?_
  refine n_then ?_
  refine wp_seq ?_
  refine wp_seq ?_
  refine wp_region_lit ?_
  refine s_one (.string ⟨l.toArray⟩) A33 S21 (g_move (by kernel_rfl)) rfl (fun ac A34 => ?_)
  refine s_one (.int .i64 (l.length : Int)) A34 S21 (g_built (r := [(0, .string ⟨l.toArray⟩)]) (by kernel_rfl) (fun ty cs w => bl_str (l := l) Try.underlying9 ty cs w)) rfl (fun ac A35 => ?_)
  refine s_one (.bool (decide ((l.length : Int) > 100000))) A35 S21 (g_bin (u := .int .i64 (l.length : Int)) (k := .int .i64 100000) (by kernel_rfl) (by kernel_rfl) (fun _ => by kernel_rfl) (fun _ => by kernel_rfl)) rfl (fun ac A36 => ?_)
  refine wpList_nil ?_
  refine n_then ?_
  refine c_f (b := (decide ((l.length : Int) > 100000))) A36 (by kernel_rfl) (decide_eq_false (by first | rfl | omega)) ?_
  refine wp_skip ?_
  refine n_then ?_
  refine wp_seq ?_
  refine wp_region_lit ?_
  refine s_one (.string ⟨l.toArray⟩) A36 S21 (g_move (by kernel_rfl)) rfl (fun ac A37 => ?_)
  refine s_callRF (fs := #[]) (cp := #[]) (r := [(0, .string ⟨l.toArray⟩)]) (fun v => .tuple #[.agg #[.int .i64 (pfP l), .int .i64 (pfE l), v], .int .i64 (pfZ l)]) #[.string ⟨l.toArray⟩] A37 S21 (ParseFrame_s l _ (by omega)) Try.call31 (by kernel_rfl) (by kernel_rfl) (by kernel_rfl) rfl (fun v41 ac wc A38 S39 => ?_)
  obtain ⟨hl42, A43, cap44, rfl, hc45, hr46⟩ := rowF_reads (v := v41) (m := (pfW l).length) (l := pfW l) (S39.row 0 rfl)
  refine s_one (.tuple #[.agg #[.int .i64 (pfP l), .int .i64 (pfE l), .slice A43 ((pfW l).length) cap44], .int .i64 (pfZ l)]) A38 S39 (g_move (by kernel_rfl)) rfl (fun ac A47 => ?_)
  refine s_one (.agg #[.int .i64 (pfP l), .int .i64 (pfE l), .slice A43 ((pfW l).length) cap44]) A47 S39 (g_extract (u := .tuple #[.agg #[.int .i64 (pfP l), .int .i64 (pfE l), .slice A43 ((pfW l).length) cap44], .int .i64 (pfZ l)]) (by kernel_rfl) (fun _ => by kernel_rfl)) rfl (fun ac A48 => ?_)
  refine s_one (.int .i64 (pfZ l)) A48 S39 (g_extract (u := .tuple #[.agg #[.int .i64 (pfP l), .int .i64 (pfE l), .slice A43 ((pfW l).length) cap44], .int .i64 (pfZ l)]) (by kernel_rfl) (fun _ => by kernel_rfl)) rfl (fun ac A49 => ?_)
  refine s_alloc (#[.int .i64 0, .int .i64 0, .slice none 0 0]) A49 S39 (by kernel_rfl) rfl (fun g52 ac wc A50 S51 => ?_)
  refine s_store (g := g52) (off := 0) (v := .agg #[.int .i64 (pfP l), .int .i64 (pfE l), .slice A43 ((pfW l).length) cap44]) 0 (#[.int .i64 (pfP l), .int .i64 (pfE l), .slice A43 ((pfW l).length) cap44]) A50 S51 (by kernel_rfl) (by kernel_rfl) rfl (by kernel_rfl) (fun wc S54 => ?_)
  refine s_one (.int .i64 (pfZ l)) A50 S54 (g_assign (by kernel_rfl)) rfl (fun ac A56 => ?_)
  refine wpList_nil ?_
  refine n_then ?_
  refine wp_seq ?_
  refine wp_region_lit ?_
  refine s_one (.string ⟨l.toArray⟩) A56 S54 (g_move (by kernel_rfl)) rfl (fun ac A57 => ?_)
  refine s_callRF (fs := #[]) (cp := #[]) (r := [(0, .string ⟨l.toArray⟩)]) (fun v => .tuple #[.agg #[.int .i64 (pfP l), .int .i64 (pfE l), v], .int .i64 (pfZ l)]) #[.string ⟨l.toArray⟩] A57 S54 (refParseFrame_s l _ (by omega)) Try.call32 (by kernel_rfl) (by kernel_rfl) (by kernel_rfl) rfl (fun v61 ac wc A58 S59 => ?_)
  obtain ⟨hl62, A63, cap64, rfl, hc65, hr66⟩ := rowF_reads (v := v61) (m := (pfW l).length) (l := pfW l) (S59.row 0 rfl)
  refine s_one (.tuple #[.agg #[.int .i64 (pfP l), .int .i64 (pfE l), .slice A63 ((pfW l).length) cap64], .int .i64 (pfZ l)]) A58 S59 (g_move (by kernel_rfl)) rfl (fun ac A67 => ?_)
  refine s_one (.agg #[.int .i64 (pfP l), .int .i64 (pfE l), .slice A63 ((pfW l).length) cap64]) A67 S59 (g_extract (u := .tuple #[.agg #[.int .i64 (pfP l), .int .i64 (pfE l), .slice A63 ((pfW l).length) cap64], .int .i64 (pfZ l)]) (by kernel_rfl) (fun _ => by kernel_rfl)) rfl (fun ac A68 => ?_)
  refine s_one (.int .i64 (pfZ l)) A68 S59 (g_extract (u := .tuple #[.agg #[.int .i64 (pfP l), .int .i64 (pfE l), .slice A63 ((pfW l).length) cap64], .int .i64 (pfZ l)]) (by kernel_rfl) (fun _ => by kernel_rfl)) rfl (fun ac A69 => ?_)
  refine s_alloc (#[.int .i64 0, .int .i64 0, .slice none 0 0]) A69 S59 (by kernel_rfl) rfl (fun g72 ac wc A70 S71 => ?_)
  refine s_store (g := g72) (off := 0) (v := .agg #[.int .i64 (pfP l), .int .i64 (pfE l), .slice A63 ((pfW l).length) cap64]) 0 (#[.int .i64 (pfP l), .int .i64 (pfE l), .slice A63 ((pfW l).length) cap64]) A70 S71 (by kernel_rfl) (by kernel_rfl) rfl (by kernel_rfl) (fun wc S74 => ?_)
  refine s_one (.int .i64 (pfZ l)) A70 S74 (g_assign (by kernel_rfl)) rfl (fun ac A76 => ?_)
  refine wpList_nil ?_
  refine n_then ?_
  refine wp_seq ?_
  refine wp_seq ?_
  refine wp_region_lit ?_
  refine s_one (.int .i64 (pfZ l)) A76 S74 (g_move (by kernel_rfl)) rfl (fun ac A77 => ?_)
  refine s_one (.int .i64 (pfZ l)) A77 S74 (g_move (by kernel_rfl)) rfl (fun ac A78 => ?_)
  refine s_one (.bool (decide (pfZ l ≠ pfZ l))) A78 S74 (g_bin (u := .int .i64 (pfZ l)) (k := .int .i64 (pfZ l)) (by kernel_rfl) (by kernel_rfl) (fun _ => by kernel_rfl) b_neq) rfl (fun ac A79 => ?_)
  refine s_one (.bool (decide (pfZ l ≠ pfZ l))) A79 S74 (g_move (by kernel_rfl)) rfl (fun ac A80 => ?_)
  refine s_want (dj := 61) (b := (decide (pfZ l ≠ pfZ l))) A80 (by kernel_rfl) (by kernel_rfl) (decide_eq_false (fun h => h rfl)) ?_
  refine s_one (.agg #[.int .i64 (pfP l), .int .i64 (pfE l), .slice A43 ((pfW l).length) cap44]) A80 S74 (g_load (g := g52) (off := 0) 1 (by kernel_rfl) rfl (by kernel_rfl)) rfl (fun ac A81 => ?_)
  refine s_want (dj := 61) (b := (decide (pfZ l ≠ pfZ l))) A81 (by kernel_rfl) (by kernel_rfl) (decide_eq_false (fun h => h rfl)) ?_
  refine s_one (.agg #[.int .i64 (pfP l), .int .i64 (pfE l), .slice A63 ((pfW l).length) cap64]) A81 S74 (g_load (g := g72) (off := 0) 0 (by kernel_rfl) rfl (by kernel_rfl)) rfl (fun ac A82 => ?_)
  refine s_want (dj := 61) (b := (decide (pfZ l ≠ pfZ l))) A82 (by kernel_rfl) (by kernel_rfl) (decide_eq_false (fun h => h rfl)) ?_
  refine s_call (fs := #[]) (cp := #[]) (r := [(0, .agg #[.int .i64 (pfP l), .int .i64 (pfE l), .slice A43 ((pfW l).length) cap44]), (0, .agg #[.int .i64 (pfP l), .int .i64 (pfE l), .slice A63 ((pfW l).length) cap64])]) #[.agg #[.int .i64 (pfP l), .int .i64 (pfE l), .slice A43 ((pfW l).length) cap44], .agg #[.int .i64 (pfP l), .int .i64 (pfE l), .slice A63 ((pfW l).length) cap64]] (.bool true) A82 S74 (sameFrame_s (pfP l) (pfE l) A43 A63 cap44 cap64 ((pfW l).length) (pfW l) _ hl62 (Nat.le_trans (pfW_le _) (by first | omega | (unfold frB; have := subU_le2 l (atU l k) (frN l (atU l k)); omega))) (row_fr (S74.row 1 rfl)) (row_fr (S74.row 0 rfl))) Try.call33 (by kernel_rfl) (by kernel_rfl) (by kernel_rfl) rfl (fun ac wc A83 S84 => ?_)
  refine s_want (dj := 61) (b := (decide (pfZ l ≠ pfZ l))) A83 (by kernel_rfl) (by kernel_rfl) (decide_eq_false (fun h => h rfl)) ?_
  refine s_one (.bool false) A83 S84 (g_un (u := .bool true) (by kernel_rfl) (fun _ => by kernel_rfl)) rfl (fun ac A86 => ?_)
  refine s_one (.bool false) A86 S84 (g_pick_f (b := (decide (pfZ l ≠ pfZ l))) (by kernel_rfl) (decide_eq_false (fun h => h rfl)) (by kernel_rfl)) rfl (fun ac A87 => ?_)
  refine wpList_nil ?_
  refine n_then ?_
  refine c_f (b := false) A87 (by kernel_rfl) rfl ?_
  refine wp_skip ?_
  refine n_then ?_
  refine wp_seq ?_
  refine wp_region_lit ?_
  refine s_one (.string ⟨l.toArray⟩) A87 S84 (g_move (by kernel_rfl)) rfl (fun ac A88 => ?_)
  refine s_callSt (T := List Value × Option Addr × Nat) (fs := #[]) (cp := #[]) (r := [(0, .string ⟨l.toArray⟩)]) #[.string ⟨l.toArray⟩] (fun u => .tuple #[.slice u.2.1 (frK l) u.2.2, .int .i64 (atU l (frK l) : Int)]) (fun u => []) (fun u => (⟨.slice u.2.1 (frK l) u.2.2, 66, 3, (frK l), (frX l u.1)⟩ :: (frM 36 l u.1))) A88 S84 (refFrames_s l _ (by omega)) (fun u x hx => by cases hx) Try.call34 (by kernel_rfl) (by kernel_rfl) (by kernel_rfl) rfl (fun u95 ac wc A89 S90 => ?_)
  obtain ⟨vs92, A93, cap94⟩ := u95
  replace S90 : St w0 [⟨g72, 66, #[.int .i64 (pfP l), .int .i64 (pfE l), .slice A63 ((pfW l).length) cap64], true⟩, ⟨g52, 66, #[.int .i64 (pfP l), .int .i64 (pfE l), .slice A43 ((pfW l).length) cap44], true⟩] (⟨.slice A93 (frK l) cap94, 66, 3, (frK l), (frX l vs92)⟩ :: ((frM 36 l vs92) ++ (⟨.slice A63 ((pfW l).length) cap64, 36, 1, ((pfW l).length), (rowF (pfW l))⟩ :: (⟨.slice A43 ((pfW l).length) cap44, 36, 1, ((pfW l).length), (rowF (pfW l))⟩ :: (⟨.slice A24 (frK l) cap25, 66, 3, (frK l), (frX l vs23)⟩ :: (frM 36 l vs23)))))) _ := S90
  refine s_one (.tuple #[.slice A93 (frK l) cap94, .int .i64 (atU l (frK l) : Int)]) A89 S90 (g_move (by kernel_rfl)) rfl (fun ac A96 => ?_)
  refine s_one (.slice A93 (frK l) cap94) A96 S90 (g_extract (u := .tuple #[.slice A93 (frK l) cap94, .int .i64 (atU l (frK l) : Int)]) (by kernel_rfl) (fun _ => by kernel_rfl)) rfl (fun ac A97 => ?_)
  refine s_one (.int .i64 (atU l (frK l) : Int)) A97 S90 (g_extract (u := .tuple #[.slice A93 (frK l) cap94, .int .i64 (atU l (frK l) : Int)]) (by kernel_rfl) (fun _ => by kernel_rfl)) rfl (fun ac A98 => ?_)
  refine s_one (.slice A93 (frK l) cap94) A98 S90 (g_assign (by kernel_rfl)) rfl (fun ac A99 => ?_)
  refine s_one (.int .i64 (atU l (frK l) : Int)) A99 S90 (g_assign (by kernel_rfl)) rfl (fun ac A100 => ?_)
  refine wpList_nil ?_
  refine n_then ?_
  refine wp_seq ?_
  refine wp_seq ?_
  refine wp_region_lit ?_
  refine s_one (.int .i64 0) A100 S90 (g_move (by kernel_rfl)) rfl (fun ac A101 => ?_)
  refine s_one (.bool (decide (0 ≠ 0))) A101 S90 (g_bin (u := .int .i64 0) (k := .int .i64 0) (by kernel_rfl) (by kernel_rfl) (fun _ => by kernel_rfl) b_neq) rfl (fun ac A102 => ?_)
  refine s_one (.bool (decide (0 ≠ 0))) A102 S90 (g_move (by kernel_rfl)) rfl (fun ac A103 => ?_)
  refine s_want (dj := 74) (b := (decide (0 ≠ 0))) A103 (by kernel_rfl) (by kernel_rfl) (by decide) ?_
  refine s_one (.int .i64 (atU l (frK l) : Int)) A103 S90 (g_move (by kernel_rfl)) rfl (fun ac A104 => ?_)
  refine s_want (dj := 74) (b := (decide (0 ≠ 0))) A104 (by kernel_rfl) (by kernel_rfl) (by decide) ?_
  refine s_one (.int .i64 (atU l (frK l) : Int)) A104 S90 (g_move (by kernel_rfl)) rfl (fun ac A105 => ?_)
  refine s_want (dj := 74) (b := (decide (0 ≠ 0))) A105 (by kernel_rfl) (by kernel_rfl) (by decide) ?_
  refine s_one (.bool (decide ((atU l (frK l) : Int) ≠ (atU l (frK l) : Int)))) A105 S90 (g_bin (u := .int .i64 (atU l (frK l) : Int)) (k := .int .i64 (atU l (frK l) : Int)) (by kernel_rfl) (by kernel_rfl) (fun _ => by kernel_rfl) b_neq) rfl (fun ac A106 => ?_)
  refine s_one (.bool (decide ((atU l (frK l) : Int) ≠ (atU l (frK l) : Int)))) A106 S90 (g_pick_f (b := (decide (0 ≠ 0))) (by kernel_rfl) (by decide) (by kernel_rfl)) rfl (fun ac A107 => ?_)
  refine s_one (.bool (decide ((atU l (frK l) : Int) ≠ (atU l (frK l) : Int)))) A107 S90 (g_move (by kernel_rfl)) rfl (fun ac A108 => ?_)
  refine s_want (dj := 79) (b := (decide ((atU l (frK l) : Int) ≠ (atU l (frK l) : Int)))) A108 (by kernel_rfl) (by kernel_rfl) (decide_eq_false (fun h => h rfl)) ?_
  refine s_one (.slice A24 (frK l) cap25) A108 S90 (g_move (by kernel_rfl)) rfl (fun ac A109 => ?_)
  refine s_want (dj := 79) (b := (decide ((atU l (frK l) : Int) ≠ (atU l (frK l) : Int)))) A109 (by kernel_rfl) (by kernel_rfl) (decide_eq_false (fun h => h rfl)) ?_
  refine s_one (.int .i64 (frK l : Int)) A109 S90 (g_built (r := [(0, .slice A24 (frK l) cap25)]) (by kernel_rfl) (fun _ _ _ => by kernel_rfl)) rfl (fun ac A110 => ?_)
  refine s_want (dj := 79) (b := (decide ((atU l (frK l) : Int) ≠ (atU l (frK l) : Int)))) A110 (by kernel_rfl) (by kernel_rfl) (decide_eq_false (fun h => h rfl)) ?_
  refine s_one (.slice A93 (frK l) cap94) A110 S90 (g_move (by kernel_rfl)) rfl (fun ac A111 => ?_)
  refine s_want (dj := 79) (b := (decide ((atU l (frK l) : Int) ≠ (atU l (frK l) : Int)))) A111 (by kernel_rfl) (by kernel_rfl) (decide_eq_false (fun h => h rfl)) ?_
  refine s_one (.int .i64 (frK l : Int)) A111 S90 (g_built (r := [(0, .slice A93 (frK l) cap94)]) (by kernel_rfl) (fun _ _ _ => by kernel_rfl)) rfl (fun ac A112 => ?_)
  refine s_want (dj := 79) (b := (decide ((atU l (frK l) : Int) ≠ (atU l (frK l) : Int)))) A112 (by kernel_rfl) (by kernel_rfl) (decide_eq_false (fun h => h rfl)) ?_
  refine s_one (.bool (decide ((frK l : Int) ≠ (frK l : Int)))) A112 S90 (g_bin (u := .int .i64 (frK l : Int)) (k := .int .i64 (frK l : Int)) (by kernel_rfl) (by kernel_rfl) (fun _ => by kernel_rfl) b_neq) rfl (fun ac A113 => ?_)
  refine s_one (.bool (decide ((frK l : Int) ≠ (frK l : Int)))) A113 S90 (g_pick_f (b := (decide ((atU l (frK l) : Int) ≠ (atU l (frK l) : Int)))) (by kernel_rfl) (decide_eq_false (fun h => h rfl)) (by kernel_rfl)) rfl (fun ac A114 => ?_)
  refine wpList_nil ?_
  refine n_then ?_
  refine c_f (b := (decide ((frK l : Int) ≠ (frK l : Int)))) A114 (by kernel_rfl) (decide_eq_false (fun h => h rfl)) ?_
  refine wp_skip ?_
  refine n_then ?_
  refine wp_seq ?_
  refine wp_seq ?_
  refine any_world S90 (fun w1 S1 => ?_)
  have hX1 := row_vreads (S1.rows (⟨.slice A93 (frK l) cap94, 66, 3, (frK l), (frX l vs92)⟩ : Rw) List.mem_cons_self)
  have hL1 : vs92.length = frK l := row_len (S1.rows (⟨.slice A93 (frK l) cap94, 66, 3, (frK l), (frX l vs92)⟩ : Rw) List.mem_cons_self)
  have hin1 : ∀ i, i < vs92.length → w1.ownsRow w0.heap.size 36 1 (vI vs92 i) (pfW (frB l i)).length (rowF (pfW (frB l i))) := fun i hi => S1.rows (⟨vI vs92 i, 36, 1, (pfW (frB l i)).length, rowF (pfW (frB l i))⟩ : Rw) (List.mem_cons_of_mem _ (List.mem_append_left _ (frM_mem hi)))
  have hX2 := row_vreads (S1.rows (⟨.slice A24 (frK l) cap25, 66, 3, (frK l), (frX l vs23)⟩ : Rw) (List.mem_cons_of_mem _ (List.mem_append_right _ (List.mem_cons_of_mem _ (List.mem_cons_of_mem _ List.mem_cons_self)))))
  have hL2 : vs23.length = frK l := row_len (S1.rows (⟨.slice A24 (frK l) cap25, 66, 3, (frK l), (frX l vs23)⟩ : Rw) (List.mem_cons_of_mem _ (List.mem_append_right _ (List.mem_cons_of_mem _ (List.mem_cons_of_mem _ List.mem_cons_self)))))
  have hin2 : ∀ i, i < vs23.length → w1.ownsRow w0.heap.size 36 1 (vI vs23 i) (pfW (frB l i)).length (rowF (pfW (frB l i))) := fun i hi => S1.rows (⟨vI vs23 i, 36, 1, (pfW (frB l i)).length, rowF (pfW (frB l i))⟩ : Rw) (List.mem_cons_of_mem _ (List.mem_append_right _ (List.mem_cons_of_mem _ (List.mem_cons_of_mem _ (List.mem_cons_of_mem _ (frM_mem hi))))))
  have SB := St.start w1
  refine wp_region_lit ?_
  refine s_one (.int .i64 0) A114 SB (g_assign (by kernel_rfl)) rfl (fun ac A115 => ?_)
  refine wpList_nil ?_
  refine n_then ?_
  refine wp_block ?_
  refine c_loopN (fun mm ac wc => ∃ (k : Nat), mm = frK l - k ∧ (k ≤ frK l) ∧ Fr 102 ac [(0, .string ⟨l.toArray⟩), (13, .bool true), (14, .bool false), (15, .string ⟨l.toArray⟩), (16, .int .i64 (l.length : Int)), (17, .bool (decide ((l.length : Int) > 700))), (18, .bool (decide ((l.length : Int) > 700))), (19, undef), (20, undef), (21, undef), (22, .bool false), (23, .bool false), (24, .string ⟨l.toArray⟩), (25, .int .i64 (l.length : Int)), (26, .bool (decide ((l.length : Int) > 100005))), (27, .bool (decide ((l.length : Int) > 100005))), (29, .string ⟨l.toArray⟩), (30, .tuple #[.slice A24 (frK l) cap25, .int .i64 (atU l (frK l) : Int), .int .i64 0]), (28, .tuple #[.slice A24 (frK l) cap25, .int .i64 (atU l (frK l) : Int), .int .i64 0]), (31, .slice A24 (frK l) cap25), (32, .int .i64 (atU l (frK l) : Int)), (33, .int .i64 0), (3, .slice A24 (frK l) cap25), (4, .int .i64 (atU l (frK l) : Int)), (5, .int .i64 0), (34, .string ⟨l.toArray⟩), (35, .int .i64 (l.length : Int)), (36, .bool (decide ((l.length : Int) > 100000))), (49, .string ⟨l.toArray⟩), (50, .tuple #[.agg #[.int .i64 (pfP l), .int .i64 (pfE l), .slice A43 ((pfW l).length) cap44], .int .i64 (pfZ l)]), (48, .tuple #[.agg #[.int .i64 (pfP l), .int .i64 (pfE l), .slice A43 ((pfW l).length) cap44], .int .i64 (pfZ l)]), (51, .agg #[.int .i64 (pfP l), .int .i64 (pfE l), .slice A43 ((pfW l).length) cap44]), (52, .int .i64 (pfZ l)), (6, .pointer (some ⟨g52, 0, none⟩)), (7, .int .i64 (pfZ l)), (54, .string ⟨l.toArray⟩), (55, .tuple #[.agg #[.int .i64 (pfP l), .int .i64 (pfE l), .slice A63 ((pfW l).length) cap64], .int .i64 (pfZ l)]), (53, .tuple #[.agg #[.int .i64 (pfP l), .int .i64 (pfE l), .slice A63 ((pfW l).length) cap64], .int .i64 (pfZ l)]), (56, .agg #[.int .i64 (pfP l), .int .i64 (pfE l), .slice A63 ((pfW l).length) cap64]), (57, .int .i64 (pfZ l)), (8, .pointer (some ⟨g72, 0, none⟩)), (9, .int .i64 (pfZ l)), (58, .int .i64 (pfZ l)), (59, .int .i64 (pfZ l)), (60, .bool (decide (pfZ l ≠ pfZ l))), (61, .bool (decide (pfZ l ≠ pfZ l))), (62, .agg #[.int .i64 (pfP l), .int .i64 (pfE l), .slice A43 ((pfW l).length) cap44]), (63, .agg #[.int .i64 (pfP l), .int .i64 (pfE l), .slice A63 ((pfW l).length) cap64]), (64, .bool true), (65, .bool false), (66, .bool false), (68, .string ⟨l.toArray⟩), (69, .tuple #[.slice A93 (frK l) cap94, .int .i64 (atU l (frK l) : Int)]), (67, .tuple #[.slice A93 (frK l) cap94, .int .i64 (atU l (frK l) : Int)]), (70, .slice A93 (frK l) cap94), (71, .int .i64 (atU l (frK l) : Int)), (10, .slice A93 (frK l) cap94), (11, .int .i64 (atU l (frK l) : Int)), (72, .int .i64 0), (73, .bool (decide (0 ≠ 0))), (74, .bool (decide (0 ≠ 0))), (75, .int .i64 (atU l (frK l) : Int)), (76, .int .i64 (atU l (frK l) : Int)), (77, .bool (decide ((atU l (frK l) : Int) ≠ (atU l (frK l) : Int)))), (78, .bool (decide ((atU l (frK l) : Int) ≠ (atU l (frK l) : Int)))), (79, .bool (decide ((atU l (frK l) : Int) ≠ (atU l (frK l) : Int)))), (80, .slice A24 (frK l) cap25), (81, .int .i64 (frK l : Int)), (82, .slice A93 (frK l) cap94), (83, .int .i64 (frK l : Int)), (84, .bool (decide ((frK l : Int) ≠ (frK l : Int)))), (85, .bool (decide ((frK l : Int) ≠ (frK l : Int)))), (12, .int .i64 (k : Int))] ∧ St w1 [] [] wc) _ ⟨0, rfl, by omega, (A115.slot (A115.slot (A115.slot (A115.slot (A115.slot (A115.slot (A115.slot (A115.slot (A115.slot (A115.slot (A115.slot (A115.slot (A115.slot (A115.slot (A115.slot (A115.slot (A115.slot (A115.slot (A115.slot (A115.slot (A115.slot (A115.slot (A115.slot (A115.slot (A115.slot (A115.slot (A115.slot (A115.slot (A115.slot (A115.slot (A115.slot (A115.slot (A115.slot (A115.slot (A115.slot (A115.slot (A115.slot (A115.slot (A115.slot (A115.slot (A115.slot (A115.slot (A115.slot (A115.slot (A115.slot (A115.slot (A115.slot (A115.slot (A115.slot (A115.slot (A115.slot (A115.slot (A115.slot (A115.slot (A115.slot (A115.slot (A115.slot (A115.slot (A115.slot (A115.slot (A115.slot (A115.slot (A115.slot (A115.slot (A115.slot (A115.slot (A115.slot (A115.slot (A115.slot (A115.slot (A115.slot (A115.slot (A115.slot A115.nil (v := .int .i64 0) (by kernel_rfl) (congrArg (Value.int .i64) (by omega))) (v := .bool (decide ((frK l : Int) ≠ (frK l : Int)))) (by kernel_rfl) rfl) (v := .bool (decide ((frK l : Int) ≠ (frK l : Int)))) (by kernel_rfl) rfl) (v := .int .i64 (frK l : Int)) (by kernel_rfl) rfl) (v := .slice A93 (frK l) cap94) (by kernel_rfl) rfl) (v := .int .i64 (frK l : Int)) (by kernel_rfl) rfl) (v := .slice A24 (frK l) cap25) (by kernel_rfl) rfl) (v := .bool (decide ((atU l (frK l) : Int) ≠ (atU l (frK l) : Int)))) (by kernel_rfl) rfl) (v := .bool (decide ((atU l (frK l) : Int) ≠ (atU l (frK l) : Int)))) (by kernel_rfl) rfl) (v := .bool (decide ((atU l (frK l) : Int) ≠ (atU l (frK l) : Int)))) (by kernel_rfl) rfl) (v := .int .i64 (atU l (frK l) : Int)) (by kernel_rfl) rfl) (v := .int .i64 (atU l (frK l) : Int)) (by kernel_rfl) rfl) (v := .bool (decide (0 ≠ 0))) (by kernel_rfl) rfl) (v := .bool (decide (0 ≠ 0))) (by kernel_rfl) rfl) (v := .int .i64 0) (by kernel_rfl) rfl) (v := .int .i64 (atU l (frK l) : Int)) (by kernel_rfl) rfl) (v := .slice A93 (frK l) cap94) (by kernel_rfl) rfl) (v := .int .i64 (atU l (frK l) : Int)) (by kernel_rfl) rfl) (v := .slice A93 (frK l) cap94) (by kernel_rfl) rfl) (v := .tuple #[.slice A93 (frK l) cap94, .int .i64 (atU l (frK l) : Int)]) (by kernel_rfl) rfl) (v := .tuple #[.slice A93 (frK l) cap94, .int .i64 (atU l (frK l) : Int)]) (by kernel_rfl) rfl) (v := .string ⟨l.toArray⟩) (by kernel_rfl) rfl) (v := .bool false) (by kernel_rfl) rfl) (v := .bool false) (by kernel_rfl) rfl) (v := .bool true) (by kernel_rfl) rfl) (v := .agg #[.int .i64 (pfP l), .int .i64 (pfE l), .slice A63 ((pfW l).length) cap64]) (by kernel_rfl) rfl) (v := .agg #[.int .i64 (pfP l), .int .i64 (pfE l), .slice A43 ((pfW l).length) cap44]) (by kernel_rfl) rfl) (v := .bool (decide (pfZ l ≠ pfZ l))) (by kernel_rfl) rfl) (v := .bool (decide (pfZ l ≠ pfZ l))) (by kernel_rfl) rfl) (v := .int .i64 (pfZ l)) (by kernel_rfl) rfl) (v := .int .i64 (pfZ l)) (by kernel_rfl) rfl) (v := .int .i64 (pfZ l)) (by kernel_rfl) rfl) (v := .pointer (some ⟨g72, 0, none⟩)) (by kernel_rfl) rfl) (v := .int .i64 (pfZ l)) (by kernel_rfl) rfl) (v := .agg #[.int .i64 (pfP l), .int .i64 (pfE l), .slice A63 ((pfW l).length) cap64]) (by kernel_rfl) rfl) (v := .tuple #[.agg #[.int .i64 (pfP l), .int .i64 (pfE l), .slice A63 ((pfW l).length) cap64], .int .i64 (pfZ l)]) (by kernel_rfl) rfl) (v := .tuple #[.agg #[.int .i64 (pfP l), .int .i64 (pfE l), .slice A63 ((pfW l).length) cap64], .int .i64 (pfZ l)]) (by kernel_rfl) rfl) (v := .string ⟨l.toArray⟩) (by kernel_rfl) rfl) (v := .int .i64 (pfZ l)) (by kernel_rfl) rfl) (v := .pointer (some ⟨g52, 0, none⟩)) (by kernel_rfl) rfl) (v := .int .i64 (pfZ l)) (by kernel_rfl) rfl) (v := .agg #[.int .i64 (pfP l), .int .i64 (pfE l), .slice A43 ((pfW l).length) cap44]) (by kernel_rfl) rfl) (v := .tuple #[.agg #[.int .i64 (pfP l), .int .i64 (pfE l), .slice A43 ((pfW l).length) cap44], .int .i64 (pfZ l)]) (by kernel_rfl) rfl) (v := .tuple #[.agg #[.int .i64 (pfP l), .int .i64 (pfE l), .slice A43 ((pfW l).length) cap44], .int .i64 (pfZ l)]) (by kernel_rfl) rfl) (v := .string ⟨l.toArray⟩) (by kernel_rfl) rfl) (v := .bool (decide ((l.length : Int) > 100000))) (by kernel_rfl) rfl) (v := .int .i64 (l.length : Int)) (by kernel_rfl) rfl) (v := .string ⟨l.toArray⟩) (by kernel_rfl) rfl) (v := .int .i64 0) (by kernel_rfl) rfl) (v := .int .i64 (atU l (frK l) : Int)) (by kernel_rfl) rfl) (v := .slice A24 (frK l) cap25) (by kernel_rfl) rfl) (v := .int .i64 0) (by kernel_rfl) rfl) (v := .int .i64 (atU l (frK l) : Int)) (by kernel_rfl) rfl) (v := .slice A24 (frK l) cap25) (by kernel_rfl) rfl) (v := .tuple #[.slice A24 (frK l) cap25, .int .i64 (atU l (frK l) : Int), .int .i64 0]) (by kernel_rfl) rfl) (v := .tuple #[.slice A24 (frK l) cap25, .int .i64 (atU l (frK l) : Int), .int .i64 0]) (by kernel_rfl) rfl) (v := .string ⟨l.toArray⟩) (by kernel_rfl) rfl) (v := .bool (decide ((l.length : Int) > 100005))) (by kernel_rfl) rfl) (v := .bool (decide ((l.length : Int) > 100005))) (by kernel_rfl) rfl) (v := .int .i64 (l.length : Int)) (by kernel_rfl) rfl) (v := .string ⟨l.toArray⟩) (by kernel_rfl) rfl) (v := .bool false) (by kernel_rfl) rfl) (v := .bool false) (by kernel_rfl) rfl) (v := undef) (by kernel_rfl) rfl) (v := undef) (by kernel_rfl) rfl) (v := undef) (by kernel_rfl) rfl) (v := .bool (decide ((l.length : Int) > 700))) (by kernel_rfl) rfl) (v := .bool (decide ((l.length : Int) > 700))) (by kernel_rfl) rfl) (v := .int .i64 (l.length : Int)) (by kernel_rfl) rfl) (v := .string ⟨l.toArray⟩) (by kernel_rfl) rfl) (v := .bool false) (by kernel_rfl) rfl) (v := .bool true) (by kernel_rfl) rfl) (v := .string ⟨l.toArray⟩) (by kernel_rfl) rfl), SB.sub sub_all sub_all⟩ ?_
  rintro mm ac wc ⟨k, hm118, hk, A116, S117⟩
  have hkb := frK_bd l
  refine wp_seq ?_
  refine wp_seq ?_
  refine wp_region_lit ?_
  refine s_one (.int .i64 (k : Int)) A116 S117 (g_move (by kernel_rfl)) rfl (fun ac A119 => ?_)
  refine s_one (.slice A24 (frK l) cap25) A119 S117 (g_move (by kernel_rfl)) rfl (fun ac A120 => ?_)
  refine s_one (.int .i64 (frK l : Int)) A120 S117 (g_built (r := [(0, .slice A24 (frK l) cap25)]) (by kernel_rfl) (fun _ _ _ => by kernel_rfl)) rfl (fun ac A121 => ?_)
  refine s_one (.bool (decide ((k : Int) < (frK l : Int)))) A121 S117 (g_bin (u := .int .i64 (k : Int)) (k := .int .i64 (frK l : Int)) (by kernel_rfl) (by kernel_rfl) (fun _ => by kernel_rfl) (fun _ => by kernel_rfl)) rfl (fun ac A122 => ?_)
  refine wpList_nil ?_
  refine n_then ?_
  refine c_ifb (b := (decide ((k : Int) < (frK l : Int)))) A122 (by kernel_rfl) (fun h123 => ?_) (fun h123 => ?_)
  · have p124 := of_decide_eq_true h123
    refine wp_skip ?_
    refine n_then ?_
    refine wp_seq ?_
    refine wp_block ?_
    refine wp_seq ?_
    obtain ⟨hq1, B1, b1, hv1, hc1, hr1⟩ := rowF_reads (hin1 k (by omega))
    obtain ⟨ad1, he1, hx1⟩ := fr_at hX1 (show k < vs92.length by omega) hv1
    obtain ⟨hq2, B2, b2, hv2, hc2, hr2⟩ := rowF_reads (hin2 k (by omega))
    obtain ⟨ad2, he2, hx2⟩ := fr_at hX2 (show k < vs23.length by omega) hv2
    refine r_begin (w0 := w1) (by kernel_rfl) (S117.sub sub_all sub_all) (fun wc T125 B126 => ?_)
    have S127 := S117.kept B126
    refine r_take 0 (.slice A24 (frK l) cap25) A122 T125 (g_move (by kernel_rfl)) rfl rfl rfl (pf_then (pf_block (pf_then (pf_then (pf_block (pf_then pf_body)))))) (by kernel_rfl) (fun ac A128 => ?_)
    refine r_take 1 (.int .i64 (k : Int)) A128 T125 (g_move (by kernel_rfl)) rfl rfl rfl (pf_then (pf_block (pf_then (pf_then (pf_block (pf_then pf_body)))))) (by kernel_rfl) (fun ac A129 => ?_)
    refine r_take 2 (.pointer (some (ad2.add (k * 3)))) A129 T125 (g_index (u := .slice A24 (frK l) cap25) (k := .int .i64 (k : Int)) (by kernel_rfl) (by kernel_rfl) (ix_xsA (e := 66) (size := 3) (bytes := 40) k (by kernel_rfl) (by omega) (by omega) he2)) rfl rfl rfl (pf_then (pf_block (pf_then (pf_then (pf_block (pf_then pf_body)))))) (by kernel_rfl) (fun ac A130 => ?_)
    refine r_take 3 (.agg #[.int .i64 (pfP (frB l k)), .int .i64 (pfE (frB l k)), .slice B2 ((pfW (frB l k)).length) b2]) A130 T125 (g_loadXV (p := ad2.add (k * 3)) (X := [.int .i64 (pfP (frB l k)), .int .i64 (pfE (frB l k)), .slice B2 ((pfW (frB l k)).length) b2]) (by kernel_rfl) hx2 (by kernel_rfl) rfl) rfl rfl rfl (pf_then (pf_block (pf_then (pf_then (pf_block (pf_then pf_body)))))) (by kernel_rfl) (fun ac A131 => ?_)
    refine r_take 4 (.slice A93 (frK l) cap94) A131 T125 (g_move (by kernel_rfl)) rfl rfl rfl (pf_then (pf_block (pf_then (pf_then (pf_block (pf_then pf_body)))))) (by kernel_rfl) (fun ac A132 => ?_)
    refine r_take 5 (.int .i64 (k : Int)) A132 T125 (g_move (by kernel_rfl)) rfl rfl rfl (pf_then (pf_block (pf_then (pf_then (pf_block (pf_then pf_body)))))) (by kernel_rfl) (fun ac A133 => ?_)
    refine r_take 6 (.pointer (some (ad1.add (k * 3)))) A133 T125 (g_index (u := .slice A93 (frK l) cap94) (k := .int .i64 (k : Int)) (by kernel_rfl) (by kernel_rfl) (ix_xsA (e := 66) (size := 3) (bytes := 40) k (by kernel_rfl) (by omega) (by omega) he1)) rfl rfl rfl (pf_then (pf_block (pf_then (pf_then (pf_block (pf_then pf_body)))))) (by kernel_rfl) (fun ac A134 => ?_)
    refine r_take 7 (.agg #[.int .i64 (pfP (frB l k)), .int .i64 (pfE (frB l k)), .slice B1 ((pfW (frB l k)).length) b1]) A134 T125 (g_loadXV (p := ad1.add (k * 3)) (X := [.int .i64 (pfP (frB l k)), .int .i64 (pfE (frB l k)), .slice B1 ((pfW (frB l k)).length) b1]) (by kernel_rfl) hx1 (by kernel_rfl) rfl) rfl rfl rfl (pf_then (pf_block (pf_then (pf_then (pf_block (pf_then pf_body)))))) (by kernel_rfl) (fun ac A135 => ?_)
    refine r_1 (i := 8) (by kernel_rfl) ?_
    refine rs_call (fs := #[]) (cp := #[]) (r := [(0, .agg #[.int .i64 (pfP (frB l k)), .int .i64 (pfE (frB l k)), .slice B2 ((pfW (frB l k)).length) b2]), (0, .agg #[.int .i64 (pfP (frB l k)), .int .i64 (pfE (frB l k)), .slice B1 ((pfW (frB l k)).length) b1])]) #[.agg #[.int .i64 (pfP (frB l k)), .int .i64 (pfE (frB l k)), .slice B2 ((pfW (frB l k)).length) b2], .agg #[.int .i64 (pfP (frB l k)), .int .i64 (pfE (frB l k)), .slice B1 ((pfW (frB l k)).length) b1]] (.bool true) A135 S127 sub_all sub_all (sameFrame_s (pfP (frB l k)) (pfE (frB l k)) B2 B1 b2 b1 ((pfW (frB l k)).length) (pfW (frB l k)) _ hq1 (Nat.le_trans (pfW_le _) (by first | omega | (unfold frB; have := subU_le2 l (atU l k) (frN l (atU l k)); omega))) (hr2.kept S127.kp) (hr1.kept S127.kp)) Try.call33 rfl rfl (by kernel_rfl) (by kernel_rfl) (by kernel_rfl) rfl (fun ac wc A136 S137 => ?_)
    have T139 := S137.sub sub_all sub_all
    refine r_take 9 (.bool false) A136 T139 (g_un (u := .bool true) (by kernel_rfl) (fun _ => by kernel_rfl)) rfl rfl rfl (pf_then (pf_block (pf_then (pf_then (pf_block (pf_then pf_body)))))) (by kernel_rfl) (fun ac A140 => ?_)
    refine r_done (by kernel_rfl) ?_
    refine n_then ?_
    refine c_f (b := false) A140 (by kernel_rfl) rfl ?_
    refine wp_skip ?_
    refine n_block ?_
    refine n_then ?_
    refine wp_region_lit ?_
    refine s_one (.int .i64 (k : Int)) A140 S137 (g_move (by kernel_rfl)) rfl (fun ac A141 => ?_)
    refine s_one (.int .i64 ((k : Int) + 1)) A141 S137 (g_bin (u := .int .i64 (k : Int)) (k := .int .i64 1) (by kernel_rfl) (by kernel_rfl) (fun _ => by kernel_rfl) (b_add (by omega))) rfl (fun ac A142 => ?_)
    refine s_one (.int .i64 ((k : Int) + 1)) A142 S137 (g_assign (by kernel_rfl)) rfl (fun ac A143 => ?_)
    refine wpList_nil ?_
    refine n_then ?_
    refine ⟨_, ⟨k + 1, rfl, by omega, (A143.slot (A143.slot (A143.slot (A143.slot (A143.slot (A143.slot (A143.slot (A143.slot (A143.slot (A143.slot (A143.slot (A143.slot (A143.slot (A143.slot (A143.slot (A143.slot (A143.slot (A143.slot (A143.slot (A143.slot (A143.slot (A143.slot (A143.slot (A143.slot (A143.slot (A143.slot (A143.slot (A143.slot (A143.slot (A143.slot (A143.slot (A143.slot (A143.slot (A143.slot (A143.slot (A143.slot (A143.slot (A143.slot (A143.slot (A143.slot (A143.slot (A143.slot (A143.slot (A143.slot (A143.slot (A143.slot (A143.slot (A143.slot (A143.slot (A143.slot (A143.slot (A143.slot (A143.slot (A143.slot (A143.slot (A143.slot (A143.slot (A143.slot (A143.slot (A143.slot (A143.slot (A143.slot (A143.slot (A143.slot (A143.slot (A143.slot (A143.slot (A143.slot (A143.slot (A143.slot (A143.slot (A143.slot (A143.slot A143.nil (v := .int .i64 ((k : Int) + 1)) (by kernel_rfl) (congrArg (Value.int .i64) (by omega))) (v := .bool (decide ((frK l : Int) ≠ (frK l : Int)))) (by kernel_rfl) rfl) (v := .bool (decide ((frK l : Int) ≠ (frK l : Int)))) (by kernel_rfl) rfl) (v := .int .i64 (frK l : Int)) (by kernel_rfl) rfl) (v := .slice A93 (frK l) cap94) (by kernel_rfl) rfl) (v := .int .i64 (frK l : Int)) (by kernel_rfl) rfl) (v := .slice A24 (frK l) cap25) (by kernel_rfl) rfl) (v := .bool (decide ((atU l (frK l) : Int) ≠ (atU l (frK l) : Int)))) (by kernel_rfl) rfl) (v := .bool (decide ((atU l (frK l) : Int) ≠ (atU l (frK l) : Int)))) (by kernel_rfl) rfl) (v := .bool (decide ((atU l (frK l) : Int) ≠ (atU l (frK l) : Int)))) (by kernel_rfl) rfl) (v := .int .i64 (atU l (frK l) : Int)) (by kernel_rfl) rfl) (v := .int .i64 (atU l (frK l) : Int)) (by kernel_rfl) rfl) (v := .bool (decide (0 ≠ 0))) (by kernel_rfl) rfl) (v := .bool (decide (0 ≠ 0))) (by kernel_rfl) rfl) (v := .int .i64 0) (by kernel_rfl) rfl) (v := .int .i64 (atU l (frK l) : Int)) (by kernel_rfl) rfl) (v := .slice A93 (frK l) cap94) (by kernel_rfl) rfl) (v := .int .i64 (atU l (frK l) : Int)) (by kernel_rfl) rfl) (v := .slice A93 (frK l) cap94) (by kernel_rfl) rfl) (v := .tuple #[.slice A93 (frK l) cap94, .int .i64 (atU l (frK l) : Int)]) (by kernel_rfl) rfl) (v := .tuple #[.slice A93 (frK l) cap94, .int .i64 (atU l (frK l) : Int)]) (by kernel_rfl) rfl) (v := .string ⟨l.toArray⟩) (by kernel_rfl) rfl) (v := .bool false) (by kernel_rfl) rfl) (v := .bool false) (by kernel_rfl) rfl) (v := .bool true) (by kernel_rfl) rfl) (v := .agg #[.int .i64 (pfP l), .int .i64 (pfE l), .slice A63 ((pfW l).length) cap64]) (by kernel_rfl) rfl) (v := .agg #[.int .i64 (pfP l), .int .i64 (pfE l), .slice A43 ((pfW l).length) cap44]) (by kernel_rfl) rfl) (v := .bool (decide (pfZ l ≠ pfZ l))) (by kernel_rfl) rfl) (v := .bool (decide (pfZ l ≠ pfZ l))) (by kernel_rfl) rfl) (v := .int .i64 (pfZ l)) (by kernel_rfl) rfl) (v := .int .i64 (pfZ l)) (by kernel_rfl) rfl) (v := .int .i64 (pfZ l)) (by kernel_rfl) rfl) (v := .pointer (some ⟨g72, 0, none⟩)) (by kernel_rfl) rfl) (v := .int .i64 (pfZ l)) (by kernel_rfl) rfl) (v := .agg #[.int .i64 (pfP l), .int .i64 (pfE l), .slice A63 ((pfW l).length) cap64]) (by kernel_rfl) rfl) (v := .tuple #[.agg #[.int .i64 (pfP l), .int .i64 (pfE l), .slice A63 ((pfW l).length) cap64], .int .i64 (pfZ l)]) (by kernel_rfl) rfl) (v := .tuple #[.agg #[.int .i64 (pfP l), .int .i64 (pfE l), .slice A63 ((pfW l).length) cap64], .int .i64 (pfZ l)]) (by kernel_rfl) rfl) (v := .string ⟨l.toArray⟩) (by kernel_rfl) rfl) (v := .int .i64 (pfZ l)) (by kernel_rfl) rfl) (v := .pointer (some ⟨g52, 0, none⟩)) (by kernel_rfl) rfl) (v := .int .i64 (pfZ l)) (by kernel_rfl) rfl) (v := .agg #[.int .i64 (pfP l), .int .i64 (pfE l), .slice A43 ((pfW l).length) cap44]) (by kernel_rfl) rfl) (v := .tuple #[.agg #[.int .i64 (pfP l), .int .i64 (pfE l), .slice A43 ((pfW l).length) cap44], .int .i64 (pfZ l)]) (by kernel_rfl) rfl) (v := .tuple #[.agg #[.int .i64 (pfP l), .int .i64 (pfE l), .slice A43 ((pfW l).length) cap44], .int .i64 (pfZ l)]) (by kernel_rfl) rfl) (v := .string ⟨l.toArray⟩) (by kernel_rfl) rfl) (v := .bool (decide ((l.length : Int) > 100000))) (by kernel_rfl) rfl) (v := .int .i64 (l.length : Int)) (by kernel_rfl) rfl) (v := .string ⟨l.toArray⟩) (by kernel_rfl) rfl) (v := .int .i64 0) (by kernel_rfl) rfl) (v := .int .i64 (atU l (frK l) : Int)) (by kernel_rfl) rfl) (v := .slice A24 (frK l) cap25) (by kernel_rfl) rfl) (v := .int .i64 0) (by kernel_rfl) rfl) (v := .int .i64 (atU l (frK l) : Int)) (by kernel_rfl) rfl) (v := .slice A24 (frK l) cap25) (by kernel_rfl) rfl) (v := .tuple #[.slice A24 (frK l) cap25, .int .i64 (atU l (frK l) : Int), .int .i64 0]) (by kernel_rfl) rfl) (v := .tuple #[.slice A24 (frK l) cap25, .int .i64 (atU l (frK l) : Int), .int .i64 0]) (by kernel_rfl) rfl) (v := .string ⟨l.toArray⟩) (by kernel_rfl) rfl) (v := .bool (decide ((l.length : Int) > 100005))) (by kernel_rfl) rfl) (v := .bool (decide ((l.length : Int) > 100005))) (by kernel_rfl) rfl) (v := .int .i64 (l.length : Int)) (by kernel_rfl) rfl) (v := .string ⟨l.toArray⟩) (by kernel_rfl) rfl) (v := .bool false) (by kernel_rfl) rfl) (v := .bool false) (by kernel_rfl) rfl) (v := undef) (by kernel_rfl) rfl) (v := undef) (by kernel_rfl) rfl) (v := undef) (by kernel_rfl) rfl) (v := .bool (decide ((l.length : Int) > 700))) (by kernel_rfl) rfl) (v := .bool (decide ((l.length : Int) > 700))) (by kernel_rfl) rfl) (v := .int .i64 (l.length : Int)) (by kernel_rfl) rfl) (v := .string ⟨l.toArray⟩) (by kernel_rfl) rfl) (v := .bool false) (by kernel_rfl) rfl) (v := .bool true) (by kernel_rfl) rfl) (v := .string ⟨l.toArray⟩) (by kernel_rfl) rfl), S137.sub sub_all sub_all⟩, ?_⟩
    omega
  · have p144 := of_decide_eq_false h123
    refine wp_exit ?_
    refine x_then ?_
    refine x_then ?_
    refine x_hit ?_
    refine n_then ?_
    refine wp_seq ?_
    refine wp_region_lit ?_
    refine s_one (.bool true) A122 S117 (g_assign (by kernel_rfl)) rfl (fun ac A145 => ?_)
    refine wpList_nil ?_
    refine n_then ?_
    refine wp_ret ?_
    refine fin1 (.bool true) Try.results6 A145 S117 (rv_tmp (by kernel_rfl)) ⟨?_, kp_trans S1.kp S117.kp⟩
    rfl

set_option maxRecDepth 100000 in
set_option maxHeartbeats 400000 in
theorem frameReads_big (l : List UInt8) (w0 : World) (hl : 100000 < l.length) (hl2 : l.length ≤ 100005) :
    Calls Try.prog 6 #[.string ⟨l.toArray⟩] w0 fun e w' => e = .returned (.bool true) ∧ Below w0.heap.size w0 w' := by
  have S0 := St.start w0
  refine enter (n := 102) Try.func6 rfl rfl rfl (fun ac A0 => ?_)
  refine wp_seq ?_
  refine wp_region_lit ?_
  refine s_one (.bool false) A0 S0 (g_assign (by kernel_rfl)) rfl (fun ac A1 => ?_)
  refine wpList_nil ?_
  refine n_then ?_
  refine wp_seq ?_
  refine wp_seq ?_
  refine wp_region_lit ?_
  refine s_call (fs := #[]) (cp := #[]) (r := []) #[] (.bool true) A1 S0 (awake_any _) Try.call11 (by kernel_rfl) (by kernel_rfl) (by kernel_rfl) rfl (fun ac wc A2 S3 => ?_)
  refine s_one (.bool false) A2 S3 (g_un (u := .bool true) (by kernel_rfl) (fun _ => by kernel_rfl)) rfl (fun ac A5 => ?_)
  refine wpList_nil ?_
  refine n_then ?_
  refine c_f (b := false) A5 (by kernel_rfl) rfl ?_
  refine wp_skip ?_
  refine n_then ?_
  refine wp_seq ?_
  refine wp_seq ?_
  refine wp_region_lit ?_
  refine s_one (.string ⟨l.toArray⟩) A5 S3 (g_move (by kernel_rfl)) rfl (fun ac A6 => ?_)
  refine s_one (.int .i64 (l.length : Int)) A6 S3 (g_built (r := [(0, .string ⟨l.toArray⟩)]) (by kernel_rfl) (fun ty cs w => bl_str (l := l) Try.underlying9 ty cs w)) rfl (fun ac A7 => ?_)
  refine s_one (.bool (decide ((l.length : Int) > 700))) A7 S3 (g_bin (u := .int .i64 (l.length : Int)) (k := .int .i64 700) (by kernel_rfl) (by kernel_rfl) (fun _ => by kernel_rfl) (fun _ => by kernel_rfl)) rfl (fun ac A8 => ?_)
  refine s_one (.bool (decide ((l.length : Int) > 700))) A8 S3 (g_move (by kernel_rfl)) rfl (fun ac A9 => ?_)
  refine s_want (dj := 18) (b := (decide ((l.length : Int) > 700))) A9 (by kernel_rfl) (by kernel_rfl) (decide_eq_true (by first | rfl | omega)) ?_
  refine s_one (.string ⟨l.toArray⟩) A9 S3 (g_move (by kernel_rfl)) rfl (fun ac A10 => ?_)
  refine s_want (dj := 18) (b := (decide ((l.length : Int) > 700))) A10 (by kernel_rfl) (by kernel_rfl) (decide_eq_true (by first | rfl | omega)) ?_
  refine s_one (.int .i64 (l.length : Int)) A10 S3 (g_built (r := [(0, .string ⟨l.toArray⟩)]) (by kernel_rfl) (fun ty cs w => bl_str (l := l) Try.underlying9 ty cs w)) rfl (fun ac A11 => ?_)
  refine s_want (dj := 18) (b := (decide ((l.length : Int) > 700))) A11 (by kernel_rfl) (by kernel_rfl) (decide_eq_true (by first | rfl | omega)) ?_
  refine s_one (.bool (decide ((l.length : Int) ≤ 100000))) A11 S3 (g_bin (u := .int .i64 (l.length : Int)) (k := .int .i64 100000) (by kernel_rfl) (by kernel_rfl) (fun _ => by kernel_rfl) (fun _ => by kernel_rfl)) rfl (fun ac A12 => ?_)
  refine s_one (.bool (decide ((l.length : Int) ≤ 100000))) A12 S3 (g_pick_t (b := (decide ((l.length : Int) > 700))) (by kernel_rfl) (decide_eq_true (by first | rfl | omega)) (by kernel_rfl)) rfl (fun ac A13 => ?_)
  refine s_one (.bool (decide ((l.length : Int) ≤ 100000))) A13 S3 (g_move (by kernel_rfl)) rfl (fun ac A14 => ?_)
  refine s_want (dj := 23) (b := (decide ((l.length : Int) ≤ 100000))) A14 (by kernel_rfl) (by kernel_rfl) (decide_eq_false (by first | rfl | omega)) ?_
  refine s_one (.string ⟨l.toArray⟩) A14 S3 (g_move (by kernel_rfl)) rfl (fun ac A15 => ?_)
  refine s_want (dj := 23) (b := (decide ((l.length : Int) ≤ 100000))) A15 (by kernel_rfl) (by kernel_rfl) (decide_eq_false (by first | rfl | omega)) ?_
  refine s_one (.int .i64 (l.length : Int)) A15 S3 (g_built (r := [(0, .string ⟨l.toArray⟩)]) (by kernel_rfl) (fun ty cs w => bl_str (l := l) Try.underlying9 ty cs w)) rfl (fun ac A16 => ?_)
  refine s_want (dj := 23) (b := (decide ((l.length : Int) ≤ 100000))) A16 (by kernel_rfl) (by kernel_rfl) (decide_eq_false (by first | rfl | omega)) ?_
  refine s_one (.bool (decide ((l.length : Int) > 100005))) A16 S3 (g_bin (u := .int .i64 (l.length : Int)) (k := .int .i64 100005) (by kernel_rfl) (by kernel_rfl) (fun _ => by kernel_rfl) (fun _ => by kernel_rfl)) rfl (fun ac A17 => ?_)
  refine s_one (.bool (decide ((l.length : Int) > 100005))) A17 S3 (g_pick_f (b := (decide ((l.length : Int) ≤ 100000))) (by kernel_rfl) (decide_eq_false (by first | rfl | omega)) (by kernel_rfl)) rfl (fun ac A18 => ?_)
  refine wpList_nil ?_
  refine n_then ?_
  refine c_f (b := (decide ((l.length : Int) > 100005))) A18 (by kernel_rfl) (decide_eq_false (by first | rfl | omega)) ?_
  refine wp_skip ?_
  refine n_then ?_
  refine wp_seq ?_
  refine wp_region_lit ?_
  refine s_one (.string ⟨l.toArray⟩) A18 S3 (g_move (by kernel_rfl)) rfl (fun ac A19 => ?_)
  refine s_call (fs := #[]) (cp := #[]) (r := [(0, .string ⟨l.toArray⟩)]) #[.string ⟨l.toArray⟩] (.tuple #[.slice none 0 0, .int .i64 0, .int .i64 8]) A19 S3 (FramesL_s l _ (by omega) (by omega)) Try.call30 (by kernel_rfl) (by kernel_rfl) (by kernel_rfl) rfl (fun ac wc A20 S21 => ?_)
  refine s_one (.tuple #[.slice none 0 0, .int .i64 0, .int .i64 8]) A20 S21 (g_move (by kernel_rfl)) rfl (fun ac A23 => ?_)
  refine s_one (.slice none 0 0) A23 S21 (g_extract (u := .tuple #[.slice none 0 0, .int .i64 0, .int .i64 8]) (by kernel_rfl) (fun _ => by kernel_rfl)) rfl (fun ac A24 => ?_)
  refine s_one (.int .i64 0) A24 S21 (g_extract (u := .tuple #[.slice none 0 0, .int .i64 0, .int .i64 8]) (by kernel_rfl) (fun _ => by kernel_rfl)) rfl (fun ac A25 => ?_)
  refine s_one (.int .i64 8) A25 S21 (g_extract (u := .tuple #[.slice none 0 0, .int .i64 0, .int .i64 8]) (by kernel_rfl) (fun _ => by kernel_rfl)) rfl (fun ac A26 => ?_)
  refine s_one (.slice none 0 0) A26 S21 (g_assign (by kernel_rfl)) rfl (fun ac A27 => ?_)
  refine s_one (.int .i64 0) A27 S21 (g_assign (by kernel_rfl)) rfl (fun ac A28 => ?_)
  refine s_one (.int .i64 8) A28 S21 (g_assign (by kernel_rfl)) rfl (fun ac A29 => ?_)
  refine wpList_nil ?_
  refine n_then ?_
  refine wp_seq ?_
  refine wp_seq ?_
  refine wp_region_lit ?_
  refine s_one (.string ⟨l.toArray⟩) A29 S21 (g_move (by kernel_rfl)) rfl (fun ac A30 => ?_)
  refine s_one (.int .i64 (l.length : Int)) A30 S21 (g_built (r := [(0, .string ⟨l.toArray⟩)]) (by kernel_rfl) (fun ty cs w => bl_str (l := l) Try.underlying9 ty cs w)) rfl (fun ac A31 => ?_)
  refine s_one (.bool (decide ((l.length : Int) > 100000))) A31 S21 (g_bin (u := .int .i64 (l.length : Int)) (k := .int .i64 100000) (by kernel_rfl) (by kernel_rfl) (fun _ => by kernel_rfl) (fun _ => by kernel_rfl)) rfl (fun ac A32 => ?_)
  refine wpList_nil ?_
  refine n_then ?_
  refine c_t (b := (decide ((l.length : Int) > 100000))) A32 (by kernel_rfl) (decide_eq_true (by first | rfl | omega)) ?_
  refine wp_seq ?_
  refine wp_region_lit ?_
  refine s_one (.int .i64 8) A32 S21 (g_move (by kernel_rfl)) rfl (fun ac A33 => ?_)
  refine s_one (.bool (decide (8 = 8))) A33 S21 (g_bin (u := .int .i64 8) (k := .int .i64 8) (by kernel_rfl) (by kernel_rfl) (fun _ => by kernel_rfl) b_eql) rfl (fun ac A34 => ?_)
  refine s_one (.bool (decide (8 = 8))) A34 S21 (g_move (by kernel_rfl)) rfl (fun ac A35 => ?_)
  refine s_want (dj := 39) (b := (decide (8 = 8))) A35 (by kernel_rfl) (by kernel_rfl) (by decide) ?_
  refine s_one (.slice none 0 0) A35 S21 (g_move (by kernel_rfl)) rfl (fun ac A36 => ?_)
  refine s_want (dj := 39) (b := (decide (8 = 8))) A36 (by kernel_rfl) (by kernel_rfl) (by decide) ?_
  refine s_one (.int .i64 0) A36 S21 (g_built (r := [(0, .slice none 0 0)]) (by kernel_rfl) (fun _ _ _ => by kernel_rfl)) rfl (fun ac A37 => ?_)
  refine s_want (dj := 39) (b := (decide (8 = 8))) A37 (by kernel_rfl) (by kernel_rfl) (by decide) ?_
  refine s_one (.bool (decide (0 = 0))) A37 S21 (g_bin (u := .int .i64 0) (k := .int .i64 0) (by kernel_rfl) (by kernel_rfl) (fun _ => by kernel_rfl) b_eql) rfl (fun ac A38 => ?_)
  refine s_one (.bool (decide (0 = 0))) A38 S21 (g_pick_t (b := (decide (8 = 8))) (by kernel_rfl) (by decide) (by kernel_rfl)) rfl (fun ac A39 => ?_)
  refine s_one (.bool (decide (0 = 0))) A39 S21 (g_move (by kernel_rfl)) rfl (fun ac A40 => ?_)
  refine s_want (dj := 44) (b := (decide (0 = 0))) A40 (by kernel_rfl) (by kernel_rfl) (by decide) ?_
  refine s_one (.int .i64 0) A40 S21 (g_move (by kernel_rfl)) rfl (fun ac A41 => ?_)
  refine s_want (dj := 44) (b := (decide (0 = 0))) A41 (by kernel_rfl) (by kernel_rfl) (by decide) ?_
  refine s_one (.bool (decide (0 = 0))) A41 S21 (g_bin (u := .int .i64 0) (k := .int .i64 0) (by kernel_rfl) (by kernel_rfl) (fun _ => by kernel_rfl) b_eql) rfl (fun ac A42 => ?_)
  refine s_one (.bool (decide (0 = 0))) A42 S21 (g_pick_t (b := (decide (0 = 0))) (by kernel_rfl) (by decide) (by kernel_rfl)) rfl (fun ac A43 => ?_)
  refine s_one (.bool (decide (0 = 0))) A43 S21 (g_assign (by kernel_rfl)) rfl (fun ac A44 => ?_)
  refine wpList_nil ?_
  refine n_then ?_
  refine wp_ret ?_
  refine r_then ?_
  refine fin1 (.bool (decide (0 = 0))) Try.results6 A44 S21 (rv_tmp (by kernel_rfl)) ⟨?_, S21.kp⟩
  exact congrArg (fun b => Ending.returned (Value.bool b)) (by decide)

set_option maxRecDepth 100000 in
set_option maxHeartbeats 400000 in
theorem frameReads_mid (l : List UInt8) (w0 : World) (hl : 700 < l.length) (hl2 : l.length ≤ 100000) :
    Calls Try.prog 6 #[.string ⟨l.toArray⟩] w0 fun e w' => e = .returned (.bool true) ∧ Below w0.heap.size w0 w' := by
  have S0 := St.start w0
  refine enter (n := 102) Try.func6 rfl rfl rfl (fun ac A0 => ?_)
  refine wp_seq ?_
  refine wp_region_lit ?_
  refine s_one (.bool false) A0 S0 (g_assign (by kernel_rfl)) rfl (fun ac A1 => ?_)
  refine wpList_nil ?_
  refine n_then ?_
  refine wp_seq ?_
  refine wp_seq ?_
  refine wp_region_lit ?_
  refine s_call (fs := #[]) (cp := #[]) (r := []) #[] (.bool true) A1 S0 (awake_any _) Try.call11 (by kernel_rfl) (by kernel_rfl) (by kernel_rfl) rfl (fun ac wc A2 S3 => ?_)
  refine s_one (.bool false) A2 S3 (g_un (u := .bool true) (by kernel_rfl) (fun _ => by kernel_rfl)) rfl (fun ac A5 => ?_)
  refine wpList_nil ?_
  refine n_then ?_
  refine c_f (b := false) A5 (by kernel_rfl) rfl ?_
  refine wp_skip ?_
  refine n_then ?_
  refine wp_seq ?_
  refine wp_seq ?_
  refine wp_region_lit ?_
  refine s_one (.string ⟨l.toArray⟩) A5 S3 (g_move (by kernel_rfl)) rfl (fun ac A6 => ?_)
  refine s_one (.int .i64 (l.length : Int)) A6 S3 (g_built (r := [(0, .string ⟨l.toArray⟩)]) (by kernel_rfl) (fun ty cs w => bl_str (l := l) Try.underlying9 ty cs w)) rfl (fun ac A7 => ?_)
  refine s_one (.bool (decide ((l.length : Int) > 700))) A7 S3 (g_bin (u := .int .i64 (l.length : Int)) (k := .int .i64 700) (by kernel_rfl) (by kernel_rfl) (fun _ => by kernel_rfl) (fun _ => by kernel_rfl)) rfl (fun ac A8 => ?_)
  refine s_one (.bool (decide ((l.length : Int) > 700))) A8 S3 (g_move (by kernel_rfl)) rfl (fun ac A9 => ?_)
  refine s_want (dj := 18) (b := (decide ((l.length : Int) > 700))) A9 (by kernel_rfl) (by kernel_rfl) (decide_eq_true (by first | rfl | omega)) ?_
  refine s_one (.string ⟨l.toArray⟩) A9 S3 (g_move (by kernel_rfl)) rfl (fun ac A10 => ?_)
  refine s_want (dj := 18) (b := (decide ((l.length : Int) > 700))) A10 (by kernel_rfl) (by kernel_rfl) (decide_eq_true (by first | rfl | omega)) ?_
  refine s_one (.int .i64 (l.length : Int)) A10 S3 (g_built (r := [(0, .string ⟨l.toArray⟩)]) (by kernel_rfl) (fun ty cs w => bl_str (l := l) Try.underlying9 ty cs w)) rfl (fun ac A11 => ?_)
  refine s_want (dj := 18) (b := (decide ((l.length : Int) > 700))) A11 (by kernel_rfl) (by kernel_rfl) (decide_eq_true (by first | rfl | omega)) ?_
  refine s_one (.bool (decide ((l.length : Int) ≤ 100000))) A11 S3 (g_bin (u := .int .i64 (l.length : Int)) (k := .int .i64 100000) (by kernel_rfl) (by kernel_rfl) (fun _ => by kernel_rfl) (fun _ => by kernel_rfl)) rfl (fun ac A12 => ?_)
  refine s_one (.bool (decide ((l.length : Int) ≤ 100000))) A12 S3 (g_pick_t (b := (decide ((l.length : Int) > 700))) (by kernel_rfl) (decide_eq_true (by first | rfl | omega)) (by kernel_rfl)) rfl (fun ac A13 => ?_)
  refine s_one (.bool (decide ((l.length : Int) ≤ 100000))) A13 S3 (g_move (by kernel_rfl)) rfl (fun ac A14 => ?_)
  refine s_not (dj := 23) (b := (decide ((l.length : Int) ≤ 100000))) A14 (by kernel_rfl) (by kernel_rfl) (decide_eq_true (by first | rfl | omega)) rfl (fun ac A15 => ?_)
  refine s_not (dj := 23) (b := (decide ((l.length : Int) ≤ 100000))) A15 (by kernel_rfl) (by kernel_rfl) (decide_eq_true (by first | rfl | omega)) rfl (fun ac A16 => ?_)
  refine s_not (dj := 23) (b := (decide ((l.length : Int) ≤ 100000))) A16 (by kernel_rfl) (by kernel_rfl) (decide_eq_true (by first | rfl | omega)) rfl (fun ac A17 => ?_)
  refine s_one (.bool true) A17 S3 (g_pick_t (b := (decide ((l.length : Int) ≤ 100000))) (by kernel_rfl) (decide_eq_true (by first | rfl | omega)) (by kernel_rfl)) rfl (fun ac A18 => ?_)
  refine wpList_nil ?_
  refine n_then ?_
  refine c_t (b := true) A18 (by kernel_rfl) rfl ?_
  refine wp_seq ?_
  refine wp_region_lit ?_
  refine s_one (.bool true) A18 S3 (g_assign (by kernel_rfl)) rfl (fun ac A19 => ?_)
  refine wpList_nil ?_
  refine n_then ?_
  refine wp_ret ?_
  refine r_then ?_
  refine fin1 (.bool true) Try.results6 A19 S3 (rv_tmp (by kernel_rfl)) ⟨?_, S3.kp⟩
  rfl

set_option maxRecDepth 100000 in
set_option maxHeartbeats 400000 in
theorem frameReads_huge (l : List UInt8) (w0 : World) (hl : 100005 < l.length) (hl2 : l.length ≤ 9223372036854775807) :
    Calls Try.prog 6 #[.string ⟨l.toArray⟩] w0 fun e w' => e = .returned (.bool true) ∧ Below w0.heap.size w0 w' := by
  have S0 := St.start w0
  refine enter (n := 102) Try.func6 rfl rfl rfl (fun ac A0 => ?_)
  refine wp_seq ?_
  refine wp_region_lit ?_
  refine s_one (.bool false) A0 S0 (g_assign (by kernel_rfl)) rfl (fun ac A1 => ?_)
  refine wpList_nil ?_
  refine n_then ?_
  refine wp_seq ?_
  refine wp_seq ?_
  refine wp_region_lit ?_
  refine s_call (fs := #[]) (cp := #[]) (r := []) #[] (.bool true) A1 S0 (awake_any _) Try.call11 (by kernel_rfl) (by kernel_rfl) (by kernel_rfl) rfl (fun ac wc A2 S3 => ?_)
  refine s_one (.bool false) A2 S3 (g_un (u := .bool true) (by kernel_rfl) (fun _ => by kernel_rfl)) rfl (fun ac A5 => ?_)
  refine wpList_nil ?_
  refine n_then ?_
  refine c_f (b := false) A5 (by kernel_rfl) rfl ?_
  refine wp_skip ?_
  refine n_then ?_
  refine wp_seq ?_
  refine wp_seq ?_
  refine wp_region_lit ?_
  refine s_one (.string ⟨l.toArray⟩) A5 S3 (g_move (by kernel_rfl)) rfl (fun ac A6 => ?_)
  refine s_one (.int .i64 (l.length : Int)) A6 S3 (g_built (r := [(0, .string ⟨l.toArray⟩)]) (by kernel_rfl) (fun ty cs w => bl_str (l := l) Try.underlying9 ty cs w)) rfl (fun ac A7 => ?_)
  refine s_one (.bool (decide ((l.length : Int) > 700))) A7 S3 (g_bin (u := .int .i64 (l.length : Int)) (k := .int .i64 700) (by kernel_rfl) (by kernel_rfl) (fun _ => by kernel_rfl) (fun _ => by kernel_rfl)) rfl (fun ac A8 => ?_)
  refine s_one (.bool (decide ((l.length : Int) > 700))) A8 S3 (g_move (by kernel_rfl)) rfl (fun ac A9 => ?_)
  refine s_want (dj := 18) (b := (decide ((l.length : Int) > 700))) A9 (by kernel_rfl) (by kernel_rfl) (decide_eq_true (by first | rfl | omega)) ?_
  refine s_one (.string ⟨l.toArray⟩) A9 S3 (g_move (by kernel_rfl)) rfl (fun ac A10 => ?_)
  refine s_want (dj := 18) (b := (decide ((l.length : Int) > 700))) A10 (by kernel_rfl) (by kernel_rfl) (decide_eq_true (by first | rfl | omega)) ?_
  refine s_one (.int .i64 (l.length : Int)) A10 S3 (g_built (r := [(0, .string ⟨l.toArray⟩)]) (by kernel_rfl) (fun ty cs w => bl_str (l := l) Try.underlying9 ty cs w)) rfl (fun ac A11 => ?_)
  refine s_want (dj := 18) (b := (decide ((l.length : Int) > 700))) A11 (by kernel_rfl) (by kernel_rfl) (decide_eq_true (by first | rfl | omega)) ?_
  refine s_one (.bool (decide ((l.length : Int) ≤ 100000))) A11 S3 (g_bin (u := .int .i64 (l.length : Int)) (k := .int .i64 100000) (by kernel_rfl) (by kernel_rfl) (fun _ => by kernel_rfl) (fun _ => by kernel_rfl)) rfl (fun ac A12 => ?_)
  refine s_one (.bool (decide ((l.length : Int) ≤ 100000))) A12 S3 (g_pick_t (b := (decide ((l.length : Int) > 700))) (by kernel_rfl) (decide_eq_true (by first | rfl | omega)) (by kernel_rfl)) rfl (fun ac A13 => ?_)
  refine s_one (.bool (decide ((l.length : Int) ≤ 100000))) A13 S3 (g_move (by kernel_rfl)) rfl (fun ac A14 => ?_)
  refine s_want (dj := 23) (b := (decide ((l.length : Int) ≤ 100000))) A14 (by kernel_rfl) (by kernel_rfl) (decide_eq_false (by first | rfl | omega)) ?_
  refine s_one (.string ⟨l.toArray⟩) A14 S3 (g_move (by kernel_rfl)) rfl (fun ac A15 => ?_)
  refine s_want (dj := 23) (b := (decide ((l.length : Int) ≤ 100000))) A15 (by kernel_rfl) (by kernel_rfl) (decide_eq_false (by first | rfl | omega)) ?_
  refine s_one (.int .i64 (l.length : Int)) A15 S3 (g_built (r := [(0, .string ⟨l.toArray⟩)]) (by kernel_rfl) (fun ty cs w => bl_str (l := l) Try.underlying9 ty cs w)) rfl (fun ac A16 => ?_)
  refine s_want (dj := 23) (b := (decide ((l.length : Int) ≤ 100000))) A16 (by kernel_rfl) (by kernel_rfl) (decide_eq_false (by first | rfl | omega)) ?_
  refine s_one (.bool (decide ((l.length : Int) > 100005))) A16 S3 (g_bin (u := .int .i64 (l.length : Int)) (k := .int .i64 100005) (by kernel_rfl) (by kernel_rfl) (fun _ => by kernel_rfl) (fun _ => by kernel_rfl)) rfl (fun ac A17 => ?_)
  refine s_one (.bool (decide ((l.length : Int) > 100005))) A17 S3 (g_pick_f (b := (decide ((l.length : Int) ≤ 100000))) (by kernel_rfl) (decide_eq_false (by first | rfl | omega)) (by kernel_rfl)) rfl (fun ac A18 => ?_)
  refine wpList_nil ?_
  refine n_then ?_
  refine c_t (b := (decide ((l.length : Int) > 100005))) A18 (by kernel_rfl) (decide_eq_true (by first | rfl | omega)) ?_
  refine wp_seq ?_
  refine wp_region_lit ?_
  refine s_one (.bool true) A18 S3 (g_assign (by kernel_rfl)) rfl (fun ac A19 => ?_)
  refine wpList_nil ?_
  refine n_then ?_
  refine wp_ret ?_
  refine r_then ?_
  refine fin1 (.bool true) Try.results6 A19 S3 (rv_tmp (by kernel_rfl)) ⟨?_, S3.kp⟩
  rfl

theorem TraceFrameReads_s (l : List UInt8) (w0 : World) (hl : l.length ≤ 9223372036854775807) : Calls Try.prog 6 #[.string ⟨l.toArray⟩] w0 fun e w' => e = .returned (.bool true) ∧ Below w0.heap.size w0 w' := by
  rcases Nat.lt_or_ge 700 l.length with h1 | h1
  · rcases Nat.lt_or_ge 100000 l.length with h2 | h2
    · rcases Nat.lt_or_ge 100005 l.length with h3 | h3
      · exact frameReads_huge l w0 h3 hl
      · exact frameReads_big l w0 h2 h3
    · exact frameReads_mid l w0 h1 h2
  · exact frameReads_small l w0 h1

end Go.Proofs.Ytcijkniijomcjaa
