/- The frame with bytes. -/
import Derived.Test.YtcijkniijomcjaaBy2
namespace Go.Proofs.Ytcijkniijomcjaa
open Go.RowKit Go.Cpl

set_option maxRecDepth 100000 in
set_option maxHeartbeats 400000 in
theorem small_s (n m : Int) (w0 : World) (h0 : 0 ≤ m) (h1 : m ≤ 1000000000000) :
    Calls Try.prog 81 #[.int .i64 n, .int .i64 m] w0 fun e w' => e = .returned (.bool (inB n (-m) m)) ∧ Below w0.heap.size w0 w' := by
  have S0 := St.start w0
  refine enter (n := 10) Try.func81 rfl rfl rfl (fun ac A0 => ?_)
  refine wp_seq ?_
  refine wp_region_lit ?_
  refine s_one (.bool false) A0 S0 (g_assign (by kernel_rfl)) rfl (fun ac A1 => ?_)
  refine wpList_nil ?_
  refine n_then ?_
  refine wp_seq ?_
  refine wp_region_lit ?_
  refine s_one (.int .i64 n) A1 S0 (g_move (by kernel_rfl)) rfl (fun ac A2 => ?_)
  refine s_one (.int .i64 m) A2 S0 (g_move (by kernel_rfl)) rfl (fun ac A3 => ?_)
  refine s_one (.int .i64 (-m)) A3 S0 (g_un (u := .int .i64 m) (by kernel_rfl) (u_neg (by omega))) rfl (fun ac A4 => ?_)
  refine s_one (.int .i64 m) A4 S0 (g_move (by kernel_rfl)) rfl (fun ac A5 => ?_)
  refine s_call (fs := #[]) (cp := #[]) (r := [(0, .int .i64 n), (0, .int .i64 (-m)), (0, .int .i64 m)]) #[.int .i64 n, .int .i64 (-m), .int .i64 m] (.bool (inB n (-m) m)) A5 S0 (sameB (within_any n (-m) m _)) Try.call60 (by kernel_rfl) (by kernel_rfl) (by kernel_rfl) rfl (fun ac wc A6 S7 => ?_)
  refine s_one (.bool (inB n (-m) m)) A6 S7 (g_assign (by kernel_rfl)) rfl (fun ac A9 => ?_)
  refine wpList_nil ?_
  refine n_then ?_
  refine wp_ret ?_
  refine fin1 (.bool (inB n (-m) m)) Try.results81 A9 S7 (rv_tmp (by kernel_rfl)) ⟨?_, S7.kp⟩
  rfl

/-- A sample of a frame. -/
def pfS (l : Bs) (k : Nat) : Int := w16 (whI (subU l 8 (l.length - 10)) (k * 2) 2)
def pfL (l : Bs) (n : Nat) : List Int := (List.range n).map (pfS l)
def pfBad (l : Bs) : Bool := (List.range (64 * (nthU l 3 * nthU l 3))).any fun k => !inB (pfS l k) (-2047) 2047
/-- What is wrong with the bytes of a frame. -/
def pfZ (l : Bs) : Int :=
  if l.length < 8 ∨ ¬ subU l 0 2 = [67, 80] then 7 else if ¬ (nthU l 2 : Int) = 1 then 15 else if inB (nthU l 3 : Int) 1 16 = false then 2 else
  if ¬ l.length = 10 + 128 * (nthU l 3 * nthU l 3) then 10 else if ¬ ckU (subU l 0 (l.length - 2)) (subU l 0 (l.length - 2)).length = whI l (l.length - 2) 2 then 19 else if inB (w32 (whI l 4 4)) (-1000000000) 1000000000 = false then 2 else if pfBad l = true then 2 else 0
def pfP (l : Bs) : Int := if pfZ l = 0 then w32 (whI l 4 4) else 0
def pfE (l : Bs) : Int := if pfZ l = 0 then (nthU l 3 : Int) else 0
def pfW (l : Bs) : List Nat := if pfZ l = 0 then fw (pfL l (64 * (nthU l 3 * nthU l 3))) else []
theorem pf_err {l : Bs} {z : Int} (h : pfZ l = z) (hz : ¬ z = 0) : pfP l = 0 ∧ pfE l = 0 ∧ pfW l = [] := by
  subst h; exact ⟨if_neg hz, if_neg hz, if_neg hz⟩
theorem pf_ok {l : Bs} (h : pfZ l = 0) : pfP l = w32 (whI l 4 4) ∧ pfE l = (nthU l 3 : Int) ∧ pfW l = fw (pfL l (64 * (nthU l 3 * nthU l 3))) := ⟨if_pos h, if_pos h, if_pos h⟩
theorem pfZ_1 {l : Bs} (h : l.length < 8 ∨ ¬ subU l 0 2 = [67, 80]) : pfZ l = 7 := if_pos h
theorem pfZ_2 {l : Bs} (h1 : 8 ≤ l.length) (h2 : subU l 0 2 = [67, 80]) (h3 : ¬ (nthU l 2 : Int) = 1) : pfZ l = 15 := by
  unfold pfZ; rw [if_neg (by intro h; rcases h with h | h; omega; exact h h2), if_pos h3]
theorem pfZ_3 {l : Bs} (h1 : 8 ≤ l.length) (h2 : subU l 0 2 = [67, 80]) (h3 : (nthU l 2 : Int) = 1) (h4 : inB (nthU l 3 : Int) 1 16 = false) : pfZ l = 2 := by
  unfold pfZ; rw [if_neg (by intro h; rcases h with h | h; omega; exact h h2), if_neg (fun h => h h3), if_pos h4]
theorem pfZ_4 {l : Bs} (h1 : 8 ≤ l.length) (h2 : subU l 0 2 = [67, 80]) (h3 : (nthU l 2 : Int) = 1) (h4 : inB (nthU l 3 : Int) 1 16 = true) (h5 : ¬ l.length = 10 + 128 * (nthU l 3 * nthU l 3)) : pfZ l = 10 := by
  unfold pfZ; rw [if_neg (by intro h; rcases h with h | h; omega; exact h h2), if_neg (fun h => h h3), if_neg (by rw [h4]; decide), if_pos h5]
theorem pfZ_5 {l : Bs} (h1 : 8 ≤ l.length) (h2 : subU l 0 2 = [67, 80]) (h3 : (nthU l 2 : Int) = 1) (h4 : inB (nthU l 3 : Int) 1 16 = true) (h5 : l.length = 10 + 128 * (nthU l 3 * nthU l 3)) (h6 : ¬ ckU (subU l 0 (l.length - 2)) (subU l 0 (l.length - 2)).length = whI l (l.length - 2) 2) : pfZ l = 19 := by
  unfold pfZ; rw [if_neg (by intro h; rcases h with h | h; omega; exact h h2), if_neg (fun h => h h3), if_neg (by rw [h4]; decide), if_neg (fun h => h h5), if_pos h6]
theorem pfZ_6 {l : Bs} (h1 : 8 ≤ l.length) (h2 : subU l 0 2 = [67, 80]) (h3 : (nthU l 2 : Int) = 1) (h4 : inB (nthU l 3 : Int) 1 16 = true) (h5 : l.length = 10 + 128 * (nthU l 3 * nthU l 3)) (h6 : ckU (subU l 0 (l.length - 2)) (subU l 0 (l.length - 2)).length = whI l (l.length - 2) 2) (h7 : inB (w32 (whI l 4 4)) (-1000000000) 1000000000 = false) : pfZ l = 2 := by
  unfold pfZ; rw [if_neg (by intro h; rcases h with h | h; omega; exact h h2), if_neg (fun h => h h3), if_neg (by rw [h4]; decide), if_neg (fun h => h h5), if_neg (fun h => h h6), if_pos h7]
theorem pfZ_7 {l : Bs} (h1 : 8 ≤ l.length) (h2 : subU l 0 2 = [67, 80]) (h3 : (nthU l 2 : Int) = 1) (h4 : inB (nthU l 3 : Int) 1 16 = true) (h5 : l.length = 10 + 128 * (nthU l 3 * nthU l 3)) (h6 : ckU (subU l 0 (l.length - 2)) (subU l 0 (l.length - 2)).length = whI l (l.length - 2) 2) (h7 : inB (w32 (whI l 4 4)) (-1000000000) 1000000000 = true) : pfZ l = if pfBad l = true then 2 else 0 := by
  unfold pfZ; rw [if_neg (by intro h; rcases h with h | h; omega; exact h h2), if_neg (fun h => h h3), if_neg (by rw [h4]; decide), if_neg (fun h => h h5), if_neg (fun h => h h6), if_neg (by rw [h7]; decide)]
theorem pfBad_y {l : Bs} {k : Nat} (hk : k < 64 * (nthU l 3 * nthU l 3)) (h : inB (pfS l k) (-2047) 2047 = false) : pfBad l = true := by
  unfold pfBad; rw [List.any_eq_true]; exact ⟨k, List.mem_range.2 hk, by rw [h]; rfl⟩
theorem pfBad_n {l : Bs} (h : ∀ k, k < 64 * (nthU l 3 * nthU l 3) → inB (pfS l k) (-2047) 2047 = true) : pfBad l = false := by
  unfold pfBad; rw [List.any_eq_false]; intro k hk; rw [h k (List.mem_range.1 hk)]; decide
theorem pf_snoc (l : Bs) (k : Nat) : rowF (fw (pfL l k)) ++ [.float .f32 (floatOfInt .f32 (pfS l k))] = rowF (fw (pfL l (k + 1))) := by simp [pfL, List.range_succ, fw, rowF]
theorem pf_snoc2 (l : Bs) {k m : Nat} (hm : m = k + 1) : rowF (fw (pfL l k)) ++ [.float .f32 (floatOfInt .f32 (w16 (whI (subU l 8 (l.length - 10)) (k * 2) 2)))] = rowF (fw (pfL l m)) := by
  subst hm; exact pf_snoc l k
theorem all_snoc {l : Bs} {pre : List Nat} {y : Nat} (h : ∀ k, k < pre.length → inB (pfS l k) (-2047) 2047 = true) (hk : inB (w16 (whI (subU l 8 (l.length - 10)) (pre.length * 2) 2)) (-2047) 2047 = true) : ∀ k, k < (pre ++ [y]).length → inB (pfS l k) (-2047) 2047 = true := by
  intro k hk2
  rw [List.length_append, List.length_cons, List.length_nil] at hk2
  rcases Nat.lt_or_ge k pre.length with q | q
  · exact h k q
  · obtain rfl : k = pre.length := by omega
    exact hk
theorem pre7 {l : Bs} (h : (decide ((l.length : Int) < 8) || !decide (subU l 0 2 = [67, 80])) = true) : l.length < 8 ∨ ¬ subU l 0 2 = [67, 80] := by
  rw [Bool.or_eq_true, decide_eq_true_iff, Bool.not_eq_true', decide_eq_false_iff_not] at h
  rcases h with h | h
  · exact .inl (by omega)
  · exact .inr h
theorem pfL_length (l : Bs) (k : Nat) : (pfL l k).length = k := by simp [pfL]

set_option maxRecDepth 100000 in
set_option maxHeartbeats 400000 in
theorem ParseFrame_s (l : List UInt8) (w0 : World) (hl : l.length ≤ 150000) :
    Calls Try.prog 31 #[.string ⟨l.toArray⟩] w0 fun e w' => ∃ v, e = .returned (.tuple #[.agg #[.int .i64 (pfP l), .int .i64 (pfE l), v], .int .i64 (pfZ l)]) ∧ Below w0.heap.size w0 w' ∧ w'.ownsRow w0.heap.size 36 1 v ((pfW l).length) (rowF (pfW l)) := by
  have S0 := St.start w0
  have hq3 := nthU_lt l 3
  have hq4 := sq_le (show nthU l 3 ≤ 255 by omega)
  refine enterM (n := 92) Try.func31 rfl rfl rfl (fun ac A0 => ?_)
  refine wp_seq ?_
  refine wp_region_lit ?_
  refine s_alloc (#[.int .i64 0, .int .i64 0, .slice none 0 0]) A0 S0 (by kernel_rfl) rfl (fun g3 ac wc A1 S2 => ?_)
  refine s_alloc (#[.int .i64 0]) A1 S2 (by kernel_rfl) rfl (fun g6 ac wc A4 S5 => ?_)
  refine wpList_nil ?_
  refine n_then ?_
  refine wp_seq ?_
  refine wp_seq ?_
  refine c_cut (fun ac wc => Fr 92 ac [(17, .bool ((decide ((l.length : Int) < 8)) || (!(decide (subU l 0 2 = [67, 80]))))), (0, .string ⟨l.toArray⟩), (2, .pointer (some ⟨g3, 0, none⟩)), (3, .pointer (some ⟨g6, 0, none⟩))] ∧ St w0 [⟨g6, 32, #[.int .i64 0], true⟩, ⟨g3, 66, #[.int .i64 0, .int .i64 0, .slice none 0 0], true⟩] [] wc) ?_ ?_
  · refine wp_region_lit ?_
    refine s_one (.string ⟨l.toArray⟩) A4 S5 (g_move (by kernel_rfl)) rfl (fun ac A7 => ?_)
    refine s_one (.int .i64 (l.length : Int)) A7 S5 (g_built (r := [(0, .string ⟨l.toArray⟩)]) (by kernel_rfl) (fun ty cs w => bl_str (l := l) Try.underlying9 ty cs w)) rfl (fun ac A8 => ?_)
    refine s_one (.bool (decide ((l.length : Int) < 8))) A8 S5 (g_bin (u := .int .i64 (l.length : Int)) (k := .int .i64 8) (by kernel_rfl) (by kernel_rfl) (fun _ => by kernel_rfl) (fun _ => by kernel_rfl)) rfl (fun ac A9 => ?_)
    refine s_one (.bool (decide ((l.length : Int) < 8))) A9 S5 (g_move (by kernel_rfl)) rfl (fun ac A10 => ?_)
    refine by_bool (decide ((l.length : Int) < 8)) (fun h11 => ?_) (fun h11 => ?_)
    · have p12 := of_decide_eq_true h11
      refine s_not (dj := 13) (b := (decide ((l.length : Int) < 8))) A10 (by kernel_rfl) (by kernel_rfl) h11 rfl (fun ac A13 => ?_)
      refine s_not (dj := 13) (b := (decide ((l.length : Int) < 8))) A13 (by kernel_rfl) (by kernel_rfl) h11 rfl (fun ac A14 => ?_)
      refine s_not (dj := 13) (b := (decide ((l.length : Int) < 8))) A14 (by kernel_rfl) (by kernel_rfl) h11 rfl (fun ac A15 => ?_)
      refine s_one (.bool true) A15 S5 (g_pick_t (b := (decide ((l.length : Int) < 8))) (by kernel_rfl) h11 (by kernel_rfl)) rfl (fun ac A16 => ?_)
      refine wpList_nil ?_
      refine n_then ?_
      exact ⟨(A16.slot (A16.slot (A16.slot (A16.slot A16.nil (v := .pointer (some ⟨g6, 0, none⟩)) (by kernel_rfl) rfl) (v := .pointer (some ⟨g3, 0, none⟩)) (by kernel_rfl) rfl) (v := .string ⟨l.toArray⟩) (by kernel_rfl) rfl) (v := .bool true) (by kernel_rfl) (congrArg Value.bool (b_ot1 h11).symm)), S5.sub sub_all sub_all⟩
    · have p17 := of_decide_eq_false h11
      refine s_want (dj := 13) (b := (decide ((l.length : Int) < 8))) A10 (by kernel_rfl) (by kernel_rfl) h11 ?_
      refine s_one (.string ⟨l.toArray⟩) A10 S5 (g_move (by kernel_rfl)) rfl (fun ac A18 => ?_)
      refine s_want (dj := 13) (b := (decide ((l.length : Int) < 8))) A18 (by kernel_rfl) (by kernel_rfl) h11 ?_
      refine s_call (fs := #[]) (cp := #[]) (r := [(0, .string ⟨l.toArray⟩), (0, .string ⟨([67, 80] : List UInt8).toArray⟩)]) #[.string ⟨l.toArray⟩, .string ⟨([67, 80] : List UInt8).toArray⟩] (.bool (decide (subU l 0 2 = [67, 80]))) A18 S5 (hasPrefix_s l _ (by omega)) Try.call78 (by kernel_rfl) (by kernel_rfl) (by kernel_rfl) rfl (fun ac wc A19 S20 => ?_)
      refine s_want (dj := 13) (b := (decide ((l.length : Int) < 8))) A19 (by kernel_rfl) (by kernel_rfl) h11 ?_
      refine s_one (.bool (!(decide (subU l 0 2 = [67, 80])))) A19 S20 (g_un (u := .bool (decide (subU l 0 2 = [67, 80]))) (by kernel_rfl) (fun _ => by kernel_rfl)) rfl (fun ac A22 => ?_)
      refine s_one (.bool (!(decide (subU l 0 2 = [67, 80])))) A22 S20 (g_pick_f (b := (decide ((l.length : Int) < 8))) (by kernel_rfl) h11 (by kernel_rfl)) rfl (fun ac A23 => ?_)
      refine wpList_nil ?_
      refine n_then ?_
      exact ⟨(A23.slot (A23.slot (A23.slot (A23.slot A23.nil (v := .pointer (some ⟨g6, 0, none⟩)) (by kernel_rfl) rfl) (v := .pointer (some ⟨g3, 0, none⟩)) (by kernel_rfl) rfl) (v := .string ⟨l.toArray⟩) (by kernel_rfl) rfl) (v := .bool (!(decide (subU l 0 2 = [67, 80])))) (by kernel_rfl) (congrArg Value.bool (b_or_f h11 (Eq.refl (!(decide (subU l 0 2 = [67, 80]))))).symm)), S20.sub sub_all sub_all⟩
  · rintro ac wc ⟨A24, S25⟩
    refine n_then ?_
    refine c_ifb (b := ((decide ((l.length : Int) < 8)) || (!(decide (subU l 0 2 = [67, 80]))))) A24 (by kernel_rfl) (fun h26 => ?_) (fun h26 => ?_)
    · refine wp_seq ?_
      refine wp_region_lit ?_
      refine s_one (.agg #[.int .i64 0, .int .i64 0, .slice none 0 0]) A24 S25 (g_build (r := []) (by kernel_rfl) (fun _ => by kernel_rfl)) rfl (fun ac A27 => ?_)
      refine s_store (g := g3) (off := 0) (v := .agg #[.int .i64 0, .int .i64 0, .slice none 0 0]) 1 (#[.int .i64 0, .int .i64 0, .slice none 0 0]) A27 S25 (by kernel_rfl) (by kernel_rfl) rfl (by kernel_rfl) (fun wc S29 => ?_)
      refine s_store (g := g6) (off := 0) (v := .int .i64 7) 0 (#[.int .i64 7]) A27 S29 (by kernel_rfl) (by kernel_rfl) rfl (by kernel_rfl) (fun wc S32 => ?_)
      refine wpList_nil ?_
      refine n_then ?_
      refine wp_ret ?_
      refine r_then ?_
      refine m_ret0 A27 ?_
      have S34 := S32.nilRow 36 1
      refine fin2 (.agg #[.int .i64 0, .int .i64 0, .slice none 0 0]) (.int .i64 7) Try.results31 A27 S34 (rv_cell (g := g3) (off := 0) 1 (by kernel_rfl) rfl (by kernel_rfl)) (rv_cell (g := g6) (off := 0) 0 (by kernel_rfl) rfl (by kernel_rfl)) ?_
      have bw := S34.kp
      have ow := S34.row 0 rfl
      have ez := pfZ_1 (l := l) (pre7 h26)
      obtain ⟨e1, e2, e3⟩ := pf_err ez (by decide)
      rw [e1, e2, e3, ez]
      exact ⟨_, rfl, bw, ow⟩
    · have h35 := (Bool.or_eq_false_iff.1 h26).1
      have p36 := of_decide_eq_false h35
      have h37 := (Bool.or_eq_false_iff.1 h26).2
      have h38 : decide (subU l 0 2 = [67, 80]) = true := by simpa using h37
      have p39 := of_decide_eq_true h38
      refine wp_skip ?_
      refine n_then ?_
      refine wp_seq ?_
      refine wp_region_lit ?_
      refine s_one (.string ⟨l.toArray⟩) A24 S25 (g_move (by kernel_rfl)) rfl (fun ac A40 => ?_)
      refine s_one (.int .u8 (nthU l 3 : Int)) A40 S25 (g_indexv (u := .string ⟨l.toArray⟩) (k := .int .i64 3) (by kernel_rfl) (by kernel_rfl) (ix_str (l := l) 3 Try.underlying9 (by omega) (by omega))) rfl (fun ac A41 => ?_)
      refine s_one (.int .i64 (nthU l 3 : Int)) A41 S25 (g_conv (u := .int .u8 (nthU l 3 : Int)) (by kernel_rfl) (conv_u8 Try.underlying5 Try.underlying3 ⟨by omega, by have h9 := nthU_lt l 3; omega⟩)) rfl (fun ac A42 => ?_)
      refine s_one (.int .i64 (nthU l 3 : Int)) A42 S25 (g_assign (by kernel_rfl)) rfl (fun ac A43 => ?_)
      refine wpList_nil ?_
      refine n_then ?_
      refine wp_seq ?_
      refine wp_block ?_
      refine wp_seq ?_
      refine wp_region_lit ?_
      refine s_one (.string ⟨l.toArray⟩) A43 S25 (g_move (by kernel_rfl)) rfl (fun ac A44 => ?_)
      refine s_one (.int .u8 (nthU l 2 : Int)) A44 S25 (g_indexv (u := .string ⟨l.toArray⟩) (k := .int .i64 2) (by kernel_rfl) (by kernel_rfl) (ix_str (l := l) 2 Try.underlying9 (by omega) (by omega))) rfl (fun ac A45 => ?_)
      refine s_one (.bool (decide ((nthU l 2 : Int) ≠ 1))) A45 S25 (g_bin (u := .int .u8 (nthU l 2 : Int)) (k := .int .u8 1) (by kernel_rfl) (by kernel_rfl) (fun _ => by kernel_rfl) b_neq) rfl (fun ac A46 => ?_)
      refine s_one (.bool (decide ((nthU l 2 : Int) ≠ 1))) A46 S25 (g_assign (by kernel_rfl)) rfl (fun ac A47 => ?_)
      refine wpList_nil ?_
      refine n_then ?_
      refine c_ifb (b := (decide ((nthU l 2 : Int) ≠ 1))) A47 (by kernel_rfl) (fun h48 => ?_) (fun h48 => ?_)
      · have p49 := of_decide_eq_true h48
        refine wp_seq ?_
        refine wp_region_lit ?_
        refine s_one (.agg #[.int .i64 0, .int .i64 0, .slice none 0 0]) A47 S25 (g_build (r := []) (by kernel_rfl) (fun _ => by kernel_rfl)) rfl (fun ac A50 => ?_)
        refine s_store (g := g3) (off := 0) (v := .agg #[.int .i64 0, .int .i64 0, .slice none 0 0]) 1 (#[.int .i64 0, .int .i64 0, .slice none 0 0]) A50 S25 (by kernel_rfl) (by kernel_rfl) rfl (by kernel_rfl) (fun wc S52 => ?_)
        refine s_store (g := g6) (off := 0) (v := .int .i64 15) 0 (#[.int .i64 15]) A50 S52 (by kernel_rfl) (by kernel_rfl) rfl (by kernel_rfl) (fun wc S55 => ?_)
        refine wpList_nil ?_
        refine n_then ?_
        refine wp_ret ?_
        refine r_block ?_
        refine r_then ?_
        refine m_ret0 A50 ?_
        have S57 := S55.nilRow 36 1
        refine fin2 (.agg #[.int .i64 0, .int .i64 0, .slice none 0 0]) (.int .i64 15) Try.results31 A50 S57 (rv_cell (g := g3) (off := 0) 1 (by kernel_rfl) rfl (by kernel_rfl)) (rv_cell (g := g6) (off := 0) 0 (by kernel_rfl) rfl (by kernel_rfl)) ?_
        have bw := S57.kp
        have ow := S57.row 0 rfl
        have ez := pfZ_2 (l := l) (by omega) p39 p49
        obtain ⟨e1, e2, e3⟩ := pf_err ez (by decide)
        rw [e1, e2, e3, ez]
        exact ⟨_, rfl, bw, ow⟩
      · have p58 := of_decide_eq_false h48
        refine wp_seq ?_
        refine wp_region_lit ?_
        refine s_one (.int .i64 (nthU l 3 : Int)) A47 S25 (g_move (by kernel_rfl)) rfl (fun ac A59 => ?_)
        refine s_call (fs := #[]) (cp := #[]) (r := [(0, .int .i64 (nthU l 3 : Int)), (0, .int .i64 1), (0, .int .i64 16)]) #[.int .i64 (nthU l 3 : Int), .int .i64 1, .int .i64 16] (.bool (inB (nthU l 3 : Int) 1 16)) A59 S25 (sameB (within_any (nthU l 3 : Int) 1 16 _)) Try.call60 (by kernel_rfl) (by kernel_rfl) (by kernel_rfl) rfl (fun ac wc A60 S61 => ?_)
        refine s_one (.bool (!(inB (nthU l 3 : Int) 1 16))) A60 S61 (g_un (u := .bool (inB (nthU l 3 : Int) 1 16)) (by kernel_rfl) (fun _ => by kernel_rfl)) rfl (fun ac A63 => ?_)
        refine s_one (.bool (!(inB (nthU l 3 : Int) 1 16))) A63 S61 (g_assign (by kernel_rfl)) rfl (fun ac A64 => ?_)
        refine wpList_nil ?_
        refine n_then ?_
        refine c_ifb (b := (!(inB (nthU l 3 : Int) 1 16))) A64 (by kernel_rfl) (fun h65 => ?_) (fun h65 => ?_)
        · have h66 : inB (nthU l 3 : Int) 1 16 = false := by simpa using h65
          refine wp_seq ?_
          refine wp_region_lit ?_
          refine s_one (.agg #[.int .i64 0, .int .i64 0, .slice none 0 0]) A64 S61 (g_build (r := []) (by kernel_rfl) (fun _ => by kernel_rfl)) rfl (fun ac A67 => ?_)
          refine s_store (g := g3) (off := 0) (v := .agg #[.int .i64 0, .int .i64 0, .slice none 0 0]) 1 (#[.int .i64 0, .int .i64 0, .slice none 0 0]) A67 S61 (by kernel_rfl) (by kernel_rfl) rfl (by kernel_rfl) (fun wc S69 => ?_)
          refine s_store (g := g6) (off := 0) (v := .int .i64 2) 0 (#[.int .i64 2]) A67 S69 (by kernel_rfl) (by kernel_rfl) rfl (by kernel_rfl) (fun wc S72 => ?_)
          refine wpList_nil ?_
          refine n_then ?_
          refine wp_ret ?_
          refine r_block ?_
          refine r_then ?_
          refine m_ret0 A67 ?_
          have S74 := S72.nilRow 36 1
          refine fin2 (.agg #[.int .i64 0, .int .i64 0, .slice none 0 0]) (.int .i64 2) Try.results31 A67 S74 (rv_cell (g := g3) (off := 0) 1 (by kernel_rfl) rfl (by kernel_rfl)) (rv_cell (g := g6) (off := 0) 0 (by kernel_rfl) rfl (by kernel_rfl)) ?_
          have bw := S74.kp
          have ow := S74.row 0 rfl
          have ez := pfZ_3 (l := l) (by omega) p39 (by omega) h66
          obtain ⟨e1, e2, e3⟩ := pf_err ez (by decide)
          rw [e1, e2, e3, ez]
          exact ⟨_, rfl, bw, ow⟩
        · have h75 : inB (nthU l 3 : Int) 1 16 = true := by simpa using h65
          refine wp_seq ?_
          refine wp_region_lit ?_
          refine s_one (.string ⟨l.toArray⟩) A64 S61 (g_move (by kernel_rfl)) rfl (fun ac A76 => ?_)
          refine s_one (.int .i64 (l.length : Int)) A76 S61 (g_built (r := [(0, .string ⟨l.toArray⟩)]) (by kernel_rfl) (fun ty cs w => bl_str (l := l) Try.underlying9 ty cs w)) rfl (fun ac A77 => ?_)
          refine s_one (.int .i64 (nthU l 3 : Int)) A77 S61 (g_move (by kernel_rfl)) rfl (fun ac A78 => ?_)
          refine s_call (fs := #[]) (cp := #[]) (r := [(0, .int .i64 (nthU l 3 : Int))]) #[.int .i64 (nthU l 3 : Int)] (.int .i64 ((10 + 128 * ((nthU l 3) * (nthU l 3)) : Nat) : Int)) A78 S61 (frameSize_s (nthU l 3) _ (by have h9 := nthU_lt l 3; omega)) Try.call77 (by kernel_rfl) (by kernel_rfl) (by kernel_rfl) rfl (fun ac wc A79 S80 => ?_)
          refine s_one (.bool (decide ((l.length : Int) ≠ ((10 + 128 * ((nthU l 3) * (nthU l 3)) : Nat) : Int)))) A79 S80 (g_bin (u := .int .i64 (l.length : Int)) (k := .int .i64 ((10 + 128 * ((nthU l 3) * (nthU l 3)) : Nat) : Int)) (by kernel_rfl) (by kernel_rfl) (fun _ => by kernel_rfl) b_neq) rfl (fun ac A82 => ?_)
          refine s_one (.bool (decide ((l.length : Int) ≠ ((10 + 128 * ((nthU l 3) * (nthU l 3)) : Nat) : Int)))) A82 S80 (g_assign (by kernel_rfl)) rfl (fun ac A83 => ?_)
          refine wpList_nil ?_
          refine n_then ?_
          refine c_ifb (b := (decide ((l.length : Int) ≠ ((10 + 128 * ((nthU l 3) * (nthU l 3)) : Nat) : Int)))) A83 (by kernel_rfl) (fun h84 => ?_) (fun h84 => ?_)
          · have p85 := of_decide_eq_true h84
            refine wp_seq ?_
            refine wp_region_lit ?_
            refine s_one (.agg #[.int .i64 0, .int .i64 0, .slice none 0 0]) A83 S80 (g_build (r := []) (by kernel_rfl) (fun _ => by kernel_rfl)) rfl (fun ac A86 => ?_)
            refine s_store (g := g3) (off := 0) (v := .agg #[.int .i64 0, .int .i64 0, .slice none 0 0]) 1 (#[.int .i64 0, .int .i64 0, .slice none 0 0]) A86 S80 (by kernel_rfl) (by kernel_rfl) rfl (by kernel_rfl) (fun wc S88 => ?_)
            refine s_store (g := g6) (off := 0) (v := .int .i64 10) 0 (#[.int .i64 10]) A86 S88 (by kernel_rfl) (by kernel_rfl) rfl (by kernel_rfl) (fun wc S91 => ?_)
            refine wpList_nil ?_
            refine n_then ?_
            refine wp_ret ?_
            refine r_block ?_
            refine r_then ?_
            refine m_ret0 A86 ?_
            have S93 := S91.nilRow 36 1
            refine fin2 (.agg #[.int .i64 0, .int .i64 0, .slice none 0 0]) (.int .i64 10) Try.results31 A86 S93 (rv_cell (g := g3) (off := 0) 1 (by kernel_rfl) rfl (by kernel_rfl)) (rv_cell (g := g6) (off := 0) 0 (by kernel_rfl) rfl (by kernel_rfl)) ?_
            have bw := S93.kp
            have ow := S93.row 0 rfl
            have ez := pfZ_4 (l := l) (by omega) p39 (by omega) h75 (by omega)
            obtain ⟨e1, e2, e3⟩ := pf_err ez (by decide)
            rw [e1, e2, e3, ez]
            exact ⟨_, rfl, bw, ow⟩
          · have p94 := of_decide_eq_false h84
            refine wp_skip ?_
            refine n_block ?_
            refine n_then ?_
            refine wp_seq ?_
            refine r_begin (w0 := w0) (by kernel_rfl) (S80.sub sub_all sub_all) (fun wc T95 B96 => ?_)
            have S97 := S80.kept B96
            refine r_take 0 (.string ⟨l.toArray⟩) A83 T95 (g_move (by kernel_rfl)) rfl rfl rfl (pf_then pf_mPost) (by kernel_rfl) (fun ac A98 => ?_)
            refine r_take 1 (.string ⟨l.toArray⟩) A98 T95 (g_move (by kernel_rfl)) rfl rfl rfl (pf_then pf_mPost) (by kernel_rfl) (fun ac A99 => ?_)
            refine r_take 2 (.int .i64 (l.length : Int)) A99 T95 (g_built (r := [(0, .string ⟨l.toArray⟩)]) (by kernel_rfl) (fun ty cs w => bl_str (l := l) Try.underlying9 ty cs w)) rfl rfl rfl (pf_then pf_mPost) (by kernel_rfl) (fun ac A100 => ?_)
            refine r_take 3 (.int .i64 ((l.length : Int) - 2)) A100 T95 (g_bin (u := .int .i64 (l.length : Int)) (k := .int .i64 2) (by kernel_rfl) (by kernel_rfl) (fun _ => by kernel_rfl) (b_sub (by omega))) rfl rfl rfl (pf_then pf_mPost) (by kernel_rfl) (fun ac A101 => ?_)
            refine r_take 4 (.string ⟨(subU l 0 (l.length - 2)).toArray⟩) A101 T95 (g_slice (u := .string ⟨l.toArray⟩) (lo' := none) (hi' := (some (.int .i64 ((l.length : Int) - 2)))) (mx' := none) (by kernel_rfl) (by kernel_rfl) (by kernel_rfl) (by kernel_rfl) (sl_strH (l := l) (h := l.length - 2) Try.underlying9 (by omega) (by omega))) rfl rfl rfl (pf_then pf_mPost) (by kernel_rfl) (fun ac A102 => ?_)
            refine r_take 5 (.string ⟨l.toArray⟩) A102 T95 (g_move (by kernel_rfl)) rfl rfl rfl (pf_then pf_mPost) (by kernel_rfl) (fun ac A103 => ?_)
            refine r_take 6 (.string ⟨l.toArray⟩) A103 T95 (g_move (by kernel_rfl)) rfl rfl rfl (pf_then pf_mPost) (by kernel_rfl) (fun ac A104 => ?_)
            refine r_take 7 (.int .i64 (l.length : Int)) A104 T95 (g_built (r := [(0, .string ⟨l.toArray⟩)]) (by kernel_rfl) (fun ty cs w => bl_str (l := l) Try.underlying9 ty cs w)) rfl rfl rfl (pf_then pf_mPost) (by kernel_rfl) (fun ac A105 => ?_)
            refine r_take 8 (.int .i64 ((l.length : Int) - 2)) A105 T95 (g_bin (u := .int .i64 (l.length : Int)) (k := .int .i64 2) (by kernel_rfl) (by kernel_rfl) (fun _ => by kernel_rfl) (b_sub (by omega))) rfl rfl rfl (pf_then pf_mPost) (by kernel_rfl) (fun ac A106 => ?_)
            refine r_take 9 (.string ⟨(subU l (l.length - 2) 2).toArray⟩) A106 T95 (g_slice (u := .string ⟨l.toArray⟩) (lo' := (some (.int .i64 ((l.length : Int) - 2)))) (hi' := none) (mx' := none) (by kernel_rfl) (by kernel_rfl) (by kernel_rfl) (by kernel_rfl) (sl_strL_n (l := l) (i := l.length - 2) (k := 2) Try.underlying9 (by omega) (by omega) (by omega))) rfl rfl rfl (pf_then pf_mPost) (by kernel_rfl) (fun ac A107 => ?_)
            refine r_take 10 (.string ⟨(subU l 0 (l.length - 2)).toArray⟩) A107 T95 (g_assign (by kernel_rfl)) rfl rfl rfl (pf_then pf_mPost) (by kernel_rfl) (fun ac A108 => ?_)
            refine r_take 11 (.string ⟨(subU l (l.length - 2) 2).toArray⟩) A108 T95 (g_assign (by kernel_rfl)) rfl rfl rfl (pf_then pf_mPost) (by kernel_rfl) (fun ac A109 => ?_)
            refine r_done (by kernel_rfl) ?_
            refine n_then ?_
            refine wp_seq ?_
            refine wp_seq ?_
            refine wp_region_lit ?_
            refine s_one (.string ⟨(subU l 0 (l.length - 2)).toArray⟩) A109 S97 (g_move (by kernel_rfl)) rfl (fun ac A110 => ?_)
            refine s_call (fs := #[]) (cp := #[]) (r := [(0, .string ⟨(subU l 0 (l.length - 2)).toArray⟩)]) #[.string ⟨(subU l 0 (l.length - 2)).toArray⟩] (.int .i64 (ckU (subU l 0 (l.length - 2)) (subU l 0 (l.length - 2)).length)) A110 S97 (check_s (subU l 0 (l.length - 2)) _ (by have h9 := subU_le l 0 (l.length - 2); omega)) Try.call79 (by kernel_rfl) (by kernel_rfl) (by kernel_rfl) rfl (fun ac wc A111 S112 => ?_)
            refine s_one (.string ⟨(subU l (l.length - 2) 2).toArray⟩) A111 S112 (g_move (by kernel_rfl)) rfl (fun ac A114 => ?_)
            refine s_call (fs := #[]) (cp := #[]) (r := [(0, .string ⟨(subU l (l.length - 2) 2).toArray⟩)]) #[.string ⟨(subU l (l.length - 2) 2).toArray⟩] (.int .i64 (whI l (l.length - 2) 2)) A114 S112 (whole_at l (l.length - 2) 2 _ (by omega) (by omega)) Try.call80 (by kernel_rfl) (by kernel_rfl) (by kernel_rfl) rfl (fun ac wc A115 S116 => ?_)
            refine s_one (.bool (decide (ckU (subU l 0 (l.length - 2)) (subU l 0 (l.length - 2)).length ≠ whI l (l.length - 2) 2))) A115 S116 (g_bin (u := .int .i64 (ckU (subU l 0 (l.length - 2)) (subU l 0 (l.length - 2)).length)) (k := .int .i64 (whI l (l.length - 2) 2)) (by kernel_rfl) (by kernel_rfl) (fun _ => by kernel_rfl) b_neq) rfl (fun ac A118 => ?_)
            refine wpList_nil ?_
            refine n_then ?_
            refine c_ifb (b := (decide (ckU (subU l 0 (l.length - 2)) (subU l 0 (l.length - 2)).length ≠ whI l (l.length - 2) 2))) A118 (by kernel_rfl) (fun h119 => ?_) (fun h119 => ?_)
            · have p120 := of_decide_eq_true h119
              refine wp_seq ?_
              refine wp_region_lit ?_
              refine s_one (.agg #[.int .i64 0, .int .i64 0, .slice none 0 0]) A118 S116 (g_build (r := []) (by kernel_rfl) (fun _ => by kernel_rfl)) rfl (fun ac A121 => ?_)
              refine s_store (g := g3) (off := 0) (v := .agg #[.int .i64 0, .int .i64 0, .slice none 0 0]) 1 (#[.int .i64 0, .int .i64 0, .slice none 0 0]) A121 S116 (by kernel_rfl) (by kernel_rfl) rfl (by kernel_rfl) (fun wc S123 => ?_)
              refine s_store (g := g6) (off := 0) (v := .int .i64 19) 0 (#[.int .i64 19]) A121 S123 (by kernel_rfl) (by kernel_rfl) rfl (by kernel_rfl) (fun wc S126 => ?_)
              refine wpList_nil ?_
              refine n_then ?_
              refine wp_ret ?_
              refine r_then ?_
              refine m_ret0 A121 ?_
              have S128 := S126.nilRow 36 1
              refine fin2 (.agg #[.int .i64 0, .int .i64 0, .slice none 0 0]) (.int .i64 19) Try.results31 A121 S128 (rv_cell (g := g3) (off := 0) 1 (by kernel_rfl) rfl (by kernel_rfl)) (rv_cell (g := g6) (off := 0) 0 (by kernel_rfl) rfl (by kernel_rfl)) ?_
              have bw := S128.kp
              have ow := S128.row 0 rfl
              have ez := pfZ_5 (l := l) (by omega) p39 (by omega) h75 (by omega) p120
              obtain ⟨e1, e2, e3⟩ := pf_err ez (by decide)
              rw [e1, e2, e3, ez]
              exact ⟨_, rfl, bw, ow⟩
            · have p129 := of_decide_eq_false h119
              refine wp_skip ?_
              refine n_then ?_
              refine wp_seq ?_
              refine wp_region_lit ?_
              refine s_one (.string ⟨(subU l 0 (l.length - 2)).toArray⟩) A118 S116 (g_move (by kernel_rfl)) rfl (fun ac A130 => ?_)
              refine s_one (.string ⟨(subU l 4 4).toArray⟩) A130 S116 (g_slice (u := .string ⟨(subU l 0 (l.length - 2)).toArray⟩) (lo' := (some (.int .i64 4))) (hi' := (some (.int .i64 8))) (mx' := none) (by kernel_rfl) (by kernel_rfl) (by kernel_rfl) (by kernel_rfl) (sl_sub_n (l := l) (b := 0) (n := (l.length - 2)) (i := 4) (h := 8) (j := 4) (k := 4) Try.underlying9 (by omega) (by omega) (by omega) (by omega) (by omega) (by omega) (by omega))) rfl (fun ac A131 => ?_)
              refine s_call (fs := #[]) (cp := #[]) (r := [(0, .string ⟨(subU l 4 4).toArray⟩)]) #[.string ⟨(subU l 4 4).toArray⟩] (.int .i64 (whI l 4 4)) A131 S116 (whole_at l 4 4 _ (by omega) (by omega)) Try.call80 (by kernel_rfl) (by kernel_rfl) (by kernel_rfl) rfl (fun ac wc A132 S133 => ?_)
              refine s_one (.int .i32 (w32 (whI l 4 4))) A132 S133 (g_conv (u := .int .i64 (whI l 4 4)) (by kernel_rfl) (fun _ => by kernel_rfl)) rfl (fun ac A135 => ?_)
              refine s_one (.int .i64 (w32 (whI l 4 4))) A135 S133 (g_conv (u := .int .i32 (w32 (whI l 4 4))) (by kernel_rfl) (conv_w32 Try.underlying21 Try.underlying3)) rfl (fun ac A136 => ?_)
              refine s_one (.int .i64 (nthU l 3 : Int)) A136 S133 (g_move (by kernel_rfl)) rfl (fun ac A137 => ?_)
              refine s_one (.agg #[.int .i64 (nthU l 3 : Int), .slice none 0 0]) A137 S133 (g_build (r := [(0, .int .i64 (nthU l 3 : Int))]) (by kernel_rfl) (fun _ => by kernel_rfl)) rfl (fun ac A138 => ?_)
              refine s_one (.agg #[.int .i64 (w32 (whI l 4 4)), .int .i64 (nthU l 3 : Int), .slice none 0 0]) A138 S133 (g_build (r := [(0, .int .i64 (w32 (whI l 4 4))), (1, .agg #[.int .i64 (nthU l 3 : Int), .slice none 0 0])]) (by kernel_rfl) (fun _ => by kernel_rfl)) rfl (fun ac A139 => ?_)
              refine s_alloc (#[.int .i64 0, .int .i64 0, .slice none 0 0]) A139 S133 (by kernel_rfl) rfl (fun g142 ac wc A140 S141 => ?_)
              refine s_store (g := g142) (off := 0) (v := .agg #[.int .i64 (w32 (whI l 4 4)), .int .i64 (nthU l 3 : Int), .slice none 0 0]) 0 (#[.int .i64 (w32 (whI l 4 4)), .int .i64 (nthU l 3 : Int), .slice none 0 0]) A140 S141 (by kernel_rfl) (by kernel_rfl) rfl (by kernel_rfl) (fun wc S144 => ?_)
              refine wpList_nil ?_
              refine n_then ?_
              refine wp_seq ?_
              refine wp_seq ?_
              refine wp_region_lit ?_
              refine s_one (.pointer (some ⟨g142, 0, none⟩)) A140 S144 (g_field (u := .pointer (some ⟨g142, 0, none⟩)) (by kernel_rfl) (fun _ => by kernel_rfl)) rfl (fun ac A146 => ?_)
              refine s_one (.int .i64 (w32 (whI l 4 4))) A146 S144 (g_load (g := g142) (off := 0) 0 (by kernel_rfl) rfl (by kernel_rfl)) rfl (fun ac A147 => ?_)
              refine s_call (fs := #[]) (cp := #[]) (r := [(0, .int .i64 (w32 (whI l 4 4))), (0, .int .i64 1000000000)]) #[.int .i64 (w32 (whI l 4 4)), .int .i64 1000000000] (.bool (inB (w32 (whI l 4 4)) (-1000000000) 1000000000)) A147 S144 (small_s (w32 (whI l 4 4)) 1000000000 _ (by omega) (by omega)) Try.call81 (by kernel_rfl) (by kernel_rfl) (by kernel_rfl) rfl (fun ac wc A148 S149 => ?_)
              refine s_one (.bool (!(inB (w32 (whI l 4 4)) (-1000000000) 1000000000))) A148 S149 (g_un (u := .bool (inB (w32 (whI l 4 4)) (-1000000000) 1000000000)) (by kernel_rfl) (fun _ => by kernel_rfl)) rfl (fun ac A151 => ?_)
              refine wpList_nil ?_
              refine n_then ?_
              refine c_ifb (b := (!(inB (w32 (whI l 4 4)) (-1000000000) 1000000000))) A151 (by kernel_rfl) (fun h152 => ?_) (fun h152 => ?_)
              · have h153 : inB (w32 (whI l 4 4)) (-1000000000) 1000000000 = false := by simpa using h152
                refine wp_seq ?_
                refine wp_region_lit ?_
                refine s_one (.agg #[.int .i64 0, .int .i64 0, .slice none 0 0]) A151 S149 (g_build (r := []) (by kernel_rfl) (fun _ => by kernel_rfl)) rfl (fun ac A154 => ?_)
                refine s_store (g := g3) (off := 0) (v := .agg #[.int .i64 0, .int .i64 0, .slice none 0 0]) 2 (#[.int .i64 0, .int .i64 0, .slice none 0 0]) A154 S149 (by kernel_rfl) (by kernel_rfl) rfl (by kernel_rfl) (fun wc S156 => ?_)
                refine s_store (g := g6) (off := 0) (v := .int .i64 2) 1 (#[.int .i64 2]) A154 S156 (by kernel_rfl) (by kernel_rfl) rfl (by kernel_rfl) (fun wc S159 => ?_)
                refine wpList_nil ?_
                refine n_then ?_
                refine wp_ret ?_
                refine r_then ?_
                refine m_ret0 A154 ?_
                have S161 := S159.nilRow 36 1
                refine fin2 (.agg #[.int .i64 0, .int .i64 0, .slice none 0 0]) (.int .i64 2) Try.results31 A154 S161 (rv_cell (g := g3) (off := 0) 2 (by kernel_rfl) rfl (by kernel_rfl)) (rv_cell (g := g6) (off := 0) 1 (by kernel_rfl) rfl (by kernel_rfl)) ?_
                have bw := S161.kp
                have ow := S161.row 0 rfl
                have ez := pfZ_6 (l := l) (by omega) p39 (by omega) h75 (by omega) (by omega) h153
                obtain ⟨e1, e2, e3⟩ := pf_err ez (by decide)
                rw [e1, e2, e3, ez]
                exact ⟨_, rfl, bw, ow⟩
              · have h162 : inB (w32 (whI l 4 4)) (-1000000000) 1000000000 = true := by simpa using h152
                refine wp_skip ?_
                refine n_then ?_
                refine wp_seq ?_
                refine wp_seq ?_
                refine wp_region_lit ?_
                refine s_one (.string ⟨(subU l 0 (l.length - 2)).toArray⟩) A151 S149 (g_move (by kernel_rfl)) rfl (fun ac A163 => ?_)
                refine s_one (.string ⟨(subU l 8 (l.length - 10)).toArray⟩) A163 S149 (g_slice (u := .string ⟨(subU l 0 (l.length - 2)).toArray⟩) (lo' := (some (.int .i64 8))) (hi' := none) (mx' := none) (by kernel_rfl) (by kernel_rfl) (by kernel_rfl) (by kernel_rfl) (sl_subL_n (l := l) (b := 0) (n := (l.length - 2)) (i := 8) (j := 8) (k := (l.length - 10)) Try.underlying9 (by omega) (by omega) (by omega) (by omega) (by omega))) rfl (fun ac A164 => ?_)
                refine s_bytesOf (l := subU l 8 (l.length - 10)) A164 S149 (by kernel_rfl) Try.underlying9 Try.underlying144 Try.underlying5 rfl (fun wz165 ad166 cap167 ac hc169 hz170 A168 hkx171 S172 => ?_)
                refine s_callSt (T := Nat × Nat) (fs := #[]) (cp := #[]) (r := [(0, .slice (some ad166) (subU l 8 (l.length - 10)).length cap167), (0, .int .i64 2)]) #[.slice (some ad166) (subU l 8 (l.length - 10)).length cap167, .int .i64 2] (fun u => .func (.func 108) #[] #[.pointer (some ⟨u.1, 0, none⟩), .pointer (some ⟨u.2, 0, none⟩)]) (fun u => [⟨u.2, 3, #[.int .i64 2], true⟩, ⟨u.1, 144, #[.slice (some ad166) (subU l 8 (l.length - 10)).length cap167], true⟩]) (fun u => []) A168 S172 (ChunkB_s (some ad166) ((subU l 8 (l.length - 10)).length) cap167 2 _ (by omega) (by omega)) (fun u x hx => by simp only [List.mem_cons, List.not_mem_nil, or_false] at hx; rcases hx with rfl | rfl <;> rfl) Try.call82 (by kernel_rfl) (by kernel_rfl) (by kernel_rfl) rfl (fun u178 ac wc A173 S174 => ?_)
                obtain ⟨gc176, gd177⟩ := u178
                replace S174 : St ⟨w0, wz165⟩ [⟨gd177, 3, #[.int .i64 2], true⟩, ⟨gc176, 144, #[.slice (some ad166) (subU l 8 (l.length - 10)).length cap167], true⟩, ⟨g142, 66, #[.int .i64 (w32 (whI l 4 4)), .int .i64 (nthU l 3 : Int), .slice none 0 0], true⟩, ⟨g6, 32, #[.int .i64 0], true⟩, ⟨g3, 66, #[.int .i64 0, .int .i64 0, .slice none 0 0], true⟩] [] _ := S174
                refine wpList_nil ?_
                refine n_then ?_
                refine wp_block ?_
                have hbl : (subU l 8 (l.length - 10)).length = 64 * (nthU l 3 * nthU l 3) * 2 := by rw [subU_length (by omega)]; omega
                have hcap := hc169
                have SF179 := St.first S174
                refine c_range (α := Nat) (gf := 108) (fs := #[]) (lb := #[.pointer (some ⟨gc176, 0, none⟩), .pointer (some ⟨gd177, 0, none⟩)]) (encs := fun x => #[.slice (some (ad166.add (x * 2))) 2 2]) (G := [⟨gc176, 144, #[.slice (some ad166) (subU l 8 (l.length - 10)).length cap167], true⟩, ⟨gd177, 3, #[.int .i64 2], true⟩]) (xs := List.range (64 * (nthU l 3 * nthU l 3))) A173 SF179 (by kernel_rfl) Try.call108 (List.forall_mem_cons.2 ⟨SF179.get 1 rfl, (List.forall_mem_cons.2 ⟨SF179.get 0 rfl, (List.forall_mem_nil _)⟩)⟩) (chunkB_seq gc176 gd177 true true ad166 (subU l 8 (l.length - 10)).length cap167 2 (64 * (nthU l 3 * nthU l 3)) (by decide) hbl hcap (by omega)) (fun _ => rfl) (fun x => [(72, .slice (some (ad166.add (x * 2))) 2 2)]) (fun _ => (by first | rfl | simp)) (fun _ => (List.forall_mem_cons.2 ⟨(show 72 < 92 by decide), (List.forall_mem_nil _)⟩)) (fun pre W => ∃ (v : Value), (BRd 5 W ad166 (subU l 8 (l.length - 10))) ∧ (∀ k, k < pre.length → inB (pfS l k) (-2047) 2047 = true) ∧ St w0 [⟨gd177, 3, #[.int .i64 2], true⟩, ⟨gc176, 144, #[.slice (some ad166) (subU l 8 (l.length - 10)).length cap167], true⟩, ⟨g142, 66, #[.int .i64 (w32 (whI l 4 4)), .int .i64 (nthU l 3 : Int), v], true⟩, ⟨g6, 32, #[.int .i64 0], true⟩, ⟨g3, 66, #[.int .i64 0, .int .i64 0, .slice none 0 0], true⟩] [⟨v, 36, 1, pre.length, (rowF (fw (pfL l pre.length)))⟩] W) (fun _ W => pfBad l = true ∧ St w0 [⟨g6, 32, #[.int .i64 2], true⟩, ⟨g3, 66, #[.int .i64 0, .int .i64 0, .slice none 0 0], true⟩] [] W) ?_ ?_ ?_ ?_ (fun x => [(8, .slice (some (ad166.add (x * 2))) 2 2), (72, .slice (some (ad166.add (x * 2))) 2 2), (0, .string ⟨l.toArray⟩), (2, .pointer (some ⟨g3, 0, none⟩)), (3, .pointer (some ⟨g6, 0, none⟩)), (17, .bool ((decide ((l.length : Int) < 8)) || (!(decide (subU l 0 2 = [67, 80]))))), (19, .string ⟨l.toArray⟩), (20, .int .u8 (nthU l 3 : Int)), (21, .int .i64 (nthU l 3 : Int)), (4, .int .i64 (nthU l 3 : Int)), (23, .string ⟨l.toArray⟩), (24, .int .u8 (nthU l 2 : Int)), (25, .bool (decide ((nthU l 2 : Int) ≠ 1))), (22, .bool (decide ((nthU l 2 : Int) ≠ 1))), (28, .int .i64 (nthU l 3 : Int)), (29, .bool (inB (nthU l 3 : Int) 1 16)), (30, .bool (!(inB (nthU l 3 : Int) 1 16))), (27, .bool (!(inB (nthU l 3 : Int) 1 16))), (33, .string ⟨l.toArray⟩), (34, .int .i64 (l.length : Int)), (35, .int .i64 (nthU l 3 : Int)), (36, .int .i64 ((10 + 128 * ((nthU l 3) * (nthU l 3)) : Nat) : Int)), (37, .bool (decide ((l.length : Int) ≠ ((10 + 128 * ((nthU l 3) * (nthU l 3)) : Nat) : Int)))), (32, .bool (decide ((l.length : Int) ≠ ((10 + 128 * ((nthU l 3) * (nthU l 3)) : Nat) : Int)))), (39, .string ⟨l.toArray⟩), (40, .string ⟨l.toArray⟩), (41, .int .i64 (l.length : Int)), (42, .int .i64 ((l.length : Int) - 2)), (43, .string ⟨(subU l 0 (l.length - 2)).toArray⟩), (44, .string ⟨l.toArray⟩), (45, .string ⟨l.toArray⟩), (46, .int .i64 (l.length : Int)), (47, .int .i64 ((l.length : Int) - 2)), (48, .string ⟨(subU l (l.length - 2) 2).toArray⟩), (5, .string ⟨(subU l 0 (l.length - 2)).toArray⟩), (6, .string ⟨(subU l (l.length - 2) 2).toArray⟩), (49, .string ⟨(subU l 0 (l.length - 2)).toArray⟩), (50, .int .i64 (ckU (subU l 0 (l.length - 2)) (subU l 0 (l.length - 2)).length)), (51, .string ⟨(subU l (l.length - 2) 2).toArray⟩), (52, .int .i64 (whI l (l.length - 2) 2)), (53, .bool (decide (ckU (subU l 0 (l.length - 2)) (subU l 0 (l.length - 2)).length ≠ whI l (l.length - 2) 2))), (55, .string ⟨(subU l 0 (l.length - 2)).toArray⟩), (56, .string ⟨(subU l 4 4).toArray⟩), (57, .int .i64 (whI l 4 4)), (58, .int .i32 (w32 (whI l 4 4))), (59, .int .i64 (w32 (whI l 4 4))), (60, .int .i64 (nthU l 3 : Int)), (61, .agg #[.int .i64 (nthU l 3 : Int), .slice none 0 0]), (62, .agg #[.int .i64 (w32 (whI l 4 4)), .int .i64 (nthU l 3 : Int), .slice none 0 0]), (7, .pointer (some ⟨g142, 0, none⟩)), (63, .pointer (some ⟨g142, 0, none⟩)), (64, .int .i64 (w32 (whI l 4 4))), (65, .bool (inB (w32 (whI l 4 4)) (-1000000000) 1000000000)), (66, .bool (!(inB (w32 (whI l 4 4)) (-1000000000) 1000000000))), (68, .string ⟨(subU l 0 (l.length - 2)).toArray⟩), (69, .string ⟨(subU l 8 (l.length - 10)).toArray⟩), (70, .slice (some ad166) (subU l 8 (l.length - 10)).length cap167), (71, .func (.func 108) #[] #[.pointer (some ⟨gc176, 0, none⟩), .pointer (some ⟨gd177, 0, none⟩)])]) ?_ ?_ ?_ ?_
                · rintro pre W W' row ⟨v, hB, hall, hS⟩ hg hr
                  exact ⟨v, (BRd.round hB hg (fun r e => (hr r e).2)), hall, St.round hS hg hr⟩
                · rintro pre W W' ⟨v, hB, hall, hS⟩ hb
                  exact ⟨v, (hB.below hb), hall, hS.kept hb⟩
                · rintro pre W W' row ⟨hb, hS⟩ hg hr
                  exact ⟨hb, St.round hS hg hr⟩
                · have S180 := SF179.nilRow 36 1
                  exact ⟨.slice none 0 0, BRd.keep hz170 (St.others S174), fun k hk => absurd hk (Nat.not_lt_zero k), (St.rerow 0 (St.recell 2 S180 rfl (by rfl)) rfl ⟨rfl, rfl⟩).sub sub_all sub_all⟩
                · intro lz x a' WA K HA HK
                  have SA := St.start WA
                  replace HA : Fr 92 a' [(72, .slice (some (ad166.add (x * 2))) 2 2), (0, .string ⟨l.toArray⟩), (2, .pointer (some ⟨g3, 0, none⟩)), (3, .pointer (some ⟨g6, 0, none⟩)), (17, .bool ((decide ((l.length : Int) < 8)) || (!(decide (subU l 0 2 = [67, 80]))))), (19, .string ⟨l.toArray⟩), (20, .int .u8 (nthU l 3 : Int)), (21, .int .i64 (nthU l 3 : Int)), (4, .int .i64 (nthU l 3 : Int)), (23, .string ⟨l.toArray⟩), (24, .int .u8 (nthU l 2 : Int)), (25, .bool (decide ((nthU l 2 : Int) ≠ 1))), (22, .bool (decide ((nthU l 2 : Int) ≠ 1))), (28, .int .i64 (nthU l 3 : Int)), (29, .bool (inB (nthU l 3 : Int) 1 16)), (30, .bool (!(inB (nthU l 3 : Int) 1 16))), (27, .bool (!(inB (nthU l 3 : Int) 1 16))), (33, .string ⟨l.toArray⟩), (34, .int .i64 (l.length : Int)), (35, .int .i64 (nthU l 3 : Int)), (36, .int .i64 ((10 + 128 * ((nthU l 3) * (nthU l 3)) : Nat) : Int)), (37, .bool (decide ((l.length : Int) ≠ ((10 + 128 * ((nthU l 3) * (nthU l 3)) : Nat) : Int)))), (32, .bool (decide ((l.length : Int) ≠ ((10 + 128 * ((nthU l 3) * (nthU l 3)) : Nat) : Int)))), (39, .string ⟨l.toArray⟩), (40, .string ⟨l.toArray⟩), (41, .int .i64 (l.length : Int)), (42, .int .i64 ((l.length : Int) - 2)), (43, .string ⟨(subU l 0 (l.length - 2)).toArray⟩), (44, .string ⟨l.toArray⟩), (45, .string ⟨l.toArray⟩), (46, .int .i64 (l.length : Int)), (47, .int .i64 ((l.length : Int) - 2)), (48, .string ⟨(subU l (l.length - 2) 2).toArray⟩), (5, .string ⟨(subU l 0 (l.length - 2)).toArray⟩), (6, .string ⟨(subU l (l.length - 2) 2).toArray⟩), (49, .string ⟨(subU l 0 (l.length - 2)).toArray⟩), (50, .int .i64 (ckU (subU l 0 (l.length - 2)) (subU l 0 (l.length - 2)).length)), (51, .string ⟨(subU l (l.length - 2) 2).toArray⟩), (52, .int .i64 (whI l (l.length - 2) 2)), (53, .bool (decide (ckU (subU l 0 (l.length - 2)) (subU l 0 (l.length - 2)).length ≠ whI l (l.length - 2) 2))), (55, .string ⟨(subU l 0 (l.length - 2)).toArray⟩), (56, .string ⟨(subU l 4 4).toArray⟩), (57, .int .i64 (whI l 4 4)), (58, .int .i32 (w32 (whI l 4 4))), (59, .int .i64 (w32 (whI l 4 4))), (60, .int .i64 (nthU l 3 : Int)), (61, .agg #[.int .i64 (nthU l 3 : Int), .slice none 0 0]), (62, .agg #[.int .i64 (w32 (whI l 4 4)), .int .i64 (nthU l 3 : Int), .slice none 0 0]), (7, .pointer (some ⟨g142, 0, none⟩)), (63, .pointer (some ⟨g142, 0, none⟩)), (64, .int .i64 (w32 (whI l 4 4))), (65, .bool (inB (w32 (whI l 4 4)) (-1000000000) 1000000000)), (66, .bool (!(inB (w32 (whI l 4 4)) (-1000000000) 1000000000))), (68, .string ⟨(subU l 0 (l.length - 2)).toArray⟩), (69, .string ⟨(subU l 8 (l.length - 10)).toArray⟩), (70, .slice (some ad166) (subU l 8 (l.length - 10)).length cap167), (71, .func (.func 108) #[] #[.pointer (some ⟨gc176, 0, none⟩), .pointer (some ⟨gd177, 0, none⟩)])] := (HA.slot (HA.slot (HA.slot (HA.slot (HA.slot (HA.slot (HA.slot (HA.slot (HA.slot (HA.slot (HA.slot (HA.slot (HA.slot (HA.slot (HA.slot (HA.slot (HA.slot (HA.slot (HA.slot (HA.slot (HA.slot (HA.slot (HA.slot (HA.slot (HA.slot (HA.slot (HA.slot (HA.slot (HA.slot (HA.slot (HA.slot (HA.slot (HA.slot (HA.slot (HA.slot (HA.slot (HA.slot (HA.slot (HA.slot (HA.slot (HA.slot (HA.slot (HA.slot (HA.slot (HA.slot (HA.slot (HA.slot (HA.slot (HA.slot (HA.slot (HA.slot (HA.slot (HA.slot (HA.slot (HA.slot (HA.slot (HA.slot HA.nil (v := .func (.func 108) #[] #[.pointer (some ⟨gc176, 0, none⟩), .pointer (some ⟨gd177, 0, none⟩)]) (by kernel_rfl) rfl) (v := .slice (some ad166) (subU l 8 (l.length - 10)).length cap167) (by kernel_rfl) rfl) (v := .string ⟨(subU l 8 (l.length - 10)).toArray⟩) (by kernel_rfl) rfl) (v := .string ⟨(subU l 0 (l.length - 2)).toArray⟩) (by kernel_rfl) rfl) (v := .bool (!(inB (w32 (whI l 4 4)) (-1000000000) 1000000000))) (by kernel_rfl) rfl) (v := .bool (inB (w32 (whI l 4 4)) (-1000000000) 1000000000)) (by kernel_rfl) rfl) (v := .int .i64 (w32 (whI l 4 4))) (by kernel_rfl) rfl) (v := .pointer (some ⟨g142, 0, none⟩)) (by kernel_rfl) rfl) (v := .pointer (some ⟨g142, 0, none⟩)) (by kernel_rfl) rfl) (v := .agg #[.int .i64 (w32 (whI l 4 4)), .int .i64 (nthU l 3 : Int), .slice none 0 0]) (by kernel_rfl) rfl) (v := .agg #[.int .i64 (nthU l 3 : Int), .slice none 0 0]) (by kernel_rfl) rfl) (v := .int .i64 (nthU l 3 : Int)) (by kernel_rfl) rfl) (v := .int .i64 (w32 (whI l 4 4))) (by kernel_rfl) rfl) (v := .int .i32 (w32 (whI l 4 4))) (by kernel_rfl) rfl) (v := .int .i64 (whI l 4 4)) (by kernel_rfl) rfl) (v := .string ⟨(subU l 4 4).toArray⟩) (by kernel_rfl) rfl) (v := .string ⟨(subU l 0 (l.length - 2)).toArray⟩) (by kernel_rfl) rfl) (v := .bool (decide (ckU (subU l 0 (l.length - 2)) (subU l 0 (l.length - 2)).length ≠ whI l (l.length - 2) 2))) (by kernel_rfl) rfl) (v := .int .i64 (whI l (l.length - 2) 2)) (by kernel_rfl) rfl) (v := .string ⟨(subU l (l.length - 2) 2).toArray⟩) (by kernel_rfl) rfl) (v := .int .i64 (ckU (subU l 0 (l.length - 2)) (subU l 0 (l.length - 2)).length)) (by kernel_rfl) rfl) (v := .string ⟨(subU l 0 (l.length - 2)).toArray⟩) (by kernel_rfl) rfl) (v := .string ⟨(subU l (l.length - 2) 2).toArray⟩) (by kernel_rfl) rfl) (v := .string ⟨(subU l 0 (l.length - 2)).toArray⟩) (by kernel_rfl) rfl) (v := .string ⟨(subU l (l.length - 2) 2).toArray⟩) (by kernel_rfl) rfl) (v := .int .i64 ((l.length : Int) - 2)) (by kernel_rfl) rfl) (v := .int .i64 (l.length : Int)) (by kernel_rfl) rfl) (v := .string ⟨l.toArray⟩) (by kernel_rfl) rfl) (v := .string ⟨l.toArray⟩) (by kernel_rfl) rfl) (v := .string ⟨(subU l 0 (l.length - 2)).toArray⟩) (by kernel_rfl) rfl) (v := .int .i64 ((l.length : Int) - 2)) (by kernel_rfl) rfl) (v := .int .i64 (l.length : Int)) (by kernel_rfl) rfl) (v := .string ⟨l.toArray⟩) (by kernel_rfl) rfl) (v := .string ⟨l.toArray⟩) (by kernel_rfl) rfl) (v := .bool (decide ((l.length : Int) ≠ ((10 + 128 * ((nthU l 3) * (nthU l 3)) : Nat) : Int)))) (by kernel_rfl) rfl) (v := .bool (decide ((l.length : Int) ≠ ((10 + 128 * ((nthU l 3) * (nthU l 3)) : Nat) : Int)))) (by kernel_rfl) rfl) (v := .int .i64 ((10 + 128 * ((nthU l 3) * (nthU l 3)) : Nat) : Int)) (by kernel_rfl) rfl) (v := .int .i64 (nthU l 3 : Int)) (by kernel_rfl) rfl) (v := .int .i64 (l.length : Int)) (by kernel_rfl) rfl) (v := .string ⟨l.toArray⟩) (by kernel_rfl) rfl) (v := .bool (!(inB (nthU l 3 : Int) 1 16))) (by kernel_rfl) rfl) (v := .bool (!(inB (nthU l 3 : Int) 1 16))) (by kernel_rfl) rfl) (v := .bool (inB (nthU l 3 : Int) 1 16)) (by kernel_rfl) rfl) (v := .int .i64 (nthU l 3 : Int)) (by kernel_rfl) rfl) (v := .bool (decide ((nthU l 2 : Int) ≠ 1))) (by kernel_rfl) rfl) (v := .bool (decide ((nthU l 2 : Int) ≠ 1))) (by kernel_rfl) rfl) (v := .int .u8 (nthU l 2 : Int)) (by kernel_rfl) rfl) (v := .string ⟨l.toArray⟩) (by kernel_rfl) rfl) (v := .int .i64 (nthU l 3 : Int)) (by kernel_rfl) rfl) (v := .int .i64 (nthU l 3 : Int)) (by kernel_rfl) rfl) (v := .int .u8 (nthU l 3 : Int)) (by kernel_rfl) rfl) (v := .string ⟨l.toArray⟩) (by kernel_rfl) rfl) (v := .bool ((decide ((l.length : Int) < 8)) || (!(decide (subU l 0 2 = [67, 80]))))) (by kernel_rfl) rfl) (v := .pointer (some ⟨g6, 0, none⟩)) (by kernel_rfl) rfl) (v := .pointer (some ⟨g3, 0, none⟩)) (by kernel_rfl) rfl) (v := .string ⟨l.toArray⟩) (by kernel_rfl) rfl) (v := .slice (some (ad166.add (x * 2))) 2 2) (by kernel_rfl) rfl)
                  refine i_region noOut_assign (by kernel_rfl) ?_
                  refine s_one (.slice (some (ad166.add (x * 2))) 2 2) HA SA (g_assign (by kernel_rfl)) rfl (fun ac A181 => ?_)
                  refine wpList_nil ?_
                  refine n_then ?_
                  exact HK _ (A181.slot (A181.slot (A181.slot (A181.slot (A181.slot (A181.slot (A181.slot (A181.slot (A181.slot (A181.slot (A181.slot (A181.slot (A181.slot (A181.slot (A181.slot (A181.slot (A181.slot (A181.slot (A181.slot (A181.slot (A181.slot (A181.slot (A181.slot (A181.slot (A181.slot (A181.slot (A181.slot (A181.slot (A181.slot (A181.slot (A181.slot (A181.slot (A181.slot (A181.slot (A181.slot (A181.slot (A181.slot (A181.slot (A181.slot (A181.slot (A181.slot (A181.slot (A181.slot (A181.slot (A181.slot (A181.slot (A181.slot (A181.slot (A181.slot (A181.slot (A181.slot (A181.slot (A181.slot (A181.slot (A181.slot (A181.slot (A181.slot (A181.slot A181.nil (v := .func (.func 108) #[] #[.pointer (some ⟨gc176, 0, none⟩), .pointer (some ⟨gd177, 0, none⟩)]) (by kernel_rfl) rfl) (v := .slice (some ad166) (subU l 8 (l.length - 10)).length cap167) (by kernel_rfl) rfl) (v := .string ⟨(subU l 8 (l.length - 10)).toArray⟩) (by kernel_rfl) rfl) (v := .string ⟨(subU l 0 (l.length - 2)).toArray⟩) (by kernel_rfl) rfl) (v := .bool (!(inB (w32 (whI l 4 4)) (-1000000000) 1000000000))) (by kernel_rfl) rfl) (v := .bool (inB (w32 (whI l 4 4)) (-1000000000) 1000000000)) (by kernel_rfl) rfl) (v := .int .i64 (w32 (whI l 4 4))) (by kernel_rfl) rfl) (v := .pointer (some ⟨g142, 0, none⟩)) (by kernel_rfl) rfl) (v := .pointer (some ⟨g142, 0, none⟩)) (by kernel_rfl) rfl) (v := .agg #[.int .i64 (w32 (whI l 4 4)), .int .i64 (nthU l 3 : Int), .slice none 0 0]) (by kernel_rfl) rfl) (v := .agg #[.int .i64 (nthU l 3 : Int), .slice none 0 0]) (by kernel_rfl) rfl) (v := .int .i64 (nthU l 3 : Int)) (by kernel_rfl) rfl) (v := .int .i64 (w32 (whI l 4 4))) (by kernel_rfl) rfl) (v := .int .i32 (w32 (whI l 4 4))) (by kernel_rfl) rfl) (v := .int .i64 (whI l 4 4)) (by kernel_rfl) rfl) (v := .string ⟨(subU l 4 4).toArray⟩) (by kernel_rfl) rfl) (v := .string ⟨(subU l 0 (l.length - 2)).toArray⟩) (by kernel_rfl) rfl) (v := .bool (decide (ckU (subU l 0 (l.length - 2)) (subU l 0 (l.length - 2)).length ≠ whI l (l.length - 2) 2))) (by kernel_rfl) rfl) (v := .int .i64 (whI l (l.length - 2) 2)) (by kernel_rfl) rfl) (v := .string ⟨(subU l (l.length - 2) 2).toArray⟩) (by kernel_rfl) rfl) (v := .int .i64 (ckU (subU l 0 (l.length - 2)) (subU l 0 (l.length - 2)).length)) (by kernel_rfl) rfl) (v := .string ⟨(subU l 0 (l.length - 2)).toArray⟩) (by kernel_rfl) rfl) (v := .string ⟨(subU l (l.length - 2) 2).toArray⟩) (by kernel_rfl) rfl) (v := .string ⟨(subU l 0 (l.length - 2)).toArray⟩) (by kernel_rfl) rfl) (v := .string ⟨(subU l (l.length - 2) 2).toArray⟩) (by kernel_rfl) rfl) (v := .int .i64 ((l.length : Int) - 2)) (by kernel_rfl) rfl) (v := .int .i64 (l.length : Int)) (by kernel_rfl) rfl) (v := .string ⟨l.toArray⟩) (by kernel_rfl) rfl) (v := .string ⟨l.toArray⟩) (by kernel_rfl) rfl) (v := .string ⟨(subU l 0 (l.length - 2)).toArray⟩) (by kernel_rfl) rfl) (v := .int .i64 ((l.length : Int) - 2)) (by kernel_rfl) rfl) (v := .int .i64 (l.length : Int)) (by kernel_rfl) rfl) (v := .string ⟨l.toArray⟩) (by kernel_rfl) rfl) (v := .string ⟨l.toArray⟩) (by kernel_rfl) rfl) (v := .bool (decide ((l.length : Int) ≠ ((10 + 128 * ((nthU l 3) * (nthU l 3)) : Nat) : Int)))) (by kernel_rfl) rfl) (v := .bool (decide ((l.length : Int) ≠ ((10 + 128 * ((nthU l 3) * (nthU l 3)) : Nat) : Int)))) (by kernel_rfl) rfl) (v := .int .i64 ((10 + 128 * ((nthU l 3) * (nthU l 3)) : Nat) : Int)) (by kernel_rfl) rfl) (v := .int .i64 (nthU l 3 : Int)) (by kernel_rfl) rfl) (v := .int .i64 (l.length : Int)) (by kernel_rfl) rfl) (v := .string ⟨l.toArray⟩) (by kernel_rfl) rfl) (v := .bool (!(inB (nthU l 3 : Int) 1 16))) (by kernel_rfl) rfl) (v := .bool (!(inB (nthU l 3 : Int) 1 16))) (by kernel_rfl) rfl) (v := .bool (inB (nthU l 3 : Int) 1 16)) (by kernel_rfl) rfl) (v := .int .i64 (nthU l 3 : Int)) (by kernel_rfl) rfl) (v := .bool (decide ((nthU l 2 : Int) ≠ 1))) (by kernel_rfl) rfl) (v := .bool (decide ((nthU l 2 : Int) ≠ 1))) (by kernel_rfl) rfl) (v := .int .u8 (nthU l 2 : Int)) (by kernel_rfl) rfl) (v := .string ⟨l.toArray⟩) (by kernel_rfl) rfl) (v := .int .i64 (nthU l 3 : Int)) (by kernel_rfl) rfl) (v := .int .i64 (nthU l 3 : Int)) (by kernel_rfl) rfl) (v := .int .u8 (nthU l 3 : Int)) (by kernel_rfl) rfl) (v := .string ⟨l.toArray⟩) (by kernel_rfl) rfl) (v := .bool ((decide ((l.length : Int) < 8)) || (!(decide (subU l 0 2 = [67, 80]))))) (by kernel_rfl) rfl) (v := .pointer (some ⟨g6, 0, none⟩)) (by kernel_rfl) rfl) (v := .pointer (some ⟨g3, 0, none⟩)) (by kernel_rfl) rfl) (v := .string ⟨l.toArray⟩) (by kernel_rfl) rfl) (v := .slice (some (ad166.add (x * 2))) 2 2) (by kernel_rfl) rfl) (v := .slice (some (ad166.add (x * 2))) 2 2) (by kernel_rfl) rfl)
                · rintro lz pre x rest a' WB182 hx ⟨v, hB, hall, hS⟩ HA
                  have SB183 := St.begin hS
                  obtain ⟨rfl, hpre, hlt⟩ := range_next hx
                  refine wpIn_block ?_
                  refine wpIn_seq ?_
                  refine i_region (noOut_then (noOut_block noOut_body)) (by kernel_rfl) ?_
                  refine s_one (.slice (some (ad166.add (pre.length * 2))) 2 2) HA SB183 (g_move (by kernel_rfl)) rfl (fun ac A184 => ?_)
                  refine s_one (.string ⟨(subU (subU l 8 (l.length - 10)) (pre.length * 2) 2).toArray⟩) A184 SB183 (g_strOf (ad := ad166) (l := subU l 8 (l.length - 10)) (i := pre.length * 2) (k := 2) (c := 2) (by kernel_rfl) hB (by omega) Try.underlying144 Try.underlying5 Try.underlying9) rfl (fun ac A185 => ?_)
                  refine s_call (fs := #[]) (cp := #[]) (r := [(0, .string ⟨(subU (subU l 8 (l.length - 10)) (pre.length * 2) 2).toArray⟩)]) #[.string ⟨(subU (subU l 8 (l.length - 10)) (pre.length * 2) 2).toArray⟩] (.int .i64 (whI (subU l 8 (l.length - 10)) (pre.length * 2) 2)) A185 SB183 (whole_at (subU l 8 (l.length - 10)) (pre.length * 2) 2 _ (by omega) (by omega)) Try.call80 (by kernel_rfl) (by kernel_rfl) (by kernel_rfl) rfl (fun ac wc A186 S187 => ?_)
                  refine s_one (.int .i16 (w16 (whI (subU l 8 (l.length - 10)) (pre.length * 2) 2))) A186 S187 (g_conv (u := .int .i64 (whI (subU l 8 (l.length - 10)) (pre.length * 2) 2)) (by kernel_rfl) (fun _ => by kernel_rfl)) rfl (fun ac A189 => ?_)
                  refine s_one (.int .i64 (w16 (whI (subU l 8 (l.length - 10)) (pre.length * 2) 2))) A189 S187 (g_conv (u := .int .i16 (w16 (whI (subU l 8 (l.length - 10)) (pre.length * 2) 2))) (by kernel_rfl) (conv_w16 Try.underlying145 Try.underlying3)) rfl (fun ac A190 => ?_)
                  refine s_one (.int .i64 (w16 (whI (subU l 8 (l.length - 10)) (pre.length * 2) 2))) A190 S187 (g_assign (by kernel_rfl)) rfl (fun ac A191 => ?_)
                  refine wpList_nil ?_
                  refine n_then ?_
                  refine wpIn_seq ?_
                  refine wpIn_seq ?_
                  refine i_region (noOut_then (noOut_then (noOut_block noOut_body))) (by kernel_rfl) ?_
                  refine s_one (.int .i64 (w16 (whI (subU l 8 (l.length - 10)) (pre.length * 2) 2))) A191 S187 (g_move (by kernel_rfl)) rfl (fun ac A192 => ?_)
                  refine s_call (fs := #[]) (cp := #[]) (r := [(0, .int .i64 (w16 (whI (subU l 8 (l.length - 10)) (pre.length * 2) 2))), (0, .int .i64 2047)]) #[.int .i64 (w16 (whI (subU l 8 (l.length - 10)) (pre.length * 2) 2)), .int .i64 2047] (.bool (inB (w16 (whI (subU l 8 (l.length - 10)) (pre.length * 2) 2)) (-2047) 2047)) A192 S187 (small_s (w16 (whI (subU l 8 (l.length - 10)) (pre.length * 2) 2)) 2047 _ (by omega) (by omega)) Try.call81 (by kernel_rfl) (by kernel_rfl) (by kernel_rfl) rfl (fun ac wc A193 S194 => ?_)
                  refine s_one (.bool (!(inB (w16 (whI (subU l 8 (l.length - 10)) (pre.length * 2) 2)) (-2047) 2047))) A193 S194 (g_un (u := .bool (inB (w16 (whI (subU l 8 (l.length - 10)) (pre.length * 2) 2)) (-2047) 2047)) (by kernel_rfl) (fun _ => by kernel_rfl)) rfl (fun ac A196 => ?_)
                  refine wpList_nil ?_
                  refine n_then ?_
                  refine i_ifb (b := (!(inB (w16 (whI (subU l 8 (l.length - 10)) (pre.length * 2) 2)) (-2047) 2047))) A196 (by kernel_rfl) (fun h197 => ?_) (fun h197 => ?_)
                  · have h198 : inB (w16 (whI (subU l 8 (l.length - 10)) (pre.length * 2) 2)) (-2047) 2047 = false := by simpa using h197
                    refine wpIn_seq ?_
                    refine i_region (noOut_then (noOut_then (noOut_block noOut_body))) (by kernel_rfl) ?_
                    refine s_one (.agg #[.int .i64 0, .int .i64 0, .slice none 0 0]) A196 S194 (g_build (r := []) (by kernel_rfl) (fun _ => by kernel_rfl)) rfl (fun ac A199 => ?_)
                    refine s_store (g := g3) (off := 0) (v := .agg #[.int .i64 0, .int .i64 0, .slice none 0 0]) 4 (#[.int .i64 0, .int .i64 0, .slice none 0 0]) A199 S194 (by kernel_rfl) (by kernel_rfl) rfl (by kernel_rfl) (fun wc S201 => ?_)
                    refine s_store (g := g6) (off := 0) (v := .int .i64 2) 3 (#[.int .i64 2]) A199 S201 (by kernel_rfl) (by kernel_rfl) rfl (by kernel_rfl) (fun wc S204 => ?_)
                    refine wpList_nil ?_
                    refine n_then ?_
                    refine wpIn_ret ?_
                    refine r_then ?_
                    refine r_block ?_
                    refine r_stop (w0 := w0) S204 (fun SE => ⟨pfBad_y (k := pre.length) (by omega) h198, SE.sub (sub_skip (sub_skip (sub_skip sub_all))) sub_nil⟩)
                  · have h206 : inB (w16 (whI (subU l 8 (l.length - 10)) (pre.length * 2) 2)) (-2047) 2047 = true := by simpa using h197
                    refine wpIn_skip ?_
                    refine n_then ?_
                    refine i_region (noOut_block noOut_body) (by kernel_rfl) ?_
                    refine s_one (.pointer (some ⟨g142, 1, none⟩)) A196 S194 (g_field (u := .pointer (some ⟨g142, 0, none⟩)) (by kernel_rfl) (fun _ => by kernel_rfl)) rfl (fun ac A207 => ?_)
                    refine s_one (.pointer (some ⟨g142, 2, none⟩)) A207 S194 (g_field (u := .pointer (some ⟨g142, 1, none⟩)) (by kernel_rfl) (fun _ => by kernel_rfl)) rfl (fun ac A208 => ?_)
                    refine s_one (v) A208 S194 (g_load (g := g142) (off := 2) 2 (by kernel_rfl) rfl (by kernel_rfl)) rfl (fun ac A209 => ?_)
                    refine s_one (.int .i64 (w16 (whI (subU l 8 (l.length - 10)) (pre.length * 2) 2))) A209 S194 (g_move (by kernel_rfl)) rfl (fun ac A210 => ?_)
                    refine s_one (.float .f32 (floatOfInt .f32 (w16 (whI (subU l 8 (l.length - 10)) (pre.length * 2) 2)))) A210 S194 (g_conv (u := .int .i64 (w16 (whI (subU l 8 (l.length - 10)) (pre.length * 2) 2))) (by kernel_rfl) (fun _ => by kernel_rfl)) rfl (fun ac A211 => ?_)
                    refine s_bs (e := 36) (r := [(0, .float .f32 (floatOfInt .f32 (w16 (whI (subU l 8 (l.length - 10)) (pre.length * 2) 2))))]) (#[.float .f32 (floatOfInt .f32 (w16 (whI (subU l 8 (l.length - 10)) (pre.length * 2) 2)))]) A211 S194 (by kernel_rfl) (by kernel_rfl) rfl (fun g214 ac wc A212 S213 => ?_)
                    refine s_append (e := 36) (size := 1) (bytes := 4) (v := v) (g := g214) (m' := 1) (c := 1) 0 0 [.float .f32 (floatOfInt .f32 (w16 (whI (subU l 8 (l.length - 10)) (pre.length * 2) 2)))] A212 S213 (by kernel_rfl) (by kernel_rfl) (by kernel_rfl) rfl rfl (by kernel_rfl) rfl (by kernel_rfl) (by omega) (by omega) rfl (fun v218 ac wc A215 S216 => ?_)
                    refine s_one (.pointer (some ⟨g142, 1, none⟩)) A215 S216 (g_field (u := .pointer (some ⟨g142, 0, none⟩)) (by kernel_rfl) (fun _ => by kernel_rfl)) rfl (fun ac A219 => ?_)
                    refine s_one (.pointer (some ⟨g142, 2, none⟩)) A219 S216 (g_field (u := .pointer (some ⟨g142, 1, none⟩)) (by kernel_rfl) (fun _ => by kernel_rfl)) rfl (fun ac A220 => ?_)
                    obtain ⟨A221, cap222, rfl⟩ := row_slice (v := v218) (m := pre.length + 1) (S216.row 0 rfl)
                    refine s_store (g := g142) (off := 2) (v := .slice A221 (pre.length + 1) cap222) 3 (#[.int .i64 (w32 (whI l 4 4)), .int .i64 (nthU l 3 : Int), .slice A221 (pre.length + 1) cap222]) A220 S216 (by kernel_rfl) (by kernel_rfl) rfl (by kernel_rfl) (fun wc S224 => ?_)
                    refine wpList_nil ?_
                    refine n_block ?_
                    refine r_end (w0 := w0) S224 (KpG.cons (S224.get 2 rfl) (KpG.cons (S224.get 1 rfl) KpG.nil)) (fun SE => ?_)
                    exact ⟨.slice A221 (pre.length + 1) cap222, BRd.keep hB (St.others S224), all_snoc hall h206, (St.rerow 0 (St.recell 3 SE rfl (by rfl)) rfl ⟨by simp, pf_snoc2 l (by simp)⟩).sub (sub_skip sub_all) sub_all⟩
                · rintro D226 a' WD227 hD228 ⟨v, hB, hall, hS⟩ hK229 HA230
                  have SD231 := St.begin hS
                  have SR : St ⟨w0, WD227⟩ [⟨gd177, 3, #[.int .i64 2], true⟩, ⟨gc176, 144, #[.slice (some ad166) (subU l 8 (l.length - 10)).length cap167], true⟩, ⟨g142, 66, #[.int .i64 (w32 (whI l 4 4)), .int .i64 (nthU l 3 : Int), v], true⟩, ⟨g6, 32, #[.int .i64 0], true⟩, ⟨g3, 66, #[.int .i64 0, .int .i64 0, .slice none 0 0], true⟩] [⟨v, 36, 1, (64 * (nthU l 3 * nthU l 3)), (rowF (fw (pfL l (64 * (nthU l 3 * nthU l 3)))))⟩] _ := St.rerow 0 SD231 rfl ⟨List.length_range, by rw [List.length_range]⟩
                  have hbn : pfBad l = false := pfBad_n (by simpa using hall)
                  refine n_block ?_
                  refine n_then ?_
                  refine wp_seq ?_
                  refine wp_region_lit ?_
                  refine s_one (.agg #[.int .i64 (w32 (whI l 4 4)), .int .i64 (nthU l 3 : Int), v]) HA230 SR (g_load (g := g142) (off := 0) 2 (by kernel_rfl) rfl (by kernel_rfl)) rfl (fun ac A232 => ?_)
                  obtain ⟨A233, cap234, rfl⟩ := row_slice (v := v) (m := (64 * (nthU l 3 * nthU l 3))) (SR.row 0 rfl)
                  refine s_store (g := g3) (off := 0) (v := .agg #[.int .i64 (w32 (whI l 4 4)), .int .i64 (nthU l 3 : Int), .slice A233 (64 * (nthU l 3 * nthU l 3)) cap234]) 4 (#[.int .i64 (w32 (whI l 4 4)), .int .i64 (nthU l 3 : Int), .slice A233 (64 * (nthU l 3 * nthU l 3)) cap234]) A232 SR (by kernel_rfl) (by kernel_rfl) rfl (by kernel_rfl) (fun wc S236 => ?_)
                  refine s_store (g := g6) (off := 0) (v := .int .i64 0) 3 (#[.int .i64 0]) A232 S236 (by kernel_rfl) (by kernel_rfl) rfl (by kernel_rfl) (fun wc S239 => ?_)
                  refine wpList_nil ?_
                  refine n_then ?_
                  refine wp_ret ?_
                  refine m_ret (w0 := w0) A232 S239 hK229 hD228 (fun ac wc A241 S242 => ?_)
                  refine fin2 (.agg #[.int .i64 (w32 (whI l 4 4)), .int .i64 (nthU l 3 : Int), .slice A233 (64 * (nthU l 3 * nthU l 3)) cap234]) (.int .i64 0) Try.results31 A241 S242 (rv_cell (g := g3) (off := 0) 4 (by kernel_rfl) rfl (by kernel_rfl)) (rv_cell (g := g6) (off := 0) 3 (by kernel_rfl) rfl (by kernel_rfl)) ?_
                  have bw := S242.kp
                  have ow := S242.row 0 rfl
                  have ez := pfZ_7 (l := l) (by omega) p39 (by omega) h75 (by omega) (by omega) h162
                  rw [hbn, if_neg (by decide)] at ez
                  obtain ⟨e1, e2, e3⟩ := pf_ok ez
                  rw [e1, e2, e3, ez, fw_length, pfL_length]
                  exact ⟨_, rfl, bw, ow⟩
                · rintro D pre a' WD hD ⟨hbad, hS⟩ hK HA
                  have SD := St.begin hS
                  refine r_block ?_
                  refine r_then ?_
                  refine m_ret (w0 := w0) HA SD hK hD (fun ac wc A243 S244 => ?_)
                  have S245 := S244.nilRow 36 1
                  refine fin2 (.agg #[.int .i64 0, .int .i64 0, .slice none 0 0]) (.int .i64 2) Try.results31 A243 S245 (rv_cell (g := g3) (off := 0) 1 (by kernel_rfl) rfl (by kernel_rfl)) (rv_cell (g := g6) (off := 0) 0 (by kernel_rfl) rfl (by kernel_rfl)) ?_
                  have bw := S245.kp
                  have ow := S245.row 0 rfl
                  have ez := pfZ_7 (l := l) (by omega) p39 (by omega) h75 (by omega) (by omega) h162
                  rw [hbad, if_pos rfl] at ez
                  obtain ⟨e1, e2, e3⟩ := pf_err ez (by decide)
                  rw [e1, e2, e3, ez]
                  exact ⟨_, rfl, bw, ow⟩

end Go.Proofs.Ytcijkniijomcjaa
