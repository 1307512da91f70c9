/- Texts of the proof of TopReciprocalBack, put together (part 6): Pf, Rfs, Vr, Fmt, Avg, Av1, Avg2, Fm1, Fmt2, Fm2, Fmt3, Fm3. -/
import Derived.Test.YtcijkniijomcjaaRb5
import Derived.Laws.Append
import Derived.Laws.Entries
namespace Go.Proofs.Ytcijkniijomcjaa
open Go.RowKit Go.Cpl
set_option maxRecDepth 100000 in
set_option maxHeartbeats 400000 in
theorem small_s (n m : Int) (w0 : World) (h0 : 0 ≤ m) (h1 : m ≤ 1000000000000) :
    Calls Try.prog 81 #[.int .i64 n, .int .i64 m] w0 fun e w' => e = .returned (.bool (inB n (-m) m)) ∧ Below w0.heap.size w0 w' := by
  have S0 := St.start w0
  refine enter (n := 10) Try.func81 rfl rfl rfl (fun ac A0 => ?_)
  refine wp_seq ?_
  refine wp_region_lit ?_
  refine s_one (.bool false) A0 S0 (g_assign (by kernel_rfl)) rfl (fun ac A1 => ?_)
  refine wpList_nil ?_
  refine n_then ?_
  refine wp_seq ?_
  refine wp_region_lit ?_
  refine s_one (.int .i64 n) A1 S0 (g_move (by kernel_rfl)) rfl (fun ac A2 => ?_)
  refine s_one (.int .i64 m) A2 S0 (g_move (by kernel_rfl)) rfl (fun ac A3 => ?_)
  refine s_one (.int .i64 (-m)) A3 S0 (g_un (u := .int .i64 m) (by kernel_rfl) (u_neg (by omega))) rfl (fun ac A4 => ?_)
  refine s_one (.int .i64 m) A4 S0 (g_move (by kernel_rfl)) rfl (fun ac A5 => ?_)
  refine s_call (fs := #[]) (cp := #[]) (r := [(0, .int .i64 n), (0, .int .i64 (-m)), (0, .int .i64 m)]) #[.int .i64 n, .int .i64 (-m), .int .i64 m] (.bool (inB n (-m) m)) A5 S0 (sameB (within_any n (-m) m _)) Try.call60 (by kernel_rfl) (by kernel_rfl) (by kernel_rfl) rfl (fun ac wc A6 S7 => ?_)
  refine s_one (.bool (inB n (-m) m)) A6 S7 (g_assign (by kernel_rfl)) rfl (fun ac A9 => ?_)
  refine wpList_nil ?_
  refine n_then ?_
  refine wp_ret ?_
  refine fin1 (.bool (inB n (-m) m)) Try.results81 A9 S7 (rv_tmp (by kernel_rfl)) ⟨?_, S7.kp⟩
  rfl
/-- A sample of a frame. -/
def pfS (l : Bs) (k : Nat) : Int := w16 (whI (subU l 8 (l.length - 10)) (k * 2) 2)
def pfL (l : Bs) (n : Nat) : List Int := (List.range n).map (pfS l)
def pfBad (l : Bs) : Bool := (List.range (64 * (nthU l 3 * nthU l 3))).any fun k => !inB (pfS l k) (-2047) 2047
/-- What is wrong with the bytes of a frame. -/
def pfZ (l : Bs) : Int :=
  if l.length < 8 ∨ ¬ subU l 0 2 = [67, 80] then 7 else if ¬ (nthU l 2 : Int) = 1 then 15 else if inB (nthU l 3 : Int) 1 16 = false then 2 else
  if ¬ l.length = 10 + 128 * (nthU l 3 * nthU l 3) then 10 else if ¬ ckU (subU l 0 (l.length - 2)) (subU l 0 (l.length - 2)).length = whI l (l.length - 2) 2 then 19 else if inB (w32 (whI l 4 4)) (-1000000000) 1000000000 = false then 2 else if pfBad l = true then 2 else 0
def pfP (l : Bs) : Int := if pfZ l = 0 then w32 (whI l 4 4) else 0
def pfE (l : Bs) : Int := if pfZ l = 0 then (nthU l 3 : Int) else 0
def pfW (l : Bs) : List Nat := if pfZ l = 0 then fw (pfL l (64 * (nthU l 3 * nthU l 3))) else []
theorem pf_err {l : Bs} {z : Int} (h : pfZ l = z) (hz : ¬ z = 0) : pfP l = 0 ∧ pfE l = 0 ∧ pfW l = [] := by
  subst h; exact ⟨if_neg hz, if_neg hz, if_neg hz⟩
theorem pf_ok {l : Bs} (h : pfZ l = 0) : pfP l = w32 (whI l 4 4) ∧ pfE l = (nthU l 3 : Int) ∧ pfW l = fw (pfL l (64 * (nthU l 3 * nthU l 3))) := ⟨if_pos h, if_pos h, if_pos h⟩
theorem pfZ_1 {l : Bs} (h : l.length < 8 ∨ ¬ subU l 0 2 = [67, 80]) : pfZ l = 7 := if_pos h
theorem pfZ_2 {l : Bs} (h1 : 8 ≤ l.length) (h2 : subU l 0 2 = [67, 80]) (h3 : ¬ (nthU l 2 : Int) = 1) : pfZ l = 15 := by
  unfold pfZ; rw [if_neg (by intro h; rcases h with h | h; omega; exact h h2), if_pos h3]
theorem pfZ_3 {l : Bs} (h1 : 8 ≤ l.length) (h2 : subU l 0 2 = [67, 80]) (h3 : (nthU l 2 : Int) = 1) (h4 : inB (nthU l 3 : Int) 1 16 = false) : pfZ l = 2 := by
  unfold pfZ; rw [if_neg (by intro h; rcases h with h | h; omega; exact h h2), if_neg (fun h => h h3), if_pos h4]
theorem pfZ_4 {l : Bs} (h1 : 8 ≤ l.length) (h2 : subU l 0 2 = [67, 80]) (h3 : (nthU l 2 : Int) = 1) (h4 : inB (nthU l 3 : Int) 1 16 = true) (h5 : ¬ l.length = 10 + 128 * (nthU l 3 * nthU l 3)) : pfZ l = 10 := by
  unfold pfZ; rw [if_neg (by intro h; rcases h with h | h; omega; exact h h2), if_neg (fun h => h h3), if_neg (by rw [h4]; decide), if_pos h5]
theorem pfZ_5 {l : Bs} (h1 : 8 ≤ l.length) (h2 : subU l 0 2 = [67, 80]) (h3 : (nthU l 2 : Int) = 1) (h4 : inB (nthU l 3 : Int) 1 16 = true) (h5 : l.length = 10 + 128 * (nthU l 3 * nthU l 3)) (h6 : ¬ ckU (subU l 0 (l.length - 2)) (subU l 0 (l.length - 2)).length = whI l (l.length - 2) 2) : pfZ l = 19 := by
  unfold pfZ; rw [if_neg (by intro h; rcases h with h | h; omega; exact h h2), if_neg (fun h => h h3), if_neg (by rw [h4]; decide), if_neg (fun h => h h5), if_pos h6]
theorem pfZ_6 {l : Bs} (h1 : 8 ≤ l.length) (h2 : subU l 0 2 = [67, 80]) (h3 : (nthU l 2 : Int) = 1) (h4 : inB (nthU l 3 : Int) 1 16 = true) (h5 : l.length = 10 + 128 * (nthU l 3 * nthU l 3)) (h6 : ckU (subU l 0 (l.length - 2)) (subU l 0 (l.length - 2)).length = whI l (l.length - 2) 2) (h7 : inB (w32 (whI l 4 4)) (-1000000000) 1000000000 = false) : pfZ l = 2 := by
  unfold pfZ; rw [if_neg (by intro h; rcases h with h | h; omega; exact h h2), if_neg (fun h => h h3), if_neg (by rw [h4]; decide), if_neg (fun h => h h5), if_neg (fun h => h h6), if_pos h7]
theorem pfZ_7 {l : Bs} (h1 : 8 ≤ l.length) (h2 : subU l 0 2 = [67, 80]) (h3 : (nthU l 2 : Int) = 1) (h4 : inB (nthU l 3 : Int) 1 16 = true) (h5 : l.length = 10 + 128 * (nthU l 3 * nthU l 3)) (h6 : ckU (subU l 0 (l.length - 2)) (subU l 0 (l.length - 2)).length = whI l (l.length - 2) 2) (h7 : inB (w32 (whI l 4 4)) (-1000000000) 1000000000 = true) : pfZ l = if pfBad l = true then 2 else 0 := by
  unfold pfZ; rw [if_neg (by intro h; rcases h with h | h; omega; exact h h2), if_neg (fun h => h h3), if_neg (by rw [h4]; decide), if_neg (fun h => h h5), if_neg (fun h => h h6), if_neg (by rw [h7]; decide)]
theorem pfBad_y {l : Bs} {k : Nat} (hk : k < 64 * (nthU l 3 * nthU l 3)) (h : inB (pfS l k) (-2047) 2047 = false) : pfBad l = true := by
  unfold pfBad; rw [List.any_eq_true]; exact ⟨k, List.mem_range.2 hk, by rw [h]; rfl⟩
theorem pfBad_n {l : Bs} (h : ∀ k, k < 64 * (nthU l 3 * nthU l 3) → inB (pfS l k) (-2047) 2047 = true) : pfBad l = false := by
  unfold pfBad; rw [List.any_eq_false]; intro k hk; rw [h k (List.mem_range.1 hk)]; decide
theorem pf_snoc (l : Bs) (k : Nat) : rowF (fw (pfL l k)) ++ [.float .f32 (floatOfInt .f32 (pfS l k))] = rowF (fw (pfL l (k + 1))) := by simp [pfL, List.range_succ, fw, rowF]
theorem pf_snoc2 (l : Bs) {k m : Nat} (hm : m = k + 1) : rowF (fw (pfL l k)) ++ [.float .f32 (floatOfInt .f32 (w16 (whI (subU l 8 (l.length - 10)) (k * 2) 2)))] = rowF (fw (pfL l m)) := by
  subst hm; exact pf_snoc l k
theorem all_snoc {l : Bs} {pre : List Nat} {y : Nat} (h : ∀ k, k < pre.length → inB (pfS l k) (-2047) 2047 = true) (hk : inB (w16 (whI (subU l 8 (l.length - 10)) (pre.length * 2) 2)) (-2047) 2047 = true) : ∀ k, k < (pre ++ [y]).length → inB (pfS l k) (-2047) 2047 = true := by
  intro k hk2
  rw [List.length_append, List.length_cons, List.length_nil] at hk2
  rcases Nat.lt_or_ge k pre.length with q | q
  · exact h k q
  · obtain rfl : k = pre.length := by omega
    exact hk
theorem pre7 {l : Bs} (h : (decide ((l.length : Int) < 8) || !decide (subU l 0 2 = [67, 80])) = true) : l.length < 8 ∨ ¬ subU l 0 2 = [67, 80] := by
  rw [Bool.or_eq_true, decide_eq_true_iff, Bool.not_eq_true', decide_eq_false_iff_not] at h
  rcases h with h | h
  · exact .inl (by omega)
  · exact .inr h
theorem pfL_length (l : Bs) (k : Nat) : (pfL l k).length = k := by simp [pfL]
set_option maxRecDepth 100000 in
set_option maxHeartbeats 400000 in
theorem ParseFrame_s (l : List UInt8) (w0 : World) (hl : l.length ≤ 150000) :
    Calls Try.prog 31 #[.string ⟨l.toArray⟩] w0 fun e w' => ∃ v, e = .returned (.tuple #[.agg #[.int .i64 (pfP l), .int .i64 (pfE l), v], .int .i64 (pfZ l)]) ∧ Below w0.heap.size w0 w' ∧ w'.ownsRow w0.heap.size 36 1 v ((pfW l).length) (rowF (pfW l)) := by
  have S0 := St.start w0
  have hq3 := nthU_lt l 3
  have hq4 := sq_le (show nthU l 3 ≤ 255 by omega)
  refine enterM (n := 92) Try.func31 rfl rfl rfl (fun ac A0 => ?_)
  refine wp_seq ?_
  refine wp_region_lit ?_
  refine s_alloc (#[.int .i64 0, .int .i64 0, .slice none 0 0]) A0 S0 (by kernel_rfl) rfl (fun g3 ac wc A1 S2 => ?_)
  refine s_alloc (#[.int .i64 0]) A1 S2 (by kernel_rfl) rfl (fun g6 ac wc A4 S5 => ?_)
  refine wpList_nil ?_
  refine n_then ?_
  refine wp_seq ?_
  refine wp_seq ?_
  refine c_cut (fun ac wc => Fr 92 ac [(17, .bool ((decide ((l.length : Int) < 8)) || (!(decide (subU l 0 2 = [67, 80]))))), (0, .string ⟨l.toArray⟩), (2, .pointer (some ⟨g3, 0, none⟩)), (3, .pointer (some ⟨g6, 0, none⟩))] ∧ St w0 [⟨g6, 32, #[.int .i64 0], true⟩, ⟨g3, 66, #[.int .i64 0, .int .i64 0, .slice none 0 0], true⟩] [] wc) ?_ ?_
  · refine wp_region_lit ?_
    refine s_one (.string ⟨l.toArray⟩) A4 S5 (g_move (by kernel_rfl)) rfl (fun ac A7 => ?_)
    refine s_one (.int .i64 (l.length : Int)) A7 S5 (g_built (r := [(0, .string ⟨l.toArray⟩)]) (by kernel_rfl) (fun ty cs w => bl_str (l := l) Try.underlying9 ty cs w)) rfl (fun ac A8 => ?_)
    refine s_one (.bool (decide ((l.length : Int) < 8))) A8 S5 (g_bin (u := .int .i64 (l.length : Int)) (k := .int .i64 8) (by kernel_rfl) (by kernel_rfl) (fun _ => by kernel_rfl) (fun _ => by kernel_rfl)) rfl (fun ac A9 => ?_)
    refine s_one (.bool (decide ((l.length : Int) < 8))) A9 S5 (g_move (by kernel_rfl)) rfl (fun ac A10 => ?_)
    refine by_bool (decide ((l.length : Int) < 8)) (fun h11 => ?_) (fun h11 => ?_)
    · have p12 := of_decide_eq_true h11
      refine s_not (dj := 13) (b := (decide ((l.length : Int) < 8))) A10 (by kernel_rfl) (by kernel_rfl) h11 rfl (fun ac A13 => ?_)
      refine s_not (dj := 13) (b := (decide ((l.length : Int) < 8))) A13 (by kernel_rfl) (by kernel_rfl) h11 rfl (fun ac A14 => ?_)
      refine s_not (dj := 13) (b := (decide ((l.length : Int) < 8))) A14 (by kernel_rfl) (by kernel_rfl) h11 rfl (fun ac A15 => ?_)
      refine s_one (.bool true) A15 S5 (g_pick_t (b := (decide ((l.length : Int) < 8))) (by kernel_rfl) h11 (by kernel_rfl)) rfl (fun ac A16 => ?_)
      refine wpList_nil ?_
      refine n_then ?_
      exact ⟨(A16.slot (A16.slot (A16.slot (A16.slot A16.nil (v := .pointer (some ⟨g6, 0, none⟩)) (by kernel_rfl) rfl) (v := .pointer (some ⟨g3, 0, none⟩)) (by kernel_rfl) rfl) (v := .string ⟨l.toArray⟩) (by kernel_rfl) rfl) (v := .bool true) (by kernel_rfl) (congrArg Value.bool (b_ot1 h11).symm)), S5.sub sub_all sub_all⟩
    · have p17 := of_decide_eq_false h11
      refine s_want (dj := 13) (b := (decide ((l.length : Int) < 8))) A10 (by kernel_rfl) (by kernel_rfl) h11 ?_
      refine s_one (.string ⟨l.toArray⟩) A10 S5 (g_move (by kernel_rfl)) rfl (fun ac A18 => ?_)
      refine s_want (dj := 13) (b := (decide ((l.length : Int) < 8))) A18 (by kernel_rfl) (by kernel_rfl) h11 ?_
      refine s_call (fs := #[]) (cp := #[]) (r := [(0, .string ⟨l.toArray⟩), (0, .string ⟨([67, 80] : List UInt8).toArray⟩)]) #[.string ⟨l.toArray⟩, .string ⟨([67, 80] : List UInt8).toArray⟩] (.bool (decide (subU l 0 2 = [67, 80]))) A18 S5 (hasPrefix_s l _ (by omega)) Try.call78 (by kernel_rfl) (by kernel_rfl) (by kernel_rfl) rfl (fun ac wc A19 S20 => ?_)
      refine s_want (dj := 13) (b := (decide ((l.length : Int) < 8))) A19 (by kernel_rfl) (by kernel_rfl) h11 ?_
      refine s_one (.bool (!(decide (subU l 0 2 = [67, 80])))) A19 S20 (g_un (u := .bool (decide (subU l 0 2 = [67, 80]))) (by kernel_rfl) (fun _ => by kernel_rfl)) rfl (fun ac A22 => ?_)
      refine s_one (.bool (!(decide (subU l 0 2 = [67, 80])))) A22 S20 (g_pick_f (b := (decide ((l.length : Int) < 8))) (by kernel_rfl) h11 (by kernel_rfl)) rfl (fun ac A23 => ?_)
      refine wpList_nil ?_
      refine n_then ?_
      exact ⟨(A23.slot (A23.slot (A23.slot (A23.slot A23.nil (v := .pointer (some ⟨g6, 0, none⟩)) (by kernel_rfl) rfl) (v := .pointer (some ⟨g3, 0, none⟩)) (by kernel_rfl) rfl) (v := .string ⟨l.toArray⟩) (by kernel_rfl) rfl) (v := .bool (!(decide (subU l 0 2 = [67, 80])))) (by kernel_rfl) (congrArg Value.bool (b_or_f h11 (Eq.refl (!(decide (subU l 0 2 = [67, 80]))))).symm)), S20.sub sub_all sub_all⟩
  · rintro ac wc ⟨A24, S25⟩
    refine n_then ?_
    refine c_ifb (b := ((decide ((l.length : Int) < 8)) || (!(decide (subU l 0 2 = [67, 80]))))) A24 (by kernel_rfl) (fun h26 => ?_) (fun h26 => ?_)
    · refine wp_seq ?_
      refine wp_region_lit ?_
      refine s_one (.agg #[.int .i64 0, .int .i64 0, .slice none 0 0]) A24 S25 (g_build (r := []) (by kernel_rfl) (fun _ => by kernel_rfl)) rfl (fun ac A27 => ?_)
      refine s_store (g := g3) (off := 0) (v := .agg #[.int .i64 0, .int .i64 0, .slice none 0 0]) 1 (#[.int .i64 0, .int .i64 0, .slice none 0 0]) A27 S25 (by kernel_rfl) (by kernel_rfl) rfl (by kernel_rfl) (fun wc S29 => ?_)
      refine s_store (g := g6) (off := 0) (v := .int .i64 7) 0 (#[.int .i64 7]) A27 S29 (by kernel_rfl) (by kernel_rfl) rfl (by kernel_rfl) (fun wc S32 => ?_)
      refine wpList_nil ?_
      refine n_then ?_
      refine wp_ret ?_
      refine r_then ?_
      refine m_ret0 A27 ?_
      have S34 := S32.nilRow 36 1
      refine fin2 (.agg #[.int .i64 0, .int .i64 0, .slice none 0 0]) (.int .i64 7) Try.results31 A27 S34 (rv_cell (g := g3) (off := 0) 1 (by kernel_rfl) rfl (by kernel_rfl)) (rv_cell (g := g6) (off := 0) 0 (by kernel_rfl) rfl (by kernel_rfl)) ?_
      have bw := S34.kp
      have ow := S34.row 0 rfl
      have ez := pfZ_1 (l := l) (pre7 h26)
      obtain ⟨e1, e2, e3⟩ := pf_err ez (by decide)
      rw [e1, e2, e3, ez]
      exact ⟨_, rfl, bw, ow⟩
    · have h35 := (Bool.or_eq_false_iff.1 h26).1
      have p36 := of_decide_eq_false h35
      have h37 := (Bool.or_eq_false_iff.1 h26).2
      have h38 : decide (subU l 0 2 = [67, 80]) = true := by simpa using h37
      have p39 := of_decide_eq_true h38
      refine wp_skip ?_
      refine n_then ?_
      refine wp_seq ?_
      refine wp_region_lit ?_
      refine s_one (.string ⟨l.toArray⟩) A24 S25 (g_move (by kernel_rfl)) rfl (fun ac A40 => ?_)
      refine s_one (.int .u8 (nthU l 3 : Int)) A40 S25 (g_indexv (u := .string ⟨l.toArray⟩) (k := .int .i64 3) (by kernel_rfl) (by kernel_rfl) (ix_str (l := l) 3 Try.underlying9 (by omega) (by omega))) rfl (fun ac A41 => ?_)
      refine s_one (.int .i64 (nthU l 3 : Int)) A41 S25 (g_conv (u := .int .u8 (nthU l 3 : Int)) (by kernel_rfl) (conv_u8 Try.underlying5 Try.underlying3 ⟨by omega, by have h9 := nthU_lt l 3; omega⟩)) rfl (fun ac A42 => ?_)
      refine s_one (.int .i64 (nthU l 3 : Int)) A42 S25 (g_assign (by kernel_rfl)) rfl (fun ac A43 => ?_)
      refine wpList_nil ?_
      refine n_then ?_
      refine wp_seq ?_
      refine wp_block ?_
      refine wp_seq ?_
      refine wp_region_lit ?_
      refine s_one (.string ⟨l.toArray⟩) A43 S25 (g_move (by kernel_rfl)) rfl (fun ac A44 => ?_)
      refine s_one (.int .u8 (nthU l 2 : Int)) A44 S25 (g_indexv (u := .string ⟨l.toArray⟩) (k := .int .i64 2) (by kernel_rfl) (by kernel_rfl) (ix_str (l := l) 2 Try.underlying9 (by omega) (by omega))) rfl (fun ac A45 => ?_)
      refine s_one (.bool (decide ((nthU l 2 : Int) ≠ 1))) A45 S25 (g_bin (u := .int .u8 (nthU l 2 : Int)) (k := .int .u8 1) (by kernel_rfl) (by kernel_rfl) (fun _ => by kernel_rfl) b_neq) rfl (fun ac A46 => ?_)
      refine s_one (.bool (decide ((nthU l 2 : Int) ≠ 1))) A46 S25 (g_assign (by kernel_rfl)) rfl (fun ac A47 => ?_)
      refine wpList_nil ?_
      refine n_then ?_
      refine c_ifb (b := (decide ((nthU l 2 : Int) ≠ 1))) A47 (by kernel_rfl) (fun h48 => ?_) (fun h48 => ?_)
      · have p49 := of_decide_eq_true h48
        refine wp_seq ?_
        refine wp_region_lit ?_
        refine s_one (.agg #[.int .i64 0, .int .i64 0, .slice none 0 0]) A47 S25 (g_build (r := []) (by kernel_rfl) (fun _ => by kernel_rfl)) rfl (fun ac A50 => ?_)
        refine s_store (g := g3) (off := 0) (v := .agg #[.int .i64 0, .int .i64 0, .slice none 0 0]) 1 (#[.int .i64 0, .int .i64 0, .slice none 0 0]) A50 S25 (by kernel_rfl) (by kernel_rfl) rfl (by kernel_rfl) (fun wc S52 => ?_)
        refine s_store (g := g6) (off := 0) (v := .int .i64 15) 0 (#[.int .i64 15]) A50 S52 (by kernel_rfl) (by kernel_rfl) rfl (by kernel_rfl) (fun wc S55 => ?_)
        refine wpList_nil ?_
        refine n_then ?_
        refine wp_ret ?_
        refine r_block ?_
        refine r_then ?_
        refine m_ret0 A50 ?_
        have S57 := S55.nilRow 36 1
        refine fin2 (.agg #[.int .i64 0, .int .i64 0, .slice none 0 0]) (.int .i64 15) Try.results31 A50 S57 (rv_cell (g := g3) (off := 0) 1 (by kernel_rfl) rfl (by kernel_rfl)) (rv_cell (g := g6) (off := 0) 0 (by kernel_rfl) rfl (by kernel_rfl)) ?_
        have bw := S57.kp
        have ow := S57.row 0 rfl
        have ez := pfZ_2 (l := l) (by omega) p39 p49
        obtain ⟨e1, e2, e3⟩ := pf_err ez (by decide)
        rw [e1, e2, e3, ez]
        exact ⟨_, rfl, bw, ow⟩
      · have p58 := of_decide_eq_false h48
        refine wp_seq ?_
        refine wp_region_lit ?_
        refine s_one (.int .i64 (nthU l 3 : Int)) A47 S25 (g_move (by kernel_rfl)) rfl (fun ac A59 => ?_)
        refine s_call (fs := #[]) (cp := #[]) (r := [(0, .int .i64 (nthU l 3 : Int)), (0, .int .i64 1), (0, .int .i64 16)]) #[.int .i64 (nthU l 3 : Int), .int .i64 1, .int .i64 16] (.bool (inB (nthU l 3 : Int) 1 16)) A59 S25 (sameB (within_any (nthU l 3 : Int) 1 16 _)) Try.call60 (by kernel_rfl) (by kernel_rfl) (by kernel_rfl) rfl (fun ac wc A60 S61 => ?_)
        refine s_one (.bool (!(inB (nthU l 3 : Int) 1 16))) A60 S61 (g_un (u := .bool (inB (nthU l 3 : Int) 1 16)) (by kernel_rfl) (fun _ => by kernel_rfl)) rfl (fun ac A63 => ?_)
        refine s_one (.bool (!(inB (nthU l 3 : Int) 1 16))) A63 S61 (g_assign (by kernel_rfl)) rfl (fun ac A64 => ?_)
        refine wpList_nil ?_
        refine n_then ?_
        refine c_ifb (b := (!(inB (nthU l 3 : Int) 1 16))) A64 (by kernel_rfl) (fun h65 => ?_) (fun h65 => ?_)
        · have h66 : inB (nthU l 3 : Int) 1 16 = false := by simpa using h65
          refine wp_seq ?_
          refine wp_region_lit ?_
          refine s_one (.agg #[.int .i64 0, .int .i64 0, .slice none 0 0]) A64 S61 (g_build (r := []) (by kernel_rfl) (fun _ => by kernel_rfl)) rfl (fun ac A67 => ?_)
          refine s_store (g := g3) (off := 0) (v := .agg #[.int .i64 0, .int .i64 0, .slice none 0 0]) 1 (#[.int .i64 0, .int .i64 0, .slice none 0 0]) A67 S61 (by kernel_rfl) (by kernel_rfl) rfl (by kernel_rfl) (fun wc S69 => ?_)
          refine s_store (g := g6) (off := 0) (v := .int .i64 2) 0 (#[.int .i64 2]) A67 S69 (by kernel_rfl) (by kernel_rfl) rfl (by kernel_rfl) (fun wc S72 => ?_)
          refine wpList_nil ?_
          refine n_then ?_
          refine wp_ret ?_
          refine r_block ?_
          refine r_then ?_
          refine m_ret0 A67 ?_
          have S74 := S72.nilRow 36 1
          refine fin2 (.agg #[.int .i64 0, .int .i64 0, .slice none 0 0]) (.int .i64 2) Try.results31 A67 S74 (rv_cell (g := g3) (off := 0) 1 (by kernel_rfl) rfl (by kernel_rfl)) (rv_cell (g := g6) (off := 0) 0 (by kernel_rfl) rfl (by kernel_rfl)) ?_
          have bw := S74.kp
          have ow := S74.row 0 rfl
          have ez := pfZ_3 (l := l) (by omega) p39 (by omega) h66
          obtain ⟨e1, e2, e3⟩ := pf_err ez (by decide)
          rw [e1, e2, e3, ez]
          exact ⟨_, rfl, bw, ow⟩
        · have h75 : inB (nthU l 3 : Int) 1 16 = true := by simpa using h65
          refine wp_seq ?_
          refine wp_region_lit ?_
          refine s_one (.string ⟨l.toArray⟩) A64 S61 (g_move (by kernel_rfl)) rfl (fun ac A76 => ?_)
          refine s_one (.int .i64 (l.length : Int)) A76 S61 (g_built (r := [(0, .string ⟨l.toArray⟩)]) (by kernel_rfl) (fun ty cs w => bl_str (l := l) Try.underlying9 ty cs w)) rfl (fun ac A77 => ?_)
          refine s_one (.int .i64 (nthU l 3 : Int)) A77 S61 (g_move (by kernel_rfl)) rfl (fun ac A78 => ?_)
          refine s_call (fs := #[]) (cp := #[]) (r := [(0, .int .i64 (nthU l 3 : Int))]) #[.int .i64 (nthU l 3 : Int)] (.int .i64 ((10 + 128 * ((nthU l 3) * (nthU l 3)) : Nat) : Int)) A78 S61 (frameSize_s (nthU l 3) _ (by have h9 := nthU_lt l 3; omega)) Try.call77 (by kernel_rfl) (by kernel_rfl) (by kernel_rfl) rfl (fun ac wc A79 S80 => ?_)
          refine s_one (.bool (decide ((l.length : Int) ≠ ((10 + 128 * ((nthU l 3) * (nthU l 3)) : Nat) : Int)))) A79 S80 (g_bin (u := .int .i64 (l.length : Int)) (k := .int .i64 ((10 + 128 * ((nthU l 3) * (nthU l 3)) : Nat) : Int)) (by kernel_rfl) (by kernel_rfl) (fun _ => by kernel_rfl) b_neq) rfl (fun ac A82 => ?_)
          refine s_one (.bool (decide ((l.length : Int) ≠ ((10 + 128 * ((nthU l 3) * (nthU l 3)) : Nat) : Int)))) A82 S80 (g_assign (by kernel_rfl)) rfl (fun ac A83 => ?_)
          refine wpList_nil ?_
          refine n_then ?_
          refine c_ifb (b := (decide ((l.length : Int) ≠ ((10 + 128 * ((nthU l 3) * (nthU l 3)) : Nat) : Int)))) A83 (by kernel_rfl) (fun h84 => ?_) (fun h84 => ?_)
          · have p85 := of_decide_eq_true h84
            refine wp_seq ?_
            refine wp_region_lit ?_
            refine s_one (.agg #[.int .i64 0, .int .i64 0, .slice none 0 0]) A83 S80 (g_build (r := []) (by kernel_rfl) (fun _ => by kernel_rfl)) rfl (fun ac A86 => ?_)
            refine s_store (g := g3) (off := 0) (v := .agg #[.int .i64 0, .int .i64 0, .slice none 0 0]) 1 (#[.int .i64 0, .int .i64 0, .slice none 0 0]) A86 S80 (by kernel_rfl) (by kernel_rfl) rfl (by kernel_rfl) (fun wc S88 => ?_)
            refine s_store (g := g6) (off := 0) (v := .int .i64 10) 0 (#[.int .i64 10]) A86 S88 (by kernel_rfl) (by kernel_rfl) rfl (by kernel_rfl) (fun wc S91 => ?_)
            refine wpList_nil ?_
            refine n_then ?_
            refine wp_ret ?_
            refine r_block ?_
            refine r_then ?_
            refine m_ret0 A86 ?_
            have S93 := S91.nilRow 36 1
            refine fin2 (.agg #[.int .i64 0, .int .i64 0, .slice none 0 0]) (.int .i64 10) Try.results31 A86 S93 (rv_cell (g := g3) (off := 0) 1 (by kernel_rfl) rfl (by kernel_rfl)) (rv_cell (g := g6) (off := 0) 0 (by kernel_rfl) rfl (by kernel_rfl)) ?_
            have bw := S93.kp
            have ow := S93.row 0 rfl
            have ez := pfZ_4 (l := l) (by omega) p39 (by omega) h75 (by omega)
            obtain ⟨e1, e2, e3⟩ := pf_err ez (by decide)
            rw [e1, e2, e3, ez]
            exact ⟨_, rfl, bw, ow⟩
          · have p94 := of_decide_eq_false h84
            refine wp_skip ?_
            refine n_block ?_
            refine n_then ?_
            refine wp_seq ?_
            refine r_begin (w0 := w0) (by kernel_rfl) (S80.sub sub_all sub_all) (fun wc T95 B96 => ?_)
            have S97 := S80.kept B96
            refine r_take 0 (.string ⟨l.toArray⟩) A83 T95 (g_move (by kernel_rfl)) rfl rfl rfl (pf_then pf_mPost) (by kernel_rfl) (fun ac A98 => ?_)
            refine r_take 1 (.string ⟨l.toArray⟩) A98 T95 (g_move (by kernel_rfl)) rfl rfl rfl (pf_then pf_mPost) (by kernel_rfl) (fun ac A99 => ?_)
            refine r_take 2 (.int .i64 (l.length : Int)) A99 T95 (g_built (r := [(0, .string ⟨l.toArray⟩)]) (by kernel_rfl) (fun ty cs w => bl_str (l := l) Try.underlying9 ty cs w)) rfl rfl rfl (pf_then pf_mPost) (by kernel_rfl) (fun ac A100 => ?_)
            refine r_take 3 (.int .i64 ((l.length : Int) - 2)) A100 T95 (g_bin (u := .int .i64 (l.length : Int)) (k := .int .i64 2) (by kernel_rfl) (by kernel_rfl) (fun _ => by kernel_rfl) (b_sub (by omega))) rfl rfl rfl (pf_then pf_mPost) (by kernel_rfl) (fun ac A101 => ?_)
            refine r_take 4 (.string ⟨(subU l 0 (l.length - 2)).toArray⟩) A101 T95 (g_slice (u := .string ⟨l.toArray⟩) (lo' := none) (hi' := (some (.int .i64 ((l.length : Int) - 2)))) (mx' := none) (by kernel_rfl) (by kernel_rfl) (by kernel_rfl) (by kernel_rfl) (sl_strH (l := l) (h := l.length - 2) Try.underlying9 (by omega) (by omega))) rfl rfl rfl (pf_then pf_mPost) (by kernel_rfl) (fun ac A102 => ?_)
            refine r_take 5 (.string ⟨l.toArray⟩) A102 T95 (g_move (by kernel_rfl)) rfl rfl rfl (pf_then pf_mPost) (by kernel_rfl) (fun ac A103 => ?_)
            refine r_take 6 (.string ⟨l.toArray⟩) A103 T95 (g_move (by kernel_rfl)) rfl rfl rfl (pf_then pf_mPost) (by kernel_rfl) (fun ac A104 => ?_)
            refine r_take 7 (.int .i64 (l.length : Int)) A104 T95 (g_built (r := [(0, .string ⟨l.toArray⟩)]) (by kernel_rfl) (fun ty cs w => bl_str (l := l) Try.underlying9 ty cs w)) rfl rfl rfl (pf_then pf_mPost) (by kernel_rfl) (fun ac A105 => ?_)
            refine r_take 8 (.int .i64 ((l.length : Int) - 2)) A105 T95 (g_bin (u := .int .i64 (l.length : Int)) (k := .int .i64 2) (by kernel_rfl) (by kernel_rfl) (fun _ => by kernel_rfl) (b_sub (by omega))) rfl rfl rfl (pf_then pf_mPost) (by kernel_rfl) (fun ac A106 => ?_)
            refine r_take 9 (.string ⟨(subU l (l.length - 2) 2).toArray⟩) A106 T95 (g_slice (u := .string ⟨l.toArray⟩) (lo' := (some (.int .i64 ((l.length : Int) - 2)))) (hi' := none) (mx' := none) (by kernel_rfl) (by kernel_rfl) (by kernel_rfl) (by kernel_rfl) (sl_strL_n (l := l) (i := l.length - 2) (k := 2) Try.underlying9 (by omega) (by omega) (by omega))) rfl rfl rfl (pf_then pf_mPost) (by kernel_rfl) (fun ac A107 => ?_)
            refine r_take 10 (.string ⟨(subU l 0 (l.length - 2)).toArray⟩) A107 T95 (g_assign (by kernel_rfl)) rfl rfl rfl (pf_then pf_mPost) (by kernel_rfl) (fun ac A108 => ?_)
            refine r_take 11 (.string ⟨(subU l (l.length - 2) 2).toArray⟩) A108 T95 (g_assign (by kernel_rfl)) rfl rfl rfl (pf_then pf_mPost) (by kernel_rfl) (fun ac A109 => ?_)
            refine r_done (by kernel_rfl) ?_
            refine n_then ?_
            refine wp_seq ?_
            refine wp_seq ?_
            refine wp_region_lit ?_
            refine s_one (.string ⟨(subU l 0 (l.length - 2)).toArray⟩) A109 S97 (g_move (by kernel_rfl)) rfl (fun ac A110 => ?_)
            refine s_call (fs := #[]) (cp := #[]) (r := [(0, .string ⟨(subU l 0 (l.length - 2)).toArray⟩)]) #[.string ⟨(subU l 0 (l.length - 2)).toArray⟩] (.int .i64 (ckU (subU l 0 (l.length - 2)) (subU l 0 (l.length - 2)).length)) A110 S97 (check_s (subU l 0 (l.length - 2)) _ (by have h9 := subU_le l 0 (l.length - 2); omega)) Try.call79 (by kernel_rfl) (by kernel_rfl) (by kernel_rfl) rfl (fun ac wc A111 S112 => ?_)
            refine s_one (.string ⟨(subU l (l.length - 2) 2).toArray⟩) A111 S112 (g_move (by kernel_rfl)) rfl (fun ac A114 => ?_)
            refine s_call (fs := #[]) (cp := #[]) (r := [(0, .string ⟨(subU l (l.length - 2) 2).toArray⟩)]) #[.string ⟨(subU l (l.length - 2) 2).toArray⟩] (.int .i64 (whI l (l.length - 2) 2)) A114 S112 (whole_at l (l.length - 2) 2 _ (by omega) (by omega)) Try.call80 (by kernel_rfl) (by kernel_rfl) (by kernel_rfl) rfl (fun ac wc A115 S116 => ?_)
            refine s_one (.bool (decide (ckU (subU l 0 (l.length - 2)) (subU l 0 (l.length - 2)).length ≠ whI l (l.length - 2) 2))) A115 S116 (g_bin (u := .int .i64 (ckU (subU l 0 (l.length - 2)) (subU l 0 (l.length - 2)).length)) (k := .int .i64 (whI l (l.length - 2) 2)) (by kernel_rfl) (by kernel_rfl) (fun _ => by kernel_rfl) b_neq) rfl (fun ac A118 => ?_)
            refine wpList_nil ?_
            refine n_then ?_
            refine c_ifb (b := (decide (ckU (subU l 0 (l.length - 2)) (subU l 0 (l.length - 2)).length ≠ whI l (l.length - 2) 2))) A118 (by kernel_rfl) (fun h119 => ?_) (fun h119 => ?_)
            · have p120 := of_decide_eq_true h119
              refine wp_seq ?_
              refine wp_region_lit ?_
              refine s_one (.agg #[.int .i64 0, .int .i64 0, .slice none 0 0]) A118 S116 (g_build (r := []) (by kernel_rfl) (fun _ => by kernel_rfl)) rfl (fun ac A121 => ?_)
              refine s_store (g := g3) (off := 0) (v := .agg #[.int .i64 0, .int .i64 0, .slice none 0 0]) 1 (#[.int .i64 0, .int .i64 0, .slice none 0 0]) A121 S116 (by kernel_rfl) (by kernel_rfl) rfl (by kernel_rfl) (fun wc S123 => ?_)
              refine s_store (g := g6) (off := 0) (v := .int .i64 19) 0 (#[.int .i64 19]) A121 S123 (by kernel_rfl) (by kernel_rfl) rfl (by kernel_rfl) (fun wc S126 => ?_)
              refine wpList_nil ?_
              refine n_then ?_
              refine wp_ret ?_
              refine r_then ?_
              refine m_ret0 A121 ?_
              have S128 := S126.nilRow 36 1
              refine fin2 (.agg #[.int .i64 0, .int .i64 0, .slice none 0 0]) (.int .i64 19) Try.results31 A121 S128 (rv_cell (g := g3) (off := 0) 1 (by kernel_rfl) rfl (by kernel_rfl)) (rv_cell (g := g6) (off := 0) 0 (by kernel_rfl) rfl (by kernel_rfl)) ?_
              have bw := S128.kp
              have ow := S128.row 0 rfl
              have ez := pfZ_5 (l := l) (by omega) p39 (by omega) h75 (by omega) p120
              obtain ⟨e1, e2, e3⟩ := pf_err ez (by decide)
              rw [e1, e2, e3, ez]
              exact ⟨_, rfl, bw, ow⟩
            · have p129 := of_decide_eq_false h119
              refine wp_skip ?_
              refine n_then ?_
              refine wp_seq ?_
              refine wp_region_lit ?_
              refine s_one (.string ⟨(subU l 0 (l.length - 2)).toArray⟩) A118 S116 (g_move (by kernel_rfl)) rfl (fun ac A130 => ?_)
              refine s_one (.string ⟨(subU l 4 4).toArray⟩) A130 S116 (g_slice (u := .string ⟨(subU l 0 (l.length - 2)).toArray⟩) (lo' := (some (.int .i64 4))) (hi' := (some (.int .i64 8))) (mx' := none) (by kernel_rfl) (by kernel_rfl) (by kernel_rfl) (by kernel_rfl) (sl_sub_n (l := l) (b := 0) (n := (l.length - 2)) (i := 4) (h := 8) (j := 4) (k := 4) Try.underlying9 (by omega) (by omega) (by omega) (by omega) (by omega) (by omega) (by omega))) rfl (fun ac A131 => ?_)
              refine s_call (fs := #[]) (cp := #[]) (r := [(0, .string ⟨(subU l 4 4).toArray⟩)]) #[.string ⟨(subU l 4 4).toArray⟩] (.int .i64 (whI l 4 4)) A131 S116 (whole_at l 4 4 _ (by omega) (by omega)) Try.call80 (by kernel_rfl) (by kernel_rfl) (by kernel_rfl) rfl (fun ac wc A132 S133 => ?_)
              refine s_one (.int .i32 (w32 (whI l 4 4))) A132 S133 (g_conv (u := .int .i64 (whI l 4 4)) (by kernel_rfl) (fun _ => by kernel_rfl)) rfl (fun ac A135 => ?_)
              refine s_one (.int .i64 (w32 (whI l 4 4))) A135 S133 (g_conv (u := .int .i32 (w32 (whI l 4 4))) (by kernel_rfl) (conv_w32 Try.underlying21 Try.underlying3)) rfl (fun ac A136 => ?_)
              refine s_one (.int .i64 (nthU l 3 : Int)) A136 S133 (g_move (by kernel_rfl)) rfl (fun ac A137 => ?_)
              refine s_one (.agg #[.int .i64 (nthU l 3 : Int), .slice none 0 0]) A137 S133 (g_build (r := [(0, .int .i64 (nthU l 3 : Int))]) (by kernel_rfl) (fun _ => by kernel_rfl)) rfl (fun ac A138 => ?_)
              refine s_one (.agg #[.int .i64 (w32 (whI l 4 4)), .int .i64 (nthU l 3 : Int), .slice none 0 0]) A138 S133 (g_build (r := [(0, .int .i64 (w32 (whI l 4 4))), (1, .agg #[.int .i64 (nthU l 3 : Int), .slice none 0 0])]) (by kernel_rfl) (fun _ => by kernel_rfl)) rfl (fun ac A139 => ?_)
              refine s_alloc (#[.int .i64 0, .int .i64 0, .slice none 0 0]) A139 S133 (by kernel_rfl) rfl (fun g142 ac wc A140 S141 => ?_)
              refine s_store (g := g142) (off := 0) (v := .agg #[.int .i64 (w32 (whI l 4 4)), .int .i64 (nthU l 3 : Int), .slice none 0 0]) 0 (#[.int .i64 (w32 (whI l 4 4)), .int .i64 (nthU l 3 : Int), .slice none 0 0]) A140 S141 (by kernel_rfl) (by kernel_rfl) rfl (by kernel_rfl) (fun wc S144 => ?_)
              refine wpList_nil ?_
              refine n_then ?_
              refine wp_seq ?_
              refine wp_seq ?_
              refine wp_region_lit ?_
              refine s_one (.pointer (some ⟨g142, 0, none⟩)) A140 S144 (g_field (u := .pointer (some ⟨g142, 0, none⟩)) (by kernel_rfl) (fun _ => by kernel_rfl)) rfl (fun ac A146 => ?_)
              refine s_one (.int .i64 (w32 (whI l 4 4))) A146 S144 (g_load (g := g142) (off := 0) 0 (by kernel_rfl) rfl (by kernel_rfl)) rfl (fun ac A147 => ?_)
              refine s_call (fs := #[]) (cp := #[]) (r := [(0, .int .i64 (w32 (whI l 4 4))), (0, .int .i64 1000000000)]) #[.int .i64 (w32 (whI l 4 4)), .int .i64 1000000000] (.bool (inB (w32 (whI l 4 4)) (-1000000000) 1000000000)) A147 S144 (small_s (w32 (whI l 4 4)) 1000000000 _ (by omega) (by omega)) Try.call81 (by kernel_rfl) (by kernel_rfl) (by kernel_rfl) rfl (fun ac wc A148 S149 => ?_)
              refine s_one (.bool (!(inB (w32 (whI l 4 4)) (-1000000000) 1000000000))) A148 S149 (g_un (u := .bool (inB (w32 (whI l 4 4)) (-1000000000) 1000000000)) (by kernel_rfl) (fun _ => by kernel_rfl)) rfl (fun ac A151 => ?_)
              refine wpList_nil ?_
              refine n_then ?_
              refine c_ifb (b := (!(inB (w32 (whI l 4 4)) (-1000000000) 1000000000))) A151 (by kernel_rfl) (fun h152 => ?_) (fun h152 => ?_)
              · have h153 : inB (w32 (whI l 4 4)) (-1000000000) 1000000000 = false := by simpa using h152
                refine wp_seq ?_
                refine wp_region_lit ?_
                refine s_one (.agg #[.int .i64 0, .int .i64 0, .slice none 0 0]) A151 S149 (g_build (r := []) (by kernel_rfl) (fun _ => by kernel_rfl)) rfl (fun ac A154 => ?_)
                refine s_store (g := g3) (off := 0) (v := .agg #[.int .i64 0, .int .i64 0, .slice none 0 0]) 2 (#[.int .i64 0, .int .i64 0, .slice none 0 0]) A154 S149 (by kernel_rfl) (by kernel_rfl) rfl (by kernel_rfl) (fun wc S156 => ?_)
                refine s_store (g := g6) (off := 0) (v := .int .i64 2) 1 (#[.int .i64 2]) A154 S156 (by kernel_rfl) (by kernel_rfl) rfl (by kernel_rfl) (fun wc S159 => ?_)
                refine wpList_nil ?_
                refine n_then ?_
                refine wp_ret ?_
                refine r_then ?_
                refine m_ret0 A154 ?_
                have S161 := S159.nilRow 36 1
                refine fin2 (.agg #[.int .i64 0, .int .i64 0, .slice none 0 0]) (.int .i64 2) Try.results31 A154 S161 (rv_cell (g := g3) (off := 0) 2 (by kernel_rfl) rfl (by kernel_rfl)) (rv_cell (g := g6) (off := 0) 1 (by kernel_rfl) rfl (by kernel_rfl)) ?_
                have bw := S161.kp
                have ow := S161.row 0 rfl
                have ez := pfZ_6 (l := l) (by omega) p39 (by omega) h75 (by omega) (by omega) h153
                obtain ⟨e1, e2, e3⟩ := pf_err ez (by decide)
                rw [e1, e2, e3, ez]
                exact ⟨_, rfl, bw, ow⟩
              · have h162 : inB (w32 (whI l 4 4)) (-1000000000) 1000000000 = true := by simpa using h152
                refine wp_skip ?_
                refine n_then ?_
                refine wp_seq ?_
                refine wp_seq ?_
                refine wp_region_lit ?_
                refine s_one (.string ⟨(subU l 0 (l.length - 2)).toArray⟩) A151 S149 (g_move (by kernel_rfl)) rfl (fun ac A163 => ?_)
                refine s_one (.string ⟨(subU l 8 (l.length - 10)).toArray⟩) A163 S149 (g_slice (u := .string ⟨(subU l 0 (l.length - 2)).toArray⟩) (lo' := (some (.int .i64 8))) (hi' := none) (mx' := none) (by kernel_rfl) (by kernel_rfl) (by kernel_rfl) (by kernel_rfl) (sl_subL_n (l := l) (b := 0) (n := (l.length - 2)) (i := 8) (j := 8) (k := (l.length - 10)) Try.underlying9 (by omega) (by omega) (by omega) (by omega) (by omega))) rfl (fun ac A164 => ?_)
                refine s_bytesOf (l := subU l 8 (l.length - 10)) A164 S149 (by kernel_rfl) Try.underlying9 Try.underlying144 Try.underlying5 rfl (fun wz165 ad166 cap167 ac hc169 hz170 A168 hkx171 S172 => ?_)
                refine s_callSt (T := Nat × Nat) (fs := #[]) (cp := #[]) (r := [(0, .slice (some ad166) (subU l 8 (l.length - 10)).length cap167), (0, .int .i64 2)]) #[.slice (some ad166) (subU l 8 (l.length - 10)).length cap167, .int .i64 2] (fun u => .func (.func 108) #[] #[.pointer (some ⟨u.1, 0, none⟩), .pointer (some ⟨u.2, 0, none⟩)]) (fun u => [⟨u.2, 3, #[.int .i64 2], true⟩, ⟨u.1, 144, #[.slice (some ad166) (subU l 8 (l.length - 10)).length cap167], true⟩]) (fun u => []) A168 S172 (ChunkB_s (some ad166) ((subU l 8 (l.length - 10)).length) cap167 2 _ (by omega) (by omega)) (fun u x hx => by simp only [List.mem_cons, List.not_mem_nil, or_false] at hx; rcases hx with rfl | rfl <;> rfl) Try.call82 (by kernel_rfl) (by kernel_rfl) (by kernel_rfl) rfl (fun u178 ac wc A173 S174 => ?_)
                obtain ⟨gc176, gd177⟩ := u178
                replace S174 : St ⟨w0, wz165⟩ [⟨gd177, 3, #[.int .i64 2], true⟩, ⟨gc176, 144, #[.slice (some ad166) (subU l 8 (l.length - 10)).length cap167], true⟩, ⟨g142, 66, #[.int .i64 (w32 (whI l 4 4)), .int .i64 (nthU l 3 : Int), .slice none 0 0], true⟩, ⟨g6, 32, #[.int .i64 0], true⟩, ⟨g3, 66, #[.int .i64 0, .int .i64 0, .slice none 0 0], true⟩] [] _ := S174
                refine wpList_nil ?_
                refine n_then ?_
                refine wp_block ?_
                have hbl : (subU l 8 (l.length - 10)).length = 64 * (nthU l 3 * nthU l 3) * 2 := by rw [subU_length (by omega)]; omega
                have hcap := hc169
                have SF179 := St.first S174
                refine c_range (α := Nat) (gf := 108) (fs := #[]) (lb := #[.pointer (some ⟨gc176, 0, none⟩), .pointer (some ⟨gd177, 0, none⟩)]) (encs := fun x => #[.slice (some (ad166.add (x * 2))) 2 2]) (G := [⟨gc176, 144, #[.slice (some ad166) (subU l 8 (l.length - 10)).length cap167], true⟩, ⟨gd177, 3, #[.int .i64 2], true⟩]) (xs := List.range (64 * (nthU l 3 * nthU l 3))) A173 SF179 (by kernel_rfl) Try.call108 (List.forall_mem_cons.2 ⟨SF179.get 1 rfl, (List.forall_mem_cons.2 ⟨SF179.get 0 rfl, (List.forall_mem_nil _)⟩)⟩) (chunkB_seq gc176 gd177 true true ad166 (subU l 8 (l.length - 10)).length cap167 2 (64 * (nthU l 3 * nthU l 3)) (by decide) hbl hcap (by omega)) (fun _ => rfl) (fun x => [(72, .slice (some (ad166.add (x * 2))) 2 2)]) (fun _ => (by first | rfl | simp)) (fun _ => (List.forall_mem_cons.2 ⟨(show 72 < 92 by decide), (List.forall_mem_nil _)⟩)) (fun pre W => ∃ (v : Value), (BRd 5 W ad166 (subU l 8 (l.length - 10))) ∧ (∀ k, k < pre.length → inB (pfS l k) (-2047) 2047 = true) ∧ St w0 [⟨gd177, 3, #[.int .i64 2], true⟩, ⟨gc176, 144, #[.slice (some ad166) (subU l 8 (l.length - 10)).length cap167], true⟩, ⟨g142, 66, #[.int .i64 (w32 (whI l 4 4)), .int .i64 (nthU l 3 : Int), v], true⟩, ⟨g6, 32, #[.int .i64 0], true⟩, ⟨g3, 66, #[.int .i64 0, .int .i64 0, .slice none 0 0], true⟩] [⟨v, 36, 1, pre.length, (rowF (fw (pfL l pre.length)))⟩] W) (fun _ W => pfBad l = true ∧ St w0 [⟨g6, 32, #[.int .i64 2], true⟩, ⟨g3, 66, #[.int .i64 0, .int .i64 0, .slice none 0 0], true⟩] [] W) ?_ ?_ ?_ ?_ (fun x => [(8, .slice (some (ad166.add (x * 2))) 2 2), (72, .slice (some (ad166.add (x * 2))) 2 2), (0, .string ⟨l.toArray⟩), (2, .pointer (some ⟨g3, 0, none⟩)), (3, .pointer (some ⟨g6, 0, none⟩)), (17, .bool ((decide ((l.length : Int) < 8)) || (!(decide (subU l 0 2 = [67, 80]))))), (19, .string ⟨l.toArray⟩), (20, .int .u8 (nthU l 3 : Int)), (21, .int .i64 (nthU l 3 : Int)), (4, .int .i64 (nthU l 3 : Int)), (23, .string ⟨l.toArray⟩), (24, .int .u8 (nthU l 2 : Int)), (25, .bool (decide ((nthU l 2 : Int) ≠ 1))), (22, .bool (decide ((nthU l 2 : Int) ≠ 1))), (28, .int .i64 (nthU l 3 : Int)), (29, .bool (inB (nthU l 3 : Int) 1 16)), (30, .bool (!(inB (nthU l 3 : Int) 1 16))), (27, .bool (!(inB (nthU l 3 : Int) 1 16))), (33, .string ⟨l.toArray⟩), (34, .int .i64 (l.length : Int)), (35, .int .i64 (nthU l 3 : Int)), (36, .int .i64 ((10 + 128 * ((nthU l 3) * (nthU l 3)) : Nat) : Int)), (37, .bool (decide ((l.length : Int) ≠ ((10 + 128 * ((nthU l 3) * (nthU l 3)) : Nat) : Int)))), (32, .bool (decide ((l.length : Int) ≠ ((10 + 128 * ((nthU l 3) * (nthU l 3)) : Nat) : Int)))), (39, .string ⟨l.toArray⟩), (40, .string ⟨l.toArray⟩), (41, .int .i64 (l.length : Int)), (42, .int .i64 ((l.length : Int) - 2)), (43, .string ⟨(subU l 0 (l.length - 2)).toArray⟩), (44, .string ⟨l.toArray⟩), (45, .string ⟨l.toArray⟩), (46, .int .i64 (l.length : Int)), (47, .int .i64 ((l.length : Int) - 2)), (48, .string ⟨(subU l (l.length - 2) 2).toArray⟩), (5, .string ⟨(subU l 0 (l.length - 2)).toArray⟩), (6, .string ⟨(subU l (l.length - 2) 2).toArray⟩), (49, .string ⟨(subU l 0 (l.length - 2)).toArray⟩), (50, .int .i64 (ckU (subU l 0 (l.length - 2)) (subU l 0 (l.length - 2)).length)), (51, .string ⟨(subU l (l.length - 2) 2).toArray⟩), (52, .int .i64 (whI l (l.length - 2) 2)), (53, .bool (decide (ckU (subU l 0 (l.length - 2)) (subU l 0 (l.length - 2)).length ≠ whI l (l.length - 2) 2))), (55, .string ⟨(subU l 0 (l.length - 2)).toArray⟩), (56, .string ⟨(subU l 4 4).toArray⟩), (57, .int .i64 (whI l 4 4)), (58, .int .i32 (w32 (whI l 4 4))), (59, .int .i64 (w32 (whI l 4 4))), (60, .int .i64 (nthU l 3 : Int)), (61, .agg #[.int .i64 (nthU l 3 : Int), .slice none 0 0]), (62, .agg #[.int .i64 (w32 (whI l 4 4)), .int .i64 (nthU l 3 : Int), .slice none 0 0]), (7, .pointer (some ⟨g142, 0, none⟩)), (63, .pointer (some ⟨g142, 0, none⟩)), (64, .int .i64 (w32 (whI l 4 4))), (65, .bool (inB (w32 (whI l 4 4)) (-1000000000) 1000000000)), (66, .bool (!(inB (w32 (whI l 4 4)) (-1000000000) 1000000000))), (68, .string ⟨(subU l 0 (l.length - 2)).toArray⟩), (69, .string ⟨(subU l 8 (l.length - 10)).toArray⟩), (70, .slice (some ad166) (subU l 8 (l.length - 10)).length cap167), (71, .func (.func 108) #[] #[.pointer (some ⟨gc176, 0, none⟩), .pointer (some ⟨gd177, 0, none⟩)])]) ?_ ?_ ?_ ?_
                · rintro pre W W' row ⟨v, hB, hall, hS⟩ hg hr
                  exact ⟨v, (BRd.round hB hg (fun r e => (hr r e).2)), hall, St.round hS hg hr⟩
                · rintro pre W W' ⟨v, hB, hall, hS⟩ hb
                  exact ⟨v, (hB.below hb), hall, hS.kept hb⟩
                · rintro pre W W' row ⟨hb, hS⟩ hg hr
                  exact ⟨hb, St.round hS hg hr⟩
                · have S180 := SF179.nilRow 36 1
                  exact ⟨.slice none 0 0, BRd.keep hz170 (St.others S174), fun k hk => absurd hk (Nat.not_lt_zero k), (St.rerow 0 (St.recell 2 S180 rfl (by rfl)) rfl ⟨rfl, rfl⟩).sub sub_all sub_all⟩
                · intro lz x a' WA K HA HK
                  have SA := St.start WA
                  replace HA : Fr 92 a' [(72, .slice (some (ad166.add (x * 2))) 2 2), (0, .string ⟨l.toArray⟩), (2, .pointer (some ⟨g3, 0, none⟩)), (3, .pointer (some ⟨g6, 0, none⟩)), (17, .bool ((decide ((l.length : Int) < 8)) || (!(decide (subU l 0 2 = [67, 80]))))), (19, .string ⟨l.toArray⟩), (20, .int .u8 (nthU l 3 : Int)), (21, .int .i64 (nthU l 3 : Int)), (4, .int .i64 (nthU l 3 : Int)), (23, .string ⟨l.toArray⟩), (24, .int .u8 (nthU l 2 : Int)), (25, .bool (decide ((nthU l 2 : Int) ≠ 1))), (22, .bool (decide ((nthU l 2 : Int) ≠ 1))), (28, .int .i64 (nthU l 3 : Int)), (29, .bool (inB (nthU l 3 : Int) 1 16)), (30, .bool (!(inB (nthU l 3 : Int) 1 16))), (27, .bool (!(inB (nthU l 3 : Int) 1 16))), (33, .string ⟨l.toArray⟩), (34, .int .i64 (l.length : Int)), (35, .int .i64 (nthU l 3 : Int)), (36, .int .i64 ((10 + 128 * ((nthU l 3) * (nthU l 3)) : Nat) : Int)), (37, .bool (decide ((l.length : Int) ≠ ((10 + 128 * ((nthU l 3) * (nthU l 3)) : Nat) : Int)))), (32, .bool (decide ((l.length : Int) ≠ ((10 + 128 * ((nthU l 3) * (nthU l 3)) : Nat) : Int)))), (39, .string ⟨l.toArray⟩), (40, .string ⟨l.toArray⟩), (41, .int .i64 (l.length : Int)), (42, .int .i64 ((l.length : Int) - 2)), (43, .string ⟨(subU l 0 (l.length - 2)).toArray⟩), (44, .string ⟨l.toArray⟩), (45, .string ⟨l.toArray⟩), (46, .int .i64 (l.length : Int)), (47, .int .i64 ((l.length : Int) - 2)), (48, .string ⟨(subU l (l.length - 2) 2).toArray⟩), (5, .string ⟨(subU l 0 (l.length - 2)).toArray⟩), (6, .string ⟨(subU l (l.length - 2) 2).toArray⟩), (49, .string ⟨(subU l 0 (l.length - 2)).toArray⟩), (50, .int .i64 (ckU (subU l 0 (l.length - 2)) (subU l 0 (l.length - 2)).length)), (51, .string ⟨(subU l (l.length - 2) 2).toArray⟩), (52, .int .i64 (whI l (l.length - 2) 2)), (53, .bool (decide (ckU (subU l 0 (l.length - 2)) (subU l 0 (l.length - 2)).length ≠ whI l (l.length - 2) 2))), (55, .string ⟨(subU l 0 (l.length - 2)).toArray⟩), (56, .string ⟨(subU l 4 4).toArray⟩), (57, .int .i64 (whI l 4 4)), (58, .int .i32 (w32 (whI l 4 4))), (59, .int .i64 (w32 (whI l 4 4))), (60, .int .i64 (nthU l 3 : Int)), (61, .agg #[.int .i64 (nthU l 3 : Int), .slice none 0 0]), (62, .agg #[.int .i64 (w32 (whI l 4 4)), .int .i64 (nthU l 3 : Int), .slice none 0 0]), (7, .pointer (some ⟨g142, 0, none⟩)), (63, .pointer (some ⟨g142, 0, none⟩)), (64, .int .i64 (w32 (whI l 4 4))), (65, .bool (inB (w32 (whI l 4 4)) (-1000000000) 1000000000)), (66, .bool (!(inB (w32 (whI l 4 4)) (-1000000000) 1000000000))), (68, .string ⟨(subU l 0 (l.length - 2)).toArray⟩), (69, .string ⟨(subU l 8 (l.length - 10)).toArray⟩), (70, .slice (some ad166) (subU l 8 (l.length - 10)).length cap167), (71, .func (.func 108) #[] #[.pointer (some ⟨gc176, 0, none⟩), .pointer (some ⟨gd177, 0, none⟩)])] := (HA.slot (HA.slot (HA.slot (HA.slot (HA.slot (HA.slot (HA.slot (HA.slot (HA.slot (HA.slot (HA.slot (HA.slot (HA.slot (HA.slot (HA.slot (HA.slot (HA.slot (HA.slot (HA.slot (HA.slot (HA.slot (HA.slot (HA.slot (HA.slot (HA.slot (HA.slot (HA.slot (HA.slot (HA.slot (HA.slot (HA.slot (HA.slot (HA.slot (HA.slot (HA.slot (HA.slot (HA.slot (HA.slot (HA.slot (HA.slot (HA.slot (HA.slot (HA.slot (HA.slot (HA.slot (HA.slot (HA.slot (HA.slot (HA.slot (HA.slot (HA.slot (HA.slot (HA.slot (HA.slot (HA.slot (HA.slot (HA.slot HA.nil (v := .func (.func 108) #[] #[.pointer (some ⟨gc176, 0, none⟩), .pointer (some ⟨gd177, 0, none⟩)]) (by kernel_rfl) rfl) (v := .slice (some ad166) (subU l 8 (l.length - 10)).length cap167) (by kernel_rfl) rfl) (v := .string ⟨(subU l 8 (l.length - 10)).toArray⟩) (by kernel_rfl) rfl) (v := .string ⟨(subU l 0 (l.length - 2)).toArray⟩) (by kernel_rfl) rfl) (v := .bool (!(inB (w32 (whI l 4 4)) (-1000000000) 1000000000))) (by kernel_rfl) rfl) (v := .bool (inB (w32 (whI l 4 4)) (-1000000000) 1000000000)) (by kernel_rfl) rfl) (v := .int .i64 (w32 (whI l 4 4))) (by kernel_rfl) rfl) (v := .pointer (some ⟨g142, 0, none⟩)) (by kernel_rfl) rfl) (v := .pointer (some ⟨g142, 0, none⟩)) (by kernel_rfl) rfl) (v := .agg #[.int .i64 (w32 (whI l 4 4)), .int .i64 (nthU l 3 : Int), .slice none 0 0]) (by kernel_rfl) rfl) (v := .agg #[.int .i64 (nthU l 3 : Int), .slice none 0 0]) (by kernel_rfl) rfl) (v := .int .i64 (nthU l 3 : Int)) (by kernel_rfl) rfl) (v := .int .i64 (w32 (whI l 4 4))) (by kernel_rfl) rfl) (v := .int .i32 (w32 (whI l 4 4))) (by kernel_rfl) rfl) (v := .int .i64 (whI l 4 4)) (by kernel_rfl) rfl) (v := .string ⟨(subU l 4 4).toArray⟩) (by kernel_rfl) rfl) (v := .string ⟨(subU l 0 (l.length - 2)).toArray⟩) (by kernel_rfl) rfl) (v := .bool (decide (ckU (subU l 0 (l.length - 2)) (subU l 0 (l.length - 2)).length ≠ whI l (l.length - 2) 2))) (by kernel_rfl) rfl) (v := .int .i64 (whI l (l.length - 2) 2)) (by kernel_rfl) rfl) (v := .string ⟨(subU l (l.length - 2) 2).toArray⟩) (by kernel_rfl) rfl) (v := .int .i64 (ckU (subU l 0 (l.length - 2)) (subU l 0 (l.length - 2)).length)) (by kernel_rfl) rfl) (v := .string ⟨(subU l 0 (l.length - 2)).toArray⟩) (by kernel_rfl) rfl) (v := .string ⟨(subU l (l.length - 2) 2).toArray⟩) (by kernel_rfl) rfl) (v := .string ⟨(subU l 0 (l.length - 2)).toArray⟩) (by kernel_rfl) rfl) (v := .string ⟨(subU l (l.length - 2) 2).toArray⟩) (by kernel_rfl) rfl) (v := .int .i64 ((l.length : Int) - 2)) (by kernel_rfl) rfl) (v := .int .i64 (l.length : Int)) (by kernel_rfl) rfl) (v := .string ⟨l.toArray⟩) (by kernel_rfl) rfl) (v := .string ⟨l.toArray⟩) (by kernel_rfl) rfl) (v := .string ⟨(subU l 0 (l.length - 2)).toArray⟩) (by kernel_rfl) rfl) (v := .int .i64 ((l.length : Int) - 2)) (by kernel_rfl) rfl) (v := .int .i64 (l.length : Int)) (by kernel_rfl) rfl) (v := .string ⟨l.toArray⟩) (by kernel_rfl) rfl) (v := .string ⟨l.toArray⟩) (by kernel_rfl) rfl) (v := .bool (decide ((l.length : Int) ≠ ((10 + 128 * ((nthU l 3) * (nthU l 3)) : Nat) : Int)))) (by kernel_rfl) rfl) (v := .bool (decide ((l.length : Int) ≠ ((10 + 128 * ((nthU l 3) * (nthU l 3)) : Nat) : Int)))) (by kernel_rfl) rfl) (v := .int .i64 ((10 + 128 * ((nthU l 3) * (nthU l 3)) : Nat) : Int)) (by kernel_rfl) rfl) (v := .int .i64 (nthU l 3 : Int)) (by kernel_rfl) rfl) (v := .int .i64 (l.length : Int)) (by kernel_rfl) rfl) (v := .string ⟨l.toArray⟩) (by kernel_rfl) rfl) (v := .bool (!(inB (nthU l 3 : Int) 1 16))) (by kernel_rfl) rfl) (v := .bool (!(inB (nthU l 3 : Int) 1 16))) (by kernel_rfl) rfl) (v := .bool (inB (nthU l 3 : Int) 1 16)) (by kernel_rfl) rfl) (v := .int .i64 (nthU l 3 : Int)) (by kernel_rfl) rfl) (v := .bool (decide ((nthU l 2 : Int) ≠ 1))) (by kernel_rfl) rfl) (v := .bool (decide ((nthU l 2 : Int) ≠ 1))) (by kernel_rfl) rfl) (v := .int .u8 (nthU l 2 : Int)) (by kernel_rfl) rfl) (v := .string ⟨l.toArray⟩) (by kernel_rfl) rfl) (v := .int .i64 (nthU l 3 : Int)) (by kernel_rfl) rfl) (v := .int .i64 (nthU l 3 : Int)) (by kernel_rfl) rfl) (v := .int .u8 (nthU l 3 : Int)) (by kernel_rfl) rfl) (v := .string ⟨l.toArray⟩) (by kernel_rfl) rfl) (v := .bool ((decide ((l.length : Int) < 8)) || (!(decide (subU l 0 2 = [67, 80]))))) (by kernel_rfl) rfl) (v := .pointer (some ⟨g6, 0, none⟩)) (by kernel_rfl) rfl) (v := .pointer (some ⟨g3, 0, none⟩)) (by kernel_rfl) rfl) (v := .string ⟨l.toArray⟩) (by kernel_rfl) rfl) (v := .slice (some (ad166.add (x * 2))) 2 2) (by kernel_rfl) rfl)
                  refine i_region noOut_assign (by kernel_rfl) ?_
                  refine s_one (.slice (some (ad166.add (x * 2))) 2 2) HA SA (g_assign (by kernel_rfl)) rfl (fun ac A181 => ?_)
                  refine wpList_nil ?_
                  refine n_then ?_
                  exact HK _ (A181.slot (A181.slot (A181.slot (A181.slot (A181.slot (A181.slot (A181.slot (A181.slot (A181.slot (A181.slot (A181.slot (A181.slot (A181.slot (A181.slot (A181.slot (A181.slot (A181.slot (A181.slot (A181.slot (A181.slot (A181.slot (A181.slot (A181.slot (A181.slot (A181.slot (A181.slot (A181.slot (A181.slot (A181.slot (A181.slot (A181.slot (A181.slot (A181.slot (A181.slot (A181.slot (A181.slot (A181.slot (A181.slot (A181.slot (A181.slot (A181.slot (A181.slot (A181.slot (A181.slot (A181.slot (A181.slot (A181.slot (A181.slot (A181.slot (A181.slot (A181.slot (A181.slot (A181.slot (A181.slot (A181.slot (A181.slot (A181.slot (A181.slot A181.nil (v := .func (.func 108) #[] #[.pointer (some ⟨gc176, 0, none⟩), .pointer (some ⟨gd177, 0, none⟩)]) (by kernel_rfl) rfl) (v := .slice (some ad166) (subU l 8 (l.length - 10)).length cap167) (by kernel_rfl) rfl) (v := .string ⟨(subU l 8 (l.length - 10)).toArray⟩) (by kernel_rfl) rfl) (v := .string ⟨(subU l 0 (l.length - 2)).toArray⟩) (by kernel_rfl) rfl) (v := .bool (!(inB (w32 (whI l 4 4)) (-1000000000) 1000000000))) (by kernel_rfl) rfl) (v := .bool (inB (w32 (whI l 4 4)) (-1000000000) 1000000000)) (by kernel_rfl) rfl) (v := .int .i64 (w32 (whI l 4 4))) (by kernel_rfl) rfl) (v := .pointer (some ⟨g142, 0, none⟩)) (by kernel_rfl) rfl) (v := .pointer (some ⟨g142, 0, none⟩)) (by kernel_rfl) rfl) (v := .agg #[.int .i64 (w32 (whI l 4 4)), .int .i64 (nthU l 3 : Int), .slice none 0 0]) (by kernel_rfl) rfl) (v := .agg #[.int .i64 (nthU l 3 : Int), .slice none 0 0]) (by kernel_rfl) rfl) (v := .int .i64 (nthU l 3 : Int)) (by kernel_rfl) rfl) (v := .int .i64 (w32 (whI l 4 4))) (by kernel_rfl) rfl) (v := .int .i32 (w32 (whI l 4 4))) (by kernel_rfl) rfl) (v := .int .i64 (whI l 4 4)) (by kernel_rfl) rfl) (v := .string ⟨(subU l 4 4).toArray⟩) (by kernel_rfl) rfl) (v := .string ⟨(subU l 0 (l.length - 2)).toArray⟩) (by kernel_rfl) rfl) (v := .bool (decide (ckU (subU l 0 (l.length - 2)) (subU l 0 (l.length - 2)).length ≠ whI l (l.length - 2) 2))) (by kernel_rfl) rfl) (v := .int .i64 (whI l (l.length - 2) 2)) (by kernel_rfl) rfl) (v := .string ⟨(subU l (l.length - 2) 2).toArray⟩) (by kernel_rfl) rfl) (v := .int .i64 (ckU (subU l 0 (l.length - 2)) (subU l 0 (l.length - 2)).length)) (by kernel_rfl) rfl) (v := .string ⟨(subU l 0 (l.length - 2)).toArray⟩) (by kernel_rfl) rfl) (v := .string ⟨(subU l (l.length - 2) 2).toArray⟩) (by kernel_rfl) rfl) (v := .string ⟨(subU l 0 (l.length - 2)).toArray⟩) (by kernel_rfl) rfl) (v := .string ⟨(subU l (l.length - 2) 2).toArray⟩) (by kernel_rfl) rfl) (v := .int .i64 ((l.length : Int) - 2)) (by kernel_rfl) rfl) (v := .int .i64 (l.length : Int)) (by kernel_rfl) rfl) (v := .string ⟨l.toArray⟩) (by kernel_rfl) rfl) (v := .string ⟨l.toArray⟩) (by kernel_rfl) rfl) (v := .string ⟨(subU l 0 (l.length - 2)).toArray⟩) (by kernel_rfl) rfl) (v := .int .i64 ((l.length : Int) - 2)) (by kernel_rfl) rfl) (v := .int .i64 (l.length : Int)) (by kernel_rfl) rfl) (v := .string ⟨l.toArray⟩) (by kernel_rfl) rfl) (v := .string ⟨l.toArray⟩) (by kernel_rfl) rfl) (v := .bool (decide ((l.length : Int) ≠ ((10 + 128 * ((nthU l 3) * (nthU l 3)) : Nat) : Int)))) (by kernel_rfl) rfl) (v := .bool (decide ((l.length : Int) ≠ ((10 + 128 * ((nthU l 3) * (nthU l 3)) : Nat) : Int)))) (by kernel_rfl) rfl) (v := .int .i64 ((10 + 128 * ((nthU l 3) * (nthU l 3)) : Nat) : Int)) (by kernel_rfl) rfl) (v := .int .i64 (nthU l 3 : Int)) (by kernel_rfl) rfl) (v := .int .i64 (l.length : Int)) (by kernel_rfl) rfl) (v := .string ⟨l.toArray⟩) (by kernel_rfl) rfl) (v := .bool (!(inB (nthU l 3 : Int) 1 16))) (by kernel_rfl) rfl) (v := .bool (!(inB (nthU l 3 : Int) 1 16))) (by kernel_rfl) rfl) (v := .bool (inB (nthU l 3 : Int) 1 16)) (by kernel_rfl) rfl) (v := .int .i64 (nthU l 3 : Int)) (by kernel_rfl) rfl) (v := .bool (decide ((nthU l 2 : Int) ≠ 1))) (by kernel_rfl) rfl) (v := .bool (decide ((nthU l 2 : Int) ≠ 1))) (by kernel_rfl) rfl) (v := .int .u8 (nthU l 2 : Int)) (by kernel_rfl) rfl) (v := .string ⟨l.toArray⟩) (by kernel_rfl) rfl) (v := .int .i64 (nthU l 3 : Int)) (by kernel_rfl) rfl) (v := .int .i64 (nthU l 3 : Int)) (by kernel_rfl) rfl) (v := .int .u8 (nthU l 3 : Int)) (by kernel_rfl) rfl) (v := .string ⟨l.toArray⟩) (by kernel_rfl) rfl) (v := .bool ((decide ((l.length : Int) < 8)) || (!(decide (subU l 0 2 = [67, 80]))))) (by kernel_rfl) rfl) (v := .pointer (some ⟨g6, 0, none⟩)) (by kernel_rfl) rfl) (v := .pointer (some ⟨g3, 0, none⟩)) (by kernel_rfl) rfl) (v := .string ⟨l.toArray⟩) (by kernel_rfl) rfl) (v := .slice (some (ad166.add (x * 2))) 2 2) (by kernel_rfl) rfl) (v := .slice (some (ad166.add (x * 2))) 2 2) (by kernel_rfl) rfl)
                · rintro lz pre x rest a' WB182 hx ⟨v, hB, hall, hS⟩ HA
                  have SB183 := St.begin hS
                  obtain ⟨rfl, hpre, hlt⟩ := range_next hx
                  refine wpIn_block ?_
                  refine wpIn_seq ?_
                  refine i_region (noOut_then (noOut_block noOut_body)) (by kernel_rfl) ?_
                  refine s_one (.slice (some (ad166.add (pre.length * 2))) 2 2) HA SB183 (g_move (by kernel_rfl)) rfl (fun ac A184 => ?_)
                  refine s_one (.string ⟨(subU (subU l 8 (l.length - 10)) (pre.length * 2) 2).toArray⟩) A184 SB183 (g_strOf (ad := ad166) (l := subU l 8 (l.length - 10)) (i := pre.length * 2) (k := 2) (c := 2) (by kernel_rfl) hB (by omega) Try.underlying144 Try.underlying5 Try.underlying9) rfl (fun ac A185 => ?_)
                  refine s_call (fs := #[]) (cp := #[]) (r := [(0, .string ⟨(subU (subU l 8 (l.length - 10)) (pre.length * 2) 2).toArray⟩)]) #[.string ⟨(subU (subU l 8 (l.length - 10)) (pre.length * 2) 2).toArray⟩] (.int .i64 (whI (subU l 8 (l.length - 10)) (pre.length * 2) 2)) A185 SB183 (whole_at (subU l 8 (l.length - 10)) (pre.length * 2) 2 _ (by omega) (by omega)) Try.call80 (by kernel_rfl) (by kernel_rfl) (by kernel_rfl) rfl (fun ac wc A186 S187 => ?_)
                  refine s_one (.int .i16 (w16 (whI (subU l 8 (l.length - 10)) (pre.length * 2) 2))) A186 S187 (g_conv (u := .int .i64 (whI (subU l 8 (l.length - 10)) (pre.length * 2) 2)) (by kernel_rfl) (fun _ => by kernel_rfl)) rfl (fun ac A189 => ?_)
                  refine s_one (.int .i64 (w16 (whI (subU l 8 (l.length - 10)) (pre.length * 2) 2))) A189 S187 (g_conv (u := .int .i16 (w16 (whI (subU l 8 (l.length - 10)) (pre.length * 2) 2))) (by kernel_rfl) (conv_w16 Try.underlying145 Try.underlying3)) rfl (fun ac A190 => ?_)
                  refine s_one (.int .i64 (w16 (whI (subU l 8 (l.length - 10)) (pre.length * 2) 2))) A190 S187 (g_assign (by kernel_rfl)) rfl (fun ac A191 => ?_)
                  refine wpList_nil ?_
                  refine n_then ?_
                  refine wpIn_seq ?_
                  refine wpIn_seq ?_
                  refine i_region (noOut_then (noOut_then (noOut_block noOut_body))) (by kernel_rfl) ?_
                  refine s_one (.int .i64 (w16 (whI (subU l 8 (l.length - 10)) (pre.length * 2) 2))) A191 S187 (g_move (by kernel_rfl)) rfl (fun ac A192 => ?_)
                  refine s_call (fs := #[]) (cp := #[]) (r := [(0, .int .i64 (w16 (whI (subU l 8 (l.length - 10)) (pre.length * 2) 2))), (0, .int .i64 2047)]) #[.int .i64 (w16 (whI (subU l 8 (l.length - 10)) (pre.length * 2) 2)), .int .i64 2047] (.bool (inB (w16 (whI (subU l 8 (l.length - 10)) (pre.length * 2) 2)) (-2047) 2047)) A192 S187 (small_s (w16 (whI (subU l 8 (l.length - 10)) (pre.length * 2) 2)) 2047 _ (by omega) (by omega)) Try.call81 (by kernel_rfl) (by kernel_rfl) (by kernel_rfl) rfl (fun ac wc A193 S194 => ?_)
                  refine s_one (.bool (!(inB (w16 (whI (subU l 8 (l.length - 10)) (pre.length * 2) 2)) (-2047) 2047))) A193 S194 (g_un (u := .bool (inB (w16 (whI (subU l 8 (l.length - 10)) (pre.length * 2) 2)) (-2047) 2047)) (by kernel_rfl) (fun _ => by kernel_rfl)) rfl (fun ac A196 => ?_)
                  refine wpList_nil ?_
                  refine n_then ?_
                  refine i_ifb (b := (!(inB (w16 (whI (subU l 8 (l.length - 10)) (pre.length * 2) 2)) (-2047) 2047))) A196 (by kernel_rfl) (fun h197 => ?_) (fun h197 => ?_)
                  · have h198 : inB (w16 (whI (subU l 8 (l.length - 10)) (pre.length * 2) 2)) (-2047) 2047 = false := by simpa using h197
                    refine wpIn_seq ?_
                    refine i_region (noOut_then (noOut_then (noOut_block noOut_body))) (by kernel_rfl) ?_
                    refine s_one (.agg #[.int .i64 0, .int .i64 0, .slice none 0 0]) A196 S194 (g_build (r := []) (by kernel_rfl) (fun _ => by kernel_rfl)) rfl (fun ac A199 => ?_)
                    refine s_store (g := g3) (off := 0) (v := .agg #[.int .i64 0, .int .i64 0, .slice none 0 0]) 4 (#[.int .i64 0, .int .i64 0, .slice none 0 0]) A199 S194 (by kernel_rfl) (by kernel_rfl) rfl (by kernel_rfl) (fun wc S201 => ?_)
                    refine s_store (g := g6) (off := 0) (v := .int .i64 2) 3 (#[.int .i64 2]) A199 S201 (by kernel_rfl) (by kernel_rfl) rfl (by kernel_rfl) (fun wc S204 => ?_)
                    refine wpList_nil ?_
                    refine n_then ?_
                    refine wpIn_ret ?_
                    refine r_then ?_
                    refine r_block ?_
                    refine r_stop (w0 := w0) S204 (fun SE => ⟨pfBad_y (k := pre.length) (by omega) h198, SE.sub (sub_skip (sub_skip (sub_skip sub_all))) sub_nil⟩)
                  · have h206 : inB (w16 (whI (subU l 8 (l.length - 10)) (pre.length * 2) 2)) (-2047) 2047 = true := by simpa using h197
                    refine wpIn_skip ?_
                    refine n_then ?_
                    refine i_region (noOut_block noOut_body) (by kernel_rfl) ?_
                    refine s_one (.pointer (some ⟨g142, 1, none⟩)) A196 S194 (g_field (u := .pointer (some ⟨g142, 0, none⟩)) (by kernel_rfl) (fun _ => by kernel_rfl)) rfl (fun ac A207 => ?_)
                    refine s_one (.pointer (some ⟨g142, 2, none⟩)) A207 S194 (g_field (u := .pointer (some ⟨g142, 1, none⟩)) (by kernel_rfl) (fun _ => by kernel_rfl)) rfl (fun ac A208 => ?_)
                    refine s_one (v) A208 S194 (g_load (g := g142) (off := 2) 2 (by kernel_rfl) rfl (by kernel_rfl)) rfl (fun ac A209 => ?_)
                    refine s_one (.int .i64 (w16 (whI (subU l 8 (l.length - 10)) (pre.length * 2) 2))) A209 S194 (g_move (by kernel_rfl)) rfl (fun ac A210 => ?_)
                    refine s_one (.float .f32 (floatOfInt .f32 (w16 (whI (subU l 8 (l.length - 10)) (pre.length * 2) 2)))) A210 S194 (g_conv (u := .int .i64 (w16 (whI (subU l 8 (l.length - 10)) (pre.length * 2) 2))) (by kernel_rfl) (fun _ => by kernel_rfl)) rfl (fun ac A211 => ?_)
                    refine s_bs (e := 36) (r := [(0, .float .f32 (floatOfInt .f32 (w16 (whI (subU l 8 (l.length - 10)) (pre.length * 2) 2))))]) (#[.float .f32 (floatOfInt .f32 (w16 (whI (subU l 8 (l.length - 10)) (pre.length * 2) 2)))]) A211 S194 (by kernel_rfl) (by kernel_rfl) rfl (fun g214 ac wc A212 S213 => ?_)
                    refine s_append (e := 36) (size := 1) (bytes := 4) (v := v) (g := g214) (m' := 1) (c := 1) 0 0 [.float .f32 (floatOfInt .f32 (w16 (whI (subU l 8 (l.length - 10)) (pre.length * 2) 2)))] A212 S213 (by kernel_rfl) (by kernel_rfl) (by kernel_rfl) rfl rfl (by kernel_rfl) rfl (by kernel_rfl) (by omega) (by omega) rfl (fun v218 ac wc A215 S216 => ?_)
                    refine s_one (.pointer (some ⟨g142, 1, none⟩)) A215 S216 (g_field (u := .pointer (some ⟨g142, 0, none⟩)) (by kernel_rfl) (fun _ => by kernel_rfl)) rfl (fun ac A219 => ?_)
                    refine s_one (.pointer (some ⟨g142, 2, none⟩)) A219 S216 (g_field (u := .pointer (some ⟨g142, 1, none⟩)) (by kernel_rfl) (fun _ => by kernel_rfl)) rfl (fun ac A220 => ?_)
                    obtain ⟨A221, cap222, rfl⟩ := row_slice (v := v218) (m := pre.length + 1) (S216.row 0 rfl)
                    refine s_store (g := g142) (off := 2) (v := .slice A221 (pre.length + 1) cap222) 3 (#[.int .i64 (w32 (whI l 4 4)), .int .i64 (nthU l 3 : Int), .slice A221 (pre.length + 1) cap222]) A220 S216 (by kernel_rfl) (by kernel_rfl) rfl (by kernel_rfl) (fun wc S224 => ?_)
                    refine wpList_nil ?_
                    refine n_block ?_
                    refine r_end (w0 := w0) S224 (KpG.cons (S224.get 2 rfl) (KpG.cons (S224.get 1 rfl) KpG.nil)) (fun SE => ?_)
                    exact ⟨.slice A221 (pre.length + 1) cap222, BRd.keep hB (St.others S224), all_snoc hall h206, (St.rerow 0 (St.recell 3 SE rfl (by rfl)) rfl ⟨by simp, pf_snoc2 l (by simp)⟩).sub (sub_skip sub_all) sub_all⟩
                · rintro D226 a' WD227 hD228 ⟨v, hB, hall, hS⟩ hK229 HA230
                  have SD231 := St.begin hS
                  have SR : St ⟨w0, WD227⟩ [⟨gd177, 3, #[.int .i64 2], true⟩, ⟨gc176, 144, #[.slice (some ad166) (subU l 8 (l.length - 10)).length cap167], true⟩, ⟨g142, 66, #[.int .i64 (w32 (whI l 4 4)), .int .i64 (nthU l 3 : Int), v], true⟩, ⟨g6, 32, #[.int .i64 0], true⟩, ⟨g3, 66, #[.int .i64 0, .int .i64 0, .slice none 0 0], true⟩] [⟨v, 36, 1, (64 * (nthU l 3 * nthU l 3)), (rowF (fw (pfL l (64 * (nthU l 3 * nthU l 3)))))⟩] _ := St.rerow 0 SD231 rfl ⟨List.length_range, by rw [List.length_range]⟩
                  have hbn : pfBad l = false := pfBad_n (by simpa using hall)
                  refine n_block ?_
                  refine n_then ?_
                  refine wp_seq ?_
                  refine wp_region_lit ?_
                  refine s_one (.agg #[.int .i64 (w32 (whI l 4 4)), .int .i64 (nthU l 3 : Int), v]) HA230 SR (g_load (g := g142) (off := 0) 2 (by kernel_rfl) rfl (by kernel_rfl)) rfl (fun ac A232 => ?_)
                  obtain ⟨A233, cap234, rfl⟩ := row_slice (v := v) (m := (64 * (nthU l 3 * nthU l 3))) (SR.row 0 rfl)
                  refine s_store (g := g3) (off := 0) (v := .agg #[.int .i64 (w32 (whI l 4 4)), .int .i64 (nthU l 3 : Int), .slice A233 (64 * (nthU l 3 * nthU l 3)) cap234]) 4 (#[.int .i64 (w32 (whI l 4 4)), .int .i64 (nthU l 3 : Int), .slice A233 (64 * (nthU l 3 * nthU l 3)) cap234]) A232 SR (by kernel_rfl) (by kernel_rfl) rfl (by kernel_rfl) (fun wc S236 => ?_)
                  refine s_store (g := g6) (off := 0) (v := .int .i64 0) 3 (#[.int .i64 0]) A232 S236 (by kernel_rfl) (by kernel_rfl) rfl (by kernel_rfl) (fun wc S239 => ?_)
                  refine wpList_nil ?_
                  refine n_then ?_
                  refine wp_ret ?_
                  refine m_ret (w0 := w0) A232 S239 hK229 hD228 (fun ac wc A241 S242 => ?_)
                  refine fin2 (.agg #[.int .i64 (w32 (whI l 4 4)), .int .i64 (nthU l 3 : Int), .slice A233 (64 * (nthU l 3 * nthU l 3)) cap234]) (.int .i64 0) Try.results31 A241 S242 (rv_cell (g := g3) (off := 0) 4 (by kernel_rfl) rfl (by kernel_rfl)) (rv_cell (g := g6) (off := 0) 3 (by kernel_rfl) rfl (by kernel_rfl)) ?_
                  have bw := S242.kp
                  have ow := S242.row 0 rfl
                  have ez := pfZ_7 (l := l) (by omega) p39 (by omega) h75 (by omega) (by omega) h162
                  rw [hbn, if_neg (by decide)] at ez
                  obtain ⟨e1, e2, e3⟩ := pf_ok ez
                  rw [e1, e2, e3, ez, fw_length, pfL_length]
                  exact ⟨_, rfl, bw, ow⟩
                · rintro D pre a' WD hD ⟨hbad, hS⟩ hK HA
                  have SD := St.begin hS
                  refine r_block ?_
                  refine r_then ?_
                  refine m_ret (w0 := w0) HA SD hK hD (fun ac wc A243 S244 => ?_)
                  have S245 := S244.nilRow 36 1
                  refine fin2 (.agg #[.int .i64 0, .int .i64 0, .slice none 0 0]) (.int .i64 2) Try.results31 A243 S245 (rv_cell (g := g3) (off := 0) 1 (by kernel_rfl) rfl (by kernel_rfl)) (rv_cell (g := g6) (off := 0) 0 (by kernel_rfl) rfl (by kernel_rfl)) ?_
                  have bw := S245.kp
                  have ow := S245.row 0 rfl
                  have ez := pfZ_7 (l := l) (by omega) p39 (by omega) h75 (by omega) (by omega) h162
                  rw [hbad, if_pos rfl] at ez
                  obtain ⟨e1, e2, e3⟩ := pf_err ez (by decide)
                  rw [e1, e2, e3, ez]
                  exact ⟨_, rfl, bw, ow⟩
end Go.Proofs.Ytcijkniijomcjaa
/-! Frames: what the reference does with bytes. -/
namespace Go.Proofs.Ytcijkniijomcjaa
open Go.RowKit Go.Cpl
/-- A number's bytes, the greatest ones first. -/
def dvU (c : Int) : Nat → Int
  | 0 => c
  | k + 1 => dvU c k / 256
def byU (c : Int) : Nat → Bs
  | 0 => []
  | k + 1 => ([UInt8.ofNat (dvU c k % 256).toNat] : List UInt8) ++ byU c k
theorem byU_length (c : Int) (k : Nat) : (byU c k).length = k := by
  induction k with
  | zero => rfl
  | succ k ih => simp only [byU, List.length_append, List.length_cons, List.length_nil, ih]; omega
theorem nthU_one {y : Int} (h : 0 ≤ y ∧ y < 256) : ((UInt8.ofNat y.toNat).toNat : Int) = y := by
  rw [UInt8.toNat_ofNat', Nat.mod_eq_of_lt (by omega)]; omega
/-- The error of a frame. -/
def frE (p el : Int) (xs : List Nat) : Int := if inB p (-1000000000) 1000000000 = true then (mxC el xs).2 else 2
theorem frE_n {p el : Int} {xs : List Nat} (h : inB p (-1000000000) 1000000000 = false) : frE p el xs = 2 := if_neg (by rw [h]; decide)
theorem frE_y {p el : Int} {xs : List Nat} (h : inB p (-1000000000) 1000000000 = true) : frE p el xs = (mxC el xs).2 := if_pos h
section
variable {P : Program} {ops : Array Oper} {Q : Exit → Act → World → Prop} {n : Sz} {a : Act} {w0 : Base} {w : World} {F : Fm} {L Ls : List Bk} {M Ms : List Rw} {rest : List Oper}
end
end Go.Proofs.Ytcijkniijomcjaa
/-! Cells that can be read, and a walk that goes on from the world of now. -/
namespace Go.Proofs.Ytcijkniijomcjaa
open Go.RowKit Go.Cpl
/-- Cells that can be read. -/
def VReads (w : World) (A : Option Addr) (X : List Value) : Prop := ∀ k x, X[k]? = some x → ∃ ad, A = some ad ∧ w.cell? (ad.add k) = some x
theorem VReads.kept {w w' : World} {A : Option Addr} {X : List Value} (h : VReads w A X) (hk : Kp w w') : VReads w' A X := by
  intro k x hx
  obtain ⟨ad, rfl, hc⟩ := h k x hx
  exact ⟨ad, rfl, by rw [hk.cell (p := ad.add k) (World.block_lt_of_cell? w _ hc)]; exact hc⟩
section
variable {P : Program} {ops : Array Oper} {Q : Exit → Act → World → Prop} {n : Sz} {a : Act} {w0 : Base} {w : World} {F : Fm} {L Ls : List Bk} {M Ms : List Rw} {rest : List Oper}
theorem g_loadXV {ty : TypeId} {x : Operand} {p : Addr} {X : List Value} {v : Value} (hx : evO F x = some (.pointer (some p))) (hr : ∀ j x, X[j]? = some x → w0.w.cell? (p.add j) = some x) (ht : rowType P ty X.length = true) (hv : v = .agg X.toArray) : Gives P F w0 L M (.load ty x) v := fun _ _ w hA hS _ _ _ _ _ => by
  subst hv
  obtain ⟨d, hu, hd, hi⟩ := rowType_spec ht
  have h1 : ∀ j x, X[j]? = some x → w.cell? (p.add j) = some x := fun j x hx => by
    have hc := hr j x hx
    rw [hS.kp.cell (p := p.add j) (World.block_lt_of_cell? w0.w _ hc)]; exact hc
  simp only [execOp, hA.ev hx, Instr.loadAt, Instr.sureAddr, Sem.run_bind, Sem.run_pure, Result.andThen_ok, run_loadVar_list h1 hu hd hi]
end
end Go.Proofs.Ytcijkniijomcjaa
/-! Frames as bytes. -/
namespace Go.Proofs.Ytcijkniijomcjaa
open Go.RowKit Go.Cpl
/-- Bytes as cells. -/
def rowU (l : Bs) : List Value := l.map fun b => .int .u8 (b.toNat : Int)
theorem rowU_length (l : Bs) : (rowU l).length = l.length := by simp [rowU]
theorem rowU_app (l m : Bs) : rowU (l ++ m) = rowU l ++ rowU m := by simp [rowU]
/-- The first bytes of a number that has so many. -/
def byT (c : Int) (m : Nat) : Nat → Bs
  | 0 => []
  | k + 1 => byT c m k ++ [UInt8.ofNat (dvU c (m - 1 - k) % 256).toNat]
theorem byT_cons (c : Int) (m : Nat) : ∀ k, k ≤ m → byT c (m + 1) (k + 1) = UInt8.ofNat (dvU c m % 256).toNat :: byT c m k := by
  intro k
  induction k with
  | zero => intro _; simp [byT]
  | succ k ih =>
    intro hk
    rw [show byT c (m + 1) (k + 1 + 1) = byT c (m + 1) (k + 1) ++ [UInt8.ofNat (dvU c (m + 1 - 1 - (k + 1)) % 256).toNat] from rfl, ih (by omega)]
    rw [show byT c m (k + 1) = byT c m k ++ [UInt8.ofNat (dvU c (m - 1 - k) % 256).toNat] from rfl, List.cons_append]
    rw [show m + 1 - 1 - (k + 1) = m - 1 - k by omega]
theorem byT_all (c : Int) (m : Nat) : byT c m m = byU c m := by
  induction m with
  | zero => rfl
  | succ m ih => rw [byT_cons c m m (Nat.le_refl _), ih]; rfl
theorem rowU_one {y : Int} (h : 0 ≤ y ∧ y < 256) : rowU [UInt8.ofNat y.toNat] = [.int .u8 y] := by
  show [Value.int .u8 ((UInt8.ofNat y.toNat).toNat : Int)] = _
  rw [nthU_one h]
theorem dvU_pow (c : Int) (k : Nat) : dvU c k = c / 2 ^ (8 * k) := by
  induction k with
  | zero => simp [dvU]
  | succ k ih =>
    unfold dvU
    rw [ih, Int.ediv_ediv_of_nonneg (Int.pow_nonneg (by decide)), show 8 * (k + 1) = 8 * k + 8 by omega, Int.pow_add]
    rfl
theorem nthU_app {pre m suf : Bs} {j : Nat} (hj : j < m.length) : nthU (pre ++ m ++ suf) (pre.length + j) = nthU m j := by
  unfold nthU
  rw [List.append_assoc, List.getD_eq_getElem?_getD, List.getElem?_append_right (by omega), Nat.add_sub_cancel_left, List.getElem?_append_left hj, List.getD_eq_getElem?_getD]
/-- The number of a number's bytes. -/
theorem whI_byU2 (x : Int) (pre suf : Bs) : whI (pre ++ byU x 2 ++ suf) pre.length 2 = x % 65536 := by
  have h0 := nthU_app (pre := pre) (m := byU x 2) (suf := suf) (j := 0) (by rw [byU_length]; omega)
  have h1 := nthU_app (pre := pre) (m := byU x 2) (suf := suf) (j := 1) (by rw [byU_length]; omega)
  have e0 : (nthU (byU x 2) 0 : Int) = x / 256 % 256 := nthU_one (y := x / 256 % 256) (by omega)
  have e1 : (nthU (byU x 2) 1 : Int) = x % 256 := nthU_one (y := x % 256) (by omega)
  show (0 * 256 + (nthU (pre ++ byU x 2 ++ suf) (pre.length + 0) : Int)) * 256 + (nthU (pre ++ byU x 2 ++ suf) (pre.length + 1) : Int) = _
  rw [h0, h1, e0, e1]
  omega
theorem whI_byU4 (x : Int) (pre suf : Bs) : whI (pre ++ byU x 4 ++ suf) pre.length 4 = x % 4294967296 := by
  have h0 := nthU_app (pre := pre) (m := byU x 4) (suf := suf) (j := 0) (by rw [byU_length]; omega)
  have h1 := nthU_app (pre := pre) (m := byU x 4) (suf := suf) (j := 1) (by rw [byU_length]; omega)
  have h2 := nthU_app (pre := pre) (m := byU x 4) (suf := suf) (j := 2) (by rw [byU_length]; omega)
  have h3 := nthU_app (pre := pre) (m := byU x 4) (suf := suf) (j := 3) (by rw [byU_length]; omega)
  have e0 : (nthU (byU x 4) 0 : Int) = x / 256 / 256 / 256 % 256 := nthU_one (y := x / 256 / 256 / 256 % 256) (by omega)
  have e1 : (nthU (byU x 4) 1 : Int) = x / 256 / 256 % 256 := nthU_one (y := x / 256 / 256 % 256) (by omega)
  have e2 : (nthU (byU x 4) 2 : Int) = x / 256 % 256 := nthU_one (y := x / 256 % 256) (by omega)
  have e3 : (nthU (byU x 4) 3 : Int) = x % 256 := nthU_one (y := x % 256) (by omega)
  show (((0 * 256 + (nthU (pre ++ byU x 4 ++ suf) (pre.length + 0) : Int)) * 256 + (nthU (pre ++ byU x 4 ++ suf) (pre.length + 1) : Int)) * 256 + (nthU (pre ++ byU x 4 ++ suf) (pre.length + 2) : Int)) * 256 + (nthU (pre ++ byU x 4 ++ suf) (pre.length + 3) : Int) = _
  rw [h0, h1, h2, h3, e0, e1, e2, e3]
  omega
/-- The bytes of a frame, ahead of the check and with it. -/
def smB (l : List Int) : Bs := l.flatMap fun x => byU x 2
def fmB (p el : Int) (l : List Int) : Bs := [67, 80] ++ byU 1 1 ++ byU el 1 ++ byU p 4 ++ smB l
def fmt (p el : Int) (l : List Int) : Bs := fmB p el l ++ byU (ckU (fmB p el l) (fmB p el l).length) 2
theorem smB_length (l : List Int) : (smB l).length = l.length * 2 := by
  induction l with
  | nil => rfl
  | cons x l ih => simp only [smB, List.flatMap_cons, List.length_append, byU_length, List.length_cons] at ih ⊢; rw [ih]; omega
theorem fmB_length (p el : Int) (l : List Int) : (fmB p el l).length = 8 + l.length * 2 := by simp [fmB, byU_length, smB_length]; omega
theorem fmt_length (p el : Int) (l : List Int) : (fmt p el l).length = 10 + l.length * 2 := by simp only [fmt, List.length_append, fmB_length, byU_length]; omega
theorem fmt_body (p el : Int) (l : List Int) : subU (fmt p el l) 0 ((fmt p el l).length - 2) = fmB p el l := by
  have h : (fmt p el l).length - 2 = (fmB p el l).length := by rw [fmt_length, fmB_length]; omega
  rw [h]
  simp [subU, fmt]
theorem fmt_ck (p el : Int) (l : List Int) : whI (fmt p el l) ((fmt p el l).length - 2) 2 = ckU (fmB p el l) (fmB p el l).length := by
  have h : (fmt p el l).length - 2 = (fmB p el l).length := by rw [fmt_length, fmB_length]; omega
  have e : fmt p el l = fmB p el l ++ byU (ckU (fmB p el l) (fmB p el l).length) 2 ++ [] := by simp [fmt]
  have r := ckU_range (fmB p el l) (fmB p el l).length
  rw [h]
  conv => lhs; rw [e]
  rw [whI_byU2]
  omega
theorem fmt_pos {p : Int} (el : Int) (l : List Int) (h : -1000000000 ≤ p ∧ p ≤ 1000000000) : w32 (whI (fmt p el l) 4 4) = p := by
  have e : fmt p el l = ([67, 80] ++ byU 1 1 ++ byU el 1) ++ byU p 4 ++ (smB l ++ byU (ckU (fmB p el l) (fmB p el l).length) 2) := by simp [fmt, fmB]
  have hl : ([67, 80] ++ byU 1 1 ++ byU el 1 : Bs).length = 4 := by simp [byU_length]
  have := whI_byU4 p ([67, 80] ++ byU 1 1 ++ byU el 1) (smB l ++ byU (ckU (fmB p el l) (fmB p el l).length) 2)
  rw [hl, ← e] at this
  rw [this, w32_mod]
  omega
theorem smB_split {l : List Int} {k : Nat} (hk : k < l.length) : smB l = smB (l.take k) ++ byU (nthI l k) 2 ++ smB (l.drop (k + 1)) := by
  have e : l = l.take k ++ nthI l k :: l.drop (k + 1) := by
    rw [nthI_eq hk, ← List.drop_eq_getElem_cons hk, List.take_append_drop]
  conv => lhs; rw [e]
  simp [smB]
theorem fmt_smp (p el : Int) {l : List Int} {k : Nat} (hk : k < l.length) (hx : -2047 ≤ nthI l k ∧ nthI l k ≤ 2047) : pfS (fmt p el l) k = nthI l k := by
  unfold pfS
  rw [whI_sub (by rw [fmt_length]; omega)]
  have e : fmt p el l = ([67, 80] ++ byU 1 1 ++ byU el 1 ++ byU p 4 ++ smB (l.take k)) ++ byU (nthI l k) 2 ++ (smB (l.drop (k + 1)) ++ byU (ckU (fmB p el l) (fmB p el l).length) 2) := by
    have key : ∀ t : Bs, fmB p el l ++ t = ([67, 80] ++ byU 1 1 ++ byU el 1 ++ byU p 4 ++ smB (l.take k)) ++ byU (nthI l k) 2 ++ (smB (l.drop (k + 1)) ++ t) := fun t => by
      unfold fmB
      conv => lhs; rw [smB_split hk]
      simp
    exact key _
  have hl : ([67, 80] ++ byU 1 1 ++ byU el 1 ++ byU p 4 ++ smB (l.take k) : Bs).length = 8 + k * 2 := by simp [byU_length, smB_length]; omega
  have := whI_byU2 (nthI l k) ([67, 80] ++ byU 1 1 ++ byU el 1 ++ byU p 4 ++ smB (l.take k)) (smB (l.drop (k + 1)) ++ byU (ckU (fmB p el l) (fmB p el l).length) 2)
  rw [hl, ← e] at this
  rw [this, w16_mod]
  omega
/-- A right frame's bytes are read back. -/
theorem fmt_back {p : Int} {ne : Nat} {l : List Int} (hp : -1000000000 ≤ p ∧ p ≤ 1000000000) (h1 : 1 ≤ ne) (h2 : ne ≤ 16) (hl : l.length = ne * ne * 64) (hr : ∀ k, -2047 ≤ nthI l k ∧ nthI l k ≤ 2047) :
    pfZ (fmt p (ne : Int) l) = 0 ∧ pfP (fmt p (ne : Int) l) = p ∧ pfE (fmt p (ne : Int) l) = (ne : Int) ∧ pfW (fmt p (ne : Int) l) = fw l := by
  have e2 : subU (fmt p (ne : Int) l) 0 2 = [67, 80] := by simp [subU, fmt, fmB]
  have e3 : nthU (fmt p (ne : Int) l) 2 = 1 := rfl
  have e4 : (nthU (fmt p (ne : Int) l) 3 : Int) = (ne : Int) := by
    have : (nthU (fmt p (ne : Int) l) 3 : Int) = (ne : Int) % 256 := nthU_one (y := (ne : Int) % 256) (by omega)
    omega
  have e4' : nthU (fmt p (ne : Int) l) 3 = ne := by omega
  have hlen := fmt_length p (ne : Int) l
  have h8 : 8 ≤ (fmt p (ne : Int) l).length := by omega
  have h5 : (fmt p (ne : Int) l).length = 10 + 128 * (nthU (fmt p (ne : Int) l) 3 * nthU (fmt p (ne : Int) l) 3) := by rw [e4', hlen, hl]; omega
  have h6 : ckU (subU (fmt p (ne : Int) l) 0 ((fmt p (ne : Int) l).length - 2)) (subU (fmt p (ne : Int) l) 0 ((fmt p (ne : Int) l).length - 2)).length = whI (fmt p (ne : Int) l) ((fmt p (ne : Int) l).length - 2) 2 := by rw [fmt_body, fmt_ck]
  have h7 : inB (w32 (whI (fmt p (ne : Int) l) 4 4)) (-1000000000) 1000000000 = true := by rw [fmt_pos _ _ hp]; exact inB_true.2 hp
  have hb : pfBad (fmt p (ne : Int) l) = false := pfBad_n fun k hk => by
    rw [e4'] at hk
    rw [fmt_smp p _ (by omega) (hr k)]
    exact inB_true.2 (hr k)
  have ez : pfZ (fmt p (ne : Int) l) = 0 := by
    rw [pfZ_7 h8 e2 (by rw [e3]; rfl) (by rw [e4]; exact inB_true.2 (by omega)) h5 h6 h7, hb, if_neg (by decide)]
  obtain ⟨a, b, c⟩ := pf_ok ez
  refine ⟨ez, by rw [a, fmt_pos _ _ hp], by rw [b, e4], ?_⟩
  rw [c, e4']
  congr 1
  apply List.ext_getElem
  · rw [pfL_length, hl]; omega
  · intro i hi1 hi2
    have := fmt_smp p (ne : Int) hi2 (hr i)
    rw [nthI_eq hi2] at this
    simp only [pfL, List.getElem_map, List.getElem_range]
    exact this
end Go.Proofs.Ytcijkniijomcjaa
/-! Slices of matrices, and their means. -/
namespace Go.Proofs.Ytcijkniijomcjaa
open Go.RowKit Go.Cpl
/-- A matrix in a slice of matrices: its elements, its slice of samples, their words. -/
structure Mt where
  el : Int
  B : Option Addr
  n : Nat
  c : Nat
  xs : List Nat
def mtC (m : Mt) : List Value := [.int .i64 m.el, .slice m.B m.n m.c]
def mtX (ms : List Mt) : List Value := ms.flatMap mtC
def mtK (ms : List Mt) (k : Nat) : Mt := ms.getD k ⟨0, none, 0, 0, []⟩
/-- What can be read of a matrix. -/
structure MtOk (w : World) (m : Mt) : Prop where
  len : m.xs.length = m.n
  cap : m.n ≤ m.c
  rd : FReads w m.B m.xs
  few : m.n ≤ 1000
  lo : -9223372036854775808 ≤ m.el
  hi : m.el ≤ 9223372036854775807
theorem MtOk.kept {w w' : World} {m : Mt} (h : MtOk w m) (k : Kp w w') : MtOk w' m := ⟨h.len, h.cap, h.rd.kept k, h.few, h.lo, h.hi⟩
def MtReads (w : World) (A : Option Addr) (ms : List Mt) : Prop := VReads w A (mtX ms) ∧ ∀ k, k < ms.length → MtOk w (mtK ms k)
theorem MtReads.kept {w w' : World} {A : Option Addr} {ms : List Mt} (h : MtReads w A ms) (k : Kp w w') : MtReads w' A ms := ⟨h.1.kept k, fun i hi => (h.2 i hi).kept k⟩
theorem mtX_get {ms : List Mt} {k : Nat} (hk : k < ms.length) : ∀ j x, (mtC (mtK ms k))[j]? = some x → (mtX ms)[k * 2 + j]? = some x := by
  induction ms generalizing k with
  | nil => exact absurd hk (Nat.not_lt_zero _)
  | cons m ms ih =>
    intro j x hx
    have hj : j < 2 := by have := (List.getElem?_eq_some_iff.1 hx).1; simpa [mtC] using this
    have e : mtX (m :: ms) = mtC m ++ mtX ms := rfl
    rw [e]
    cases k with
    | zero =>
      rw [List.getElem?_append_left (by simp [mtC]; omega), Nat.zero_mul, Nat.zero_add]
      exact hx
    | succ k =>
      rw [List.getElem?_append_right (by simp [mtC]; omega), show (k + 1) * 2 + j - (mtC m).length = k * 2 + j by simp [mtC]; omega]
      exact ih (by rw [List.length_cons] at hk; omega) j x hx
/-- A matrix of a slice of matrices, in the cells that hold it. -/
theorem mt_at {w : World} {A : Option Addr} {ms : List Mt} {k : Nat} (h : MtReads w A ms) (hk : k < ms.length) : ∃ ad, A = some ad ∧ ∀ j x, (mtC (mtK ms k))[j]? = some x → w.cell? ((ad.add (k * 2)).add j) = some x := by
  obtain ⟨ad, rfl, _⟩ := h.1 (k * 2 + 0) (.int .i64 (mtK ms k).el) (mtX_get hk 0 _ rfl)
  refine ⟨ad, rfl, fun j x hx => ?_⟩
  obtain ⟨ad', e, hc⟩ := h.1 (k * 2 + j) x (mtX_get hk j x hx)
  cases e
  rw [Addr.add_add]; exact hc
/-- The error of a mean, its elements and its samples. -/
def avF (e0 : Int) : List Mt → Int
  | [] => 0
  | m :: ms => if (mxC m.el m.xs).2 = 0 then (if m.el = e0 then avF e0 ms else 13) else (mxC m.el m.xs).2
def avZ (ms : List Mt) : Int := if ms.length = 0 then 10 else if 32 < ms.length then 8 else avF (mtK ms 0).el ms
def avGood (ms : List Mt) (k : Nat) : Prop := ∀ j, j < k → (mxC (mtK ms j).el (mtK ms j).xs).2 = 0 ∧ (mtK ms j).el = (mtK ms 0).el
theorem mtK_zero (m : Mt) (ms : List Mt) : mtK (m :: ms) 0 = m := rfl
theorem avF_skip {e0 : Int} : ∀ {ms : List Mt} {k : Nat}, k ≤ ms.length → (∀ j, j < k → (mxC (mtK ms j).el (mtK ms j).xs).2 = 0 ∧ (mtK ms j).el = e0) → avF e0 ms = avF e0 (ms.drop k) := by
  intro ms
  induction ms with
  | nil =>
    intro k hk _
    obtain rfl : k = 0 := by simpa using hk
    rfl
  | cons m ms ih =>
    intro k hk h
    cases k with
    | zero => rfl
    | succ k =>
      have h0 := h 0 (by omega)
      rw [mtK_zero] at h0
      rw [List.drop_succ_cons, ← ih (by rw [List.length_cons] at hk; omega) (fun j hj => h (j + 1) (by omega))]
      show (if (mxC m.el m.xs).2 = 0 then (if m.el = e0 then avF e0 ms else 13) else (mxC m.el m.xs).2) = _
      rw [if_pos h0.1, if_pos h0.2]
theorem drop_mtK {ms : List Mt} {k : Nat} (hk : k < ms.length) : ms.drop k = mtK ms k :: ms.drop (k + 1) := by
  rw [List.drop_eq_getElem_cons hk]
  congr 1
  simp [mtK, List.getD_eq_getElem?_getD, List.getElem?_eq_getElem hk]
theorem avZ_0 {ms : List Mt} (h : ms.length = 0) : avZ ms = 10 := if_pos h
theorem avZ_1 {ms : List Mt} (h : 32 < ms.length) : avZ ms = 8 := by unfold avZ; rw [if_neg (by omega), if_pos h]
theorem avZ_at {ms : List Mt} {k : Nat} (h1 : 0 < ms.length) (h2 : ms.length ≤ 32) (hk : k ≤ ms.length) (hg : avGood ms k) : avZ ms = avF (mtK ms 0).el (ms.drop k) := by
  unfold avZ
  rw [if_neg (by omega), if_neg (by omega)]
  exact avF_skip hk hg
theorem avZ_e {ms : List Mt} {k : Nat} (h2 : ms.length ≤ 32) (hk : k < ms.length) (hg : avGood ms k) (h : ¬ (mxC (mtK ms k).el (mtK ms k).xs).2 = 0) : avZ ms = (mxC (mtK ms k).el (mtK ms k).xs).2 := by
  rw [avZ_at (by omega) h2 (by omega) hg, drop_mtK hk]; exact if_neg h
theorem avZ_c {ms : List Mt} {k : Nat} (h2 : ms.length ≤ 32) (hk : k < ms.length) (hg : avGood ms k) (h : (mxC (mtK ms k).el (mtK ms k).xs).2 = 0) (hc : ¬ (mtK ms k).el = (mtK ms 0).el) : avZ ms = 13 := by
  rw [avZ_at (by omega) h2 (by omega) hg, drop_mtK hk]; exact (if_pos h).trans (if_neg hc)
theorem avZ_g {ms : List Mt} (h1 : 0 < ms.length) (h2 : ms.length ≤ 32) (hg : avGood ms ms.length) : avZ ms = 0 := by
  rw [avZ_at h1 h2 (Nat.le_refl _) hg, List.drop_length]; rfl
theorem good_zero (ms : List Mt) : avGood ms 0 := fun j hj => absurd hj (Nat.not_lt_zero j)
theorem good_snoc {ms : List Mt} {k : Nat} (hg : avGood ms k) (h : (mxC (mtK ms k).el (mtK ms k).xs).2 = 0) (hc : (mtK ms k).el = (mtK ms 0).el) : avGood ms (k + 1) := by
  intro j hj
  rcases Nat.lt_or_ge j k with q | q
  · exact hg j q
  · obtain rfl : j = k := by omega
    exact ⟨h, hc⟩
/-- Sums of the samples at a place, and the means. -/
def sumK (ms : List Mt) (p : Nat) : Nat → Int
  | 0 => 0
  | k + 1 => sumK ms p k + nthI (mi (mtK ms k).xs) p
def rndI (s : Int) (n : Nat) : Int := (2 * s + (n : Int)) / (2 * (n : Int))
def avL (ms : List Mt) (n : Nat) : List Int := (List.range n).map fun p => rndI (sumK ms p ms.length) ms.length
def avE (ms : List Mt) : Int := if avZ ms = 0 then (mtK ms 0).el else 0
def avW (ms : List Mt) : List Nat := if avZ ms = 0 then fw (avL ms (mtK ms 0).xs.length) else []
theorem av_ok {ms : List Mt} (h : avZ ms = 0) : avE ms = (mtK ms 0).el ∧ avW ms = fw (avL ms (mtK ms 0).xs.length) := ⟨if_pos h, if_pos h⟩
theorem av_err {ms : List Mt} {z : Int} (h : avZ ms = z) (hz : ¬ z = 0) : avE ms = 0 ∧ avW ms = [] := by subst h; exact ⟨if_neg hz, if_neg hz⟩
theorem good_right {ms : List Mt} {k j : Nat} (hg : avGood ms k) (hj : j < k) : Right (mtK ms j).xs := right_of (mxC_0 (hg j hj).1).2.2
theorem sumK_bd {ms : List Mt} {k : Nat} (hg : avGood ms k) (p : Nat) : -2047 * (k : Int) ≤ sumK ms p k ∧ sumK ms p k ≤ 2047 * (k : Int) := by
  induction k with
  | zero => exact ⟨by simp [sumK], by simp [sumK]⟩
  | succ k ih =>
    have h := ih (fun j hj => hg j (by omega))
    have r := mi_range (good_right hg (j := k) (by omega)) p
    unfold sumK
    omega
theorem avL_length (ms : List Mt) (n : Nat) : (avL ms n).length = n := by simp [avL]
end Go.Proofs.Ytcijkniijomcjaa
namespace Go.Proofs.Ytcijkniijomcjaa
open Go.RowKit Go.Cpl
theorem ix_xsB {P : Program} {t : TypeId} {A : Option Addr} {ad : Addr} {m c e size : Nat} {bytes : Nat} {i : Int} (k : Nat) (he : elemInfo P t = some (e, size, bytes)) (hi : i = (k : Int)) (hk : k < m) (hA : A = some ad) (w : World) : (Instr.indexAt t (.slice A m c) (.int .i64 i)).run P w = .ok (.pointer (some (ad.add (k * size)))) w := by
  subst hA; exact ix_xs k he hi hk w
set_option maxRecDepth 100000 in
set_option maxHeartbeats 400000 in
theorem rounded_s (s : Int) (n : Nat) (w0 : World) (hs : -1000000 ≤ s ∧ s ≤ 1000000) (h1 : 1 ≤ n) (h2 : n ≤ 1000) :
    Calls Try.prog 75 #[.int .i64 s, .int .i64 (n : Int)] w0 fun e w' => e = .returned (.int .i64 (rndI s n)) ∧ Below w0.heap.size w0 w' := by
  have S0 := St.start w0
  refine enter (n := 12) Try.func75 rfl rfl rfl (fun ac A0 => ?_)
  refine wp_seq ?_
  refine wp_region_lit ?_
  refine s_one (.int .i64 0) A0 S0 (g_assign (by kernel_rfl)) rfl (fun ac A1 => ?_)
  refine wpList_nil ?_
  refine n_then ?_
  refine wp_seq ?_
  refine wp_region_lit ?_
  refine s_one (.int .i64 s) A1 S0 (g_move (by kernel_rfl)) rfl (fun ac A2 => ?_)
  refine s_one (.int .i64 (2 * s)) A2 S0 (g_bin (u := .int .i64 2) (k := .int .i64 s) (by kernel_rfl) (by kernel_rfl) (fun _ => by kernel_rfl) (b_mul (by omega))) rfl (fun ac A3 => ?_)
  refine s_one (.int .i64 (n : Int)) A3 S0 (g_move (by kernel_rfl)) rfl (fun ac A4 => ?_)
  refine s_one (.int .i64 (2 * s + (n : Int))) A4 S0 (g_bin (u := .int .i64 (2 * s)) (k := .int .i64 (n : Int)) (by kernel_rfl) (by kernel_rfl) (fun _ => by kernel_rfl) (b_add (by omega))) rfl (fun ac A5 => ?_)
  refine s_one (.int .i64 (n : Int)) A5 S0 (g_move (by kernel_rfl)) rfl (fun ac A6 => ?_)
  refine s_one (.int .i64 (2 * (n : Int))) A6 S0 (g_bin (u := .int .i64 2) (k := .int .i64 (n : Int)) (by kernel_rfl) (by kernel_rfl) (fun _ => by kernel_rfl) (b_mul (by omega))) rfl (fun ac A7 => ?_)
  refine s_call (fs := #[]) (cp := #[]) (r := [(0, .int .i64 (2 * s + (n : Int))), (0, .int .i64 (2 * (n : Int)))]) #[.int .i64 (2 * s + (n : Int)), .int .i64 (2 * (n : Int))] (.int .i64 ((2 * s + (n : Int)) / (2 * (n : Int)))) A7 S0 (sameB (floor_any (2 * s + (n : Int)) (2 * (n : Int)) _ (by omega) (by omega) (by omega))) Try.call99 (by kernel_rfl) (by kernel_rfl) (by kernel_rfl) rfl (fun ac wc A8 S9 => ?_)
  refine s_one (.int .i64 ((2 * s + (n : Int)) / (2 * (n : Int)))) A8 S9 (g_assign (by kernel_rfl)) rfl (fun ac A11 => ?_)
  refine wpList_nil ?_
  refine n_then ?_
  refine wp_ret ?_
  refine fin1 (.int .i64 ((2 * s + (n : Int)) / (2 * (n : Int)))) Try.results75 A11 S9 (rv_tmp (by kernel_rfl)) ⟨?_, S9.kp⟩
  rfl
theorem num_range {x : Nat} (h : sErr x = 0) : -2047 ≤ num x ∧ num x ≤ 2047 := (sErr_zero h).2
end Go.Proofs.Ytcijkniijomcjaa
/-! The means of matrices, step by step. -/
namespace Go.Proofs.Ytcijkniijomcjaa
open Go.RowKit Go.Cpl
/-- A list of ints, changed up to a place. -/
def updL (f : Nat → Int → Int) (S : List Int) (p : Nat) : List Int := (List.range S.length).map fun j => if j < p then f j (nthI S j) else nthI S j
theorem updL_length (f : Nat → Int → Int) (S : List Int) (p : Nat) : (updL f S p).length = S.length := by simp [updL]
theorem nthI_get {l : List Int} {k : Nat} (h : k < l.length) : l[k]? = some (nthI l k) := by rw [nthI_eq h]; exact List.getElem?_eq_getElem h
theorem list_extI {l m : List Int} (hl : l.length = m.length) (h : ∀ k, k < l.length → nthI l k = nthI m k) : l = m := by
  apply List.ext_getElem? 
  intro k
  rcases Nat.lt_or_ge k l.length with q | q
  · rw [nthI_get q, nthI_get (by omega), h k q]
  · rw [List.getElem?_eq_none q, List.getElem?_eq_none (by omega)]
theorem nthI_map {n k : Nat} (f : Nat → Int) (h : k < n) : nthI ((List.range n).map f) k = f k := by
  rw [nthI_eq (by simpa using h)]; simp
theorem updL_nth {f : Nat → Int → Int} {S : List Int} {p j : Nat} (h : j < S.length) : nthI (updL f S p) j = if j < p then f j (nthI S j) else nthI S j := nthI_map _ h
theorem updL_at {f : Nat → Int → Int} {S : List Int} {p : Nat} (h : p < S.length) : nthI (updL f S p) p = nthI S p := by rw [updL_nth h, if_neg (by omega)]
theorem updL_zero (f : Nat → Int → Int) (S : List Int) : updL f S 0 = S :=
  list_extI (updL_length _ _ _) fun k hk => by rw [updL_length] at hk; rw [updL_nth hk, if_neg (by omega)]
theorem nthI_set {l : List Int} {p j : Nat} {x : Int} (hj : j < l.length) : nthI (l.set p x) j = if p = j then x else nthI l j := by
  rw [nthI_eq (by simpa using hj), List.getElem_set]
  split
  · rfl
  · rw [nthI_eq hj]
theorem updL_set {f : Nat → Int → Int} {S : List Int} {p p' : Nat} {x : Int} (hp : p' = p + 1) (hx : x = f p (nthI S p)) : (updL f S p).set p x = updL f S p' := by
  subst hp; subst hx
  refine list_extI (by rw [List.length_set, updL_length, updL_length]) fun j hj => ?_
  rw [List.length_set, updL_length] at hj
  rw [nthI_set (by rw [updL_length]; exact hj), updL_nth hj, updL_nth hj]
  by_cases q : p = j
  · subst q; rw [if_pos rfl, if_pos (by omega)]
  · rw [if_neg q]
    by_cases q2 : j < p
    · rw [if_pos q2, if_pos (by omega)]
    · rw [if_neg q2, if_neg (by omega)]
/-- The sums of all places, of the first matrices. -/
def sumL (ms : List Mt) (k : Nat) : List Int := (List.range (mtK ms 0).xs.length).map fun p => sumK ms p k
theorem sumL_length (ms : List Mt) (k : Nat) : (sumL ms k).length = (mtK ms 0).xs.length := by simp [sumL]
theorem sumL_nth {ms : List Mt} {k p : Nat} (h : p < (mtK ms 0).xs.length) : nthI (sumL ms k) p = sumK ms p k := nthI_map _ h
theorem sumL_one (ms : List Mt) : mi (mtK ms 0).xs = sumL ms 1 :=
  list_extI (by rw [mi_length, sumL_length]) fun p hp => by
    rw [mi_length] at hp
    rw [sumL_nth hp]
    show _ = 0 + nthI (mi (mtK ms 0).xs) p
    omega
def addF (X : List Int) (p : Nat) (s : Int) : Int := s + nthI X p
def rndF (n : Nat) (_ : Nat) (s : Int) : Int := rndI s n
theorem sumL_succ {ms : List Mt} {k p : Nat} (hp : p = (mtK ms 0).xs.length) : updL (addF (mi (mtK ms k).xs)) (sumL ms k) p = sumL ms (k + 1) := by
  subst hp
  refine list_extI (by rw [updL_length, sumL_length, sumL_length]) fun j hj => ?_
  rw [updL_length, sumL_length] at hj
  rw [updL_nth (by rw [sumL_length]; exact hj), if_pos hj, sumL_nth hj, sumL_nth hj]
  rfl
theorem sumL_rnd {ms : List Mt} {p : Nat} (hp : p = (mtK ms 0).xs.length) : updL (rndF ms.length) (sumL ms ms.length) p = avL ms p := by
  subst hp
  refine list_extI (by rw [updL_length, sumL_length, avL_length]) fun j hj => ?_
  rw [updL_length, sumL_length] at hj
  rw [updL_nth (by rw [sumL_length]; exact hj), if_pos hj, sumL_nth hj, avL, nthI_map _ hj]
  rfl
theorem mx_natA {el : Int} {xs : List Nat} (h : (mxC el xs).2 = 0) : ∃ n : Nat, el = (n : Int) ∧ 1 ≤ n ∧ xs.length = n * n * 64 := by
  obtain ⟨h1, h2, _⟩ := mxC_0 h
  obtain ⟨n, rfl⟩ := Int.eq_ofNat_of_zero_le (show 0 ≤ el by omega)
  have e : ((n * n : Nat) : Int) = (n : Int) * (n : Int) := Int.natCast_mul _ _
  exact ⟨n, rfl, by omega, by omega⟩
/-- A loop whose first round is walked alone. -/
theorem c_loopP {P : Program} {Q : Exit → Act → World → Prop} {a : Act} {w : World} {c : Code} (I0 I : Nat → Act → World → Prop) (i0 : Nat) (h0 : I0 i0 a w) (first : ∀ i a w, I0 i a w → c.wp P (Exit.then (fun a' w' => ∃ j, (I0 j a' w' ∨ I j a' w') ∧ j < i) Q) a w) (round : ∀ i a w, I i a w → c.wp P (Exit.then (fun a' w' => ∃ j, (I0 j a' w' ∨ I j a' w') ∧ j < i) Q) a w) : (Code.loop c).wp P Q a w :=
  c_loopN (fun i a w => I0 i a w ∨ I i a w) i0 (.inl h0) fun i a w h => by
    rcases h with h | h
    · exact first i a w h
    · exact round i a w h
end Go.Proofs.Ytcijkniijomcjaa
namespace Go.Proofs.Ytcijkniijomcjaa
open Go.RowKit Go.Cpl
attribute [local simp] byU_length smB_length mi_length
theorem smB_snoc {l : List Int} {k : Nat} (h : k < l.length) {x : Int} (e : x = nthI l k) : smB (l.take k) ++ byU x 2 = smB (l.take (k + 1)) := by
  subst e
  rw [List.take_add_one, nthI_get h]; simp [smB]
theorem smB_snoc2 {a : Bs} {l : List Int} {k : Nat} (h : k < l.length) {x : Int} (e : x = nthI l k) : (a ++ smB (l.take k)) ++ byU x 2 = a ++ smB (l.take (k + 1)) := by
  rw [List.append_assoc, smB_snoc h e]
end Go.Proofs.Ytcijkniijomcjaa
/-! Bytes that are appended: a call that gets a slice of the caller's own and hands it back. -/
namespace Go.Proofs.Ytcijkniijomcjaa
open Go.RowKit Go.Cpl
section
variable {P : Program} {ops : Array Oper} {Q : Exit → Act → World → Prop} {n : Sz} {a : Act} {w0 : Base} {w : World} {F : Fm} {L Ls : List Bk} {M Ms : List Rw} {rest : List Oper}
theorem b_shrU {t : TypeId} {x y : Int} {i : Nat} (hy : y = 8 * (i : Int)) (hi : i ≤ 7) (w : World) : (binOp .shr t (.int .i64 x) (.int .i64 y)).run P w = .ok (.int .i64 (dvU x i)) w := by
  show (Op.shift .shr .i64 x .i64 y).run P w = _
  rw [shift_shr .i64 .i64 x y (by omega) (by show y ≤ 64; omega), dvU_pow, show y.toNat = 8 * i by omega]
  rfl
/-- A call that passes the state. -/
theorem s_callThru {d : Nat} {f : FuncId} {fx : Operand} {args : List Operand} {ats : Array TypeId} {ty : TypeId} {pos : String} {aft : Array Edge} {fs cp : Array Value} {r : List (Nat × Value)} (av : Array Value) (M' : Value → List Rw) (hA : Fr n a F)
    (hc : Calls P f av w fun en w' => ∃ v, en = .returned v ∧ St w0 L (M' v) w') (hcall : ∀ (vs : Array Value) (w : World), (callFunc f vs).run P w = .ok (.enter f vs) w)
    (hf : evO F fx = some (.func (.func f) fs cp)) (hr : evL F (args.map fun x => (0, x)) = some r) (hav : fs ++ (r.map (·.2)).toArray ++ cp = av) (hd : Nat.blt d n = true)
    (k : ∀ v a' w', Fr n a' ((d, v) :: F) → St w0 L (M' v) w' → wpList P ops Q rest a' w') : wpList P ops Q (⟨some d, .call ⟨.value fx, args.toArray, ats⟩, ty, pos, aft, none⟩ :: rest) a w := by
  refine wpList_plain rfl fun K hK => ?_
  unfold Oper.wp
  rw [run_call hA hf hr hav hcall]
  refine hc.mono fun en w' ⟨v, he, hs⟩ => ?_
  subst he
  exact hK _ _ (k v _ w' (hA.put (blt_lt hd) _) hs)
end
end Go.Proofs.Ytcijkniijomcjaa
namespace Go.Proofs.Ytcijkniijomcjaa
open Go.RowKit Go.Cpl
theorem conv_toU8 {P : Program} {t t' : TypeId} {x : Int} (h : P.underlying t = some (.int .i64)) (h' : P.underlying t' = some (.int .u8)) (w : World) : (convert t t' (.int .i64 x)).run P w = .ok (.int .u8 (x % 256)) w := by
  have e : (convert t t' (.int .i64 x)).run P w = .ok (.int .u8 (IntKind.u8.wrap x)) w := by simp [convert, run_underlying h, run_underlying h', Conv.intToInt]
  rw [e]
  simp [IntKind.wrap, IntKind.bits, IntKind.signed]
theorem app_snoc (xs : List Value) (c : Int) (k j : Nat) : xs ++ rowU (byT c k j) ++ [.int .u8 (dvU c (k - 1 - j) % 256)] = xs ++ rowU (byT c k (j + 1)) := by
  rw [byT, rowU_app, rowU_one (by omega), List.append_assoc]
set_option maxRecDepth 100000 in
set_option maxHeartbeats 400000 in
theorem appended_s (b : Base) (L : List Bk) (M : List Rw) (v : Value) (c : Int) (m k : Nat) (xs : List Value) (w0 : World) (S9 : St b L (⟨v, 5, 1, m, xs⟩ :: M) w0) (hk : k ≤ 8) (hm : m ≤ 1000000) :
    Calls Try.prog 92 #[v, .int .i64 c, .int .i64 (k : Int)] w0 fun e w' => ∃ v', e = .returned v' ∧ St b L (⟨v', 5, 1, m + k, xs ++ rowU (byU c k)⟩ :: M) w' := by
  have S0 := S9
  refine enter (n := 23) Try.func92 rfl rfl rfl (fun ac A0 => ?_)
  refine wp_seq ?_
  refine wp_region_lit ?_
  refine s_one (.slice none 0 0) A0 S0 (g_assign (by kernel_rfl)) rfl (fun ac A1 => ?_)
  refine wpList_nil ?_
  refine n_then ?_
  refine wp_seq ?_
  refine wp_seq ?_
  refine wp_region_lit ?_
  refine s_one (.int .i64 (k : Int)) A1 S0 (g_move (by kernel_rfl)) rfl (fun ac A2 => ?_)
  refine s_one (.int .i64 ((k : Int) - 1)) A2 S0 (g_bin (u := .int .i64 (k : Int)) (k := .int .i64 1) (by kernel_rfl) (by kernel_rfl) (fun _ => by kernel_rfl) (b_sub (by omega))) rfl (fun ac A3 => ?_)
  refine s_one (.int .i64 ((k : Int) - 1)) A3 S0 (g_assign (by kernel_rfl)) rfl (fun ac A4 => ?_)
  refine wpList_nil ?_
  refine n_then ?_
  refine wp_block ?_
  refine c_loopN (fun mm ac wc => ∃ (j : Nat) (u : Value), mm = k - j ∧ (j ≤ k) ∧ Fr 23 ac [(1, .int .i64 c), (2, .int .i64 (k : Int)), (6, .slice none 0 0), (8, .int .i64 (k : Int)), (9, .int .i64 ((k : Int) - 1)), (0, u), (7, .int .i64 ((k : Int) - 1 - (j : Int)))] ∧ St b L (⟨u, 5, 1, (m + j), (xs ++ rowU (byT c k j))⟩ :: M) wc) _ ⟨0, v, rfl, Nat.zero_le _, (A4.slot (A4.slot (A4.slot (A4.slot (A4.slot (A4.slot (A4.slot A4.nil (v := .int .i64 ((k : Int) - 1)) (by kernel_rfl) (congrArg (Value.int .i64) (by omega))) (v := v) (by kernel_rfl) (by first | rfl | simp)) (v := .int .i64 ((k : Int) - 1)) (by kernel_rfl) rfl) (v := .int .i64 (k : Int)) (by kernel_rfl) rfl) (v := .slice none 0 0) (by kernel_rfl) rfl) (v := .int .i64 (k : Int)) (by kernel_rfl) rfl) (v := .int .i64 c) (by kernel_rfl) rfl), (St.rerow 0 S0 rfl ⟨rfl, (by simp [byT, rowU])⟩).sub sub_all sub_all⟩ ?_
  rintro mm ac wc ⟨j, u, hm7, hj, A5, S6⟩
  refine wp_seq ?_
  refine wp_seq ?_
  refine wp_region_lit ?_
  refine s_one (.int .i64 ((k : Int) - 1 - (j : Int))) A5 S6 (g_move (by kernel_rfl)) rfl (fun ac A8 => ?_)
  refine s_one (.bool (decide ((k : Int) - 1 - (j : Int) ≥ 0))) A8 S6 (g_bin (u := .int .i64 ((k : Int) - 1 - (j : Int))) (k := .int .i64 0) (by kernel_rfl) (by kernel_rfl) (fun _ => by kernel_rfl) (fun _ => by kernel_rfl)) rfl (fun ac A9 => ?_)
  refine wpList_nil ?_
  refine n_then ?_
  refine c_ifb (b := (decide ((k : Int) - 1 - (j : Int) ≥ 0))) A9 (by kernel_rfl) (fun h10 => ?_) (fun h10 => ?_)
  · have p11 := of_decide_eq_true h10
    refine wp_skip ?_
    refine n_then ?_
    refine wp_seq ?_
    refine wp_block ?_
    refine wp_region_lit ?_
    refine s_one (u) A9 S6 (g_move (by kernel_rfl)) rfl (fun ac A12 => ?_)
    refine s_one (.int .i64 c) A12 S6 (g_move (by kernel_rfl)) rfl (fun ac A13 => ?_)
    refine s_one (.int .i64 ((k : Int) - 1 - (j : Int))) A13 S6 (g_move (by kernel_rfl)) rfl (fun ac A14 => ?_)
    refine s_one (.int .i64 (8 * ((k : Int) - 1 - (j : Int)))) A14 S6 (g_bin (u := .int .i64 8) (k := .int .i64 ((k : Int) - 1 - (j : Int))) (by kernel_rfl) (by kernel_rfl) (fun _ => by kernel_rfl) (b_mul (by omega))) rfl (fun ac A15 => ?_)
    refine s_one (.int .i64 (dvU c (k - 1 - j))) A15 S6 (g_bin (u := .int .i64 c) (k := .int .i64 (8 * ((k : Int) - 1 - (j : Int)))) (by kernel_rfl) (by kernel_rfl) (fun _ => by kernel_rfl) (b_shrU (i := k - 1 - j) (by omega) (by omega))) rfl (fun ac A16 => ?_)
    refine s_one (.int .u8 ((dvU c (k - 1 - j)) % 256)) A16 S6 (g_conv (u := .int .i64 (dvU c (k - 1 - j))) (by kernel_rfl) (conv_toU8 Try.underlying3 Try.underlying5)) rfl (fun ac A17 => ?_)
    refine s_bs (e := 5) (r := [(0, .int .u8 ((dvU c (k - 1 - j)) % 256))]) (#[.int .u8 ((dvU c (k - 1 - j)) % 256)]) A17 S6 (by kernel_rfl) (by kernel_rfl) rfl (fun g20 ac wc A18 S19 => ?_)
    refine s_append (e := 5) (size := 1) (bytes := 1) (v := u) (g := g20) (m' := 1) (c := 1) 0 0 [.int .u8 ((dvU c (k - 1 - j)) % 256)] A18 S19 (by kernel_rfl) (by kernel_rfl) (by kernel_rfl) rfl rfl (by kernel_rfl) rfl (by kernel_rfl) (by omega) (by omega) rfl (fun v24 ac wc A21 S22 => ?_)
    refine s_one (v24) A21 S22 (g_assign (by kernel_rfl)) rfl (fun ac A25 => ?_)
    refine wpList_nil ?_
    refine n_block ?_
    refine n_then ?_
    refine wp_region_lit ?_
    refine s_one (.int .i64 ((k : Int) - 1 - (j : Int))) A25 S22 (g_move (by kernel_rfl)) rfl (fun ac A26 => ?_)
    refine s_one (.int .i64 ((k : Int) - 1 - (j : Int) - 1)) A26 S22 (g_bin (u := .int .i64 ((k : Int) - 1 - (j : Int))) (k := .int .i64 1) (by kernel_rfl) (by kernel_rfl) (fun _ => by kernel_rfl) (b_sub (by omega))) rfl (fun ac A27 => ?_)
    refine s_one (.int .i64 ((k : Int) - 1 - (j : Int) - 1)) A27 S22 (g_assign (by kernel_rfl)) rfl (fun ac A28 => ?_)
    refine wpList_nil ?_
    refine n_then ?_
    refine ⟨_, ⟨j + 1, v24, rfl, by omega, (A28.slot (A28.slot (A28.slot (A28.slot (A28.slot (A28.slot (A28.slot A28.nil (v := .int .i64 ((k : Int) - 1 - (j : Int) - 1)) (by kernel_rfl) (congrArg (Value.int .i64) (by omega))) (v := v24) (by kernel_rfl) rfl) (v := .int .i64 ((k : Int) - 1)) (by kernel_rfl) rfl) (v := .int .i64 (k : Int)) (by kernel_rfl) rfl) (v := .slice none 0 0) (by kernel_rfl) rfl) (v := .int .i64 (k : Int)) (by kernel_rfl) rfl) (v := .int .i64 c) (by kernel_rfl) rfl), (St.rerow 0 S22 rfl ⟨rfl, app_snoc xs c k j⟩).sub (sub_skip sub_all) sub_all⟩, ?_⟩
    omega
  · have p29 := of_decide_eq_false h10
    refine wp_exit ?_
    refine x_then ?_
    refine x_then ?_
    refine x_hit ?_
    refine n_then ?_
    refine wp_seq ?_
    refine wp_region_lit ?_
    refine s_one (u) A9 S6 (g_move (by kernel_rfl)) rfl (fun ac A30 => ?_)
    refine s_one (u) A30 S6 (g_assign (by kernel_rfl)) rfl (fun ac A31 => ?_)
    refine wpList_nil ?_
    refine n_then ?_
    refine wp_ret ?_
    have ej : j = k := by omega
    have eb : byT c k j = byU c k := by rw [ej, byT_all]
    refine fin1 (u) Try.results92 A31 S6 (rv_tmp (by kernel_rfl)) ⟨_, rfl, ?_⟩
    have q9 := S6.sub sub_all sub_all
    rw [eb, ej] at q9
    exact q9
end Go.Proofs.Ytcijkniijomcjaa
/-! Bytes of a constant: a block with a mark; an append to it. -/
namespace Go.Proofs.Ytcijkniijomcjaa
open Go.RowKit Go.Cpl
section
variable {P : Program} {ops : Array Oper} {Q : Exit → Act → World → Prop} {n : Sz} {a : Act} {w0 : Base} {w : World} {F : Fm} {L Ls : List Bk} {M Ms : List Rw} {rest : List Oper}
theorem freeze_turn (w : World) (g k m : Nat) : Turn g w (w.freeze ⟨g, k, none⟩ m) := by
  unfold World.freeze
  split
  · exact ⟨rfl, rfl, rfl, rfl, fun _ _ => rfl⟩
  · exact ⟨rfl, rfl, rfl, by simp, fun k hk => by simp [Array.getElem?_modify, Ne.symm hk]⟩
theorem freeze_new {w : World} {g k : Nat} {e : TypeId} {cs : Array Value} (h : Blk w g e cs) : (w.freeze ⟨g, k, none⟩ 1).heap[g]? = some (.cells cs e (k, k + 1)) := by
  have h' : w.heap[g]? = some (.cells cs e (0, 0)) := h
  unfold World.freeze
  rw [if_neg (by decide)]
  simp [Array.getElem?_modify, h']
/-- A block gets a mark: nothing more is known of it as a block. -/
theorem St.mark {g k : Nat} {t : TypeId} {cs : Array Value} (h : St w0 (⟨g, t, cs, true⟩ :: L) M w) : St w0 L M (w.freeze ⟨g, k, none⟩ 1) := by
  have T := freeze_turn w g k 1
  have hm0 : (⟨g, t, cs, true⟩ : Bk) ∈ (⟨g, t, cs, true⟩ :: L : List Bk) := List.mem_cons_self
  have hq := List.pairwise_cons.1 h.apart
  refine ⟨h.kq.turn (h.own _ hm0 rfl) T (h.blk _ hm0), fun b hm => ?_, fun b hm ho => h.own b (List.mem_cons_of_mem _ hm) ho, hq.2, fun r hr => ?_, fun r hr b hb => h.rb r hr b (List.mem_cons_of_mem _ hb), h.rr⟩
  · exact T.blk (h.blk b (List.mem_cons_of_mem _ hm)) (Ne.symm (hq.1 b hm (.inl rfl)))
  · have hg : r.v.ownBlock ≠ some g := h.rb r hr _ hm0
    have hro := h.rows r hr
    refine ⟨hro.1, ?_⟩
    rcases hro.2 with hn | ⟨g', cap, cur, hv, hb', hgg, rest⟩
    · exact .inl hn
    · refine .inr ⟨g', cap, cur, hv, hb', ?_, rest⟩
      rw [T.block g' (fun e => hg (by rw [hv, ← e]; rfl))]
      exact hgg
theorem s_markB {d : Nat} {t ty e : TypeId} {x : Operand} {pos : String} {aft : Array Edge} {g m c : Nat} {cs : Array Value} (l : Bs) (hA : Fr n a F) (hS : St w0 (⟨g, e, cs, true⟩ :: L) M w) (hx : evO F x = some (.slice (some ⟨g, 0, none⟩) m c)) (ht : P.underlying t = some (.slice e)) (he : P.underlying e = some (.int .u8)) (hl : cs.toList = rowU l) (hdn : Nat.blt d n = true)
    (k : ∀ (w' : World) (a' : Act), BRd e w' ⟨g, 0, none⟩ l → Fr n a' ((d, .slice (some ⟨g, 0, none⟩) m c) :: F) → St ⟨w0.w, w'⟩ L M w' → wpList P ops Q rest a' w') : wpList P ops Q (⟨some d, .convert t t x, ty, pos, aft, none⟩ :: rest) a w := by
  refine wpList_plain rfl fun K hK => ?_
  have hb : Blk w g e cs := hS.get 0 rfl
  have hb' : w.heap[g]? = some (.cells cs e (0, 0)) := hb
  have hsh : w.shape? g = some (e, cs.size) := by unfold World.shape?; rw [hb']
  have hsz : cs.size = l.length := by rw [← Array.length_toList, hl, rowU_length]
  have hrun : (convert t t (.slice (some ⟨g, 0, none⟩) m c)).run P w = .ok (.slice (some ⟨g, 0, none⟩) m c) (w.freeze ⟨g, cs.size, none⟩ 1) := by
    simp [convert, run_underlying ht, run_underlying he, markStringish, hsh]
  unfold Oper.wp execOp
  simp only [Sem.run_bind, Sem.run_pure, Result.andThen_ok, hA.ev hx, hrun]
  refine hK _ _ (k _ _ ⟨g, cs, _, rfl, freeze_new hb, by simp [plainO], fun j hj => ?_⟩ (hA.put (blt_lt hdn) _) ((St.mark hS).since (KeepsX.refl _)))
  rw [← Array.getElem?_toList, hl]
  simp only [rowU, List.getElem?_map, nthU]
  rw [List.getElem?_eq_getElem hj, List.getD_eq_getElem?_getD, List.getElem?_eq_getElem hj]
  simp
/-- An append to a slice with a mark that has no room. -/
theorem s_appB {d : Nat} {s x : Operand} {t ty : TypeId} {pos : String} {aft : Array Edge} {e e' : TypeId} {bytes g m' c cp : Nat} {ad : Addr} {l : Bs} {cs : Array Value} {o : Bool} (i : Nat) (news : List Value) (hA : Fr n a F) (hS : St w0 L M w) (hb : BRd e w0.v ad l) (he : elemInfo P t = some (e, 1, bytes))
    (hs : evO F s = some (.slice (some ad) l.length cp)) (hcp : cp < l.length + m') (hx : evO F x = some (.slice (some ⟨g, 0, none⟩) m' c)) (hi : L[i]? = some ⟨g, e', cs, o⟩) (hn : cs.toList.take m' = news) (hl0 : Nat.ble m' cs.size = true)
    (h63 : l.length + m' ≤ 140737488355328) (hbytes : (l.length + m') * bytes ≤ 140737488355328) (hd : Nat.blt d n = true)
    (k : ∀ v' a' w', Fr n a' ((d, v') :: F) → St w0 L (⟨v', e, 1, l.length + m', rowU l ++ news⟩ :: M) w' → wpList P ops Q rest a' w') : wpList P ops Q (⟨some d, .call ⟨.builtin .append, #[s, x], #[t, t]⟩, ty, pos, aft, none⟩ :: rest) a w := by
  refine wpList_plain rfl fun K hK => ?_
  obtain ⟨ti, z, q1, q2, q3, q4, q5, q6, q7⟩ := elemInfo_spec he
  have hl := Nat.le_of_ble_eq_true hl0
  have hlen : news.length = m' := by rw [← hn, List.length_take]; simp; omega
  have hbw := hb.keep hS.others
  have hr := run_append_grow (P := P) w t ty e ti z q1 q2 q3 ad l.length cp (rowU l) (by rw [rowU_length, q4]; omega) (fun j v hv => by
      simp only [rowU, List.getElem?_map] at hv
      rcases Nat.lt_or_ge j l.length with hj | hj
      · rw [List.getElem?_eq_getElem hj] at hv
        rw [hbw.cell hj, ← hv, nthU_eq hj]; rfl
      · rw [List.getElem?_eq_none hj] at hv; cases hv) ⟨g, 0, none⟩ m' c news (by rw [hlen, q4]; omega) (by rw [← hn]; exact cells_of_blk (m := m') (hS.get i hi)) hcp (by omega) (growslice_fits hcp (by rw [q5]; exact hbytes))
  have hge := grownCap_ge w (l.length + m') cp e
  have hcm : grownCap w (l.length + m') cp e ≤ maxLen := grownCap_le_maxLen w (l.length + m') cp e (by unfold maxLen; omega)
  have hxl : (rowU l ++ news).length = (l.length + m') * 1 := by rw [List.length_append, rowU_length, hlen]; omega
  have hS1 := (hS.nilRow e 1).grown 0 rfl (v' := .slice (some ⟨w.heap.size, 0, none⟩) (l.length + m') (grownCap w (l.length + m') cp e)) (w' := w.drew.alloc (.cells ((rowU l).toArray ++ news.toArray ++ Builtin.zeroCells z.cells (grownCap w (l.length + m') cp e - (l.length + m'))) e)) (m' := l.length + m') (xs' := rowU l ++ news)
    ⟨hxl, .inr ⟨w.heap.size, _, _, rfl, hS.kq.size, World.alloc_heap_new w.drew _, hge, hcm, by
      simp only [Array.size_append, List.size_toArray, size_zeroCells, q6, rowU_length, hlen]; omega, by
      simp only [Array.toList_append, List.append_assoc]
      rw [← List.append_assoc, ← hxl]
      exact List.take_left⟩⟩
    ⟨rfl, rfl, rfl, by simp, fun k hk _ => by
      show (w.heap.push _)[k]? = w.heap[k]?
      rw [Array.getElem?_push, if_neg (by omega)]⟩ (.inr fun g' hg' => by cases hg'; exact Nat.le_refl _)
  unfold Oper.wp execOp
  simp only [resolve, invoke, builtin, Sem.run_bind, Sem.run_pure, Result.andThen_ok, List.map_toArray, List.map_cons, List.map_nil, hA.ev hs, hA.ev hx, hr]
  exact hK _ _ (k _ _ _ (hA.put (blt_lt hd) _) hS1)
/-- A string of the bytes of a slice of the call's own. -/
theorem g_strOfRow {src dst e : TypeId} {x : Operand} {v : Value} {m : Nat} {l : Bs} (j : Nat) (hx : evO F x = some v) (hj : M[j]? = some ⟨v, e, 1, m, rowU l⟩) (hm : 0 < m) (hs : P.underlying src = some (.slice e)) (he : P.underlying e = some (.int .u8)) (hd : P.underlying dst = some .string) : Gives P F w0 L M (.convert src dst x) (.string ⟨l.toArray⟩) := fun _ _ w hA hS _ _ _ _ _ => by
  have hro : w.ownsRow w0.w.heap.size e 1 v m (rowU l) := hS.row j hj
  have hln : l.length = m := by have := hro.1; rw [rowU_length] at this; omega
  rcases hro.2 with ⟨_, h0⟩ | ⟨g, cap, cur, hv, _⟩
  · omega
  · subst hln
    subst hv
    have := run_convert_bytes_back (P := P) w src dst e ⟨g, 0, none⟩ cap l hs he hd (fun j hj => hro.cells (g := g) rfl j _ (by simp [rowU, List.getElem?_eq_getElem hj]))
    simp [execOp, hA.ev hx, this]
end
end Go.Proofs.Ytcijkniijomcjaa
namespace Go.Proofs.Ytcijkniijomcjaa
open Go.RowKit Go.Cpl
attribute [local simp] byU_length smB_length mi_length
theorem frE_0 {p el : Int} {xs : List Nat} (h : frE p el xs = 0) : (-1000000000 ≤ p ∧ p ≤ 1000000000) ∧ (mxC el xs).2 = 0 := by
  cases q : inB p (-1000000000) 1000000000 with
  | false => rw [frE_n q] at h; exact absurd h (by decide)
  | true => rw [frE_y q] at h; exact ⟨inB_true.1 q, h⟩
theorem fm_head (el : Int) : rowU [67, 80] ++ [.int .u8 1, .int .u8 (el % 256)] = rowU ([67, 80] ++ byU 1 1 ++ byU el 1) := by
  have e1 : rowU (byU 1 1) = [.int .u8 1] := by kernel_rfl
  have e2 : rowU (byU el 1) = [.int .u8 (el % 256)] := rowU_one (y := el % 256) (by omega)
  rw [rowU_app, rowU_app, e1, e2]; rfl
set_option maxRecDepth 100000 in
set_option maxHeartbeats 400000 in
theorem FormatFrame_ok (p : Int) (el : Int) (A : Option Addr) (n cap : Nat) (xs : List Nat) (w0 : World) (hn : xs.length = n) (hr : FReads w0 A xs) (hm : n ≤ 1000) (hz : frE p el xs = 0) :
    Calls Try.prog 46 #[.agg #[.int .i64 p, .int .i64 el, .slice A n cap]] w0 fun e w' => e = .returned (.tuple #[.string ⟨(fmt p el (mi xs)).toArray⟩, .int .i64 0]) ∧ Below w0.heap.size w0 w' := by
  have S0 := St.start w0
  obtain ⟨hp, h0⟩ := frE_0 hz
  obtain ⟨he1, he2, he3⟩ := mxC_0 h0
  have hR : Right xs := right_of he3
  have HR : ∀ k, k < n → sErr (nth xs k) = 0 := fun k hk => hR.at_ (by omega)
  refine enter (n := 49) Try.func46 rfl rfl rfl (fun ac A0 => ?_)
  refine wp_seq ?_
  refine wp_region_lit ?_
  refine s_box (.agg #[.int .i64 p, .int .i64 el, .slice A n cap]) A0 S0 (by kernel_rfl) rfl (fun g3 ac wc A1 S2 => ?_)
  replace S2 : St _ (⟨g3, 66, #[.int .i64 p, .int .i64 el, .slice A n cap], true⟩ :: _) _ _ := S2
  refine s_one (.string ⟨([] : List UInt8).toArray⟩) A1 S2 (g_assign (by kernel_rfl)) rfl (fun ac A5 => ?_)
  refine s_one (.int .i64 0) A5 S2 (g_assign (by kernel_rfl)) rfl (fun ac A6 => ?_)
  refine wpList_nil ?_
  refine n_then ?_
  refine wp_seq ?_
  refine wp_seq ?_
  refine wp_region_lit ?_
  refine s_one (.pointer (some ⟨g3, 0, none⟩)) A6 S2 (g_field (u := .pointer (some ⟨g3, 0, none⟩)) (by kernel_rfl) (fun _ => by kernel_rfl)) rfl (fun ac A7 => ?_)
  refine s_one (.int .i64 p) A7 S2 (g_load (g := g3) (off := 0) 0 (by kernel_rfl) rfl (by kernel_rfl)) rfl (fun ac A8 => ?_)
  refine s_call (fs := #[]) (cp := #[]) (r := [(0, .int .i64 p), (0, .int .i64 1000000000)]) #[.int .i64 p, .int .i64 1000000000] (.bool (inB p (-1000000000) 1000000000)) A8 S2 (small_s p 1000000000 _ (by omega) (by omega)) Try.call81 (by kernel_rfl) (by kernel_rfl) (by kernel_rfl) rfl (fun ac wc A9 S10 => ?_)
  refine s_one (.bool (!(inB p (-1000000000) 1000000000))) A9 S10 (g_un (u := .bool (inB p (-1000000000) 1000000000)) (by kernel_rfl) (fun _ => by kernel_rfl)) rfl (fun ac A12 => ?_)
  refine wpList_nil ?_
  refine n_then ?_
  refine c_f (b := (!(inB p (-1000000000) 1000000000))) A12 (by kernel_rfl) (b_nt (inB_true.2 hp)) ?_
  refine wp_skip ?_
  refine n_then ?_
  refine wp_seq ?_
  refine wp_seq ?_
  refine wp_region_lit ?_
  refine s_one (.pointer (some ⟨g3, 1, none⟩)) A12 S10 (g_field (u := .pointer (some ⟨g3, 0, none⟩)) (by kernel_rfl) (fun _ => by kernel_rfl)) rfl (fun ac A13 => ?_)
  refine s_one (.agg #[.int .i64 el, .slice A n cap]) A13 S10 (g_load (g := g3) (off := 1) 0 (by kernel_rfl) rfl (by kernel_rfl)) rfl (fun ac A14 => ?_)
  refine s_call (fs := #[]) (cp := #[]) (r := [(0, .agg #[.int .i64 el, .slice A n cap])]) #[.agg #[.int .i64 el, .slice A n cap]] (.int .i64 ((mxC el xs).2)) A14 S10 (matrixErr_s el A n cap xs _ hn (hr.kept S10.kp) (by omega)) Try.call63 (by kernel_rfl) (by kernel_rfl) (by kernel_rfl) rfl (fun ac wc A15 S16 => ?_)
  refine s_one (.int .i64 ((mxC el xs).2)) A15 S16 (g_assign (by kernel_rfl)) rfl (fun ac A18 => ?_)
  refine wpList_nil ?_
  refine n_then ?_
  refine wp_seq ?_
  refine wp_region_lit ?_
  refine s_one (.int .i64 ((mxC el xs).2)) A18 S16 (g_move (by kernel_rfl)) rfl (fun ac A19 => ?_)
  refine s_one (.bool (decide ((mxC el xs).2 ≠ 0))) A19 S16 (g_bin (u := .int .i64 ((mxC el xs).2)) (k := .int .i64 0) (by kernel_rfl) (by kernel_rfl) (fun _ => by kernel_rfl) b_neq) rfl (fun ac A20 => ?_)
  refine wpList_nil ?_
  refine n_then ?_
  refine c_f (b := (decide ((mxC el xs).2 ≠ 0))) A20 (by kernel_rfl) (decide_eq_false (fun h => h h0)) ?_
  refine wp_skip ?_
  refine n_then ?_
  refine wp_seq ?_
  refine wp_region_lit ?_
  refine s_bs (e := 5) (r := [(0, .int .u8 67), (1, .int .u8 80)]) (#[.int .u8 67, .int .u8 80]) A20 S16 (by kernel_rfl) (by kernel_rfl) rfl (fun g23 ac wc A21 S22 => ?_)
  refine s_markB (g := g23) (m := 2) (c := 2) ([67, 80] : List UInt8) A21 S22 (by kernel_rfl) Try.underlying144 Try.underlying5 (by kernel_rfl) rfl (fun wz24 ac hz26 A25 S27 => ?_)
  refine s_one (.pointer (some ⟨g3, 1, none⟩)) A25 S27 (g_field (u := .pointer (some ⟨g3, 0, none⟩)) (by kernel_rfl) (fun _ => by kernel_rfl)) rfl (fun ac A28 => ?_)
  refine s_one (.pointer (some ⟨g3, 1, none⟩)) A28 S27 (g_field (u := .pointer (some ⟨g3, 1, none⟩)) (by kernel_rfl) (fun _ => by kernel_rfl)) rfl (fun ac A29 => ?_)
  refine s_one (.int .i64 el) A29 S27 (g_load (g := g3) (off := 1) 0 (by kernel_rfl) rfl (by kernel_rfl)) rfl (fun ac A30 => ?_)
  refine s_one (.int .u8 (el % 256)) A30 S27 (g_conv (u := .int .i64 el) (by kernel_rfl) (conv_toU8 Try.underlying3 Try.underlying5)) rfl (fun ac A31 => ?_)
  refine s_bs (e := 5) (r := [(0, .int .u8 1), (1, .int .u8 (el % 256))]) (#[.int .u8 1, .int .u8 (el % 256)]) A31 S27 (by kernel_rfl) (by kernel_rfl) rfl (fun g34 ac wc A32 S33 => ?_)
  refine s_appB (l := ([67, 80] : List UInt8)) (bytes := 1) (g := g34) (m' := 2) (c := 2) (cp := 2) 0 [.int .u8 1, .int .u8 (el % 256)] A32 S33 hz26 (by kernel_rfl) (by kernel_rfl) (by decide) (by kernel_rfl) rfl rfl rfl (by decide) (by decide) rfl (fun v38 ac wc A35 S36 => ?_)
  have S39 : St ⟨w0, wz24⟩ [⟨g34, 5, #[.int .u8 1, .int .u8 (el % 256)], true⟩, ⟨g3, 66, #[.int .i64 p, .int .i64 el, .slice A n cap], true⟩] [⟨v38, 5, 1, 4, (rowU ([67, 80] ++ byU 1 1 ++ byU el 1))⟩] _ := St.rerow 0 S36 rfl ⟨rfl, fm_head el⟩
  refine s_one (v38) A35 S39 (g_assign (by kernel_rfl)) rfl (fun ac A40 => ?_)
  refine wpList_nil ?_
  refine n_then ?_
  refine wp_seq ?_
  refine wp_region_lit ?_
  refine s_one (v38) A40 S39 (g_move (by kernel_rfl)) rfl (fun ac A41 => ?_)
  refine s_one (.pointer (some ⟨g3, 0, none⟩)) A41 S39 (g_field (u := .pointer (some ⟨g3, 0, none⟩)) (by kernel_rfl) (fun _ => by kernel_rfl)) rfl (fun ac A42 => ?_)
  refine s_one (.int .i64 p) A42 S39 (g_load (g := g3) (off := 0) 1 (by kernel_rfl) rfl (by kernel_rfl)) rfl (fun ac A43 => ?_)
  refine s_callThru (fs := #[]) (cp := #[]) (r := [(0, v38), (0, .int .i64 p), (0, .int .i64 4)]) #[v38, .int .i64 p, .int .i64 4] (fun v9 => (⟨v9, 5, 1, 4 + 4, rowU ([67, 80] ++ byU 1 1 ++ byU el 1) ++ rowU (byU p 4)⟩ :: [])) A43 (appended_s _ [⟨g34, 5, #[.int .u8 1, .int .u8 (el % 256)], true⟩, ⟨g3, 66, #[.int .i64 p, .int .i64 el, .slice A n cap], true⟩] [] (v38) p (4) 4 (rowU ([67, 80] ++ byU 1 1 ++ byU el 1)) _ S39 (by omega) (by omega)) Try.call92 (by kernel_rfl) (by kernel_rfl) (by kernel_rfl) rfl (fun v44 ac wc A45 S46 => ?_)
  have S47 : St ⟨w0, wz24⟩ [⟨g34, 5, #[.int .u8 1, .int .u8 (el % 256)], true⟩, ⟨g3, 66, #[.int .i64 p, .int .i64 el, .slice A n cap], true⟩] [⟨v44, 5, 1, 8, (rowU ([67, 80] ++ byU 1 1 ++ byU el 1 ++ byU p 4))⟩] _ := St.rerow 0 S46 rfl ⟨rfl, (rowU_app _ _).symm⟩
  refine s_one (v44) A45 S47 (g_assign (by kernel_rfl)) rfl (fun ac A48 => ?_)
  refine wpList_nil ?_
  refine n_then ?_
  refine wp_seq ?_
  refine wp_seq ?_
  refine wp_region_lit ?_
  refine s_one (.pointer (some ⟨g3, 1, none⟩)) A48 S47 (g_field (u := .pointer (some ⟨g3, 0, none⟩)) (by kernel_rfl) (fun _ => by kernel_rfl)) rfl (fun ac A49 => ?_)
  refine s_one (.pointer (some ⟨g3, 2, none⟩)) A49 S47 (g_field (u := .pointer (some ⟨g3, 1, none⟩)) (by kernel_rfl) (fun _ => by kernel_rfl)) rfl (fun ac A50 => ?_)
  refine s_one (.slice A n cap) A50 S47 (g_load (g := g3) (off := 2) 1 (by kernel_rfl) rfl (by kernel_rfl)) rfl (fun ac A51 => ?_)
  refine s_one (.int .i64 (n : Int)) A51 S47 (g_built (r := [(0, .slice A n cap)]) (by kernel_rfl) (fun _ _ _ => by kernel_rfl)) rfl (fun ac A52 => ?_)
  refine s_one (.int .i64 0) A52 S47 (g_move (by kernel_rfl)) rfl (fun ac A53 => ?_)
  refine wpList_nil ?_
  refine n_then ?_
  refine wp_block ?_
  refine c_loopN (fun mm ac wc => ∃ (k : Nat) (v : Value), mm = n - k ∧ (k ≤ n) ∧ Fr 49 ac [(0, .agg #[.int .i64 p, .int .i64 el, .slice A n cap]), (1, .pointer (some ⟨g3, 0, none⟩)), (2, .string ⟨([] : List UInt8).toArray⟩), (3, .int .i64 0), (8, .pointer (some ⟨g3, 0, none⟩)), (9, .int .i64 p), (10, .bool (inB p (-1000000000) 1000000000)), (11, .bool (!(inB p (-1000000000) 1000000000))), (12, .pointer (some ⟨g3, 1, none⟩)), (13, .agg #[.int .i64 el, .slice A n cap]), (14, .int .i64 ((mxC el xs).2)), (4, .int .i64 ((mxC el xs).2)), (15, .int .i64 ((mxC el xs).2)), (16, .bool (decide ((mxC el xs).2 ≠ 0))), (18, .slice (some ⟨g23, 0, none⟩) 2 2), (19, .slice (some ⟨g23, 0, none⟩) 2 2), (20, .pointer (some ⟨g3, 1, none⟩)), (21, .pointer (some ⟨g3, 1, none⟩)), (22, .int .i64 el), (23, .int .u8 (el % 256)), (24, .slice (some ⟨g34, 0, none⟩) 2 2), (25, v38), (26, v38), (27, .pointer (some ⟨g3, 0, none⟩)), (28, .int .i64 p), (29, v44), (30, .pointer (some ⟨g3, 1, none⟩)), (31, .pointer (some ⟨g3, 2, none⟩)), (32, .slice A n cap), (33, .int .i64 (n : Int)), (34, .int .i64 (k : Int)), (5, v)] ∧ St ⟨w0, wz24⟩ [⟨g34, 5, #[.int .u8 1, .int .u8 (el % 256)], true⟩, ⟨g3, 66, #[.int .i64 p, .int .i64 el, .slice A n cap], true⟩] [⟨v, 5, 1, (8 + k * 2), (rowU ([67, 80] ++ byU 1 1 ++ byU el 1 ++ byU p 4 ++ smB ((mi xs).take k)))⟩] wc) _ ⟨0, v44, rfl, Nat.zero_le _, (A53.slot (A53.slot (A53.slot (A53.slot (A53.slot (A53.slot (A53.slot (A53.slot (A53.slot (A53.slot (A53.slot (A53.slot (A53.slot (A53.slot (A53.slot (A53.slot (A53.slot (A53.slot (A53.slot (A53.slot (A53.slot (A53.slot (A53.slot (A53.slot (A53.slot (A53.slot (A53.slot (A53.slot (A53.slot (A53.slot (A53.slot (A53.slot A53.nil (v := v44) (by kernel_rfl) (by first | rfl | simp)) (v := .int .i64 0) (by kernel_rfl) (congrArg (Value.int .i64) (by omega))) (v := .int .i64 (n : Int)) (by kernel_rfl) rfl) (v := .slice A n cap) (by kernel_rfl) rfl) (v := .pointer (some ⟨g3, 2, none⟩)) (by kernel_rfl) rfl) (v := .pointer (some ⟨g3, 1, none⟩)) (by kernel_rfl) rfl) (v := v44) (by kernel_rfl) rfl) (v := .int .i64 p) (by kernel_rfl) rfl) (v := .pointer (some ⟨g3, 0, none⟩)) (by kernel_rfl) rfl) (v := v38) (by kernel_rfl) rfl) (v := v38) (by kernel_rfl) rfl) (v := .slice (some ⟨g34, 0, none⟩) 2 2) (by kernel_rfl) rfl) (v := .int .u8 (el % 256)) (by kernel_rfl) rfl) (v := .int .i64 el) (by kernel_rfl) rfl) (v := .pointer (some ⟨g3, 1, none⟩)) (by kernel_rfl) rfl) (v := .pointer (some ⟨g3, 1, none⟩)) (by kernel_rfl) rfl) (v := .slice (some ⟨g23, 0, none⟩) 2 2) (by kernel_rfl) rfl) (v := .slice (some ⟨g23, 0, none⟩) 2 2) (by kernel_rfl) rfl) (v := .bool (decide ((mxC el xs).2 ≠ 0))) (by kernel_rfl) rfl) (v := .int .i64 ((mxC el xs).2)) (by kernel_rfl) rfl) (v := .int .i64 ((mxC el xs).2)) (by kernel_rfl) rfl) (v := .int .i64 ((mxC el xs).2)) (by kernel_rfl) rfl) (v := .agg #[.int .i64 el, .slice A n cap]) (by kernel_rfl) rfl) (v := .pointer (some ⟨g3, 1, none⟩)) (by kernel_rfl) rfl) (v := .bool (!(inB p (-1000000000) 1000000000))) (by kernel_rfl) rfl) (v := .bool (inB p (-1000000000) 1000000000)) (by kernel_rfl) rfl) (v := .int .i64 p) (by kernel_rfl) rfl) (v := .pointer (some ⟨g3, 0, none⟩)) (by kernel_rfl) rfl) (v := .int .i64 0) (by kernel_rfl) rfl) (v := .string ⟨([] : List UInt8).toArray⟩) (by kernel_rfl) rfl) (v := .pointer (some ⟨g3, 0, none⟩)) (by kernel_rfl) rfl) (v := .agg #[.int .i64 p, .int .i64 el, .slice A n cap]) (by kernel_rfl) rfl), (St.rerow 0 S47 rfl ⟨rfl, congrArg rowU (by simp [smB])⟩).sub sub_all sub_all⟩ ?_
  rintro mm ac wc ⟨k, v, hm56, hk, A54, S55⟩
  refine wp_seq ?_
  refine wp_region_lit ?_
  refine s_one (.bool (decide ((k : Int) < (n : Int)))) A54 S55 (g_bin (u := .int .i64 (k : Int)) (k := .int .i64 (n : Int)) (by kernel_rfl) (by kernel_rfl) (fun _ => by kernel_rfl) (fun _ => by kernel_rfl)) rfl (fun ac A57 => ?_)
  refine wpList_nil ?_
  refine n_then ?_
  refine wp_seq ?_
  refine c_ifb (b := (decide ((k : Int) < (n : Int)))) A57 (by kernel_rfl) (fun h58 => ?_) (fun h58 => ?_)
  · have p59 := of_decide_eq_true h58
    refine wp_skip ?_
    refine n_then ?_
    refine wp_seq ?_
    refine wp_block ?_
    refine wp_seq ?_
    refine wp_region_lit ?_
    obtain ⟨ad60, rfl, _⟩ := hr (k) (by have hlen := hn; omega)
    refine s_one (.pointer (some (ad60.add k))) A57 S55 (g_index (u := .slice (some ad60) n cap) (k := .int .i64 (k : Int)) (by kernel_rfl) (by kernel_rfl) (ix_x (e := 36) (bytes := 4) k (by kernel_rfl) (by omega) (by omega))) rfl (fun ac A61 => ?_)
    refine s_one (.float .f32 (nth xs k)) A61 S55 (g_loadXF (l := xs) (k := k) (by kernel_rfl) hr (by have hlen := hn; omega) (by kernel_rfl)) rfl (fun ac A62 => ?_)
    refine s_one (.float .f32 (nth xs k)) A62 S55 (g_assign (by kernel_rfl)) rfl (fun ac A63 => ?_)
    refine wpList_nil ?_
    refine n_then ?_
    have hnb := num_range (HR k (by omega))
    refine wp_region_lit ?_
    refine s_one (v) A63 S55 (g_move (by kernel_rfl)) rfl (fun ac A64 => ?_)
    refine s_one (.float .f32 (nth xs k)) A64 S55 (g_move (by kernel_rfl)) rfl (fun ac A65 => ?_)
    refine s_one (.int .i64 (num (nth xs k))) A65 S55 (g_conv (u := .float .f32 (nth xs k)) (by kernel_rfl) (run_toInt (HR _ (by omega)))) rfl (fun ac A66 => ?_)
    refine s_callThru (fs := #[]) (cp := #[]) (r := [(0, v), (0, .int .i64 (num (nth xs k))), (0, .int .i64 2)]) #[v, .int .i64 (num (nth xs k)), .int .i64 2] (fun v9 => (⟨v9, 5, 1, 8 + k * 2 + 2, rowU ([67, 80] ++ byU 1 1 ++ byU el 1 ++ byU p 4 ++ smB ((mi xs).take k)) ++ rowU (byU (num (nth xs k)) 2)⟩ :: [])) A66 (appended_s _ [⟨g34, 5, #[.int .u8 1, .int .u8 (el % 256)], true⟩, ⟨g3, 66, #[.int .i64 p, .int .i64 el, .slice (some ad60) n cap], true⟩] [] (v) (num (nth xs k)) (8 + k * 2) 2 (rowU ([67, 80] ++ byU 1 1 ++ byU el 1 ++ byU p 4 ++ smB ((mi xs).take k))) _ S55 (by omega) (by omega)) Try.call92 (by kernel_rfl) (by kernel_rfl) (by kernel_rfl) rfl (fun v67 ac wc A68 S69 => ?_)
    have S70 : St ⟨w0, wz24⟩ [⟨g34, 5, #[.int .u8 1, .int .u8 (el % 256)], true⟩, ⟨g3, 66, #[.int .i64 p, .int .i64 el, .slice (some ad60) n cap], true⟩] [⟨v67, 5, 1, (8 + k * 2 + 2), (rowU ([67, 80] ++ byU 1 1 ++ byU el 1 ++ byU p 4 ++ smB ((mi xs).take k) ++ byU (num (nth xs k)) 2))⟩] _ := St.rerow 0 S69 rfl ⟨rfl, (rowU_app _ _).symm⟩
    refine s_one (v67) A68 S70 (g_assign (by kernel_rfl)) rfl (fun ac A71 => ?_)
    refine wpList_nil ?_
    refine n_block ?_
    refine n_then ?_
    refine wp_region_lit ?_
    refine s_one (.int .i64 ((k : Int) + 1)) A71 S70 (g_bin (u := .int .i64 (k : Int)) (k := .int .i64 1) (by kernel_rfl) (by kernel_rfl) (fun _ => by kernel_rfl) (b_add (by omega))) rfl (fun ac A72 => ?_)
    refine s_one (.int .i64 ((k : Int) + 1)) A72 S70 (g_move (by kernel_rfl)) rfl (fun ac A73 => ?_)
    refine wpList_nil ?_
    refine n_then ?_
    refine ⟨_, ⟨k + 1, v67, rfl, by omega, (A73.slot (A73.slot (A73.slot (A73.slot (A73.slot (A73.slot (A73.slot (A73.slot (A73.slot (A73.slot (A73.slot (A73.slot (A73.slot (A73.slot (A73.slot (A73.slot (A73.slot (A73.slot (A73.slot (A73.slot (A73.slot (A73.slot (A73.slot (A73.slot (A73.slot (A73.slot (A73.slot (A73.slot (A73.slot (A73.slot (A73.slot (A73.slot A73.nil (v := v67) (by kernel_rfl) rfl) (v := .int .i64 ((k : Int) + 1)) (by kernel_rfl) (congrArg (Value.int .i64) (by omega))) (v := .int .i64 (n : Int)) (by kernel_rfl) rfl) (v := .slice (some ad60) n cap) (by kernel_rfl) (by first | rfl | simp)) (v := .pointer (some ⟨g3, 2, none⟩)) (by kernel_rfl) rfl) (v := .pointer (some ⟨g3, 1, none⟩)) (by kernel_rfl) rfl) (v := v44) (by kernel_rfl) rfl) (v := .int .i64 p) (by kernel_rfl) rfl) (v := .pointer (some ⟨g3, 0, none⟩)) (by kernel_rfl) rfl) (v := v38) (by kernel_rfl) rfl) (v := v38) (by kernel_rfl) rfl) (v := .slice (some ⟨g34, 0, none⟩) 2 2) (by kernel_rfl) rfl) (v := .int .u8 (el % 256)) (by kernel_rfl) rfl) (v := .int .i64 el) (by kernel_rfl) rfl) (v := .pointer (some ⟨g3, 1, none⟩)) (by kernel_rfl) rfl) (v := .pointer (some ⟨g3, 1, none⟩)) (by kernel_rfl) rfl) (v := .slice (some ⟨g23, 0, none⟩) 2 2) (by kernel_rfl) rfl) (v := .slice (some ⟨g23, 0, none⟩) 2 2) (by kernel_rfl) rfl) (v := .bool (decide ((mxC el xs).2 ≠ 0))) (by kernel_rfl) rfl) (v := .int .i64 ((mxC el xs).2)) (by kernel_rfl) rfl) (v := .int .i64 ((mxC el xs).2)) (by kernel_rfl) rfl) (v := .int .i64 ((mxC el xs).2)) (by kernel_rfl) rfl) (v := .agg #[.int .i64 el, .slice (some ad60) n cap]) (by kernel_rfl) (by first | rfl | simp)) (v := .pointer (some ⟨g3, 1, none⟩)) (by kernel_rfl) rfl) (v := .bool (!(inB p (-1000000000) 1000000000))) (by kernel_rfl) rfl) (v := .bool (inB p (-1000000000) 1000000000)) (by kernel_rfl) rfl) (v := .int .i64 p) (by kernel_rfl) rfl) (v := .pointer (some ⟨g3, 0, none⟩)) (by kernel_rfl) rfl) (v := .int .i64 0) (by kernel_rfl) rfl) (v := .string ⟨([] : List UInt8).toArray⟩) (by kernel_rfl) rfl) (v := .pointer (some ⟨g3, 0, none⟩)) (by kernel_rfl) rfl) (v := .agg #[.int .i64 p, .int .i64 el, .slice (some ad60) n cap]) (by kernel_rfl) (by first | rfl | simp)), (St.rerow 0 (St.recell 1 S70 rfl (by rfl)) rfl ⟨by omega, congrArg rowU (smB_snoc2 (by rw [mi_length]; omega) (mi_nth (by omega)).symm)⟩).sub sub_all sub_all⟩, ?_⟩
    omega
  · have p74 := of_decide_eq_false h58
    refine wp_exit ?_
    refine x_then ?_
    refine x_then ?_
    refine x_hit ?_
    refine n_then ?_
    refine wp_seq ?_
    obtain ⟨B, hB⟩ : ∃ B : Bs, [67, 80] ++ byU 1 1 ++ byU el 1 ++ byU p 4 ++ smB ((mi xs).take k) = B := ⟨_, rfl⟩
    have hBl : B.length = 8 + k * 2 := by rw [← hB]; simp <;> omega
    have SB : St ⟨w0, wz24⟩ [⟨g34, 5, #[.int .u8 1, .int .u8 (el % 256)], true⟩, ⟨g3, 66, #[.int .i64 p, .int .i64 el, .slice A n cap], true⟩] [⟨v, 5, 1, (8 + k * 2), (rowU B)⟩] _ := St.rerow 0 S55 rfl ⟨rfl, congrArg rowU hB⟩
    refine wp_region_lit ?_
    refine s_one (v) A57 SB (g_move (by kernel_rfl)) rfl (fun ac A75 => ?_)
    refine s_one (v) A75 SB (g_move (by kernel_rfl)) rfl (fun ac A76 => ?_)
    refine s_one (.string ⟨B.toArray⟩) A76 SB (g_strOfRow (l := B) 0 (by kernel_rfl) rfl (by omega) Try.underlying144 Try.underlying5 Try.underlying9) rfl (fun ac A77 => ?_)
    refine s_call (fs := #[]) (cp := #[]) (r := [(0, .string ⟨B.toArray⟩)]) #[.string ⟨B.toArray⟩] (.int .i64 (ckU B B.length)) A77 SB (check_s B _ (by omega)) Try.call79 (by kernel_rfl) (by kernel_rfl) (by kernel_rfl) rfl (fun ac wc A78 S79 => ?_)
    refine s_callThru (fs := #[]) (cp := #[]) (r := [(0, v), (0, .int .i64 (ckU B B.length)), (0, .int .i64 2)]) #[v, .int .i64 (ckU B B.length), .int .i64 2] (fun v9 => (⟨v9, 5, 1, 8 + k * 2 + 2, rowU B ++ rowU (byU (ckU B B.length) 2)⟩ :: [])) A78 (appended_s _ [⟨g34, 5, #[.int .u8 1, .int .u8 (el % 256)], true⟩, ⟨g3, 66, #[.int .i64 p, .int .i64 el, .slice A n cap], true⟩] [] (v) (ckU B B.length) (8 + k * 2) 2 (rowU B) _ S79 (by omega) (by omega)) Try.call92 (by kernel_rfl) (by kernel_rfl) (by kernel_rfl) rfl (fun v81 ac wc A82 S83 => ?_)
    have S84 : St ⟨w0, wz24⟩ [⟨g34, 5, #[.int .u8 1, .int .u8 (el % 256)], true⟩, ⟨g3, 66, #[.int .i64 p, .int .i64 el, .slice A n cap], true⟩] [⟨v81, 5, 1, (8 + k * 2 + 2), (rowU (B ++ byU (ckU B B.length) 2))⟩] _ := St.rerow 0 S83 rfl ⟨rfl, (rowU_app _ _).symm⟩
    refine s_one (.string ⟨(B ++ byU (ckU B B.length) 2).toArray⟩) A82 S84 (g_strOfRow (l := B ++ byU (ckU B B.length) 2) 0 (by kernel_rfl) rfl (by omega) Try.underlying144 Try.underlying5 Try.underlying9) rfl (fun ac A85 => ?_)
    refine s_one (.string ⟨(B ++ byU (ckU B B.length) 2).toArray⟩) A85 S84 (g_assign (by kernel_rfl)) rfl (fun ac A86 => ?_)
    refine s_one (.int .i64 0) A86 S84 (g_assign (by kernel_rfl)) rfl (fun ac A87 => ?_)
    refine wpList_nil ?_
    refine n_then ?_
    refine wp_ret ?_
    refine fin2 (.string ⟨(B ++ byU (ckU B B.length) 2).toArray⟩) (.int .i64 0) Try.results46 A87 S84 (rv_tmp (by kernel_rfl)) (rv_tmp (by kernel_rfl)) ⟨?_, S84.kp⟩
    obtain rfl : k = n := by omega
    have et : (mi xs).take k = mi xs := List.take_of_length_le (by rw [mi_length]; omega)
    rw [et] at hB
    have eF : fmt p el (mi xs) = B ++ byU (ckU B B.length) 2 := by unfold fmt fmB; rw [hB]
    rw [eF]
end Go.Proofs.Ytcijkniijomcjaa
