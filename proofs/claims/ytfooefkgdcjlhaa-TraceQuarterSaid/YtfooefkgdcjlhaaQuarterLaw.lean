/- The walk of TraceQuarter: it returns true. -/
import Derived.Test.YtfooefkgdcjlhaaEnv
import Derived.Test.YtfooefkgdcjlhaaFl
import Derived.Test.YtfooefkgdcjlhaaArgs
namespace Go.Proofs.Ytfooefkgdcjlhaa
open Go.RowKit Go.Cpl

theorem nth_done {f : Nat → Nat} {z n k i : Nat} (h : i < n) : nth (done z f n k) i = if i < k then f i else z := by
  rw [nth_eq (by rw [done_length]; exact h)]; simp [done]
theorem firstErr_of {xs : List Nat} : ∀ {k : Nat}, (∀ x ∈ xs, sErr x = 0) → (firstErr xs k).2 = 0 := by
  induction xs with
  | nil => intro k _; rfl
  | cons y l ih => intro k h; simp only [firstErr, h y (List.mem_cons_self ..), if_true]; exact ih (fun x hx => h x (List.mem_cons_of_mem _ hx))
/-- The period of four. -/
def qrt (a b : Int) (i : Nat) : Int := if i % 4 = 0 then a else if i % 4 = 1 then b else if i % 4 = 2 then -a else -b
theorem qrt_get (a b : Int) (k : Nat) : (#[.int .i64 a, .int .i64 b, .int .i64 (-a), .int .i64 (-b)] : Array Value)[k % 4]? = some (.int .i64 (qrt a b k)) := by
  have h : k % 4 = 0 ∨ k % 4 = 1 ∨ k % 4 = 2 ∨ k % 4 = 3 := by omega
  unfold qrt
  rcases h with h | h | h | h <;> rw [h] <;> rfl
theorem tmod_nat (k : Nat) : ((k : Int)).tmod 4 = ((k % 4 : Nat) : Int) := by rw [Int.tmod_eq_emod_of_nonneg (by omega)]; omega
def qX (a b : Int) : List Nat := done 0 (fun i => floatOfInt .f32 (qrt a b i)) 64 64
theorem qX_length (a b : Int) : (qX a b).length = 64 := done_length _ _ _ _
section
variable {a b : Int} (ha : -2047 ≤ a ∧ a ≤ 2047) (hb : -2047 ≤ b ∧ b ≤ 2047)
include ha hb
theorem qrt_bd (i : Nat) : -2047 ≤ qrt a b i ∧ qrt a b i ≤ 2047 := by 
  unfold qrt
  split
  · omega
  · split
    · omega
    · split <;> omega
theorem qX_right : (firstErr (qX a b) 0).2 = 0 := by
  apply firstErr_of
  intro x hx
  simp only [qX, done, List.mem_map, List.mem_range] at hx
  obtain ⟨i, hi, rfl⟩ := hx
  have := qrt_bd ha hb i
  rw [if_pos hi, sErr_of _ (by omega), if_pos this]
theorem qX_num {i : Nat} (hi : i < 64) : nthI (nums (qX a b)) i = qrt a b i := by
  rw [nthI_eq (by rw [nums_length]; exact hi)]
  simp only [nums, List.getElem_map, List.getElem_range, qX, nth_done hi, if_pos hi]
  exact num_of _ (by have := qrt_bd ha hb i; omega)
theorem qX_re {t : Nat} (ht : t < 61) : reP (nums (qX a b)) t = 2 * qrt a b t := by
  unfold reP
  rw [qX_num ha hb (by omega), qX_num ha hb (by omega)]
  have h : t % 4 = 0 ∨ t % 4 = 1 ∨ t % 4 = 2 ∨ t % 4 = 3 := by omega
  unfold qrt
  rcases h with h | h | h | h
  · rw [h, show (t + 2) % 4 = 2 by omega]; simp; omega
  · rw [h, show (t + 2) % 4 = 3 by omega]; simp; omega
  · rw [h, show (t + 2) % 4 = 0 by omega]; simp; omega
  · rw [h, show (t + 2) % 4 = 1 by omega]; simp; omega
theorem qX_im {t : Nat} (ht : t < 61) : imP (nums (qX a b)) t = 2 * qrt a b (t + 1) := by
  unfold imP
  rw [qX_num ha hb (by omega), qX_num ha hb (by omega)]
  have h : t % 4 = 0 ∨ t % 4 = 1 ∨ t % 4 = 2 ∨ t % 4 = 3 := by omega
  unfold qrt
  rcases h with h | h | h | h
  · rw [show (t + 1) % 4 = 1 by omega, show (t + 3) % 4 = 3 by omega]; simp; omega
  · rw [show (t + 1) % 4 = 2 by omega, show (t + 3) % 4 = 0 by omega]; simp; omega
  · rw [show (t + 1) % 4 = 3 by omega, show (t + 3) % 4 = 1 by omega]; simp; omega
  · rw [show (t + 1) % 4 = 0 by omega, show (t + 3) % 4 = 2 by omega]; simp; omega
theorem qX_sq {k : Nat} (hk : k < 61) : nthI (sqL (nums (qX a b))) k = 4 * (a * a + b * b) := by
  rw [nthI_eq (by rw [sqL_length]; exact hk)]
  simp only [sqL, List.getElem_map, List.getElem_range, sqP, qX_re ha hb hk, qX_im ha hb hk]
  have e1 : ∀ x : Int, 2 * x * (2 * x) = 4 * (x * x) := fun x => by rw [show (4 : Int) = 2 * 2 from rfl]; ac_rfl
  rw [e1, e1, ← Int.mul_add]
  congr 1
  have h : k % 4 = 0 ∨ k % 4 = 1 ∨ k % 4 = 2 ∨ k % 4 = 3 := by omega
  unfold qrt
  rcases h with h | h | h | h
  · rw [h, show (k + 1) % 4 = 1 by omega]; simp
  · rw [h, show (k + 1) % 4 = 2 by omega]; simp [Int.neg_mul_neg, Int.add_comm]
  · rw [h, show (k + 1) % 4 = 3 by omega]; simp [Int.neg_mul_neg]
  · rw [h, show (k + 1) % 4 = 0 by omega]; simp [Int.neg_mul_neg, Int.add_comm]
theorem qX_z {k : Nat} (hk : k < 61) (h0 : 0 < k) : (nthP (partsL (nums (qX a b))) k).1 = (nthP (partsL (nums (qX a b))) ((k : Int) - 1).toNat).2 := by
  rw [partsL_at hk, partsL_at (by omega)]
  simp only
  rw [qX_re ha hb hk, qX_im ha hb (by omega), show ((k : Int) - 1).toNat + 1 = k by omega]
theorem qX_y {k : Nat} (hk : k < 61) (h0 : 0 < k) : (nthP (partsL (nums (qX a b))) k).2 = -(nthP (partsL (nums (qX a b))) ((k : Int) - 1).toNat).1 := by
  rw [partsL_at hk, partsL_at (by omega)]
  simp only
  rw [qX_im ha hb hk, qX_re ha hb (by omega)]
  generalize hm : ((k : Int) - 1).toNat = m
  obtain rfl : k = m + 1 := by omega
  have h : m % 4 = 0 ∨ m % 4 = 1 ∨ m % 4 = 2 ∨ m % 4 = 3 := by omega
  unfold qrt
  rcases h with h | h | h | h
  · rw [h, show (m + 1 + 1) % 4 = 2 by omega]; simp; omega
  · rw [h, show (m + 1 + 1) % 4 = 3 by omega]; simp; omega
  · rw [h, show (m + 1 + 1) % 4 = 0 by omega]; simp; omega
  · rw [h, show (m + 1 + 1) % 4 = 1 by omega]; simp; omega
end
theorem Envelope_right (xs : List Nat) (w : World) (hl : xs.length = 64) (h0 : (firstErr xs 0).2 = 0) :
    Calls Try.prog 18 #[.agg (trc xs)] w fun e w' => e = .returned (.tuple #[.agg (ints (sqL (nums xs))), .int .i64 0]) ∧ Below w.heap.size w w' := by
  have := Envelope_s xs w hl
  unfold enRes at this
  rw [if_pos h0, h0] at this
  exact this
theorem parts_small {xs : List Nat} (h0 : ∀ k, -2047 ≤ nthI (nums xs) k ∧ nthI (nums xs) k ≤ 2047) (k : Nat) : (nthP (partsL (nums xs)) k).1.natAbs < 16777216 ∧ (nthP (partsL (nums xs)) k).2.natAbs < 16777216 := by
  by_cases hk : k < 61
  · rw [partsL_at hk]
    have := reP_bound h0 k
    have := imP_bound h0 k
    simp only
    omega
  · simp [nthP, List.getElem?_eq_none (show (partsL (nums xs)).length ≤ k by rw [partsL_length]; omega)]

set_option maxRecDepth 100000 in
set_option maxHeartbeats 400000 in
theorem TraceQuarter_s (a b : Int) (w0 : World) (i1 : In64 a) (i2 : In64 b) :
    Calls Try.prog 5 #[.int .i64 a, .int .i64 b] w0 fun e w' => e = .returned (.bool true) ∧ Below w0.heap.size w0 w' := by
  have S0 := St.start w0
  unfold In64 at i1 i2
  refine enter (n := 102) Try.func5 rfl rfl rfl (fun ac A0 => ?_)
  refine wp_seq ?_
  refine wp_region_lit ?_
  refine s_one (.bool false) A0 S0 (g_assign (by kernel_rfl)) rfl (fun ac A1 => ?_)
  refine wpList_nil ?_
  refine n_then ?_
  refine wp_seq ?_
  refine wp_seq ?_
  refine wp_region_lit ?_
  refine s_call (fs := #[]) (cp := #[]) (r := []) #[] (.bool true) A1 S0 (awake_any _) Try.call13 (by kernel_rfl) (by kernel_rfl) (by kernel_rfl) rfl (fun ac wc A2 S3 => ?_)
  refine s_one (.bool false) A2 S3 (g_un (u := .bool true) (by kernel_rfl) (fun _ => by kernel_rfl)) rfl (fun ac A5 => ?_)
  refine wpList_nil ?_
  refine n_then ?_
  refine c_f (b := false) A5 (by kernel_rfl) rfl ?_
  refine wp_skip ?_
  refine n_then ?_
  refine wp_seq ?_
  refine wp_seq ?_
  refine c_cut (fun ac wc => Fr 102 ac [(22, .bool ((!(inB a (-2047) 2047)) || (!(inB b (-2047) 2047)))), (0, .int .i64 a), (1, .int .i64 b), (4, .bool false), (13, .bool true), (14, .bool false)] ∧ St w0 [] [] wc) ?_ ?_
  · refine wp_region_lit ?_
    refine s_one (.int .i64 a) A5 S3 (g_move (by kernel_rfl)) rfl (fun ac A6 => ?_)
    refine s_call (fs := #[]) (cp := #[]) (r := [(0, .int .i64 a), (0, .int .i64 (-2047)), (0, .int .i64 2047)]) #[.int .i64 a, .int .i64 (-2047), .int .i64 2047] (.bool (inB a (-2047) 2047)) A6 S3 (sameB (Within_any a (-2047) 2047 _)) Try.call22 (by kernel_rfl) (by kernel_rfl) (by kernel_rfl) rfl (fun ac wc A7 S8 => ?_)
    refine s_one (.bool (!(inB a (-2047) 2047))) A7 S8 (g_un (u := .bool (inB a (-2047) 2047)) (by kernel_rfl) (fun _ => by kernel_rfl)) rfl (fun ac A10 => ?_)
    refine s_one (.bool (!(inB a (-2047) 2047))) A10 S8 (g_move (by kernel_rfl)) rfl (fun ac A11 => ?_)
    refine by_bool (!(inB a (-2047) 2047)) (fun h12 => ?_) (fun h12 => ?_)
    · have h13 : inB a (-2047) 2047 = false := by simpa using h12
      refine s_not (dj := 18) (b := (!(inB a (-2047) 2047))) A11 (by kernel_rfl) (by kernel_rfl) h12 rfl (fun ac A14 => ?_)
      refine s_not (dj := 18) (b := (!(inB a (-2047) 2047))) A14 (by kernel_rfl) (by kernel_rfl) h12 rfl (fun ac A15 => ?_)
      refine s_not (dj := 18) (b := (!(inB a (-2047) 2047))) A15 (by kernel_rfl) (by kernel_rfl) h12 rfl (fun ac A16 => ?_)
      refine s_one (.bool true) A16 S8 (g_pick_t (b := (!(inB a (-2047) 2047))) (by kernel_rfl) h12 (by kernel_rfl)) rfl (fun ac A17 => ?_)
      refine wpList_nil ?_
      refine n_then ?_
      exact ⟨(A17.slot (A17.slot (A17.slot (A17.slot (A17.slot (A17.slot A17.nil (v := .bool false) (by kernel_rfl) rfl) (v := .bool true) (by kernel_rfl) rfl) (v := .bool false) (by kernel_rfl) rfl) (v := .int .i64 b) (by kernel_rfl) rfl) (v := .int .i64 a) (by kernel_rfl) rfl) (v := .bool true) (by kernel_rfl) (congrArg Value.bool (b_ot1 h12).symm)), S8.sub sub_all sub_all⟩
    · have h18 : inB a (-2047) 2047 = true := by simpa using h12
      have ha := inB_true.1 h18
      refine s_want (dj := 18) (b := (!(inB a (-2047) 2047))) A11 (by kernel_rfl) (by kernel_rfl) h12 ?_
      refine s_one (.int .i64 b) A11 S8 (g_move (by kernel_rfl)) rfl (fun ac A19 => ?_)
      refine s_want (dj := 18) (b := (!(inB a (-2047) 2047))) A19 (by kernel_rfl) (by kernel_rfl) h12 ?_
      refine s_call (fs := #[]) (cp := #[]) (r := [(0, .int .i64 b), (0, .int .i64 (-2047)), (0, .int .i64 2047)]) #[.int .i64 b, .int .i64 (-2047), .int .i64 2047] (.bool (inB b (-2047) 2047)) A19 S8 (sameB (Within_any b (-2047) 2047 _)) Try.call22 (by kernel_rfl) (by kernel_rfl) (by kernel_rfl) rfl (fun ac wc A20 S21 => ?_)
      refine s_want (dj := 18) (b := (!(inB a (-2047) 2047))) A20 (by kernel_rfl) (by kernel_rfl) h12 ?_
      refine s_one (.bool (!(inB b (-2047) 2047))) A20 S21 (g_un (u := .bool (inB b (-2047) 2047)) (by kernel_rfl) (fun _ => by kernel_rfl)) rfl (fun ac A23 => ?_)
      refine s_one (.bool (!(inB b (-2047) 2047))) A23 S21 (g_pick_f (b := (!(inB a (-2047) 2047))) (by kernel_rfl) h12 (by kernel_rfl)) rfl (fun ac A24 => ?_)
      refine wpList_nil ?_
      refine n_then ?_
      exact ⟨(A24.slot (A24.slot (A24.slot (A24.slot (A24.slot (A24.slot A24.nil (v := .bool false) (by kernel_rfl) rfl) (v := .bool true) (by kernel_rfl) rfl) (v := .bool false) (by kernel_rfl) rfl) (v := .int .i64 b) (by kernel_rfl) rfl) (v := .int .i64 a) (by kernel_rfl) rfl) (v := .bool (!(inB b (-2047) 2047))) (by kernel_rfl) (congrArg Value.bool (b_or_f h12 (Eq.refl (!(inB b (-2047) 2047)))).symm)), S21.sub sub_all sub_all⟩
  · rintro ac wc ⟨A25, S26⟩
    refine n_then ?_
    refine c_ifb (b := ((!(inB a (-2047) 2047)) || (!(inB b (-2047) 2047)))) A25 (by kernel_rfl) (fun h27 => ?_) (fun h27 => ?_)
    · refine wp_seq ?_
      refine wp_region_lit ?_
      refine s_one (.bool true) A25 S26 (g_assign (by kernel_rfl)) rfl (fun ac A28 => ?_)
      refine wpList_nil ?_
      refine n_then ?_
      refine wp_ret ?_
      refine r_then ?_
      refine fin1 (.bool true) Try.results5 A28 S26 (rv_tmp (by kernel_rfl)) ⟨?_, S26.kp⟩
      rfl
    · have h29 := (Bool.or_eq_false_iff.1 h27).1
      have h30 : inB a (-2047) 2047 = true := by simpa using h29
      have ha := inB_true.1 h30
      have h31 := (Bool.or_eq_false_iff.1 h27).2
      have h32 : inB b (-2047) 2047 = true := by simpa using h31
      have hb := inB_true.1 h32
      have ma := sq_bound (b := 2047) ha.1 ha.2
      have mb := sq_bound (b := 2047) hb.1 hb.2
      refine wp_skip ?_
      refine n_then ?_
      refine wp_seq ?_
      refine wp_region_lit ?_
      refine s_one (.int .i64 a) A25 S26 (g_move (by kernel_rfl)) rfl (fun ac A33 => ?_)
      refine s_one (.int .i64 b) A33 S26 (g_move (by kernel_rfl)) rfl (fun ac A34 => ?_)
      refine s_one (.int .i64 a) A34 S26 (g_move (by kernel_rfl)) rfl (fun ac A35 => ?_)
      refine s_one (.int .i64 (-a)) A35 S26 (g_un (u := .int .i64 a) (by kernel_rfl) (u_neg (by omega))) rfl (fun ac A36 => ?_)
      refine s_one (.int .i64 b) A36 S26 (g_move (by kernel_rfl)) rfl (fun ac A37 => ?_)
      refine s_one (.int .i64 (-b)) A37 S26 (g_un (u := .int .i64 b) (by kernel_rfl) (u_neg (by omega))) rfl (fun ac A38 => ?_)
      refine s_one (.agg #[.int .i64 a, .int .i64 b, .int .i64 (-a), .int .i64 (-b)]) A38 S26 (g_build (r := [(0, .int .i64 a), (1, .int .i64 b), (2, .int .i64 (-a)), (3, .int .i64 (-b))]) (by kernel_rfl) (fun _ => by kernel_rfl)) rfl (fun ac A39 => ?_)
      refine s_alloc (#[.int .i64 0, .int .i64 0, .int .i64 0, .int .i64 0]) A39 S26 (by kernel_rfl) rfl (fun g42 ac wc A40 S41 => ?_)
      refine s_store (g := g42) (off := 0) (v := .agg #[.int .i64 a, .int .i64 b, .int .i64 (-a), .int .i64 (-b)]) 0 (#[.int .i64 a, .int .i64 b, .int .i64 (-a), .int .i64 (-b)]) A40 S41 (by kernel_rfl) (by kernel_rfl) rfl (by kernel_rfl) (fun wc S44 => ?_)
      refine wpList_nil ?_
      refine n_then ?_
      refine wp_seq ?_
      refine wp_region_lit ?_
      refine s_alloc (trc (List.replicate 64 0)) A40 S44 zero26 rfl (fun g48 ac wc A46 S47 => ?_)
      refine wpList_nil ?_
      refine n_then ?_
      refine wp_seq ?_
      refine wp_seq ?_
      refine wp_region_lit ?_
      refine s_one (.int .i64 0) A46 S47 (g_assign (by kernel_rfl)) rfl (fun ac A49 => ?_)
      refine wpList_nil ?_
      refine n_then ?_
      refine wp_block ?_
      refine c_loopN (fun mm ac wc => ∃ (k : Nat), mm = 64 - k ∧ (k ≤ 64) ∧ Fr 102 ac [(0, .int .i64 a), (1, .int .i64 b), (4, .bool false), (13, .bool true), (14, .bool false), (22, .bool ((!(inB a (-2047) 2047)) || (!(inB b (-2047) 2047)))), (23, .int .i64 a), (24, .int .i64 b), (25, .int .i64 a), (26, .int .i64 (-a)), (27, .int .i64 b), (28, .int .i64 (-b)), (29, .agg #[.int .i64 a, .int .i64 b, .int .i64 (-a), .int .i64 (-b)]), (5, .pointer (some ⟨g42, 0, none⟩)), (6, .pointer (some ⟨g48, 0, none⟩)), (7, .int .i64 (k : Int))] ∧ St w0 [⟨g48, 26, (trc (done 0 (fun i => floatOfInt .f32 (qrt a b i)) 64 k)), true⟩, ⟨g42, 48, #[.int .i64 a, .int .i64 b, .int .i64 (-a), .int .i64 (-b)], true⟩] [] wc) _ ⟨0, rfl, by omega, (A49.slot (A49.slot (A49.slot (A49.slot (A49.slot (A49.slot (A49.slot (A49.slot (A49.slot (A49.slot (A49.slot (A49.slot (A49.slot (A49.slot (A49.slot (A49.slot A49.nil (v := .int .i64 0) (by kernel_rfl) (congrArg (Value.int .i64) (by omega))) (v := .pointer (some ⟨g48, 0, none⟩)) (by kernel_rfl) rfl) (v := .pointer (some ⟨g42, 0, none⟩)) (by kernel_rfl) rfl) (v := .agg #[.int .i64 a, .int .i64 b, .int .i64 (-a), .int .i64 (-b)]) (by kernel_rfl) rfl) (v := .int .i64 (-b)) (by kernel_rfl) rfl) (v := .int .i64 b) (by kernel_rfl) rfl) (v := .int .i64 (-a)) (by kernel_rfl) rfl) (v := .int .i64 a) (by kernel_rfl) rfl) (v := .int .i64 b) (by kernel_rfl) rfl) (v := .int .i64 a) (by kernel_rfl) rfl) (v := .bool ((!(inB a (-2047) 2047)) || (!(inB b (-2047) 2047)))) (by kernel_rfl) rfl) (v := .bool false) (by kernel_rfl) rfl) (v := .bool true) (by kernel_rfl) rfl) (v := .bool false) (by kernel_rfl) rfl) (v := .int .i64 b) (by kernel_rfl) rfl) (v := .int .i64 a) (by kernel_rfl) rfl), (St.recell 0 S47 rfl (congrArg trc (done_zero 0 (fun i => floatOfInt .f32 (qrt a b i)) 64).symm)).sub sub_all sub_all⟩ ?_
      rintro mm ac wc ⟨k, hm52, hk, A50, S51⟩
      refine wp_seq ?_
      refine wp_seq ?_
      refine wp_region_lit ?_
      refine s_one (.int .i64 (k : Int)) A50 S51 (g_move (by kernel_rfl)) rfl (fun ac A53 => ?_)
      refine s_one (.bool (decide ((k : Int) < 64))) A53 S51 (g_bin (u := .int .i64 (k : Int)) (k := .int .i64 64) (by kernel_rfl) (by kernel_rfl) (fun _ => by kernel_rfl) (fun _ => by kernel_rfl)) rfl (fun ac A54 => ?_)
      refine wpList_nil ?_
      refine n_then ?_
      refine c_ifb (b := (decide ((k : Int) < 64))) A54 (by kernel_rfl) (fun h55 => ?_) (fun h55 => ?_)
      · have p56 := of_decide_eq_true h55
        refine wp_skip ?_
        refine n_then ?_
        refine wp_seq ?_
        refine wp_block ?_
        refine wp_region_lit ?_
        refine s_one (.int .i64 (k : Int)) A54 S51 (g_move (by kernel_rfl)) rfl (fun ac A57 => ?_)
        refine s_one (.int .i64 (k : Int)) A57 S51 (g_move (by kernel_rfl)) rfl (fun ac A58 => ?_)
        refine s_one (.int .i64 (((k : Int)).tmod 4)) A58 S51 (g_bin (u := .int .i64 (k : Int)) (k := .int .i64 4) (by kernel_rfl) (by kernel_rfl) (fun _ => by kernel_rfl) (b_rem (by omega))) rfl (fun ac A59 => ?_)
        refine s_one (.pointer (some ⟨g42, k % 4, none⟩)) A59 S51 (g_index (u := .pointer (some ⟨g42, 0, none⟩)) (k := .int .i64 (((k : Int)).tmod 4)) (by kernel_rfl) (by kernel_rfl) (ix_arr1 (k % 4) (len := 4) (by kernel_rfl) (tmod_nat k) (by omega))) rfl (fun ac A60 => ?_)
        refine s_one (.int .i64 (qrt a b k)) A60 S51 (g_load (g := g42) (off := k % 4) 1 (by kernel_rfl) rfl (rv_of (by kernel_rfl) (qrt_get a b k))) rfl (fun ac A61 => ?_)
        refine s_one (.float .f32 (floatOfInt .f32 (qrt a b k))) A61 S51 (g_conv (u := .int .i64 (qrt a b k)) (by kernel_rfl) (fun _ => by kernel_rfl)) rfl (fun ac A62 => ?_)
        refine s_one (.pointer (some ⟨g48, k, none⟩)) A62 S51 (g_index (u := .pointer (some ⟨g48, 0, none⟩)) (k := .int .i64 (k : Int)) (by kernel_rfl) (by kernel_rfl) (ix_arr1 k (len := 64) (by kernel_rfl) (by omega) (by omega))) rfl (fun ac A63 => ?_)
        refine s_store (g := g48) (off := k) (v := .float .f32 (floatOfInt .f32 (qrt a b k))) 0 (trc ((done 0 (fun i => floatOfInt .f32 (qrt a b i)) 64 k).set k (floatOfInt .f32 (qrt a b k)))) A63 S51 (by kernel_rfl) (by kernel_rfl) rfl ((pv_of (by kernel_rfl) rfl (by rw [trc_size, (done_length _ _ _ _)]; omega)).trans (congrArg some (trc_set (done 0 (fun i => floatOfInt .f32 (qrt a b i)) 64 k) k (floatOfInt .f32 (qrt a b k))))) (fun wc S65 => ?_)
        refine wpList_nil ?_
        refine n_block ?_
        refine n_then ?_
        refine wp_region_lit ?_
        refine s_one (.int .i64 (k : Int)) A63 S65 (g_move (by kernel_rfl)) rfl (fun ac A67 => ?_)
        refine s_one (.int .i64 ((k : Int) + 1)) A67 S65 (g_bin (u := .int .i64 (k : Int)) (k := .int .i64 1) (by kernel_rfl) (by kernel_rfl) (fun _ => by kernel_rfl) (b_add (by omega))) rfl (fun ac A68 => ?_)
        refine s_one (.int .i64 ((k : Int) + 1)) A68 S65 (g_assign (by kernel_rfl)) rfl (fun ac A69 => ?_)
        refine wpList_nil ?_
        refine n_then ?_
        refine ⟨_, ⟨k + 1, rfl, by omega, (A69.slot (A69.slot (A69.slot (A69.slot (A69.slot (A69.slot (A69.slot (A69.slot (A69.slot (A69.slot (A69.slot (A69.slot (A69.slot (A69.slot (A69.slot (A69.slot A69.nil (v := .int .i64 ((k : Int) + 1)) (by kernel_rfl) (congrArg (Value.int .i64) (by omega))) (v := .pointer (some ⟨g48, 0, none⟩)) (by kernel_rfl) rfl) (v := .pointer (some ⟨g42, 0, none⟩)) (by kernel_rfl) rfl) (v := .agg #[.int .i64 a, .int .i64 b, .int .i64 (-a), .int .i64 (-b)]) (by kernel_rfl) rfl) (v := .int .i64 (-b)) (by kernel_rfl) rfl) (v := .int .i64 b) (by kernel_rfl) rfl) (v := .int .i64 (-a)) (by kernel_rfl) rfl) (v := .int .i64 a) (by kernel_rfl) rfl) (v := .int .i64 b) (by kernel_rfl) rfl) (v := .int .i64 a) (by kernel_rfl) rfl) (v := .bool ((!(inB a (-2047) 2047)) || (!(inB b (-2047) 2047)))) (by kernel_rfl) rfl) (v := .bool false) (by kernel_rfl) rfl) (v := .bool true) (by kernel_rfl) rfl) (v := .bool false) (by kernel_rfl) rfl) (v := .int .i64 b) (by kernel_rfl) rfl) (v := .int .i64 a) (by kernel_rfl) rfl), (St.recell 0 S65 rfl (congrArg trc (done_set 0 (fun i => floatOfInt .f32 (qrt a b i)) 64 k))).sub sub_all sub_all⟩, ?_⟩
        omega
      · have p70 := of_decide_eq_false h55
        refine wp_exit ?_
        refine x_then ?_
        refine x_then ?_
        refine x_hit ?_
        refine n_then ?_
        refine wp_seq ?_
        obtain rfl : k = 64 := by omega
        replace S51 : St w0 [⟨g48, 26, (trc (qX a b)), true⟩, ⟨g42, 48, #[.int .i64 a, .int .i64 b, .int .i64 (-a), .int .i64 (-b)], true⟩] [] _ := S51
        have q0 := qX_right ha hb
        have HB := nums_range (qX_length a b) (right_of q0)
        refine wp_region_lit ?_
        refine s_one (.agg (trc (qX a b))) A54 S51 (g_loadW (g := g48) 0 (by kernel_rfl) rfl ((trc_size _).trans (qX_length a b)) ⟨⟨_, Try.underlying26, rfl⟩, by kernel_rfl⟩) rfl (fun ac A71 => ?_)
        refine s_call (fs := #[]) (cp := #[]) (r := [(0, .agg (trc (qX a b)))]) #[.agg (trc (qX a b))] (.tuple #[.agg (cxs (partsL (nums (qX a b)))), .int .i64 0]) A71 S51 (Analytic_right (qX a b) _ (qX_length a b) q0) Try.call17 (by kernel_rfl) (by kernel_rfl) (by kernel_rfl) rfl (fun ac wc A72 S73 => ?_)
        refine s_one (.tuple #[.agg (cxs (partsL (nums (qX a b)))), .int .i64 0]) A72 S73 (g_move (by kernel_rfl)) rfl (fun ac A75 => ?_)
        refine s_one (.agg (cxs (partsL (nums (qX a b))))) A75 S73 (g_extract (u := .tuple #[.agg (cxs (partsL (nums (qX a b)))), .int .i64 0]) (by kernel_rfl) (fun _ => by kernel_rfl)) rfl (fun ac A76 => ?_)
        refine s_one (.int .i64 0) A76 S73 (g_extract (u := .tuple #[.agg (cxs (partsL (nums (qX a b)))), .int .i64 0]) (by kernel_rfl) (fun _ => by kernel_rfl)) rfl (fun ac A77 => ?_)
        refine s_alloc (cxs (List.replicate 61 (0, 0))) A77 S73 zero36 rfl (fun g80 ac wc A78 S79 => ?_)
        refine s_store (g := g80) (off := 0) (v := .agg (cxs (partsL (nums (qX a b))))) 0 (cxs (partsL (nums (qX a b)))) A78 S79 (by kernel_rfl) (by kernel_rfl) rfl (putVal_whole ((cxs_size _).trans List.length_replicate) ((cxs_size _).trans (partsL_length _)) ⟨⟨_, Try.underlying36, rfl⟩, by kernel_rfl⟩ (cxs_one _)) (fun wc S82 => ?_)
        refine s_one (.int .i64 0) A78 S82 (g_assign (by kernel_rfl)) rfl (fun ac A84 => ?_)
        refine wpList_nil ?_
        refine n_then ?_
        refine wp_seq ?_
        refine wp_region_lit ?_
        refine s_one (.agg (trc (qX a b))) A84 S82 (g_loadW (g := g48) 1 (by kernel_rfl) rfl ((trc_size _).trans (qX_length a b)) ⟨⟨_, Try.underlying26, rfl⟩, by kernel_rfl⟩) rfl (fun ac A85 => ?_)
        refine s_call (fs := #[]) (cp := #[]) (r := [(0, .agg (trc (qX a b)))]) #[.agg (trc (qX a b))] (.tuple #[.agg (ints (sqL (nums (qX a b)))), .int .i64 0]) A85 S82 (Envelope_right (qX a b) _ (qX_length a b) q0) Try.call18 (by kernel_rfl) (by kernel_rfl) (by kernel_rfl) rfl (fun ac wc A86 S87 => ?_)
        refine s_one (.tuple #[.agg (ints (sqL (nums (qX a b)))), .int .i64 0]) A86 S87 (g_move (by kernel_rfl)) rfl (fun ac A89 => ?_)
        refine s_one (.agg (ints (sqL (nums (qX a b))))) A89 S87 (g_extract (u := .tuple #[.agg (ints (sqL (nums (qX a b)))), .int .i64 0]) (by kernel_rfl) (fun _ => by kernel_rfl)) rfl (fun ac A90 => ?_)
        refine s_one (.int .i64 0) A90 S87 (g_extract (u := .tuple #[.agg (ints (sqL (nums (qX a b)))), .int .i64 0]) (by kernel_rfl) (fun _ => by kernel_rfl)) rfl (fun ac A91 => ?_)
        refine s_alloc (ints (List.replicate 61 0)) A91 S87 zero61 rfl (fun g94 ac wc A92 S93 => ?_)
        refine s_store (g := g94) (off := 0) (v := .agg (ints (sqL (nums (qX a b))))) 0 (ints (sqL (nums (qX a b)))) A92 S93 (by kernel_rfl) (by kernel_rfl) rfl (putVal_whole ((ints_size _).trans List.length_replicate) ((ints_size _).trans (sqL_length _)) ⟨⟨_, Try.underlying39, rfl⟩, by kernel_rfl⟩ (ints_one _)) (fun wc S96 => ?_)
        refine s_one (.int .i64 0) A92 S96 (g_assign (by kernel_rfl)) rfl (fun ac A98 => ?_)
        refine wpList_nil ?_
        refine n_then ?_
        refine wp_seq ?_
        refine wp_seq ?_
        refine wp_region_lit ?_
        refine s_one (.int .i64 0) A98 S96 (g_move (by kernel_rfl)) rfl (fun ac A99 => ?_)
        refine s_one (.bool (decide (0 ≠ 0))) A99 S96 (g_bin (u := .int .i64 0) (k := .int .i64 0) (by kernel_rfl) (by kernel_rfl) (fun _ => by kernel_rfl) b_neq) rfl (fun ac A100 => ?_)
        refine s_one (.bool (decide (0 ≠ 0))) A100 S96 (g_move (by kernel_rfl)) rfl (fun ac A101 => ?_)
        refine s_want (dj := 53) (b := (decide (0 ≠ 0))) A101 (by kernel_rfl) (by kernel_rfl) (by decide) ?_
        refine s_one (.int .i64 0) A101 S96 (g_move (by kernel_rfl)) rfl (fun ac A102 => ?_)
        refine s_want (dj := 53) (b := (decide (0 ≠ 0))) A102 (by kernel_rfl) (by kernel_rfl) (by decide) ?_
        refine s_one (.bool (decide (0 ≠ 0))) A102 S96 (g_bin (u := .int .i64 0) (k := .int .i64 0) (by kernel_rfl) (by kernel_rfl) (fun _ => by kernel_rfl) b_neq) rfl (fun ac A103 => ?_)
        refine s_one (.bool (decide (0 ≠ 0))) A103 S96 (g_pick_f (b := (decide (0 ≠ 0))) (by kernel_rfl) (by decide) (by kernel_rfl)) rfl (fun ac A104 => ?_)
        refine wpList_nil ?_
        refine n_then ?_
        refine c_f (b := (decide (0 ≠ 0))) A104 (by kernel_rfl) (by decide) ?_
        refine wp_skip ?_
        refine n_then ?_
        refine wp_seq ?_
        refine wp_seq ?_
        refine wp_region_lit ?_
        refine s_one (.int .i64 0) A104 S96 (g_assign (by kernel_rfl)) rfl (fun ac A105 => ?_)
        refine wpList_nil ?_
        refine n_then ?_
        refine wp_block ?_
        refine c_loopN (fun mm ac wc => ∃ (k : Nat), mm = 61 - k ∧ (k ≤ 61) ∧ Fr 102 ac [(0, .int .i64 a), (1, .int .i64 b), (13, .bool true), (14, .bool false), (22, .bool ((!(inB a (-2047) 2047)) || (!(inB b (-2047) 2047)))), (23, .int .i64 a), (24, .int .i64 b), (25, .int .i64 a), (26, .int .i64 (-a)), (27, .int .i64 b), (28, .int .i64 (-b)), (29, .agg #[.int .i64 a, .int .i64 b, .int .i64 (-a), .int .i64 (-b)]), (5, .pointer (some ⟨g42, 0, none⟩)), (6, .pointer (some ⟨g48, 0, none⟩)), (7, .int .i64 (64 : Int)), (30, .int .i64 (64 : Int)), (31, .bool (decide ((64 : Int) < 64))), (42, .agg (trc (qX a b))), (43, .tuple #[.agg (cxs (partsL (nums (qX a b)))), .int .i64 0]), (41, .tuple #[.agg (cxs (partsL (nums (qX a b)))), .int .i64 0]), (44, .agg (cxs (partsL (nums (qX a b))))), (45, .int .i64 0), (8, .pointer (some ⟨g80, 0, none⟩)), (9, .int .i64 0), (47, .agg (trc (qX a b))), (48, .tuple #[.agg (ints (sqL (nums (qX a b)))), .int .i64 0]), (46, .tuple #[.agg (ints (sqL (nums (qX a b)))), .int .i64 0]), (49, .agg (ints (sqL (nums (qX a b))))), (50, .int .i64 0), (10, .pointer (some ⟨g94, 0, none⟩)), (11, .int .i64 0), (51, .int .i64 0), (52, .bool (decide (0 ≠ 0))), (53, .bool (decide (0 ≠ 0))), (54, .int .i64 0), (55, .bool (decide (0 ≠ 0))), (56, .bool (decide (0 ≠ 0))), (12, .int .i64 (k : Int))] ∧ St w0 [⟨g94, 39, (ints (sqL (nums (qX a b)))), true⟩, ⟨g80, 36, (cxs (partsL (nums (qX a b)))), true⟩, ⟨g48, 26, (trc (qX a b)), true⟩, ⟨g42, 48, #[.int .i64 a, .int .i64 b, .int .i64 (-a), .int .i64 (-b)], true⟩] [] wc) _ ⟨0, rfl, by omega, (A105.slot (A105.slot (A105.slot (A105.slot (A105.slot (A105.slot (A105.slot (A105.slot (A105.slot (A105.slot (A105.slot (A105.slot (A105.slot (A105.slot (A105.slot (A105.slot (A105.slot (A105.slot (A105.slot (A105.slot (A105.slot (A105.slot (A105.slot (A105.slot (A105.slot (A105.slot (A105.slot (A105.slot (A105.slot (A105.slot (A105.slot (A105.slot (A105.slot (A105.slot (A105.slot (A105.slot (A105.slot (A105.slot A105.nil (v := .int .i64 0) (by kernel_rfl) (congrArg (Value.int .i64) (by omega))) (v := .bool (decide (0 ≠ 0))) (by kernel_rfl) rfl) (v := .bool (decide (0 ≠ 0))) (by kernel_rfl) rfl) (v := .int .i64 0) (by kernel_rfl) rfl) (v := .bool (decide (0 ≠ 0))) (by kernel_rfl) rfl) (v := .bool (decide (0 ≠ 0))) (by kernel_rfl) rfl) (v := .int .i64 0) (by kernel_rfl) rfl) (v := .int .i64 0) (by kernel_rfl) rfl) (v := .pointer (some ⟨g94, 0, none⟩)) (by kernel_rfl) rfl) (v := .int .i64 0) (by kernel_rfl) rfl) (v := .agg (ints (sqL (nums (qX a b))))) (by kernel_rfl) rfl) (v := .tuple #[.agg (ints (sqL (nums (qX a b)))), .int .i64 0]) (by kernel_rfl) rfl) (v := .tuple #[.agg (ints (sqL (nums (qX a b)))), .int .i64 0]) (by kernel_rfl) rfl) (v := .agg (trc (qX a b))) (by kernel_rfl) rfl) (v := .int .i64 0) (by kernel_rfl) rfl) (v := .pointer (some ⟨g80, 0, none⟩)) (by kernel_rfl) rfl) (v := .int .i64 0) (by kernel_rfl) rfl) (v := .agg (cxs (partsL (nums (qX a b))))) (by kernel_rfl) rfl) (v := .tuple #[.agg (cxs (partsL (nums (qX a b)))), .int .i64 0]) (by kernel_rfl) rfl) (v := .tuple #[.agg (cxs (partsL (nums (qX a b)))), .int .i64 0]) (by kernel_rfl) rfl) (v := .agg (trc (qX a b))) (by kernel_rfl) rfl) (v := .bool (decide ((64 : Int) < 64))) (by kernel_rfl) rfl) (v := .int .i64 (64 : Int)) (by kernel_rfl) rfl) (v := .int .i64 (64 : Int)) (by kernel_rfl) rfl) (v := .pointer (some ⟨g48, 0, none⟩)) (by kernel_rfl) rfl) (v := .pointer (some ⟨g42, 0, none⟩)) (by kernel_rfl) rfl) (v := .agg #[.int .i64 a, .int .i64 b, .int .i64 (-a), .int .i64 (-b)]) (by kernel_rfl) rfl) (v := .int .i64 (-b)) (by kernel_rfl) rfl) (v := .int .i64 b) (by kernel_rfl) rfl) (v := .int .i64 (-a)) (by kernel_rfl) rfl) (v := .int .i64 a) (by kernel_rfl) rfl) (v := .int .i64 b) (by kernel_rfl) rfl) (v := .int .i64 a) (by kernel_rfl) rfl) (v := .bool ((!(inB a (-2047) 2047)) || (!(inB b (-2047) 2047)))) (by kernel_rfl) rfl) (v := .bool false) (by kernel_rfl) rfl) (v := .bool true) (by kernel_rfl) rfl) (v := .int .i64 b) (by kernel_rfl) rfl) (v := .int .i64 a) (by kernel_rfl) rfl), S96.sub sub_all sub_all⟩ ?_
        rintro mm ac wc ⟨k, hm108, hk, A106, S107⟩
        refine wp_seq ?_
        refine wp_seq ?_
        refine wp_region_lit ?_
        refine s_one (.int .i64 (k : Int)) A106 S107 (g_move (by kernel_rfl)) rfl (fun ac A109 => ?_)
        refine s_one (.bool (decide ((k : Int) < 61))) A109 S107 (g_bin (u := .int .i64 (k : Int)) (k := .int .i64 61) (by kernel_rfl) (by kernel_rfl) (fun _ => by kernel_rfl) (fun _ => by kernel_rfl)) rfl (fun ac A110 => ?_)
        refine wpList_nil ?_
        refine n_then ?_
        refine c_ifb (b := (decide ((k : Int) < 61))) A110 (by kernel_rfl) (fun h111 => ?_) (fun h111 => ?_)
        · have p112 := of_decide_eq_true h111
          refine wp_skip ?_
          refine n_then ?_
          refine wp_seq ?_
          refine wp_block ?_
          refine wp_seq ?_
          refine c_cut (fun ac wc => Fr 102 ac [(101, .bool ((decide ((k : Int) > 0)) && (decide ((nthP (partsL (nums (qX a b))) k).2 ≠ -(nthP (partsL (nums (qX a b))) (((k : Int) - 1).toNat)).1)))), (0, .int .i64 a), (1, .int .i64 b), (13, .bool true), (14, .bool false), (22, .bool ((!(inB a (-2047) 2047)) || (!(inB b (-2047) 2047)))), (23, .int .i64 a), (24, .int .i64 b), (25, .int .i64 a), (26, .int .i64 (-a)), (27, .int .i64 b), (28, .int .i64 (-b)), (29, .agg #[.int .i64 a, .int .i64 b, .int .i64 (-a), .int .i64 (-b)]), (5, .pointer (some ⟨g42, 0, none⟩)), (6, .pointer (some ⟨g48, 0, none⟩)), (7, .int .i64 (64 : Int)), (30, .int .i64 (64 : Int)), (31, .bool (decide ((64 : Int) < 64))), (42, .agg (trc (qX a b))), (43, .tuple #[.agg (cxs (partsL (nums (qX a b)))), .int .i64 0]), (41, .tuple #[.agg (cxs (partsL (nums (qX a b)))), .int .i64 0]), (44, .agg (cxs (partsL (nums (qX a b))))), (45, .int .i64 0), (8, .pointer (some ⟨g80, 0, none⟩)), (9, .int .i64 0), (47, .agg (trc (qX a b))), (48, .tuple #[.agg (ints (sqL (nums (qX a b)))), .int .i64 0]), (46, .tuple #[.agg (ints (sqL (nums (qX a b)))), .int .i64 0]), (49, .agg (ints (sqL (nums (qX a b))))), (50, .int .i64 0), (10, .pointer (some ⟨g94, 0, none⟩)), (11, .int .i64 0), (51, .int .i64 0), (52, .bool (decide (0 ≠ 0))), (53, .bool (decide (0 ≠ 0))), (54, .int .i64 0), (55, .bool (decide (0 ≠ 0))), (56, .bool (decide (0 ≠ 0))), (12, .int .i64 (k : Int)), (57, .int .i64 (k : Int)), (58, .bool (decide ((k : Int) < 61)))] ∧ St w0 [⟨g94, 39, (ints (sqL (nums (qX a b)))), true⟩, ⟨g80, 36, (cxs (partsL (nums (qX a b)))), true⟩, ⟨g48, 26, (trc (qX a b)), true⟩, ⟨g42, 48, #[.int .i64 a, .int .i64 b, .int .i64 (-a), .int .i64 (-b)], true⟩] [] wc) ?_ ?_
          · refine r_begin (w0 := w0) (by kernel_rfl) (S107.sub sub_all sub_all) (fun wc T113 B114 => ?_)
            have S115 := S107.kept B114
            refine r_take 0 (.int .i64 (k : Int)) A110 T113 (g_move (by kernel_rfl)) rfl rfl rfl (pf_then (pf_then (pf_block (pf_then (pf_then (pf_block (pf_then pf_body))))))) (by kernel_rfl) (fun ac A116 => ?_)
            refine r_take 1 (.pointer (some ⟨g94, k, none⟩)) A116 T113 (g_index (u := .pointer (some ⟨g94, 0, none⟩)) (k := .int .i64 (k : Int)) (by kernel_rfl) (by kernel_rfl) (ix_arr1 k (len := 61) (by kernel_rfl) (by omega) (by omega))) rfl rfl rfl (pf_then (pf_then (pf_block (pf_then (pf_then (pf_block (pf_then pf_body))))))) (by kernel_rfl) (fun ac A117 => ?_)
            refine r_take 2 (.int .i64 (nthI (sqL (nums (qX a b))) k)) A117 T113 (g_load (g := g94) (off := k) 0 (by kernel_rfl) rfl (rv_of (by kernel_rfl) (ints_get (by rw [(sqL_length _)]; omega)))) rfl rfl rfl (pf_then (pf_then (pf_block (pf_then (pf_then (pf_block (pf_then pf_body))))))) (by kernel_rfl) (fun ac A118 => ?_)
            refine r_take 3 (.int .i64 a) A118 T113 (g_move (by kernel_rfl)) rfl rfl rfl (pf_then (pf_then (pf_block (pf_then (pf_then (pf_block (pf_then pf_body))))))) (by kernel_rfl) (fun ac A119 => ?_)
            refine r_take 4 (.int .i64 a) A119 T113 (g_move (by kernel_rfl)) rfl rfl rfl (pf_then (pf_then (pf_block (pf_then (pf_then (pf_block (pf_then pf_body))))))) (by kernel_rfl) (fun ac A120 => ?_)
            refine r_take 5 (.int .i64 (a * a)) A120 T113 (g_bin (u := .int .i64 a) (k := .int .i64 a) (by kernel_rfl) (by kernel_rfl) (fun _ => by kernel_rfl) (b_mul (by omega))) rfl rfl rfl (pf_then (pf_then (pf_block (pf_then (pf_then (pf_block (pf_then pf_body))))))) (by kernel_rfl) (fun ac A121 => ?_)
            refine r_take 6 (.int .i64 b) A121 T113 (g_move (by kernel_rfl)) rfl rfl rfl (pf_then (pf_then (pf_block (pf_then (pf_then (pf_block (pf_then pf_body))))))) (by kernel_rfl) (fun ac A122 => ?_)
            refine r_take 7 (.int .i64 b) A122 T113 (g_move (by kernel_rfl)) rfl rfl rfl (pf_then (pf_then (pf_block (pf_then (pf_then (pf_block (pf_then pf_body))))))) (by kernel_rfl) (fun ac A123 => ?_)
            refine r_take 8 (.int .i64 (b * b)) A123 T113 (g_bin (u := .int .i64 b) (k := .int .i64 b) (by kernel_rfl) (by kernel_rfl) (fun _ => by kernel_rfl) (b_mul (by omega))) rfl rfl rfl (pf_then (pf_then (pf_block (pf_then (pf_then (pf_block (pf_then pf_body))))))) (by kernel_rfl) (fun ac A124 => ?_)
            refine r_take 9 (.int .i64 (a * a + (b * b))) A124 T113 (g_bin (u := .int .i64 (a * a)) (k := .int .i64 (b * b)) (by kernel_rfl) (by kernel_rfl) (fun _ => by kernel_rfl) (b_add (by omega))) rfl rfl rfl (pf_then (pf_then (pf_block (pf_then (pf_then (pf_block (pf_then pf_body))))))) (by kernel_rfl) (fun ac A125 => ?_)
            refine r_take 10 (.int .i64 (4 * (a * a + (b * b)))) A125 T113 (g_bin (u := .int .i64 4) (k := .int .i64 (a * a + (b * b))) (by kernel_rfl) (by kernel_rfl) (fun _ => by kernel_rfl) (b_mul (by omega))) rfl rfl rfl (pf_then (pf_then (pf_block (pf_then (pf_then (pf_block (pf_then pf_body))))))) (by kernel_rfl) (fun ac A126 => ?_)
            refine r_take 11 (.bool (decide (nthI (sqL (nums (qX a b))) k ≠ 4 * (a * a + (b * b))))) A126 T113 (g_bin (u := .int .i64 (nthI (sqL (nums (qX a b))) k)) (k := .int .i64 (4 * (a * a + (b * b)))) (by kernel_rfl) (by kernel_rfl) (fun _ => by kernel_rfl) b_neq) rfl rfl rfl (pf_then (pf_then (pf_block (pf_then (pf_then (pf_block (pf_then pf_body))))))) (by kernel_rfl) (fun ac A127 => ?_)
            refine r_take 12 (.bool (decide (nthI (sqL (nums (qX a b))) k ≠ 4 * (a * a + (b * b))))) A127 T113 (g_move (by kernel_rfl)) rfl rfl rfl (pf_then (pf_then (pf_block (pf_then (pf_then (pf_block (pf_then pf_body))))))) (by kernel_rfl) (fun ac A128 => ?_)
            refine r_take 13 (.int .i64 (k : Int)) A128 T113 (g_move (by kernel_rfl)) rfl (want_t (dj := 73) (b := (decide (nthI (sqL (nums (qX a b))) k ≠ 4 * (a * a + (b * b))))) A128 rfl (by kernel_rfl) (by kernel_rfl) (decide_eq_false (fun h => h (qX_sq ha hb (by omega))))) rfl (pf_then (pf_then (pf_block (pf_then (pf_then (pf_block (pf_then pf_body))))))) (by kernel_rfl) (fun ac A129 => ?_)
            refine r_take 14 (.bool (decide ((k : Int) > 0))) A129 T113 (g_bin (u := .int .i64 (k : Int)) (k := .int .i64 0) (by kernel_rfl) (by kernel_rfl) (fun _ => by kernel_rfl) (fun _ => by kernel_rfl)) rfl (want_t (dj := 73) (b := (decide (nthI (sqL (nums (qX a b))) k ≠ 4 * (a * a + (b * b))))) A129 rfl (by kernel_rfl) (by kernel_rfl) (decide_eq_false (fun h => h (qX_sq ha hb (by omega))))) rfl (pf_then (pf_then (pf_block (pf_then (pf_then (pf_block (pf_then pf_body))))))) (by kernel_rfl) (fun ac A130 => ?_)
            refine r_take 15 (.bool (decide ((k : Int) > 0))) A130 T113 (g_move (by kernel_rfl)) rfl (want_t (dj := 73) (b := (decide (nthI (sqL (nums (qX a b))) k ≠ 4 * (a * a + (b * b))))) A130 rfl (by kernel_rfl) (by kernel_rfl) (decide_eq_false (fun h => h (qX_sq ha hb (by omega))))) rfl (pf_then (pf_then (pf_block (pf_then (pf_then (pf_block (pf_then pf_body))))))) (by kernel_rfl) (fun ac A131 => ?_)
            refine by_bool (decide ((k : Int) > 0)) (fun h132 => ?_) (fun h132 => ?_)
            · have p133 := of_decide_eq_true h132
              refine r_take 16 (.int .i64 (k : Int)) A131 T113 (g_move (by kernel_rfl)) rfl (want_t (dj := 76) (b := (decide ((k : Int) > 0))) A131 rfl (by kernel_rfl) (by kernel_rfl) h132) rfl (pf_then (pf_then (pf_block (pf_then (pf_then (pf_block (pf_then pf_body))))))) (by kernel_rfl) (fun ac A134 => ?_)
              refine r_take 17 (.pointer (some ⟨g80, k, none⟩)) A134 T113 (g_index (u := .pointer (some ⟨g80, 0, none⟩)) (k := .int .i64 (k : Int)) (by kernel_rfl) (by kernel_rfl) (ix_arr1 k (len := 61) (by kernel_rfl) (by omega) (by omega))) rfl (want_t (dj := 76) (b := (decide ((k : Int) > 0))) A134 rfl (by kernel_rfl) (by kernel_rfl) h132) rfl (pf_then (pf_then (pf_block (pf_then (pf_then (pf_block (pf_then pf_body))))))) (by kernel_rfl) (fun ac A135 => ?_)
              refine r_take 18 (.complex .f32 (floatOfInt .f32 (nthP (partsL (nums (qX a b))) k).1) (floatOfInt .f32 (nthP (partsL (nums (qX a b))) k).2)) A135 T113 (g_load (g := g80) (off := k) 1 (by kernel_rfl) rfl (rv_of (by kernel_rfl) (cxs_get2 (by rw [(partsL_length _)]; omega)))) rfl (want_t (dj := 76) (b := (decide ((k : Int) > 0))) A135 rfl (by kernel_rfl) (by kernel_rfl) h132) rfl (pf_then (pf_then (pf_block (pf_then (pf_then (pf_block (pf_then pf_body))))))) (by kernel_rfl) (fun ac A136 => ?_)
              refine r_take 19 (.float .f32 (floatOfInt .f32 (nthP (partsL (nums (qX a b))) k).1)) A136 T113 (g_built (r := [(0, .complex .f32 (floatOfInt .f32 (nthP (partsL (nums (qX a b))) k).1) (floatOfInt .f32 (nthP (partsL (nums (qX a b))) k).2))]) (by kernel_rfl) (fun _ _ _ => by kernel_rfl)) rfl (want_t (dj := 76) (b := (decide ((k : Int) > 0))) A136 rfl (by kernel_rfl) (by kernel_rfl) h132) rfl (pf_then (pf_then (pf_block (pf_then (pf_then (pf_block (pf_then pf_body))))))) (by kernel_rfl) (fun ac A137 => ?_)
              refine r_take 20 (.int .i64 (k : Int)) A137 T113 (g_move (by kernel_rfl)) rfl (want_t (dj := 76) (b := (decide ((k : Int) > 0))) A137 rfl (by kernel_rfl) (by kernel_rfl) h132) rfl (pf_then (pf_then (pf_block (pf_then (pf_then (pf_block (pf_then pf_body))))))) (by kernel_rfl) (fun ac A138 => ?_)
              refine r_take 21 (.int .i64 ((k : Int) - 1)) A138 T113 (g_bin (u := .int .i64 (k : Int)) (k := .int .i64 1) (by kernel_rfl) (by kernel_rfl) (fun _ => by kernel_rfl) (b_sub (by omega))) rfl (want_t (dj := 76) (b := (decide ((k : Int) > 0))) A138 rfl (by kernel_rfl) (by kernel_rfl) h132) rfl (pf_then (pf_then (pf_block (pf_then (pf_then (pf_block (pf_then pf_body))))))) (by kernel_rfl) (fun ac A139 => ?_)
              refine r_take 22 (.pointer (some ⟨g80, ((k : Int) - 1).toNat, none⟩)) A139 T113 (g_index (u := .pointer (some ⟨g80, 0, none⟩)) (k := .int .i64 ((k : Int) - 1)) (by kernel_rfl) (by kernel_rfl) (ix_arr1 (((k : Int) - 1).toNat) (len := 61) (by kernel_rfl) (by omega) (by omega))) rfl (want_t (dj := 76) (b := (decide ((k : Int) > 0))) A139 rfl (by kernel_rfl) (by kernel_rfl) h132) rfl (pf_then (pf_then (pf_block (pf_then (pf_then (pf_block (pf_then pf_body))))))) (by kernel_rfl) (fun ac A140 => ?_)
              refine r_take 23 (.complex .f32 (floatOfInt .f32 (nthP (partsL (nums (qX a b))) (((k : Int) - 1).toNat)).1) (floatOfInt .f32 (nthP (partsL (nums (qX a b))) (((k : Int) - 1).toNat)).2)) A140 T113 (g_load (g := g80) (off := ((k : Int) - 1).toNat) 1 (by kernel_rfl) rfl (rv_of (by kernel_rfl) (cxs_get2 (by rw [(partsL_length _)]; omega)))) rfl (want_t (dj := 76) (b := (decide ((k : Int) > 0))) A140 rfl (by kernel_rfl) (by kernel_rfl) h132) rfl (pf_then (pf_then (pf_block (pf_then (pf_then (pf_block (pf_then pf_body))))))) (by kernel_rfl) (fun ac A141 => ?_)
              refine r_take 24 (.float .f32 (floatOfInt .f32 (nthP (partsL (nums (qX a b))) (((k : Int) - 1).toNat)).2)) A141 T113 (g_built (r := [(0, .complex .f32 (floatOfInt .f32 (nthP (partsL (nums (qX a b))) (((k : Int) - 1).toNat)).1) (floatOfInt .f32 (nthP (partsL (nums (qX a b))) (((k : Int) - 1).toNat)).2))]) (by kernel_rfl) (fun _ _ _ => by kernel_rfl)) rfl (want_t (dj := 76) (b := (decide ((k : Int) > 0))) A141 rfl (by kernel_rfl) (by kernel_rfl) h132) rfl (pf_then (pf_then (pf_block (pf_then (pf_then (pf_block (pf_then pf_body))))))) (by kernel_rfl) (fun ac A142 => ?_)
              refine r_take 25 (.bool (decide ((nthP (partsL (nums (qX a b))) k).1 ≠ (nthP (partsL (nums (qX a b))) (((k : Int) - 1).toNat)).2))) A142 T113 (g_bin (u := .float .f32 (floatOfInt .f32 (nthP (partsL (nums (qX a b))) k).1)) (k := .float .f32 (floatOfInt .f32 (nthP (partsL (nums (qX a b))) (((k : Int) - 1).toNat)).2)) (by kernel_rfl) (by kernel_rfl) (fun _ => by kernel_rfl) (f_neq (parts_small HB _).1 (parts_small HB _).2)) rfl (want_t (dj := 76) (b := (decide ((k : Int) > 0))) A142 rfl (by kernel_rfl) (by kernel_rfl) h132) rfl (pf_then (pf_then (pf_block (pf_then (pf_then (pf_block (pf_then pf_body))))))) (by kernel_rfl) (fun ac A143 => ?_)
              refine r_take 26 (.bool (decide ((nthP (partsL (nums (qX a b))) k).1 ≠ (nthP (partsL (nums (qX a b))) (((k : Int) - 1).toNat)).2))) A143 T113 (g_move (by kernel_rfl)) rfl (want_t (dj := 76) (b := (decide ((k : Int) > 0))) A143 rfl (by kernel_rfl) (by kernel_rfl) h132) rfl (pf_then (pf_then (pf_block (pf_then (pf_then (pf_block (pf_then pf_body))))))) (by kernel_rfl) (fun ac A144 => ?_)
              refine r_take 27 (.int .i64 (k : Int)) A144 T113 (g_move (by kernel_rfl)) rfl (want_t (dj := 87) (b := (decide ((nthP (partsL (nums (qX a b))) k).1 ≠ (nthP (partsL (nums (qX a b))) (((k : Int) - 1).toNat)).2))) A144 rfl (by kernel_rfl) (by kernel_rfl) (decide_eq_false (fun h => h (qX_z ha hb (by omega) (by omega))))) rfl (pf_then (pf_then (pf_block (pf_then (pf_then (pf_block (pf_then pf_body))))))) (by kernel_rfl) (fun ac A145 => ?_)
              refine r_take 28 (.pointer (some ⟨g80, k, none⟩)) A145 T113 (g_index (u := .pointer (some ⟨g80, 0, none⟩)) (k := .int .i64 (k : Int)) (by kernel_rfl) (by kernel_rfl) (ix_arr1 k (len := 61) (by kernel_rfl) (by omega) (by omega))) rfl (want_t (dj := 87) (b := (decide ((nthP (partsL (nums (qX a b))) k).1 ≠ (nthP (partsL (nums (qX a b))) (((k : Int) - 1).toNat)).2))) A145 rfl (by kernel_rfl) (by kernel_rfl) (decide_eq_false (fun h => h (qX_z ha hb (by omega) (by omega))))) rfl (pf_then (pf_then (pf_block (pf_then (pf_then (pf_block (pf_then pf_body))))))) (by kernel_rfl) (fun ac A146 => ?_)
              refine r_take 29 (.complex .f32 (floatOfInt .f32 (nthP (partsL (nums (qX a b))) k).1) (floatOfInt .f32 (nthP (partsL (nums (qX a b))) k).2)) A146 T113 (g_load (g := g80) (off := k) 1 (by kernel_rfl) rfl (rv_of (by kernel_rfl) (cxs_get2 (by rw [(partsL_length _)]; omega)))) rfl (want_t (dj := 87) (b := (decide ((nthP (partsL (nums (qX a b))) k).1 ≠ (nthP (partsL (nums (qX a b))) (((k : Int) - 1).toNat)).2))) A146 rfl (by kernel_rfl) (by kernel_rfl) (decide_eq_false (fun h => h (qX_z ha hb (by omega) (by omega))))) rfl (pf_then (pf_then (pf_block (pf_then (pf_then (pf_block (pf_then pf_body))))))) (by kernel_rfl) (fun ac A147 => ?_)
              refine r_take 30 (.float .f32 (floatOfInt .f32 (nthP (partsL (nums (qX a b))) k).2)) A147 T113 (g_built (r := [(0, .complex .f32 (floatOfInt .f32 (nthP (partsL (nums (qX a b))) k).1) (floatOfInt .f32 (nthP (partsL (nums (qX a b))) k).2))]) (by kernel_rfl) (fun _ _ _ => by kernel_rfl)) rfl (want_t (dj := 87) (b := (decide ((nthP (partsL (nums (qX a b))) k).1 ≠ (nthP (partsL (nums (qX a b))) (((k : Int) - 1).toNat)).2))) A147 rfl (by kernel_rfl) (by kernel_rfl) (decide_eq_false (fun h => h (qX_z ha hb (by omega) (by omega))))) rfl (pf_then (pf_then (pf_block (pf_then (pf_then (pf_block (pf_then pf_body))))))) (by kernel_rfl) (fun ac A148 => ?_)
              refine r_take 31 (.int .i64 (k : Int)) A148 T113 (g_move (by kernel_rfl)) rfl (want_t (dj := 87) (b := (decide ((nthP (partsL (nums (qX a b))) k).1 ≠ (nthP (partsL (nums (qX a b))) (((k : Int) - 1).toNat)).2))) A148 rfl (by kernel_rfl) (by kernel_rfl) (decide_eq_false (fun h => h (qX_z ha hb (by omega) (by omega))))) rfl (pf_then (pf_then (pf_block (pf_then (pf_then (pf_block (pf_then pf_body))))))) (by kernel_rfl) (fun ac A149 => ?_)
              refine r_take 32 (.int .i64 ((k : Int) - 1)) A149 T113 (g_bin (u := .int .i64 (k : Int)) (k := .int .i64 1) (by kernel_rfl) (by kernel_rfl) (fun _ => by kernel_rfl) (b_sub (by omega))) rfl (want_t (dj := 87) (b := (decide ((nthP (partsL (nums (qX a b))) k).1 ≠ (nthP (partsL (nums (qX a b))) (((k : Int) - 1).toNat)).2))) A149 rfl (by kernel_rfl) (by kernel_rfl) (decide_eq_false (fun h => h (qX_z ha hb (by omega) (by omega))))) rfl (pf_then (pf_then (pf_block (pf_then (pf_then (pf_block (pf_then pf_body))))))) (by kernel_rfl) (fun ac A150 => ?_)
              refine r_take 33 (.pointer (some ⟨g80, ((k : Int) - 1).toNat, none⟩)) A150 T113 (g_index (u := .pointer (some ⟨g80, 0, none⟩)) (k := .int .i64 ((k : Int) - 1)) (by kernel_rfl) (by kernel_rfl) (ix_arr1 (((k : Int) - 1).toNat) (len := 61) (by kernel_rfl) (by omega) (by omega))) rfl (want_t (dj := 87) (b := (decide ((nthP (partsL (nums (qX a b))) k).1 ≠ (nthP (partsL (nums (qX a b))) (((k : Int) - 1).toNat)).2))) A150 rfl (by kernel_rfl) (by kernel_rfl) (decide_eq_false (fun h => h (qX_z ha hb (by omega) (by omega))))) rfl (pf_then (pf_then (pf_block (pf_then (pf_then (pf_block (pf_then pf_body))))))) (by kernel_rfl) (fun ac A151 => ?_)
              refine r_take 34 (.complex .f32 (floatOfInt .f32 (nthP (partsL (nums (qX a b))) (((k : Int) - 1).toNat)).1) (floatOfInt .f32 (nthP (partsL (nums (qX a b))) (((k : Int) - 1).toNat)).2)) A151 T113 (g_load (g := g80) (off := ((k : Int) - 1).toNat) 1 (by kernel_rfl) rfl (rv_of (by kernel_rfl) (cxs_get2 (by rw [(partsL_length _)]; omega)))) rfl (want_t (dj := 87) (b := (decide ((nthP (partsL (nums (qX a b))) k).1 ≠ (nthP (partsL (nums (qX a b))) (((k : Int) - 1).toNat)).2))) A151 rfl (by kernel_rfl) (by kernel_rfl) (decide_eq_false (fun h => h (qX_z ha hb (by omega) (by omega))))) rfl (pf_then (pf_then (pf_block (pf_then (pf_then (pf_block (pf_then pf_body))))))) (by kernel_rfl) (fun ac A152 => ?_)
              refine r_take 35 (.float .f32 (floatOfInt .f32 (nthP (partsL (nums (qX a b))) (((k : Int) - 1).toNat)).1)) A152 T113 (g_built (r := [(0, .complex .f32 (floatOfInt .f32 (nthP (partsL (nums (qX a b))) (((k : Int) - 1).toNat)).1) (floatOfInt .f32 (nthP (partsL (nums (qX a b))) (((k : Int) - 1).toNat)).2))]) (by kernel_rfl) (fun _ _ _ => by kernel_rfl)) rfl (want_t (dj := 87) (b := (decide ((nthP (partsL (nums (qX a b))) k).1 ≠ (nthP (partsL (nums (qX a b))) (((k : Int) - 1).toNat)).2))) A152 rfl (by kernel_rfl) (by kernel_rfl) (decide_eq_false (fun h => h (qX_z ha hb (by omega) (by omega))))) rfl (pf_then (pf_then (pf_block (pf_then (pf_then (pf_block (pf_then pf_body))))))) (by kernel_rfl) (fun ac A153 => ?_)
              refine r_take 36 (.float .f32 (Op.negFloat .f32 (floatOfInt .f32 (nthP (partsL (nums (qX a b))) (((k : Int) - 1).toNat)).1))) A153 T113 (g_un (u := .float .f32 (floatOfInt .f32 (nthP (partsL (nums (qX a b))) (((k : Int) - 1).toNat)).1)) (by kernel_rfl) (fun _ => by kernel_rfl)) rfl (want_t (dj := 87) (b := (decide ((nthP (partsL (nums (qX a b))) k).1 ≠ (nthP (partsL (nums (qX a b))) (((k : Int) - 1).toNat)).2))) A153 rfl (by kernel_rfl) (by kernel_rfl) (decide_eq_false (fun h => h (qX_z ha hb (by omega) (by omega))))) rfl (pf_then (pf_then (pf_block (pf_then (pf_then (pf_block (pf_then pf_body))))))) (by kernel_rfl) (fun ac A154 => ?_)
              refine r_take 37 (.bool (decide ((nthP (partsL (nums (qX a b))) k).2 ≠ -(nthP (partsL (nums (qX a b))) (((k : Int) - 1).toNat)).1))) A154 T113 (g_bin (u := .float .f32 (floatOfInt .f32 (nthP (partsL (nums (qX a b))) k).2)) (k := .float .f32 (Op.negFloat .f32 (floatOfInt .f32 (nthP (partsL (nums (qX a b))) (((k : Int) - 1).toNat)).1))) (by kernel_rfl) (by kernel_rfl) (fun _ => by kernel_rfl) (f_neqn (parts_small HB _).2 (parts_small HB _).1)) rfl (want_t (dj := 87) (b := (decide ((nthP (partsL (nums (qX a b))) k).1 ≠ (nthP (partsL (nums (qX a b))) (((k : Int) - 1).toNat)).2))) A154 rfl (by kernel_rfl) (by kernel_rfl) (decide_eq_false (fun h => h (qX_z ha hb (by omega) (by omega))))) rfl (pf_then (pf_then (pf_block (pf_then (pf_then (pf_block (pf_then pf_body))))))) (by kernel_rfl) (fun ac A155 => ?_)
              refine r_take 38 (.bool (decide ((nthP (partsL (nums (qX a b))) k).2 ≠ -(nthP (partsL (nums (qX a b))) (((k : Int) - 1).toNat)).1))) A155 T113 (g_pick_f (b := (decide ((nthP (partsL (nums (qX a b))) k).1 ≠ (nthP (partsL (nums (qX a b))) (((k : Int) - 1).toNat)).2))) (by kernel_rfl) (decide_eq_false (fun h => h (qX_z ha hb (by omega) (by omega)))) (by kernel_rfl)) rfl (want_t (dj := 76) (b := (decide ((k : Int) > 0))) A155 rfl (by kernel_rfl) (by kernel_rfl) h132) rfl (pf_then (pf_then (pf_block (pf_then (pf_then (pf_block (pf_then pf_body))))))) (by kernel_rfl) (fun ac A156 => ?_)
              refine r_take 39 (.bool (decide ((nthP (partsL (nums (qX a b))) k).2 ≠ -(nthP (partsL (nums (qX a b))) (((k : Int) - 1).toNat)).1))) A156 T113 (g_pick_t (b := (decide ((k : Int) > 0))) (by kernel_rfl) h132 (by kernel_rfl)) rfl (want_t (dj := 73) (b := (decide (nthI (sqL (nums (qX a b))) k ≠ 4 * (a * a + (b * b))))) A156 rfl (by kernel_rfl) (by kernel_rfl) (decide_eq_false (fun h => h (qX_sq ha hb (by omega))))) rfl (pf_then (pf_then (pf_block (pf_then (pf_then (pf_block (pf_then pf_body))))))) (by kernel_rfl) (fun ac A157 => ?_)
              refine r_take 40 (.bool (decide ((nthP (partsL (nums (qX a b))) k).2 ≠ -(nthP (partsL (nums (qX a b))) (((k : Int) - 1).toNat)).1))) A157 T113 (g_pick_f (b := (decide (nthI (sqL (nums (qX a b))) k ≠ 4 * (a * a + (b * b))))) (by kernel_rfl) (decide_eq_false (fun h => h (qX_sq ha hb (by omega)))) (by kernel_rfl)) rfl rfl rfl (pf_then (pf_then (pf_block (pf_then (pf_then (pf_block (pf_then pf_body))))))) (by kernel_rfl) (fun ac A158 => ?_)
              refine r_done (by kernel_rfl) ?_
              refine n_then ?_
              exact ⟨(A158.slot (A158.slot (A158.slot (A158.slot (A158.slot (A158.slot (A158.slot (A158.slot (A158.slot (A158.slot (A158.slot (A158.slot (A158.slot (A158.slot (A158.slot (A158.slot (A158.slot (A158.slot (A158.slot (A158.slot (A158.slot (A158.slot (A158.slot (A158.slot (A158.slot (A158.slot (A158.slot (A158.slot (A158.slot (A158.slot (A158.slot (A158.slot (A158.slot (A158.slot (A158.slot (A158.slot (A158.slot (A158.slot (A158.slot (A158.slot (A158.slot A158.nil (v := .bool (decide ((k : Int) < 61))) (by kernel_rfl) rfl) (v := .int .i64 (k : Int)) (by kernel_rfl) rfl) (v := .int .i64 (k : Int)) (by kernel_rfl) rfl) (v := .bool (decide (0 ≠ 0))) (by kernel_rfl) rfl) (v := .bool (decide (0 ≠ 0))) (by kernel_rfl) rfl) (v := .int .i64 0) (by kernel_rfl) rfl) (v := .bool (decide (0 ≠ 0))) (by kernel_rfl) rfl) (v := .bool (decide (0 ≠ 0))) (by kernel_rfl) rfl) (v := .int .i64 0) (by kernel_rfl) rfl) (v := .int .i64 0) (by kernel_rfl) rfl) (v := .pointer (some ⟨g94, 0, none⟩)) (by kernel_rfl) rfl) (v := .int .i64 0) (by kernel_rfl) rfl) (v := .agg (ints (sqL (nums (qX a b))))) (by kernel_rfl) rfl) (v := .tuple #[.agg (ints (sqL (nums (qX a b)))), .int .i64 0]) (by kernel_rfl) rfl) (v := .tuple #[.agg (ints (sqL (nums (qX a b)))), .int .i64 0]) (by kernel_rfl) rfl) (v := .agg (trc (qX a b))) (by kernel_rfl) rfl) (v := .int .i64 0) (by kernel_rfl) rfl) (v := .pointer (some ⟨g80, 0, none⟩)) (by kernel_rfl) rfl) (v := .int .i64 0) (by kernel_rfl) rfl) (v := .agg (cxs (partsL (nums (qX a b))))) (by kernel_rfl) rfl) (v := .tuple #[.agg (cxs (partsL (nums (qX a b)))), .int .i64 0]) (by kernel_rfl) rfl) (v := .tuple #[.agg (cxs (partsL (nums (qX a b)))), .int .i64 0]) (by kernel_rfl) rfl) (v := .agg (trc (qX a b))) (by kernel_rfl) rfl) (v := .bool (decide ((64 : Int) < 64))) (by kernel_rfl) rfl) (v := .int .i64 (64 : Int)) (by kernel_rfl) rfl) (v := .int .i64 (64 : Int)) (by kernel_rfl) rfl) (v := .pointer (some ⟨g48, 0, none⟩)) (by kernel_rfl) rfl) (v := .pointer (some ⟨g42, 0, none⟩)) (by kernel_rfl) rfl) (v := .agg #[.int .i64 a, .int .i64 b, .int .i64 (-a), .int .i64 (-b)]) (by kernel_rfl) rfl) (v := .int .i64 (-b)) (by kernel_rfl) rfl) (v := .int .i64 b) (by kernel_rfl) rfl) (v := .int .i64 (-a)) (by kernel_rfl) rfl) (v := .int .i64 a) (by kernel_rfl) rfl) (v := .int .i64 b) (by kernel_rfl) rfl) (v := .int .i64 a) (by kernel_rfl) rfl) (v := .bool ((!(inB a (-2047) 2047)) || (!(inB b (-2047) 2047)))) (by kernel_rfl) rfl) (v := .bool false) (by kernel_rfl) rfl) (v := .bool true) (by kernel_rfl) rfl) (v := .int .i64 b) (by kernel_rfl) rfl) (v := .int .i64 a) (by kernel_rfl) rfl) (v := .bool (decide ((nthP (partsL (nums (qX a b))) k).2 ≠ -(nthP (partsL (nums (qX a b))) (((k : Int) - 1).toNat)).1))) (by kernel_rfl) (congrArg Value.bool (b_and_t h132 (Eq.refl (decide ((nthP (partsL (nums (qX a b))) k).2 ≠ -(nthP (partsL (nums (qX a b))) (((k : Int) - 1).toNat)).1)))).symm)), S115.sub sub_all sub_all⟩
            · have p159 := of_decide_eq_false h132
              refine r_skip 16 A131 T113 rfl (want_f (dj := 76) (b := (decide ((k : Int) > 0))) A131 rfl (by kernel_rfl) (by kernel_rfl) h132) rfl (pf_then (pf_then (pf_block (pf_then (pf_then (pf_block (pf_then pf_body))))))) (by kernel_rfl) (fun ac A160 => ?_)
              refine r_skip 17 A160 T113 rfl (want_f (dj := 76) (b := (decide ((k : Int) > 0))) A160 rfl (by kernel_rfl) (by kernel_rfl) h132) rfl (pf_then (pf_then (pf_block (pf_then (pf_then (pf_block (pf_then pf_body))))))) (by kernel_rfl) (fun ac A161 => ?_)
              refine r_skip 18 A161 T113 rfl (want_f (dj := 76) (b := (decide ((k : Int) > 0))) A161 rfl (by kernel_rfl) (by kernel_rfl) h132) rfl (pf_then (pf_then (pf_block (pf_then (pf_then (pf_block (pf_then pf_body))))))) (by kernel_rfl) (fun ac A162 => ?_)
              refine r_skip 19 A162 T113 rfl (want_f (dj := 76) (b := (decide ((k : Int) > 0))) A162 rfl (by kernel_rfl) (by kernel_rfl) h132) rfl (pf_then (pf_then (pf_block (pf_then (pf_then (pf_block (pf_then pf_body))))))) (by kernel_rfl) (fun ac A163 => ?_)
              refine r_skip 20 A163 T113 rfl (want_f (dj := 76) (b := (decide ((k : Int) > 0))) A163 rfl (by kernel_rfl) (by kernel_rfl) h132) rfl (pf_then (pf_then (pf_block (pf_then (pf_then (pf_block (pf_then pf_body))))))) (by kernel_rfl) (fun ac A164 => ?_)
              refine r_skip 21 A164 T113 rfl (want_f (dj := 76) (b := (decide ((k : Int) > 0))) A164 rfl (by kernel_rfl) (by kernel_rfl) h132) rfl (pf_then (pf_then (pf_block (pf_then (pf_then (pf_block (pf_then pf_body))))))) (by kernel_rfl) (fun ac A165 => ?_)
              refine r_skip 22 A165 T113 rfl (want_f (dj := 76) (b := (decide ((k : Int) > 0))) A165 rfl (by kernel_rfl) (by kernel_rfl) h132) rfl (pf_then (pf_then (pf_block (pf_then (pf_then (pf_block (pf_then pf_body))))))) (by kernel_rfl) (fun ac A166 => ?_)
              refine r_skip 23 A166 T113 rfl (want_f (dj := 76) (b := (decide ((k : Int) > 0))) A166 rfl (by kernel_rfl) (by kernel_rfl) h132) rfl (pf_then (pf_then (pf_block (pf_then (pf_then (pf_block (pf_then pf_body))))))) (by kernel_rfl) (fun ac A167 => ?_)
              refine r_skip 24 A167 T113 rfl (want_f (dj := 76) (b := (decide ((k : Int) > 0))) A167 rfl (by kernel_rfl) (by kernel_rfl) h132) rfl (pf_then (pf_then (pf_block (pf_then (pf_then (pf_block (pf_then pf_body))))))) (by kernel_rfl) (fun ac A168 => ?_)
              refine r_skip 25 A168 T113 rfl (want_f (dj := 76) (b := (decide ((k : Int) > 0))) A168 rfl (by kernel_rfl) (by kernel_rfl) h132) rfl (pf_then (pf_then (pf_block (pf_then (pf_then (pf_block (pf_then pf_body))))))) (by kernel_rfl) (fun ac A169 => ?_)
              refine r_skip 26 A169 T113 rfl (want_f (dj := 76) (b := (decide ((k : Int) > 0))) A169 rfl (by kernel_rfl) (by kernel_rfl) h132) rfl (pf_then (pf_then (pf_block (pf_then (pf_then (pf_block (pf_then pf_body))))))) (by kernel_rfl) (fun ac A170 => ?_)
              refine r_skip 27 A170 T113 rfl (wanted_undef (dj := 87) A170 rfl (by kernel_rfl) (by kernel_rfl)) rfl (pf_then (pf_then (pf_block (pf_then (pf_then (pf_block (pf_then pf_body))))))) (by kernel_rfl) (fun ac A171 => ?_)
              refine r_skip 28 A171 T113 rfl (wanted_undef (dj := 87) A171 rfl (by kernel_rfl) (by kernel_rfl)) rfl (pf_then (pf_then (pf_block (pf_then (pf_then (pf_block (pf_then pf_body))))))) (by kernel_rfl) (fun ac A172 => ?_)
              refine r_skip 29 A172 T113 rfl (wanted_undef (dj := 87) A172 rfl (by kernel_rfl) (by kernel_rfl)) rfl (pf_then (pf_then (pf_block (pf_then (pf_then (pf_block (pf_then pf_body))))))) (by kernel_rfl) (fun ac A173 => ?_)
              refine r_skip 30 A173 T113 rfl (wanted_undef (dj := 87) A173 rfl (by kernel_rfl) (by kernel_rfl)) rfl (pf_then (pf_then (pf_block (pf_then (pf_then (pf_block (pf_then pf_body))))))) (by kernel_rfl) (fun ac A174 => ?_)
              refine r_skip 31 A174 T113 rfl (wanted_undef (dj := 87) A174 rfl (by kernel_rfl) (by kernel_rfl)) rfl (pf_then (pf_then (pf_block (pf_then (pf_then (pf_block (pf_then pf_body))))))) (by kernel_rfl) (fun ac A175 => ?_)
              refine r_skip 32 A175 T113 rfl (wanted_undef (dj := 87) A175 rfl (by kernel_rfl) (by kernel_rfl)) rfl (pf_then (pf_then (pf_block (pf_then (pf_then (pf_block (pf_then pf_body))))))) (by kernel_rfl) (fun ac A176 => ?_)
              refine r_skip 33 A176 T113 rfl (wanted_undef (dj := 87) A176 rfl (by kernel_rfl) (by kernel_rfl)) rfl (pf_then (pf_then (pf_block (pf_then (pf_then (pf_block (pf_then pf_body))))))) (by kernel_rfl) (fun ac A177 => ?_)
              refine r_skip 34 A177 T113 rfl (wanted_undef (dj := 87) A177 rfl (by kernel_rfl) (by kernel_rfl)) rfl (pf_then (pf_then (pf_block (pf_then (pf_then (pf_block (pf_then pf_body))))))) (by kernel_rfl) (fun ac A178 => ?_)
              refine r_skip 35 A178 T113 rfl (wanted_undef (dj := 87) A178 rfl (by kernel_rfl) (by kernel_rfl)) rfl (pf_then (pf_then (pf_block (pf_then (pf_then (pf_block (pf_then pf_body))))))) (by kernel_rfl) (fun ac A179 => ?_)
              refine r_skip 36 A179 T113 rfl (wanted_undef (dj := 87) A179 rfl (by kernel_rfl) (by kernel_rfl)) rfl (pf_then (pf_then (pf_block (pf_then (pf_then (pf_block (pf_then pf_body))))))) (by kernel_rfl) (fun ac A180 => ?_)
              refine r_skip 37 A180 T113 rfl (wanted_undef (dj := 87) A180 rfl (by kernel_rfl) (by kernel_rfl)) rfl (pf_then (pf_then (pf_block (pf_then (pf_then (pf_block (pf_then pf_body))))))) (by kernel_rfl) (fun ac A181 => ?_)
              refine r_skip 38 A181 T113 rfl (want_f (dj := 76) (b := (decide ((k : Int) > 0))) A181 rfl (by kernel_rfl) (by kernel_rfl) h132) rfl (pf_then (pf_then (pf_block (pf_then (pf_then (pf_block (pf_then pf_body))))))) (by kernel_rfl) (fun ac A182 => ?_)
              refine r_take 39 (.bool false) A182 T113 (g_pick_f (b := (decide ((k : Int) > 0))) (by kernel_rfl) h132 (by kernel_rfl)) rfl (want_t (dj := 73) (b := (decide (nthI (sqL (nums (qX a b))) k ≠ 4 * (a * a + (b * b))))) A182 rfl (by kernel_rfl) (by kernel_rfl) (decide_eq_false (fun h => h (qX_sq ha hb (by omega))))) rfl (pf_then (pf_then (pf_block (pf_then (pf_then (pf_block (pf_then pf_body))))))) (by kernel_rfl) (fun ac A183 => ?_)
              refine r_take 40 (.bool false) A183 T113 (g_pick_f (b := (decide (nthI (sqL (nums (qX a b))) k ≠ 4 * (a * a + (b * b))))) (by kernel_rfl) (decide_eq_false (fun h => h (qX_sq ha hb (by omega)))) (by kernel_rfl)) rfl rfl rfl (pf_then (pf_then (pf_block (pf_then (pf_then (pf_block (pf_then pf_body))))))) (by kernel_rfl) (fun ac A184 => ?_)
              refine r_done (by kernel_rfl) ?_
              refine n_then ?_
              exact ⟨(A184.slot (A184.slot (A184.slot (A184.slot (A184.slot (A184.slot (A184.slot (A184.slot (A184.slot (A184.slot (A184.slot (A184.slot (A184.slot (A184.slot (A184.slot (A184.slot (A184.slot (A184.slot (A184.slot (A184.slot (A184.slot (A184.slot (A184.slot (A184.slot (A184.slot (A184.slot (A184.slot (A184.slot (A184.slot (A184.slot (A184.slot (A184.slot (A184.slot (A184.slot (A184.slot (A184.slot (A184.slot (A184.slot (A184.slot (A184.slot (A184.slot A184.nil (v := .bool (decide ((k : Int) < 61))) (by kernel_rfl) rfl) (v := .int .i64 (k : Int)) (by kernel_rfl) rfl) (v := .int .i64 (k : Int)) (by kernel_rfl) rfl) (v := .bool (decide (0 ≠ 0))) (by kernel_rfl) rfl) (v := .bool (decide (0 ≠ 0))) (by kernel_rfl) rfl) (v := .int .i64 0) (by kernel_rfl) rfl) (v := .bool (decide (0 ≠ 0))) (by kernel_rfl) rfl) (v := .bool (decide (0 ≠ 0))) (by kernel_rfl) rfl) (v := .int .i64 0) (by kernel_rfl) rfl) (v := .int .i64 0) (by kernel_rfl) rfl) (v := .pointer (some ⟨g94, 0, none⟩)) (by kernel_rfl) rfl) (v := .int .i64 0) (by kernel_rfl) rfl) (v := .agg (ints (sqL (nums (qX a b))))) (by kernel_rfl) rfl) (v := .tuple #[.agg (ints (sqL (nums (qX a b)))), .int .i64 0]) (by kernel_rfl) rfl) (v := .tuple #[.agg (ints (sqL (nums (qX a b)))), .int .i64 0]) (by kernel_rfl) rfl) (v := .agg (trc (qX a b))) (by kernel_rfl) rfl) (v := .int .i64 0) (by kernel_rfl) rfl) (v := .pointer (some ⟨g80, 0, none⟩)) (by kernel_rfl) rfl) (v := .int .i64 0) (by kernel_rfl) rfl) (v := .agg (cxs (partsL (nums (qX a b))))) (by kernel_rfl) rfl) (v := .tuple #[.agg (cxs (partsL (nums (qX a b)))), .int .i64 0]) (by kernel_rfl) rfl) (v := .tuple #[.agg (cxs (partsL (nums (qX a b)))), .int .i64 0]) (by kernel_rfl) rfl) (v := .agg (trc (qX a b))) (by kernel_rfl) rfl) (v := .bool (decide ((64 : Int) < 64))) (by kernel_rfl) rfl) (v := .int .i64 (64 : Int)) (by kernel_rfl) rfl) (v := .int .i64 (64 : Int)) (by kernel_rfl) rfl) (v := .pointer (some ⟨g48, 0, none⟩)) (by kernel_rfl) rfl) (v := .pointer (some ⟨g42, 0, none⟩)) (by kernel_rfl) rfl) (v := .agg #[.int .i64 a, .int .i64 b, .int .i64 (-a), .int .i64 (-b)]) (by kernel_rfl) rfl) (v := .int .i64 (-b)) (by kernel_rfl) rfl) (v := .int .i64 b) (by kernel_rfl) rfl) (v := .int .i64 (-a)) (by kernel_rfl) rfl) (v := .int .i64 a) (by kernel_rfl) rfl) (v := .int .i64 b) (by kernel_rfl) rfl) (v := .int .i64 a) (by kernel_rfl) rfl) (v := .bool ((!(inB a (-2047) 2047)) || (!(inB b (-2047) 2047)))) (by kernel_rfl) rfl) (v := .bool false) (by kernel_rfl) rfl) (v := .bool true) (by kernel_rfl) rfl) (v := .int .i64 b) (by kernel_rfl) rfl) (v := .int .i64 a) (by kernel_rfl) rfl) (v := .bool false) (by kernel_rfl) (congrArg Value.bool (b_af1 h132).symm)), S115.sub sub_all sub_all⟩
          · rintro ac wc ⟨A185, S186⟩
            refine n_then ?_
            refine c_ifb (b := ((decide ((k : Int) > 0)) && (decide ((nthP (partsL (nums (qX a b))) k).2 ≠ -(nthP (partsL (nums (qX a b))) (((k : Int) - 1).toNat)).1)))) A185 (by kernel_rfl) (fun h187 => ?_) (fun h187 => ?_)
            · have h188 := (Bool.and_eq_true_iff.1 h187).1
              have p189 := of_decide_eq_true h188
              have h190 := (Bool.and_eq_true_iff.1 h187).2
              have p191 := of_decide_eq_true h190
              exact absurd (h190.symm.trans (decide_eq_false (fun h => h (qX_y ha hb (by omega) (by omega))))) (by decide)
            · refine wp_skip ?_
              refine n_block ?_
              refine n_then ?_
              refine wp_region_lit ?_
              refine s_one (.int .i64 (k : Int)) A185 S186 (g_move (by kernel_rfl)) rfl (fun ac A192 => ?_)
              refine s_one (.int .i64 ((k : Int) + 1)) A192 S186 (g_bin (u := .int .i64 (k : Int)) (k := .int .i64 1) (by kernel_rfl) (by kernel_rfl) (fun _ => by kernel_rfl) (b_add (by omega))) rfl (fun ac A193 => ?_)
              refine s_one (.int .i64 ((k : Int) + 1)) A193 S186 (g_assign (by kernel_rfl)) rfl (fun ac A194 => ?_)
              refine wpList_nil ?_
              refine n_then ?_
              refine ⟨_, ⟨k + 1, rfl, by omega, (A194.slot (A194.slot (A194.slot (A194.slot (A194.slot (A194.slot (A194.slot (A194.slot (A194.slot (A194.slot (A194.slot (A194.slot (A194.slot (A194.slot (A194.slot (A194.slot (A194.slot (A194.slot (A194.slot (A194.slot (A194.slot (A194.slot (A194.slot (A194.slot (A194.slot (A194.slot (A194.slot (A194.slot (A194.slot (A194.slot (A194.slot (A194.slot (A194.slot (A194.slot (A194.slot (A194.slot (A194.slot (A194.slot A194.nil (v := .int .i64 ((k : Int) + 1)) (by kernel_rfl) (congrArg (Value.int .i64) (by omega))) (v := .bool (decide (0 ≠ 0))) (by kernel_rfl) rfl) (v := .bool (decide (0 ≠ 0))) (by kernel_rfl) rfl) (v := .int .i64 0) (by kernel_rfl) rfl) (v := .bool (decide (0 ≠ 0))) (by kernel_rfl) rfl) (v := .bool (decide (0 ≠ 0))) (by kernel_rfl) rfl) (v := .int .i64 0) (by kernel_rfl) rfl) (v := .int .i64 0) (by kernel_rfl) rfl) (v := .pointer (some ⟨g94, 0, none⟩)) (by kernel_rfl) rfl) (v := .int .i64 0) (by kernel_rfl) rfl) (v := .agg (ints (sqL (nums (qX a b))))) (by kernel_rfl) rfl) (v := .tuple #[.agg (ints (sqL (nums (qX a b)))), .int .i64 0]) (by kernel_rfl) rfl) (v := .tuple #[.agg (ints (sqL (nums (qX a b)))), .int .i64 0]) (by kernel_rfl) rfl) (v := .agg (trc (qX a b))) (by kernel_rfl) rfl) (v := .int .i64 0) (by kernel_rfl) rfl) (v := .pointer (some ⟨g80, 0, none⟩)) (by kernel_rfl) rfl) (v := .int .i64 0) (by kernel_rfl) rfl) (v := .agg (cxs (partsL (nums (qX a b))))) (by kernel_rfl) rfl) (v := .tuple #[.agg (cxs (partsL (nums (qX a b)))), .int .i64 0]) (by kernel_rfl) rfl) (v := .tuple #[.agg (cxs (partsL (nums (qX a b)))), .int .i64 0]) (by kernel_rfl) rfl) (v := .agg (trc (qX a b))) (by kernel_rfl) rfl) (v := .bool (decide ((64 : Int) < 64))) (by kernel_rfl) rfl) (v := .int .i64 (64 : Int)) (by kernel_rfl) rfl) (v := .int .i64 (64 : Int)) (by kernel_rfl) rfl) (v := .pointer (some ⟨g48, 0, none⟩)) (by kernel_rfl) rfl) (v := .pointer (some ⟨g42, 0, none⟩)) (by kernel_rfl) rfl) (v := .agg #[.int .i64 a, .int .i64 b, .int .i64 (-a), .int .i64 (-b)]) (by kernel_rfl) rfl) (v := .int .i64 (-b)) (by kernel_rfl) rfl) (v := .int .i64 b) (by kernel_rfl) rfl) (v := .int .i64 (-a)) (by kernel_rfl) rfl) (v := .int .i64 a) (by kernel_rfl) rfl) (v := .int .i64 b) (by kernel_rfl) rfl) (v := .int .i64 a) (by kernel_rfl) rfl) (v := .bool ((!(inB a (-2047) 2047)) || (!(inB b (-2047) 2047)))) (by kernel_rfl) rfl) (v := .bool false) (by kernel_rfl) rfl) (v := .bool true) (by kernel_rfl) rfl) (v := .int .i64 b) (by kernel_rfl) rfl) (v := .int .i64 a) (by kernel_rfl) rfl), S186.sub sub_all sub_all⟩, ?_⟩
              omega
        · have p195 := of_decide_eq_false h111
          refine wp_exit ?_
          refine x_then ?_
          refine x_then ?_
          refine x_hit ?_
          refine n_then ?_
          refine wp_seq ?_
          refine wp_region_lit ?_
          refine s_one (.bool true) A110 S107 (g_assign (by kernel_rfl)) rfl (fun ac A196 => ?_)
          refine wpList_nil ?_
          refine n_then ?_
          refine wp_ret ?_
          refine fin1 (.bool true) Try.results5 A196 S107 (rv_tmp (by kernel_rfl)) ⟨?_, S107.kp⟩
          rfl

end Go.Proofs.Ytfooefkgdcjlhaa
