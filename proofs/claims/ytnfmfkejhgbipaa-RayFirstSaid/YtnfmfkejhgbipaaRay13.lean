/- The modes that may be first. -/
import Derived.Test.YtnfmfkejhgbipaaRay11
import Derived.Test.YtnfmfkejhgbipaaFlat2
namespace Go.Proofs.Ytnfmfkejhgbipaa
open Go.RowKit Go.Cpl Go.Ray1

/-- The mode with this number: its errors and its least time. -/
def mfE (l : List Int) (fx fz tx tz : Int) (k : Nat) : Int := opE (nthI l (k * 4)) (nthI l (k * 4 + 1)) (nthI l (k * 4 + 2)) (nthI l (k * 4 + 3)) fx fz tx tz
def mfC (l : List Int) (fx fz tx tz : Int) (k : Nat) : Cr := wyC (nthI l (k * 4)) (nthI l (k * 4 + 1)) (nthI l (k * 4 + 2)) (nthI l (k * 4 + 3)) fx fz tx tz
def mfLo (l : List Int) (fx fz tx tz : Int) (k : Nat) : Int := leLo (mfC l fx fz tx tz k)
def mfHi (l : List Int) (fx fz tx tz : Int) (k : Nat) : Int := mHi (mfC l fx fz tx tz k)
def tmF (Lo Hi : Nat → Int) : Nat → List Int
  | 0 => []
  | k + 1 => tmF Lo Hi k ++ [Lo k, Hi k]
theorem tmF_length (Lo Hi : Nat → Int) : ∀ m, (tmF Lo Hi m).length = m * 2
  | 0 => rfl
  | m + 1 => by simp only [tmF, List.length_append, tmF_length Lo Hi m, List.length_cons, List.length_nil]; omega
theorem tmF_nth (Lo Hi : Nat → Int) : ∀ m j : Nat, j < m → nthI (tmF Lo Hi m) (j * 2) = Lo j ∧ nthI (tmF Lo Hi m) (j * 2 + 1) = Hi j
  | 0, j, hj => by omega
  | m + 1, j, hj => by
    have hl := tmF_length Lo Hi m
    by_cases e : j = m
    · subst e
      simp only [tmF]
      constructor
      · rw [show j * 2 = (tmF Lo Hi j).length + 0 by omega, nthI_right (by simp)]; rfl
      · rw [show j * 2 + 1 = (tmF Lo Hi j).length + 1 by omega, nthI_right (by simp)]; rfl
    · have q := tmF_nth Lo Hi m j (by omega)
      simp only [tmF]
      rw [nthI_left (by omega), nthI_left (by omega)]
      exact q
theorem tmF_snoc (Lo Hi : Nat → Int) (k : Nat) : rowI (tmF Lo Hi k) ++ [.int .i64 (Lo k), .int .i64 (Hi k)] = rowI (tmF Lo Hi (k + 1)) := rowI_app (tmF Lo Hi k) [Lo k, Hi k]
/-- The least of the greatest ends. -/
def mnS (Hi : Nat → Int) : Nat → Int
  | 0 => Hi 0
  | k + 1 => mn (mnS Hi k) (Hi k)
theorem mnS_le (Hi : Nat → Int) : ∀ k, mnS Hi (k + 1) ≤ mnS Hi k ∧ mnS Hi (k + 1) ≤ Hi k := by
  intro k; simp only [mnS]; rw [mn_eq]; omega
theorem mnS_one (Hi : Nat → Int) : mnS Hi 1 = Hi 0 := by simp only [mnS]; rw [mn_eq]; omega
theorem mnS_some (Hi : Nat → Int) : ∀ k, ∃ i, i < k + 1 ∧ mnS Hi (k + 1) = Hi i
  | 0 => ⟨0, by omega, mnS_one Hi⟩
  | k + 1 => by
    obtain ⟨i, hi, e⟩ := mnS_some Hi k
    have : mnS Hi (k + 1 + 1) = mn (mnS Hi (k + 1)) (Hi (k + 1)) := rfl
    rw [this, mn_eq]
    by_cases z : mnS Hi (k + 1) ≤ Hi (k + 1)
    · exact ⟨i, by omega, by omega⟩
    · exact ⟨k + 1, by omega, by omega⟩
/-- Those that may be first. -/
def fiL (Lo : Nat → Int) (S : Int) : Nat → List Int
  | 0 => []
  | k + 1 => if Lo k ≤ S then fiL Lo S k ++ [(k : Int)] else fiL Lo S k
theorem fiL_y {Lo : Nat → Int} {S : Int} {k : Nat} (h : Lo k ≤ S) : (fiL Lo S k).length + 1 = (fiL Lo S (k + 1)).length ∧ rowI (fiL Lo S k) ++ [.int .i64 (k : Int)] = rowI (fiL Lo S (k + 1)) := by
  simp only [fiL]; rw [if_pos h]; exact ⟨by simp, rowI_app _ [(k : Int)]⟩
theorem fiL_n {Lo : Nat → Int} {S : Int} {k : Nat} (h : ¬ Lo k ≤ S) : (fiL Lo S k).length = (fiL Lo S (k + 1)).length ∧ rowI (fiL Lo S k) = rowI (fiL Lo S (k + 1)) := by
  simp only [fiL]; rw [if_neg h]; exact ⟨rfl, rfl⟩
theorem fiL_le (Lo : Nat → Int) (S : Int) : ∀ k, (fiL Lo S k).length ≤ k
  | 0 => Nat.le_refl _
  | k + 1 => by have := fiL_le Lo S k; simp only [fiL]; split <;> simp <;> omega
theorem fiL_some {Lo : Nat → Int} {S : Int} : ∀ {k i : Nat}, i < k → Lo i ≤ S → 0 < (fiL Lo S k).length
  | 0, _, h, _ => by omega
  | k + 1, i, h, hi => by
    simp only [fiL]
    by_cases e : i = k
    · subst e; rw [if_pos hi]; simp
    · have := fiL_some (k := k) (i := i) (by omega) hi
      split
      · simp
      · exact this
/-- The first error of some. -/
def feT (E : Nat → Int) : Nat → Int
  | 0 => 0
  | k + 1 => if feT E k = 0 then E k else feT E k
theorem feT_0 {E : Nat → Int} : ∀ {k : Nat}, (∀ i, i < k → E i = 0) → feT E k = 0
  | 0, _ => rfl
  | k + 1, h => by simp only [feT]; rw [if_pos (feT_0 fun i hi => h i (by omega))]; exact h k (by omega)
theorem feT_at {E : Nat → Int} : ∀ {n k : Nat}, (∀ i, i < k → E i = 0) → E k ≠ 0 → k < n → feT E n = E k
  | 0, _, _, _, h => by omega
  | n + 1, k, h0, hk, h => by
    simp only [feT]
    by_cases e : k = n
    · subst e; rw [if_pos (feT_0 h0)]
    · have := feT_at (n := n) h0 hk (by omega)
      rw [this, if_neg hk]
theorem feT_all {E : Nat → Int} : ∀ {n : Nat}, feT E n = 0 → ∀ i, i < n → E i = 0
  | 0, _, i, hi => by omega
  | n + 1, h, i, hi => by
    simp only [feT] at h
    by_cases z : feT E n = 0
    · rw [if_pos z] at h
      by_cases e : i = n
      · subst e; exact h
      · exact feT_all z i (by omega)
    · rw [if_neg z] at h; exact absurd h z
theorem all_step {E : Nat → Int} {k : Nat} (h : ∀ i, i < k → E i = 0) (hk : E k = 0) : ∀ i, i < k + 1 → E i = 0 := by
  intro i hi
  by_cases e : i = k
  · subst e; exact hk
  · exact h i (by omega)
def mfErr (l : List Int) (fx fz tx tz : Int) (n : Nat) : Int := if n = 0 then 10 else if n > 8 then 8 else feT (mfE l fx fz tx tz) n
def mfL (l : List Int) (fx fz tx tz : Int) (n : Nat) : List Int := if mfErr l fx fz tx tz n = 0 then fiL (mfLo l fx fz tx tz) (mnS (mfHi l fx fz tx tz) n) n else []
theorem mfL_n {l : List Int} {fx fz tx tz : Int} {n : Nat} (h : mfErr l fx fz tx tz n ≠ 0) : mfL l fx fz tx tz n = [] := if_neg h
theorem mfL_0 {l : List Int} {fx fz tx tz : Int} {n : Nat} (h : mfErr l fx fz tx tz n = 0) : mfL l fx fz tx tz n = fiL (mfLo l fx fz tx tz) (mnS (mfHi l fx fz tx tz) n) n := if_pos h
theorem mfErr_a (l : List Int) (fx fz tx tz : Int) : mfErr l fx fz tx tz 0 = 10 := rfl
theorem mfErr_b {l : List Int} {fx fz tx tz : Int} {n : Nat} (h : n > 8) : mfErr l fx fz tx tz n = 8 := by unfold mfErr; rw [if_neg (by omega), if_pos h]
theorem mfErr_c {l : List Int} {fx fz tx tz : Int} {n : Nat} (h : n ≠ 0) (h2 : ¬ n > 8) : mfErr l fx fz tx tz n = feT (mfE l fx fz tx tz) n := by unfold mfErr; rw [if_neg h, if_neg h2]
theorem mfL_le (l : List Int) (fx fz tx tz : Int) (n : Nat) : (mfL l fx fz tx tz n).length ≤ n := by
  unfold mfL; split
  · exact fiL_le _ _ _
  · simp
theorem mfC_ok {l : List Int} {fx fz tx tz : Int} {k : Nat} (h : mfE l fx fz tx tz k = 0) : (mfC l fx fz tx tz k).Ok := wyC_ok (opE_0 h).1 (opE_0 h).2
theorem mf_bd {l : List Int} {fx fz tx tz : Int} {k : Nat} (h : mfE l fx fz tx tz k = 0) : 0 ≤ mfLo l fx fz tx tz k ∧ mfLo l fx fz tx tz k ≤ mfHi l fx fz tx tz k ∧ mfHi l fx fz tx tz k ≤ 12000000000 := le_bd (mfC_ok h)
theorem mf_some {l : List Int} {fx fz tx tz : Int} {n : Nat} (h : mfErr l fx fz tx tz n = 0) : 0 < (mfL l fx fz tx tz n).length := by
  rw [mfL_0 h]
  by_cases z : n = 0
  · subst z; rw [mfErr_a] at h; exact absurd h (by decide)
  · by_cases y : n > 8
    · rw [mfErr_b y] at h; exact absurd h (by decide)
    · rw [mfErr_c z y] at h
      have all := feT_all h
      obtain ⟨m, rfl⟩ : ∃ m, n = m + 1 := ⟨n - 1, by omega⟩
      obtain ⟨i, hi, e⟩ := mnS_some (mfHi l fx fz tx tz) m
      have b := mf_bd (all i hi)
      exact fiL_some hi (by rw [e]; exact b.2.1)
/-- The least by its greatest end, as the code looks for it. -/
def mfP (t : List Int) : Nat → Int × Int
  | 0 => (nthI t (0 * 2), nthI t (0 * 2 + 1))
  | k + 1 => if nthI t ((k + 1) * 2 + 1) - (mfP t k).2 < 0 then (nthI t ((k + 1) * 2), nthI t ((k + 1) * 2 + 1)) else mfP t k
theorem mfP_y {t : List Int} {k : Nat} (h : nthI t ((k + 1) * 2 + 1) - (mfP t k).2 < 0) : mfP t (k + 1) = (nthI t ((k + 1) * 2), nthI t ((k + 1) * 2 + 1)) := by simp only [mfP]; rw [if_pos h]
theorem mfP_n {t : List Int} {k : Nat} (h : ¬ nthI t ((k + 1) * 2 + 1) - (mfP t k).2 < 0) : mfP t (k + 1) = mfP t k := by simp only [mfP]; rw [if_neg h]
theorem mfP_bd {t : List Int} {n : Nat} (hb : ∀ i, i < n * 2 → 0 ≤ nthI t i ∧ nthI t i ≤ 12000000000) : ∀ k, k < n → 0 ≤ (mfP t k).2 ∧ (mfP t k).2 ≤ 12000000000
  | 0, h => hb (0 * 2 + 1) (by omega)
  | k + 1, h => by
    simp only [mfP]; split
    · exact hb _ (by omega)
    · exact mfP_bd hb k (by omega)
theorem mfP_mn {Lo Hi : Nat → Int} {n : Nat} : ∀ k, k < n → (mfP (tmF Lo Hi n) k).2 = mnS Hi (k + 1)
  | 0, h => by rw [mnS_one]; exact (tmF_nth Lo Hi n 0 h).2
  | k + 1, h => by
    have ih := mfP_mn (Lo := Lo) (Hi := Hi) (n := n) k (by omega)
    have q := (tmF_nth Lo Hi n (k + 1) h).2
    have e : mnS Hi (k + 1 + 1) = mn (mnS Hi (k + 1)) (Hi (k + 1)) := rfl
    rw [e, mn_eq]
    by_cases z : Hi (k + 1) - mnS Hi (k + 1) < 0
    · rw [mfP_y (by rw [q, ih]; exact z)]
      show nthI (tmF Lo Hi n) ((k + 1) * 2 + 1) = _
      rw [q]; omega
    · rw [mfP_n (by rw [q, ih]; exact z), ih]; omega
theorem tm_all {l : List Int} {fx fz tx tz : Int} {n : Nat} (h : ∀ i, i < n → mfE l fx fz tx tz i = 0) : ∀ i, i < n * 2 → 0 ≤ nthI (tmF (mfLo l fx fz tx tz) (mfHi l fx fz tx tz) n) i ∧ nthI (tmF (mfLo l fx fz tx tz) (mfHi l fx fz tx tz) n) i ≤ 12000000000 := by
  intro i hi
  have b := mf_bd (h (i / 2) (by omega))
  obtain ⟨e1, e2⟩ := tmF_nth (mfLo l fx fz tx tz) (mfHi l fx fz tx tz) n (i / 2) (by omega)
  rcases Nat.mod_two_eq_zero_or_one i with z | z
  · rw [show i = i / 2 * 2 by omega, e1]; omega
  · rw [show i = i / 2 * 2 + 1 by omega, e2]; omega

set_option maxRecDepth 100000 in
set_option maxHeartbeats 400000 in
theorem less_s (p q n m : Int) (w0 : World) (h1 : 0 ≤ q ∧ q ≤ 12000000000) (h2 : 0 ≤ m ∧ m ≤ 12000000000) :
    Calls Try.prog 116 #[.agg #[.int .i64 p, .int .i64 q], .agg #[.int .i64 n, .int .i64 m]] w0 fun e w' => e = .returned (.int .i64 (q - m)) ∧ Below w0.heap.size w0 w' := by
  have S0 := St.start w0
  refine enter (n := 10) Try.func116 rfl rfl rfl (fun ac A0 => ?_)
  refine wp_seq ?_
  refine wp_region_lit ?_
  refine s_box (.agg #[.int .i64 p, .int .i64 q]) A0 S0 (by kernel_rfl) rfl (fun g3 ac wc A1 S2 => ?_)
  replace S2 : St _ (⟨g3, 29, #[.int .i64 p, .int .i64 q], true⟩ :: _) _ _ := S2
  refine s_box (.agg #[.int .i64 n, .int .i64 m]) A1 S2 (by kernel_rfl) rfl (fun g7 ac wc A5 S6 => ?_)
  replace S6 : St _ (⟨g7, 29, #[.int .i64 n, .int .i64 m], true⟩ :: _) _ _ := S6
  refine s_one (.int .i64 0) A5 S6 (g_assign (by kernel_rfl)) rfl (fun ac A9 => ?_)
  refine wpList_nil ?_
  refine n_then ?_
  refine wp_seq ?_
  refine wp_region_lit ?_
  refine s_one (.pointer (some ⟨g3, 1, none⟩)) A9 S6 (g_field (u := .pointer (some ⟨g3, 0, none⟩)) (by kernel_rfl) (fun _ => by kernel_rfl)) rfl (fun ac A10 => ?_)
  refine s_one (.int .i64 q) A10 S6 (g_load (g := g3) (off := 1) 1 (by kernel_rfl) rfl (by kernel_rfl)) rfl (fun ac A11 => ?_)
  refine s_one (.pointer (some ⟨g7, 1, none⟩)) A11 S6 (g_field (u := .pointer (some ⟨g7, 0, none⟩)) (by kernel_rfl) (fun _ => by kernel_rfl)) rfl (fun ac A12 => ?_)
  refine s_one (.int .i64 m) A12 S6 (g_load (g := g7) (off := 1) 0 (by kernel_rfl) rfl (by kernel_rfl)) rfl (fun ac A13 => ?_)
  refine s_one (.int .i64 (q - m)) A13 S6 (g_bin (u := .int .i64 q) (k := .int .i64 m) (by kernel_rfl) (by kernel_rfl) (fun _ => by kernel_rfl) (b_sub (by omega))) rfl (fun ac A14 => ?_)
  refine s_one (.int .i64 (q - m)) A14 S6 (g_assign (by kernel_rfl)) rfl (fun ac A15 => ?_)
  refine wpList_nil ?_
  refine n_then ?_
  refine wp_ret ?_
  refine fin1 (.int .i64 (q - m)) Try.results116 A15 S6 (rv_tmp (by kernel_rfl)) ⟨?_, S6.kp⟩
  rfl

set_option maxRecDepth 100000 in
set_option maxHeartbeats 400000 in
theorem MinFunc_s (t : List Int) (A : Option Addr) (cap n : Nat) (w0 : World) (hn : t.length = n * 2) (hr : IReads w0 A t) (h1 : 1 ≤ n) (h2 : n ≤ 1000) (hb : ∀ i, i < n * 2 → 0 ≤ nthI t i ∧ nthI t i ≤ 12000000000) :
    Calls Try.prog 115 #[.slice A n cap, .func (.func 116) #[] #[]] w0 fun e w' => e = .returned (.agg #[.int .i64 (mfP t (n - 1)).1, .int .i64 (mfP t (n - 1)).2]) ∧ Below w0.heap.size w0 w' := by
  have S0 := St.start w0
  refine enter (n := 33) Try.func115 rfl rfl rfl (fun ac A0 => ?_)
  refine wp_seq ?_
  refine wp_region_lit ?_
  refine s_alloc (#[.int .i64 0, .int .i64 0]) A0 S0 (by kernel_rfl) rfl (fun g3 ac wc A1 S2 => ?_)
  refine wpList_nil ?_
  refine n_then ?_
  refine wp_seq ?_
  refine wp_seq ?_
  refine wp_region_lit ?_
  refine s_one (.slice A n cap) A1 S2 (g_move (by kernel_rfl)) rfl (fun ac A4 => ?_)
  refine s_one (.int .i64 (n : Int)) A4 S2 (g_built (r := [(0, .slice A n cap)]) (by kernel_rfl) (fun _ _ _ => by kernel_rfl)) rfl (fun ac A5 => ?_)
  refine s_one (.bool (decide ((n : Int) < 1))) A5 S2 (g_bin (u := .int .i64 (n : Int)) (k := .int .i64 1) (by kernel_rfl) (by kernel_rfl) (fun _ => by kernel_rfl) (fun _ => by kernel_rfl)) rfl (fun ac A6 => ?_)
  refine wpList_nil ?_
  refine n_then ?_
  refine c_f (b := (decide ((n : Int) < 1))) A6 (by kernel_rfl) (decide_eq_false (by omega)) ?_
  refine wp_skip ?_
  refine n_then ?_
  refine wp_seq ?_
  refine wp_region_lit ?_
  refine s_one (.slice A n cap) A6 S2 (g_move (by kernel_rfl)) rfl (fun ac A7 => ?_)
  obtain ⟨ad8, rfl, _⟩ := hr (0 * 2) (by have hlen := hn; omega)
  refine s_one (.pointer (some (ad8.add (0 * 2)))) A7 S2 (g_index (u := .slice (some ad8) n cap) (k := .int .i64 0) (by kernel_rfl) (by kernel_rfl) (ix_xs (e := 29) (bytes := 16) 0 (by kernel_rfl) (by omega) (by omega))) rfl (fun ac A9 => ?_)
  refine s_one (.agg #[.int .i64 (nthI t (0 * 2)), .int .i64 (nthI t (0 * 2 + 1))]) A9 S2 (g_loadXS (l := t) (k := 0 * 2) 2 (by kernel_rfl) hr (by have hlen := hn; omega) (by kernel_rfl) (by kernel_rfl)) rfl (fun ac A10 => ?_)
  refine s_alloc (#[.int .i64 0, .int .i64 0]) A10 S2 (by kernel_rfl) rfl (fun g13 ac wc A11 S12 => ?_)
  refine s_store (g := g13) (off := 0) (v := .agg #[.int .i64 (nthI t (0 * 2)), .int .i64 (nthI t (0 * 2 + 1))]) 0 (#[.int .i64 (nthI t (0 * 2)), .int .i64 (nthI t (0 * 2 + 1))]) A11 S12 (by kernel_rfl) (by kernel_rfl) rfl (by kernel_rfl) (fun wc S15 => ?_)
  refine wpList_nil ?_
  refine n_then ?_
  refine wp_seq ?_
  refine wp_seq ?_
  refine wp_region_lit ?_
  refine s_one (.int .i64 1) A11 S15 (g_assign (by kernel_rfl)) rfl (fun ac A17 => ?_)
  refine wpList_nil ?_
  refine n_then ?_
  refine wp_block ?_
  refine c_loopN (fun mm ac wc => ∃ (j : Nat), mm = n - (j + 1) ∧ (j + 1 ≤ n) ∧ Fr 33 ac [(0, .slice (some ad8) n cap), (1, .func (.func 116) #[] #[]), (4, .pointer (some ⟨g3, 0, none⟩)), (7, .slice (some ad8) n cap), (8, .int .i64 (n : Int)), (9, .bool (decide ((n : Int) < 1))), (11, .slice (some ad8) n cap), (12, .pointer (some (ad8.add (0 * 2)))), (13, .agg #[.int .i64 (nthI t (0 * 2)), .int .i64 (nthI t (0 * 2 + 1))]), (5, .pointer (some ⟨g13, 0, none⟩)), (6, .int .i64 ((j : Int) + 1))] ∧ St w0 [⟨g13, 29, #[.int .i64 ((mfP t j).1), .int .i64 ((mfP t j).2)], true⟩, ⟨g3, 29, #[.int .i64 0, .int .i64 0], true⟩] [] wc) _ ⟨0, rfl, by omega, (A17.slot (A17.slot (A17.slot (A17.slot (A17.slot (A17.slot (A17.slot (A17.slot (A17.slot (A17.slot (A17.slot A17.nil (v := .int .i64 1) (by kernel_rfl) (congrArg (Value.int .i64) (by omega))) (v := .pointer (some ⟨g13, 0, none⟩)) (by kernel_rfl) rfl) (v := .agg #[.int .i64 (nthI t (0 * 2)), .int .i64 (nthI t (0 * 2 + 1))]) (by kernel_rfl) rfl) (v := .pointer (some (ad8.add (0 * 2)))) (by kernel_rfl) rfl) (v := .slice (some ad8) n cap) (by kernel_rfl) rfl) (v := .bool (decide ((n : Int) < 1))) (by kernel_rfl) rfl) (v := .int .i64 (n : Int)) (by kernel_rfl) rfl) (v := .slice (some ad8) n cap) (by kernel_rfl) rfl) (v := .pointer (some ⟨g3, 0, none⟩)) (by kernel_rfl) rfl) (v := .func (.func 116) #[] #[]) (by kernel_rfl) rfl) (v := .slice (some ad8) n cap) (by kernel_rfl) rfl), (St.recell 0 S15 rfl rfl).sub sub_all sub_all⟩ ?_
  rintro mm ac wc ⟨j, hm20, hj, A18, S19⟩
  have bj := mfP_bd hb j (by omega)
  refine wp_seq ?_
  refine wp_seq ?_
  refine wp_region_lit ?_
  refine s_one (.int .i64 ((j : Int) + 1)) A18 S19 (g_move (by kernel_rfl)) rfl (fun ac A21 => ?_)
  refine s_one (.slice (some ad8) n cap) A21 S19 (g_move (by kernel_rfl)) rfl (fun ac A22 => ?_)
  refine s_one (.int .i64 (n : Int)) A22 S19 (g_built (r := [(0, .slice (some ad8) n cap)]) (by kernel_rfl) (fun _ _ _ => by kernel_rfl)) rfl (fun ac A23 => ?_)
  refine s_one (.bool (decide ((j : Int) + 1 < (n : Int)))) A23 S19 (g_bin (u := .int .i64 ((j : Int) + 1)) (k := .int .i64 (n : Int)) (by kernel_rfl) (by kernel_rfl) (fun _ => by kernel_rfl) (fun _ => by kernel_rfl)) rfl (fun ac A24 => ?_)
  refine wpList_nil ?_
  refine n_then ?_
  refine c_ifb (b := (decide ((j : Int) + 1 < (n : Int)))) A24 (by kernel_rfl) (fun h25 => ?_) (fun h25 => ?_)
  · have p26 := of_decide_eq_true h25
    have bi := hb ((j + 1) * 2 + 1) (by omega)
    refine wp_skip ?_
    refine n_then ?_
    refine wp_seq ?_
    refine wp_block ?_
    refine wp_seq ?_
    refine r_begin (w0 := w0) (by kernel_rfl) (S19.sub sub_all sub_all) (fun wc T27 B28 => ?_)
    have S29 := S19.kept B28
    refine r_take 0 (.func (.func 116) #[] #[]) A24 T27 (g_move (by kernel_rfl)) rfl rfl rfl (pf_then (pf_block (pf_then (pf_then (pf_block (pf_then pf_body)))))) (by kernel_rfl) (fun ac A30 => ?_)
    refine r_take 1 (.slice (some ad8) n cap) A30 T27 (g_move (by kernel_rfl)) rfl rfl rfl (pf_then (pf_block (pf_then (pf_then (pf_block (pf_then pf_body)))))) (by kernel_rfl) (fun ac A31 => ?_)
    refine r_take 2 (.int .i64 ((j : Int) + 1)) A31 T27 (g_move (by kernel_rfl)) rfl rfl rfl (pf_then (pf_block (pf_then (pf_then (pf_block (pf_then pf_body)))))) (by kernel_rfl) (fun ac A32 => ?_)
    refine r_take 3 (.pointer (some (ad8.add ((j + 1) * 2)))) A32 T27 (g_index (u := .slice (some ad8) n cap) (k := .int .i64 ((j : Int) + 1)) (by kernel_rfl) (by kernel_rfl) (ix_xs (e := 29) (bytes := 16) (j + 1) (by kernel_rfl) (by omega) (by omega))) rfl rfl rfl (pf_then (pf_block (pf_then (pf_then (pf_block (pf_then pf_body)))))) (by kernel_rfl) (fun ac A33 => ?_)
    refine r_take 4 (.agg #[.int .i64 (nthI t ((j + 1) * 2)), .int .i64 (nthI t ((j + 1) * 2 + 1))]) A33 T27 (g_loadXS (l := t) (k := (j + 1) * 2) 2 (by kernel_rfl) hr (by have hlen := hn; omega) (by kernel_rfl) (by kernel_rfl)) rfl rfl rfl (pf_then (pf_block (pf_then (pf_then (pf_block (pf_then pf_body)))))) (by kernel_rfl) (fun ac A34 => ?_)
    refine r_take 5 (.agg #[.int .i64 ((mfP t j).1), .int .i64 ((mfP t j).2)]) A34 T27 (g_load (g := g13) (off := 0) 0 (by kernel_rfl) rfl (by kernel_rfl)) rfl rfl rfl (pf_then (pf_block (pf_then (pf_then (pf_block (pf_then pf_body)))))) (by kernel_rfl) (fun ac A35 => ?_)
    refine r_1 (i := 6) (by kernel_rfl) ?_
    refine rs_call (fs := #[]) (cp := #[]) (r := [(0, .agg #[.int .i64 (nthI t ((j + 1) * 2)), .int .i64 (nthI t ((j + 1) * 2 + 1))]), (0, .agg #[.int .i64 ((mfP t j).1), .int .i64 ((mfP t j).2)])]) #[.agg #[.int .i64 (nthI t ((j + 1) * 2)), .int .i64 (nthI t ((j + 1) * 2 + 1))], .agg #[.int .i64 ((mfP t j).1), .int .i64 ((mfP t j).2)]] (.int .i64 ((nthI t ((j + 1) * 2 + 1)) - ((mfP t j).2))) A35 S29 sub_all sub_all (less_s (nthI t ((j + 1) * 2)) (nthI t ((j + 1) * 2 + 1)) ((mfP t j).1) ((mfP t j).2) _ (by omega) (by omega)) Try.call116 rfl rfl (by kernel_rfl) (by kernel_rfl) (by kernel_rfl) rfl (fun ac wc A36 S37 => ?_)
    have T39 := S37.sub sub_all sub_all
    refine r_take 7 (.bool (decide ((nthI t ((j + 1) * 2 + 1)) - ((mfP t j).2) < 0))) A36 T39 (g_bin (u := .int .i64 ((nthI t ((j + 1) * 2 + 1)) - ((mfP t j).2))) (k := .int .i64 0) (by kernel_rfl) (by kernel_rfl) (fun _ => by kernel_rfl) (fun _ => by kernel_rfl)) rfl rfl rfl (pf_then (pf_block (pf_then (pf_then (pf_block (pf_then pf_body)))))) (by kernel_rfl) (fun ac A40 => ?_)
    refine r_done (by kernel_rfl) ?_
    refine n_then ?_
    refine c_ifb (b := (decide ((nthI t ((j + 1) * 2 + 1)) - ((mfP t j).2) < 0))) A40 (by kernel_rfl) (fun h41 => ?_) (fun h41 => ?_)
    · have p42 := of_decide_eq_true h41
      refine wp_region_lit ?_
      refine s_one (.slice (some ad8) n cap) A40 S37 (g_move (by kernel_rfl)) rfl (fun ac A43 => ?_)
      refine s_one (.int .i64 ((j : Int) + 1)) A43 S37 (g_move (by kernel_rfl)) rfl (fun ac A44 => ?_)
      refine s_one (.pointer (some (ad8.add ((j + 1) * 2)))) A44 S37 (g_index (u := .slice (some ad8) n cap) (k := .int .i64 ((j : Int) + 1)) (by kernel_rfl) (by kernel_rfl) (ix_xs (e := 29) (bytes := 16) (j + 1) (by kernel_rfl) (by omega) (by omega))) rfl (fun ac A45 => ?_)
      refine s_one (.agg #[.int .i64 (nthI t ((j + 1) * 2)), .int .i64 (nthI t ((j + 1) * 2 + 1))]) A45 S37 (g_loadXS (l := t) (k := (j + 1) * 2) 2 (by kernel_rfl) hr (by have hlen := hn; omega) (by kernel_rfl) (by kernel_rfl)) rfl (fun ac A46 => ?_)
      refine s_store (g := g13) (off := 0) (v := .agg #[.int .i64 (nthI t ((j + 1) * 2)), .int .i64 (nthI t ((j + 1) * 2 + 1))]) 0 (#[.int .i64 (nthI t ((j + 1) * 2)), .int .i64 (nthI t ((j + 1) * 2 + 1))]) A46 S37 (by kernel_rfl) (by kernel_rfl) rfl (by kernel_rfl) (fun wc S48 => ?_)
      refine wpList_nil ?_
      refine n_block ?_
      refine n_then ?_
      refine wp_region_lit ?_
      refine s_one (.int .i64 ((j : Int) + 1)) A46 S48 (g_move (by kernel_rfl)) rfl (fun ac A50 => ?_)
      refine s_one (.int .i64 ((j : Int) + 1 + 1)) A50 S48 (g_bin (u := .int .i64 ((j : Int) + 1)) (k := .int .i64 1) (by kernel_rfl) (by kernel_rfl) (fun _ => by kernel_rfl) (b_add (by omega))) rfl (fun ac A51 => ?_)
      refine s_one (.int .i64 ((j : Int) + 1 + 1)) A51 S48 (g_assign (by kernel_rfl)) rfl (fun ac A52 => ?_)
      refine wpList_nil ?_
      refine n_then ?_
      refine ⟨_, ⟨j + 1, rfl, by omega, (A52.slot (A52.slot (A52.slot (A52.slot (A52.slot (A52.slot (A52.slot (A52.slot (A52.slot (A52.slot (A52.slot A52.nil (v := .int .i64 ((j : Int) + 1 + 1)) (by kernel_rfl) (congrArg (Value.int .i64) (by omega))) (v := .pointer (some ⟨g13, 0, none⟩)) (by kernel_rfl) rfl) (v := .agg #[.int .i64 (nthI t (0 * 2)), .int .i64 (nthI t (0 * 2 + 1))]) (by kernel_rfl) rfl) (v := .pointer (some (ad8.add (0 * 2)))) (by kernel_rfl) rfl) (v := .slice (some ad8) n cap) (by kernel_rfl) rfl) (v := .bool (decide ((n : Int) < 1))) (by kernel_rfl) rfl) (v := .int .i64 (n : Int)) (by kernel_rfl) rfl) (v := .slice (some ad8) n cap) (by kernel_rfl) rfl) (v := .pointer (some ⟨g3, 0, none⟩)) (by kernel_rfl) rfl) (v := .func (.func 116) #[] #[]) (by kernel_rfl) rfl) (v := .slice (some ad8) n cap) (by kernel_rfl) rfl), (St.recell 0 S48 rfl (by rw [mfP_y (by have z := of_decide_eq_true h41; omega)])).sub sub_all sub_all⟩, ?_⟩
      omega
    · have p53 := of_decide_eq_false h41
      refine wp_skip ?_
      refine n_block ?_
      refine n_then ?_
      refine wp_region_lit ?_
      refine s_one (.int .i64 ((j : Int) + 1)) A40 S37 (g_move (by kernel_rfl)) rfl (fun ac A54 => ?_)
      refine s_one (.int .i64 ((j : Int) + 1 + 1)) A54 S37 (g_bin (u := .int .i64 ((j : Int) + 1)) (k := .int .i64 1) (by kernel_rfl) (by kernel_rfl) (fun _ => by kernel_rfl) (b_add (by omega))) rfl (fun ac A55 => ?_)
      refine s_one (.int .i64 ((j : Int) + 1 + 1)) A55 S37 (g_assign (by kernel_rfl)) rfl (fun ac A56 => ?_)
      refine wpList_nil ?_
      refine n_then ?_
      refine ⟨_, ⟨j + 1, rfl, by omega, (A56.slot (A56.slot (A56.slot (A56.slot (A56.slot (A56.slot (A56.slot (A56.slot (A56.slot (A56.slot (A56.slot A56.nil (v := .int .i64 ((j : Int) + 1 + 1)) (by kernel_rfl) (congrArg (Value.int .i64) (by omega))) (v := .pointer (some ⟨g13, 0, none⟩)) (by kernel_rfl) rfl) (v := .agg #[.int .i64 (nthI t (0 * 2)), .int .i64 (nthI t (0 * 2 + 1))]) (by kernel_rfl) rfl) (v := .pointer (some (ad8.add (0 * 2)))) (by kernel_rfl) rfl) (v := .slice (some ad8) n cap) (by kernel_rfl) rfl) (v := .bool (decide ((n : Int) < 1))) (by kernel_rfl) rfl) (v := .int .i64 (n : Int)) (by kernel_rfl) rfl) (v := .slice (some ad8) n cap) (by kernel_rfl) rfl) (v := .pointer (some ⟨g3, 0, none⟩)) (by kernel_rfl) rfl) (v := .func (.func 116) #[] #[]) (by kernel_rfl) rfl) (v := .slice (some ad8) n cap) (by kernel_rfl) rfl), (St.recell 0 S37 rfl (by rw [mfP_n (by have z := of_decide_eq_false h41; omega)])).sub sub_all sub_all⟩, ?_⟩
      omega
  · have p57 := of_decide_eq_false h25
    refine wp_exit ?_
    refine x_then ?_
    refine x_then ?_
    refine x_hit ?_
    refine n_then ?_
    refine wp_seq ?_
    refine wp_region_lit ?_
    refine s_one (.agg #[.int .i64 ((mfP t j).1), .int .i64 ((mfP t j).2)]) A24 S19 (g_load (g := g13) (off := 0) 0 (by kernel_rfl) rfl (by kernel_rfl)) rfl (fun ac A58 => ?_)
    refine s_store (g := g3) (off := 0) (v := .agg #[.int .i64 ((mfP t j).1), .int .i64 ((mfP t j).2)]) 1 (#[.int .i64 ((mfP t j).1), .int .i64 ((mfP t j).2)]) A58 S19 (by kernel_rfl) (by kernel_rfl) rfl (by kernel_rfl) (fun wc S60 => ?_)
    refine wpList_nil ?_
    refine n_then ?_
    refine wp_ret ?_
    refine fin1 (.agg #[.int .i64 ((mfP t j).1), .int .i64 ((mfP t j).2)]) Try.results115 A58 S60 (rv_cell (g := g3) (off := 0) 1 (by kernel_rfl) rfl (by kernel_rfl)) ⟨?_, S60.kp⟩
    rw [show n - 1 = j by omega]

set_option maxRecDepth 100000 in
set_option maxHeartbeats 400000 in
theorem MayBeFirst_s (l : List Int) (A : Option Addr) (cap n : Nat) (fx fz tx tz : Int) (w0 : World) (hn : l.length = n * 4) (hr : IReads w0 A l) (h2 : n ≤ 1000) :
    Calls Try.prog 72 #[.slice A n cap, .agg #[.int .i64 fx, .int .i64 fz], .agg #[.int .i64 tx, .int .i64 tz]] w0 fun e w' => ∃ v, e = .returned (.tuple #[v, .int .i64 (mfErr l fx fz tx tz n)]) ∧ Below w0.heap.size w0 w' ∧ w'.ownsRow w0.heap.size 3 1 v ((mfL l fx fz tx tz n).length) (rowI (mfL l fx fz tx tz n)) := by
  have S0 := St.start w0
  refine enter (n := 67) Try.func72 rfl rfl rfl (fun ac A0 => ?_)
  refine wp_seq ?_
  refine wp_region_lit ?_
  refine s_box (.agg #[.int .i64 fx, .int .i64 fz]) A0 S0 (by kernel_rfl) rfl (fun g3 ac wc A1 S2 => ?_)
  replace S2 : St _ (⟨g3, 41, #[.int .i64 fx, .int .i64 fz], true⟩ :: _) _ _ := S2
  refine s_box (.agg #[.int .i64 tx, .int .i64 tz]) A1 S2 (by kernel_rfl) rfl (fun g7 ac wc A5 S6 => ?_)
  replace S6 : St _ (⟨g7, 41, #[.int .i64 tx, .int .i64 tz], true⟩ :: _) _ _ := S6
  refine s_one (.slice none 0 0) A5 S6 (g_assign (by kernel_rfl)) rfl (fun ac A9 => ?_)
  refine s_one (.int .i64 0) A9 S6 (g_assign (by kernel_rfl)) rfl (fun ac A10 => ?_)
  refine wpList_nil ?_
  refine n_then ?_
  refine wp_seq ?_
  refine wp_block ?_
  refine wp_seq ?_
  refine wp_region_lit ?_
  refine s_one (.slice A n cap) A10 S6 (g_move (by kernel_rfl)) rfl (fun ac A11 => ?_)
  refine s_one (.int .i64 (n : Int)) A11 S6 (g_built (r := [(0, .slice A n cap)]) (by kernel_rfl) (fun _ _ _ => by kernel_rfl)) rfl (fun ac A12 => ?_)
  refine s_one (.bool (decide ((n : Int) = 0))) A12 S6 (g_bin (u := .int .i64 (n : Int)) (k := .int .i64 0) (by kernel_rfl) (by kernel_rfl) (fun _ => by kernel_rfl) b_eql) rfl (fun ac A13 => ?_)
  refine s_one (.bool (decide ((n : Int) = 0))) A13 S6 (g_assign (by kernel_rfl)) rfl (fun ac A14 => ?_)
  refine wpList_nil ?_
  refine n_then ?_
  refine c_ifb (b := (decide ((n : Int) = 0))) A14 (by kernel_rfl) (fun h15 => ?_) (fun h15 => ?_)
  · have p16 := of_decide_eq_true h15
    refine wp_seq ?_
    refine wp_region_lit ?_
    refine s_one (.slice none 0 0) A14 S6 (g_assign (by kernel_rfl)) rfl (fun ac A17 => ?_)
    refine s_one (.int .i64 10) A17 S6 (g_assign (by kernel_rfl)) rfl (fun ac A18 => ?_)
    refine wpList_nil ?_
    refine n_then ?_
    refine wp_ret ?_
    refine r_block ?_
    refine r_then ?_
    have S19 := S6.nilRow 3 1
    refine finRT 0 (.slice none 0 0) (.int .i64 10) Try.results72 A18 S19 (by kernel_rfl) (by kernel_rfl) rfl (fun w2 bw ow => ?_)
    obtain rfl : n = 0 := by omega
    rw [mfL_n (by rw [mfErr_a]; decide), mfErr_a]
    exact ⟨_, rfl, bw, ow⟩
  · have p20 := of_decide_eq_false h15
    refine wp_seq ?_
    refine wp_region_lit ?_
    refine s_one (.slice A n cap) A14 S6 (g_move (by kernel_rfl)) rfl (fun ac A21 => ?_)
    refine s_one (.int .i64 (n : Int)) A21 S6 (g_built (r := [(0, .slice A n cap)]) (by kernel_rfl) (fun _ _ _ => by kernel_rfl)) rfl (fun ac A22 => ?_)
    refine s_one (.bool (decide ((n : Int) > 8))) A22 S6 (g_bin (u := .int .i64 (n : Int)) (k := .int .i64 8) (by kernel_rfl) (by kernel_rfl) (fun _ => by kernel_rfl) (fun _ => by kernel_rfl)) rfl (fun ac A23 => ?_)
    refine s_one (.bool (decide ((n : Int) > 8))) A23 S6 (g_assign (by kernel_rfl)) rfl (fun ac A24 => ?_)
    refine wpList_nil ?_
    refine n_then ?_
    refine c_ifb (b := (decide ((n : Int) > 8))) A24 (by kernel_rfl) (fun h25 => ?_) (fun h25 => ?_)
    · have p26 := of_decide_eq_true h25
      refine wp_seq ?_
      refine wp_region_lit ?_
      refine s_one (.slice none 0 0) A24 S6 (g_assign (by kernel_rfl)) rfl (fun ac A27 => ?_)
      refine s_one (.int .i64 8) A27 S6 (g_assign (by kernel_rfl)) rfl (fun ac A28 => ?_)
      refine wpList_nil ?_
      refine n_then ?_
      refine wp_ret ?_
      refine r_block ?_
      refine r_then ?_
      have S29 := S6.nilRow 3 1
      refine finRT 0 (.slice none 0 0) (.int .i64 8) Try.results72 A28 S29 (by kernel_rfl) (by kernel_rfl) rfl (fun w2 bw ow => ?_)
      rw [mfL_n (by rw [mfErr_b (by omega)]; decide), mfErr_b (by omega)]
      exact ⟨_, rfl, bw, ow⟩
    · have p30 := of_decide_eq_false h25
      refine wp_skip ?_
      refine n_block ?_
      refine n_then ?_
      refine wp_seq ?_
      refine wp_region_lit ?_
      refine s_one (.slice none 0 0) A24 S6 (g_assign (by kernel_rfl)) rfl (fun ac A31 => ?_)
      refine wpList_nil ?_
      refine n_then ?_
      refine wp_seq ?_
      refine wp_seq ?_
      refine wp_region_lit ?_
      refine s_one (.slice A n cap) A31 S6 (g_move (by kernel_rfl)) rfl (fun ac A32 => ?_)
      refine s_one (.int .i64 (n : Int)) A32 S6 (g_built (r := [(0, .slice A n cap)]) (by kernel_rfl) (fun _ _ _ => by kernel_rfl)) rfl (fun ac A33 => ?_)
      refine s_one (.int .i64 0) A33 S6 (g_move (by kernel_rfl)) rfl (fun ac A34 => ?_)
      refine wpList_nil ?_
      refine n_then ?_
      refine wp_block ?_
      have S35 := S6.nilRow 29 2
      refine c_loopN (fun mm ac wc => ∃ (k : Nat) (v : Value), mm = n - k ∧ (k ≤ n) ∧ (∀ i, i < k → mfE l fx fz tx tz i = 0) ∧ Fr 67 ac [(0, .slice A n cap), (1, .agg #[.int .i64 fx, .int .i64 fz]), (2, .agg #[.int .i64 tx, .int .i64 tz]), (4, .pointer (some ⟨g3, 0, none⟩)), (5, .pointer (some ⟨g7, 0, none⟩)), (18, .slice A n cap), (19, .int .i64 (n : Int)), (20, .bool (decide ((n : Int) = 0))), (17, .bool (decide ((n : Int) = 0))), (22, .slice A n cap), (23, .int .i64 (n : Int)), (24, .bool (decide ((n : Int) > 8))), (21, .bool (decide ((n : Int) > 8))), (25, .slice A n cap), (26, .int .i64 (n : Int)), (27, .int .i64 (k : Int)), (8, v)] ∧ St w0 [⟨g7, 41, #[.int .i64 tx, .int .i64 tz], true⟩, ⟨g3, 41, #[.int .i64 fx, .int .i64 fz], true⟩] [⟨v, 29, 2, k, (rowI (tmF (mfLo l fx fz tx tz) (mfHi l fx fz tx tz) k))⟩] wc) _ ⟨0, .slice none 0 0, rfl, (by omega), (fun i hi => absurd hi (by omega)), (A34.slot (A34.slot (A34.slot (A34.slot (A34.slot (A34.slot (A34.slot (A34.slot (A34.slot (A34.slot (A34.slot (A34.slot (A34.slot (A34.slot (A34.slot (A34.slot (A34.slot A34.nil (v := .slice none 0 0) (by kernel_rfl) (by first | rfl | simp)) (v := .int .i64 0) (by kernel_rfl) (congrArg (Value.int .i64) (by omega))) (v := .int .i64 (n : Int)) (by kernel_rfl) rfl) (v := .slice A n cap) (by kernel_rfl) rfl) (v := .bool (decide ((n : Int) > 8))) (by kernel_rfl) rfl) (v := .bool (decide ((n : Int) > 8))) (by kernel_rfl) rfl) (v := .int .i64 (n : Int)) (by kernel_rfl) rfl) (v := .slice A n cap) (by kernel_rfl) rfl) (v := .bool (decide ((n : Int) = 0))) (by kernel_rfl) rfl) (v := .bool (decide ((n : Int) = 0))) (by kernel_rfl) rfl) (v := .int .i64 (n : Int)) (by kernel_rfl) rfl) (v := .slice A n cap) (by kernel_rfl) rfl) (v := .pointer (some ⟨g7, 0, none⟩)) (by kernel_rfl) rfl) (v := .pointer (some ⟨g3, 0, none⟩)) (by kernel_rfl) rfl) (v := .agg #[.int .i64 tx, .int .i64 tz]) (by kernel_rfl) rfl) (v := .agg #[.int .i64 fx, .int .i64 fz]) (by kernel_rfl) rfl) (v := .slice A n cap) (by kernel_rfl) rfl), (St.rerow 0 S35 rfl ⟨rfl, rfl⟩).sub sub_all sub_all⟩ ?_
      rintro mm ac wc ⟨k, v, hm38, hk, ha, A36, S37⟩
      refine wp_seq ?_
      refine wp_region_lit ?_
      refine s_one (.bool (decide ((k : Int) < (n : Int)))) A36 S37 (g_bin (u := .int .i64 (k : Int)) (k := .int .i64 (n : Int)) (by kernel_rfl) (by kernel_rfl) (fun _ => by kernel_rfl) (fun _ => by kernel_rfl)) rfl (fun ac A39 => ?_)
      refine wpList_nil ?_
      refine n_then ?_
      refine wp_seq ?_
      refine c_ifb (b := (decide ((k : Int) < (n : Int)))) A39 (by kernel_rfl) (fun h40 => ?_) (fun h40 => ?_)
      · have p41 := of_decide_eq_true h40
        refine wp_skip ?_
        refine n_then ?_
        refine wp_seq ?_
        refine wp_block ?_
        refine wp_seq ?_
        refine wp_region_lit ?_
        obtain ⟨ad42, rfl, _⟩ := hr (k * 4) (by have hlen := hn; omega)
        refine s_one (.pointer (some (ad42.add (k * 4)))) A39 S37 (g_index (u := .slice (some ad42) n cap) (k := .int .i64 (k : Int)) (by kernel_rfl) (by kernel_rfl) (ix_xs (e := 39) (bytes := 32) k (by kernel_rfl) (by omega) (by omega))) rfl (fun ac A43 => ?_)
        refine s_one (.agg #[.int .i64 (nthI l (k * 4)), .int .i64 (nthI l (k * 4 + 1)), .int .i64 (nthI l (k * 4 + 2)), .int .i64 (nthI l (k * 4 + 3))]) A43 S37 (g_loadXS (l := l) (k := k * 4) 4 (by kernel_rfl) hr (by have hlen := hn; omega) (by kernel_rfl) (by kernel_rfl)) rfl (fun ac A44 => ?_)
        refine s_alloc (#[.int .i64 0, .int .i64 0, .int .i64 0, .int .i64 0]) A44 S37 (by kernel_rfl) rfl (fun g47 ac wc A45 S46 => ?_)
        refine s_store (g := g47) (off := 0) (v := .agg #[.int .i64 (nthI l (k * 4)), .int .i64 (nthI l (k * 4 + 1)), .int .i64 (nthI l (k * 4 + 2)), .int .i64 (nthI l (k * 4 + 3))]) 0 (#[.int .i64 (nthI l (k * 4)), .int .i64 (nthI l (k * 4 + 1)), .int .i64 (nthI l (k * 4 + 2)), .int .i64 (nthI l (k * 4 + 3))]) A45 S46 (by kernel_rfl) (by kernel_rfl) rfl (by kernel_rfl) (fun wc S49 => ?_)
        refine wpList_nil ?_
        refine n_then ?_
        refine wp_seq ?_
        refine wp_region_lit ?_
        refine s_one (.agg #[.int .i64 (nthI l (k * 4)), .int .i64 (nthI l (k * 4 + 1)), .int .i64 (nthI l (k * 4 + 2)), .int .i64 (nthI l (k * 4 + 3))]) A45 S49 (g_load (g := g47) (off := 0) 0 (by kernel_rfl) rfl (by kernel_rfl)) rfl (fun ac A51 => ?_)
        refine s_one (.agg #[.int .i64 fx, .int .i64 fz]) A51 S49 (g_load (g := g3) (off := 0) 2 (by kernel_rfl) rfl (by kernel_rfl)) rfl (fun ac A52 => ?_)
        refine s_one (.agg #[.int .i64 tx, .int .i64 tz]) A52 S49 (g_load (g := g7) (off := 0) 1 (by kernel_rfl) rfl (by kernel_rfl)) rfl (fun ac A53 => ?_)
        refine s_call (fs := #[]) (cp := #[]) (r := [(0, .agg #[.int .i64 (nthI l (k * 4)), .int .i64 (nthI l (k * 4 + 1)), .int .i64 (nthI l (k * 4 + 2)), .int .i64 (nthI l (k * 4 + 3))]), (0, .agg #[.int .i64 fx, .int .i64 fz]), (0, .agg #[.int .i64 tx, .int .i64 tz])]) #[.agg #[.int .i64 (nthI l (k * 4)), .int .i64 (nthI l (k * 4 + 1)), .int .i64 (nthI l (k * 4 + 2)), .int .i64 (nthI l (k * 4 + 3))], .agg #[.int .i64 fx, .int .i64 fz], .agg #[.int .i64 tx, .int .i64 tz]] (.tuple #[.agg #[.int .i64 (zv (opE (nthI l (k * 4)) (nthI l (k * 4 + 1)) (nthI l (k * 4 + 2)) (nthI l (k * 4 + 3)) fx fz tx tz) (fx)), .int .i64 (zv (opE (nthI l (k * 4)) (nthI l (k * 4 + 1)) (nthI l (k * 4 + 2)) (nthI l (k * 4 + 3)) fx fz tx tz) (-fz)), .int .i64 (zv (opE (nthI l (k * 4)) (nthI l (k * 4 + 1)) (nthI l (k * 4 + 2)) (nthI l (k * 4 + 3)) fx fz tx tz) ((nthI l (k * 4)))), .int .i64 (zv (opE (nthI l (k * 4)) (nthI l (k * 4 + 1)) (nthI l (k * 4 + 2)) (nthI l (k * 4 + 3)) fx fz tx tz) (tx)), .int .i64 (zv (opE (nthI l (k * 4)) (nthI l (k * 4 + 1)) (nthI l (k * 4 + 2)) (nthI l (k * 4 + 3)) fx fz tx tz) (unf (nthI l (k * 4 + 2)) (nthI l (k * 4 + 3)) tz)), .int .i64 (zv (opE (nthI l (k * 4)) (nthI l (k * 4 + 1)) (nthI l (k * 4 + 2)) (nthI l (k * 4 + 3)) fx fz tx tz) ((nthI l (k * 4 + 1))))], .int .i64 (opE (nthI l (k * 4)) (nthI l (k * 4 + 1)) (nthI l (k * 4 + 2)) (nthI l (k * 4 + 3)) fx fz tx tz)]) A53 S49 (open_s (nthI l (k * 4)) (nthI l (k * 4 + 1)) (nthI l (k * 4 + 2)) (nthI l (k * 4 + 3)) fx fz tx tz _) Try.call82 (by kernel_rfl) (by kernel_rfl) (by kernel_rfl) rfl (fun ac wc A54 S55 => ?_)
        refine s_one (.tuple #[.agg #[.int .i64 (zv (opE (nthI l (k * 4)) (nthI l (k * 4 + 1)) (nthI l (k * 4 + 2)) (nthI l (k * 4 + 3)) fx fz tx tz) (fx)), .int .i64 (zv (opE (nthI l (k * 4)) (nthI l (k * 4 + 1)) (nthI l (k * 4 + 2)) (nthI l (k * 4 + 3)) fx fz tx tz) (-fz)), .int .i64 (zv (opE (nthI l (k * 4)) (nthI l (k * 4 + 1)) (nthI l (k * 4 + 2)) (nthI l (k * 4 + 3)) fx fz tx tz) ((nthI l (k * 4)))), .int .i64 (zv (opE (nthI l (k * 4)) (nthI l (k * 4 + 1)) (nthI l (k * 4 + 2)) (nthI l (k * 4 + 3)) fx fz tx tz) (tx)), .int .i64 (zv (opE (nthI l (k * 4)) (nthI l (k * 4 + 1)) (nthI l (k * 4 + 2)) (nthI l (k * 4 + 3)) fx fz tx tz) (unf (nthI l (k * 4 + 2)) (nthI l (k * 4 + 3)) tz)), .int .i64 (zv (opE (nthI l (k * 4)) (nthI l (k * 4 + 1)) (nthI l (k * 4 + 2)) (nthI l (k * 4 + 3)) fx fz tx tz) ((nthI l (k * 4 + 1))))], .int .i64 (opE (nthI l (k * 4)) (nthI l (k * 4 + 1)) (nthI l (k * 4 + 2)) (nthI l (k * 4 + 3)) fx fz tx tz)]) A54 S55 (g_move (by kernel_rfl)) rfl (fun ac A57 => ?_)
        refine s_one (.agg #[.int .i64 (zv (opE (nthI l (k * 4)) (nthI l (k * 4 + 1)) (nthI l (k * 4 + 2)) (nthI l (k * 4 + 3)) fx fz tx tz) (fx)), .int .i64 (zv (opE (nthI l (k * 4)) (nthI l (k * 4 + 1)) (nthI l (k * 4 + 2)) (nthI l (k * 4 + 3)) fx fz tx tz) (-fz)), .int .i64 (zv (opE (nthI l (k * 4)) (nthI l (k * 4 + 1)) (nthI l (k * 4 + 2)) (nthI l (k * 4 + 3)) fx fz tx tz) ((nthI l (k * 4)))), .int .i64 (zv (opE (nthI l (k * 4)) (nthI l (k * 4 + 1)) (nthI l (k * 4 + 2)) (nthI l (k * 4 + 3)) fx fz tx tz) (tx)), .int .i64 (zv (opE (nthI l (k * 4)) (nthI l (k * 4 + 1)) (nthI l (k * 4 + 2)) (nthI l (k * 4 + 3)) fx fz tx tz) (unf (nthI l (k * 4 + 2)) (nthI l (k * 4 + 3)) tz)), .int .i64 (zv (opE (nthI l (k * 4)) (nthI l (k * 4 + 1)) (nthI l (k * 4 + 2)) (nthI l (k * 4 + 3)) fx fz tx tz) ((nthI l (k * 4 + 1))))]) A57 S55 (g_extract (u := .tuple #[.agg #[.int .i64 (zv (opE (nthI l (k * 4)) (nthI l (k * 4 + 1)) (nthI l (k * 4 + 2)) (nthI l (k * 4 + 3)) fx fz tx tz) (fx)), .int .i64 (zv (opE (nthI l (k * 4)) (nthI l (k * 4 + 1)) (nthI l (k * 4 + 2)) (nthI l (k * 4 + 3)) fx fz tx tz) (-fz)), .int .i64 (zv (opE (nthI l (k * 4)) (nthI l (k * 4 + 1)) (nthI l (k * 4 + 2)) (nthI l (k * 4 + 3)) fx fz tx tz) ((nthI l (k * 4)))), .int .i64 (zv (opE (nthI l (k * 4)) (nthI l (k * 4 + 1)) (nthI l (k * 4 + 2)) (nthI l (k * 4 + 3)) fx fz tx tz) (tx)), .int .i64 (zv (opE (nthI l (k * 4)) (nthI l (k * 4 + 1)) (nthI l (k * 4 + 2)) (nthI l (k * 4 + 3)) fx fz tx tz) (unf (nthI l (k * 4 + 2)) (nthI l (k * 4 + 3)) tz)), .int .i64 (zv (opE (nthI l (k * 4)) (nthI l (k * 4 + 1)) (nthI l (k * 4 + 2)) (nthI l (k * 4 + 3)) fx fz tx tz) ((nthI l (k * 4 + 1))))], .int .i64 (opE (nthI l (k * 4)) (nthI l (k * 4 + 1)) (nthI l (k * 4 + 2)) (nthI l (k * 4 + 3)) fx fz tx tz)]) (by kernel_rfl) (fun _ => by kernel_rfl)) rfl (fun ac A58 => ?_)
        refine s_one (.int .i64 (opE (nthI l (k * 4)) (nthI l (k * 4 + 1)) (nthI l (k * 4 + 2)) (nthI l (k * 4 + 3)) fx fz tx tz)) A58 S55 (g_extract (u := .tuple #[.agg #[.int .i64 (zv (opE (nthI l (k * 4)) (nthI l (k * 4 + 1)) (nthI l (k * 4 + 2)) (nthI l (k * 4 + 3)) fx fz tx tz) (fx)), .int .i64 (zv (opE (nthI l (k * 4)) (nthI l (k * 4 + 1)) (nthI l (k * 4 + 2)) (nthI l (k * 4 + 3)) fx fz tx tz) (-fz)), .int .i64 (zv (opE (nthI l (k * 4)) (nthI l (k * 4 + 1)) (nthI l (k * 4 + 2)) (nthI l (k * 4 + 3)) fx fz tx tz) ((nthI l (k * 4)))), .int .i64 (zv (opE (nthI l (k * 4)) (nthI l (k * 4 + 1)) (nthI l (k * 4 + 2)) (nthI l (k * 4 + 3)) fx fz tx tz) (tx)), .int .i64 (zv (opE (nthI l (k * 4)) (nthI l (k * 4 + 1)) (nthI l (k * 4 + 2)) (nthI l (k * 4 + 3)) fx fz tx tz) (unf (nthI l (k * 4 + 2)) (nthI l (k * 4 + 3)) tz)), .int .i64 (zv (opE (nthI l (k * 4)) (nthI l (k * 4 + 1)) (nthI l (k * 4 + 2)) (nthI l (k * 4 + 3)) fx fz tx tz) ((nthI l (k * 4 + 1))))], .int .i64 (opE (nthI l (k * 4)) (nthI l (k * 4 + 1)) (nthI l (k * 4 + 2)) (nthI l (k * 4 + 3)) fx fz tx tz)]) (by kernel_rfl) (fun _ => by kernel_rfl)) rfl (fun ac A59 => ?_)
        refine s_alloc (#[.int .i64 0, .int .i64 0, .int .i64 0, .int .i64 0, .int .i64 0, .int .i64 0]) A59 S55 (by kernel_rfl) rfl (fun g62 ac wc A60 S61 => ?_)
        refine s_store (g := g62) (off := 0) (v := .agg #[.int .i64 (zv (opE (nthI l (k * 4)) (nthI l (k * 4 + 1)) (nthI l (k * 4 + 2)) (nthI l (k * 4 + 3)) fx fz tx tz) (fx)), .int .i64 (zv (opE (nthI l (k * 4)) (nthI l (k * 4 + 1)) (nthI l (k * 4 + 2)) (nthI l (k * 4 + 3)) fx fz tx tz) (-fz)), .int .i64 (zv (opE (nthI l (k * 4)) (nthI l (k * 4 + 1)) (nthI l (k * 4 + 2)) (nthI l (k * 4 + 3)) fx fz tx tz) ((nthI l (k * 4)))), .int .i64 (zv (opE (nthI l (k * 4)) (nthI l (k * 4 + 1)) (nthI l (k * 4 + 2)) (nthI l (k * 4 + 3)) fx fz tx tz) (tx)), .int .i64 (zv (opE (nthI l (k * 4)) (nthI l (k * 4 + 1)) (nthI l (k * 4 + 2)) (nthI l (k * 4 + 3)) fx fz tx tz) (unf (nthI l (k * 4 + 2)) (nthI l (k * 4 + 3)) tz)), .int .i64 (zv (opE (nthI l (k * 4)) (nthI l (k * 4 + 1)) (nthI l (k * 4 + 2)) (nthI l (k * 4 + 3)) fx fz tx tz) ((nthI l (k * 4 + 1))))]) 0 (#[.int .i64 (zv (opE (nthI l (k * 4)) (nthI l (k * 4 + 1)) (nthI l (k * 4 + 2)) (nthI l (k * 4 + 3)) fx fz tx tz) (fx)), .int .i64 (zv (opE (nthI l (k * 4)) (nthI l (k * 4 + 1)) (nthI l (k * 4 + 2)) (nthI l (k * 4 + 3)) fx fz tx tz) (-fz)), .int .i64 (zv (opE (nthI l (k * 4)) (nthI l (k * 4 + 1)) (nthI l (k * 4 + 2)) (nthI l (k * 4 + 3)) fx fz tx tz) ((nthI l (k * 4)))), .int .i64 (zv (opE (nthI l (k * 4)) (nthI l (k * 4 + 1)) (nthI l (k * 4 + 2)) (nthI l (k * 4 + 3)) fx fz tx tz) (tx)), .int .i64 (zv (opE (nthI l (k * 4)) (nthI l (k * 4 + 1)) (nthI l (k * 4 + 2)) (nthI l (k * 4 + 3)) fx fz tx tz) (unf (nthI l (k * 4 + 2)) (nthI l (k * 4 + 3)) tz)), .int .i64 (zv (opE (nthI l (k * 4)) (nthI l (k * 4 + 1)) (nthI l (k * 4 + 2)) (nthI l (k * 4 + 3)) fx fz tx tz) ((nthI l (k * 4 + 1))))]) A60 S61 (by kernel_rfl) (by kernel_rfl) rfl (by kernel_rfl) (fun wc S64 => ?_)
        refine s_one (.int .i64 (opE (nthI l (k * 4)) (nthI l (k * 4 + 1)) (nthI l (k * 4 + 2)) (nthI l (k * 4 + 3)) fx fz tx tz)) A60 S64 (g_assign (by kernel_rfl)) rfl (fun ac A66 => ?_)
        refine wpList_nil ?_
        refine n_then ?_
        refine wp_seq ?_
        refine wp_seq ?_
        refine wp_region_lit ?_
        refine s_one (.int .i64 (opE (nthI l (k * 4)) (nthI l (k * 4 + 1)) (nthI l (k * 4 + 2)) (nthI l (k * 4 + 3)) fx fz tx tz)) A66 S64 (g_move (by kernel_rfl)) rfl (fun ac A67 => ?_)
        refine s_one (.bool (decide (opE (nthI l (k * 4)) (nthI l (k * 4 + 1)) (nthI l (k * 4 + 2)) (nthI l (k * 4 + 3)) fx fz tx tz ≠ 0))) A67 S64 (g_bin (u := .int .i64 (opE (nthI l (k * 4)) (nthI l (k * 4 + 1)) (nthI l (k * 4 + 2)) (nthI l (k * 4 + 3)) fx fz tx tz)) (k := .int .i64 0) (by kernel_rfl) (by kernel_rfl) (fun _ => by kernel_rfl) b_neq) rfl (fun ac A68 => ?_)
        refine wpList_nil ?_
        refine n_then ?_
        refine c_ifb (b := (decide (opE (nthI l (k * 4)) (nthI l (k * 4 + 1)) (nthI l (k * 4 + 2)) (nthI l (k * 4 + 3)) fx fz tx tz ≠ 0))) A68 (by kernel_rfl) (fun h69 => ?_) (fun h69 => ?_)
        · have p70 := of_decide_eq_true h69
          have zn : mfE l fx fz tx tz k ≠ 0 := of_decide_eq_true h69
          have er : mfErr l fx fz tx tz n = mfE l fx fz tx tz k := (mfErr_c (by omega) (by omega)).trans (feT_at ha zn (by omega))
          have zr : mfErr l fx fz tx tz n ≠ 0 := by rw [er]; exact zn
          refine wp_seq ?_
          refine wp_region_lit ?_
          refine s_one (.int .i64 (opE (nthI l (k * 4)) (nthI l (k * 4 + 1)) (nthI l (k * 4 + 2)) (nthI l (k * 4 + 3)) fx fz tx tz)) A68 S64 (g_move (by kernel_rfl)) rfl (fun ac A71 => ?_)
          refine s_one (.slice none 0 0) A71 S64 (g_assign (by kernel_rfl)) rfl (fun ac A72 => ?_)
          refine s_one (.int .i64 (opE (nthI l (k * 4)) (nthI l (k * 4 + 1)) (nthI l (k * 4 + 2)) (nthI l (k * 4 + 3)) fx fz tx tz)) A72 S64 (g_assign (by kernel_rfl)) rfl (fun ac A73 => ?_)
          refine wpList_nil ?_
          refine n_then ?_
          refine wp_ret ?_
          refine r_then ?_
          refine r_block ?_
          refine r_then ?_
          refine r_then ?_
          refine r_block ?_
          refine r_then ?_
          have S74 := S64.nilRow 3 1
          refine finRT 0 (.slice none 0 0) (.int .i64 (opE (nthI l (k * 4)) (nthI l (k * 4 + 1)) (nthI l (k * 4 + 2)) (nthI l (k * 4 + 3)) fx fz tx tz)) Try.results72 A73 S74 (by kernel_rfl) (by kernel_rfl) rfl (fun w2 bw ow => ?_)
          rw [mfL_n zr, er]
          exact ⟨_, rfl, bw, ow⟩
        · have p75 := of_decide_eq_false h69
          have ze : opE (nthI l (k * 4)) (nthI l (k * 4 + 1)) (nthI l (k * 4 + 2)) (nthI l (k * 4 + 3)) fx fz tx tz = 0 := by simpa using h69
          have ok : Cr.Ok (wyC (nthI l (k * 4)) (nthI l (k * 4 + 1)) (nthI l (k * 4 + 2)) (nthI l (k * 4 + 3)) fx fz tx tz) := mfC_ok ze
          have AZ1 := A68
          simp only [zv_0 ze] at AZ1
          have SZ1 := S64
          simp only [zv_0 ze] at SZ1
          refine wp_skip ?_
          refine n_then ?_
          refine wp_region_lit ?_
          refine s_one (v) AZ1 SZ1 (g_move (by kernel_rfl)) rfl (fun ac A76 => ?_)
          refine s_one (.agg #[.int .i64 fx, .int .i64 (-fz), .int .i64 (nthI l (k * 4)), .int .i64 tx, .int .i64 (unf (nthI l (k * 4 + 2)) (nthI l (k * 4 + 3)) tz), .int .i64 (nthI l (k * 4 + 1))]) A76 SZ1 (g_load (g := g62) (off := 0) 0 (by kernel_rfl) rfl (by kernel_rfl)) rfl (fun ac A77 => ?_)
          have q81 := le_bd (c := ⟨fx, -fz, (nthI l (k * 4)), tx, unf (nthI l (k * 4 + 2)) (nthI l (k * 4 + 3)) tz, (nthI l (k * 4 + 1))⟩) ok
          refine s_call (fs := #[]) (cp := #[]) (r := [(0, .agg #[.int .i64 fx, .int .i64 (-fz), .int .i64 (nthI l (k * 4)), .int .i64 tx, .int .i64 (unf (nthI l (k * 4 + 2)) (nthI l (k * 4 + 3)) tz), .int .i64 (nthI l (k * 4 + 1))])]) #[.agg #[.int .i64 fx, .int .i64 (-fz), .int .i64 (nthI l (k * 4)), .int .i64 tx, .int .i64 (unf (nthI l (k * 4 + 2)) (nthI l (k * 4 + 3)) tz), .int .i64 (nthI l (k * 4 + 1))]] (.agg #[.int .i64 (leLo ⟨fx, -fz, (nthI l (k * 4)), tx, unf (nthI l (k * 4 + 2)) (nthI l (k * 4 + 3)) tz, (nthI l (k * 4 + 1))⟩), .int .i64 (mHi ⟨fx, -fz, (nthI l (k * 4)), tx, unf (nthI l (k * 4 + 2)) (nthI l (k * 4 + 3)) tz, (nthI l (k * 4 + 1))⟩)]) A77 SZ1 (least_s ⟨fx, -fz, (nthI l (k * 4)), tx, unf (nthI l (k * 4 + 2)) (nthI l (k * 4 + 3)) tz, (nthI l (k * 4 + 1))⟩ _ ok) Try.call78 (by kernel_rfl) (by kernel_rfl) (by kernel_rfl) rfl (fun ac wc A78 S79 => ?_)
          refine s_bs (e := 29) (r := [(0, .agg #[.int .i64 (leLo ⟨fx, -fz, (nthI l (k * 4)), tx, unf (nthI l (k * 4 + 2)) (nthI l (k * 4 + 3)) tz, (nthI l (k * 4 + 1))⟩), .int .i64 (mHi ⟨fx, -fz, (nthI l (k * 4)), tx, unf (nthI l (k * 4 + 2)) (nthI l (k * 4 + 3)) tz, (nthI l (k * 4 + 1))⟩)])]) (#[.int .i64 (leLo ⟨fx, -fz, (nthI l (k * 4)), tx, unf (nthI l (k * 4 + 2)) (nthI l (k * 4 + 3)) tz, (nthI l (k * 4 + 1))⟩), .int .i64 (mHi ⟨fx, -fz, (nthI l (k * 4)), tx, unf (nthI l (k * 4 + 2)) (nthI l (k * 4 + 3)) tz, (nthI l (k * 4 + 1))⟩)]) A78 S79 (by kernel_rfl) (by kernel_rfl) rfl (fun g84 ac wc A82 S83 => ?_)
          refine s_append (e := 29) (size := 2) (bytes := 16) (v := v) (g := g84) (m' := 1) (c := 1) 0 0 [.int .i64 (leLo ⟨fx, -fz, (nthI l (k * 4)), tx, unf (nthI l (k * 4 + 2)) (nthI l (k * 4 + 3)) tz, (nthI l (k * 4 + 1))⟩), .int .i64 (mHi ⟨fx, -fz, (nthI l (k * 4)), tx, unf (nthI l (k * 4 + 2)) (nthI l (k * 4 + 3)) tz, (nthI l (k * 4 + 1))⟩)] A82 S83 (by kernel_rfl) (by kernel_rfl) (by kernel_rfl) rfl rfl (by kernel_rfl) rfl (by kernel_rfl) (by omega) (by omega) rfl (fun v88 ac wc A85 S86 => ?_)
          refine s_one (v88) A85 S86 (g_assign (by kernel_rfl)) rfl (fun ac A89 => ?_)
          refine wpList_nil ?_
          refine n_block ?_
          refine n_then ?_
          refine wp_region_lit ?_
          refine s_one (.int .i64 ((k : Int) + 1)) A89 S86 (g_bin (u := .int .i64 (k : Int)) (k := .int .i64 1) (by kernel_rfl) (by kernel_rfl) (fun _ => by kernel_rfl) (b_add (by omega))) rfl (fun ac A90 => ?_)
          refine s_one (.int .i64 ((k : Int) + 1)) A90 S86 (g_move (by kernel_rfl)) rfl (fun ac A91 => ?_)
          refine wpList_nil ?_
          refine n_then ?_
          refine ⟨_, ⟨k + 1, v88, rfl, (by omega), (all_step ha ze), (A91.slot (A91.slot (A91.slot (A91.slot (A91.slot (A91.slot (A91.slot (A91.slot (A91.slot (A91.slot (A91.slot (A91.slot (A91.slot (A91.slot (A91.slot (A91.slot (A91.slot A91.nil (v := v88) (by kernel_rfl) rfl) (v := .int .i64 ((k : Int) + 1)) (by kernel_rfl) (congrArg (Value.int .i64) (by omega))) (v := .int .i64 (n : Int)) (by kernel_rfl) rfl) (v := .slice (some ad42) n cap) (by kernel_rfl) (by first | rfl | simp)) (v := .bool (decide ((n : Int) > 8))) (by kernel_rfl) rfl) (v := .bool (decide ((n : Int) > 8))) (by kernel_rfl) rfl) (v := .int .i64 (n : Int)) (by kernel_rfl) rfl) (v := .slice (some ad42) n cap) (by kernel_rfl) (by first | rfl | simp)) (v := .bool (decide ((n : Int) = 0))) (by kernel_rfl) rfl) (v := .bool (decide ((n : Int) = 0))) (by kernel_rfl) rfl) (v := .int .i64 (n : Int)) (by kernel_rfl) rfl) (v := .slice (some ad42) n cap) (by kernel_rfl) (by first | rfl | simp)) (v := .pointer (some ⟨g7, 0, none⟩)) (by kernel_rfl) rfl) (v := .pointer (some ⟨g3, 0, none⟩)) (by kernel_rfl) rfl) (v := .agg #[.int .i64 tx, .int .i64 tz]) (by kernel_rfl) rfl) (v := .agg #[.int .i64 fx, .int .i64 fz]) (by kernel_rfl) rfl) (v := .slice (some ad42) n cap) (by kernel_rfl) (by first | rfl | simp)), (St.rerow 0 S86 rfl ⟨rfl, tmF_snoc (mfLo l fx fz tx tz) (mfHi l fx fz tx tz) k⟩).sub (sub_skip (sub_skip (sub_skip sub_all))) sub_all⟩, ?_⟩
          omega
      · have p92 := of_decide_eq_false h40
        refine wp_exit ?_
        refine x_then ?_
        refine x_then ?_
        refine x_hit ?_
        refine n_then ?_
        refine wp_seq ?_
        have hke : k = n := by omega
        rw [hke] at ha
        have S14 := S37
        rw [hke] at S14
        refine wp_region_lit ?_
        refine s_one (v) A39 S14 (g_move (by kernel_rfl)) rfl (fun ac A93 => ?_)
        obtain ⟨hl97, A98, cap99, rfl, hr100⟩ := rowI_reads2 (v := v) (size := 2) (m := n) (l := tmF (mfLo l fx fz tx tz) (mfHi l fx fz tx tz) n) (S14.row 0 rfl)
        refine s_call (fs := #[]) (cp := #[]) (r := [(0, .slice A98 n cap99), (0, .func (.func 116) #[] #[])]) #[.slice A98 n cap99, .func (.func 116) #[] #[]] (.agg #[.int .i64 ((mfP (tmF (mfLo l fx fz tx tz) (mfHi l fx fz tx tz) n) (n - 1)).1), .int .i64 ((mfP (tmF (mfLo l fx fz tx tz) (mfHi l fx fz tx tz) n) (n - 1)).2)]) A93 S14 (MinFunc_s (tmF (mfLo l fx fz tx tz) (mfHi l fx fz tx tz) n) A98 cap99 n _ (by have hlen := hl97; omega) (row_ir (S14.row 0 rfl)) (by omega) (by omega) (tm_all ha)) Try.call115 (by kernel_rfl) (by kernel_rfl) (by kernel_rfl) rfl (fun ac wc A94 S95 => ?_)
        refine s_one (.int .i64 ((mfP (tmF (mfLo l fx fz tx tz) (mfHi l fx fz tx tz) n) (n - 1)).2)) A94 S95 (g_fieldv (u := .agg #[.int .i64 ((mfP (tmF (mfLo l fx fz tx tz) (mfHi l fx fz tx tz) n) (n - 1)).1), .int .i64 ((mfP (tmF (mfLo l fx fz tx tz) (mfHi l fx fz tx tz) n) (n - 1)).2)]) (by kernel_rfl) (fun _ => by kernel_rfl)) rfl (fun ac A101 => ?_)
        refine s_one (.int .i64 ((mfP (tmF (mfLo l fx fz tx tz) (mfHi l fx fz tx tz) n) (n - 1)).2)) A101 S95 (g_assign (by kernel_rfl)) rfl (fun ac A102 => ?_)
        refine wpList_nil ?_
        refine n_then ?_
        refine wp_seq ?_
        refine wp_region_lit ?_
        refine s_one (.slice none 0 0) A102 S95 (g_assign (by kernel_rfl)) rfl (fun ac A103 => ?_)
        refine wpList_nil ?_
        refine n_then ?_
        refine wp_seq ?_
        refine wp_seq ?_
        refine wp_region_lit ?_
        refine s_one (.slice A98 n cap99) A103 S95 (g_move (by kernel_rfl)) rfl (fun ac A104 => ?_)
        refine s_one (.int .i64 (n : Int)) A104 S95 (g_built (r := [(0, .slice A98 n cap99)]) (by kernel_rfl) (fun _ _ _ => by kernel_rfl)) rfl (fun ac A105 => ?_)
        refine s_one (.int .i64 0) A105 S95 (g_move (by kernel_rfl)) rfl (fun ac A106 => ?_)
        refine wpList_nil ?_
        refine n_then ?_
        refine wp_block ?_
        have S107 := S95.nilRow 3 1
        refine c_loopN (fun mm ac wc => ∃ (j : Nat) (v2 : Value), mm = n - j ∧ (j ≤ n) ∧ Fr 67 ac [(0, .slice A n cap), (1, .agg #[.int .i64 fx, .int .i64 fz]), (2, .agg #[.int .i64 tx, .int .i64 tz]), (4, .pointer (some ⟨g3, 0, none⟩)), (5, .pointer (some ⟨g7, 0, none⟩)), (18, .slice A n cap), (19, .int .i64 (n : Int)), (20, .bool (decide ((n : Int) = 0))), (17, .bool (decide ((n : Int) = 0))), (22, .slice A n cap), (23, .int .i64 (n : Int)), (24, .bool (decide ((n : Int) > 8))), (21, .bool (decide ((n : Int) > 8))), (25, .slice A n cap), (26, .int .i64 (n : Int)), (27, .int .i64 (k : Int)), (8, .slice A98 n cap99), (28, .bool (decide ((k : Int) < (n : Int)))), (47, .slice A98 n cap99), (48, .agg #[.int .i64 ((mfP (tmF (mfLo l fx fz tx tz) (mfHi l fx fz tx tz) n) (n - 1)).1), .int .i64 ((mfP (tmF (mfLo l fx fz tx tz) (mfHi l fx fz tx tz) n) (n - 1)).2)]), (49, .int .i64 ((mfP (tmF (mfLo l fx fz tx tz) (mfHi l fx fz tx tz) n) (n - 1)).2)), (13, .int .i64 ((mfP (tmF (mfLo l fx fz tx tz) (mfHi l fx fz tx tz) n) (n - 1)).2)), (50, .slice A98 n cap99), (51, .int .i64 (n : Int)), (52, .int .i64 (j : Int)), (14, v2)] ∧ St w0 [⟨g7, 41, #[.int .i64 tx, .int .i64 tz], true⟩, ⟨g3, 41, #[.int .i64 fx, .int .i64 fz], true⟩] [⟨v2, 3, 1, ((fiL (mfLo l fx fz tx tz) (mnS (mfHi l fx fz tx tz) n) j).length), (rowI (fiL (mfLo l fx fz tx tz) (mnS (mfHi l fx fz tx tz) n) j))⟩, ⟨.slice A98 n cap99, 29, 2, n, (rowI (tmF (mfLo l fx fz tx tz) (mfHi l fx fz tx tz) n))⟩] wc) _ ⟨0, .slice none 0 0, rfl, by omega, (A106.slot (A106.slot (A106.slot (A106.slot (A106.slot (A106.slot (A106.slot (A106.slot (A106.slot (A106.slot (A106.slot (A106.slot (A106.slot (A106.slot (A106.slot (A106.slot (A106.slot (A106.slot (A106.slot (A106.slot (A106.slot (A106.slot (A106.slot (A106.slot (A106.slot (A106.slot A106.nil (v := .slice none 0 0) (by kernel_rfl) (by first | rfl | simp)) (v := .int .i64 0) (by kernel_rfl) (congrArg (Value.int .i64) (by omega))) (v := .int .i64 (n : Int)) (by kernel_rfl) rfl) (v := .slice A98 n cap99) (by kernel_rfl) rfl) (v := .int .i64 ((mfP (tmF (mfLo l fx fz tx tz) (mfHi l fx fz tx tz) n) (n - 1)).2)) (by kernel_rfl) rfl) (v := .int .i64 ((mfP (tmF (mfLo l fx fz tx tz) (mfHi l fx fz tx tz) n) (n - 1)).2)) (by kernel_rfl) rfl) (v := .agg #[.int .i64 ((mfP (tmF (mfLo l fx fz tx tz) (mfHi l fx fz tx tz) n) (n - 1)).1), .int .i64 ((mfP (tmF (mfLo l fx fz tx tz) (mfHi l fx fz tx tz) n) (n - 1)).2)]) (by kernel_rfl) rfl) (v := .slice A98 n cap99) (by kernel_rfl) rfl) (v := .bool (decide ((k : Int) < (n : Int)))) (by kernel_rfl) rfl) (v := .slice A98 n cap99) (by kernel_rfl) rfl) (v := .int .i64 (k : Int)) (by kernel_rfl) rfl) (v := .int .i64 (n : Int)) (by kernel_rfl) rfl) (v := .slice A n cap) (by kernel_rfl) rfl) (v := .bool (decide ((n : Int) > 8))) (by kernel_rfl) rfl) (v := .bool (decide ((n : Int) > 8))) (by kernel_rfl) rfl) (v := .int .i64 (n : Int)) (by kernel_rfl) rfl) (v := .slice A n cap) (by kernel_rfl) rfl) (v := .bool (decide ((n : Int) = 0))) (by kernel_rfl) rfl) (v := .bool (decide ((n : Int) = 0))) (by kernel_rfl) rfl) (v := .int .i64 (n : Int)) (by kernel_rfl) rfl) (v := .slice A n cap) (by kernel_rfl) rfl) (v := .pointer (some ⟨g7, 0, none⟩)) (by kernel_rfl) rfl) (v := .pointer (some ⟨g3, 0, none⟩)) (by kernel_rfl) rfl) (v := .agg #[.int .i64 tx, .int .i64 tz]) (by kernel_rfl) rfl) (v := .agg #[.int .i64 fx, .int .i64 fz]) (by kernel_rfl) rfl) (v := .slice A n cap) (by kernel_rfl) rfl), (St.rerow 0 S107 rfl ⟨rfl, rfl⟩).sub sub_all sub_all⟩ ?_
        rintro mm ac wc ⟨j, v2, hm110, hj2, A108, S109⟩
        have fl := fiL_le (mfLo l fx fz tx tz) (mnS (mfHi l fx fz tx tz) n) j
        refine wp_seq ?_
        refine wp_region_lit ?_
        refine s_one (.bool (decide ((j : Int) < (n : Int)))) A108 S109 (g_bin (u := .int .i64 (j : Int)) (k := .int .i64 (n : Int)) (by kernel_rfl) (by kernel_rfl) (fun _ => by kernel_rfl) (fun _ => by kernel_rfl)) rfl (fun ac A111 => ?_)
        refine wpList_nil ?_
        refine n_then ?_
        refine wp_seq ?_
        refine c_ifb (b := (decide ((j : Int) < (n : Int)))) A111 (by kernel_rfl) (fun h112 => ?_) (fun h112 => ?_)
        · have p113 := of_decide_eq_true h112
          refine wp_skip ?_
          refine n_then ?_
          refine wp_seq ?_
          refine wp_block ?_
          refine wp_seq ?_
          refine wp_region_lit ?_
          refine s_one (.int .i64 (j : Int)) A111 S109 (g_move (by kernel_rfl)) rfl (fun ac A114 => ?_)
          obtain ⟨ad115, rfl, _⟩ := (row_ir (S109.row 1 rfl)) (j * 2) (by have hlen := hl97; omega)
          refine s_one (.pointer (some (ad115.add (j * 2)))) A114 S109 (g_index (u := .slice (some ad115) n cap99) (k := .int .i64 (j : Int)) (by kernel_rfl) (by kernel_rfl) (ix_xs (e := 29) (bytes := 16) j (by kernel_rfl) (by omega) (by omega))) rfl (fun ac A116 => ?_)
          refine s_one (.agg #[.int .i64 (nthI (tmF (mfLo l fx fz tx tz) (mfHi l fx fz tx tz) n) (j * 2)), .int .i64 (nthI (tmF (mfLo l fx fz tx tz) (mfHi l fx fz tx tz) n) (j * 2 + 1))]) A116 S109 (g_loadRS (l := tmF (mfLo l fx fz tx tz) (mfHi l fx fz tx tz) n) (k := j * 2) 1 2 (by kernel_rfl) rfl (by have hlen := hl97; omega) (by kernel_rfl) (by kernel_rfl)) rfl (fun ac A117 => ?_)
          refine s_alloc (#[.int .i64 0, .int .i64 0]) A117 S109 (by kernel_rfl) rfl (fun g120 ac wc A118 S119 => ?_)
          refine s_one (.int .i64 (j : Int)) A118 S119 (g_assign (by kernel_rfl)) rfl (fun ac A121 => ?_)
          refine s_store (g := g120) (off := 0) (v := .agg #[.int .i64 (nthI (tmF (mfLo l fx fz tx tz) (mfHi l fx fz tx tz) n) (j * 2)), .int .i64 (nthI (tmF (mfLo l fx fz tx tz) (mfHi l fx fz tx tz) n) (j * 2 + 1))]) 0 (#[.int .i64 (nthI (tmF (mfLo l fx fz tx tz) (mfHi l fx fz tx tz) n) (j * 2)), .int .i64 (nthI (tmF (mfLo l fx fz tx tz) (mfHi l fx fz tx tz) n) (j * 2 + 1))]) A121 S119 (by kernel_rfl) (by kernel_rfl) rfl (by kernel_rfl) (fun wc S123 => ?_)
          refine wpList_nil ?_
          refine n_then ?_
          refine wp_seq ?_
          refine wp_region_lit ?_
          refine s_one (.pointer (some ⟨g120, 0, none⟩)) A121 S123 (g_field (u := .pointer (some ⟨g120, 0, none⟩)) (by kernel_rfl) (fun _ => by kernel_rfl)) rfl (fun ac A125 => ?_)
          refine s_one (.int .i64 (nthI (tmF (mfLo l fx fz tx tz) (mfHi l fx fz tx tz) n) (j * 2))) A125 S123 (g_load (g := g120) (off := 0) 0 (by kernel_rfl) rfl (by kernel_rfl)) rfl (fun ac A126 => ?_)
          refine s_one (.int .i64 ((mfP (tmF (mfLo l fx fz tx tz) (mfHi l fx fz tx tz) n) (n - 1)).2)) A126 S123 (g_move (by kernel_rfl)) rfl (fun ac A127 => ?_)
          refine s_one (.bool (decide (nthI (tmF (mfLo l fx fz tx tz) (mfHi l fx fz tx tz) n) (j * 2) ≤ (mfP (tmF (mfLo l fx fz tx tz) (mfHi l fx fz tx tz) n) (n - 1)).2))) A127 S123 (g_bin (u := .int .i64 (nthI (tmF (mfLo l fx fz tx tz) (mfHi l fx fz tx tz) n) (j * 2))) (k := .int .i64 ((mfP (tmF (mfLo l fx fz tx tz) (mfHi l fx fz tx tz) n) (n - 1)).2)) (by kernel_rfl) (by kernel_rfl) (fun _ => by kernel_rfl) (fun _ => by kernel_rfl)) rfl (fun ac A128 => ?_)
          refine wpList_nil ?_
          refine n_then ?_
          refine c_ifb (b := (decide (nthI (tmF (mfLo l fx fz tx tz) (mfHi l fx fz tx tz) n) (j * 2) ≤ (mfP (tmF (mfLo l fx fz tx tz) (mfHi l fx fz tx tz) n) (n - 1)).2))) A128 (by kernel_rfl) (fun h129 => ?_) (fun h129 => ?_)
          · have p130 := of_decide_eq_true h129
            refine wp_region_lit ?_
            refine s_one (v2) A128 S123 (g_move (by kernel_rfl)) rfl (fun ac A131 => ?_)
            refine s_one (.int .i64 (j : Int)) A131 S123 (g_move (by kernel_rfl)) rfl (fun ac A132 => ?_)
            refine s_bs (e := 3) (r := [(0, .int .i64 (j : Int))]) (#[.int .i64 (j : Int)]) A132 S123 (by kernel_rfl) (by kernel_rfl) rfl (fun g135 ac wc A133 S134 => ?_)
            refine s_append (e := 3) (size := 1) (bytes := 8) (v := v2) (g := g135) (m' := 1) (c := 1) 0 0 [.int .i64 (j : Int)] A133 S134 (by kernel_rfl) (by kernel_rfl) (by kernel_rfl) rfl rfl (by kernel_rfl) rfl (by kernel_rfl) (by omega) (by omega) rfl (fun v139 ac wc A136 S137 => ?_)
            refine s_one (v139) A136 S137 (g_assign (by kernel_rfl)) rfl (fun ac A140 => ?_)
            refine wpList_nil ?_
            refine n_block ?_
            refine n_then ?_
            refine wp_region_lit ?_
            refine s_one (.int .i64 ((j : Int) + 1)) A140 S137 (g_bin (u := .int .i64 (j : Int)) (k := .int .i64 1) (by kernel_rfl) (by kernel_rfl) (fun _ => by kernel_rfl) (b_add (by omega))) rfl (fun ac A141 => ?_)
            refine s_one (.int .i64 ((j : Int) + 1)) A141 S137 (g_move (by kernel_rfl)) rfl (fun ac A142 => ?_)
            refine wpList_nil ?_
            refine n_then ?_
            refine ⟨_, ⟨j + 1, v139, rfl, by omega, (A142.slot (A142.slot (A142.slot (A142.slot (A142.slot (A142.slot (A142.slot (A142.slot (A142.slot (A142.slot (A142.slot (A142.slot (A142.slot (A142.slot (A142.slot (A142.slot (A142.slot (A142.slot (A142.slot (A142.slot (A142.slot (A142.slot (A142.slot (A142.slot (A142.slot (A142.slot A142.nil (v := v139) (by kernel_rfl) rfl) (v := .int .i64 ((j : Int) + 1)) (by kernel_rfl) (congrArg (Value.int .i64) (by omega))) (v := .int .i64 (n : Int)) (by kernel_rfl) rfl) (v := .slice (some ad115) n cap99) (by kernel_rfl) (by first | rfl | simp)) (v := .int .i64 ((mfP (tmF (mfLo l fx fz tx tz) (mfHi l fx fz tx tz) n) (n - 1)).2)) (by kernel_rfl) rfl) (v := .int .i64 ((mfP (tmF (mfLo l fx fz tx tz) (mfHi l fx fz tx tz) n) (n - 1)).2)) (by kernel_rfl) rfl) (v := .agg #[.int .i64 ((mfP (tmF (mfLo l fx fz tx tz) (mfHi l fx fz tx tz) n) (n - 1)).1), .int .i64 ((mfP (tmF (mfLo l fx fz tx tz) (mfHi l fx fz tx tz) n) (n - 1)).2)]) (by kernel_rfl) rfl) (v := .slice (some ad115) n cap99) (by kernel_rfl) (by first | rfl | simp)) (v := .bool (decide ((k : Int) < (n : Int)))) (by kernel_rfl) rfl) (v := .slice (some ad115) n cap99) (by kernel_rfl) (by first | rfl | simp)) (v := .int .i64 (k : Int)) (by kernel_rfl) rfl) (v := .int .i64 (n : Int)) (by kernel_rfl) rfl) (v := .slice A n cap) (by kernel_rfl) rfl) (v := .bool (decide ((n : Int) > 8))) (by kernel_rfl) rfl) (v := .bool (decide ((n : Int) > 8))) (by kernel_rfl) rfl) (v := .int .i64 (n : Int)) (by kernel_rfl) rfl) (v := .slice A n cap) (by kernel_rfl) rfl) (v := .bool (decide ((n : Int) = 0))) (by kernel_rfl) rfl) (v := .bool (decide ((n : Int) = 0))) (by kernel_rfl) rfl) (v := .int .i64 (n : Int)) (by kernel_rfl) rfl) (v := .slice A n cap) (by kernel_rfl) rfl) (v := .pointer (some ⟨g7, 0, none⟩)) (by kernel_rfl) rfl) (v := .pointer (some ⟨g3, 0, none⟩)) (by kernel_rfl) rfl) (v := .agg #[.int .i64 tx, .int .i64 tz]) (by kernel_rfl) rfl) (v := .agg #[.int .i64 fx, .int .i64 fz]) (by kernel_rfl) rfl) (v := .slice A n cap) (by kernel_rfl) rfl), (St.rerow 1 (St.rerow 0 S137 rfl (fiL_y (by have z := of_decide_eq_true h129; rw [(tmF_nth (mfLo l fx fz tx tz) (mfHi l fx fz tx tz) n j (by omega)).1, mfP_mn (n - 1) (by omega), show n - 1 + 1 = n by omega] at z; exact z))) rfl ⟨rfl, rfl⟩).sub (sub_skip (sub_skip sub_all)) sub_all⟩, ?_⟩
            omega
          · have p143 := of_decide_eq_false h129
            refine wp_skip ?_
            refine n_block ?_
            refine n_then ?_
            refine wp_region_lit ?_
            refine s_one (.int .i64 ((j : Int) + 1)) A128 S123 (g_bin (u := .int .i64 (j : Int)) (k := .int .i64 1) (by kernel_rfl) (by kernel_rfl) (fun _ => by kernel_rfl) (b_add (by omega))) rfl (fun ac A144 => ?_)
            refine s_one (.int .i64 ((j : Int) + 1)) A144 S123 (g_move (by kernel_rfl)) rfl (fun ac A145 => ?_)
            refine wpList_nil ?_
            refine n_then ?_
            refine ⟨_, ⟨j + 1, v2, rfl, by omega, (A145.slot (A145.slot (A145.slot (A145.slot (A145.slot (A145.slot (A145.slot (A145.slot (A145.slot (A145.slot (A145.slot (A145.slot (A145.slot (A145.slot (A145.slot (A145.slot (A145.slot (A145.slot (A145.slot (A145.slot (A145.slot (A145.slot (A145.slot (A145.slot (A145.slot (A145.slot A145.nil (v := v2) (by kernel_rfl) rfl) (v := .int .i64 ((j : Int) + 1)) (by kernel_rfl) (congrArg (Value.int .i64) (by omega))) (v := .int .i64 (n : Int)) (by kernel_rfl) rfl) (v := .slice (some ad115) n cap99) (by kernel_rfl) (by first | rfl | simp)) (v := .int .i64 ((mfP (tmF (mfLo l fx fz tx tz) (mfHi l fx fz tx tz) n) (n - 1)).2)) (by kernel_rfl) rfl) (v := .int .i64 ((mfP (tmF (mfLo l fx fz tx tz) (mfHi l fx fz tx tz) n) (n - 1)).2)) (by kernel_rfl) rfl) (v := .agg #[.int .i64 ((mfP (tmF (mfLo l fx fz tx tz) (mfHi l fx fz tx tz) n) (n - 1)).1), .int .i64 ((mfP (tmF (mfLo l fx fz tx tz) (mfHi l fx fz tx tz) n) (n - 1)).2)]) (by kernel_rfl) rfl) (v := .slice (some ad115) n cap99) (by kernel_rfl) (by first | rfl | simp)) (v := .bool (decide ((k : Int) < (n : Int)))) (by kernel_rfl) rfl) (v := .slice (some ad115) n cap99) (by kernel_rfl) (by first | rfl | simp)) (v := .int .i64 (k : Int)) (by kernel_rfl) rfl) (v := .int .i64 (n : Int)) (by kernel_rfl) rfl) (v := .slice A n cap) (by kernel_rfl) rfl) (v := .bool (decide ((n : Int) > 8))) (by kernel_rfl) rfl) (v := .bool (decide ((n : Int) > 8))) (by kernel_rfl) rfl) (v := .int .i64 (n : Int)) (by kernel_rfl) rfl) (v := .slice A n cap) (by kernel_rfl) rfl) (v := .bool (decide ((n : Int) = 0))) (by kernel_rfl) rfl) (v := .bool (decide ((n : Int) = 0))) (by kernel_rfl) rfl) (v := .int .i64 (n : Int)) (by kernel_rfl) rfl) (v := .slice A n cap) (by kernel_rfl) rfl) (v := .pointer (some ⟨g7, 0, none⟩)) (by kernel_rfl) rfl) (v := .pointer (some ⟨g3, 0, none⟩)) (by kernel_rfl) rfl) (v := .agg #[.int .i64 tx, .int .i64 tz]) (by kernel_rfl) rfl) (v := .agg #[.int .i64 fx, .int .i64 fz]) (by kernel_rfl) rfl) (v := .slice A n cap) (by kernel_rfl) rfl), (St.rerow 1 (St.rerow 0 S123 rfl (fiL_n (by have z := of_decide_eq_false h129; rw [(tmF_nth (mfLo l fx fz tx tz) (mfHi l fx fz tx tz) n j (by omega)).1, mfP_mn (n - 1) (by omega), show n - 1 + 1 = n by omega] at z; exact z))) rfl ⟨rfl, rfl⟩).sub (sub_skip sub_all) sub_all⟩, ?_⟩
            omega
        · have p146 := of_decide_eq_false h112
          refine wp_exit ?_
          refine x_then ?_
          refine x_then ?_
          refine x_hit ?_
          refine n_then ?_
          refine wp_seq ?_
          refine wp_region_lit ?_
          refine s_one (v2) A111 S109 (g_move (by kernel_rfl)) rfl (fun ac A147 => ?_)
          refine s_one (v2) A147 S109 (g_assign (by kernel_rfl)) rfl (fun ac A148 => ?_)
          refine s_one (.int .i64 0) A148 S109 (g_assign (by kernel_rfl)) rfl (fun ac A149 => ?_)
          refine wpList_nil ?_
          refine n_then ?_
          refine wp_ret ?_
          refine finRT 0 (v2) (.int .i64 0) Try.results72 A149 S109 (by kernel_rfl) (by kernel_rfl) rfl (fun w2 bw ow => ?_)
          have er : mfErr l fx fz tx tz n = 0 := (mfErr_c (by omega) (by omega)).trans (feT_0 ha)
          have hje : j = n := by omega
          rw [hje] at ow
          rw [mfL_0 er, er]
          exact ⟨_, rfl, bw, ow⟩

set_option maxRecDepth 100000 in
set_option maxHeartbeats 400000 in
theorem refMayBeFirst_s (l : List Int) (A : Option Addr) (cap n : Nat) (fx fz tx tz : Int) (w0 : World) (hn : l.length = n * 4) (hr : IReads w0 A l) (h2 : n ≤ 1000) :
    Calls Try.prog 73 #[.slice A n cap, .agg #[.int .i64 fx, .int .i64 fz], .agg #[.int .i64 tx, .int .i64 tz]] w0 fun e w' => ∃ v, e = .returned (.tuple #[v, .int .i64 (mfErr l fx fz tx tz n)]) ∧ Below w0.heap.size w0 w' ∧ w'.ownsRow w0.heap.size 3 1 v ((mfL l fx fz tx tz n).length) (rowI (mfL l fx fz tx tz n)) := by
  have S0 := St.start w0
  refine enter (n := 89) Try.func73 rfl rfl rfl (fun ac A0 => ?_)
  refine wp_seq ?_
  refine wp_region_lit ?_
  refine s_box (.agg #[.int .i64 fx, .int .i64 fz]) A0 S0 (by kernel_rfl) rfl (fun g3 ac wc A1 S2 => ?_)
  replace S2 : St _ (⟨g3, 41, #[.int .i64 fx, .int .i64 fz], true⟩ :: _) _ _ := S2
  refine s_box (.agg #[.int .i64 tx, .int .i64 tz]) A1 S2 (by kernel_rfl) rfl (fun g7 ac wc A5 S6 => ?_)
  replace S6 : St _ (⟨g7, 41, #[.int .i64 tx, .int .i64 tz], true⟩ :: _) _ _ := S6
  refine s_one (.slice none 0 0) A5 S6 (g_assign (by kernel_rfl)) rfl (fun ac A9 => ?_)
  refine s_one (.int .i64 0) A9 S6 (g_assign (by kernel_rfl)) rfl (fun ac A10 => ?_)
  refine wpList_nil ?_
  refine n_then ?_
  refine wp_seq ?_
  refine wp_seq ?_
  refine wp_region_lit ?_
  refine s_one (.slice A n cap) A10 S6 (g_move (by kernel_rfl)) rfl (fun ac A11 => ?_)
  refine s_one (.int .i64 (n : Int)) A11 S6 (g_built (r := [(0, .slice A n cap)]) (by kernel_rfl) (fun _ _ _ => by kernel_rfl)) rfl (fun ac A12 => ?_)
  refine s_one (.bool (decide ((n : Int) = 0))) A12 S6 (g_bin (u := .int .i64 (n : Int)) (k := .int .i64 0) (by kernel_rfl) (by kernel_rfl) (fun _ => by kernel_rfl) b_eql) rfl (fun ac A13 => ?_)
  refine wpList_nil ?_
  refine n_then ?_
  refine c_ifb (b := (decide ((n : Int) = 0))) A13 (by kernel_rfl) (fun h14 => ?_) (fun h14 => ?_)
  · have p15 := of_decide_eq_true h14
    refine wp_seq ?_
    refine wp_region_lit ?_
    refine s_one (.slice none 0 0) A13 S6 (g_assign (by kernel_rfl)) rfl (fun ac A16 => ?_)
    refine s_one (.int .i64 10) A16 S6 (g_assign (by kernel_rfl)) rfl (fun ac A17 => ?_)
    refine wpList_nil ?_
    refine n_then ?_
    refine wp_ret ?_
    refine r_then ?_
    have S18 := S6.nilRow 3 1
    refine finRT 0 (.slice none 0 0) (.int .i64 10) Try.results73 A17 S18 (by kernel_rfl) (by kernel_rfl) rfl (fun w2 bw ow => ?_)
    obtain rfl : n = 0 := by omega
    rw [mfL_n (by rw [mfErr_a]; decide), mfErr_a]
    exact ⟨_, rfl, bw, ow⟩
  · have p19 := of_decide_eq_false h14
    refine wp_skip ?_
    refine n_then ?_
    refine wp_seq ?_
    refine wp_seq ?_
    refine wp_region_lit ?_
    refine s_one (.slice A n cap) A13 S6 (g_move (by kernel_rfl)) rfl (fun ac A20 => ?_)
    refine s_one (.int .i64 (n : Int)) A20 S6 (g_built (r := [(0, .slice A n cap)]) (by kernel_rfl) (fun _ _ _ => by kernel_rfl)) rfl (fun ac A21 => ?_)
    refine s_one (.bool (decide ((n : Int) > 8))) A21 S6 (g_bin (u := .int .i64 (n : Int)) (k := .int .i64 8) (by kernel_rfl) (by kernel_rfl) (fun _ => by kernel_rfl) (fun _ => by kernel_rfl)) rfl (fun ac A22 => ?_)
    refine wpList_nil ?_
    refine n_then ?_
    refine c_ifb (b := (decide ((n : Int) > 8))) A22 (by kernel_rfl) (fun h23 => ?_) (fun h23 => ?_)
    · have p24 := of_decide_eq_true h23
      refine wp_seq ?_
      refine wp_region_lit ?_
      refine s_one (.slice none 0 0) A22 S6 (g_assign (by kernel_rfl)) rfl (fun ac A25 => ?_)
      refine s_one (.int .i64 8) A25 S6 (g_assign (by kernel_rfl)) rfl (fun ac A26 => ?_)
      refine wpList_nil ?_
      refine n_then ?_
      refine wp_ret ?_
      refine r_then ?_
      have S27 := S6.nilRow 3 1
      refine finRT 0 (.slice none 0 0) (.int .i64 8) Try.results73 A26 S27 (by kernel_rfl) (by kernel_rfl) rfl (fun w2 bw ow => ?_)
      rw [mfL_n (by rw [mfErr_b (by omega)]; decide), mfErr_b (by omega)]
      exact ⟨_, rfl, bw, ow⟩
    · have p28 := of_decide_eq_false h23
      refine wp_skip ?_
      refine n_then ?_
      refine wp_seq ?_
      refine wp_seq ?_
      refine wp_region_lit ?_
      refine s_one (.int .i64 0) A22 S6 (g_assign (by kernel_rfl)) rfl (fun ac A29 => ?_)
      refine wpList_nil ?_
      refine n_then ?_
      refine wp_block ?_
      refine c_loopN (fun mm ac wc => ∃ (k : Nat), mm = n - k ∧ (k ≤ n) ∧ (∀ i, i < k → mfE l fx fz tx tz i = 0) ∧ Fr 89 ac [(0, .slice A n cap), (1, .agg #[.int .i64 fx, .int .i64 fz]), (2, .agg #[.int .i64 tx, .int .i64 tz]), (4, .pointer (some ⟨g3, 0, none⟩)), (5, .pointer (some ⟨g7, 0, none⟩)), (15, .slice A n cap), (16, .int .i64 (n : Int)), (17, .bool (decide ((n : Int) = 0))), (18, .slice A n cap), (19, .int .i64 (n : Int)), (20, .bool (decide ((n : Int) > 8))), (8, .int .i64 (k : Int))] ∧ St w0 [⟨g7, 41, #[.int .i64 tx, .int .i64 tz], true⟩, ⟨g3, 41, #[.int .i64 fx, .int .i64 fz], true⟩] [] wc) _ ⟨0, rfl, (by omega), (fun i hi => absurd hi (by omega)), (A29.slot (A29.slot (A29.slot (A29.slot (A29.slot (A29.slot (A29.slot (A29.slot (A29.slot (A29.slot (A29.slot (A29.slot A29.nil (v := .int .i64 0) (by kernel_rfl) (congrArg (Value.int .i64) (by omega))) (v := .bool (decide ((n : Int) > 8))) (by kernel_rfl) rfl) (v := .int .i64 (n : Int)) (by kernel_rfl) rfl) (v := .slice A n cap) (by kernel_rfl) rfl) (v := .bool (decide ((n : Int) = 0))) (by kernel_rfl) rfl) (v := .int .i64 (n : Int)) (by kernel_rfl) rfl) (v := .slice A n cap) (by kernel_rfl) rfl) (v := .pointer (some ⟨g7, 0, none⟩)) (by kernel_rfl) rfl) (v := .pointer (some ⟨g3, 0, none⟩)) (by kernel_rfl) rfl) (v := .agg #[.int .i64 tx, .int .i64 tz]) (by kernel_rfl) rfl) (v := .agg #[.int .i64 fx, .int .i64 fz]) (by kernel_rfl) rfl) (v := .slice A n cap) (by kernel_rfl) rfl), S6.sub sub_all sub_all⟩ ?_
      rintro mm ac wc ⟨k, hm32, hk, ha, A30, S31⟩
      refine wp_seq ?_
      refine wp_seq ?_
      refine wp_region_lit ?_
      refine s_one (.int .i64 (k : Int)) A30 S31 (g_move (by kernel_rfl)) rfl (fun ac A33 => ?_)
      refine s_one (.slice A n cap) A33 S31 (g_move (by kernel_rfl)) rfl (fun ac A34 => ?_)
      refine s_one (.int .i64 (n : Int)) A34 S31 (g_built (r := [(0, .slice A n cap)]) (by kernel_rfl) (fun _ _ _ => by kernel_rfl)) rfl (fun ac A35 => ?_)
      refine s_one (.bool (decide ((k : Int) < (n : Int)))) A35 S31 (g_bin (u := .int .i64 (k : Int)) (k := .int .i64 (n : Int)) (by kernel_rfl) (by kernel_rfl) (fun _ => by kernel_rfl) (fun _ => by kernel_rfl)) rfl (fun ac A36 => ?_)
      refine wpList_nil ?_
      refine n_then ?_
      refine c_ifb (b := (decide ((k : Int) < (n : Int)))) A36 (by kernel_rfl) (fun h37 => ?_) (fun h37 => ?_)
      · have p38 := of_decide_eq_true h37
        refine wp_skip ?_
        refine n_then ?_
        refine wp_seq ?_
        refine wp_block ?_
        refine wp_seq ?_
        refine wp_seq ?_
        refine wp_region_lit ?_
        refine s_one (.slice A n cap) A36 S31 (g_move (by kernel_rfl)) rfl (fun ac A39 => ?_)
        refine s_one (.int .i64 (k : Int)) A39 S31 (g_move (by kernel_rfl)) rfl (fun ac A40 => ?_)
        obtain ⟨ad41, rfl, _⟩ := hr (k * 4) (by have hlen := hn; omega)
        refine s_one (.pointer (some (ad41.add (k * 4)))) A40 S31 (g_index (u := .slice (some ad41) n cap) (k := .int .i64 (k : Int)) (by kernel_rfl) (by kernel_rfl) (ix_xs (e := 39) (bytes := 32) k (by kernel_rfl) (by omega) (by omega))) rfl (fun ac A42 => ?_)
        refine s_one (.agg #[.int .i64 (nthI l (k * 4)), .int .i64 (nthI l (k * 4 + 1)), .int .i64 (nthI l (k * 4 + 2)), .int .i64 (nthI l (k * 4 + 3))]) A42 S31 (g_loadXS (l := l) (k := k * 4) 4 (by kernel_rfl) hr (by have hlen := hn; omega) (by kernel_rfl) (by kernel_rfl)) rfl (fun ac A43 => ?_)
        refine s_call (fs := #[]) (cp := #[]) (r := [(0, .agg #[.int .i64 (nthI l (k * 4)), .int .i64 (nthI l (k * 4 + 1)), .int .i64 (nthI l (k * 4 + 2)), .int .i64 (nthI l (k * 4 + 3))])]) #[.agg #[.int .i64 (nthI l (k * 4)), .int .i64 (nthI l (k * 4 + 1)), .int .i64 (nthI l (k * 4 + 2)), .int .i64 (nthI l (k * 4 + 3))]] (.int .i64 (mdE (nthI l (k * 4)) (nthI l (k * 4 + 1)) (nthI l (k * 4 + 2)) (nthI l (k * 4 + 3)))) A43 S31 (refCheckMode_s (nthI l (k * 4)) (nthI l (k * 4 + 1)) (nthI l (k * 4 + 2)) (nthI l (k * 4 + 3)) _) Try.call31 (by kernel_rfl) (by kernel_rfl) (by kernel_rfl) rfl (fun ac wc A44 S45 => ?_)
        refine s_one (.int .i64 (mdE (nthI l (k * 4)) (nthI l (k * 4 + 1)) (nthI l (k * 4 + 2)) (nthI l (k * 4 + 3)))) A44 S45 (g_assign (by kernel_rfl)) rfl (fun ac A47 => ?_)
        refine wpList_nil ?_
        refine n_then ?_
        refine wp_seq ?_
        refine wp_region_lit ?_
        refine s_one (.int .i64 (mdE (nthI l (k * 4)) (nthI l (k * 4 + 1)) (nthI l (k * 4 + 2)) (nthI l (k * 4 + 3)))) A47 S45 (g_move (by kernel_rfl)) rfl (fun ac A48 => ?_)
        refine s_one (.bool (decide (mdE (nthI l (k * 4)) (nthI l (k * 4 + 1)) (nthI l (k * 4 + 2)) (nthI l (k * 4 + 3)) ≠ 0))) A48 S45 (g_bin (u := .int .i64 (mdE (nthI l (k * 4)) (nthI l (k * 4 + 1)) (nthI l (k * 4 + 2)) (nthI l (k * 4 + 3)))) (k := .int .i64 0) (by kernel_rfl) (by kernel_rfl) (fun _ => by kernel_rfl) b_neq) rfl (fun ac A49 => ?_)
        refine wpList_nil ?_
        refine n_then ?_
        refine c_ifb (b := (decide (mdE (nthI l (k * 4)) (nthI l (k * 4 + 1)) (nthI l (k * 4 + 2)) (nthI l (k * 4 + 3)) ≠ 0))) A49 (by kernel_rfl) (fun h50 => ?_) (fun h50 => ?_)
        · have p51 := of_decide_eq_true h50
          have zn : mfE l fx fz tx tz k ≠ 0 := by unfold mfE; rw [opE_n (of_decide_eq_true h50)]; exact of_decide_eq_true h50
          have er : mfErr l fx fz tx tz n = mdE (nthI l (k * 4)) (nthI l (k * 4 + 1)) (nthI l (k * 4 + 2)) (nthI l (k * 4 + 3)) := (mfErr_c (by omega) (by omega)).trans ((feT_at ha zn (by omega)).trans (opE_n (of_decide_eq_true h50)))
          have zr : mfErr l fx fz tx tz n ≠ 0 := by rw [er]; exact of_decide_eq_true h50
          refine wp_seq ?_
          refine wp_region_lit ?_
          refine s_one (.int .i64 (mdE (nthI l (k * 4)) (nthI l (k * 4 + 1)) (nthI l (k * 4 + 2)) (nthI l (k * 4 + 3)))) A49 S45 (g_move (by kernel_rfl)) rfl (fun ac A52 => ?_)
          refine s_one (.slice none 0 0) A52 S45 (g_assign (by kernel_rfl)) rfl (fun ac A53 => ?_)
          refine s_one (.int .i64 (mdE (nthI l (k * 4)) (nthI l (k * 4 + 1)) (nthI l (k * 4 + 2)) (nthI l (k * 4 + 3)))) A53 S45 (g_assign (by kernel_rfl)) rfl (fun ac A54 => ?_)
          refine wpList_nil ?_
          refine n_then ?_
          refine wp_ret ?_
          refine r_then ?_
          refine r_block ?_
          refine r_then ?_
          refine r_then ?_
          refine r_block ?_
          refine r_then ?_
          have S55 := S45.nilRow 3 1
          refine finRT 0 (.slice none 0 0) (.int .i64 (mdE (nthI l (k * 4)) (nthI l (k * 4 + 1)) (nthI l (k * 4 + 2)) (nthI l (k * 4 + 3)))) Try.results73 A54 S55 (by kernel_rfl) (by kernel_rfl) rfl (fun w2 bw ow => ?_)
          rw [mfL_n zr, er]
          exact ⟨_, rfl, bw, ow⟩
        · have p56 := of_decide_eq_false h50
          have z1 : mdE (nthI l (k * 4)) (nthI l (k * 4 + 1)) (nthI l (k * 4 + 2)) (nthI l (k * 4 + 3)) = 0 := by simpa using h50
          have zm := mdE_0 z1
          refine wp_skip ?_
          refine n_then ?_
          refine wp_seq ?_
          refine r_begin (w0 := w0) (by kernel_rfl) (S45.sub sub_all sub_all) (fun wc T57 B58 => ?_)
          have S59 := S45.kept B58
          refine r_take 0 (.slice (some ad41) n cap) A49 T57 (g_move (by kernel_rfl)) rfl rfl rfl (pf_then (pf_block (pf_then (pf_then (pf_block (pf_then pf_body)))))) (by kernel_rfl) (fun ac A60 => ?_)
          refine r_take 1 (.int .i64 (k : Int)) A60 T57 (g_move (by kernel_rfl)) rfl rfl rfl (pf_then (pf_block (pf_then (pf_then (pf_block (pf_then pf_body)))))) (by kernel_rfl) (fun ac A61 => ?_)
          refine r_take 2 (.pointer (some (ad41.add (k * 4)))) A61 T57 (g_index (u := .slice (some ad41) n cap) (k := .int .i64 (k : Int)) (by kernel_rfl) (by kernel_rfl) (ix_xs (e := 39) (bytes := 32) k (by kernel_rfl) (by omega) (by omega))) rfl rfl rfl (pf_then (pf_block (pf_then (pf_then (pf_block (pf_then pf_body)))))) (by kernel_rfl) (fun ac A62 => ?_)
          refine r_take 3 (.agg #[.int .i64 (nthI l (k * 4)), .int .i64 (nthI l (k * 4 + 1)), .int .i64 (nthI l (k * 4 + 2)), .int .i64 (nthI l (k * 4 + 3))]) A62 T57 (g_loadXS (l := l) (k := k * 4) 4 (by kernel_rfl) hr (by have hlen := hn; omega) (by kernel_rfl) (by kernel_rfl)) rfl rfl rfl (pf_then (pf_block (pf_then (pf_then (pf_block (pf_then pf_body)))))) (by kernel_rfl) (fun ac A63 => ?_)
          refine r_take 4 (.agg #[.int .i64 fx, .int .i64 fz]) A63 T57 (g_load (g := g3) (off := 0) 1 (by kernel_rfl) rfl (by kernel_rfl)) rfl rfl rfl (pf_then (pf_block (pf_then (pf_then (pf_block (pf_then pf_body)))))) (by kernel_rfl) (fun ac A64 => ?_)
          refine r_take 5 (.agg #[.int .i64 tx, .int .i64 tz]) A64 T57 (g_load (g := g7) (off := 0) 0 (by kernel_rfl) rfl (by kernel_rfl)) rfl rfl rfl (pf_then (pf_block (pf_then (pf_then (pf_block (pf_then pf_body)))))) (by kernel_rfl) (fun ac A65 => ?_)
          refine r_1 (i := 6) (by kernel_rfl) ?_
          refine rs_call (fs := #[]) (cp := #[]) (r := [(0, .agg #[.int .i64 (nthI l (k * 4)), .int .i64 (nthI l (k * 4 + 1)), .int .i64 (nthI l (k * 4 + 2)), .int .i64 (nthI l (k * 4 + 3))]), (0, .agg #[.int .i64 fx, .int .i64 fz]), (0, .agg #[.int .i64 tx, .int .i64 tz])]) #[.agg #[.int .i64 (nthI l (k * 4)), .int .i64 (nthI l (k * 4 + 1)), .int .i64 (nthI l (k * 4 + 2)), .int .i64 (nthI l (k * 4 + 3))], .agg #[.int .i64 fx, .int .i64 fz], .agg #[.int .i64 tx, .int .i64 tz]] (.int .i64 (wyE (nthI l (k * 4 + 3)) fx fz tx tz)) A65 S59 sub_all sub_all (refWayErr_s (nthI l (k * 4)) (nthI l (k * 4 + 1)) (nthI l (k * 4 + 2)) (nthI l (k * 4 + 3)) fx fz tx tz _ (by omega)) Try.call97 rfl rfl (by kernel_rfl) (by kernel_rfl) (by kernel_rfl) rfl (fun ac wc A66 S67 => ?_)
          have T69 := S67.sub sub_all sub_all
          refine r_take 7 (.int .i64 (wyE (nthI l (k * 4 + 3)) fx fz tx tz)) A66 T69 (g_assign (by kernel_rfl)) rfl rfl rfl (pf_then (pf_block (pf_then (pf_then (pf_block (pf_then pf_body)))))) (by kernel_rfl) (fun ac A70 => ?_)
          refine r_done (by kernel_rfl) ?_
          refine n_then ?_
          refine wp_seq ?_
          refine wp_region_lit ?_
          refine s_one (.int .i64 (wyE (nthI l (k * 4 + 3)) fx fz tx tz)) A70 S67 (g_move (by kernel_rfl)) rfl (fun ac A71 => ?_)
          refine s_one (.bool (decide (wyE (nthI l (k * 4 + 3)) fx fz tx tz ≠ 0))) A71 S67 (g_bin (u := .int .i64 (wyE (nthI l (k * 4 + 3)) fx fz tx tz)) (k := .int .i64 0) (by kernel_rfl) (by kernel_rfl) (fun _ => by kernel_rfl) b_neq) rfl (fun ac A72 => ?_)
          refine wpList_nil ?_
          refine n_then ?_
          refine c_ifb (b := (decide (wyE (nthI l (k * 4 + 3)) fx fz tx tz ≠ 0))) A72 (by kernel_rfl) (fun h73 => ?_) (fun h73 => ?_)
          · have p74 := of_decide_eq_true h73
            have zn : mfE l fx fz tx tz k ≠ 0 := by unfold mfE; rw [opE_y z1]; exact of_decide_eq_true h73
            have er : mfErr l fx fz tx tz n = wyE (nthI l (k * 4 + 3)) fx fz tx tz := (mfErr_c (by omega) (by omega)).trans ((feT_at ha zn (by omega)).trans (opE_y z1))
            have zr : mfErr l fx fz tx tz n ≠ 0 := by rw [er]; exact of_decide_eq_true h73
            refine wp_seq ?_
            refine wp_region_lit ?_
            refine s_one (.int .i64 (wyE (nthI l (k * 4 + 3)) fx fz tx tz)) A72 S67 (g_move (by kernel_rfl)) rfl (fun ac A75 => ?_)
            refine s_one (.slice none 0 0) A75 S67 (g_assign (by kernel_rfl)) rfl (fun ac A76 => ?_)
            refine s_one (.int .i64 (wyE (nthI l (k * 4 + 3)) fx fz tx tz)) A76 S67 (g_assign (by kernel_rfl)) rfl (fun ac A77 => ?_)
            refine wpList_nil ?_
            refine n_then ?_
            refine wp_ret ?_
            refine r_block ?_
            refine r_then ?_
            refine r_then ?_
            refine r_block ?_
            refine r_then ?_
            have S78 := S67.nilRow 3 1
            refine finRT 0 (.slice none 0 0) (.int .i64 (wyE (nthI l (k * 4 + 3)) fx fz tx tz)) Try.results73 A77 S78 (by kernel_rfl) (by kernel_rfl) rfl (fun w2 bw ow => ?_)
            rw [mfL_n zr, er]
            exact ⟨_, rfl, bw, ow⟩
          · have p79 := of_decide_eq_false h73
            have ze : mfE l fx fz tx tz k = 0 := (opE_y z1).trans (by simpa using h73)
            refine wp_skip ?_
            refine n_block ?_
            refine n_then ?_
            refine wp_region_lit ?_
            refine s_one (.int .i64 (k : Int)) A72 S67 (g_move (by kernel_rfl)) rfl (fun ac A80 => ?_)
            refine s_one (.int .i64 ((k : Int) + 1)) A80 S67 (g_bin (u := .int .i64 (k : Int)) (k := .int .i64 1) (by kernel_rfl) (by kernel_rfl) (fun _ => by kernel_rfl) (b_add (by omega))) rfl (fun ac A81 => ?_)
            refine s_one (.int .i64 ((k : Int) + 1)) A81 S67 (g_assign (by kernel_rfl)) rfl (fun ac A82 => ?_)
            refine wpList_nil ?_
            refine n_then ?_
            refine ⟨_, ⟨k + 1, rfl, (by omega), (all_step ha ze), (A82.slot (A82.slot (A82.slot (A82.slot (A82.slot (A82.slot (A82.slot (A82.slot (A82.slot (A82.slot (A82.slot (A82.slot A82.nil (v := .int .i64 ((k : Int) + 1)) (by kernel_rfl) (congrArg (Value.int .i64) (by omega))) (v := .bool (decide ((n : Int) > 8))) (by kernel_rfl) rfl) (v := .int .i64 (n : Int)) (by kernel_rfl) rfl) (v := .slice (some ad41) n cap) (by kernel_rfl) (by first | rfl | simp)) (v := .bool (decide ((n : Int) = 0))) (by kernel_rfl) rfl) (v := .int .i64 (n : Int)) (by kernel_rfl) rfl) (v := .slice (some ad41) n cap) (by kernel_rfl) (by first | rfl | simp)) (v := .pointer (some ⟨g7, 0, none⟩)) (by kernel_rfl) rfl) (v := .pointer (some ⟨g3, 0, none⟩)) (by kernel_rfl) rfl) (v := .agg #[.int .i64 tx, .int .i64 tz]) (by kernel_rfl) rfl) (v := .agg #[.int .i64 fx, .int .i64 fz]) (by kernel_rfl) rfl) (v := .slice (some ad41) n cap) (by kernel_rfl) (by first | rfl | simp)), S67.sub sub_all sub_all⟩, ?_⟩
            omega
      · have p83 := of_decide_eq_false h37
        refine wp_exit ?_
        refine x_then ?_
        refine x_then ?_
        refine x_hit ?_
        refine n_then ?_
        refine wp_seq ?_
        have hke : k = n := by omega
        rw [hke] at ha
        refine r_begin (w0 := w0) (by kernel_rfl) (S31.sub sub_all sub_all) (fun wc T84 B85 => ?_)
        have S86 := S31.kept B85
        refine r_take 0 (.slice A n cap) A36 T84 (g_move (by kernel_rfl)) rfl rfl rfl (pf_then pf_body) (by kernel_rfl) (fun ac A87 => ?_)
        obtain ⟨ad88, rfl, _⟩ := hr (0 * 4) (by have hlen := hn; omega)
        refine r_take 1 (.pointer (some (ad88.add (0 * 4)))) A87 T84 (g_index (u := .slice (some ad88) n cap) (k := .int .i64 0) (by kernel_rfl) (by kernel_rfl) (ix_xs (e := 39) (bytes := 32) 0 (by kernel_rfl) (by omega) (by omega))) rfl rfl rfl (pf_then pf_body) (by kernel_rfl) (fun ac A89 => ?_)
        refine r_take 2 (.agg #[.int .i64 (nthI l (0 * 4)), .int .i64 (nthI l (0 * 4 + 1)), .int .i64 (nthI l (0 * 4 + 2)), .int .i64 (nthI l (0 * 4 + 3))]) A89 T84 (g_loadXS (l := l) (k := 0 * 4) 4 (by kernel_rfl) hr (by have hlen := hn; omega) (by kernel_rfl) (by kernel_rfl)) rfl rfl rfl (pf_then pf_body) (by kernel_rfl) (fun ac A90 => ?_)
        refine r_take 3 (.agg #[.int .i64 fx, .int .i64 fz]) A90 T84 (g_load (g := g3) (off := 0) 1 (by kernel_rfl) rfl (by kernel_rfl)) rfl rfl rfl (pf_then pf_body) (by kernel_rfl) (fun ac A91 => ?_)
        refine r_take 4 (.agg #[.int .i64 tx, .int .i64 tz]) A91 T84 (g_load (g := g7) (off := 0) 0 (by kernel_rfl) rfl (by kernel_rfl)) rfl rfl rfl (pf_then pf_body) (by kernel_rfl) (fun ac A92 => ?_)
        refine r_1 (i := 5) (by kernel_rfl) ?_
        have q97 := le_bd (wyC_ok (opE_0 (ha 0 (by omega))).1 (opE_0 (ha 0 (by omega))).2)
        refine rs_call (fs := #[]) (cp := #[]) (r := [(0, .agg #[.int .i64 (nthI l (0 * 4)), .int .i64 (nthI l (0 * 4 + 1)), .int .i64 (nthI l (0 * 4 + 2)), .int .i64 (nthI l (0 * 4 + 3))]), (0, .agg #[.int .i64 fx, .int .i64 fz]), (0, .agg #[.int .i64 tx, .int .i64 tz])]) #[.agg #[.int .i64 (nthI l (0 * 4)), .int .i64 (nthI l (0 * 4 + 1)), .int .i64 (nthI l (0 * 4 + 2)), .int .i64 (nthI l (0 * 4 + 3))], .agg #[.int .i64 fx, .int .i64 fz], .agg #[.int .i64 tx, .int .i64 tz]] (.agg #[.int .i64 (leLo (wyC (nthI l (0 * 4)) (nthI l (0 * 4 + 1)) (nthI l (0 * 4 + 2)) (nthI l (0 * 4 + 3)) fx fz tx tz)), .int .i64 (mHi (wyC (nthI l (0 * 4)) (nthI l (0 * 4 + 1)) (nthI l (0 * 4 + 2)) (nthI l (0 * 4 + 3)) fx fz tx tz))]) A92 S86 sub_all sub_all (refLeastTime_s (nthI l (0 * 4)) (nthI l (0 * 4 + 1)) (nthI l (0 * 4 + 2)) (nthI l (0 * 4 + 3)) fx fz tx tz _ (opE_0 (ha 0 (by omega))).1 (opE_0 (ha 0 (by omega))).2) Try.call52 rfl rfl (by kernel_rfl) (by kernel_rfl) (by kernel_rfl) rfl (fun ac wc A93 S94 => ?_)
        have T96 := S94.sub sub_all sub_all
        refine r_take 6 (.int .i64 (mHi (wyC (nthI l (0 * 4)) (nthI l (0 * 4 + 1)) (nthI l (0 * 4 + 2)) (nthI l (0 * 4 + 3)) fx fz tx tz))) A93 T96 (g_fieldv (u := .agg #[.int .i64 (leLo (wyC (nthI l (0 * 4)) (nthI l (0 * 4 + 1)) (nthI l (0 * 4 + 2)) (nthI l (0 * 4 + 3)) fx fz tx tz)), .int .i64 (mHi (wyC (nthI l (0 * 4)) (nthI l (0 * 4 + 1)) (nthI l (0 * 4 + 2)) (nthI l (0 * 4 + 3)) fx fz tx tz))]) (by kernel_rfl) (fun _ => by kernel_rfl)) rfl rfl rfl (pf_then pf_body) (by kernel_rfl) (fun ac A98 => ?_)
        refine r_take 7 (.int .i64 (mHi (wyC (nthI l (0 * 4)) (nthI l (0 * 4 + 1)) (nthI l (0 * 4 + 2)) (nthI l (0 * 4 + 3)) fx fz tx tz))) A98 T96 (g_assign (by kernel_rfl)) rfl rfl rfl (pf_then pf_body) (by kernel_rfl) (fun ac A99 => ?_)
        refine r_done (by kernel_rfl) ?_
        refine n_then ?_
        refine wp_seq ?_
        refine wp_seq ?_
        refine wp_region_lit ?_
        refine s_one (.int .i64 0) A99 S94 (g_assign (by kernel_rfl)) rfl (fun ac A100 => ?_)
        refine wpList_nil ?_
        refine n_then ?_
        refine wp_block ?_
        refine c_loopN (fun mm ac wc => ∃ (j : Nat), mm = n - j ∧ (j ≤ n) ∧ Fr 89 ac [(0, .slice (some ad88) n cap), (1, .agg #[.int .i64 fx, .int .i64 fz]), (2, .agg #[.int .i64 tx, .int .i64 tz]), (4, .pointer (some ⟨g3, 0, none⟩)), (5, .pointer (some ⟨g7, 0, none⟩)), (15, .slice (some ad88) n cap), (16, .int .i64 (n : Int)), (17, .bool (decide ((n : Int) = 0))), (18, .slice (some ad88) n cap), (19, .int .i64 (n : Int)), (20, .bool (decide ((n : Int) > 8))), (8, .int .i64 (k : Int)), (21, .int .i64 (k : Int)), (22, .slice (some ad88) n cap), (23, .int .i64 (n : Int)), (24, .bool (decide ((k : Int) < (n : Int)))), (45, .slice (some ad88) n cap), (46, .pointer (some (ad88.add (0 * 4)))), (47, .agg #[.int .i64 (nthI l (0 * 4)), .int .i64 (nthI l (0 * 4 + 1)), .int .i64 (nthI l (0 * 4 + 2)), .int .i64 (nthI l (0 * 4 + 3))]), (48, .agg #[.int .i64 fx, .int .i64 fz]), (49, .agg #[.int .i64 tx, .int .i64 tz]), (50, .agg #[.int .i64 (leLo (wyC (nthI l (0 * 4)) (nthI l (0 * 4 + 1)) (nthI l (0 * 4 + 2)) (nthI l (0 * 4 + 3)) fx fz tx tz)), .int .i64 (mHi (wyC (nthI l (0 * 4)) (nthI l (0 * 4 + 1)) (nthI l (0 * 4 + 2)) (nthI l (0 * 4 + 3)) fx fz tx tz))]), (51, .int .i64 (mHi (wyC (nthI l (0 * 4)) (nthI l (0 * 4 + 1)) (nthI l (0 * 4 + 2)) (nthI l (0 * 4 + 3)) fx fz tx tz))), (12, .int .i64 (j : Int)), (11, .int .i64 (mnS (mfHi l fx fz tx tz) j))] ∧ St w0 [⟨g7, 41, #[.int .i64 tx, .int .i64 tz], true⟩, ⟨g3, 41, #[.int .i64 fx, .int .i64 fz], true⟩] [] wc) _ ⟨0, rfl, by omega, (A100.slot (A100.slot (A100.slot (A100.slot (A100.slot (A100.slot (A100.slot (A100.slot (A100.slot (A100.slot (A100.slot (A100.slot (A100.slot (A100.slot (A100.slot (A100.slot (A100.slot (A100.slot (A100.slot (A100.slot (A100.slot (A100.slot (A100.slot (A100.slot (A100.slot A100.nil (v := .int .i64 (mHi (wyC (nthI l (0 * 4)) (nthI l (0 * 4 + 1)) (nthI l (0 * 4 + 2)) (nthI l (0 * 4 + 3)) fx fz tx tz))) (by kernel_rfl) rfl) (v := .int .i64 0) (by kernel_rfl) (congrArg (Value.int .i64) (by omega))) (v := .int .i64 (mHi (wyC (nthI l (0 * 4)) (nthI l (0 * 4 + 1)) (nthI l (0 * 4 + 2)) (nthI l (0 * 4 + 3)) fx fz tx tz))) (by kernel_rfl) rfl) (v := .agg #[.int .i64 (leLo (wyC (nthI l (0 * 4)) (nthI l (0 * 4 + 1)) (nthI l (0 * 4 + 2)) (nthI l (0 * 4 + 3)) fx fz tx tz)), .int .i64 (mHi (wyC (nthI l (0 * 4)) (nthI l (0 * 4 + 1)) (nthI l (0 * 4 + 2)) (nthI l (0 * 4 + 3)) fx fz tx tz))]) (by kernel_rfl) rfl) (v := .agg #[.int .i64 tx, .int .i64 tz]) (by kernel_rfl) rfl) (v := .agg #[.int .i64 fx, .int .i64 fz]) (by kernel_rfl) rfl) (v := .agg #[.int .i64 (nthI l (0 * 4)), .int .i64 (nthI l (0 * 4 + 1)), .int .i64 (nthI l (0 * 4 + 2)), .int .i64 (nthI l (0 * 4 + 3))]) (by kernel_rfl) rfl) (v := .pointer (some (ad88.add (0 * 4)))) (by kernel_rfl) rfl) (v := .slice (some ad88) n cap) (by kernel_rfl) rfl) (v := .bool (decide ((k : Int) < (n : Int)))) (by kernel_rfl) rfl) (v := .int .i64 (n : Int)) (by kernel_rfl) rfl) (v := .slice (some ad88) n cap) (by kernel_rfl) rfl) (v := .int .i64 (k : Int)) (by kernel_rfl) rfl) (v := .int .i64 (k : Int)) (by kernel_rfl) rfl) (v := .bool (decide ((n : Int) > 8))) (by kernel_rfl) rfl) (v := .int .i64 (n : Int)) (by kernel_rfl) rfl) (v := .slice (some ad88) n cap) (by kernel_rfl) rfl) (v := .bool (decide ((n : Int) = 0))) (by kernel_rfl) rfl) (v := .int .i64 (n : Int)) (by kernel_rfl) rfl) (v := .slice (some ad88) n cap) (by kernel_rfl) rfl) (v := .pointer (some ⟨g7, 0, none⟩)) (by kernel_rfl) rfl) (v := .pointer (some ⟨g3, 0, none⟩)) (by kernel_rfl) rfl) (v := .agg #[.int .i64 tx, .int .i64 tz]) (by kernel_rfl) rfl) (v := .agg #[.int .i64 fx, .int .i64 fz]) (by kernel_rfl) rfl) (v := .slice (some ad88) n cap) (by kernel_rfl) rfl), S94.sub sub_all sub_all⟩ ?_
        rintro mm ac wc ⟨j, hm103, hj, A101, S102⟩
        refine wp_seq ?_
        refine wp_seq ?_
        refine wp_region_lit ?_
        refine s_one (.int .i64 (j : Int)) A101 S102 (g_move (by kernel_rfl)) rfl (fun ac A104 => ?_)
        refine s_one (.slice (some ad88) n cap) A104 S102 (g_move (by kernel_rfl)) rfl (fun ac A105 => ?_)
        refine s_one (.int .i64 (n : Int)) A105 S102 (g_built (r := [(0, .slice (some ad88) n cap)]) (by kernel_rfl) (fun _ _ _ => by kernel_rfl)) rfl (fun ac A106 => ?_)
        refine s_one (.bool (decide ((j : Int) < (n : Int)))) A106 S102 (g_bin (u := .int .i64 (j : Int)) (k := .int .i64 (n : Int)) (by kernel_rfl) (by kernel_rfl) (fun _ => by kernel_rfl) (fun _ => by kernel_rfl)) rfl (fun ac A107 => ?_)
        refine wpList_nil ?_
        refine n_then ?_
        refine c_ifb (b := (decide ((j : Int) < (n : Int)))) A107 (by kernel_rfl) (fun h108 => ?_) (fun h108 => ?_)
        · have p109 := of_decide_eq_true h108
          refine wp_skip ?_
          refine n_then ?_
          refine wp_seq ?_
          refine wp_block ?_
          refine r_begin (w0 := w0) (by kernel_rfl) (S102.sub sub_all sub_all) (fun wc T110 B111 => ?_)
          have S112 := S102.kept B111
          refine r_take 0 (.int .i64 (mnS (mfHi l fx fz tx tz) j)) A107 T110 (g_move (by kernel_rfl)) rfl rfl rfl (pf_block (pf_then (pf_then (pf_block (pf_then pf_body))))) (by kernel_rfl) (fun ac A113 => ?_)
          refine r_take 1 (.slice (some ad88) n cap) A113 T110 (g_move (by kernel_rfl)) rfl rfl rfl (pf_block (pf_then (pf_then (pf_block (pf_then pf_body))))) (by kernel_rfl) (fun ac A114 => ?_)
          refine r_take 2 (.int .i64 (j : Int)) A114 T110 (g_move (by kernel_rfl)) rfl rfl rfl (pf_block (pf_then (pf_then (pf_block (pf_then pf_body))))) (by kernel_rfl) (fun ac A115 => ?_)
          refine r_take 3 (.pointer (some (ad88.add (j * 4)))) A115 T110 (g_index (u := .slice (some ad88) n cap) (k := .int .i64 (j : Int)) (by kernel_rfl) (by kernel_rfl) (ix_xs (e := 39) (bytes := 32) j (by kernel_rfl) (by omega) (by omega))) rfl rfl rfl (pf_block (pf_then (pf_then (pf_block (pf_then pf_body))))) (by kernel_rfl) (fun ac A116 => ?_)
          refine r_take 4 (.agg #[.int .i64 (nthI l (j * 4)), .int .i64 (nthI l (j * 4 + 1)), .int .i64 (nthI l (j * 4 + 2)), .int .i64 (nthI l (j * 4 + 3))]) A116 T110 (g_loadXS (l := l) (k := j * 4) 4 (by kernel_rfl) hr (by have hlen := hn; omega) (by kernel_rfl) (by kernel_rfl)) rfl rfl rfl (pf_block (pf_then (pf_then (pf_block (pf_then pf_body))))) (by kernel_rfl) (fun ac A117 => ?_)
          refine r_take 5 (.agg #[.int .i64 fx, .int .i64 fz]) A117 T110 (g_load (g := g3) (off := 0) 1 (by kernel_rfl) rfl (by kernel_rfl)) rfl rfl rfl (pf_block (pf_then (pf_then (pf_block (pf_then pf_body))))) (by kernel_rfl) (fun ac A118 => ?_)
          refine r_take 6 (.agg #[.int .i64 tx, .int .i64 tz]) A118 T110 (g_load (g := g7) (off := 0) 0 (by kernel_rfl) rfl (by kernel_rfl)) rfl rfl rfl (pf_block (pf_then (pf_then (pf_block (pf_then pf_body))))) (by kernel_rfl) (fun ac A119 => ?_)
          refine r_1 (i := 7) (by kernel_rfl) ?_
          have q124 := le_bd (wyC_ok (opE_0 (ha j (by omega))).1 (opE_0 (ha j (by omega))).2)
          refine rs_call (fs := #[]) (cp := #[]) (r := [(0, .agg #[.int .i64 (nthI l (j * 4)), .int .i64 (nthI l (j * 4 + 1)), .int .i64 (nthI l (j * 4 + 2)), .int .i64 (nthI l (j * 4 + 3))]), (0, .agg #[.int .i64 fx, .int .i64 fz]), (0, .agg #[.int .i64 tx, .int .i64 tz])]) #[.agg #[.int .i64 (nthI l (j * 4)), .int .i64 (nthI l (j * 4 + 1)), .int .i64 (nthI l (j * 4 + 2)), .int .i64 (nthI l (j * 4 + 3))], .agg #[.int .i64 fx, .int .i64 fz], .agg #[.int .i64 tx, .int .i64 tz]] (.agg #[.int .i64 (leLo (wyC (nthI l (j * 4)) (nthI l (j * 4 + 1)) (nthI l (j * 4 + 2)) (nthI l (j * 4 + 3)) fx fz tx tz)), .int .i64 (mHi (wyC (nthI l (j * 4)) (nthI l (j * 4 + 1)) (nthI l (j * 4 + 2)) (nthI l (j * 4 + 3)) fx fz tx tz))]) A119 S112 sub_all sub_all (refLeastTime_s (nthI l (j * 4)) (nthI l (j * 4 + 1)) (nthI l (j * 4 + 2)) (nthI l (j * 4 + 3)) fx fz tx tz _ (opE_0 (ha j (by omega))).1 (opE_0 (ha j (by omega))).2) Try.call52 rfl rfl (by kernel_rfl) (by kernel_rfl) (by kernel_rfl) rfl (fun ac wc A120 S121 => ?_)
          have T123 := S121.sub sub_all sub_all
          refine r_take 8 (.int .i64 (mHi (wyC (nthI l (j * 4)) (nthI l (j * 4 + 1)) (nthI l (j * 4 + 2)) (nthI l (j * 4 + 3)) fx fz tx tz))) A120 T123 (g_fieldv (u := .agg #[.int .i64 (leLo (wyC (nthI l (j * 4)) (nthI l (j * 4 + 1)) (nthI l (j * 4 + 2)) (nthI l (j * 4 + 3)) fx fz tx tz)), .int .i64 (mHi (wyC (nthI l (j * 4)) (nthI l (j * 4 + 1)) (nthI l (j * 4 + 2)) (nthI l (j * 4 + 3)) fx fz tx tz))]) (by kernel_rfl) (fun _ => by kernel_rfl)) rfl rfl rfl (pf_block (pf_then (pf_then (pf_block (pf_then pf_body))))) (by kernel_rfl) (fun ac A125 => ?_)
          refine r_take 9 (.int .i64 (mn (mnS (mfHi l fx fz tx tz) j) (mHi (wyC (nthI l (j * 4)) (nthI l (j * 4 + 1)) (nthI l (j * 4 + 2)) (nthI l (j * 4 + 3)) fx fz tx tz)))) A125 T123 (g_built (r := [(0, .int .i64 (mnS (mfHi l fx fz tx tz) j)), (0, .int .i64 (mHi (wyC (nthI l (j * 4)) (nthI l (j * 4 + 1)) (nthI l (j * 4 + 2)) (nthI l (j * 4 + 3)) fx fz tx tz)))]) (by kernel_rfl) (fun ty cs w => by show (do let x ← Builtin.min_ _ ty #[.int .i64 (mnS (mfHi l fx fz tx tz) j), .int .i64 (mHi (wyC (nthI l (j * 4)) (nthI l (j * 4 + 1)) (nthI l (j * 4 + 2)) (nthI l (j * 4 + 3)) fx fz tx tz))]; pure (Next.value x) : Sem Next).run _ w = _; rw [Sem.run_bind, run_min_mn]; rfl)) rfl rfl rfl (pf_block (pf_then (pf_then (pf_block (pf_then pf_body))))) (by kernel_rfl) (fun ac A126 => ?_)
          refine r_take 10 (.int .i64 (mn (mnS (mfHi l fx fz tx tz) j) (mHi (wyC (nthI l (j * 4)) (nthI l (j * 4 + 1)) (nthI l (j * 4 + 2)) (nthI l (j * 4 + 3)) fx fz tx tz)))) A126 T123 (g_assign (by kernel_rfl)) rfl rfl rfl (pf_block (pf_then (pf_then (pf_block (pf_then pf_body))))) (by kernel_rfl) (fun ac A127 => ?_)
          refine r_done (by kernel_rfl) ?_
          refine n_block ?_
          refine n_then ?_
          refine wp_region_lit ?_
          refine s_one (.int .i64 (j : Int)) A127 S121 (g_move (by kernel_rfl)) rfl (fun ac A128 => ?_)
          refine s_one (.int .i64 ((j : Int) + 1)) A128 S121 (g_bin (u := .int .i64 (j : Int)) (k := .int .i64 1) (by kernel_rfl) (by kernel_rfl) (fun _ => by kernel_rfl) (b_add (by omega))) rfl (fun ac A129 => ?_)
          refine s_one (.int .i64 ((j : Int) + 1)) A129 S121 (g_assign (by kernel_rfl)) rfl (fun ac A130 => ?_)
          refine wpList_nil ?_
          refine n_then ?_
          refine ⟨_, ⟨j + 1, rfl, by omega, (A130.slot (A130.slot (A130.slot (A130.slot (A130.slot (A130.slot (A130.slot (A130.slot (A130.slot (A130.slot (A130.slot (A130.slot (A130.slot (A130.slot (A130.slot (A130.slot (A130.slot (A130.slot (A130.slot (A130.slot (A130.slot (A130.slot (A130.slot (A130.slot (A130.slot A130.nil (v := .int .i64 (mn (mnS (mfHi l fx fz tx tz) j) (mHi (wyC (nthI l (j * 4)) (nthI l (j * 4 + 1)) (nthI l (j * 4 + 2)) (nthI l (j * 4 + 3)) fx fz tx tz)))) (by kernel_rfl) rfl) (v := .int .i64 ((j : Int) + 1)) (by kernel_rfl) (congrArg (Value.int .i64) (by omega))) (v := .int .i64 (mHi (wyC (nthI l (0 * 4)) (nthI l (0 * 4 + 1)) (nthI l (0 * 4 + 2)) (nthI l (0 * 4 + 3)) fx fz tx tz))) (by kernel_rfl) rfl) (v := .agg #[.int .i64 (leLo (wyC (nthI l (0 * 4)) (nthI l (0 * 4 + 1)) (nthI l (0 * 4 + 2)) (nthI l (0 * 4 + 3)) fx fz tx tz)), .int .i64 (mHi (wyC (nthI l (0 * 4)) (nthI l (0 * 4 + 1)) (nthI l (0 * 4 + 2)) (nthI l (0 * 4 + 3)) fx fz tx tz))]) (by kernel_rfl) rfl) (v := .agg #[.int .i64 tx, .int .i64 tz]) (by kernel_rfl) rfl) (v := .agg #[.int .i64 fx, .int .i64 fz]) (by kernel_rfl) rfl) (v := .agg #[.int .i64 (nthI l (0 * 4)), .int .i64 (nthI l (0 * 4 + 1)), .int .i64 (nthI l (0 * 4 + 2)), .int .i64 (nthI l (0 * 4 + 3))]) (by kernel_rfl) rfl) (v := .pointer (some (ad88.add (0 * 4)))) (by kernel_rfl) rfl) (v := .slice (some ad88) n cap) (by kernel_rfl) rfl) (v := .bool (decide ((k : Int) < (n : Int)))) (by kernel_rfl) rfl) (v := .int .i64 (n : Int)) (by kernel_rfl) rfl) (v := .slice (some ad88) n cap) (by kernel_rfl) rfl) (v := .int .i64 (k : Int)) (by kernel_rfl) rfl) (v := .int .i64 (k : Int)) (by kernel_rfl) rfl) (v := .bool (decide ((n : Int) > 8))) (by kernel_rfl) rfl) (v := .int .i64 (n : Int)) (by kernel_rfl) rfl) (v := .slice (some ad88) n cap) (by kernel_rfl) rfl) (v := .bool (decide ((n : Int) = 0))) (by kernel_rfl) rfl) (v := .int .i64 (n : Int)) (by kernel_rfl) rfl) (v := .slice (some ad88) n cap) (by kernel_rfl) rfl) (v := .pointer (some ⟨g7, 0, none⟩)) (by kernel_rfl) rfl) (v := .pointer (some ⟨g3, 0, none⟩)) (by kernel_rfl) rfl) (v := .agg #[.int .i64 tx, .int .i64 tz]) (by kernel_rfl) rfl) (v := .agg #[.int .i64 fx, .int .i64 fz]) (by kernel_rfl) rfl) (v := .slice (some ad88) n cap) (by kernel_rfl) rfl), S121.sub sub_all sub_all⟩, ?_⟩
          omega
        · have p131 := of_decide_eq_false h108
          refine wp_exit ?_
          refine x_then ?_
          refine x_then ?_
          refine x_hit ?_
          refine n_then ?_
          refine wp_seq ?_
          have hje : j = n := by omega
          have AJ1 := A107
          rw [hje] at AJ1
          refine wp_region_lit ?_
          refine s_one (.slice none 0 0) AJ1 S102 (g_assign (by kernel_rfl)) rfl (fun ac A132 => ?_)
          refine wpList_nil ?_
          refine n_then ?_
          refine wp_seq ?_
          refine wp_seq ?_
          refine wp_region_lit ?_
          refine s_one (.int .i64 0) A132 S102 (g_assign (by kernel_rfl)) rfl (fun ac A133 => ?_)
          refine wpList_nil ?_
          refine n_then ?_
          refine wp_block ?_
          have S134 := S102.nilRow 3 1
          refine c_loopN (fun mm ac wc => ∃ (i : Nat) (v : Value), mm = n - i ∧ (i ≤ n) ∧ Fr 89 ac [(0, .slice (some ad88) n cap), (1, .agg #[.int .i64 fx, .int .i64 fz]), (2, .agg #[.int .i64 tx, .int .i64 tz]), (4, .pointer (some ⟨g3, 0, none⟩)), (5, .pointer (some ⟨g7, 0, none⟩)), (15, .slice (some ad88) n cap), (16, .int .i64 (n : Int)), (17, .bool (decide ((n : Int) = 0))), (18, .slice (some ad88) n cap), (19, .int .i64 (n : Int)), (20, .bool (decide ((n : Int) > 8))), (8, .int .i64 (k : Int)), (21, .int .i64 (k : Int)), (22, .slice (some ad88) n cap), (23, .int .i64 (n : Int)), (24, .bool (decide ((k : Int) < (n : Int)))), (45, .slice (some ad88) n cap), (46, .pointer (some (ad88.add (0 * 4)))), (47, .agg #[.int .i64 (nthI l (0 * 4)), .int .i64 (nthI l (0 * 4 + 1)), .int .i64 (nthI l (0 * 4 + 2)), .int .i64 (nthI l (0 * 4 + 3))]), (48, .agg #[.int .i64 fx, .int .i64 fz]), (49, .agg #[.int .i64 tx, .int .i64 tz]), (50, .agg #[.int .i64 (leLo (wyC (nthI l (0 * 4)) (nthI l (0 * 4 + 1)) (nthI l (0 * 4 + 2)) (nthI l (0 * 4 + 3)) fx fz tx tz)), .int .i64 (mHi (wyC (nthI l (0 * 4)) (nthI l (0 * 4 + 1)) (nthI l (0 * 4 + 2)) (nthI l (0 * 4 + 3)) fx fz tx tz))]), (51, .int .i64 (mHi (wyC (nthI l (0 * 4)) (nthI l (0 * 4 + 1)) (nthI l (0 * 4 + 2)) (nthI l (0 * 4 + 3)) fx fz tx tz))), (12, .int .i64 (n : Int)), (11, .int .i64 (mnS (mfHi l fx fz tx tz) n)), (52, .int .i64 (n : Int)), (53, .slice (some ad88) n cap), (54, .int .i64 (n : Int)), (55, .bool (decide ((n : Int) < (n : Int)))), (14, .int .i64 (i : Int)), (13, v)] ∧ St w0 [⟨g7, 41, #[.int .i64 tx, .int .i64 tz], true⟩, ⟨g3, 41, #[.int .i64 fx, .int .i64 fz], true⟩] [⟨v, 3, 1, ((fiL (mfLo l fx fz tx tz) (mnS (mfHi l fx fz tx tz) n) i).length), (rowI (fiL (mfLo l fx fz tx tz) (mnS (mfHi l fx fz tx tz) n) i))⟩] wc) _ ⟨0, .slice none 0 0, rfl, by omega, (A133.slot (A133.slot (A133.slot (A133.slot (A133.slot (A133.slot (A133.slot (A133.slot (A133.slot (A133.slot (A133.slot (A133.slot (A133.slot (A133.slot (A133.slot (A133.slot (A133.slot (A133.slot (A133.slot (A133.slot (A133.slot (A133.slot (A133.slot (A133.slot (A133.slot (A133.slot (A133.slot (A133.slot (A133.slot (A133.slot (A133.slot A133.nil (v := .slice none 0 0) (by kernel_rfl) (by first | rfl | simp)) (v := .int .i64 0) (by kernel_rfl) (congrArg (Value.int .i64) (by omega))) (v := .bool (decide ((n : Int) < (n : Int)))) (by kernel_rfl) rfl) (v := .int .i64 (n : Int)) (by kernel_rfl) rfl) (v := .slice (some ad88) n cap) (by kernel_rfl) rfl) (v := .int .i64 (n : Int)) (by kernel_rfl) rfl) (v := .int .i64 (mnS (mfHi l fx fz tx tz) n)) (by kernel_rfl) rfl) (v := .int .i64 (n : Int)) (by kernel_rfl) rfl) (v := .int .i64 (mHi (wyC (nthI l (0 * 4)) (nthI l (0 * 4 + 1)) (nthI l (0 * 4 + 2)) (nthI l (0 * 4 + 3)) fx fz tx tz))) (by kernel_rfl) rfl) (v := .agg #[.int .i64 (leLo (wyC (nthI l (0 * 4)) (nthI l (0 * 4 + 1)) (nthI l (0 * 4 + 2)) (nthI l (0 * 4 + 3)) fx fz tx tz)), .int .i64 (mHi (wyC (nthI l (0 * 4)) (nthI l (0 * 4 + 1)) (nthI l (0 * 4 + 2)) (nthI l (0 * 4 + 3)) fx fz tx tz))]) (by kernel_rfl) rfl) (v := .agg #[.int .i64 tx, .int .i64 tz]) (by kernel_rfl) rfl) (v := .agg #[.int .i64 fx, .int .i64 fz]) (by kernel_rfl) rfl) (v := .agg #[.int .i64 (nthI l (0 * 4)), .int .i64 (nthI l (0 * 4 + 1)), .int .i64 (nthI l (0 * 4 + 2)), .int .i64 (nthI l (0 * 4 + 3))]) (by kernel_rfl) rfl) (v := .pointer (some (ad88.add (0 * 4)))) (by kernel_rfl) rfl) (v := .slice (some ad88) n cap) (by kernel_rfl) rfl) (v := .bool (decide ((k : Int) < (n : Int)))) (by kernel_rfl) rfl) (v := .int .i64 (n : Int)) (by kernel_rfl) rfl) (v := .slice (some ad88) n cap) (by kernel_rfl) rfl) (v := .int .i64 (k : Int)) (by kernel_rfl) rfl) (v := .int .i64 (k : Int)) (by kernel_rfl) rfl) (v := .bool (decide ((n : Int) > 8))) (by kernel_rfl) rfl) (v := .int .i64 (n : Int)) (by kernel_rfl) rfl) (v := .slice (some ad88) n cap) (by kernel_rfl) rfl) (v := .bool (decide ((n : Int) = 0))) (by kernel_rfl) rfl) (v := .int .i64 (n : Int)) (by kernel_rfl) rfl) (v := .slice (some ad88) n cap) (by kernel_rfl) rfl) (v := .pointer (some ⟨g7, 0, none⟩)) (by kernel_rfl) rfl) (v := .pointer (some ⟨g3, 0, none⟩)) (by kernel_rfl) rfl) (v := .agg #[.int .i64 tx, .int .i64 tz]) (by kernel_rfl) rfl) (v := .agg #[.int .i64 fx, .int .i64 fz]) (by kernel_rfl) rfl) (v := .slice (some ad88) n cap) (by kernel_rfl) rfl), (St.rerow 0 S134 rfl ⟨rfl, rfl⟩).sub sub_all sub_all⟩ ?_
          rintro mm ac wc ⟨i, v, hm137, hi, A135, S136⟩
          have fl := fiL_le (mfLo l fx fz tx tz) (mnS (mfHi l fx fz tx tz) n) i
          refine wp_seq ?_
          refine wp_seq ?_
          refine wp_region_lit ?_
          refine s_one (.int .i64 (i : Int)) A135 S136 (g_move (by kernel_rfl)) rfl (fun ac A138 => ?_)
          refine s_one (.slice (some ad88) n cap) A138 S136 (g_move (by kernel_rfl)) rfl (fun ac A139 => ?_)
          refine s_one (.int .i64 (n : Int)) A139 S136 (g_built (r := [(0, .slice (some ad88) n cap)]) (by kernel_rfl) (fun _ _ _ => by kernel_rfl)) rfl (fun ac A140 => ?_)
          refine s_one (.bool (decide ((i : Int) < (n : Int)))) A140 S136 (g_bin (u := .int .i64 (i : Int)) (k := .int .i64 (n : Int)) (by kernel_rfl) (by kernel_rfl) (fun _ => by kernel_rfl) (fun _ => by kernel_rfl)) rfl (fun ac A141 => ?_)
          refine wpList_nil ?_
          refine n_then ?_
          refine c_ifb (b := (decide ((i : Int) < (n : Int)))) A141 (by kernel_rfl) (fun h142 => ?_) (fun h142 => ?_)
          · have p143 := of_decide_eq_true h142
            refine wp_skip ?_
            refine n_then ?_
            refine wp_seq ?_
            refine wp_block ?_
            refine wp_seq ?_
            refine r_begin (w0 := w0) (by kernel_rfl) (S136.sub sub_all sub_all) (fun wc T144 B145 => ?_)
            have S146 := S136.kept B145
            refine r_take 0 (.slice (some ad88) n cap) A141 T144 (g_move (by kernel_rfl)) rfl rfl rfl (pf_then (pf_block (pf_then (pf_then (pf_block (pf_then pf_body)))))) (by kernel_rfl) (fun ac A147 => ?_)
            refine r_take 1 (.int .i64 (i : Int)) A147 T144 (g_move (by kernel_rfl)) rfl rfl rfl (pf_then (pf_block (pf_then (pf_then (pf_block (pf_then pf_body)))))) (by kernel_rfl) (fun ac A148 => ?_)
            refine r_take 2 (.pointer (some (ad88.add (i * 4)))) A148 T144 (g_index (u := .slice (some ad88) n cap) (k := .int .i64 (i : Int)) (by kernel_rfl) (by kernel_rfl) (ix_xs (e := 39) (bytes := 32) i (by kernel_rfl) (by omega) (by omega))) rfl rfl rfl (pf_then (pf_block (pf_then (pf_then (pf_block (pf_then pf_body)))))) (by kernel_rfl) (fun ac A149 => ?_)
            refine r_take 3 (.agg #[.int .i64 (nthI l (i * 4)), .int .i64 (nthI l (i * 4 + 1)), .int .i64 (nthI l (i * 4 + 2)), .int .i64 (nthI l (i * 4 + 3))]) A149 T144 (g_loadXS (l := l) (k := i * 4) 4 (by kernel_rfl) hr (by have hlen := hn; omega) (by kernel_rfl) (by kernel_rfl)) rfl rfl rfl (pf_then (pf_block (pf_then (pf_then (pf_block (pf_then pf_body)))))) (by kernel_rfl) (fun ac A150 => ?_)
            refine r_take 4 (.agg #[.int .i64 fx, .int .i64 fz]) A150 T144 (g_load (g := g3) (off := 0) 1 (by kernel_rfl) rfl (by kernel_rfl)) rfl rfl rfl (pf_then (pf_block (pf_then (pf_then (pf_block (pf_then pf_body)))))) (by kernel_rfl) (fun ac A151 => ?_)
            refine r_take 5 (.agg #[.int .i64 tx, .int .i64 tz]) A151 T144 (g_load (g := g7) (off := 0) 0 (by kernel_rfl) rfl (by kernel_rfl)) rfl rfl rfl (pf_then (pf_block (pf_then (pf_then (pf_block (pf_then pf_body)))))) (by kernel_rfl) (fun ac A152 => ?_)
            refine r_take 8 (.int .i64 (mnS (mfHi l fx fz tx tz) n)) A152 T144 (g_move (by kernel_rfl)) rfl rfl rfl (pf_then (pf_block (pf_then (pf_then (pf_block (pf_then pf_body)))))) (by kernel_rfl) (fun ac A153 => ?_)
            refine r_1 (i := 6) (by kernel_rfl) ?_
            have q158 := le_bd (wyC_ok (opE_0 (ha i (by omega))).1 (opE_0 (ha i (by omega))).2)
            refine rs_call (fs := #[]) (cp := #[]) (r := [(0, .agg #[.int .i64 (nthI l (i * 4)), .int .i64 (nthI l (i * 4 + 1)), .int .i64 (nthI l (i * 4 + 2)), .int .i64 (nthI l (i * 4 + 3))]), (0, .agg #[.int .i64 fx, .int .i64 fz]), (0, .agg #[.int .i64 tx, .int .i64 tz])]) #[.agg #[.int .i64 (nthI l (i * 4)), .int .i64 (nthI l (i * 4 + 1)), .int .i64 (nthI l (i * 4 + 2)), .int .i64 (nthI l (i * 4 + 3))], .agg #[.int .i64 fx, .int .i64 fz], .agg #[.int .i64 tx, .int .i64 tz]] (.agg #[.int .i64 (leLo (wyC (nthI l (i * 4)) (nthI l (i * 4 + 1)) (nthI l (i * 4 + 2)) (nthI l (i * 4 + 3)) fx fz tx tz)), .int .i64 (mHi (wyC (nthI l (i * 4)) (nthI l (i * 4 + 1)) (nthI l (i * 4 + 2)) (nthI l (i * 4 + 3)) fx fz tx tz))]) A153 S146 sub_all sub_all (refLeastTime_s (nthI l (i * 4)) (nthI l (i * 4 + 1)) (nthI l (i * 4 + 2)) (nthI l (i * 4 + 3)) fx fz tx tz _ (opE_0 (ha i (by omega))).1 (opE_0 (ha i (by omega))).2) Try.call52 rfl rfl (by kernel_rfl) (by kernel_rfl) (by kernel_rfl) rfl (fun ac wc A154 S155 => ?_)
            have T157 := S155.sub sub_all sub_all
            refine r_take 7 (.int .i64 (leLo (wyC (nthI l (i * 4)) (nthI l (i * 4 + 1)) (nthI l (i * 4 + 2)) (nthI l (i * 4 + 3)) fx fz tx tz))) A154 T157 (g_fieldv (u := .agg #[.int .i64 (leLo (wyC (nthI l (i * 4)) (nthI l (i * 4 + 1)) (nthI l (i * 4 + 2)) (nthI l (i * 4 + 3)) fx fz tx tz)), .int .i64 (mHi (wyC (nthI l (i * 4)) (nthI l (i * 4 + 1)) (nthI l (i * 4 + 2)) (nthI l (i * 4 + 3)) fx fz tx tz))]) (by kernel_rfl) (fun _ => by kernel_rfl)) rfl rfl rfl (pf_then (pf_block (pf_then (pf_then (pf_block (pf_then pf_body)))))) (by kernel_rfl) (fun ac A159 => ?_)
            refine r_take 9 (.bool (decide (leLo (wyC (nthI l (i * 4)) (nthI l (i * 4 + 1)) (nthI l (i * 4 + 2)) (nthI l (i * 4 + 3)) fx fz tx tz) ≤ mnS (mfHi l fx fz tx tz) n))) A159 T157 (g_bin (u := .int .i64 (leLo (wyC (nthI l (i * 4)) (nthI l (i * 4 + 1)) (nthI l (i * 4 + 2)) (nthI l (i * 4 + 3)) fx fz tx tz))) (k := .int .i64 (mnS (mfHi l fx fz tx tz) n)) (by kernel_rfl) (by kernel_rfl) (fun _ => by kernel_rfl) (fun _ => by kernel_rfl)) rfl rfl rfl (pf_then (pf_block (pf_then (pf_then (pf_block (pf_then pf_body)))))) (by kernel_rfl) (fun ac A160 => ?_)
            refine r_done (by kernel_rfl) ?_
            refine n_then ?_
            refine c_ifb (b := (decide (leLo (wyC (nthI l (i * 4)) (nthI l (i * 4 + 1)) (nthI l (i * 4 + 2)) (nthI l (i * 4 + 3)) fx fz tx tz) ≤ mnS (mfHi l fx fz tx tz) n))) A160 (by kernel_rfl) (fun h161 => ?_) (fun h161 => ?_)
            · have p162 := of_decide_eq_true h161
              refine wp_region_lit ?_
              refine s_one (v) A160 S155 (g_move (by kernel_rfl)) rfl (fun ac A163 => ?_)
              refine s_one (.int .i64 (i : Int)) A163 S155 (g_move (by kernel_rfl)) rfl (fun ac A164 => ?_)
              refine s_bs (e := 3) (r := [(0, .int .i64 (i : Int))]) (#[.int .i64 (i : Int)]) A164 S155 (by kernel_rfl) (by kernel_rfl) rfl (fun g167 ac wc A165 S166 => ?_)
              refine s_append (e := 3) (size := 1) (bytes := 8) (v := v) (g := g167) (m' := 1) (c := 1) 0 0 [.int .i64 (i : Int)] A165 S166 (by kernel_rfl) (by kernel_rfl) (by kernel_rfl) rfl rfl (by kernel_rfl) rfl (by kernel_rfl) (by omega) (by omega) rfl (fun v171 ac wc A168 S169 => ?_)
              refine s_one (v171) A168 S169 (g_assign (by kernel_rfl)) rfl (fun ac A172 => ?_)
              refine wpList_nil ?_
              refine n_block ?_
              refine n_then ?_
              refine wp_region_lit ?_
              refine s_one (.int .i64 (i : Int)) A172 S169 (g_move (by kernel_rfl)) rfl (fun ac A173 => ?_)
              refine s_one (.int .i64 ((i : Int) + 1)) A173 S169 (g_bin (u := .int .i64 (i : Int)) (k := .int .i64 1) (by kernel_rfl) (by kernel_rfl) (fun _ => by kernel_rfl) (b_add (by omega))) rfl (fun ac A174 => ?_)
              refine s_one (.int .i64 ((i : Int) + 1)) A174 S169 (g_assign (by kernel_rfl)) rfl (fun ac A175 => ?_)
              refine wpList_nil ?_
              refine n_then ?_
              refine ⟨_, ⟨i + 1, v171, rfl, by omega, (A175.slot (A175.slot (A175.slot (A175.slot (A175.slot (A175.slot (A175.slot (A175.slot (A175.slot (A175.slot (A175.slot (A175.slot (A175.slot (A175.slot (A175.slot (A175.slot (A175.slot (A175.slot (A175.slot (A175.slot (A175.slot (A175.slot (A175.slot (A175.slot (A175.slot (A175.slot (A175.slot (A175.slot (A175.slot (A175.slot (A175.slot A175.nil (v := v171) (by kernel_rfl) rfl) (v := .int .i64 ((i : Int) + 1)) (by kernel_rfl) (congrArg (Value.int .i64) (by omega))) (v := .bool (decide ((n : Int) < (n : Int)))) (by kernel_rfl) rfl) (v := .int .i64 (n : Int)) (by kernel_rfl) rfl) (v := .slice (some ad88) n cap) (by kernel_rfl) rfl) (v := .int .i64 (n : Int)) (by kernel_rfl) rfl) (v := .int .i64 (mnS (mfHi l fx fz tx tz) n)) (by kernel_rfl) rfl) (v := .int .i64 (n : Int)) (by kernel_rfl) rfl) (v := .int .i64 (mHi (wyC (nthI l (0 * 4)) (nthI l (0 * 4 + 1)) (nthI l (0 * 4 + 2)) (nthI l (0 * 4 + 3)) fx fz tx tz))) (by kernel_rfl) rfl) (v := .agg #[.int .i64 (leLo (wyC (nthI l (0 * 4)) (nthI l (0 * 4 + 1)) (nthI l (0 * 4 + 2)) (nthI l (0 * 4 + 3)) fx fz tx tz)), .int .i64 (mHi (wyC (nthI l (0 * 4)) (nthI l (0 * 4 + 1)) (nthI l (0 * 4 + 2)) (nthI l (0 * 4 + 3)) fx fz tx tz))]) (by kernel_rfl) rfl) (v := .agg #[.int .i64 tx, .int .i64 tz]) (by kernel_rfl) rfl) (v := .agg #[.int .i64 fx, .int .i64 fz]) (by kernel_rfl) rfl) (v := .agg #[.int .i64 (nthI l (0 * 4)), .int .i64 (nthI l (0 * 4 + 1)), .int .i64 (nthI l (0 * 4 + 2)), .int .i64 (nthI l (0 * 4 + 3))]) (by kernel_rfl) rfl) (v := .pointer (some (ad88.add (0 * 4)))) (by kernel_rfl) rfl) (v := .slice (some ad88) n cap) (by kernel_rfl) rfl) (v := .bool (decide ((k : Int) < (n : Int)))) (by kernel_rfl) rfl) (v := .int .i64 (n : Int)) (by kernel_rfl) rfl) (v := .slice (some ad88) n cap) (by kernel_rfl) rfl) (v := .int .i64 (k : Int)) (by kernel_rfl) rfl) (v := .int .i64 (k : Int)) (by kernel_rfl) rfl) (v := .bool (decide ((n : Int) > 8))) (by kernel_rfl) rfl) (v := .int .i64 (n : Int)) (by kernel_rfl) rfl) (v := .slice (some ad88) n cap) (by kernel_rfl) rfl) (v := .bool (decide ((n : Int) = 0))) (by kernel_rfl) rfl) (v := .int .i64 (n : Int)) (by kernel_rfl) rfl) (v := .slice (some ad88) n cap) (by kernel_rfl) rfl) (v := .pointer (some ⟨g7, 0, none⟩)) (by kernel_rfl) rfl) (v := .pointer (some ⟨g3, 0, none⟩)) (by kernel_rfl) rfl) (v := .agg #[.int .i64 tx, .int .i64 tz]) (by kernel_rfl) rfl) (v := .agg #[.int .i64 fx, .int .i64 fz]) (by kernel_rfl) rfl) (v := .slice (some ad88) n cap) (by kernel_rfl) rfl), (St.rerow 0 S169 rfl (fiL_y (of_decide_eq_true h161))).sub (sub_skip sub_all) sub_all⟩, ?_⟩
              omega
            · have p176 := of_decide_eq_false h161
              refine wp_skip ?_
              refine n_block ?_
              refine n_then ?_
              refine wp_region_lit ?_
              refine s_one (.int .i64 (i : Int)) A160 S155 (g_move (by kernel_rfl)) rfl (fun ac A177 => ?_)
              refine s_one (.int .i64 ((i : Int) + 1)) A177 S155 (g_bin (u := .int .i64 (i : Int)) (k := .int .i64 1) (by kernel_rfl) (by kernel_rfl) (fun _ => by kernel_rfl) (b_add (by omega))) rfl (fun ac A178 => ?_)
              refine s_one (.int .i64 ((i : Int) + 1)) A178 S155 (g_assign (by kernel_rfl)) rfl (fun ac A179 => ?_)
              refine wpList_nil ?_
              refine n_then ?_
              refine ⟨_, ⟨i + 1, v, rfl, by omega, (A179.slot (A179.slot (A179.slot (A179.slot (A179.slot (A179.slot (A179.slot (A179.slot (A179.slot (A179.slot (A179.slot (A179.slot (A179.slot (A179.slot (A179.slot (A179.slot (A179.slot (A179.slot (A179.slot (A179.slot (A179.slot (A179.slot (A179.slot (A179.slot (A179.slot (A179.slot (A179.slot (A179.slot (A179.slot (A179.slot (A179.slot A179.nil (v := v) (by kernel_rfl) rfl) (v := .int .i64 ((i : Int) + 1)) (by kernel_rfl) (congrArg (Value.int .i64) (by omega))) (v := .bool (decide ((n : Int) < (n : Int)))) (by kernel_rfl) rfl) (v := .int .i64 (n : Int)) (by kernel_rfl) rfl) (v := .slice (some ad88) n cap) (by kernel_rfl) rfl) (v := .int .i64 (n : Int)) (by kernel_rfl) rfl) (v := .int .i64 (mnS (mfHi l fx fz tx tz) n)) (by kernel_rfl) rfl) (v := .int .i64 (n : Int)) (by kernel_rfl) rfl) (v := .int .i64 (mHi (wyC (nthI l (0 * 4)) (nthI l (0 * 4 + 1)) (nthI l (0 * 4 + 2)) (nthI l (0 * 4 + 3)) fx fz tx tz))) (by kernel_rfl) rfl) (v := .agg #[.int .i64 (leLo (wyC (nthI l (0 * 4)) (nthI l (0 * 4 + 1)) (nthI l (0 * 4 + 2)) (nthI l (0 * 4 + 3)) fx fz tx tz)), .int .i64 (mHi (wyC (nthI l (0 * 4)) (nthI l (0 * 4 + 1)) (nthI l (0 * 4 + 2)) (nthI l (0 * 4 + 3)) fx fz tx tz))]) (by kernel_rfl) rfl) (v := .agg #[.int .i64 tx, .int .i64 tz]) (by kernel_rfl) rfl) (v := .agg #[.int .i64 fx, .int .i64 fz]) (by kernel_rfl) rfl) (v := .agg #[.int .i64 (nthI l (0 * 4)), .int .i64 (nthI l (0 * 4 + 1)), .int .i64 (nthI l (0 * 4 + 2)), .int .i64 (nthI l (0 * 4 + 3))]) (by kernel_rfl) rfl) (v := .pointer (some (ad88.add (0 * 4)))) (by kernel_rfl) rfl) (v := .slice (some ad88) n cap) (by kernel_rfl) rfl) (v := .bool (decide ((k : Int) < (n : Int)))) (by kernel_rfl) rfl) (v := .int .i64 (n : Int)) (by kernel_rfl) rfl) (v := .slice (some ad88) n cap) (by kernel_rfl) rfl) (v := .int .i64 (k : Int)) (by kernel_rfl) rfl) (v := .int .i64 (k : Int)) (by kernel_rfl) rfl) (v := .bool (decide ((n : Int) > 8))) (by kernel_rfl) rfl) (v := .int .i64 (n : Int)) (by kernel_rfl) rfl) (v := .slice (some ad88) n cap) (by kernel_rfl) rfl) (v := .bool (decide ((n : Int) = 0))) (by kernel_rfl) rfl) (v := .int .i64 (n : Int)) (by kernel_rfl) rfl) (v := .slice (some ad88) n cap) (by kernel_rfl) rfl) (v := .pointer (some ⟨g7, 0, none⟩)) (by kernel_rfl) rfl) (v := .pointer (some ⟨g3, 0, none⟩)) (by kernel_rfl) rfl) (v := .agg #[.int .i64 tx, .int .i64 tz]) (by kernel_rfl) rfl) (v := .agg #[.int .i64 fx, .int .i64 fz]) (by kernel_rfl) rfl) (v := .slice (some ad88) n cap) (by kernel_rfl) rfl), (St.rerow 0 S155 rfl (fiL_n (of_decide_eq_false h161))).sub sub_all sub_all⟩, ?_⟩
              omega
          · have p180 := of_decide_eq_false h142
            refine wp_exit ?_
            refine x_then ?_
            refine x_then ?_
            refine x_hit ?_
            refine n_then ?_
            refine wp_seq ?_
            refine wp_region_lit ?_
            refine s_one (v) A141 S136 (g_move (by kernel_rfl)) rfl (fun ac A181 => ?_)
            refine s_one (v) A181 S136 (g_assign (by kernel_rfl)) rfl (fun ac A182 => ?_)
            refine s_one (.int .i64 0) A182 S136 (g_assign (by kernel_rfl)) rfl (fun ac A183 => ?_)
            refine wpList_nil ?_
            refine n_then ?_
            refine wp_ret ?_
            refine finRT 0 (v) (.int .i64 0) Try.results73 A183 S136 (by kernel_rfl) (by kernel_rfl) rfl (fun w2 bw ow => ?_)
            have er : mfErr l fx fz tx tz n = 0 := (mfErr_c (by omega) (by omega)).trans (feT_0 ha)
            have hie : i = n := by omega
            rw [hie] at ow
            rw [mfL_0 er, er]
            exact ⟨_, rfl, bw, ow⟩

end Go.Proofs.Ytnfmfkejhgbipaa
