/- Contracts of Analytic and Envelope. -/
import Derived.Test.YtcijkniijomcjaaNums
namespace Go.Proofs.Ytcijkniijomcjaa
open Go.RowKit Go.Cpl

/-- The cells of an array of samples with whole parts. -/
def cxs (l : List (Int × Int)) : Array Value := (l.map fun p => Value.complex .f32 (floatOfInt .f32 p.1) (floatOfInt .f32 p.2)).toArray
theorem cxs_size (l : List (Int × Int)) : (cxs l).size = l.length := by simp [cxs]
theorem cxs_set (l : List (Int × Int)) (k : Nat) (x y : Int) : (cxs l).setIfInBounds k (.complex .f32 (floatOfInt .f32 x) (floatOfInt .f32 y)) = cxs (l.set k (x, y)) := by
  simp [cxs]
theorem cxs_one (l : List (Int × Int)) : (cxs l).all (·.oneCell') = true := by
  rw [Array.all_eq_true_iff_forall_mem]
  intro v hv
  simp only [cxs, List.mem_toArray, List.mem_map] at hv
  obtain ⟨n, _, rfl⟩ := hv
  rfl
theorem cxs_get {l : List (Int × Int)} {k : Nat} (h : k < l.length) : ∃ v, (cxs l)[k]? = some v := ⟨_, by simp [cxs, h]; rfl⟩

theorem blk_cx {w : World} {g : Nat} {t : TypeId} {l : List (Int × Int)} (h : Blk w g t (cxs l)) {k : Nat} (hk : k < l.length) : ∃ v, w.cell? ⟨g, k, none⟩ = some v := by
  obtain ⟨v, hv⟩ := cxs_get hk
  exact ⟨v, by rw [h.cell, hv]⟩

def zeros36 : Array Value := cxs (List.replicate 61 (0, 0))
theorem row36 : IsRow Try.prog 104 61 := ⟨⟨_, Try.underlying104, rfl⟩, by kernel_rfl⟩
theorem zero36 : ((Try.prog.info? 104).bind (·.zero)).map (·.cells) = some zeros36 := by kernel_rfl
theorem zero159 : ((Try.prog.info? 123).bind (·.zero)).map (·.cells) = some (ints (List.replicate 64 0)) := by kernel_rfl
theorem one36 : zeros36.all (·.oneCell') = true := cxs_one _
theorem size36 : zeros36.size = 61 := by simp [zeros36, cxs_size]

theorem nums_range {xs : List Nat} (hl : xs.length = 64) (h : Right xs) (k : Nat) : -2047 ≤ nthI (nums xs) k ∧ nthI (nums xs) k ≤ 2047 := by
  by_cases hk : k < 64
  · rw [nthI_eq (by rw [nums_length]; exact hk)]
    simp only [nums, List.getElem_map, List.getElem_range]
    exact (sErr_zero (h.at_ (by omega))).2
  · have : nthI (nums xs) k = 0 := by simp [nthI, List.getElem?_eq_none (show (nums xs).length ≤ k by rw [nums_length]; omega)]
    omega

attribute [local go_sem] run_store_complex

set_option maxHeartbeats 400000 in
theorem Analytic_wrong (xs : List Nat) (w : World) (hl : xs.length = 64) (he : (firstErr xs 0).2 ≠ 0) :
    Calls Try.prog 55 #[.agg (trc xs)] w fun e w' => e = .returned (.tuple #[.agg zeros36, .int .i64 (firstErr xs 0).2]) ∧ Below w.heap.size w w' := by
  have HL := Lib.hid hl
  have he' : ((firstErr xs 0).2 != 0) = true := by simpa using he
  clear hl he
  have kB := Kp.refl w
  go_enter Try.func55, Try.ntmps55
  go_wp2_with (first | ((with_reducible refine wlB (some 1) 38 (trc xs) ?_ ?_); rfl; intro g1 w1 l1 b1 k1; replace kB := kB.new l1 k1) | ((with_reducible refine wlA (some 2) 104 zeros36 zero36 ?_); intro g2 w2 l2 b2 k2; have o2 := kB.own l2; replace kB := kB.new l2 k2; replace b1 := b1.past l2 k2) | ((with_reducible refine wlA (some 4) 104 zeros36 zero36 ?_); intro g4 w4 l4 b4 k4; replace kB := kB.new l4 k4; replace b1 := b1.past l4 k4; replace b2 := b2.past l4 k4) | ((with_reducible refine wlL (some 10) 38 b1 (size_trc HL.out) row26 ?_ ?_); rfl) | (go_at_call 71; refine (traceErr_any xs _ HL.out).mono ?_; rintro e w5 ⟨rfl, k5⟩; replace kB := kB.call k5; replace b2 := b2.kept k5; replace b4 := b4.kept k5) | ((with_reducible refine wlL (some 14) 104 b4 size36 row36 ?_ ?_); rfl) | ((with_reducible refine wlS 104 (.tmp 2) (.tmp 14) b2 size36 size36 row36 one36 ?_ ?_ ?_); rfl; rfl; intro w6 b6 k6; replace kB := kB.turn o2 k6))
  exact bodyPost_ret (res_cell_tmp rfl _ rfl b6 size36 row36) rfl ⟨rfl, kB⟩

/-- The parts of all analytic samples. -/
def partsL (l : List Int) : List (Int × Int) := (List.range 61).map fun t => (reP l t, imP l t)
theorem partsL_length (l : List Int) : (partsL l).length = 61 := by simp [partsL]
theorem size_parts (l : List Int) : (cxs (partsL l)).size = 61 := by rw [cxs_size, partsL_length]

set_option maxHeartbeats 800000 in
theorem Analytic_right (xs : List Nat) (w : World) (hl : xs.length = 64) (h0 : (firstErr xs 0).2 = 0) :
    Calls Try.prog 55 #[.agg (trc xs)] w fun e w' => e = .returned (.tuple #[.agg (cxs (partsL (nums xs))), .int .i64 0]) ∧ Below w.heap.size w w' := by
  have HL := Lib.hid hl
  have H0 := Lib.hid h0
  have HR := Lib.hid (right_of h0)
  have HP := Lib.hid (fun g t W ht hbW => parts_any g t (nums xs) W (nums_length xs) ht hbW (nums_range hl (right_of h0)))
  have HB := Lib.hid (fun t => reP_bound (nums_range hl (right_of h0)) t)
  have HI := Lib.hid (fun t => imP_bound (nums_range hl (right_of h0)) t)
  have HS := Lib.hid (show (ints (nums xs)).size = 64 by rw [ints_size, nums_length])
  have HZ := Lib.hid (show (ints (List.replicate 64 0)).size = 64 by rw [ints_size]; simp)
  clear hl h0
  have kB := Kp.refl w
  go_enter Try.func55, Try.ntmps55
  go_wp2_with (first | ((with_reducible refine wlB (some 1) 38 (trc xs) ?_ ?_); rfl; intro g1 w1 l1 b1 k1; replace kB := kB.new l1 k1) | ((with_reducible refine wlA (some 2) 104 zeros36 zero36 ?_); intro g2 w2 l2 b2 k2; have o2 := kB.own l2; replace kB := kB.new l2 k2; replace b1 := b1.past l2 k2) | ((with_reducible refine wlA (some 4) 104 zeros36 zero36 ?_); intro g4 w4 l4 b4 k4; have o4 := kB.own l4; have n24 := Nat.lt_of_lt_of_le b2.lt l4; replace kB := kB.new l4 k4; replace b1 := b1.past l4 k4; replace b2 := b2.past l4 k4) | ((with_reducible refine wlL (some 10) 38 b1 (size_trc HL.out) row26 ?_ ?_); rfl) | (go_at_call 71; refine (traceErr_any xs _ HL.out).mono ?_; rintro e w5 ⟨rfl, k5⟩; rw [H0.out]; replace kB := kB.call k5; replace b1 := b1.kept k5; replace b2 := b2.kept k5; replace b4 := b4.kept k5) | (go_at_call 66; refine (numbersOf_any _ xs _ HL.out b1 HR.out).mono ?_; rintro e w6 ⟨rfl, k6⟩; replace kB := kB.call k6; replace b2 := b2.kept k6; replace b4 := b4.kept k6) | ((with_reducible refine wlA (some 6) 123 (ints (List.replicate 64 0)) zero159 ?_); intro g6 w7 l7 b7 k7; have o7 := kB.own l7; have n27 := Nat.lt_of_lt_of_le b2.lt l7; have n47 := Nat.lt_of_lt_of_le b4.lt l7; replace kB := kB.new l7 k7; replace b2 := b2.past l7 k7; replace b4 := b4.past l7 k7) | ((with_reducible refine wlS 123 (.tmp 6) (.tmp 16) b7 HZ.out HS.out row159 (ints_one _) ?_ ?_ ?_); rfl; rfl; intro w8 b8 k8; replace kB := kB.turn o7 k8; replace b2 := k8.blk b2 (Nat.ne_of_lt n27); replace b4 := k8.blk b4 (Nat.ne_of_lt n47)))
  have HZ4 := Lib.hid (show zeros36 = cxs (done (0, 0) (fun t => (reP (nums xs) t, imP (nums xs) t)) 61 0) by rw [done_zero]; rfl)
  go_loopw [17] (fun i wr => ∃ k : Nat, k ≤ 61 ∧ i = .int .i64 k ∧ Blk wr g4 104 (cxs (done (0, 0) (fun t => (reP (nums xs) t, imP (nums xs) t)) 61 k)) ∧ Blk wr g6 123 (ints (nums xs)) ∧ Blk wr g2 104 zeros36 ∧ Kp w wr) (fun i _ => 61 - (intOf i).toNat)
  case atStart => exact ⟨0, Nat.zero_le _, rfl, by rw [← HZ4.out]; exact b4, b8, b2, kB⟩
  case round =>
    clear b2 b4 b7 b8 kB
    obtain ⟨k, hk, rfl, c4, c6, c2, kB⟩ := hrel
    by_cases hlt : k < 61
    · have i0 : (0 : Int) ≤ (k : Int) := by omega
      have i1 : (k : Int) < 61 := by omega
      have r1 := HB.out k
      have r2 := HI.out k
      go_wp2_with (go_at_call 95; refine (HP.out _ k _ (by omega) c6).mono ?_; rintro e w9 ⟨rfl, k9⟩; replace kB := kB.call k9; replace c2 := c2.kept k9; replace c4 := c4.kept k9; replace c6 := c6.kept k9; obtain ⟨v4, q4⟩ := blk_cx c4 (k := k) (by rw [done_length]; exact hlt); have z4 := c4.free k)
      go_roundw
      case rel =>
        refine ⟨k + 1, by omega, by go_num, ?_, c6.far (Nat.ne_of_gt n47) _, c2.far (Nat.ne_of_lt n24) _, kB.setCell o4 _ _⟩
        have h1 := c4.set_ k (.complex .f32 (floatOfInt .f32 (reP (nums xs) k)) (floatOfInt .f32 (imP (nums xs) k)))
        rw [cxs_set, done_set (0, 0) (fun t => (reP (nums xs) t, imP (nums xs) t))] at h1
        exact h1
      case measure => simp [intOf]; omega
    · obtain rfl : k = 61 := by omega
      rw [done_all] at c4
      change Blk wr g4 104 (cxs (partsL (nums xs))) at c4
      go_wp2_with (first | ((with_reducible refine wlL (some 33) 104 c4 (size_parts _) row36 ?_ ?_); rfl) | ((with_reducible refine wlS 104 (.tmp 2) (.tmp 33) c2 size36 (size_parts (nums xs)) row36 (cxs_one _) ?_ ?_ ?_); rfl; rfl; intro w9 b9 k9; replace kB := kB.turn o2 k9))
      exact bodyPost_ret (res_cell_tmp rfl _ rfl b9 (size_parts _) row36) rfl ⟨rfl, kB⟩

end Go.Proofs.Ytcijkniijomcjaa
