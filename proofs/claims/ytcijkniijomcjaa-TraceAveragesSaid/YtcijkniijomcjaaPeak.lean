/- Contracts of first, gateErr, PeakIn, FirstAbove. -/
import Derived.Test.YtcijkniijomcjaaAnalytic
import Derived.Deep.RegionHeld3
import Derived.Deep.MidRow
import Derived.Deep.DeepCutAuto
namespace Go.Proofs.Ytcijkniijomcjaa
open Go.RowKit Go.Cpl

/-- The first error of some. -/
def firstOf : List Int → Int
  | [] => 0
  | e :: l => if e = 0 then firstOf l else e

theorem firstOf_step (l : List Int) (k : Nat) (h : k < l.length) : firstOf (l.drop k) = if nthI l k = 0 then firstOf (l.drop (k + 1)) else nthI l k := by
  rw [List.drop_eq_getElem_cons h]
  simp only [firstOf, nthI_eq h]

set_option maxHeartbeats 400000 in
theorem first_any (g : Nat) (t : TypeId) (cap : Nat) (l : List Int) (n : Nat) (w : World) (hb : Blk w g t (ints l)) (hn : l.length = n) (hl : n ≤ 1000) :
    Calls Try.prog 62 #[.slice (some ⟨g, 0, none⟩) n cap] w fun e w' => e = .returned (.int .i64 (firstOf l)) ∧ w = w' := by
  have HN := Lib.hid hn
  clear hn
  go_enter Try.func62, Try.ntmps62
  go_wp2
  go_loop [7] (fun i => ∃ k : Nat, k ≤ n ∧ i = .int .i64 k ∧ Hid (firstOf l = firstOf (l.drop k))) (fun i => n - (intOf i).toNat)
  case atStart => exact ⟨0, Nat.zero_le _, rfl, rfl⟩
  case round =>
    obtain ⟨k, hk, rfl, HF⟩ := hrel
    by_cases hlt : k < n
    · have hs := firstOf_step l k (by rw [HN.out]; exact hlt)
      rw [← HF.out] at hs
      have hc := blk_int hb (k := k) (by rw [HN.out]; exact hlt)
      by_cases h0 : nthI l k = 0
      · rw [if_pos h0] at hs
        rw [h0] at hc
        have HS := Lib.hid hs
        clear h0 hs HF
        go_wp2
        go_round
        case rel => exact ⟨k + 1, by omega, by go_num, HS.out⟩
        case measure => simp [intOf]; omega
      · rw [if_neg h0] at hs
        have h1 : (nthI l k != 0) = true := by simpa using h0
        have HS := Lib.hid hs
        clear h0 hs HF
        go_wp2
        go_ret
        rw [HS.out]
        exact ⟨rfl, rfl⟩
    · have hs : firstOf l = 0 := by rw [HF.out, List.drop_eq_nil_of_le (by rw [HN.out]; omega)]; rfl
      have HS := Lib.hid hs
      clear hs HF
      go_wp2
      go_ret
      rw [HS.out]
      exact ⟨rfl, rfl⟩

/-- The error of a gate. -/
def gErr (a b : Int) : Int := if inB a 0 60 && inB b 0 60 then (if b < a then 9 else 0) else 2

set_option maxHeartbeats 400000 in
theorem gateErr_any (a b : Int) (w : World) : Calls Try.prog 93 #[.agg #[.int .i64 a, .int .i64 b]] w fun e w' => e = .returned (.int .i64 (gErr a b)) ∧ Below w.heap.size w w' := by
  unfold gErr
  cases ha : inB a 0 60
  · have HA := Lib.hid ha
    clear ha
    go_enter Try.func93, Try.ntmps93
    go_wp2_with (go_at_call 60; refine (within_any _ _ _ _).mono ?_; rintro e w' ⟨rfl, rfl⟩; rw [HA.out])
    go_ret
    exact ⟨rfl, (Below.refl _ _).alloc (Nat.le_refl _) _⟩
  · have HA := Lib.hid ha
    clear ha
    cases hb : inB b 0 60
    · have HB := Lib.hid hb
      clear hb
      go_enter Try.func93, Try.ntmps93
      go_wp2_with (go_at_call 60; refine (within_any _ _ _ _).mono ?_; rintro e w' ⟨rfl, rfl⟩; first | rw [HA.out] | rw [HB.out])
      go_ret
      exact ⟨rfl, (Below.refl _ _).alloc (Nat.le_refl _) _⟩
    · have HB := Lib.hid hb
      clear hb
      by_cases hc : b < a
      · go_enter Try.func93, Try.ntmps93
        go_wp2_with (go_at_call 60; refine (within_any _ _ _ _).mono ?_; rintro e w' ⟨rfl, rfl⟩; first | rw [HA.out] | rw [HB.out])
        go_ret
        exact ⟨by simp, (Below.refl _ _).alloc (Nat.le_refl _) _⟩
      · go_enter Try.func93, Try.ntmps93
        go_wp2_with (go_at_call 60; refine (within_any _ _ _ _).mono ?_; rintro e w' ⟨rfl, rfl⟩; first | rw [HA.out] | rw [HB.out])
        go_ret
        exact ⟨by simp, (Below.refl _ _).alloc (Nat.le_refl _) _⟩

theorem size2 (a b : Int) : (#[Value.int .i64 a, Value.int .i64 b] : Array Value).size = 2 := rfl
theorem one2 (a b : Int) : (#[Value.int .i64 a, Value.int .i64 b] : Array Value).all (·.oneCell') = true := by simp [Value.oneCell']
theorem row51 : IsRow Try.prog 102 2 := ⟨⟨_, Try.underlying102, rfl⟩, by kernel_rfl⟩
theorem row53 : IsRow Try.prog 97 2 := ⟨⟨_, Try.underlying97, rfl⟩, by kernel_rfl⟩
theorem zero53 : ((Try.prog.info? 97).bind (·.zero)).map (·.cells) = some #[.int .i64 0, .int .i64 0] := by kernel_rfl

set_option maxRecDepth 100000 in
set_option maxHeartbeats 800000 in
theorem PeakIn_wrong (xs : List Nat) (a b : Int) (w : World) (hl : xs.length = 64) (he : firstOf [(firstErr xs 0).2, gErr a b] ≠ 0) :
    Calls Try.prog 53 #[.agg (trc xs), .agg #[.int .i64 a, .int .i64 b]] w fun e w' => e = .returned (.tuple #[.agg #[.int .i64 0, .int .i64 0], .int .i64 (firstOf [(firstErr xs 0).2, gErr a b])]) ∧ Below w.heap.size w w' := by
  have HL := Lib.hid hl
  have he' : (firstOf [(firstErr xs 0).2, gErr a b] != 0) = true := by simpa using he
  have hu := Try.underlying38
  have hi : (Try.prog.info? 38).map (·.size) = some (trc xs).toList.length := by rw [Array.length_toList, size_trc hl]; exact row26.2
  have hle : (trc xs).toList.length = 64 := by rw [Array.length_toList, size_trc hl]
  have h1 : ∀ v ∈ (trc xs).toList, v.oneCell' = true := by
    intro v hv; simp only [trc, List.mem_map] at hv; obtain ⟨n, _, rfl⟩ := hv; rfl
  clear hl he
  have kB := Kp.refl w
  go_enter Try.func53, Try.ntmps53
  go_wp2_with (first | ((with_reducible refine wlB (some 2) 38 (trc xs) ?_ ?_); rfl; intro g2 w2 l2 b2 k2; replace kB := kB.new l2 k2) | ((with_reducible refine wlB (some 3) 102 #[.int .i64 a, .int .i64 b] ?_ ?_); rfl; intro g3 w3 l3 b3 k3; replace kB := kB.new l3 k3; replace b2 := b2.past l3 k3) | ((with_reducible refine wlA (some 4) 97 #[.int .i64 0, .int .i64 0] zero53 ?_); intro g4 w4 l4 b4 k4; have o4 := kB.own l4; replace kB := kB.new l4 k4; replace b2 := b2.past l4 k4; replace b3 := b3.past l4 k4))
  have hS : ∀ w', Kp w4 w' → w'.rangeAt g2 0 (trc xs).toList ∧ w'.cell? ⟨g3, 0, none⟩ = some (.int .i64 a) ∧ w'.cell? ⟨g3, 1, none⟩ = some (.int .i64 b) ∧ Kp w4 w' := fun w' hk =>
    ⟨rangeAt_of_blk (b2.kept hk), (b3.kept hk).cell 0, (b3.kept hk).cell 1, hk⟩
  have HSK := Lib.hid hS
  clear hS
  go_region_held3 (fun w' => w'.rangeAt g2 0 (trc xs).toList ∧ w'.cell? ⟨g3, 0, none⟩ = some (.int .i64 a) ∧ w'.cell? ⟨g3, 1, none⟩ = some (.int .i64 b) ∧ Kp w4 w') ((first | exact HSK.out _ (Kp.refl _).drew | exact HSK.out _ (q6.alloc _) | exact HSK.out _ q6 | exact HSK.out _ q5))
    (first | (go_at_call 71; refine (traceErr_any xs _ HL.out).mono ?_; rintro e w5 ⟨rfl, k5⟩; have q5 : Kp w4 w5 := (Kp.refl w4).drew.call k5) | (go_at_call 93; refine (gateErr_any _ _ _).mono ?_; rintro e w6 ⟨rfl, k6⟩; have q6 : Kp w4 w6 := q5.call k6) | (go_at_call 62; refine (first_any _ 32 _ [(firstErr xs 0).2, gErr a b] 2 _ (by exact Blk.new _ _ _) rfl (by omega)).mono ?_; rintro e w7 ⟨rfl, rfl⟩))
  have b7 := fun o => (b4.kept q6).alloc o
  have kC := fun o => kB.call (q6.alloc o)
  go_wp2_with ((with_reducible refine wlS 97 (.tmp 4) (.tmp 19) (b7 _) (size2 0 0) (size2 0 0) row53 (one2 0 0) ?_ ?_ ?_); rfl; rfl; intro w9 b9 k9; replace kC := (kC _).turn o4 k9)
  exact bodyPost_ret (res_cell_tmp rfl _ rfl b9 rfl row53) rfl ⟨rfl, kC⟩

/-- The greatest square from a place on, so many places, against one that was found. -/
def peakFrom (l : List Int) : Nat → Nat → Int × Int → Int × Int
  | _, 0, best => best
  | i, n + 1, best => peakFrom l (i + 1) n (if best.2 < sqP l i then ((i : Int), sqP l i) else best)
/-- The peak of a gate. -/
def peakOf (l : List Int) (a b : Nat) : Int × Int := peakFrom l (a + 1) (b - a) ((a : Int), sqP l a)

theorem gErr_zero {a b : Int} (h : gErr a b = 0) : 0 ≤ a ∧ a ≤ b ∧ b ≤ 60 := by
  unfold gErr at h
  by_cases h1 : (inB a 0 60 && inB b 0 60) = true
  · rw [if_pos h1] at h
    rw [Bool.and_eq_true, inB_true, inB_true] at h1
    by_cases h2 : b < a
    · rw [if_pos h2] at h; cases h
    · omega
  · rw [if_neg h1] at h; cases h

theorem firstOf_two {a b : Int} (h : firstOf [a, b] = 0) : a = 0 ∧ b = 0 := by
  simp only [firstOf] at h
  by_cases h1 : a = 0
  · rw [if_pos h1] at h
    by_cases h2 : b = 0
    · exact ⟨h1, h2⟩
    · rw [if_neg h2] at h; exact absurd h h2
  · rw [if_neg h1] at h; exact absurd h h1

set_option maxRecDepth 100000 in
set_option maxHeartbeats 1600000 in
theorem PeakIn_right (xs : List Nat) (a b : Nat) (w : World) (hl : xs.length = 64) (h0 : (firstErr xs 0).2 = 0) (hab : a ≤ b) (hb60 : b ≤ 60) :
    Calls Try.prog 53 #[.agg (trc xs), .agg #[.int .i64 a, .int .i64 b]] w fun e w' => e = .returned (.tuple #[.agg #[.int .i64 (peakOf (nums xs) a b).1, .int .i64 (peakOf (nums xs) a b).2], .int .i64 0]) ∧ Below w.heap.size w w' := by
  have HE := Lib.hid (show firstOf [(firstErr xs 0).2, gErr a b] = 0 by
    rw [h0]; simp [firstOf, gErr, inB]; omega)
  have HL := Lib.hid hl
  have HR := Lib.hid (right_of h0)
  have HQ := Lib.hid (fun g t W ht hbW => square_any g t (nums xs) W (nums_length xs) ht hbW (nums_range hl (right_of h0)))
  have HB := Lib.hid (fun t => sqP_bound (nums_range hl (right_of h0)) t)
  have HS := Lib.hid (show (ints (nums xs)).size = 64 by rw [ints_size, nums_length])
  have HZ := Lib.hid (show (ints (List.replicate 64 0)).size = 64 by rw [ints_size]; simp)
  have hu := Try.underlying38
  have hi : (Try.prog.info? 38).map (·.size) = some (trc xs).toList.length := by rw [Array.length_toList, size_trc hl]; exact row26.2
  have hle : (trc xs).toList.length = 64 := by rw [Array.length_toList, size_trc hl]
  have h1 : ∀ v ∈ (trc xs).toList, v.oneCell' = true := by
    intro v hv; simp only [trc, List.mem_map] at hv; obtain ⟨n, _, rfl⟩ := hv; rfl
  clear hl h0
  have kB := Kp.refl w
  go_enter Try.func53, Try.ntmps53
  go_wp2_with (first | ((with_reducible refine wlB (some 2) 38 (trc xs) ?_ ?_); rfl; intro g2 w2 l2 b2 k2; replace kB := kB.new l2 k2) | ((with_reducible refine wlB (some 3) 102 #[.int .i64 a, .int .i64 b] ?_ ?_); rfl; intro g3 w3 l3 b3 k3; replace kB := kB.new l3 k3; replace b2 := b2.past l3 k3) | ((with_reducible refine wlA (some 4) 97 #[.int .i64 0, .int .i64 0] zero53 ?_); intro g4 w4 l4 b4 k4; have o4 := kB.own l4; replace kB := kB.new l4 k4; replace b2 := b2.past l4 k4; replace b3 := b3.past l4 k4))
  have hS : ∀ w', Kp w4 w' → w'.rangeAt g2 0 (trc xs).toList ∧ w'.cell? ⟨g3, 0, none⟩ = some (.int .i64 a) ∧ w'.cell? ⟨g3, 1, none⟩ = some (.int .i64 b) ∧ Kp w4 w' := fun w' hk =>
    ⟨rangeAt_of_blk (b2.kept hk), (b3.kept hk).cell 0, (b3.kept hk).cell 1, hk⟩
  have HSK := Lib.hid hS
  clear hS
  go_region_held3 (fun w' => w'.rangeAt g2 0 (trc xs).toList ∧ w'.cell? ⟨g3, 0, none⟩ = some (.int .i64 a) ∧ w'.cell? ⟨g3, 1, none⟩ = some (.int .i64 b) ∧ Kp w4 w') ((first | exact HSK.out _ (Kp.refl _).drew | exact HSK.out _ (q6.alloc _) | exact HSK.out _ q6 | exact HSK.out _ q5))
    (first | (go_at_call 71; refine (traceErr_any xs _ HL.out).mono ?_; rintro e w5 ⟨rfl, k5⟩; have q5 : Kp w4 w5 := (Kp.refl w4).drew.call k5) | (go_at_call 93; refine (gateErr_any _ _ _).mono ?_; rintro e w6 ⟨rfl, k6⟩; have q6 : Kp w4 w6 := q5.call k6) | (go_at_call 62; refine (first_any _ 32 _ [(firstErr xs 0).2, gErr a b] 2 _ (by exact Blk.new _ _ _) rfl (by omega)).mono ?_; rintro e w7 ⟨rfl, rfl⟩; rw [HE.out]))
  have q7 := fun o => q6.alloc o
  go_wp2_with (first | (go_at_call 66; refine (numbersOf_any _ xs _ HL.out (b2.kept (q7 _)) HR.out).mono ?_; rintro e w8 ⟨rfl, k8⟩; have q8 : Kp w4 w8 := (q7 _).call k8; replace kB := kB.call q8; replace b3 := b3.kept q8; replace b4 := b4.kept q8) | ((with_reducible refine wlA (some 7) 123 (ints (List.replicate 64 0)) zero159 ?_); intro g7 w9 l9 b9 k9; have o9 := kB.own l9; have n39 := Nat.lt_of_lt_of_le b3.lt l9; have n49 := Nat.lt_of_lt_of_le b4.lt l9; replace kB := kB.new l9 k9; replace b3 := b3.past l9 k9; replace b4 := b4.past l9 k9) | ((with_reducible refine wlS 123 (.tmp 7) (.tmp 21) b9 HZ.out HS.out row159 (ints_one _) ?_ ?_ ?_); rfl; rfl; intro w10 b10 k10; replace kB := kB.turn o9 k10; replace b3 := k10.blk b3 (Nat.ne_of_lt n39); replace b4 := k10.blk b4 (Nat.ne_of_lt n49)))
  go_frame
  have hS : ∀ w', Kp w10 w' → w'.cell? ⟨g3, 0, none⟩ = some (.int .i64 a) ∧ Kp w10 w' := fun w' hk => ⟨(b3.kept hk).cell 0, hk⟩
  have HSK2 := Lib.hid hS
  clear hS
  go_cut [8] (fun s8 wx => ∃ g8 : Nat, s8 = .pointer (some ⟨g8, 0, none⟩) ∧ Blk wx g8 97 #[.int .i64 a, .int .i64 (sqP (nums xs) a)] ∧ w10.heap.size ≤ g8 ∧ Kp w10 wx)
  case first =>
    go_region_held3 (fun w' => w'.cell? ⟨g3, 0, none⟩ = some (.int .i64 a) ∧ Kp w10 w') ((first | exact HSK2.out _ (Kp.refl _).drew | exact HSK2.out _ q11 | exact HSK2.out _ (q11.alloc _) | exact HSK2.out _ ((Kp.refl _).drew.alloc _) | exact HSK2.out _ ((q11.setCell (Nat.le_refl _) _ _).setCell (Nat.le_refl _) _ _)))
      (first | (go_at_call 94; refine (HQ.out _ a _ ?_ ?_).mono ?_; omega; (first | exact b10.drew | exact b10.drew.alloc _); rintro e w11 ⟨rfl, k11⟩; have q11 : Kp w10 w11 := (by first | exact Kp.call (Kp.refl w10).drew k11 | exact Kp.call ((Kp.refl w10).drew.alloc _) k11); have f0 := fun i => k11.cell (p := ⟨w10.heap.size, i, none⟩); have f1 := fun i => k11.frozen (p := ⟨w10.heap.size, i, none⟩)))
    all_goals (go_wp2_with fail; go_meet; first | exact ⟨_, rfl, Blk.new _ _ _, q11.size, q11.alloc _⟩ | exact ⟨_, rfl, (((Blk.new w10 97 _).drew.kept k11).set_ 0 _).set_ 1 _, Nat.le_refl _, (q11.setCell (Nat.le_refl _) _ _).setCell (Nat.le_refl _) _ _⟩)
  case rest =>
    obtain ⟨g8, rfl, c8, l8, q12⟩ := hcut
    have o8 := kB.own l8
    have n38 := Nat.lt_of_lt_of_le b3.lt l8
    have n48 := Nat.lt_of_lt_of_le b4.lt l8
    have n78 := Nat.lt_of_lt_of_le b10.lt l8
    replace kB := kB.call q12
    replace b3 := b3.kept q12
    replace b4 := b4.kept q12
    replace b10 := b10.kept q12
    have f0 := b3.cell 0
    have f1 := b3.cell 1
    go_wp2
    go_loopw [9] (fun i wr => ∃ (k : Nat) (best : Int × Int), a + 1 ≤ k ∧ k ≤ b + 1 ∧ i = .int .i64 k ∧ Hid (peakOf (nums xs) a b = peakFrom (nums xs) k (b + 1 - k) best) ∧ Blk wr g8 97 #[.int .i64 best.1, .int .i64 best.2] ∧ Blk wr g7 123 (ints (nums xs)) ∧ Blk wr g3 102 #[.int .i64 a, .int .i64 b] ∧ Blk wr g4 97 #[.int .i64 0, .int .i64 0] ∧ Kp w wr) (fun i _ => b + 1 - (intOf i).toNat)
    case atStart => exact ⟨a + 1, (a, sqP (nums xs) a), Nat.le_refl _, by omega, by go_num, by show _ = _; unfold peakOf; rw [show b + 1 - (a + 1) = b - a by omega], c8, b10, b3, b4, kB⟩
    case round =>
      clear b3 b4 b10 c8 kB f0 f1
      obtain ⟨k, best, hk1, hk2, rfl, HF, c8, c7, c3, c4, kB⟩ := hrel
      obtain ⟨bt, bs⟩ := best
      have f1 : wr.cell? ⟨g3, 1, none⟩ = some (.int .i64 b) := c3.cell 1
      by_cases hlt : k ≤ b
      · have hbd := HB.out k
        have hst : peakFrom (nums xs) k (b + 1 - k) (bt, bs) = peakFrom (nums xs) (k + 1) (b + 1 - (k + 1)) (if bs < sqP (nums xs) k then ((k : Int), sqP (nums xs) k) else (bt, bs)) := by
          rw [show b + 1 - k = (b + 1 - (k + 1)) + 1 by omega]; rfl
        rw [← HF.out] at hst
        by_cases hgt : bs < sqP (nums xs) k
        · rw [if_pos hgt] at hst
          have HF2 := Lib.hid hst
          clear hst HF
          go_wp2_with (first | (go_at_call 94; refine (HQ.out _ k _ (by omega) c7).mono ?_; rintro e w13 ⟨rfl, k13⟩; replace kB := kB.call k13; replace c8 := c8.kept k13; replace c7 := c7.kept k13; replace c3 := c3.kept k13; replace c4 := c4.kept k13; have f2 : w13.cell? ⟨g8, 1, none⟩ = some (.int .i64 bs) := c8.cell 1) | ((with_reducible refine wlS 97 (.tmp 8) (.tmp 45) c8 (size2 bt bs) (size2 k (sqP (nums xs) k)) row53 (one2 _ _) ?_ ?_ ?_); rfl; rfl; intro w14 c14 k14; replace kB := kB.turn o8 k14; replace c7 := k14.blk c7 (Nat.ne_of_lt n78); replace c3 := k14.blk c3 (Nat.ne_of_lt n38); replace c4 := k14.blk c4 (Nat.ne_of_lt n48)))
          go_roundw
          case rel => exact ⟨k + 1, ((k : Int), sqP (nums xs) k), by omega, by omega, by go_num, HF2.out, c14, c7, c3, c4, kB⟩
          case measure => simp [intOf]; omega
        · rw [if_neg hgt] at hst
          have HF2 := Lib.hid hst
          clear hst HF
          go_wp2_with (first | (go_at_call 94; refine (HQ.out _ k _ (by omega) c7).mono ?_; rintro e w13 ⟨rfl, k13⟩; replace kB := kB.call k13; replace c8 := c8.kept k13; replace c7 := c7.kept k13; replace c3 := c3.kept k13; replace c4 := c4.kept k13; have f2 : w13.cell? ⟨g8, 1, none⟩ = some (.int .i64 bs) := c8.cell 1))
          go_roundw
          case rel => exact ⟨k + 1, (bt, bs), by omega, by omega, by go_num, HF2.out, c8, c7, c3, c4, kB⟩
          case measure => simp [intOf]; omega
      · have hst : peakOf (nums xs) a b = (bt, bs) := by rw [HF.out, show b + 1 - k = 0 by omega]; rfl
        have HF2 := Lib.hid hst
        clear hst HF
        go_wp2_with (first | ((with_reducible refine wlL (some 46) 97 c8 (size2 bt bs) row53 ?_ ?_); rfl) | ((with_reducible refine wlS 97 (.tmp 4) (.tmp 46) c4 (size2 0 0) (size2 bt bs) row53 (one2 _ _) ?_ ?_ ?_); rfl; rfl; intro w14 c14 k14; replace kB := kB.turn o4 k14))
        rw [HF2.out]
        exact bodyPost_ret (res_cell_tmp rfl _ rfl c14 (size2 bt bs) row53) rfl ⟨rfl, kB⟩

end Go.Proofs.Ytcijkniijomcjaa
