/- Contracts of LagOf and of the function in it. -/
import Derived.Test.YtcijkniijomcjaaPeak
namespace Go.Proofs.Ytcijkniijomcjaa
open Go.RowKit Go.Cpl

/-- The sum of products with a lag, of the first k samples. -/
def corrTo (x y : List Int) (lag : Int) : Nat → Int
  | 0 => 0
  | k + 1 => corrTo x y lag k + (if inB ((k : Int) + lag) 0 63 = true then nthI x k * nthI y ((k : Int) + lag).toNat else 0)
def corr (x y : List Int) (lag : Int) : Int := corrTo x y lag 64

theorem mul_bound {x y : Int} (hx : -2047 ≤ x ∧ x ≤ 2047) (hy : -2047 ≤ y ∧ y ≤ 2047) : -4190209 ≤ x * y ∧ x * y ≤ 4190209 := by
  have h1 : (x * y).natAbs ≤ 2047 * 2047 := by rw [Int.natAbs_mul]; exact Nat.mul_le_mul (by omega) (by omega)
  omega

/-- All numbers are small. -/
def Small (l : List Int) : Prop := ∀ k, -2047 ≤ nthI l k ∧ nthI l k ≤ 2047

theorem corrTo_bound {x y : List Int} (hx : Small x) (hy : Small y) (lag : Int) : ∀ k : Nat, -(4190209 * (k : Int)) ≤ corrTo x y lag k ∧ corrTo x y lag k ≤ 4190209 * (k : Int)
  | 0 => by simp [corrTo]
  | k + 1 => by
    have ih := corrTo_bound hx hy lag k
    have hm := mul_bound (hx k) (hy ((k : Int) + lag).toNat)
    simp only [corrTo]
    split <;> omega

theorem index159 (l : List Int) (hl : l.length = 64) (k : Nat) (hk : k < 64) (w : World) : (Instr.index 123 (.agg (ints l)) (.int .i64 (k : Int))).run Try.prog w = .ok (.int .i64 (nthI l k)) w := by
  have h := ints_get (l := l) (k := k) (by omega)
  have hs : ∀ W, (sizeOf 3).run Try.prog W = .ok 1 W := fun W => by kernel_rfl
  have ha : ∀ W, (isAgg 3).run Try.prog W = .ok false W := fun W => by kernel_rfl
  have hi : (0 : Int) ≤ (k : Int) ∧ (k : Int) < 64 := by omega
  simp [Instr.index, run_underlying Try.underlying123, asIntOf, hi, part, hs, ha, h]
  intro h64; omega

set_option maxHeartbeats 800000 in
theorem like_any (x y : List Int) (gx gy : Nat) (lag : Int) (w : World) (hx : x.length = 64) (hy : y.length = 64) (sx : Small x) (sy : Small y) (hlo : -32 ≤ lag) (hhi : lag ≤ 32) (bx : Blk w gx 123 (ints x)) (by_ : Blk w gy 123 (ints y)) :
    Calls Try.prog 96 #[.int .i64 lag, .pointer (some ⟨gx, 0, none⟩), .pointer (some ⟨gy, 0, none⟩)] w fun e w' => e = .returned (.int .i64 (corr x y lag)) ∧ w = w' := by
  have HX := Lib.hid (show (ints x).size = 64 by rw [ints_size, hx])
  have HIx := Lib.hid (index159 x hx)
  have HY := Lib.hid hy
  have HSx := Lib.hid sx
  have HSy := Lib.hid sy
  have HB := Lib.hid (corrTo_bound sx sy lag)
  clear hx hy sx sy
  go_enter Try.func96, Try.ntmps96
  go_wp2_with ((with_reducible refine wlL (some 8) 123 bx HX.out row159 ?_ ?_); rfl)
  go_loop [9, 5] (fun i s => ∃ k : Nat, k ≤ 64 ∧ i = .int .i64 k ∧ s = .int .i64 (corrTo x y lag k)) (fun i _ => 64 - (intOf i).toNat)
  case atStart => exact ⟨0, Nat.zero_le _, rfl, rfl⟩
  case round =>
    obtain ⟨k, hk, rfl, rfl⟩ := hrel
    have hB := HB.out k
    by_cases hlt : k < 64
    · have hidx := HIx.out k hlt
      have hsx := HSx.out k
      have hsy := HSy.out ((k : Int) + lag).toNat
      have hm := mul_bound hsx hsy
      have hst : corrTo x y lag (k + 1) = corrTo x y lag k + (if inB ((k : Int) + lag) 0 63 = true then nthI x k * nthI y ((k : Int) + lag).toNat else 0) := rfl
      by_cases hin : 0 ≤ (k : Int) + lag ∧ (k : Int) + lag ≤ 63
      · rw [if_pos (inB_true.2 hin)] at hst
        have HST := Lib.hid hst
        have HI := Lib.hid (inB_true.2 hin)
        clear hst
        obtain ⟨hin0, hin1⟩ := hin
        have hc : w.cell? ⟨gy, ((k : Int) + lag).toNat, none⟩ = some (.int .i64 (nthI y ((k : Int) + lag).toNat)) := blk_int by_ (by rw [HY.out]; omega)
        generalize nthI y ((k : Int) + lag).toNat = ny at *
        generalize nthI x k = nx at *
        go_wp2_with (go_at_call 60; refine (within_any _ _ _ _).mono ?_; rintro e w' ⟨rfl, rfl⟩; rw [HI.out])
        go_round
        case rel => exact ⟨k + 1, by omega, by go_num, by rw [HST.out]⟩
        case measure => simp [intOf]; omega
      · rw [if_neg (by rw [inB_true]; exact hin), Int.add_zero] at hst
        have HST := Lib.hid hst
        have HI := Lib.hid (inB_false.2 hin)
        clear hst hm hsy hin
        generalize nthI x k = nx at *
        go_wp2_with (go_at_call 60; refine (within_any _ _ _ _).mono ?_; rintro e w' ⟨rfl, rfl⟩; rw [HI.out])
        go_round
        case rel => exact ⟨k + 1, by omega, by go_num, by rw [HST.out]⟩
        case measure => simp [intOf]; omega
    · obtain rfl : k = 64 := by omega
      go_wp2
      go_ret
      exact ⟨rfl, rfl⟩

/-- One lag more that is looked at. -/
def lagStep (x y : List Int) (best : Int × Int) (lag : Int) : Int × Int := if best.2 < corr x y lag then (lag, corr x y lag) else best
/-- So many lags more, from one on, both ways. -/
def lagFrom (x y : List Int) : Nat → Nat → Int × Int → Int × Int
  | _, 0, best => best
  | s, n + 1, best => lagFrom x y (s + 1) n (lagStep x y (lagStep x y best (-(s : Int))) (s : Int))
def lagOf (x y : List Int) (most : Nat) : Int := (lagFrom x y 1 most (0, corr x y 0)).1

theorem corr_bound {x y : List Int} (hx : Small x) (hy : Small y) (lag : Int) : -268173376 ≤ corr x y lag ∧ corr x y lag ≤ 268173376 := by
  have := corrTo_bound hx hy lag 64
  unfold corr
  omega

/-- What LagOf returns. -/
def lagRes (xs ys : List Nat) (m : Int) : Int × Int :=
  if firstOf [(firstErr xs 0).2, (firstErr ys 0).2] = 0 then (if inB m 0 32 = true then (lagOf (nums xs) (nums ys) m.toNat, 0) else (0, 2)) else (0, firstOf [(firstErr xs 0).2, (firstErr ys 0).2])

/-- The lag of a place of the two. -/
def pick2 (k i : Nat) : Int := if i = 0 then -(k : Int) else (k : Int)
theorem i83a (a b : Int) (w : World) : (Instr.index 26 (.agg #[.int .i64 a, .int .i64 b]) (.int .i64 0)).run Try.prog w = .ok (.int .i64 a) w := by kernel_rfl
theorem i83b (a b : Int) (w : World) : (Instr.index 26 (.agg #[.int .i64 a, .int .i64 b]) (.int .i64 1)).run Try.prog w = .ok (.int .i64 b) w := by kernel_rfl
theorem index83 (k i : Nat) (hi : i < 2) (w : World) : (Instr.index 26 (.agg #[.int .i64 (-(k : Int)), .int .i64 (k : Int)]) (.int .i64 (i : Int))).run Try.prog w = .ok (.int .i64 (pick2 k i)) w := by
  have h : i = 0 ∨ i = 1 := by omega
  rcases h with rfl | rfl
  · exact i83a _ _ _
  · exact i83b _ _ _
/-- After i of the two. -/
def lagTwo (x y : List Int) (best : Int × Int) (k : Nat) : Nat → Int × Int
  | 0 => best
  | i + 1 => lagStep x y (lagTwo x y best k i) (pick2 k i)
theorem lagFrom_step (x y : List Int) (s n : Nat) (best : Int × Int) : lagFrom x y s (n + 1) best = lagFrom x y (s + 1) n (lagTwo x y best s 2) := rfl

set_option maxRecDepth 100000 in
set_option maxHeartbeats 3200000 in
theorem LagOf_any (xs ys : List Nat) (m : Int) (w : World) (hl : xs.length = 64) (hl2 : ys.length = 64) :
    Calls Try.prog 56 #[.agg (trc xs), .agg (trc ys), .int .i64 m] w fun e w' => e = .returned (.tuple #[.int .i64 (lagRes xs ys m).1, .int .i64 (lagRes xs ys m).2]) ∧ Below w.heap.size w w' := by
  have HL := Lib.hid hl
  have HL2 := Lib.hid hl2
  clear hl hl2
  have kB := Kp.refl w
  go_enter Try.func56, Try.ntmps56
  go_wp2_with (first | ((with_reducible refine wlB (some 3) 38 (trc xs) ?_ ?_); rfl; intro g2 w2 l2 b2 k2; replace kB := kB.new l2 k2) | ((with_reducible refine wlB (some 4) 38 (trc ys) ?_ ?_); rfl; intro g3 w3 l3 b3 k3; replace kB := kB.new l3 k3; replace b2 := b2.past l3 k3))
  refine wp_region_held_drew (S := fun w' => Kp w3 w') (by kernel_rfl) (Kp.refl _).drew (fun hH => ?_)
  refine wpAnyH_take (i := 0) (v := .agg (trc xs)) rfl (by kernel_rfl) (by kernel_rfl) (by kernel_rfl) (fun _ _ _ h => h) (yl_load (by rfl) (by rfl) (by rfl) (fun w hk => b2.kept hk) (size_trc HL.out) row26) hH ?_
  refine wpAnyH_take (i := 2) (v := .agg (trc ys)) rfl (by kernel_rfl) (by kernel_rfl) (by kernel_rfl) (fun _ _ _ h => h) (yl_load (by rfl) (by rfl) (by rfl) (fun w hk => b3.kept hk) (size_trc HL2.out) row26) hH ?_
  refine wpAnyH_ready (rs := [1]) (by kernel_rfl) (by simp) ?_
  refine AllReadyH.cons rfl (fun K hK => ?_) AllReadyH.nil
  go_simp
  refine (traceErr_any xs _ HL.out).mono ?_
  rintro e w5 ⟨rfl, k5⟩
  refine hK.out _ _ (hH.call k5) (fun q5 => ?_)
  clear hK K
  refine wpAnyH_ready (rs := [3]) (by kernel_rfl) (by simp) ?_
  refine AllReadyH.cons rfl (fun K hK => ?_) AllReadyH.nil
  go_simp
  refine (traceErr_any ys _ HL2.out).mono ?_
  rintro e w6 ⟨rfl, k6⟩
  refine hK.out _ _ (Kp.call q5 k6) (fun q6 => ?_)
  clear hK K
  refine wpAnyH_ready (rs := [4]) (by kernel_rfl) (by simp) ?_
  refine AllReadyH.cons rfl (fun K hK => ?_) AllReadyH.nil
  go_simp
  refine hK.out _ _ (Kp.alloc q6 _) (fun q7 => ?_)
  clear hK K
  refine wpAnyH_ready (rs := [5]) (by kernel_rfl) (by simp) ?_
  refine AllReadyH.cons rfl (fun K hK => ?_) AllReadyH.nil
  go_simp
  refine (first_any _ 32 _ [(firstErr xs 0).2, (firstErr ys 0).2] 2 _ (by exact Blk.new _ _ _) rfl (by omega)).mono ?_
  rintro e w7 ⟨rfl, rfl⟩
  refine hK.out _ _ q7 (fun q8 => ?_)
  clear hK K
  refine wpAnyH_ready (rs := [6]) (by kernel_rfl) (by simp) ?_
  refine AllReadyH.cons rfl (fun K hK => ?_) AllReadyH.nil
  go_simp
  refine hK.out _ _ q8 (fun q9 => ?_)
  clear hK K
  refine wpAnyH_done (by kernel_rfl) ?_ _
  replace kB := kB.call q9
  replace b2 := b2.kept q9
  replace b3 := b3.kept q9
  clear hH q5 q6 q7 q8 q9 k5 k6
  by_cases he : firstOf [(firstErr xs 0).2, (firstErr ys 0).2] = 0
  · obtain ⟨e1, e2⟩ := firstOf_two he
    have HE := Lib.hid he
    have HR := Lib.hid (right_of e1)
    have HR2 := Lib.hid (right_of e2)
    have sx : Small (nums xs) := nums_range HL.out (right_of e1)
    have sy : Small (nums ys) := nums_range HL2.out (right_of e2)
    have HLK := Lib.hid (fun gx gy lag W hlo hhi bx by_ => like_any (nums xs) (nums ys) gx gy lag W (nums_length xs) (nums_length ys) sx sy hlo hhi bx by_)
    have HCB := Lib.hid (corr_bound sx sy)
    have HS := Lib.hid (show ∀ xs, (ints (nums xs)).size = 64 from fun xs => by rw [ints_size, nums_length])
    have HZ := Lib.hid (show (ints (List.replicate 64 0)).size = 64 by rw [ints_size]; simp)
    rw [he]
    clear he e1 e2 sx sy
    by_cases hm : 0 ≤ m ∧ m ≤ 32
    · have HM := Lib.hid (inB_true.2 hm)
      have HF := Lib.hid (show lagRes xs ys m = (lagOf (nums xs) (nums ys) m.toNat, 0) by unfold lagRes; rw [if_pos HE.out, if_pos HM.out])
      obtain ⟨hm0, hm1⟩ := hm
      go_wp2_with (first | (go_at_call 60; refine (within_any _ _ _ _).mono ?_; rintro e w' ⟨rfl, rfl⟩; rw [HM.out]) | (go_at_call_of 66 (Value.pointer (some ⟨g2, 0, none⟩)); refine (numbersOf_any _ xs _ HL.out b2 HR.out).mono ?_; rintro e w8 ⟨rfl, k8⟩; replace kB := kB.call k8; replace b3 := b3.kept k8) | (go_at_call_of 66 (Value.pointer (some ⟨g3, 0, none⟩)); refine (numbersOf_any _ ys _ HL2.out b3 HR2.out).mono ?_; rintro e w9 ⟨rfl, k9⟩; replace kB := kB.call k9) | ((with_reducible refine wlA (some 9) 123 (ints (List.replicate 64 0)) zero159 ?_); intro g9 w10 l10 b9 k10; have o9 := kB.own l10; replace kB := kB.new l10 k10) | ((with_reducible refine wlA (some 10) 123 (ints (List.replicate 64 0)) zero159 ?_); intro g10 w11 l11 b10 k11; have o10 := kB.own l11; have n910 := Nat.lt_of_lt_of_le b9.lt l11; replace kB := kB.new l11 k11; replace b9 := b9.past l11 k11) | ((with_reducible refine wlS 123 (.tmp 9) (.tmp 30) b9 HZ.out (HS.out xs) row159 (ints_one _) ?_ ?_ ?_); rfl; rfl; intro w12 c9 k12; replace kB := kB.turn o9 k12; replace b10 := k12.blk b10 (Nat.ne_of_gt n910)) | ((with_reducible refine wlS 123 (.tmp 10) (.tmp 31) b10 HZ.out (HS.out ys) row159 (ints_one _) ?_ ?_ ?_); rfl; rfl; intro w13 c10 k13; replace kB := kB.turn o10 k13; replace c9 := k13.blk c9 (Nat.ne_of_lt n910)))
      refine (HLK.out _ _ _ _ (by omega) (by omega) c9 c10).mono ?_
      rintro e w14 ⟨rfl, rfl⟩
      obtain ⟨mn, rfl⟩ := Int.eq_ofNat_of_zero_le hm0
      go_wp2
      go_loop [12, 13, 14] (fun b g a => ∃ (k : Nat) (best : Int × Int), 1 ≤ k ∧ k ≤ mn + 1 ∧ a = .int .i64 k ∧ b = .int .i64 best.1 ∧ g = .int .i64 best.2 ∧ Hid (lagOf (nums xs) (nums ys) mn = (lagFrom (nums xs) (nums ys) k (mn + 1 - k) best).1)) (fun _ _ a => mn + 1 - (intOf a).toNat)
      case atStart => exact ⟨1, (0, corr (nums xs) (nums ys) 0), by omega, by omega, rfl, rfl, rfl, rfl⟩
      case round =>
        obtain ⟨k, ⟨bt, bs⟩, hk1, hk2, rfl, rfl, rfl, HG⟩ := hrel
        by_cases hlt : k ≤ mn
        · have hst : lagOf (nums xs) (nums ys) mn = (lagFrom (nums xs) (nums ys) (k + 1) (mn + 1 - (k + 1)) (lagTwo (nums xs) (nums ys) (bt, bs) k 2)).1 := by
            rw [HG.out, show mn + 1 - k = (mn + 1 - (k + 1)) + 1 by omega, lagFrom_step]
          have HG2 := Lib.hid hst
          clear hst HG
          go_wp2
          go_loop [44, 12, 13] (fun j b g => ∃ i : Nat, i ≤ 2 ∧ j = .int .i64 i ∧ b = .int .i64 (lagTwo (nums xs) (nums ys) (bt, bs) k i).1 ∧ g = .int .i64 (lagTwo (nums xs) (nums ys) (bt, bs) k i).2) (fun j _ _ => 2 - (intOf j).toNat)
          case atStart => exact ⟨0, Nat.zero_le _, rfl, rfl, rfl⟩
          case round =>
            obtain ⟨i, hi, rfl, rfl, rfl⟩ := hrel
            by_cases hli : i < 2
            · have hix := index83 k i hli
              have hpk : -32 ≤ pick2 k i ∧ pick2 k i ≤ 32 := by unfold pick2; split <;> omega
              have hst : lagTwo (nums xs) (nums ys) (bt, bs) k (i + 1) = lagStep (nums xs) (nums ys) (lagTwo (nums xs) (nums ys) (bt, bs) k i) (pick2 k i) := rfl
              unfold lagStep at hst
              by_cases hgt : (lagTwo (nums xs) (nums ys) (bt, bs) k i).2 < corr (nums xs) (nums ys) (pick2 k i)
              · rw [if_pos hgt] at hst
                have HST := Lib.hid hst
                clear hst
                go_wp2_with (go_at_call 96; refine (HLK.out _ _ _ _ hpk.1 hpk.2 c9 c10).mono ?_; rintro e w15 ⟨rfl, rfl⟩)
                go_round
                case rel => exact ⟨i + 1, by omega, by go_num, by rw [HST.out], by rw [HST.out]⟩
                case measure => simp [intOf]; omega
              · rw [if_neg hgt] at hst
                have HST := Lib.hid hst
                clear hst
                go_wp2_with (go_at_call 96; refine (HLK.out _ _ _ _ hpk.1 hpk.2 c9 c10).mono ?_; rintro e w15 ⟨rfl, rfl⟩)
                go_round
                case rel => exact ⟨i + 1, by omega, by go_num, by rw [HST.out], by rw [HST.out]⟩
                case measure => simp [intOf]; omega
            · obtain rfl : i = 2 := by omega
              go_wp2
              go_round
              case rel => exact ⟨k + 1, lagTwo (nums xs) (nums ys) (bt, bs) k 2, by omega, by omega, by go_num, rfl, rfl, HG2.out⟩
              case measure => simp [intOf]; omega
        · have hst : lagOf (nums xs) (nums ys) mn = bt := by rw [HG.out, show mn + 1 - k = 0 by omega]; rfl
          have HG2 := Lib.hid hst
          clear hst HG
          go_wp2
          go_ret2
          rw [HF.out, Int.toNat_natCast, HG2.out]
          exact ⟨rfl, kB⟩
    · have HM := Lib.hid (inB_false.2 hm)
      have HF := Lib.hid (show lagRes xs ys m = (0, 2) by unfold lagRes; rw [if_pos HE.out, HM.out]; rfl)
      clear hm
      go_wp2_with (first | (go_at_call 60; refine (within_any _ _ _ _).mono ?_; rintro e w' ⟨rfl, rfl⟩; rw [HM.out]))
      go_ret2
      rw [HF.out]
      exact ⟨rfl, kB⟩
  · have HF := Lib.hid (show lagRes xs ys m = (0, firstOf [(firstErr xs 0).2, (firstErr ys 0).2]) by unfold lagRes; rw [if_neg he])
    have he' : (firstOf [(firstErr xs 0).2, (firstErr ys 0).2] != 0) = true := by simpa using he
    clear he
    go_wp2
    go_ret2
    rw [HF.out]
    exact ⟨rfl, kB⟩

end Go.Proofs.Ytcijkniijomcjaa
