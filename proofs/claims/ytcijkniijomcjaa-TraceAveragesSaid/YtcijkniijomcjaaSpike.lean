/- Contracts of Mod, Spike, Sample, SameBits, SameSamples. -/
import Derived.Test.YtcijkniijomcjaaAnalytic
import Derived.Test.YtcijkniijomcjaaArith
namespace Go.Proofs.Ytcijkniijomcjaa
open Go.RowKit Go.Cpl

attribute [local go_sem high] run_max_mx run_min_mn
attribute [local go_sem] run_store_float

theorem zero26 : ((Try.prog.info? 38).bind (·.zero)).map (·.cells) = some (trc (List.replicate 64 0)) := by kernel_rfl
theorem trc_one (l : List Nat) : (trc l).all (·.oneCell') = true := by
  rw [Array.all_eq_true_iff_forall_mem]
  intro v hv
  simp only [trc, List.mem_toArray, List.mem_map] at hv
  obtain ⟨n, _, rfl⟩ := hv
  rfl
theorem trc_set (l : List Nat) (k x : Nat) : (trc l).setIfInBounds k (.float .f32 x) = trc (l.set k x) := by simp [trc]
theorem blk_fl {w : World} {g : Nat} {t : TypeId} {l : List Nat} (h : Blk w g t (trc l)) {k : Nat} (hk : k < l.length) : w.cell? ⟨g, k, none⟩ = some (.float .f32 (nth l k)) := by
  rw [h.cell, trc_get hk]

set_option maxHeartbeats 400000 in
theorem Mod_any (n by_ : Int) (w : World) (hb : 1 ≤ by_) (hB : by_ ≤ 1000000000000) :
    Calls Try.prog 49 #[.int .i64 n, .int .i64 by_] w fun e w' => e = .returned (.int .i64 (n % by_)) ∧ w = w' := by
  have h3 := Int.emod_nonneg n (b := by_) (by omega)
  have h4 := Int.emod_lt_of_pos n (b := by_) (by omega)
  by_cases hn : 0 ≤ n
  · go_enter Try.func49, Try.ntmps49
    go_wp2
    go_ret
    exact ⟨rfl, rfl⟩
  · have e := emod_of_neg (by omega : n < 0) hb
    have h5 := tmod_neg_bound (by omega : n < 0) hb
    by_cases ht : n.tmod by_ < 0
    · rw [if_pos ht] at e
      rw [e]
      clear e
      go_enter Try.func49, Try.ntmps49
      go_wp2
      go_ret
      exact ⟨rfl, rfl⟩
    · rw [if_neg ht] at e
      rw [e]
      clear e
      go_enter Try.func49, Try.ntmps49
      go_wp2
      go_ret
      exact ⟨rfl, rfl⟩

/-- The words of a spike. -/
def spike (at_ v : Int) : List Nat := (List.replicate 64 0).set (at_ % 64).toNat (floatOfInt .f32 (mx (-2047) (mn 2047 v)))
theorem spike_length (a v : Int) : (spike a v).length = 64 := by simp [spike]

set_option maxHeartbeats 400000 in
theorem Spike_any (a v : Int) (w : World) :
    Calls Try.prog 54 #[.int .i64 a, .int .i64 v] w fun e w' => e = .returned (.agg (trc (spike a v))) ∧ Below w.heap.size w w' := by
  have h3 := Int.emod_nonneg a (b := 64) (by omega)
  have h4 := Int.emod_lt_of_pos a (b := 64) (by omega)
  have HZ := Lib.hid (show (trc (List.replicate 64 0)).size = 64 by rw [trc_size]; simp)
  have HS := Lib.hid (show (trc (spike a v)).size = 64 by rw [trc_size, spike_length])
  have HB5 := Lib.hid (show ∀ (W : World) (g : Nat), Blk W g 38 (trc (List.replicate 64 0)) → Blk (W.setCell ⟨g, (a % 64).toNat, none⟩ (.float .f32 (floatOfInt .f32 (mx (-2047) (mn 2047 v))))) g 38 (trc (spike a v)) from fun W g hb => by
    have := hb.set_ (a % 64).toNat (.float .f32 (floatOfInt .f32 (mx (-2047) (mn 2047 v))))
    rw [trc_set] at this
    exact this)
  have kB := Kp.refl w
  go_enter Try.func54, Try.ntmps54
  go_wp2_with (first | ((with_reducible refine wlA (some 4) 38 (trc (List.replicate 64 0)) zero26 ?_); intro g4 w4 l4 b4 k4; have o4 := kB.own l4; replace kB := kB.new l4 k4) | ((with_reducible refine wlA (some 5) 38 (trc (List.replicate 64 0)) zero26 ?_); intro g5 w5 l5 b5 k5; have o5 := kB.own l5; have n45 := Nat.lt_of_lt_of_le b4.lt l5; replace kB := kB.new l5 k5; replace b4 := b4.past l5 k5) | (go_at_call 49; refine (Mod_any _ _ _ (by omega) (by omega)).mono ?_; rintro e w6 ⟨rfl, rfl⟩; have c5 := blk_fl b5 (k := (a % 64).toNat) (by simp; omega); have z5 := b5.free (a % 64).toNat) | ((with_reducible refine wlL (some 13) 38 ((HB5.out _ _ b5)) HS.out row26 ?_ ?_); rfl) | ((with_reducible refine wlS 38 (.tmp 4) (.tmp 13) (b4.far (Nat.ne_of_lt n45) _) HZ.out HS.out row26 (trc_one _) ?_ ?_ ?_); rfl; rfl; intro w9 b9 k9; replace kB := (kB.setCell o5 _ _).turn o4 k9))
  exact bodyPost_ret (res_cell rfl _ rfl b9 HS.out row26) rfl ⟨rfl, kB⟩

set_option maxHeartbeats 400000 in
theorem Sample_any (x y : Int) (w : World) :
    Calls Try.prog 59 #[.int .i64 x, .int .i64 y] w fun e w' => e = .returned (.complex .f32 (floatOfInt .f32 (mx (-10000) (mn 10000 x))) (floatOfInt .f32 (mx (-10000) (mn 10000 y)))) ∧ w = w' := by
  go_enter Try.func59, Try.ntmps59
  go_wp2
  go_ret
  exact ⟨rfl, rfl⟩

theorem f64bits (b : Nat) (w : World) : (callFunc 109 #[.float .f64 b]).run Try.prog w = .ok (.value (.int .u64 b)) w := by kernel_rfl

set_option maxHeartbeats 400000 in
theorem SameBits_same (x y : Nat) (w : World) :
    Calls Try.prog 100 #[.complex .f64 x y, .complex .f64 x y] w fun e w' => e = .returned (.bool true) ∧ w' = w := by
  have hb := f64bits
  go_enter Try.func100, Try.ntmps100
  go_wp2
  go_ret
  exact ⟨by simp, rfl⟩

/-- A float32 word, widened. -/
def w64 (x : Nat) : Nat := (floatToFloatBits .f32 x .f64).getD 0
theorem w64_some {x : Nat} {v : Int} (h : fv x = some v) : floatToFloatBits .f32 x .f64 = some (w64 x) := by
  cases hd : Ieee.single.read x with
  | infinity _ => unfold fv at h; rw [hd] at h; simp [sc] at h
  | nan _ _ => unfold fv at h; rw [hd] at h; simp [sc] at h
  | number s m i =>
    obtain ⟨hm, h1, h2⟩ := shape32 hd
    obtain ⟨_, hni⟩ := widen s m i hm h1 h2
    have hc : floatToFloatBits .f32 x .f64 = some (FloatKind.encode .f64 (.number s m i)) := by
      unfold floatToFloatBits
      rw [if_neg (by decide), show FloatKind.f32.decode x = .number s m i from hd]
      simp only
      rw [if_neg]
      show ¬ (Ieee.double.read (FloatKind.encode .f64 (.number s m i))).isInfinity = true
      rw [hni]; simp
    unfold w64; rw [hc]; rfl
theorem run_wide (a b : Int) (ha : a.natAbs < 16777216) (hb : b.natAbs < 16777216) (w : World) :
    (convert 103 158 (.complex .f32 (floatOfInt .f32 a) (floatOfInt .f32 b))).run Try.prog w = .ok (.complex .f64 (w64 (floatOfInt .f32 a)) (w64 (floatOfInt .f32 b))) w :=
  run_convert_complex w 103 158 .f32 .f64 _ _ _ _ (by rw [Try.underlying103]; rfl) Try.underlying158 (by
    unfold cConvBits
    rw [w64_some (fv_num a ha), w64_some (fv_num b hb)]; rfl)

/-- A pair of a list (kept shut to the walk). -/
def nthP (l : List (Int × Int)) (k : Nat) : Int × Int := l.getD k (0, 0)
theorem nthP_eq {l : List (Int × Int)} {k : Nat} (h : k < l.length) : nthP l k = l[k] := by
  simp [nthP, List.getD_eq_getElem?_getD, List.getElem?_eq_getElem h]
/-- A slice of samples that reads as a list of pairs. -/
def CReads (w : World) (A : Option Addr) (l : List (Int × Int)) : Prop :=
  ∀ k, k < l.length → ∃ ad, A = some ad ∧ w.cell? (ad.add k) = some (.complex .f32 (floatOfInt .f32 (nthP l k).1) (floatOfInt .f32 (nthP l k).2))

set_option maxHeartbeats 800000 in
theorem SameSamples_same (A B : Option Addr) (ca cb n : Nat) (l : List (Int × Int)) (w : World) (hn : l.length = n) (hn2 : n ≤ 1000) (hA : CReads w A l) (hB : CReads w B l) (hs : ∀ k, (nthP l k).1.natAbs < 16777216 ∧ (nthP l k).2.natAbs < 16777216) :
    Calls Try.prog 58 #[.slice A n ca, .slice B n cb] w fun e w' => e = .returned (.bool true) ∧ ∃ m, w' = w.drewN m := by
  have HN := Lib.hid hn
  have HA := Lib.hid hA
  have HB := Lib.hid hB
  have HS := Lib.hid hs
  have hne : ((n : Int) != (n : Int)) = false := by simp
  clear hn hA hB hs
  go_enter Try.func58, Try.ntmps58
  go_wp2
  go_loopw [5] (fun i wr => ∃ k : Nat, k ≤ n ∧ i = .int .i64 k ∧ Hid (∃ m, wr = w.drewN m)) (fun i _ => n - (intOf i).toNat)
  case atStart => exact ⟨0, Nat.zero_le _, rfl, 0, rfl⟩
  case round =>
    obtain ⟨k, hk, rfl, HM⟩ := hrel
    by_cases hlt : k < n
    · have hA : CReads wr A l := by obtain ⟨m, rfl⟩ := HM.out; exact HA.out
      have hB : CReads wr B l := by obtain ⟨m, rfl⟩ := HM.out; exact HB.out
      obtain ⟨ad, rfl, hc⟩ := hA k (by rw [HN.out]; exact hlt)
      obtain ⟨bd, rfl, hd⟩ := hB k (by rw [HN.out]; exact hlt)
      obtain ⟨s1, s2⟩ := HS.out k
      have hcv := run_wide _ _ s1 s2
      clear hA hB
      generalize (nthP l k).1 = p1 at *
      generalize (nthP l k).2 = p2 at *
      have i0 : (0 : Int) ≤ (k : Int) := by omega
      have i1 : (k : Int) < (n : Int) := by omega
      go_wp2
      go_quiet ((go_at_call 100; exact Calls.quiet_of_same (SameBits_same _ _ _)))
      go_wp2
      go_roundw
      case rel => exact ⟨k + 1, by omega, by go_num, by obtain ⟨m, rfl⟩ := HM.out; exact ⟨m + nq, by simp⟩⟩
      case measure => simp [intOf]; omega
    · go_wp2
      go_ret
      exact ⟨rfl, HM.out⟩

end Go.Proofs.Ytcijkniijomcjaa
