/- The walk of TraceChecks: it returns true. -/
import Derived.Test.YtfooefkgdcjlhaaAwake
namespace Go.Proofs.Ytfooefkgdcjlhaa
open Go.RowKit Go.Cpl

attribute [local go_sem] run_store_float

/-- The reading of a slice that was there at first stays. -/
theorem FReads.kept {w w' : World} {A : Option Addr} {xs : List Nat} (h : FReads w A xs) (hk : Kp w w') : FReads w' A xs := by
  intro k hk'
  obtain ⟨ad, rfl, hc⟩ := h k hk'
  exact ⟨ad, rfl, by rw [hk.cell (p := ad.add k) (block_lt_of_cell hc)]; exact hc⟩

set_option maxRecDepth 20000 in
set_option maxHeartbeats 1600000 in
theorem TraceChecks_any (A : Option Addr) (cap n : Nat) (xs : List Nat) (w : World) (hn : xs.length = n) (hr : FReads w A xs) :
    Calls Try.prog 3 #[.slice A n cap] w fun e w' => e = .returned (.bool true) ∧ Below w.heap.size w w' := by
  have HN := Lib.hid hn
  have HR := Lib.hid hr
  clear hn hr
  have kB := Kp.refl w
  have HZ := Lib.hid (show trc (List.replicate 64 0) = trc (done 0 (nth xs) 64 0) by rw [done_zero])
  have HD := Lib.hid (show ∀ k, (done 0 (nth xs) 64 k).length = 64 from fun k => done_length _ _ _ _)
  go_enter Try.func3, Try.ntmps3
  go_wp2_with (first | (go_at_call 13; refine (awake_any _).mono ?_; rintro e w1 ⟨rfl, k1⟩; replace kB := kB.call k1) | ((with_reducible refine wlA (some 3) 26 (trc (List.replicate 64 0)) zero26 ?_); intro g3 w3 l3 b3 k3; have o3 := kB.own l3; replace kB := kB.new l3 k3))
  go_loopw [4] (fun i wr => ∃ k : Nat, k ≤ n ∧ k ≤ 64 ∧ i = .int .i64 k ∧ Blk wr g3 26 (trc (done 0 (nth xs) 64 k)) ∧ Kp w wr) (fun i _ => 64 - (intOf i).toNat)
  case atStart => exact ⟨0, Nat.zero_le _, Nat.zero_le _, rfl, by rw [← HZ.out]; exact b3, kB⟩
  case round =>
    clear b3 kB
    obtain ⟨k, hk, hk2, rfl, b3, kB⟩ := hrel
    by_cases hlt : k < n ∧ k < 64
    · obtain ⟨h1, h2⟩ := hlt
      obtain ⟨ad, rfl, hc⟩ := (HR.out.kept kB) k (by rw [HN.out]; exact h1)
      have hs := blk_fl b3 (k := k) (by rw [HD.out]; exact h2)
      have hz := b3.free k
      generalize nth (done 0 (nth xs) 64 k) k = old at hs
      have i0 : (0 : Int) ≤ (k : Int) := by omega
      have i1 : (k : Int) < 64 := by omega
      have i2 : (k : Int) < (n : Int) := by omega
      go_wp2
      go_roundw
      case rel =>
        refine ⟨k + 1, by omega, by omega, by go_num, ?_, kB.setCell o3 _ _⟩
        have h3 := b3.set_ k (.float .f32 (nth xs k))
        rw [trc_set, done_set] at h3
        exact h3
      case measure => simp [intOf]; omega
    · have hge : decide (k < n) = false ∨ decide (k < 64) = false := by
        simp only [decide_eq_false_iff_not]; omega
      have HC := Lib.hid (show (trc (done 0 (nth xs) 64 k)).size = 64 by rw [trc_size, HD.out])
      by_cases h1 : k < n
      · have h2 : ¬ k < 64 := fun h => hlt ⟨h1, h⟩
        clear hlt hge
        go_wp2_with (first | ((with_reducible refine wlL (some 28) 26 b3 HC.out row26 ?_ ?_); rfl) | (go_at_call 14; refine (CheckTrace_any _ _ (HD.out k)).mono ?_; rintro e w4 ⟨rfl, k4⟩; replace kB := kB.call k4; replace b3 := b3.kept k4) | ((with_reducible refine wlL (some 33) 26 b3 HC.out row26 ?_ ?_); rfl) | (go_at_call 15; refine (refCheckTrace_any _ _ (HD.out k)).mono ?_; rintro e w5 ⟨rfl, k5⟩; replace kB := kB.call k5))
        go_ret
        exact ⟨by simp, kB⟩
      · clear hlt hge
        go_wp2_with (first | ((with_reducible refine wlL (some 28) 26 b3 HC.out row26 ?_ ?_); rfl) | (go_at_call 14; refine (CheckTrace_any _ _ (HD.out k)).mono ?_; rintro e w4 ⟨rfl, k4⟩; replace kB := kB.call k4; replace b3 := b3.kept k4) | ((with_reducible refine wlL (some 33) 26 b3 HC.out row26 ?_ ?_); rfl) | (go_at_call 15; refine (refCheckTrace_any _ _ (HD.out k)).mono ?_; rintro e w5 ⟨rfl, k5⟩; replace kB := kB.call k5))
        go_ret
        exact ⟨by simp, kB⟩

end Go.Proofs.Ytfooefkgdcjlhaa
