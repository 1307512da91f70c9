/- awake: the document's examples hold. -/
import Derived.Test.YtcijkniijomcjaaLag
import Derived.Test.YtcijkniijomcjaaTimes
import Derived.Test.YtcijkniijomcjaaSpike
namespace Go.Proofs.Ytcijkniijomcjaa
open Go.RowKit Go.Cpl

def s1 : List Nat := spike 10 100
def s2 : List Nat := spike 13 50
theorem s1_err : (firstErr s1 0).2 = 0 := by kernel_rfl
theorem s1_peak : peakOf (nums s1) 0 60 = (7, 10000) := by kernel_rfl
theorem s1_lag : lagRes s1 s2 5 = (3, 0) := by kernel_rfl
theorem s1_parts : nthP (partsL (nums s1)) 9 = (0, 100) ∧ nthP (partsL (nums s1)) 10 = (100, 0) := ⟨by kernel_rfl, by kernel_rfl⟩
theorem ex_gate : gateRes 1000 400 1200 2200 = ((1, 3), 0) := by kernel_rfl

theorem c_sp1 (W : World) : Calls Try.prog 54 #[.int .i64 10, .int .i64 100] W fun e w' => e = .returned (.agg (trc s1)) ∧ Below W.heap.size W w' := Spike_any 10 100 W
theorem c_sp2 (W : World) : Calls Try.prog 54 #[.int .i64 13, .int .i64 50] W fun e w' => e = .returned (.agg (trc s2)) ∧ Below W.heap.size W w' := Spike_any 13 50 W
theorem s1_len : s1.length = 64 := spike_length _ _
theorem s2_len : s2.length = 64 := spike_length _ _
theorem c_peak (W : World) : Calls Try.prog 53 #[.agg (trc s1), .agg #[.int .i64 0, .int .i64 60]] W fun e w' => e = .returned (.tuple #[.agg #[.int .i64 7, .int .i64 10000], .int .i64 0]) ∧ Below W.heap.size W w' := by
  have h := PeakIn_right s1 0 60 W s1_len s1_err (by omega) (by omega)
  rw [s1_peak] at h
  exact h
theorem c_an (W : World) : Calls Try.prog 55 #[.agg (trc s1)] W fun e w' => e = .returned (.tuple #[.agg (cxs (partsL (nums s1))), .int .i64 0]) ∧ Below W.heap.size W w' := Analytic_right s1 W s1_len s1_err
theorem c_lag (W : World) : Calls Try.prog 56 #[.agg (trc s1), .agg (trc s2), .int .i64 5] W fun e w' => e = .returned (.tuple #[.int .i64 3, .int .i64 0]) ∧ Below W.heap.size W w' := by
  have h := LagOf_any s1 s2 5 W s1_len s2_len
  rw [s1_lag] at h
  exact h
theorem c_gate (W : World) : Calls Try.prog 57 #[.agg #[.int .i64 1000, .int .i64 400], .agg #[.int .i64 1200, .int .i64 2200]] W fun e w' => e = .returned (.tuple #[.agg #[.int .i64 1, .int .i64 3], .int .i64 0]) ∧ Below W.heap.size W w' := by
  have h := GateOf_any 1000 400 1200 2200 W
  rw [ex_gate] at h
  exact h

theorem c_sa (W : World) : Calls Try.prog 59 #[.int .i64 0, .int .i64 100] W fun e w' => e = .returned (.complex .f32 (floatOfInt .f32 0) (floatOfInt .f32 100)) ∧ W = w' := Sample_any 0 100 W
theorem c_sb (W : World) : Calls Try.prog 59 #[.int .i64 100, .int .i64 0] W fun e w' => e = .returned (.complex .f32 (floatOfInt .f32 100) (floatOfInt .f32 0)) ∧ W = w' := Sample_any 100 0 W
theorem creads_mid {W : World} {g o : Nat} {t : TypeId} {L l : List (Int × Int)} (h : Blk W g t (cxs L)) (ho : ∀ k, k < l.length → o + k < L.length ∧ nthP L (o + k) = nthP l k) : CReads W (some ⟨g, o, none⟩) l := by
  intro k hk
  obtain ⟨h1, h2⟩ := ho k hk
  refine ⟨_, rfl, ?_⟩
  rw [Addr.add_mid, h.cell, ← h2, nthP_eq h1]
  simp [cxs, h1]
theorem c_ss (W : World) (g gb : Nat) (h : Blk W g 104 (cxs (partsL (nums s1)))) (hb : Blk W gb 103 (cxs [(0, 100), (100, 0)])) :
    Calls Try.prog 58 #[.slice (some ⟨g, 9, none⟩) 2 52, .slice (some ⟨gb, 0, none⟩) 2 2] W fun e w' => e = .returned (.bool true) ∧ ∃ m, w' = W.drewN m := by
  refine SameSamples_same _ _ _ _ 2 [(0, 100), (100, 0)] W rfl (by omega) (creads_mid h ?_) (creads_mid hb ?_) ?_
  · intro k hk
    have hk' : k = 0 ∨ k = 1 := by simp at hk; omega
    rcases hk' with rfl | rfl
    · exact ⟨by rw [partsL_length]; omega, s1_parts.1⟩
    · exact ⟨by rw [partsL_length]; omega, s1_parts.2⟩
  · intro k hk
    exact ⟨by omega, by rw [Nat.zero_add]⟩
  · intro k
    match k with
    | 0 => decide
    | 1 => decide
    | k + 2 => simp [nthP]

theorem eq53 (w : World) : (binOp .eql 97 (.agg #[.int .i64 7, .int .i64 10000]) (.agg #[.int .i64 7, .int .i64 10000])).run Try.prog w = .ok (.bool true) w := by kernel_rfl
theorem eq51 (w : World) : (binOp .eql 102 (.agg #[.int .i64 1, .int .i64 3]) (.agg #[.int .i64 1, .int .i64 3])).run Try.prog w = .ok (.bool true) w := by kernel_rfl

theorem fin_ret {P : Program} {Q : Exit → Act → World → Prop} {a : Act} {w : World} (h : Q .ret a w) : Code.wp P Code.ret Q a w := wp_ret h
set_option maxRecDepth 100000 in
set_option maxHeartbeats 3200000 in
theorem awake_any (w : World) : Calls Try.prog 11 #[] w fun e w' => e = .returned (.bool true) ∧ Below w.heap.size w w' := by
  have HZ := Lib.hid (size_parts (nums s1))
  have kB := Kp.refl w
  go_enter Try.func11, Try.ntmps11
  go_wp2_with (first | (go_at_call_of 54 (Value.int .i64 10); refine (c_sp1 _).mono ?_; rintro e w1 ⟨rfl, k1⟩; replace kB := kB.call k1; first | (replace b1 := b1.kept k1; first | replace b3 := b3.kept k1 | skip) | skip) | (go_at_call_of 54 (Value.int .i64 13); refine (c_sp2 _).mono ?_; rintro e w2 ⟨rfl, k2⟩; replace kB := kB.call k2; replace b1 := b1.kept k2; replace b3 := b3.kept k2) | (go_at_call 53; refine (c_peak _).mono ?_; rintro e w3 ⟨rfl, k3⟩; replace kB := kB.call k3) | ((with_reducible refine wlA (some 1) 97 #[.int .i64 0, .int .i64 0] zero53 ?_); intro g1 w4 l4 b1 k4; have o1 := kB.own l4; replace kB := kB.new l4 k4) | ((with_reducible refine wlS 97 (.tmp 1) (.tmp 13) b1 (size2 0 0) (size2 7 10000) row53 (one2 _ _) ?_ ?_ ?_); rfl; rfl; clear b1; intro w5 b1 k5; replace kB := kB.turn o1 k5))
  go_wp2_with (first | (go_at_call 55; refine (c_an _).mono ?_; rintro e w6 ⟨rfl, k6⟩; replace kB := kB.call k6; replace b1 := b1.kept k6) | ((with_reducible refine wlA (some 3) 104 zeros36 zero36 ?_); intro g3 w7 l7 b3 k7; have o3 := kB.own l7; have n13 := Nat.lt_of_lt_of_le b1.lt l7; replace kB := kB.new l7 k7; replace b1 := b1.past l7 k7) | ((with_reducible refine wlS 104 (.tmp 3) (.tmp 18) b3 size36 HZ.out row36 (cxs_one _) ?_ ?_ ?_); rfl; rfl; clear b3; intro w8 b3 k8; replace kB := kB.turn o3 k8; replace b1 := k8.blk b1 (Nat.ne_of_lt n13)))
  go_wp2_with (first | (go_at_call_of 54 (Value.int .i64 10); refine (c_sp1 _).mono ?_; rintro e w9 ⟨rfl, k9⟩; replace kB := kB.call k9; replace b1 := b1.kept k9; replace b3 := b3.kept k9) | (go_at_call_of 54 (Value.int .i64 13); refine (c_sp2 _).mono ?_; rintro e w10 ⟨rfl, k10⟩; replace kB := kB.call k10; replace b1 := b1.kept k10; replace b3 := b3.kept k10) | (go_at_call 56; refine (c_lag _).mono ?_; rintro e w11 ⟨rfl, k11⟩; replace kB := kB.call k11; replace b1 := b1.kept k11; replace b3 := b3.kept k11) | (go_at_call 57; refine (c_gate _).mono ?_; rintro e w12 ⟨rfl, k12⟩; replace kB := kB.call k12; replace b1 := b1.kept k12; replace b3 := b3.kept k12) | ((with_reducible refine wlA (some 7) 102 #[.int .i64 0, .int .i64 0] zero51 ?_); intro g7 w13 l13 b7 k13; have o7 := kB.own l13; have n17 := Nat.lt_of_lt_of_le b1.lt l13; have n37 := Nat.lt_of_lt_of_le b3.lt l13; replace kB := kB.new l13 k13; replace b1 := b1.past l13 k13; replace b3 := b3.past l13 k13) | ((with_reducible refine wlS 102 (.tmp 7) (.tmp 30) b7 (size2 0 0) (size2 1 3) row51 (one2 _ _) ?_ ?_ ?_); rfl; rfl; clear b7; intro w14 b7 k14; replace kB := kB.turn o7 k14; replace b1 := k14.blk b1 (Nat.ne_of_lt n17); replace b3 := k14.blk b3 (Nat.ne_of_lt n37)))
  refine wp_region_held_drew (S := fun w' => Kp w14 w') (by kernel_rfl) (Kp.refl _).drew (fun hH => ?_)
  refine wpAnyH_take (i := 0) (v := .int .i64 0) rfl (by kernel_rfl) (by kernel_rfl) (by kernel_rfl) (fun _ _ _ h => h) (Or.inl ⟨by kernel_rfl, fun _ _ => by kernel_rfl⟩) hH ?_
  refine wpAnyH_take (i := 1) (v := .bool true) rfl (by kernel_rfl) (by kernel_rfl) (by kernel_rfl) (fun _ _ _ h => h) (Or.inl ⟨by kernel_rfl, fun _ _ => by kernel_rfl⟩) hH ?_
  refine wpAnyH_take (i := 2) (v := .bool true) rfl (by kernel_rfl) (by kernel_rfl) (by kernel_rfl) (fun _ _ _ h => h) (Or.inl ⟨by kernel_rfl, fun _ _ => by kernel_rfl⟩) hH ?_
  refine wpAnyH_take (i := 3) (v := .agg #[.int .i64 7, .int .i64 10000]) rfl (by kernel_rfl) (by kernel_rfl) (by kernel_rfl) (fun _ _ _ h => h) (yl_load (by kernel_rfl) (by rfl) (by kernel_rfl) (fun w hk => b1.kept hk) (size2 7 10000) row53) hH ?_
  refine wpAnyH_take (i := 4) (v := .agg #[.int .i64 7, .int .i64 10000]) rfl (by kernel_rfl) (by kernel_rfl) (by kernel_rfl) (fun _ _ _ h => h) (Or.inl ⟨by kernel_rfl, fun _ _ => by kernel_rfl⟩) hH ?_
  refine wpAnyH_take (i := 5) (v := .bool true) rfl (by kernel_rfl) (by kernel_rfl) (by kernel_rfl) (fun _ _ _ h => h) (Or.inl ⟨by kernel_rfl, fun _ _ => by kernel_rfl⟩) hH ?_
  refine wpAnyH_take (i := 6) (v := .bool true) rfl (by kernel_rfl) (by kernel_rfl) (by kernel_rfl) (fun _ _ _ h => h) (Or.inl ⟨by kernel_rfl, fun _ _ => by kernel_rfl⟩) hH ?_
  refine wpAnyH_take (i := 7) (v := .bool true) rfl (by kernel_rfl) (by kernel_rfl) (by kernel_rfl) (fun _ _ _ h => h) (Or.inl ⟨by kernel_rfl, fun _ _ => by kernel_rfl⟩) hH ?_
  refine wpAnyH_take (i := 8) (v := .int .i64 0) rfl (by kernel_rfl) (by kernel_rfl) (by kernel_rfl) (fun _ _ _ h => h) (Or.inl ⟨by kernel_rfl, fun _ _ => by kernel_rfl⟩) hH ?_
  refine wpAnyH_take (i := 9) (v := .bool true) rfl (by kernel_rfl) (by kernel_rfl) (by kernel_rfl) (fun _ _ _ h => h) (Or.inl ⟨by kernel_rfl, fun _ _ => by kernel_rfl⟩) hH ?_
  refine wpAnyH_take (i := 10) (v := .bool true) rfl (by kernel_rfl) (by kernel_rfl) (by kernel_rfl) (fun _ _ _ h => h) (Or.inl ⟨by kernel_rfl, fun _ _ => by kernel_rfl⟩) hH ?_
  refine wpAnyH_take (i := 11) (v := .bool true) rfl (by kernel_rfl) (by kernel_rfl) (by kernel_rfl) (fun _ _ _ h => h) (Or.inl ⟨by kernel_rfl, fun _ _ => by kernel_rfl⟩) hH ?_
  refine wpAnyH_take (i := 12) (v := .slice (some ⟨g3, 9, none⟩) 2 52) rfl (by kernel_rfl) (by kernel_rfl) (by kernel_rfl) (fun _ _ _ h => h) (Or.inl ⟨by kernel_rfl, fun _ _ => by kernel_rfl⟩) hH ?_
  refine wpAnyH_ready (rs := [13]) (by kernel_rfl) (by simp) ?_
  refine AllReadyH.cons rfl (fun K hK => ?_) AllReadyH.nil
  go_simp
  refine (c_sa _).mono ?_
  rintro e w15 ⟨rfl, rfl⟩
  refine hK.out _ _ hH (fun h13 => ?_)
  clear hK K
  refine wpAnyH_ready (rs := [14]) (by kernel_rfl) (by simp) ?_
  refine AllReadyH.cons rfl (fun K hK => ?_) AllReadyH.nil
  go_simp
  refine (c_sb _).mono ?_
  rintro e w16 ⟨rfl, rfl⟩
  refine hK.out _ _ h13 (fun h14 => ?_)
  clear hK K
  refine wpAnyH_ready (rs := [15]) (by kernel_rfl) (by simp) ?_
  refine AllReadyH.cons rfl (fun K hK => ?_) AllReadyH.nil
  go_simp
  refine hK.out _ _ (Kp.alloc h14 _) (fun h15 => ?_)
  clear hK K
  refine wpAnyH_ready (rs := [16]) (by kernel_rfl) (by simp) ?_
  refine AllReadyH.cons rfl (fun K hK => ?_) AllReadyH.nil
  go_simp
  refine (c_ss _ _ _ ?_ ?_).mono ?_
  · exact b3.kept h15
  · exact (Blk.new _ _ _)
  rintro e w17 ⟨rfl, m17, rfl⟩
  refine hK.out _ _ (Kp.drewN h15 _) (fun h16 => ?_)
  clear hK K
  refine wpAnyH_take (i := 17) (v := .bool true) rfl (by kernel_rfl) (by kernel_rfl) (by kernel_rfl) (fun _ _ _ h => h) (Or.inl ⟨by kernel_rfl, fun _ _ => by kernel_rfl⟩) h16 ?_
  refine wpAnyH_take (i := 18) (v := .bool true) rfl (by kernel_rfl) (by kernel_rfl) (by kernel_rfl) (fun _ _ _ h => h) (Or.inl ⟨by kernel_rfl, fun _ _ => by kernel_rfl⟩) h16 ?_
  refine wpAnyH_take (i := 19) (v := .int .i64 0) rfl (by kernel_rfl) (by kernel_rfl) (by kernel_rfl) (fun _ _ _ h => h) (Or.inl ⟨by kernel_rfl, fun _ _ => by kernel_rfl⟩) h16 ?_
  refine wpAnyH_take (i := 20) (v := .bool true) rfl (by kernel_rfl) (by kernel_rfl) (by kernel_rfl) (fun _ _ _ h => h) (Or.inl ⟨by kernel_rfl, fun _ _ => by kernel_rfl⟩) h16 ?_
  refine wpAnyH_take (i := 21) (v := .bool true) rfl (by kernel_rfl) (by kernel_rfl) (by kernel_rfl) (fun _ _ _ h => h) (Or.inl ⟨by kernel_rfl, fun _ _ => by kernel_rfl⟩) h16 ?_
  refine wpAnyH_take (i := 22) (v := .bool true) rfl (by kernel_rfl) (by kernel_rfl) (by kernel_rfl) (fun _ _ _ h => h) (Or.inl ⟨by kernel_rfl, fun _ _ => by kernel_rfl⟩) h16 ?_
  refine wpAnyH_take (i := 23) (v := .int .i64 3) rfl (by kernel_rfl) (by kernel_rfl) (by kernel_rfl) (fun _ _ _ h => h) (Or.inl ⟨by kernel_rfl, fun _ _ => by kernel_rfl⟩) h16 ?_
  refine wpAnyH_take (i := 24) (v := .bool true) rfl (by kernel_rfl) (by kernel_rfl) (by kernel_rfl) (fun _ _ _ h => h) (Or.inl ⟨by kernel_rfl, fun _ _ => by kernel_rfl⟩) h16 ?_
  refine wpAnyH_take (i := 25) (v := .bool true) rfl (by kernel_rfl) (by kernel_rfl) (by kernel_rfl) (fun _ _ _ h => h) (Or.inl ⟨by kernel_rfl, fun _ _ => by kernel_rfl⟩) h16 ?_
  refine wpAnyH_take (i := 26) (v := .bool true) rfl (by kernel_rfl) (by kernel_rfl) (by kernel_rfl) (fun _ _ _ h => h) (Or.inl ⟨by kernel_rfl, fun _ _ => by kernel_rfl⟩) h16 ?_
  refine wpAnyH_take (i := 27) (v := .int .i64 0) rfl (by kernel_rfl) (by kernel_rfl) (by kernel_rfl) (fun _ _ _ h => h) (Or.inl ⟨by kernel_rfl, fun _ _ => by kernel_rfl⟩) h16 ?_
  refine wpAnyH_take (i := 28) (v := .bool true) rfl (by kernel_rfl) (by kernel_rfl) (by kernel_rfl) (fun _ _ _ h => h) (Or.inl ⟨by kernel_rfl, fun _ _ => by kernel_rfl⟩) h16 ?_
  refine wpAnyH_take (i := 29) (v := .bool true) rfl (by kernel_rfl) (by kernel_rfl) (by kernel_rfl) (fun _ _ _ h => h) (Or.inl ⟨by kernel_rfl, fun _ _ => by kernel_rfl⟩) h16 ?_
  refine wpAnyH_take (i := 30) (v := .bool true) rfl (by kernel_rfl) (by kernel_rfl) (by kernel_rfl) (fun _ _ _ h => h) (Or.inl ⟨by kernel_rfl, fun _ _ => by kernel_rfl⟩) h16 ?_
  refine wpAnyH_take (i := 31) (v := .agg #[.int .i64 1, .int .i64 3]) rfl (by kernel_rfl) (by kernel_rfl) (by kernel_rfl) (fun _ _ _ h => h) (yl_load (by kernel_rfl) (by rfl) (by kernel_rfl) (fun w hk => b7.kept hk) (size2 1 3) row51) h16 ?_
  refine wpAnyH_take (i := 32) (v := .agg #[.int .i64 1, .int .i64 3]) rfl (by kernel_rfl) (by kernel_rfl) (by kernel_rfl) (fun _ _ _ h => h) (Or.inl ⟨by kernel_rfl, fun _ _ => by kernel_rfl⟩) h16 ?_
  refine wpAnyH_take (i := 33) (v := .bool true) rfl (by kernel_rfl) (by kernel_rfl) (by kernel_rfl) (fun _ _ _ h => h) (Or.inl ⟨by kernel_rfl, fun _ _ => by kernel_rfl⟩) h16 ?_
  refine wpAnyH_take (i := 34) (v := .bool true) rfl (by kernel_rfl) (by kernel_rfl) (by kernel_rfl) (fun _ _ _ h => h) (Or.inl ⟨by kernel_rfl, fun _ _ => by kernel_rfl⟩) h16 ?_
  refine wpAnyH_take (i := 35) (v := .bool true) rfl (by kernel_rfl) (by kernel_rfl) (by kernel_rfl) (fun _ _ _ h => h) (Or.inl ⟨by kernel_rfl, fun _ _ => by kernel_rfl⟩) h16 ?_
  refine wpAnyH_done (by kernel_rfl) ?_ _
  rename_i Kz hKz
  show Kz _ _
  refine hKz _ _ ?_
  refine fin_ret ?_
  refine bodyPost_ret (v := .bool true) ?_ (by kernel_rfl) ⟨rfl, kB.call h16⟩
  kernel_rfl

end Go.Proofs.Ytcijkniijomcjaa
