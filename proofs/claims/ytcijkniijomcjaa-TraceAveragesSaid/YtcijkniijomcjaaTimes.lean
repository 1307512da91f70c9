/- Contracts of floor, rounded, Floor, Ceil, CheckSampling, timeErr, GateOf. -/
import Derived.Test.YtcijkniijomcjaaPeak
import Derived.Test.YtcijkniijomcjaaArith
namespace Go.Proofs.Ytcijkniijomcjaa
open Go.RowKit Go.Cpl

set_option maxHeartbeats 400000 in
theorem floor_any (n by_ : Int) (w : World) (hb : 1 ≤ by_) (h1 : -100000000000000000 ≤ n) (h2 : n ≤ 100000000000000000) :
    Calls Try.prog 99 #[.int .i64 n, .int .i64 by_] w fun e w' => e = .returned (.int .i64 (n / by_)) ∧ w = w' := by
  by_cases hn : 0 ≤ n
  · have h3 := Int.emod_nonneg n (b := by_) (by omega)
    go_enter Try.func99, Try.ntmps99
    go_wp2
    go_ret
    exact ⟨rfl, rfl⟩
  · have hd := ediv_of_neg (by omega : n < 0) hb
    have hbd := tdiv_bound (by_ := by_) h1 h2
    by_cases ht : n.tmod by_ < 0
    · rw [if_pos ht] at hd
      rw [hd]
      clear hd
      go_enter Try.func99, Try.ntmps99
      go_wp2
      go_ret
      exact ⟨rfl, rfl⟩
    · rw [if_neg ht] at hd
      rw [hd]
      clear hd
      go_enter Try.func99, Try.ntmps99
      go_wp2
      go_ret
      exact ⟨rfl, rfl⟩

set_option maxHeartbeats 400000 in
theorem Floor_any (n by_ : Int) (w : World) (hb : 1 ≤ by_) (h1 : -100000000000000000 ≤ n) (h2 : n ≤ 100000000000000000) :
    Calls Try.prog 106 #[.int .i64 n, .int .i64 by_] w fun e w' => e = .returned (.int .i64 (n / by_)) ∧ w = w' := by
  by_cases hn : 0 ≤ n
  · have h3 := Int.emod_nonneg n (b := by_) (by omega)
    go_enter Try.func106, Try.ntmps106
    go_wp2
    go_ret
    exact ⟨rfl, rfl⟩
  · have hd := ediv_of_neg (by omega : n < 0) hb
    have hbd := tdiv_bound (by_ := by_) h1 h2
    by_cases ht : n.tmod by_ < 0
    · rw [if_pos ht] at hd
      rw [hd]
      clear hd
      go_enter Try.func106, Try.ntmps106
      go_wp2
      go_ret
      exact ⟨rfl, rfl⟩
    · rw [if_neg ht] at hd
      rw [hd]
      clear hd
      go_enter Try.func106, Try.ntmps106
      go_wp2
      go_ret
      exact ⟨rfl, rfl⟩

/-- The error of a sampling. -/
def sampErr (f st : Int) : Int := if inB f 0 1000000000000 && inB st 1 100000000 then 0 else 2
/-- The error of a time. -/
def tErr (t : Int) : Int := if inB t (-1000000000000) 1000000000000 then 0 else 2

set_option maxHeartbeats 400000 in
theorem CheckSampling_any (a b : Int) (w : World) : Calls Try.prog 97 #[.agg #[.int .i64 a, .int .i64 b]] w fun e w' => e = .returned (.int .i64 (sampErr a b)) ∧ Below w.heap.size w w' := by
  unfold sampErr
  cases ha : inB a 0 1000000000000
  · have HA := Lib.hid ha
    clear ha
    go_enter Try.func97, Try.ntmps97
    go_wp2_with (go_at_call 60; refine (within_any _ _ _ _).mono ?_; rintro e w' ⟨rfl, rfl⟩; rw [HA.out])
    go_ret
    exact ⟨rfl, (Below.refl _ _).alloc (Nat.le_refl _) _⟩
  · have HA := Lib.hid ha
    clear ha
    cases hb : inB b 1 100000000
    all_goals
      have HB := Lib.hid hb
      clear hb
      go_enter Try.func97, Try.ntmps97
      go_wp2_with (go_at_call 60; refine (within_any _ _ _ _).mono ?_; rintro e w' ⟨rfl, rfl⟩; first | rw [HA.out] | rw [HB.out])
      go_ret
      exact ⟨rfl, (Below.refl _ _).alloc (Nat.le_refl _) _⟩

set_option maxHeartbeats 400000 in
theorem timeErr_any (t : Int) (w : World) : Calls Try.prog 98 #[.int .i64 t] w fun e w' => e = .returned (.int .i64 (tErr t)) ∧ w = w' := by
  unfold tErr
  cases ha : inB t (-1000000000000) 1000000000000
  all_goals
    have HA := Lib.hid ha
    clear ha
    go_enter Try.func98, Try.ntmps98
    go_wp2_with (go_at_call 81; refine (small_any _ _ _ (by omega) (by omega)).mono ?_; rintro e w' ⟨rfl, rfl⟩; rw [HA.out])
    go_ret
    exact ⟨rfl, rfl⟩

theorem row67 : IsRow Try.prog 111 2 := ⟨⟨_, Try.underlying111, rfl⟩, by kernel_rfl⟩
theorem row69 : IsRow Try.prog 113 2 := ⟨⟨_, Try.underlying113, rfl⟩, by kernel_rfl⟩
theorem zero51 : ((Try.prog.info? 102).bind (·.zero)).map (·.cells) = some #[.int .i64 0, .int .i64 0] := by kernel_rfl

/-- What GateOf finds: the gate before it is looked at. -/
def gateA (f st lo : Int) : Int := mx 0 (-((f - lo) / st))
def gateB (f st hi : Int) : Int := mn 60 ((hi - f) / st)
/-- What GateOf returns. -/
def gateRes (f st lo hi : Int) : (Int × Int) × Int :=
  if firstOf [sampErr f st, tErr lo, tErr hi] = 0 then
    (if hi < lo then ((0, 0), 9) else if gateB f st hi < gateA f st lo then ((0, 0), 12) else ((gateA f st lo, gateB f st hi), 0))
  else ((0, 0), firstOf [sampErr f st, tErr lo, tErr hi])

theorem firstOf_three {a b c : Int} (h : firstOf [a, b, c] = 0) : a = 0 ∧ b = 0 ∧ c = 0 := by
  simp only [firstOf] at h
  by_cases h1 : a = 0
  · rw [if_pos h1] at h
    obtain ⟨h2, h3⟩ := firstOf_two (a := b) (b := c) h
    exact ⟨h1, h2, h3⟩
  · rw [if_neg h1] at h; exact absurd h h1

theorem sampErr_zero {f st : Int} (h : sampErr f st = 0) : 0 ≤ f ∧ f ≤ 1000000000000 ∧ 1 ≤ st ∧ st ≤ 100000000 := by
  unfold sampErr at h
  by_cases h1 : (inB f 0 1000000000000 && inB st 1 100000000) = true
  · rw [Bool.and_eq_true, inB_true, inB_true] at h1; omega
  · rw [if_neg h1] at h; cases h
theorem tErr_zero {t : Int} (h : tErr t = 0) : -1000000000000 ≤ t ∧ t ≤ 1000000000000 := by
  unfold tErr at h
  by_cases h1 : inB t (-1000000000000) 1000000000000 = true
  · rw [inB_true] at h1; omega
  · rw [if_neg h1] at h; cases h

attribute [local go_sem high] run_max_mx run_min_mn

set_option maxRecDepth 100000 in
set_option maxHeartbeats 3200000 in
theorem GateOf_any (f st lo hi : Int) (w : World) :
    Calls Try.prog 57 #[.agg #[.int .i64 f, .int .i64 st], .agg #[.int .i64 lo, .int .i64 hi]] w fun e w' => e = .returned (.tuple #[.agg #[.int .i64 (gateRes f st lo hi).1.1, .int .i64 (gateRes f st lo hi).1.2], .int .i64 (gateRes f st lo hi).2]) ∧ Below w.heap.size w w' := by
  have kB := Kp.refl w
  go_enter Try.func57, Try.ntmps57
  go_wp2_with (first | ((with_reducible refine wlB (some 2) 111 #[.int .i64 f, .int .i64 st] ?_ ?_); rfl; intro g2 w2 l2 b2 k2; replace kB := kB.new l2 k2) | ((with_reducible refine wlB (some 3) 113 #[.int .i64 lo, .int .i64 hi] ?_ ?_); rfl; intro g3 w3 l3 b3 k3; replace kB := kB.new l3 k3; replace b2 := b2.past l3 k3) | ((with_reducible refine wlA (some 4) 102 #[.int .i64 0, .int .i64 0] zero51 ?_); intro g4 w4 l4 b4 k4; have o4 := kB.own l4; replace kB := kB.new l4 k4; replace b2 := b2.past l4 k4; replace b3 := b3.past l4 k4))
  have HSK := Lib.hid (show ∀ w', Kp w4 w' → (w'.cell? ⟨g2, 0, none⟩ = some (.int .i64 f) ∧ w'.cell? ⟨g2, 1, none⟩ = some (.int .i64 st) ∧ w'.cell? ⟨g3, 0, none⟩ = some (.int .i64 lo) ∧ w'.cell? ⟨g3, 1, none⟩ = some (.int .i64 hi)) ∧ Kp w4 w' from fun w' hk => ⟨⟨(b2.kept hk).cell 0, (b2.kept hk).cell 1, (b3.kept hk).cell 0, (b3.kept hk).cell 1⟩, hk⟩)
  go_region_held3 (fun w' => (w'.cell? ⟨g2, 0, none⟩ = some (.int .i64 f) ∧ w'.cell? ⟨g2, 1, none⟩ = some (.int .i64 st) ∧ w'.cell? ⟨g3, 0, none⟩ = some (.int .i64 lo) ∧ w'.cell? ⟨g3, 1, none⟩ = some (.int .i64 hi)) ∧ Kp w4 w') ((first | exact HSK.out _ (Kp.refl _).drew | exact HSK.out _ (q6.alloc _) | exact HSK.out _ q6))
    (first | (go_at_call 97; refine (CheckSampling_any _ _ _).mono ?_; rintro e w5 ⟨rfl, k5⟩; have q6 : Kp w4 w5 := (Kp.refl w4).drew.call k5) | (go_at_call 98; refine (timeErr_any _ _).mono ?_; rintro e w6 ⟨rfl, rfl⟩) | (go_at_call 62; refine (first_any _ 32 _ [sampErr f st, tErr lo, tErr hi] 3 _ (by exact Blk.new _ _ _) rfl (by omega)).mono ?_; rintro e w7 ⟨rfl, rfl⟩))
  have q7 := fun o => q6.alloc o
  have b7 := fun o => b4.kept (q7 o)
  have kC := fun o => kB.call (q7 o)
  have c0 : ∀ o, (w5.alloc o).cell? ⟨g3, 0, none⟩ = some (.int .i64 lo) := fun o => (b3.kept (q7 o)).cell 0
  have c1 : ∀ o, (w5.alloc o).cell? ⟨g3, 1, none⟩ = some (.int .i64 hi) := fun o => (b3.kept (q7 o)).cell 1
  by_cases he : firstOf [sampErr f st, tErr lo, tErr hi] = 0
  · obtain ⟨e1, e2, e3⟩ := firstOf_three he
    obtain ⟨f0, f1, s0, s1⟩ := sampErr_zero e1
    obtain ⟨lo0, lo1⟩ := tErr_zero e2
    obtain ⟨hi0, hi1⟩ := tErr_zero e3
    have HE := Lib.hid he
    rw [he]
    clear he e1 e2 e3
    by_cases hlh : hi < lo
    · have HF := Lib.hid (show gateRes f st lo hi = ((0, 0), 9) by unfold gateRes; rw [if_pos HE.out, if_pos hlh])
      go_wp2_with ((with_reducible refine wlS 102 (.tmp 4) (.tmp 27) (b7 _) (size2 0 0) (size2 0 0) row51 (one2 0 0) ?_ ?_ ?_); rfl; rfl; intro w9 b9 k9; replace kC := (kC _).turn o4 k9)
      rw [HF.out]
      exact bodyPost_ret (res_cell_tmp rfl _ rfl b9 (size2 0 0) row51) rfl ⟨rfl, kC⟩
    · go_wp2
      have qq := q7 (.cells #[.int .i64 (sampErr f st), .int .i64 (tErr lo), .int .i64 (tErr hi)] 32)
      generalize (w5.alloc (.cells #[.int .i64 (sampErr f st), .int .i64 (tErr lo), .int .i64 (tErr hi)] 32)) = wq at qq ⊢
      clear q7 b7 kC c0 c1
      replace kB := kB.call qq
      replace b2 := b2.kept qq
      replace b3 := b3.kept qq
      replace b4 := b4.kept qq
      have HSK2 := Lib.hid (show ∀ w', Kp wq w' → (w'.cell? ⟨g2, 0, none⟩ = some (.int .i64 f) ∧ w'.cell? ⟨g2, 1, none⟩ = some (.int .i64 st) ∧ w'.cell? ⟨g3, 0, none⟩ = some (.int .i64 lo) ∧ w'.cell? ⟨g3, 1, none⟩ = some (.int .i64 hi)) ∧ Kp wq w' from fun w' hk => ⟨⟨(b2.kept hk).cell 0, (b2.kept hk).cell 1, (b3.kept hk).cell 0, (b3.kept hk).cell 1⟩, hk⟩)
      have HFl := Lib.hid (fun W => floor_any (f - lo) st W (by omega) (by omega) (by omega))
      have HFh := Lib.hid (fun W => floor_any (hi - f) st W (by omega) (by omega) (by omega))
      have e1 : IntKind.i64.wrap (f - lo) = f - lo := IntWalk.i64_in _ (by omega)
      have hq : -100000000000000000 ≤ (f - lo) / st ∧ (f - lo) / st ≤ 100000000000000000 := ediv_bound (by omega) (by omega) (by omega)
      have e2 : IntKind.i64.wrap (hi - f) = hi - f := IntWalk.i64_in _ (by omega)
      have e3 : IntKind.i64.wrap (-((f - lo) / st)) = -((f - lo) / st) := IntWalk.i64_in _ (by omega)
      go_cut [7] (fun s7 wx => ∃ g7 : Nat, s7 = .pointer (some ⟨g7, 0, none⟩) ∧ Blk wx g7 102 #[.int .i64 (gateA f st lo), .int .i64 (gateB f st hi)] ∧ wq.heap.size ≤ g7 ∧ Kp wq wx)
      case first =>
        go_region_held3 (fun w' => (w'.cell? ⟨g2, 0, none⟩ = some (.int .i64 f) ∧ w'.cell? ⟨g2, 1, none⟩ = some (.int .i64 st) ∧ w'.cell? ⟨g3, 0, none⟩ = some (.int .i64 lo) ∧ w'.cell? ⟨g3, 1, none⟩ = some (.int .i64 hi)) ∧ Kp wq w') ((first | exact HSK2.out _ (Kp.refl _).drew | exact HSK2.out _ ((Kp.refl _).drew.alloc _)))
          (first | (go_at_call_of 99 (Value.int .i64 (f - lo)); refine (HFl.out _).mono ?_; rintro e w6 ⟨rfl, rfl⟩) | (go_at_call_of 99 (Value.int .i64 (hi - f)); refine (HFh.out _).mono ?_; rintro e w7 ⟨rfl, rfl⟩))
        all_goals (go_wp2_with fail; go_meet; exact ⟨_, rfl, (Blk.new _ _ _).drew, Nat.le_refl _, ((Kp.refl _).alloc _).drew⟩)
      case rest =>
        obtain ⟨g7, rfl, c7, l7, q8⟩ := hcut
        clear e1 e2 e3 hq
        have n47 := Nat.lt_of_lt_of_le b4.lt l7
        replace kB := kB.call q8
        replace b4 := b4.kept q8
        have d0 := c7.cell 0
        have d1 := c7.cell 1
        by_cases hgt : gateB f st hi < gateA f st lo
        · have HF := Lib.hid (show gateRes f st lo hi = ((0, 0), 12) by unfold gateRes; rw [if_pos HE.out, if_neg (by omega), if_pos hgt])
          go_wp2_with ((with_reducible refine wlS 102 (.tmp 4) (.tmp 53) b4 (size2 0 0) (size2 0 0) row51 (one2 0 0) ?_ ?_ ?_); rfl; rfl; intro w9 b9 k9; replace kB := kB.turn o4 k9)
          rw [HF.out]
          exact bodyPost_ret (res_cell_tmp rfl _ rfl b9 (size2 0 0) row51) rfl ⟨rfl, kB⟩
        · have HF := Lib.hid (show gateRes f st lo hi = ((gateA f st lo, gateB f st hi), 0) by unfold gateRes; rw [if_pos HE.out, if_neg (by omega), if_neg hgt])
          go_wp2_with (first | ((with_reducible refine wlL (some 54) 102 c7 (size2 _ _) row51 ?_ ?_); rfl) | ((with_reducible refine wlS 102 (.tmp 4) (.tmp 54) b4 (size2 0 0) (size2 (gateA f st lo) (gateB f st hi)) row51 (one2 _ _) ?_ ?_ ?_); rfl; rfl; intro w9 b9 k9; replace kB := kB.turn o4 k9))
          rw [HF.out]
          exact bodyPost_ret (res_cell_tmp rfl _ rfl b9 (size2 _ _) row51) rfl ⟨rfl, kB⟩
  · have HF := Lib.hid (show gateRes f st lo hi = ((0, 0), firstOf [sampErr f st, tErr lo, tErr hi]) by unfold gateRes; rw [if_neg he])
    have he' : (firstOf [sampErr f st, tErr lo, tErr hi] != 0) = true := by simpa using he
    clear he
    go_wp2_with ((with_reducible refine wlS 102 (.tmp 4) (.tmp 20) (b7 _) (size2 0 0) (size2 0 0) row51 (one2 0 0) ?_ ?_ ?_); rfl; rfl; intro w9 b9 k9; replace kC := (kC _).turn o4 k9)
    rw [HF.out]
    exact bodyPost_ret (res_cell_tmp rfl _ rfl b9 (size2 0 0) row51) rfl ⟨rfl, kC⟩

end Go.Proofs.Ytcijkniijomcjaa
