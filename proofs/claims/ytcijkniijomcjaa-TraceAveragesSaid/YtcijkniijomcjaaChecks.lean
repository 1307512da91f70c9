/- Contracts of samplesErr, CheckTrace and traceErr: the first wrong sample. -/
import Derived.Test.YtcijkniijomcjaaLeaf
import Derived.Test.YtcijkniijomcjaaMem
import Derived.Deep.LoopGhost
namespace Go.Proofs.Ytcijkniijomcjaa
open Go.RowKit Go.Cpl

/-- A word of a list (kept shut to the walk). -/
def nth (xs : List Nat) (k : Nat) : Nat := xs.getD k 0
theorem nth_eq {xs : List Nat} {k : Nat} (h : k < xs.length) : nth xs k = xs[k] := by
  simp [nth, List.getD_eq_getElem?_getD, List.getElem?_eq_getElem h]

/-- The number of the first wrong sample from a place on, and its error. -/
def firstErr : List Nat → Nat → Nat × Int
  | [], _ => (0, 0)
  | x :: l, i => if sErr x = 0 then firstErr l (i + 1) else (i, sErr x)

theorem firstErr_step (xs : List Nat) (k : Nat) (h : k < xs.length) :
    firstErr (xs.drop k) k = if sErr (nth xs k) = 0 then firstErr (xs.drop (k + 1)) (k + 1) else (k, sErr (nth xs k)) := by
  rw [List.drop_eq_getElem_cons h]
  simp only [firstErr, nth_eq h]

/-- A slice of floats that reads as a list of words, nil let in. -/
def FReads (w : World) (A : Option Addr) (xs : List Nat) : Prop :=
  ∀ k, k < xs.length → ∃ ad, A = some ad ∧ w.cell? (ad.add k) = some (.float .f32 (nth xs k))

theorem FReads.drewN {w : World} {A : Option Addr} {xs : List Nat} (h : FReads w A xs) (n : Nat) : FReads (w.drewN n) A xs := h

set_option maxHeartbeats 400000 in
theorem samplesErr_any (A : Option Addr) (cap : Nat) (xs : List Nat) (w : World) (hr : FReads w A xs) (hl : xs.length ≤ maxLen) :
    Calls Try.prog 61 #[.slice A xs.length cap] w fun e w' => e = .returned (.tuple #[.int .i64 (firstErr xs 0).1, .int .i64 (firstErr xs 0).2]) ∧ ∃ n, w' = w.drewN n := by
  unfold maxLen at hl
  have HR := Lib.hid hr
  clear hr
  go_enter Try.func61, Try.ntmps61
  go_wp2
  go_loopw [9] (fun i wr => ∃ k n : Nat, k ≤ xs.length ∧ i = .int .i64 k ∧ Hid (firstErr xs 0 = firstErr (xs.drop k) k) ∧ wr = w.drewN n) (fun i _ => xs.length - (intOf i).toNat)
  case atStart => exact ⟨0, 0, Nat.zero_le _, rfl, rfl, rfl⟩
  case round =>
    obtain ⟨k, n, hk, rfl, HF, rfl⟩ := hrel
    by_cases hlt : k < xs.length
    · obtain ⟨ad, rfl, hc⟩ := HR.out k hlt
      have hs := firstErr_step xs k hlt
      rw [← HF.out] at hs
      by_cases h0 : sErr (nth xs k) = 0
      · rw [if_pos h0] at hs
        have H0 := Lib.hid h0
        have HS := Lib.hid hs
        clear h0 hs HF
        go_wp2_with (go_at_call 101; refine (sampleErr_any _ _).mono ?_; rintro e w' ⟨rfl, n', rfl⟩; rw [H0.out])
        go_roundw
        case rel => exact ⟨k + 1, n + n', by omega, by go_num, HS.out, by simp⟩
        case measure => simp [intOf]; omega
      · rw [if_neg h0] at hs
        have h1 : (sErr (nth xs k) != 0) = true := by simpa using h0
        have HS := Lib.hid hs
        clear h0 hs HF
        go_wp2_with (go_at_call 101; refine (sampleErr_any _ _).mono ?_; rintro e w' ⟨rfl, n', rfl⟩)
        go_ret2
        rw [HS.out]
        exact ⟨rfl, _, rfl⟩
    · have hs : firstErr xs 0 = (0, 0) := by
        rw [HF.out, List.drop_eq_nil_of_le (by omega)]; rfl
      have HS := Lib.hid hs
      clear hs HF
      go_wp2
      go_ret2
      rw [HS.out]
      exact ⟨rfl, _, rfl⟩

set_option maxHeartbeats 400000 in
theorem refSamplesErr_any (A : Option Addr) (cap : Nat) (xs : List Nat) (w : World) (hr : FReads w A xs) (hl : xs.length ≤ maxLen) :
    Calls Try.prog 67 #[.slice A xs.length cap] w fun e w' => e = .returned (.tuple #[.int .i64 (firstErr xs 0).1, .int .i64 (firstErr xs 0).2]) ∧ ∃ n, w' = w.drewN n := by
  unfold maxLen at hl
  have HR := Lib.hid hr
  clear hr
  go_enter Try.func67, Try.ntmps67
  go_wp2
  go_loopw [4] (fun i wr => ∃ k n : Nat, k ≤ xs.length ∧ i = .int .i64 k ∧ Hid (firstErr xs 0 = firstErr (xs.drop k) k) ∧ wr = w.drewN n) (fun i _ => xs.length - (intOf i).toNat)
  case atStart => exact ⟨0, 0, Nat.zero_le _, rfl, rfl, rfl⟩
  case round =>
    obtain ⟨k, n, hk, rfl, HF, rfl⟩ := hrel
    by_cases hlt : k < xs.length
    · obtain ⟨ad, rfl, hc⟩ := HR.out k hlt
      have hs := firstErr_step xs k hlt
      rw [← HF.out] at hs
      by_cases h0 : sErr (nth xs k) = 0
      · rw [if_pos h0] at hs
        have H0 := Lib.hid h0
        have HS := Lib.hid hs
        clear h0 hs HF
        go_wp2_with (go_at_call 102; refine (refSampleErr_any _ _).mono ?_; rintro e w' ⟨rfl, n', rfl⟩; rw [H0.out])
        go_roundw
        case rel => exact ⟨k + 1, n + n', by omega, by go_num, HS.out, by simp⟩
        case measure => simp [intOf]; omega
      · rw [if_neg h0] at hs
        have h1 : (sErr (nth xs k) != 0) = true := by simpa using h0
        have HS := Lib.hid hs
        clear h0 hs HF
        go_wp2_with (go_at_call 102; refine (refSampleErr_any _ _).mono ?_; rintro e w' ⟨rfl, n', rfl⟩)
        go_ret2
        rw [HS.out]
        exact ⟨rfl, _, rfl⟩
    · have hs : firstErr xs 0 = (0, 0) := by
        rw [HF.out, List.drop_eq_nil_of_le (by omega)]; rfl
      have HS := Lib.hid hs
      clear hs HF
      go_wp2
      go_ret2
      rw [HS.out]
      exact ⟨rfl, _, rfl⟩

/-- The cells of a trace. -/
def trc (xs : List Nat) : Array Value := (xs.map (Value.float .f32)).toArray
theorem trc_size (xs : List Nat) : (trc xs).size = xs.length := by simp [trc]

theorem trc_get {xs : List Nat} {k : Nat} (h : k < xs.length) : (trc xs)[k]? = some (.float .f32 (nth xs k)) := by
  simp [trc, nth_eq h, h]

theorem add_zero_off (g k : Nat) : (⟨g, 0, none⟩ : Addr).add k = ⟨g, k, none⟩ := by unfold Addr.add; split <;> simp_all

theorem FReads.of_blk {w : World} {g : Nat} {t : TypeId} {xs : List Nat} (h : Blk w g t (trc xs)) : FReads w (some ⟨g, 0, none⟩) xs := by
  intro k hk
  refine ⟨_, rfl, ?_⟩
  rw [add_zero_off, h.cell, trc_get hk]

theorem samplesErr_len (A : Option Addr) (n cap : Nat) (xs : List Nat) (w : World) (hn : xs.length = n) (hl : n ≤ maxLen) (hr : FReads w A xs) :
    Calls Try.prog 61 #[.slice A n cap] w fun e w' => e = .returned (.tuple #[.int .i64 (firstErr xs 0).1, .int .i64 (firstErr xs 0).2]) ∧ ∃ n, w' = w.drewN n := by
  subst hn; exact samplesErr_any A cap xs w hr hl
theorem refSamplesErr_len (A : Option Addr) (n cap : Nat) (xs : List Nat) (w : World) (hn : xs.length = n) (hl : n ≤ maxLen) (hr : FReads w A xs) :
    Calls Try.prog 67 #[.slice A n cap] w fun e w' => e = .returned (.tuple #[.int .i64 (firstErr xs 0).1, .int .i64 (firstErr xs 0).2]) ∧ ∃ n, w' = w.drewN n := by
  subst hn; exact refSamplesErr_any A cap xs w hr hl

set_option maxHeartbeats 400000 in
theorem CheckTrace_any (xs : List Nat) (w : World) (hl : xs.length = 64) :
    Calls Try.prog 104 #[.agg (trc xs)] w fun e w' => e = .returned (.tuple #[.int .i64 (firstErr xs 0).1, .int .i64 (firstErr xs 0).2]) ∧ Below w.heap.size w w' := by
  have HL := Lib.hid hl
  clear hl
  go_enter Try.func104, Try.ntmps104
  go_wp2_with (go_at_call 61; refine (samplesErr_len _ _ _ xs _ HL.out (by decide) (FReads.of_blk (Blk.new _ _ _))).mono ?_; rintro e w' ⟨rfl, n, rfl⟩)
  go_ret2
  exact ⟨rfl, below_drewN ((Below.refl _ _).alloc (Nat.le_refl _) _) _⟩

set_option maxHeartbeats 400000 in
theorem refCheckTrace_any (xs : List Nat) (w : World) (hl : xs.length = 64) :
    Calls Try.prog 24 #[.agg (trc xs)] w fun e w' => e = .returned (.tuple #[.int .i64 (firstErr xs 0).1, .int .i64 (firstErr xs 0).2]) ∧ Below w.heap.size w w' := by
  have HL := Lib.hid hl
  clear hl
  go_enter Try.func24, Try.ntmps24
  go_wp2_with (go_at_call 67; refine (refSamplesErr_len _ _ _ xs _ HL.out (by decide) (FReads.of_blk (Blk.new _ _ _))).mono ?_; rintro e w' ⟨rfl, n, rfl⟩)
  go_ret2
  exact ⟨rfl, below_drewN ((Below.refl _ _).alloc (Nat.le_refl _) _) _⟩

theorem row26 : IsRow Try.prog 38 64 := ⟨⟨_, Try.underlying38, rfl⟩, by kernel_rfl⟩
theorem size_trc {xs : List Nat} (hl : xs.length = 64) : (trc xs).size = 64 := by rw [trc_size, hl]

set_option maxHeartbeats 400000 in
theorem traceErr_any (xs : List Nat) (w : World) (hl : xs.length = 64) :
    Calls Try.prog 71 #[.agg (trc xs)] w fun e w' => e = .returned (.int .i64 (firstErr xs 0).2) ∧ Below w.heap.size w w' := by
  have HL := Lib.hid hl
  clear hl
  go_enter Try.func71, Try.ntmps71
  go_wp2_with (first | (go_at_call 104; refine (CheckTrace_any xs _ HL.out).mono ?_; rintro e w' ⟨rfl, hb⟩) | (refine wl_load (o := ⟨some 6, _, _, _, _, _⟩) (by rfl) 38 (.tmp 1) (by rfl) w.heap.size (by rfl) (t := 38) (cs := trc xs) (by exact Blk.new _ _ _) (by exact size_trc HL.out) row26 ?_))
  go_ret
  exact ⟨rfl, ((Below.refl _ _).alloc (Nat.le_refl _) _).trans (hb.mono (by simp))⟩

end Go.Proofs.Ytcijkniijomcjaa
