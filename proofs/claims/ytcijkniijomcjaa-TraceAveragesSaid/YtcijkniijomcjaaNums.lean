/- Contracts of numbersOf, parts, square. -/
import Derived.Test.YtcijkniijomcjaaChecks
import Derived.RegionTactic
namespace Go.Proofs.Ytcijkniijomcjaa
open Go.RowKit Go.Cpl

/-- The cells of an array of ints. -/
def ints (l : List Int) : Array Value := (l.map (Value.int .i64)).toArray
theorem ints_size (l : List Int) : (ints l).size = l.length := by simp [ints]
theorem ints_set (l : List Int) (k : Nat) (v : Int) : (ints l).setIfInBounds k (.int .i64 v) = ints (l.set k v) := by
  simp [ints]

/-- An int of a list (kept shut to the walk). -/
def nthI (l : List Int) (k : Nat) : Int := l.getD k 0
theorem nthI_eq {l : List Int} {k : Nat} (h : k < l.length) : nthI l k = l[k] := by
  simp [nthI, List.getD_eq_getElem?_getD, List.getElem?_eq_getElem h]
theorem ints_get {l : List Int} {k : Nat} (h : k < l.length) : (ints l)[k]? = some (.int .i64 (nthI l k)) := by
  simp [ints, nthI_eq h, h]
theorem blk_int {w : World} {g : Nat} {t : TypeId} {l : List Int} (h : Blk w g t (ints l)) {k : Nat} (hk : k < l.length) : w.cell? ⟨g, k, none⟩ = some (.int .i64 (nthI l k)) := by
  rw [h.cell, ints_get hk]

/-- The first k done, the others still as they began. -/
def done {α : Type} (z : α) (f : Nat → α) (n k : Nat) : List α := (List.range n).map fun i => if i < k then f i else z
theorem done_length {α : Type} (z : α) (f : Nat → α) (n k : Nat) : (done z f n k).length = n := by simp [done]
theorem done_set {α : Type} (z : α) (f : Nat → α) (n k : Nat) : (done z f n k).set k (f k) = done z f n (k + 1) := by
  apply List.ext_getElem
  · simp [done]
  · intro i h1 h2
    simp only [done, List.length_map, List.length_range] at h2
    simp only [done, List.getElem_set, List.getElem_map, List.getElem_range]
    by_cases h : k = i
    · subst h; simp
    · rw [if_neg h]
      by_cases h3 : i < k
      · rw [if_pos h3, if_pos (by omega)]
      · rw [if_neg h3, if_neg (by omega)]
theorem done_all {α : Type} (z : α) (f : Nat → α) (n : Nat) : done z f n n = (List.range n).map f := by
  unfold done
  apply List.map_congr_left
  intro i hi
  rw [if_pos (by simpa using hi)]
theorem done_zero {α : Type} (z : α) (f : Nat → α) (n : Nat) : done z f n 0 = List.replicate n z := by
  apply List.ext_getElem
  · simp [done]
  · intro i h1 h2
    simp [done]

/-- Right samples. -/
def Right (xs : List Nat) : Prop := ∀ x ∈ xs, sErr x = 0
theorem right_of {xs : List Nat} : ∀ {k : Nat}, (firstErr xs k).2 = 0 → Right xs := by
  induction xs with
  | nil => intro k _ x hx; cases hx
  | cons y l ih =>
    intro k h x hx
    simp only [firstErr] at h
    by_cases h0 : sErr y = 0
    · rw [if_pos h0] at h
      rcases List.mem_cons.1 hx with rfl | hx
      · exact h0
      · exact ih h x hx
    · rw [if_neg h0] at h; exact absurd h h0
theorem Right.at_ {xs : List Nat} (h : Right xs) {k : Nat} (hk : k < xs.length) : sErr (nth xs k) = 0 := by
  rw [nth_eq hk]; exact h _ (List.getElem_mem hk)

/-- The numbers of a trace. -/
def nums (xs : List Nat) : List Int := (List.range 64).map fun i => num (nth xs i)
theorem nums_length (xs : List Nat) : (nums xs).length = 64 := by simp [nums]

theorem run_toInt {x : Nat} (h : sErr x = 0) (w : World) : (convert 36 3 (.float .f32 x)).run Try.prog w = .ok (.int .i64 (num x)) w :=
  run_convert_float_int w 36 3 .f32 .i64 x (num x) (by rw [Try.underlying36]; rfl) Try.underlying3 (toInt_right h)

theorem row159 : IsRow Try.prog 123 64 := ⟨⟨_, Try.underlying123, rfl⟩, by kernel_rfl⟩
theorem ints_one (l : List Int) : (ints l).all (·.oneCell') = true := by
  rw [Array.all_eq_true_iff_forall_mem]
  intro v hv
  simp only [ints, List.mem_toArray, List.mem_map] at hv
  obtain ⟨n, _, rfl⟩ := hv
  rfl

set_option maxHeartbeats 400000 in
theorem numbersOf_any (g : Nat) (xs : List Nat) (w : World) (hl : xs.length = 64) (hb : Blk w g 38 (trc xs)) (h0 : Right xs) :
    Calls Try.prog 66 #[.pointer (some ⟨g, 0, none⟩)] w fun e w' => e = .returned (.agg (ints (nums xs))) ∧ Below w.heap.size w w' := by
  have HL := Lib.hid hl
  have H0 := Lib.hid h0
  clear hl h0
  have hg := hb.lt
  go_enter Try.func66, Try.ntmps66
  go_wp2
  go_loopw [6] (fun i wr => ∃ k : Nat, k ≤ 64 ∧ i = .int .i64 k ∧ Blk wr w.heap.size 123 (ints (done 0 (fun i => num (nth xs i)) 64 k)) ∧ Below w.heap.size w wr) (fun i _ => 64 - (intOf i).toNat)
  case atStart => exact ⟨0, Nat.zero_le _, rfl, by rw [done_zero]; exact Blk.new w 123 _, (Below.refl _ _).alloc (Nat.le_refl _) _⟩
  case round =>
    obtain ⟨k, hk, rfl, hbk, hbe⟩ := hrel
    have hb' := hb.keep hbe hg
    by_cases hlt : k < 64
    · have i0 : (0 : Int) ≤ (k : Int) := by omega
      have i1 : (k : Int) < 64 := by omega
      have hc : wr.cell? ⟨g, k, none⟩ = some (.float .f32 (nth xs k)) := by rw [hb'.cell, trc_get (by rw [HL.out]; exact hlt)]
      have hcv := run_toInt (H0.out.at_ (k := k) (by rw [HL.out]; exact hlt))
      have hs := blk_int hbk (k := k) (by rw [done_length]; exact hlt)
      have hz := hbk.free k
      generalize nthI (done 0 (fun i => num (nth xs i)) 64 k) k = old at hs
      go_wp2
      go_quiet (fail)
      go_wp2
      go_roundw
      case rel =>
        refine ⟨k + 1, by omega, by go_num, ?_, (below_drewN hbe _).setCell (Nat.le_refl _) _⟩
        have h1 := (hbk.drewN nq).set_ k (.int .i64 (num (nth xs k)))
        rw [ints_set, done_set 0 (fun i => num (nth xs i))] at h1
        exact h1
      case measure => simp [intOf]; omega
    · obtain rfl : k = 64 := by omega
      rw [done_all] at hbk
      change Blk wr w.heap.size 123 (ints (nums xs)) at hbk
      have hsz : (ints (nums xs)).size = 64 := by rw [ints_size, nums_length]
      have HS := Lib.hid hsz
      clear hsz
      go_wp2_with (first | (refine wl_load (o := ⟨some 17, _, _, _, _, _⟩) (by rfl) 123 (.tmp 2) (by rfl) w.heap.size (by rfl) (by exact hbk) (by exact HS.out) row159 ?_) | (refine wl_store (o := ⟨none, _, _, _, _, _⟩) (by rfl) 123 (.tmp 2) (.tmp 17) (by rfl) w.heap.size (ints (nums xs)) (by rfl) (by rfl) (by exact hbk) (by exact HS.out) (by exact HS.out) row159 (by exact ints_one _) ?_; intro w1 hb1 ht1))
      exact bodyPost_ret (res_cell rfl _ rfl hb1 HS.out row159) rfl ⟨rfl, hbe.trans (ht1.below (Nat.le_refl _))⟩

/-- The parts of the analytic sample at a place. -/
def reP (l : List Int) (t : Nat) : Int := nthI l t - nthI l (t + 2)
def imP (l : List Int) (t : Nat) : Int := nthI l (t + 1) - nthI l (t + 3)

theorem slice4 (g t : Nat) (ht : t ≤ 60) (W : World) : (Instr.sliceAt 123 (.pointer (some ⟨g, 0, none⟩)) (some (.int .i64 (t : Int))) (some (.int .i64 ((t : Int) + 4))) none).run Try.prog W = .ok (.slice (some ⟨g, t, none⟩) 4 (64 - t)) W := by
  have hs : ∀ W, (sizeOf (Try.prog.elem 123)).run Try.prog W = .ok 1 W := fun W => by kernel_rfl
  have hn : Try.prog.arrayLen 123 = 64 := by kernel_rfl
  rw [run_sliceAt_array_lh (P := Try.prog) W 123 ⟨g, 0, none⟩ (by kernel_rfl) .i64 .i64 (t : Int) ((t : Int) + 4) (by omega) (by omega) (by rw [hn]; omega), hs W, hn]
  simp only [Result.andThen_ok, slicedAt]
  rw [if_neg (by omega), Nat.mul_one, Int.toNat_natCast, add_zero_off, show ((t : Int) + 4).toNat - t = 4 by omega]
theorem array4 (g t c : Nat) (W : World) : (Instr.arrayAt 170 (.slice (some ⟨g, t, none⟩) 4 c)).run Try.prog W = .ok (.pointer (some ⟨g, t, none⟩)) W := run_arrayAt W 170 _ 4 _ 4 c Try.underlying170 (Nat.le_refl _)

set_option maxHeartbeats 400000 in
theorem parts_any (g t : Nat) (l : List Int) (w : World) (hl : l.length = 64) (ht : t ≤ 60) (hb : Blk w g 123 (ints l)) (hr : ∀ k, -2047 ≤ nthI l k ∧ nthI l k ≤ 2047) :
    Calls Try.prog 95 #[.pointer (some ⟨g, 0, none⟩), .int .i64 t] w fun e w' => e = .returned (.tuple #[.int .i64 (reP l t), .int .i64 (imP l t)]) ∧ Below w.heap.size w w' := by
  have i0 : (0 : Int) ≤ (t : Int) := by omega
  have i1 : (t : Int) ≤ 60 := by omega
  have c0 := blk_int hb (k := t) (by omega)
  have c1 := blk_int hb (k := t + 1) (by omega)
  have c2 := blk_int hb (k := t + 2) (by omega)
  have c3 := blk_int hb (k := t + 3) (by omega)
  have r0 := hr t
  have r1 := hr (t + 1)
  have r2 := hr (t + 2)
  have r3 := hr (t + 3)
  unfold reP imP
  generalize nthI l t = n0 at *
  generalize nthI l (t + 1) = n1 at *
  generalize nthI l (t + 2) = n2 at *
  generalize nthI l (t + 3) = n3 at *
  have hsl := slice4 g t ht
  have har := array4 g t (64 - t)
  clear hl hb hr
  go_enter Try.func95, Try.ntmps95
  go_wp2
  have e1 : IntKind.i64.wrap (n0 - n2) = n0 - n2 := IntWalk.i64_in _ (by omega)
  have e2 : IntKind.i64.wrap (n1 - n3) = n1 - n3 := IntWalk.i64_in _ (by omega)
  go_quiet (fail)
  clear e1 e2
  go_wp2
  go_ret2
  exact ⟨rfl, below_drewN ((Below.refl _ _).alloc (Nat.le_refl _) _) _⟩

theorem sq_bound {x : Int} {b : Nat} (h1 : -(b : Int) ≤ x) (h2 : x ≤ (b : Int)) : 0 ≤ x * x ∧ x * x ≤ (b : Int) * (b : Int) := by
  have h3 : x * x = ((x.natAbs * x.natAbs : Nat) : Int) := by rw [Int.natAbs_mul_self]
  have h4 : x.natAbs * x.natAbs ≤ b * b := Nat.mul_le_mul (by omega) (by omega)
  constructor
  · rw [h3]; omega
  · rw [h3, ← Int.natCast_mul]; omega

/-- Its square. -/
def sqP (l : List Int) (t : Nat) : Int := reP l t * reP l t + imP l t * imP l t

theorem reP_bound {l : List Int} (hr : ∀ k, -2047 ≤ nthI l k ∧ nthI l k ≤ 2047) (t : Nat) : -4094 ≤ reP l t ∧ reP l t ≤ 4094 := by
  have := hr t; have := hr (t + 2); unfold reP; omega
theorem imP_bound {l : List Int} (hr : ∀ k, -2047 ≤ nthI l k ∧ nthI l k ≤ 2047) (t : Nat) : -4094 ≤ imP l t ∧ imP l t ≤ 4094 := by
  have := hr (t + 1); have := hr (t + 3); unfold imP; omega
theorem sqP_bound {l : List Int} (hr : ∀ k, -2047 ≤ nthI l k ∧ nthI l k ≤ 2047) (t : Nat) : 0 ≤ sqP l t ∧ sqP l t ≤ 33521672 := by
  have h1 := reP_bound hr t
  have h2 := imP_bound hr t
  have b1 := sq_bound (b := 4094) h1.1 h1.2
  have b2 := sq_bound (b := 4094) h2.1 h2.2
  unfold sqP
  omega

set_option maxHeartbeats 400000 in
theorem square_any (g t : Nat) (l : List Int) (w : World) (hl : l.length = 64) (ht : t ≤ 60) (hb : Blk w g 123 (ints l)) (hr : ∀ k, -2047 ≤ nthI l k ∧ nthI l k ≤ 2047) :
    Calls Try.prog 94 #[.pointer (some ⟨g, 0, none⟩), .int .i64 t] w fun e w' => e = .returned (.int .i64 (sqP l t)) ∧ Below w.heap.size w w' := by
  have h1 := reP_bound hr t
  have h2 := imP_bound hr t
  have b1 := sq_bound (b := 4094) h1.1 h1.2
  have b2 := sq_bound (b := 4094) h2.1 h2.2
  have HP := Lib.hid (fun W hbW => parts_any g t l W hl ht hbW hr)
  unfold sqP
  generalize reP l t = re at *
  generalize imP l t = im at *
  clear hl hr
  go_enter Try.func94, Try.ntmps94
  go_wp2_with (go_at_call 95; refine (HP.out _ hb).mono ?_; rintro e w' ⟨rfl, hbe⟩)
  go_ret
  exact ⟨rfl, hbe⟩

end Go.Proofs.Ytcijkniijomcjaa
