/- Texts of the proof of TopReciprocalBack, put together (part 2): Nums, Analytic, Arith, Spike, Arr, Row, Flat, Flat3, Flo, Round, Mat1, Refs, Peak, Lag, Times, Awake, Mat2. -/
import Derived.Test.YtcijkniijomcjaaRb1
import Derived.Deep.DeepCutAuto
import Derived.Deep.OwnRows
import Derived.OrdersIn
import Derived.RangeFuncCalls
import Derived.RangeFuncRecord
import Derived.RegionTactic
import Derived.TacticsInMore
namespace Go.Proofs.Ytcijkniijomcjaa
open Go.RowKit Go.Cpl
/-- The cells of an array of ints. -/
def ints (l : List Int) : Array Value := (l.map (Value.int .i64)).toArray
theorem ints_size (l : List Int) : (ints l).size = l.length := by simp [ints]
theorem ints_set (l : List Int) (k : Nat) (v : Int) : (ints l).setIfInBounds k (.int .i64 v) = ints (l.set k v) := by
  simp [ints]
/-- An int of a list (kept shut to the walk). -/
def nthI (l : List Int) (k : Nat) : Int := l.getD k 0
theorem nthI_eq {l : List Int} {k : Nat} (h : k < l.length) : nthI l k = l[k] := by
  simp [nthI, List.getD_eq_getElem?_getD, List.getElem?_eq_getElem h]
theorem ints_get {l : List Int} {k : Nat} (h : k < l.length) : (ints l)[k]? = some (.int .i64 (nthI l k)) := by
  simp [ints, nthI_eq h, h]
theorem blk_int {w : World} {g : Nat} {t : TypeId} {l : List Int} (h : Blk w g t (ints l)) {k : Nat} (hk : k < l.length) : w.cell? ⟨g, k, none⟩ = some (.int .i64 (nthI l k)) := by
  rw [h.cell, ints_get hk]
/-- The first k done, the others still as they began. -/
def done {α : Type} (z : α) (f : Nat → α) (n k : Nat) : List α := (List.range n).map fun i => if i < k then f i else z
theorem done_length {α : Type} (z : α) (f : Nat → α) (n k : Nat) : (done z f n k).length = n := by simp [done]
theorem done_set {α : Type} (z : α) (f : Nat → α) (n k : Nat) : (done z f n k).set k (f k) = done z f n (k + 1) := by
  apply List.ext_getElem
  · simp [done]
  · intro i h1 h2
    simp only [done, List.length_map, List.length_range] at h2
    simp only [done, List.getElem_set, List.getElem_map, List.getElem_range]
    by_cases h : k = i
    · subst h; simp
    · rw [if_neg h]
      by_cases h3 : i < k
      · rw [if_pos h3, if_pos (by omega)]
      · rw [if_neg h3, if_neg (by omega)]
theorem done_all {α : Type} (z : α) (f : Nat → α) (n : Nat) : done z f n n = (List.range n).map f := by
  unfold done
  apply List.map_congr_left
  intro i hi
  rw [if_pos (by simpa using hi)]
theorem done_zero {α : Type} (z : α) (f : Nat → α) (n : Nat) : done z f n 0 = List.replicate n z := by
  apply List.ext_getElem
  · simp [done]
  · intro i h1 h2
    simp [done]
/-- Right samples. -/
def Right (xs : List Nat) : Prop := ∀ x ∈ xs, sErr x = 0
theorem right_of {xs : List Nat} : ∀ {k : Nat}, (firstErr xs k).2 = 0 → Right xs := by
  induction xs with
  | nil => intro k _ x hx; cases hx
  | cons y l ih =>
    intro k h x hx
    simp only [firstErr] at h
    by_cases h0 : sErr y = 0
    · rw [if_pos h0] at h
      rcases List.mem_cons.1 hx with rfl | hx
      · exact h0
      · exact ih h x hx
    · rw [if_neg h0] at h; exact absurd h h0
theorem Right.at_ {xs : List Nat} (h : Right xs) {k : Nat} (hk : k < xs.length) : sErr (nth xs k) = 0 := by
  rw [nth_eq hk]; exact h _ (List.getElem_mem hk)
/-- The numbers of a trace. -/
def nums (xs : List Nat) : List Int := (List.range 64).map fun i => num (nth xs i)
theorem nums_length (xs : List Nat) : (nums xs).length = 64 := by simp [nums]
theorem run_toInt {x : Nat} (h : sErr x = 0) (w : World) : (convert 36 3 (.float .f32 x)).run Try.prog w = .ok (.int .i64 (num x)) w :=
  run_convert_float_int w 36 3 .f32 .i64 x (num x) (by rw [Try.underlying36]; rfl) Try.underlying3 (toInt_right h)
theorem row159 : IsRow Try.prog 123 64 := ⟨⟨_, Try.underlying123, rfl⟩, by kernel_rfl⟩
theorem ints_one (l : List Int) : (ints l).all (·.oneCell') = true := by
  rw [Array.all_eq_true_iff_forall_mem]
  intro v hv
  simp only [ints, List.mem_toArray, List.mem_map] at hv
  obtain ⟨n, _, rfl⟩ := hv
  rfl
set_option maxHeartbeats 400000 in
theorem numbersOf_any (g : Nat) (xs : List Nat) (w : World) (hl : xs.length = 64) (hb : Blk w g 38 (trc xs)) (h0 : Right xs) :
    Calls Try.prog 66 #[.pointer (some ⟨g, 0, none⟩)] w fun e w' => e = .returned (.agg (ints (nums xs))) ∧ Below w.heap.size w w' := by
  have HL := Lib.hid hl
  have H0 := Lib.hid h0
  clear hl h0
  have hg := hb.lt
  go_enter Try.func66, Try.ntmps66
  go_wp2
  go_loopw [6] (fun i wr => ∃ k : Nat, k ≤ 64 ∧ i = .int .i64 k ∧ Blk wr w.heap.size 123 (ints (done 0 (fun i => num (nth xs i)) 64 k)) ∧ Below w.heap.size w wr) (fun i _ => 64 - (intOf i).toNat)
  case atStart => exact ⟨0, Nat.zero_le _, rfl, by rw [done_zero]; exact Blk.new w 123 _, (Below.refl _ _).alloc (Nat.le_refl _) _⟩
  case round =>
    obtain ⟨k, hk, rfl, hbk, hbe⟩ := hrel
    have hb' := hb.keep hbe hg
    by_cases hlt : k < 64
    · have i0 : (0 : Int) ≤ (k : Int) := by omega
      have i1 : (k : Int) < 64 := by omega
      have hc : wr.cell? ⟨g, k, none⟩ = some (.float .f32 (nth xs k)) := by rw [hb'.cell, trc_get (by rw [HL.out]; exact hlt)]
      have hcv := run_toInt (H0.out.at_ (k := k) (by rw [HL.out]; exact hlt))
      have hs := blk_int hbk (k := k) (by rw [done_length]; exact hlt)
      have hz := hbk.free k
      generalize nthI (done 0 (fun i => num (nth xs i)) 64 k) k = old at hs
      go_wp2
      go_quiet (fail)
      go_wp2
      go_roundw
      case rel =>
        refine ⟨k + 1, by omega, by go_num, ?_, (below_drewN hbe _).setCell (Nat.le_refl _) _⟩
        have h1 := (hbk.drewN nq).set_ k (.int .i64 (num (nth xs k)))
        rw [ints_set, done_set 0 (fun i => num (nth xs i))] at h1
        exact h1
      case measure => simp [intOf]; omega
    · obtain rfl : k = 64 := by omega
      rw [done_all] at hbk
      change Blk wr w.heap.size 123 (ints (nums xs)) at hbk
      have hsz : (ints (nums xs)).size = 64 := by rw [ints_size, nums_length]
      have HS := Lib.hid hsz
      clear hsz
      go_wp2_with (first | (refine wl_load (o := ⟨some 17, _, _, _, _, _⟩) (by rfl) 123 (.tmp 2) (by rfl) w.heap.size (by rfl) (by exact hbk) (by exact HS.out) row159 ?_) | (refine wl_store (o := ⟨none, _, _, _, _, _⟩) (by rfl) 123 (.tmp 2) (.tmp 17) (by rfl) w.heap.size (ints (nums xs)) (by rfl) (by rfl) (by exact hbk) (by exact HS.out) (by exact HS.out) row159 (by exact ints_one _) ?_; intro w1 hb1 ht1))
      exact bodyPost_ret (res_cell rfl _ rfl hb1 HS.out row159) rfl ⟨rfl, hbe.trans (ht1.below (Nat.le_refl _))⟩
/-- The parts of the analytic sample at a place. -/
def reP (l : List Int) (t : Nat) : Int := nthI l t - nthI l (t + 2)
def imP (l : List Int) (t : Nat) : Int := nthI l (t + 1) - nthI l (t + 3)
theorem slice4 (g t : Nat) (ht : t ≤ 60) (W : World) : (Instr.sliceAt 123 (.pointer (some ⟨g, 0, none⟩)) (some (.int .i64 (t : Int))) (some (.int .i64 ((t : Int) + 4))) none).run Try.prog W = .ok (.slice (some ⟨g, t, none⟩) 4 (64 - t)) W := by
  have hs : ∀ W, (sizeOf (Try.prog.elem 123)).run Try.prog W = .ok 1 W := fun W => by kernel_rfl
  have hn : Try.prog.arrayLen 123 = 64 := by kernel_rfl
  rw [run_sliceAt_array_lh (P := Try.prog) W 123 ⟨g, 0, none⟩ (by kernel_rfl) .i64 .i64 (t : Int) ((t : Int) + 4) (by omega) (by omega) (by rw [hn]; omega), hs W, hn]
  simp only [Result.andThen_ok, slicedAt]
  rw [if_neg (by omega), Nat.mul_one, Int.toNat_natCast, add_zero_off, show ((t : Int) + 4).toNat - t = 4 by omega]
theorem array4 (g t c : Nat) (W : World) : (Instr.arrayAt 170 (.slice (some ⟨g, t, none⟩) 4 c)).run Try.prog W = .ok (.pointer (some ⟨g, t, none⟩)) W := run_arrayAt W 170 _ 4 _ 4 c Try.underlying170 (Nat.le_refl _)
set_option maxHeartbeats 400000 in
theorem parts_any (g t : Nat) (l : List Int) (w : World) (hl : l.length = 64) (ht : t ≤ 60) (hb : Blk w g 123 (ints l)) (hr : ∀ k, -2047 ≤ nthI l k ∧ nthI l k ≤ 2047) :
    Calls Try.prog 95 #[.pointer (some ⟨g, 0, none⟩), .int .i64 t] w fun e w' => e = .returned (.tuple #[.int .i64 (reP l t), .int .i64 (imP l t)]) ∧ Below w.heap.size w w' := by
  have i0 : (0 : Int) ≤ (t : Int) := by omega
  have i1 : (t : Int) ≤ 60 := by omega
  have c0 := blk_int hb (k := t) (by omega)
  have c1 := blk_int hb (k := t + 1) (by omega)
  have c2 := blk_int hb (k := t + 2) (by omega)
  have c3 := blk_int hb (k := t + 3) (by omega)
  have r0 := hr t
  have r1 := hr (t + 1)
  have r2 := hr (t + 2)
  have r3 := hr (t + 3)
  unfold reP imP
  generalize nthI l t = n0 at *
  generalize nthI l (t + 1) = n1 at *
  generalize nthI l (t + 2) = n2 at *
  generalize nthI l (t + 3) = n3 at *
  have hsl := slice4 g t ht
  have har := array4 g t (64 - t)
  clear hl hb hr
  go_enter Try.func95, Try.ntmps95
  go_wp2
  have e1 : IntKind.i64.wrap (n0 - n2) = n0 - n2 := IntWalk.i64_in _ (by omega)
  have e2 : IntKind.i64.wrap (n1 - n3) = n1 - n3 := IntWalk.i64_in _ (by omega)
  go_quiet (fail)
  clear e1 e2
  go_wp2
  go_ret2
  exact ⟨rfl, below_drewN ((Below.refl _ _).alloc (Nat.le_refl _) _) _⟩
theorem sq_bound {x : Int} {b : Nat} (h1 : -(b : Int) ≤ x) (h2 : x ≤ (b : Int)) : 0 ≤ x * x ∧ x * x ≤ (b : Int) * (b : Int) := by
  have h3 : x * x = ((x.natAbs * x.natAbs : Nat) : Int) := by rw [Int.natAbs_mul_self]
  have h4 : x.natAbs * x.natAbs ≤ b * b := Nat.mul_le_mul (by omega) (by omega)
  constructor
  · rw [h3]; omega
  · rw [h3, ← Int.natCast_mul]; omega
/-- Its square. -/
def sqP (l : List Int) (t : Nat) : Int := reP l t * reP l t + imP l t * imP l t
theorem reP_bound {l : List Int} (hr : ∀ k, -2047 ≤ nthI l k ∧ nthI l k ≤ 2047) (t : Nat) : -4094 ≤ reP l t ∧ reP l t ≤ 4094 := by
  have := hr t; have := hr (t + 2); unfold reP; omega
theorem imP_bound {l : List Int} (hr : ∀ k, -2047 ≤ nthI l k ∧ nthI l k ≤ 2047) (t : Nat) : -4094 ≤ imP l t ∧ imP l t ≤ 4094 := by
  have := hr (t + 1); have := hr (t + 3); unfold imP; omega
theorem sqP_bound {l : List Int} (hr : ∀ k, -2047 ≤ nthI l k ∧ nthI l k ≤ 2047) (t : Nat) : 0 ≤ sqP l t ∧ sqP l t ≤ 33521672 := by
  have h1 := reP_bound hr t
  have h2 := imP_bound hr t
  have b1 := sq_bound (b := 4094) h1.1 h1.2
  have b2 := sq_bound (b := 4094) h2.1 h2.2
  unfold sqP
  omega
set_option maxHeartbeats 400000 in
theorem square_any (g t : Nat) (l : List Int) (w : World) (hl : l.length = 64) (ht : t ≤ 60) (hb : Blk w g 123 (ints l)) (hr : ∀ k, -2047 ≤ nthI l k ∧ nthI l k ≤ 2047) :
    Calls Try.prog 94 #[.pointer (some ⟨g, 0, none⟩), .int .i64 t] w fun e w' => e = .returned (.int .i64 (sqP l t)) ∧ Below w.heap.size w w' := by
  have h1 := reP_bound hr t
  have h2 := imP_bound hr t
  have b1 := sq_bound (b := 4094) h1.1 h1.2
  have b2 := sq_bound (b := 4094) h2.1 h2.2
  have HP := Lib.hid (fun W hbW => parts_any g t l W hl ht hbW hr)
  unfold sqP
  generalize reP l t = re at *
  generalize imP l t = im at *
  clear hl hr
  go_enter Try.func94, Try.ntmps94
  go_wp2_with (go_at_call 95; refine (HP.out _ hb).mono ?_; rintro e w' ⟨rfl, hbe⟩)
  go_ret
  exact ⟨rfl, hbe⟩
end Go.Proofs.Ytcijkniijomcjaa
namespace Go.Proofs.Ytcijkniijomcjaa
open Go.RowKit Go.Cpl
/-- The cells of an array of samples with whole parts. -/
def cxs (l : List (Int × Int)) : Array Value := (l.map fun p => Value.complex .f32 (floatOfInt .f32 p.1) (floatOfInt .f32 p.2)).toArray
theorem zero159 : ((Try.prog.info? 123).bind (·.zero)).map (·.cells) = some (ints (List.replicate 64 0)) := by kernel_rfl
theorem nums_range {xs : List Nat} (hl : xs.length = 64) (h : Right xs) (k : Nat) : -2047 ≤ nthI (nums xs) k ∧ nthI (nums xs) k ≤ 2047 := by
  by_cases hk : k < 64
  · rw [nthI_eq (by rw [nums_length]; exact hk)]
    simp only [nums, List.getElem_map, List.getElem_range]
    exact (sErr_zero (h.at_ (by omega))).2
  · have : nthI (nums xs) k = 0 := by simp [nthI, List.getElem?_eq_none (show (nums xs).length ≤ k by rw [nums_length]; omega)]
    omega
attribute [local go_sem] run_store_complex
end Go.Proofs.Ytcijkniijomcjaa
namespace Go.Cpl
theorem tmod_neg_eq {n by_ : Int} (hn : n < 0) : n.tdiv by_ = -((-n) / by_) ∧ n.tmod by_ = -((-n) % by_) := by
  have e : n = -(-n) := by omega
  constructor
  · conv => lhs; rw [e]
    rw [Int.neg_tdiv, Int.tdiv_eq_ediv_of_nonneg (by omega)]
  · conv => lhs; rw [e]
    rw [Int.neg_tmod, Int.tmod_eq_emod_of_nonneg (by omega)]
theorem ediv_of_neg {n by_ : Int} (hn : n < 0) (hb : 1 ≤ by_) : n / by_ = if n.tmod by_ < 0 then n.tdiv by_ - 1 else n.tdiv by_ := by
  obtain ⟨e1, e2⟩ := tmod_neg_eq hn
  rw [e1, e2]
  have h1 := Int.mul_ediv_add_emod (-n) by_
  have h2 := Int.emod_nonneg (-n) (b := by_) (by omega)
  have h3 := Int.emod_lt_of_pos (-n) (b := by_) (by omega)
  have k1 := Int.mul_ediv_add_emod n by_
  have k2 := Int.emod_nonneg n (b := by_) (by omega)
  have k3 := Int.emod_lt_of_pos n (b := by_) (by omega)
  generalize (-n) / by_ = q at *
  generalize (-n) % by_ = r at *
  generalize n / by_ = p at *
  generalize n % by_ = s at *
  have key : by_ * (p + q) = -(r + s) := by rw [Int.mul_add]; omega
  by_cases hr : r = 0
  · subst hr
    rw [if_neg (by omega)]
    have h0 : p + q = 0 := by
      have hlt : by_ * (p + q) > by_ * (-1) := by rw [key]; omega
      have hle : by_ * (p + q) ≤ by_ * 0 := by rw [key]; omega
      have a1 := Int.lt_of_mul_lt_mul_left hlt (by omega)
      have a2 := Int.le_of_mul_le_mul_left hle (by omega)
      omega
    omega
  · rw [if_pos (by omega)]
    have h0 : p + q = -1 := by
      have hlt : by_ * (p + q) > by_ * (-2) := by rw [key]; omega
      have hle : by_ * (p + q) < by_ * 0 := by rw [key]; omega
      have a1 := Int.lt_of_mul_lt_mul_left hlt (by omega)
      have a2 := Int.lt_of_mul_lt_mul_left hle (by omega)
      omega
    omega
theorem tdiv_bound {n by_ : Int} (h1 : -100000000000000000 ≤ n) (h2 : n ≤ 100000000000000000) : -100000000000000000 ≤ n.tdiv by_ ∧ n.tdiv by_ ≤ 100000000000000000 := by
  have h : (n.tdiv by_).natAbs ≤ n.natAbs := by rw [Int.natAbs_tdiv]; exact Nat.div_le_self _ _
  omega
theorem emod_of_neg {n by_ : Int} (hn : n < 0) (hb : 1 ≤ by_) : n % by_ = if n.tmod by_ < 0 then n.tmod by_ + by_ else n.tmod by_ := by
  have h1 := ediv_of_neg hn hb
  have h2 := Int.mul_ediv_add_emod n by_
  have h3 := Int.mul_tdiv_add_tmod n by_
  by_cases ht : n.tmod by_ < 0
  · rw [if_pos ht] at h1 ⊢
    rw [h1, Int.mul_sub, Int.mul_one] at h2
    omega
  · rw [if_neg ht] at h1 ⊢
    rw [h1] at h2
    omega
theorem tmod_neg_bound {n by_ : Int} (hn : n < 0) (hb : 1 ≤ by_) : -by_ < n.tmod by_ ∧ n.tmod by_ ≤ 0 := by
  have h6 := (tmod_neg_eq (by_ := by_) hn).2
  have h7 := Int.emod_nonneg (-n) (b := by_) (by omega)
  have h8 := Int.emod_lt_of_pos (-n) (b := by_) (by omega)
  omega
end Go.Cpl
namespace Go.Proofs.Ytcijkniijomcjaa
open Go.RowKit Go.Cpl
attribute [local go_sem high] run_max_mx run_min_mn
attribute [local go_sem] run_store_float
theorem zero26 : ((Try.prog.info? 38).bind (·.zero)).map (·.cells) = some (trc (List.replicate 64 0)) := by kernel_rfl
theorem trc_one (l : List Nat) : (trc l).all (·.oneCell') = true := by
  rw [Array.all_eq_true_iff_forall_mem]
  intro v hv
  simp only [trc, List.mem_toArray, List.mem_map] at hv
  obtain ⟨n, _, rfl⟩ := hv
  rfl
theorem trc_set (l : List Nat) (k x : Nat) : (trc l).setIfInBounds k (.float .f32 x) = trc (l.set k x) := by simp [trc]
theorem blk_fl {w : World} {g : Nat} {t : TypeId} {l : List Nat} (h : Blk w g t (trc l)) {k : Nat} (hk : k < l.length) : w.cell? ⟨g, k, none⟩ = some (.float .f32 (nth l k)) := by
  rw [h.cell, trc_get hk]
set_option maxHeartbeats 400000 in
theorem Mod_any (n by_ : Int) (w : World) (hb : 1 ≤ by_) (hB : by_ ≤ 1000000000000) :
    Calls Try.prog 49 #[.int .i64 n, .int .i64 by_] w fun e w' => e = .returned (.int .i64 (n % by_)) ∧ w = w' := by
  have h3 := Int.emod_nonneg n (b := by_) (by omega)
  have h4 := Int.emod_lt_of_pos n (b := by_) (by omega)
  by_cases hn : 0 ≤ n
  · go_enter Try.func49, Try.ntmps49
    go_wp2
    go_ret
    exact ⟨rfl, rfl⟩
  · have e := emod_of_neg (by omega : n < 0) hb
    have h5 := tmod_neg_bound (by omega : n < 0) hb
    by_cases ht : n.tmod by_ < 0
    · rw [if_pos ht] at e
      rw [e]
      clear e
      go_enter Try.func49, Try.ntmps49
      go_wp2
      go_ret
      exact ⟨rfl, rfl⟩
    · rw [if_neg ht] at e
      rw [e]
      clear e
      go_enter Try.func49, Try.ntmps49
      go_wp2
      go_ret
      exact ⟨rfl, rfl⟩
/-- The words of a spike. -/
def spike (at_ v : Int) : List Nat := (List.replicate 64 0).set (at_ % 64).toNat (floatOfInt .f32 (mx (-2047) (mn 2047 v)))
theorem spike_length (a v : Int) : (spike a v).length = 64 := by simp [spike]
set_option maxHeartbeats 400000 in
theorem Spike_any (a v : Int) (w : World) :
    Calls Try.prog 54 #[.int .i64 a, .int .i64 v] w fun e w' => e = .returned (.agg (trc (spike a v))) ∧ Below w.heap.size w w' := by
  have h3 := Int.emod_nonneg a (b := 64) (by omega)
  have h4 := Int.emod_lt_of_pos a (b := 64) (by omega)
  have HZ := Lib.hid (show (trc (List.replicate 64 0)).size = 64 by rw [trc_size]; simp)
  have HS := Lib.hid (show (trc (spike a v)).size = 64 by rw [trc_size, spike_length])
  have HB5 := Lib.hid (show ∀ (W : World) (g : Nat), Blk W g 38 (trc (List.replicate 64 0)) → Blk (W.setCell ⟨g, (a % 64).toNat, none⟩ (.float .f32 (floatOfInt .f32 (mx (-2047) (mn 2047 v))))) g 38 (trc (spike a v)) from fun W g hb => by
    have := hb.set_ (a % 64).toNat (.float .f32 (floatOfInt .f32 (mx (-2047) (mn 2047 v))))
    rw [trc_set] at this
    exact this)
  have kB := Kp.refl w
  go_enter Try.func54, Try.ntmps54
  go_wp2_with (first | ((with_reducible refine wlA (some 4) 38 (trc (List.replicate 64 0)) zero26 ?_); intro g4 w4 l4 b4 k4; have o4 := kB.own l4; replace kB := kB.new l4 k4) | ((with_reducible refine wlA (some 5) 38 (trc (List.replicate 64 0)) zero26 ?_); intro g5 w5 l5 b5 k5; have o5 := kB.own l5; have n45 := Nat.lt_of_lt_of_le b4.lt l5; replace kB := kB.new l5 k5; replace b4 := b4.past l5 k5) | (go_at_call 49; refine (Mod_any _ _ _ (by omega) (by omega)).mono ?_; rintro e w6 ⟨rfl, rfl⟩; have c5 := blk_fl b5 (k := (a % 64).toNat) (by simp; omega); have z5 := b5.free (a % 64).toNat) | ((with_reducible refine wlL (some 13) 38 ((HB5.out _ _ b5)) HS.out row26 ?_ ?_); rfl) | ((with_reducible refine wlS 38 (.tmp 4) (.tmp 13) (b4.far (Nat.ne_of_lt n45) _) HZ.out HS.out row26 (trc_one _) ?_ ?_ ?_); rfl; rfl; intro w9 b9 k9; replace kB := (kB.setCell o5 _ _).turn o4 k9))
  exact bodyPost_ret (res_cell rfl _ rfl b9 HS.out row26) rfl ⟨rfl, kB⟩
/-- A pair of a list (kept shut to the walk). -/
def nthP (l : List (Int × Int)) (k : Nat) : Int × Int := l.getD k (0, 0)
theorem nthP_eq {l : List (Int × Int)} {k : Nat} (h : k < l.length) : nthP l k = l[k] := by
  simp [nthP, List.getD_eq_getElem?_getD, List.getElem?_eq_getElem h]
/-- A slice of samples that reads as a list of pairs. -/
def CReads (w : World) (A : Option Addr) (l : List (Int × Int)) : Prop :=
  ∀ k, k < l.length → ∃ ad, A = some ad ∧ w.cell? (ad.add k) = some (.complex .f32 (floatOfInt .f32 (nthP l k).1) (floatOfInt .f32 (nthP l k).2))
end Go.Proofs.Ytcijkniijomcjaa
namespace Go.Cpl
open Go.RowKit
section
variable {P : Program} {ops : Array Oper} {Q : Exit → Act → World → Prop} {n : Sz} {a : Act} {w0 : Base} {w : World} {F : Fm} {L : List Bk} {M : List Rw} {rest : List Oper}
/-- A type whose values are one cell. -/
def scalar (P : Program) (ty : TypeId) : Bool :=
  match P.underlying ty with
  | none => false
  | some (.struct _) | some (.array _ _) => false
  | some _ => true
theorem pv_of {ty : TypeId} {cs : Array Value} {k : Nat} {v : Value} (hs : (P.info? ty).map (·.size) = some 1) (h1 : v.oneCell' = true) (hk : k < cs.size) : putVal P ty cs k v = some (cs.setIfInBounds k v) := by
  have hc : v.cells = #[v] := by cases v <;> first | rfl | (simp [Value.oneCell'] at h1)
  unfold putVal
  rw [hs, hc]
  simp only [List.all_cons, List.all_nil, h1, Bool.and_true, wr]
  rw [show Nat.beq (#[v] : Array Value).size 1 = true from rfl, show Nat.ble (k + 1) cs.size = true by rw [Nat.ble_eq]; omega]
  rfl
/-- The place of an element. -/
def arrLen (P : Program) (t : TypeId) : Option (Nat × Nat) :=
  match P.underlying t with
  | some (.array len e) => (P.info? e).map fun i => (len, i.size)
  | _ => none
theorem ix_arr {t : TypeId} {g o len size : Nat} {i : Int} (k : Nat) (hl : arrLen P t = some (len, size)) (hi : i = (k : Int)) (hk : k < len) (w : World) : (Instr.indexAt t (.pointer (some ⟨g, o, none⟩)) (.int .i64 i)).run P w = .ok (.pointer (some ⟨g, o + k * size, none⟩)) w := by
  unfold arrLen at hl
  split at hl
  · rename_i ln e hu
    cases hI : P.info? e with
    | none => rw [hI] at hl; cases hl
    | some ti =>
      rw [hI] at hl
      simp only [Option.map_some, Option.some.injEq, Prod.mk.injEq] at hl
      obtain ⟨rfl, rfl⟩ := hl
      subst hi
      simp [Instr.indexAt, asIntOf, run_underlying hu, Instr.sureAddr, sizeOf, typeInfo, hI, Addr.add_mid]
      intro h; omega
  · cases hl
theorem ix_arr1 {t : TypeId} {g len : Nat} {i : Int} (k : Nat) (hl : arrLen P t = some (len, 1)) (hi : i = (k : Int)) (hk : k < len) (w : World) : (Instr.indexAt t (.pointer (some ⟨g, 0, none⟩)) (.int .i64 i)).run P w = .ok (.pointer (some ⟨g, k, none⟩)) w := by
  rw [ix_arr k hl hi hk, Nat.zero_add, Nat.mul_one]
theorem ix_sl {t : TypeId} {g o m c e size : Nat} {bytes : Nat} {i : Int} (k : Nat) (he : elemInfo P t = some (e, size, bytes)) (hi : i = (k : Int)) (hk : k < m) (w : World) : (Instr.indexAt t (.slice (some ⟨g, o, none⟩) m c) (.int .i64 i)).run P w = .ok (.pointer (some ⟨g, o + k * size, none⟩)) w := by
  obtain ⟨ti, z, q1, q2, q3, q4, q5, q6, q7⟩ := elemInfo_spec he
  subst hi
  simp [Instr.indexAt, asIntOf, run_underlying q1, sizeOf, typeInfo, q2, q4, Addr.add_mid]
  intro h; omega
theorem ix_sl1 {t : TypeId} {g m c e : Nat} {bytes : Nat} {i : Int} (k : Nat) (he : elemInfo P t = some (e, 1, bytes)) (hi : i = (k : Int)) (hk : k < m) (w : World) : (Instr.indexAt t (.slice (some ⟨g, 0, none⟩) m c) (.int .i64 i)).run P w = .ok (.pointer (some ⟨g, k, none⟩)) w := by
  rw [ix_sl k he hi hk, Nat.zero_add, Nat.mul_one]
/-- Of a slice that came in. -/
theorem ix_x {t : TypeId} {ad : Addr} {m c e : Nat} {bytes : Nat} {i : Int} (k : Nat) (he : elemInfo P t = some (e, 1, bytes)) (hi : i = (k : Int)) (hk : k < m) (w : World) : (Instr.indexAt t (.slice (some ad) m c) (.int .i64 i)).run P w = .ok (.pointer (some (ad.add k))) w := by
  obtain ⟨ti, z, q1, q2, q3, q4, q5, q6, q7⟩ := elemInfo_spec he
  subst hi
  simp [Instr.indexAt, asIntOf, run_underlying q1, sizeOf, typeInfo, q2, q4]
  intro h; omega
theorem g_loadX {ty : TypeId} {x : Operand} {ad : Addr} {v : Value} (hx : evO F x = some (.pointer (some ad))) (hc : w0.w.cell? ad = some v) (hs : scalar P ty = true) : Gives P F w0 L M (.load ty x) v := fun _ _ w hA hS _ _ _ _ _ => by
  have h1 : w.cell? ad = some v := by rw [hS.kp.cell (World.block_lt_of_cell? w0.w ad hc)]; exact hc
  have hi : (isAgg ty).run P w = .ok false w := by
    unfold scalar at hs
    unfold isAgg
    cases hu : P.underlying ty with
    | none => rw [hu] at hs; cases hs
    | some d => rw [hu] at hs; rw [Sem.run_bind, run_underlying hu]; cases d <;> first | rfl | cases hs
  have hl : (loadVar ty ad).run P w = .ok v w := by
    unfold loadVar
    rw [Sem.run_bind, hi]
    simp only [Result.andThen_ok]
    rw [if_neg (by decide), run_load, h1]
  simp only [execOp, hA.ev hx, Instr.loadAt, Instr.sureAddr, Sem.run_bind, Sem.run_pure, Result.andThen_ok, hl]
/-- A call whose result is a slice in new memory. -/
theorem St.gotRow {w' : World} (h : St w0 L M w) (k : Below w.heap.size w w') {v : Value} {e : TypeId} {size m : Nat} {xs : List Value} (ho : w'.ownsRow w.heap.size e size v m xs) : St w0 L (⟨v, e, size, m, xs⟩ :: M) w' := by
  have h' := h.kept k
  have hlo : ∀ g, v.ownBlock = some g → w.heap.size ≤ g := fun g hg => (ho.lt g hg).1
  refine ⟨h'.kq, h'.blk, h'.own, h'.apart, fun r hr => ?_, fun r hr b hb => ?_, List.pairwise_cons.2 ⟨fun r hr => ?_, h'.rr⟩⟩
  · rcases List.mem_cons.1 hr with rfl | hr
    · refine ⟨ho.1, ?_⟩
      rcases ho.2 with hn | ⟨g, cap, cur, hv, hb, rest⟩
      · exact .inl hn
      · exact .inr ⟨g, cap, cur, hv, Nat.le_trans h.kp.size hb, rest⟩
    · exact h'.rows r hr
  · rcases List.mem_cons.1 hr with rfl | hr
    · intro e
      have := hlo _ e
      have := (h.blk b hb).lt
      omega
    · exact h'.rb r hr b hb
  · cases hv : v.ownBlock with
    | none => exact .inl rfl
    | some g =>
      refine .inr ?_
      intro e
      have := hlo g hv
      have := ((h.rows r hr).lt g e.symm).2
      omega
/-- An append in a region that draws. -/
theorem rs_append {Ls : List Bk} {Ms : List Rw} {fuel : Nat} {listed : Array Bool} {d q : Nat} {s x : Operand} {t ty : TypeId} {pos : String} {aft : Array Edge} {gd : Option (Nat × Bool)} {e e' : TypeId} {size bytes g m m' c : Nat} {v : Value} {xs : List Value} {cs : Array Value} {o : Bool} (j i : Nat) (news : List Value) (hA : Fr n a F) (hS : St w0 L M w) (hsub : Ls.Sublist L) (hsm : ∀ r : Rw, Ms.Sublist (M.set j r)) (he : elemInfo P t = some (e, size, bytes))
    (hs : evO F s = some v) (hx : evO F x = some (.slice (some ⟨g, 0, none⟩) m' c)) (hj : M[j]? = some ⟨v, e, size, m, xs⟩) (hi : L[i]? = some ⟨g, e', cs, o⟩) (hn : cs.toList.take (m' * size) = news) (hl0 : Nat.ble (m' * size) cs.size = true) (h1 : news.all (·.oneCell') = true)
    (h63 : (m + m') * 140737488355328 ≤ 140737488355328 * 140737488355328) (hbytes : (m + m') * bytes ≤ 140737488355328)
    (hq : ops[q]? = some ⟨some d, .call ⟨.builtin .append, #[s, x], #[t, t]⟩, ty, pos, aft, gd⟩) (hw : Region.wanted ⟨some d, .call ⟨.builtin .append, #[s, x], #[t, t]⟩, ty, pos, aft, gd⟩ (yielded ops a.tmps) = true) (hd : Nat.blt d n = true)
    (k : ∀ v' a' w', Fr n a' ((d, v') :: F) → St w0 L (M.set j ⟨v', e, size, m + m', xs ++ news⟩) w' → wpAnyH P .any ops Q (St w0 Ls Ms) fuel (listed.setIfInBounds q true) a' w') : RS P ops Q (St w0 Ls Ms) fuel listed a w q := by
  refine rs_of hq hw ?_
  obtain ⟨ti, z, q1, q2, q3, q4, q5, q6, q7⟩ := elemInfo_spec he
  have hl := Nat.le_of_ble_eq_true hl0
  have hlen : news.length = m' * size := by rw [← hn, List.length_take]; simp; omega
  obtain ⟨v', w', hr, hS'⟩ := run_append_st q1 q2 q3 q4 q5 q6 q7 hS j hj (c := c) hlen (by rw [← hn]; exact cells_of_blk (hS.get i hi)) (fun u hu => (List.all_eq_true.1 h1) u hu) (by unfold maxLen; omega) hbytes ty
  unfold Oper.wp execOp
  simp only [resolve, invoke, builtin, Sem.run_bind, Sem.run_pure, Result.andThen_ok, List.map_toArray, List.map_cons, List.map_nil, hA.ev hs, hA.ev hx, hr]
  exact ⟨hS'.sub hsub (hsm _), k v' _ w' (hA.put (blt_lt hd) v') hS'⟩
end
/-- A cell of the part of a block that is known. -/
theorem cur_get {cur : Array Value} {m : Nat} {xs : List Value} (h : cur.toList.take m = xs) {k : Nat} {v : Value} (hv : xs[k]? = some v) : cur[k]? = some v := by
  rw [← h, List.getElem?_take] at hv
  split at hv
  · simpa using hv
  · cases hv
end Go.Cpl
namespace Go.Proofs.Ytcijkniijomcjaa
open Go.Cpl Go.RowKit
theorem cxs_get2 {l : List (Int × Int)} {k : Nat} (h : k < l.length) : (cxs l)[k]? = some (.complex .f32 (floatOfInt .f32 (nthP l k).1) (floatOfInt .f32 (nthP l k).2)) := by simp [cxs, nthP_eq h, h]
/-- The cells of a slice of ints. -/
def rowI (l : List Int) : List Value := l.map (Value.int .i64)
theorem rowI_get {l : List Int} {k : Nat} (h : k < l.length) : (rowI l)[k]? = some (.int .i64 (nthI l k)) := by simp [rowI, nthI_eq h, h]
/-- A slice of ints that came in, nil let in. -/
def IReads (w : World) (A : Option Addr) (l : List Int) : Prop := ∀ k, k < l.length → ∃ ad, A = some ad ∧ w.cell? (ad.add k) = some (.int .i64 (nthI l k))
theorem IReads.kept {w w' : World} {A : Option Addr} {l : List Int} (h : IReads w A l) (hk : Kp w w') : IReads w' A l := by
  intro k hk'
  obtain ⟨ad, rfl, hc⟩ := h k hk'
  exact ⟨ad, rfl, by rw [hk.cell (p := ad.add k) (World.block_lt_of_cell? w _ hc)]; exact hc⟩
theorem CReads.of_blk {w : World} {g : Nat} {t : TypeId} {l : List (Int × Int)} (h : Blk w g t (cxs l)) : CReads w (some ⟨g, 0, none⟩) l := by
  intro k hk
  exact ⟨_, rfl, by rw [add_zero_off, h.cell, cxs_get2 hk]⟩
end Go.Proofs.Ytcijkniijomcjaa
/-! A block of the call's own as a slice that may grow. -/
namespace Go.Proofs.Ytcijkniijomcjaa
open Go.RowKit Go.Cpl
theorem St.toRow {w0 : Base} {w : World} {L : List Bk} {M : List Rw} (h : St w0 L M w) (i : Nat) {g n size : Nat} {e : TypeId} {cs : Array Value} (hi : L[i]? = some ⟨g, e, cs, true⟩) (hs : cs.size = n * size) (hm : n ≤ maxLen) :
    St w0 (L.eraseIdx i) (⟨.slice (some ⟨g, 0, none⟩) n n, e, size, n, cs.toList⟩ :: M) w := by
  have hmem := List.mem_of_getElem? hi
  have hb := h.blk _ hmem
  have hown := h.own _ hmem rfl
  have hlt : i < L.length := by
    rcases Nat.lt_or_ge i L.length with h3 | h3
    · exact h3
    · rw [List.getElem?_eq_none h3] at hi; cases hi
  have hget : L[i] = ⟨g, e, cs, true⟩ := by rw [List.getElem?_eq_getElem hlt] at hi; exact Option.some.inj hi
  have hpw := List.pairwise_iff_getElem.1 h.apart
  have hne : ∀ b ∈ L.eraseIdx i, b.g ≠ g := by
    intro b hb' e'
    obtain ⟨j, hjl, hj, rfl⟩ := List.mem_eraseIdx_iff_getElem.1 hb'
    rcases Nat.lt_or_gt_of_ne hj with q | q
    · exact hpw j i hjl hlt q (by rw [hget]; exact .inr rfl) (by rw [hget]; exact e')
    · exact hpw i j hlt hjl q (by rw [hget]; exact .inl rfl) (by rw [hget]; exact e'.symm)
  have hsub : ∀ b ∈ L.eraseIdx i, b ∈ L := fun b hb' => List.mem_of_mem_eraseIdx hb'
  refine ⟨h.kq, fun b hb' => h.blk b (hsub b hb'), fun b hb' => h.own b (hsub b hb'), h.apart.sublist (List.eraseIdx_sublist ..), fun r hr => ?_, fun r hr b hb' => ?_, List.pairwise_cons.2 ⟨fun r hr => ?_, h.rr⟩⟩
  · rcases List.mem_cons.1 hr with rfl | hr
    · refine ⟨by rw [Array.length_toList, hs], .inr ⟨g, n, cs, rfl, hown, hb, Nat.le_refl _, hm, hs, ?_⟩⟩
      rw [← hs]; exact List.take_of_length_le (by rw [Array.length_toList]; exact Nat.le_refl _)
    · exact h.rows r hr
  · rcases List.mem_cons.1 hr with rfl | hr
    · intro e'; exact hne b hb' (Option.some.inj e').symm
    · exact h.rb r hr b (hsub b hb')
  · exact .inr fun e' => h.rb r hr _ hmem e'.symm
end Go.Proofs.Ytcijkniijomcjaa
/-! Slices whose elements are structs of ints, as flat lists of ints: that came in, or of the call's own. -/
namespace Go.Proofs.Ytcijkniijomcjaa
open Go.RowKit Go.Cpl
theorem Addr.add_add (a : Addr) (i j : Nat) : (a.add i).add j = a.add (i + j) := by
  unfold Addr.add
  by_cases h1 : i = 0
  · subst h1; simp
  · by_cases h2 : j = 0
    · subst h2; simp [h1]
    · simp [h1, h2, Nat.add_assoc]
theorem rowI_reads2 {w : World} {base : Nat} {e : TypeId} {v : Value} {size m : Nat} {l : List Int} (h : w.ownsRow base e size v m (rowI l)) : l.length = m * size ∧ ∃ A cap, v = .slice A m cap ∧ IReads w A l := by
  have hl : l.length = m * size := by have := h.1; simpa [rowI] using this
  refine ⟨hl, ?_⟩
  rcases h.2 with ⟨rfl, rfl⟩ | ⟨g, cap, cur, rfl, _, hgg, _, _, _, ht⟩
  · exact ⟨none, 0, rfl, fun k hk => by omega⟩
  · refine ⟨_, cap, rfl, fun k hk => ⟨_, rfl, ?_⟩⟩
    rw [add_zero_off, Blk.cell (t := e) (cs := cur) hgg]
    exact cur_get ht (rowI_get hk)
theorem row_ir {w : World} {base : Nat} {e : TypeId} {A : Option Addr} {size m m' cap : Nat} {l : List Int} (h : w.ownsRow base e size (.slice A m cap) m' (rowI l)) : IReads w A l := by
  obtain ⟨_, A', cap', hv, hr⟩ := rowI_reads2 h
  cases hv
  exact hr
/-- A struct, read cell by cell. -/
def flat (l : List Int) (k s : Nat) : List Value := (List.range s).map fun i => .int .i64 (nthI l (k + i))
theorem flat_reads {w : World} {ad : Addr} {l : List Int} (h : IReads w (some ad) l) {k s : Nat} (hk : k + s ≤ l.length) : ∀ j v, (flat l k s)[j]? = some v → w.cell? ((ad.add k).add j) = some v := by
  intro j v hv
  unfold flat at hv
  rw [List.getElem?_map] at hv
  cases hj : (List.range s)[j]? with
  | none => rw [hj] at hv; cases hv
  | some i =>
    rw [hj] at hv
    simp only [Option.map_some, Option.some.injEq] at hv
    have hjs : j < s := by
      rcases Nat.lt_or_ge j s with q | q
      · exact q
      · rw [List.getElem?_eq_none (by simpa using q)] at hj; cases hj
    rw [List.getElem?_range hjs] at hj
    obtain rfl := Option.some.inj hj
    subst hv
    obtain ⟨ad', e, hc⟩ := h (k + j) (by omega)
    obtain rfl := Option.some.inj e
    rw [Addr.add_add]
    exact hc
section
variable {P : Program} {ops : Array Oper} {Q : Exit → Act → World → Prop} {n : Sz} {a : Act} {w0 : Base} {w : World} {F : Fm} {L : List Bk} {M : List Rw} {rest : List Oper}
theorem run_loadVar_list {w : World} {ad : Addr} {ty : TypeId} {cs : List Value} {d : TypeDesc} (hc : ∀ j v, cs[j]? = some v → w.cell? (ad.add j) = some v)
    (hu : P.underlying ty = some d) (hd : d.isRow = true) (hi : (P.info? ty).map (·.size) = some cs.length) : (loadVar ty ad).run P w = .ok (.agg cs.toArray) w := by
  have hl : (loadCells ad cs.length).run P w = .ok cs.toArray w := run_loadCells_list (P := P) w ad cs hc
  cases hq : P.info? ty with
  | none => simp [hq] at hi
  | some i =>
    have hs : i.size = cs.length := by simpa [hq] using hi
    have hagg : (isAgg ty).run P w = .ok true w := by
      unfold isAgg
      rw [Sem.run_bind, run_underlying hu w]
      cases d <;> simp_all
    simp [loadVar, Sem.run_bind, hagg, sizeOf, typeInfo, hq, hs, hl]
/-- A struct of s ints. -/
def rowType (P : Program) (ty : TypeId) (s : Nat) : Bool :=
  match P.underlying ty with
  | some d => d.isRow && decide ((P.info? ty).map (·.size) = some s)
  | none => false
theorem rowType_spec {ty : TypeId} {s : Nat} (h : rowType P ty s = true) : ∃ d, P.underlying ty = some d ∧ d.isRow = true ∧ (P.info? ty).map (·.size) = some s := by
  unfold rowType at h
  cases hu : P.underlying ty with
  | none => rw [hu] at h; cases h
  | some d =>
    rw [hu] at h
    simp only [Bool.and_eq_true, decide_eq_true_eq] at h
    exact ⟨d, rfl, h.1, h.2⟩
theorem flat_length (l : List Int) (k s : Nat) : (flat l k s).length = s := by simp [flat]
/-- A struct of a slice that came in. -/
theorem g_loadXS {ty : TypeId} {x : Operand} {ad : Addr} {l : List Int} {k : Nat} (s : Nat) {v : Value} (hx : evO F x = some (.pointer (some (ad.add k)))) (hr : IReads w0.w (some ad) l) (hk : k + s ≤ l.length) (ht : rowType P ty s = true) (hv : v = .agg (flat l k s).toArray) : Gives P F w0 L M (.load ty x) v := fun _ _ w hA hS _ _ _ _ _ => by
  subst hv
  obtain ⟨d, hu, hd, hi⟩ := rowType_spec ht
  have h1 := flat_reads (hr.kept hS.kp) hk
  simp only [execOp, hA.ev hx, Instr.loadAt, Instr.sureAddr, Sem.run_bind, Sem.run_pure, Result.andThen_ok, run_loadVar_list h1 hu hd (by rw [hi, flat_length])]
/-- An int of such a slice. -/
theorem g_loadXI {ty : TypeId} {x : Operand} {ad : Addr} {l : List Int} {k : Nat} (hx : evO F x = some (.pointer (some (ad.add k)))) (hr : IReads w0.w (some ad) l) (hk : k < l.length) (hs : scalar P ty = true) : Gives P F w0 L M (.load ty x) (.int .i64 (nthI l k)) := by
  obtain ⟨ad', e, hc⟩ := hr k hk
  obtain rfl := Option.some.inj e
  exact g_loadX hx hc hs
/-- A struct, or an int, of a slice of the call's own. -/
theorem g_loadRS {ty : TypeId} {x : Operand} {ad : Addr} {l : List Int} {k : Nat} (j s : Nat) {v : Value} {e : TypeId} {size m m' cap : Nat} (hx : evO F x = some (.pointer (some (ad.add k)))) (hj : M[j]? = some ⟨.slice (some ad) m cap, e, size, m', rowI l⟩) (hk : k + s ≤ l.length) (ht : rowType P ty s = true) (hv : v = .agg (flat l k s).toArray) : Gives P F w0 L M (.load ty x) v := fun _ _ w hA hS _ _ _ _ _ => by
  subst hv
  obtain ⟨d, hu, hd, hi⟩ := rowType_spec ht
  have h1 := flat_reads (row_ir (hS.row j hj)) hk
  simp only [execOp, hA.ev hx, Instr.loadAt, Instr.sureAddr, Sem.run_bind, Sem.run_pure, Result.andThen_ok, run_loadVar_list h1 hu hd (by rw [hi, flat_length])]
theorem g_loadRI {ty : TypeId} {x : Operand} {ad : Addr} {l : List Int} {k : Nat} (j : Nat) {e : TypeId} {size m m' cap : Nat} (hx : evO F x = some (.pointer (some (ad.add k)))) (hj : M[j]? = some ⟨.slice (some ad) m cap, e, size, m', rowI l⟩) (hk : k < l.length) (hs : scalar P ty = true) : Gives P F w0 L M (.load ty x) (.int .i64 (nthI l k)) := fun _ _ w hA hS _ _ _ _ _ => by
  obtain ⟨ad', e, h1⟩ := row_ir (hS.row j hj) k hk
  obtain rfl := Option.some.inj e
  have hi : (isAgg ty).run P w = .ok false w := by
    unfold scalar at hs
    unfold isAgg
    cases hu : P.underlying ty with
    | none => rw [hu] at hs; cases hs
    | some d => rw [hu] at hs; rw [Sem.run_bind, run_underlying hu]; cases d <;> first | rfl | cases hs
  have hl : (loadVar ty (ad.add k)).run P w = .ok (.int .i64 (nthI l k)) w := by
    unfold loadVar
    rw [Sem.run_bind, hi]
    simp only [Result.andThen_ok]
    rw [if_neg (by decide), run_load, h1]
  simp only [execOp, hA.ev hx, Instr.loadAt, Instr.sureAddr, Sem.run_bind, Sem.run_pure, Result.andThen_ok, hl]
/-- The place of an element, and of a field. -/
theorem ix_xs {t : TypeId} {ad : Addr} {m c e size : Nat} {bytes : Nat} {i : Int} (k : Nat) (he : elemInfo P t = some (e, size, bytes)) (hi : i = (k : Int)) (hk : k < m) (w : World) : (Instr.indexAt t (.slice (some ad) m c) (.int .i64 i)).run P w = .ok (.pointer (some (ad.add (k * size)))) w := by
  obtain ⟨ti, z, q1, q2, q3, q4, q5, q6, q7⟩ := elemInfo_spec he
  subst hi
  simp [Instr.indexAt, asIntOf, run_underlying q1, sizeOf, typeInfo, q2, q4]
  intro h; omega
end
theorem rowI_app (l k : List Int) : rowI l ++ rowI k = rowI (l ++ k) := by simp [rowI]
end Go.Proofs.Ytcijkniijomcjaa
/-! Calls whose result holds a slice in new memory. -/
namespace Go.Proofs.Ytcijkniijomcjaa
open Go.RowKit Go.Cpl
theorem row_slice {w : World} {base : Nat} {e : TypeId} {v : Value} {size m : Nat} {xs : List Value} (h : w.ownsRow base e size v m xs) : ∃ A cap, v = .slice A m cap := by
  rcases h.2 with ⟨rfl, rfl⟩ | ⟨g, cap, cur, rfl, _⟩
  · exact ⟨none, 0, rfl⟩
  · exact ⟨_, cap, rfl⟩
section
variable {P : Program} {ops : Array Oper} {Q : Exit → Act → World → Prop} {n : Sz} {a : Act} {w0 : Base} {w : World} {F : Fm} {L : List Bk} {M : List Rw} {rest : List Oper}
theorem s_callRF {d : Nat} {f : FuncId} {fx : Operand} {args : List Operand} {ats : Array TypeId} {ty : TypeId} {pos : String} {aft : Array Edge} {fs cp : Array Value} {r : List (Nat × Value)} (sh : Value → Value) (av : Array Value) {e : TypeId} {size m : Nat} {xs : List Value} (hA : Fr n a F) (hS : St w0 L M w)
    (hc : Calls P f av w fun en w' => ∃ v, en = .returned (sh v) ∧ Below w.heap.size w w' ∧ w'.ownsRow w.heap.size e size v m xs) (hcall : ∀ (vs : Array Value) (w : World), (callFunc f vs).run P w = .ok (.enter f vs) w)
    (hf : evO F fx = some (.func (.func f) fs cp)) (hr : evL F (args.map fun x => (0, x)) = some r) (hav : fs ++ (r.map (·.2)).toArray ++ cp = av) (hd : Nat.blt d n = true)
    (k : ∀ v a' w', Fr n a' ((d, sh v) :: F) → St w0 L (⟨v, e, size, m, xs⟩ :: M) w' → wpList P ops Q rest a' w') : wpList P ops Q (⟨some d, .call ⟨.value fx, args.toArray, ats⟩, ty, pos, aft, none⟩ :: rest) a w := by
  refine wpList_plain rfl fun K hK => ?_
  unfold Oper.wp
  rw [run_call hA hf hr hav hcall]
  refine hc.mono fun en w' ⟨v, he, hb, ho⟩ => ?_
  subst he
  exact hK _ _ (k v _ w' (hA.put (blt_lt hd) _) (hS.gotRow hb ho))
theorem rs_callRF {Ls : List Bk} {Ms : List Rw} {fuel : Nat} {listed : Array Bool} {i d : Nat} {f : FuncId} {fx : Operand} {args : List Operand} {ats : Array TypeId} {ty : TypeId} {pos : String} {aft : Array Edge} {gd : Option (Nat × Bool)} {fs cp : Array Value} {r : List (Nat × Value)} (sh : Value → Value) (av : Array Value) {e : TypeId} {size m : Nat} {xs : List Value} (hA : Fr n a F) (hS : St w0 L M w) (hsub : Ls.Sublist L) (hsm : Ms.Sublist M)
    (hc : Calls P f av w fun en w' => ∃ v, en = .returned (sh v) ∧ Below w.heap.size w w' ∧ w'.ownsRow w.heap.size e size v m xs) (hcall : ∀ (vs : Array Value) (w : World), (callFunc f vs).run P w = .ok (.enter f vs) w)
    (hi : ops[i]? = some ⟨some d, .call ⟨.value fx, args.toArray, ats⟩, ty, pos, aft, gd⟩) (hw : Region.wanted ⟨some d, .call ⟨.value fx, args.toArray, ats⟩, ty, pos, aft, gd⟩ (yielded ops a.tmps) = true)
    (hf : evO F fx = some (.func (.func f) fs cp)) (hr : evL F (args.map fun x => (0, x)) = some r) (hav : fs ++ (r.map (·.2)).toArray ++ cp = av) (hd : Nat.blt d n = true)
    (k : ∀ v a' w', Fr n a' ((d, sh v) :: F) → St w0 L (⟨v, e, size, m, xs⟩ :: M) w' → wpAnyH P .any ops Q (St w0 Ls Ms) fuel (listed.setIfInBounds i true) a' w') : RS P ops Q (St w0 Ls Ms) fuel listed a w i := by
  refine rs_of hi hw ?_
  unfold Oper.wp
  rw [run_call hA hf hr hav hcall]
  refine hc.mono fun en w' ⟨v, he, hb, ho⟩ => ?_
  subst he
  have hn := hS.gotRow hb ho
  exact ⟨(hS.kept hb).sub hsub hsm, k v _ w' (hA.put (blt_lt hd) _) hn⟩
end
end Go.Proofs.Ytcijkniijomcjaa
/-! Slices of floats: that came in, or of the call's own. -/
namespace Go.Proofs.Ytcijkniijomcjaa
open Go.RowKit Go.Cpl
def rowF (xs : List Nat) : List Value := xs.map (.float .f32)
theorem rowF_get {xs : List Nat} {k : Nat} (h : k < xs.length) : (rowF xs)[k]? = some (.float .f32 (nth xs k)) := by simp [rowF, nth_eq h, h]
theorem rowF_app (l k : List Nat) : rowF l ++ rowF k = rowF (l ++ k) := by simp [rowF]
theorem trc_toList (xs : List Nat) : (trc xs).toList = rowF xs := by simp [trc, rowF]
theorem rowF_reads {w : World} {base : Nat} {e : TypeId} {v : Value} {m : Nat} {l : List Nat} (h : w.ownsRow base e 1 v m (rowF l)) : l.length = m ∧ ∃ A cap, v = .slice A m cap ∧ m ≤ cap ∧ FReads w A l := by
  have hl : l.length = m := by have := h.1; simpa [rowF] using this
  refine ⟨hl, ?_⟩
  rcases h.2 with ⟨rfl, rfl⟩ | ⟨g, cap, cur, rfl, _, hgg, hmc, _, _, ht⟩
  · exact ⟨none, 0, rfl, Nat.le_refl _, fun k hk => by omega⟩
  · refine ⟨_, cap, rfl, hmc, fun k hk => ⟨_, rfl, ?_⟩⟩
    rw [add_zero_off, Blk.cell (t := e) (cs := cur) hgg]
    exact cur_get ht (rowF_get hk)
theorem row_fr {w : World} {base : Nat} {e : TypeId} {A : Option Addr} {m m' cap : Nat} {l : List Nat} (h : w.ownsRow base e 1 (.slice A m cap) m' (rowF l)) : FReads w A l := by
  obtain ⟨_, A', cap', hv, _, hr⟩ := rowF_reads h
  cases hv
  exact hr
theorem FReads.kept {w w' : World} {A : Option Addr} {l : List Nat} (h : FReads w A l) (hk : Kp w w') : FReads w' A l := by
  intro k hk'
  obtain ⟨ad, rfl, hc⟩ := h k hk'
  exact ⟨ad, rfl, by rw [hk.cell (p := ad.add k) (World.block_lt_of_cell? w _ hc)]; exact hc⟩
/-- A part of a list of words. -/
def cutF (xs : List Nat) (at_ n : Nat) : List Nat := (List.range n).map fun i => nth xs (at_ + i)
theorem cutF_length (xs : List Nat) (at_ n : Nat) : (cutF xs at_ n).length = n := by simp [cutF]
theorem cutF_nth {xs : List Nat} {at_ n k : Nat} (h : k < n) : nth (cutF xs at_ n) k = nth xs (at_ + k) := by
  rw [nth_eq (by rw [cutF_length]; exact h)]; simp [cutF]
theorem FReads.cut {w : World} {ad : Addr} {l : List Nat} (h : FReads w (some ad) l) {i n : Nat} (hi : i + n ≤ l.length) : ∀ j v, ((trc (cutF l i n)).toList)[j]? = some v → w.cell? ((ad.add i).add j) = some v := by
  intro j v hv
  rw [trc_toList, rowF, List.getElem?_map] at hv
  have hjn : j < n := by
    rcases Nat.lt_or_ge j n with q | q
    · exact q
    · rw [List.getElem?_eq_none (by rw [cutF_length]; exact q)] at hv; cases hv
  obtain ⟨ad', e, hc⟩ := h (i + j) (by omega)
  obtain rfl := Option.some.inj e
  have e2 := cutF_nth (xs := l) (at_ := i) hjn
  rw [nth_eq (by rw [cutF_length]; exact hjn)] at e2
  rw [List.getElem?_eq_getElem (by rw [cutF_length]; exact hjn), e2] at hv
  simp only [Option.map_some, Option.some.injEq] at hv
  subst hv
  rw [Addr.add_add]; exact hc
section
variable {P : Program} {ops : Array Oper} {Q : Exit → Act → World → Prop} {n : Sz} {a : Act} {w0 : Base} {w : World} {F : Fm} {L Ls : List Bk} {M Ms : List Rw} {rest : List Oper} {fuel : Nat} {listed : Array Bool}
/-- A float of a slice that came in. -/
theorem g_loadXF {ty : TypeId} {x : Operand} {ad : Addr} {l : List Nat} {k : Nat} (hx : evO F x = some (.pointer (some (ad.add k)))) (hr : FReads w0.w (some ad) l) (hk : k < l.length) (hs : scalar P ty = true) : Gives P F w0 L M (.load ty x) (.float .f32 (nth l k)) := by
  obtain ⟨ad', e, hc⟩ := hr k hk
  obtain rfl := Option.some.inj e
  exact g_loadX hx hc hs
theorem arr_x {arr e : TypeId} {k : Nat} {A : Option Addr} {m c : Nat} (hu : P.underlying arr = some (.array k e)) (hk : k ≤ m) (w : World) : (Instr.arrayAt arr (.slice A m c)).run P w = .ok (.pointer A) w := run_arrayAt w arr e k A m c hu hk
/-- A slice of floats that came in, behind one of the call's own. -/
theorem run_appendXF {t e : TypeId} {ti : TypeInfo} {z : Value} {bytes : Nat} (ht : P.underlying t = some (.slice e)) (hi : P.info? e = some ti) (hz : ti.zero = some z) (hsize : ti.size = 1) (hby : ti.bytes = bytes) (hzs : z.cells.size = 1)
    (hS : St w0 L M w) (j : Nat) {v : Value} {m : Nat} {xs : List Value} (hj : M[j]? = some ⟨v, e, 1, m, xs⟩) {A : Option Addr} {m' c : Nat} {l : List Nat} (hr : FReads w A l) (hl : l.length = m')
    (h63 : m + m' ≤ maxLen) (hbytes : (m + m') * bytes ≤ 140737488355328) (ty : TypeId) :
    ∃ v' w', (Builtin.append_ #[t, t] ty #[v, .slice A m' c]).run P w = .ok v' w' ∧ St w0 L (M.set j ⟨v', e, 1, m + m', xs ++ rowF l⟩) w' := by
  cases A with
  | some ad =>
    refine run_append_st ht hi hz hsize hby hzs (by omega) hS j hj (by simpa [rowF] using hl) ?_ ?_ h63 hbytes ty
    · intro k u hu
      unfold rowF at hu
      rw [List.getElem?_map] at hu
      cases hk : l[k]? with
      | none => rw [hk] at hu; cases hu
      | some x =>
        rw [hk] at hu
        simp only [Option.map_some, Option.some.injEq] at hu
        subst hu
        have hkl : k < l.length := by
          rcases Nat.lt_or_ge k l.length with q | q
          · exact q
          · rw [List.getElem?_eq_none q] at hk; cases hk
        obtain ⟨ad', e', hc⟩ := hr k hkl
        obtain rfl := Option.some.inj e'
        rw [hc, nth_eq hkl]
        rw [List.getElem?_eq_getElem hkl] at hk
        rw [Option.some.inj hk]
    · intro u hu
      simp only [rowF, List.mem_map] at hu
      obtain ⟨x, _, rfl⟩ := hu
      rfl
  | none =>
    have h0 : l.length = 0 := by
      rcases Nat.eq_zero_or_pos l.length with q | q
      · exact q
      · obtain ⟨ad, e', _⟩ := hr 0 q; cases e'
    obtain rfl := List.eq_nil_of_length_eq_zero h0
    obtain rfl : m' = 0 := by simpa using hl.symm
    have hown := hS.row j hj
    have hrun : (Builtin.append_ #[t, t] ty #[v, .slice none 0 c]).run P w = .ok v w := by
      rcases hown.2 with ⟨hv, _⟩ | ⟨g, cap, cur, hv, _, _, hnc, _, _, _⟩
      · have hv : v = .slice none 0 0 := hv
        subst hv
        simp [Builtin.append_, run_underlying ht, sizeOf, typeInfo, hi, Builtin.lenOf, Builtin.firstCells]
      · have hv : v = .slice (some ⟨g, 0, none⟩) m cap := hv
        have hnc : m ≤ cap := hnc
        subst hv
        simp [Builtin.append_, run_underlying ht, sizeOf, typeInfo, hi, Builtin.lenOf, Builtin.firstCells, hnc, storeCells]
    refine ⟨v, w, hrun, ?_⟩
    have e2 : M.set j ⟨v, e, 1, m + 0, xs ++ rowF []⟩ = M := by
      have hlt : j < M.length := by
        rcases Nat.lt_or_ge j M.length with q | q
        · exact q
        · rw [List.getElem?_eq_none q] at hj; cases hj
      rw [List.getElem?_eq_getElem hlt] at hj
      have : (⟨v, e, 1, m + 0, xs ++ rowF []⟩ : Rw) = M[j] := by rw [Option.some.inj hj]; simp [rowF]
      rw [this, List.set_getElem_self]
    rw [e2]
    exact hS
theorem rs_appendXF {d q : Nat} {s x : Operand} {t ty : TypeId} {pos : String} {aft : Array Edge} {gd : Option (Nat × Bool)} {e : TypeId} {bytes m m' c : Nat} {v : Value} {xs : List Value} {A : Option Addr} {l : List Nat} (j : Nat) (hA : Fr n a F) (hS : St w0 L M w) (hsub : Ls.Sublist L) (hsm : ∀ r : Rw, Ms.Sublist (M.set j r)) (he : elemInfo P t = some (e, 1, bytes))
    (hs : evO F s = some v) (hx : evO F x = some (.slice A m' c)) (hj : M[j]? = some ⟨v, e, 1, m, xs⟩) (hr : FReads w A l) (hl : l.length = m')
    (h63 : (m + m') * 140737488355328 ≤ 140737488355328 * 140737488355328) (hbytes : (m + m') * bytes ≤ 140737488355328)
    (hq : ops[q]? = some ⟨some d, .call ⟨.builtin .append, #[s, x], #[t, t]⟩, ty, pos, aft, gd⟩) (hw : Region.wanted ⟨some d, .call ⟨.builtin .append, #[s, x], #[t, t]⟩, ty, pos, aft, gd⟩ (yielded ops a.tmps) = true) (hd : Nat.blt d n = true)
    (k : ∀ v' a' w', Fr n a' ((d, v') :: F) → St w0 L (M.set j ⟨v', e, 1, m + m', xs ++ rowF l⟩) w' → wpAnyH P .any ops Q (St w0 Ls Ms) fuel (listed.setIfInBounds q true) a' w') : RS P ops Q (St w0 Ls Ms) fuel listed a w q := by
  refine rs_of hq hw ?_
  obtain ⟨ti, z, q1, q2, q3, q4, q5, q6, q7⟩ := elemInfo_spec he
  obtain ⟨v', w', hr', hS'⟩ := run_appendXF q1 q2 q3 q4 q5 q6 hS j hj (c := c) hr hl (by unfold maxLen; omega) hbytes ty
  unfold Oper.wp execOp
  simp only [resolve, invoke, builtin, Sem.run_bind, Sem.run_pure, Result.andThen_ok, List.map_toArray, List.map_cons, List.map_nil, hA.ev hs, hA.ev hx, hr']
  exact ⟨hS'.sub hsub (hsm _), k v' _ w' (hA.put (blt_lt hd) v') hS'⟩
/-- A slice type, and its elements. -/
def sliceOf (P : Program) (t : TypeId) : Option TypeId :=
  match P.underlying t with
  | some (.slice e) => some e
  | _ => none
theorem sliceOf_spec {t e : TypeId} (h : sliceOf P t = some e) : P.underlying t = some (.slice e) := by
  unfold sliceOf at h
  split at h
  · rename_i u hu
    rw [hu, Option.some.inj h]
  · cases h
/-- A new slice of floats that are 0, in a region that draws. -/
theorem rs_make {i d : Nat} {lo co : Operand} {t ty : TypeId} {pos : String} {aft : Array Edge} {gd : Option (Nat × Bool)} {e : TypeId} {bytes : Nat} (N : Nat) {x y : Int} (hA : Fr n a F) (hS : St w0 L M w) (hsub : Ls.Sublist L) (hsm : Ms.Sublist M) (ht : sliceOf P t = some e) (hinfo : (P.info? e).map (fun i => (i.zero, i.size, i.bytes)) = some (some (.float .f32 0), 1, bytes))
    (hx : evO F lo = some (.int .i64 x)) (hy : evO F co = some (.int .i64 y)) (ex : x = (N : Int)) (ey : y = (N : Int)) (hb : bytes * N ≤ 281474976710656) (h63 : N ≤ 9223372036854775807)
    (hi : ops[i]? = some ⟨some d, .makeSlice t lo co, ty, pos, aft, gd⟩) (hw : Region.wanted ⟨some d, .makeSlice t lo co, ty, pos, aft, gd⟩ (yielded ops a.tmps) = true) (hd : Nat.blt d n = true)
    (k : ∀ g a' w', Fr n a' ((d, .slice (some ⟨g, 0, none⟩) N N) :: F) → St w0 (⟨g, e, trc (List.replicate N 0), true⟩ :: L) M w' → wpAnyH P .any ops Q (St w0 Ls Ms) fuel (listed.setIfInBounds i true) a' w') : RS P ops Q (St w0 Ls Ms) fuel listed a w i := by
  refine rs_of hi hw ?_
  subst ex; subst ey
  have hrun := run_make_row' (P := P) t e (.float .f32 0) bytes (sliceOf_spec ht) hinfo rfl .i64 .i64 N hb h63 w
  have ec : madeCells #[Value.float .f32 0] N = trc (List.replicate N 0) := by
    apply Array.ext
    · simp [size_madeCells, trc]
    · intro i h1 h2
      simp [madeCells, trc, Nat.mod_one]
  rw [ec] at hrun
  have hn := hS.new (Nat.le_refl _) (Blk.new w e (trc (List.replicate N 0))) ((Below.refl _ _).alloc (Nat.le_refl _) _)
  have h' := k w.heap.size _ _ (hA.put (blt_lt hd) (.slice (some ⟨w.heap.size, 0, none⟩) N N)) hn
  unfold Oper.wp execOp
  simp only [Sem.run_bind, Sem.run_pure, Result.andThen_ok, hA.ev hx, hA.ev hy, hrun]
  exact ⟨hn.tail.sub hsub hsm, h'⟩
end
theorem St.closeRow {w0 : Base} {w : World} {L : List Bk} {M : List Rw} (h : St w0 L M w) (i : Nat) {g n c size : Nat} {e : TypeId} {cs : Array Value} {xs : List Value} (hi : L[i]? = some ⟨g, e, cs, true⟩) (hs : cs.size = c * size) (hn : n ≤ c) (hm : c ≤ maxLen) (hx : cs.toList.take (n * size) = xs) :
    St w0 (L.eraseIdx i) (⟨.slice (some ⟨g, 0, none⟩) n c, e, size, n, xs⟩ :: M) w := by
  have hmem := List.mem_of_getElem? hi
  have hb := h.blk _ hmem
  have hown := h.own _ hmem rfl
  have hlt : i < L.length := by
    rcases Nat.lt_or_ge i L.length with h3 | h3
    · exact h3
    · rw [List.getElem?_eq_none h3] at hi; cases hi
  have hget : L[i] = ⟨g, e, cs, true⟩ := by rw [List.getElem?_eq_getElem hlt] at hi; exact Option.some.inj hi
  have hpw := List.pairwise_iff_getElem.1 h.apart
  have hne : ∀ b ∈ L.eraseIdx i, b.g ≠ g := by
    intro b hb' e'
    obtain ⟨j, hjl, hj, rfl⟩ := List.mem_eraseIdx_iff_getElem.1 hb'
    rcases Nat.lt_or_gt_of_ne hj with q | q
    · exact hpw j i hjl hlt q (by rw [hget]; exact .inr rfl) (by rw [hget]; exact e')
    · exact hpw i j hlt hjl q (by rw [hget]; exact .inl rfl) (by rw [hget]; exact e'.symm)
  have hsub : ∀ b ∈ L.eraseIdx i, b ∈ L := fun b hb' => List.mem_of_mem_eraseIdx hb'
  refine ⟨h.kq, fun b hb' => h.blk b (hsub b hb'), fun b hb' => h.own b (hsub b hb'), h.apart.sublist (List.eraseIdx_sublist ..), fun r hr => ?_, fun r hr b hb' => ?_, List.pairwise_cons.2 ⟨fun r hr => ?_, h.rr⟩⟩
  · rcases List.mem_cons.1 hr with rfl | hr
    · have hl := congrArg List.length hx
      rw [List.length_take, Array.length_toList, hs, Nat.min_eq_left (Nat.mul_le_mul_right size hn)] at hl
      exact ⟨hl.symm, .inr ⟨g, c, cs, rfl, hown, hb, hn, hm, hs, hx⟩⟩
    · exact h.rows r hr
  · rcases List.mem_cons.1 hr with rfl | hr
    · intro e'; exact hne b hb' (Option.some.inj e').symm
    · exact h.rb r hr b (hsub b hb')
  · exact .inr fun e' => h.rb r hr _ hmem e'.symm
end Go.Proofs.Ytcijkniijomcjaa
/-! The body of a loop over a function runs as any code: from wp to wpIn in a round, at the wide fence. -/
namespace Go.Proofs.Ytcijkniijomcjaa
open Go.RowKit Go.Cpl
/-- No operation is a defer statement. -/
def plainOp (o : Oper) : Bool := match o.op with | .defer _ => false | _ => true
theorem plainOp_spec {o : Oper} (h : plainOp o = true) : ∀ c, o.op ≠ .defer c := by
  intro c e
  unfold plainOp at h
  rw [e] at h
  cases h
section
variable {P : Program} {l n : Nat} {Q : Exit → Act → World → Prop}
theorem rowsIn_of {row : String} {args : Array Value} {w : World} {R : Value → World → Prop} (h : Rows P row args w R) : RowsIn (Fence.wide.inRound l) n P row args w R := by
  intro c cs _
  obtain ⟨v, w', r, s⟩ := h c cs
  exact ⟨v, w', r, stepsIn_wide.2 s⟩
theorem callsIn_of {f : FuncId} {args : Array Value} {w : World} {R : Ending → World → Prop} (h : Calls P f args w R) : CallsIn (Fence.wide.inRound l) n P f args w R :=
  CallsIn.inRound l (callsIn_wide.2 h)
theorem operIn_of {o : Oper} {a : Act} {w : World} {next next' : Act → World → Prop} (hd : plainOp o = true) (hn : ∀ a w, next a w → next' a w) (h : o.wp P a w next Q) : o.wpIn (Fence.wide.inRound l) n P a w next' Q := by
  refine ⟨fun _ _ => trivial, ?_⟩
  rw [show Oper.semAt (Fence.wide.inRound l).round a.eval o = execOp a.eval o from Oper.semAt_some l _ _ (plainOp_spec hd)]
  unfold Oper.wp at h
  generalize (execOp a.eval o).run P w = r at h ⊢
  match r, h with
  | .ok (.value v) w', h => exact hn _ _ h
  | .ok .skip w', h => exact hn _ _ h
  | .ok (.defer d) w', h => exact hn _ _ h
  | .ok (.enter f args) w', h =>
    refine ⟨fun e => (by cases e), callsIn_of (Calls.mono h fun en w'' q => ?_)⟩
    cases en with
    | returned v => exact hn _ _ q
    | panicked c => exact q
    | outgrown => exact q
  | .ok (.row row args) w', h => exact ⟨fun e => (by cases e), rowsIn_of (h.mono fun v w'' q => hn _ _ q)⟩
  | .halt (.panic v) w', h => exact h
theorem wpListIn_of {ops : Array Oper} (hq : ¬ LetsOut Q) : ∀ (rest : List Oper) (a : Act) (w : World), rest.all plainOp = true → wpList P ops Q rest a w → wpListIn (Fence.wide.inRound l) n P ops Q rest a w
  | [], a, w, _, h => h
  | o :: rest, a, w, hd, h => by
    simp only [List.all_cons, Bool.and_eq_true] at hd
    unfold wpList at h
    unfold wpListIn
    by_cases hw : Region.wanted o (yielded ops a.tmps) = true
    · rw [if_pos hw] at h ⊢
      rcases h with h | ⟨_, h⟩
      · exact operIn_of hd.1 (fun a w q => wpListIn_of hq rest a w hd.2 q) h
      · exact absurd h hq
    · rw [if_neg hw] at h ⊢
      exact ⟨fun _ _ => trivial, wpListIn_of hq rest _ w hd.2 h⟩
/-- A region in a round. -/
theorem i_region {id : Nat} {ls : List Oper} {a : Act} {w : World} (hq : ¬ LetsOut Q) (hd : ls.all plainOp = true) (h : wpList P ls.toArray Q ls a w) : (Code.region id ls.toArray false).wpIn (Fence.wide.inRound l) n P Q a w :=
  wpIn_region_lit (wpListIn_of hq ls a w hd h)
theorem wpAnyIn_of {md : Region.Mode} {ops : Array Oper} (hq : ¬ LetsOut Q) (hd : ops.toList.all plainOp = true) : ∀ (fuel : Nat) (listed : Array Bool) (a : Act) (w : World), wpAny P md ops Q fuel listed a w → wpAnyIn (Fence.wide.inRound l) n P md ops Q fuel listed a w
  | 0, _, _, _, h => h
  | fuel + 1, listed, a, w, h => by
    refine ⟨h.1, fun i hi => ?_⟩
    have h2 := h.2 i hi
    unfold wpOp at h2
    unfold wpOpIn
    cases ho : ops[i]? with
    | none => rw [ho] at h2; exact wpAnyIn_of hq hd fuel _ _ _ h2
    | some o =>
      rw [ho] at h2
      have hp : plainOp o = true := List.all_eq_true.1 hd o (Array.mem_toList_iff.2 (Array.mem_of_getElem? ho))
      simp only at h2 ⊢
      by_cases hw : Region.wanted o (yielded ops a.tmps) = true
      · rw [if_pos hw] at h2 ⊢
        rcases h2 with h2 | ⟨_, h2⟩
        · exact operIn_of hp (fun a w q => wpAnyIn_of hq hd fuel _ a w q) h2
        · exact absurd h2 hq
      · rw [if_neg hw] at h2 ⊢
        exact ⟨fun _ _ => trivial, wpAnyIn_of hq hd fuel _ _ _ h2⟩
/-- A region that draws, in a round. -/
theorem i_begin {id : Nat} {ops : Array Oper} {a : Act} {w : World} {w0 : Base} {Ls : List Bk} {Ms : List Rw} (hm : P.follows .mixedOrders = true) (hq : ¬ LetsOut Q) (hd : ops.toList.all plainOp = true) (hS : St w0 Ls Ms w)
    (h : ∀ w', St w0 Ls Ms w' → Below w.heap.size w w' → wpAnyH P .any ops Q (St w0 Ls Ms) ops.size (Array.replicate ops.size false) a w') : (Code.region id ops true).wpIn (Fence.wide.inRound l) n P Q a w :=
  wpIn_region_any hm (wpAnyIn_of hq hd _ _ _ _ (wpAny_of_held _ _ _ _ (h w.drew hS.drew (Below.drew (Below.refl _ _)))))
end
/-! ### Code in a round -/
section
variable {P : Program} {G : Fence} {m : Nat} {n : Sz} {a : Act} {w : World} {F : Fm} {Q : Exit → Act → World → Prop}
theorem i_ifb {c : Operand} {x y : Code} {b : Bool} (hA : Fr n a F) (hc : evO F c = some (.bool b)) (ht : b = true → x.wpIn G m P Q a w) (hf : b = false → y.wpIn G m P Q a w) : (Code.cond c x y).wpIn G m P Q a w := wpIn_cond_split (hA.ev hc) ht hf
theorem i_cut {c : Code} (K : Act → World → Prop) (h1 : c.wpIn G m P (Exit.then K Q) a w) (h2 : ∀ a w, K a w → Q .normal a w) : c.wpIn G m P Q a w :=
  wpIn_mono h1 fun e a w h => by cases e <;> first | exact h2 _ _ h | exact h
theorem i_loopN {c : Code} (I : Nat → Act → World → Prop) (i0 : Nat) (h0 : I i0 a w)
    (round : ∀ i a w, I i a w → c.wpIn G m P (Exit.then (fun a' w' => ∃ j, I j a' w' ∧ j < i) Q) a w) : (Code.loop c).wpIn G m P Q a w := by
  intro b k cs hro hb hr
  have key : ∀ j a w, I j a w → ∃ e a' w', Q e a' w' ∧ ArrivesIn (Machine.fenced P G) P (lone (b.atR a (.code c :: .inLoop c :: k)) cs w) b k cs e a' w' := by
    intro j
    induction j using Nat.strongRecOn with
    | _ j ih =>
      intro a w hI
      obtain ⟨e, a₁, w₁, hq, harr⟩ := round j a w hI b (.inLoop c :: k) cs hro hb hr
      cases e with
      | normal =>
        obtain ⟨i, hI₁, hlt⟩ := hq
        obtain ⟨e₂, a₂, w₂, hq₂, harr₂⟩ := ih i hlt a₁ w₁ hI₁
        exact ⟨e₂, a₂, w₂, hq₂, .of_steps (StepsIn.trans harr (.one (fenced_calm hb hr rfl) stepR_inLoop)) harr₂⟩
      | exit id => exact ⟨_, a₁, w₁, hq, .pass (x := .inLoop c) rfl (fun _ _ => .inl (by simp)) harr⟩
      | goto l => exact ⟨_, a₁, w₁, hq, .pass (x := .inLoop c) rfl (fun _ _ => .inl (by simp)) harr⟩
      | ret => exact ⟨_, a₁, w₁, hq, .pass (x := .inLoop c) rfl (fun _ _ => .inl (by simp)) harr⟩
      | panic ch => exact ⟨_, a₁, w₁, hq, .pass (x := .inLoop c) rfl (fun _ _ => .inl (by simp)) harr⟩
      | outgrown => exact ⟨_, a₁, w₁, hq, .pass (x := .inLoop c) rfl (fun _ _ => .inl (by simp)) harr⟩
  obtain ⟨e, a', w', hq, harr⟩ := key i0 a w h0
  exact ⟨e, a', w', hq, .of_steps (.one (fenced_calm hb hr rfl) stepR_loop) harr⟩
/-- Nothing is let out. -/
theorem noOut_then {K : Act → World → Prop} (h : ¬ LetsOut Q) : ¬ LetsOut (Exit.then K Q) := fun q => h q
theorem noOut_block {i : Nat} (h : ¬ LetsOut Q) : ¬ LetsOut (Exit.inBlock i Q) := fun q => h q
end
/-- What is known abides the loop's own steps. -/
theorem St.round {w0 : Base} {W W' : World} {L : List Bk} {M : List Rw} {row : Option Nat} (h : St w0 L M W) (hg : W.grownBy W' row) (hr : ∀ r, row = some r → w0.w.heap.size ≤ r ∧ ∃ o : Obj, W.heap[r]? = some o ∧ o.isCells = false) : St ⟨w0.w, w0.w⟩ L M W' := by
  have hk : ∀ (g : Nat) (cs : Array Value) (t : TypeId), W.heap[g]? = some (.cells cs t (0, 0)) → W'.heap[g]? = some (.cells cs t (0, 0)) := by
    intro g cs t e
    rw [hg.block g (Array.getElem?_eq_some_iff.1 e).1 ?_]
    · exact e
    · intro e'
      obtain ⟨_, o, ho, hc⟩ := hr g e'.symm
      rw [e] at ho; cases ho; cases hc
  have kp : Below w0.w.heap.size w0.w W' := ⟨hg.os.trans h.kq.1.os, hg.tape.trans h.kq.1.tape, hg.output.trans h.kq.1.output, Nat.le_trans h.kq.1.size hg.size, fun k hk' => by
    rw [hg.block k (Nat.lt_of_lt_of_le hk' h.kq.1.size) (fun e => by have := (hr k e.symm).1; omega)]; exact h.kq.1.block k hk'⟩
  refine ⟨⟨kp, keeps_of_below kp (Nat.le_refl _)⟩, fun b hb => hk _ _ _ (h.blk b hb), h.own, h.apart, fun r hr' => ?_, h.rb, h.rr⟩
  obtain ⟨h1, h2⟩ := h.rows r hr'
  refine ⟨h1, ?_⟩
  rcases h2 with h2 | ⟨g, cap, cur, a1, a2, a3, a4⟩
  · exact .inl h2
  · exact .inr ⟨g, cap, cur, a1, a2, hk _ _ _ a3, a4⟩
/-- Back to the world at first alone. -/
theorem St.first {w0 : Base} {W : World} {L : List Bk} {M : List Rw} (h : St w0 L M W) : St ⟨w0.w, w0.w⟩ L M W := h.since (keeps_of_below h.kq.1 (Nat.le_refl _))
/-! ### A function that ranges over a function -/
section
variable {P : Program} {Q : Exit → Act → World → Prop} {n : Nat} {a : Act} {w : World} {F : Fm} {L : List Bk} {M : List Rw} {fn : Func} {R : Ending → World → Prop}
/-- The mark of the loop's deferred calls. -/
def coll (D : Nat) : Deferred := { target := .collected D, args := #[] }
def mPost (P : Program) (fn : Func) (R : Ending → World → Prop) : Exit → Act → World → Prop
  | .ret, a, w => LeavesInM Fence.wide 3 P fn a.tmps R a.defers .returning w
  | _, _, _ => False
theorem pf_mPost : PanicFree (mPost P fn R) := fun _ _ _ _ _ h => h
theorem start_fr {fn : Func} {args : Array Value} {n : Nat} (hn : fn.ntmps = n) (hs : Nat.ble args.size n = true) : Fr ⟨n, []⟩ { tmps := args ++ Array.replicate (fn.ntmps - args.size) undef, defers := [] } (Go.Cpl.start args) := by
  refine ⟨?_, rfl, fun k v hk => ?_⟩
  · have := Nat.le_of_ble_eq_true hs; simp; omega
  · obtain ⟨_, h2⟩ := look_start args.toList 0 k v hk
    rw [Nat.sub_zero, Array.getElem?_toList] at h2
    have hk' : k < args.size := by
      rcases Nat.lt_or_ge k args.size with h3 | h3
      · exact h3
      · rw [Array.getElem?_eq_none h3] at h2; cases h2
    rw [Array.getElem?_append_left hk']
    exact h2
theorem enterM {f : FuncId} {c : Code} {args : Array Value}
    (hf : P.funcs[f]? = some fn) (hb : fn.body = some c) (hn : fn.ntmps = n) (hs : Nat.ble args.size n = true)
    (h : ∀ a, Fr ⟨n, []⟩ a (Go.Cpl.start args) → c.wp P (mPost P fn R) a w) : Calls P f args w R := by
  refine (callsIn_wide (n := 3)).1 (callsIn_of_wp_marks hf hb trivial (wpIn_wide.2 (wp_mono (h _ (start_fr hn hs)) ?_)))
  intro e a w h
  cases e with
  | ret => exact h
  | _ => exact h.elim
theorem m_ret0 (hA : Fr ⟨n, []⟩ a F) (h : bodyPost P fn R .ret a w) : mPost P fn R .ret a w := by
  show LeavesInM Fence.wide 3 P fn a.tmps R a.defers .returning w
  rw [hA.def_]; exact h.2
theorem m_ret {w0 v : World} {D : Nat} (hA : Fr ⟨n, [coll D]⟩ a F) (hS : St ⟨w0, v⟩ L M w) (hv : v.heap[D]? = some (.deferred (some []))) (hD : w0.heap.size ≤ D)
    (h : ∀ a' w', Fr ⟨n, []⟩ a' F → St ⟨w0, w0⟩ L M w' → bodyPost P fn R .ret a' w') : mPost P fn R .ret a w := by
  have hK := hS.others.same D _ hv rfl
  show LeavesInM Fence.wide 3 P fn a.tmps R a.defers .returning w
  rw [hA.def_]
  refine ⟨by simp, .inl ⟨D, w.putObj D (.deferred none), rfl, run_takeDeferred hK, ?_⟩⟩
  have hS' := St.round hS (grownBy_putObj' w D (.deferred none)) (fun r e => by cases e; exact ⟨hD, _, hK, rfl⟩)
  exact (h { tmps := a.tmps, defers := [] } _ ⟨hA.size, rfl, hA.val⟩ hS').2
/-- What the body of the loop keeps for the iterator. -/
def KpG (G : List Bk) (W W' : World) : Prop := ∀ b ∈ G, Blk W b.g b.t b.cs → Blk W' b.g b.t b.cs
theorem KpG.trans {G : List Bk} {X Y Z : World} (h : KpG G X Y) (k : KpG G Y Z) : KpG G X Z := fun b hb hx => k b hb (h b hb hx)
theorem KpG.nil {W W' : World} : KpG [] W W' := fun b hb => by cases hb
theorem KpG.cons {b : Bk} {G : List Bk} {W W' : World} (h : Blk W' b.g b.t b.cs) (k : KpG G W W') : KpG (b :: G) W W' := fun c hc hx => by
  rcases List.mem_cons.1 hc with rfl | hc
  · exact h
  · exact k c hc hx
theorem KpG.refl {G : List Bk} (W : World) : KpG G W W := fun _ _ h => h
theorem KpG.put {G : List Bk} {W : World} {l : Nat} {o o' : Obj} (h : W.heap[l]? = some o) (hc : o.isCells = false) : KpG G W (W.putObj l o') := fun b _ hx => by
  have e : b.g ≠ l := fun e => by
    rw [← e] at h
    rw [show W.heap[b.g]? = _ from hx] at h; cases h; cases hc
  exact (World.putObj_heap_other e).trans hx
/-- yield's parameters are laid. -/
def zF : List (Nat × Value) → Fm → Fm
  | [], F => F
  | p :: l, F => zF l (p :: F)
theorem zF_fr : ∀ (l : List (Nat × Value)) (t : Array Value) (F : Fm), (∀ p ∈ l, p.1 < n) → Fr ⟨n, []⟩ { tmps := t, defers := [] } F → Fr ⟨n, []⟩ { tmps := l.foldl (fun t p => t.setIfInBounds p.1 p.2) t, defers := [] } (zF l F)
  | [], _, _, _, h => h
  | p :: l, t, F, hl, h => by
    refine zF_fr l _ _ (fun q hq => hl q (List.mem_cons_of_mem _ hq)) ?_
    exact h.put (hl p (List.mem_cons_self ..)) p.2
/-- How the body of a round may be left: it goes on, or it returns. -/
def rPost {α : Type} (G : List Bk) (v : World) (I Ix : List α → World → Prop) (xs : List α) (W : World) : Exit → Act → World → Prop
  | .normal, _, W' => KeepsX v W' ∧ KpG G W W' ∧ I xs W'
  | .ret, _, W' => KeepsX v W' ∧ Ix xs W'
  | _, _, _ => False
/-- What an iterator does, whatever the loop's body is: xs come, in this order; what the body keeps is G. -/
def Seq {α : Type} (P : Program) (gf : FuncId) (fs lb : Array Value) (encs : α → Array Value) (G : List Bk) (xs : List α) : Prop :=
  ∀ (l : Nat) (J Jx : List α → World → Prop) (W : World), (∀ b ∈ G, Blk W b.g b.t b.cs) → (∀ pre W W', J pre W → Below W.heap.size W W' → J pre W') →
    (∀ pre x rest W1, xs = pre ++ x :: rest → J pre W1 → YieldAt Fence.wide 1 P l (encs x) W1 fun e W' =>
      (e = .returned (.bool true) ∧ J (pre ++ [x]) W' ∧ KpG G W1 W') ∨ (e = .returned (.bool false) ∧ Jx (pre ++ [x]) W')) →
    J [] W → CallsIn Fence.wide 2 P gf (fs ++ #[.func (.yield l) #[] #[]] ++ lb) W fun e W' => (∃ v, e = .returned v) ∧ (J xs W' ∨ ∃ pre, Jx pre W')
/-- The statement, in a function that holds no other. -/
theorem c_range {α : Type} {g : Operand} {ps : Array Tmp} {assign body : Code} {gf : Nat} {fs lb : Array Value} {w0 : Base} (hA : Fr ⟨n, []⟩ a F) (hS : St w0 L M w) (hg : evO F g = some (.func (.func gf) fs lb)) (eg : ∀ args w, (callFunc gf args).run P w = .ok (.enter gf args) w)
    {encs : α → Array Value} {G : List Bk} {xs : List α} (hG : ∀ b ∈ G, Blk w b.g b.t b.cs) (hseq : Seq P gf fs lb encs G xs) (hps : ∀ x, (encs x).size = ps.size)
    (z : α → List (Nat × Value)) (hz : ∀ x, (ps.zip (encs x)).toList = z x) (hlt : ∀ x, ∀ p ∈ z x, p.1 < n)
    (I : List α → World → Prop) (Ix : List α → World → Prop)
    (hI : ∀ pre W W' (row : Option Nat), I pre W → W.grownBy W' row → (∀ r, row = some r → w0.w.heap.size ≤ r ∧ ∃ o : Obj, W.heap[r]? = some o ∧ o.isCells = false) → I pre W')
    (hIb : ∀ pre W W', I pre W → Below W.heap.size W W' → I pre W')
    (hIx : ∀ pre W W' (row : Option Nat), Ix pre W → W.grownBy W' row → (∀ r, row = some r → w0.w.heap.size ≤ r ∧ ∃ o : Obj, W.heap[r]? = some o ∧ o.isCells = false) → Ix pre W')
    (h0 : I [] w) (F1 : α → Fm)
    (hassign : ∀ (l : Nat) (x : α) (a' : Act) (W : World) (K : Act → World → Prop), Fr ⟨n, []⟩ a' (zF (z x) F) → (∀ a', Fr ⟨n, []⟩ a' (F1 x) → K a' W) → assign.wpIn (Fence.wide.inRound l) 1 P (Exit.then K (fun _ _ _ => False)) a' W)
    (hbody : ∀ (l : Nat) (pre : List α) (x : α) (rest : List α) (a' : Act) (W : World), xs = pre ++ x :: rest → I pre W → Fr ⟨n, []⟩ a' (F1 x) → body.wpIn (Fence.wide.inRound l) 1 P (rPost G W I Ix (pre ++ [x]) W) a' W)
    (hdone : ∀ (D : Nat) (a' : Act) (W : World), w0.w.heap.size ≤ D → I xs W → W.heap[D]? = some (.deferred (some [])) → Fr ⟨n, [coll D]⟩ a' F → Q .normal a' W)
    (hstop : ∀ (D : Nat) (pre : List α) (a' : Act) (W : World), w0.w.heap.size ≤ D → Ix pre W → W.heap[D]? = some (.deferred (some [])) → Fr ⟨n, [coll D]⟩ a' F → Q .ret a' W) :
    (Code.rangeFunc g ps assign body).wp P Q a w := by
  have hsz := hS.kq.size
  refine (wpIn_wide (n := 3)).1 (wpIn_rangeFunc fun fn hfn => ?_)
  obtain ⟨D, hD⟩ : ∃ D, w.heap.size = D := ⟨_, rfl⟩
  obtain ⟨rec, hrec⟩ : ∃ rec : LoopState → Option Code → Loop, rec = fun st pe => { state := st, pending := pe, fn, tmps := a.tmps, params := ps, assign, body, defers := D } := ⟨_, rfl⟩
  obtain ⟨W1, hW1⟩ : ∃ W1, (w.alloc (.deferred (some []))).alloc (.loop (rec .ready none)) = W1 := ⟨_, rfl⟩
  have hb1 : Below w.heap.size w W1 := by
    rw [← hW1]; exact ((Below.refl _ w).alloc (Nat.le_refl _) _).alloc (by simp) _
  have hL1 : W1.heap[D + 1]? = some (.loop (rec .ready none)) := by
    rw [← hW1, ← hD]; have := World.alloc_heap_new (w.alloc (.deferred (some []))) (.loop (rec .ready none)); rwa [World.size_alloc] at this
  have hK1 : W1.heap[D]? = some (.deferred (some [])) := by
    rw [← hW1, ← hD]; exact (Below.heap_alloc _ _ _ (by simp)).trans (World.alloc_heap_new w _)
  have hn : ∀ {W : World} {st : LoopState} {pe : Option Code}, W.heap[D + 1]? = some (.loop (rec st pe)) → ∀ r, some (D + 1) = some r → w0.w.heap.size ≤ r ∧ ∃ o : Obj, W.heap[r]? = some o ∧ o.isCells = false := fun h r e => by
    cases e; exact ⟨by omega, _, h, rfl⟩
  have hfr : Fr ⟨n, [coll D]⟩ { a with defers := [{ target := .collected D, args := #[] }] ++ a.defers } F := ⟨hA.size, by rw [hA.def_]; rfl, hA.val⟩
  refine ⟨D + 1, [{ target := .collected D, args := #[] }], W1, { target := .fn (.func gf) lb, args := fs ++ #[.func (.yield (D + 1)) #[] #[]] }, W1, gf, fs ++ #[.func (.yield (D + 1)) #[] #[]] ++ lb, W1, ?_, ?_, fun _ _ => trivial, ?_, fun h => (by cases h), ?_⟩
  · rw [← hW1, hrec, ← hD]; exact run_enterLoop_outer _ _ _ _ _
  · simp only [resolve, hA.ev hg, Deferred.ofValue]
    simp [Act.eval]
  · exact eg _ _
  refine (hseq (D + 1) (fun pre W => I pre W ∧ W.heap[D + 1]? = some (.loop (rec .ready none)) ∧ W.heap[D]? = some (.deferred (some [])))
    (fun pre W => Ix pre W ∧ W.heap[D + 1]? = some (.loop (rec .done (some .ret))) ∧ W.heap[D]? = some (.deferred (some []))) W1 (fun b hb => (hG b hb).kept hb1)
    (fun pre W W' h k => ⟨hIb pre W W' h.1 k, (k.block _ (Array.getElem?_eq_some_iff.1 h.2.1).1).trans h.2.1, (k.block _ (Array.getElem?_eq_some_iff.1 h.2.2).1).trans h.2.2⟩) ?_ ⟨hIb _ _ _ h0 hb1, hL1, hK1⟩).mono ?_
  · rintro pre x rest W hx ⟨hi, hl, hk⟩
    have hlt' : D + 1 < W.heap.size := (Array.getElem?_eq_some_iff.1 hl).1
    have hy := run_yield (P := P) (args := encs x) hl (by rw [hrec]; exact hps x)
    rw [hrec] at hy
    refine ⟨fn, _, assign, body, hy, roundIn_of_wpIn hfn ?_⟩
    refine hassign (D + 1) x _ W _ ?_ fun a' ha' => ?_
    · have := zF_fr (z x) a.tmps F (hlt x) ⟨hA.size, rfl, hA.val⟩
      rw [← hz x] at this ⊢
      rw [← Array.foldl_toList]
      exact this
    refine ⟨_, run_beginRound hl (by rw [hrec]), ?_⟩
    obtain ⟨W2, hW2⟩ : ∃ W2, W.putObj (D + 1) (.loop (rec .busy none)) = W2 := ⟨_, rfl⟩
    have e2 : W.putObj (D + 1) (.loop { rec .ready none with state := .busy }) = W2 := by rw [← hW2, hrec]
    rw [e2]
    have hl2 : W2.heap[D + 1]? = some (.loop (rec .busy none)) := by rw [← hW2]; exact World.putObj_heap_same hlt'
    have hk2 : W2.heap[D]? = some (.deferred (some [])) := by rw [← hW2]; exact (World.putObj_heap_other (by omega)).trans hk
    have hi2 : I pre W2 := hI pre W W2 (some (D + 1)) hi (by rw [← hW2]; exact grownBy_putObj' _ _ _) (hn hl)
    have hp2 : KpG G W W2 := by rw [← hW2]; exact KpG.put hl rfl
    have fin : ∀ (jump : Option Code) (W3 : World), KeepsX W2 W3 → ∃ W4, W3.putObj (D + 1) (.loop (rec (if jump.isNone then .ready else .done) jump)) = W4 ∧
        (Instr.endRound (D + 1) jump).run P W3 = .ok (.bool jump.isNone) W4 ∧ W3.heap[D + 1]? = some (.loop (rec .busy none)) ∧
        W4.heap[D + 1]? = some (.loop (rec (if jump.isNone then .ready else .done) jump)) ∧ W4.heap[D]? = some (.deferred (some [])) ∧ W3.grownBy W4 (some (D + 1)) ∧ KpG G W3 W4 := fun jump W3 hk3 => by
      have hl3 := hk3.same _ _ hl2 rfl
      have hr := run_endRound (P := P) jump hl3
      have e4 : W3.putObj (D + 1) (.loop { rec .busy none with state := if jump.isNone then .ready else .done, pending := jump }) = W3.putObj (D + 1) (.loop (rec (if jump.isNone then .ready else .done) jump)) := by rw [hrec]
      rw [e4] at hr
      exact ⟨_, rfl, hr, hl3, World.putObj_heap_same (Array.getElem?_eq_some_iff.1 hl3).1, (World.putObj_heap_other (by omega)).trans (hk3.same _ _ hk2 rfl), grownBy_putObj' _ _ _, KpG.put hl3 rfl⟩
    refine wpIn_mono (hbody (D + 1) pre x rest a' W2 hx hi2 ha') ?_
    rintro e a3 W3 hp
    cases e with
    | normal =>
      obtain ⟨hk3, hp3, hi3⟩ := hp
      obtain ⟨W4, _, hr, hl3, hl4, hk4, hg4, hp4⟩ := fin none W3 hk3
      exact ⟨_, _, hr, .inl ⟨rfl, ⟨hI _ _ _ _ hi3 hg4 (hn hl3), hl4, hk4⟩, (hp2.trans hp3).trans hp4⟩⟩
    | ret =>
      obtain ⟨hk3, hi3⟩ := hp
      obtain ⟨W4, _, hr, hl3, hl4, hk4, hg4, hp4⟩ := fin (some .ret) W3 hk3
      exact ⟨_, _, hr, .inr ⟨rfl, hIx _ _ _ _ hi3 hg4 (hn hl3), hl4, hk4⟩⟩
    | exit id => exact hp.elim
    | goto t => exact hp.elim
    | panic ch => exact hp.elim
    | outgrown => exact hp.elim
  · rintro e W2 ⟨⟨v, rfl⟩, (⟨hi, hl, hk⟩ | ⟨pre, hi, hl, hk⟩)⟩
    · exact ⟨none, _, by have := run_endLoop (P := P) hl (by rw [hrec]; simp); rw [hrec] at this; exact this, hdone D _ _ (by omega) (hI _ _ _ _ hi (grownBy_putObj' W2 (D + 1) _) (hn hl)) ((World.putObj_heap_other (by omega)).trans hk) hfr⟩
    · exact ⟨some .ret, _, by have := run_endLoop (P := P) hl (by rw [hrec]; simp); rw [hrec] at this; exact this, wpIn_ret (hstop D pre _ _ (by omega) (hIx _ _ _ _ hi (grownBy_putObj' W2 (D + 1) _) (hn hl)) ((World.putObj_heap_other (by omega)).trans hk) hfr)⟩
theorem noOut_body {α : Type} {G : List Bk} {v : World} {I Ix : List α → World → Prop} {xs : List α} {W : World} : ¬ LetsOut (rPost G v I Ix xs W) := fun ⟨_, _, h⟩ => h
theorem noOut_assign {K : Act → World → Prop} : ¬ LetsOut (Exit.then K (fun _ _ _ => False)) := fun ⟨_, _, h⟩ => h
theorem pf_round {α : Type} {G : List Bk} {v : World} {I Ix : List α → World → Prop} {xs : List α} {W : World} : PanicFree (rPost G v I Ix xs W) := fun _ _ _ _ _ h => h
/-- The end of a round. -/
theorem r_end {α : Type} {G : List Bk} {I Ix : List α → World → Prop} {xs : List α} {W : World} {w0 : World} (hS : St ⟨w0, W⟩ L M w) (hk : KpG G W w) (hi : St ⟨w0, w0⟩ L M w → I xs w) : rPost G W I Ix xs W .normal a w := ⟨hS.others, hk, hi (St.first hS)⟩
theorem r_stop {α : Type} {G : List Bk} {I Ix : List α → World → Prop} {xs : List α} {W : World} {w0 : World} (hS : St ⟨w0, W⟩ L M w) (hi : St ⟨w0, w0⟩ L M w → Ix xs w) : rPost G W I Ix xs W .ret a w := ⟨hS.others, hi (St.first hS)⟩
/-- The start of a round. -/
theorem St.begin {w0 : Base} {W : World} (h : St w0 L M W) : St ⟨w0.w, W⟩ L M W := h.since (KeepsX.refl W)
end
/-! ### An iterator -/
section
variable {P : Program} {ops : Array Oper} {Q : Exit → Act → World → Prop} {n : Sz} {a : Act} {w : World} {w0 : Base} {F : Fm} {L : List Bk} {M : List Rw} {rest : List Oper} {m : Nat}
/-- A pure step ahead of a call of yield. -/
theorem y_one {d : Nat} {op : Op} {ty : TypeId} {pos : String} {aft : Array Edge} (v : Value) (hA : Fr n a F) (hS : St w0 L M w) (hg : Gives P F w0 L M op v) (hd : Nat.blt d n = true)
    (k : ∀ a', Fr n a' ((d, v) :: F) → wpListIn Fence.wide m P ops Q rest a' w) : wpListIn Fence.wide m P ops Q (⟨some d, op, ty, pos, aft, none⟩ :: rest) a w := by
  unfold wpListIn
  rw [if_pos (by rfl)]
  refine ⟨fun _ _ => trivial, ?_⟩
  rw [show Oper.semAt Fence.wide.round a.eval _ = execOp a.eval _ from Oper.semAt_none _ _, hg n a w hA hS]
  exact k _ (hA.put (blt_lt hd) v)
theorem y_nil (h : Q .normal a w) : wpListIn Fence.wide m P ops Q [] a w := h
/-- The call of yield. -/
theorem y_call {d : Nat} {fx : Operand} {args : List Operand} {ats : Array TypeId} {ty : TypeId} {pos : String} {aft : Array Edge} {r : List (Nat × Value)} {l : Nat} (av : Array Value) {R : Ending → World → Prop} (hA : Fr n a F)
    (hy : YieldAt Fence.wide (m - 1) P l av w R) (hR : ∀ e w, R e w → ∃ v, e = .returned v) (hf : evO F fx = some (.func (.yield l) #[] #[])) (hr : evL F (args.map fun x => (0, x)) = some r) (hav : (r.map (·.2)).toArray = av) (hd : Nat.blt d n = true)
    (k : ∀ v a' w', R (.returned v) w' → Fr n a' ((d, v) :: F) → wpListIn Fence.wide m P ops Q rest a' w') : wpListIn Fence.wide m P ops Q (⟨some d, .call ⟨.value fx, args.toArray, ats⟩, ty, pos, aft, none⟩ :: rest) a w := by
  obtain ⟨fn, tmps, assign, body, hy, hRI⟩ := hy
  unfold wpListIn
  rw [if_pos (by rfl)]
  refine ⟨fun _ _ => trivial, ?_⟩
  rw [show Oper.semAt Fence.wide.round a.eval _ = execOp a.eval _ from Oper.semAt_none _ _]
  have e : (execOp a.eval ⟨some d, .call ⟨.value fx, args.toArray, ats⟩, ty, pos, aft, none⟩).run P w = .ok (.round l fn tmps assign body) w := by
    simp only [execOp, resolve, hA.ev hf, Deferred.ofValue, invoke, List.map_toArray, evA_map hA hr, Sem.run_bind, Sem.run_pure, Result.andThen_ok, hav, Array.empty_append]
    exact hy
  rw [e, Oper.uponIn_round]
  refine ⟨fun h => (by cases h), hRI.mono fun en w' hr' => ?_⟩
  obtain ⟨v, rfl⟩ := hR _ _ hr'
  exact k v _ w' hr' (hA.put (blt_lt hd) v)
theorem y_region {id : Nat} {ls : List Oper} (h : wpListIn Fence.wide 2 P ls.toArray Q ls a w) : (Code.region id ls.toArray false).wp P Q a w := (wpIn_wide (n := 2)).1 (wpIn_region_lit h)
end
end Go.Proofs.Ytcijkniijomcjaa
namespace Go.Proofs.Ytcijkniijomcjaa
open Go.RowKit Go.Cpl
def zT : List Nat := List.replicate 64 0
theorem zT_length : zT.length = 64 := List.length_replicate
theorem samplesErr_n {n : Nat} {xs : List Nat} (hn : xs.length = n) (A : Option Addr) (cap : Nat) (w : World) (hr : FReads w A xs) (hl : n ≤ maxLen) :
    Calls Try.prog 61 #[.slice A n cap] w fun e w' => e = .returned (.tuple #[.int .i64 (firstErr xs 0).1, .int .i64 (firstErr xs 0).2]) ∧ ∃ n, w' = w.drewN n := by
  subst hn; exact samplesErr_any A cap xs w hr hl
theorem refSamplesErr_n {n : Nat} {xs : List Nat} (hn : xs.length = n) (A : Option Addr) (cap : Nat) (w : World) (hr : FReads w A xs) (hl : n ≤ maxLen) :
    Calls Try.prog 67 #[.slice A n cap] w fun e w' => e = .returned (.tuple #[.int .i64 (firstErr xs 0).1, .int .i64 (firstErr xs 0).2]) ∧ ∃ n, w' = w.drewN n := by
  subst hn; exact refSamplesErr_any A cap xs w hr hl
set_option maxRecDepth 100000 in
set_option maxHeartbeats 400000 in
theorem CopyMatrix_s (el : Int) (A : Option Addr) (n cap : Nat) (xs : List Nat) (w0 : World) (hn : xs.length = n) (hr : FReads w0 A xs) (hm : n ≤ 1000) :
    Calls Try.prog 15 #[.agg #[.int .i64 el, .slice A n cap]] w0 fun e w' => ∃ v, e = .returned (.agg #[.int .i64 el, v]) ∧ Below w0.heap.size w0 w' ∧ w'.ownsRow w0.heap.size 36 1 v n (rowF xs) := by
  have S0 := St.start w0
  refine enter (n := 10) Try.func15 rfl rfl rfl (fun ac A0 => ?_)
  refine wp_seq ?_
  refine wp_region_lit ?_
  refine s_box (.agg #[.int .i64 el, .slice A n cap]) A0 S0 (by kernel_rfl) rfl (fun g3 ac wc A1 S2 => ?_)
  replace S2 : St _ (⟨g3, 30, #[.int .i64 el, .slice A n cap], true⟩ :: _) _ _ := S2
  refine s_alloc (#[.int .i64 0, .slice none 0 0]) A1 S2 (by kernel_rfl) rfl (fun g7 ac wc A5 S6 => ?_)
  refine wpList_nil ?_
  refine n_then ?_
  refine wp_seq ?_
  refine r_begin (w0 := w0) (by kernel_rfl) (S6.sub (sub_skip sub_all) sub_all) (fun wc T8 B9 => ?_)
  have S10 := S6.kept B9
  refine r_take 0 (.pointer (some ⟨g3, 0, none⟩)) A5 T8 (g_field (u := .pointer (some ⟨g3, 0, none⟩)) (by kernel_rfl) (fun _ => by kernel_rfl)) rfl rfl rfl (pf_then pf_body) (by kernel_rfl) (fun ac A11 => ?_)
  refine r_take 1 (.int .i64 el) A11 T8 (g_load (g := g3) (off := 0) 0 (by kernel_rfl) rfl (by kernel_rfl)) rfl rfl rfl (pf_then pf_body) (by kernel_rfl) (fun ac A12 => ?_)
  refine r_take 3 (.pointer (some ⟨g3, 1, none⟩)) A12 T8 (g_field (u := .pointer (some ⟨g3, 0, none⟩)) (by kernel_rfl) (fun _ => by kernel_rfl)) rfl rfl rfl (pf_then pf_body) (by kernel_rfl) (fun ac A13 => ?_)
  refine r_take 4 (.slice A n cap) A13 T8 (g_load (g := g3) (off := 1) 0 (by kernel_rfl) rfl (by kernel_rfl)) rfl rfl rfl (pf_then pf_body) (by kernel_rfl) (fun ac A14 => ?_)
  refine r_1 (i := 2) (by kernel_rfl) ?_
  refine rs_bs (e := 36) (r := []) (#[]) A14 S10 (sub_skip sub_all) sub_all (by kernel_rfl) (by kernel_rfl) rfl rfl rfl (fun g17 ac wc A15 S16 => ?_)
  have T18 := S16.sub (sub_skip (sub_skip sub_all)) sub_all
  refine r_1 (i := 5) (by kernel_rfl) ?_
  have S19 : St w0 [⟨g7, 30, #[.int .i64 0, .slice none 0 0], true⟩, ⟨g3, 30, #[.int .i64 el, .slice A n cap], true⟩] [⟨.slice (some ⟨g17, 0, none⟩) 0 0, 36, 1, 0, []⟩] _ := St.toRow S16 0 rfl rfl (by decide)
  refine rs_appendXF (e := 36) (bytes := 4) (v := .slice (some ⟨g17, 0, none⟩) 0 0) (m' := n) (c := cap) (l := xs) 0 A15 S19 (sub_skip sub_all) (fun _ => sub_nil) (by kernel_rfl) (by kernel_rfl) (by kernel_rfl) rfl (hr.kept S19.kp) hn (by omega) (by omega) rfl rfl rfl (fun v23 ac wc A20 S21 => ?_)
  have S24 : St w0 [⟨g7, 30, #[.int .i64 0, .slice none 0 0], true⟩, ⟨g3, 30, #[.int .i64 el, .slice A n cap], true⟩] [⟨v23, 36, 1, n, (rowF xs)⟩] _ := St.rerow 0 S21 rfl ⟨Nat.zero_add _, List.nil_append _⟩
  obtain ⟨A25, cap26, rfl⟩ := row_slice (v := v23) (m := n) (S24.row 0 rfl)
  have T22 := S24.sub (sub_skip sub_all) sub_nil
  refine r_take 6 (.agg #[.int .i64 el, .slice A25 n cap26]) A20 T22 (g_build (r := [(0, .int .i64 el), (1, .slice A25 n cap26)]) (by kernel_rfl) (fun _ => by kernel_rfl)) rfl rfl rfl (pf_then pf_body) (by kernel_rfl) (fun ac A27 => ?_)
  refine r_1 (i := 7) (by kernel_rfl) ?_
  refine rs_store (g := g7) (off := 0) (v := .agg #[.int .i64 el, .slice A25 n cap26]) 0 (#[.int .i64 el, .slice A25 n cap26]) A27 S24 (sub_skip sub_all) sub_nil (by kernel_rfl) (by kernel_rfl) rfl (by kernel_rfl) rfl rfl (fun wc S29 => ?_)
  have T31 := S29.sub (sub_skip sub_all) sub_nil
  refine r_done (by kernel_rfl) ?_
  refine n_then ?_
  refine wp_ret ?_
  refine fin1 (.agg #[.int .i64 el, .slice A25 n cap26]) Try.results15 A27 S29 (rv_cell (g := g7) (off := 0) 0 (by kernel_rfl) rfl (by kernel_rfl)) ?_
  have bw := S29.kp
  have ow := S29.row 0 rfl
  exact ⟨_, rfl, bw, ow⟩
/-- Which matrices are right, and the number of the first wrong sample. -/
def mxC (el : Int) (xs : List Nat) : Int × Int := if inB el 1 16 = true then (if (xs.length : Int) = el * el * 64 then (((firstErr xs 0).1 : Int), (firstErr xs 0).2) else (0, 10)) else (0, 2)
theorem mxC_r {el : Int} {xs : List Nat} (h : inB el 1 16 = false) : mxC el xs = (0, 2) := if_neg (by rw [h]; decide)
theorem mxC_s {el : Int} {xs : List Nat} (h : inB el 1 16 = true) (h2 : (xs.length : Int) ≠ el * el * 64) : mxC el xs = (0, 10) := (if_pos h).trans (if_neg h2)
theorem mxC_y {el : Int} {xs : List Nat} (h : inB el 1 16 = true) (h2 : (xs.length : Int) = el * el * 64) : mxC el xs = (((firstErr xs 0).1 : Int), (firstErr xs 0).2) := (if_pos h).trans (if_pos h2)
theorem mxC_0 {el : Int} {xs : List Nat} (h : (mxC el xs).2 = 0) : (1 ≤ el ∧ el ≤ 16) ∧ (xs.length : Int) = el * el * 64 ∧ (firstErr xs 0).2 = 0 := by
  cases q : inB el 1 16 with
  | false => rw [mxC_r q] at h; exact absurd h (by decide)
  | true =>
    by_cases z : (xs.length : Int) = el * el * 64
    · rw [mxC_y q z] at h; exact ⟨inB_true.1 q, z, h⟩
    · rw [mxC_s q z] at h; exact absurd h (by decide)
theorem sq_bd {el : Int} (h : 1 ≤ el ∧ el ≤ 16) : 1 ≤ el * el ∧ el * el ≤ 256 := by
  have a := Int.mul_le_mul h.2 h.2 (by omega) (by omega)
  have b := Int.mul_le_mul h.1 h.1 (by omega) (by omega)
  omega
set_option maxRecDepth 100000 in
set_option maxHeartbeats 400000 in
theorem CheckMatrix_s (el : Int) (A : Option Addr) (n cap : Nat) (xs : List Nat) (w0 : World) (hn : xs.length = n) (hr : FReads w0 A xs) (hm : n ≤ 1000) :
    Calls Try.prog 14 #[.agg #[.int .i64 el, .slice A n cap]] w0 fun e w' => e = .returned (.tuple #[.int .i64 (mxC el xs).1, .int .i64 (mxC el xs).2]) ∧ Below w0.heap.size w0 w' := by
  have S0 := St.start w0
  refine enter (n := 25) Try.func14 rfl rfl rfl (fun ac A0 => ?_)
  refine wp_seq ?_
  refine wp_region_lit ?_
  refine s_box (.agg #[.int .i64 el, .slice A n cap]) A0 S0 (by kernel_rfl) rfl (fun g3 ac wc A1 S2 => ?_)
  replace S2 : St _ (⟨g3, 30, #[.int .i64 el, .slice A n cap], true⟩ :: _) _ _ := S2
  refine s_one (.int .i64 0) A1 S2 (g_assign (by kernel_rfl)) rfl (fun ac A5 => ?_)
  refine s_one (.int .i64 0) A5 S2 (g_assign (by kernel_rfl)) rfl (fun ac A6 => ?_)
  refine wpList_nil ?_
  refine n_then ?_
  refine wp_seq ?_
  refine wp_block ?_
  refine wp_seq ?_
  refine wp_region_lit ?_
  refine s_one (.pointer (some ⟨g3, 0, none⟩)) A6 S2 (g_field (u := .pointer (some ⟨g3, 0, none⟩)) (by kernel_rfl) (fun _ => by kernel_rfl)) rfl (fun ac A7 => ?_)
  refine s_one (.int .i64 el) A7 S2 (g_load (g := g3) (off := 0) 0 (by kernel_rfl) rfl (by kernel_rfl)) rfl (fun ac A8 => ?_)
  refine s_call (fs := #[]) (cp := #[]) (r := [(0, .int .i64 el), (0, .int .i64 1), (0, .int .i64 16)]) #[.int .i64 el, .int .i64 1, .int .i64 16] (.bool (inB el 1 16)) A8 S2 (sameB (within_any el 1 16 _)) Try.call60 (by kernel_rfl) (by kernel_rfl) (by kernel_rfl) rfl (fun ac wc A9 S10 => ?_)
  refine s_one (.bool (!(inB el 1 16))) A9 S10 (g_un (u := .bool (inB el 1 16)) (by kernel_rfl) (fun _ => by kernel_rfl)) rfl (fun ac A12 => ?_)
  refine s_one (.bool (!(inB el 1 16))) A12 S10 (g_assign (by kernel_rfl)) rfl (fun ac A13 => ?_)
  refine wpList_nil ?_
  refine n_then ?_
  refine c_ifb (b := (!(inB el 1 16))) A13 (by kernel_rfl) (fun h14 => ?_) (fun h14 => ?_)
  · have h15 : inB el 1 16 = false := by simpa using h14
    refine wp_seq ?_
    refine wp_region_lit ?_
    refine s_one (.int .i64 0) A13 S10 (g_assign (by kernel_rfl)) rfl (fun ac A16 => ?_)
    refine s_one (.int .i64 2) A16 S10 (g_assign (by kernel_rfl)) rfl (fun ac A17 => ?_)
    refine wpList_nil ?_
    refine n_then ?_
    refine wp_ret ?_
    refine r_block ?_
    refine r_then ?_
    refine fin2 (.int .i64 0) (.int .i64 2) Try.results14 A17 S10 (rv_tmp (by kernel_rfl)) (rv_tmp (by kernel_rfl)) ⟨?_, S10.kp⟩
    rw [mxC_r h15]
  · have h18 : inB el 1 16 = true := by simpa using h14
    have hel := inB_true.1 h18
    have hsq := sq_bd hel
    refine wp_seq ?_
    refine wp_region_lit ?_
    refine s_one (.pointer (some ⟨g3, 1, none⟩)) A13 S10 (g_field (u := .pointer (some ⟨g3, 0, none⟩)) (by kernel_rfl) (fun _ => by kernel_rfl)) rfl (fun ac A19 => ?_)
    refine s_one (.slice A n cap) A19 S10 (g_load (g := g3) (off := 1) 0 (by kernel_rfl) rfl (by kernel_rfl)) rfl (fun ac A20 => ?_)
    refine s_one (.int .i64 (n : Int)) A20 S10 (g_built (r := [(0, .slice A n cap)]) (by kernel_rfl) (fun _ _ _ => by kernel_rfl)) rfl (fun ac A21 => ?_)
    refine s_one (.pointer (some ⟨g3, 0, none⟩)) A21 S10 (g_field (u := .pointer (some ⟨g3, 0, none⟩)) (by kernel_rfl) (fun _ => by kernel_rfl)) rfl (fun ac A22 => ?_)
    refine s_one (.int .i64 el) A22 S10 (g_load (g := g3) (off := 0) 0 (by kernel_rfl) rfl (by kernel_rfl)) rfl (fun ac A23 => ?_)
    refine s_one (.pointer (some ⟨g3, 0, none⟩)) A23 S10 (g_field (u := .pointer (some ⟨g3, 0, none⟩)) (by kernel_rfl) (fun _ => by kernel_rfl)) rfl (fun ac A24 => ?_)
    refine s_one (.int .i64 el) A24 S10 (g_load (g := g3) (off := 0) 0 (by kernel_rfl) rfl (by kernel_rfl)) rfl (fun ac A25 => ?_)
    refine s_one (.int .i64 (el * el)) A25 S10 (g_bin (u := .int .i64 el) (k := .int .i64 el) (by kernel_rfl) (by kernel_rfl) (fun _ => by kernel_rfl) (b_mul (by omega))) rfl (fun ac A26 => ?_)
    refine s_one (.int .i64 ((el * el) * 64)) A26 S10 (g_bin (u := .int .i64 (el * el)) (k := .int .i64 64) (by kernel_rfl) (by kernel_rfl) (fun _ => by kernel_rfl) (b_mul (by omega))) rfl (fun ac A27 => ?_)
    refine s_one (.bool (decide ((n : Int) ≠ (el * el) * 64))) A27 S10 (g_bin (u := .int .i64 (n : Int)) (k := .int .i64 ((el * el) * 64)) (by kernel_rfl) (by kernel_rfl) (fun _ => by kernel_rfl) b_neq) rfl (fun ac A28 => ?_)
    refine s_one (.bool (decide ((n : Int) ≠ (el * el) * 64))) A28 S10 (g_assign (by kernel_rfl)) rfl (fun ac A29 => ?_)
    refine wpList_nil ?_
    refine n_then ?_
    refine c_ifb (b := (decide ((n : Int) ≠ (el * el) * 64))) A29 (by kernel_rfl) (fun h30 => ?_) (fun h30 => ?_)
    · have p31 := of_decide_eq_true h30
      refine wp_seq ?_
      refine wp_region_lit ?_
      refine s_one (.int .i64 0) A29 S10 (g_assign (by kernel_rfl)) rfl (fun ac A32 => ?_)
      refine s_one (.int .i64 10) A32 S10 (g_assign (by kernel_rfl)) rfl (fun ac A33 => ?_)
      refine wpList_nil ?_
      refine n_then ?_
      refine wp_ret ?_
      refine r_block ?_
      refine r_then ?_
      refine fin2 (.int .i64 0) (.int .i64 10) Try.results14 A33 S10 (rv_tmp (by kernel_rfl)) (rv_tmp (by kernel_rfl)) ⟨?_, S10.kp⟩
      rw [mxC_s h18 (by rw [hn]; omega)]
    · have p34 := of_decide_eq_false h30
      refine wp_skip ?_
      refine n_block ?_
      refine n_then ?_
      refine wp_seq ?_
      refine wp_region_lit ?_
      refine s_one (.pointer (some ⟨g3, 1, none⟩)) A29 S10 (g_field (u := .pointer (some ⟨g3, 0, none⟩)) (by kernel_rfl) (fun _ => by kernel_rfl)) rfl (fun ac A35 => ?_)
      refine s_one (.slice A n cap) A35 S10 (g_load (g := g3) (off := 1) 0 (by kernel_rfl) rfl (by kernel_rfl)) rfl (fun ac A36 => ?_)
      refine s_call (fs := #[]) (cp := #[]) (r := [(0, .slice A n cap)]) #[.slice A n cap] (.tuple #[.int .i64 ((firstErr xs 0).1 : Int), .int .i64 ((firstErr xs 0).2)]) A36 S10 (drewB (samplesErr_n hn A cap _ (hr.kept S10.kp) (by unfold maxLen; omega))) Try.call61 (by kernel_rfl) (by kernel_rfl) (by kernel_rfl) rfl (fun ac wc A37 S38 => ?_)
      refine s_one (.int .i64 ((firstErr xs 0).1 : Int)) A37 S38 (g_extract (u := .tuple #[.int .i64 ((firstErr xs 0).1 : Int), .int .i64 ((firstErr xs 0).2)]) (by kernel_rfl) (fun _ => by kernel_rfl)) rfl (fun ac A40 => ?_)
      refine s_one (.int .i64 ((firstErr xs 0).2)) A40 S38 (g_extract (u := .tuple #[.int .i64 ((firstErr xs 0).1 : Int), .int .i64 ((firstErr xs 0).2)]) (by kernel_rfl) (fun _ => by kernel_rfl)) rfl (fun ac A41 => ?_)
      refine s_one (.int .i64 ((firstErr xs 0).1 : Int)) A41 S38 (g_assign (by kernel_rfl)) rfl (fun ac A42 => ?_)
      refine s_one (.int .i64 ((firstErr xs 0).2)) A42 S38 (g_assign (by kernel_rfl)) rfl (fun ac A43 => ?_)
      refine wpList_nil ?_
      refine n_then ?_
      refine wp_ret ?_
      refine fin2 (.int .i64 ((firstErr xs 0).1 : Int)) (.int .i64 ((firstErr xs 0).2)) Try.results14 A43 S38 (rv_tmp (by kernel_rfl)) (rv_tmp (by kernel_rfl)) ⟨?_, S38.kp⟩
      rw [mxC_y h18 (by rw [hn]; omega)]
set_option maxRecDepth 100000 in
set_option maxHeartbeats 400000 in
theorem refCheckMatrix_s (el : Int) (A : Option Addr) (n cap : Nat) (xs : List Nat) (w0 : World) (hn : xs.length = n) (hr : FReads w0 A xs) (hm : n ≤ 1000) :
    Calls Try.prog 17 #[.agg #[.int .i64 el, .slice A n cap]] w0 fun e w' => e = .returned (.tuple #[.int .i64 (mxC el xs).1, .int .i64 (mxC el xs).2]) ∧ Below w0.heap.size w0 w' := by
  have S0 := St.start w0
  refine enter (n := 23) Try.func17 rfl rfl rfl (fun ac A0 => ?_)
  refine wp_seq ?_
  refine wp_region_lit ?_
  refine s_box (.agg #[.int .i64 el, .slice A n cap]) A0 S0 (by kernel_rfl) rfl (fun g3 ac wc A1 S2 => ?_)
  replace S2 : St _ (⟨g3, 30, #[.int .i64 el, .slice A n cap], true⟩ :: _) _ _ := S2
  refine s_one (.int .i64 0) A1 S2 (g_assign (by kernel_rfl)) rfl (fun ac A5 => ?_)
  refine s_one (.int .i64 0) A5 S2 (g_assign (by kernel_rfl)) rfl (fun ac A6 => ?_)
  refine wpList_nil ?_
  refine n_then ?_
  refine wp_seq ?_
  refine wp_seq ?_
  refine wp_region_lit ?_
  refine s_one (.pointer (some ⟨g3, 0, none⟩)) A6 S2 (g_field (u := .pointer (some ⟨g3, 0, none⟩)) (by kernel_rfl) (fun _ => by kernel_rfl)) rfl (fun ac A7 => ?_)
  refine s_one (.int .i64 el) A7 S2 (g_load (g := g3) (off := 0) 0 (by kernel_rfl) rfl (by kernel_rfl)) rfl (fun ac A8 => ?_)
  refine s_call (fs := #[]) (cp := #[]) (r := [(0, .int .i64 el), (0, .int .i64 1), (0, .int .i64 16)]) #[.int .i64 el, .int .i64 1, .int .i64 16] (.bool (inB el 1 16)) A8 S2 (sameB (Within_any el 1 16 _)) Try.call39 (by kernel_rfl) (by kernel_rfl) (by kernel_rfl) rfl (fun ac wc A9 S10 => ?_)
  refine s_one (.bool (!(inB el 1 16))) A9 S10 (g_un (u := .bool (inB el 1 16)) (by kernel_rfl) (fun _ => by kernel_rfl)) rfl (fun ac A12 => ?_)
  refine wpList_nil ?_
  refine n_then ?_
  refine c_ifb (b := (!(inB el 1 16))) A12 (by kernel_rfl) (fun h13 => ?_) (fun h13 => ?_)
  · have h14 : inB el 1 16 = false := by simpa using h13
    refine wp_seq ?_
    refine wp_region_lit ?_
    refine s_one (.int .i64 0) A12 S10 (g_assign (by kernel_rfl)) rfl (fun ac A15 => ?_)
    refine s_one (.int .i64 2) A15 S10 (g_assign (by kernel_rfl)) rfl (fun ac A16 => ?_)
    refine wpList_nil ?_
    refine n_then ?_
    refine wp_ret ?_
    refine r_then ?_
    refine fin2 (.int .i64 0) (.int .i64 2) Try.results17 A16 S10 (rv_tmp (by kernel_rfl)) (rv_tmp (by kernel_rfl)) ⟨?_, S10.kp⟩
    rw [mxC_r h14]
  · have h17 : inB el 1 16 = true := by simpa using h13
    have hel := inB_true.1 h17
    have hsq := sq_bd hel
    refine wp_skip ?_
    refine n_then ?_
    refine wp_seq ?_
    refine wp_seq ?_
    refine wp_region_lit ?_
    refine s_one (.pointer (some ⟨g3, 1, none⟩)) A12 S10 (g_field (u := .pointer (some ⟨g3, 0, none⟩)) (by kernel_rfl) (fun _ => by kernel_rfl)) rfl (fun ac A18 => ?_)
    refine s_one (.slice A n cap) A18 S10 (g_load (g := g3) (off := 1) 0 (by kernel_rfl) rfl (by kernel_rfl)) rfl (fun ac A19 => ?_)
    refine s_one (.int .i64 (n : Int)) A19 S10 (g_built (r := [(0, .slice A n cap)]) (by kernel_rfl) (fun _ _ _ => by kernel_rfl)) rfl (fun ac A20 => ?_)
    refine s_one (.pointer (some ⟨g3, 0, none⟩)) A20 S10 (g_field (u := .pointer (some ⟨g3, 0, none⟩)) (by kernel_rfl) (fun _ => by kernel_rfl)) rfl (fun ac A21 => ?_)
    refine s_one (.int .i64 el) A21 S10 (g_load (g := g3) (off := 0) 0 (by kernel_rfl) rfl (by kernel_rfl)) rfl (fun ac A22 => ?_)
    refine s_one (.pointer (some ⟨g3, 0, none⟩)) A22 S10 (g_field (u := .pointer (some ⟨g3, 0, none⟩)) (by kernel_rfl) (fun _ => by kernel_rfl)) rfl (fun ac A23 => ?_)
    refine s_one (.int .i64 el) A23 S10 (g_load (g := g3) (off := 0) 0 (by kernel_rfl) rfl (by kernel_rfl)) rfl (fun ac A24 => ?_)
    refine s_one (.int .i64 (el * el)) A24 S10 (g_bin (u := .int .i64 el) (k := .int .i64 el) (by kernel_rfl) (by kernel_rfl) (fun _ => by kernel_rfl) (b_mul (by omega))) rfl (fun ac A25 => ?_)
    refine s_one (.int .i64 ((el * el) * 64)) A25 S10 (g_bin (u := .int .i64 (el * el)) (k := .int .i64 64) (by kernel_rfl) (by kernel_rfl) (fun _ => by kernel_rfl) (b_mul (by omega))) rfl (fun ac A26 => ?_)
    refine s_one (.bool (decide ((n : Int) ≠ (el * el) * 64))) A26 S10 (g_bin (u := .int .i64 (n : Int)) (k := .int .i64 ((el * el) * 64)) (by kernel_rfl) (by kernel_rfl) (fun _ => by kernel_rfl) b_neq) rfl (fun ac A27 => ?_)
    refine wpList_nil ?_
    refine n_then ?_
    refine c_ifb (b := (decide ((n : Int) ≠ (el * el) * 64))) A27 (by kernel_rfl) (fun h28 => ?_) (fun h28 => ?_)
    · have p29 := of_decide_eq_true h28
      refine wp_seq ?_
      refine wp_region_lit ?_
      refine s_one (.int .i64 0) A27 S10 (g_assign (by kernel_rfl)) rfl (fun ac A30 => ?_)
      refine s_one (.int .i64 10) A30 S10 (g_assign (by kernel_rfl)) rfl (fun ac A31 => ?_)
      refine wpList_nil ?_
      refine n_then ?_
      refine wp_ret ?_
      refine r_then ?_
      refine fin2 (.int .i64 0) (.int .i64 10) Try.results17 A31 S10 (rv_tmp (by kernel_rfl)) (rv_tmp (by kernel_rfl)) ⟨?_, S10.kp⟩
      rw [mxC_s h17 (by rw [hn]; omega)]
    · have p32 := of_decide_eq_false h28
      refine wp_skip ?_
      refine n_then ?_
      refine wp_seq ?_
      refine wp_region_lit ?_
      refine s_one (.pointer (some ⟨g3, 1, none⟩)) A27 S10 (g_field (u := .pointer (some ⟨g3, 0, none⟩)) (by kernel_rfl) (fun _ => by kernel_rfl)) rfl (fun ac A33 => ?_)
      refine s_one (.slice A n cap) A33 S10 (g_load (g := g3) (off := 1) 0 (by kernel_rfl) rfl (by kernel_rfl)) rfl (fun ac A34 => ?_)
      refine s_call (fs := #[]) (cp := #[]) (r := [(0, .slice A n cap)]) #[.slice A n cap] (.tuple #[.int .i64 ((firstErr xs 0).1 : Int), .int .i64 ((firstErr xs 0).2)]) A34 S10 (drewB (refSamplesErr_n hn A cap _ (hr.kept S10.kp) (by unfold maxLen; omega))) Try.call67 (by kernel_rfl) (by kernel_rfl) (by kernel_rfl) rfl (fun ac wc A35 S36 => ?_)
      refine s_one (.int .i64 ((firstErr xs 0).1 : Int)) A35 S36 (g_extract (u := .tuple #[.int .i64 ((firstErr xs 0).1 : Int), .int .i64 ((firstErr xs 0).2)]) (by kernel_rfl) (fun _ => by kernel_rfl)) rfl (fun ac A38 => ?_)
      refine s_one (.int .i64 ((firstErr xs 0).2)) A38 S36 (g_extract (u := .tuple #[.int .i64 ((firstErr xs 0).1 : Int), .int .i64 ((firstErr xs 0).2)]) (by kernel_rfl) (fun _ => by kernel_rfl)) rfl (fun ac A39 => ?_)
      refine s_one (.int .i64 ((firstErr xs 0).1 : Int)) A39 S36 (g_assign (by kernel_rfl)) rfl (fun ac A40 => ?_)
      refine s_one (.int .i64 ((firstErr xs 0).2)) A40 S36 (g_assign (by kernel_rfl)) rfl (fun ac A41 => ?_)
      refine wpList_nil ?_
      refine n_then ?_
      refine wp_ret ?_
      refine fin2 (.int .i64 ((firstErr xs 0).1 : Int)) (.int .i64 ((firstErr xs 0).2)) Try.results17 A41 S36 (rv_tmp (by kernel_rfl)) (rv_tmp (by kernel_rfl)) ⟨?_, S36.kp⟩
      rw [mxC_y h17 (by rw [hn]; omega)]
end Go.Proofs.Ytcijkniijomcjaa
namespace Go.Proofs.Ytcijkniijomcjaa
open Go.RowKit Go.Cpl
/-- The trace of numbers. -/
def mkT (l : List Int) (n : Nat) : List Nat := done 0 (fun i => floatOfInt .f32 (nthI l i)) 64 n
end Go.Proofs.Ytcijkniijomcjaa
namespace Go.Proofs.Ytcijkniijomcjaa
open Go.RowKit Go.Cpl
/-- The first error of some. -/
def firstOf : List Int → Int
  | [] => 0
  | e :: l => if e = 0 then firstOf l else e
theorem firstOf_step (l : List Int) (k : Nat) (h : k < l.length) : firstOf (l.drop k) = if nthI l k = 0 then firstOf (l.drop (k + 1)) else nthI l k := by
  rw [List.drop_eq_getElem_cons h]
  simp only [firstOf, nthI_eq h]
set_option maxHeartbeats 400000 in
theorem first_any (g : Nat) (t : TypeId) (cap : Nat) (l : List Int) (n : Nat) (w : World) (hb : Blk w g t (ints l)) (hn : l.length = n) (hl : n ≤ 1000) :
    Calls Try.prog 62 #[.slice (some ⟨g, 0, none⟩) n cap] w fun e w' => e = .returned (.int .i64 (firstOf l)) ∧ w = w' := by
  have HN := Lib.hid hn
  clear hn
  go_enter Try.func62, Try.ntmps62
  go_wp2
  go_loop [7] (fun i => ∃ k : Nat, k ≤ n ∧ i = .int .i64 k ∧ Hid (firstOf l = firstOf (l.drop k))) (fun i => n - (intOf i).toNat)
  case atStart => exact ⟨0, Nat.zero_le _, rfl, rfl⟩
  case round =>
    obtain ⟨k, hk, rfl, HF⟩ := hrel
    by_cases hlt : k < n
    · have hs := firstOf_step l k (by rw [HN.out]; exact hlt)
      rw [← HF.out] at hs
      have hc := blk_int hb (k := k) (by rw [HN.out]; exact hlt)
      by_cases h0 : nthI l k = 0
      · rw [if_pos h0] at hs
        rw [h0] at hc
        have HS := Lib.hid hs
        clear h0 hs HF
        go_wp2
        go_round
        case rel => exact ⟨k + 1, by omega, by go_num, HS.out⟩
        case measure => simp [intOf]; omega
      · rw [if_neg h0] at hs
        have h1 : (nthI l k != 0) = true := by simpa using h0
        have HS := Lib.hid hs
        clear h0 hs HF
        go_wp2
        go_ret
        rw [HS.out]
        exact ⟨rfl, rfl⟩
    · have hs : firstOf l = 0 := by rw [HF.out, List.drop_eq_nil_of_le (by rw [HN.out]; omega)]; rfl
      have HS := Lib.hid hs
      clear hs HF
      go_wp2
      go_ret
      rw [HS.out]
      exact ⟨rfl, rfl⟩
/-- The error of a gate. -/
def gErr (a b : Int) : Int := if inB a 0 60 && inB b 0 60 then (if b < a then 9 else 0) else 2
set_option maxHeartbeats 400000 in
theorem gateErr_any (a b : Int) (w : World) : Calls Try.prog 93 #[.agg #[.int .i64 a, .int .i64 b]] w fun e w' => e = .returned (.int .i64 (gErr a b)) ∧ Below w.heap.size w w' := by
  unfold gErr
  cases ha : inB a 0 60
  · have HA := Lib.hid ha
    clear ha
    go_enter Try.func93, Try.ntmps93
    go_wp2_with (go_at_call 60; refine (within_any _ _ _ _).mono ?_; rintro e w' ⟨rfl, rfl⟩; rw [HA.out])
    go_ret
    exact ⟨rfl, (Below.refl _ _).alloc (Nat.le_refl _) _⟩
  · have HA := Lib.hid ha
    clear ha
    cases hb : inB b 0 60
    · have HB := Lib.hid hb
      clear hb
      go_enter Try.func93, Try.ntmps93
      go_wp2_with (go_at_call 60; refine (within_any _ _ _ _).mono ?_; rintro e w' ⟨rfl, rfl⟩; first | rw [HA.out] | rw [HB.out])
      go_ret
      exact ⟨rfl, (Below.refl _ _).alloc (Nat.le_refl _) _⟩
    · have HB := Lib.hid hb
      clear hb
      by_cases hc : b < a
      · go_enter Try.func93, Try.ntmps93
        go_wp2_with (go_at_call 60; refine (within_any _ _ _ _).mono ?_; rintro e w' ⟨rfl, rfl⟩; first | rw [HA.out] | rw [HB.out])
        go_ret
        exact ⟨by simp, (Below.refl _ _).alloc (Nat.le_refl _) _⟩
      · go_enter Try.func93, Try.ntmps93
        go_wp2_with (go_at_call 60; refine (within_any _ _ _ _).mono ?_; rintro e w' ⟨rfl, rfl⟩; first | rw [HA.out] | rw [HB.out])
        go_ret
        exact ⟨by simp, (Below.refl _ _).alloc (Nat.le_refl _) _⟩
theorem size2 (a b : Int) : (#[Value.int .i64 a, Value.int .i64 b] : Array Value).size = 2 := rfl
theorem one2 (a b : Int) : (#[Value.int .i64 a, Value.int .i64 b] : Array Value).all (·.oneCell') = true := by simp [Value.oneCell']
theorem row53 : IsRow Try.prog 97 2 := ⟨⟨_, Try.underlying97, rfl⟩, by kernel_rfl⟩
theorem zero53 : ((Try.prog.info? 97).bind (·.zero)).map (·.cells) = some #[.int .i64 0, .int .i64 0] := by kernel_rfl
/-- The greatest square from a place on, so many places, against one that was found. -/
def peakFrom (l : List Int) : Nat → Nat → Int × Int → Int × Int
  | _, 0, best => best
  | i, n + 1, best => peakFrom l (i + 1) n (if best.2 < sqP l i then ((i : Int), sqP l i) else best)
/-- The peak of a gate. -/
def peakOf (l : List Int) (a b : Nat) : Int × Int := peakFrom l (a + 1) (b - a) ((a : Int), sqP l a)
theorem firstOf_two {a b : Int} (h : firstOf [a, b] = 0) : a = 0 ∧ b = 0 := by
  simp only [firstOf] at h
  by_cases h1 : a = 0
  · rw [if_pos h1] at h
    by_cases h2 : b = 0
    · exact ⟨h1, h2⟩
    · rw [if_neg h2] at h; exact absurd h h2
  · rw [if_neg h1] at h; exact absurd h h1
set_option maxRecDepth 100000 in
set_option maxHeartbeats 1600000 in
theorem PeakIn_right (xs : List Nat) (a b : Nat) (w : World) (hl : xs.length = 64) (h0 : (firstErr xs 0).2 = 0) (hab : a ≤ b) (hb60 : b ≤ 60) :
    Calls Try.prog 53 #[.agg (trc xs), .agg #[.int .i64 a, .int .i64 b]] w fun e w' => e = .returned (.tuple #[.agg #[.int .i64 (peakOf (nums xs) a b).1, .int .i64 (peakOf (nums xs) a b).2], .int .i64 0]) ∧ Below w.heap.size w w' := by
  have HE := Lib.hid (show firstOf [(firstErr xs 0).2, gErr a b] = 0 by
    rw [h0]; simp [firstOf, gErr, inB]; omega)
  have HL := Lib.hid hl
  have HR := Lib.hid (right_of h0)
  have HQ := Lib.hid (fun g t W ht hbW => square_any g t (nums xs) W (nums_length xs) ht hbW (nums_range hl (right_of h0)))
  have HB := Lib.hid (fun t => sqP_bound (nums_range hl (right_of h0)) t)
  have HS := Lib.hid (show (ints (nums xs)).size = 64 by rw [ints_size, nums_length])
  have HZ := Lib.hid (show (ints (List.replicate 64 0)).size = 64 by rw [ints_size]; simp)
  have hu := Try.underlying38
  have hi : (Try.prog.info? 38).map (·.size) = some (trc xs).toList.length := by rw [Array.length_toList, size_trc hl]; exact row26.2
  have hle : (trc xs).toList.length = 64 := by rw [Array.length_toList, size_trc hl]
  have h1 : ∀ v ∈ (trc xs).toList, v.oneCell' = true := by
    intro v hv; simp only [trc, List.mem_map] at hv; obtain ⟨n, _, rfl⟩ := hv; rfl
  clear hl h0
  have kB := Kp.refl w
  go_enter Try.func53, Try.ntmps53
  go_wp2_with (first | ((with_reducible refine wlB (some 2) 38 (trc xs) ?_ ?_); rfl; intro g2 w2 l2 b2 k2; replace kB := kB.new l2 k2) | ((with_reducible refine wlB (some 3) 102 #[.int .i64 a, .int .i64 b] ?_ ?_); rfl; intro g3 w3 l3 b3 k3; replace kB := kB.new l3 k3; replace b2 := b2.past l3 k3) | ((with_reducible refine wlA (some 4) 97 #[.int .i64 0, .int .i64 0] zero53 ?_); intro g4 w4 l4 b4 k4; have o4 := kB.own l4; replace kB := kB.new l4 k4; replace b2 := b2.past l4 k4; replace b3 := b3.past l4 k4))
  have hS : ∀ w', Kp w4 w' → w'.rangeAt g2 0 (trc xs).toList ∧ w'.cell? ⟨g3, 0, none⟩ = some (.int .i64 a) ∧ w'.cell? ⟨g3, 1, none⟩ = some (.int .i64 b) ∧ Kp w4 w' := fun w' hk =>
    ⟨rangeAt_of_blk (b2.kept hk), (b3.kept hk).cell 0, (b3.kept hk).cell 1, hk⟩
  have HSK := Lib.hid hS
  clear hS
  go_region_held3 (fun w' => w'.rangeAt g2 0 (trc xs).toList ∧ w'.cell? ⟨g3, 0, none⟩ = some (.int .i64 a) ∧ w'.cell? ⟨g3, 1, none⟩ = some (.int .i64 b) ∧ Kp w4 w') ((first | exact HSK.out _ (Kp.refl _).drew | exact HSK.out _ (q6.alloc _) | exact HSK.out _ q6 | exact HSK.out _ q5))
    (first | (go_at_call 71; refine (traceErr_any xs _ HL.out).mono ?_; rintro e w5 ⟨rfl, k5⟩; have q5 : Kp w4 w5 := (Kp.refl w4).drew.call k5) | (go_at_call 93; refine (gateErr_any _ _ _).mono ?_; rintro e w6 ⟨rfl, k6⟩; have q6 : Kp w4 w6 := q5.call k6) | (go_at_call 62; refine (first_any _ 32 _ [(firstErr xs 0).2, gErr a b] 2 _ (by exact Blk.new _ _ _) rfl (by omega)).mono ?_; rintro e w7 ⟨rfl, rfl⟩; rw [HE.out]))
  have q7 := fun o => q6.alloc o
  go_wp2_with (first | (go_at_call 66; refine (numbersOf_any _ xs _ HL.out (b2.kept (q7 _)) HR.out).mono ?_; rintro e w8 ⟨rfl, k8⟩; have q8 : Kp w4 w8 := (q7 _).call k8; replace kB := kB.call q8; replace b3 := b3.kept q8; replace b4 := b4.kept q8) | ((with_reducible refine wlA (some 7) 123 (ints (List.replicate 64 0)) zero159 ?_); intro g7 w9 l9 b9 k9; have o9 := kB.own l9; have n39 := Nat.lt_of_lt_of_le b3.lt l9; have n49 := Nat.lt_of_lt_of_le b4.lt l9; replace kB := kB.new l9 k9; replace b3 := b3.past l9 k9; replace b4 := b4.past l9 k9) | ((with_reducible refine wlS 123 (.tmp 7) (.tmp 21) b9 HZ.out HS.out row159 (ints_one _) ?_ ?_ ?_); rfl; rfl; intro w10 b10 k10; replace kB := kB.turn o9 k10; replace b3 := k10.blk b3 (Nat.ne_of_lt n39); replace b4 := k10.blk b4 (Nat.ne_of_lt n49)))
  go_frame
  have hS : ∀ w', Kp w10 w' → w'.cell? ⟨g3, 0, none⟩ = some (.int .i64 a) ∧ Kp w10 w' := fun w' hk => ⟨(b3.kept hk).cell 0, hk⟩
  have HSK2 := Lib.hid hS
  clear hS
  go_cut [8] (fun s8 wx => ∃ g8 : Nat, s8 = .pointer (some ⟨g8, 0, none⟩) ∧ Blk wx g8 97 #[.int .i64 a, .int .i64 (sqP (nums xs) a)] ∧ w10.heap.size ≤ g8 ∧ Kp w10 wx)
  case first =>
    go_region_held3 (fun w' => w'.cell? ⟨g3, 0, none⟩ = some (.int .i64 a) ∧ Kp w10 w') ((first | exact HSK2.out _ (Kp.refl _).drew | exact HSK2.out _ q11 | exact HSK2.out _ (q11.alloc _) | exact HSK2.out _ ((Kp.refl _).drew.alloc _) | exact HSK2.out _ ((q11.setCell (Nat.le_refl _) _ _).setCell (Nat.le_refl _) _ _)))
      (first | (go_at_call 94; refine (HQ.out _ a _ ?_ ?_).mono ?_; omega; (first | exact b10.drew | exact b10.drew.alloc _); rintro e w11 ⟨rfl, k11⟩; have q11 : Kp w10 w11 := (by first | exact Kp.call (Kp.refl w10).drew k11 | exact Kp.call ((Kp.refl w10).drew.alloc _) k11); have f0 := fun i => k11.cell (p := ⟨w10.heap.size, i, none⟩); have f1 := fun i => k11.frozen (p := ⟨w10.heap.size, i, none⟩)))
    all_goals (go_wp2_with fail; go_meet; first | exact ⟨_, rfl, Blk.new _ _ _, q11.size, q11.alloc _⟩ | exact ⟨_, rfl, (((Blk.new w10 97 _).drew.kept k11).set_ 0 _).set_ 1 _, Nat.le_refl _, (q11.setCell (Nat.le_refl _) _ _).setCell (Nat.le_refl _) _ _⟩)
  case rest =>
    obtain ⟨g8, rfl, c8, l8, q12⟩ := hcut
    have o8 := kB.own l8
    have n38 := Nat.lt_of_lt_of_le b3.lt l8
    have n48 := Nat.lt_of_lt_of_le b4.lt l8
    have n78 := Nat.lt_of_lt_of_le b10.lt l8
    replace kB := kB.call q12
    replace b3 := b3.kept q12
    replace b4 := b4.kept q12
    replace b10 := b10.kept q12
    have f0 := b3.cell 0
    have f1 := b3.cell 1
    go_wp2
    go_loopw [9] (fun i wr => ∃ (k : Nat) (best : Int × Int), a + 1 ≤ k ∧ k ≤ b + 1 ∧ i = .int .i64 k ∧ Hid (peakOf (nums xs) a b = peakFrom (nums xs) k (b + 1 - k) best) ∧ Blk wr g8 97 #[.int .i64 best.1, .int .i64 best.2] ∧ Blk wr g7 123 (ints (nums xs)) ∧ Blk wr g3 102 #[.int .i64 a, .int .i64 b] ∧ Blk wr g4 97 #[.int .i64 0, .int .i64 0] ∧ Kp w wr) (fun i _ => b + 1 - (intOf i).toNat)
    case atStart => exact ⟨a + 1, (a, sqP (nums xs) a), Nat.le_refl _, by omega, by go_num, by show _ = _; unfold peakOf; rw [show b + 1 - (a + 1) = b - a by omega], c8, b10, b3, b4, kB⟩
    case round =>
      clear b3 b4 b10 c8 kB f0 f1
      obtain ⟨k, best, hk1, hk2, rfl, HF, c8, c7, c3, c4, kB⟩ := hrel
      obtain ⟨bt, bs⟩ := best
      have f1 : wr.cell? ⟨g3, 1, none⟩ = some (.int .i64 b) := c3.cell 1
      by_cases hlt : k ≤ b
      · have hbd := HB.out k
        have hst : peakFrom (nums xs) k (b + 1 - k) (bt, bs) = peakFrom (nums xs) (k + 1) (b + 1 - (k + 1)) (if bs < sqP (nums xs) k then ((k : Int), sqP (nums xs) k) else (bt, bs)) := by
          rw [show b + 1 - k = (b + 1 - (k + 1)) + 1 by omega]; rfl
        rw [← HF.out] at hst
        by_cases hgt : bs < sqP (nums xs) k
        · rw [if_pos hgt] at hst
          have HF2 := Lib.hid hst
          clear hst HF
          go_wp2_with (first | (go_at_call 94; refine (HQ.out _ k _ (by omega) c7).mono ?_; rintro e w13 ⟨rfl, k13⟩; replace kB := kB.call k13; replace c8 := c8.kept k13; replace c7 := c7.kept k13; replace c3 := c3.kept k13; replace c4 := c4.kept k13; have f2 : w13.cell? ⟨g8, 1, none⟩ = some (.int .i64 bs) := c8.cell 1) | ((with_reducible refine wlS 97 (.tmp 8) (.tmp 45) c8 (size2 bt bs) (size2 k (sqP (nums xs) k)) row53 (one2 _ _) ?_ ?_ ?_); rfl; rfl; intro w14 c14 k14; replace kB := kB.turn o8 k14; replace c7 := k14.blk c7 (Nat.ne_of_lt n78); replace c3 := k14.blk c3 (Nat.ne_of_lt n38); replace c4 := k14.blk c4 (Nat.ne_of_lt n48)))
          go_roundw
          case rel => exact ⟨k + 1, ((k : Int), sqP (nums xs) k), by omega, by omega, by go_num, HF2.out, c14, c7, c3, c4, kB⟩
          case measure => simp [intOf]; omega
        · rw [if_neg hgt] at hst
          have HF2 := Lib.hid hst
          clear hst HF
          go_wp2_with (first | (go_at_call 94; refine (HQ.out _ k _ (by omega) c7).mono ?_; rintro e w13 ⟨rfl, k13⟩; replace kB := kB.call k13; replace c8 := c8.kept k13; replace c7 := c7.kept k13; replace c3 := c3.kept k13; replace c4 := c4.kept k13; have f2 : w13.cell? ⟨g8, 1, none⟩ = some (.int .i64 bs) := c8.cell 1))
          go_roundw
          case rel => exact ⟨k + 1, (bt, bs), by omega, by omega, by go_num, HF2.out, c8, c7, c3, c4, kB⟩
          case measure => simp [intOf]; omega
      · have hst : peakOf (nums xs) a b = (bt, bs) := by rw [HF.out, show b + 1 - k = 0 by omega]; rfl
        have HF2 := Lib.hid hst
        clear hst HF
        go_wp2_with (first | ((with_reducible refine wlL (some 46) 97 c8 (size2 bt bs) row53 ?_ ?_); rfl) | ((with_reducible refine wlS 97 (.tmp 4) (.tmp 46) c4 (size2 0 0) (size2 bt bs) row53 (one2 _ _) ?_ ?_ ?_); rfl; rfl; intro w14 c14 k14; replace kB := kB.turn o4 k14))
        rw [HF2.out]
        exact bodyPost_ret (res_cell_tmp rfl _ rfl c14 (size2 bt bs) row53) rfl ⟨rfl, kB⟩
end Go.Proofs.Ytcijkniijomcjaa
namespace Go.Proofs.Ytcijkniijomcjaa
open Go.RowKit Go.Cpl
/-- The sum of products with a lag, of the first k samples. -/
def corrTo (x y : List Int) (lag : Int) : Nat → Int
  | 0 => 0
  | k + 1 => corrTo x y lag k + (if inB ((k : Int) + lag) 0 63 = true then nthI x k * nthI y ((k : Int) + lag).toNat else 0)
def corr (x y : List Int) (lag : Int) : Int := corrTo x y lag 64
theorem mul_bound {x y : Int} (hx : -2047 ≤ x ∧ x ≤ 2047) (hy : -2047 ≤ y ∧ y ≤ 2047) : -4190209 ≤ x * y ∧ x * y ≤ 4190209 := by
  have h1 : (x * y).natAbs ≤ 2047 * 2047 := by rw [Int.natAbs_mul]; exact Nat.mul_le_mul (by omega) (by omega)
  omega
/-- All numbers are small. -/
def Small (l : List Int) : Prop := ∀ k, -2047 ≤ nthI l k ∧ nthI l k ≤ 2047
theorem corrTo_bound {x y : List Int} (hx : Small x) (hy : Small y) (lag : Int) : ∀ k : Nat, -(4190209 * (k : Int)) ≤ corrTo x y lag k ∧ corrTo x y lag k ≤ 4190209 * (k : Int)
  | 0 => by simp [corrTo]
  | k + 1 => by
    have ih := corrTo_bound hx hy lag k
    have hm := mul_bound (hx k) (hy ((k : Int) + lag).toNat)
    simp only [corrTo]
    split <;> omega
theorem index159 (l : List Int) (hl : l.length = 64) (k : Nat) (hk : k < 64) (w : World) : (Instr.index 123 (.agg (ints l)) (.int .i64 (k : Int))).run Try.prog w = .ok (.int .i64 (nthI l k)) w := by
  have h := ints_get (l := l) (k := k) (by omega)
  have hs : ∀ W, (sizeOf 3).run Try.prog W = .ok 1 W := fun W => by kernel_rfl
  have ha : ∀ W, (isAgg 3).run Try.prog W = .ok false W := fun W => by kernel_rfl
  have hi : (0 : Int) ≤ (k : Int) ∧ (k : Int) < 64 := by omega
  simp [Instr.index, run_underlying Try.underlying123, asIntOf, hi, part, hs, ha, h]
  intro h64; omega
set_option maxHeartbeats 800000 in
theorem like_any (x y : List Int) (gx gy : Nat) (lag : Int) (w : World) (hx : x.length = 64) (hy : y.length = 64) (sx : Small x) (sy : Small y) (hlo : -32 ≤ lag) (hhi : lag ≤ 32) (bx : Blk w gx 123 (ints x)) (by_ : Blk w gy 123 (ints y)) :
    Calls Try.prog 96 #[.int .i64 lag, .pointer (some ⟨gx, 0, none⟩), .pointer (some ⟨gy, 0, none⟩)] w fun e w' => e = .returned (.int .i64 (corr x y lag)) ∧ w = w' := by
  have HX := Lib.hid (show (ints x).size = 64 by rw [ints_size, hx])
  have HIx := Lib.hid (index159 x hx)
  have HY := Lib.hid hy
  have HSx := Lib.hid sx
  have HSy := Lib.hid sy
  have HB := Lib.hid (corrTo_bound sx sy lag)
  clear hx hy sx sy
  go_enter Try.func96, Try.ntmps96
  go_wp2_with ((with_reducible refine wlL (some 8) 123 bx HX.out row159 ?_ ?_); rfl)
  go_loop [9, 5] (fun i s => ∃ k : Nat, k ≤ 64 ∧ i = .int .i64 k ∧ s = .int .i64 (corrTo x y lag k)) (fun i _ => 64 - (intOf i).toNat)
  case atStart => exact ⟨0, Nat.zero_le _, rfl, rfl⟩
  case round =>
    obtain ⟨k, hk, rfl, rfl⟩ := hrel
    have hB := HB.out k
    by_cases hlt : k < 64
    · have hidx := HIx.out k hlt
      have hsx := HSx.out k
      have hsy := HSy.out ((k : Int) + lag).toNat
      have hm := mul_bound hsx hsy
      have hst : corrTo x y lag (k + 1) = corrTo x y lag k + (if inB ((k : Int) + lag) 0 63 = true then nthI x k * nthI y ((k : Int) + lag).toNat else 0) := rfl
      by_cases hin : 0 ≤ (k : Int) + lag ∧ (k : Int) + lag ≤ 63
      · rw [if_pos (inB_true.2 hin)] at hst
        have HST := Lib.hid hst
        have HI := Lib.hid (inB_true.2 hin)
        clear hst
        obtain ⟨hin0, hin1⟩ := hin
        have hc : w.cell? ⟨gy, ((k : Int) + lag).toNat, none⟩ = some (.int .i64 (nthI y ((k : Int) + lag).toNat)) := blk_int by_ (by rw [HY.out]; omega)
        generalize nthI y ((k : Int) + lag).toNat = ny at *
        generalize nthI x k = nx at *
        go_wp2_with (go_at_call 60; refine (within_any _ _ _ _).mono ?_; rintro e w' ⟨rfl, rfl⟩; rw [HI.out])
        go_round
        case rel => exact ⟨k + 1, by omega, by go_num, by rw [HST.out]⟩
        case measure => simp [intOf]; omega
      · rw [if_neg (by rw [inB_true]; exact hin), Int.add_zero] at hst
        have HST := Lib.hid hst
        have HI := Lib.hid (inB_false.2 hin)
        clear hst hm hsy hin
        generalize nthI x k = nx at *
        go_wp2_with (go_at_call 60; refine (within_any _ _ _ _).mono ?_; rintro e w' ⟨rfl, rfl⟩; rw [HI.out])
        go_round
        case rel => exact ⟨k + 1, by omega, by go_num, by rw [HST.out]⟩
        case measure => simp [intOf]; omega
    · obtain rfl : k = 64 := by omega
      go_wp2
      go_ret
      exact ⟨rfl, rfl⟩
/-- One lag more that is looked at. -/
def lagStep (x y : List Int) (best : Int × Int) (lag : Int) : Int × Int := if best.2 < corr x y lag then (lag, corr x y lag) else best
/-- So many lags more, from one on, both ways. -/
def lagFrom (x y : List Int) : Nat → Nat → Int × Int → Int × Int
  | _, 0, best => best
  | s, n + 1, best => lagFrom x y (s + 1) n (lagStep x y (lagStep x y best (-(s : Int))) (s : Int))
def lagOf (x y : List Int) (most : Nat) : Int := (lagFrom x y 1 most (0, corr x y 0)).1
theorem corr_bound {x y : List Int} (hx : Small x) (hy : Small y) (lag : Int) : -268173376 ≤ corr x y lag ∧ corr x y lag ≤ 268173376 := by
  have := corrTo_bound hx hy lag 64
  unfold corr
  omega
/-- What LagOf returns. -/
def lagRes (xs ys : List Nat) (m : Int) : Int × Int :=
  if firstOf [(firstErr xs 0).2, (firstErr ys 0).2] = 0 then (if inB m 0 32 = true then (lagOf (nums xs) (nums ys) m.toNat, 0) else (0, 2)) else (0, firstOf [(firstErr xs 0).2, (firstErr ys 0).2])
/-- The lag of a place of the two. -/
def pick2 (k i : Nat) : Int := if i = 0 then -(k : Int) else (k : Int)
theorem i83a (a b : Int) (w : World) : (Instr.index 26 (.agg #[.int .i64 a, .int .i64 b]) (.int .i64 0)).run Try.prog w = .ok (.int .i64 a) w := by kernel_rfl
theorem i83b (a b : Int) (w : World) : (Instr.index 26 (.agg #[.int .i64 a, .int .i64 b]) (.int .i64 1)).run Try.prog w = .ok (.int .i64 b) w := by kernel_rfl
theorem index83 (k i : Nat) (hi : i < 2) (w : World) : (Instr.index 26 (.agg #[.int .i64 (-(k : Int)), .int .i64 (k : Int)]) (.int .i64 (i : Int))).run Try.prog w = .ok (.int .i64 (pick2 k i)) w := by
  have h : i = 0 ∨ i = 1 := by omega
  rcases h with rfl | rfl
  · exact i83a _ _ _
  · exact i83b _ _ _
/-- After i of the two. -/
def lagTwo (x y : List Int) (best : Int × Int) (k : Nat) : Nat → Int × Int
  | 0 => best
  | i + 1 => lagStep x y (lagTwo x y best k i) (pick2 k i)
theorem lagFrom_step (x y : List Int) (s n : Nat) (best : Int × Int) : lagFrom x y s (n + 1) best = lagFrom x y (s + 1) n (lagTwo x y best s 2) := rfl
set_option maxRecDepth 100000 in
set_option maxHeartbeats 3200000 in
theorem LagOf_any (xs ys : List Nat) (m : Int) (w : World) (hl : xs.length = 64) (hl2 : ys.length = 64) :
    Calls Try.prog 56 #[.agg (trc xs), .agg (trc ys), .int .i64 m] w fun e w' => e = .returned (.tuple #[.int .i64 (lagRes xs ys m).1, .int .i64 (lagRes xs ys m).2]) ∧ Below w.heap.size w w' := by
  have HL := Lib.hid hl
  have HL2 := Lib.hid hl2
  clear hl hl2
  have kB := Kp.refl w
  go_enter Try.func56, Try.ntmps56
  go_wp2_with (first | ((with_reducible refine wlB (some 3) 38 (trc xs) ?_ ?_); rfl; intro g2 w2 l2 b2 k2; replace kB := kB.new l2 k2) | ((with_reducible refine wlB (some 4) 38 (trc ys) ?_ ?_); rfl; intro g3 w3 l3 b3 k3; replace kB := kB.new l3 k3; replace b2 := b2.past l3 k3))
  refine wp_region_held_drew (S := fun w' => Kp w3 w') (by kernel_rfl) (Kp.refl _).drew (fun hH => ?_)
  refine wpAnyH_take (i := 0) (v := .agg (trc xs)) rfl (by kernel_rfl) (by kernel_rfl) (by kernel_rfl) (fun _ _ _ h => h) (yl_load (by rfl) (by rfl) (by rfl) (fun w hk => b2.kept hk) (size_trc HL.out) row26) hH ?_
  refine wpAnyH_take (i := 2) (v := .agg (trc ys)) rfl (by kernel_rfl) (by kernel_rfl) (by kernel_rfl) (fun _ _ _ h => h) (yl_load (by rfl) (by rfl) (by rfl) (fun w hk => b3.kept hk) (size_trc HL2.out) row26) hH ?_
  refine wpAnyH_ready (rs := [1]) (by kernel_rfl) (by simp) ?_
  refine AllReadyH.cons rfl (fun K hK => ?_) AllReadyH.nil
  go_simp
  refine (traceErr_any xs _ HL.out).mono ?_
  rintro e w5 ⟨rfl, k5⟩
  refine hK.out _ _ (hH.call k5) (fun q5 => ?_)
  clear hK K
  refine wpAnyH_ready (rs := [3]) (by kernel_rfl) (by simp) ?_
  refine AllReadyH.cons rfl (fun K hK => ?_) AllReadyH.nil
  go_simp
  refine (traceErr_any ys _ HL2.out).mono ?_
  rintro e w6 ⟨rfl, k6⟩
  refine hK.out _ _ (Kp.call q5 k6) (fun q6 => ?_)
  clear hK K
  refine wpAnyH_ready (rs := [4]) (by kernel_rfl) (by simp) ?_
  refine AllReadyH.cons rfl (fun K hK => ?_) AllReadyH.nil
  go_simp
  refine hK.out _ _ (Kp.alloc q6 _) (fun q7 => ?_)
  clear hK K
  refine wpAnyH_ready (rs := [5]) (by kernel_rfl) (by simp) ?_
  refine AllReadyH.cons rfl (fun K hK => ?_) AllReadyH.nil
  go_simp
  refine (first_any _ 32 _ [(firstErr xs 0).2, (firstErr ys 0).2] 2 _ (by exact Blk.new _ _ _) rfl (by omega)).mono ?_
  rintro e w7 ⟨rfl, rfl⟩
  refine hK.out _ _ q7 (fun q8 => ?_)
  clear hK K
  refine wpAnyH_ready (rs := [6]) (by kernel_rfl) (by simp) ?_
  refine AllReadyH.cons rfl (fun K hK => ?_) AllReadyH.nil
  go_simp
  refine hK.out _ _ q8 (fun q9 => ?_)
  clear hK K
  refine wpAnyH_done (by kernel_rfl) ?_ _
  replace kB := kB.call q9
  replace b2 := b2.kept q9
  replace b3 := b3.kept q9
  clear hH q5 q6 q7 q8 q9 k5 k6
  by_cases he : firstOf [(firstErr xs 0).2, (firstErr ys 0).2] = 0
  · obtain ⟨e1, e2⟩ := firstOf_two he
    have HE := Lib.hid he
    have HR := Lib.hid (right_of e1)
    have HR2 := Lib.hid (right_of e2)
    have sx : Small (nums xs) := nums_range HL.out (right_of e1)
    have sy : Small (nums ys) := nums_range HL2.out (right_of e2)
    have HLK := Lib.hid (fun gx gy lag W hlo hhi bx by_ => like_any (nums xs) (nums ys) gx gy lag W (nums_length xs) (nums_length ys) sx sy hlo hhi bx by_)
    have HCB := Lib.hid (corr_bound sx sy)
    have HS := Lib.hid (show ∀ xs, (ints (nums xs)).size = 64 from fun xs => by rw [ints_size, nums_length])
    have HZ := Lib.hid (show (ints (List.replicate 64 0)).size = 64 by rw [ints_size]; simp)
    rw [he]
    clear he e1 e2 sx sy
    by_cases hm : 0 ≤ m ∧ m ≤ 32
    · have HM := Lib.hid (inB_true.2 hm)
      have HF := Lib.hid (show lagRes xs ys m = (lagOf (nums xs) (nums ys) m.toNat, 0) by unfold lagRes; rw [if_pos HE.out, if_pos HM.out])
      obtain ⟨hm0, hm1⟩ := hm
      go_wp2_with (first | (go_at_call 60; refine (within_any _ _ _ _).mono ?_; rintro e w' ⟨rfl, rfl⟩; rw [HM.out]) | (go_at_call_of 66 (Value.pointer (some ⟨g2, 0, none⟩)); refine (numbersOf_any _ xs _ HL.out b2 HR.out).mono ?_; rintro e w8 ⟨rfl, k8⟩; replace kB := kB.call k8; replace b3 := b3.kept k8) | (go_at_call_of 66 (Value.pointer (some ⟨g3, 0, none⟩)); refine (numbersOf_any _ ys _ HL2.out b3 HR2.out).mono ?_; rintro e w9 ⟨rfl, k9⟩; replace kB := kB.call k9) | ((with_reducible refine wlA (some 9) 123 (ints (List.replicate 64 0)) zero159 ?_); intro g9 w10 l10 b9 k10; have o9 := kB.own l10; replace kB := kB.new l10 k10) | ((with_reducible refine wlA (some 10) 123 (ints (List.replicate 64 0)) zero159 ?_); intro g10 w11 l11 b10 k11; have o10 := kB.own l11; have n910 := Nat.lt_of_lt_of_le b9.lt l11; replace kB := kB.new l11 k11; replace b9 := b9.past l11 k11) | ((with_reducible refine wlS 123 (.tmp 9) (.tmp 30) b9 HZ.out (HS.out xs) row159 (ints_one _) ?_ ?_ ?_); rfl; rfl; intro w12 c9 k12; replace kB := kB.turn o9 k12; replace b10 := k12.blk b10 (Nat.ne_of_gt n910)) | ((with_reducible refine wlS 123 (.tmp 10) (.tmp 31) b10 HZ.out (HS.out ys) row159 (ints_one _) ?_ ?_ ?_); rfl; rfl; intro w13 c10 k13; replace kB := kB.turn o10 k13; replace c9 := k13.blk c9 (Nat.ne_of_lt n910)))
      refine (HLK.out _ _ _ _ (by omega) (by omega) c9 c10).mono ?_
      rintro e w14 ⟨rfl, rfl⟩
      obtain ⟨mn, rfl⟩ := Int.eq_ofNat_of_zero_le hm0
      go_wp2
      go_loop [12, 13, 14] (fun b g a => ∃ (k : Nat) (best : Int × Int), 1 ≤ k ∧ k ≤ mn + 1 ∧ a = .int .i64 k ∧ b = .int .i64 best.1 ∧ g = .int .i64 best.2 ∧ Hid (lagOf (nums xs) (nums ys) mn = (lagFrom (nums xs) (nums ys) k (mn + 1 - k) best).1)) (fun _ _ a => mn + 1 - (intOf a).toNat)
      case atStart => exact ⟨1, (0, corr (nums xs) (nums ys) 0), by omega, by omega, rfl, rfl, rfl, rfl⟩
      case round =>
        obtain ⟨k, ⟨bt, bs⟩, hk1, hk2, rfl, rfl, rfl, HG⟩ := hrel
        by_cases hlt : k ≤ mn
        · have hst : lagOf (nums xs) (nums ys) mn = (lagFrom (nums xs) (nums ys) (k + 1) (mn + 1 - (k + 1)) (lagTwo (nums xs) (nums ys) (bt, bs) k 2)).1 := by
            rw [HG.out, show mn + 1 - k = (mn + 1 - (k + 1)) + 1 by omega, lagFrom_step]
          have HG2 := Lib.hid hst
          clear hst HG
          go_wp2
          go_loop [44, 12, 13] (fun j b g => ∃ i : Nat, i ≤ 2 ∧ j = .int .i64 i ∧ b = .int .i64 (lagTwo (nums xs) (nums ys) (bt, bs) k i).1 ∧ g = .int .i64 (lagTwo (nums xs) (nums ys) (bt, bs) k i).2) (fun j _ _ => 2 - (intOf j).toNat)
          case atStart => exact ⟨0, Nat.zero_le _, rfl, rfl, rfl⟩
          case round =>
            obtain ⟨i, hi, rfl, rfl, rfl⟩ := hrel
            by_cases hli : i < 2
            · have hix := index83 k i hli
              have hpk : -32 ≤ pick2 k i ∧ pick2 k i ≤ 32 := by unfold pick2; split <;> omega
              have hst : lagTwo (nums xs) (nums ys) (bt, bs) k (i + 1) = lagStep (nums xs) (nums ys) (lagTwo (nums xs) (nums ys) (bt, bs) k i) (pick2 k i) := rfl
              unfold lagStep at hst
              by_cases hgt : (lagTwo (nums xs) (nums ys) (bt, bs) k i).2 < corr (nums xs) (nums ys) (pick2 k i)
              · rw [if_pos hgt] at hst
                have HST := Lib.hid hst
                clear hst
                go_wp2_with (go_at_call 96; refine (HLK.out _ _ _ _ hpk.1 hpk.2 c9 c10).mono ?_; rintro e w15 ⟨rfl, rfl⟩)
                go_round
                case rel => exact ⟨i + 1, by omega, by go_num, by rw [HST.out], by rw [HST.out]⟩
                case measure => simp [intOf]; omega
              · rw [if_neg hgt] at hst
                have HST := Lib.hid hst
                clear hst
                go_wp2_with (go_at_call 96; refine (HLK.out _ _ _ _ hpk.1 hpk.2 c9 c10).mono ?_; rintro e w15 ⟨rfl, rfl⟩)
                go_round
                case rel => exact ⟨i + 1, by omega, by go_num, by rw [HST.out], by rw [HST.out]⟩
                case measure => simp [intOf]; omega
            · obtain rfl : i = 2 := by omega
              go_wp2
              go_round
              case rel => exact ⟨k + 1, lagTwo (nums xs) (nums ys) (bt, bs) k 2, by omega, by omega, by go_num, rfl, rfl, HG2.out⟩
              case measure => simp [intOf]; omega
        · have hst : lagOf (nums xs) (nums ys) mn = bt := by rw [HG.out, show mn + 1 - k = 0 by omega]; rfl
          have HG2 := Lib.hid hst
          clear hst HG
          go_wp2
          go_ret2
          rw [HF.out, Int.toNat_natCast, HG2.out]
          exact ⟨rfl, kB⟩
    · have HM := Lib.hid (inB_false.2 hm)
      have HF := Lib.hid (show lagRes xs ys m = (0, 2) by unfold lagRes; rw [if_pos HE.out, HM.out]; rfl)
      clear hm
      go_wp2_with (first | (go_at_call 60; refine (within_any _ _ _ _).mono ?_; rintro e w' ⟨rfl, rfl⟩; rw [HM.out]))
      go_ret2
      rw [HF.out]
      exact ⟨rfl, kB⟩
  · have HF := Lib.hid (show lagRes xs ys m = (0, firstOf [(firstErr xs 0).2, (firstErr ys 0).2]) by unfold lagRes; rw [if_neg he])
    have he' : (firstOf [(firstErr xs 0).2, (firstErr ys 0).2] != 0) = true := by simpa using he
    clear he
    go_wp2
    go_ret2
    rw [HF.out]
    exact ⟨rfl, kB⟩
end Go.Proofs.Ytcijkniijomcjaa
namespace Go.Proofs.Ytcijkniijomcjaa
open Go.RowKit Go.Cpl
set_option maxHeartbeats 400000 in
theorem floor_any (n by_ : Int) (w : World) (hb : 1 ≤ by_) (h1 : -100000000000000000 ≤ n) (h2 : n ≤ 100000000000000000) :
    Calls Try.prog 99 #[.int .i64 n, .int .i64 by_] w fun e w' => e = .returned (.int .i64 (n / by_)) ∧ w = w' := by
  by_cases hn : 0 ≤ n
  · have h3 := Int.emod_nonneg n (b := by_) (by omega)
    go_enter Try.func99, Try.ntmps99
    go_wp2
    go_ret
    exact ⟨rfl, rfl⟩
  · have hd := ediv_of_neg (by omega : n < 0) hb
    have hbd := tdiv_bound (by_ := by_) h1 h2
    by_cases ht : n.tmod by_ < 0
    · rw [if_pos ht] at hd
      rw [hd]
      clear hd
      go_enter Try.func99, Try.ntmps99
      go_wp2
      go_ret
      exact ⟨rfl, rfl⟩
    · rw [if_neg ht] at hd
      rw [hd]
      clear hd
      go_enter Try.func99, Try.ntmps99
      go_wp2
      go_ret
      exact ⟨rfl, rfl⟩
attribute [local go_sem high] run_max_mx run_min_mn
end Go.Proofs.Ytcijkniijomcjaa
namespace Go.Proofs.Ytcijkniijomcjaa
open Go.RowKit Go.Cpl
def s1 : List Nat := spike 10 100
def s2 : List Nat := spike 13 50
theorem s1_err : (firstErr s1 0).2 = 0 := by kernel_rfl
theorem s1_peak : peakOf (nums s1) 0 60 = (7, 10000) := by kernel_rfl
theorem s1_lag : lagRes s1 s2 5 = (3, 0) := by kernel_rfl
theorem c_sp1 (W : World) : Calls Try.prog 54 #[.int .i64 10, .int .i64 100] W fun e w' => e = .returned (.agg (trc s1)) ∧ Below W.heap.size W w' := Spike_any 10 100 W
theorem c_sp2 (W : World) : Calls Try.prog 54 #[.int .i64 13, .int .i64 50] W fun e w' => e = .returned (.agg (trc s2)) ∧ Below W.heap.size W w' := Spike_any 13 50 W
theorem s1_len : s1.length = 64 := spike_length _ _
theorem s2_len : s2.length = 64 := spike_length _ _
theorem c_peak (W : World) : Calls Try.prog 53 #[.agg (trc s1), .agg #[.int .i64 0, .int .i64 60]] W fun e w' => e = .returned (.tuple #[.agg #[.int .i64 7, .int .i64 10000], .int .i64 0]) ∧ Below W.heap.size W w' := by
  have h := PeakIn_right s1 0 60 W s1_len s1_err (by omega) (by omega)
  rw [s1_peak] at h
  exact h
theorem c_lag (W : World) : Calls Try.prog 56 #[.agg (trc s1), .agg (trc s2), .int .i64 5] W fun e w' => e = .returned (.tuple #[.int .i64 3, .int .i64 0]) ∧ Below W.heap.size W w' := by
  have h := LagOf_any s1 s2 5 W s1_len s2_len
  rw [s1_lag] at h
  exact h
end Go.Proofs.Ytcijkniijomcjaa
namespace Go.Proofs.Ytcijkniijomcjaa
open Go.RowKit Go.Cpl
set_option maxRecDepth 100000 in
set_option maxHeartbeats 400000 in
theorem traceOf_s (l : List Int) (w0 : World) (hl : l.length = 64) :
    Calls Try.prog 65 #[.agg (ints l)] w0 fun e w' => e = .returned (.agg (trc (mkT l 64))) ∧ Below w0.heap.size w0 w' := by
  have S0 := St.start w0
  refine enter (n := 16) Try.func65 rfl rfl rfl (fun ac A0 => ?_)
  refine wp_seq ?_
  refine wp_region_lit ?_
  refine s_box (.agg (ints l)) A0 S0 (by kernel_rfl) rfl (fun g3 ac wc A1 S2 => ?_)
  replace S2 : St _ (⟨g3, 123, (ints l), true⟩ :: _) _ _ := S2
  refine s_alloc (trc zT) A1 S2 zero26 rfl (fun g7 ac wc A5 S6 => ?_)
  refine wpList_nil ?_
  refine n_then ?_
  refine wp_seq ?_
  refine wp_seq ?_
  refine wp_region_lit ?_
  refine s_one (.agg (ints l)) A5 S6 (g_loadW (g := g3) 1 (by kernel_rfl) rfl ((ints_size _).trans hl) ⟨⟨_, Try.underlying123, rfl⟩, by kernel_rfl⟩) rfl (fun ac A8 => ?_)
  refine s_one (.int .i64 0) A8 S6 (g_move (by kernel_rfl)) rfl (fun ac A9 => ?_)
  refine wpList_nil ?_
  refine n_then ?_
  refine wp_block ?_
  refine c_loopN (fun mm ac wc => ∃ (k : Nat), mm = 64 - k ∧ (k ≤ 64) ∧ Fr 16 ac [(0, .agg (ints l)), (1, .pointer (some ⟨g3, 0, none⟩)), (2, .pointer (some ⟨g7, 0, none⟩)), (5, .agg (ints l)), (6, .int .i64 (k : Int))] ∧ St w0 [⟨g7, 38, (trc (done 0 (fun i => floatOfInt .f32 (nthI l i)) 64 k)), true⟩, ⟨g3, 123, (ints l), true⟩] [] wc) _ ⟨0, rfl, by omega, (A9.slot (A9.slot (A9.slot (A9.slot (A9.slot A9.nil (v := .int .i64 0) (by kernel_rfl) (congrArg (Value.int .i64) (by omega))) (v := .agg (ints l)) (by kernel_rfl) rfl) (v := .pointer (some ⟨g7, 0, none⟩)) (by kernel_rfl) rfl) (v := .pointer (some ⟨g3, 0, none⟩)) (by kernel_rfl) rfl) (v := .agg (ints l)) (by kernel_rfl) rfl), (St.recell 0 S6 rfl (congrArg trc (done_zero 0 (fun i => floatOfInt .f32 (nthI l i)) 64).symm)).sub sub_all sub_all⟩ ?_
  rintro mm ac wc ⟨k, hm12, hk, A10, S11⟩
  refine wp_seq ?_
  refine wp_region_lit ?_
  refine s_one (.bool (decide ((k : Int) < 64))) A10 S11 (g_bin (u := .int .i64 (k : Int)) (k := .int .i64 64) (by kernel_rfl) (by kernel_rfl) (fun _ => by kernel_rfl) (fun _ => by kernel_rfl)) rfl (fun ac A13 => ?_)
  refine wpList_nil ?_
  refine n_then ?_
  refine wp_seq ?_
  refine c_ifb (b := (decide ((k : Int) < 64))) A13 (by kernel_rfl) (fun h14 => ?_) (fun h14 => ?_)
  · have p15 := of_decide_eq_true h14
    refine wp_skip ?_
    refine n_then ?_
    refine wp_seq ?_
    refine wp_block ?_
    refine wp_seq ?_
    refine wp_region_lit ?_
    refine s_one (.int .i64 (k : Int)) A13 S11 (g_move (by kernel_rfl)) rfl (fun ac A16 => ?_)
    refine s_one (.int .i64 (nthI l k)) A16 S11 (g_indexv (u := .agg (ints l)) (k := .int .i64 (k : Int)) (by kernel_rfl) (by kernel_rfl) (index159 l hl k (by omega))) rfl (fun ac A17 => ?_)
    refine s_one (.int .i64 (k : Int)) A17 S11 (g_assign (by kernel_rfl)) rfl (fun ac A18 => ?_)
    refine s_one (.int .i64 (nthI l k)) A18 S11 (g_assign (by kernel_rfl)) rfl (fun ac A19 => ?_)
    refine wpList_nil ?_
    refine n_then ?_
    refine wp_region_lit ?_
    refine s_one (.int .i64 (k : Int)) A19 S11 (g_move (by kernel_rfl)) rfl (fun ac A20 => ?_)
    refine s_one (.int .i64 (nthI l k)) A20 S11 (g_move (by kernel_rfl)) rfl (fun ac A21 => ?_)
    refine s_one (.float .f32 (floatOfInt .f32 (nthI l k))) A21 S11 (g_conv (u := .int .i64 (nthI l k)) (by kernel_rfl) (fun _ => by kernel_rfl)) rfl (fun ac A22 => ?_)
    refine s_one (.pointer (some ⟨g7, k, none⟩)) A22 S11 (g_index (u := .pointer (some ⟨g7, 0, none⟩)) (k := .int .i64 (k : Int)) (by kernel_rfl) (by kernel_rfl) (ix_arr1 k (len := 64) (by kernel_rfl) (by omega) (by omega))) rfl (fun ac A23 => ?_)
    refine s_store (g := g7) (off := k) (v := .float .f32 (floatOfInt .f32 (nthI l k))) 0 (trc ((done 0 (fun i => floatOfInt .f32 (nthI l i)) 64 k).set k (floatOfInt .f32 (nthI l k)))) A23 S11 (by kernel_rfl) (by kernel_rfl) rfl ((pv_of (by kernel_rfl) rfl (by rw [trc_size, (done_length _ _ _ _)]; omega)).trans (congrArg some (trc_set (done 0 (fun i => floatOfInt .f32 (nthI l i)) 64 k) k (floatOfInt .f32 (nthI l k))))) (fun wc S25 => ?_)
    refine wpList_nil ?_
    refine n_block ?_
    refine n_then ?_
    refine wp_region_lit ?_
    refine s_one (.int .i64 ((k : Int) + 1)) A23 S25 (g_bin (u := .int .i64 (k : Int)) (k := .int .i64 1) (by kernel_rfl) (by kernel_rfl) (fun _ => by kernel_rfl) (b_add (by omega))) rfl (fun ac A27 => ?_)
    refine s_one (.int .i64 ((k : Int) + 1)) A27 S25 (g_move (by kernel_rfl)) rfl (fun ac A28 => ?_)
    refine wpList_nil ?_
    refine n_then ?_
    refine ⟨_, ⟨k + 1, rfl, by omega, (A28.slot (A28.slot (A28.slot (A28.slot (A28.slot A28.nil (v := .int .i64 ((k : Int) + 1)) (by kernel_rfl) (congrArg (Value.int .i64) (by omega))) (v := .agg (ints l)) (by kernel_rfl) rfl) (v := .pointer (some ⟨g7, 0, none⟩)) (by kernel_rfl) rfl) (v := .pointer (some ⟨g3, 0, none⟩)) (by kernel_rfl) rfl) (v := .agg (ints l)) (by kernel_rfl) rfl), (St.recell 0 S25 rfl (congrArg trc (done_set 0 (fun i => floatOfInt .f32 (nthI l i)) 64 k))).sub sub_all sub_all⟩, ?_⟩
    omega
  · have p29 := of_decide_eq_false h14
    refine wp_exit ?_
    refine x_then ?_
    refine x_then ?_
    refine x_hit ?_
    refine n_then ?_
    refine wp_seq ?_
    refine wp_region_lit ?_
    refine s_one (.agg (trc (done 0 (fun i => floatOfInt .f32 (nthI l i)) 64 k))) A13 S11 (g_loadW (g := g7) 0 (by kernel_rfl) rfl ((trc_size _).trans (done_length _ _ _ _)) ⟨⟨_, Try.underlying38, rfl⟩, by kernel_rfl⟩) rfl (fun ac A30 => ?_)
    refine s_store (g := g7) (off := 0) (v := .agg (trc (done 0 (fun i => floatOfInt .f32 (nthI l i)) 64 k))) 0 (trc (done 0 (fun i => floatOfInt .f32 (nthI l i)) 64 k)) A30 S11 (by kernel_rfl) (by kernel_rfl) rfl (putVal_whole ((trc_size _).trans (done_length _ _ _ _)) ((trc_size _).trans (done_length _ _ _ _)) ⟨⟨_, Try.underlying38, rfl⟩, by kernel_rfl⟩ (trc_one _)) (fun wc S32 => ?_)
    refine wpList_nil ?_
    refine n_then ?_
    refine wp_ret ?_
    refine fin1 (.agg (trc (done 0 (fun i => floatOfInt .f32 (nthI l i)) 64 k))) Try.results65 A30 S32 (rv_cell (g := g7) (off := 0) 0 (by kernel_rfl) rfl (rowVal_whole ((trc_size _).trans (done_length _ _ _ _)) ⟨⟨_, Try.underlying38, rfl⟩, by kernel_rfl⟩)) ⟨?_, S32.kp⟩
    obtain rfl : k = 64 := by omega
    rfl
set_option maxRecDepth 100000 in
set_option maxHeartbeats 400000 in
theorem SameFloats_s (xs : List Nat) (C D : Option Addr) (c d n : Nat) (w0 : World) (hn : xs.length = n) (hm : n ≤ maxLen) (hC : FReads w0 C xs) (hD : FReads w0 D xs) :
    Calls Try.prog 68 #[.slice C n c, .slice D n d] w0 fun e w' => e = .returned (.bool true) ∧ Below w0.heap.size w0 w' := by
  have S0 := St.start w0
  unfold maxLen at hm
  refine enter (n := 28) Try.func68 rfl rfl rfl (fun ac A0 => ?_)
  refine wp_seq ?_
  refine wp_region_lit ?_
  refine s_one (.bool false) A0 S0 (g_assign (by kernel_rfl)) rfl (fun ac A1 => ?_)
  refine wpList_nil ?_
  refine n_then ?_
  refine wp_seq ?_
  refine wp_seq ?_
  refine wp_region_lit ?_
  refine s_one (.slice C n c) A1 S0 (g_move (by kernel_rfl)) rfl (fun ac A2 => ?_)
  refine s_one (.int .i64 (n : Int)) A2 S0 (g_built (r := [(0, .slice C n c)]) (by kernel_rfl) (fun _ _ _ => by kernel_rfl)) rfl (fun ac A3 => ?_)
  refine s_one (.slice D n d) A3 S0 (g_move (by kernel_rfl)) rfl (fun ac A4 => ?_)
  refine s_one (.int .i64 (n : Int)) A4 S0 (g_built (r := [(0, .slice D n d)]) (by kernel_rfl) (fun _ _ _ => by kernel_rfl)) rfl (fun ac A5 => ?_)
  refine s_one (.bool (decide ((n : Int) ≠ (n : Int)))) A5 S0 (g_bin (u := .int .i64 (n : Int)) (k := .int .i64 (n : Int)) (by kernel_rfl) (by kernel_rfl) (fun _ => by kernel_rfl) b_neq) rfl (fun ac A6 => ?_)
  refine wpList_nil ?_
  refine n_then ?_
  refine c_f (b := (decide ((n : Int) ≠ (n : Int)))) A6 (by kernel_rfl) (decide_eq_false (fun h => h rfl)) ?_
  refine wp_skip ?_
  refine n_then ?_
  refine wp_seq ?_
  refine wp_seq ?_
  refine wp_region_lit ?_
  refine s_one (.int .i64 0) A6 S0 (g_assign (by kernel_rfl)) rfl (fun ac A7 => ?_)
  refine wpList_nil ?_
  refine n_then ?_
  refine wp_block ?_
  refine c_loopN (fun mm ac wc => ∃ (k : Nat), mm = n - k ∧ (k ≤ n) ∧ Fr 28 ac [(0, .slice C n c), (1, .slice D n d), (6, .slice C n c), (7, .int .i64 (n : Int)), (8, .slice D n d), (9, .int .i64 (n : Int)), (10, .bool (decide ((n : Int) ≠ (n : Int)))), (5, .int .i64 (k : Int))] ∧ St w0 [] [] wc) _ ⟨0, rfl, by omega, (A7.slot (A7.slot (A7.slot (A7.slot (A7.slot (A7.slot (A7.slot (A7.slot A7.nil (v := .int .i64 0) (by kernel_rfl) (congrArg (Value.int .i64) (by omega))) (v := .bool (decide ((n : Int) ≠ (n : Int)))) (by kernel_rfl) rfl) (v := .int .i64 (n : Int)) (by kernel_rfl) rfl) (v := .slice D n d) (by kernel_rfl) rfl) (v := .int .i64 (n : Int)) (by kernel_rfl) rfl) (v := .slice C n c) (by kernel_rfl) rfl) (v := .slice D n d) (by kernel_rfl) rfl) (v := .slice C n c) (by kernel_rfl) rfl), S0.sub sub_all sub_all⟩ ?_
  rintro mm ac wc ⟨k, hm10, hk, A8, S9⟩
  refine wp_seq ?_
  refine wp_seq ?_
  refine wp_region_lit ?_
  refine s_one (.int .i64 (k : Int)) A8 S9 (g_move (by kernel_rfl)) rfl (fun ac A11 => ?_)
  refine s_one (.slice C n c) A11 S9 (g_move (by kernel_rfl)) rfl (fun ac A12 => ?_)
  refine s_one (.int .i64 (n : Int)) A12 S9 (g_built (r := [(0, .slice C n c)]) (by kernel_rfl) (fun _ _ _ => by kernel_rfl)) rfl (fun ac A13 => ?_)
  refine s_one (.bool (decide ((k : Int) < (n : Int)))) A13 S9 (g_bin (u := .int .i64 (k : Int)) (k := .int .i64 (n : Int)) (by kernel_rfl) (by kernel_rfl) (fun _ => by kernel_rfl) (fun _ => by kernel_rfl)) rfl (fun ac A14 => ?_)
  refine wpList_nil ?_
  refine n_then ?_
  refine c_ifb (b := (decide ((k : Int) < (n : Int)))) A14 (by kernel_rfl) (fun h15 => ?_) (fun h15 => ?_)
  · have p16 := of_decide_eq_true h15
    refine wp_skip ?_
    refine n_then ?_
    refine wp_seq ?_
    refine wp_block ?_
    refine wp_seq ?_
    refine r_begin (w0 := w0) (by kernel_rfl) (S9.sub sub_all sub_all) (fun wc T17 B18 => ?_)
    have S19 := S9.kept B18
    refine r_take 0 (.slice C n c) A14 T17 (g_move (by kernel_rfl)) rfl rfl rfl (pf_then (pf_block (pf_then (pf_then (pf_block (pf_then pf_body)))))) (by kernel_rfl) (fun ac A20 => ?_)
    refine r_take 1 (.int .i64 (k : Int)) A20 T17 (g_move (by kernel_rfl)) rfl rfl rfl (pf_then (pf_block (pf_then (pf_then (pf_block (pf_then pf_body)))))) (by kernel_rfl) (fun ac A21 => ?_)
    obtain ⟨ad22, rfl, _⟩ := hC (k) (by have hlen := hn; omega)
    refine r_take 2 (.pointer (some (ad22.add k))) A21 T17 (g_index (u := .slice (some ad22) n c) (k := .int .i64 (k : Int)) (by kernel_rfl) (by kernel_rfl) (ix_x (e := 36) (bytes := 4) k (by kernel_rfl) (by omega) (by omega))) rfl rfl rfl (pf_then (pf_block (pf_then (pf_then (pf_block (pf_then pf_body)))))) (by kernel_rfl) (fun ac A23 => ?_)
    refine r_take 3 (.float .f32 (nth xs k)) A23 T17 (g_loadXF (l := xs) (k := k) (by kernel_rfl) hC (by have hlen := hn; omega) (by kernel_rfl)) rfl rfl rfl (pf_then (pf_block (pf_then (pf_then (pf_block (pf_then pf_body)))))) (by kernel_rfl) (fun ac A24 => ?_)
    refine r_take 4 (.int .u32 ((nth xs k) : Int)) A24 T17 (g_ext (f := 103) (r := [(0, .float .f32 (nth xs k))]) (by kernel_rfl) (by kernel_rfl) (fun _ => by kernel_rfl)) rfl rfl rfl (pf_then (pf_block (pf_then (pf_then (pf_block (pf_then pf_body)))))) (by kernel_rfl) (fun ac A25 => ?_)
    refine r_take 5 (.slice D n d) A25 T17 (g_move (by kernel_rfl)) rfl rfl rfl (pf_then (pf_block (pf_then (pf_then (pf_block (pf_then pf_body)))))) (by kernel_rfl) (fun ac A26 => ?_)
    refine r_take 6 (.int .i64 (k : Int)) A26 T17 (g_move (by kernel_rfl)) rfl rfl rfl (pf_then (pf_block (pf_then (pf_then (pf_block (pf_then pf_body)))))) (by kernel_rfl) (fun ac A27 => ?_)
    obtain ⟨ad28, rfl, _⟩ := hD (k) (by have hlen := hn; omega)
    refine r_take 7 (.pointer (some (ad28.add k))) A27 T17 (g_index (u := .slice (some ad28) n d) (k := .int .i64 (k : Int)) (by kernel_rfl) (by kernel_rfl) (ix_x (e := 36) (bytes := 4) k (by kernel_rfl) (by omega) (by omega))) rfl rfl rfl (pf_then (pf_block (pf_then (pf_then (pf_block (pf_then pf_body)))))) (by kernel_rfl) (fun ac A29 => ?_)
    refine r_take 8 (.float .f32 (nth xs k)) A29 T17 (g_loadXF (l := xs) (k := k) (by kernel_rfl) hD (by have hlen := hn; omega) (by kernel_rfl)) rfl rfl rfl (pf_then (pf_block (pf_then (pf_then (pf_block (pf_then pf_body)))))) (by kernel_rfl) (fun ac A30 => ?_)
    refine r_take 9 (.int .u32 ((nth xs k) : Int)) A30 T17 (g_ext (f := 103) (r := [(0, .float .f32 (nth xs k))]) (by kernel_rfl) (by kernel_rfl) (fun _ => by kernel_rfl)) rfl rfl rfl (pf_then (pf_block (pf_then (pf_then (pf_block (pf_then pf_body)))))) (by kernel_rfl) (fun ac A31 => ?_)
    refine r_take 10 (.bool (decide (((nth xs k) : Int) ≠ ((nth xs k) : Int)))) A31 T17 (g_bin (u := .int .u32 ((nth xs k) : Int)) (k := .int .u32 ((nth xs k) : Int)) (by kernel_rfl) (by kernel_rfl) (fun _ => by kernel_rfl) b_neq) rfl rfl rfl (pf_then (pf_block (pf_then (pf_then (pf_block (pf_then pf_body)))))) (by kernel_rfl) (fun ac A32 => ?_)
    refine r_done (by kernel_rfl) ?_
    refine n_then ?_
    refine c_f (b := (decide (((nth xs k) : Int) ≠ ((nth xs k) : Int)))) A32 (by kernel_rfl) (decide_eq_false (fun h => h rfl)) ?_
    refine wp_skip ?_
    refine n_block ?_
    refine n_then ?_
    refine wp_region_lit ?_
    refine s_one (.int .i64 (k : Int)) A32 S19 (g_move (by kernel_rfl)) rfl (fun ac A33 => ?_)
    refine s_one (.int .i64 ((k : Int) + 1)) A33 S19 (g_bin (u := .int .i64 (k : Int)) (k := .int .i64 1) (by kernel_rfl) (by kernel_rfl) (fun _ => by kernel_rfl) (b_add (by omega))) rfl (fun ac A34 => ?_)
    refine s_one (.int .i64 ((k : Int) + 1)) A34 S19 (g_assign (by kernel_rfl)) rfl (fun ac A35 => ?_)
    refine wpList_nil ?_
    refine n_then ?_
    refine ⟨_, ⟨k + 1, rfl, by omega, (A35.slot (A35.slot (A35.slot (A35.slot (A35.slot (A35.slot (A35.slot (A35.slot A35.nil (v := .int .i64 ((k : Int) + 1)) (by kernel_rfl) (congrArg (Value.int .i64) (by omega))) (v := .bool (decide ((n : Int) ≠ (n : Int)))) (by kernel_rfl) rfl) (v := .int .i64 (n : Int)) (by kernel_rfl) rfl) (v := .slice (some ad28) n d) (by kernel_rfl) (by first | rfl | simp)) (v := .int .i64 (n : Int)) (by kernel_rfl) rfl) (v := .slice (some ad22) n c) (by kernel_rfl) (by first | rfl | simp)) (v := .slice (some ad28) n d) (by kernel_rfl) (by first | rfl | simp)) (v := .slice (some ad22) n c) (by kernel_rfl) (by first | rfl | simp)), S19.sub sub_all sub_all⟩, ?_⟩
    omega
  · have p36 := of_decide_eq_false h15
    refine wp_exit ?_
    refine x_then ?_
    refine x_then ?_
    refine x_hit ?_
    refine n_then ?_
    refine wp_seq ?_
    refine wp_region_lit ?_
    refine s_one (.bool true) A14 S9 (g_assign (by kernel_rfl)) rfl (fun ac A37 => ?_)
    refine wpList_nil ?_
    refine n_then ?_
    refine wp_ret ?_
    refine fin1 (.bool true) Try.results68 A37 S9 (rv_tmp (by kernel_rfl)) ⟨?_, S9.kp⟩
    rfl
set_option maxRecDepth 100000 in
set_option maxHeartbeats 400000 in
theorem matrixErr_s (el : Int) (A : Option Addr) (n cap : Nat) (xs : List Nat) (w0 : World) (hn : xs.length = n) (hr : FReads w0 A xs) (hm : n ≤ 1000) :
    Calls Try.prog 63 #[.agg #[.int .i64 el, .slice A n cap]] w0 fun e w' => e = .returned (.int .i64 (mxC el xs).2) ∧ Below w0.heap.size w0 w' := by
  have S0 := St.start w0
  refine enter (n := 11) Try.func63 rfl rfl rfl (fun ac A0 => ?_)
  refine wp_seq ?_
  refine wp_region_lit ?_
  refine s_box (.agg #[.int .i64 el, .slice A n cap]) A0 S0 (by kernel_rfl) rfl (fun g3 ac wc A1 S2 => ?_)
  replace S2 : St _ (⟨g3, 30, #[.int .i64 el, .slice A n cap], true⟩ :: _) _ _ := S2
  refine s_one (.int .i64 0) A1 S2 (g_assign (by kernel_rfl)) rfl (fun ac A5 => ?_)
  refine wpList_nil ?_
  refine n_then ?_
  refine wp_seq ?_
  refine wp_region_lit ?_
  refine s_one (.agg #[.int .i64 el, .slice A n cap]) A5 S2 (g_load (g := g3) (off := 0) 0 (by kernel_rfl) rfl (by kernel_rfl)) rfl (fun ac A6 => ?_)
  refine s_call (fs := #[]) (cp := #[]) (r := [(0, .agg #[.int .i64 el, .slice A n cap])]) #[.agg #[.int .i64 el, .slice A n cap]] (.tuple #[.int .i64 ((mxC el xs).1), .int .i64 ((mxC el xs).2)]) A6 S2 (CheckMatrix_s el A n cap xs _ hn (hr.kept S2.kp) (by omega)) Try.call14 (by kernel_rfl) (by kernel_rfl) (by kernel_rfl) rfl (fun ac wc A7 S8 => ?_)
  refine s_one (.tuple #[.int .i64 ((mxC el xs).1), .int .i64 ((mxC el xs).2)]) A7 S8 (g_move (by kernel_rfl)) rfl (fun ac A10 => ?_)
  refine s_one (.int .i64 ((mxC el xs).1)) A10 S8 (g_extract (u := .tuple #[.int .i64 ((mxC el xs).1), .int .i64 ((mxC el xs).2)]) (by kernel_rfl) (fun _ => by kernel_rfl)) rfl (fun ac A11 => ?_)
  refine s_one (.int .i64 ((mxC el xs).2)) A11 S8 (g_extract (u := .tuple #[.int .i64 ((mxC el xs).1), .int .i64 ((mxC el xs).2)]) (by kernel_rfl) (fun _ => by kernel_rfl)) rfl (fun ac A12 => ?_)
  refine s_one (.int .i64 ((mxC el xs).1)) A12 S8 (g_assign (by kernel_rfl)) rfl (fun ac A13 => ?_)
  refine s_one (.int .i64 ((mxC el xs).2)) A13 S8 (g_assign (by kernel_rfl)) rfl (fun ac A14 => ?_)
  refine wpList_nil ?_
  refine n_then ?_
  refine wp_seq ?_
  refine wp_region_lit ?_
  refine s_one (.int .i64 ((mxC el xs).2)) A14 S8 (g_move (by kernel_rfl)) rfl (fun ac A15 => ?_)
  refine s_one (.int .i64 ((mxC el xs).2)) A15 S8 (g_assign (by kernel_rfl)) rfl (fun ac A16 => ?_)
  refine wpList_nil ?_
  refine n_then ?_
  refine wp_ret ?_
  refine fin1 (.int .i64 ((mxC el xs).2)) Try.results63 A16 S8 (rv_tmp (by kernel_rfl)) ⟨?_, S8.kp⟩
  rfl
end Go.Proofs.Ytcijkniijomcjaa
