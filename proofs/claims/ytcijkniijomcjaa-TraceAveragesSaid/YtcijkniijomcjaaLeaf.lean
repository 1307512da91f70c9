/- Contracts of small functions of chapter 3: within, small, sampleErr, of the program and of the reference. -/
import Derived.Test.YtcijkniijomcjaaProg
import Derived.Test.YtcijkniijomcjaaSamples
import Derived.WalkKit
import Derived.WalkSpells
import Derived.WalkLawsBesides
import Derived.Lib.Hide
import Derived.Deep.QuietTactic
import Derived.BigQuiet
namespace Go.Proofs.Ytcijkniijomcjaa
open Go.RowKit Go.Cpl

/-- 'lo <= n && n <= hi' -/
def inB (n lo hi : Int) : Bool := decide (lo ≤ n) && decide (n ≤ hi)
theorem inB_true {n lo hi : Int} : inB n lo hi = true ↔ lo ≤ n ∧ n ≤ hi := by simp [inB]
theorem inB_false {n lo hi : Int} : inB n lo hi = false ↔ ¬ (lo ≤ n ∧ n ≤ hi) := by simp [inB]

set_option maxHeartbeats 400000 in
theorem within_any (n lo hi : Int) (w : World) :
    Calls Try.prog 60 #[.int .i64 n, .int .i64 lo, .int .i64 hi] w fun e w' => e = .returned (.bool (inB n lo hi)) ∧ w = w' := by
  by_cases h1 : lo ≤ n
  · go_enter Try.func60, Try.ntmps60
    go_wp2
    go_ret
    exact ⟨by simp [inB, h1], rfl⟩
  · go_enter Try.func60, Try.ntmps60
    go_wp2
    go_ret
    exact ⟨by simp [inB]; omega, rfl⟩

set_option maxHeartbeats 400000 in
theorem Within_any (n lo hi : Int) (w : World) :
    Calls Try.prog 39 #[.int .i64 n, .int .i64 lo, .int .i64 hi] w fun e w' => e = .returned (.bool (inB n lo hi)) ∧ w = w' := by
  by_cases h1 : lo ≤ n
  · go_enter Try.func39, Try.ntmps39
    go_wp2
    go_ret
    exact ⟨by simp [inB, h1], rfl⟩
  · go_enter Try.func39, Try.ntmps39
    go_wp2
    go_ret
    exact ⟨by simp [inB]; omega, rfl⟩

set_option maxHeartbeats 400000 in
theorem small_any (n m : Int) (w : World) (hm : 0 ≤ m) (hM : m ≤ 1000000000000000) :
    Calls Try.prog 81 #[.int .i64 n, .int .i64 m] w fun e w' => e = .returned (.bool (inB n (-m) m)) ∧ w = w' := by
  go_enter Try.func81, Try.ntmps81
  go_wp2_with (go_at_call 60; refine (within_any _ _ _ _).mono ?_; rintro e w' ⟨rfl, rfl⟩)
  go_ret
  exact ⟨rfl, rfl⟩

set_option maxHeartbeats 400000 in
theorem sampleErr_nan (x : Nat) (s : Bool) (t : Nat) (w : World) (hx : Ieee.single.read x = .nan s t) :
    Calls Try.prog 101 #[.float .f32 x] w fun e w' => e = .returned (.int .i64 25) ∧ w = w' := by
  have h1 : (FloatKind.f32.format.order x x != some .eq) = true := by
    rw [show FloatKind.f32.format.order x x = none from ord_nan_left (f := Ieee.single) hx]; rfl
  clear hx
  go_enter Try.func101, Try.ntmps101
  go_wp2
  go_ret
  exact ⟨rfl, rfl⟩

theorem read_nan (f : Ieee.Format) (neg : Bool) (k : Nat) (h0 : 0 < k) (hk : k < f.binade) (hb : f.binade ≤ f.infRung) : f.read (f.word neg (f.infRung + k)) = .nan neg k := by
  have := f.infRung_add_binade
  rw [read_word _ _ _ (by omega), if_neg (by omega), if_neg (by omega), if_neg (by omega)]
  congr 1; omega

theorem nan32 (t : Nat) : ∃ s f, Ieee.single.read ((t % 2) * 2 ^ 31 + 0x7f800000 + 1 + (t / 2) % (2 ^ 23 - 1)) = .nan s f := by
  have hl : t / 2 % 8388607 < 8388607 := Nat.mod_lt _ (by decide)
  have h := read_nan Ieee.single (t % 2 == 1) (1 + t / 2 % 8388607) (by omega) (by rw [single_binade]; omega) (by decide)
  refine ⟨_, _, (congrArg Ieee.single.read ?_).trans h⟩
  unfold Ieee.Format.word
  rw [single_sign, single_inf]
  rcases Nat.mod_two_eq_zero_or_one t with h2 | h2 <;> rw [h2] <;> simp <;> omega

theorem nan64 (t : Nat) : ∃ s f, Ieee.double.read ((t % 2) * 2 ^ 63 + 0x7ff0000000000000 + 1 + (t / 2) % (2 ^ 52 - 1)) = .nan s f := by
  have hl : t / 2 % 4503599627370495 < 4503599627370495 := Nat.mod_lt _ (by decide)
  have hb : Ieee.double.binade = 4503599627370496 := by decide
  have hi : Ieee.double.infRung = 9218868437227405312 := by decide
  have hs : Ieee.double.signWeight = 9223372036854775808 := by decide
  have h := read_nan Ieee.double (t % 2 == 1) (1 + t / 2 % 4503599627370495) (by omega) (by rw [hb]; omega) (by rw [hb, hi]; omega)
  refine ⟨_, _, (congrArg Ieee.double.read ?_).trans h⟩
  unfold Ieee.Format.word
  rw [hs, hi]
  rcases Nat.mod_two_eq_zero_or_one t with h2 | h2 <;> rw [h2] <;> simp <;> omega

/-- An invalid operation on floats gives some NaN. -/
theorem run_float_invalid (op : BinOp) (t : TypeId) (k : FloatKind) (x y : Nat) (hop : op = .add ∨ op = .sub) (h : floatBits op k x y = none) (P : Program) (w : World) :
    ∃ r, (binOp op t (.float k x) (.float k y)).run P w = .ok (.float k r) w.drew ∧ ∃ s f, k.format.read r = .nan s f := by
  refine ⟨Question.cut (.nanBits k x y) (w.tape w.drawn (.nanBits k x y)), ?_, ?_⟩
  · rcases hop with rfl | rfl <;> simp only [floatBits] at h <;> simp [binOp, Op.floatArith, h, Question.forced]
  · cases k
    · exact nan32 _
    · exact nan64 _

set_option maxHeartbeats 400000 in
theorem sampleErr_inf (x : Nat) (s : Bool) (w : World) (hx : Ieee.single.read x = .infinity s) :
    Calls Try.prog 101 #[.float .f32 x] w fun e w' => e = .returned (.int .i64 25) ∧ ∃ n, w' = w.drewN n := by
  have h1 : (FloatKind.f32.format.order x x != some .eq) = false := by
    rw [show FloatKind.f32.format.order x x = some .eq by simp [FloatKind.format, Ieee.Format.order, hx, Ieee.Datum.order]]; rfl
  have h2 : FloatKind.f32.format.sub x x = none := by
    simp [FloatKind.format, Ieee.Format.sub, hx, Ieee.Datum.opposite, Ieee.Datum.sum]
  obtain ⟨r, hr, sg, f, hn⟩ := run_float_invalid .sub 36 .f32 x x (.inr rfl) h2 Try.prog w
  have h3 : (FloatKind.f32.format.order r 0 != some .eq) = true := by
    rw [show FloatKind.f32.format.order r 0 = none from ord_nan_left (f := Ieee.single) hn]; rfl
  clear hx h2 hn
  go_enter Try.func101, Try.ntmps101
  go_wp2
  go_ret
  exact ⟨rfl, 1, rfl⟩

/-- The tests of sampleErr on a finite word, decided. -/
theorem s_self {x : Nat} {v : Int} (h : fv x = some v) : (FloatKind.f32.format.order x x != some .eq) = false := by
  rw [ord32 h h, bne, cmp_eq]; simp
theorem s_sub {x : Nat} {v : Int} (h : fv x = some v) : floatBits .sub .f32 x x = some 0 := by
  cases hd : Ieee.single.read x with
  | number s m i => exact sub_self_num Ieee.single hd
  | infinity _ => unfold fv at h; rw [hd] at h; simp [sc] at h
  | nan _ _ => unfold fv at h; rw [hd] at h; simp [sc] at h
theorem s_zero : (FloatKind.f32.format.order 0 0 != some .eq) = false := s_self fv_0

theorem s_geq {x y : Nat} {v u : Int} (h : fv x = some v) (hy : fv y = some u) : (FloatKind.f32.format.order x y == some .gt || FloatKind.f32.format.order x y == some .eq) = decide (u ≤ v) := by
  rw [ord32 h hy, cmp_gt, cmp_eq, Bool.eq_iff_iff]; simp; omega
theorem s_leq {x y : Nat} {v u : Int} (h : fv x = some v) (hy : fv y = some u) : (FloatKind.f32.format.order x y == some .lt || FloatKind.f32.format.order x y == some .eq) = decide (v ≤ u) := by
  rw [ord32 h hy, cmp_lt, cmp_eq, Bool.eq_iff_iff]; simp; omega
theorem s_lss {x y : Nat} {v u : Int} (h : fv x = some v) (hy : fv y = some u) : (FloatKind.f32.format.order x y == some .lt) = decide (v < u) := by rw [ord32 h hy, cmp_lt]
theorem s_gtr {x y : Nat} {v u : Int} (h : fv x = some v) (hy : fv y = some u) : (FloatKind.f32.format.order x y == some .gt) = decide (u < v) := by rw [ord32 h hy, cmp_gt]
theorem s_neq {x y : Nat} {v u : Int} (h : fv x = some v) (hy : fv y = some u) : (FloatKind.f32.format.order x y != some .eq) = decide (v ≠ u) := by
  rw [ord32 h hy, bne, cmp_eq]; by_cases e : v = u <;> simp [e]
theorem s_eql {x y : Nat} {v u : Int} (h : fv x = some v) (hy : fv y = some u) : (FloatKind.f32.format.order x y == some .eq) = decide (v = u) := by rw [ord32 h hy, cmp_eq]

set_option maxHeartbeats 400000 in
theorem sampleErr_big (x : Nat) (v : Int) (w : World) (hx : fv x = some v) (hv : 16777216 * U ≤ v.natAbs) :
    Calls Try.prog 101 #[.float .f32 x] w fun e w' => e = .returned (.int .i64 (sErr x)) ∧ w = w' := by
  have he : sErr x = 2 := by
    unfold sErr
    rw [hx]
    simp only [whole32 hx hv, if_true]
    rw [if_neg]
    intro h
    have h1 : (Int.tdiv v (U : Int)).natAbs = v.natAbs / U := natAbs_tdiv v
    have h2 : 16777216 ≤ v.natAbs / U := (Nat.le_div_iff_mul_le U_pos).2 hv
    omega
  rw [he]
  have h1 := s_self hx
  have h2 : ∀ w, (binOp .sub 36 (.float .f32 x) (.float .f32 x)).run Try.prog w = .ok (.float .f32 0) w := fun w => run_float_arith w .sub 36 .f32 x x 0 (s_sub hx)
  have h3 := s_zero
  have h4 := s_geq hx fv_24
  have h5 := s_leq hx fv_m24
  have hU := U_pos
  by_cases hp : 16777216 * (U : Int) ≤ v
  · rw [decide_eq_true hp] at h4
    clear hx hv he h5 hp hU
    go_enter Try.func101, Try.ntmps101
    go_wp2
    go_ret
    exact ⟨rfl, rfl⟩
  · have hq : v ≤ -16777216 * (U : Int) := by omega
    rw [decide_eq_false hp] at h4
    rw [decide_eq_true hq] at h5
    clear hx hv he hp hq hU
    go_enter Try.func101, Try.ntmps101
    go_wp2
    go_ret
    exact ⟨rfl, rfl⟩

set_option maxHeartbeats 400000 in
theorem sampleErr_low (x : Nat) (v : Int) (w : World) (hx : fv x = some v) (hv : v.natAbs < 16777216 * U) :
    Calls Try.prog 101 #[.float .f32 x] w fun e w' => e = .returned (.int .i64 (sErr x)) ∧ w = w' := by
  have h1 := s_self hx
  have h2 : ∀ w, (binOp .sub 36 (.float .f32 x) (.float .f32 x)).run Try.prog w = .ok (.float .f32 0) w := fun w => run_float_arith w .sub 36 .f32 x x 0 (s_sub hx)
  have h3 := s_zero
  have h4 := s_geq hx fv_24
  have h5 := s_leq hx fv_m24
  have hU := U_pos
  rw [decide_eq_false (by omega)] at h4 h5
  have h6 : ∀ w, (convert 36 3 (.float .f32 x)).run Try.prog w = .ok (.int .i64 (num x)) w := fun w => run_convert_float_int w 36 3 .f32 .i64 x (num x) (by rw [Try.underlying36]; rfl) Try.underlying3 (toInt32 hx hv)
  have hb := num_bound hx hv
  have h7 := s_neq (fv_num (num x) hb) hx
  have hn : num x = Int.tdiv v (U : Int) := by simp only [num, hx, Option.getD_some]
  have he : sErr x = if num x * (U : Int) = v then (if -2047 ≤ num x ∧ num x ≤ 2047 then 0 else 2) else 25 := by
    unfold sErr
    rw [hx, hn]
  by_cases hw : num x * (U : Int) = v
  · rw [if_pos hw] at he
    rw [decide_eq_false (by simpa using hw)] at h7
    by_cases hr : -2047 ≤ num x ∧ num x ≤ 2047
    · rw [if_pos hr] at he
      rw [he]
      have hi := inB_true.2 hr
      have HI := Lib.hid hi
      clear hx hv he hw hr hn hi hU hb
      go_enter Try.func101, Try.ntmps101
      go_wp2_with (go_at_call 81; refine (small_any _ _ _ (by omega) (by omega)).mono ?_; rintro e w' ⟨rfl, rfl⟩; rw [HI.out])
      go_ret
      exact ⟨rfl, rfl⟩
    · rw [if_neg hr] at he
      rw [he]
      have hi := inB_false.2 hr
      have HI := Lib.hid hi
      clear hx hv he hw hr hn hi hU hb
      go_enter Try.func101, Try.ntmps101
      go_wp2_with (go_at_call 81; refine (small_any _ _ _ (by omega) (by omega)).mono ?_; rintro e w' ⟨rfl, rfl⟩; rw [HI.out])
      go_ret
      exact ⟨rfl, rfl⟩
  · rw [if_neg hw] at he
    rw [he]
    rw [decide_eq_true (by simpa using hw)] at h7
    clear hx hv he hw hn hU hb
    go_enter Try.func101, Try.ntmps101
    go_wp2
    go_ret
    exact ⟨rfl, rfl⟩

theorem drewN_zero (w : World) : w = w.drewN 0 := rfl

/-- The error of a sample. -/
theorem sampleErr_any (x : Nat) (w : World) : Calls Try.prog 101 #[.float .f32 x] w fun e w' => e = .returned (.int .i64 (sErr x)) ∧ ∃ n, w' = w.drewN n := by
  cases hd : Ieee.single.read x with
  | number s m i =>
    have hx : fv x = some (Ieee.signed s m (i + 1074).toNat) := by unfold fv; rw [hd]; rfl
    by_cases hv : 16777216 * U ≤ (Ieee.signed s m (i + 1074).toNat).natAbs
    · exact (sampleErr_big x _ w hx hv).mono fun _ _ ⟨h, h2⟩ => ⟨h, 0, h2 ▸ rfl⟩
    · exact (sampleErr_low x _ w hx (by omega)).mono fun _ _ ⟨h, h2⟩ => ⟨h, 0, h2 ▸ rfl⟩
  | infinity s =>
    have he : sErr x = 25 := by unfold sErr fv; rw [hd]; rfl
    rw [he]; exact sampleErr_inf x s w hd
  | nan s t =>
    have he : sErr x = 25 := by unfold sErr fv; rw [hd]; rfl
    rw [he]; exact (sampleErr_nan x s t w hd).mono fun _ _ ⟨h, h2⟩ => ⟨h, 0, h2 ▸ rfl⟩

/-! The reference's look at a sample: widened to float64. -/
theorem d_self {y : Nat} {v : Int} (h : sc (Ieee.double.read y) = some v) : (FloatKind.f64.format.order y y != some .eq) = false := by
  rw [ord64 h h, bne, cmp_eq]; simp
theorem d_sub {x : Nat} {v : Int} (h : sc (Ieee.double.read x) = some v) : floatBits .sub .f64 x x = some 0 := by
  cases hd : Ieee.double.read x with
  | number s m i => exact sub_self_num Ieee.double hd
  | infinity _ => rw [hd] at h; simp [sc] at h
  | nan _ _ => rw [hd] at h; simp [sc] at h
theorem d_0 : sc (Ieee.double.read 0) = some 0 := by
  rw [read_zero]; simp [sc, Ieee.signed]
theorem d_zero : (FloatKind.f64.format.order 0 0 != some .eq) = false := d_self d_0
theorem d_geq {x y : Nat} {v u : Int} (h : sc (Ieee.double.read x) = some v) (hy : sc (Ieee.double.read y) = some u) : (FloatKind.f64.format.order x y == some .gt || FloatKind.f64.format.order x y == some .eq) = decide (u ≤ v) := by
  rw [ord64 h hy, cmp_gt, cmp_eq, Bool.eq_iff_iff]; simp; omega
theorem d_leq {x y : Nat} {v u : Int} (h : sc (Ieee.double.read x) = some v) (hy : sc (Ieee.double.read y) = some u) : (FloatKind.f64.format.order x y == some .lt || FloatKind.f64.format.order x y == some .eq) = decide (v ≤ u) := by
  rw [ord64 h hy, cmp_lt, cmp_eq, Bool.eq_iff_iff]; simp; omega
theorem d_eql {x y : Nat} {v u : Int} (h : sc (Ieee.double.read x) = some v) (hy : sc (Ieee.double.read y) = some u) : (FloatKind.f64.format.order x y == some .eq) = decide (v = u) := by rw [ord64 h hy, cmp_eq]

set_option maxHeartbeats 400000 in
theorem IsWhole_nan (x : Nat) (s : Bool) (t : Nat) (w : World) (hx : Ieee.double.read x = .nan s t) :
    Calls Try.prog 110 #[.float .f64 x] w fun e w' => e = .returned (.bool false) ∧ ∃ n, w' = w.drewN n := by
  have h1 : (FloatKind.f64.format.order x x != some .eq) = true := by
    rw [show FloatKind.f64.format.order x x = none from ord_nan_left (f := Ieee.double) hx]; rfl
  clear hx
  go_enter Try.func110, Try.ntmps110
  go_wp2
  go_ret
  exact ⟨rfl, 0, rfl⟩

set_option maxHeartbeats 400000 in
theorem IsWhole_inf (x : Nat) (s : Bool) (w : World) (hx : Ieee.double.read x = .infinity s) :
    Calls Try.prog 110 #[.float .f64 x] w fun e w' => e = .returned (.bool false) ∧ ∃ n, w' = w.drewN n := by
  have h1 : (FloatKind.f64.format.order x x != some .eq) = false := by
    rw [show FloatKind.f64.format.order x x = some .eq by simp [FloatKind.format, Ieee.Format.order, hx, Ieee.Datum.order]]; rfl
  have h2 : FloatKind.f64.format.sub x x = none := by
    simp [FloatKind.format, Ieee.Format.sub, hx, Ieee.Datum.opposite, Ieee.Datum.sum]
  obtain ⟨r, hr, sg, f, hn⟩ := run_float_invalid .sub 173 .f64 x x (.inr rfl) h2 Try.prog w
  have h3 : (FloatKind.f64.format.order r 0 != some .eq) = true := by
    rw [show FloatKind.f64.format.order r 0 = none from ord_nan_left (f := Ieee.double) hn]; rfl
  clear hx h2 hn
  go_enter Try.func110, Try.ntmps110
  go_wp2
  go_ret
  exact ⟨rfl, 1, rfl⟩

def isWh (v : Int) : Bool := decide (Int.tdiv v (U : Int) * (U : Int) = v)

set_option maxHeartbeats 400000 in
theorem IsWhole_num (y : Nat) (v : Int) (w : World) (hy : sc (Ieee.double.read y) = some v)
    (hbig : ¬ (-10000000000000000 * (U : Int) ≤ v ∧ v ≤ 10000000000000000 * (U : Int)) → isWh v = true)
    (hex : (-10000000000000000 * (U : Int) ≤ v ∧ v ≤ 10000000000000000 * (U : Int)) → sc (Ieee.double.read (floatOfInt .f64 (Int.tdiv v (U : Int)))) = some (Int.tdiv v (U : Int) * (U : Int))) :
    Calls Try.prog 110 #[.float .f64 y] w fun e w' => e = .returned (.bool (isWh v)) ∧ ∃ n, w' = w.drewN n := by
  have h1 := d_self hy
  have h2 : ∀ w, (binOp .sub 173 (.float .f64 y) (.float .f64 y)).run Try.prog w = .ok (.float .f64 0) w := fun w => run_float_arith w .sub 173 .f64 y y 0 (d_sub hy)
  have h3 := d_zero
  have h4 := d_geq hy d_me16
  have h5 := d_leq hy d_e16
  by_cases c1 : -10000000000000000 * (U : Int) ≤ v
  · rw [decide_eq_true c1] at h4
    by_cases c2 : v ≤ 10000000000000000 * (U : Int)
    · rw [decide_eq_true c2] at h5
      have h6 : floatToIntVal .f64 y .i64 = some (Int.tdiv v (U : Int)) := by
        unfold floatToIntVal FloatKind.decode FloatKind.format
        rw [toInt_sc (fit64 y) hy]
        have h1 : (Int.tdiv v (U : Int)).natAbs ≤ 10000000000000000 := by
          rw [natAbs_tdiv]; exact Nat.div_le_of_le_mul (by omega)
        have hm : IntKind.i64.min = -9223372036854775808 := by decide
        have hM : IntKind.i64.max = 9223372036854775807 := by decide
        simp only
        rw [if_pos (by rw [hm, hM]; omega)]
      have h7 : ∀ w, (convert 173 3 (.float .f64 y)).run Try.prog w = .ok (.int .i64 (Int.tdiv v (U : Int))) w := fun w => run_convert_float_int w 173 3 .f64 .i64 y _ (by rw [Try.underlying173]; rfl) Try.underlying3 h6
      have h8 := d_eql (hex ⟨c1, c2⟩) hy
      have h9 : isWh v = decide (Int.tdiv v (U : Int) * (U : Int) = v) := rfl
      generalize Int.tdiv v (U : Int) = n at *
      rw [h9]
      generalize decide (n * (U : Int) = v) = b at *
      clear hy hbig hex h6 h9 c1 c2
      go_enter Try.func110, Try.ntmps110
      go_wp2
      go_ret
      exact ⟨rfl, 0, rfl⟩
    · rw [decide_eq_false c2] at h5
      rw [hbig (by omega)]
      clear hy hbig hex c1 c2
      go_enter Try.func110, Try.ntmps110
      go_wp2
      go_ret
      exact ⟨rfl, 0, rfl⟩
  · rw [decide_eq_false c1] at h4
    rw [hbig (by omega)]
    clear hy hbig hex c1 h5
    go_enter Try.func110, Try.ntmps110
    go_wp2
    go_ret
    exact ⟨rfl, 0, rfl⟩

theorem isWh_big {x : Nat} {v : Int} (h : fv x = some v) (hv : 16777216 * U ≤ v.natAbs) : isWh v = true := decide_eq_true (whole32 h hv)

theorem wide_exact {x : Nat} {s : Bool} {m : Nat} {i : Int} (hd : Ieee.single.read x = .number s m i) :
    sc (Ieee.double.read (floatOfInt .f64 (Int.tdiv (Ieee.signed s m (i + 1074).toNat) (U : Int)))) = some (Int.tdiv (Ieee.signed s m (i + 1074).toNat) (U : Int) * (U : Int)) := by
  obtain ⟨hm, h1, h2⟩ := shape32 hd
  by_cases h0 : 0 ≤ i
  · have e : (i + 1074).toNat = i.toNat + K := by rw [K_eq]; omega
    have e2 : Int.tdiv (Ieee.signed s m (i + 1074).toNat) (U : Int) = Ieee.signed s m i.toNat := by
      rw [e, signed_add]
      exact Int.mul_tdiv_cancel _ (by have := Nat.two_pow_pos K; omega)
    rw [e2]
    exact sc_f64_wide s m i.toNat hm (by omega)
  · refine sc_f64 _ ?_
    rw [natAbs_tdiv, signed_natAbs]
    have h3 : 2 ^ (i + 1074).toNat ≤ U := Nat.pow_le_pow_right (by omega) (by rw [K_eq]; omega)
    have h4 : m * 2 ^ (i + 1074).toNat ≤ m * U := Nat.mul_le_mul_left _ h3
    have h5 : m * 2 ^ (i + 1074).toNat / U ≤ m := Nat.div_le_of_le_mul (Nat.le_trans h4 (Nat.le_of_eq (Nat.mul_comm _ _)))
    omega

theorem sErr_wh {x : Nat} {v : Int} (h : fv x = some v) : sErr x = if isWh v = true then (if v < -2047 * (U : Int) then 2 else if 2047 * (U : Int) < v then 2 else 0) else 25 := by
  unfold sErr
  rw [h]
  by_cases hw : Int.tdiv v (U : Int) * (U : Int) = v
  · have h1 : isWh v = true := decide_eq_true hw
    simp only [hw, h1, if_true]
    generalize Int.tdiv v (U : Int) = n at *
    subst hw
    have hU : (0 : Int) < (U : Int) := by have := U_pos; omega
    have a1 : n * (U : Int) < -2047 * (U : Int) ↔ n < -2047 := ⟨fun h => Int.lt_of_mul_lt_mul_right h (by omega), fun h => Int.mul_lt_mul_of_pos_right h hU⟩
    have a2 : 2047 * (U : Int) < n * (U : Int) ↔ 2047 < n := ⟨fun h => Int.lt_of_mul_lt_mul_right h (by omega), fun h => Int.mul_lt_mul_of_pos_right h hU⟩
    by_cases b1 : n < -2047
    · rw [if_neg (by omega), if_pos (a1.2 b1)]
    · rw [if_neg (fun h => b1 (a1.1 h))]
      by_cases b2 : 2047 < n
      · rw [if_neg (by omega), if_pos (a2.2 b2)]
      · rw [if_pos (by omega), if_neg (fun h => b2 (a2.1 h))]
  · have h1 : ¬ isWh v = true := by unfold isWh; simpa using hw
    simp only [hw, h1, if_false]
    rfl

/-- float64(x) of a NaN is some NaN. -/
theorem run_widen_nan (src dst : TypeId) (x : Nat) (s : Bool) (t : Nat) (hx : Ieee.single.read x = .nan s t) (P : Program) (hs : (P.underlying src).isSome = true) (hd : P.underlying dst = some (.float .f64)) (w : World) :
    ∃ r, (convert src dst (.float .f32 x)).run P w = .ok (.float .f64 r) w.drew ∧ ∃ s f, Ieee.double.read r = .nan s f := by
  refine ⟨Question.cut (.nanConv .f64 x) (w.tape w.drawn (.nanConv .f64 x)), ?_, nan64 _⟩
  obtain ⟨u, hs'⟩ := Option.isSome_iff_exists.1 hs
  have hx' : FloatKind.f32.decode x = .nan s t := hx
  cases u <;> simp [convert, run_underlying hs', run_underlying hd, Conv.floatToFloat, hx', Question.forced]

set_option maxHeartbeats 400000 in
theorem refSampleErr_any (x : Nat) (w : World) : Calls Try.prog 102 #[.float .f32 x] w fun e w' => e = .returned (.int .i64 (sErr x)) ∧ ∃ n, w' = w.drewN n := by
  cases hd : Ieee.single.read x with
  | nan s t =>
    have he : sErr x = 25 := by unfold sErr fv; rw [hd]; rfl
    rw [he]
    obtain ⟨r, hr, sg, f, hn⟩ := run_widen_nan 36 173 x s t hd Try.prog (by rw [Try.underlying36]; rfl) Try.underlying173 w
    have H := Lib.hid hn
    clear hd he hn
    go_enter Try.func102, Try.ntmps102
    go_wp2_with (go_at_call 110; refine (IsWhole_nan _ _ _ _ H.out).mono ?_; rintro e w' ⟨rfl, n, rfl⟩)
    go_ret
    exact ⟨rfl, _, rfl⟩
  | infinity s =>
    have he : sErr x = 25 := by unfold sErr fv; rw [hd]; rfl
    rw [he]
    have hc : floatToFloatBits .f32 x .f64 = some (FloatKind.encode .f64 (.infinity s)) := by
      unfold floatToFloatBits; rw [if_neg (by decide), show FloatKind.f32.decode x = .infinity s from hd]
    have hr : ∀ w, (convert 36 173 (.float .f32 x)).run Try.prog w = .ok (.float .f64 (FloatKind.encode .f64 (.infinity s))) w := fun w => run_convert_float_float w 36 173 .f32 .f64 x _ (by rw [Try.underlying36]; rfl) Try.underlying173 hc
    have hn : Ieee.double.read (FloatKind.encode .f64 (.infinity s)) = .infinity s := by
      show Ieee.double.read (Ieee.double.word s Ieee.double.infRung) = _
      rw [read_word _ _ _ Ieee.double.infRung_lt, if_neg (by decide), if_neg (Nat.lt_irrefl _), if_pos rfl]
    generalize FloatKind.encode .f64 (.infinity s) = y at *
    have H := Lib.hid hn
    clear hd he hn hc
    go_enter Try.func102, Try.ntmps102
    go_wp2_with (go_at_call 110; refine (IsWhole_inf _ _ _ H.out).mono ?_; rintro e w' ⟨rfl, n, rfl⟩)
    go_ret
    exact ⟨rfl, _, rfl⟩
  | number s m i =>
    obtain ⟨hm, h1, h2⟩ := shape32 hd
    have hx : fv x = some (Ieee.signed s m (i + 1074).toNat) := by unfold fv; rw [hd]; rfl
    obtain ⟨hwd, hni⟩ := widen s m i hm h1 h2
    have hc : floatToFloatBits .f32 x .f64 = some (FloatKind.encode .f64 (.number s m i)) := by
      unfold floatToFloatBits
      rw [if_neg (by decide), show FloatKind.f32.decode x = .number s m i from hd]
      simp only
      rw [if_neg]
      show ¬ (Ieee.double.read (FloatKind.encode .f64 (.number s m i))).isInfinity = true
      rw [hni]; simp
    have hr : ∀ w, (convert 36 173 (.float .f32 x)).run Try.prog w = .ok (.float .f64 (FloatKind.encode .f64 (.number s m i))) w := fun w => run_convert_float_float w 36 173 .f32 .f64 x _ (by rw [Try.underlying36]; rfl) Try.underlying173 hc
    have hex := wide_exact hd
    have he := sErr_wh hx
    have hl := s_lss hx fv_m2047
    have hg := s_gtr hx fv_2047
    have hbg := isWh_big hx
    generalize Ieee.signed s m (i + 1074).toNat = v at *
    generalize FloatKind.encode .f64 (.number s m i) = y at *
    have HW := Lib.hid (fun w => IsWhole_num y v w hwd (fun hb => hbg (by have := U_pos; omega)) (fun _ => hex))
    rw [he]
    clear hd hc hx hwd hni hex hbg he h1 h2 hm
    by_cases b0 : isWh v = true
    · rw [if_pos b0]
      have HB := Lib.hid b0
      clear b0
      by_cases b1 : v < -2047 * (U : Int)
      · rw [if_pos b1]
        rw [decide_eq_true b1] at hl
        clear b1 hg
        go_enter Try.func102, Try.ntmps102
        go_wp2_with (go_at_call 110; refine (HW.out _).mono ?_; rintro e w' ⟨rfl, n, rfl⟩; rw [HB.out])
        go_ret
        exact ⟨rfl, _, rfl⟩
      · rw [if_neg b1]
        rw [decide_eq_false b1] at hl
        clear b1
        by_cases b2 : 2047 * (U : Int) < v
        · rw [if_pos b2]
          rw [decide_eq_true b2] at hg
          clear b2
          go_enter Try.func102, Try.ntmps102
          go_wp2_with (go_at_call 110; refine (HW.out _).mono ?_; rintro e w' ⟨rfl, n, rfl⟩; rw [HB.out])
          go_ret
          exact ⟨rfl, _, rfl⟩
        · rw [if_neg b2]
          rw [decide_eq_false b2] at hg
          clear b2
          go_enter Try.func102, Try.ntmps102
          go_wp2_with (go_at_call 110; refine (HW.out _).mono ?_; rintro e w' ⟨rfl, n, rfl⟩; rw [HB.out])
          go_ret
          exact ⟨rfl, _, rfl⟩
    · rw [if_neg b0]
      have HB := Lib.hid (Bool.eq_false_iff.2 b0)
      clear b0 hl hg
      go_enter Try.func102, Try.ntmps102
      go_wp2_with (go_at_call 110; refine (HW.out _).mono ?_; rintro e w' ⟨rfl, n, rfl⟩; rw [HB.out])
      go_ret
      exact ⟨rfl, _, rfl⟩

end Go.Proofs.Ytcijkniijomcjaa
