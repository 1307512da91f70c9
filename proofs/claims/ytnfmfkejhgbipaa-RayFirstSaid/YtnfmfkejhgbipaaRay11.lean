/- Walls of chapter 1. -/
import Derived.Test.YtnfmfkejhgbipaaRay9
import Derived.Test.YtnfmfkejhgbipaaFlat
namespace Go.Proofs.Ytnfmfkejhgbipaa
open Go.RowKit Go.Cpl Go.Ray1

def wlA (k x h mt : Int) (j : Nat) : Int := k + (x - k) * ((j : Int) + 1) * mt / h
def wlB (k x h mt : Int) (j : Nat) : Int := k + upD ((x - k) * ((j : Int) + 1) * mt) h
def wlF (k x h mt : Int) : Nat → List Int
  | 0 => []
  | j + 1 => wlF k x h mt j ++ [wlA k x h mt j, wlB k x h mt j]
theorem wlF_length (k x h mt : Int) : ∀ m, (wlF k x h mt m).length = m * 2
  | 0 => rfl
  | m + 1 => by simp only [wlF, List.length_append, wlF_length k x h mt m, List.length_cons, List.length_nil]; omega
theorem nthI_left {l r : List Int} {i : Nat} (h : i < l.length) : nthI (l ++ r) i = nthI l i := by
  rw [nthI_eq (by rw [List.length_append]; omega), nthI_eq h, List.getElem_append_left h]
theorem nthI_right {l r : List Int} {i : Nat} (h : i < r.length) : nthI (l ++ r) (l.length + i) = nthI r i := by
  rw [nthI_eq (by rw [List.length_append]; omega), nthI_eq h, List.getElem_append_right (by omega)]
  simp
theorem wlF_nth (k x h mt : Int) : ∀ m j : Nat, j < m → nthI (wlF k x h mt m) (j * 2) = wlA k x h mt j ∧ nthI (wlF k x h mt m) (j * 2 + 1) = wlB k x h mt j
  | 0, j, hj => by omega
  | m + 1, j, hj => by
    have hl := wlF_length k x h mt m
    by_cases e : j = m
    · subst e
      simp only [wlF]
      constructor
      · rw [show j * 2 = (wlF k x h mt j).length + 0 by omega, nthI_right (by simp)]; rfl
      · rw [show j * 2 + 1 = (wlF k x h mt j).length + 1 by omega, nthI_right (by simp)]; rfl
    · have q := wlF_nth k x h mt m j (by omega)
      simp only [wlF]
      rw [nthI_left (by omega), nthI_left (by omega)]
      exact q
theorem wl_snoc_r (k x h mt : Int) (j : Nat) : rowI (wlF k x h mt j) ++ [.int .i64 (k + (x - k) * ((j : Int) + 1) * mt / h), .int .i64 (k + upD ((x - k) * ((j : Int) + 1) * mt) h)] = rowI (wlF k x h mt (j + 1)) := rowI_app (wlF k x h mt j) [wlA k x h mt j, wlB k x h mt j]
theorem upD_sh {n k h : Int} (hh : 1 ≤ h) : upD (k * h + n) h = k + upD n h := by
  unfold upD
  rw [show -(k * h + n) = -n + (-k) * h by rw [Int.neg_mul]; omega, Int.add_mul_ediv_right _ _ (by omega)]
  omega
theorem wl_snoc_c {k x h mt : Int} (hh : 1 ≤ h) (j : Nat) : rowI (wlF k x h mt j) ++ [.int .i64 ((k * h + (x - k) * ((j : Int) + 1) * mt) / h), .int .i64 (upD (k * h + (x - k) * ((j : Int) + 1) * mt) h)] = rowI (wlF k x h mt (j + 1)) := by
  rw [← wl_snoc_r, upD_sh hh, Int.add_comm (k * h), Int.add_mul_ediv_right _ _ (by omega), Int.add_comm _ k]
theorem abs_mul {a b A B : Int} (h1 : -A ≤ a) (h2 : a ≤ A) (h3 : 0 ≤ b) (h4 : b ≤ B) (hA : 0 ≤ A) : -(A * B) ≤ a * b ∧ a * b ≤ A * B := by
  have p := Int.mul_le_mul_of_nonneg_right h2 h3
  have q := Int.mul_le_mul_of_nonneg_right h1 h3
  have r := Int.mul_le_mul_of_nonneg_left h4 hA
  rw [Int.neg_mul] at q
  omega
theorem wl_bd {k x h mt j : Int} (hk : -100000 ≤ k ∧ k ≤ 100000) (hx : -100000 ≤ x ∧ x ≤ 100000) (hh : 1 ≤ h ∧ h ≤ 100000) (hm : 2 ≤ mt ∧ mt ≤ 20000) (hj : 0 ≤ j ∧ j ≤ 4) :
    (-10000000000 ≤ k * h ∧ k * h ≤ 10000000000) ∧ (-800000 ≤ (x - k) * j ∧ (x - k) * j ≤ 800000) ∧ (-16000000000 ≤ (x - k) * j * mt ∧ (x - k) * j * mt ≤ 16000000000) := by
  have a := abs_mul (a := k) (b := h) (A := 100000) (B := 100000) hk.1 hk.2 (by omega) hh.2 (by omega)
  have b := abs_mul (a := x - k) (b := j) (A := 200000) (B := 4) (by omega) (by omega) hj.1 hj.2 (by omega)
  have d := abs_mul (a := (x - k) * j) (b := mt) (A := 800000) (B := 20000) (by omega) (by omega) (by omega) hm.2 (by omega)
  omega
theorem ed_up {n h A : Int} (hh : 1 ≤ h) (hA : 0 ≤ A) (h0 : -A ≤ n) (h1 : n ≤ A) : (-A ≤ n / h ∧ n / h ≤ A) ∧ -A ≤ upD n h ∧ upD n h ≤ A := by
  have a := ed_bd (n := n) (d := h) (m := A) hh hA h0 h1
  have b := ed_bd (n := -n) (d := h) (m := A) hh hA (by omega) (by omega)
  unfold upD
  omega
/-- The walls of a way, or none beside an error. -/
def wlR (mw md ms mt fx fz tx tz : Int) : Nat := if opE mw md ms mt fx fz tx tz = 0 then ms.toNat else 0
theorem wlR_0 {mw md ms mt fx fz tx tz : Int} (h : opE mw md ms mt fx fz tx tz = 0) : wlR mw md ms mt fx fz tx tz = ms.toNat := if_pos h
theorem wlR_n {mw md ms mt fx fz tx tz : Int} (h : opE mw md ms mt fx fz tx tz ≠ 0) : wlR mw md ms mt fx fz tx tz = 0 := if_neg h
def wls (mw md ms mt fx fz tx tz : Int) (m : Nat) : List Int := wlF (crs (wyC mw md ms mt fx fz tx tz)) tx (unf ms mt tz) mt m
theorem wls_length (mw md ms mt fx fz tx tz : Int) (m : Nat) : (wls mw md ms mt fx fz tx tz m).length = m * 2 := wlF_length _ _ _ _ _
theorem wls_r (mw md ms mt fx fz tx tz : Int) (j : Nat) : rowI (wls mw md ms mt fx fz tx tz j) ++ [.int .i64 (crs (wyC mw md ms mt fx fz tx tz) + ((wyC mw md ms mt fx fz tx tz).x2 - crs (wyC mw md ms mt fx fz tx tz)) * ((j : Int) + 1) * mt / (wyC mw md ms mt fx fz tx tz).h2), .int .i64 (crs (wyC mw md ms mt fx fz tx tz) + upD (((wyC mw md ms mt fx fz tx tz).x2 - crs (wyC mw md ms mt fx fz tx tz)) * ((j : Int) + 1) * mt) (wyC mw md ms mt fx fz tx tz).h2)] = rowI (wls mw md ms mt fx fz tx tz (j + 1)) := wl_snoc_r _ _ _ _ _
theorem wls_c {mw md ms mt fx fz tx tz : Int} (hh : 1 ≤ (wyC mw md ms mt fx fz tx tz).h2) (j : Nat) : rowI (wls mw md ms mt fx fz tx tz j) ++ [.int .i64 ((crs (wyC mw md ms mt fx fz tx tz) * (wyC mw md ms mt fx fz tx tz).h2 + ((wyC mw md ms mt fx fz tx tz).x2 - crs (wyC mw md ms mt fx fz tx tz)) * ((j : Int) + 1) * mt) / (wyC mw md ms mt fx fz tx tz).h2), .int .i64 (upD (crs (wyC mw md ms mt fx fz tx tz) * (wyC mw md ms mt fx fz tx tz).h2 + ((wyC mw md ms mt fx fz tx tz).x2 - crs (wyC mw md ms mt fx fz tx tz)) * ((j : Int) + 1) * mt) (wyC mw md ms mt fx fz tx tz).h2)] = rowI (wls mw md ms mt fx fz tx tz (j + 1)) := wl_snoc_c (k := crs (wyC mw md ms mt fx fz tx tz)) (x := tx) (h := unf ms mt tz) hh j

set_option maxRecDepth 100000 in
set_option maxHeartbeats 400000 in
theorem Walls_s (mw md ms mt fx fz tx tz : Int) (w0 : World) :
    Calls Try.prog 49 #[.agg #[.int .i64 mw, .int .i64 md, .int .i64 ms, .int .i64 mt], .agg #[.int .i64 fx, .int .i64 fz], .agg #[.int .i64 tx, .int .i64 tz]] w0 fun e w' => ∃ v, e = .returned (.tuple #[v, .int .i64 (opE mw md ms mt fx fz tx tz)]) ∧ Below w0.heap.size w0 w' ∧ w'.ownsRow w0.heap.size 29 2 v (wlR mw md ms mt fx fz tx tz) (rowI (wls mw md ms mt fx fz tx tz (wlR mw md ms mt fx fz tx tz))) := by
  have S0 := St.start w0
  refine enter (n := 64) Try.func49 rfl rfl rfl (fun ac A0 => ?_)
  refine wp_seq ?_
  refine wp_region_lit ?_
  refine s_box (.agg #[.int .i64 mw, .int .i64 md, .int .i64 ms, .int .i64 mt]) A0 S0 (by kernel_rfl) rfl (fun g3 ac wc A1 S2 => ?_)
  replace S2 : St _ (⟨g3, 39, #[.int .i64 mw, .int .i64 md, .int .i64 ms, .int .i64 mt], true⟩ :: _) _ _ := S2
  refine s_box (.agg #[.int .i64 fx, .int .i64 fz]) A1 S2 (by kernel_rfl) rfl (fun g7 ac wc A5 S6 => ?_)
  replace S6 : St _ (⟨g7, 41, #[.int .i64 fx, .int .i64 fz], true⟩ :: _) _ _ := S6
  refine s_box (.agg #[.int .i64 tx, .int .i64 tz]) A5 S6 (by kernel_rfl) rfl (fun g11 ac wc A9 S10 => ?_)
  replace S10 : St _ (⟨g11, 41, #[.int .i64 tx, .int .i64 tz], true⟩ :: _) _ _ := S10
  refine s_one (.slice none 0 0) A9 S10 (g_assign (by kernel_rfl)) rfl (fun ac A13 => ?_)
  refine s_one (.int .i64 0) A13 S10 (g_assign (by kernel_rfl)) rfl (fun ac A14 => ?_)
  refine wpList_nil ?_
  refine n_then ?_
  refine wp_seq ?_
  refine wp_region_lit ?_
  refine s_one (.agg #[.int .i64 mw, .int .i64 md, .int .i64 ms, .int .i64 mt]) A14 S10 (g_load (g := g3) (off := 0) 2 (by kernel_rfl) rfl (by kernel_rfl)) rfl (fun ac A15 => ?_)
  refine s_one (.agg #[.int .i64 fx, .int .i64 fz]) A15 S10 (g_load (g := g7) (off := 0) 1 (by kernel_rfl) rfl (by kernel_rfl)) rfl (fun ac A16 => ?_)
  refine s_one (.agg #[.int .i64 tx, .int .i64 tz]) A16 S10 (g_load (g := g11) (off := 0) 0 (by kernel_rfl) rfl (by kernel_rfl)) rfl (fun ac A17 => ?_)
  refine s_call (fs := #[]) (cp := #[]) (r := [(0, .agg #[.int .i64 mw, .int .i64 md, .int .i64 ms, .int .i64 mt]), (0, .agg #[.int .i64 fx, .int .i64 fz]), (0, .agg #[.int .i64 tx, .int .i64 tz])]) #[.agg #[.int .i64 mw, .int .i64 md, .int .i64 ms, .int .i64 mt], .agg #[.int .i64 fx, .int .i64 fz], .agg #[.int .i64 tx, .int .i64 tz]] (.tuple #[.agg #[.int .i64 (zv (opE mw md ms mt fx fz tx tz) (fx)), .int .i64 (zv (opE mw md ms mt fx fz tx tz) (-fz)), .int .i64 (zv (opE mw md ms mt fx fz tx tz) (mw)), .int .i64 (zv (opE mw md ms mt fx fz tx tz) (tx)), .int .i64 (zv (opE mw md ms mt fx fz tx tz) (unf ms mt tz)), .int .i64 (zv (opE mw md ms mt fx fz tx tz) (md))], .int .i64 (opE mw md ms mt fx fz tx tz)]) A17 S10 (open_s mw md ms mt fx fz tx tz _) Try.call82 (by kernel_rfl) (by kernel_rfl) (by kernel_rfl) rfl (fun ac wc A18 S19 => ?_)
  refine s_one (.tuple #[.agg #[.int .i64 (zv (opE mw md ms mt fx fz tx tz) (fx)), .int .i64 (zv (opE mw md ms mt fx fz tx tz) (-fz)), .int .i64 (zv (opE mw md ms mt fx fz tx tz) (mw)), .int .i64 (zv (opE mw md ms mt fx fz tx tz) (tx)), .int .i64 (zv (opE mw md ms mt fx fz tx tz) (unf ms mt tz)), .int .i64 (zv (opE mw md ms mt fx fz tx tz) (md))], .int .i64 (opE mw md ms mt fx fz tx tz)]) A18 S19 (g_move (by kernel_rfl)) rfl (fun ac A21 => ?_)
  refine s_one (.agg #[.int .i64 (zv (opE mw md ms mt fx fz tx tz) (fx)), .int .i64 (zv (opE mw md ms mt fx fz tx tz) (-fz)), .int .i64 (zv (opE mw md ms mt fx fz tx tz) (mw)), .int .i64 (zv (opE mw md ms mt fx fz tx tz) (tx)), .int .i64 (zv (opE mw md ms mt fx fz tx tz) (unf ms mt tz)), .int .i64 (zv (opE mw md ms mt fx fz tx tz) (md))]) A21 S19 (g_extract (u := .tuple #[.agg #[.int .i64 (zv (opE mw md ms mt fx fz tx tz) (fx)), .int .i64 (zv (opE mw md ms mt fx fz tx tz) (-fz)), .int .i64 (zv (opE mw md ms mt fx fz tx tz) (mw)), .int .i64 (zv (opE mw md ms mt fx fz tx tz) (tx)), .int .i64 (zv (opE mw md ms mt fx fz tx tz) (unf ms mt tz)), .int .i64 (zv (opE mw md ms mt fx fz tx tz) (md))], .int .i64 (opE mw md ms mt fx fz tx tz)]) (by kernel_rfl) (fun _ => by kernel_rfl)) rfl (fun ac A22 => ?_)
  refine s_one (.int .i64 (opE mw md ms mt fx fz tx tz)) A22 S19 (g_extract (u := .tuple #[.agg #[.int .i64 (zv (opE mw md ms mt fx fz tx tz) (fx)), .int .i64 (zv (opE mw md ms mt fx fz tx tz) (-fz)), .int .i64 (zv (opE mw md ms mt fx fz tx tz) (mw)), .int .i64 (zv (opE mw md ms mt fx fz tx tz) (tx)), .int .i64 (zv (opE mw md ms mt fx fz tx tz) (unf ms mt tz)), .int .i64 (zv (opE mw md ms mt fx fz tx tz) (md))], .int .i64 (opE mw md ms mt fx fz tx tz)]) (by kernel_rfl) (fun _ => by kernel_rfl)) rfl (fun ac A23 => ?_)
  refine s_alloc (#[.int .i64 0, .int .i64 0, .int .i64 0, .int .i64 0, .int .i64 0, .int .i64 0]) A23 S19 (by kernel_rfl) rfl (fun g26 ac wc A24 S25 => ?_)
  refine s_store (g := g26) (off := 0) (v := .agg #[.int .i64 (zv (opE mw md ms mt fx fz tx tz) (fx)), .int .i64 (zv (opE mw md ms mt fx fz tx tz) (-fz)), .int .i64 (zv (opE mw md ms mt fx fz tx tz) (mw)), .int .i64 (zv (opE mw md ms mt fx fz tx tz) (tx)), .int .i64 (zv (opE mw md ms mt fx fz tx tz) (unf ms mt tz)), .int .i64 (zv (opE mw md ms mt fx fz tx tz) (md))]) 0 (#[.int .i64 (zv (opE mw md ms mt fx fz tx tz) (fx)), .int .i64 (zv (opE mw md ms mt fx fz tx tz) (-fz)), .int .i64 (zv (opE mw md ms mt fx fz tx tz) (mw)), .int .i64 (zv (opE mw md ms mt fx fz tx tz) (tx)), .int .i64 (zv (opE mw md ms mt fx fz tx tz) (unf ms mt tz)), .int .i64 (zv (opE mw md ms mt fx fz tx tz) (md))]) A24 S25 (by kernel_rfl) (by kernel_rfl) rfl (by kernel_rfl) (fun wc S28 => ?_)
  refine s_one (.int .i64 (opE mw md ms mt fx fz tx tz)) A24 S28 (g_assign (by kernel_rfl)) rfl (fun ac A30 => ?_)
  refine wpList_nil ?_
  refine n_then ?_
  refine wp_seq ?_
  refine wp_seq ?_
  refine wp_region_lit ?_
  refine s_one (.int .i64 (opE mw md ms mt fx fz tx tz)) A30 S28 (g_move (by kernel_rfl)) rfl (fun ac A31 => ?_)
  refine s_one (.bool (decide (opE mw md ms mt fx fz tx tz ≠ 0))) A31 S28 (g_bin (u := .int .i64 (opE mw md ms mt fx fz tx tz)) (k := .int .i64 0) (by kernel_rfl) (by kernel_rfl) (fun _ => by kernel_rfl) b_neq) rfl (fun ac A32 => ?_)
  refine wpList_nil ?_
  refine n_then ?_
  refine c_ifb (b := (decide (opE mw md ms mt fx fz tx tz ≠ 0))) A32 (by kernel_rfl) (fun h33 => ?_) (fun h33 => ?_)
  · have p34 := of_decide_eq_true h33
    have zn := of_decide_eq_true h33
    refine wp_seq ?_
    refine wp_region_lit ?_
    refine s_one (.int .i64 (opE mw md ms mt fx fz tx tz)) A32 S28 (g_move (by kernel_rfl)) rfl (fun ac A35 => ?_)
    refine s_one (.slice none 0 0) A35 S28 (g_assign (by kernel_rfl)) rfl (fun ac A36 => ?_)
    refine s_one (.int .i64 (opE mw md ms mt fx fz tx tz)) A36 S28 (g_assign (by kernel_rfl)) rfl (fun ac A37 => ?_)
    refine wpList_nil ?_
    refine n_then ?_
    refine wp_ret ?_
    refine r_then ?_
    have S38 := S28.nilRow 29 2
    refine finRT 0 (.slice none 0 0) (.int .i64 (opE mw md ms mt fx fz tx tz)) Try.results49 A37 S38 (by kernel_rfl) (by kernel_rfl) rfl (fun w2 bw ow => ?_)
    rw [wlR_n zn]
    exact ⟨_, rfl, bw, ow⟩
  · have p39 := of_decide_eq_false h33
    have ze : opE mw md ms mt fx fz tx tz = 0 := by simpa using h33
    have zo := opE_0 ze
    have zm := mdE_0 zo.1
    have ok := wyC_ok zo.1 zo.2
    have p1 := ok.x1
    have p2 := ok.x2
    have p3 := ok.h1
    have p4 := ok.h2
    have p5 := ok.v1
    have p6 := ok.v2
    have pl : (wyC mw md ms mt fx fz tx tz).lo = min (wyC mw md ms mt fx fz tx tz).x1 (wyC mw md ms mt fx fz tx tz).x2 := rfl
    have ph : (wyC mw md ms mt fx fz tx tz).hi = max (wyC mw md ms mt fx fz tx tz).x1 (wyC mw md ms mt fx fz tx tz).x2 := rfl
    have ks := crs_is ok
    have kl := ks.lo
    have kh := ks.hi
    refine wp_skip ?_
    refine n_then ?_
    refine wp_seq ?_
    have SX0 := S28
    simp only [zv_0 ze] at SX0
    have SX : St w0 [⟨g26, 119, #[.int .i64 ((wyC mw md ms mt fx fz tx tz).x1), .int .i64 ((wyC mw md ms mt fx fz tx tz).h1), .int .i64 ((wyC mw md ms mt fx fz tx tz).v1), .int .i64 ((wyC mw md ms mt fx fz tx tz).x2), .int .i64 ((wyC mw md ms mt fx fz tx tz).h2), .int .i64 ((wyC mw md ms mt fx fz tx tz).v2)], true⟩, ⟨g11, 41, #[.int .i64 tx, .int .i64 tz], true⟩, ⟨g7, 41, #[.int .i64 fx, .int .i64 fz], true⟩, ⟨g3, 39, #[.int .i64 mw, .int .i64 md, .int .i64 ms, .int .i64 mt], true⟩] [] _ := SX0
    refine wp_region_lit ?_
    refine s_one (.agg #[.int .i64 ((wyC mw md ms mt fx fz tx tz).x1), .int .i64 ((wyC mw md ms mt fx fz tx tz).h1), .int .i64 ((wyC mw md ms mt fx fz tx tz).v1), .int .i64 ((wyC mw md ms mt fx fz tx tz).x2), .int .i64 ((wyC mw md ms mt fx fz tx tz).h2), .int .i64 ((wyC mw md ms mt fx fz tx tz).v2)]) A32 SX (g_load (g := g26) (off := 0) 0 (by kernel_rfl) rfl (by kernel_rfl)) rfl (fun ac A40 => ?_)
    have kk44 := crs_bd (c := (wyC mw md ms mt fx fz tx tz)) ok
    refine s_call (fs := #[]) (cp := #[]) (r := [(0, .agg #[.int .i64 ((wyC mw md ms mt fx fz tx tz).x1), .int .i64 ((wyC mw md ms mt fx fz tx tz).h1), .int .i64 ((wyC mw md ms mt fx fz tx tz).v1), .int .i64 ((wyC mw md ms mt fx fz tx tz).x2), .int .i64 ((wyC mw md ms mt fx fz tx tz).h2), .int .i64 ((wyC mw md ms mt fx fz tx tz).v2)])]) #[.agg #[.int .i64 ((wyC mw md ms mt fx fz tx tz).x1), .int .i64 ((wyC mw md ms mt fx fz tx tz).h1), .int .i64 ((wyC mw md ms mt fx fz tx tz).v1), .int .i64 ((wyC mw md ms mt fx fz tx tz).x2), .int .i64 ((wyC mw md ms mt fx fz tx tz).h2), .int .i64 ((wyC mw md ms mt fx fz tx tz).v2)]] (.int .i64 (crs (wyC mw md ms mt fx fz tx tz))) A40 SX (crossing_s (wyC mw md ms mt fx fz tx tz) _ ok) Try.call77 (by kernel_rfl) (by kernel_rfl) (by kernel_rfl) rfl (fun ac wc A41 S42 => ?_)
    refine s_one (.int .i64 (crs (wyC mw md ms mt fx fz tx tz))) A41 S42 (g_assign (by kernel_rfl)) rfl (fun ac A45 => ?_)
    refine wpList_nil ?_
    refine n_then ?_
    refine wp_seq ?_
    refine wp_region_lit ?_
    refine s_one (.slice none 0 0) A45 S42 (g_assign (by kernel_rfl)) rfl (fun ac A46 => ?_)
    refine wpList_nil ?_
    refine n_then ?_
    refine wp_seq ?_
    refine wp_seq ?_
    refine wp_region_lit ?_
    refine s_one (.pointer (some ⟨g3, 2, none⟩)) A46 S42 (g_field (u := .pointer (some ⟨g3, 0, none⟩)) (by kernel_rfl) (fun _ => by kernel_rfl)) rfl (fun ac A47 => ?_)
    refine s_one (.int .i64 ms) A47 S42 (g_load (g := g3) (off := 2) 3 (by kernel_rfl) rfl (by kernel_rfl)) rfl (fun ac A48 => ?_)
    refine s_one (.int .i64 0) A48 S42 (g_move (by kernel_rfl)) rfl (fun ac A49 => ?_)
    refine wpList_nil ?_
    refine n_then ?_
    refine wp_block ?_
    have S50 := S42.nilRow 29 2
    refine c_loopN (fun mm ac wc => ∃ (j : Nat) (v : Value), mm = (ms - (j : Int)).toNat ∧ ((j : Int) ≤ ms) ∧ Fr 64 ac [(0, .agg #[.int .i64 mw, .int .i64 md, .int .i64 ms, .int .i64 mt]), (1, .agg #[.int .i64 fx, .int .i64 fz]), (2, .agg #[.int .i64 tx, .int .i64 tz]), (3, .pointer (some ⟨g3, 0, none⟩)), (4, .pointer (some ⟨g7, 0, none⟩)), (5, .pointer (some ⟨g11, 0, none⟩)), (6, .slice none 0 0), (7, .int .i64 0), (15, .agg #[.int .i64 mw, .int .i64 md, .int .i64 ms, .int .i64 mt]), (16, .agg #[.int .i64 fx, .int .i64 fz]), (17, .agg #[.int .i64 tx, .int .i64 tz]), (18, .tuple #[.agg #[.int .i64 (zv (opE mw md ms mt fx fz tx tz) (fx)), .int .i64 (zv (opE mw md ms mt fx fz tx tz) (-fz)), .int .i64 (zv (opE mw md ms mt fx fz tx tz) (mw)), .int .i64 (zv (opE mw md ms mt fx fz tx tz) (tx)), .int .i64 (zv (opE mw md ms mt fx fz tx tz) (unf ms mt tz)), .int .i64 (zv (opE mw md ms mt fx fz tx tz) (md))], .int .i64 (opE mw md ms mt fx fz tx tz)]), (14, .tuple #[.agg #[.int .i64 (zv (opE mw md ms mt fx fz tx tz) (fx)), .int .i64 (zv (opE mw md ms mt fx fz tx tz) (-fz)), .int .i64 (zv (opE mw md ms mt fx fz tx tz) (mw)), .int .i64 (zv (opE mw md ms mt fx fz tx tz) (tx)), .int .i64 (zv (opE mw md ms mt fx fz tx tz) (unf ms mt tz)), .int .i64 (zv (opE mw md ms mt fx fz tx tz) (md))], .int .i64 (opE mw md ms mt fx fz tx tz)]), (19, .agg #[.int .i64 (zv (opE mw md ms mt fx fz tx tz) (fx)), .int .i64 (zv (opE mw md ms mt fx fz tx tz) (-fz)), .int .i64 (zv (opE mw md ms mt fx fz tx tz) (mw)), .int .i64 (zv (opE mw md ms mt fx fz tx tz) (tx)), .int .i64 (zv (opE mw md ms mt fx fz tx tz) (unf ms mt tz)), .int .i64 (zv (opE mw md ms mt fx fz tx tz) (md))]), (20, .int .i64 (opE mw md ms mt fx fz tx tz)), (8, .pointer (some ⟨g26, 0, none⟩)), (9, .int .i64 (opE mw md ms mt fx fz tx tz)), (21, .int .i64 (opE mw md ms mt fx fz tx tz)), (22, .bool (decide (opE mw md ms mt fx fz tx tz ≠ 0))), (24, .agg #[.int .i64 ((wyC mw md ms mt fx fz tx tz).x1), .int .i64 ((wyC mw md ms mt fx fz tx tz).h1), .int .i64 ((wyC mw md ms mt fx fz tx tz).v1), .int .i64 ((wyC mw md ms mt fx fz tx tz).x2), .int .i64 ((wyC mw md ms mt fx fz tx tz).h2), .int .i64 ((wyC mw md ms mt fx fz tx tz).v2)]), (25, .int .i64 (crs (wyC mw md ms mt fx fz tx tz))), (10, .int .i64 (crs (wyC mw md ms mt fx fz tx tz))), (26, .pointer (some ⟨g3, 2, none⟩)), (27, .int .i64 ms), (28, .int .i64 (j : Int)), (11, v)] ∧ St w0 [⟨g26, 119, #[.int .i64 ((wyC mw md ms mt fx fz tx tz).x1), .int .i64 ((wyC mw md ms mt fx fz tx tz).h1), .int .i64 ((wyC mw md ms mt fx fz tx tz).v1), .int .i64 ((wyC mw md ms mt fx fz tx tz).x2), .int .i64 ((wyC mw md ms mt fx fz tx tz).h2), .int .i64 ((wyC mw md ms mt fx fz tx tz).v2)], true⟩, ⟨g11, 41, #[.int .i64 tx, .int .i64 tz], true⟩, ⟨g7, 41, #[.int .i64 fx, .int .i64 fz], true⟩, ⟨g3, 39, #[.int .i64 mw, .int .i64 md, .int .i64 ms, .int .i64 mt], true⟩] [⟨v, 29, 2, j, (rowI (wls mw md ms mt fx fz tx tz j))⟩] wc) _ ⟨0, .slice none 0 0, rfl, by omega, (A49.slot (A49.slot (A49.slot (A49.slot (A49.slot (A49.slot (A49.slot (A49.slot (A49.slot (A49.slot (A49.slot (A49.slot (A49.slot (A49.slot (A49.slot (A49.slot (A49.slot (A49.slot (A49.slot (A49.slot (A49.slot (A49.slot (A49.slot (A49.slot (A49.slot (A49.slot A49.nil (v := .slice none 0 0) (by kernel_rfl) (by first | rfl | simp)) (v := .int .i64 0) (by kernel_rfl) (congrArg (Value.int .i64) (by omega))) (v := .int .i64 ms) (by kernel_rfl) rfl) (v := .pointer (some ⟨g3, 2, none⟩)) (by kernel_rfl) rfl) (v := .int .i64 (crs (wyC mw md ms mt fx fz tx tz))) (by kernel_rfl) rfl) (v := .int .i64 (crs (wyC mw md ms mt fx fz tx tz))) (by kernel_rfl) rfl) (v := .agg #[.int .i64 ((wyC mw md ms mt fx fz tx tz).x1), .int .i64 ((wyC mw md ms mt fx fz tx tz).h1), .int .i64 ((wyC mw md ms mt fx fz tx tz).v1), .int .i64 ((wyC mw md ms mt fx fz tx tz).x2), .int .i64 ((wyC mw md ms mt fx fz tx tz).h2), .int .i64 ((wyC mw md ms mt fx fz tx tz).v2)]) (by kernel_rfl) rfl) (v := .bool (decide (opE mw md ms mt fx fz tx tz ≠ 0))) (by kernel_rfl) rfl) (v := .int .i64 (opE mw md ms mt fx fz tx tz)) (by kernel_rfl) rfl) (v := .int .i64 (opE mw md ms mt fx fz tx tz)) (by kernel_rfl) rfl) (v := .pointer (some ⟨g26, 0, none⟩)) (by kernel_rfl) rfl) (v := .int .i64 (opE mw md ms mt fx fz tx tz)) (by kernel_rfl) rfl) (v := .agg #[.int .i64 (zv (opE mw md ms mt fx fz tx tz) (fx)), .int .i64 (zv (opE mw md ms mt fx fz tx tz) (-fz)), .int .i64 (zv (opE mw md ms mt fx fz tx tz) (mw)), .int .i64 (zv (opE mw md ms mt fx fz tx tz) (tx)), .int .i64 (zv (opE mw md ms mt fx fz tx tz) (unf ms mt tz)), .int .i64 (zv (opE mw md ms mt fx fz tx tz) (md))]) (by kernel_rfl) rfl) (v := .tuple #[.agg #[.int .i64 (zv (opE mw md ms mt fx fz tx tz) (fx)), .int .i64 (zv (opE mw md ms mt fx fz tx tz) (-fz)), .int .i64 (zv (opE mw md ms mt fx fz tx tz) (mw)), .int .i64 (zv (opE mw md ms mt fx fz tx tz) (tx)), .int .i64 (zv (opE mw md ms mt fx fz tx tz) (unf ms mt tz)), .int .i64 (zv (opE mw md ms mt fx fz tx tz) (md))], .int .i64 (opE mw md ms mt fx fz tx tz)]) (by kernel_rfl) rfl) (v := .tuple #[.agg #[.int .i64 (zv (opE mw md ms mt fx fz tx tz) (fx)), .int .i64 (zv (opE mw md ms mt fx fz tx tz) (-fz)), .int .i64 (zv (opE mw md ms mt fx fz tx tz) (mw)), .int .i64 (zv (opE mw md ms mt fx fz tx tz) (tx)), .int .i64 (zv (opE mw md ms mt fx fz tx tz) (unf ms mt tz)), .int .i64 (zv (opE mw md ms mt fx fz tx tz) (md))], .int .i64 (opE mw md ms mt fx fz tx tz)]) (by kernel_rfl) rfl) (v := .agg #[.int .i64 tx, .int .i64 tz]) (by kernel_rfl) rfl) (v := .agg #[.int .i64 fx, .int .i64 fz]) (by kernel_rfl) rfl) (v := .agg #[.int .i64 mw, .int .i64 md, .int .i64 ms, .int .i64 mt]) (by kernel_rfl) rfl) (v := .int .i64 0) (by kernel_rfl) rfl) (v := .slice none 0 0) (by kernel_rfl) rfl) (v := .pointer (some ⟨g11, 0, none⟩)) (by kernel_rfl) rfl) (v := .pointer (some ⟨g7, 0, none⟩)) (by kernel_rfl) rfl) (v := .pointer (some ⟨g3, 0, none⟩)) (by kernel_rfl) rfl) (v := .agg #[.int .i64 tx, .int .i64 tz]) (by kernel_rfl) rfl) (v := .agg #[.int .i64 fx, .int .i64 fz]) (by kernel_rfl) rfl) (v := .agg #[.int .i64 mw, .int .i64 md, .int .i64 ms, .int .i64 mt]) (by kernel_rfl) rfl), (St.rerow 0 S50 rfl ⟨rfl, rfl⟩).sub sub_all sub_all⟩ ?_
    rintro mm ac wc ⟨j, v, hm53, hj, A51, S52⟩
    refine wp_seq ?_
    refine wp_region_lit ?_
    refine s_one (.bool (decide ((j : Int) < ms))) A51 S52 (g_bin (u := .int .i64 (j : Int)) (k := .int .i64 ms) (by kernel_rfl) (by kernel_rfl) (fun _ => by kernel_rfl) (fun _ => by kernel_rfl)) rfl (fun ac A54 => ?_)
    refine wpList_nil ?_
    refine n_then ?_
    refine wp_seq ?_
    refine c_ifb (b := (decide ((j : Int) < ms))) A54 (by kernel_rfl) (fun h55 => ?_) (fun h55 => ?_)
    · have p56 := of_decide_eq_true h55
      have wb := wl_bd (k := crs (wyC mw md ms mt fx fz tx tz)) (x := (wyC mw md ms mt fx fz tx tz).x2) (h := (wyC mw md ms mt fx fz tx tz).h2) (mt := mt) (j := (j : Int) + 1) (by omega) (by omega) (by omega) (by omega) (by omega)
      have we := ed_up (n := ((wyC mw md ms mt fx fz tx tz).x2 - crs (wyC mw md ms mt fx fz tx tz)) * ((j : Int) + 1) * mt) (h := (wyC mw md ms mt fx fz tx tz).h2) (A := 16000000000) (by omega) (by omega) (by omega) (by omega)
      have we2 := ed_up (n := crs (wyC mw md ms mt fx fz tx tz) * (wyC mw md ms mt fx fz tx tz).h2 + ((wyC mw md ms mt fx fz tx tz).x2 - crs (wyC mw md ms mt fx fz tx tz)) * ((j : Int) + 1) * mt) (h := (wyC mw md ms mt fx fz tx tz).h2) (A := 26000000000) (by omega) (by omega) (by omega) (by omega)
      refine wp_skip ?_
      refine n_then ?_
      refine wp_seq ?_
      refine wp_block ?_
      refine wp_seq ?_
      refine wp_region_lit ?_
      refine s_one (.int .i64 (j : Int)) A54 S52 (g_move (by kernel_rfl)) rfl (fun ac A57 => ?_)
      refine s_one (.int .i64 (j : Int)) A57 S52 (g_assign (by kernel_rfl)) rfl (fun ac A58 => ?_)
      refine wpList_nil ?_
      refine n_then ?_
      refine wp_seq ?_
      refine wp_region_lit ?_
      refine s_one (.int .i64 (crs (wyC mw md ms mt fx fz tx tz))) A58 S52 (g_move (by kernel_rfl)) rfl (fun ac A59 => ?_)
      refine s_one (.pointer (some ⟨g26, 0, none⟩)) A59 S52 (g_field (u := .pointer (some ⟨g26, 0, none⟩)) (by kernel_rfl) (fun _ => by kernel_rfl)) rfl (fun ac A60 => ?_)
      refine s_one (.pointer (some ⟨g26, 4, none⟩)) A60 S52 (g_field (u := .pointer (some ⟨g26, 0, none⟩)) (by kernel_rfl) (fun _ => by kernel_rfl)) rfl (fun ac A61 => ?_)
      refine s_one (.int .i64 ((wyC mw md ms mt fx fz tx tz).h2)) A61 S52 (g_load (g := g26) (off := 4) 0 (by kernel_rfl) rfl (by kernel_rfl)) rfl (fun ac A62 => ?_)
      refine s_one (.int .i64 ((crs (wyC mw md ms mt fx fz tx tz)) * ((wyC mw md ms mt fx fz tx tz).h2))) A62 S52 (g_bin (u := .int .i64 (crs (wyC mw md ms mt fx fz tx tz))) (k := .int .i64 ((wyC mw md ms mt fx fz tx tz).h2)) (by kernel_rfl) (by kernel_rfl) (fun _ => by kernel_rfl) (b_mul (by omega))) rfl (fun ac A63 => ?_)
      refine s_one (.pointer (some ⟨g26, 0, none⟩)) A63 S52 (g_field (u := .pointer (some ⟨g26, 0, none⟩)) (by kernel_rfl) (fun _ => by kernel_rfl)) rfl (fun ac A64 => ?_)
      refine s_one (.pointer (some ⟨g26, 3, none⟩)) A64 S52 (g_field (u := .pointer (some ⟨g26, 0, none⟩)) (by kernel_rfl) (fun _ => by kernel_rfl)) rfl (fun ac A65 => ?_)
      refine s_one (.int .i64 ((wyC mw md ms mt fx fz tx tz).x2)) A65 S52 (g_load (g := g26) (off := 3) 0 (by kernel_rfl) rfl (by kernel_rfl)) rfl (fun ac A66 => ?_)
      refine s_one (.int .i64 (crs (wyC mw md ms mt fx fz tx tz))) A66 S52 (g_move (by kernel_rfl)) rfl (fun ac A67 => ?_)
      refine s_one (.int .i64 ((wyC mw md ms mt fx fz tx tz).x2 - (crs (wyC mw md ms mt fx fz tx tz)))) A67 S52 (g_bin (u := .int .i64 ((wyC mw md ms mt fx fz tx tz).x2)) (k := .int .i64 (crs (wyC mw md ms mt fx fz tx tz))) (by kernel_rfl) (by kernel_rfl) (fun _ => by kernel_rfl) (b_sub (by omega))) rfl (fun ac A68 => ?_)
      refine s_one (.int .i64 (j : Int)) A68 S52 (g_move (by kernel_rfl)) rfl (fun ac A69 => ?_)
      refine s_one (.int .i64 ((j : Int) + 1)) A69 S52 (g_bin (u := .int .i64 (j : Int)) (k := .int .i64 1) (by kernel_rfl) (by kernel_rfl) (fun _ => by kernel_rfl) (b_add (by omega))) rfl (fun ac A70 => ?_)
      refine s_one (.int .i64 (((wyC mw md ms mt fx fz tx tz).x2 - (crs (wyC mw md ms mt fx fz tx tz))) * ((j : Int) + 1))) A70 S52 (g_bin (u := .int .i64 ((wyC mw md ms mt fx fz tx tz).x2 - (crs (wyC mw md ms mt fx fz tx tz)))) (k := .int .i64 ((j : Int) + 1)) (by kernel_rfl) (by kernel_rfl) (fun _ => by kernel_rfl) (b_mul (by omega))) rfl (fun ac A71 => ?_)
      refine s_one (.pointer (some ⟨g3, 3, none⟩)) A71 S52 (g_field (u := .pointer (some ⟨g3, 0, none⟩)) (by kernel_rfl) (fun _ => by kernel_rfl)) rfl (fun ac A72 => ?_)
      refine s_one (.int .i64 mt) A72 S52 (g_load (g := g3) (off := 3) 3 (by kernel_rfl) rfl (by kernel_rfl)) rfl (fun ac A73 => ?_)
      refine s_one (.int .i64 ((((wyC mw md ms mt fx fz tx tz).x2 - (crs (wyC mw md ms mt fx fz tx tz))) * ((j : Int) + 1)) * mt)) A73 S52 (g_bin (u := .int .i64 (((wyC mw md ms mt fx fz tx tz).x2 - (crs (wyC mw md ms mt fx fz tx tz))) * ((j : Int) + 1))) (k := .int .i64 mt) (by kernel_rfl) (by kernel_rfl) (fun _ => by kernel_rfl) (b_mul (by omega))) rfl (fun ac A74 => ?_)
      refine s_one (.int .i64 ((crs (wyC mw md ms mt fx fz tx tz)) * ((wyC mw md ms mt fx fz tx tz).h2) + ((((wyC mw md ms mt fx fz tx tz).x2 - (crs (wyC mw md ms mt fx fz tx tz))) * ((j : Int) + 1)) * mt))) A74 S52 (g_bin (u := .int .i64 ((crs (wyC mw md ms mt fx fz tx tz)) * ((wyC mw md ms mt fx fz tx tz).h2))) (k := .int .i64 ((((wyC mw md ms mt fx fz tx tz).x2 - (crs (wyC mw md ms mt fx fz tx tz))) * ((j : Int) + 1)) * mt)) (by kernel_rfl) (by kernel_rfl) (fun _ => by kernel_rfl) (b_add (by omega))) rfl (fun ac A75 => ?_)
      refine s_one (.int .i64 ((crs (wyC mw md ms mt fx fz tx tz)) * ((wyC mw md ms mt fx fz tx tz).h2) + ((((wyC mw md ms mt fx fz tx tz).x2 - (crs (wyC mw md ms mt fx fz tx tz))) * ((j : Int) + 1)) * mt))) A75 S52 (g_assign (by kernel_rfl)) rfl (fun ac A76 => ?_)
      refine wpList_nil ?_
      refine n_then ?_
      refine r_begin (w0 := w0) (by kernel_rfl) (S52.sub sub_all sub_nil) (fun wc T77 B78 => ?_)
      have S79 := S52.kept B78
      refine r_take 0 (v) A76 T77 (g_move (by kernel_rfl)) rfl rfl rfl (pf_block (pf_then (pf_then (pf_block (pf_then pf_body))))) (by kernel_rfl) (fun ac A80 => ?_)
      refine r_take 1 (.int .i64 ((crs (wyC mw md ms mt fx fz tx tz)) * ((wyC mw md ms mt fx fz tx tz).h2) + ((((wyC mw md ms mt fx fz tx tz).x2 - (crs (wyC mw md ms mt fx fz tx tz))) * ((j : Int) + 1)) * mt))) A80 T77 (g_move (by kernel_rfl)) rfl rfl rfl (pf_block (pf_then (pf_then (pf_block (pf_then pf_body))))) (by kernel_rfl) (fun ac A81 => ?_)
      refine r_take 2 (.pointer (some ⟨g26, 0, none⟩)) A81 T77 (g_field (u := .pointer (some ⟨g26, 0, none⟩)) (by kernel_rfl) (fun _ => by kernel_rfl)) rfl rfl rfl (pf_block (pf_then (pf_then (pf_block (pf_then pf_body))))) (by kernel_rfl) (fun ac A82 => ?_)
      refine r_take 3 (.pointer (some ⟨g26, 4, none⟩)) A82 T77 (g_field (u := .pointer (some ⟨g26, 0, none⟩)) (by kernel_rfl) (fun _ => by kernel_rfl)) rfl rfl rfl (pf_block (pf_then (pf_then (pf_block (pf_then pf_body))))) (by kernel_rfl) (fun ac A83 => ?_)
      refine r_take 4 (.int .i64 ((wyC mw md ms mt fx fz tx tz).h2)) A83 T77 (g_load (g := g26) (off := 4) 0 (by kernel_rfl) rfl (by kernel_rfl)) rfl rfl rfl (pf_block (pf_then (pf_then (pf_block (pf_then pf_body))))) (by kernel_rfl) (fun ac A84 => ?_)
      refine r_take 6 (.int .i64 ((crs (wyC mw md ms mt fx fz tx tz)) * ((wyC mw md ms mt fx fz tx tz).h2) + ((((wyC mw md ms mt fx fz tx tz).x2 - (crs (wyC mw md ms mt fx fz tx tz))) * ((j : Int) + 1)) * mt))) A84 T77 (g_move (by kernel_rfl)) rfl rfl rfl (pf_block (pf_then (pf_then (pf_block (pf_then pf_body))))) (by kernel_rfl) (fun ac A85 => ?_)
      refine r_take 7 (.pointer (some ⟨g26, 0, none⟩)) A85 T77 (g_field (u := .pointer (some ⟨g26, 0, none⟩)) (by kernel_rfl) (fun _ => by kernel_rfl)) rfl rfl rfl (pf_block (pf_then (pf_then (pf_block (pf_then pf_body))))) (by kernel_rfl) (fun ac A86 => ?_)
      refine r_take 8 (.pointer (some ⟨g26, 4, none⟩)) A86 T77 (g_field (u := .pointer (some ⟨g26, 0, none⟩)) (by kernel_rfl) (fun _ => by kernel_rfl)) rfl rfl rfl (pf_block (pf_then (pf_then (pf_block (pf_then pf_body))))) (by kernel_rfl) (fun ac A87 => ?_)
      refine r_take 9 (.int .i64 ((wyC mw md ms mt fx fz tx tz).h2)) A87 T77 (g_load (g := g26) (off := 4) 0 (by kernel_rfl) rfl (by kernel_rfl)) rfl rfl rfl (pf_block (pf_then (pf_then (pf_block (pf_then pf_body))))) (by kernel_rfl) (fun ac A88 => ?_)
      refine r_1 (i := 5) (by kernel_rfl) ?_
      refine rs_call (fs := #[]) (cp := #[]) (r := [(0, .int .i64 ((crs (wyC mw md ms mt fx fz tx tz)) * ((wyC mw md ms mt fx fz tx tz).h2) + ((((wyC mw md ms mt fx fz tx tz).x2 - (crs (wyC mw md ms mt fx fz tx tz))) * ((j : Int) + 1)) * mt))), (0, .int .i64 ((wyC mw md ms mt fx fz tx tz).h2))]) #[.int .i64 ((crs (wyC mw md ms mt fx fz tx tz)) * ((wyC mw md ms mt fx fz tx tz).h2) + ((((wyC mw md ms mt fx fz tx tz).x2 - (crs (wyC mw md ms mt fx fz tx tz))) * ((j : Int) + 1)) * mt)), .int .i64 ((wyC mw md ms mt fx fz tx tz).h2)] (.int .i64 (((crs (wyC mw md ms mt fx fz tx tz)) * ((wyC mw md ms mt fx fz tx tz).h2) + ((((wyC mw md ms mt fx fz tx tz).x2 - (crs (wyC mw md ms mt fx fz tx tz))) * ((j : Int) + 1)) * mt)) / ((wyC mw md ms mt fx fz tx tz).h2))) A88 S79 sub_all sub_nil (down_s ((crs (wyC mw md ms mt fx fz tx tz)) * ((wyC mw md ms mt fx fz tx tz).h2) + ((((wyC mw md ms mt fx fz tx tz).x2 - (crs (wyC mw md ms mt fx fz tx tz))) * ((j : Int) + 1)) * mt)) ((wyC mw md ms mt fx fz tx tz).h2) _ (by omega) (by omega) (by omega)) Try.call101 rfl rfl (by kernel_rfl) (by kernel_rfl) (by kernel_rfl) rfl (fun ac wc A89 S90 => ?_)
      have T92 := S90.sub sub_all sub_nil
      refine r_1 (i := 10) (by kernel_rfl) ?_
      refine rs_call (fs := #[]) (cp := #[]) (r := [(0, .int .i64 ((crs (wyC mw md ms mt fx fz tx tz)) * ((wyC mw md ms mt fx fz tx tz).h2) + ((((wyC mw md ms mt fx fz tx tz).x2 - (crs (wyC mw md ms mt fx fz tx tz))) * ((j : Int) + 1)) * mt))), (0, .int .i64 ((wyC mw md ms mt fx fz tx tz).h2))]) #[.int .i64 ((crs (wyC mw md ms mt fx fz tx tz)) * ((wyC mw md ms mt fx fz tx tz).h2) + ((((wyC mw md ms mt fx fz tx tz).x2 - (crs (wyC mw md ms mt fx fz tx tz))) * ((j : Int) + 1)) * mt)), .int .i64 ((wyC mw md ms mt fx fz tx tz).h2)] (.int .i64 (upD ((crs (wyC mw md ms mt fx fz tx tz)) * ((wyC mw md ms mt fx fz tx tz).h2) + ((((wyC mw md ms mt fx fz tx tz).x2 - (crs (wyC mw md ms mt fx fz tx tz))) * ((j : Int) + 1)) * mt)) ((wyC mw md ms mt fx fz tx tz).h2))) A89 S90 sub_all sub_nil (up_s ((crs (wyC mw md ms mt fx fz tx tz)) * ((wyC mw md ms mt fx fz tx tz).h2) + ((((wyC mw md ms mt fx fz tx tz).x2 - (crs (wyC mw md ms mt fx fz tx tz))) * ((j : Int) + 1)) * mt)) ((wyC mw md ms mt fx fz tx tz).h2) _ (by omega) (by omega) (by omega)) Try.call102 rfl rfl (by kernel_rfl) (by kernel_rfl) (by kernel_rfl) rfl (fun ac wc A93 S94 => ?_)
      have T96 := S94.sub sub_all sub_nil
      refine r_take 11 (.agg #[.int .i64 (((crs (wyC mw md ms mt fx fz tx tz)) * ((wyC mw md ms mt fx fz tx tz).h2) + ((((wyC mw md ms mt fx fz tx tz).x2 - (crs (wyC mw md ms mt fx fz tx tz))) * ((j : Int) + 1)) * mt)) / ((wyC mw md ms mt fx fz tx tz).h2)), .int .i64 (upD ((crs (wyC mw md ms mt fx fz tx tz)) * ((wyC mw md ms mt fx fz tx tz).h2) + ((((wyC mw md ms mt fx fz tx tz).x2 - (crs (wyC mw md ms mt fx fz tx tz))) * ((j : Int) + 1)) * mt)) ((wyC mw md ms mt fx fz tx tz).h2))]) A93 T96 (g_build (r := [(0, .int .i64 (((crs (wyC mw md ms mt fx fz tx tz)) * ((wyC mw md ms mt fx fz tx tz).h2) + ((((wyC mw md ms mt fx fz tx tz).x2 - (crs (wyC mw md ms mt fx fz tx tz))) * ((j : Int) + 1)) * mt)) / ((wyC mw md ms mt fx fz tx tz).h2))), (1, .int .i64 (upD ((crs (wyC mw md ms mt fx fz tx tz)) * ((wyC mw md ms mt fx fz tx tz).h2) + ((((wyC mw md ms mt fx fz tx tz).x2 - (crs (wyC mw md ms mt fx fz tx tz))) * ((j : Int) + 1)) * mt)) ((wyC mw md ms mt fx fz tx tz).h2)))]) (by kernel_rfl) (fun _ => by kernel_rfl)) rfl rfl rfl (pf_block (pf_then (pf_then (pf_block (pf_then pf_body))))) (by kernel_rfl) (fun ac A97 => ?_)
      refine r_1 (i := 12) (by kernel_rfl) ?_
      refine rs_bs (e := 29) (r := [(0, .agg #[.int .i64 (((crs (wyC mw md ms mt fx fz tx tz)) * ((wyC mw md ms mt fx fz tx tz).h2) + ((((wyC mw md ms mt fx fz tx tz).x2 - (crs (wyC mw md ms mt fx fz tx tz))) * ((j : Int) + 1)) * mt)) / ((wyC mw md ms mt fx fz tx tz).h2)), .int .i64 (upD ((crs (wyC mw md ms mt fx fz tx tz)) * ((wyC mw md ms mt fx fz tx tz).h2) + ((((wyC mw md ms mt fx fz tx tz).x2 - (crs (wyC mw md ms mt fx fz tx tz))) * ((j : Int) + 1)) * mt)) ((wyC mw md ms mt fx fz tx tz).h2))])]) (#[.int .i64 (((crs (wyC mw md ms mt fx fz tx tz)) * ((wyC mw md ms mt fx fz tx tz).h2) + ((((wyC mw md ms mt fx fz tx tz).x2 - (crs (wyC mw md ms mt fx fz tx tz))) * ((j : Int) + 1)) * mt)) / ((wyC mw md ms mt fx fz tx tz).h2)), .int .i64 (upD ((crs (wyC mw md ms mt fx fz tx tz)) * ((wyC mw md ms mt fx fz tx tz).h2) + ((((wyC mw md ms mt fx fz tx tz).x2 - (crs (wyC mw md ms mt fx fz tx tz))) * ((j : Int) + 1)) * mt)) ((wyC mw md ms mt fx fz tx tz).h2))]) A97 S94 sub_all sub_nil (by kernel_rfl) (by kernel_rfl) rfl rfl rfl (fun g100 ac wc A98 S99 => ?_)
      have T101 := S99.sub (sub_skip sub_all) sub_nil
      refine r_1 (i := 13) (by kernel_rfl) ?_
      refine rs_append (e := 29) (size := 2) (bytes := 16) (v := v) (g := g100) (m' := 1) (c := 1) 0 0 [.int .i64 (((crs (wyC mw md ms mt fx fz tx tz)) * ((wyC mw md ms mt fx fz tx tz).h2) + ((((wyC mw md ms mt fx fz tx tz).x2 - (crs (wyC mw md ms mt fx fz tx tz))) * ((j : Int) + 1)) * mt)) / ((wyC mw md ms mt fx fz tx tz).h2)), .int .i64 (upD ((crs (wyC mw md ms mt fx fz tx tz)) * ((wyC mw md ms mt fx fz tx tz).h2) + ((((wyC mw md ms mt fx fz tx tz).x2 - (crs (wyC mw md ms mt fx fz tx tz))) * ((j : Int) + 1)) * mt)) ((wyC mw md ms mt fx fz tx tz).h2))] A98 S99 (sub_skip sub_all) (fun _ => sub_nil) (by kernel_rfl) (by kernel_rfl) (by kernel_rfl) rfl rfl (by kernel_rfl) rfl (by kernel_rfl) (by omega) (by omega) rfl rfl rfl (fun v106 ac wc A102 S103 => ?_)
      have T105 := S103.sub (sub_skip sub_all) sub_nil
      refine r_take 14 (v106) A102 T105 (g_assign (by kernel_rfl)) rfl rfl rfl (pf_block (pf_then (pf_then (pf_block (pf_then pf_body))))) (by kernel_rfl) (fun ac A107 => ?_)
      refine r_done (by kernel_rfl) ?_
      refine n_block ?_
      refine n_then ?_
      refine wp_region_lit ?_
      refine s_one (.int .i64 ((j : Int) + 1)) A107 S103 (g_bin (u := .int .i64 (j : Int)) (k := .int .i64 1) (by kernel_rfl) (by kernel_rfl) (fun _ => by kernel_rfl) (b_add (by omega))) rfl (fun ac A108 => ?_)
      refine s_one (.int .i64 ((j : Int) + 1)) A108 S103 (g_move (by kernel_rfl)) rfl (fun ac A109 => ?_)
      refine wpList_nil ?_
      refine n_then ?_
      refine ⟨_, ⟨j + 1, v106, rfl, by omega, (A109.slot (A109.slot (A109.slot (A109.slot (A109.slot (A109.slot (A109.slot (A109.slot (A109.slot (A109.slot (A109.slot (A109.slot (A109.slot (A109.slot (A109.slot (A109.slot (A109.slot (A109.slot (A109.slot (A109.slot (A109.slot (A109.slot (A109.slot (A109.slot (A109.slot (A109.slot A109.nil (v := v106) (by kernel_rfl) rfl) (v := .int .i64 ((j : Int) + 1)) (by kernel_rfl) (congrArg (Value.int .i64) (by omega))) (v := .int .i64 ms) (by kernel_rfl) rfl) (v := .pointer (some ⟨g3, 2, none⟩)) (by kernel_rfl) rfl) (v := .int .i64 (crs (wyC mw md ms mt fx fz tx tz))) (by kernel_rfl) rfl) (v := .int .i64 (crs (wyC mw md ms mt fx fz tx tz))) (by kernel_rfl) rfl) (v := .agg #[.int .i64 ((wyC mw md ms mt fx fz tx tz).x1), .int .i64 ((wyC mw md ms mt fx fz tx tz).h1), .int .i64 ((wyC mw md ms mt fx fz tx tz).v1), .int .i64 ((wyC mw md ms mt fx fz tx tz).x2), .int .i64 ((wyC mw md ms mt fx fz tx tz).h2), .int .i64 ((wyC mw md ms mt fx fz tx tz).v2)]) (by kernel_rfl) rfl) (v := .bool (decide (opE mw md ms mt fx fz tx tz ≠ 0))) (by kernel_rfl) rfl) (v := .int .i64 (opE mw md ms mt fx fz tx tz)) (by kernel_rfl) rfl) (v := .int .i64 (opE mw md ms mt fx fz tx tz)) (by kernel_rfl) rfl) (v := .pointer (some ⟨g26, 0, none⟩)) (by kernel_rfl) rfl) (v := .int .i64 (opE mw md ms mt fx fz tx tz)) (by kernel_rfl) rfl) (v := .agg #[.int .i64 (zv (opE mw md ms mt fx fz tx tz) (fx)), .int .i64 (zv (opE mw md ms mt fx fz tx tz) (-fz)), .int .i64 (zv (opE mw md ms mt fx fz tx tz) (mw)), .int .i64 (zv (opE mw md ms mt fx fz tx tz) (tx)), .int .i64 (zv (opE mw md ms mt fx fz tx tz) (unf ms mt tz)), .int .i64 (zv (opE mw md ms mt fx fz tx tz) (md))]) (by kernel_rfl) rfl) (v := .tuple #[.agg #[.int .i64 (zv (opE mw md ms mt fx fz tx tz) (fx)), .int .i64 (zv (opE mw md ms mt fx fz tx tz) (-fz)), .int .i64 (zv (opE mw md ms mt fx fz tx tz) (mw)), .int .i64 (zv (opE mw md ms mt fx fz tx tz) (tx)), .int .i64 (zv (opE mw md ms mt fx fz tx tz) (unf ms mt tz)), .int .i64 (zv (opE mw md ms mt fx fz tx tz) (md))], .int .i64 (opE mw md ms mt fx fz tx tz)]) (by kernel_rfl) rfl) (v := .tuple #[.agg #[.int .i64 (zv (opE mw md ms mt fx fz tx tz) (fx)), .int .i64 (zv (opE mw md ms mt fx fz tx tz) (-fz)), .int .i64 (zv (opE mw md ms mt fx fz tx tz) (mw)), .int .i64 (zv (opE mw md ms mt fx fz tx tz) (tx)), .int .i64 (zv (opE mw md ms mt fx fz tx tz) (unf ms mt tz)), .int .i64 (zv (opE mw md ms mt fx fz tx tz) (md))], .int .i64 (opE mw md ms mt fx fz tx tz)]) (by kernel_rfl) rfl) (v := .agg #[.int .i64 tx, .int .i64 tz]) (by kernel_rfl) rfl) (v := .agg #[.int .i64 fx, .int .i64 fz]) (by kernel_rfl) rfl) (v := .agg #[.int .i64 mw, .int .i64 md, .int .i64 ms, .int .i64 mt]) (by kernel_rfl) rfl) (v := .int .i64 0) (by kernel_rfl) rfl) (v := .slice none 0 0) (by kernel_rfl) rfl) (v := .pointer (some ⟨g11, 0, none⟩)) (by kernel_rfl) rfl) (v := .pointer (some ⟨g7, 0, none⟩)) (by kernel_rfl) rfl) (v := .pointer (some ⟨g3, 0, none⟩)) (by kernel_rfl) rfl) (v := .agg #[.int .i64 tx, .int .i64 tz]) (by kernel_rfl) rfl) (v := .agg #[.int .i64 fx, .int .i64 fz]) (by kernel_rfl) rfl) (v := .agg #[.int .i64 mw, .int .i64 md, .int .i64 ms, .int .i64 mt]) (by kernel_rfl) rfl), (St.rerow 0 S103 rfl ⟨rfl, wls_c (by omega) _⟩).sub (sub_skip sub_all) sub_all⟩, ?_⟩
      omega
    · have p110 := of_decide_eq_false h55
      refine wp_exit ?_
      refine x_then ?_
      refine x_then ?_
      refine x_hit ?_
      refine n_then ?_
      refine wp_seq ?_
      refine wp_region_lit ?_
      refine s_one (v) A54 S52 (g_move (by kernel_rfl)) rfl (fun ac A111 => ?_)
      refine s_one (v) A111 S52 (g_assign (by kernel_rfl)) rfl (fun ac A112 => ?_)
      refine s_one (.int .i64 0) A112 S52 (g_assign (by kernel_rfl)) rfl (fun ac A113 => ?_)
      refine wpList_nil ?_
      refine n_then ?_
      refine wp_ret ?_
      refine finRT 0 (v) (.int .i64 0) Try.results49 A113 S52 (by kernel_rfl) (by kernel_rfl) rfl (fun w2 bw ow => ?_)
      rw [wlR_0 ze, show ms.toNat = j by omega, ze]
      exact ⟨_, rfl, bw, ow⟩

set_option maxRecDepth 100000 in
set_option maxHeartbeats 400000 in
theorem refWalls_s (mw md ms mt fx fz tx tz : Int) (w0 : World) (hm : mdE mw md ms mt = 0) (hw : wyE mt fx fz tx tz = 0) :
    Calls Try.prog 55 #[.agg #[.int .i64 mw, .int .i64 md, .int .i64 ms, .int .i64 mt], .agg #[.int .i64 fx, .int .i64 fz], .agg #[.int .i64 tx, .int .i64 tz]] w0 fun e w' => ∃ v, e = .returned v ∧ Below w0.heap.size w0 w' ∧ w'.ownsRow w0.heap.size 29 2 v ms.toNat (rowI (wls mw md ms mt fx fz tx tz ms.toNat)) := by
  have S0 := St.start w0
  have zm := mdE_0 hm
  have zw := wyE_0 hw
  have ok := wyC_ok hm hw
  have p1 := ok.x1
  have p2 := ok.x2
  have p3 := ok.h1
  have p4 := ok.h2
  have p5 := ok.v1
  have p6 := ok.v2
  have pl : (wyC mw md ms mt fx fz tx tz).lo = min (wyC mw md ms mt fx fz tx tz).x1 (wyC mw md ms mt fx fz tx tz).x2 := rfl
  have ph : (wyC mw md ms mt fx fz tx tz).hi = max (wyC mw md ms mt fx fz tx tz).x1 (wyC mw md ms mt fx fz tx tz).x2 := rfl
  have ks := crs_is ok
  have kl := ks.lo
  have kh := ks.hi
  refine enter (n := 50) Try.func55 rfl rfl rfl (fun ac A0 => ?_)
  refine wp_seq ?_
  refine wp_region_lit ?_
  refine s_box (.agg #[.int .i64 mw, .int .i64 md, .int .i64 ms, .int .i64 mt]) A0 S0 (by kernel_rfl) rfl (fun g3 ac wc A1 S2 => ?_)
  replace S2 : St _ (⟨g3, 39, #[.int .i64 mw, .int .i64 md, .int .i64 ms, .int .i64 mt], true⟩ :: _) _ _ := S2
  refine s_box (.agg #[.int .i64 fx, .int .i64 fz]) A1 S2 (by kernel_rfl) rfl (fun g7 ac wc A5 S6 => ?_)
  replace S6 : St _ (⟨g7, 41, #[.int .i64 fx, .int .i64 fz], true⟩ :: _) _ _ := S6
  refine s_box (.agg #[.int .i64 tx, .int .i64 tz]) A5 S6 (by kernel_rfl) rfl (fun g11 ac wc A9 S10 => ?_)
  replace S10 : St _ (⟨g11, 41, #[.int .i64 tx, .int .i64 tz], true⟩ :: _) _ _ := S10
  refine s_one (.slice none 0 0) A9 S10 (g_assign (by kernel_rfl)) rfl (fun ac A13 => ?_)
  refine wpList_nil ?_
  refine n_then ?_
  refine wp_seq ?_
  refine wp_region_lit ?_
  refine s_one (.agg #[.int .i64 mw, .int .i64 md, .int .i64 ms, .int .i64 mt]) A13 S10 (g_load (g := g3) (off := 0) 2 (by kernel_rfl) rfl (by kernel_rfl)) rfl (fun ac A14 => ?_)
  refine s_one (.agg #[.int .i64 fx, .int .i64 fz]) A14 S10 (g_load (g := g7) (off := 0) 1 (by kernel_rfl) rfl (by kernel_rfl)) rfl (fun ac A15 => ?_)
  refine s_one (.agg #[.int .i64 tx, .int .i64 tz]) A15 S10 (g_load (g := g11) (off := 0) 0 (by kernel_rfl) rfl (by kernel_rfl)) rfl (fun ac A16 => ?_)
  refine s_call (fs := #[]) (cp := #[]) (r := [(0, .agg #[.int .i64 mw, .int .i64 md, .int .i64 ms, .int .i64 mt]), (0, .agg #[.int .i64 fx, .int .i64 fz]), (0, .agg #[.int .i64 tx, .int .i64 tz])]) #[.agg #[.int .i64 mw, .int .i64 md, .int .i64 ms, .int .i64 mt], .agg #[.int .i64 fx, .int .i64 fz], .agg #[.int .i64 tx, .int .i64 tz]] (.agg #[.int .i64 ((wyC mw md ms mt fx fz tx tz).x1), .int .i64 ((wyC mw md ms mt fx fz tx tz).h1), .int .i64 ((wyC mw md ms mt fx fz tx tz).v1), .int .i64 ((wyC mw md ms mt fx fz tx tz).x2), .int .i64 ((wyC mw md ms mt fx fz tx tz).h2), .int .i64 ((wyC mw md ms mt fx fz tx tz).v2)]) A16 S10 (refCrossOf_s mw md ms mt fx fz tx tz _ (by omega) (by omega) (by omega) (by omega)) Try.call51 (by kernel_rfl) (by kernel_rfl) (by kernel_rfl) rfl (fun ac wc A17 S18 => ?_)
  refine s_alloc (#[.int .i64 0, .int .i64 0, .int .i64 0, .int .i64 0, .int .i64 0, .int .i64 0]) A17 S18 (by kernel_rfl) rfl (fun g22 ac wc A20 S21 => ?_)
  refine s_store (g := g22) (off := 0) (v := .agg #[.int .i64 ((wyC mw md ms mt fx fz tx tz).x1), .int .i64 ((wyC mw md ms mt fx fz tx tz).h1), .int .i64 ((wyC mw md ms mt fx fz tx tz).v1), .int .i64 ((wyC mw md ms mt fx fz tx tz).x2), .int .i64 ((wyC mw md ms mt fx fz tx tz).h2), .int .i64 ((wyC mw md ms mt fx fz tx tz).v2)]) 0 (#[.int .i64 ((wyC mw md ms mt fx fz tx tz).x1), .int .i64 ((wyC mw md ms mt fx fz tx tz).h1), .int .i64 ((wyC mw md ms mt fx fz tx tz).v1), .int .i64 ((wyC mw md ms mt fx fz tx tz).x2), .int .i64 ((wyC mw md ms mt fx fz tx tz).h2), .int .i64 ((wyC mw md ms mt fx fz tx tz).v2)]) A20 S21 (by kernel_rfl) (by kernel_rfl) rfl (by kernel_rfl) (fun wc S24 => ?_)
  refine wpList_nil ?_
  refine n_then ?_
  refine wp_seq ?_
  refine wp_region_lit ?_
  refine s_one (.agg #[.int .i64 ((wyC mw md ms mt fx fz tx tz).x1), .int .i64 ((wyC mw md ms mt fx fz tx tz).h1), .int .i64 ((wyC mw md ms mt fx fz tx tz).v1), .int .i64 ((wyC mw md ms mt fx fz tx tz).x2), .int .i64 ((wyC mw md ms mt fx fz tx tz).h2), .int .i64 ((wyC mw md ms mt fx fz tx tz).v2)]) A20 S24 (g_load (g := g22) (off := 0) 0 (by kernel_rfl) rfl (by kernel_rfl)) rfl (fun ac A26 => ?_)
  have kk30 := crs_bd (c := (wyC mw md ms mt fx fz tx tz)) ok
  refine s_call (fs := #[]) (cp := #[]) (r := [(0, .agg #[.int .i64 ((wyC mw md ms mt fx fz tx tz).x1), .int .i64 ((wyC mw md ms mt fx fz tx tz).h1), .int .i64 ((wyC mw md ms mt fx fz tx tz).v1), .int .i64 ((wyC mw md ms mt fx fz tx tz).x2), .int .i64 ((wyC mw md ms mt fx fz tx tz).h2), .int .i64 ((wyC mw md ms mt fx fz tx tz).v2)])]) #[.agg #[.int .i64 ((wyC mw md ms mt fx fz tx tz).x1), .int .i64 ((wyC mw md ms mt fx fz tx tz).h1), .int .i64 ((wyC mw md ms mt fx fz tx tz).v1), .int .i64 ((wyC mw md ms mt fx fz tx tz).x2), .int .i64 ((wyC mw md ms mt fx fz tx tz).h2), .int .i64 ((wyC mw md ms mt fx fz tx tz).v2)]] (.int .i64 (crs (wyC mw md ms mt fx fz tx tz))) A26 S24 (refCrossing_s (wyC mw md ms mt fx fz tx tz) _ ok) Try.call23 (by kernel_rfl) (by kernel_rfl) (by kernel_rfl) rfl (fun ac wc A27 S28 => ?_)
  refine s_one (.int .i64 (crs (wyC mw md ms mt fx fz tx tz))) A27 S28 (g_assign (by kernel_rfl)) rfl (fun ac A31 => ?_)
  refine wpList_nil ?_
  refine n_then ?_
  refine wp_seq ?_
  refine wp_region_lit ?_
  refine s_one (.slice none 0 0) A31 S28 (g_assign (by kernel_rfl)) rfl (fun ac A32 => ?_)
  refine wpList_nil ?_
  refine n_then ?_
  refine wp_seq ?_
  refine wp_seq ?_
  refine wp_region_lit ?_
  refine s_one (.int .i64 1) A32 S28 (g_assign (by kernel_rfl)) rfl (fun ac A33 => ?_)
  refine wpList_nil ?_
  refine n_then ?_
  refine wp_block ?_
  have S34 := S28.nilRow 29 2
  refine c_loopN (fun mm ac wc => ∃ (j : Nat) (v : Value), mm = (ms - (j : Int)).toNat ∧ ((j : Int) ≤ ms) ∧ Fr 50 ac [(0, .agg #[.int .i64 mw, .int .i64 md, .int .i64 ms, .int .i64 mt]), (1, .agg #[.int .i64 fx, .int .i64 fz]), (2, .agg #[.int .i64 tx, .int .i64 tz]), (3, .pointer (some ⟨g3, 0, none⟩)), (4, .pointer (some ⟨g7, 0, none⟩)), (5, .pointer (some ⟨g11, 0, none⟩)), (6, .slice none 0 0), (12, .agg #[.int .i64 mw, .int .i64 md, .int .i64 ms, .int .i64 mt]), (13, .agg #[.int .i64 fx, .int .i64 fz]), (14, .agg #[.int .i64 tx, .int .i64 tz]), (15, .agg #[.int .i64 ((wyC mw md ms mt fx fz tx tz).x1), .int .i64 ((wyC mw md ms mt fx fz tx tz).h1), .int .i64 ((wyC mw md ms mt fx fz tx tz).v1), .int .i64 ((wyC mw md ms mt fx fz tx tz).x2), .int .i64 ((wyC mw md ms mt fx fz tx tz).h2), .int .i64 ((wyC mw md ms mt fx fz tx tz).v2)]), (7, .pointer (some ⟨g22, 0, none⟩)), (16, .agg #[.int .i64 ((wyC mw md ms mt fx fz tx tz).x1), .int .i64 ((wyC mw md ms mt fx fz tx tz).h1), .int .i64 ((wyC mw md ms mt fx fz tx tz).v1), .int .i64 ((wyC mw md ms mt fx fz tx tz).x2), .int .i64 ((wyC mw md ms mt fx fz tx tz).h2), .int .i64 ((wyC mw md ms mt fx fz tx tz).v2)]), (17, .int .i64 (crs (wyC mw md ms mt fx fz tx tz))), (8, .int .i64 (crs (wyC mw md ms mt fx fz tx tz))), (10, .int .i64 ((j : Int) + 1)), (9, v)] ∧ St w0 [⟨g22, 23, #[.int .i64 ((wyC mw md ms mt fx fz tx tz).x1), .int .i64 ((wyC mw md ms mt fx fz tx tz).h1), .int .i64 ((wyC mw md ms mt fx fz tx tz).v1), .int .i64 ((wyC mw md ms mt fx fz tx tz).x2), .int .i64 ((wyC mw md ms mt fx fz tx tz).h2), .int .i64 ((wyC mw md ms mt fx fz tx tz).v2)], true⟩, ⟨g11, 41, #[.int .i64 tx, .int .i64 tz], true⟩, ⟨g7, 41, #[.int .i64 fx, .int .i64 fz], true⟩, ⟨g3, 39, #[.int .i64 mw, .int .i64 md, .int .i64 ms, .int .i64 mt], true⟩] [⟨v, 29, 2, j, (rowI (wls mw md ms mt fx fz tx tz j))⟩] wc) _ ⟨0, .slice none 0 0, rfl, by omega, (A33.slot (A33.slot (A33.slot (A33.slot (A33.slot (A33.slot (A33.slot (A33.slot (A33.slot (A33.slot (A33.slot (A33.slot (A33.slot (A33.slot (A33.slot (A33.slot (A33.slot A33.nil (v := .slice none 0 0) (by kernel_rfl) (by first | rfl | simp)) (v := .int .i64 1) (by kernel_rfl) (congrArg (Value.int .i64) (by omega))) (v := .int .i64 (crs (wyC mw md ms mt fx fz tx tz))) (by kernel_rfl) rfl) (v := .int .i64 (crs (wyC mw md ms mt fx fz tx tz))) (by kernel_rfl) rfl) (v := .agg #[.int .i64 ((wyC mw md ms mt fx fz tx tz).x1), .int .i64 ((wyC mw md ms mt fx fz tx tz).h1), .int .i64 ((wyC mw md ms mt fx fz tx tz).v1), .int .i64 ((wyC mw md ms mt fx fz tx tz).x2), .int .i64 ((wyC mw md ms mt fx fz tx tz).h2), .int .i64 ((wyC mw md ms mt fx fz tx tz).v2)]) (by kernel_rfl) rfl) (v := .pointer (some ⟨g22, 0, none⟩)) (by kernel_rfl) rfl) (v := .agg #[.int .i64 ((wyC mw md ms mt fx fz tx tz).x1), .int .i64 ((wyC mw md ms mt fx fz tx tz).h1), .int .i64 ((wyC mw md ms mt fx fz tx tz).v1), .int .i64 ((wyC mw md ms mt fx fz tx tz).x2), .int .i64 ((wyC mw md ms mt fx fz tx tz).h2), .int .i64 ((wyC mw md ms mt fx fz tx tz).v2)]) (by kernel_rfl) rfl) (v := .agg #[.int .i64 tx, .int .i64 tz]) (by kernel_rfl) rfl) (v := .agg #[.int .i64 fx, .int .i64 fz]) (by kernel_rfl) rfl) (v := .agg #[.int .i64 mw, .int .i64 md, .int .i64 ms, .int .i64 mt]) (by kernel_rfl) rfl) (v := .slice none 0 0) (by kernel_rfl) rfl) (v := .pointer (some ⟨g11, 0, none⟩)) (by kernel_rfl) rfl) (v := .pointer (some ⟨g7, 0, none⟩)) (by kernel_rfl) rfl) (v := .pointer (some ⟨g3, 0, none⟩)) (by kernel_rfl) rfl) (v := .agg #[.int .i64 tx, .int .i64 tz]) (by kernel_rfl) rfl) (v := .agg #[.int .i64 fx, .int .i64 fz]) (by kernel_rfl) rfl) (v := .agg #[.int .i64 mw, .int .i64 md, .int .i64 ms, .int .i64 mt]) (by kernel_rfl) rfl), (St.rerow 0 S34 rfl ⟨rfl, rfl⟩).sub sub_all sub_all⟩ ?_
  rintro mm ac wc ⟨j, v, hm37, hj, A35, S36⟩
  refine wp_seq ?_
  refine wp_seq ?_
  refine wp_region_lit ?_
  refine s_one (.int .i64 ((j : Int) + 1)) A35 S36 (g_move (by kernel_rfl)) rfl (fun ac A38 => ?_)
  refine s_one (.pointer (some ⟨g3, 2, none⟩)) A38 S36 (g_field (u := .pointer (some ⟨g3, 0, none⟩)) (by kernel_rfl) (fun _ => by kernel_rfl)) rfl (fun ac A39 => ?_)
  refine s_one (.int .i64 ms) A39 S36 (g_load (g := g3) (off := 2) 3 (by kernel_rfl) rfl (by kernel_rfl)) rfl (fun ac A40 => ?_)
  refine s_one (.bool (decide ((j : Int) + 1 ≤ ms))) A40 S36 (g_bin (u := .int .i64 ((j : Int) + 1)) (k := .int .i64 ms) (by kernel_rfl) (by kernel_rfl) (fun _ => by kernel_rfl) (fun _ => by kernel_rfl)) rfl (fun ac A41 => ?_)
  refine wpList_nil ?_
  refine n_then ?_
  refine c_ifb (b := (decide ((j : Int) + 1 ≤ ms))) A41 (by kernel_rfl) (fun h42 => ?_) (fun h42 => ?_)
  · have p43 := of_decide_eq_true h42
    have wb := wl_bd (k := crs (wyC mw md ms mt fx fz tx tz)) (x := (wyC mw md ms mt fx fz tx tz).x2) (h := (wyC mw md ms mt fx fz tx tz).h2) (mt := mt) (j := (j : Int) + 1) (by omega) (by omega) (by omega) (by omega) (by omega)
    have we := ed_up (n := ((wyC mw md ms mt fx fz tx tz).x2 - crs (wyC mw md ms mt fx fz tx tz)) * ((j : Int) + 1) * mt) (h := (wyC mw md ms mt fx fz tx tz).h2) (A := 16000000000) (by omega) (by omega) (by omega) (by omega)
    have we2 := ed_up (n := crs (wyC mw md ms mt fx fz tx tz) * (wyC mw md ms mt fx fz tx tz).h2 + ((wyC mw md ms mt fx fz tx tz).x2 - crs (wyC mw md ms mt fx fz tx tz)) * ((j : Int) + 1) * mt) (h := (wyC mw md ms mt fx fz tx tz).h2) (A := 26000000000) (by omega) (by omega) (by omega) (by omega)
    refine wp_skip ?_
    refine n_then ?_
    refine wp_seq ?_
    refine wp_block ?_
    refine wp_seq ?_
    refine wp_region_lit ?_
    refine s_one (.pointer (some ⟨g22, 3, none⟩)) A41 S36 (g_field (u := .pointer (some ⟨g22, 0, none⟩)) (by kernel_rfl) (fun _ => by kernel_rfl)) rfl (fun ac A44 => ?_)
    refine s_one (.int .i64 ((wyC mw md ms mt fx fz tx tz).x2)) A44 S36 (g_load (g := g22) (off := 3) 0 (by kernel_rfl) rfl (by kernel_rfl)) rfl (fun ac A45 => ?_)
    refine s_one (.int .i64 (crs (wyC mw md ms mt fx fz tx tz))) A45 S36 (g_move (by kernel_rfl)) rfl (fun ac A46 => ?_)
    refine s_one (.int .i64 ((wyC mw md ms mt fx fz tx tz).x2 - (crs (wyC mw md ms mt fx fz tx tz)))) A46 S36 (g_bin (u := .int .i64 ((wyC mw md ms mt fx fz tx tz).x2)) (k := .int .i64 (crs (wyC mw md ms mt fx fz tx tz))) (by kernel_rfl) (by kernel_rfl) (fun _ => by kernel_rfl) (b_sub (by omega))) rfl (fun ac A47 => ?_)
    refine s_one (.int .i64 ((j : Int) + 1)) A47 S36 (g_move (by kernel_rfl)) rfl (fun ac A48 => ?_)
    refine s_one (.int .i64 (((wyC mw md ms mt fx fz tx tz).x2 - (crs (wyC mw md ms mt fx fz tx tz))) * ((j : Int) + 1))) A48 S36 (g_bin (u := .int .i64 ((wyC mw md ms mt fx fz tx tz).x2 - (crs (wyC mw md ms mt fx fz tx tz)))) (k := .int .i64 ((j : Int) + 1)) (by kernel_rfl) (by kernel_rfl) (fun _ => by kernel_rfl) (b_mul (by omega))) rfl (fun ac A49 => ?_)
    refine s_one (.pointer (some ⟨g3, 3, none⟩)) A49 S36 (g_field (u := .pointer (some ⟨g3, 0, none⟩)) (by kernel_rfl) (fun _ => by kernel_rfl)) rfl (fun ac A50 => ?_)
    refine s_one (.int .i64 mt) A50 S36 (g_load (g := g3) (off := 3) 3 (by kernel_rfl) rfl (by kernel_rfl)) rfl (fun ac A51 => ?_)
    refine s_one (.int .i64 ((((wyC mw md ms mt fx fz tx tz).x2 - (crs (wyC mw md ms mt fx fz tx tz))) * ((j : Int) + 1)) * mt)) A51 S36 (g_bin (u := .int .i64 (((wyC mw md ms mt fx fz tx tz).x2 - (crs (wyC mw md ms mt fx fz tx tz))) * ((j : Int) + 1))) (k := .int .i64 mt) (by kernel_rfl) (by kernel_rfl) (fun _ => by kernel_rfl) (b_mul (by omega))) rfl (fun ac A52 => ?_)
    refine s_one (.int .i64 ((((wyC mw md ms mt fx fz tx tz).x2 - (crs (wyC mw md ms mt fx fz tx tz))) * ((j : Int) + 1)) * mt)) A52 S36 (g_assign (by kernel_rfl)) rfl (fun ac A53 => ?_)
    refine wpList_nil ?_
    refine n_then ?_
    refine r_begin (w0 := w0) (by kernel_rfl) (S36.sub sub_all sub_nil) (fun wc T54 B55 => ?_)
    have S56 := S36.kept B55
    refine r_take 0 (v) A53 T54 (g_move (by kernel_rfl)) rfl rfl rfl (pf_block (pf_then (pf_then (pf_block (pf_then pf_body))))) (by kernel_rfl) (fun ac A57 => ?_)
    refine r_take 1 (.int .i64 (crs (wyC mw md ms mt fx fz tx tz))) A57 T54 (g_move (by kernel_rfl)) rfl rfl rfl (pf_block (pf_then (pf_then (pf_block (pf_then pf_body))))) (by kernel_rfl) (fun ac A58 => ?_)
    refine r_take 2 (.int .i64 ((((wyC mw md ms mt fx fz tx tz).x2 - (crs (wyC mw md ms mt fx fz tx tz))) * ((j : Int) + 1)) * mt)) A58 T54 (g_move (by kernel_rfl)) rfl rfl rfl (pf_block (pf_then (pf_then (pf_block (pf_then pf_body))))) (by kernel_rfl) (fun ac A59 => ?_)
    refine r_take 3 (.pointer (some ⟨g22, 4, none⟩)) A59 T54 (g_field (u := .pointer (some ⟨g22, 0, none⟩)) (by kernel_rfl) (fun _ => by kernel_rfl)) rfl rfl rfl (pf_block (pf_then (pf_then (pf_block (pf_then pf_body))))) (by kernel_rfl) (fun ac A60 => ?_)
    refine r_take 4 (.int .i64 ((wyC mw md ms mt fx fz tx tz).h2)) A60 T54 (g_load (g := g22) (off := 4) 0 (by kernel_rfl) rfl (by kernel_rfl)) rfl rfl rfl (pf_block (pf_then (pf_then (pf_block (pf_then pf_body))))) (by kernel_rfl) (fun ac A61 => ?_)
    refine r_take 7 (.int .i64 (crs (wyC mw md ms mt fx fz tx tz))) A61 T54 (g_move (by kernel_rfl)) rfl rfl rfl (pf_block (pf_then (pf_then (pf_block (pf_then pf_body))))) (by kernel_rfl) (fun ac A62 => ?_)
    refine r_take 8 (.int .i64 ((((wyC mw md ms mt fx fz tx tz).x2 - (crs (wyC mw md ms mt fx fz tx tz))) * ((j : Int) + 1)) * mt)) A62 T54 (g_move (by kernel_rfl)) rfl rfl rfl (pf_block (pf_then (pf_then (pf_block (pf_then pf_body))))) (by kernel_rfl) (fun ac A63 => ?_)
    refine r_take 9 (.pointer (some ⟨g22, 4, none⟩)) A63 T54 (g_field (u := .pointer (some ⟨g22, 0, none⟩)) (by kernel_rfl) (fun _ => by kernel_rfl)) rfl rfl rfl (pf_block (pf_then (pf_then (pf_block (pf_then pf_body))))) (by kernel_rfl) (fun ac A64 => ?_)
    refine r_take 10 (.int .i64 ((wyC mw md ms mt fx fz tx tz).h2)) A64 T54 (g_load (g := g22) (off := 4) 0 (by kernel_rfl) rfl (by kernel_rfl)) rfl rfl rfl (pf_block (pf_then (pf_then (pf_block (pf_then pf_body))))) (by kernel_rfl) (fun ac A65 => ?_)
    refine r_1 (i := 5) (by kernel_rfl) ?_
    refine rs_call (fs := #[]) (cp := #[]) (r := [(0, .int .i64 ((((wyC mw md ms mt fx fz tx tz).x2 - (crs (wyC mw md ms mt fx fz tx tz))) * ((j : Int) + 1)) * mt)), (0, .int .i64 ((wyC mw md ms mt fx fz tx tz).h2))]) #[.int .i64 ((((wyC mw md ms mt fx fz tx tz).x2 - (crs (wyC mw md ms mt fx fz tx tz))) * ((j : Int) + 1)) * mt), .int .i64 ((wyC mw md ms mt fx fz tx tz).h2)] (.int .i64 (((((wyC mw md ms mt fx fz tx tz).x2 - (crs (wyC mw md ms mt fx fz tx tz))) * ((j : Int) + 1)) * mt) / ((wyC mw md ms mt fx fz tx tz).h2))) A65 S56 sub_all sub_nil (Floor_s ((((wyC mw md ms mt fx fz tx tz).x2 - (crs (wyC mw md ms mt fx fz tx tz))) * ((j : Int) + 1)) * mt) ((wyC mw md ms mt fx fz tx tz).h2) _ (by omega) (by omega) (by omega)) Try.call80 rfl rfl (by kernel_rfl) (by kernel_rfl) (by kernel_rfl) rfl (fun ac wc A66 S67 => ?_)
    have T69 := S67.sub sub_all sub_nil
    refine r_take 6 (.int .i64 (crs (wyC mw md ms mt fx fz tx tz) + (((((wyC mw md ms mt fx fz tx tz).x2 - (crs (wyC mw md ms mt fx fz tx tz))) * ((j : Int) + 1)) * mt) / ((wyC mw md ms mt fx fz tx tz).h2)))) A66 T69 (g_bin (u := .int .i64 (crs (wyC mw md ms mt fx fz tx tz))) (k := .int .i64 (((((wyC mw md ms mt fx fz tx tz).x2 - (crs (wyC mw md ms mt fx fz tx tz))) * ((j : Int) + 1)) * mt) / ((wyC mw md ms mt fx fz tx tz).h2))) (by kernel_rfl) (by kernel_rfl) (fun _ => by kernel_rfl) (b_add (by omega))) rfl rfl rfl (pf_block (pf_then (pf_then (pf_block (pf_then pf_body))))) (by kernel_rfl) (fun ac A70 => ?_)
    refine r_1 (i := 11) (by kernel_rfl) ?_
    refine rs_call (fs := #[]) (cp := #[]) (r := [(0, .int .i64 ((((wyC mw md ms mt fx fz tx tz).x2 - (crs (wyC mw md ms mt fx fz tx tz))) * ((j : Int) + 1)) * mt)), (0, .int .i64 ((wyC mw md ms mt fx fz tx tz).h2))]) #[.int .i64 ((((wyC mw md ms mt fx fz tx tz).x2 - (crs (wyC mw md ms mt fx fz tx tz))) * ((j : Int) + 1)) * mt), .int .i64 ((wyC mw md ms mt fx fz tx tz).h2)] (.int .i64 (upD ((((wyC mw md ms mt fx fz tx tz).x2 - (crs (wyC mw md ms mt fx fz tx tz))) * ((j : Int) + 1)) * mt) ((wyC mw md ms mt fx fz tx tz).h2))) A70 S67 sub_all sub_nil (Ceil_s ((((wyC mw md ms mt fx fz tx tz).x2 - (crs (wyC mw md ms mt fx fz tx tz))) * ((j : Int) + 1)) * mt) ((wyC mw md ms mt fx fz tx tz).h2) _ (by omega) (by omega) (by omega)) Try.call81 rfl rfl (by kernel_rfl) (by kernel_rfl) (by kernel_rfl) rfl (fun ac wc A71 S72 => ?_)
    have T74 := S72.sub sub_all sub_nil
    refine r_take 12 (.int .i64 (crs (wyC mw md ms mt fx fz tx tz) + (upD ((((wyC mw md ms mt fx fz tx tz).x2 - (crs (wyC mw md ms mt fx fz tx tz))) * ((j : Int) + 1)) * mt) ((wyC mw md ms mt fx fz tx tz).h2)))) A71 T74 (g_bin (u := .int .i64 (crs (wyC mw md ms mt fx fz tx tz))) (k := .int .i64 (upD ((((wyC mw md ms mt fx fz tx tz).x2 - (crs (wyC mw md ms mt fx fz tx tz))) * ((j : Int) + 1)) * mt) ((wyC mw md ms mt fx fz tx tz).h2))) (by kernel_rfl) (by kernel_rfl) (fun _ => by kernel_rfl) (b_add (by omega))) rfl rfl rfl (pf_block (pf_then (pf_then (pf_block (pf_then pf_body))))) (by kernel_rfl) (fun ac A75 => ?_)
    refine r_take 13 (.agg #[.int .i64 (crs (wyC mw md ms mt fx fz tx tz) + (((((wyC mw md ms mt fx fz tx tz).x2 - (crs (wyC mw md ms mt fx fz tx tz))) * ((j : Int) + 1)) * mt) / ((wyC mw md ms mt fx fz tx tz).h2))), .int .i64 (crs (wyC mw md ms mt fx fz tx tz) + (upD ((((wyC mw md ms mt fx fz tx tz).x2 - (crs (wyC mw md ms mt fx fz tx tz))) * ((j : Int) + 1)) * mt) ((wyC mw md ms mt fx fz tx tz).h2)))]) A75 T74 (g_build (r := [(0, .int .i64 (crs (wyC mw md ms mt fx fz tx tz) + (((((wyC mw md ms mt fx fz tx tz).x2 - (crs (wyC mw md ms mt fx fz tx tz))) * ((j : Int) + 1)) * mt) / ((wyC mw md ms mt fx fz tx tz).h2)))), (1, .int .i64 (crs (wyC mw md ms mt fx fz tx tz) + (upD ((((wyC mw md ms mt fx fz tx tz).x2 - (crs (wyC mw md ms mt fx fz tx tz))) * ((j : Int) + 1)) * mt) ((wyC mw md ms mt fx fz tx tz).h2))))]) (by kernel_rfl) (fun _ => by kernel_rfl)) rfl rfl rfl (pf_block (pf_then (pf_then (pf_block (pf_then pf_body))))) (by kernel_rfl) (fun ac A76 => ?_)
    refine r_1 (i := 14) (by kernel_rfl) ?_
    refine rs_bs (e := 29) (r := [(0, .agg #[.int .i64 (crs (wyC mw md ms mt fx fz tx tz) + (((((wyC mw md ms mt fx fz tx tz).x2 - (crs (wyC mw md ms mt fx fz tx tz))) * ((j : Int) + 1)) * mt) / ((wyC mw md ms mt fx fz tx tz).h2))), .int .i64 (crs (wyC mw md ms mt fx fz tx tz) + (upD ((((wyC mw md ms mt fx fz tx tz).x2 - (crs (wyC mw md ms mt fx fz tx tz))) * ((j : Int) + 1)) * mt) ((wyC mw md ms mt fx fz tx tz).h2)))])]) (#[.int .i64 (crs (wyC mw md ms mt fx fz tx tz) + (((((wyC mw md ms mt fx fz tx tz).x2 - (crs (wyC mw md ms mt fx fz tx tz))) * ((j : Int) + 1)) * mt) / ((wyC mw md ms mt fx fz tx tz).h2))), .int .i64 (crs (wyC mw md ms mt fx fz tx tz) + (upD ((((wyC mw md ms mt fx fz tx tz).x2 - (crs (wyC mw md ms mt fx fz tx tz))) * ((j : Int) + 1)) * mt) ((wyC mw md ms mt fx fz tx tz).h2)))]) A76 S72 sub_all sub_nil (by kernel_rfl) (by kernel_rfl) rfl rfl rfl (fun g79 ac wc A77 S78 => ?_)
    have T80 := S78.sub (sub_skip sub_all) sub_nil
    refine r_1 (i := 15) (by kernel_rfl) ?_
    refine rs_append (e := 29) (size := 2) (bytes := 16) (v := v) (g := g79) (m' := 1) (c := 1) 0 0 [.int .i64 (crs (wyC mw md ms mt fx fz tx tz) + (((((wyC mw md ms mt fx fz tx tz).x2 - (crs (wyC mw md ms mt fx fz tx tz))) * ((j : Int) + 1)) * mt) / ((wyC mw md ms mt fx fz tx tz).h2))), .int .i64 (crs (wyC mw md ms mt fx fz tx tz) + (upD ((((wyC mw md ms mt fx fz tx tz).x2 - (crs (wyC mw md ms mt fx fz tx tz))) * ((j : Int) + 1)) * mt) ((wyC mw md ms mt fx fz tx tz).h2)))] A77 S78 (sub_skip sub_all) (fun _ => sub_nil) (by kernel_rfl) (by kernel_rfl) (by kernel_rfl) rfl rfl (by kernel_rfl) rfl (by kernel_rfl) (by omega) (by omega) rfl rfl rfl (fun v85 ac wc A81 S82 => ?_)
    have T84 := S82.sub (sub_skip sub_all) sub_nil
    refine r_take 16 (v85) A81 T84 (g_assign (by kernel_rfl)) rfl rfl rfl (pf_block (pf_then (pf_then (pf_block (pf_then pf_body))))) (by kernel_rfl) (fun ac A86 => ?_)
    refine r_done (by kernel_rfl) ?_
    refine n_block ?_
    refine n_then ?_
    refine wp_region_lit ?_
    refine s_one (.int .i64 ((j : Int) + 1)) A86 S82 (g_move (by kernel_rfl)) rfl (fun ac A87 => ?_)
    refine s_one (.int .i64 ((j : Int) + 1 + 1)) A87 S82 (g_bin (u := .int .i64 ((j : Int) + 1)) (k := .int .i64 1) (by kernel_rfl) (by kernel_rfl) (fun _ => by kernel_rfl) (b_add (by omega))) rfl (fun ac A88 => ?_)
    refine s_one (.int .i64 ((j : Int) + 1 + 1)) A88 S82 (g_assign (by kernel_rfl)) rfl (fun ac A89 => ?_)
    refine wpList_nil ?_
    refine n_then ?_
    refine ⟨_, ⟨j + 1, v85, rfl, by omega, (A89.slot (A89.slot (A89.slot (A89.slot (A89.slot (A89.slot (A89.slot (A89.slot (A89.slot (A89.slot (A89.slot (A89.slot (A89.slot (A89.slot (A89.slot (A89.slot (A89.slot A89.nil (v := v85) (by kernel_rfl) rfl) (v := .int .i64 ((j : Int) + 1 + 1)) (by kernel_rfl) (congrArg (Value.int .i64) (by omega))) (v := .int .i64 (crs (wyC mw md ms mt fx fz tx tz))) (by kernel_rfl) rfl) (v := .int .i64 (crs (wyC mw md ms mt fx fz tx tz))) (by kernel_rfl) rfl) (v := .agg #[.int .i64 ((wyC mw md ms mt fx fz tx tz).x1), .int .i64 ((wyC mw md ms mt fx fz tx tz).h1), .int .i64 ((wyC mw md ms mt fx fz tx tz).v1), .int .i64 ((wyC mw md ms mt fx fz tx tz).x2), .int .i64 ((wyC mw md ms mt fx fz tx tz).h2), .int .i64 ((wyC mw md ms mt fx fz tx tz).v2)]) (by kernel_rfl) rfl) (v := .pointer (some ⟨g22, 0, none⟩)) (by kernel_rfl) rfl) (v := .agg #[.int .i64 ((wyC mw md ms mt fx fz tx tz).x1), .int .i64 ((wyC mw md ms mt fx fz tx tz).h1), .int .i64 ((wyC mw md ms mt fx fz tx tz).v1), .int .i64 ((wyC mw md ms mt fx fz tx tz).x2), .int .i64 ((wyC mw md ms mt fx fz tx tz).h2), .int .i64 ((wyC mw md ms mt fx fz tx tz).v2)]) (by kernel_rfl) rfl) (v := .agg #[.int .i64 tx, .int .i64 tz]) (by kernel_rfl) rfl) (v := .agg #[.int .i64 fx, .int .i64 fz]) (by kernel_rfl) rfl) (v := .agg #[.int .i64 mw, .int .i64 md, .int .i64 ms, .int .i64 mt]) (by kernel_rfl) rfl) (v := .slice none 0 0) (by kernel_rfl) rfl) (v := .pointer (some ⟨g11, 0, none⟩)) (by kernel_rfl) rfl) (v := .pointer (some ⟨g7, 0, none⟩)) (by kernel_rfl) rfl) (v := .pointer (some ⟨g3, 0, none⟩)) (by kernel_rfl) rfl) (v := .agg #[.int .i64 tx, .int .i64 tz]) (by kernel_rfl) rfl) (v := .agg #[.int .i64 fx, .int .i64 fz]) (by kernel_rfl) rfl) (v := .agg #[.int .i64 mw, .int .i64 md, .int .i64 ms, .int .i64 mt]) (by kernel_rfl) rfl), (St.rerow 0 S82 rfl ⟨rfl, wls_r _ _ _ _ _ _ _ _ _⟩).sub (sub_skip sub_all) sub_all⟩, ?_⟩
    omega
  · have p90 := of_decide_eq_false h42
    refine wp_exit ?_
    refine x_then ?_
    refine x_then ?_
    refine x_hit ?_
    refine n_then ?_
    refine wp_seq ?_
    refine wp_region_lit ?_
    refine s_one (v) A41 S36 (g_move (by kernel_rfl)) rfl (fun ac A91 => ?_)
    refine s_one (v) A91 S36 (g_assign (by kernel_rfl)) rfl (fun ac A92 => ?_)
    refine wpList_nil ?_
    refine n_then ?_
    refine wp_ret ?_
    refine finR 0 (v) Try.results55 A92 S36 (by kernel_rfl) rfl (fun w2 bw ow => ?_)
    rw [show ms.toNat = j by omega]
    exact ⟨_, rfl, bw, ow⟩

set_option maxRecDepth 100000 in
set_option maxHeartbeats 400000 in
theorem Ranges_s (l : List Int) (A B : Option Addr) (c d n : Nat) (w0 : World) (hn : l.length = n * 2) (hr1 : IReads w0 A l) (hr2 : IReads w0 B l) (hm : n ≤ 1000) :
    Calls Try.prog 54 #[.slice A n c, .slice B n d] w0 fun e w' => e = .returned (.bool true) ∧ Below w0.heap.size w0 w' := by
  have S0 := St.start w0
  refine enter (n := 26) Try.func54 rfl rfl rfl (fun ac A0 => ?_)
  refine wp_seq ?_
  refine wp_region_lit ?_
  refine s_one (.bool false) A0 S0 (g_assign (by kernel_rfl)) rfl (fun ac A1 => ?_)
  refine wpList_nil ?_
  refine n_then ?_
  refine wp_seq ?_
  refine wp_seq ?_
  refine wp_region_lit ?_
  refine s_one (.slice A n c) A1 S0 (g_move (by kernel_rfl)) rfl (fun ac A2 => ?_)
  refine s_one (.int .i64 (n : Int)) A2 S0 (g_built (r := [(0, .slice A n c)]) (by kernel_rfl) (fun _ _ _ => by kernel_rfl)) rfl (fun ac A3 => ?_)
  refine s_one (.slice B n d) A3 S0 (g_move (by kernel_rfl)) rfl (fun ac A4 => ?_)
  refine s_one (.int .i64 (n : Int)) A4 S0 (g_built (r := [(0, .slice B n d)]) (by kernel_rfl) (fun _ _ _ => by kernel_rfl)) rfl (fun ac A5 => ?_)
  refine s_one (.bool (decide ((n : Int) ≠ (n : Int)))) A5 S0 (g_bin (u := .int .i64 (n : Int)) (k := .int .i64 (n : Int)) (by kernel_rfl) (by kernel_rfl) (fun _ => by kernel_rfl) b_neq) rfl (fun ac A6 => ?_)
  refine wpList_nil ?_
  refine n_then ?_
  refine c_f (b := (decide ((n : Int) ≠ (n : Int)))) A6 (by kernel_rfl) (decide_eq_false (fun h => h rfl)) ?_
  refine wp_skip ?_
  refine n_then ?_
  refine wp_seq ?_
  refine wp_seq ?_
  refine wp_region_lit ?_
  refine s_one (.int .i64 0) A6 S0 (g_assign (by kernel_rfl)) rfl (fun ac A7 => ?_)
  refine wpList_nil ?_
  refine n_then ?_
  refine wp_block ?_
  refine c_loopN (fun mm ac wc => ∃ (k : Nat), mm = n - k ∧ (k ≤ n) ∧ Fr 26 ac [(0, .slice A n c), (1, .slice B n d), (6, .slice A n c), (7, .int .i64 (n : Int)), (8, .slice B n d), (9, .int .i64 (n : Int)), (10, .bool (decide ((n : Int) ≠ (n : Int)))), (5, .int .i64 (k : Int))] ∧ St w0 [] [] wc) _ ⟨0, rfl, by omega, (A7.slot (A7.slot (A7.slot (A7.slot (A7.slot (A7.slot (A7.slot (A7.slot A7.nil (v := .int .i64 0) (by kernel_rfl) (congrArg (Value.int .i64) (by omega))) (v := .bool (decide ((n : Int) ≠ (n : Int)))) (by kernel_rfl) rfl) (v := .int .i64 (n : Int)) (by kernel_rfl) rfl) (v := .slice B n d) (by kernel_rfl) rfl) (v := .int .i64 (n : Int)) (by kernel_rfl) rfl) (v := .slice A n c) (by kernel_rfl) rfl) (v := .slice B n d) (by kernel_rfl) rfl) (v := .slice A n c) (by kernel_rfl) rfl), S0.sub sub_all sub_all⟩ ?_
  rintro mm ac wc ⟨k, hm10, hk, A8, S9⟩
  refine wp_seq ?_
  refine wp_seq ?_
  refine wp_region_lit ?_
  refine s_one (.int .i64 (k : Int)) A8 S9 (g_move (by kernel_rfl)) rfl (fun ac A11 => ?_)
  refine s_one (.slice A n c) A11 S9 (g_move (by kernel_rfl)) rfl (fun ac A12 => ?_)
  refine s_one (.int .i64 (n : Int)) A12 S9 (g_built (r := [(0, .slice A n c)]) (by kernel_rfl) (fun _ _ _ => by kernel_rfl)) rfl (fun ac A13 => ?_)
  refine s_one (.bool (decide ((k : Int) < (n : Int)))) A13 S9 (g_bin (u := .int .i64 (k : Int)) (k := .int .i64 (n : Int)) (by kernel_rfl) (by kernel_rfl) (fun _ => by kernel_rfl) (fun _ => by kernel_rfl)) rfl (fun ac A14 => ?_)
  refine wpList_nil ?_
  refine n_then ?_
  refine c_ifb (b := (decide ((k : Int) < (n : Int)))) A14 (by kernel_rfl) (fun h15 => ?_) (fun h15 => ?_)
  · have p16 := of_decide_eq_true h15
    refine wp_skip ?_
    refine n_then ?_
    refine wp_seq ?_
    refine wp_block ?_
    refine wp_seq ?_
    refine r_begin (w0 := w0) (by kernel_rfl) (S9.sub sub_all sub_all) (fun wc T17 B18 => ?_)
    have S19 := S9.kept B18
    refine r_take 0 (.slice A n c) A14 T17 (g_move (by kernel_rfl)) rfl rfl rfl (pf_then (pf_block (pf_then (pf_then (pf_block (pf_then pf_body)))))) (by kernel_rfl) (fun ac A20 => ?_)
    refine r_take 1 (.int .i64 (k : Int)) A20 T17 (g_move (by kernel_rfl)) rfl rfl rfl (pf_then (pf_block (pf_then (pf_then (pf_block (pf_then pf_body)))))) (by kernel_rfl) (fun ac A21 => ?_)
    obtain ⟨ad22, rfl, _⟩ := hr1 (k * 2) (by have hlen := hn; omega)
    refine r_take 2 (.pointer (some (ad22.add (k * 2)))) A21 T17 (g_index (u := .slice (some ad22) n c) (k := .int .i64 (k : Int)) (by kernel_rfl) (by kernel_rfl) (ix_xs (e := 29) (bytes := 16) k (by kernel_rfl) (by omega) (by omega))) rfl rfl rfl (pf_then (pf_block (pf_then (pf_then (pf_block (pf_then pf_body)))))) (by kernel_rfl) (fun ac A23 => ?_)
    refine r_take 3 (.agg #[.int .i64 (nthI l (k * 2)), .int .i64 (nthI l (k * 2 + 1))]) A23 T17 (g_loadXS (l := l) (k := k * 2) 2 (by kernel_rfl) hr1 (by have hlen := hn; omega) (by kernel_rfl) (by kernel_rfl)) rfl rfl rfl (pf_then (pf_block (pf_then (pf_then (pf_block (pf_then pf_body)))))) (by kernel_rfl) (fun ac A24 => ?_)
    refine r_take 4 (.slice B n d) A24 T17 (g_move (by kernel_rfl)) rfl rfl rfl (pf_then (pf_block (pf_then (pf_then (pf_block (pf_then pf_body)))))) (by kernel_rfl) (fun ac A25 => ?_)
    refine r_take 5 (.int .i64 (k : Int)) A25 T17 (g_move (by kernel_rfl)) rfl rfl rfl (pf_then (pf_block (pf_then (pf_then (pf_block (pf_then pf_body)))))) (by kernel_rfl) (fun ac A26 => ?_)
    obtain ⟨ad27, rfl, _⟩ := hr2 (k * 2) (by have hlen := hn; omega)
    refine r_take 6 (.pointer (some (ad27.add (k * 2)))) A26 T17 (g_index (u := .slice (some ad27) n d) (k := .int .i64 (k : Int)) (by kernel_rfl) (by kernel_rfl) (ix_xs (e := 29) (bytes := 16) k (by kernel_rfl) (by omega) (by omega))) rfl rfl rfl (pf_then (pf_block (pf_then (pf_then (pf_block (pf_then pf_body)))))) (by kernel_rfl) (fun ac A28 => ?_)
    refine r_take 7 (.agg #[.int .i64 (nthI l (k * 2)), .int .i64 (nthI l (k * 2 + 1))]) A28 T17 (g_loadXS (l := l) (k := k * 2) 2 (by kernel_rfl) hr2 (by have hlen := hn; omega) (by kernel_rfl) (by kernel_rfl)) rfl rfl rfl (pf_then (pf_block (pf_then (pf_then (pf_block (pf_then pf_body)))))) (by kernel_rfl) (fun ac A29 => ?_)
    refine r_take 8 (.bool (decide ([nthI l (k * 2), nthI l (k * 2 + 1)] ≠ [nthI l (k * 2), nthI l (k * 2 + 1)]))) A29 T17 (g_bin (u := .agg #[.int .i64 (nthI l (k * 2)), .int .i64 (nthI l (k * 2 + 1))]) (k := .agg #[.int .i64 (nthI l (k * 2)), .int .i64 (nthI l (k * 2 + 1))]) (by kernel_rfl) (by kernel_rfl) (fun _ => by kernel_rfl) (q_structN (n := 2) [nthI l (k * 2), nthI l (k * 2 + 1)] [nthI l (k * 2), nthI l (k * 2 + 1)] (by kernel_rfl) rfl rfl)) rfl rfl rfl (pf_then (pf_block (pf_then (pf_then (pf_block (pf_then pf_body)))))) (by kernel_rfl) (fun ac A30 => ?_)
    refine r_done (by kernel_rfl) ?_
    refine n_then ?_
    refine c_f (b := (decide ([nthI l (k * 2), nthI l (k * 2 + 1)] ≠ [nthI l (k * 2), nthI l (k * 2 + 1)]))) A30 (by kernel_rfl) (decide_eq_false (fun h => h rfl)) ?_
    refine wp_skip ?_
    refine n_block ?_
    refine n_then ?_
    refine wp_region_lit ?_
    refine s_one (.int .i64 (k : Int)) A30 S19 (g_move (by kernel_rfl)) rfl (fun ac A31 => ?_)
    refine s_one (.int .i64 ((k : Int) + 1)) A31 S19 (g_bin (u := .int .i64 (k : Int)) (k := .int .i64 1) (by kernel_rfl) (by kernel_rfl) (fun _ => by kernel_rfl) (b_add (by omega))) rfl (fun ac A32 => ?_)
    refine s_one (.int .i64 ((k : Int) + 1)) A32 S19 (g_assign (by kernel_rfl)) rfl (fun ac A33 => ?_)
    refine wpList_nil ?_
    refine n_then ?_
    refine ⟨_, ⟨k + 1, rfl, by omega, (A33.slot (A33.slot (A33.slot (A33.slot (A33.slot (A33.slot (A33.slot (A33.slot A33.nil (v := .int .i64 ((k : Int) + 1)) (by kernel_rfl) (congrArg (Value.int .i64) (by omega))) (v := .bool (decide ((n : Int) ≠ (n : Int)))) (by kernel_rfl) rfl) (v := .int .i64 (n : Int)) (by kernel_rfl) rfl) (v := .slice (some ad27) n d) (by kernel_rfl) (by first | rfl | simp)) (v := .int .i64 (n : Int)) (by kernel_rfl) rfl) (v := .slice (some ad22) n c) (by kernel_rfl) (by first | rfl | simp)) (v := .slice (some ad27) n d) (by kernel_rfl) (by first | rfl | simp)) (v := .slice (some ad22) n c) (by kernel_rfl) (by first | rfl | simp)), S19.sub sub_all sub_all⟩, ?_⟩
    omega
  · have p34 := of_decide_eq_false h15
    refine wp_exit ?_
    refine x_then ?_
    refine x_then ?_
    refine x_hit ?_
    refine n_then ?_
    refine wp_seq ?_
    refine wp_region_lit ?_
    refine s_one (.bool true) A14 S9 (g_assign (by kernel_rfl)) rfl (fun ac A35 => ?_)
    refine wpList_nil ?_
    refine n_then ?_
    refine wp_ret ?_
    refine fin1 (.bool true) Try.results54 A35 S9 (rv_tmp (by kernel_rfl)) ⟨?_, S9.kp⟩
    rfl

set_option maxRecDepth 100000 in
set_option maxHeartbeats 400000 in
theorem Ints_s (l : List Int) (A B : Option Addr) (c d n : Nat) (w0 : World) (hn : l.length = n * 1) (hr1 : IReads w0 A l) (hr2 : IReads w0 B l) (hm : n ≤ 1000) :
    Calls Try.prog 74 #[.slice A n c, .slice B n d] w0 fun e w' => e = .returned (.bool true) ∧ Below w0.heap.size w0 w' := by
  have S0 := St.start w0
  refine enter (n := 26) Try.func74 rfl rfl rfl (fun ac A0 => ?_)
  refine wp_seq ?_
  refine wp_region_lit ?_
  refine s_one (.bool false) A0 S0 (g_assign (by kernel_rfl)) rfl (fun ac A1 => ?_)
  refine wpList_nil ?_
  refine n_then ?_
  refine wp_seq ?_
  refine wp_seq ?_
  refine wp_region_lit ?_
  refine s_one (.slice A n c) A1 S0 (g_move (by kernel_rfl)) rfl (fun ac A2 => ?_)
  refine s_one (.int .i64 (n : Int)) A2 S0 (g_built (r := [(0, .slice A n c)]) (by kernel_rfl) (fun _ _ _ => by kernel_rfl)) rfl (fun ac A3 => ?_)
  refine s_one (.slice B n d) A3 S0 (g_move (by kernel_rfl)) rfl (fun ac A4 => ?_)
  refine s_one (.int .i64 (n : Int)) A4 S0 (g_built (r := [(0, .slice B n d)]) (by kernel_rfl) (fun _ _ _ => by kernel_rfl)) rfl (fun ac A5 => ?_)
  refine s_one (.bool (decide ((n : Int) ≠ (n : Int)))) A5 S0 (g_bin (u := .int .i64 (n : Int)) (k := .int .i64 (n : Int)) (by kernel_rfl) (by kernel_rfl) (fun _ => by kernel_rfl) b_neq) rfl (fun ac A6 => ?_)
  refine wpList_nil ?_
  refine n_then ?_
  refine c_f (b := (decide ((n : Int) ≠ (n : Int)))) A6 (by kernel_rfl) (decide_eq_false (fun h => h rfl)) ?_
  refine wp_skip ?_
  refine n_then ?_
  refine wp_seq ?_
  refine wp_seq ?_
  refine wp_region_lit ?_
  refine s_one (.int .i64 0) A6 S0 (g_assign (by kernel_rfl)) rfl (fun ac A7 => ?_)
  refine wpList_nil ?_
  refine n_then ?_
  refine wp_block ?_
  refine c_loopN (fun mm ac wc => ∃ (k : Nat), mm = n - k ∧ (k ≤ n) ∧ Fr 26 ac [(0, .slice A n c), (1, .slice B n d), (6, .slice A n c), (7, .int .i64 (n : Int)), (8, .slice B n d), (9, .int .i64 (n : Int)), (10, .bool (decide ((n : Int) ≠ (n : Int)))), (5, .int .i64 (k : Int))] ∧ St w0 [] [] wc) _ ⟨0, rfl, by omega, (A7.slot (A7.slot (A7.slot (A7.slot (A7.slot (A7.slot (A7.slot (A7.slot A7.nil (v := .int .i64 0) (by kernel_rfl) (congrArg (Value.int .i64) (by omega))) (v := .bool (decide ((n : Int) ≠ (n : Int)))) (by kernel_rfl) rfl) (v := .int .i64 (n : Int)) (by kernel_rfl) rfl) (v := .slice B n d) (by kernel_rfl) rfl) (v := .int .i64 (n : Int)) (by kernel_rfl) rfl) (v := .slice A n c) (by kernel_rfl) rfl) (v := .slice B n d) (by kernel_rfl) rfl) (v := .slice A n c) (by kernel_rfl) rfl), S0.sub sub_all sub_all⟩ ?_
  rintro mm ac wc ⟨k, hm10, hk, A8, S9⟩
  refine wp_seq ?_
  refine wp_seq ?_
  refine wp_region_lit ?_
  refine s_one (.int .i64 (k : Int)) A8 S9 (g_move (by kernel_rfl)) rfl (fun ac A11 => ?_)
  refine s_one (.slice A n c) A11 S9 (g_move (by kernel_rfl)) rfl (fun ac A12 => ?_)
  refine s_one (.int .i64 (n : Int)) A12 S9 (g_built (r := [(0, .slice A n c)]) (by kernel_rfl) (fun _ _ _ => by kernel_rfl)) rfl (fun ac A13 => ?_)
  refine s_one (.bool (decide ((k : Int) < (n : Int)))) A13 S9 (g_bin (u := .int .i64 (k : Int)) (k := .int .i64 (n : Int)) (by kernel_rfl) (by kernel_rfl) (fun _ => by kernel_rfl) (fun _ => by kernel_rfl)) rfl (fun ac A14 => ?_)
  refine wpList_nil ?_
  refine n_then ?_
  refine c_ifb (b := (decide ((k : Int) < (n : Int)))) A14 (by kernel_rfl) (fun h15 => ?_) (fun h15 => ?_)
  · have p16 := of_decide_eq_true h15
    refine wp_skip ?_
    refine n_then ?_
    refine wp_seq ?_
    refine wp_block ?_
    refine wp_seq ?_
    refine r_begin (w0 := w0) (by kernel_rfl) (S9.sub sub_all sub_all) (fun wc T17 B18 => ?_)
    have S19 := S9.kept B18
    refine r_take 0 (.slice A n c) A14 T17 (g_move (by kernel_rfl)) rfl rfl rfl (pf_then (pf_block (pf_then (pf_then (pf_block (pf_then pf_body)))))) (by kernel_rfl) (fun ac A20 => ?_)
    refine r_take 1 (.int .i64 (k : Int)) A20 T17 (g_move (by kernel_rfl)) rfl rfl rfl (pf_then (pf_block (pf_then (pf_then (pf_block (pf_then pf_body)))))) (by kernel_rfl) (fun ac A21 => ?_)
    obtain ⟨ad22, rfl, _⟩ := hr1 (k * 1) (by have hlen := hn; omega)
    refine r_take 2 (.pointer (some (ad22.add (k * 1)))) A21 T17 (g_index (u := .slice (some ad22) n c) (k := .int .i64 (k : Int)) (by kernel_rfl) (by kernel_rfl) (ix_xs (e := 3) (bytes := 8) k (by kernel_rfl) (by omega) (by omega))) rfl rfl rfl (pf_then (pf_block (pf_then (pf_then (pf_block (pf_then pf_body)))))) (by kernel_rfl) (fun ac A23 => ?_)
    refine r_take 3 (.int .i64 (nthI l (k * 1))) A23 T17 (g_loadXI (l := l) (k := k * 1) (by kernel_rfl) hr1 (by have hlen := hn; omega) (by kernel_rfl)) rfl rfl rfl (pf_then (pf_block (pf_then (pf_then (pf_block (pf_then pf_body)))))) (by kernel_rfl) (fun ac A24 => ?_)
    refine r_take 4 (.slice B n d) A24 T17 (g_move (by kernel_rfl)) rfl rfl rfl (pf_then (pf_block (pf_then (pf_then (pf_block (pf_then pf_body)))))) (by kernel_rfl) (fun ac A25 => ?_)
    refine r_take 5 (.int .i64 (k : Int)) A25 T17 (g_move (by kernel_rfl)) rfl rfl rfl (pf_then (pf_block (pf_then (pf_then (pf_block (pf_then pf_body)))))) (by kernel_rfl) (fun ac A26 => ?_)
    obtain ⟨ad27, rfl, _⟩ := hr2 (k * 1) (by have hlen := hn; omega)
    refine r_take 6 (.pointer (some (ad27.add (k * 1)))) A26 T17 (g_index (u := .slice (some ad27) n d) (k := .int .i64 (k : Int)) (by kernel_rfl) (by kernel_rfl) (ix_xs (e := 3) (bytes := 8) k (by kernel_rfl) (by omega) (by omega))) rfl rfl rfl (pf_then (pf_block (pf_then (pf_then (pf_block (pf_then pf_body)))))) (by kernel_rfl) (fun ac A28 => ?_)
    refine r_take 7 (.int .i64 (nthI l (k * 1))) A28 T17 (g_loadXI (l := l) (k := k * 1) (by kernel_rfl) hr2 (by have hlen := hn; omega) (by kernel_rfl)) rfl rfl rfl (pf_then (pf_block (pf_then (pf_then (pf_block (pf_then pf_body)))))) (by kernel_rfl) (fun ac A29 => ?_)
    refine r_take 8 (.bool (decide (nthI l (k * 1) ≠ nthI l (k * 1)))) A29 T17 (g_bin (u := .int .i64 (nthI l (k * 1))) (k := .int .i64 (nthI l (k * 1))) (by kernel_rfl) (by kernel_rfl) (fun _ => by kernel_rfl) b_neq) rfl rfl rfl (pf_then (pf_block (pf_then (pf_then (pf_block (pf_then pf_body)))))) (by kernel_rfl) (fun ac A30 => ?_)
    refine r_done (by kernel_rfl) ?_
    refine n_then ?_
    refine c_f (b := (decide (nthI l (k * 1) ≠ nthI l (k * 1)))) A30 (by kernel_rfl) (decide_eq_false (fun h => h rfl)) ?_
    refine wp_skip ?_
    refine n_block ?_
    refine n_then ?_
    refine wp_region_lit ?_
    refine s_one (.int .i64 (k : Int)) A30 S19 (g_move (by kernel_rfl)) rfl (fun ac A31 => ?_)
    refine s_one (.int .i64 ((k : Int) + 1)) A31 S19 (g_bin (u := .int .i64 (k : Int)) (k := .int .i64 1) (by kernel_rfl) (by kernel_rfl) (fun _ => by kernel_rfl) (b_add (by omega))) rfl (fun ac A32 => ?_)
    refine s_one (.int .i64 ((k : Int) + 1)) A32 S19 (g_assign (by kernel_rfl)) rfl (fun ac A33 => ?_)
    refine wpList_nil ?_
    refine n_then ?_
    refine ⟨_, ⟨k + 1, rfl, by omega, (A33.slot (A33.slot (A33.slot (A33.slot (A33.slot (A33.slot (A33.slot (A33.slot A33.nil (v := .int .i64 ((k : Int) + 1)) (by kernel_rfl) (congrArg (Value.int .i64) (by omega))) (v := .bool (decide ((n : Int) ≠ (n : Int)))) (by kernel_rfl) rfl) (v := .int .i64 (n : Int)) (by kernel_rfl) rfl) (v := .slice (some ad27) n d) (by kernel_rfl) (by first | rfl | simp)) (v := .int .i64 (n : Int)) (by kernel_rfl) rfl) (v := .slice (some ad22) n c) (by kernel_rfl) (by first | rfl | simp)) (v := .slice (some ad27) n d) (by kernel_rfl) (by first | rfl | simp)) (v := .slice (some ad22) n c) (by kernel_rfl) (by first | rfl | simp)), S19.sub sub_all sub_all⟩, ?_⟩
    omega
  · have p34 := of_decide_eq_false h15
    refine wp_exit ?_
    refine x_then ?_
    refine x_then ?_
    refine x_hit ?_
    refine n_then ?_
    refine wp_seq ?_
    refine wp_region_lit ?_
    refine s_one (.bool true) A14 S9 (g_assign (by kernel_rfl)) rfl (fun ac A35 => ?_)
    refine wpList_nil ?_
    refine n_then ?_
    refine wp_ret ?_
    refine fin1 (.bool true) Try.results74 A35 S9 (rv_tmp (by kernel_rfl)) ⟨?_, S9.kp⟩
    rfl

end Go.Proofs.Ytnfmfkejhgbipaa
