/- FirstAbove, and the reference's gates and peaks. -/
import Derived.Test.YtfooefkgdcjlhaaEnv
namespace Go.Proofs.Ytfooefkgdcjlhaa
open Go.RowKit Go.Cpl

def refGateErr_a_r (x : Int) (y : Int) : Int := bif (!(inB x 0 60)) || (!(inB y 0 60)) then 2 else (if x > y then 9 else 0)

set_option maxRecDepth 100000 in
set_option maxHeartbeats 400000 in
theorem refGateErr_a (x : Int) (y : Int) (w0 : World) :
    Calls Try.prog 25 #[.agg #[.int .i64 x, .int .i64 y]] w0 fun e w' => e = .returned (.int .i64 (refGateErr_a_r x y)) ∧ Below w0.heap.size w0 w' := by
  have S0 := St.start w0
  refine enter (n := 18) Try.func25 rfl rfl rfl (fun ac A0 => ?_)
  refine wp_seq ?_
  refine wp_region_lit ?_
  refine s_box (.agg #[.int .i64 x, .int .i64 y]) A0 S0 (by kernel_rfl) rfl (fun g3 ac wc A1 S2 => ?_)
  replace S2 : St _ (⟨g3, 51, #[.int .i64 x, .int .i64 y], true⟩ :: _) _ _ := S2
  refine s_one (.int .i64 0) A1 S2 (g_assign (by kernel_rfl)) rfl (fun ac A5 => ?_)
  refine wpList_nil ?_
  refine n_then ?_
  refine wp_seq ?_
  refine wp_seq ?_
  refine c_cut (fun ac wc => Fr 18 ac [(12, .bool ((!(inB x 0 60)) || (!(inB y 0 60)))), (0, .agg #[.int .i64 x, .int .i64 y]), (1, .pointer (some ⟨g3, 0, none⟩)), (2, .int .i64 0)] ∧ St w0 [⟨g3, 51, #[.int .i64 x, .int .i64 y], true⟩] [] wc) ?_ ?_
  · refine wp_region_lit ?_
    refine s_one (.pointer (some ⟨g3, 0, none⟩)) A5 S2 (g_field (u := .pointer (some ⟨g3, 0, none⟩)) (by kernel_rfl) (fun _ => by kernel_rfl)) rfl (fun ac A6 => ?_)
    refine s_one (.int .i64 x) A6 S2 (g_load (g := g3) (off := 0) 0 (by kernel_rfl) rfl (by kernel_rfl)) rfl (fun ac A7 => ?_)
    refine s_call (fs := #[]) (cp := #[]) (r := [(0, .int .i64 x), (0, .int .i64 0), (0, .int .i64 60)]) #[.int .i64 x, .int .i64 0, .int .i64 60] (.bool (inB x 0 60)) A7 S2 (sameB (Within_any x 0 60 _)) Try.call22 (by kernel_rfl) (by kernel_rfl) (by kernel_rfl) rfl (fun ac wc A8 S9 => ?_)
    refine s_one (.bool (!(inB x 0 60))) A8 S9 (g_un (u := .bool (inB x 0 60)) (by kernel_rfl) (fun _ => by kernel_rfl)) rfl (fun ac A11 => ?_)
    refine s_one (.bool (!(inB x 0 60))) A11 S9 (g_move (by kernel_rfl)) rfl (fun ac A12 => ?_)
    refine by_bool (!(inB x 0 60)) (fun h13 => ?_) (fun h13 => ?_)
    · have h14 : inB x 0 60 = false := by simpa using h13
      refine s_not (dj := 7) (b := (!(inB x 0 60))) A12 (by kernel_rfl) (by kernel_rfl) h13 rfl (fun ac A15 => ?_)
      refine s_not (dj := 7) (b := (!(inB x 0 60))) A15 (by kernel_rfl) (by kernel_rfl) h13 rfl (fun ac A16 => ?_)
      refine s_not (dj := 7) (b := (!(inB x 0 60))) A16 (by kernel_rfl) (by kernel_rfl) h13 rfl (fun ac A17 => ?_)
      refine s_not (dj := 7) (b := (!(inB x 0 60))) A17 (by kernel_rfl) (by kernel_rfl) h13 rfl (fun ac A18 => ?_)
      refine s_one (.bool true) A18 S9 (g_pick_t (b := (!(inB x 0 60))) (by kernel_rfl) h13 (by kernel_rfl)) rfl (fun ac A19 => ?_)
      refine wpList_nil ?_
      refine n_then ?_
      exact ⟨(A19.slot (A19.slot (A19.slot (A19.slot A19.nil (v := .int .i64 0) (by kernel_rfl) rfl) (v := .pointer (some ⟨g3, 0, none⟩)) (by kernel_rfl) rfl) (v := .agg #[.int .i64 x, .int .i64 y]) (by kernel_rfl) rfl) (v := .bool true) (by kernel_rfl) (congrArg Value.bool (b_ot1 h13).symm)), S9.sub sub_all sub_all⟩
    · have h20 : inB x 0 60 = true := by simpa using h13
      refine s_want (dj := 7) (b := (!(inB x 0 60))) A12 (by kernel_rfl) (by kernel_rfl) h13 ?_
      refine s_one (.pointer (some ⟨g3, 1, none⟩)) A12 S9 (g_field (u := .pointer (some ⟨g3, 0, none⟩)) (by kernel_rfl) (fun _ => by kernel_rfl)) rfl (fun ac A21 => ?_)
      refine s_want (dj := 7) (b := (!(inB x 0 60))) A21 (by kernel_rfl) (by kernel_rfl) h13 ?_
      refine s_one (.int .i64 y) A21 S9 (g_load (g := g3) (off := 1) 0 (by kernel_rfl) rfl (by kernel_rfl)) rfl (fun ac A22 => ?_)
      refine s_want (dj := 7) (b := (!(inB x 0 60))) A22 (by kernel_rfl) (by kernel_rfl) h13 ?_
      refine s_call (fs := #[]) (cp := #[]) (r := [(0, .int .i64 y), (0, .int .i64 0), (0, .int .i64 60)]) #[.int .i64 y, .int .i64 0, .int .i64 60] (.bool (inB y 0 60)) A22 S9 (sameB (Within_any y 0 60 _)) Try.call22 (by kernel_rfl) (by kernel_rfl) (by kernel_rfl) rfl (fun ac wc A23 S24 => ?_)
      refine s_want (dj := 7) (b := (!(inB x 0 60))) A23 (by kernel_rfl) (by kernel_rfl) h13 ?_
      refine s_one (.bool (!(inB y 0 60))) A23 S24 (g_un (u := .bool (inB y 0 60)) (by kernel_rfl) (fun _ => by kernel_rfl)) rfl (fun ac A26 => ?_)
      refine s_one (.bool (!(inB y 0 60))) A26 S24 (g_pick_f (b := (!(inB x 0 60))) (by kernel_rfl) h13 (by kernel_rfl)) rfl (fun ac A27 => ?_)
      refine wpList_nil ?_
      refine n_then ?_
      exact ⟨(A27.slot (A27.slot (A27.slot (A27.slot A27.nil (v := .int .i64 0) (by kernel_rfl) rfl) (v := .pointer (some ⟨g3, 0, none⟩)) (by kernel_rfl) rfl) (v := .agg #[.int .i64 x, .int .i64 y]) (by kernel_rfl) rfl) (v := .bool (!(inB y 0 60))) (by kernel_rfl) (congrArg Value.bool (b_or_f h13 (Eq.refl (!(inB y 0 60)))).symm)), S24.sub sub_all sub_all⟩
  · rintro ac wc ⟨A28, S29⟩
    refine n_then ?_
    refine c_ifb (b := ((!(inB x 0 60)) || (!(inB y 0 60)))) A28 (by kernel_rfl) (fun h30 => ?_) (fun h30 => ?_)
    · refine wp_seq ?_
      refine wp_region_lit ?_
      refine s_one (.int .i64 2) A28 S29 (g_assign (by kernel_rfl)) rfl (fun ac A31 => ?_)
      refine wpList_nil ?_
      refine n_then ?_
      refine wp_ret ?_
      refine r_then ?_
      refine fin1 (.int .i64 2) Try.results25 A31 S29 (rv_tmp (by kernel_rfl)) ⟨?_, S29.kp⟩
      have e : refGateErr_a_r x y = 2 := by unfold refGateErr_a_r; exact ((bif_t h30).trans rfl)
      rw [e]
    · have h32 := (Bool.or_eq_false_iff.1 h30).1
      have h33 : inB x 0 60 = true := by simpa using h32
      have h34 := (Bool.or_eq_false_iff.1 h30).2
      have h35 : inB y 0 60 = true := by simpa using h34
      refine wp_skip ?_
      refine n_then ?_
      refine wp_seq ?_
      refine wp_seq ?_
      refine wp_region_lit ?_
      refine s_one (.pointer (some ⟨g3, 0, none⟩)) A28 S29 (g_field (u := .pointer (some ⟨g3, 0, none⟩)) (by kernel_rfl) (fun _ => by kernel_rfl)) rfl (fun ac A36 => ?_)
      refine s_one (.int .i64 x) A36 S29 (g_load (g := g3) (off := 0) 0 (by kernel_rfl) rfl (by kernel_rfl)) rfl (fun ac A37 => ?_)
      refine s_one (.pointer (some ⟨g3, 1, none⟩)) A37 S29 (g_field (u := .pointer (some ⟨g3, 0, none⟩)) (by kernel_rfl) (fun _ => by kernel_rfl)) rfl (fun ac A38 => ?_)
      refine s_one (.int .i64 y) A38 S29 (g_load (g := g3) (off := 1) 0 (by kernel_rfl) rfl (by kernel_rfl)) rfl (fun ac A39 => ?_)
      refine s_one (.bool (decide (x > y))) A39 S29 (g_bin (u := .int .i64 x) (k := .int .i64 y) (by kernel_rfl) (by kernel_rfl) (fun _ => by kernel_rfl) (fun _ => by kernel_rfl)) rfl (fun ac A40 => ?_)
      refine wpList_nil ?_
      refine n_then ?_
      refine c_ifb (b := (decide (x > y))) A40 (by kernel_rfl) (fun h41 => ?_) (fun h41 => ?_)
      · have p42 := of_decide_eq_true h41
        refine wp_seq ?_
        refine wp_region_lit ?_
        refine s_one (.int .i64 9) A40 S29 (g_assign (by kernel_rfl)) rfl (fun ac A43 => ?_)
        refine wpList_nil ?_
        refine n_then ?_
        refine wp_ret ?_
        refine r_then ?_
        refine fin1 (.int .i64 9) Try.results25 A43 S29 (rv_tmp (by kernel_rfl)) ⟨?_, S29.kp⟩
        have e : refGateErr_a_r x y = 9 := by unfold refGateErr_a_r; exact ((bif_f h30).trans ((if_pos (of_decide_eq_true h41)).trans rfl))
        rw [e]
      · have p44 := of_decide_eq_false h41
        refine wp_skip ?_
        refine n_then ?_
        refine wp_seq ?_
        refine wp_region_lit ?_
        refine s_one (.int .i64 0) A40 S29 (g_assign (by kernel_rfl)) rfl (fun ac A45 => ?_)
        refine wpList_nil ?_
        refine n_then ?_
        refine wp_ret ?_
        refine fin1 (.int .i64 0) Try.results25 A45 S29 (rv_tmp (by kernel_rfl)) ⟨?_, S29.kp⟩
        have e : refGateErr_a_r x y = 0 := by unfold refGateErr_a_r; exact ((bif_f h30).trans ((if_neg (of_decide_eq_false h41)).trans rfl))
        rw [e]

theorem refGateErr_eq (x y : Int) : refGateErr_a_r x y = gErr x y := by
  unfold refGateErr_a_r gErr
  cases h1 : inB x 0 60 <;> cases h2 : inB y 0 60 <;> simp <;> (split <;> split <;> first | rfl | omega)
theorem refGateErr_s (x y : Int) (w : World) : Calls Try.prog 25 #[.agg #[.int .i64 x, .int .i64 y]] w fun e w' => e = .returned (.int .i64 (gErr x y)) ∧ Below w.heap.size w w' := by
  have := refGateErr_a x y w
  rw [refGateErr_eq] at this
  exact this
/-- The first place with so great a square, from a place on. -/
def faFrom (l : List Int) (sq : Int) : Nat → Nat → Int × Int
  | _, 0 => (0, 12)
  | i, n + 1 => if sq ≤ sqP l i then ((i : Int), 0) else faFrom l sq (i + 1) n
theorem fa_step {l : List Int} {sq : Int} {k Y : Nat} (h : k ≤ Y) : faFrom l sq k (Y + 1 - k) = if sq ≤ sqP l k then ((k : Int), 0) else faFrom l sq (k + 1) (Y + 1 - (k + 1)) := by
  rw [show Y + 1 - k = (Y + 1 - (k + 1)) + 1 by omega]; rfl
theorem fa_end {l : List Int} {sq : Int} {k Y : Nat} (h : Y < k) : faFrom l sq k (Y + 1 - k) = (0, 12) := by rw [show Y + 1 - k = 0 by omega]; rfl
theorem sqL_at {l : List Int} {k : Nat} (h : k < 61) : nthI (sqL l) k = sqP l k := by
  rw [nthI_eq (by rw [sqL_length]; exact h)]; simp [sqL]
def faRight (l : List Int) (x y sq : Int) : Int × Int := if sq < 0 then (0, 2) else faFrom l sq x.toNat (y.toNat + 1 - x.toNat)
def faRes (xs : List Nat) (x y sq : Int) : Int × Int := if firstOf [(firstErr xs 0).2, gErr x y] ≠ 0 then (0, firstOf [(firstErr xs 0).2, gErr x y]) else faRight (nums xs) x y sq

set_option maxRecDepth 100000 in
set_option maxHeartbeats 400000 in
theorem FirstAbove_s (xs : List Nat) (x y sq : Int) (w0 : World) (hl : xs.length = 64) :
    Calls Try.prog 24 #[.agg (trc xs), .agg #[.int .i64 x, .int .i64 y], .int .i64 sq] w0 fun e w' => e = .returned (.tuple #[.int .i64 (faRes xs x y sq).1, .int .i64 (faRes xs x y sq).2]) ∧ Below w0.heap.size w0 w' := by
  have S0 := St.start w0
  refine enter (n := 36) Try.func24 rfl rfl rfl (fun ac A0 => ?_)
  refine wp_seq ?_
  refine wp_region_lit ?_
  refine s_box (.agg (trc xs)) A0 S0 (by kernel_rfl) rfl (fun g3 ac wc A1 S2 => ?_)
  replace S2 : St _ (⟨g3, 26, (trc xs), true⟩ :: _) _ _ := S2
  refine s_box (.agg #[.int .i64 x, .int .i64 y]) A1 S2 (by kernel_rfl) rfl (fun g7 ac wc A5 S6 => ?_)
  replace S6 : St _ (⟨g7, 51, #[.int .i64 x, .int .i64 y], true⟩ :: _) _ _ := S6
  refine s_one (.int .i64 0) A5 S6 (g_assign (by kernel_rfl)) rfl (fun ac A9 => ?_)
  refine s_one (.int .i64 0) A9 S6 (g_assign (by kernel_rfl)) rfl (fun ac A10 => ?_)
  refine wpList_nil ?_
  refine n_then ?_
  refine wp_seq ?_
  refine wp_seq ?_
  refine r_begin (w0 := w0) (by kernel_rfl) (S6.sub sub_all sub_all) (fun wc T11 B12 => ?_)
  have S13 := S6.kept B12
  refine r_take 0 (.agg (trc xs)) A10 T11 (g_loadW (g := g3) 1 (by kernel_rfl) rfl ((trc_size _).trans hl) ⟨⟨_, Try.underlying26, rfl⟩, by kernel_rfl⟩) rfl rfl rfl (pf_then (pf_then pf_body)) (by kernel_rfl) (fun ac A14 => ?_)
  refine r_take 2 (.agg #[.int .i64 x, .int .i64 y]) A14 T11 (g_load (g := g7) (off := 0) 0 (by kernel_rfl) rfl (by kernel_rfl)) rfl rfl rfl (pf_then (pf_then pf_body)) (by kernel_rfl) (fun ac A15 => ?_)
  refine r_1 (i := 1) (by kernel_rfl) ?_
  refine rs_call (fs := #[]) (cp := #[]) (r := [(0, .agg (trc xs))]) #[.agg (trc xs)] (.int .i64 ((firstErr xs 0).2)) A15 S13 sub_all sub_all (traceErr_any xs _ hl) Try.call54 rfl rfl (by kernel_rfl) (by kernel_rfl) (by kernel_rfl) rfl (fun ac wc A16 S17 => ?_)
  have T19 := S17.sub sub_all sub_all
  refine r_1 (i := 3) (by kernel_rfl) ?_
  refine rs_call (fs := #[]) (cp := #[]) (r := [(0, .agg #[.int .i64 x, .int .i64 y])]) #[.agg #[.int .i64 x, .int .i64 y]] (.int .i64 (gErr x y)) A16 S17 sub_all sub_all (gateErr_any x y _) Try.call61 rfl rfl (by kernel_rfl) (by kernel_rfl) (by kernel_rfl) rfl (fun ac wc A20 S21 => ?_)
  have T23 := S21.sub sub_all sub_all
  refine r_1 (i := 4) (by kernel_rfl) ?_
  refine rs_bs (e := 27) (r := [(0, .int .i64 ((firstErr xs 0).2)), (1, .int .i64 (gErr x y))]) (#[.int .i64 ((firstErr xs 0).2), .int .i64 (gErr x y)]) A20 S21 sub_all sub_all (by kernel_rfl) (by kernel_rfl) rfl rfl rfl (fun g26 ac wc A24 S25 => ?_)
  have T27 := S25.sub (sub_skip sub_all) sub_all
  refine r_1 (i := 5) (by kernel_rfl) ?_
  refine rs_call (fs := #[]) (cp := #[]) (r := [(0, .slice (some ⟨g26, 0, none⟩) 2 2)]) #[.slice (some ⟨g26, 0, none⟩) 2 2] (.int .i64 (firstOf [(firstErr xs 0).2, gErr x y])) A24 S25 (sub_skip sub_all) sub_all (sameB (first_any g26 27 2 [(firstErr xs 0).2, gErr x y] 2 _ (S25.get 0 rfl) rfl (by omega))) Try.call60 rfl rfl (by kernel_rfl) (by kernel_rfl) (by kernel_rfl) rfl (fun ac wc A28 S29 => ?_)
  have T31 := S29.sub (sub_skip sub_all) sub_all
  refine r_take 6 (.int .i64 (firstOf [(firstErr xs 0).2, gErr x y])) A28 T31 (g_assign (by kernel_rfl)) rfl rfl rfl (pf_then (pf_then pf_body)) (by kernel_rfl) (fun ac A32 => ?_)
  refine r_done (by kernel_rfl) ?_
  refine n_then ?_
  refine wp_seq ?_
  refine wp_region_lit ?_
  refine s_one (.int .i64 (firstOf [(firstErr xs 0).2, gErr x y])) A32 S29 (g_move (by kernel_rfl)) rfl (fun ac A33 => ?_)
  refine s_one (.bool (decide (firstOf [(firstErr xs 0).2, gErr x y] ≠ 0))) A33 S29 (g_bin (u := .int .i64 (firstOf [(firstErr xs 0).2, gErr x y])) (k := .int .i64 0) (by kernel_rfl) (by kernel_rfl) (fun _ => by kernel_rfl) b_neq) rfl (fun ac A34 => ?_)
  refine wpList_nil ?_
  refine n_then ?_
  refine c_ifb (b := (decide (firstOf [(firstErr xs 0).2, gErr x y] ≠ 0))) A34 (by kernel_rfl) (fun h35 => ?_) (fun h35 => ?_)
  · have p36 := of_decide_eq_true h35
    refine wp_seq ?_
    refine wp_region_lit ?_
    refine s_one (.int .i64 (firstOf [(firstErr xs 0).2, gErr x y])) A34 S29 (g_move (by kernel_rfl)) rfl (fun ac A37 => ?_)
    refine s_one (.int .i64 0) A37 S29 (g_assign (by kernel_rfl)) rfl (fun ac A38 => ?_)
    refine s_one (.int .i64 (firstOf [(firstErr xs 0).2, gErr x y])) A38 S29 (g_assign (by kernel_rfl)) rfl (fun ac A39 => ?_)
    refine wpList_nil ?_
    refine n_then ?_
    refine wp_ret ?_
    refine r_then ?_
    refine fin2 (.int .i64 0) (.int .i64 (firstOf [(firstErr xs 0).2, gErr x y])) Try.results24 A39 S29 (rv_tmp (by kernel_rfl)) (rv_tmp (by kernel_rfl)) ⟨?_, S29.kp⟩
    unfold faRes
    rw [if_pos p36]
  · have p40 := of_decide_eq_false h35
    have hz : firstOf [(firstErr xs 0).2, gErr x y] = 0 := by simpa using h35
    obtain ⟨z1, z2⟩ := firstOf_two hz
    have hg := gErr_zero z2
    have HB := nums_range hl (right_of z1)
    refine wp_skip ?_
    refine n_then ?_
    refine wp_seq ?_
    refine wp_seq ?_
    refine wp_region_lit ?_
    refine s_one (.int .i64 sq) A34 S29 (g_move (by kernel_rfl)) rfl (fun ac A41 => ?_)
    refine s_one (.bool (decide (sq < 0))) A41 S29 (g_bin (u := .int .i64 sq) (k := .int .i64 0) (by kernel_rfl) (by kernel_rfl) (fun _ => by kernel_rfl) (fun _ => by kernel_rfl)) rfl (fun ac A42 => ?_)
    refine wpList_nil ?_
    refine n_then ?_
    refine c_ifb (b := (decide (sq < 0))) A42 (by kernel_rfl) (fun h43 => ?_) (fun h43 => ?_)
    · have p44 := of_decide_eq_true h43
      refine wp_seq ?_
      refine wp_region_lit ?_
      refine s_one (.int .i64 0) A42 S29 (g_assign (by kernel_rfl)) rfl (fun ac A45 => ?_)
      refine s_one (.int .i64 2) A45 S29 (g_assign (by kernel_rfl)) rfl (fun ac A46 => ?_)
      refine wpList_nil ?_
      refine n_then ?_
      refine wp_ret ?_
      refine r_then ?_
      refine fin2 (.int .i64 0) (.int .i64 2) Try.results24 A46 S29 (rv_tmp (by kernel_rfl)) (rv_tmp (by kernel_rfl)) ⟨?_, S29.kp⟩
      unfold faRes faRight
      rw [if_neg (by rw [hz]; simp)]
      rw [if_pos p44]
    · have p47 := of_decide_eq_false h43
      refine wp_skip ?_
      refine n_then ?_
      refine wp_seq ?_
      refine wp_region_lit ?_
      refine s_call (fs := #[]) (cp := #[]) (r := [(0, .pointer (some ⟨g3, 0, none⟩))]) #[.pointer (some ⟨g3, 0, none⟩)] (.agg (ints (nums xs))) A42 S29 (numbersOf_any g3 xs _ hl (S29.get 2 rfl) (right_of z1)) Try.call55 (by kernel_rfl) (by kernel_rfl) (by kernel_rfl) rfl (fun ac wc A48 S49 => ?_)
      refine s_alloc (ints (List.replicate 64 0)) A48 S49 zero159 rfl (fun g53 ac wc A51 S52 => ?_)
      refine s_store (g := g53) (off := 0) (v := .agg (ints (nums xs))) 0 (ints (nums xs)) A51 S52 (by kernel_rfl) (by kernel_rfl) rfl (putVal_whole ((ints_size _).trans List.length_replicate) ((ints_size _).trans (nums_length _)) ⟨⟨_, Try.underlying100, rfl⟩, by kernel_rfl⟩ (ints_one _)) (fun wc S55 => ?_)
      refine wpList_nil ?_
      refine n_then ?_
      refine wp_seq ?_
      refine wp_seq ?_
      refine wp_region_lit ?_
      refine s_one (.pointer (some ⟨g7, 0, none⟩)) A51 S55 (g_field (u := .pointer (some ⟨g7, 0, none⟩)) (by kernel_rfl) (fun _ => by kernel_rfl)) rfl (fun ac A57 => ?_)
      refine s_one (.int .i64 x) A57 S55 (g_load (g := g7) (off := 0) 2 (by kernel_rfl) rfl (by kernel_rfl)) rfl (fun ac A58 => ?_)
      refine s_one (.int .i64 x) A58 S55 (g_assign (by kernel_rfl)) rfl (fun ac A59 => ?_)
      refine wpList_nil ?_
      refine n_then ?_
      refine wp_block ?_
      refine c_loopN (fun mm ac wc => ∃ (k : Nat), mm = y.toNat + 1 - k ∧ (x.toNat ≤ k) ∧ (k ≤ y.toNat + 1) ∧ (faFrom (nums xs) sq x.toNat (y.toNat + 1 - x.toNat) = faFrom (nums xs) sq k (y.toNat + 1 - k)) ∧ Fr 36 ac [(0, .agg (trc xs)), (1, .agg #[.int .i64 x, .int .i64 y]), (2, .int .i64 sq), (3, .pointer (some ⟨g3, 0, none⟩)), (4, .pointer (some ⟨g7, 0, none⟩)), (11, .agg (trc xs)), (13, .agg #[.int .i64 x, .int .i64 y]), (12, .int .i64 ((firstErr xs 0).2)), (14, .int .i64 (gErr x y)), (15, .slice (some ⟨g26, 0, none⟩) 2 2), (16, .int .i64 (firstOf [(firstErr xs 0).2, gErr x y])), (8, .int .i64 (firstOf [(firstErr xs 0).2, gErr x y])), (17, .int .i64 (firstOf [(firstErr xs 0).2, gErr x y])), (18, .bool (decide (firstOf [(firstErr xs 0).2, gErr x y] ≠ 0))), (20, .int .i64 sq), (21, .bool (decide (sq < 0))), (22, .agg (ints (nums xs))), (9, .pointer (some ⟨g53, 0, none⟩)), (23, .pointer (some ⟨g7, 0, none⟩)), (24, .int .i64 x), (10, .int .i64 (k : Int))] ∧ St w0 [⟨g53, 100, (ints (nums xs)), true⟩, ⟨g26, 27, #[.int .i64 ((firstErr xs 0).2), .int .i64 (gErr x y)], true⟩, ⟨g7, 51, #[.int .i64 x, .int .i64 y], true⟩, ⟨g3, 26, (trc xs), true⟩] [] wc) _ ⟨x.toNat, rfl, (Nat.le_refl _), (by omega), rfl, (A59.slot (A59.slot (A59.slot (A59.slot (A59.slot (A59.slot (A59.slot (A59.slot (A59.slot (A59.slot (A59.slot (A59.slot (A59.slot (A59.slot (A59.slot (A59.slot (A59.slot (A59.slot (A59.slot (A59.slot (A59.slot A59.nil (v := .int .i64 x) (by kernel_rfl) (congrArg (Value.int .i64) (by omega))) (v := .int .i64 x) (by kernel_rfl) rfl) (v := .pointer (some ⟨g7, 0, none⟩)) (by kernel_rfl) rfl) (v := .pointer (some ⟨g53, 0, none⟩)) (by kernel_rfl) rfl) (v := .agg (ints (nums xs))) (by kernel_rfl) rfl) (v := .bool (decide (sq < 0))) (by kernel_rfl) rfl) (v := .int .i64 sq) (by kernel_rfl) rfl) (v := .bool (decide (firstOf [(firstErr xs 0).2, gErr x y] ≠ 0))) (by kernel_rfl) rfl) (v := .int .i64 (firstOf [(firstErr xs 0).2, gErr x y])) (by kernel_rfl) rfl) (v := .int .i64 (firstOf [(firstErr xs 0).2, gErr x y])) (by kernel_rfl) rfl) (v := .int .i64 (firstOf [(firstErr xs 0).2, gErr x y])) (by kernel_rfl) rfl) (v := .slice (some ⟨g26, 0, none⟩) 2 2) (by kernel_rfl) rfl) (v := .int .i64 (gErr x y)) (by kernel_rfl) rfl) (v := .int .i64 ((firstErr xs 0).2)) (by kernel_rfl) rfl) (v := .agg #[.int .i64 x, .int .i64 y]) (by kernel_rfl) rfl) (v := .agg (trc xs)) (by kernel_rfl) rfl) (v := .pointer (some ⟨g7, 0, none⟩)) (by kernel_rfl) rfl) (v := .pointer (some ⟨g3, 0, none⟩)) (by kernel_rfl) rfl) (v := .int .i64 sq) (by kernel_rfl) rfl) (v := .agg #[.int .i64 x, .int .i64 y]) (by kernel_rfl) rfl) (v := .agg (trc xs)) (by kernel_rfl) rfl), S55.sub sub_all sub_all⟩ ?_
      rintro mm ac wc ⟨k, hm62, k1, k2, HF, A60, S61⟩
      refine wp_seq ?_
      refine wp_seq ?_
      refine wp_region_lit ?_
      refine s_one (.int .i64 (k : Int)) A60 S61 (g_move (by kernel_rfl)) rfl (fun ac A63 => ?_)
      refine s_one (.pointer (some ⟨g7, 1, none⟩)) A63 S61 (g_field (u := .pointer (some ⟨g7, 0, none⟩)) (by kernel_rfl) (fun _ => by kernel_rfl)) rfl (fun ac A64 => ?_)
      refine s_one (.int .i64 y) A64 S61 (g_load (g := g7) (off := 1) 2 (by kernel_rfl) rfl (by kernel_rfl)) rfl (fun ac A65 => ?_)
      refine s_one (.bool (decide ((k : Int) ≤ y))) A65 S61 (g_bin (u := .int .i64 (k : Int)) (k := .int .i64 y) (by kernel_rfl) (by kernel_rfl) (fun _ => by kernel_rfl) (fun _ => by kernel_rfl)) rfl (fun ac A66 => ?_)
      refine wpList_nil ?_
      refine n_then ?_
      refine c_ifb (b := (decide ((k : Int) ≤ y))) A66 (by kernel_rfl) (fun h67 => ?_) (fun h67 => ?_)
      · have p68 := of_decide_eq_true h67
        refine wp_skip ?_
        refine n_then ?_
        refine wp_seq ?_
        refine wp_block ?_
        refine wp_seq ?_
        refine wp_region_lit ?_
        refine s_one (.int .i64 (k : Int)) A66 S61 (g_move (by kernel_rfl)) rfl (fun ac A69 => ?_)
        have q73 := sqP_bound HB k
        refine s_call (fs := #[]) (cp := #[]) (r := [(0, .pointer (some ⟨g53, 0, none⟩)), (0, .int .i64 (k : Int))]) #[.pointer (some ⟨g53, 0, none⟩), .int .i64 (k : Int)] (.int .i64 (sqP (nums xs) k)) A69 S61 (square_any g53 k (nums xs) _ (nums_length _) (by omega) (S61.get 0 rfl) HB) Try.call57 (by kernel_rfl) (by kernel_rfl) (by kernel_rfl) rfl (fun ac wc A70 S71 => ?_)
        refine s_one (.int .i64 sq) A70 S71 (g_move (by kernel_rfl)) rfl (fun ac A74 => ?_)
        refine s_one (.bool (decide (sqP (nums xs) k ≥ sq))) A74 S71 (g_bin (u := .int .i64 (sqP (nums xs) k)) (k := .int .i64 sq) (by kernel_rfl) (by kernel_rfl) (fun _ => by kernel_rfl) (fun _ => by kernel_rfl)) rfl (fun ac A75 => ?_)
        refine wpList_nil ?_
        refine n_then ?_
        refine c_ifb (b := (decide (sqP (nums xs) k ≥ sq))) A75 (by kernel_rfl) (fun h76 => ?_) (fun h76 => ?_)
        · have p77 := of_decide_eq_true h76
          refine wp_seq ?_
          refine wp_region_lit ?_
          refine s_one (.int .i64 (k : Int)) A75 S71 (g_move (by kernel_rfl)) rfl (fun ac A78 => ?_)
          refine s_one (.int .i64 (k : Int)) A78 S71 (g_assign (by kernel_rfl)) rfl (fun ac A79 => ?_)
          refine s_one (.int .i64 0) A79 S71 (g_assign (by kernel_rfl)) rfl (fun ac A80 => ?_)
          refine wpList_nil ?_
          refine n_then ?_
          refine wp_ret ?_
          refine r_block ?_
          refine r_then ?_
          refine r_then ?_
          refine r_block ?_
          refine r_then ?_
          refine fin2 (.int .i64 (k : Int)) (.int .i64 0) Try.results24 A80 S71 (rv_tmp (by kernel_rfl)) (rv_tmp (by kernel_rfl)) ⟨?_, S71.kp⟩
          unfold faRes faRight
          rw [if_neg (by rw [hz]; simp)]
          rw [if_neg p47, HF]
          rw [fa_step (by omega), if_pos (by omega)]
        · have p81 := of_decide_eq_false h76
          refine wp_skip ?_
          refine n_block ?_
          refine n_then ?_
          refine wp_region_lit ?_
          refine s_one (.int .i64 (k : Int)) A75 S71 (g_move (by kernel_rfl)) rfl (fun ac A82 => ?_)
          refine s_one (.int .i64 ((k : Int) + 1)) A82 S71 (g_bin (u := .int .i64 (k : Int)) (k := .int .i64 1) (by kernel_rfl) (by kernel_rfl) (fun _ => by kernel_rfl) (b_add (by omega))) rfl (fun ac A83 => ?_)
          refine s_one (.int .i64 ((k : Int) + 1)) A83 S71 (g_assign (by kernel_rfl)) rfl (fun ac A84 => ?_)
          refine wpList_nil ?_
          refine n_then ?_
          refine ⟨_, ⟨k + 1, rfl, (by omega), (by omega), (by rw [HF, fa_step (by omega), if_neg (by omega)]), (A84.slot (A84.slot (A84.slot (A84.slot (A84.slot (A84.slot (A84.slot (A84.slot (A84.slot (A84.slot (A84.slot (A84.slot (A84.slot (A84.slot (A84.slot (A84.slot (A84.slot (A84.slot (A84.slot (A84.slot (A84.slot A84.nil (v := .int .i64 ((k : Int) + 1)) (by kernel_rfl) (congrArg (Value.int .i64) (by omega))) (v := .int .i64 x) (by kernel_rfl) rfl) (v := .pointer (some ⟨g7, 0, none⟩)) (by kernel_rfl) rfl) (v := .pointer (some ⟨g53, 0, none⟩)) (by kernel_rfl) rfl) (v := .agg (ints (nums xs))) (by kernel_rfl) rfl) (v := .bool (decide (sq < 0))) (by kernel_rfl) rfl) (v := .int .i64 sq) (by kernel_rfl) rfl) (v := .bool (decide (firstOf [(firstErr xs 0).2, gErr x y] ≠ 0))) (by kernel_rfl) rfl) (v := .int .i64 (firstOf [(firstErr xs 0).2, gErr x y])) (by kernel_rfl) rfl) (v := .int .i64 (firstOf [(firstErr xs 0).2, gErr x y])) (by kernel_rfl) rfl) (v := .int .i64 (firstOf [(firstErr xs 0).2, gErr x y])) (by kernel_rfl) rfl) (v := .slice (some ⟨g26, 0, none⟩) 2 2) (by kernel_rfl) rfl) (v := .int .i64 (gErr x y)) (by kernel_rfl) rfl) (v := .int .i64 ((firstErr xs 0).2)) (by kernel_rfl) rfl) (v := .agg #[.int .i64 x, .int .i64 y]) (by kernel_rfl) rfl) (v := .agg (trc xs)) (by kernel_rfl) rfl) (v := .pointer (some ⟨g7, 0, none⟩)) (by kernel_rfl) rfl) (v := .pointer (some ⟨g3, 0, none⟩)) (by kernel_rfl) rfl) (v := .int .i64 sq) (by kernel_rfl) rfl) (v := .agg #[.int .i64 x, .int .i64 y]) (by kernel_rfl) rfl) (v := .agg (trc xs)) (by kernel_rfl) rfl), S71.sub sub_all sub_all⟩, ?_⟩
          omega
      · have p85 := of_decide_eq_false h67
        refine wp_exit ?_
        refine x_then ?_
        refine x_then ?_
        refine x_hit ?_
        refine n_then ?_
        refine wp_seq ?_
        refine wp_region_lit ?_
        refine s_one (.int .i64 0) A66 S61 (g_assign (by kernel_rfl)) rfl (fun ac A86 => ?_)
        refine s_one (.int .i64 12) A86 S61 (g_assign (by kernel_rfl)) rfl (fun ac A87 => ?_)
        refine wpList_nil ?_
        refine n_then ?_
        refine wp_ret ?_
        refine fin2 (.int .i64 0) (.int .i64 12) Try.results24 A87 S61 (rv_tmp (by kernel_rfl)) (rv_tmp (by kernel_rfl)) ⟨?_, S61.kp⟩
        unfold faRes faRight
        rw [if_neg (by rw [hz]; simp)]
        rw [if_neg p47, HF]
        rw [fa_end (by omega)]

set_option maxRecDepth 100000 in
set_option maxHeartbeats 400000 in
theorem refFirstAbove_s (xs : List Nat) (x y sq : Int) (w0 : World) (hl : xs.length = 64) (h0 : Right xs) (hg : 0 ≤ x ∧ x ≤ y ∧ y ≤ 60) :
    Calls Try.prog 26 #[.agg (trc xs), .agg #[.int .i64 x, .int .i64 y], .int .i64 sq] w0 fun e w' => e = .returned (.tuple #[.int .i64 (faRight (nums xs) x y sq).1, .int .i64 (faRight (nums xs) x y sq).2]) ∧ Below w0.heap.size w0 w' := by
  have S0 := St.start w0
  refine enter (n := 28) Try.func26 rfl rfl rfl (fun ac A0 => ?_)
  refine wp_seq ?_
  refine wp_region_lit ?_
  refine s_box (.agg (trc xs)) A0 S0 (by kernel_rfl) rfl (fun g3 ac wc A1 S2 => ?_)
  replace S2 : St _ (⟨g3, 26, (trc xs), true⟩ :: _) _ _ := S2
  refine s_box (.agg #[.int .i64 x, .int .i64 y]) A1 S2 (by kernel_rfl) rfl (fun g7 ac wc A5 S6 => ?_)
  replace S6 : St _ (⟨g7, 51, #[.int .i64 x, .int .i64 y], true⟩ :: _) _ _ := S6
  refine s_one (.int .i64 0) A5 S6 (g_assign (by kernel_rfl)) rfl (fun ac A9 => ?_)
  refine s_one (.int .i64 0) A9 S6 (g_assign (by kernel_rfl)) rfl (fun ac A10 => ?_)
  refine wpList_nil ?_
  refine n_then ?_
  refine wp_seq ?_
  refine wp_seq ?_
  refine wp_region_lit ?_
  refine s_one (.int .i64 sq) A10 S6 (g_move (by kernel_rfl)) rfl (fun ac A11 => ?_)
  refine s_one (.bool (decide (sq < 0))) A11 S6 (g_bin (u := .int .i64 sq) (k := .int .i64 0) (by kernel_rfl) (by kernel_rfl) (fun _ => by kernel_rfl) (fun _ => by kernel_rfl)) rfl (fun ac A12 => ?_)
  refine wpList_nil ?_
  refine n_then ?_
  refine c_ifb (b := (decide (sq < 0))) A12 (by kernel_rfl) (fun h13 => ?_) (fun h13 => ?_)
  · have p14 := of_decide_eq_true h13
    refine wp_seq ?_
    refine wp_region_lit ?_
    refine s_one (.int .i64 0) A12 S6 (g_assign (by kernel_rfl)) rfl (fun ac A15 => ?_)
    refine s_one (.int .i64 2) A15 S6 (g_assign (by kernel_rfl)) rfl (fun ac A16 => ?_)
    refine wpList_nil ?_
    refine n_then ?_
    refine wp_ret ?_
    refine r_then ?_
    refine fin2 (.int .i64 0) (.int .i64 2) Try.results26 A16 S6 (rv_tmp (by kernel_rfl)) (rv_tmp (by kernel_rfl)) ⟨?_, S6.kp⟩
    unfold faRight
    rw [if_pos p14]
  · have p17 := of_decide_eq_false h13
    refine wp_skip ?_
    refine n_then ?_
    refine wp_seq ?_
    refine wp_region_lit ?_
    refine s_one (.agg (trc xs)) A12 S6 (g_loadW (g := g3) 1 (by kernel_rfl) rfl ((trc_size _).trans hl) ⟨⟨_, Try.underlying26, rfl⟩, by kernel_rfl⟩) rfl (fun ac A18 => ?_)
    refine s_call (fs := #[]) (cp := #[]) (r := [(0, .agg (trc xs))]) #[.agg (trc xs)] (.agg (ints (sqL (nums xs)))) A18 S6 (refEnvelope_s xs _ hl h0) Try.call20 (by kernel_rfl) (by kernel_rfl) (by kernel_rfl) rfl (fun ac wc A19 S20 => ?_)
    refine s_alloc (ints (List.replicate 61 0)) A19 S20 zero61 rfl (fun g24 ac wc A22 S23 => ?_)
    refine s_store (g := g24) (off := 0) (v := .agg (ints (sqL (nums xs)))) 0 (ints (sqL (nums xs))) A22 S23 (by kernel_rfl) (by kernel_rfl) rfl (putVal_whole ((ints_size _).trans List.length_replicate) ((ints_size _).trans (sqL_length _)) ⟨⟨_, Try.underlying39, rfl⟩, by kernel_rfl⟩ (ints_one _)) (fun wc S26 => ?_)
    refine wpList_nil ?_
    refine n_then ?_
    refine wp_seq ?_
    refine wp_seq ?_
    refine wp_region_lit ?_
    refine s_one (.pointer (some ⟨g7, 0, none⟩)) A22 S26 (g_field (u := .pointer (some ⟨g7, 0, none⟩)) (by kernel_rfl) (fun _ => by kernel_rfl)) rfl (fun ac A28 => ?_)
    refine s_one (.int .i64 x) A28 S26 (g_load (g := g7) (off := 0) 1 (by kernel_rfl) rfl (by kernel_rfl)) rfl (fun ac A29 => ?_)
    refine s_one (.int .i64 x) A29 S26 (g_assign (by kernel_rfl)) rfl (fun ac A30 => ?_)
    refine wpList_nil ?_
    refine n_then ?_
    refine wp_block ?_
    refine c_loopN (fun mm ac wc => ∃ (k : Nat), mm = y.toNat + 1 - k ∧ (x.toNat ≤ k) ∧ (k ≤ y.toNat + 1) ∧ (faFrom (nums xs) sq x.toNat (y.toNat + 1 - x.toNat) = faFrom (nums xs) sq k (y.toNat + 1 - k)) ∧ Fr 28 ac [(0, .agg (trc xs)), (1, .agg #[.int .i64 x, .int .i64 y]), (2, .int .i64 sq), (3, .pointer (some ⟨g3, 0, none⟩)), (4, .pointer (some ⟨g7, 0, none⟩)), (10, .int .i64 sq), (11, .bool (decide (sq < 0))), (12, .agg (trc xs)), (13, .agg (ints (sqL (nums xs)))), (8, .pointer (some ⟨g24, 0, none⟩)), (14, .pointer (some ⟨g7, 0, none⟩)), (15, .int .i64 x), (9, .int .i64 (k : Int))] ∧ St w0 [⟨g24, 39, (ints (sqL (nums xs))), true⟩, ⟨g7, 51, #[.int .i64 x, .int .i64 y], true⟩, ⟨g3, 26, (trc xs), true⟩] [] wc) _ ⟨x.toNat, rfl, (Nat.le_refl _), (by omega), rfl, (A30.slot (A30.slot (A30.slot (A30.slot (A30.slot (A30.slot (A30.slot (A30.slot (A30.slot (A30.slot (A30.slot (A30.slot (A30.slot A30.nil (v := .int .i64 x) (by kernel_rfl) (congrArg (Value.int .i64) (by omega))) (v := .int .i64 x) (by kernel_rfl) rfl) (v := .pointer (some ⟨g7, 0, none⟩)) (by kernel_rfl) rfl) (v := .pointer (some ⟨g24, 0, none⟩)) (by kernel_rfl) rfl) (v := .agg (ints (sqL (nums xs)))) (by kernel_rfl) rfl) (v := .agg (trc xs)) (by kernel_rfl) rfl) (v := .bool (decide (sq < 0))) (by kernel_rfl) rfl) (v := .int .i64 sq) (by kernel_rfl) rfl) (v := .pointer (some ⟨g7, 0, none⟩)) (by kernel_rfl) rfl) (v := .pointer (some ⟨g3, 0, none⟩)) (by kernel_rfl) rfl) (v := .int .i64 sq) (by kernel_rfl) rfl) (v := .agg #[.int .i64 x, .int .i64 y]) (by kernel_rfl) rfl) (v := .agg (trc xs)) (by kernel_rfl) rfl), S26.sub sub_all sub_all⟩ ?_
    rintro mm ac wc ⟨k, hm33, k1, k2, HF, A31, S32⟩
    refine wp_seq ?_
    refine wp_seq ?_
    refine wp_region_lit ?_
    refine s_one (.int .i64 (k : Int)) A31 S32 (g_move (by kernel_rfl)) rfl (fun ac A34 => ?_)
    refine s_one (.pointer (some ⟨g7, 1, none⟩)) A34 S32 (g_field (u := .pointer (some ⟨g7, 0, none⟩)) (by kernel_rfl) (fun _ => by kernel_rfl)) rfl (fun ac A35 => ?_)
    refine s_one (.int .i64 y) A35 S32 (g_load (g := g7) (off := 1) 1 (by kernel_rfl) rfl (by kernel_rfl)) rfl (fun ac A36 => ?_)
    refine s_one (.bool (decide ((k : Int) ≤ y))) A36 S32 (g_bin (u := .int .i64 (k : Int)) (k := .int .i64 y) (by kernel_rfl) (by kernel_rfl) (fun _ => by kernel_rfl) (fun _ => by kernel_rfl)) rfl (fun ac A37 => ?_)
    refine wpList_nil ?_
    refine n_then ?_
    refine c_ifb (b := (decide ((k : Int) ≤ y))) A37 (by kernel_rfl) (fun h38 => ?_) (fun h38 => ?_)
    · have p39 := of_decide_eq_true h38
      refine wp_skip ?_
      refine n_then ?_
      refine wp_seq ?_
      refine wp_block ?_
      refine wp_seq ?_
      refine wp_region_lit ?_
      refine s_one (.int .i64 (k : Int)) A37 S32 (g_move (by kernel_rfl)) rfl (fun ac A40 => ?_)
      refine s_one (.pointer (some ⟨g24, k, none⟩)) A40 S32 (g_index (u := .pointer (some ⟨g24, 0, none⟩)) (k := .int .i64 (k : Int)) (by kernel_rfl) (by kernel_rfl) (ix_arr1 k (len := 61) (by kernel_rfl) (by omega) (by omega))) rfl (fun ac A41 => ?_)
      refine s_one (.int .i64 (nthI (sqL (nums xs)) k)) A41 S32 (g_load (g := g24) (off := k) 0 (by kernel_rfl) rfl (rv_of (by kernel_rfl) (ints_get (by rw [sqL_length _]; omega)))) rfl (fun ac A42 => ?_)
      refine s_one (.int .i64 sq) A42 S32 (g_move (by kernel_rfl)) rfl (fun ac A43 => ?_)
      refine s_one (.bool (decide (nthI (sqL (nums xs)) k ≥ sq))) A43 S32 (g_bin (u := .int .i64 (nthI (sqL (nums xs)) k)) (k := .int .i64 sq) (by kernel_rfl) (by kernel_rfl) (fun _ => by kernel_rfl) (fun _ => by kernel_rfl)) rfl (fun ac A44 => ?_)
      refine wpList_nil ?_
      refine n_then ?_
      refine c_ifb (b := (decide (nthI (sqL (nums xs)) k ≥ sq))) A44 (by kernel_rfl) (fun h45 => ?_) (fun h45 => ?_)
      · have p46 := of_decide_eq_true h45
        refine wp_seq ?_
        refine wp_region_lit ?_
        refine s_one (.int .i64 (k : Int)) A44 S32 (g_move (by kernel_rfl)) rfl (fun ac A47 => ?_)
        refine s_one (.int .i64 (k : Int)) A47 S32 (g_assign (by kernel_rfl)) rfl (fun ac A48 => ?_)
        refine s_one (.int .i64 0) A48 S32 (g_assign (by kernel_rfl)) rfl (fun ac A49 => ?_)
        refine wpList_nil ?_
        refine n_then ?_
        refine wp_ret ?_
        refine r_block ?_
        refine r_then ?_
        refine r_then ?_
        refine r_block ?_
        refine r_then ?_
        refine fin2 (.int .i64 (k : Int)) (.int .i64 0) Try.results26 A49 S32 (rv_tmp (by kernel_rfl)) (rv_tmp (by kernel_rfl)) ⟨?_, S32.kp⟩
        unfold faRight
        rw [if_neg p17, HF]
        rw [fa_step (by omega), if_pos (by rw [← sqL_at (show k < 61 by omega)]; omega)]
      · have p50 := of_decide_eq_false h45
        refine wp_skip ?_
        refine n_block ?_
        refine n_then ?_
        refine wp_region_lit ?_
        refine s_one (.int .i64 (k : Int)) A44 S32 (g_move (by kernel_rfl)) rfl (fun ac A51 => ?_)
        refine s_one (.int .i64 ((k : Int) + 1)) A51 S32 (g_bin (u := .int .i64 (k : Int)) (k := .int .i64 1) (by kernel_rfl) (by kernel_rfl) (fun _ => by kernel_rfl) (b_add (by omega))) rfl (fun ac A52 => ?_)
        refine s_one (.int .i64 ((k : Int) + 1)) A52 S32 (g_assign (by kernel_rfl)) rfl (fun ac A53 => ?_)
        refine wpList_nil ?_
        refine n_then ?_
        refine ⟨_, ⟨k + 1, rfl, (by omega), (by omega), (by rw [HF, fa_step (by omega), if_neg (by rw [← sqL_at (show k < 61 by omega)]; omega)]), (A53.slot (A53.slot (A53.slot (A53.slot (A53.slot (A53.slot (A53.slot (A53.slot (A53.slot (A53.slot (A53.slot (A53.slot (A53.slot A53.nil (v := .int .i64 ((k : Int) + 1)) (by kernel_rfl) (congrArg (Value.int .i64) (by omega))) (v := .int .i64 x) (by kernel_rfl) rfl) (v := .pointer (some ⟨g7, 0, none⟩)) (by kernel_rfl) rfl) (v := .pointer (some ⟨g24, 0, none⟩)) (by kernel_rfl) rfl) (v := .agg (ints (sqL (nums xs)))) (by kernel_rfl) rfl) (v := .agg (trc xs)) (by kernel_rfl) rfl) (v := .bool (decide (sq < 0))) (by kernel_rfl) rfl) (v := .int .i64 sq) (by kernel_rfl) rfl) (v := .pointer (some ⟨g7, 0, none⟩)) (by kernel_rfl) rfl) (v := .pointer (some ⟨g3, 0, none⟩)) (by kernel_rfl) rfl) (v := .int .i64 sq) (by kernel_rfl) rfl) (v := .agg #[.int .i64 x, .int .i64 y]) (by kernel_rfl) rfl) (v := .agg (trc xs)) (by kernel_rfl) rfl), S32.sub sub_all sub_all⟩, ?_⟩
        omega
    · have p54 := of_decide_eq_false h38
      refine wp_exit ?_
      refine x_then ?_
      refine x_then ?_
      refine x_hit ?_
      refine n_then ?_
      refine wp_seq ?_
      refine wp_region_lit ?_
      refine s_one (.int .i64 0) A37 S32 (g_assign (by kernel_rfl)) rfl (fun ac A55 => ?_)
      refine s_one (.int .i64 12) A55 S32 (g_assign (by kernel_rfl)) rfl (fun ac A56 => ?_)
      refine wpList_nil ?_
      refine n_then ?_
      refine wp_ret ?_
      refine fin2 (.int .i64 0) (.int .i64 12) Try.results26 A56 S32 (rv_tmp (by kernel_rfl)) (rv_tmp (by kernel_rfl)) ⟨?_, S32.kp⟩
      unfold faRight
      rw [if_neg p17, HF]
      rw [fa_end (by omega)]

theorem pk_step {l : List Int} {k Y : Nat} {best : Int × Int} (h : k ≤ Y) : peakFrom l k (Y + 1 - k) best = peakFrom l (k + 1) (Y + 1 - (k + 1)) (if best.2 < sqP l k then ((k : Int), sqP l k) else best) := by
  rw [show Y + 1 - k = (Y + 1 - (k + 1)) + 1 by omega]; rfl
theorem pk_start {l : List Int} {X Y : Nat} (h : X ≤ Y) : peakOf l X Y = peakFrom l X (Y + 1 - X) ((X : Int), sqP l X) := by
  rw [pk_step h, if_neg (by simp)]
  unfold peakOf
  rw [show Y + 1 - (X + 1) = Y - X by omega]
theorem pk_end {l : List Int} {k Y : Nat} {best : Int × Int} (h : Y < k) : peakFrom l k (Y + 1 - k) best = best := by rw [show Y + 1 - k = 0 by omega]; rfl
def pkRes (xs : List Nat) (x y : Int) : Int × Int := if firstOf [(firstErr xs 0).2, gErr x y] = 0 then peakOf (nums xs) x.toNat y.toNat else (0, 0)
theorem PeakIn_any (xs : List Nat) (x y : Int) (w : World) (hl : xs.length = 64) :
    Calls Try.prog 23 #[.agg (trc xs), .agg #[.int .i64 x, .int .i64 y]] w fun e w' => e = .returned (.tuple #[.agg #[.int .i64 (pkRes xs x y).1, .int .i64 (pkRes xs x y).2], .int .i64 (firstOf [(firstErr xs 0).2, gErr x y])]) ∧ Below w.heap.size w w' := by
  by_cases h : firstOf [(firstErr xs 0).2, gErr x y] = 0
  · obtain ⟨z1, z2⟩ := firstOf_two h
    have hg := gErr_zero z2
    have := PeakIn_right xs x.toNat y.toNat w hl z1 (by omega) (by omega)
    rw [show ((x.toNat : Nat) : Int) = x by omega, show ((y.toNat : Nat) : Int) = y by omega] at this
    unfold pkRes
    rw [if_pos h, h]
    exact this
  · have := PeakIn_wrong xs x y w hl h
    unfold pkRes
    rw [if_neg h]
    exact this

set_option maxRecDepth 100000 in
set_option maxHeartbeats 400000 in
theorem refPeakIn_s (xs : List Nat) (x y : Int) (w0 : World) (hl : xs.length = 64) (h0 : Right xs) (hg : 0 ≤ x ∧ x ≤ y ∧ y ≤ 60) :
    Calls Try.prog 27 #[.agg (trc xs), .agg #[.int .i64 x, .int .i64 y]] w0 fun e w' => e = .returned (.agg #[.int .i64 (peakOf (nums xs) x.toNat y.toNat).1, .int .i64 (peakOf (nums xs) x.toNat y.toNat).2]) ∧ Below w0.heap.size w0 w' := by
  have S0 := St.start w0
  refine enter (n := 37) Try.func27 rfl rfl rfl (fun ac A0 => ?_)
  refine wp_seq ?_
  refine wp_region_lit ?_
  refine s_box (.agg (trc xs)) A0 S0 (by kernel_rfl) rfl (fun g3 ac wc A1 S2 => ?_)
  replace S2 : St _ (⟨g3, 26, (trc xs), true⟩ :: _) _ _ := S2
  refine s_box (.agg #[.int .i64 x, .int .i64 y]) A1 S2 (by kernel_rfl) rfl (fun g7 ac wc A5 S6 => ?_)
  replace S6 : St _ (⟨g7, 51, #[.int .i64 x, .int .i64 y], true⟩ :: _) _ _ := S6
  refine s_alloc (#[.int .i64 0, .int .i64 0]) A5 S6 (by kernel_rfl) rfl (fun g11 ac wc A9 S10 => ?_)
  refine wpList_nil ?_
  refine n_then ?_
  refine wp_seq ?_
  refine wp_region_lit ?_
  refine s_one (.agg (trc xs)) A9 S10 (g_loadW (g := g3) 2 (by kernel_rfl) rfl ((trc_size _).trans hl) ⟨⟨_, Try.underlying26, rfl⟩, by kernel_rfl⟩) rfl (fun ac A12 => ?_)
  refine s_call (fs := #[]) (cp := #[]) (r := [(0, .agg (trc xs))]) #[.agg (trc xs)] (.agg (ints (sqL (nums xs)))) A12 S10 (refEnvelope_s xs _ hl h0) Try.call20 (by kernel_rfl) (by kernel_rfl) (by kernel_rfl) rfl (fun ac wc A13 S14 => ?_)
  refine s_alloc (ints (List.replicate 61 0)) A13 S14 zero61 rfl (fun g18 ac wc A16 S17 => ?_)
  refine s_store (g := g18) (off := 0) (v := .agg (ints (sqL (nums xs)))) 0 (ints (sqL (nums xs))) A16 S17 (by kernel_rfl) (by kernel_rfl) rfl (putVal_whole ((ints_size _).trans List.length_replicate) ((ints_size _).trans (sqL_length _)) ⟨⟨_, Try.underlying39, rfl⟩, by kernel_rfl⟩ (ints_one _)) (fun wc S20 => ?_)
  refine wpList_nil ?_
  refine n_then ?_
  refine wp_seq ?_
  refine r_begin (w0 := w0) (by kernel_rfl) (S20.sub sub_all sub_all) (fun wc T22 B23 => ?_)
  have S24 := S20.kept B23
  refine r_take 0 (.pointer (some ⟨g7, 0, none⟩)) A16 T22 (g_field (u := .pointer (some ⟨g7, 0, none⟩)) (by kernel_rfl) (fun _ => by kernel_rfl)) rfl rfl rfl (pf_then pf_body) (by kernel_rfl) (fun ac A25 => ?_)
  refine r_take 1 (.int .i64 x) A25 T22 (g_load (g := g7) (off := 0) 2 (by kernel_rfl) rfl (by kernel_rfl)) rfl rfl rfl (pf_then pf_body) (by kernel_rfl) (fun ac A26 => ?_)
  refine r_take 2 (.pointer (some ⟨g7, 0, none⟩)) A26 T22 (g_field (u := .pointer (some ⟨g7, 0, none⟩)) (by kernel_rfl) (fun _ => by kernel_rfl)) rfl rfl rfl (pf_then pf_body) (by kernel_rfl) (fun ac A27 => ?_)
  refine r_take 3 (.int .i64 x) A27 T22 (g_load (g := g7) (off := 0) 2 (by kernel_rfl) rfl (by kernel_rfl)) rfl rfl rfl (pf_then pf_body) (by kernel_rfl) (fun ac A28 => ?_)
  refine r_take 4 (.pointer (some ⟨g18, (x).toNat, none⟩)) A28 T22 (g_index (u := .pointer (some ⟨g18, 0, none⟩)) (k := .int .i64 x) (by kernel_rfl) (by kernel_rfl) (ix_arr1 ((x).toNat) (len := 61) (by kernel_rfl) (by omega) (by omega))) rfl rfl rfl (pf_then pf_body) (by kernel_rfl) (fun ac A29 => ?_)
  refine r_take 5 (.int .i64 (nthI (sqL (nums xs)) ((x).toNat))) A29 T22 (g_load (g := g18) (off := (x).toNat) 0 (by kernel_rfl) rfl (rv_of (by kernel_rfl) (ints_get (by rw [sqL_length _]; omega)))) rfl rfl rfl (pf_then pf_body) (by kernel_rfl) (fun ac A30 => ?_)
  refine r_take 6 (.agg #[.int .i64 x, .int .i64 (nthI (sqL (nums xs)) ((x).toNat))]) A30 T22 (g_build (r := [(0, .int .i64 x), (1, .int .i64 (nthI (sqL (nums xs)) ((x).toNat)))]) (by kernel_rfl) (fun _ => by kernel_rfl)) rfl rfl rfl (pf_then pf_body) (by kernel_rfl) (fun ac A31 => ?_)
  refine r_1 (i := 7) (by kernel_rfl) ?_
  refine rs_alloc (#[.int .i64 0, .int .i64 0]) A31 S24 sub_all sub_all (by kernel_rfl) rfl rfl rfl (fun g34 ac wc A32 S33 => ?_)
  have T35 := S33.sub (sub_skip sub_all) sub_all
  refine r_1 (i := 8) (by kernel_rfl) ?_
  refine rs_store (g := g34) (off := 0) (v := .agg #[.int .i64 x, .int .i64 (nthI (sqL (nums xs)) ((x).toNat))]) 0 (#[.int .i64 x, .int .i64 (nthI (sqL (nums xs)) ((x).toNat))]) A32 S33 (sub_skip sub_all) sub_all (by kernel_rfl) (by kernel_rfl) rfl (by kernel_rfl) rfl rfl (fun wc S37 => ?_)
  have T39 := S37.sub (sub_skip sub_all) sub_all
  refine r_done (by kernel_rfl) ?_
  refine n_then ?_
  refine wp_seq ?_
  refine wp_seq ?_
  refine wp_region_lit ?_
  refine s_one (.pointer (some ⟨g7, 0, none⟩)) A32 S37 (g_field (u := .pointer (some ⟨g7, 0, none⟩)) (by kernel_rfl) (fun _ => by kernel_rfl)) rfl (fun ac A40 => ?_)
  refine s_one (.int .i64 x) A40 S37 (g_load (g := g7) (off := 0) 3 (by kernel_rfl) rfl (by kernel_rfl)) rfl (fun ac A41 => ?_)
  refine s_one (.int .i64 x) A41 S37 (g_assign (by kernel_rfl)) rfl (fun ac A42 => ?_)
  refine wpList_nil ?_
  refine n_then ?_
  refine wp_block ?_
  refine c_loopN (fun mm ac wc => ∃ (k : Nat) (best : Int × Int), mm = y.toNat + 1 - k ∧ (x.toNat ≤ k) ∧ (k ≤ y.toNat + 1) ∧ (peakOf (nums xs) x.toNat y.toNat = peakFrom (nums xs) k (y.toNat + 1 - k) best) ∧ Fr 37 ac [(0, .agg (trc xs)), (1, .agg #[.int .i64 x, .int .i64 y]), (2, .pointer (some ⟨g3, 0, none⟩)), (3, .pointer (some ⟨g7, 0, none⟩)), (4, .pointer (some ⟨g11, 0, none⟩)), (8, .agg (trc xs)), (9, .agg (ints (sqL (nums xs)))), (5, .pointer (some ⟨g18, 0, none⟩)), (10, .pointer (some ⟨g7, 0, none⟩)), (11, .int .i64 x), (12, .pointer (some ⟨g7, 0, none⟩)), (13, .int .i64 x), (14, .pointer (some ⟨g18, (x).toNat, none⟩)), (15, .int .i64 (nthI (sqL (nums xs)) ((x).toNat))), (16, .agg #[.int .i64 x, .int .i64 (nthI (sqL (nums xs)) ((x).toNat))]), (6, .pointer (some ⟨g34, 0, none⟩)), (17, .pointer (some ⟨g7, 0, none⟩)), (18, .int .i64 x), (7, .int .i64 (k : Int))] ∧ St w0 [⟨g34, 53, #[.int .i64 best.1, .int .i64 best.2], true⟩, ⟨g18, 39, (ints (sqL (nums xs))), true⟩, ⟨g11, 53, #[.int .i64 0, .int .i64 0], true⟩, ⟨g7, 51, #[.int .i64 x, .int .i64 y], true⟩, ⟨g3, 26, (trc xs), true⟩] [] wc) _ ⟨x.toNat, (x, nthI (sqL (nums xs)) x.toNat), rfl, (Nat.le_refl _), (by omega), (by rw [pk_start (by omega), sqL_at (by omega), show ((x.toNat : Nat) : Int) = x by omega]), (A42.slot (A42.slot (A42.slot (A42.slot (A42.slot (A42.slot (A42.slot (A42.slot (A42.slot (A42.slot (A42.slot (A42.slot (A42.slot (A42.slot (A42.slot (A42.slot (A42.slot (A42.slot (A42.slot A42.nil (v := .int .i64 x) (by kernel_rfl) (congrArg (Value.int .i64) (by omega))) (v := .int .i64 x) (by kernel_rfl) rfl) (v := .pointer (some ⟨g7, 0, none⟩)) (by kernel_rfl) rfl) (v := .pointer (some ⟨g34, 0, none⟩)) (by kernel_rfl) rfl) (v := .agg #[.int .i64 x, .int .i64 (nthI (sqL (nums xs)) ((x).toNat))]) (by kernel_rfl) rfl) (v := .int .i64 (nthI (sqL (nums xs)) ((x).toNat))) (by kernel_rfl) rfl) (v := .pointer (some ⟨g18, (x).toNat, none⟩)) (by kernel_rfl) rfl) (v := .int .i64 x) (by kernel_rfl) rfl) (v := .pointer (some ⟨g7, 0, none⟩)) (by kernel_rfl) rfl) (v := .int .i64 x) (by kernel_rfl) rfl) (v := .pointer (some ⟨g7, 0, none⟩)) (by kernel_rfl) rfl) (v := .pointer (some ⟨g18, 0, none⟩)) (by kernel_rfl) rfl) (v := .agg (ints (sqL (nums xs)))) (by kernel_rfl) rfl) (v := .agg (trc xs)) (by kernel_rfl) rfl) (v := .pointer (some ⟨g11, 0, none⟩)) (by kernel_rfl) rfl) (v := .pointer (some ⟨g7, 0, none⟩)) (by kernel_rfl) rfl) (v := .pointer (some ⟨g3, 0, none⟩)) (by kernel_rfl) rfl) (v := .agg #[.int .i64 x, .int .i64 y]) (by kernel_rfl) rfl) (v := .agg (trc xs)) (by kernel_rfl) rfl), (St.recell 0 S37 rfl (by rfl)).sub sub_all sub_all⟩ ?_
  rintro mm ac wc ⟨k, best, hm45, k1, k2, HF, A43, S44⟩
  refine wp_seq ?_
  refine wp_seq ?_
  refine wp_region_lit ?_
  refine s_one (.int .i64 (k : Int)) A43 S44 (g_move (by kernel_rfl)) rfl (fun ac A46 => ?_)
  refine s_one (.pointer (some ⟨g7, 1, none⟩)) A46 S44 (g_field (u := .pointer (some ⟨g7, 0, none⟩)) (by kernel_rfl) (fun _ => by kernel_rfl)) rfl (fun ac A47 => ?_)
  refine s_one (.int .i64 y) A47 S44 (g_load (g := g7) (off := 1) 3 (by kernel_rfl) rfl (by kernel_rfl)) rfl (fun ac A48 => ?_)
  refine s_one (.bool (decide ((k : Int) ≤ y))) A48 S44 (g_bin (u := .int .i64 (k : Int)) (k := .int .i64 y) (by kernel_rfl) (by kernel_rfl) (fun _ => by kernel_rfl) (fun _ => by kernel_rfl)) rfl (fun ac A49 => ?_)
  refine wpList_nil ?_
  refine n_then ?_
  refine c_ifb (b := (decide ((k : Int) ≤ y))) A49 (by kernel_rfl) (fun h50 => ?_) (fun h50 => ?_)
  · have p51 := of_decide_eq_true h50
    refine wp_skip ?_
    refine n_then ?_
    refine wp_seq ?_
    refine wp_block ?_
    refine wp_seq ?_
    refine r_begin (w0 := w0) (by kernel_rfl) (S44.sub sub_all sub_all) (fun wc T52 B53 => ?_)
    have S54 := S44.kept B53
    refine r_take 0 (.int .i64 (k : Int)) A49 T52 (g_move (by kernel_rfl)) rfl rfl rfl (pf_then (pf_block (pf_then (pf_then (pf_block (pf_then pf_body)))))) (by kernel_rfl) (fun ac A55 => ?_)
    refine r_take 1 (.pointer (some ⟨g18, k, none⟩)) A55 T52 (g_index (u := .pointer (some ⟨g18, 0, none⟩)) (k := .int .i64 (k : Int)) (by kernel_rfl) (by kernel_rfl) (ix_arr1 k (len := 61) (by kernel_rfl) (by omega) (by omega))) rfl rfl rfl (pf_then (pf_block (pf_then (pf_then (pf_block (pf_then pf_body)))))) (by kernel_rfl) (fun ac A56 => ?_)
    refine r_take 2 (.int .i64 (nthI (sqL (nums xs)) k)) A56 T52 (g_load (g := g18) (off := k) 1 (by kernel_rfl) rfl (rv_of (by kernel_rfl) (ints_get (by rw [sqL_length _]; omega)))) rfl rfl rfl (pf_then (pf_block (pf_then (pf_then (pf_block (pf_then pf_body)))))) (by kernel_rfl) (fun ac A57 => ?_)
    refine r_take 3 (.pointer (some ⟨g34, 1, none⟩)) A57 T52 (g_field (u := .pointer (some ⟨g34, 0, none⟩)) (by kernel_rfl) (fun _ => by kernel_rfl)) rfl rfl rfl (pf_then (pf_block (pf_then (pf_then (pf_block (pf_then pf_body)))))) (by kernel_rfl) (fun ac A58 => ?_)
    refine r_take 4 (.int .i64 best.2) A58 T52 (g_load (g := g34) (off := 1) 0 (by kernel_rfl) rfl (by kernel_rfl)) rfl rfl rfl (pf_then (pf_block (pf_then (pf_then (pf_block (pf_then pf_body)))))) (by kernel_rfl) (fun ac A59 => ?_)
    refine r_take 5 (.bool (decide (nthI (sqL (nums xs)) k > best.2))) A59 T52 (g_bin (u := .int .i64 (nthI (sqL (nums xs)) k)) (k := .int .i64 best.2) (by kernel_rfl) (by kernel_rfl) (fun _ => by kernel_rfl) (fun _ => by kernel_rfl)) rfl rfl rfl (pf_then (pf_block (pf_then (pf_then (pf_block (pf_then pf_body)))))) (by kernel_rfl) (fun ac A60 => ?_)
    refine r_done (by kernel_rfl) ?_
    refine n_then ?_
    refine c_ifb (b := (decide (nthI (sqL (nums xs)) k > best.2))) A60 (by kernel_rfl) (fun h61 => ?_) (fun h61 => ?_)
    · have p62 := of_decide_eq_true h61
      refine wp_region_lit ?_
      refine s_one (.int .i64 (k : Int)) A60 S54 (g_move (by kernel_rfl)) rfl (fun ac A63 => ?_)
      refine s_one (.int .i64 (k : Int)) A63 S54 (g_move (by kernel_rfl)) rfl (fun ac A64 => ?_)
      refine s_one (.pointer (some ⟨g18, k, none⟩)) A64 S54 (g_index (u := .pointer (some ⟨g18, 0, none⟩)) (k := .int .i64 (k : Int)) (by kernel_rfl) (by kernel_rfl) (ix_arr1 k (len := 61) (by kernel_rfl) (by omega) (by omega))) rfl (fun ac A65 => ?_)
      refine s_one (.int .i64 (nthI (sqL (nums xs)) k)) A65 S54 (g_load (g := g18) (off := k) 1 (by kernel_rfl) rfl (rv_of (by kernel_rfl) (ints_get (by rw [sqL_length _]; omega)))) rfl (fun ac A66 => ?_)
      refine s_one (.agg #[.int .i64 (k : Int), .int .i64 (nthI (sqL (nums xs)) k)]) A66 S54 (g_build (r := [(0, .int .i64 (k : Int)), (1, .int .i64 (nthI (sqL (nums xs)) k))]) (by kernel_rfl) (fun _ => by kernel_rfl)) rfl (fun ac A67 => ?_)
      refine s_store (g := g34) (off := 0) (v := .agg #[.int .i64 (k : Int), .int .i64 (nthI (sqL (nums xs)) k)]) 0 (#[.int .i64 (k : Int), .int .i64 (nthI (sqL (nums xs)) k)]) A67 S54 (by kernel_rfl) (by kernel_rfl) rfl (by kernel_rfl) (fun wc S69 => ?_)
      refine wpList_nil ?_
      refine n_block ?_
      refine n_then ?_
      refine wp_region_lit ?_
      refine s_one (.int .i64 (k : Int)) A67 S69 (g_move (by kernel_rfl)) rfl (fun ac A71 => ?_)
      refine s_one (.int .i64 ((k : Int) + 1)) A71 S69 (g_bin (u := .int .i64 (k : Int)) (k := .int .i64 1) (by kernel_rfl) (by kernel_rfl) (fun _ => by kernel_rfl) (b_add (by omega))) rfl (fun ac A72 => ?_)
      refine s_one (.int .i64 ((k : Int) + 1)) A72 S69 (g_assign (by kernel_rfl)) rfl (fun ac A73 => ?_)
      refine wpList_nil ?_
      refine n_then ?_
      refine ⟨_, ⟨k + 1, ((k : Int), nthI (sqL (nums xs)) k), rfl, (by omega), (by omega), (by rw [HF, pk_step (by omega), if_pos (by rw [← sqL_at (show k < 61 by omega)]; omega), sqL_at (show k < 61 by omega)]), (A73.slot (A73.slot (A73.slot (A73.slot (A73.slot (A73.slot (A73.slot (A73.slot (A73.slot (A73.slot (A73.slot (A73.slot (A73.slot (A73.slot (A73.slot (A73.slot (A73.slot (A73.slot (A73.slot A73.nil (v := .int .i64 ((k : Int) + 1)) (by kernel_rfl) (congrArg (Value.int .i64) (by omega))) (v := .int .i64 x) (by kernel_rfl) rfl) (v := .pointer (some ⟨g7, 0, none⟩)) (by kernel_rfl) rfl) (v := .pointer (some ⟨g34, 0, none⟩)) (by kernel_rfl) rfl) (v := .agg #[.int .i64 x, .int .i64 (nthI (sqL (nums xs)) ((x).toNat))]) (by kernel_rfl) rfl) (v := .int .i64 (nthI (sqL (nums xs)) ((x).toNat))) (by kernel_rfl) rfl) (v := .pointer (some ⟨g18, (x).toNat, none⟩)) (by kernel_rfl) rfl) (v := .int .i64 x) (by kernel_rfl) rfl) (v := .pointer (some ⟨g7, 0, none⟩)) (by kernel_rfl) rfl) (v := .int .i64 x) (by kernel_rfl) rfl) (v := .pointer (some ⟨g7, 0, none⟩)) (by kernel_rfl) rfl) (v := .pointer (some ⟨g18, 0, none⟩)) (by kernel_rfl) rfl) (v := .agg (ints (sqL (nums xs)))) (by kernel_rfl) rfl) (v := .agg (trc xs)) (by kernel_rfl) rfl) (v := .pointer (some ⟨g11, 0, none⟩)) (by kernel_rfl) rfl) (v := .pointer (some ⟨g7, 0, none⟩)) (by kernel_rfl) rfl) (v := .pointer (some ⟨g3, 0, none⟩)) (by kernel_rfl) rfl) (v := .agg #[.int .i64 x, .int .i64 y]) (by kernel_rfl) rfl) (v := .agg (trc xs)) (by kernel_rfl) rfl), (St.recell 0 S69 rfl (by rfl)).sub sub_all sub_all⟩, ?_⟩
      omega
    · have p74 := of_decide_eq_false h61
      refine wp_skip ?_
      refine n_block ?_
      refine n_then ?_
      refine wp_region_lit ?_
      refine s_one (.int .i64 (k : Int)) A60 S54 (g_move (by kernel_rfl)) rfl (fun ac A75 => ?_)
      refine s_one (.int .i64 ((k : Int) + 1)) A75 S54 (g_bin (u := .int .i64 (k : Int)) (k := .int .i64 1) (by kernel_rfl) (by kernel_rfl) (fun _ => by kernel_rfl) (b_add (by omega))) rfl (fun ac A76 => ?_)
      refine s_one (.int .i64 ((k : Int) + 1)) A76 S54 (g_assign (by kernel_rfl)) rfl (fun ac A77 => ?_)
      refine wpList_nil ?_
      refine n_then ?_
      refine ⟨_, ⟨k + 1, best, rfl, (by omega), (by omega), (by rw [HF, pk_step (by omega), if_neg (by rw [← sqL_at (show k < 61 by omega)]; omega)]), (A77.slot (A77.slot (A77.slot (A77.slot (A77.slot (A77.slot (A77.slot (A77.slot (A77.slot (A77.slot (A77.slot (A77.slot (A77.slot (A77.slot (A77.slot (A77.slot (A77.slot (A77.slot (A77.slot A77.nil (v := .int .i64 ((k : Int) + 1)) (by kernel_rfl) (congrArg (Value.int .i64) (by omega))) (v := .int .i64 x) (by kernel_rfl) rfl) (v := .pointer (some ⟨g7, 0, none⟩)) (by kernel_rfl) rfl) (v := .pointer (some ⟨g34, 0, none⟩)) (by kernel_rfl) rfl) (v := .agg #[.int .i64 x, .int .i64 (nthI (sqL (nums xs)) ((x).toNat))]) (by kernel_rfl) rfl) (v := .int .i64 (nthI (sqL (nums xs)) ((x).toNat))) (by kernel_rfl) rfl) (v := .pointer (some ⟨g18, (x).toNat, none⟩)) (by kernel_rfl) rfl) (v := .int .i64 x) (by kernel_rfl) rfl) (v := .pointer (some ⟨g7, 0, none⟩)) (by kernel_rfl) rfl) (v := .int .i64 x) (by kernel_rfl) rfl) (v := .pointer (some ⟨g7, 0, none⟩)) (by kernel_rfl) rfl) (v := .pointer (some ⟨g18, 0, none⟩)) (by kernel_rfl) rfl) (v := .agg (ints (sqL (nums xs)))) (by kernel_rfl) rfl) (v := .agg (trc xs)) (by kernel_rfl) rfl) (v := .pointer (some ⟨g11, 0, none⟩)) (by kernel_rfl) rfl) (v := .pointer (some ⟨g7, 0, none⟩)) (by kernel_rfl) rfl) (v := .pointer (some ⟨g3, 0, none⟩)) (by kernel_rfl) rfl) (v := .agg #[.int .i64 x, .int .i64 y]) (by kernel_rfl) rfl) (v := .agg (trc xs)) (by kernel_rfl) rfl), S54.sub sub_all sub_all⟩, ?_⟩
      omega
  · have p78 := of_decide_eq_false h50
    refine wp_exit ?_
    refine x_then ?_
    refine x_then ?_
    refine x_hit ?_
    refine n_then ?_
    refine wp_seq ?_
    refine wp_region_lit ?_
    refine s_one (.agg #[.int .i64 best.1, .int .i64 best.2]) A49 S44 (g_load (g := g34) (off := 0) 0 (by kernel_rfl) rfl (by kernel_rfl)) rfl (fun ac A79 => ?_)
    refine s_store (g := g11) (off := 0) (v := .agg #[.int .i64 best.1, .int .i64 best.2]) 2 (#[.int .i64 best.1, .int .i64 best.2]) A79 S44 (by kernel_rfl) (by kernel_rfl) rfl (by kernel_rfl) (fun wc S81 => ?_)
    refine wpList_nil ?_
    refine n_then ?_
    refine wp_ret ?_
    refine fin1 (.agg #[.int .i64 best.1, .int .i64 best.2]) Try.results27 A79 S81 (rv_cell (g := g11) (off := 0) 2 (by kernel_rfl) rfl (by kernel_rfl)) ⟨?_, S81.kp⟩
    rw [HF, pk_end (by omega)]

end Go.Proofs.Ytfooefkgdcjlhaa
