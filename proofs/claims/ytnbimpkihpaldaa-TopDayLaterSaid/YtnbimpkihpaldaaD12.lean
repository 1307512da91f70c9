/- The example. -/
import Derived.Test.YtnbimpkihpaldaaD11
namespace Go.Proofs.Ytnbimpkihpaldaa
open Go.RowKit Go.Cpl

def twoS : List Sp := [⟨[119, 101, 100, 103, 101], 100, 50, []⟩, ⟨[103, 97, 105, 110], 50, 50, [0]⟩]
def doneE : List Int := [0, 0, 200, 10, 1, 210]
theorem blk_ir {w : World} {g : Nat} {t : TypeId} {cs : Array Value} {l : List Int} (hb : Blk w g t cs) (hc : cs.toList = rowI l) : IReads w (some ⟨g, 0, none⟩) l := by
  intro k hk
  refine ⟨_, rfl, ?_⟩
  rw [add_zero_off, Blk.cell hb]
  show cs[k]? = _
  rw [← Array.getElem?_toList, hc, rowI_get hk]
theorem two_reads {w : World} {g1 g2 : Nat} (h1 : Blk w g1 59 #[.string ⟨([119, 101, 100, 103, 101] : List UInt8).toArray⟩, .int .i64 100, .int .i64 50, .slice none 0 0, .string ⟨([103, 97, 105, 110] : List UInt8).toArray⟩, .int .i64 50, .int .i64 50, .slice (some ⟨g2, 0, none⟩) 1 1]) (h2 : Blk w g2 3 #[.int .i64 0]) : SpReads w (some ⟨g1, 0, none⟩) twoS := by
  intro k hk
  have hk2 : k = 0 ∨ k = 1 := by have : twoS.length = 2 := rfl; omega
  rcases hk2 with rfl | rfl
  · refine ⟨⟨g1, 0, none⟩, none, 0, rfl, ⟨fun j x hx => ?_, fun i hi => absurd hi (Nat.not_lt_zero _), by decide, by decide⟩⟩
    have hj : j < 4 := (List.getElem?_eq_some_iff.1 hx).1
    rw [Addr.add_add, add_zero_off, Blk.cell h1]
    rcases (by omega : j = 0 ∨ j = 1 ∨ j = 2 ∨ j = 3) with rfl | rfl | rfl | rfl <;> exact hx
  · refine ⟨⟨g1, 0, none⟩, some ⟨g2, 0, none⟩, 1, rfl, ⟨fun j x hx => ?_, blk_ir (l := [0]) h2 rfl, by decide, by decide⟩⟩
    have hj : j < 4 := (List.getElem?_eq_some_iff.1 hx).1
    rw [Addr.add_add, add_zero_off, Blk.cell h1]
    rcases (by omega : j = 0 ∨ j = 1 ∨ j = 2 ∨ j = 3) with rfl | rfl | rfl | rfl <;> exact hx
theorem two_cases {p : Nat → Prop} (h0 : p 0) (h1 : p 1) : ∀ k, k < 2 → p k := by
  intro k hk
  rcases (by omega : k = 0 ∨ k = 1) with rfl | rfl
  · exact h0
  · exact h1
theorem two_good : GoodS twoS := by
  refine ⟨by decide, two_cases (p := fun i => nameB (spK twoS i).nm = true) (by decide) (by decide), ?_, two_cases (p := fun i => ∀ k, 0 < k → k < (spK twoS i).ne.length → nthI (spK twoS i).ne (k - 1) < nthI (spK twoS i).ne k) ?_ ?_, two_cases (p := fun i => ∀ n ∈ (spK twoS i).ne, 0 ≤ n ∧ n < (i : Int)) ?_ ?_, two_cases (p := fun i => 1 ≤ (spK twoS i).la ∧ (spK twoS i).la ≤ 1000000) (by decide) (by decide), two_cases (p := fun i => 0 ≤ (spK twoS i).wa ∧ (spK twoS i).wa ≤ 2000) (by decide) (by decide)⟩
  · intro i k hk hi
    have h2 : twoS.length = 2 := rfl
    obtain ⟨rfl, rfl⟩ : k = 0 ∧ i = 1 := by omega
    decide
  · intro k h1 h2
    have : (spK twoS 0).ne.length = 0 := rfl
    omega
  · intro k h1 h2
    have : (spK twoS 1).ne.length = 1 := rfl
    omega
  · intro n hn; cases hn
  · intro n hn
    have : n = 0 := by simpa [spK, twoS] using hn
    subst this; decide
theorem done_good : ∀ k, k < 2 → GoodE twoS doneE k := by
  refine two_cases ?_ ?_
  · refine ⟨by decide, by decide, by decide, fun h => absurd h (by decide), fun _ n hn => ?_⟩
    cases hn
  · refine ⟨by decide, by decide, by decide, fun _ => by decide, fun _ n hn => ?_⟩
    have : n = 0 := by simpa [spK, twoS, doneE, nthI] using hn
    subst this; rfl
theorem until_two (A : Option Addr) (cap : Nat) (EA : Option Addr) (ec : Nat) (w : World) (hr : SpReads w A twoS) (hc : 2 ≤ cap) (hre : IReads w EA doneE) : Calls Try.prog 11 #[.slice A 2 cap, .slice EA 2 ec, .int .i64 1] w fun e w' => e = .returned (.tuple #[.int .i64 60, .int .i64 0]) ∧ Below w.heap.size w w' := by
  have h := UntilOf_x A cap twoS EA 2 ec doneE 1 1 w rfl (by decide) hr hc hre rfl (by decide) two_good done_good
  have e1 : utI twoS doneE 2 1 = 60 := by decide
  have e2 : utZ twoS doneE 2 1 = 0 := by decide
  rw [e1, e2] at h
  exact h

set_option maxRecDepth 100000 in
set_option maxHeartbeats 400000 in
theorem Two_s  (w0 : World) :
    Calls Try.prog 12 #[] w0 fun e w' => ∃ u : Nat × Nat, e = .returned (.slice (some ⟨u.1, 0, none⟩) 2 2) ∧ St w0 [⟨u.1, 59, #[.string ⟨([119, 101, 100, 103, 101] : List UInt8).toArray⟩, .int .i64 100, .int .i64 50, .slice none 0 0, .string ⟨([103, 97, 105, 110] : List UInt8).toArray⟩, .int .i64 50, .int .i64 50, .slice (some ⟨u.2, 0, none⟩) 1 1], true⟩, ⟨u.2, 3, #[.int .i64 0], true⟩] [] w' := by
  have S0 := St.start w0
  refine enter (n := 5) Try.func12 rfl rfl rfl (fun ac A0 => ?_)
  refine wp_seq ?_
  refine wp_region_lit ?_
  refine s_one (.slice none 0 0) A0 S0 (g_assign (by kernel_rfl)) rfl (fun ac A1 => ?_)
  refine wpList_nil ?_
  refine n_then ?_
  refine wp_seq ?_
  refine wp_region_lit ?_
  refine s_one (.agg #[.string ⟨([119, 101, 100, 103, 101] : List UInt8).toArray⟩, .int .i64 100, .int .i64 50, .slice none 0 0]) A1 S0 (g_build (r := [(0, .string ⟨([119, 101, 100, 103, 101] : List UInt8).toArray⟩), (1, .int .i64 100), (2, .int .i64 50)]) (by kernel_rfl) (fun _ => by kernel_rfl)) rfl (fun ac A2 => ?_)
  refine s_bs (e := 3) (r := [(0, .int .i64 0)]) (#[.int .i64 0]) A2 S0 (by kernel_rfl) (by kernel_rfl) rfl (fun g5 ac wc A3 S4 => ?_)
  refine s_one (.agg #[.string ⟨([103, 97, 105, 110] : List UInt8).toArray⟩, .int .i64 50, .int .i64 50, .slice (some ⟨g5, 0, none⟩) 1 1]) A3 S4 (g_build (r := [(0, .string ⟨([103, 97, 105, 110] : List UInt8).toArray⟩), (1, .int .i64 50), (2, .int .i64 50), (3, .slice (some ⟨g5, 0, none⟩) 1 1)]) (by kernel_rfl) (fun _ => by kernel_rfl)) rfl (fun ac A6 => ?_)
  refine s_bs (e := 59) (r := [(0, .agg #[.string ⟨([119, 101, 100, 103, 101] : List UInt8).toArray⟩, .int .i64 100, .int .i64 50, .slice none 0 0]), (1, .agg #[.string ⟨([103, 97, 105, 110] : List UInt8).toArray⟩, .int .i64 50, .int .i64 50, .slice (some ⟨g5, 0, none⟩) 1 1])]) (#[.string ⟨([119, 101, 100, 103, 101] : List UInt8).toArray⟩, .int .i64 100, .int .i64 50, .slice none 0 0, .string ⟨([103, 97, 105, 110] : List UInt8).toArray⟩, .int .i64 50, .int .i64 50, .slice (some ⟨g5, 0, none⟩) 1 1]) A6 S4 (by kernel_rfl) (by kernel_rfl) rfl (fun g9 ac wc A7 S8 => ?_)
  refine s_one (.slice (some ⟨g9, 0, none⟩) 2 2) A7 S8 (g_assign (by kernel_rfl)) rfl (fun ac A10 => ?_)
  refine wpList_nil ?_
  refine n_then ?_
  refine wp_ret ?_
  refine fin1 (.slice (some ⟨g9, 0, none⟩) 2 2) Try.results12 A10 S8 (rv_tmp (by kernel_rfl)) ⟨(g9, g5), rfl, S8.sub sub_all sub_all⟩

set_option maxRecDepth 100000 in
set_option maxHeartbeats 400000 in
theorem Done_s  (w0 : World) :
    Calls Try.prog 13 #[] w0 fun e w' => ∃ u : Nat, e = .returned (.slice (some ⟨u, 0, none⟩) 2 2) ∧ St w0 [⟨u, 30, #[.int .i64 0, .int .i64 0, .int .i64 200, .int .i64 10, .int .i64 1, .int .i64 210], true⟩] [] w' := by
  have S0 := St.start w0
  refine enter (n := 4) Try.func13 rfl rfl rfl (fun ac A0 => ?_)
  refine wp_seq ?_
  refine wp_region_lit ?_
  refine s_one (.slice none 0 0) A0 S0 (g_assign (by kernel_rfl)) rfl (fun ac A1 => ?_)
  refine wpList_nil ?_
  refine n_then ?_
  refine wp_seq ?_
  refine wp_region_lit ?_
  refine s_one (.agg #[.int .i64 0, .int .i64 0, .int .i64 200]) A1 S0 (g_build (r := [(0, .int .i64 0), (1, .int .i64 0), (2, .int .i64 200)]) (by kernel_rfl) (fun _ => by kernel_rfl)) rfl (fun ac A2 => ?_)
  refine s_one (.agg #[.int .i64 10, .int .i64 1, .int .i64 210]) A2 S0 (g_build (r := [(0, .int .i64 10), (1, .int .i64 1), (2, .int .i64 210)]) (by kernel_rfl) (fun _ => by kernel_rfl)) rfl (fun ac A3 => ?_)
  refine s_bs (e := 30) (r := [(0, .agg #[.int .i64 0, .int .i64 0, .int .i64 200]), (1, .agg #[.int .i64 10, .int .i64 1, .int .i64 210])]) (#[.int .i64 0, .int .i64 0, .int .i64 200, .int .i64 10, .int .i64 1, .int .i64 210]) A3 S0 (by kernel_rfl) (by kernel_rfl) rfl (fun g6 ac wc A4 S5 => ?_)
  refine s_one (.slice (some ⟨g6, 0, none⟩) 2 2) A4 S5 (g_assign (by kernel_rfl)) rfl (fun ac A7 => ?_)
  refine wpList_nil ?_
  refine n_then ?_
  refine wp_ret ?_
  refine fin1 (.slice (some ⟨g6, 0, none⟩) 2 2) Try.results13 A7 S5 (rv_tmp (by kernel_rfl)) ⟨g6, rfl, S5.sub sub_all sub_all⟩

set_option maxRecDepth 100000 in
set_option maxHeartbeats 400000 in
theorem tuned_s  (w0 : World) :
    Calls Try.prog 4 #[] w0 fun e w' => e = .returned (.bool true) ∧ Below w0.heap.size w0 w' := by
  have S0 := St.start w0
  refine enter (n := 33) Try.func4 rfl rfl rfl (fun ac A0 => ?_)
  refine wp_seq ?_
  refine wp_region_lit ?_
  refine s_one (.bool false) A0 S0 (g_assign (by kernel_rfl)) rfl (fun ac A1 => ?_)
  refine wpList_nil ?_
  refine n_then ?_
  refine wp_seq ?_
  refine wp_region_lit ?_
  refine s_callSt (T := Nat × Nat) (fs := #[]) (cp := #[]) (r := []) #[] (fun u => .slice (some ⟨u.1, 0, none⟩) 2 2) (fun u => [⟨u.1, 59, #[.string ⟨([119, 101, 100, 103, 101] : List UInt8).toArray⟩, .int .i64 100, .int .i64 50, .slice none 0 0, .string ⟨([103, 97, 105, 110] : List UInt8).toArray⟩, .int .i64 50, .int .i64 50, .slice (some ⟨u.2, 0, none⟩) 1 1], true⟩, ⟨u.2, 3, #[.int .i64 0], true⟩]) (fun u => []) A1 S0 (Two_s _) (fun u x hx => by simp only [List.mem_cons, List.not_mem_nil, or_false] at hx; rcases hx with rfl | rfl <;> rfl) Try.call12 (by kernel_rfl) (by kernel_rfl) (by kernel_rfl) rfl (fun u7 ac wc A2 S3 => ?_)
  obtain ⟨g5, g6⟩ := u7
  replace S3 : St w0 [⟨g5, 59, #[.string ⟨([119, 101, 100, 103, 101] : List UInt8).toArray⟩, .int .i64 100, .int .i64 50, .slice none 0 0, .string ⟨([103, 97, 105, 110] : List UInt8).toArray⟩, .int .i64 50, .int .i64 50, .slice (some ⟨g6, 0, none⟩) 1 1], true⟩, ⟨g6, 3, #[.int .i64 0], true⟩] [] _ := S3
  refine s_callSt (T := Nat) (fs := #[]) (cp := #[]) (r := []) #[] (fun u => .slice (some ⟨u, 0, none⟩) 2 2) (fun u => [⟨u, 30, #[.int .i64 0, .int .i64 0, .int .i64 200, .int .i64 10, .int .i64 1, .int .i64 210], true⟩]) (fun u => []) A2 S3 (Done_s _) (fun u x hx => by simp only [List.mem_cons, List.not_mem_nil, or_false] at hx; subst hx; rfl) Try.call13 (by kernel_rfl) (by kernel_rfl) (by kernel_rfl) rfl (fun u12 ac wc A8 S9 => ?_)
  replace S9 : St w0 [⟨u12, 30, #[.int .i64 0, .int .i64 0, .int .i64 200, .int .i64 10, .int .i64 1, .int .i64 210], true⟩, ⟨g5, 59, #[.string ⟨([119, 101, 100, 103, 101] : List UInt8).toArray⟩, .int .i64 100, .int .i64 50, .slice none 0 0, .string ⟨([103, 97, 105, 110] : List UInt8).toArray⟩, .int .i64 50, .int .i64 50, .slice (some ⟨g6, 0, none⟩) 1 1], true⟩, ⟨g6, 3, #[.int .i64 0], true⟩] [] _ := S9
  refine s_call (fs := #[]) (cp := #[]) (r := [(0, .slice (some ⟨g5, 0, none⟩) 2 2), (0, .slice (some ⟨u12, 0, none⟩) 2 2), (0, .int .i64 1)]) #[.slice (some ⟨g5, 0, none⟩) 2 2, .slice (some ⟨u12, 0, none⟩) 2 2, .int .i64 1] (.tuple #[.int .i64 60, .int .i64 0]) A8 S9 (until_two (some ⟨g5, 0, none⟩) 2 (some ⟨u12, 0, none⟩) 2 _ (two_reads (S9.get 1 rfl) (S9.get 2 rfl)) (by decide) (blk_ir (l := doneE) (S9.get 0 rfl) rfl)) Try.call11 (by kernel_rfl) (by kernel_rfl) (by kernel_rfl) rfl (fun ac wc A13 S14 => ?_)
  refine s_one (.tuple #[.int .i64 60, .int .i64 0]) A13 S14 (g_move (by kernel_rfl)) rfl (fun ac A16 => ?_)
  refine s_one (.int .i64 60) A16 S14 (g_extract (u := .tuple #[.int .i64 60, .int .i64 0]) (by kernel_rfl) (fun _ => by kernel_rfl)) rfl (fun ac A17 => ?_)
  refine s_one (.int .i64 0) A17 S14 (g_extract (u := .tuple #[.int .i64 60, .int .i64 0]) (by kernel_rfl) (fun _ => by kernel_rfl)) rfl (fun ac A18 => ?_)
  refine s_one (.int .i64 60) A18 S14 (g_assign (by kernel_rfl)) rfl (fun ac A19 => ?_)
  refine s_one (.int .i64 0) A19 S14 (g_assign (by kernel_rfl)) rfl (fun ac A20 => ?_)
  refine wpList_nil ?_
  refine n_then ?_
  refine wp_seq ?_
  refine wp_region_lit ?_
  refine s_one (.agg #[.int .i64 1000, .int .i64 800]) A20 S14 (g_build (r := [(0, .int .i64 1000), (1, .int .i64 800)]) (by kernel_rfl) (fun _ => by kernel_rfl)) rfl (fun ac A21 => ?_)
  refine s_one (.agg #[.int .i64 2000, .int .i64 400]) A21 S14 (g_build (r := [(0, .int .i64 2000), (1, .int .i64 400)]) (by kernel_rfl) (fun _ => by kernel_rfl)) rfl (fun ac A22 => ?_)
  refine s_bs (e := 48) (r := [(0, .agg #[.int .i64 1000, .int .i64 800]), (1, .agg #[.int .i64 2000, .int .i64 400])]) (#[.int .i64 1000, .int .i64 800, .int .i64 2000, .int .i64 400]) A22 S14 (by kernel_rfl) (by kernel_rfl) rfl (fun g25 ac wc A23 S24 => ?_)
  refine s_call (fs := #[]) (cp := #[]) (r := [(0, .slice (some ⟨g25, 0, none⟩) 2 2), (0, .int .i64 1500), (0, .int .i64 600)]) #[.slice (some ⟨g25, 0, none⟩) 2 2, .int .i64 1500, .int .i64 600] (.tuple #[.agg #[.int .i64 1000, .int .i64 1000], .int .i64 0]) A23 S24 (GainAt_t (some ⟨g25, 0, none⟩) 2 _ (blk_ir (l := [1000, 800, 2000, 400]) (S24.get 0 rfl) rfl)) Try.call14 (by kernel_rfl) (by kernel_rfl) (by kernel_rfl) rfl (fun ac wc A26 S27 => ?_)
  refine s_one (.tuple #[.agg #[.int .i64 1000, .int .i64 1000], .int .i64 0]) A26 S27 (g_move (by kernel_rfl)) rfl (fun ac A29 => ?_)
  refine s_one (.agg #[.int .i64 1000, .int .i64 1000]) A29 S27 (g_extract (u := .tuple #[.agg #[.int .i64 1000, .int .i64 1000], .int .i64 0]) (by kernel_rfl) (fun _ => by kernel_rfl)) rfl (fun ac A30 => ?_)
  refine s_one (.int .i64 0) A30 S27 (g_extract (u := .tuple #[.agg #[.int .i64 1000, .int .i64 1000], .int .i64 0]) (by kernel_rfl) (fun _ => by kernel_rfl)) rfl (fun ac A31 => ?_)
  refine s_alloc (#[.int .i64 0, .int .i64 0]) A31 S27 (by kernel_rfl) rfl (fun g34 ac wc A32 S33 => ?_)
  refine s_store (g := g34) (off := 0) (v := .agg #[.int .i64 1000, .int .i64 1000]) 0 (#[.int .i64 1000, .int .i64 1000]) A32 S33 (by kernel_rfl) (by kernel_rfl) rfl (by kernel_rfl) (fun wc S36 => ?_)
  refine s_one (.int .i64 0) A32 S36 (g_assign (by kernel_rfl)) rfl (fun ac A38 => ?_)
  refine wpList_nil ?_
  refine n_then ?_
  refine wp_seq ?_
  refine wp_region_lit ?_
  refine s_one (.int .i64 0) A38 S36 (g_move (by kernel_rfl)) rfl (fun ac A39 => ?_)
  refine s_one (.bool (decide (0 = 0))) A39 S36 (g_bin (u := .int .i64 0) (k := .int .i64 0) (by kernel_rfl) (by kernel_rfl) (fun _ => by kernel_rfl) b_eql) rfl (fun ac A40 => ?_)
  refine s_one (.bool (decide (0 = 0))) A40 S36 (g_move (by kernel_rfl)) rfl (fun ac A41 => ?_)
  refine s_want (dj := 20) (b := (decide (0 = 0))) A41 (by kernel_rfl) (by kernel_rfl) (by decide) ?_
  refine s_one (.int .i64 60) A41 S36 (g_move (by kernel_rfl)) rfl (fun ac A42 => ?_)
  refine s_want (dj := 20) (b := (decide (0 = 0))) A42 (by kernel_rfl) (by kernel_rfl) (by decide) ?_
  refine s_one (.bool (decide (60 = 60))) A42 S36 (g_bin (u := .int .i64 60) (k := .int .i64 60) (by kernel_rfl) (by kernel_rfl) (fun _ => by kernel_rfl) b_eql) rfl (fun ac A43 => ?_)
  refine s_one (.bool (decide (60 = 60))) A43 S36 (g_pick_t (b := (decide (0 = 0))) (by kernel_rfl) (by decide) (by kernel_rfl)) rfl (fun ac A44 => ?_)
  refine s_one (.bool (decide (60 = 60))) A44 S36 (g_move (by kernel_rfl)) rfl (fun ac A45 => ?_)
  refine s_want (dj := 24) (b := (decide (60 = 60))) A45 (by kernel_rfl) (by kernel_rfl) (by decide) ?_
  refine s_one (.int .i64 0) A45 S36 (g_move (by kernel_rfl)) rfl (fun ac A46 => ?_)
  refine s_want (dj := 24) (b := (decide (60 = 60))) A46 (by kernel_rfl) (by kernel_rfl) (by decide) ?_
  refine s_one (.bool (decide (0 = 0))) A46 S36 (g_bin (u := .int .i64 0) (k := .int .i64 0) (by kernel_rfl) (by kernel_rfl) (fun _ => by kernel_rfl) b_eql) rfl (fun ac A47 => ?_)
  refine s_one (.bool (decide (0 = 0))) A47 S36 (g_pick_t (b := (decide (60 = 60))) (by kernel_rfl) (by decide) (by kernel_rfl)) rfl (fun ac A48 => ?_)
  refine s_one (.bool (decide (0 = 0))) A48 S36 (g_move (by kernel_rfl)) rfl (fun ac A49 => ?_)
  refine s_want (dj := 28) (b := (decide (0 = 0))) A49 (by kernel_rfl) (by kernel_rfl) (by decide) ?_
  refine s_one (.agg #[.int .i64 1000, .int .i64 1000]) A49 S36 (g_load (g := g34) (off := 0) 0 (by kernel_rfl) rfl (by kernel_rfl)) rfl (fun ac A50 => ?_)
  refine s_want (dj := 28) (b := (decide (0 = 0))) A50 (by kernel_rfl) (by kernel_rfl) (by decide) ?_
  refine s_one (.agg #[.int .i64 1000, .int .i64 1000]) A50 S36 (g_build (r := [(0, .int .i64 1000), (1, .int .i64 1000)]) (by kernel_rfl) (fun _ => by kernel_rfl)) rfl (fun ac A51 => ?_)
  refine s_want (dj := 28) (b := (decide (0 = 0))) A51 (by kernel_rfl) (by kernel_rfl) (by decide) ?_
  refine s_one (.bool (decide ([1000, 1000] = [1000, 1000]))) A51 S36 (g_bin (u := .agg #[.int .i64 1000, .int .i64 1000]) (k := .agg #[.int .i64 1000, .int .i64 1000]) (by kernel_rfl) (by kernel_rfl) (fun _ => by kernel_rfl) (q_struct (n := 2) [1000, 1000] [1000, 1000] (by kernel_rfl) rfl rfl)) rfl (fun ac A52 => ?_)
  refine s_one (.bool (decide ([1000, 1000] = [1000, 1000]))) A52 S36 (g_pick_t (b := (decide (0 = 0))) (by kernel_rfl) (by decide) (by kernel_rfl)) rfl (fun ac A53 => ?_)
  refine s_one (.bool (decide ([1000, 1000] = [1000, 1000]))) A53 S36 (g_assign (by kernel_rfl)) rfl (fun ac A54 => ?_)
  refine wpList_nil ?_
  refine n_then ?_
  refine wp_ret ?_
  refine fin1 (.bool (decide ([1000, 1000] = [1000, 1000]))) Try.results4 A54 S36 (rv_tmp (by kernel_rfl)) ⟨?_, S36.kp⟩
  exact congrArg (fun b => Ending.returned (Value.bool b)) (decide_eq_true rfl)

end Go.Proofs.Ytnbimpkihpaldaa
