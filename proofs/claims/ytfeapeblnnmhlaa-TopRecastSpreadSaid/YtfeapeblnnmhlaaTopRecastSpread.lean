/- TopRecastSpread returns true for all arrays, laws, clocks and places: recast to another clock, a spread ends later by at most its step, and earlier by at most it. No condition. -/
import Derived.Test.YtfeapeblnnmhlaaRecastLaw
namespace Go.Proofs.Ytfeapeblnnmhlaa.topRecastSpread
open Go.ChangeShapes Go.WideShapes Go.ChangeAt Go.RowKit Go.Deep Go.Cpl
set_option maxHeartbeats 0 in
theorem closed : joinedFacts Try.pinned.checked.prog 4 Try.f4 Rows.topRecastSpreadSpec Rows.topRecastSpreadRow = true := by
  unfold joinedFacts
  repeat' (with_reducible refine and_in ?_ ?_)
  all_goals (as_aux_lemma => kernel_rfl)

set_option maxRecDepth 100000 in
theorem lifted (os : Os) (started : os.Started) (H : Type) (enc : TypeId × Value → H) :
    ReturnsInHanded {} Try.checked os 4 .any (Rows.topRecastSpreadSpec.pre6 enc Try.prog Try.f4 Rows.topRecastSpreadRow.domain false) (Rows.topRecastSpreadSpec.post enc Try.prog Try.f4 false true false false) := by
  refine returnsInHanded_of_change (C := Try.checked) own_ started (by kernel_rfl) Try.func4
    (ChangeSpec.witness6 (enc := enc) (C := Try.checked) false ⟨#[], #[.agg #[.slice none 0 0, .int .i64 0, .int .i64 0, .int .i64 0, .int .i64 0, .int .i64 0], .agg #[.int .i64 0, .slice none 0 0], .agg #[.int .i64 0, .int .i64 0, .int .i64 0]], []⟩ 8 (by kernel_rfl) (by kernel_rfl) (by kernel_rfl) (by kernel_rfl)) ?_
  intro W base args ds gs before hval0 hW hcnd _
  have hval : ∀ (j : Nat) t v, Try.f4.params[j]? = some t → args[j]? = some v → Value.okWide Try.prog W .any base t v := hval0
  have hW' := hW
  obtain ⟨p, q, hA0, hV, rfl, hfz, hnd⟩ := hW
  have hA : DataW.TrodAll enc Try.prog W 0 (fun _ => true) true Try.f4.params.toList args.toList ds p := hA0
  rw [Try.params4] at hA hval
  obtain ⟨v0, vs0, d0, ds0, p0, q0, hargs, rfl, rfl, h0, r0⟩ := trodAll_cons hA
  obtain ⟨v1, vs1, d1, ds1, p1, q1, rfl, rfl, rfl, h1, r1⟩ := trodAll_cons r0
  obtain ⟨v2, vs2, d2, ds2, p2, q2, rfl, rfl, rfl, h2, r2⟩ := trodAll_cons r1
  obtain ⟨rfl, rfl, rfl⟩ := trodAll_nil r2
  obtain rfl : args = #[v0, v1, v2] := by cases args; simp_all
  obtain ⟨rfl, rfl⟩ := trodVars_none hV
  obtain ⟨cs0, rfl, hz0⟩ := okWide_struct Try.underlying26 (hval 0 26 v0 rfl rfl)
  obtain ⟨hs0, nn0, hf0⟩ := open_fld Try.underlying26 h0
  obtain ⟨c0_0, c0_1, c0_2, c0_3, c0_4, c0_5, rfl⟩ := varr6 (hs0.trans (show Try.prog.cellsOf 26 = 6 by kernel_rfl))
  obtain ⟨x0_0, hx0_0⟩ := hf0 0 _ rfl
  have hy0_0 : DataW.trod enc Try.prog W 0 (fun _ => true) true nn0 22 [c0_0] = some x0_0 := hx0_0
  obtain ⟨EA, n, ecap, el, rfl, hne, hme, hre, hbe⟩ := open_slV 2 3 Try.underlying22 (by kernel_rfl) (by kernel_rfl) (by kernel_rfl) hy0_0
  obtain ⟨x0_1, hx0_1⟩ := hf0 1 _ rfl
  have hy0_1 : DataW.trod enc Try.prog W 0 (fun _ => true) true nn0 24 [c0_1, c0_2, c0_3, c0_4] = some x0_1 := hx0_1
  obtain ⟨L0_1, e0_1, hn0_1, hb0_1⟩ := trod_allI 5 24 (by kernel_rfl) _ _ _ hy0_1
  obtain ⟨mw, md, ms, mt, rfl⟩ := list4 (hn0_1.trans (show Try.prog.cellsOf 24 = 4 by kernel_rfl))
  obtain ⟨rfl, rfl, rfl, rfl⟩ := rowI4 e0_1
  obtain ⟨x0_2, hx0_2⟩ := hf0 2 _ rfl
  have hy0_2 : DataW.trod enc Try.prog W 0 (fun _ => true) true nn0 3 [c0_5] = some x0_2 := hx0_2
  obtain ⟨L0_2, e0_2, hn0_2, hb0_2⟩ := trod_allI 5 3 (by kernel_rfl) _ _ _ hy0_2
  obtain ⟨ck, rfl⟩ := list1 (hn0_2.trans (show Try.prog.cellsOf 3 = 1 by kernel_rfl))
  obtain rfl := rowI1 e0_2
  have k0 := h0
  have lt0 : ∀ x ∈ p0, x.block < W.heap.size := by obtain ⟨m_, hm_⟩ := k0; exact DataW.trod_lt m_ _ _ _ hm_
  obtain ⟨cs1, rfl, hz1⟩ := okWide_struct Try.underlying32 (hval 1 32 v1 rfl rfl)
  obtain ⟨hs1, nn1, hf1⟩ := open_fld Try.underlying32 h1
  obtain ⟨c1_0, c1_1, rfl⟩ := varr2 (hs1.trans (show Try.prog.cellsOf 32 = 2 by kernel_rfl))
  obtain ⟨x1_0, hx1_0⟩ := hf1 0 _ rfl
  have hy1_0 : DataW.trod enc Try.prog W 0 (fun _ => true) true nn1 3 [c1_0] = some x1_0 := hx1_0
  obtain ⟨L1_0, e1_0, hn1_0, hb1_0⟩ := trod_allI 5 3 (by kernel_rfl) _ _ _ hy1_0
  obtain ⟨lc, rfl⟩ := list1 (hn1_0.trans (show Try.prog.cellsOf 3 = 1 by kernel_rfl))
  obtain rfl := rowI1 e1_0
  obtain ⟨x1_1, hx1_1⟩ := hf1 1 _ rfl
  have hy1_1 : DataW.trod enc Try.prog W 0 (fun _ => true) true nn1 30 [c1_1] = some x1_1 := hx1_1
  obtain ⟨TA, m, tcap, tl, rfl, hnt, hmt, hrt, hbt⟩ := open_slV 1 3 Try.underlying30 (by kernel_rfl) (by kernel_rfl) (by kernel_rfl) hy1_1
  have k1 := h1
  have lt1 : ∀ x ∈ p1, x.block < W.heap.size := by obtain ⟨m_, hm_⟩ := k1; exact DataW.trod_lt m_ _ _ _ hm_
  obtain ⟨cs2, rfl, hz2⟩ := okWide_struct Try.underlying46 (hval 2 46 v2 rfl rfl)
  obtain ⟨L2, rfl, hn2, hb2⟩ := open_aggI 5 (by kernel_rfl) h2
  obtain ⟨nc, tx, tz, rfl⟩ := list3 (hn2.trans (show Try.prog.cellsOf 46 = 3 by kernel_rfl))
  have k2 := h2
  have lt2 : ∀ x ∈ p2, x.block < W.heap.size := by obtain ⟨m, hm⟩ := k2; exact DataW.trod_lt m _ _ _ hm
  clear hA0 hval0
  refine (TopRecastSpread_s EA n ecap el mw md ms mt ck TA m tcap tl lc nc tx tz W hne hre hnt hrt).mono fun e W' ⟨he, bel⟩ => ?_
  subst he
  exact ⟨_, rfl, _, _, _, [], _, [], hW', trodAll_mk1 (shut_bool Try.underlying4 _), (trodAll_cons_mk (Below.trod laidOut_ (by kernel_rfl) (of_decide_eq_true (by kernel_rfl)) k0 bel lt0) (trodAll_cons_mk (Below.trod laidOut_ (by kernel_rfl) (of_decide_eq_true (by kernel_rfl)) k1 bel lt1) (trodAll_cons_mk (Below.trod laidOut_ (by kernel_rfl) (of_decide_eq_true (by kernel_rfl)) k2 bel lt2) trodAll_mk0))), rfl, bel.frame _, fun h => by cases h⟩

theorem over : Rows.topRecastSpreadRow.holds Try.pinned (OpenSpec.ofChange Rows.topRecastSpreadSpec) :=
  OpenClaim.holds_of_wide 4 Try.f4 rfl rfl rfl rfl rfl rfl rfl ⟨rfl, rfl, rfl, rfl, rfl⟩ rfl rfl rfl rfl rfl (by kernel_rfl) Try.func4 closed
    (of_decide_eq_true (by kernel_rfl)) (by (unfold Func.isWrapper; first | (rw [if_pos (by decide +kernel)]; kernel_rfl) | (rw [if_neg (by decide +kernel)]; exact ⟨rfl, rfl⟩)))
    (fun os started H enc _ => lifted os started H enc)

theorem proved : Rows.TopRecastSpreadSaid := over
end Go.Proofs.Ytfeapeblnnmhlaa.topRecastSpread
