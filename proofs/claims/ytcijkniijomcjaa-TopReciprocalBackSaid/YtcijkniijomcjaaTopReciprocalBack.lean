/- TopReciprocalBack returns true for all matrices that are made, and all positions: the mean of a matrix and its transpose is its own transpose, unlike nowhere, also behind its way through the bytes of a frame; the mean of equal matrices is this one. No condition. -/
import Derived.Test.YtcijkniijomcjaaRb8
namespace Go.Proofs.Ytcijkniijomcjaa.topReciprocalBack
open Go.ChangeShapes Go.WideShapes Go.ChangeAt Go.RowKit Go.Deep Go.Cpl
set_option maxHeartbeats 0 in
theorem closed : joinedFacts Try.pinned.checked.prog 10 Try.f10 Rows.topReciprocalBackSpec Rows.topReciprocalBackRow = true := by
  unfold joinedFacts
  repeat' (with_reducible refine and_in ?_ ?_)
  all_goals (as_aux_lemma => kernel_rfl)

set_option maxRecDepth 100000 in
theorem lifted (os : Os) (started : os.Started) (H : Type) (enc : TypeId × Value → H) :
    ReturnsInHanded {} Try.checked os 10 .any (Rows.topReciprocalBackSpec.pre6 enc Try.prog Try.f10 Rows.topReciprocalBackRow.domain false) (Rows.topReciprocalBackSpec.post enc Try.prog Try.f10 false true false false) := by
  refine returnsInHanded_of_change (C := Try.checked) own_ started (by kernel_rfl) Try.func10
    (ChangeSpec.witness6 (enc := enc) (C := Try.checked) false ⟨#[], #[.agg #[.int .i64 0, .slice none 0 0, .slice none 0 0, .int .i64 0], .int .i64 0], []⟩ 8 (by kernel_rfl) (by kernel_rfl) (by kernel_rfl) (by kernel_rfl)) ?_
  intro W base args ds gs before hval0 hW hcnd _
  have hval : ∀ (j : Nat) t v, Try.f10.params[j]? = some t → args[j]? = some v → Value.okWide Try.prog W .any base t v := hval0
  have hW' := hW
  obtain ⟨p, q, hA0, hV, rfl, hfz, hnd⟩ := hW
  have hA : DataW.TrodAll enc Try.prog W 0 (fun _ => true) true Try.f10.params.toList args.toList ds p := hA0
  rw [Try.params10] at hA hval
  obtain ⟨v0, vs0, d0, ds0, p0, q0, hargs, rfl, rfl, h0, r0⟩ := trodAll_cons hA
  obtain ⟨v1, vs1, d1, ds1, p1, q1, rfl, rfl, rfl, h1, r1⟩ := trodAll_cons r0
  obtain ⟨rfl, rfl, rfl⟩ := trodAll_nil r1
  obtain rfl : args = #[v0, v1] := by cases args; simp_all
  obtain ⟨rfl, rfl⟩ := trodVars_none hV
  obtain ⟨cs0, rfl, hz0⟩ := okWide_struct Try.underlying25 (hval 0 25 v0 rfl rfl)
  obtain ⟨hs0, nn0, hf0⟩ := open_fld Try.underlying25 h0
  obtain ⟨c0_0, c0_1, c0_2, c0_3, rfl⟩ := varr4 (hs0.trans (show Try.prog.cellsOf 25 = 4 by kernel_rfl))
  obtain ⟨x0_0, hx0_0⟩ := hf0 0 _ rfl
  have hy0_0 : DataW.trod enc Try.prog W 0 (fun _ => true) true nn0 3 [c0_0] = some x0_0 := hx0_0
  obtain ⟨L0_0, e0_0, hn0_0, hb0_0⟩ := trod_allI 5 3 (by kernel_rfl) _ _ _ hy0_0
  obtain ⟨el, rfl⟩ := list1 (hn0_0.trans (show Try.prog.cellsOf 3 = 1 by kernel_rfl))
  obtain rfl := rowI1 e0_0
  obtain ⟨x0_1, hx0_1⟩ := hf0 1 _ rfl
  have hy0_1 : DataW.trod enc Try.prog W 0 (fun _ => true) true nn0 22 [c0_1] = some x0_1 := hx0_1
  obtain ⟨SA, sn, scap, sl, rfl, hns, hms, hrs, hbs⟩ := open_slV 2 3 Try.underlying22 (by kernel_rfl) (by kernel_rfl) (by kernel_rfl) hy0_1
  obtain ⟨x0_2, hx0_2⟩ := hf0 2 _ rfl
  have hy0_2 : DataW.trod enc Try.prog W 0 (fun _ => true) true nn0 23 [c0_2] = some x0_2 := hx0_2
  obtain ⟨RA, rn, rcap, rl, rfl, hnf, hmf, hrf⟩ := open_flV hy0_2
  obtain ⟨x0_3, hx0_3⟩ := hf0 3 _ rfl
  have hy0_3 : DataW.trod enc Try.prog W 0 (fun _ => true) true nn0 3 [c0_3] = some x0_3 := hx0_3
  obtain ⟨L0_3, e0_3, hn0_3, hb0_3⟩ := trod_allI 5 3 (by kernel_rfl) _ _ _ hy0_3
  obtain ⟨mo, rfl⟩ := list1 (hn0_3.trans (show Try.prog.cellsOf 3 = 1 by kernel_rfl))
  obtain rfl := rowI1 e0_3
  have k0 := h0
  have lt0 : ∀ x ∈ p0, x.block < W.heap.size := by obtain ⟨m_, hm_⟩ := k0; exact DataW.trod_lt m_ _ _ _ hm_
  obtain ⟨p, rfl⟩ := okWide_int Try.underlying3 (hval 1 3 v1 rfl rfl)
  have hb1 := open_intI 3 (by kernel_rfl) rfl h1
  have k1 := h1
  have lt1 : ∀ x ∈ p1, x.block < W.heap.size := by obtain ⟨m, hm⟩ := k1; exact DataW.trod_lt m _ _ _ hm
  clear hA0 hval0
  refine (TopReciprocalBack_s el SA sn scap sl RA rn rcap rl mo p W hns hrs hnf hrf).mono fun e W' ⟨he, bel⟩ => ?_
  subst he
  exact ⟨_, rfl, _, _, _, [], _, [], hW', trodAll_mk1 (shut_bool Try.underlying4 _), (trodAll_cons_mk (Below.trod laidOut_ (by kernel_rfl) (of_decide_eq_true (by kernel_rfl)) k0 bel lt0) (trodAll_cons_mk (Below.trod laidOut_ (by kernel_rfl) (of_decide_eq_true (by kernel_rfl)) k1 bel lt1) trodAll_mk0)), rfl, bel.frame _, fun h => by cases h⟩

theorem over : Rows.topReciprocalBackRow.holds Try.pinned (OpenSpec.ofChange Rows.topReciprocalBackSpec) :=
  OpenClaim.holds_of_wide 10 Try.f10 rfl rfl rfl rfl rfl rfl rfl ⟨rfl, rfl, rfl, rfl, rfl⟩ rfl rfl rfl rfl rfl (by kernel_rfl) Try.func10 closed
    (of_decide_eq_true (by kernel_rfl)) (by (unfold Func.isWrapper; first | (rw [if_pos (by decide +kernel)]; kernel_rfl) | (rw [if_neg (by decide +kernel)]; exact ⟨rfl, rfl⟩)))
    (fun os started H enc _ => lifted os started H enc)

theorem proved : Rows.TopReciprocalBackSaid := over
end Go.Proofs.Ytcijkniijomcjaa.topReciprocalBack
