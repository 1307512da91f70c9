/- RayFirst returns true for all lists of modes and places: MayBeFirst returns what the document specifies, or the errors; one at least may be first. No condition. -/
import Derived.Test.YtnfmfkejhgbipaaFirstLaw
namespace Go.Proofs.Ytnfmfkejhgbipaa.rayFirst
open Go.ChangeShapes Go.WideShapes Go.ChangeAt Go.RowKit Go.Deep Go.Cpl
set_option maxHeartbeats 0 in
theorem closed : joinedFacts Try.pinned.checked.prog 18 Try.f18 Rows.rayFirstSpec Rows.rayFirstRow = true := by
  unfold joinedFacts
  repeat' (with_reducible refine and_in ?_ ?_)
  all_goals (as_aux_lemma => kernel_rfl)

set_option maxRecDepth 100000 in
theorem lifted (os : Os) (started : os.Started) (H : Type) (enc : TypeId × Value → H) :
    ReturnsInHanded {} Try.checked os 18 .any (Rows.rayFirstSpec.pre6 enc Try.prog Try.f18 Rows.rayFirstRow.domain false) (Rows.rayFirstSpec.post enc Try.prog Try.f18 false true false false) := by
  refine returnsInHanded_of_change (C := Try.checked) own_ started (by kernel_rfl) Try.func18
    (ChangeSpec.witness6 (enc := enc) (C := Try.checked) false ⟨#[], #[.slice none 0 0, .agg #[.int .i64 0, .int .i64 0], .agg #[.int .i64 0, .int .i64 0]], []⟩ 8 (by kernel_rfl) (by kernel_rfl) (by kernel_rfl) (by kernel_rfl)) ?_
  intro W base args ds gs before hval0 hW hcnd _
  have hval : ∀ (j : Nat) t v, Try.f18.params[j]? = some t → args[j]? = some v → Value.okWide Try.prog W .any base t v := hval0
  have hW' := hW
  obtain ⟨p, q, hA0, hV, rfl, hfz, hnd⟩ := hW
  have hA : DataW.TrodAll enc Try.prog W 0 (fun _ => true) true Try.f18.params.toList args.toList ds p := hA0
  rw [Try.params18] at hA hval
  obtain ⟨v0, vs0, d0, ds0, p0, q0, hargs, rfl, rfl, h0, r0⟩ := trodAll_cons hA
  obtain ⟨v1, vs1, d1, ds1, p1, q1, rfl, rfl, rfl, h1, r1⟩ := trodAll_cons r0
  obtain ⟨v2, vs2, d2, ds2, p2, q2, rfl, rfl, rfl, h2, r2⟩ := trodAll_cons r1
  obtain ⟨rfl, rfl, rfl⟩ := trodAll_nil r2
  obtain rfl : args = #[v0, v1, v2] := by cases args; simp_all
  obtain ⟨rfl, rfl⟩ := trodVars_none hV
  obtain ⟨A, n, cap, rfl⟩ := okWide_slice Try.underlying108 (hval 0 108 v0 rfl rfl)
  obtain ⟨l, hn0, hm0, hr0, hb0⟩ := open_slF 4 3 Try.underlying108 (by kernel_rfl) (by kernel_rfl) (by kernel_rfl) h0
  have k0 := h0
  have lt0 : ∀ x ∈ p0, x.block < W.heap.size := by obtain ⟨m, hm⟩ := k0; exact DataW.trod_lt m _ _ _ hm
  obtain ⟨cs1, rfl, hz1⟩ := okWide_struct Try.underlying41 (hval 1 41 v1 rfl rfl)
  obtain ⟨L1, rfl, hn1, hb1⟩ := open_aggI 5 (by kernel_rfl) h1
  obtain ⟨fx, fz, rfl⟩ := list2 (hn1.trans (show Try.prog.cellsOf 41 = 2 by kernel_rfl))
  have k1 := h1
  have lt1 : ∀ x ∈ p1, x.block < W.heap.size := by obtain ⟨m, hm⟩ := k1; exact DataW.trod_lt m _ _ _ hm
  obtain ⟨cs2, rfl, hz2⟩ := okWide_struct Try.underlying41 (hval 2 41 v2 rfl rfl)
  obtain ⟨L2, rfl, hn2, hb2⟩ := open_aggI 5 (by kernel_rfl) h2
  obtain ⟨tx, tz, rfl⟩ := list2 (hn2.trans (show Try.prog.cellsOf 41 = 2 by kernel_rfl))
  have k2 := h2
  have lt2 : ∀ x ∈ p2, x.block < W.heap.size := by obtain ⟨m, hm⟩ := k2; exact DataW.trod_lt m _ _ _ hm
  clear hA0 hval0
  refine (RayFirst_s l A cap n fx fz tx tz W hn0 hr0).mono fun e W' ⟨he, bel⟩ => ?_
  subst he
  exact ⟨_, rfl, _, _, _, [], _, [], hW', trodAll_mk1 (shut_bool Try.underlying4 _), (trodAll_cons_mk (Below.trod laidOut_ (by kernel_rfl) (of_decide_eq_true (by kernel_rfl)) k0 bel lt0) (trodAll_cons_mk (Below.trod laidOut_ (by kernel_rfl) (of_decide_eq_true (by kernel_rfl)) k1 bel lt1) (trodAll_cons_mk (Below.trod laidOut_ (by kernel_rfl) (of_decide_eq_true (by kernel_rfl)) k2 bel lt2) trodAll_mk0))), rfl, bel.frame _, fun h => by cases h⟩

theorem over : Rows.rayFirstRow.holds Try.pinned (OpenSpec.ofChange Rows.rayFirstSpec) :=
  OpenClaim.holds_of_wide 18 Try.f18 rfl rfl rfl rfl rfl rfl rfl ⟨rfl, rfl, rfl, rfl, rfl⟩ rfl rfl rfl rfl rfl (by kernel_rfl) Try.func18 closed
    (of_decide_eq_true (by kernel_rfl)) (by (unfold Func.isWrapper; first | (rw [if_pos (by decide +kernel)]; kernel_rfl) | (rw [if_neg (by decide +kernel)]; exact ⟨rfl, rfl⟩)))
    (fun os started H enc _ => lifted os started H enc)

theorem proved : Rows.RayFirstSaid := over
end Go.Proofs.Ytnfmfkejhgbipaa.rayFirst
