import Derived.Test.YtnbimpkihpaldaaLa
/-! One event more: the plain law; a call that makes blocks, in a region that draws. -/
namespace Go.Proofs.Ytnbimpkihpaldaa
open Go.RowKit Go.Cpl
theorem rowI_3 (l : List Int) (a b c : Int) : rowI l ++ [.int .i64 a, .int .i64 b, .int .i64 c] = rowI (l ++ [a, b, c]) := by simp [rowI]
theorem ev_app {el : List Int} {en : Nat} (hel : el.length = en * 3) (a b c : Int) : nthI (el ++ [a, b, c]) (en * 3) = a ∧ nthI (el ++ [a, b, c]) (en * 3 + 1) = b ∧ nthI (el ++ [a, b, c]) (en * 3 + 2) = c ∧ ∀ j, j < en * 3 → nthI (el ++ [a, b, c]) j = nthI el j := by
  unfold nthI
  simp only [List.getD_eq_getElem?_getD]
  refine ⟨?_, ?_, ?_, fun j hj => ?_⟩
  · rw [List.getElem?_append_right (by omega), hel, Nat.sub_self]; rfl
  · rw [List.getElem?_append_right (by omega), hel, Nat.add_sub_cancel_left]; rfl
  · rw [List.getElem?_append_right (by omega), hel, Nat.add_sub_cancel_left]; rfl
  · rw [List.getElem?_append_left (by omega)]
theorem nthI_take {l : List Int} {k m : Nat} (h : k < m) : nthI (l.take m) k = nthI l k := by
  simp only [nthI, List.getD_eq_getElem?_getD, List.getElem?_take]
  rw [if_pos h]
theorem rdB_congr {ss : List Sp} {el em : List Int} {k : Nat} {mi wa : Int} (h : ∀ j, j < k * 3 → nthI el j = nthI em j) : rdB ss el k mi wa = rdB ss em k mi wa := by
  funext i
  unfold rdB
  rw [bk_congr h]
theorem GoodE.congr {ss : List Sp} {el em : List Int} {k : Nat} (h : ∀ j, j < (k + 1) * 3 → nthI el j = nthI em j) (g : GoodE ss el k) : GoodE ss em k := by
  have e0 := h (k * 3) (by omega)
  have e1 := h (k * 3 + 1) (by omega)
  have e2 := h (k * 3 + 2) (by omega)
  refine ⟨by rw [← e0]; exact g.m1, by rw [← e1]; exact g.s1, by rw [← e2]; exact g.w1, fun hk => ?_, fun hs n hn => ?_⟩
  · rw [← e0, ← h ((k - 1) * 3) (by omega)]; exact g.o1 hk
  · rw [← e0, ← e2, ← rdB_congr (fun j hj => h j (by omega))]
    rw [← e1] at hs hn
    exact g.n1 hs n hn
/-- A reading, and then what is valid: as what an event finds. -/
theorem rd_eq {ss : List Sp} {el : List Int} {en : Nat} (hel : el.length = en * 3) (mi st wa : Int) : bkF ss (el ++ [mi, -1, wa]) (en + 1) = rdB ss (el ++ [mi, st, wa]) en mi wa := by
  obtain ⟨h1, h2, h3, h4⟩ := ev_app hel mi (-1) wa
  obtain ⟨_, _, _, k4⟩ := ev_app hel mi st wa
  funext i
  show bkA (spK ss i) i (nthI (el ++ [mi, -1, wa]) (en * 3)) (nthI (el ++ [mi, -1, wa]) (en * 3 + 1)) (nthI (el ++ [mi, -1, wa]) (en * 3 + 2)) (bk ss (el ++ [mi, -1, wa]) i en) = bkA _ _ _ _ _ (bk ss (el ++ [mi, st, wa]) i en)
  rw [h1, h2, h3, bk_congr (em := el ++ [mi, st, wa]) (fun j hj => by rw [h4 j hj, k4 j hj])]
theorem ev_ord {el : List Int} {en : Nat} {m : Int} (h : (decide ((en : Int) > 0) && decide (m < nthI el ((en - 1) * 3 + 0))) = false) (hk : 0 < en) : nthI el ((en - 1) * 3) ≤ m := by
  rw [decide_eq_true (by omega), Bool.true_and] at h
  have := of_decide_eq_false h
  rw [Nat.add_zero] at this
  omega
theorem goodE_of {ss : List Sp} {el : List Int} {en : Nat} {mi st wa : Int} (hel : el.length = en * 3) (h1 : 0 ≤ mi ∧ mi ≤ 100000000) (h2 : -1 ≤ st ∧ st ≤ (ss.length : Int) - 1) (h3 : -2000 ≤ wa ∧ wa ≤ 2000) (h4 : (decide ((en : Int) > 0) && decide (mi < nthI el ((en - 1) * 3 + 0))) = false) (h5 : st ≠ -1 → ∀ k, k < (spK ss st.toNat).ne.length → vd ss (bkF ss (el ++ [mi, -1, wa]) (en + 1)) mi (nthI (spK ss st.toNat).ne k).toNat = true) : GoodE ss (el ++ [mi, st, wa]) en := by
  obtain ⟨e1, e2, e3, e4⟩ := ev_app hel mi st wa
  refine ⟨by rw [e1]; exact h1, by rw [e2]; exact h2, by rw [e3]; exact h3, fun hk => ?_, fun hs n hn => ?_⟩
  · rw [e1, e4 _ (by omega)]; exact ev_ord h4 hk
  · rw [e1, e3, ← rd_eq hel mi st wa]
    rw [e2] at hs hn
    obtain ⟨k, hk, e⟩ := List.getElem_of_mem hn
    have := h5 hs k hk
    rwa [nthI_eq hk, e] at this
/-- The bounds of events that are right, with one reading more. -/
theorem ev_bd {ss : List Sp} {el : List Int} {en : Nat} {mi st wa : Int} (hel : el.length = en * 3) (ge : ∀ k, k < en → GoodE ss el k) (h1 : 0 ≤ mi ∧ mi ≤ 100000000) (h3 : -2000 ≤ wa ∧ wa ≤ 2000) : ∀ k, k < en + 1 → (0 ≤ nthI (el ++ [mi, st, wa]) (k * 3) ∧ nthI (el ++ [mi, st, wa]) (k * 3) ≤ 100000000) ∧ -2000 ≤ nthI (el ++ [mi, st, wa]) (k * 3 + 2) ∧ nthI (el ++ [mi, st, wa]) (k * 3 + 2) ≤ 2000 := by
  obtain ⟨e1, e2, e3, e4⟩ := ev_app hel mi st wa
  intro k hk
  rcases Nat.lt_or_ge k en with q | q
  · rw [e4 _ (by omega), e4 _ (by omega)]
    exact ⟨(ge k q).m1, (ge k q).w1⟩
  · obtain rfl : k = en := by omega
    rw [e1, e3]
    exact ⟨h1, h3⟩
theorem ge_snoc {ss : List Sp} {el : List Int} {k n : Nat} (hn : el.length = n * 3) (hk : k < n) (g : GoodE ss (el.take (k * 3) ++ [nthI el (k * 3), nthI el (k * 3 + 1), nthI el (k * 3 + 2)]) k) : GoodE ss el k := by
  obtain ⟨e1, e2, e3, e4⟩ := ev_app (el := el.take (k * 3)) (en := k) (by rw [List.length_take]; omega) (nthI el (k * 3)) (nthI el (k * 3 + 1)) (nthI el (k * 3 + 2))
  refine GoodE.congr (fun j hj => ?_) g
  rcases Nat.lt_or_ge j (k * 3) with q | q
  · rw [e4 j q, nthI_take q]
  · rcases (by omega : j = k * 3 ∨ j = k * 3 + 1 ∨ j = k * 3 + 2) with rfl | rfl | rfl
    · exact e1
    · exact e2
    · exact e3
theorem ge_take {ss : List Sp} {el : List Int} {k : Nat} (ge : ∀ j, j < k → GoodE ss el j) : ∀ j, j < k → GoodE ss (el.take (k * 3)) j := fun j hj => GoodE.congr (fun i hi => (nthI_take (by omega)).symm) (ge j hj)
section
variable {P : Program} {ops : Array Oper} {Q : Exit → Act → World → Prop} {n : Sz} {a : Act} {w0 : Base} {w : World} {F : Fm} {L Ls : List Bk} {M Ms : List Rw} {fuel : Nat} {listed : Array Bool}
theorem rs_callSt {T : Type} {i d : Nat} {f : FuncId} {fx : Operand} {args : List Operand} {ats : Array TypeId} {ty : TypeId} {pos : String} {aft : Array Edge} {gd : Option (Nat × Bool)} {fs cp : Array Value} {r : List (Nat × Value)} (av : Array Value) (sh : T → Value) (L' : T → List Bk) (M' : T → List Rw) (hA : Fr n a F) (hS : St w0 L M w) (hsub : Ls.Sublist L) (hsm : Ms.Sublist M)
    (hc : Calls P f av w fun en w' => ∃ u, en = .returned (sh u) ∧ St w (L' u) (M' u) w') (ho : ∀ u, ∀ x ∈ L' u, x.own = true) (hcall : ∀ (vs : Array Value) (w : World), (callFunc f vs).run P w = .ok (.enter f vs) w)
    (hi : ops[i]? = some ⟨some d, .call ⟨.value fx, args.toArray, ats⟩, ty, pos, aft, gd⟩) (hw : Region.wanted ⟨some d, .call ⟨.value fx, args.toArray, ats⟩, ty, pos, aft, gd⟩ (yielded ops a.tmps) = true)
    (hf : evO F fx = some (.func (.func f) fs cp)) (hr : evL F (args.map fun x => (0, x)) = some r) (hav : fs ++ (r.map (·.2)).toArray ++ cp = av) (hd : Nat.blt d n = true)
    (k : ∀ u a' w', Fr n a' ((d, sh u) :: F) → St w0 (L' u ++ L) (M' u ++ M) w' → wpAnyH P .any ops Q (St w0 Ls Ms) fuel (listed.setIfInBounds i true) a' w') : RS P ops Q (St w0 Ls Ms) fuel listed a w i := by
  refine rs_of hi hw ?_
  unfold Oper.wp
  rw [run_call hA hf hr hav hcall]
  refine hc.mono fun en w' ⟨u, he, hs⟩ => ?_
  subst he
  have hn := St.join hS hs (ho u)
  exact ⟨hn.sub (hsub.trans (List.sublist_append_right _ _)) (hsm.trans (List.sublist_append_right _ _)), k u _ w' (hA.put (blt_lt hd) _) hn⟩
end
end Go.Proofs.Ytnbimpkihpaldaa
