import Derived.Test.YtnbimpkihpaldaaFlat2
/-! Calls whose result holds a slice in new memory. -/
namespace Go.Proofs.Ytnbimpkihpaldaa
open Go.RowKit Go.Cpl
theorem row_slice {w : World} {base : Nat} {e : TypeId} {v : Value} {size m : Nat} {xs : List Value} (h : w.ownsRow base e size v m xs) : ∃ A cap, v = .slice A m cap := by
  rcases h.2 with ⟨rfl, rfl⟩ | ⟨g, cap, cur, rfl, _⟩
  · exact ⟨none, 0, rfl⟩
  · exact ⟨_, cap, rfl⟩
section
variable {P : Program} {ops : Array Oper} {Q : Exit → Act → World → Prop} {n : Sz} {a : Act} {w0 : Base} {w : World} {F : Fm} {L : List Bk} {M : List Rw} {rest : List Oper}
theorem s_callRF {d : Nat} {f : FuncId} {fx : Operand} {args : List Operand} {ats : Array TypeId} {ty : TypeId} {pos : String} {aft : Array Edge} {fs cp : Array Value} {r : List (Nat × Value)} (sh : Value → Value) (av : Array Value) {e : TypeId} {size m : Nat} {xs : List Value} (hA : Fr n a F) (hS : St w0 L M w)
    (hc : Calls P f av w fun en w' => ∃ v, en = .returned (sh v) ∧ Below w.heap.size w w' ∧ w'.ownsRow w.heap.size e size v m xs) (hcall : ∀ (vs : Array Value) (w : World), (callFunc f vs).run P w = .ok (.enter f vs) w)
    (hf : evO F fx = some (.func (.func f) fs cp)) (hr : evL F (args.map fun x => (0, x)) = some r) (hav : fs ++ (r.map (·.2)).toArray ++ cp = av) (hd : Nat.blt d n = true)
    (k : ∀ v a' w', Fr n a' ((d, sh v) :: F) → St w0 L (⟨v, e, size, m, xs⟩ :: M) w' → wpList P ops Q rest a' w') : wpList P ops Q (⟨some d, .call ⟨.value fx, args.toArray, ats⟩, ty, pos, aft, none⟩ :: rest) a w := by
  refine wpList_plain rfl fun K hK => ?_
  unfold Oper.wp
  rw [run_call hA hf hr hav hcall]
  refine hc.mono fun en w' ⟨v, he, hb, ho⟩ => ?_
  subst he
  exact hK _ _ (k v _ w' (hA.put (blt_lt hd) _) (hS.gotRow hb ho))
theorem rs_callRF {Ls : List Bk} {Ms : List Rw} {fuel : Nat} {listed : Array Bool} {i d : Nat} {f : FuncId} {fx : Operand} {args : List Operand} {ats : Array TypeId} {ty : TypeId} {pos : String} {aft : Array Edge} {gd : Option (Nat × Bool)} {fs cp : Array Value} {r : List (Nat × Value)} (sh : Value → Value) (av : Array Value) {e : TypeId} {size m : Nat} {xs : List Value} (hA : Fr n a F) (hS : St w0 L M w) (hsub : Ls.Sublist L) (hsm : Ms.Sublist M)
    (hc : Calls P f av w fun en w' => ∃ v, en = .returned (sh v) ∧ Below w.heap.size w w' ∧ w'.ownsRow w.heap.size e size v m xs) (hcall : ∀ (vs : Array Value) (w : World), (callFunc f vs).run P w = .ok (.enter f vs) w)
    (hi : ops[i]? = some ⟨some d, .call ⟨.value fx, args.toArray, ats⟩, ty, pos, aft, gd⟩) (hw : Region.wanted ⟨some d, .call ⟨.value fx, args.toArray, ats⟩, ty, pos, aft, gd⟩ (yielded ops a.tmps) = true)
    (hf : evO F fx = some (.func (.func f) fs cp)) (hr : evL F (args.map fun x => (0, x)) = some r) (hav : fs ++ (r.map (·.2)).toArray ++ cp = av) (hd : Nat.blt d n = true)
    (k : ∀ v a' w', Fr n a' ((d, sh v) :: F) → St w0 L (⟨v, e, size, m, xs⟩ :: M) w' → wpAnyH P .any ops Q (St w0 Ls Ms) fuel (listed.setIfInBounds i true) a' w') : RS P ops Q (St w0 Ls Ms) fuel listed a w i := by
  refine rs_of hi hw ?_
  unfold Oper.wp
  rw [run_call hA hf hr hav hcall]
  refine hc.mono fun en w' ⟨v, he, hb, ho⟩ => ?_
  subst he
  have hn := hS.gotRow hb ho
  exact ⟨(hS.kept hb).sub hsub hsm, k v _ w' (hA.put (blt_lt hd) _) hn⟩
end
end Go.Proofs.Ytnbimpkihpaldaa
