import Derived.Test.YtnbimpkihpaldaaBy
/-! Cells that can be read, and a walk that goes on from the world of now. -/
namespace Go.Proofs.Ytnbimpkihpaldaa
open Go.RowKit Go.Cpl
def vI (vs : List Value) (i : Nat) : Value := vs.getD (vs.length - 1 - i) (.slice none 0 0)
theorem vI_old (v : Value) {vs : List Value} {i : Nat} (h : i < vs.length) : vI (v :: vs) i = vI vs i := by
  unfold vI
  rw [List.length_cons, show vs.length + 1 - 1 - i = (vs.length - 1 - i) + 1 by omega]
  rfl
theorem vI_new (v : Value) (vs : List Value) : vI (v :: vs) vs.length = v := by
  unfold vI
  rw [List.length_cons, show vs.length + 1 - 1 - vs.length = 0 by omega]
  rfl
/-- Cells that can be read. -/
def VReads (w : World) (A : Option Addr) (X : List Value) : Prop := ∀ k x, X[k]? = some x → ∃ ad, A = some ad ∧ w.cell? (ad.add k) = some x
theorem VReads.kept {w w' : World} {A : Option Addr} {X : List Value} (h : VReads w A X) (hk : Kp w w') : VReads w' A X := by
  intro k x hx
  obtain ⟨ad, rfl, hc⟩ := h k x hx
  exact ⟨ad, rfl, by rw [hk.cell (p := ad.add k) (World.block_lt_of_cell? w _ hc)]; exact hc⟩
theorem row_vreads {w : World} {base : Nat} {e : TypeId} {A : Option Addr} {size m m' cap : Nat} {X : List Value} (h : w.ownsRow base e size (.slice A m cap) m' X) : VReads w A X := by
  rcases h.2 with ⟨hv, hm⟩ | ⟨g, cap', cur, hv, _, hgg, _, _, _, ht⟩
  · intro k x hx
    have := (List.getElem?_eq_some_iff.1 hx).1
    have h1 := h.1
    subst hm
    rw [Nat.zero_mul] at h1
    omega
  · cases hv
    intro k x hx
    refine ⟨_, rfl, ?_⟩
    rw [add_zero_off, Blk.cell (t := e) (cs := cur) hgg]
    exact cur_get ht hx
theorem any_world {w0 : Base} {L : List Bk} {M : List Rw} {w : World} {p : World → Prop} (h : St w0 L M w) (k : ∀ w1, St w0 L M w1 → p w1) : p w := k w h
theorem kp_trans {w0 w1 w2 : World} (h : Kp w0 w1) (k : Kp w1 w2) : Kp w0 w2 := h.trans (k.mono h.size)
theorem St.permM {w0 : Base} {w : World} {L : List Bk} {M M' : List Rw} (h : St w0 L M w) (p : M.Perm M') : St w0 L M' w := by
  refine ⟨h.kq, h.blk, h.own, h.apart, fun r hr => h.rows r (p.mem_iff.2 hr), fun r hr => h.rb r (p.mem_iff.2 hr), (p.pairwise_iff ?_).1 h.rr⟩
  intro x y q
  rcases q with q | q
  · by_cases z : y.v.ownBlock = none
    · exact .inl z
    · exact .inr (fun e => z (e.trans q))
  · by_cases z : y.v.ownBlock = none
    · exact .inl z
    · exact .inr (fun e => q e.symm)
section
variable {P : Program} {ops : Array Oper} {Q : Exit → Act → World → Prop} {n : Sz} {a : Act} {w0 : Base} {w : World} {F : Fm} {L Ls : List Bk} {M Ms : List Rw} {rest : List Oper}
theorem g_loadXV {ty : TypeId} {x : Operand} {p : Addr} {X : List Value} {v : Value} (hx : evO F x = some (.pointer (some p))) (hr : ∀ j x, X[j]? = some x → w0.w.cell? (p.add j) = some x) (ht : rowType P ty X.length = true) (hv : v = .agg X.toArray) : Gives P F w0 L M (.load ty x) v := fun _ _ w hA hS _ _ _ _ _ => by
  subst hv
  obtain ⟨d, hu, hd, hi⟩ := rowType_spec ht
  have h1 : ∀ j x, X[j]? = some x → w.cell? (p.add j) = some x := fun j x hx => by
    have hc := hr j x hx
    rw [hS.kp.cell (p := p.add j) (World.block_lt_of_cell? w0.w _ hc)]; exact hc
  simp only [execOp, hA.ev hx, Instr.loadAt, Instr.sureAddr, Sem.run_bind, Sem.run_pure, Result.andThen_ok, run_loadVar_list h1 hu hd hi]
end
end Go.Proofs.Ytnbimpkihpaldaa
