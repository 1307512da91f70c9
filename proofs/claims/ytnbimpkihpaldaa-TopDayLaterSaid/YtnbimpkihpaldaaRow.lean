import Derived.Test.YtnbimpkihpaldaaArr
/-! A block of the call's own as a slice that may grow. -/
namespace Go.Proofs.Ytnbimpkihpaldaa
open Go.RowKit Go.Cpl

theorem St.toRow {w0 : Base} {w : World} {L : List Bk} {M : List Rw} (h : St w0 L M w) (i : Nat) {g n size : Nat} {e : TypeId} {cs : Array Value} (hi : L[i]? = some ⟨g, e, cs, true⟩) (hs : cs.size = n * size) (hm : n ≤ maxLen) :
    St w0 (L.eraseIdx i) (⟨.slice (some ⟨g, 0, none⟩) n n, e, size, n, cs.toList⟩ :: M) w := by
  have hmem := List.mem_of_getElem? hi
  have hb := h.blk _ hmem
  have hown := h.own _ hmem rfl
  have hlt : i < L.length := by
    rcases Nat.lt_or_ge i L.length with h3 | h3
    · exact h3
    · rw [List.getElem?_eq_none h3] at hi; cases hi
  have hget : L[i] = ⟨g, e, cs, true⟩ := by rw [List.getElem?_eq_getElem hlt] at hi; exact Option.some.inj hi
  have hpw := List.pairwise_iff_getElem.1 h.apart
  have hne : ∀ b ∈ L.eraseIdx i, b.g ≠ g := by
    intro b hb' e'
    obtain ⟨j, hjl, hj, rfl⟩ := List.mem_eraseIdx_iff_getElem.1 hb'
    rcases Nat.lt_or_gt_of_ne hj with q | q
    · exact hpw j i hjl hlt q (by rw [hget]; exact .inr rfl) (by rw [hget]; exact e')
    · exact hpw i j hlt hjl q (by rw [hget]; exact .inl rfl) (by rw [hget]; exact e'.symm)
  have hsub : ∀ b ∈ L.eraseIdx i, b ∈ L := fun b hb' => List.mem_of_mem_eraseIdx hb'
  refine ⟨h.kq, fun b hb' => h.blk b (hsub b hb'), fun b hb' => h.own b (hsub b hb'), h.apart.sublist (List.eraseIdx_sublist ..), fun r hr => ?_, fun r hr b hb' => ?_, List.pairwise_cons.2 ⟨fun r hr => ?_, h.rr⟩⟩
  · rcases List.mem_cons.1 hr with rfl | hr
    · refine ⟨by rw [Array.length_toList, hs], .inr ⟨g, n, cs, rfl, hown, hb, Nat.le_refl _, hm, hs, ?_⟩⟩
      rw [← hs]; exact List.take_of_length_le (by rw [Array.length_toList]; exact Nat.le_refl _)
    · exact h.rows r hr
  · rcases List.mem_cons.1 hr with rfl | hr
    · intro e'; exact hne b hb' (Option.some.inj e').symm
    · exact h.rb r hr b (hsub b hb')
  · exact .inr fun e' => h.rb r hr _ hmem e'.symm
end Go.Proofs.Ytnbimpkihpaldaa
