/- The built-in copy between two blocks, in the calculus of single steps; slices of arrays from a place on. -/
import Derived.Test.YtfooefkgdcjlhaaArr
namespace Go.Cpl
open Go.RowKit
section
variable {P : Program} {ops : Array Oper} {Q : Exit → Act → World → Prop} {n : Nat} {a : Act} {w w0 : World} {F : Fm} {L : List Bk} {M : List Rw} {rest : List Oper}

theorem wr_size : ∀ (vs : List Value) (cs : Array Value) (k : Nat), (wr cs k vs).size = cs.size
  | [], _, _ => rfl
  | v :: vs, cs, k => by simp only [wr]; rw [wr_size vs]; simp
theorem wr_get : ∀ (vs : List Value) (cs : Array Value) (k i : Nat), k + vs.length ≤ cs.size → (wr cs k vs)[i]? = if k ≤ i ∧ i < k + vs.length then vs[i - k]? else cs[i]?
  | [], cs, k, i, _ => by simp only [wr]; rw [if_neg (by simp only [List.length_nil]; omega)]
  | v :: vs, cs, k, i, h => by
    simp only [wr]
    rw [wr_get vs _ (k + 1) i (by simp at h ⊢; omega)]
    simp only [List.length_cons] at h ⊢
    by_cases h1 : k + 1 ≤ i ∧ i < k + 1 + vs.length
    · rw [if_pos h1, if_pos (by omega), show i - k = (i - (k + 1)) + 1 by omega, List.getElem?_cons_succ]
    · rw [if_neg h1]
      by_cases h2 : i = k
      · subst h2
        rw [if_pos (by omega), Nat.sub_self, Array.getElem?_setIfInBounds_self_of_lt (by omega)]
        rfl
      · rw [if_neg (by omega), Array.getElem?_setIfInBounds_ne (fun e => h2 e.symm)]

theorem run_copy_blk {dT sT ty e : TypeId} {bytes : Nat} {g o dl dc g' o' sl sc : Nat} {t t' : TypeId} {cs cs' : Array Value} (he : elemInfo P dT = some (e, 1, bytes)) (hb : Blk w g t cs) (hb' : Blk w g' t' cs') (m : Nat) (hm : Nat.min sl dl = m) (hs : o' + m ≤ cs'.size) (hd : o + m ≤ cs.size) (h1 : ∀ v ∈ cs'.toList, v.oneCell' = true) :
    ∃ w', (Builtin.copy_ #[dT, sT] ty #[.slice (some ⟨g, o, none⟩) dl dc, .slice (some ⟨g', o', none⟩) sl sc]).run P w = .ok (.int .i64 (m : Int)) w' ∧ Blk w' g t (wr cs o ((cs'.toList.drop o').take m)) ∧ Turn g w w' := by
  obtain ⟨ti, z, q1, q2, q3, q4, q5, q6, q7⟩ := elemInfo_spec he
  have hlen : ((cs'.toList.drop o').take m).length = m := by simp; omega
  have hsrc : ∀ j v, ((cs'.toList.drop o').take m)[j]? = some v → w.cell? ((⟨g', o', none⟩ : Addr).add j) = some v := by
    intro j v hv
    rw [Addr.add_mid, hb'.cell]
    rw [List.getElem?_take] at hv
    split at hv
    · rw [List.getElem?_drop] at hv; simpa using hv
    · cases hv
  have hf := run_firstCells_some (P := P) w 1 m ⟨g', o', none⟩ sl sc ((cs'.toList.drop o').take m) (by rw [hlen, Nat.mul_one]) hsrc
  obtain ⟨w', hr, hbw, ht⟩ := run_storeCells_blk (P := P) (t := t) o ((cs'.toList.drop o').take m) 0 cs w hb (by rw [hlen]; omega) (fun v hv => h1 v (List.mem_of_mem_drop (List.mem_of_mem_take hv)))
  refine ⟨w', ?_, hbw, ht⟩
  simp [Builtin.copy_, run_underlying q1, sizeOf, typeInfo, q2, q4, Builtin.lenOf, hm, hf, hr, goInt]
theorem rs_copy {Ls : List Bk} {Ms : List Rw} {fuel : Nat} {listed : Array Bool} {i d : Nat} {x y : Operand} {dT sT ty e : TypeId} {bytes : Nat} {pos : String} {aft : Array Edge} {gd : Option (Nat × Bool)} {g o dl dc g' o' sl sc : Nat} {t t' : TypeId} {cs cs' : Array Value} {q : Bool} (j j' m : Nat) (cs2 : Array Value) (hA : Fr n a F) (hS : St w0 L M w) (hsub : Ls.Sublist (L.set j ⟨g, t, cs2, true⟩)) (hsm : Ms.Sublist M)
    (he : elemInfo P dT = some (e, 1, bytes)) (hx : evO F x = some (.slice (some ⟨g, o, none⟩) dl dc)) (hy : evO F y = some (.slice (some ⟨g', o', none⟩) sl sc)) (hj : L[j]? = some ⟨g, t, cs, true⟩) (hj' : L[j']? = some ⟨g', t', cs', q⟩)
    (hm : Nat.min sl dl = m) (hs : o' + m ≤ cs'.size) (hdd : o + m ≤ cs.size) (h1 : cs'.all (·.oneCell') = true) (hcs : wr cs o ((cs'.toList.drop o').take m) = cs2)
    (hi : ops[i]? = some ⟨some d, .call ⟨.builtin .copy, #[x, y], #[dT, sT]⟩, ty, pos, aft, gd⟩) (hw : Region.wanted ⟨some d, .call ⟨.builtin .copy, #[x, y], #[dT, sT]⟩, ty, pos, aft, gd⟩ (yielded ops a.tmps) = true) (hd : Nat.blt d n = true)
    (k : ∀ a' w', Fr n a' ((d, .int .i64 (m : Int)) :: F) → St w0 (L.set j ⟨g, t, cs2, true⟩) M w' → wpAnyH P .any ops Q (St w0 Ls Ms) fuel (listed.setIfInBounds i true) a' w') : RS P ops Q (St w0 Ls Ms) fuel listed a w i := by
  refine rs_of hi hw ?_
  obtain ⟨w', hr, hb2, ht⟩ := run_copy_blk (P := P) (ty := ty) (dc := dc) (sc := sc) (sT := sT) he (hS.get j hj) (hS.get j' hj') m hm hs hdd (fun v hv => (Array.all_eq_true_iff_forall_mem.1 h1) v (by simpa using hv))
  subst hcs
  have hn := hS.set j hj hb2 ht
  unfold Oper.wp execOp
  simp only [resolve, invoke, builtin, Sem.run_bind, Sem.run_pure, Result.andThen_ok, List.map_toArray, List.map_cons, List.map_nil, hA.ev hx, hA.ev hy, hr]
  exact ⟨hn.sub hsub hsm, k _ w' (hA.put (blt_lt hd) _) hn⟩
/-- A slice of an array from a place on. -/
theorem sl_from {t : TypeId} {g len : Nat} {i : Int} (k : Nat) (hl : arrLen P t = some (len, 1)) (hi : i = (k : Int)) (hk : k ≤ len) (w : World) : (Instr.sliceAt t (.pointer (some ⟨g, 0, none⟩)) (some (.int .i64 i)) none none).run P w = .ok (.slice (some ⟨g, (if len = k then 0 else k), none⟩) (len - k) (len - k)) w := by
  unfold arrLen at hl
  split at hl
  · rename_i ln e hu
    cases hI : P.info? e with
    | none => rw [hI] at hl; cases hl
    | some ti =>
      rw [hI] at hl
      simp only [Option.map_some, Option.some.injEq, Prod.mk.injEq] at hl
      obtain ⟨rfl, hs⟩ := hl
      subst hi
      simp [Instr.sliceAt, run_underlying hu, Instr.sureAddr, Instr.sliceBounds, Instr.sliceBound, asIntOf, hk, sizeOf, typeInfo, hI, hs]
      split <;> simp [Addr.add_mid]
  · cases hl
end
end Go.Cpl
namespace Go.Proofs.Ytfooefkgdcjlhaa
open Go.RowKit Go.Cpl
/-- Numbers shifted by so many places. -/
def shL (x : List Int) (by_ : Int) : List Int := (List.range 64).map fun (k : Nat) => if 0 ≤ (k : Int) - by_ ∧ (k : Int) - by_ ≤ 63 then nthI x ((k : Int) - by_).toNat else 0
theorem shL_length (x : List Int) (b : Int) : (shL x b).length = 64 := by simp [shL]
theorem copy_shift (x : List Int) (hx : x.length = 64) (b : Int) (h1 : -64 ≤ b) (h2 : b ≤ 64) (p q m : Nat) (hp : p = (max b 0).toNat) (hq : q = (max (-b) 0).toNat) (hm : m = 64 - max p q) (p' q' : Nat) (hp' : p' = if 64 = p then 0 else p) (hq' : q' = if 64 = q then 0 else q) :
    wr (ints (List.replicate 64 0)) p' (((ints x).toList.drop q').take m) = ints (shL x b) := by
  apply Array.ext_getElem?
  intro i
  have hlen : (((ints x).toList.drop q').take m).length = m := by
    rw [List.length_take, List.length_drop, Array.length_toList, ints_size, hx]
    split at hq' <;> omega
  rw [wr_get _ _ _ _ (by rw [hlen, ints_size, List.length_replicate]; split at hp' <;> omega), hlen]
  by_cases hi : i < 64
  · rw [show (ints (shL x b))[i]? = _ from ints_get (by rw [shL_length]; exact hi), nthI_eq (l := shL x b) (by rw [shL_length]; exact hi)]
    simp only [shL, List.getElem_map, List.getElem_range]
    by_cases hc : 0 ≤ (i : Int) - b ∧ (i : Int) - b ≤ 63
    · have e1 : p' = p := by rw [hp']; split <;> omega
      have e2 : q' = q := by rw [hq']; split <;> omega
      rw [if_pos hc, if_pos (by omega), List.getElem?_take, if_pos (by omega), List.getElem?_drop, Array.getElem?_toList, show q' + (i - p') = ((i : Int) - b).toNat by omega, ints_get (by omega)]
    · rw [if_neg hc, if_neg (by split at hp' <;> omega), ints_get (by rw [List.length_replicate]; exact hi), nthI_eq (by rw [List.length_replicate]; exact hi), List.getElem_replicate]
  · rw [if_neg (by split at hp' <;> omega), Array.getElem?_eq_none (by rw [ints_size, List.length_replicate]; omega), Array.getElem?_eq_none (by rw [ints_size, shL_length]; omega)]
end Go.Proofs.Ytfooefkgdcjlhaa
