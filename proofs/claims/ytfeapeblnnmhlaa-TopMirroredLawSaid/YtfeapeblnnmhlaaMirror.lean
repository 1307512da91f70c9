/- Mirrored laws, plain. -/
import Derived.Test.YtfeapeblnnmhlaaLaw5
import Derived.Test.YtfeapeblnnmhlaaArgs3
namespace Go.Proofs.Ytfeapeblnnmhlaa
open Go.RowKit Go.Cpl Go.Ray1

theorem rv_nice {P : Program} {ty : TypeId} {cs : Array Value} {k : Nat} {v v' : Int} (h : rowVal P ty cs k = some (.int .i64 v)) (e : v = v') : rowVal P ty cs k = some (.int .i64 v') := by rw [← e]; exact h
theorem lenU_n (x z : Int) : lenU (-x) z = lenU x z := by unfold lenU lenN; rw [Int.neg_mul_neg]
theorem mHi_at (c : Cr) : ∃ q, mHi c = timHi c q := by
  unfold mHi
  split
  · by_cases z : timHi c (crs c) ≤ timHi c (crs c + 1)
    · exact ⟨crs c, by omega⟩
    · exact ⟨crs c + 1, by omega⟩
  · exact ⟨crs c, rfl⟩
def mir (c : Cr) : Cr := ⟨-c.x1, c.h1, c.v1, -c.x2, c.h2, c.v2⟩
theorem mir_ok {c : Cr} (ok : c.Ok) : (mir c).Ok := ⟨by have := ok.x1; show -100000 ≤ -c.x1 ∧ -c.x1 ≤ 100000; omega, by have := ok.x2; show -100000 ≤ -c.x2 ∧ -c.x2 ≤ 100000; omega, ok.h1, ok.h2, ok.v1, ok.v2⟩
theorem mir_t (c : Cr) (q : Int) : timHi (mir c) q = timHi c (-q) := by
  show tHi (lenU (q - -c.x1) c.h1) c.v1 + tHi (lenU (-c.x2 - q) c.h2) c.v2 = tHi (lenU (-q - c.x1) c.h1) c.v1 + tHi (lenU (c.x2 - -q) c.h2) c.v2
  rw [← lenU_n (q - -c.x1), ← lenU_n (-c.x2 - q), show -(q - -c.x1) = -q - c.x1 by omega, show -(-c.x2 - q) = c.x2 - -q by omega]
theorem mir_meet {c : Cr} (ok : c.Ok) : leLo c ≤ mHi (mir c) ∧ leLo (mir c) ≤ mHi c := by
  obtain ⟨q, h⟩ := mHi_at c; obtain ⟨q2, h2⟩ := mHi_at (mir c)
  have e := mir_t c (-q)
  rw [Int.neg_neg] at e
  rw [h, h2, mir_t, ← e]
  exact ⟨leLo_place ok (-q2), leLo_place (mir_ok ok) (-q)⟩
/-- The ticks of a focus law. -/
def fTL (el : List Int) (n : Nat) (mw md ms mt ck tx tz : Int) : List Int := tkF (fcT (tkF (tmR el mw md ms mt tx tz) n) (mxL (tkF (tmR el mw md ms mt tx tz) n) (n - 1)) ck) n
theorem fTL_0 {el : List Int} {n : Nat} {mw md ms mt ck tx tz : Int} (h : fwE el n mw md ms mt ck tx tz = 0) : bL (fwE el n mw md ms mt ck tx tz) (tkF (fcT (tkF (tmR el mw md ms mt tx tz) n) (mxL (tkF (tmR el mw md ms mt tx tz) n) (n - 1)) ck) n) = fTL el n mw md ms mt ck tx tz := (b_0 h n _).2
theorem fTL_length (el : List Int) (n : Nat) (mw md ms mt ck tx tz : Int) : (fTL el n mw md ms mt ck tx tz).length = n * 1 := (tkF_length _ n).trans (Nat.mul_one n).symm
/-- The elements, the first k mirrored. -/
def miF (el : List Int) : Nat → List Int
  | 0 => el
  | k + 1 => (miF el k).set (k * 2) (-(nthI el (k * 2)))
theorem miF_length (el : List Int) : ∀ k, (miF el k).length = el.length
  | 0 => rfl
  | k + 1 => by simp only [miF, List.length_set]; exact miF_length el k
theorem miF_nth (el : List Int) : ∀ k i : Nat, i < el.length → nthI (miF el k) i = if i % 2 = 0 ∧ i < k * 2 then -nthI el i else nthI el i
  | 0, i, hi => by rw [if_neg (by omega)]; rfl
  | k + 1, i, hi => by
    have hl := miF_length el k
    show nthI ((miF el k).set (k * 2) (-(nthI el (k * 2)))) i = _
    rw [nthI_eq (by rw [List.length_set]; omega), List.getElem_set]
    by_cases e : k * 2 = i
    · rw [if_pos e, if_pos (by omega), e]
    · rw [if_neg e, ← nthI_eq (by omega), miF_nth el k i hi]
      by_cases z : i % 2 = 0 ∧ i < k * 2
      · rw [if_pos z, if_pos ⟨z.1, by omega⟩]
      · rw [if_neg z, if_neg (fun q => z ⟨q.1, by omega⟩)]
theorem miF_at {el : List Int} {k : Nat} (h : k * 2 < el.length) : nthI (miF el k) (k * 2) = nthI el (k * 2) := by rw [miF_nth el k _ h, if_neg (by omega)]
theorem plE_neg {mt tx tz : Int} (h : plE mt tx tz = 0) : plE mt (-tx) tz = 0 := by
  have q := plE_0 h
  unfold plE
  rw [inB_true.2 (show -100000 ≤ -tx ∧ -tx ≤ 100000 by omega), inB_true.2 q.2.1, inB_true.2 q.2.2]; rfl
theorem mi_el {el : List Int} {n : Nat} (hne : el.length = n * 2) (he : ∀ i, i < n → elE el i = 0) : ∀ i, i < n → elE (miF el n) i = 0 := by
  intro i hi
  have q := elE_0 (he i hi)
  apply elE_of
  rw [miF_nth el n _ (by omega), miF_nth el n _ (by omega), if_pos (by omega), if_neg (by omega)]
  omega
theorem mi_meet {el : List Int} {n : Nat} {mw md ms mt tx tz : Int} (hne : el.length = n * 2) {i : Nat} (hi : i < n) (h : opE mw md ms mt (nthI el (i * 2)) (nthI el (i * 2 + 1)) tx tz = 0) :
    leLo (wyC mw md ms mt (nthI (miF el n) (i * 2)) (nthI (miF el n) (i * 2 + 1)) (-tx) tz) ≤ mHi (wyC mw md ms mt (nthI el (i * 2)) (nthI el (i * 2 + 1)) tx tz) ∧ leLo (wyC mw md ms mt (nthI el (i * 2)) (nthI el (i * 2 + 1)) tx tz) ≤ mHi (wyC mw md ms mt (nthI (miF el n) (i * 2)) (nthI (miF el n) (i * 2 + 1)) (-tx) tz) := by
  have q := mir_meet (wyC_ok (opE_0 h).1 (opE_0 h).2)
  rw [miF_nth el n _ (by omega), miF_nth el n _ (by omega), if_pos (by omega), if_neg (by omega)]
  exact ⟨q.2, q.1⟩
theorem mi_main {el : List Int} {n : Nat} {mw md ms mt ck tx tz : Int} (hne : el.length = n * 2) (z1 : fwE el n mw md ms mt ck tx tz = 0) :
    arE (miF el n) n mw md ms mt ck = 0 ∧ sdE (miF el n) n mw md ms mt ck (fTL el n mw md ms mt ck tx tz) n ck (-tx) tz = 0 ∧
    spHi (avF (nthI (fTL el n mw md ms mt ck tx tz)) (avA (miF el n) (fTL el n mw md ms mt ck tx tz) mw md ms mt ck (-tx) tz) (avB (miF el n) (fTL el n mw md ms mt ck tx tz) mw md ms mt ck (-tx) tz) n) (avN (nthI (fTL el n mw md ms mt ck tx tz)) n) ≤ ck + 2 * (wdF (wdK el mw md ms mt tx tz) n + wdF (wdK (miF el n) mw md ms mt (-tx) tz) n) := by
  obtain ⟨har, hpl⟩ := fwE_0 z1
  rw [fwE_y har hpl] at z1
  obtain ⟨hn, he, hm, hc⟩ := ar_0 har
  have hpl2 := plE_neg hpl
  have he2 := mi_el hne he
  have ar2 := arE_of (ck := ck) hn he2 hm hc
  have tk : ∀ i, i < n → nthI (fTL el n mw md ms mt ck tx tz) i = fcT (tkF (tmR el mw md ms mt tx tz) n) (mxL (tkF (tmR el mw md ms mt tx tz) n) (n - 1)) ck i := fun i hi => tkF_nth _ n i hi
  have T0 : ∀ i, i < n → 0 ≤ nthI (fTL el n mw md ms mt ck tx tz) i ∧ nthI (fTL el n mw md ms mt ck tx tz) i ≤ 1000000 := fun i hi => by
    rw [tk i hi]
    refine ⟨rnd_nn hc.1 ?_, ovE_0 (feT_all z1 i hi)⟩
    have := mxL_ge (tkF (tmR el mw md ms mt tx tz) n) (n - 1) i (by omega)
    omega
  have av2 : 1 ≤ avN (nthI (fTL el n mw md ms mt ck tx tz)) n := avN_ge (i := 0) (by omega) (T0 0 (by omega)).1
  refine ⟨ar2, sdE_of (obE_of ar2 (lwE_of hn (fun i hi => tkE_of (by have := T0 i hi; omega)) hc) rfl) hpl2 av2, ?_⟩
  have s := av_spread (A := avA (miF el n) (fTL el n mw md ms mt ck tx tz) mw md ms mt ck (-tx) tz) (B := avB (miF el n) (fTL el n mw md ms mt ck tx tz) mw md ms mt ck (-tx) tz) av2
  have w1 : ∀ i, i < n → opE mw md ms mt (nthI el (i * 2)) (nthI el (i * 2 + 1)) tx tz = 0 := fun i hi => way_ok hm (elE_0 (he i hi)) hpl
  have w2 : ∀ i, i < n → opE mw md ms mt (nthI (miF el n) (i * 2)) (nthI (miF el n) (i * 2 + 1)) (-tx) tz = 0 := fun i hi => way_ok hm (elE_0 (he2 i hi)) hpl2
  exact spread_mirror (n := n) (last := mxL (tkF (tmR el mw md ms mt tx tz) n) (n - 1)) (r := tmR el mw md ms mt tx tz)
    (Lo := fun i => zv (opE mw md ms mt (nthI el (i * 2)) (nthI el (i * 2 + 1)) tx tz) (leLo (wyC mw md ms mt (nthI el (i * 2)) (nthI el (i * 2 + 1)) tx tz)))
    (Hi := fun i => zv (opE mw md ms mt (nthI el (i * 2)) (nthI el (i * 2 + 1)) tx tz) (mHi (wyC mw md ms mt (nthI el (i * 2)) (nthI el (i * 2 + 1)) tx tz)))
    (Lo' := fun i => zv (opE mw md ms mt (nthI (miF el n) (i * 2)) (nthI (miF el n) (i * 2 + 1)) (-tx) tz) (leLo (wyC mw md ms mt (nthI (miF el n) (i * 2)) (nthI (miF el n) (i * 2 + 1)) (-tx) tz)))
    (Hi' := fun i => zv (opE mw md ms mt (nthI (miF el n) (i * 2)) (nthI (miF el n) (i * 2 + 1)) (-tx) tz) (mHi (wyC mw md ms mt (nthI (miF el n) (i * 2)) (nthI (miF el n) (i * 2 + 1)) (-tx) tz)))
    (d := fun i => nthI (fTL el n mw md ms mt ck tx tz) i * ck)
    (fun i hi => by simp only [zv_0 (w1 i hi), zv_0 (w2 i hi)]; exact mi_meet hne hi (w1 i hi))
    (fun i hi => wdF_ge (wdK el mw md ms mt tx tz) n i hi) (fun i hi => wdF_ge (wdK (miF el n) mw md ms mt (-tx) tz) n i hi) (wdF_nn _ n)
    (fun i _ => rfl)
    (fun i hi => by
      have e : nthI (tkF (tmR el mw md ms mt tx tz) n) i = tmR el mw md ms mt tx tz i := tkF_nth _ n i hi
      have q := rnd_near (n := mxL (tkF (tmR el mw md ms mt tx tz) n) (n - 1) - nthI (tkF (tmR el mw md ms mt tx tz) n) i) hc.1
      rw [e] at q
      simp only [tk i hi]
      unfold fcT
      rw [e]
      exact q)
    s
theorem St.openRowA {w0 w : World} {L : List Bk} {M : List Rw} {A : Option Addr} {e : TypeId} {size m m0 cap : Nat} {xs : List Value} (h : St w0 L (⟨.slice A m0 cap, e, size, m, xs⟩ :: M) w) (hm : 0 < m) :
    ∃ g cur, A = some ⟨g, 0, none⟩ ∧ m ≤ cap ∧ cap ≤ maxLen ∧ cur.size = cap * size ∧ cur.toList.take (m * size) = xs ∧ St w0 (⟨g, e, cur, true⟩ :: L) M w := by
  have hc : cap ≤ maxLen := by
    rcases (h.rows _ (List.mem_cons_self ..)).2 with ⟨_, h0⟩ | ⟨g, cap', cur, hv, _, _, _, h2, _, _⟩
    · simp only at h0; omega
    · simp only at hv; cases hv; exact h2
  obtain ⟨g, cap', cur, hv, h1, h3, h4, hS⟩ := h.openRow hm
  cases hv
  exact ⟨g, cur, rfl, h1, hc, h3, h4, hS⟩
theorem St.closeRow {w0 w : World} {L : List Bk} {M : List Rw} (h : St w0 L M w) (i : Nat) {g n c size : Nat} {e : TypeId} {cs : Array Value} {xs : List Value} (hi : L[i]? = some ⟨g, e, cs, true⟩) (hs : cs.size = c * size) (hn : n ≤ c) (hm : c ≤ maxLen) (hx : cs.toList.take (n * size) = xs) :
    St w0 (L.eraseIdx i) (⟨.slice (some ⟨g, 0, none⟩) n c, e, size, n, xs⟩ :: M) w := by
  have hmem := List.mem_of_getElem? hi
  have hb := h.blk _ hmem
  have hown := h.own _ hmem rfl
  have hlt : i < L.length := by
    rcases Nat.lt_or_ge i L.length with h3 | h3
    · exact h3
    · rw [List.getElem?_eq_none h3] at hi; cases hi
  have hget : L[i] = ⟨g, e, cs, true⟩ := by rw [List.getElem?_eq_getElem hlt] at hi; exact Option.some.inj hi
  have hpw := List.pairwise_iff_getElem.1 h.apart
  have hne : ∀ b ∈ L.eraseIdx i, b.g ≠ g := by
    intro b hb' e'
    obtain ⟨j, hjl, hj, rfl⟩ := List.mem_eraseIdx_iff_getElem.1 hb'
    rcases Nat.lt_or_gt_of_ne hj with q | q
    · exact hpw j i hjl hlt q (by rw [hget]; exact .inr rfl) (by rw [hget]; exact e')
    · exact hpw i j hlt hjl q (by rw [hget]; exact .inl rfl) (by rw [hget]; exact e'.symm)
  have hsub : ∀ b ∈ L.eraseIdx i, b ∈ L := fun b hb' => List.mem_of_mem_eraseIdx hb'
  refine ⟨h.kp, fun b hb' => h.blk b (hsub b hb'), fun b hb' => h.own b (hsub b hb'), h.apart.sublist (List.eraseIdx_sublist ..), fun r hr => ?_, fun r hr b hb' => ?_, List.pairwise_cons.2 ⟨fun r hr => ?_, h.rr⟩⟩
  · rcases List.mem_cons.1 hr with rfl | hr
    · have hl := congrArg List.length hx
      rw [List.length_take, Array.length_toList, hs, Nat.min_eq_left (Nat.mul_le_mul_right size hn)] at hl
      exact ⟨hl.symm, .inr ⟨g, c, cs, rfl, hown, hb, hn, hm, hs, hx⟩⟩
    · exact h.rows r hr
  · rcases List.mem_cons.1 hr with rfl | hr
    · intro e'; exact hne b hb' (Option.some.inj e').symm
    · exact h.rb r hr b (hsub b hb')
  · exact .inr fun e' => h.rb r hr _ hmem e'.symm

end Go.Proofs.Ytfeapeblnnmhlaa
