import Derived.Test.YtcijkniijomcjaaAv3
/-! Slices of matrices that are made, and the slices of matrices that come of them. -/
namespace Go.Proofs.Ytcijkniijomcjaa
open Go.RowKit Go.Cpl
/-- How a matrix is made. -/
structure Md where
  el : Int
  SA : Option Addr
  sn : Nat
  sc : Nat
  sl : List Int
  RA : Option Addr
  rn : Nat
  rc : Nat
  rl : List Nat
  mo : Int
def mdC (m : Md) : List Value := [.int .i64 m.el, .slice m.SA m.sn m.sc, .slice m.RA m.rn m.rc, .int .i64 m.mo]
def mdX (ds : List Md) : List Value := ds.flatMap mdC
def mdK (ds : List Md) (k : Nat) : Md := ds.getD k ⟨0, none, 0, 0, [], none, 0, 0, [], 0⟩
structure MdOk (w : World) (m : Md) : Prop where
  hs : m.sl.length = m.sn * 2
  rs : IReads w m.SA m.sl
  hr : m.rl.length = m.rn
  rr : FReads w m.RA m.rl
  lo : -9223372036854775808 ≤ m.el
  hi : m.el ≤ 9223372036854775807
theorem MdOk.kept {w w' : World} {m : Md} (h : MdOk w m) (k : Kp w w') : MdOk w' m := ⟨h.hs, h.rs.kept k, h.hr, h.rr.kept k, h.lo, h.hi⟩
def MdReads (w : World) (A : Option Addr) (ds : List Md) : Prop := VReads w A (mdX ds) ∧ ∀ k, k < ds.length → MdOk w (mdK ds k)
theorem mdX_get {ds : List Md} {k : Nat} (hk : k < ds.length) : ∀ j x, (mdC (mdK ds k))[j]? = some x → (mdX ds)[k * 4 + j]? = some x := by
  induction ds generalizing k with
  | nil => exact absurd hk (Nat.not_lt_zero _)
  | cons m ds ih =>
    intro j x hx
    have hj : j < 4 := by have := (List.getElem?_eq_some_iff.1 hx).1; simpa [mdC] using this
    have e : mdX (m :: ds) = mdC m ++ mdX ds := rfl
    rw [e]
    cases k with
    | zero =>
      rw [List.getElem?_append_left (by simp [mdC]; omega), Nat.zero_mul, Nat.zero_add]
      exact hx
    | succ k =>
      rw [List.getElem?_append_right (by simp [mdC]; omega), show (k + 1) * 4 + j - (mdC m).length = k * 4 + j by simp [mdC]; omega]
      exact ih (by rw [List.length_cons] at hk; omega) j x hx
theorem md_at {w : World} {A : Option Addr} {ds : List Md} {k : Nat} (h : MdReads w A ds) (hk : k < ds.length) : ∃ ad, A = some ad ∧ ∀ j x, (mdC (mdK ds k))[j]? = some x → w.cell? ((ad.add (k * 4)).add j) = some x := by
  obtain ⟨ad, rfl, _⟩ := h.1 (k * 4 + 0) (.int .i64 (mdK ds k).el) (mdX_get hk 0 _ rfl)
  refine ⟨ad, rfl, fun j x hx => ?_⟩
  obtain ⟨ad', e, hc⟩ := h.1 (k * 4 + j) x (mdX_get hk j x hx)
  cases e
  rw [Addr.add_add]; exact hc
/-- The words of a made matrix. -/
def mdW (m : Md) : List Nat := mkW m.el m.sn m.sl m.rn m.rl m.mo
def mdN (m : Md) : Nat := mkN m.el m.mo
theorem mdW_length (m : Md) : (mdW m).length = mdN m := mkW_length _ _ _ _ _ _
/-- The cells of a slice of such matrices, and their slices, the last one first. -/
def mkX (ds : List Md) : List Value → List Value
  | [] => []
  | v :: vs => mkX ds vs ++ [.int .i64 (mdK ds vs.length).el, v]
def mkM (e : TypeId) (ds : List Md) : List Value → List Rw
  | [] => []
  | v :: vs => ⟨v, e, 1, mdN (mdK ds vs.length), rowF (mdW (mdK ds vs.length))⟩ :: mkM e ds vs
theorem mkX_length (ds : List Md) (vs : List Value) : (mkX ds vs).length = vs.length * 2 := by
  induction vs with
  | nil => rfl
  | cons v vs ih => simp only [mkX, List.length_append, List.length_cons, List.length_nil, ih]; omega
theorem mkM_mem {e : TypeId} {ds : List Md} {vs : List Value} {i : Nat} (hi : i < vs.length) : (⟨vI vs i, e, 1, mdN (mdK ds i), rowF (mdW (mdK ds i))⟩ : Rw) ∈ mkM e ds vs := by
  induction vs with
  | nil => exact absurd hi (Nat.not_lt_zero _)
  | cons v vs ih =>
    rcases Nat.lt_or_ge i vs.length with q | q
    · rw [vI_old v q]; exact List.mem_cons_of_mem _ (ih q)
    · have e : i = vs.length := by rw [List.length_cons] at hi; omega
      subst e
      rw [vI_new]; exact List.mem_cons_self ..
theorem mtK_app {ms : List Mt} {m : Mt} {k : Nat} (h : k < ms.length) : mtK (ms ++ [m]) k = mtK ms k := by
  simp [mtK, List.getD_eq_getElem?_getD, List.getElem?_append_left h]
theorem mtK_last (ms : List Mt) (m : Mt) : mtK (ms ++ [m]) ms.length = m := by
  simp [mtK, List.getD_eq_getElem?_getD]
/-- The slice is a slice of matrices. -/
theorem mk_reads {w : World} {base : Nat} {e : TypeId} {ds : List Md} (hd : ∀ k, -9223372036854775808 ≤ (mdK ds k).el ∧ (mdK ds k).el ≤ 9223372036854775807) : ∀ (vs : List Value), (∀ i, i < vs.length → w.ownsRow base e 1 (vI vs i) (mdN (mdK ds i)) (rowF (mdW (mdK ds i)))) →
    ∃ ms : List Mt, ms.length = vs.length ∧ mtX ms = mkX ds vs ∧ ∀ i, i < vs.length → MtOk w (mtK ms i) ∧ (mtK ms i).el = (mdK ds i).el ∧ (mtK ms i).xs = mdW (mdK ds i) := by
  intro vs
  induction vs with
  | nil => intro _; exact ⟨[], rfl, rfl, fun i hi => absurd hi (Nat.not_lt_zero _)⟩
  | cons v vs ih =>
    intro h
    obtain ⟨ms, h1, h2, h3⟩ := ih fun i hi => by have := h i (by rw [List.length_cons]; omega); rw [vI_old v hi] at this; exact this
    have hv := h vs.length (by rw [List.length_cons]; omega)
    rw [vI_new] at hv
    obtain ⟨hl, B, c, rfl, hc, hr⟩ := rowF_reads hv
    refine ⟨ms ++ [⟨(mdK ds vs.length).el, B, mdN (mdK ds vs.length), c, mdW (mdK ds vs.length)⟩], by simp [h1], ?_, fun i hi => ?_⟩
    · unfold mtX at h2 ⊢
      rw [List.flatMap_append, h2]; rfl
    · rcases Nat.lt_or_ge i vs.length with q | q
      · rw [mtK_app (by omega)]; exact h3 i q
      · have ei : i = vs.length := by rw [List.length_cons] at hi; omega
        subst ei
        rw [← h1, mtK_last, h1]
        have hn := mkN_le (mdK ds vs.length).el (mdK ds vs.length).mo
        exact ⟨⟨hl, hc, hr, by unfold mdN; simp only; omega, (hd _).1, (hd _).2⟩, rfl, rfl⟩
/-- What is answered depends on the elements and on the words alone. -/
def bare (m : Mt) : Mt := ⟨m.el, none, 0, 0, m.xs⟩
theorem mtK_bare (ms : List Mt) (k : Nat) : mtK (ms.map bare) k = bare (mtK ms k) := by
  simp only [mtK, List.getD_eq_getElem?_getD, List.getElem?_map]
  cases ms[k]? <;> rfl
theorem avF_bare (e0 : Int) (ms : List Mt) : avF e0 (ms.map bare) = avF e0 ms := by
  induction ms with
  | nil => rfl
  | cons m ms ih => simp only [List.map_cons, avF, ih]; rfl
theorem sumK_bare (ms : List Mt) (p k : Nat) : sumK (ms.map bare) p k = sumK ms p k := by
  induction k with
  | zero => rfl
  | succ k ih => simp only [sumK, ih, mtK_bare]; rfl
theorem avZ_bare (ms : List Mt) : avZ (ms.map bare) = avZ ms := by
  unfold avZ
  rw [List.length_map, avF_bare, mtK_bare]; rfl
theorem av_bare (ms : List Mt) : avE (ms.map bare) = avE ms ∧ avW (ms.map bare) = avW ms := by
  unfold avE avW avL
  rw [avZ_bare, mtK_bare, List.length_map]
  simp only [sumK_bare]
  exact ⟨rfl, rfl⟩
theorem bare_eq {ms ns : List Mt} (hl : ms.length = ns.length) (h : ∀ i, i < ms.length → (mtK ms i).el = (mtK ns i).el ∧ (mtK ms i).xs = (mtK ns i).xs) : ms.map bare = ns.map bare := by
  apply List.ext_getElem
  · simp [hl]
  · intro i h1 h2
    have hi : i < ms.length := by simpa using h1
    have h3 := h i hi
    have e1 : mtK ms i = ms[i] := by simp [mtK, List.getD_eq_getElem?_getD, List.getElem?_eq_getElem hi]
    have e2 : mtK ns i = ns[i]'(by omega) := by simp [mtK, List.getD_eq_getElem?_getD, List.getElem?_eq_getElem (show i < ns.length by omega)]
    rw [e1, e2] at h3
    simp only [List.getElem_map, bare, h3.1, h3.2]
theorem av_same {ms ns : List Mt} (hl : ms.length = ns.length) (h : ∀ i, i < ms.length → (mtK ms i).el = (mtK ns i).el ∧ (mtK ms i).xs = (mtK ns i).xs) : avZ ms = avZ ns ∧ avE ms = avE ns ∧ avW ms = avW ns := by
  have e := bare_eq hl h
  exact ⟨by rw [← avZ_bare, e, avZ_bare], by rw [← (av_bare ms).1, e, (av_bare ns).1], by rw [← (av_bare ms).2, e, (av_bare ns).2]⟩
/-- The mean of one matrix. -/
theorem avZ_one (m : Mt) : avZ [m] = (mxC m.el m.xs).2 := by
  show (if (mxC m.el m.xs).2 = 0 then (if m.el = m.el then 0 else 13) else (mxC m.el m.xs).2) = _
  rw [if_pos (rfl : m.el = m.el)]
  split
  · rename_i h; exact h.symm
  · rfl
theorem rnd_one (s : Int) : rndI s 1 = s := by unfold rndI; omega
theorem avW_one {m : Mt} (h : (mxC m.el m.xs).2 = 0) : avW [m] = fw (mi m.xs) := by
  rw [(av_ok ((avZ_one m).trans h)).2]
  congr 1
  refine list_extI (by rw [avL_length, mi_length]; rfl) fun j hj => ?_
  rw [avL_length] at hj
  unfold avL
  rw [nthI_map _ hj]
  show rndI (0 + nthI (mi m.xs) j) 1 = _
  rw [rnd_one]; omega
theorem avE_one {m : Mt} (h : (mxC m.el m.xs).2 = 0) : avE [m] = m.el := (av_ok ((avZ_one m).trans h)).1
theorem perm5 {x y a b : Rw} (s t : List Rw) : (x :: y :: a :: b :: (s ++ t)).Perm (a :: b :: y :: (s ++ x :: t)) := by
  have h1 : (a :: b :: y :: (s ++ x :: t)).Perm (a :: b :: y :: x :: (s ++ t)) := ((List.perm_middle.cons y).cons b).cons a
  have h2 : ([x, y, a, b] : List Rw).Perm [a, b, y, x] := (List.reverse_perm [x, y, a, b]).symm.trans (List.Perm.swap a b [y, x])
  exact (h2.append_right (s ++ t)).trans h1.symm
end Go.Proofs.Ytcijkniijomcjaa
