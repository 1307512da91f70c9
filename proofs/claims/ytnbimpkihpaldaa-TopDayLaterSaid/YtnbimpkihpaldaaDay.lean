import Derived.Test.YtnbimpkihpaldaaBy
/-! The plain law: what becomes of steps behind events; the same some minutes later. -/
namespace Go.Proofs.Ytnbimpkihpaldaa
open Go.RowKit Go.Cpl
/-- A step: its name, how long it lasts, how warm it may become, what it needs. -/
structure Sp where
  nm : Bs
  la : Int
  wa : Int
  ne : List Int
def spK (ss : List Sp) (k : Nat) : Sp := ss.getD k ⟨[], 0, 0, []⟩
/-- What became of a step. -/
structure Ls where
  dn : Bool
  kp : Bool
  mi : Int
  wa : Int
def abI (x : Int) : Int := mx x (-x)
theorem abI_eq (x : Int) : abI x = max x (-x) := mx_eq _ _
def bkA (s : Sp) (i : Nat) (mi st wa : Int) (b : Ls) : Ls :=
  if (i : Int) = st then ⟨true, true, mi, wa⟩ else if (decide (abI (wa - b.wa) > s.wa) || s.ne.contains st) = true then ⟨b.dn, false, b.mi, b.wa⟩ else b
def bk0 : Ls := ⟨false, false, 0, 0⟩
def bk (ss : List Sp) (el : List Int) (i : Nat) : Nat → Ls
  | 0 => bk0
  | k + 1 => bkA (spK ss i) i (nthI el (k * 3)) (nthI el (k * 3 + 1)) (nthI el (k * 3 + 2)) (bk ss el i k)
theorem bk_congr {ss : List Sp} {el em : List Int} {i : Nat} : ∀ {k : Nat}, (∀ j, j < k * 3 → nthI el j = nthI em j) → bk ss el i k = bk ss em i k := by
  intro k
  induction k with
  | zero => intro _; rfl
  | succ k ih =>
    intro h
    unfold bk
    rw [ih fun j hj => h j (by omega), h (k * 3) (by omega), h (k * 3 + 1) (by omega), h (k * 3 + 2) (by omega)]
theorem bk_kd {ss : List Sp} {el : List Int} {i k : Nat} : (bk ss el i k).kp = true → (bk ss el i k).dn = true := by
  induction k with
  | zero => intro h; exact h
  | succ k ih =>
    unfold bk bkA
    split
    · intro _; rfl
    · split
      · intro h; cases h
      · exact ih
/-- The end of a step, and whether it is valid at all, out of those of what it needs. -/
def uF (g : Int → Int × Bool) (x : Int × Bool) : List Int → Int × Bool
  | [] => x
  | n :: ns => uF g (mn x.1 (g n).1, x.2 && (g n).2) ns
theorem uF_snoc (g : Int → Int × Bool) (x : Int × Bool) (ns : List Int) (n : Int) : uF g x (ns ++ [n]) = (mn (uF g x ns).1 (g n).1, (uF g x ns).2 && (g n).2) := by
  induction ns generalizing x with
  | nil => rfl
  | cons m ns ih => exact ih _
theorem uF_congr {g h : Int → Int × Bool} {x : Int × Bool} {ns : List Int} (e : ∀ n ∈ ns, g n = h n) : uF g x ns = uF h x ns := by
  induction ns generalizing x with
  | nil => rfl
  | cons n ns ih =>
    show uF g _ ns = uF h _ ns
    rw [e n (List.mem_cons_self ..)]
    exact ih fun m hm => e m (List.mem_cons_of_mem _ hm)
def uN (ss : List Sp) (b : Nat → Ls) : Nat → Nat → Int × Bool
  | 0, _ => (0, false)
  | f + 1, i => uF (fun n => uN ss b f n.toNat) ((b i).mi + (spK ss i).la, (b i).dn && (b i).kp) (spK ss i).ne
def uV (ss : List Sp) (b : Nat → Ls) (i : Nat) : Int × Bool := uN ss b (i + 1) i
/-- Needs are steps ahead. -/
def Ahead (ss : List Sp) : Prop := ∀ i, i < ss.length → ∀ n ∈ (spK ss i).ne, 0 ≤ n ∧ n < (i : Int)
theorem uN_fuel {ss : List Sp} {b : Nat → Ls} (H : Ahead ss) : ∀ (i f f' : Nat), i < ss.length → i < f → i < f' → uN ss b f i = uN ss b f' i := by
  intro i
  induction i using Nat.strongRecOn with
  | _ i ih =>
    intro f f' hi h1 h2
    obtain ⟨f, rfl⟩ : ∃ k, f = k + 1 := ⟨f - 1, by omega⟩
    obtain ⟨f', rfl⟩ : ∃ k, f' = k + 1 := ⟨f' - 1, by omega⟩
    unfold uN
    refine uF_congr fun n hn => ?_
    have := H i hi n hn
    exact ih n.toNat (by omega) f f' (by omega) (by omega) (by omega)
theorem uV_eq {ss : List Sp} {b : Nat → Ls} (H : Ahead ss) {i : Nat} (hi : i < ss.length) : uV ss b i = uF (fun n => uV ss b n.toNat) ((b i).mi + (spK ss i).la, (b i).dn && (b i).kp) (spK ss i).ne := by
  show uN ss b (i + 1) i = _
  unfold uN
  refine uF_congr fun n hn => ?_
  have := H i hi n hn
  exact uN_fuel H n.toNat _ _ (by omega) (by omega) (by omega)
def vd (ss : List Sp) (b : Nat → Ls) (m : Int) (i : Nat) : Bool := (uV ss b i).2 && decide (m ≤ (uV ss b i).1)
theorem uF_vd {g : Int → Int × Bool} {x : Int × Bool} {ns : List Int} (m : Int) : ((uF g x ns).2 && decide (m ≤ (uF g x ns).1)) = ((x.2 && decide (m ≤ x.1)) && ns.all fun n => (g n).2 && decide (m ≤ (g n).1)) := by
  induction ns generalizing x with
  | nil => show (x.2 && decide (m ≤ x.1)) = _; rw [List.all_nil, Bool.and_true]
  | cons n ns ih =>
    show ((uF g (mn x.1 (g n).1, x.2 && (g n).2) ns).2 && decide (m ≤ (uF g (mn x.1 (g n).1, x.2 && (g n).2) ns).1)) = _
    rw [ih, List.all_cons, ← Bool.and_assoc]
    congr 1
    have e : decide (m ≤ mn x.1 (g n).1) = (decide (m ≤ x.1) && decide (m ≤ (g n).1)) := by
      rw [← Bool.decide_and, mn_eq]
      exact decide_eq_decide.2 (by omega)
    show (x.2 && (g n).2 && decide (m ≤ mn x.1 (g n).1)) = _
    rw [e]
    cases x.2 <;> cases (g n).2 <;> simp
theorem vd_eq {ss : List Sp} {b : Nat → Ls} (H : Ahead ss) (hk : ∀ i, (b i).kp = true → (b i).dn = true) (m : Int) {i : Nat} (hi : i < ss.length) : vd ss b m i = (((b i).kp && decide (m ≤ (b i).mi + (spK ss i).la)) && (spK ss i).ne.all fun n => vd ss b m n.toNat) := by
  unfold vd
  rw [uV_eq H hi, uF_vd]
  congr 2
  cases q : (b i).kp with
  | false => simp
  | true => rw [hk i q]; rfl
/-- Right names. -/
def badC (nm : Bs) (k : Nat) : Bool := (!(bif decide ((nthU nm k : Int) ≥ 97) then (decide ((nthU nm k : Int) ≤ 122)) || ((decide ((nthU nm k : Int) ≥ 65)) && (decide ((nthU nm k : Int) ≤ 90))) else (decide ((nthU nm k : Int) ≥ 65)) && (decide ((nthU nm k : Int) ≤ 90)))) && ((decide ((k : Int) = 0)) || ((decide ((nthU nm k : Int) ≠ 45)) && ((decide ((nthU nm k : Int) < 48)) || (decide ((nthU nm k : Int) > 57)))))
def nameB (nm : Bs) : Bool := !(decide ((nm.length : Int) < 1) || decide ((nm.length : Int) > 12)) && (List.range nm.length).all fun k => !badC nm k
theorem name_n1 {nm : Bs} (h : (decide ((nm.length : Int) < 1) || decide ((nm.length : Int) > 12)) = true) : nameB nm = false := by unfold nameB; rw [h]; rfl
theorem name_n2 {nm : Bs} {k : Nat} (hk : k < nm.length) (h : badC nm k = true) : nameB nm = false := by
  have : ((List.range nm.length).all fun k => !badC nm k) = false := by
    rw [List.all_eq_false]
    exact ⟨k, List.mem_range.2 hk, by rw [h]; decide⟩
  unfold nameB; rw [this, Bool.and_false]
theorem name_y {nm : Bs} (h2 : ∀ k, k < nm.length → badC nm k = false) : nameB nm = !(decide ((nm.length : Int) < 1) || decide ((nm.length : Int) > 12)) := by
  have : ((List.range nm.length).all fun k => !badC nm k) = true := by
    rw [List.all_eq_true]
    intro k hk
    rw [h2 k (List.mem_range.1 hk)]; rfl
  unfold nameB; rw [this, Bool.and_true]
theorem bad_snoc {nm : Bs} {k : Nat} (h : ∀ j, j < k → badC nm j = false) (hk : badC nm k = false) : ∀ j, j < k + 1 → badC nm j = false := by
  intro j hj
  rcases Nat.lt_or_ge j k with q | q
  · exact h j q
  · obtain rfl : j = k := by omega
    exact hk
/-- Right steps and right events. -/
structure GoodS (ss : List Sp) : Prop where
  few : 1 ≤ ss.length ∧ ss.length ≤ 10
  names : ∀ i, i < ss.length → nameB (spK ss i).nm = true
  dist : ∀ i k, k < i → i < ss.length → (spK ss k).nm ≠ (spK ss i).nm
  incr : ∀ i, i < ss.length → ∀ k, 0 < k → k < (spK ss i).ne.length → nthI (spK ss i).ne (k - 1) < nthI (spK ss i).ne k
  ahead : Ahead ss
  lasts : ∀ i, i < ss.length → 1 ≤ (spK ss i).la ∧ (spK ss i).la ≤ 1000000
  warm : ∀ i, i < ss.length → 0 ≤ (spK ss i).wa ∧ (spK ss i).wa ≤ 2000
def rdB (ss : List Sp) (el : List Int) (k : Nat) (mi wa : Int) (i : Nat) : Ls := bkA (spK ss i) i mi (-1) wa (bk ss el i k)
structure GoodE (ss : List Sp) (el : List Int) (k : Nat) : Prop where
  m1 : 0 ≤ nthI el (k * 3) ∧ nthI el (k * 3) ≤ 100000000
  s1 : -1 ≤ nthI el (k * 3 + 1) ∧ nthI el (k * 3 + 1) ≤ (ss.length : Int) - 1
  w1 : -2000 ≤ nthI el (k * 3 + 2) ∧ nthI el (k * 3 + 2) ≤ 2000
  o1 : 0 < k → nthI el ((k - 1) * 3) ≤ nthI el (k * 3)
  n1 : nthI el (k * 3 + 1) ≠ -1 → ∀ n ∈ (spK ss (nthI el (k * 3 + 1)).toNat).ne, vd ss (rdB ss el k (nthI el (k * 3)) (nthI el (k * 3 + 2))) (nthI el (k * 3)) n.toNat = true
/-! Some minutes later, and warmer. -/
structure Later (d w : Int) (b b' : Ls) : Prop where
  dn : b'.dn = b.dn
  kp : b'.kp = b.kp
  on : b.dn = true → b'.mi = b.mi + d ∧ b'.wa = b.wa + w
  off : b.dn = false → b.kp = false
theorem later_bkA {d w : Int} {s : Sp} {i : Nat} {mi st wa : Int} {b b' : Ls} (h : Later d w b b') : Later d w (bkA s i mi st wa b) (bkA s i (mi + d) st (wa + w) b') := by
  unfold bkA
  by_cases q : (i : Int) = st
  · rw [if_pos q, if_pos q]
    exact ⟨rfl, rfl, fun _ => ⟨rfl, rfl⟩, fun e => (by cases e)⟩
  · rw [if_neg q, if_neg q]
    cases hd : b.dn with
    | true =>
      have e : wa + w - b'.wa = wa - b.wa := by rw [(h.on hd).2]; omega
      rw [e]
      split
      · exact ⟨h.dn.trans hd, rfl, fun _ => h.on hd, fun _ => rfl⟩
      · exact ⟨h.dn, h.kp, h.on, h.off⟩
    | false =>
      have hk := h.off hd
      have hk' := h.kp.trans hk
      split <;> split
      · exact ⟨h.dn.trans hd, rfl, fun e => (by cases e), fun _ => rfl⟩
      · exact ⟨h.dn.trans hd, hk', fun e => (by cases e), fun _ => rfl⟩
      · exact ⟨h.dn, hk.symm, fun e => (by rw [hd] at e; cases e), fun _ => hk⟩
      · exact h
theorem later_bk {ss : List Sp} {el em : List Int} {d w : Int} {i : Nat} : ∀ {k : Nat}, (∀ j, j < k → nthI em (j * 3) = nthI el (j * 3) + d ∧ nthI em (j * 3 + 1) = nthI el (j * 3 + 1) ∧ nthI em (j * 3 + 2) = nthI el (j * 3 + 2) + w) → Later d w (bk ss el i k) (bk ss em i k) := by
  intro k
  induction k with
  | zero => intro _; exact ⟨rfl, rfl, fun e => (by cases e), fun _ => rfl⟩
  | succ k ih =>
    intro h
    obtain ⟨e1, e2, e3⟩ := h k (by omega)
    unfold bk
    rw [e1, e2, e3]
    exact later_bkA (ih fun j hj => h j (by omega))
theorem later_uV {ss : List Sp} {b b' : Nat → Ls} {d w : Int} (H : Ahead ss) (h : ∀ i, Later d w (b i) (b' i)) : ∀ i, i < ss.length → (uV ss b' i).2 = (uV ss b i).2 ∧ ((uV ss b i).2 = true → (uV ss b' i).1 = (uV ss b i).1 + d) := by
  intro i
  induction i using Nat.strongRecOn with
  | _ i ih =>
    intro hi
    rw [uV_eq H hi, uV_eq H hi]
    have key : ∀ (ns : List Int) (x y : Int × Bool), (∀ n ∈ ns, 0 ≤ n ∧ n < (i : Int)) → y.2 = x.2 → (x.2 = true → y.1 = x.1 + d) → (uF (fun n => uV ss b' n.toNat) y ns).2 = (uF (fun n => uV ss b n.toNat) x ns).2 ∧ ((uF (fun n => uV ss b n.toNat) x ns).2 = true → (uF (fun n => uV ss b' n.toNat) y ns).1 = (uF (fun n => uV ss b n.toNat) x ns).1 + d) := by
      intro ns
      induction ns with
      | nil => intro x y _ h1 h2; exact ⟨h1, h2⟩
      | cons n ns ihn =>
        intro x y hn h1 h2
        obtain ⟨r1, r2⟩ := hn n (List.mem_cons_self ..)
        obtain ⟨u1, u2⟩ := ih n.toNat (by omega) (by omega)
        refine ihn _ _ (fun m hm => hn m (List.mem_cons_of_mem _ hm)) ?_ ?_
        · show (y.2 && _) = (x.2 && _); rw [h1, u1]
        · intro e
          obtain ⟨e1, e2⟩ := Bool.and_eq_true_iff.1 e
          show mn y.1 (uV ss b' n.toNat).1 = mn x.1 (uV ss b n.toNat).1 + d
          rw [h2 e1, u2 e2, mn_eq, mn_eq]; omega
    refine key _ _ _ (H i hi) ?_ ?_
    · show ((b' i).dn && (b' i).kp) = ((b i).dn && (b i).kp); rw [(h i).dn, (h i).kp]
    · intro e
      have := ((h i).on (Bool.and_eq_true_iff.1 e).1).1
      show (b' i).mi + _ = (b i).mi + _ + d
      omega
theorem later_vd {ss : List Sp} {b b' : Nat → Ls} {d w : Int} (H : Ahead ss) (h : ∀ i, Later d w (b i) (b' i)) (m : Int) {i : Nat} (hi : i < ss.length) : vd ss b' (m + d) i = vd ss b m i := by
  obtain ⟨h1, h2⟩ := later_uV H h i hi
  unfold vd
  rw [h1]
  cases q : (uV ss b i).2 with
  | false => rfl
  | true =>
    rw [h2 q, Bool.true_and, Bool.true_and]
    exact decide_eq_decide.2 (by omega)
theorem later_good {ss : List Sp} {el em : List Int} {d w : Int} {k : Nat} (S : GoodS ss) (h : ∀ j, j < k + 1 → nthI em (j * 3) = nthI el (j * 3) + d ∧ nthI em (j * 3 + 1) = nthI el (j * 3 + 1) ∧ nthI em (j * 3 + 2) = nthI el (j * 3 + 2) + w) (g : GoodE ss el k) (hm : 0 ≤ nthI el (k * 3) + d ∧ nthI el (k * 3) + d ≤ 100000000) (hw : -2000 ≤ nthI el (k * 3 + 2) + w ∧ nthI el (k * 3 + 2) + w ≤ 2000) : GoodE ss em k := by
  obtain ⟨e1, e2, e3⟩ := h k (by omega)
  refine ⟨by rw [e1]; exact hm, by rw [e2]; exact g.s1, by rw [e3]; exact hw, fun hk => ?_, fun hs n hn => ?_⟩
  · obtain ⟨f1, _, _⟩ := h (k - 1) (by omega)
    rw [e1, f1]
    have := g.o1 hk
    omega
  · rw [e2] at hs hn
    have hb : ∀ i, Later d w (rdB ss el k (nthI el (k * 3)) (nthI el (k * 3 + 2)) i) (rdB ss em k (nthI em (k * 3)) (nthI em (k * 3 + 2)) i) := fun i => by
      unfold rdB
      rw [e1, e3]
      exact later_bkA (later_bk fun j hj => h j (by omega))
    have hlt : (nthI el (k * 3 + 1)).toNat < ss.length := by have := g.s1; omega
    have ha := S.ahead _ hlt n hn
    rw [e1]
    rw [e1] at hb
    rw [later_vd S.ahead hb (nthI el (k * 3)) (by omega)]
    exact g.n1 hs n hn
/-! One reading more, as warm as the last event. -/
theorem kept_near {ss : List Sp} {el : List Int} {i k : Nat} (hw : 0 ≤ (spK ss i).wa) (h : (bk ss el i (k + 1)).kp = true) : ¬ abI (nthI el (k * 3 + 2) - (bk ss el i (k + 1)).wa) > (spK ss i).wa := by
  revert h
  show (bkA (spK ss i) i _ _ _ _).kp = true → ¬ abI (_ - (bkA (spK ss i) i _ _ _ _).wa) > _
  unfold bkA
  split
  · intro _
    show ¬ abI (nthI el (k * 3 + 2) - nthI el (k * 3 + 2)) > _
    rw [Int.sub_self, abI_eq]; omega
  · split
    · intro h; cases h
    · rename_i q
      intro _ h
      exact q (by rw [decide_eq_true h]; rfl)
theorem more_bk {ss : List Sp} {el : List Int} {i k : Nat} (S : GoodS ss) (hi : i < ss.length) (mi : Int) : bkA (spK ss i) i mi (-1) (nthI el (k * 3 + 2)) (bk ss el i (k + 1)) = bk ss el i (k + 1) := by
  have hn : (spK ss i).ne.contains (-1) = false := by
    cases q : (spK ss i).ne.contains (-1) with
    | false => rfl
    | true => have := S.ahead i hi _ (List.contains_iff_mem.1 q); omega
  unfold bkA
  rw [if_neg (by omega), hn, Bool.or_false]
  split
  · rename_i q
    have q := of_decide_eq_true q
    cases hk : (bk ss el i (k + 1)).kp with
    | true => exact absurd q (kept_near (S.warm i hi).1 hk)
    | false => rw [← hk]
  · rfl
theorem uV_congr {ss : List Sp} {b b' : Nat → Ls} (H : Ahead ss) (h : ∀ i, i < ss.length → b i = b' i) : ∀ i, i < ss.length → uV ss b i = uV ss b' i := by
  intro i
  induction i using Nat.strongRecOn with
  | _ i ih =>
    intro hi
    rw [uV_eq H hi, uV_eq H hi, h i hi]
    exact uF_congr fun n hn => by have := H i hi n hn; exact ih n.toNat (by omega) (by omega)
end Go.Proofs.Ytnbimpkihpaldaa
