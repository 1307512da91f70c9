import Derived.Test.YtcijkniijomcjaaPf
/-! Frames: what the reference does with bytes. -/
namespace Go.Proofs.Ytcijkniijomcjaa
open Go.RowKit Go.Cpl
/-- A number's bytes, the greatest ones first. -/
def dvU (c : Int) : Nat → Int
  | 0 => c
  | k + 1 => dvU c k / 256
def byU (c : Int) : Nat → Bs
  | 0 => []
  | k + 1 => ([UInt8.ofNat (dvU c k % 256).toNat] : List UInt8) ++ byU c k
theorem dvU_bd {c : Int} (h : -1000000000000 ≤ c ∧ c ≤ 1000000000000) (k : Nat) : -1000000000000 ≤ dvU c k ∧ dvU c k ≤ 1000000000000 := by
  induction k with
  | zero => exact h
  | succ k ih => simp only [dvU]; omega
theorem byU_length (c : Int) (k : Nat) : (byU c k).length = k := by
  induction k with
  | zero => rfl
  | succ k ih => simp only [byU, List.length_append, List.length_cons, List.length_nil, ih]; omega
theorem nthU_one {y : Int} (h : 0 ≤ y ∧ y < 256) : ((UInt8.ofNat y.toNat).toNat : Int) = y := by
  rw [UInt8.toNat_ofNat', Nat.mod_eq_of_lt (by omega)]; omega
theorem two_eq {l : Bs} (h : l.length = 2) : l = [UInt8.ofNat (nthU l 0), UInt8.ofNat (nthU l 1)] := by
  match l, h with
  | [a, b], _ => simp [nthU]
theorem byU_nth {c : Int} (h : 0 ≤ c ∧ c < 65536) : (nthU (byU c 2) 0 : Int) = c / 256 ∧ (nthU (byU c 2) 1 : Int) = c % 256 := by
  have h0 : nthU (byU c 2) 0 = (UInt8.ofNat (dvU c 1 % 256).toNat).toNat := rfl
  have h1 : nthU (byU c 2) 1 = (UInt8.ofNat (dvU c 0 % 256).toNat).toNat := rfl
  have e0 := nthU_one (y := dvU c 1 % 256) (by omega)
  have e1 := nthU_one (y := dvU c 0 % 256) (by omega)
  rw [h0, h1, e0, e1]
  have d0 : dvU c 0 = c := rfl
  have d1 : dvU c 1 = c / 256 := rfl
  rw [d0, d1]
  omega
/-- The bytes of a number are some bytes, just if it is their number. -/
theorem byU_two {c : Int} {l : Bs} {i : Nat} (h : 0 ≤ c ∧ c < 65536) (hl : i + 2 ≤ l.length) : byU c 2 = subU l i 2 ↔ c = whI l i 2 := by
  have hb := byU_nth h
  have e : whI l i 2 = (nthU l i : Int) * 256 + (nthU l (i + 1) : Int) := by simp [whI]
  have hs0 : nthU (subU l i 2) 0 = nthU l i := subU_nth (by omega)
  have hs1 : nthU (subU l i 2) 1 = nthU l (i + 1) := subU_nth (by omega)
  have l0 := nthU_lt l i
  have l1 := nthU_lt l (i + 1)
  rw [e]
  constructor
  · intro q
    rw [q] at hb
    rw [hs0, hs1] at hb
    omega
  · intro q
    rw [two_eq (byU_length c 2), two_eq (subU_length hl), hs0, hs1, show nthU (byU c 2) 0 = nthU l i by omega, show nthU (byU c 2) 1 = nthU l (i + 1) by omega]
/-- A number, below 0 or not. -/
def nmI (x W : Int) : Int := if 2 * x ≥ W then x - W else x
theorem nmI_y {x W : Int} (h : 2 * x ≥ W) : nmI x W = x - W := if_pos h
theorem nmI_n {x W : Int} (h : ¬ 2 * x ≥ W) : nmI x W = x := if_neg h
theorem nmI_2 (l : Bs) (i : Nat) : nmI (whI l i 2) ((256 : Int) ^ 2) = w16 (whI l i 2) := by
  have h := whI_range l i 2 (by omega)
  rw [w16_eq ⟨h.1, by have : (256 : Int) ^ 2 = 65536 := rfl; omega⟩]; rfl
theorem nmI_4 (l : Bs) (i : Nat) : nmI (whI l i 4) ((256 : Int) ^ 4) = w32 (whI l i 4) := by
  have h := whI_range l i 4 (by omega)
  rw [w32_eq ⟨h.1, by have : (256 : Int) ^ 4 = 4294967296 := rfl; omega⟩]; rfl
theorem pw_bd (k : Nat) (h : k ≤ 4) : 1 ≤ (256 : Int) ^ k ∧ (256 : Int) ^ k ≤ 4294967296 := by
  rcases (by omega : k = 0 ∨ k = 1 ∨ k = 2 ∨ k = 3 ∨ k = 4) with rfl | rfl | rfl | rfl | rfl <;> decide
/-- The letters in front. -/
theorem pre_two {l : Bs} (h : 8 ≤ l.length) : subU l 0 2 = [67, 80] ↔ ((nthU l 0 : Int) = 67 ∧ (nthU l 1 : Int) = 80) := by
  have hs0 : nthU (subU l 0 2) 0 = nthU l 0 := by rw [subU_nth (by omega)]
  have hs1 : nthU (subU l 0 2) 1 = nthU l 1 := by rw [subU_nth (by omega)]
  constructor
  · intro q
    rw [q] at hs0 hs1
    rw [← hs0, ← hs1]
    exact ⟨rfl, rfl⟩
  · intro q
    rw [two_eq (subU_length (by omega)), hs0, hs1, show nthU l 0 = 67 by omega, show nthU l 1 = 80 by omega]
    rfl
/-- The error of a frame. -/
def frE (p el : Int) (xs : List Nat) : Int := if inB p (-1000000000) 1000000000 = true then (mxC el xs).2 else 2
theorem frE_n {p el : Int} {xs : List Nat} (h : inB p (-1000000000) 1000000000 = false) : frE p el xs = 2 := if_neg (by rw [h]; decide)
theorem frE_y {p el : Int} {xs : List Nat} (h : inB p (-1000000000) 1000000000 = true) : frE p el xs = (mxC el xs).2 := if_pos h
theorem firstErr_any {l : List Int} (h : ∀ x ∈ l, x.natAbs < 16777216) : ∀ k, (firstErr (fw l) k).2 = if (l.any fun x => !inB x (-2047) 2047) = true then 2 else 0 := by
  induction l with
  | nil => intro k; rfl
  | cons x l ih =>
    intro k
    have hx := sErr_of x (h x (List.mem_cons_self ..))
    have hi := ih (fun y hy => h y (List.mem_cons_of_mem _ hy)) (k + 1)
    show (if sErr (floatOfInt .f32 x) = 0 then firstErr (fw l) (k + 1) else (k, sErr (floatOfInt .f32 x))).2 = _
    rw [hx, List.any_cons]
    by_cases q : -2047 ≤ x ∧ x ≤ 2047
    · rw [if_pos q, if_pos rfl, hi, inB_true.2 q]; rfl
    · have e : inB x (-2047) 2047 = false := by
        cases z : inB x (-2047) 2047 with
        | false => rfl
        | true => exact absurd (inB_true.1 z) q
      rw [if_neg q, if_neg (by decide), e]; rfl
theorem pfL_small (l : Bs) (n : Nat) : ∀ x ∈ pfL l n, x.natAbs < 16777216 := by
  intro x hx
  obtain ⟨k, _, rfl⟩ := List.mem_map.1 hx
  have := w16_range (whI (subU l 8 (l.length - 10)) (k * 2) 2)
  unfold pfS; omega
theorem pfBad_err (l : Bs) : (firstErr (fw (pfL l (64 * (nthU l 3 * nthU l 3)))) 0).2 = if pfBad l = true then 2 else 0 := by
  rw [firstErr_any (pfL_small _ _), pfL, List.any_map]; rfl
/-- A frame that is made of right bytes. -/
theorem pfZ_ref {l : Bs} (h1 : 8 ≤ l.length) (h2 : subU l 0 2 = [67, 80]) (h3 : (nthU l 2 : Int) = 1) (h4 : inB (nthU l 3 : Int) 1 16 = true) (h5 : l.length = 10 + 128 * (nthU l 3 * nthU l 3)) (h6 : ckU (subU l 0 (l.length - 2)) (subU l 0 (l.length - 2)).length = whI l (l.length - 2) 2) : pfZ l = frE (w32 (whI l 4 4)) (nthU l 3 : Int) (fw (pfL l (64 * (nthU l 3 * nthU l 3)))) := by
  cases h7 : inB (w32 (whI l 4 4)) (-1000000000) 1000000000 with
  | false => rw [pfZ_6 h1 h2 h3 h4 h5 h6 h7, frE_n h7]
  | true =>
    rw [pfZ_7 h1 h2 h3 h4 h5 h6 h7, frE_y h7, mxC_y h4 ?_, pfBad_err]
    rw [fw_length, pfL_length]
    have e : ((nthU l 3 * nthU l 3 : Nat) : Int) = (nthU l 3 : Int) * (nthU l 3 : Int) := Int.natCast_mul _ _
    rw [← e]; omega
section
variable {P : Program} {ops : Array Oper} {Q : Exit → Act → World → Prop} {n : Sz} {a : Act} {w0 : Base} {w : World} {F : Fm} {L Ls : List Bk} {M Ms : List Rw} {rest : List Oper}
theorem g_strOf1 {src dst e t : TypeId} {x : Operand} {g : Nat} {o : Bool} {y : Int} (j : Nat) (hx : evO F x = some (.slice (some ⟨g, 0, none⟩) 1 1)) (hj : L[j]? = some ⟨g, t, #[.int .u8 y], o⟩) (hy : 0 ≤ y ∧ y < 256) (hs : P.underlying src = some (.slice e)) (he : P.underlying e = some (.int .u8)) (hd : P.underlying dst = some .string) : Gives P F w0 L M (.convert src dst x) (.string ⟨([UInt8.ofNat y.toNat] : List UInt8).toArray⟩) := fun _ _ w hA hS _ _ _ _ _ => by
  have hb := hS.get j hj
  have := run_convert_bytes_back (P := P) w src dst e ⟨g, 0, none⟩ 1 [UInt8.ofNat y.toNat] hs he hd (fun k hk => by
    obtain rfl : k = 0 := by simpa using hk
    refine (cells_of_blk (m := 1) hb 0 (.int .u8 y) (by simp)).trans ?_
    simp only [List.getElem_cons_zero, nthU_one hy])
  simp only [List.length_cons, List.length_nil] at this
  simp [execOp, hA.ev hx, this]
theorem conv_to8 {t t' : TypeId} {x : Int} (h : P.underlying t = some (.int .i64)) (h' : P.underlying t' = some (.int .u8)) (w : World) : (convert t t' (.int .i64 (x % 256))).run P w = .ok (.int .u8 (x % 256)) w := by
  have e : (convert t t' (.int .i64 (x % 256))).run P w = .ok (.int .u8 (IntKind.u8.wrap (x % 256))) w := by simp [convert, run_underlying h, run_underlying h', Conv.intToInt]
  rw [e]
  have : IntKind.u8.wrap (x % 256) = x % 256 := by simp [IntKind.wrap, IntKind.bits, IntKind.signed]
  rw [this]
end
end Go.Proofs.Ytcijkniijomcjaa
