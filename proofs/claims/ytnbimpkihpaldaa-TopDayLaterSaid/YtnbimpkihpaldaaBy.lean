import Derived.Test.YtnbimpkihpaldaaFlat3
import Derived.Laws.IdiomStrings
import Derived.Laws.Strings2
import Derived.Laws.Concat
import Derived.Laws.Shifts
/-! Strings and bytes in the calculus of single steps: a string is told by the list of its bytes. -/
namespace Go.Proofs.Ytnbimpkihpaldaa
open Go.RowKit Go.Cpl
abbrev Bs := List UInt8
/-- A byte of a list, as a number. -/
def nthU (l : Bs) (k : Nat) : Nat := (l.getD k 0).toNat
theorem nthU_lt (l : Bs) (k : Nat) : nthU l k < 256 := (l.getD k 0).toNat_lt
theorem nthU_eq {l : Bs} {k : Nat} (h : k < l.length) : nthU l k = l[k].toNat := by simp [nthU, List.getD_eq_getElem?_getD, List.getElem?_eq_getElem h]
/-- A part of a list of bytes. -/
def subU (l : Bs) (i n : Nat) : Bs := (l.drop i).take n
theorem subU_length {l : Bs} {i n : Nat} (h : i + n ≤ l.length) : (subU l i n).length = n := by simp [subU]; omega
theorem subU_le (l : Bs) (i n : Nat) : (subU l i n).length ≤ n := by simp [subU]; omega
theorem subU_nth {l : Bs} {i n k : Nat} (h : k < n) : nthU (subU l i n) k = nthU l (i + k) := by
  unfold nthU subU
  rw [List.getD_eq_getElem?_getD, List.getElem?_take, if_pos h, List.getElem?_drop, List.getD_eq_getElem?_getD]
theorem subU_sub {l : Bs} {i n j m : Nat} (h : j + m ≤ n) : subU (subU l i n) j m = subU l (i + j) m := by
  unfold subU
  rw [List.drop_take, List.take_take, List.drop_drop, Nat.min_eq_left (by omega)]
theorem subU_all (l : Bs) : subU l 0 l.length = l := by simp [subU]
/-- Bytes that lie in a block with a mark. -/
def BRd (e : TypeId) (w : World) (ad : Addr) (l : Bs) : Prop := ∃ g cs fz, ad = ⟨g, 0, none⟩ ∧ w.heap[g]? = some (.cells cs e fz) ∧ plainO (.cells cs e fz) = false ∧ ∀ j, j < l.length → cs[j]? = some (.int .u8 (nthU l j))
theorem BRd.cell {e : TypeId} {w : World} {ad : Addr} {l : Bs} (h : BRd e w ad l) {k : Nat} (hk : k < l.length) : w.cell? (ad.add k) = some (.int .u8 (nthU l k)) := by
  obtain ⟨g, cs, fz, rfl, hg, _, hc⟩ := h
  rw [add_zero_off]
  unfold World.cell?
  simp only [hg]
  exact hc k hk
theorem BRd.keep {e : TypeId} {v w : World} {ad : Addr} {l : Bs} (h : BRd e v ad l) (k : KeepsX v w) : BRd e w ad l := by
  obtain ⟨g, cs, fz, rfl, hg, hp, hc⟩ := h
  exact ⟨g, cs, fz, rfl, k.same _ _ hg hp, hp, hc⟩
theorem BRd.round {e : TypeId} {W W' : World} {ad : Addr} {l : Bs} {row : Option Nat} (h : BRd e W ad l) (hg : W.grownBy W' row) (hr : ∀ r, row = some r → ∃ o : Obj, W.heap[r]? = some o ∧ o.isCells = false) : BRd e W' ad l := by
  obtain ⟨g, cs, fz, rfl, hgg, hp, hc⟩ := h
  refine ⟨g, cs, fz, rfl, (hg.block g (Array.getElem?_eq_some_iff.1 hgg).1 fun e' => ?_).trans hgg, hp, hc⟩
  obtain ⟨o, ho, hoc⟩ := hr g e'.symm
  rw [hgg] at ho; cases ho; cases hoc
theorem BRd.below {e : TypeId} {W W' : World} {ad : Addr} {l : Bs} (h : BRd e W ad l) (k : Below W.heap.size W W') : BRd e W' ad l := h.keep (keeps_of_below k (Nat.le_refl _))
section
variable {P : Program} {ops : Array Oper} {Q : Exit → Act → World → Prop} {n : Sz} {a : Act} {w0 : Base} {w : World} {F : Fm} {L Ls : List Bk} {M Ms : List Rw} {rest : List Oper}
theorem size_str (l : Bs) : (ByteArray.mk l.toArray).size = l.length := by simp [ByteArray.size]
/-- len, index and parts of a string. -/
theorem bl_str {t : TypeId} {l : Bs} (h : P.underlying t = some .string) (ty : TypeId) (cs : Array Bool) (w : World) : (builtin .len #[t] ty cs #[.string ⟨l.toArray⟩]).run P w = .ok (.value (.int .i64 (l.length : Int))) w := by
  show (do let x ← Builtin.len_ #[t] ty #[.string ⟨l.toArray⟩]; pure (Next.value x) : Sem Next).run P w = _
  rw [Sem.run_bind, run_len_string w t ty _ h, size_str]; rfl
theorem ix_str {t : TypeId} {l : Bs} {i : Int} (k : Nat) (h : P.underlying t = some .string) (hi : i = (k : Int)) (hk : k < l.length) (w : World) : (Instr.index t (.string ⟨l.toArray⟩) (.int .i64 i)).run P w = .ok (.int .u8 (nthU l k)) w := by
  subst hi
  rw [run_index_string w t _ _ _ h, dif_pos ⟨by omega, by rw [size_str]; omega⟩]
  have e : (ByteArray.mk l.toArray)[((k : Int)).toNat]'(by rw [size_str]; omega) = l[k] := by
    show (l.toArray)[(k : Int).toNat]'_ = l[k]
    simp
  rw [e, nthU_eq hk]
theorem sl_str {t : TypeId} {l : Bs} {i h : Nat} {x y : Int} (ht : P.underlying t = some .string) (h1 : i ≤ h) (h2 : h ≤ l.length) (hx : x = (i : Int)) (hy : y = (h : Int)) (w : World) : (Instr.sliceAt t (.string ⟨l.toArray⟩) (some (.int .i64 x)) (some (.int .i64 y)) none).run P w = .ok (.string ⟨(subU l i (h - i)).toArray⟩) w := by
  subst hx; subst hy
  rw [run_sliceAt_string w t _ _ _ _ ht, run_slice_string w t _ _ _ _ _ ht (by omega) (by omega) (by rw [size_str]; omega), ByteArray.extract_mk]
  simp [subU]
theorem sl_str_n {t : TypeId} {l : Bs} {i h k : Nat} {x y : Int} (ht : P.underlying t = some .string) (h1 : i ≤ h) (hk : k = h - i) (h2 : h ≤ l.length) (hx : x = (i : Int)) (hy : y = (h : Int)) (w : World) : (Instr.sliceAt t (.string ⟨l.toArray⟩) (some (.int .i64 x)) (some (.int .i64 y)) none).run P w = .ok (.string ⟨(subU l i k).toArray⟩) w := by
  subst hk; exact sl_str ht h1 h2 hx hy w
theorem sl_strL_n {t : TypeId} {l : Bs} {i k : Nat} {x : Int} (ht : P.underlying t = some .string) (h1 : i ≤ l.length) (hk : k = l.length - i) (hx : x = (i : Int)) (w : World) : (Instr.sliceAt t (.string ⟨l.toArray⟩) (some (.int .i64 x)) none none).run P w = .ok (.string ⟨(subU l i k).toArray⟩) w := by
  subst hk; subst hx
  rw [run_sliceAt_string w t _ _ _ _ ht, run_slice_string_l w t _ ht _ _ (by omega) (by rw [size_str]; omega), ByteArray.extract_mk, size_str]
  simp [subU]
theorem sl_strH {t : TypeId} {l : Bs} {h : Nat} {y : Int} (ht : P.underlying t = some .string) (h2 : h ≤ l.length) (hy : y = (h : Int)) (w : World) : (Instr.sliceAt t (.string ⟨l.toArray⟩) none (some (.int .i64 y)) none).run P w = .ok (.string ⟨(subU l 0 h).toArray⟩) w := by
  subst hy
  rw [run_sliceAt_string w t _ _ _ _ ht, run_slice_string_h w t _ ht _ _ (by omega) (by rw [size_str]; omega), ByteArray.extract_mk]
  simp [subU]
/-- A part of a part. -/
theorem sl_sub_n {t : TypeId} {l : Bs} {b n i h j k : Nat} {x y : Int} (ht : P.underlying t = some .string) (hn : b + n ≤ l.length) (h1 : i ≤ h) (h2 : h ≤ n) (hj : j = b + i) (hk : k = h - i) (hx : x = (i : Int)) (hy : y = (h : Int)) (w : World) : (Instr.sliceAt t (.string ⟨(subU l b n).toArray⟩) (some (.int .i64 x)) (some (.int .i64 y)) none).run P w = .ok (.string ⟨(subU l j k).toArray⟩) w := by
  have hl := subU_length hn
  rw [sl_str_n ht h1 hk (by omega) hx hy, subU_sub (by omega), hj]
theorem sl_subL_n {t : TypeId} {l : Bs} {b n i j k : Nat} {x : Int} (ht : P.underlying t = some .string) (hn : b + n ≤ l.length) (h1 : i ≤ n) (hj : j = b + i) (hk : k = n - i) (hx : x = (i : Int)) (w : World) : (Instr.sliceAt t (.string ⟨(subU l b n).toArray⟩) (some (.int .i64 x)) none none).run P w = .ok (.string ⟨(subU l j k).toArray⟩) w := by
  have hl := subU_length hn
  rw [sl_strL_n ht (by omega) (k := k) (by omega) hx, subU_sub (by omega), hj]
theorem sl_subH_n {t : TypeId} {l : Bs} {b n h : Nat} {y : Int} (ht : P.underlying t = some .string) (hn : b + n ≤ l.length) (h2 : h ≤ n) (hy : y = (h : Int)) (w : World) : (Instr.sliceAt t (.string ⟨(subU l b n).toArray⟩) none (some (.int .i64 y)) none).run P w = .ok (.string ⟨(subU l b h).toArray⟩) w := by
  have hl := subU_length hn
  rw [sl_strH ht (by omega) hy, subU_sub (by omega), Nat.add_zero]
theorem sl_strL {t : TypeId} {l : Bs} {i : Nat} {x : Int} (ht : P.underlying t = some .string) (h1 : i ≤ l.length) (hx : x = (i : Int)) (w : World) : (Instr.sliceAt t (.string ⟨l.toArray⟩) (some (.int .i64 x)) none none).run P w = .ok (.string ⟨(subU l i (l.length - i)).toArray⟩) w := by
  subst hx
  rw [run_sliceAt_string w t _ _ _ _ ht, run_slice_string_l w t _ ht _ _ (by omega) (by rw [size_str]; omega), ByteArray.extract_mk, size_str]
  simp [subU]
theorem q_str {t : TypeId} {l m : Bs} (w : World) : (binOp .eql t (.string ⟨l.toArray⟩) (.string ⟨m.toArray⟩)).run P w = .ok (.bool (decide (l = m))) w := by
  rw [binOp_string_eql, ByteArray.toList_mk, ByteArray.toList_mk]
  show Result.ok (Value.bool (l == m)) w = _
  congr 2
  by_cases e : l = m <;> simp [e]
theorem q_strN {t : TypeId} {l m : Bs} (w : World) : (binOp .neq t (.string ⟨l.toArray⟩) (.string ⟨m.toArray⟩)).run P w = .ok (.bool (decide (l ≠ m))) w := by
  rw [binOp_string_neq, ByteArray.toList_mk, ByteArray.toList_mk]
  show Result.ok (Value.bool (!(l == m))) w = _
  congr 2
  by_cases e : l = m <;> simp [e]
theorem b_cat {t : TypeId} {l m : Bs} (h : l.length + m.length ≤ 9223372036854775807) (w : World) : (binOp .add t (.string ⟨l.toArray⟩) (.string ⟨m.toArray⟩)).run P w = .ok (.string ⟨(l ++ m).toArray⟩) w := by
  rw [binOp_string_add, run_string_add_sum w _ _ (by rw [size_str, size_str]; exact h), ByteArray.mk_append_mk]
/-- Shifts and bits of numbers that are small. -/
theorem b_shl8 {t : TypeId} {x : Int} (h : 0 ≤ x ∧ x ≤ 1000000000000) (w : World) : (binOp .shl t (.int .i64 x) (.int .u64 8)).run P w = .ok (.int .i64 (x * 256)) w := by
  show (Op.shift .shl .i64 x .u64 8).run P w = _
  rw [shift_shl_any _ _ _ _ (by decide)]
  show Result.ok (Value.int .i64 (IntKind.i64.wrap (x * 2 ^ 8))) w = _
  rw [IntWalk.i64_in _ (by omega)]; rfl
theorem or_byte (a b : Nat) (h : b < 256) : a * 256 ||| b = a * 256 + b := by
  have := Nat.shiftLeft_add_eq_or_of_lt (b := b) (i := 8) h a
  rw [Nat.shiftLeft_eq] at this
  exact this.symm
theorem b_or8 {t : TypeId} {x : Int} {c : Nat} (h : 0 ≤ x ∧ x ≤ 1000000000000) (hc : c < 256) (w : World) : (binOp .or t (.int .i64 (x * 256)) (.int .i64 (c : Int))).run P w = .ok (.int .i64 (x * 256 + (c : Int))) w := by
  obtain ⟨a, rfl⟩ := Int.eq_ofNat_of_zero_le h.1
  show Result.ok (Value.int .i64 (IntKind.i64.wrap ((BitVec.ofInt 64 ((a : Int) * 256) ||| BitVec.ofInt 64 (c : Int)).toNat : Int))) w = _
  have h1 : (BitVec.ofInt 64 ((a : Int) * 256)).toNat = a * 256 := by
    rw [show (a : Int) * 256 = ((a * 256 : Nat) : Int) by simp, BitVec.ofInt_natCast, BitVec.toNat_ofNat]; exact Nat.mod_eq_of_lt (by omega)
  have h2 : (BitVec.ofInt 64 (c : Int)).toNat = c := by
    rw [BitVec.ofInt_natCast, BitVec.toNat_ofNat]; exact Nat.mod_eq_of_lt (by omega)
  rw [BitVec.toNat_or, h1, h2, or_byte _ _ hc, IntWalk.i64_in _ (by omega)]
  simp
/-- Numbers of other sizes. -/
def w16 (x : Int) : Int := IntKind.i16.wrap x
def w32 (x : Int) : Int := IntKind.i32.wrap x
theorem w16_eq {x : Int} (h : 0 ≤ x ∧ x < 65536) : w16 x = if 2 * x ≥ 65536 then x - 65536 else x := by
  have e : x % 2 ^ 16 = x := Int.emod_eq_of_lt h.1 (by omega)
  simp only [w16, IntKind.wrap, IntKind.bits, IntKind.signed, e]
  by_cases q : 2 * x ≥ 65536
  · rw [if_pos q, if_pos (by simp; omega)]; rfl
  · rw [if_neg q, if_neg (by simp; omega)]
theorem w32_eq {x : Int} (h : 0 ≤ x ∧ x < 4294967296) : w32 x = if 2 * x ≥ 4294967296 then x - 4294967296 else x := by
  have e : x % 2 ^ 32 = x := Int.emod_eq_of_lt h.1 (by omega)
  simp only [w32, IntKind.wrap, IntKind.bits, IntKind.signed, e]
  by_cases q : 2 * x ≥ 4294967296
  · rw [if_pos q, if_pos (by simp; omega)]; rfl
  · rw [if_neg q, if_neg (by simp; omega)]
/-- A string's bytes in new memory. -/
theorem s_bytesOf {d : Nat} {src dst ty e : TypeId} {x : Operand} {pos : String} {aft : Array Edge} {l : Bs} (hA : Fr n a F) (hS : St w0 L M w) (hx : evO F x = some (.string ⟨l.toArray⟩)) (hs : P.underlying src = some .string) (hd : P.underlying dst = some (.slice e)) (he : P.underlying e = some (.int .u8)) (hdn : Nat.blt d n = true)
    (k : ∀ (w' : World) (ad : Addr) (cap : Nat) (a' : Act), l.length ≤ cap → BRd e w' ad l → Fr n a' ((d, .slice (some ad) l.length cap) :: F) → KeepsX w0.v w' → St ⟨w0.w, w'⟩ L M w' → wpList P ops Q rest a' w') : wpList P ops Q (⟨some d, .convert src dst x, ty, pos, aft, none⟩ :: rest) a w := by
  refine wpList_plain rfl fun K hK => ?_
  have hrun := run_bytes_of_string (P := P) w src dst e ⟨l.toArray⟩ hs hd he
  have hcap := grownCap_ge w (ByteArray.mk l.toArray).size 0 e
  rw [size_str] at hcap hrun
  generalize grownCap w l.length 0 e = c at hcap hrun
  generalize hz : (bytesRow ⟨l.toArray⟩ c) = cs at hrun
  generalize hw' : w.drew.alloc (.cells cs e (cs.size, cs.size + 1)) = w' at hrun
  have hb : Below w.heap.size w w' := by rw [← hw']; exact (Below.drew (Below.refl _ _)).alloc (Nat.le_refl _) _
  have hbr : BRd e w' ⟨w.heap.size, 0, none⟩ l := by
    refine ⟨w.heap.size, cs, _, rfl, by rw [← hw']; exact World.alloc_heap_new w.drew _, by simp [plainO], fun j hj => ?_⟩
    rw [← hz, bytesRow_at _ _ _ (by simpa using hj), nthU_eq hj]
    simp
  have hS' := hS.kept hb
  unfold Oper.wp execOp
  simp only [Sem.run_bind, Sem.run_pure, Result.andThen_ok, hA.ev hx, hrun]
  exact hK _ _ (k w' ⟨w.heap.size, 0, none⟩ c _ hcap hbr (hA.put (blt_lt hdn) _) hS'.others (hS'.since (KeepsX.refl _)))
/-- A byte, and a string of bytes. -/
theorem g_loadXB {ty e : TypeId} {x : Operand} {ad : Addr} {l : Bs} {k : Nat} (hx : evO F x = some (.pointer (some (ad.add k)))) (hr : BRd e w0.v ad l) (hk : k < l.length) (hs : scalar P ty = true) : Gives P F w0 L M (.load ty x) (.int .u8 (nthU l k)) := fun _ _ w hA hS _ _ _ _ _ => by
  have h1 := (hr.keep hS.others).cell hk
  have hi : (isAgg ty).run P w = .ok false w := by
    unfold scalar at hs
    unfold isAgg
    cases hu : P.underlying ty with
    | none => rw [hu] at hs; cases hs
    | some d => rw [hu] at hs; rw [Sem.run_bind, run_underlying hu]; cases d <;> first | rfl | cases hs
  have hl : (loadVar ty (ad.add k)).run P w = .ok (.int .u8 (nthU l k)) w := by
    unfold loadVar
    rw [Sem.run_bind, hi]
    simp only [Result.andThen_ok]
    rw [if_neg (by decide), run_load, h1]
  simp only [execOp, hA.ev hx, Instr.loadAt, Instr.sureAddr, Sem.run_bind, Sem.run_pure, Result.andThen_ok, hl]
theorem g_strOf {src dst e : TypeId} {x : Operand} {ad : Addr} {l : Bs} {i k c : Nat} (hx : evO F x = some (.slice (some (ad.add i)) k c)) (hr : BRd e w0.v ad l) (hk : i + k ≤ l.length) (hs : P.underlying src = some (.slice e)) (he : P.underlying e = some (.int .u8)) (hd : P.underlying dst = some .string) : Gives P F w0 L M (.convert src dst x) (.string ⟨(subU l i k).toArray⟩) := fun _ _ w hA hS _ _ _ _ _ => by
  have hlen := subU_length hk
  have := run_convert_bytes_back (P := P) w src dst e (ad.add i) c (subU l i k) hs he hd (fun j hj => by
    rw [hlen] at hj
    rw [Addr.add_add, (hr.keep hS.others).cell (by omega), ← nthU_eq (by rw [hlen]; exact hj), subU_nth hj])
  rw [hlen] at this
  simp [execOp, hA.ev hx, this]
theorem ix_by {t e : TypeId} {bytes : Nat} {ad : Addr} {m c : Nat} {i : Int} (k : Nat) (he : elemInfo P t = some (e, 1, bytes)) (hi : i = (k : Int)) (hk : k < m) (w : World) : (Instr.indexAt t (.slice (some ad) m c) (.int .i64 i)).run P w = .ok (.pointer (some (ad.add k))) w := ix_x k he hi hk w
end
theorem conv_u8 {P : Program} {t t' : TypeId} {x : Int} (h : P.underlying t = some (.int .u8)) (h' : P.underlying t' = some (.int .i64)) (hx : 0 ≤ x ∧ x < 256) (w : World) : (convert t t' (.int .u8 x)).run P w = .ok (.int .i64 x) w := by
  have : (convert t t' (.int .u8 x)).run P w = .ok (.int .i64 (IntKind.i64.wrap x)) w := by simp [convert, run_underlying h, run_underlying h', Conv.intToInt]
  rw [this, IntWalk.i64_in _ (by omega)]
theorem w16_mod (x : Int) : w16 x = (x + 32768) % 65536 - 32768 := by
  simp [w16, IntKind.wrap, IntKind.bits, IntKind.signed]
  split <;> omega
theorem w32_mod (x : Int) : w32 x = (x + 2147483648) % 4294967296 - 2147483648 := by
  simp [w32, IntKind.wrap, IntKind.bits, IntKind.signed]
  split <;> omega
theorem w16_range (x : Int) : -32768 ≤ w16 x ∧ w16 x < 32768 := by rw [w16_mod]; omega
theorem w32_range (x : Int) : -2147483648 ≤ w32 x ∧ w32 x < 2147483648 := by rw [w32_mod]; omega
theorem conv_w16 {P : Program} {t t' : TypeId} {x : Int} (h : P.underlying t = some (.int .i16)) (h' : P.underlying t' = some (.int .i64)) (w : World) : (convert t t' (.int .i16 (w16 x))).run P w = .ok (.int .i64 (w16 x)) w := by
  have : (convert t t' (.int .i16 (w16 x))).run P w = .ok (.int .i64 (IntKind.i64.wrap (w16 x))) w := by simp [convert, run_underlying h, run_underlying h', Conv.intToInt]
  have := w16_range x
  rw [‹(convert t t' (.int .i16 (w16 x))).run P w = _›, IntWalk.i64_in _ (by omega)]
theorem conv_w32 {P : Program} {t t' : TypeId} {x : Int} (h : P.underlying t = some (.int .i32)) (h' : P.underlying t' = some (.int .i64)) (w : World) : (convert t t' (.int .i32 (w32 x))).run P w = .ok (.int .i64 (w32 x)) w := by
  have : (convert t t' (.int .i32 (w32 x))).run P w = .ok (.int .i64 (IntKind.i64.wrap (w32 x))) w := by simp [convert, run_underlying h, run_underlying h', Conv.intToInt]
  have := w32_range x
  rw [‹(convert t t' (.int .i32 (w32 x))).run P w = _›, IntWalk.i64_in _ (by omega)]
end Go.Proofs.Ytnbimpkihpaldaa
