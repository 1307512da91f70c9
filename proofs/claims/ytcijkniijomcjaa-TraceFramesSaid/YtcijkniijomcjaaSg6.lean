/- Texts of the proof of TraceFrames, put together (part 6): By, By2, Pf, Rfs, Rf1. -/
import Derived.Test.YtcijkniijomcjaaSg5
import Derived.ChangeKeysEq
import Derived.Laws.Concat
import Derived.Laws.Cover1
import Derived.Laws.IdiomStrings
import Derived.Laws.Shifts
import Derived.Laws.Strings2
import Derived.Laws.StructEq
/-! Strings and bytes in the calculus of single steps: a string is told by the list of its bytes. -/
namespace Go.Proofs.Ytcijkniijomcjaa
open Go.RowKit Go.Cpl
abbrev Bs := List UInt8
/-- A byte of a list, as a number. -/
def nthU (l : Bs) (k : Nat) : Nat := (l.getD k 0).toNat
theorem nthU_lt (l : Bs) (k : Nat) : nthU l k < 256 := (l.getD k 0).toNat_lt
theorem nthU_eq {l : Bs} {k : Nat} (h : k < l.length) : nthU l k = l[k].toNat := by simp [nthU, List.getD_eq_getElem?_getD, List.getElem?_eq_getElem h]
/-- A part of a list of bytes. -/
def subU (l : Bs) (i n : Nat) : Bs := (l.drop i).take n
theorem subU_length {l : Bs} {i n : Nat} (h : i + n ≤ l.length) : (subU l i n).length = n := by simp [subU]; omega
theorem subU_le (l : Bs) (i n : Nat) : (subU l i n).length ≤ n := by simp [subU]; omega
theorem subU_nth {l : Bs} {i n k : Nat} (h : k < n) : nthU (subU l i n) k = nthU l (i + k) := by
  unfold nthU subU
  rw [List.getD_eq_getElem?_getD, List.getElem?_take, if_pos h, List.getElem?_drop, List.getD_eq_getElem?_getD]
theorem subU_sub {l : Bs} {i n j m : Nat} (h : j + m ≤ n) : subU (subU l i n) j m = subU l (i + j) m := by
  unfold subU
  rw [List.drop_take, List.take_take, List.drop_drop, Nat.min_eq_left (by omega)]
theorem subU_all (l : Bs) : subU l 0 l.length = l := by simp [subU]
/-- Bytes that lie in a block with a mark. -/
def BRd (e : TypeId) (w : World) (ad : Addr) (l : Bs) : Prop := ∃ g cs fz, ad = ⟨g, 0, none⟩ ∧ w.heap[g]? = some (.cells cs e fz) ∧ plainO (.cells cs e fz) = false ∧ ∀ j, j < l.length → cs[j]? = some (.int .u8 (nthU l j))
theorem BRd.cell {e : TypeId} {w : World} {ad : Addr} {l : Bs} (h : BRd e w ad l) {k : Nat} (hk : k < l.length) : w.cell? (ad.add k) = some (.int .u8 (nthU l k)) := by
  obtain ⟨g, cs, fz, rfl, hg, _, hc⟩ := h
  rw [add_zero_off]
  unfold World.cell?
  simp only [hg]
  exact hc k hk
theorem BRd.keep {e : TypeId} {v w : World} {ad : Addr} {l : Bs} (h : BRd e v ad l) (k : KeepsX v w) : BRd e w ad l := by
  obtain ⟨g, cs, fz, rfl, hg, hp, hc⟩ := h
  exact ⟨g, cs, fz, rfl, k.same _ _ hg hp, hp, hc⟩
theorem BRd.round {e : TypeId} {W W' : World} {ad : Addr} {l : Bs} {row : Option Nat} (h : BRd e W ad l) (hg : W.grownBy W' row) (hr : ∀ r, row = some r → ∃ o : Obj, W.heap[r]? = some o ∧ o.isCells = false) : BRd e W' ad l := by
  obtain ⟨g, cs, fz, rfl, hgg, hp, hc⟩ := h
  refine ⟨g, cs, fz, rfl, (hg.block g (Array.getElem?_eq_some_iff.1 hgg).1 fun e' => ?_).trans hgg, hp, hc⟩
  obtain ⟨o, ho, hoc⟩ := hr g e'.symm
  rw [hgg] at ho; cases ho; cases hoc
theorem BRd.below {e : TypeId} {W W' : World} {ad : Addr} {l : Bs} (h : BRd e W ad l) (k : Below W.heap.size W W') : BRd e W' ad l := h.keep (keeps_of_below k (Nat.le_refl _))
section
variable {P : Program} {ops : Array Oper} {Q : Exit → Act → World → Prop} {n : Sz} {a : Act} {w0 : Base} {w : World} {F : Fm} {L Ls : List Bk} {M Ms : List Rw} {rest : List Oper}
theorem size_str (l : Bs) : (ByteArray.mk l.toArray).size = l.length := by simp [ByteArray.size]
/-- len, index and parts of a string. -/
theorem bl_str {t : TypeId} {l : Bs} (h : P.underlying t = some .string) (ty : TypeId) (cs : Array Bool) (w : World) : (builtin .len #[t] ty cs #[.string ⟨l.toArray⟩]).run P w = .ok (.value (.int .i64 (l.length : Int))) w := by
  show (do let x ← Builtin.len_ #[t] ty #[.string ⟨l.toArray⟩]; pure (Next.value x) : Sem Next).run P w = _
  rw [Sem.run_bind, run_len_string w t ty _ h, size_str]; rfl
theorem ix_str {t : TypeId} {l : Bs} {i : Int} (k : Nat) (h : P.underlying t = some .string) (hi : i = (k : Int)) (hk : k < l.length) (w : World) : (Instr.index t (.string ⟨l.toArray⟩) (.int .i64 i)).run P w = .ok (.int .u8 (nthU l k)) w := by
  subst hi
  rw [run_index_string w t _ _ _ h, dif_pos ⟨by omega, by rw [size_str]; omega⟩]
  have e : (ByteArray.mk l.toArray)[((k : Int)).toNat]'(by rw [size_str]; omega) = l[k] := by
    show (l.toArray)[(k : Int).toNat]'_ = l[k]
    simp
  rw [e, nthU_eq hk]
theorem sl_str {t : TypeId} {l : Bs} {i h : Nat} {x y : Int} (ht : P.underlying t = some .string) (h1 : i ≤ h) (h2 : h ≤ l.length) (hx : x = (i : Int)) (hy : y = (h : Int)) (w : World) : (Instr.sliceAt t (.string ⟨l.toArray⟩) (some (.int .i64 x)) (some (.int .i64 y)) none).run P w = .ok (.string ⟨(subU l i (h - i)).toArray⟩) w := by
  subst hx; subst hy
  rw [run_sliceAt_string w t _ _ _ _ ht, run_slice_string w t _ _ _ _ _ ht (by omega) (by omega) (by rw [size_str]; omega), ByteArray.extract_mk]
  simp [subU]
theorem sl_str_n {t : TypeId} {l : Bs} {i h k : Nat} {x y : Int} (ht : P.underlying t = some .string) (h1 : i ≤ h) (hk : k = h - i) (h2 : h ≤ l.length) (hx : x = (i : Int)) (hy : y = (h : Int)) (w : World) : (Instr.sliceAt t (.string ⟨l.toArray⟩) (some (.int .i64 x)) (some (.int .i64 y)) none).run P w = .ok (.string ⟨(subU l i k).toArray⟩) w := by
  subst hk; exact sl_str ht h1 h2 hx hy w
theorem sl_strL_n {t : TypeId} {l : Bs} {i k : Nat} {x : Int} (ht : P.underlying t = some .string) (h1 : i ≤ l.length) (hk : k = l.length - i) (hx : x = (i : Int)) (w : World) : (Instr.sliceAt t (.string ⟨l.toArray⟩) (some (.int .i64 x)) none none).run P w = .ok (.string ⟨(subU l i k).toArray⟩) w := by
  subst hk; subst hx
  rw [run_sliceAt_string w t _ _ _ _ ht, run_slice_string_l w t _ ht _ _ (by omega) (by rw [size_str]; omega), ByteArray.extract_mk, size_str]
  simp [subU]
theorem sl_strH {t : TypeId} {l : Bs} {h : Nat} {y : Int} (ht : P.underlying t = some .string) (h2 : h ≤ l.length) (hy : y = (h : Int)) (w : World) : (Instr.sliceAt t (.string ⟨l.toArray⟩) none (some (.int .i64 y)) none).run P w = .ok (.string ⟨(subU l 0 h).toArray⟩) w := by
  subst hy
  rw [run_sliceAt_string w t _ _ _ _ ht, run_slice_string_h w t _ ht _ _ (by omega) (by rw [size_str]; omega), ByteArray.extract_mk]
  simp [subU]
/-- A part of a part. -/
theorem sl_sub_n {t : TypeId} {l : Bs} {b n i h j k : Nat} {x y : Int} (ht : P.underlying t = some .string) (hn : b + n ≤ l.length) (h1 : i ≤ h) (h2 : h ≤ n) (hj : j = b + i) (hk : k = h - i) (hx : x = (i : Int)) (hy : y = (h : Int)) (w : World) : (Instr.sliceAt t (.string ⟨(subU l b n).toArray⟩) (some (.int .i64 x)) (some (.int .i64 y)) none).run P w = .ok (.string ⟨(subU l j k).toArray⟩) w := by
  have hl := subU_length hn
  rw [sl_str_n ht h1 hk (by omega) hx hy, subU_sub (by omega), hj]
theorem sl_subL_n {t : TypeId} {l : Bs} {b n i j k : Nat} {x : Int} (ht : P.underlying t = some .string) (hn : b + n ≤ l.length) (h1 : i ≤ n) (hj : j = b + i) (hk : k = n - i) (hx : x = (i : Int)) (w : World) : (Instr.sliceAt t (.string ⟨(subU l b n).toArray⟩) (some (.int .i64 x)) none none).run P w = .ok (.string ⟨(subU l j k).toArray⟩) w := by
  have hl := subU_length hn
  rw [sl_strL_n ht (by omega) (k := k) (by omega) hx, subU_sub (by omega), hj]
theorem sl_subH_n {t : TypeId} {l : Bs} {b n h : Nat} {y : Int} (ht : P.underlying t = some .string) (hn : b + n ≤ l.length) (h2 : h ≤ n) (hy : y = (h : Int)) (w : World) : (Instr.sliceAt t (.string ⟨(subU l b n).toArray⟩) none (some (.int .i64 y)) none).run P w = .ok (.string ⟨(subU l b h).toArray⟩) w := by
  have hl := subU_length hn
  rw [sl_strH ht (by omega) hy, subU_sub (by omega), Nat.add_zero]
theorem sl_strL {t : TypeId} {l : Bs} {i : Nat} {x : Int} (ht : P.underlying t = some .string) (h1 : i ≤ l.length) (hx : x = (i : Int)) (w : World) : (Instr.sliceAt t (.string ⟨l.toArray⟩) (some (.int .i64 x)) none none).run P w = .ok (.string ⟨(subU l i (l.length - i)).toArray⟩) w := by
  subst hx
  rw [run_sliceAt_string w t _ _ _ _ ht, run_slice_string_l w t _ ht _ _ (by omega) (by rw [size_str]; omega), ByteArray.extract_mk, size_str]
  simp [subU]
theorem q_str {t : TypeId} {l m : Bs} (w : World) : (binOp .eql t (.string ⟨l.toArray⟩) (.string ⟨m.toArray⟩)).run P w = .ok (.bool (decide (l = m))) w := by
  rw [binOp_string_eql, ByteArray.toList_mk, ByteArray.toList_mk]
  show Result.ok (Value.bool (l == m)) w = _
  congr 2
  by_cases e : l = m <;> simp [e]
theorem q_strN {t : TypeId} {l m : Bs} (w : World) : (binOp .neq t (.string ⟨l.toArray⟩) (.string ⟨m.toArray⟩)).run P w = .ok (.bool (decide (l ≠ m))) w := by
  rw [binOp_string_neq, ByteArray.toList_mk, ByteArray.toList_mk]
  show Result.ok (Value.bool (!(l == m))) w = _
  congr 2
  by_cases e : l = m <;> simp [e]
theorem b_cat {t : TypeId} {l m : Bs} (h : l.length + m.length ≤ 9223372036854775807) (w : World) : (binOp .add t (.string ⟨l.toArray⟩) (.string ⟨m.toArray⟩)).run P w = .ok (.string ⟨(l ++ m).toArray⟩) w := by
  rw [binOp_string_add, run_string_add_sum w _ _ (by rw [size_str, size_str]; exact h), ByteArray.mk_append_mk]
/-- Shifts and bits of numbers that are small. -/
theorem b_shl8 {t : TypeId} {x : Int} (h : 0 ≤ x ∧ x ≤ 1000000000000) (w : World) : (binOp .shl t (.int .i64 x) (.int .u64 8)).run P w = .ok (.int .i64 (x * 256)) w := by
  show (Op.shift .shl .i64 x .u64 8).run P w = _
  rw [shift_shl_any _ _ _ _ (by decide)]
  show Result.ok (Value.int .i64 (IntKind.i64.wrap (x * 2 ^ 8))) w = _
  rw [IntWalk.i64_in _ (by omega)]; rfl
theorem or_byte (a b : Nat) (h : b < 256) : a * 256 ||| b = a * 256 + b := by
  have := Nat.shiftLeft_add_eq_or_of_lt (b := b) (i := 8) h a
  rw [Nat.shiftLeft_eq] at this
  exact this.symm
theorem b_or8 {t : TypeId} {x : Int} {c : Nat} (h : 0 ≤ x ∧ x ≤ 1000000000000) (hc : c < 256) (w : World) : (binOp .or t (.int .i64 (x * 256)) (.int .i64 (c : Int))).run P w = .ok (.int .i64 (x * 256 + (c : Int))) w := by
  obtain ⟨a, rfl⟩ := Int.eq_ofNat_of_zero_le h.1
  show Result.ok (Value.int .i64 (IntKind.i64.wrap ((BitVec.ofInt 64 ((a : Int) * 256) ||| BitVec.ofInt 64 (c : Int)).toNat : Int))) w = _
  have h1 : (BitVec.ofInt 64 ((a : Int) * 256)).toNat = a * 256 := by
    rw [show (a : Int) * 256 = ((a * 256 : Nat) : Int) by simp, BitVec.ofInt_natCast, BitVec.toNat_ofNat]; exact Nat.mod_eq_of_lt (by omega)
  have h2 : (BitVec.ofInt 64 (c : Int)).toNat = c := by
    rw [BitVec.ofInt_natCast, BitVec.toNat_ofNat]; exact Nat.mod_eq_of_lt (by omega)
  rw [BitVec.toNat_or, h1, h2, or_byte _ _ hc, IntWalk.i64_in _ (by omega)]
  simp
/-- Numbers of other sizes. -/
def w16 (x : Int) : Int := IntKind.i16.wrap x
def w32 (x : Int) : Int := IntKind.i32.wrap x
theorem w16_eq {x : Int} (h : 0 ≤ x ∧ x < 65536) : w16 x = if 2 * x ≥ 65536 then x - 65536 else x := by
  have e : x % 2 ^ 16 = x := Int.emod_eq_of_lt h.1 (by omega)
  simp only [w16, IntKind.wrap, IntKind.bits, IntKind.signed, e]
  by_cases q : 2 * x ≥ 65536
  · rw [if_pos q, if_pos (by simp; omega)]; rfl
  · rw [if_neg q, if_neg (by simp; omega)]
theorem w32_eq {x : Int} (h : 0 ≤ x ∧ x < 4294967296) : w32 x = if 2 * x ≥ 4294967296 then x - 4294967296 else x := by
  have e : x % 2 ^ 32 = x := Int.emod_eq_of_lt h.1 (by omega)
  simp only [w32, IntKind.wrap, IntKind.bits, IntKind.signed, e]
  by_cases q : 2 * x ≥ 4294967296
  · rw [if_pos q, if_pos (by simp; omega)]; rfl
  · rw [if_neg q, if_neg (by simp; omega)]
/-- A string's bytes in new memory. -/
theorem s_bytesOf {d : Nat} {src dst ty e : TypeId} {x : Operand} {pos : String} {aft : Array Edge} {l : Bs} (hA : Fr n a F) (hS : St w0 L M w) (hx : evO F x = some (.string ⟨l.toArray⟩)) (hs : P.underlying src = some .string) (hd : P.underlying dst = some (.slice e)) (he : P.underlying e = some (.int .u8)) (hdn : Nat.blt d n = true)
    (k : ∀ (w' : World) (ad : Addr) (cap : Nat) (a' : Act), l.length ≤ cap → BRd e w' ad l → Fr n a' ((d, .slice (some ad) l.length cap) :: F) → KeepsX w0.v w' → St ⟨w0.w, w'⟩ L M w' → wpList P ops Q rest a' w') : wpList P ops Q (⟨some d, .convert src dst x, ty, pos, aft, none⟩ :: rest) a w := by
  refine wpList_plain rfl fun K hK => ?_
  have hrun := run_bytes_of_string (P := P) w src dst e ⟨l.toArray⟩ hs hd he
  have hcap := grownCap_ge w (ByteArray.mk l.toArray).size 0 e
  rw [size_str] at hcap hrun
  generalize grownCap w l.length 0 e = c at hcap hrun
  generalize hz : (bytesRow ⟨l.toArray⟩ c) = cs at hrun
  generalize hw' : w.drew.alloc (.cells cs e (cs.size, cs.size + 1)) = w' at hrun
  have hb : Below w.heap.size w w' := by rw [← hw']; exact (Below.drew (Below.refl _ _)).alloc (Nat.le_refl _) _
  have hbr : BRd e w' ⟨w.heap.size, 0, none⟩ l := by
    refine ⟨w.heap.size, cs, _, rfl, by rw [← hw']; exact World.alloc_heap_new w.drew _, by simp [plainO], fun j hj => ?_⟩
    rw [← hz, bytesRow_at _ _ _ (by simpa using hj), nthU_eq hj]
    simp
  have hS' := hS.kept hb
  unfold Oper.wp execOp
  simp only [Sem.run_bind, Sem.run_pure, Result.andThen_ok, hA.ev hx, hrun]
  exact hK _ _ (k w' ⟨w.heap.size, 0, none⟩ c _ hcap hbr (hA.put (blt_lt hdn) _) hS'.others (hS'.since (KeepsX.refl _)))
/-- A byte, and a string of bytes. -/
theorem g_loadXB {ty e : TypeId} {x : Operand} {ad : Addr} {l : Bs} {k : Nat} (hx : evO F x = some (.pointer (some (ad.add k)))) (hr : BRd e w0.v ad l) (hk : k < l.length) (hs : scalar P ty = true) : Gives P F w0 L M (.load ty x) (.int .u8 (nthU l k)) := fun _ _ w hA hS _ _ _ _ _ => by
  have h1 := (hr.keep hS.others).cell hk
  have hi : (isAgg ty).run P w = .ok false w := by
    unfold scalar at hs
    unfold isAgg
    cases hu : P.underlying ty with
    | none => rw [hu] at hs; cases hs
    | some d => rw [hu] at hs; rw [Sem.run_bind, run_underlying hu]; cases d <;> first | rfl | cases hs
  have hl : (loadVar ty (ad.add k)).run P w = .ok (.int .u8 (nthU l k)) w := by
    unfold loadVar
    rw [Sem.run_bind, hi]
    simp only [Result.andThen_ok]
    rw [if_neg (by decide), run_load, h1]
  simp only [execOp, hA.ev hx, Instr.loadAt, Instr.sureAddr, Sem.run_bind, Sem.run_pure, Result.andThen_ok, hl]
theorem g_strOf {src dst e : TypeId} {x : Operand} {ad : Addr} {l : Bs} {i k c : Nat} (hx : evO F x = some (.slice (some (ad.add i)) k c)) (hr : BRd e w0.v ad l) (hk : i + k ≤ l.length) (hs : P.underlying src = some (.slice e)) (he : P.underlying e = some (.int .u8)) (hd : P.underlying dst = some .string) : Gives P F w0 L M (.convert src dst x) (.string ⟨(subU l i k).toArray⟩) := fun _ _ w hA hS _ _ _ _ _ => by
  have hlen := subU_length hk
  have := run_convert_bytes_back (P := P) w src dst e (ad.add i) c (subU l i k) hs he hd (fun j hj => by
    rw [hlen] at hj
    rw [Addr.add_add, (hr.keep hS.others).cell (by omega), ← nthU_eq (by rw [hlen]; exact hj), subU_nth hj])
  rw [hlen] at this
  simp [execOp, hA.ev hx, this]
theorem ix_by {t e : TypeId} {bytes : Nat} {ad : Addr} {m c : Nat} {i : Int} (k : Nat) (he : elemInfo P t = some (e, 1, bytes)) (hi : i = (k : Int)) (hk : k < m) (w : World) : (Instr.indexAt t (.slice (some ad) m c) (.int .i64 i)).run P w = .ok (.pointer (some (ad.add k))) w := ix_x k he hi hk w
end
theorem conv_u8 {P : Program} {t t' : TypeId} {x : Int} (h : P.underlying t = some (.int .u8)) (h' : P.underlying t' = some (.int .i64)) (hx : 0 ≤ x ∧ x < 256) (w : World) : (convert t t' (.int .u8 x)).run P w = .ok (.int .i64 x) w := by
  have : (convert t t' (.int .u8 x)).run P w = .ok (.int .i64 (IntKind.i64.wrap x)) w := by simp [convert, run_underlying h, run_underlying h', Conv.intToInt]
  rw [this, IntWalk.i64_in _ (by omega)]
theorem w16_mod (x : Int) : w16 x = (x + 32768) % 65536 - 32768 := by
  simp [w16, IntKind.wrap, IntKind.bits, IntKind.signed]
  split <;> omega
theorem w32_mod (x : Int) : w32 x = (x + 2147483648) % 4294967296 - 2147483648 := by
  simp [w32, IntKind.wrap, IntKind.bits, IntKind.signed]
  split <;> omega
theorem w16_range (x : Int) : -32768 ≤ w16 x ∧ w16 x < 32768 := by rw [w16_mod]; omega
theorem w32_range (x : Int) : -2147483648 ≤ w32 x ∧ w32 x < 2147483648 := by rw [w32_mod]; omega
theorem conv_w16 {P : Program} {t t' : TypeId} {x : Int} (h : P.underlying t = some (.int .i16)) (h' : P.underlying t' = some (.int .i64)) (w : World) : (convert t t' (.int .i16 (w16 x))).run P w = .ok (.int .i64 (w16 x)) w := by
  have : (convert t t' (.int .i16 (w16 x))).run P w = .ok (.int .i64 (IntKind.i64.wrap (w16 x))) w := by simp [convert, run_underlying h, run_underlying h', Conv.intToInt]
  have := w16_range x
  rw [‹(convert t t' (.int .i16 (w16 x))).run P w = _›, IntWalk.i64_in _ (by omega)]
theorem conv_w32 {P : Program} {t t' : TypeId} {x : Int} (h : P.underlying t = some (.int .i32)) (h' : P.underlying t' = some (.int .i64)) (w : World) : (convert t t' (.int .i32 (w32 x))).run P w = .ok (.int .i64 (w32 x)) w := by
  have : (convert t t' (.int .i32 (w32 x))).run P w = .ok (.int .i64 (IntKind.i64.wrap (w32 x))) w := by simp [convert, run_underlying h, run_underlying h', Conv.intToInt]
  have := w32_range x
  rw [‹(convert t t' (.int .i32 (w32 x))).run P w = _›, IntWalk.i64_in _ (by omega)]
end Go.Proofs.Ytcijkniijomcjaa
/- Checks, numbers and sizes of frames. -/
namespace Go.Proofs.Ytcijkniijomcjaa
open Go.RowKit Go.Cpl

/-- The check of bytes. -/
def ckU (l : Bs) : Nat → Int
  | 0 => 1
  | k + 1 => (257 * ckU l k + (nthU l k : Int) + 1).tmod 65521
theorem ckU_range (l : Bs) (k : Nat) : 0 ≤ ckU l k ∧ ckU l k < 65521 := by
  induction k with
  | zero => exact ⟨by simp [ckU], by simp [ckU]⟩
  | succ k ih =>
    unfold ckU
    rw [Int.tmod_eq_emod_of_nonneg (by omega)]
    omega
/-- A number in bytes, the greatest ones first. -/
def whI (l : Bs) (i : Nat) : Nat → Int
  | 0 => 0
  | k + 1 => whI l i k * 256 + (nthU l (i + k) : Int)
theorem whI_range (l : Bs) (i : Nat) : ∀ k, k ≤ 4 → 0 ≤ whI l i k ∧ whI l i k < 256 ^ k := by
  intro k
  induction k with
  | zero => intro _; exact ⟨by simp [whI], by simp [whI]⟩
  | succ k ih =>
    intro hk
    have h := ih (by omega)
    have hb := nthU_lt l (i + k)
    have e : (256 : Int) ^ (k + 1) = 256 ^ k * 256 := rfl
    unfold whI
    rw [e]; omega
theorem whI_bd (l : Bs) (i k : Nat) (hk : k ≤ 4) : 0 ≤ whI l i k ∧ whI l i k < 4294967296 := by
  have h := whI_range l i k hk
  have : (256 : Int) ^ k ≤ 4294967296 := by
    rcases (by omega : k = 0 ∨ k = 1 ∨ k = 2 ∨ k = 3 ∨ k = 4) with rfl | rfl | rfl | rfl | rfl <;> decide
  omega
theorem whI_sub {l : Bs} {i n j k : Nat} (h : j + k ≤ n) : whI (subU l i n) j k = whI l (i + j) k := by
  induction k with
  | zero => rfl
  | succ k ih =>
    unfold whI
    rw [ih (by omega), subU_nth (by omega), Nat.add_assoc]

set_option maxRecDepth 100000 in
set_option maxHeartbeats 400000 in
theorem check_s (l : List UInt8) (w0 : World) (hl : l.length ≤ 1000000) :
    Calls Try.prog 79 #[.string ⟨l.toArray⟩] w0 fun e w' => e = .returned (.int .i64 (ckU l l.length)) ∧ Below w0.heap.size w0 w' := by
  have S0 := St.start w0
  refine enter (n := 21) Try.func79 rfl rfl rfl (fun ac A0 => ?_)
  refine wp_seq ?_
  refine wp_region_lit ?_
  refine s_one (.int .i64 0) A0 S0 (g_assign (by kernel_rfl)) rfl (fun ac A1 => ?_)
  refine wpList_nil ?_
  refine n_then ?_
  refine wp_seq ?_
  refine wp_region_lit ?_
  refine s_one (.int .i64 1) A1 S0 (g_assign (by kernel_rfl)) rfl (fun ac A2 => ?_)
  refine wpList_nil ?_
  refine n_then ?_
  refine wp_seq ?_
  refine wp_seq ?_
  refine wp_region_lit ?_
  refine s_one (.string ⟨l.toArray⟩) A2 S0 (g_move (by kernel_rfl)) rfl (fun ac A3 => ?_)
  refine s_one (.int .i64 (l.length : Int)) A3 S0 (g_built (r := [(0, .string ⟨l.toArray⟩)]) (by kernel_rfl) (fun ty cs w => bl_str (l := l) Try.underlying9 ty cs w)) rfl (fun ac A4 => ?_)
  refine s_one (.int .i64 0) A4 S0 (g_move (by kernel_rfl)) rfl (fun ac A5 => ?_)
  refine wpList_nil ?_
  refine n_then ?_
  refine wp_block ?_
  refine c_loopN (fun mm ac wc => ∃ (k : Nat), mm = l.length - k ∧ (k ≤ l.length) ∧ Fr 21 ac [(0, .string ⟨l.toArray⟩), (2, .int .i64 0), (5, .string ⟨l.toArray⟩), (6, .int .i64 (l.length : Int)), (7, .int .i64 (k : Int)), (3, .int .i64 (ckU l k))] ∧ St w0 [] [] wc) _ ⟨0, rfl, Nat.zero_le _, (A5.slot (A5.slot (A5.slot (A5.slot (A5.slot (A5.slot A5.nil (v := .int .i64 1) (by kernel_rfl) rfl) (v := .int .i64 0) (by kernel_rfl) (congrArg (Value.int .i64) (by omega))) (v := .int .i64 (l.length : Int)) (by kernel_rfl) rfl) (v := .string ⟨l.toArray⟩) (by kernel_rfl) rfl) (v := .int .i64 0) (by kernel_rfl) rfl) (v := .string ⟨l.toArray⟩) (by kernel_rfl) rfl), S0.sub sub_all sub_all⟩ ?_
  rintro mm ac wc ⟨k, hm8, hk, A6, S7⟩
  have hr := ckU_range l k
  have hu := nthU_lt l k
  refine wp_seq ?_
  refine wp_region_lit ?_
  refine s_one (.bool (decide ((k : Int) < (l.length : Int)))) A6 S7 (g_bin (u := .int .i64 (k : Int)) (k := .int .i64 (l.length : Int)) (by kernel_rfl) (by kernel_rfl) (fun _ => by kernel_rfl) (fun _ => by kernel_rfl)) rfl (fun ac A9 => ?_)
  refine wpList_nil ?_
  refine n_then ?_
  refine wp_seq ?_
  refine c_ifb (b := (decide ((k : Int) < (l.length : Int)))) A9 (by kernel_rfl) (fun h10 => ?_) (fun h10 => ?_)
  · have p11 := of_decide_eq_true h10
    refine wp_skip ?_
    refine n_then ?_
    refine wp_seq ?_
    refine wp_block ?_
    refine wp_seq ?_
    refine wp_region_lit ?_
    refine s_one (.int .i64 (k : Int)) A9 S7 (g_move (by kernel_rfl)) rfl (fun ac A12 => ?_)
    refine s_one (.int .i64 (k : Int)) A12 S7 (g_assign (by kernel_rfl)) rfl (fun ac A13 => ?_)
    refine wpList_nil ?_
    refine n_then ?_
    refine wp_region_lit ?_
    refine s_one (.int .i64 (ckU l k)) A13 S7 (g_move (by kernel_rfl)) rfl (fun ac A14 => ?_)
    refine s_one (.int .i64 (257 * (ckU l k))) A14 S7 (g_bin (u := .int .i64 257) (k := .int .i64 (ckU l k)) (by kernel_rfl) (by kernel_rfl) (fun _ => by kernel_rfl) (b_mul (by omega))) rfl (fun ac A15 => ?_)
    refine s_one (.string ⟨l.toArray⟩) A15 S7 (g_move (by kernel_rfl)) rfl (fun ac A16 => ?_)
    refine s_one (.int .i64 (k : Int)) A16 S7 (g_move (by kernel_rfl)) rfl (fun ac A17 => ?_)
    refine s_one (.int .u8 (nthU l k : Int)) A17 S7 (g_indexv (u := .string ⟨l.toArray⟩) (k := .int .i64 (k : Int)) (by kernel_rfl) (by kernel_rfl) (ix_str (l := l) k Try.underlying9 (by omega) (by omega))) rfl (fun ac A18 => ?_)
    refine s_one (.int .i64 (nthU l k : Int)) A18 S7 (g_conv (u := .int .u8 (nthU l k : Int)) (by kernel_rfl) (conv_u8 Try.underlying5 Try.underlying3 ⟨by omega, by have h9 := nthU_lt l k; omega⟩)) rfl (fun ac A19 => ?_)
    refine s_one (.int .i64 (257 * (ckU l k) + (nthU l k : Int))) A19 S7 (g_bin (u := .int .i64 (257 * (ckU l k))) (k := .int .i64 (nthU l k : Int)) (by kernel_rfl) (by kernel_rfl) (fun _ => by kernel_rfl) (b_add (by omega))) rfl (fun ac A20 => ?_)
    refine s_one (.int .i64 (257 * (ckU l k) + (nthU l k : Int) + 1)) A20 S7 (g_bin (u := .int .i64 (257 * (ckU l k) + (nthU l k : Int))) (k := .int .i64 1) (by kernel_rfl) (by kernel_rfl) (fun _ => by kernel_rfl) (b_add (by omega))) rfl (fun ac A21 => ?_)
    refine s_one (.int .i64 ((257 * (ckU l k) + (nthU l k : Int) + 1).tmod 65521)) A21 S7 (g_bin (u := .int .i64 (257 * (ckU l k) + (nthU l k : Int) + 1)) (k := .int .i64 65521) (by kernel_rfl) (by kernel_rfl) (fun _ => by kernel_rfl) (b_rem (by omega))) rfl (fun ac A22 => ?_)
    refine s_one (.int .i64 ((257 * (ckU l k) + (nthU l k : Int) + 1).tmod 65521)) A22 S7 (g_assign (by kernel_rfl)) rfl (fun ac A23 => ?_)
    refine wpList_nil ?_
    refine n_block ?_
    refine n_then ?_
    refine wp_region_lit ?_
    refine s_one (.int .i64 ((k : Int) + 1)) A23 S7 (g_bin (u := .int .i64 (k : Int)) (k := .int .i64 1) (by kernel_rfl) (by kernel_rfl) (fun _ => by kernel_rfl) (b_add (by omega))) rfl (fun ac A24 => ?_)
    refine s_one (.int .i64 ((k : Int) + 1)) A24 S7 (g_move (by kernel_rfl)) rfl (fun ac A25 => ?_)
    refine wpList_nil ?_
    refine n_then ?_
    refine ⟨_, ⟨k + 1, rfl, by omega, (A25.slot (A25.slot (A25.slot (A25.slot (A25.slot (A25.slot A25.nil (v := .int .i64 ((257 * (ckU l k) + (nthU l k : Int) + 1).tmod 65521)) (by kernel_rfl) rfl) (v := .int .i64 ((k : Int) + 1)) (by kernel_rfl) (congrArg (Value.int .i64) (by omega))) (v := .int .i64 (l.length : Int)) (by kernel_rfl) rfl) (v := .string ⟨l.toArray⟩) (by kernel_rfl) rfl) (v := .int .i64 0) (by kernel_rfl) rfl) (v := .string ⟨l.toArray⟩) (by kernel_rfl) rfl), S7.sub sub_all sub_all⟩, ?_⟩
    omega
  · have p26 := of_decide_eq_false h10
    refine wp_exit ?_
    refine x_then ?_
    refine x_then ?_
    refine x_hit ?_
    refine n_then ?_
    refine wp_seq ?_
    refine wp_region_lit ?_
    refine s_one (.int .i64 (ckU l k)) A9 S7 (g_move (by kernel_rfl)) rfl (fun ac A27 => ?_)
    refine s_one (.int .i64 (ckU l k)) A27 S7 (g_assign (by kernel_rfl)) rfl (fun ac A28 => ?_)
    refine wpList_nil ?_
    refine n_then ?_
    refine wp_ret ?_
    refine fin1 (.int .i64 (ckU l k)) Try.results79 A28 S7 (rv_tmp (by kernel_rfl)) ⟨?_, S7.kp⟩
    obtain rfl : k = l.length := by omega
    rfl

set_option maxRecDepth 100000 in
set_option maxHeartbeats 400000 in
theorem refSum_s (l : List UInt8) (w0 : World) (hl : l.length ≤ 1000000) :
    Calls Try.prog 84 #[.string ⟨l.toArray⟩] w0 fun e w' => e = .returned (.int .i64 (ckU l l.length)) ∧ Below w0.heap.size w0 w' := by
  have S0 := St.start w0
  refine enter (n := 21) Try.func84 rfl rfl rfl (fun ac A0 => ?_)
  refine wp_seq ?_
  refine wp_region_lit ?_
  refine s_one (.int .i64 0) A0 S0 (g_assign (by kernel_rfl)) rfl (fun ac A1 => ?_)
  refine wpList_nil ?_
  refine n_then ?_
  refine wp_seq ?_
  refine wp_region_lit ?_
  refine s_one (.int .i64 1) A1 S0 (g_assign (by kernel_rfl)) rfl (fun ac A2 => ?_)
  refine wpList_nil ?_
  refine n_then ?_
  refine wp_seq ?_
  refine wp_seq ?_
  refine wp_region_lit ?_
  refine s_one (.int .i64 0) A2 S0 (g_assign (by kernel_rfl)) rfl (fun ac A3 => ?_)
  refine wpList_nil ?_
  refine n_then ?_
  refine wp_block ?_
  refine c_loopN (fun mm ac wc => ∃ (k : Nat), mm = l.length - k ∧ (k ≤ l.length) ∧ Fr 21 ac [(0, .string ⟨l.toArray⟩), (2, .int .i64 0), (4, .int .i64 (k : Int)), (3, .int .i64 (ckU l k))] ∧ St w0 [] [] wc) _ ⟨0, rfl, Nat.zero_le _, (A3.slot (A3.slot (A3.slot (A3.slot A3.nil (v := .int .i64 1) (by kernel_rfl) rfl) (v := .int .i64 0) (by kernel_rfl) (congrArg (Value.int .i64) (by omega))) (v := .int .i64 0) (by kernel_rfl) rfl) (v := .string ⟨l.toArray⟩) (by kernel_rfl) rfl), S0.sub sub_all sub_all⟩ ?_
  rintro mm ac wc ⟨k, hm6, hk, A4, S5⟩
  have hr := ckU_range l k
  have hu := nthU_lt l k
  refine wp_seq ?_
  refine wp_seq ?_
  refine wp_region_lit ?_
  refine s_one (.int .i64 (k : Int)) A4 S5 (g_move (by kernel_rfl)) rfl (fun ac A7 => ?_)
  refine s_one (.string ⟨l.toArray⟩) A7 S5 (g_move (by kernel_rfl)) rfl (fun ac A8 => ?_)
  refine s_one (.int .i64 (l.length : Int)) A8 S5 (g_built (r := [(0, .string ⟨l.toArray⟩)]) (by kernel_rfl) (fun ty cs w => bl_str (l := l) Try.underlying9 ty cs w)) rfl (fun ac A9 => ?_)
  refine s_one (.bool (decide ((k : Int) < (l.length : Int)))) A9 S5 (g_bin (u := .int .i64 (k : Int)) (k := .int .i64 (l.length : Int)) (by kernel_rfl) (by kernel_rfl) (fun _ => by kernel_rfl) (fun _ => by kernel_rfl)) rfl (fun ac A10 => ?_)
  refine wpList_nil ?_
  refine n_then ?_
  refine c_ifb (b := (decide ((k : Int) < (l.length : Int)))) A10 (by kernel_rfl) (fun h11 => ?_) (fun h11 => ?_)
  · have p12 := of_decide_eq_true h11
    refine wp_skip ?_
    refine n_then ?_
    refine wp_seq ?_
    refine wp_block ?_
    refine wp_region_lit ?_
    refine s_one (.int .i64 (ckU l k)) A10 S5 (g_move (by kernel_rfl)) rfl (fun ac A13 => ?_)
    refine s_one (.int .i64 (257 * (ckU l k))) A13 S5 (g_bin (u := .int .i64 257) (k := .int .i64 (ckU l k)) (by kernel_rfl) (by kernel_rfl) (fun _ => by kernel_rfl) (b_mul (by omega))) rfl (fun ac A14 => ?_)
    refine s_one (.string ⟨l.toArray⟩) A14 S5 (g_move (by kernel_rfl)) rfl (fun ac A15 => ?_)
    refine s_one (.int .i64 (k : Int)) A15 S5 (g_move (by kernel_rfl)) rfl (fun ac A16 => ?_)
    refine s_one (.int .u8 (nthU l k : Int)) A16 S5 (g_indexv (u := .string ⟨l.toArray⟩) (k := .int .i64 (k : Int)) (by kernel_rfl) (by kernel_rfl) (ix_str (l := l) k Try.underlying9 (by omega) (by omega))) rfl (fun ac A17 => ?_)
    refine s_one (.int .i64 (nthU l k : Int)) A17 S5 (g_conv (u := .int .u8 (nthU l k : Int)) (by kernel_rfl) (conv_u8 Try.underlying5 Try.underlying3 ⟨by omega, by have h9 := nthU_lt l k; omega⟩)) rfl (fun ac A18 => ?_)
    refine s_one (.int .i64 (257 * (ckU l k) + (nthU l k : Int))) A18 S5 (g_bin (u := .int .i64 (257 * (ckU l k))) (k := .int .i64 (nthU l k : Int)) (by kernel_rfl) (by kernel_rfl) (fun _ => by kernel_rfl) (b_add (by omega))) rfl (fun ac A19 => ?_)
    refine s_one (.int .i64 (257 * (ckU l k) + (nthU l k : Int) + 1)) A19 S5 (g_bin (u := .int .i64 (257 * (ckU l k) + (nthU l k : Int))) (k := .int .i64 1) (by kernel_rfl) (by kernel_rfl) (fun _ => by kernel_rfl) (b_add (by omega))) rfl (fun ac A20 => ?_)
    refine s_one (.int .i64 ((257 * (ckU l k) + (nthU l k : Int) + 1).tmod 65521)) A20 S5 (g_bin (u := .int .i64 (257 * (ckU l k) + (nthU l k : Int) + 1)) (k := .int .i64 65521) (by kernel_rfl) (by kernel_rfl) (fun _ => by kernel_rfl) (b_rem (by omega))) rfl (fun ac A21 => ?_)
    refine s_one (.int .i64 ((257 * (ckU l k) + (nthU l k : Int) + 1).tmod 65521)) A21 S5 (g_assign (by kernel_rfl)) rfl (fun ac A22 => ?_)
    refine wpList_nil ?_
    refine n_block ?_
    refine n_then ?_
    refine wp_region_lit ?_
    refine s_one (.int .i64 (k : Int)) A22 S5 (g_move (by kernel_rfl)) rfl (fun ac A23 => ?_)
    refine s_one (.int .i64 ((k : Int) + 1)) A23 S5 (g_bin (u := .int .i64 (k : Int)) (k := .int .i64 1) (by kernel_rfl) (by kernel_rfl) (fun _ => by kernel_rfl) (b_add (by omega))) rfl (fun ac A24 => ?_)
    refine s_one (.int .i64 ((k : Int) + 1)) A24 S5 (g_assign (by kernel_rfl)) rfl (fun ac A25 => ?_)
    refine wpList_nil ?_
    refine n_then ?_
    refine ⟨_, ⟨k + 1, rfl, by omega, (A25.slot (A25.slot (A25.slot (A25.slot A25.nil (v := .int .i64 ((257 * (ckU l k) + (nthU l k : Int) + 1).tmod 65521)) (by kernel_rfl) rfl) (v := .int .i64 ((k : Int) + 1)) (by kernel_rfl) (congrArg (Value.int .i64) (by omega))) (v := .int .i64 0) (by kernel_rfl) rfl) (v := .string ⟨l.toArray⟩) (by kernel_rfl) rfl), S5.sub sub_all sub_all⟩, ?_⟩
    omega
  · have p26 := of_decide_eq_false h11
    refine wp_exit ?_
    refine x_then ?_
    refine x_then ?_
    refine x_hit ?_
    refine n_then ?_
    refine wp_seq ?_
    refine wp_region_lit ?_
    refine s_one (.int .i64 (ckU l k)) A10 S5 (g_move (by kernel_rfl)) rfl (fun ac A27 => ?_)
    refine s_one (.int .i64 (ckU l k)) A27 S5 (g_assign (by kernel_rfl)) rfl (fun ac A28 => ?_)
    refine wpList_nil ?_
    refine n_then ?_
    refine wp_ret ?_
    refine fin1 (.int .i64 (ckU l k)) Try.results84 A28 S5 (rv_tmp (by kernel_rfl)) ⟨?_, S5.kp⟩
    obtain rfl : k = l.length := by omega
    rfl

set_option maxRecDepth 100000 in
set_option maxHeartbeats 400000 in
theorem whole_s (l : List UInt8) (w0 : World) (hl : l.length ≤ 4) :
    Calls Try.prog 80 #[.string ⟨l.toArray⟩] w0 fun e w' => e = .returned (.int .i64 (whI l 0 l.length)) ∧ Below w0.heap.size w0 w' := by
  have S0 := St.start w0
  refine enter (n := 20) Try.func80 rfl rfl rfl (fun ac A0 => ?_)
  refine wp_seq ?_
  refine wp_region_lit ?_
  refine s_one (.int .i64 0) A0 S0 (g_assign (by kernel_rfl)) rfl (fun ac A1 => ?_)
  refine wpList_nil ?_
  refine n_then ?_
  refine wp_seq ?_
  refine wp_region_lit ?_
  refine s_one (.int .i64 0) A1 S0 (g_assign (by kernel_rfl)) rfl (fun ac A2 => ?_)
  refine wpList_nil ?_
  refine n_then ?_
  refine wp_seq ?_
  refine wp_seq ?_
  refine wp_region_lit ?_
  refine s_one (.string ⟨l.toArray⟩) A2 S0 (g_move (by kernel_rfl)) rfl (fun ac A3 => ?_)
  refine s_bytesOf (l := l) A3 S0 (by kernel_rfl) Try.underlying9 Try.underlying144 Try.underlying5 rfl (fun wz4 ad5 cap6 ac hc8 hz9 A7 hkx10 S11 => ?_)
  refine s_one (.int .i64 (l.length : Int)) A7 S11 (g_built (r := [(0, .slice (some ad5) l.length cap6)]) (by kernel_rfl) (fun _ _ _ => by kernel_rfl)) rfl (fun ac A12 => ?_)
  refine s_one (.int .i64 0) A12 S11 (g_move (by kernel_rfl)) rfl (fun ac A13 => ?_)
  refine wpList_nil ?_
  refine n_then ?_
  refine wp_block ?_
  refine c_loopN (fun mm ac wc => ∃ (k : Nat), mm = l.length - k ∧ (k ≤ l.length) ∧ Fr 20 ac [(0, .string ⟨l.toArray⟩), (2, .int .i64 0), (6, .string ⟨l.toArray⟩), (7, .slice (some ad5) l.length cap6), (8, .int .i64 (l.length : Int)), (9, .int .i64 (k : Int)), (3, .int .i64 (whI l 0 k))] ∧ St ⟨w0, wz4⟩ [] [] wc) _ ⟨0, rfl, Nat.zero_le _, (A13.slot (A13.slot (A13.slot (A13.slot (A13.slot (A13.slot (A13.slot A13.nil (v := .int .i64 0) (by kernel_rfl) rfl) (v := .int .i64 0) (by kernel_rfl) (congrArg (Value.int .i64) (by omega))) (v := .int .i64 (l.length : Int)) (by kernel_rfl) rfl) (v := .slice (some ad5) l.length cap6) (by kernel_rfl) rfl) (v := .string ⟨l.toArray⟩) (by kernel_rfl) rfl) (v := .int .i64 0) (by kernel_rfl) rfl) (v := .string ⟨l.toArray⟩) (by kernel_rfl) rfl), S11.sub sub_all sub_all⟩ ?_
  rintro mm ac wc ⟨k, hm16, hk, A14, S15⟩
  have hr := whI_bd l 0 k (by omega)
  have hu := nthU_lt l k
  refine wp_seq ?_
  refine wp_region_lit ?_
  refine s_one (.bool (decide ((k : Int) < (l.length : Int)))) A14 S15 (g_bin (u := .int .i64 (k : Int)) (k := .int .i64 (l.length : Int)) (by kernel_rfl) (by kernel_rfl) (fun _ => by kernel_rfl) (fun _ => by kernel_rfl)) rfl (fun ac A17 => ?_)
  refine wpList_nil ?_
  refine n_then ?_
  refine wp_seq ?_
  refine c_ifb (b := (decide ((k : Int) < (l.length : Int)))) A17 (by kernel_rfl) (fun h18 => ?_) (fun h18 => ?_)
  · have p19 := of_decide_eq_true h18
    refine wp_skip ?_
    refine n_then ?_
    refine wp_seq ?_
    refine wp_block ?_
    refine wp_seq ?_
    refine wp_region_lit ?_
    refine s_one (.pointer (some (ad5.add k))) A17 S15 (g_index (u := .slice (some ad5) l.length cap6) (k := .int .i64 (k : Int)) (by kernel_rfl) (by kernel_rfl) (ix_by (e := 5) (bytes := 1) k (by kernel_rfl) (by omega) (by omega))) rfl (fun ac A20 => ?_)
    refine s_one (.int .u8 (nthU l k : Int)) A20 S15 (g_loadXB (l := l) (k := k) (by kernel_rfl) hz9 (by omega) (by kernel_rfl)) rfl (fun ac A21 => ?_)
    refine s_one (.int .u8 (nthU l k : Int)) A21 S15 (g_assign (by kernel_rfl)) rfl (fun ac A22 => ?_)
    refine wpList_nil ?_
    refine n_then ?_
    refine wp_region_lit ?_
    refine s_one (.int .i64 (whI l 0 k)) A22 S15 (g_move (by kernel_rfl)) rfl (fun ac A23 => ?_)
    refine s_one (.int .i64 ((whI l 0 k) * 256)) A23 S15 (g_bin (u := .int .i64 (whI l 0 k)) (k := .int .u64 8) (by kernel_rfl) (by kernel_rfl) (fun _ => by kernel_rfl) (b_shl8 (by omega))) rfl (fun ac A24 => ?_)
    refine s_one (.int .u8 (nthU l k : Int)) A24 S15 (g_move (by kernel_rfl)) rfl (fun ac A25 => ?_)
    refine s_one (.int .i64 (nthU l k : Int)) A25 S15 (g_conv (u := .int .u8 (nthU l k : Int)) (by kernel_rfl) (conv_u8 Try.underlying5 Try.underlying3 ⟨by omega, by have h9 := nthU_lt l k; omega⟩)) rfl (fun ac A26 => ?_)
    refine s_one (.int .i64 ((whI l 0 k) * 256 + (nthU l k : Int))) A26 S15 (g_bin (u := .int .i64 ((whI l 0 k) * 256)) (k := .int .i64 (nthU l k : Int)) (by kernel_rfl) (by kernel_rfl) (fun _ => by kernel_rfl) (b_or8 (c := nthU l k) (by omega) (nthU_lt _ _))) rfl (fun ac A27 => ?_)
    refine s_one (.int .i64 ((whI l 0 k) * 256 + (nthU l k : Int))) A27 S15 (g_assign (by kernel_rfl)) rfl (fun ac A28 => ?_)
    refine wpList_nil ?_
    refine n_block ?_
    refine n_then ?_
    refine wp_region_lit ?_
    refine s_one (.int .i64 ((k : Int) + 1)) A28 S15 (g_bin (u := .int .i64 (k : Int)) (k := .int .i64 1) (by kernel_rfl) (by kernel_rfl) (fun _ => by kernel_rfl) (b_add (by omega))) rfl (fun ac A29 => ?_)
    refine s_one (.int .i64 ((k : Int) + 1)) A29 S15 (g_move (by kernel_rfl)) rfl (fun ac A30 => ?_)
    refine wpList_nil ?_
    refine n_then ?_
    refine ⟨_, ⟨k + 1, rfl, by omega, (A30.slot (A30.slot (A30.slot (A30.slot (A30.slot (A30.slot (A30.slot A30.nil (v := .int .i64 ((whI l 0 k) * 256 + (nthU l k : Int))) (by kernel_rfl) (congrArg (Value.int .i64) (by simp only [whI, Nat.zero_add]))) (v := .int .i64 ((k : Int) + 1)) (by kernel_rfl) (congrArg (Value.int .i64) (by omega))) (v := .int .i64 (l.length : Int)) (by kernel_rfl) rfl) (v := .slice (some ad5) l.length cap6) (by kernel_rfl) rfl) (v := .string ⟨l.toArray⟩) (by kernel_rfl) rfl) (v := .int .i64 0) (by kernel_rfl) rfl) (v := .string ⟨l.toArray⟩) (by kernel_rfl) rfl), S15.sub sub_all sub_all⟩, ?_⟩
    omega
  · have p31 := of_decide_eq_false h18
    refine wp_exit ?_
    refine x_then ?_
    refine x_then ?_
    refine x_hit ?_
    refine n_then ?_
    refine wp_seq ?_
    refine wp_region_lit ?_
    refine s_one (.int .i64 (whI l 0 k)) A17 S15 (g_move (by kernel_rfl)) rfl (fun ac A32 => ?_)
    refine s_one (.int .i64 (whI l 0 k)) A32 S15 (g_assign (by kernel_rfl)) rfl (fun ac A33 => ?_)
    refine wpList_nil ?_
    refine n_then ?_
    refine wp_ret ?_
    refine fin1 (.int .i64 (whI l 0 k)) Try.results80 A33 S15 (rv_tmp (by kernel_rfl)) ⟨?_, S15.kp⟩
    obtain rfl : k = l.length := by omega
    rfl

theorem whole_at (l : Bs) (i n : Nat) (w : World) (hn : n ≤ 4) (h : i + n ≤ l.length) : Calls Try.prog 80 #[.string ⟨(subU l i n).toArray⟩] w fun e w' => e = .returned (.int .i64 (whI l i n)) ∧ Below w.heap.size w w' := by
  have hl := subU_length h
  have := whole_s (subU l i n) w (by omega)
  rw [hl, whI_sub (by omega), Nat.add_zero] at this
  exact this

set_option maxRecDepth 100000 in
set_option maxHeartbeats 400000 in
theorem hasPrefix0_s (l : List UInt8) (w0 : World) (h2 : 8 ≤ l.length) :
    Calls Try.prog 107 #[.string ⟨l.toArray⟩, .string ⟨([67, 80] : List UInt8).toArray⟩] w0 fun e w' => e = .returned (.bool (decide (subU l 0 2 = [67, 80]))) ∧ Below w0.heap.size w0 w' := by
  have S0 := St.start w0
  refine enter (n := 18) Try.func107 rfl rfl rfl (fun ac A0 => ?_)
  refine wp_seq ?_
  refine wp_region_lit ?_
  refine s_one (.bool false) A0 S0 (g_assign (by kernel_rfl)) rfl (fun ac A1 => ?_)
  refine wpList_nil ?_
  refine n_then ?_
  refine wp_seq ?_
  refine wp_region_lit ?_
  refine s_one (.string ⟨l.toArray⟩) A1 S0 (g_move (by kernel_rfl)) rfl (fun ac A2 => ?_)
  refine s_one (.int .i64 (l.length : Int)) A2 S0 (g_built (r := [(0, .string ⟨l.toArray⟩)]) (by kernel_rfl) (fun ty cs w => bl_str (l := l) Try.underlying9 ty cs w)) rfl (fun ac A3 => ?_)
  refine s_one (.string ⟨([67, 80] : List UInt8).toArray⟩) A3 S0 (g_move (by kernel_rfl)) rfl (fun ac A4 => ?_)
  refine s_one (.int .i64 2) A4 S0 (g_built (r := [(0, .string ⟨([67, 80] : List UInt8).toArray⟩)]) (by kernel_rfl) (fun ty cs w => bl_str (l := ([67, 80] : List UInt8)) Try.underlying9 ty cs w)) rfl (fun ac A5 => ?_)
  refine s_one (.bool (decide ((l.length : Int) ≥ 2))) A5 S0 (g_bin (u := .int .i64 (l.length : Int)) (k := .int .i64 2) (by kernel_rfl) (by kernel_rfl) (fun _ => by kernel_rfl) (fun _ => by kernel_rfl)) rfl (fun ac A6 => ?_)
  refine s_one (.bool (decide ((l.length : Int) ≥ 2))) A6 S0 (g_move (by kernel_rfl)) rfl (fun ac A7 => ?_)
  refine s_want (dj := 10) (b := (decide ((l.length : Int) ≥ 2))) A7 (by kernel_rfl) (by kernel_rfl) (decide_eq_true (by omega)) ?_
  refine s_one (.string ⟨l.toArray⟩) A7 S0 (g_move (by kernel_rfl)) rfl (fun ac A8 => ?_)
  refine s_want (dj := 10) (b := (decide ((l.length : Int) ≥ 2))) A8 (by kernel_rfl) (by kernel_rfl) (decide_eq_true (by omega)) ?_
  refine s_one (.string ⟨([67, 80] : List UInt8).toArray⟩) A8 S0 (g_move (by kernel_rfl)) rfl (fun ac A9 => ?_)
  refine s_want (dj := 10) (b := (decide ((l.length : Int) ≥ 2))) A9 (by kernel_rfl) (by kernel_rfl) (decide_eq_true (by omega)) ?_
  refine s_one (.int .i64 2) A9 S0 (g_built (r := [(0, .string ⟨([67, 80] : List UInt8).toArray⟩)]) (by kernel_rfl) (fun ty cs w => bl_str (l := ([67, 80] : List UInt8)) Try.underlying9 ty cs w)) rfl (fun ac A10 => ?_)
  refine s_want (dj := 10) (b := (decide ((l.length : Int) ≥ 2))) A10 (by kernel_rfl) (by kernel_rfl) (decide_eq_true (by omega)) ?_
  refine s_one (.string ⟨(subU l 0 2).toArray⟩) A10 S0 (g_slice (u := .string ⟨l.toArray⟩) (lo' := none) (hi' := (some (.int .i64 2))) (mx' := none) (by kernel_rfl) (by kernel_rfl) (by kernel_rfl) (by kernel_rfl) (sl_strH (l := l) (h := 2) Try.underlying9 (by omega) (by omega))) rfl (fun ac A11 => ?_)
  refine s_want (dj := 10) (b := (decide ((l.length : Int) ≥ 2))) A11 (by kernel_rfl) (by kernel_rfl) (decide_eq_true (by omega)) ?_
  refine s_one (.string ⟨([67, 80] : List UInt8).toArray⟩) A11 S0 (g_move (by kernel_rfl)) rfl (fun ac A12 => ?_)
  refine s_want (dj := 10) (b := (decide ((l.length : Int) ≥ 2))) A12 (by kernel_rfl) (by kernel_rfl) (decide_eq_true (by omega)) ?_
  refine s_one (.bool (decide (subU l 0 2 = ([67, 80] : List UInt8)))) A12 S0 (g_bin (u := .string ⟨(subU l 0 2).toArray⟩) (k := .string ⟨([67, 80] : List UInt8).toArray⟩) (by kernel_rfl) (by kernel_rfl) (fun _ => by kernel_rfl) (q_str (l := subU l 0 2) (m := ([67, 80] : List UInt8)))) rfl (fun ac A13 => ?_)
  refine s_one (.bool (decide (subU l 0 2 = ([67, 80] : List UInt8)))) A13 S0 (g_pick_t (b := (decide ((l.length : Int) ≥ 2))) (by kernel_rfl) (decide_eq_true (by omega)) (by kernel_rfl)) rfl (fun ac A14 => ?_)
  refine s_one (.bool (decide (subU l 0 2 = ([67, 80] : List UInt8)))) A14 S0 (g_assign (by kernel_rfl)) rfl (fun ac A15 => ?_)
  refine wpList_nil ?_
  refine n_then ?_
  refine wp_ret ?_
  refine fin1 (.bool (decide (subU l 0 2 = ([67, 80] : List UInt8)))) Try.results107 A15 S0 (rv_tmp (by kernel_rfl)) ⟨?_, S0.kp⟩
  rfl

set_option maxRecDepth 100000 in
set_option maxHeartbeats 400000 in
theorem hasPrefix_s (l : List UInt8) (w0 : World) (h2 : 8 ≤ l.length) :
    Calls Try.prog 78 #[.string ⟨l.toArray⟩, .string ⟨([67, 80] : List UInt8).toArray⟩] w0 fun e w' => e = .returned (.bool (decide (subU l 0 2 = [67, 80]))) ∧ Below w0.heap.size w0 w' := by
  have S0 := St.start w0
  refine enter (n := 8) Try.func78 rfl rfl rfl (fun ac A0 => ?_)
  refine wp_seq ?_
  refine wp_region_lit ?_
  refine s_one (.bool false) A0 S0 (g_assign (by kernel_rfl)) rfl (fun ac A1 => ?_)
  refine wpList_nil ?_
  refine n_then ?_
  refine wp_seq ?_
  refine wp_region_lit ?_
  refine s_one (.string ⟨l.toArray⟩) A1 S0 (g_move (by kernel_rfl)) rfl (fun ac A2 => ?_)
  refine s_one (.string ⟨([67, 80] : List UInt8).toArray⟩) A2 S0 (g_move (by kernel_rfl)) rfl (fun ac A3 => ?_)
  refine s_call (fs := #[]) (cp := #[]) (r := [(0, .string ⟨l.toArray⟩), (0, .string ⟨([67, 80] : List UInt8).toArray⟩)]) #[.string ⟨l.toArray⟩, .string ⟨([67, 80] : List UInt8).toArray⟩] (.bool (decide (subU l 0 2 = [67, 80]))) A3 S0 (hasPrefix0_s l _ (by omega)) Try.call107 (by kernel_rfl) (by kernel_rfl) (by kernel_rfl) rfl (fun ac wc A4 S5 => ?_)
  refine s_one (.bool (decide (subU l 0 2 = [67, 80]))) A4 S5 (g_assign (by kernel_rfl)) rfl (fun ac A7 => ?_)
  refine wpList_nil ?_
  refine n_then ?_
  refine wp_ret ?_
  refine fin1 (.bool (decide (subU l 0 2 = [67, 80]))) Try.results78 A7 S5 (rv_tmp (by kernel_rfl)) ⟨?_, S5.kp⟩
  rfl

theorem sz_eq (n : Nat) : (8 : Int) + 2 * (n : Int) * (n : Int) * 64 + 2 = ((10 + 128 * (n * n) : Nat) : Int) := by
  have e : ((n * n : Nat) : Int) = (n : Int) * (n : Int) := Int.natCast_mul _ _
  rw [Int.mul_assoc 2, ← e]; omega
theorem sz_eq2 (n : Nat) : (10 : Int) + 128 * (n : Int) * (n : Int) = ((10 + 128 * (n * n) : Nat) : Int) := by
  have e : ((n * n : Nat) : Int) = (n : Int) * (n : Int) := Int.natCast_mul _ _
  rw [Int.mul_assoc 128, ← e]; omega
theorem sq_le {n m : Nat} (h : n ≤ m) : n * n ≤ m * m := Nat.mul_le_mul h h

set_option maxRecDepth 100000 in
set_option maxHeartbeats 400000 in
theorem frameSize_s (n : Nat) (w0 : World) (hn : n ≤ 255) :
    Calls Try.prog 77 #[.int .i64 (n : Int)] w0 fun e w' => e = .returned (.int .i64 ((10 + 128 * (n * n) : Nat) : Int)) ∧ Below w0.heap.size w0 w' := by
  have S0 := St.start w0
  have hq := sq_le hn
  have e : ((n * n : Nat) : Int) = (n : Int) * (n : Int) := Int.natCast_mul _ _
  have e2 : 2 * (n : Int) * (n : Int) = 2 * ((n * n : Nat) : Int) := by rw [Int.mul_assoc, e]
  have e3 : 128 * (n : Int) * (n : Int) = 128 * ((n * n : Nat) : Int) := by rw [Int.mul_assoc, e]
  refine enter (n := 10) Try.func77 rfl rfl rfl (fun ac A0 => ?_)
  refine wp_seq ?_
  refine wp_region_lit ?_
  refine s_one (.int .i64 0) A0 S0 (g_assign (by kernel_rfl)) rfl (fun ac A1 => ?_)
  refine wpList_nil ?_
  refine n_then ?_
  refine wp_seq ?_
  refine wp_region_lit ?_
  refine s_one (.int .i64 (n : Int)) A1 S0 (g_move (by kernel_rfl)) rfl (fun ac A2 => ?_)
  refine s_one (.int .i64 (2 * (n : Int))) A2 S0 (g_bin (u := .int .i64 2) (k := .int .i64 (n : Int)) (by kernel_rfl) (by kernel_rfl) (fun _ => by kernel_rfl) (b_mul (by omega))) rfl (fun ac A3 => ?_)
  refine s_one (.int .i64 (n : Int)) A3 S0 (g_move (by kernel_rfl)) rfl (fun ac A4 => ?_)
  refine s_one (.int .i64 ((2 * (n : Int)) * (n : Int))) A4 S0 (g_bin (u := .int .i64 (2 * (n : Int))) (k := .int .i64 (n : Int)) (by kernel_rfl) (by kernel_rfl) (fun _ => by kernel_rfl) (b_mul (by omega))) rfl (fun ac A5 => ?_)
  refine s_one (.int .i64 (((2 * (n : Int)) * (n : Int)) * 64)) A5 S0 (g_bin (u := .int .i64 ((2 * (n : Int)) * (n : Int))) (k := .int .i64 64) (by kernel_rfl) (by kernel_rfl) (fun _ => by kernel_rfl) (b_mul (by omega))) rfl (fun ac A6 => ?_)
  refine s_one (.int .i64 (8 + (((2 * (n : Int)) * (n : Int)) * 64))) A6 S0 (g_bin (u := .int .i64 8) (k := .int .i64 (((2 * (n : Int)) * (n : Int)) * 64)) (by kernel_rfl) (by kernel_rfl) (fun _ => by kernel_rfl) (b_add (by omega))) rfl (fun ac A7 => ?_)
  refine s_one (.int .i64 (8 + (((2 * (n : Int)) * (n : Int)) * 64) + 2)) A7 S0 (g_bin (u := .int .i64 (8 + (((2 * (n : Int)) * (n : Int)) * 64))) (k := .int .i64 2) (by kernel_rfl) (by kernel_rfl) (fun _ => by kernel_rfl) (b_add (by omega))) rfl (fun ac A8 => ?_)
  refine s_one (.int .i64 (8 + (((2 * (n : Int)) * (n : Int)) * 64) + 2)) A8 S0 (g_assign (by kernel_rfl)) rfl (fun ac A9 => ?_)
  refine wpList_nil ?_
  refine n_then ?_
  refine wp_ret ?_
  refine fin1 (.int .i64 (8 + (((2 * (n : Int)) * (n : Int)) * 64) + 2)) Try.results77 A9 S0 (rv_tmp (by kernel_rfl)) ⟨?_, S0.kp⟩
  exact congrArg (fun x => Ending.returned (Value.int .i64 x)) (sz_eq n)

set_option maxRecDepth 100000 in
set_option maxHeartbeats 400000 in
theorem refSize_s (n : Nat) (w0 : World) (hn : n ≤ 255) :
    Calls Try.prog 50 #[.int .i64 (n : Int)] w0 fun e w' => e = .returned (.int .i64 ((10 + 128 * (n * n) : Nat) : Int)) ∧ Below w0.heap.size w0 w' := by
  have S0 := St.start w0
  have hq := sq_le hn
  have e : ((n * n : Nat) : Int) = (n : Int) * (n : Int) := Int.natCast_mul _ _
  have e2 : 2 * (n : Int) * (n : Int) = 2 * ((n * n : Nat) : Int) := by rw [Int.mul_assoc, e]
  have e3 : 128 * (n : Int) * (n : Int) = 128 * ((n * n : Nat) : Int) := by rw [Int.mul_assoc, e]
  refine enter (n := 8) Try.func50 rfl rfl rfl (fun ac A0 => ?_)
  refine wp_seq ?_
  refine wp_region_lit ?_
  refine s_one (.int .i64 0) A0 S0 (g_assign (by kernel_rfl)) rfl (fun ac A1 => ?_)
  refine wpList_nil ?_
  refine n_then ?_
  refine wp_seq ?_
  refine wp_region_lit ?_
  refine s_one (.int .i64 (n : Int)) A1 S0 (g_move (by kernel_rfl)) rfl (fun ac A2 => ?_)
  refine s_one (.int .i64 (128 * (n : Int))) A2 S0 (g_bin (u := .int .i64 128) (k := .int .i64 (n : Int)) (by kernel_rfl) (by kernel_rfl) (fun _ => by kernel_rfl) (b_mul (by omega))) rfl (fun ac A3 => ?_)
  refine s_one (.int .i64 (n : Int)) A3 S0 (g_move (by kernel_rfl)) rfl (fun ac A4 => ?_)
  refine s_one (.int .i64 ((128 * (n : Int)) * (n : Int))) A4 S0 (g_bin (u := .int .i64 (128 * (n : Int))) (k := .int .i64 (n : Int)) (by kernel_rfl) (by kernel_rfl) (fun _ => by kernel_rfl) (b_mul (by omega))) rfl (fun ac A5 => ?_)
  refine s_one (.int .i64 (10 + ((128 * (n : Int)) * (n : Int)))) A5 S0 (g_bin (u := .int .i64 10) (k := .int .i64 ((128 * (n : Int)) * (n : Int))) (by kernel_rfl) (by kernel_rfl) (fun _ => by kernel_rfl) (b_add (by omega))) rfl (fun ac A6 => ?_)
  refine s_one (.int .i64 (10 + ((128 * (n : Int)) * (n : Int)))) A6 S0 (g_assign (by kernel_rfl)) rfl (fun ac A7 => ?_)
  refine wpList_nil ?_
  refine n_then ?_
  refine wp_ret ?_
  refine fin1 (.int .i64 (10 + ((128 * (n : Int)) * (n : Int)))) Try.results50 A7 S0 (rv_tmp (by kernel_rfl)) ⟨?_, S0.kp⟩
  exact congrArg (fun x => Ending.returned (Value.int .i64 x)) (sz_eq2 n)

end Go.Proofs.Ytcijkniijomcjaa
/- The frame with bytes. -/
namespace Go.Proofs.Ytcijkniijomcjaa
open Go.RowKit Go.Cpl

set_option maxRecDepth 100000 in
set_option maxHeartbeats 400000 in
theorem small_s (n m : Int) (w0 : World) (h0 : 0 ≤ m) (h1 : m ≤ 1000000000000) :
    Calls Try.prog 81 #[.int .i64 n, .int .i64 m] w0 fun e w' => e = .returned (.bool (inB n (-m) m)) ∧ Below w0.heap.size w0 w' := by
  have S0 := St.start w0
  refine enter (n := 10) Try.func81 rfl rfl rfl (fun ac A0 => ?_)
  refine wp_seq ?_
  refine wp_region_lit ?_
  refine s_one (.bool false) A0 S0 (g_assign (by kernel_rfl)) rfl (fun ac A1 => ?_)
  refine wpList_nil ?_
  refine n_then ?_
  refine wp_seq ?_
  refine wp_region_lit ?_
  refine s_one (.int .i64 n) A1 S0 (g_move (by kernel_rfl)) rfl (fun ac A2 => ?_)
  refine s_one (.int .i64 m) A2 S0 (g_move (by kernel_rfl)) rfl (fun ac A3 => ?_)
  refine s_one (.int .i64 (-m)) A3 S0 (g_un (u := .int .i64 m) (by kernel_rfl) (u_neg (by omega))) rfl (fun ac A4 => ?_)
  refine s_one (.int .i64 m) A4 S0 (g_move (by kernel_rfl)) rfl (fun ac A5 => ?_)
  refine s_call (fs := #[]) (cp := #[]) (r := [(0, .int .i64 n), (0, .int .i64 (-m)), (0, .int .i64 m)]) #[.int .i64 n, .int .i64 (-m), .int .i64 m] (.bool (inB n (-m) m)) A5 S0 (sameB (within_any n (-m) m _)) Try.call60 (by kernel_rfl) (by kernel_rfl) (by kernel_rfl) rfl (fun ac wc A6 S7 => ?_)
  refine s_one (.bool (inB n (-m) m)) A6 S7 (g_assign (by kernel_rfl)) rfl (fun ac A9 => ?_)
  refine wpList_nil ?_
  refine n_then ?_
  refine wp_ret ?_
  refine fin1 (.bool (inB n (-m) m)) Try.results81 A9 S7 (rv_tmp (by kernel_rfl)) ⟨?_, S7.kp⟩
  rfl

/-- A sample of a frame. -/
def pfS (l : Bs) (k : Nat) : Int := w16 (whI (subU l 8 (l.length - 10)) (k * 2) 2)
def pfL (l : Bs) (n : Nat) : List Int := (List.range n).map (pfS l)
def pfBad (l : Bs) : Bool := (List.range (64 * (nthU l 3 * nthU l 3))).any fun k => !inB (pfS l k) (-2047) 2047
/-- What is wrong with the bytes of a frame. -/
def pfZ (l : Bs) : Int :=
  if l.length < 8 ∨ ¬ subU l 0 2 = [67, 80] then 7 else if ¬ (nthU l 2 : Int) = 1 then 15 else if inB (nthU l 3 : Int) 1 16 = false then 2 else
  if ¬ l.length = 10 + 128 * (nthU l 3 * nthU l 3) then 10 else if ¬ ckU (subU l 0 (l.length - 2)) (subU l 0 (l.length - 2)).length = whI l (l.length - 2) 2 then 19 else if inB (w32 (whI l 4 4)) (-1000000000) 1000000000 = false then 2 else if pfBad l = true then 2 else 0
def pfP (l : Bs) : Int := if pfZ l = 0 then w32 (whI l 4 4) else 0
def pfE (l : Bs) : Int := if pfZ l = 0 then (nthU l 3 : Int) else 0
def pfW (l : Bs) : List Nat := if pfZ l = 0 then fw (pfL l (64 * (nthU l 3 * nthU l 3))) else []
theorem pf_err {l : Bs} {z : Int} (h : pfZ l = z) (hz : ¬ z = 0) : pfP l = 0 ∧ pfE l = 0 ∧ pfW l = [] := by
  subst h; exact ⟨if_neg hz, if_neg hz, if_neg hz⟩
theorem pf_ok {l : Bs} (h : pfZ l = 0) : pfP l = w32 (whI l 4 4) ∧ pfE l = (nthU l 3 : Int) ∧ pfW l = fw (pfL l (64 * (nthU l 3 * nthU l 3))) := ⟨if_pos h, if_pos h, if_pos h⟩
theorem pfZ_1 {l : Bs} (h : l.length < 8 ∨ ¬ subU l 0 2 = [67, 80]) : pfZ l = 7 := if_pos h
theorem pfZ_2 {l : Bs} (h1 : 8 ≤ l.length) (h2 : subU l 0 2 = [67, 80]) (h3 : ¬ (nthU l 2 : Int) = 1) : pfZ l = 15 := by
  unfold pfZ; rw [if_neg (by intro h; rcases h with h | h; omega; exact h h2), if_pos h3]
theorem pfZ_3 {l : Bs} (h1 : 8 ≤ l.length) (h2 : subU l 0 2 = [67, 80]) (h3 : (nthU l 2 : Int) = 1) (h4 : inB (nthU l 3 : Int) 1 16 = false) : pfZ l = 2 := by
  unfold pfZ; rw [if_neg (by intro h; rcases h with h | h; omega; exact h h2), if_neg (fun h => h h3), if_pos h4]
theorem pfZ_4 {l : Bs} (h1 : 8 ≤ l.length) (h2 : subU l 0 2 = [67, 80]) (h3 : (nthU l 2 : Int) = 1) (h4 : inB (nthU l 3 : Int) 1 16 = true) (h5 : ¬ l.length = 10 + 128 * (nthU l 3 * nthU l 3)) : pfZ l = 10 := by
  unfold pfZ; rw [if_neg (by intro h; rcases h with h | h; omega; exact h h2), if_neg (fun h => h h3), if_neg (by rw [h4]; decide), if_pos h5]
theorem pfZ_5 {l : Bs} (h1 : 8 ≤ l.length) (h2 : subU l 0 2 = [67, 80]) (h3 : (nthU l 2 : Int) = 1) (h4 : inB (nthU l 3 : Int) 1 16 = true) (h5 : l.length = 10 + 128 * (nthU l 3 * nthU l 3)) (h6 : ¬ ckU (subU l 0 (l.length - 2)) (subU l 0 (l.length - 2)).length = whI l (l.length - 2) 2) : pfZ l = 19 := by
  unfold pfZ; rw [if_neg (by intro h; rcases h with h | h; omega; exact h h2), if_neg (fun h => h h3), if_neg (by rw [h4]; decide), if_neg (fun h => h h5), if_pos h6]
theorem pfZ_6 {l : Bs} (h1 : 8 ≤ l.length) (h2 : subU l 0 2 = [67, 80]) (h3 : (nthU l 2 : Int) = 1) (h4 : inB (nthU l 3 : Int) 1 16 = true) (h5 : l.length = 10 + 128 * (nthU l 3 * nthU l 3)) (h6 : ckU (subU l 0 (l.length - 2)) (subU l 0 (l.length - 2)).length = whI l (l.length - 2) 2) (h7 : inB (w32 (whI l 4 4)) (-1000000000) 1000000000 = false) : pfZ l = 2 := by
  unfold pfZ; rw [if_neg (by intro h; rcases h with h | h; omega; exact h h2), if_neg (fun h => h h3), if_neg (by rw [h4]; decide), if_neg (fun h => h h5), if_neg (fun h => h h6), if_pos h7]
theorem pfZ_7 {l : Bs} (h1 : 8 ≤ l.length) (h2 : subU l 0 2 = [67, 80]) (h3 : (nthU l 2 : Int) = 1) (h4 : inB (nthU l 3 : Int) 1 16 = true) (h5 : l.length = 10 + 128 * (nthU l 3 * nthU l 3)) (h6 : ckU (subU l 0 (l.length - 2)) (subU l 0 (l.length - 2)).length = whI l (l.length - 2) 2) (h7 : inB (w32 (whI l 4 4)) (-1000000000) 1000000000 = true) : pfZ l = if pfBad l = true then 2 else 0 := by
  unfold pfZ; rw [if_neg (by intro h; rcases h with h | h; omega; exact h h2), if_neg (fun h => h h3), if_neg (by rw [h4]; decide), if_neg (fun h => h h5), if_neg (fun h => h h6), if_neg (by rw [h7]; decide)]
theorem pfBad_y {l : Bs} {k : Nat} (hk : k < 64 * (nthU l 3 * nthU l 3)) (h : inB (pfS l k) (-2047) 2047 = false) : pfBad l = true := by
  unfold pfBad; rw [List.any_eq_true]; exact ⟨k, List.mem_range.2 hk, by rw [h]; rfl⟩
theorem pfBad_n {l : Bs} (h : ∀ k, k < 64 * (nthU l 3 * nthU l 3) → inB (pfS l k) (-2047) 2047 = true) : pfBad l = false := by
  unfold pfBad; rw [List.any_eq_false]; intro k hk; rw [h k (List.mem_range.1 hk)]; decide
theorem pf_snoc (l : Bs) (k : Nat) : rowF (fw (pfL l k)) ++ [.float .f32 (floatOfInt .f32 (pfS l k))] = rowF (fw (pfL l (k + 1))) := by simp [pfL, List.range_succ, fw, rowF]
theorem pf_snoc2 (l : Bs) {k m : Nat} (hm : m = k + 1) : rowF (fw (pfL l k)) ++ [.float .f32 (floatOfInt .f32 (w16 (whI (subU l 8 (l.length - 10)) (k * 2) 2)))] = rowF (fw (pfL l m)) := by
  subst hm; exact pf_snoc l k
theorem all_snoc {l : Bs} {pre : List Nat} {y : Nat} (h : ∀ k, k < pre.length → inB (pfS l k) (-2047) 2047 = true) (hk : inB (w16 (whI (subU l 8 (l.length - 10)) (pre.length * 2) 2)) (-2047) 2047 = true) : ∀ k, k < (pre ++ [y]).length → inB (pfS l k) (-2047) 2047 = true := by
  intro k hk2
  rw [List.length_append, List.length_cons, List.length_nil] at hk2
  rcases Nat.lt_or_ge k pre.length with q | q
  · exact h k q
  · obtain rfl : k = pre.length := by omega
    exact hk
theorem pre7 {l : Bs} (h : (decide ((l.length : Int) < 8) || !decide (subU l 0 2 = [67, 80])) = true) : l.length < 8 ∨ ¬ subU l 0 2 = [67, 80] := by
  rw [Bool.or_eq_true, decide_eq_true_iff, Bool.not_eq_true', decide_eq_false_iff_not] at h
  rcases h with h | h
  · exact .inl (by omega)
  · exact .inr h
theorem pfL_length (l : Bs) (k : Nat) : (pfL l k).length = k := by simp [pfL]

set_option maxRecDepth 100000 in
set_option maxHeartbeats 400000 in
theorem ParseFrame_s (l : List UInt8) (w0 : World) (hl : l.length ≤ 150000) :
    Calls Try.prog 31 #[.string ⟨l.toArray⟩] w0 fun e w' => ∃ v, e = .returned (.tuple #[.agg #[.int .i64 (pfP l), .int .i64 (pfE l), v], .int .i64 (pfZ l)]) ∧ Below w0.heap.size w0 w' ∧ w'.ownsRow w0.heap.size 36 1 v ((pfW l).length) (rowF (pfW l)) := by
  have S0 := St.start w0
  have hq3 := nthU_lt l 3
  have hq4 := sq_le (show nthU l 3 ≤ 255 by omega)
  refine enterM (n := 92) Try.func31 rfl rfl rfl (fun ac A0 => ?_)
  refine wp_seq ?_
  refine wp_region_lit ?_
  refine s_alloc (#[.int .i64 0, .int .i64 0, .slice none 0 0]) A0 S0 (by kernel_rfl) rfl (fun g3 ac wc A1 S2 => ?_)
  refine s_alloc (#[.int .i64 0]) A1 S2 (by kernel_rfl) rfl (fun g6 ac wc A4 S5 => ?_)
  refine wpList_nil ?_
  refine n_then ?_
  refine wp_seq ?_
  refine wp_seq ?_
  refine c_cut (fun ac wc => Fr 92 ac [(17, .bool ((decide ((l.length : Int) < 8)) || (!(decide (subU l 0 2 = [67, 80]))))), (0, .string ⟨l.toArray⟩), (2, .pointer (some ⟨g3, 0, none⟩)), (3, .pointer (some ⟨g6, 0, none⟩))] ∧ St w0 [⟨g6, 32, #[.int .i64 0], true⟩, ⟨g3, 66, #[.int .i64 0, .int .i64 0, .slice none 0 0], true⟩] [] wc) ?_ ?_
  · refine wp_region_lit ?_
    refine s_one (.string ⟨l.toArray⟩) A4 S5 (g_move (by kernel_rfl)) rfl (fun ac A7 => ?_)
    refine s_one (.int .i64 (l.length : Int)) A7 S5 (g_built (r := [(0, .string ⟨l.toArray⟩)]) (by kernel_rfl) (fun ty cs w => bl_str (l := l) Try.underlying9 ty cs w)) rfl (fun ac A8 => ?_)
    refine s_one (.bool (decide ((l.length : Int) < 8))) A8 S5 (g_bin (u := .int .i64 (l.length : Int)) (k := .int .i64 8) (by kernel_rfl) (by kernel_rfl) (fun _ => by kernel_rfl) (fun _ => by kernel_rfl)) rfl (fun ac A9 => ?_)
    refine s_one (.bool (decide ((l.length : Int) < 8))) A9 S5 (g_move (by kernel_rfl)) rfl (fun ac A10 => ?_)
    refine by_bool (decide ((l.length : Int) < 8)) (fun h11 => ?_) (fun h11 => ?_)
    · have p12 := of_decide_eq_true h11
      refine s_not (dj := 13) (b := (decide ((l.length : Int) < 8))) A10 (by kernel_rfl) (by kernel_rfl) h11 rfl (fun ac A13 => ?_)
      refine s_not (dj := 13) (b := (decide ((l.length : Int) < 8))) A13 (by kernel_rfl) (by kernel_rfl) h11 rfl (fun ac A14 => ?_)
      refine s_not (dj := 13) (b := (decide ((l.length : Int) < 8))) A14 (by kernel_rfl) (by kernel_rfl) h11 rfl (fun ac A15 => ?_)
      refine s_one (.bool true) A15 S5 (g_pick_t (b := (decide ((l.length : Int) < 8))) (by kernel_rfl) h11 (by kernel_rfl)) rfl (fun ac A16 => ?_)
      refine wpList_nil ?_
      refine n_then ?_
      exact ⟨(A16.slot (A16.slot (A16.slot (A16.slot A16.nil (v := .pointer (some ⟨g6, 0, none⟩)) (by kernel_rfl) rfl) (v := .pointer (some ⟨g3, 0, none⟩)) (by kernel_rfl) rfl) (v := .string ⟨l.toArray⟩) (by kernel_rfl) rfl) (v := .bool true) (by kernel_rfl) (congrArg Value.bool (b_ot1 h11).symm)), S5.sub sub_all sub_all⟩
    · have p17 := of_decide_eq_false h11
      refine s_want (dj := 13) (b := (decide ((l.length : Int) < 8))) A10 (by kernel_rfl) (by kernel_rfl) h11 ?_
      refine s_one (.string ⟨l.toArray⟩) A10 S5 (g_move (by kernel_rfl)) rfl (fun ac A18 => ?_)
      refine s_want (dj := 13) (b := (decide ((l.length : Int) < 8))) A18 (by kernel_rfl) (by kernel_rfl) h11 ?_
      refine s_call (fs := #[]) (cp := #[]) (r := [(0, .string ⟨l.toArray⟩), (0, .string ⟨([67, 80] : List UInt8).toArray⟩)]) #[.string ⟨l.toArray⟩, .string ⟨([67, 80] : List UInt8).toArray⟩] (.bool (decide (subU l 0 2 = [67, 80]))) A18 S5 (hasPrefix_s l _ (by omega)) Try.call78 (by kernel_rfl) (by kernel_rfl) (by kernel_rfl) rfl (fun ac wc A19 S20 => ?_)
      refine s_want (dj := 13) (b := (decide ((l.length : Int) < 8))) A19 (by kernel_rfl) (by kernel_rfl) h11 ?_
      refine s_one (.bool (!(decide (subU l 0 2 = [67, 80])))) A19 S20 (g_un (u := .bool (decide (subU l 0 2 = [67, 80]))) (by kernel_rfl) (fun _ => by kernel_rfl)) rfl (fun ac A22 => ?_)
      refine s_one (.bool (!(decide (subU l 0 2 = [67, 80])))) A22 S20 (g_pick_f (b := (decide ((l.length : Int) < 8))) (by kernel_rfl) h11 (by kernel_rfl)) rfl (fun ac A23 => ?_)
      refine wpList_nil ?_
      refine n_then ?_
      exact ⟨(A23.slot (A23.slot (A23.slot (A23.slot A23.nil (v := .pointer (some ⟨g6, 0, none⟩)) (by kernel_rfl) rfl) (v := .pointer (some ⟨g3, 0, none⟩)) (by kernel_rfl) rfl) (v := .string ⟨l.toArray⟩) (by kernel_rfl) rfl) (v := .bool (!(decide (subU l 0 2 = [67, 80])))) (by kernel_rfl) (congrArg Value.bool (b_or_f h11 (Eq.refl (!(decide (subU l 0 2 = [67, 80]))))).symm)), S20.sub sub_all sub_all⟩
  · rintro ac wc ⟨A24, S25⟩
    refine n_then ?_
    refine c_ifb (b := ((decide ((l.length : Int) < 8)) || (!(decide (subU l 0 2 = [67, 80]))))) A24 (by kernel_rfl) (fun h26 => ?_) (fun h26 => ?_)
    · refine wp_seq ?_
      refine wp_region_lit ?_
      refine s_one (.agg #[.int .i64 0, .int .i64 0, .slice none 0 0]) A24 S25 (g_build (r := []) (by kernel_rfl) (fun _ => by kernel_rfl)) rfl (fun ac A27 => ?_)
      refine s_store (g := g3) (off := 0) (v := .agg #[.int .i64 0, .int .i64 0, .slice none 0 0]) 1 (#[.int .i64 0, .int .i64 0, .slice none 0 0]) A27 S25 (by kernel_rfl) (by kernel_rfl) rfl (by kernel_rfl) (fun wc S29 => ?_)
      refine s_store (g := g6) (off := 0) (v := .int .i64 7) 0 (#[.int .i64 7]) A27 S29 (by kernel_rfl) (by kernel_rfl) rfl (by kernel_rfl) (fun wc S32 => ?_)
      refine wpList_nil ?_
      refine n_then ?_
      refine wp_ret ?_
      refine r_then ?_
      refine m_ret0 A27 ?_
      have S34 := S32.nilRow 36 1
      refine fin2 (.agg #[.int .i64 0, .int .i64 0, .slice none 0 0]) (.int .i64 7) Try.results31 A27 S34 (rv_cell (g := g3) (off := 0) 1 (by kernel_rfl) rfl (by kernel_rfl)) (rv_cell (g := g6) (off := 0) 0 (by kernel_rfl) rfl (by kernel_rfl)) ?_
      have bw := S34.kp
      have ow := S34.row 0 rfl
      have ez := pfZ_1 (l := l) (pre7 h26)
      obtain ⟨e1, e2, e3⟩ := pf_err ez (by decide)
      rw [e1, e2, e3, ez]
      exact ⟨_, rfl, bw, ow⟩
    · have h35 := (Bool.or_eq_false_iff.1 h26).1
      have p36 := of_decide_eq_false h35
      have h37 := (Bool.or_eq_false_iff.1 h26).2
      have h38 : decide (subU l 0 2 = [67, 80]) = true := by simpa using h37
      have p39 := of_decide_eq_true h38
      refine wp_skip ?_
      refine n_then ?_
      refine wp_seq ?_
      refine wp_region_lit ?_
      refine s_one (.string ⟨l.toArray⟩) A24 S25 (g_move (by kernel_rfl)) rfl (fun ac A40 => ?_)
      refine s_one (.int .u8 (nthU l 3 : Int)) A40 S25 (g_indexv (u := .string ⟨l.toArray⟩) (k := .int .i64 3) (by kernel_rfl) (by kernel_rfl) (ix_str (l := l) 3 Try.underlying9 (by omega) (by omega))) rfl (fun ac A41 => ?_)
      refine s_one (.int .i64 (nthU l 3 : Int)) A41 S25 (g_conv (u := .int .u8 (nthU l 3 : Int)) (by kernel_rfl) (conv_u8 Try.underlying5 Try.underlying3 ⟨by omega, by have h9 := nthU_lt l 3; omega⟩)) rfl (fun ac A42 => ?_)
      refine s_one (.int .i64 (nthU l 3 : Int)) A42 S25 (g_assign (by kernel_rfl)) rfl (fun ac A43 => ?_)
      refine wpList_nil ?_
      refine n_then ?_
      refine wp_seq ?_
      refine wp_block ?_
      refine wp_seq ?_
      refine wp_region_lit ?_
      refine s_one (.string ⟨l.toArray⟩) A43 S25 (g_move (by kernel_rfl)) rfl (fun ac A44 => ?_)
      refine s_one (.int .u8 (nthU l 2 : Int)) A44 S25 (g_indexv (u := .string ⟨l.toArray⟩) (k := .int .i64 2) (by kernel_rfl) (by kernel_rfl) (ix_str (l := l) 2 Try.underlying9 (by omega) (by omega))) rfl (fun ac A45 => ?_)
      refine s_one (.bool (decide ((nthU l 2 : Int) ≠ 1))) A45 S25 (g_bin (u := .int .u8 (nthU l 2 : Int)) (k := .int .u8 1) (by kernel_rfl) (by kernel_rfl) (fun _ => by kernel_rfl) b_neq) rfl (fun ac A46 => ?_)
      refine s_one (.bool (decide ((nthU l 2 : Int) ≠ 1))) A46 S25 (g_assign (by kernel_rfl)) rfl (fun ac A47 => ?_)
      refine wpList_nil ?_
      refine n_then ?_
      refine c_ifb (b := (decide ((nthU l 2 : Int) ≠ 1))) A47 (by kernel_rfl) (fun h48 => ?_) (fun h48 => ?_)
      · have p49 := of_decide_eq_true h48
        refine wp_seq ?_
        refine wp_region_lit ?_
        refine s_one (.agg #[.int .i64 0, .int .i64 0, .slice none 0 0]) A47 S25 (g_build (r := []) (by kernel_rfl) (fun _ => by kernel_rfl)) rfl (fun ac A50 => ?_)
        refine s_store (g := g3) (off := 0) (v := .agg #[.int .i64 0, .int .i64 0, .slice none 0 0]) 1 (#[.int .i64 0, .int .i64 0, .slice none 0 0]) A50 S25 (by kernel_rfl) (by kernel_rfl) rfl (by kernel_rfl) (fun wc S52 => ?_)
        refine s_store (g := g6) (off := 0) (v := .int .i64 15) 0 (#[.int .i64 15]) A50 S52 (by kernel_rfl) (by kernel_rfl) rfl (by kernel_rfl) (fun wc S55 => ?_)
        refine wpList_nil ?_
        refine n_then ?_
        refine wp_ret ?_
        refine r_block ?_
        refine r_then ?_
        refine m_ret0 A50 ?_
        have S57 := S55.nilRow 36 1
        refine fin2 (.agg #[.int .i64 0, .int .i64 0, .slice none 0 0]) (.int .i64 15) Try.results31 A50 S57 (rv_cell (g := g3) (off := 0) 1 (by kernel_rfl) rfl (by kernel_rfl)) (rv_cell (g := g6) (off := 0) 0 (by kernel_rfl) rfl (by kernel_rfl)) ?_
        have bw := S57.kp
        have ow := S57.row 0 rfl
        have ez := pfZ_2 (l := l) (by omega) p39 p49
        obtain ⟨e1, e2, e3⟩ := pf_err ez (by decide)
        rw [e1, e2, e3, ez]
        exact ⟨_, rfl, bw, ow⟩
      · have p58 := of_decide_eq_false h48
        refine wp_seq ?_
        refine wp_region_lit ?_
        refine s_one (.int .i64 (nthU l 3 : Int)) A47 S25 (g_move (by kernel_rfl)) rfl (fun ac A59 => ?_)
        refine s_call (fs := #[]) (cp := #[]) (r := [(0, .int .i64 (nthU l 3 : Int)), (0, .int .i64 1), (0, .int .i64 16)]) #[.int .i64 (nthU l 3 : Int), .int .i64 1, .int .i64 16] (.bool (inB (nthU l 3 : Int) 1 16)) A59 S25 (sameB (within_any (nthU l 3 : Int) 1 16 _)) Try.call60 (by kernel_rfl) (by kernel_rfl) (by kernel_rfl) rfl (fun ac wc A60 S61 => ?_)
        refine s_one (.bool (!(inB (nthU l 3 : Int) 1 16))) A60 S61 (g_un (u := .bool (inB (nthU l 3 : Int) 1 16)) (by kernel_rfl) (fun _ => by kernel_rfl)) rfl (fun ac A63 => ?_)
        refine s_one (.bool (!(inB (nthU l 3 : Int) 1 16))) A63 S61 (g_assign (by kernel_rfl)) rfl (fun ac A64 => ?_)
        refine wpList_nil ?_
        refine n_then ?_
        refine c_ifb (b := (!(inB (nthU l 3 : Int) 1 16))) A64 (by kernel_rfl) (fun h65 => ?_) (fun h65 => ?_)
        · have h66 : inB (nthU l 3 : Int) 1 16 = false := by simpa using h65
          refine wp_seq ?_
          refine wp_region_lit ?_
          refine s_one (.agg #[.int .i64 0, .int .i64 0, .slice none 0 0]) A64 S61 (g_build (r := []) (by kernel_rfl) (fun _ => by kernel_rfl)) rfl (fun ac A67 => ?_)
          refine s_store (g := g3) (off := 0) (v := .agg #[.int .i64 0, .int .i64 0, .slice none 0 0]) 1 (#[.int .i64 0, .int .i64 0, .slice none 0 0]) A67 S61 (by kernel_rfl) (by kernel_rfl) rfl (by kernel_rfl) (fun wc S69 => ?_)
          refine s_store (g := g6) (off := 0) (v := .int .i64 2) 0 (#[.int .i64 2]) A67 S69 (by kernel_rfl) (by kernel_rfl) rfl (by kernel_rfl) (fun wc S72 => ?_)
          refine wpList_nil ?_
          refine n_then ?_
          refine wp_ret ?_
          refine r_block ?_
          refine r_then ?_
          refine m_ret0 A67 ?_
          have S74 := S72.nilRow 36 1
          refine fin2 (.agg #[.int .i64 0, .int .i64 0, .slice none 0 0]) (.int .i64 2) Try.results31 A67 S74 (rv_cell (g := g3) (off := 0) 1 (by kernel_rfl) rfl (by kernel_rfl)) (rv_cell (g := g6) (off := 0) 0 (by kernel_rfl) rfl (by kernel_rfl)) ?_
          have bw := S74.kp
          have ow := S74.row 0 rfl
          have ez := pfZ_3 (l := l) (by omega) p39 (by omega) h66
          obtain ⟨e1, e2, e3⟩ := pf_err ez (by decide)
          rw [e1, e2, e3, ez]
          exact ⟨_, rfl, bw, ow⟩
        · have h75 : inB (nthU l 3 : Int) 1 16 = true := by simpa using h65
          refine wp_seq ?_
          refine wp_region_lit ?_
          refine s_one (.string ⟨l.toArray⟩) A64 S61 (g_move (by kernel_rfl)) rfl (fun ac A76 => ?_)
          refine s_one (.int .i64 (l.length : Int)) A76 S61 (g_built (r := [(0, .string ⟨l.toArray⟩)]) (by kernel_rfl) (fun ty cs w => bl_str (l := l) Try.underlying9 ty cs w)) rfl (fun ac A77 => ?_)
          refine s_one (.int .i64 (nthU l 3 : Int)) A77 S61 (g_move (by kernel_rfl)) rfl (fun ac A78 => ?_)
          refine s_call (fs := #[]) (cp := #[]) (r := [(0, .int .i64 (nthU l 3 : Int))]) #[.int .i64 (nthU l 3 : Int)] (.int .i64 ((10 + 128 * ((nthU l 3) * (nthU l 3)) : Nat) : Int)) A78 S61 (frameSize_s (nthU l 3) _ (by have h9 := nthU_lt l 3; omega)) Try.call77 (by kernel_rfl) (by kernel_rfl) (by kernel_rfl) rfl (fun ac wc A79 S80 => ?_)
          refine s_one (.bool (decide ((l.length : Int) ≠ ((10 + 128 * ((nthU l 3) * (nthU l 3)) : Nat) : Int)))) A79 S80 (g_bin (u := .int .i64 (l.length : Int)) (k := .int .i64 ((10 + 128 * ((nthU l 3) * (nthU l 3)) : Nat) : Int)) (by kernel_rfl) (by kernel_rfl) (fun _ => by kernel_rfl) b_neq) rfl (fun ac A82 => ?_)
          refine s_one (.bool (decide ((l.length : Int) ≠ ((10 + 128 * ((nthU l 3) * (nthU l 3)) : Nat) : Int)))) A82 S80 (g_assign (by kernel_rfl)) rfl (fun ac A83 => ?_)
          refine wpList_nil ?_
          refine n_then ?_
          refine c_ifb (b := (decide ((l.length : Int) ≠ ((10 + 128 * ((nthU l 3) * (nthU l 3)) : Nat) : Int)))) A83 (by kernel_rfl) (fun h84 => ?_) (fun h84 => ?_)
          · have p85 := of_decide_eq_true h84
            refine wp_seq ?_
            refine wp_region_lit ?_
            refine s_one (.agg #[.int .i64 0, .int .i64 0, .slice none 0 0]) A83 S80 (g_build (r := []) (by kernel_rfl) (fun _ => by kernel_rfl)) rfl (fun ac A86 => ?_)
            refine s_store (g := g3) (off := 0) (v := .agg #[.int .i64 0, .int .i64 0, .slice none 0 0]) 1 (#[.int .i64 0, .int .i64 0, .slice none 0 0]) A86 S80 (by kernel_rfl) (by kernel_rfl) rfl (by kernel_rfl) (fun wc S88 => ?_)
            refine s_store (g := g6) (off := 0) (v := .int .i64 10) 0 (#[.int .i64 10]) A86 S88 (by kernel_rfl) (by kernel_rfl) rfl (by kernel_rfl) (fun wc S91 => ?_)
            refine wpList_nil ?_
            refine n_then ?_
            refine wp_ret ?_
            refine r_block ?_
            refine r_then ?_
            refine m_ret0 A86 ?_
            have S93 := S91.nilRow 36 1
            refine fin2 (.agg #[.int .i64 0, .int .i64 0, .slice none 0 0]) (.int .i64 10) Try.results31 A86 S93 (rv_cell (g := g3) (off := 0) 1 (by kernel_rfl) rfl (by kernel_rfl)) (rv_cell (g := g6) (off := 0) 0 (by kernel_rfl) rfl (by kernel_rfl)) ?_
            have bw := S93.kp
            have ow := S93.row 0 rfl
            have ez := pfZ_4 (l := l) (by omega) p39 (by omega) h75 (by omega)
            obtain ⟨e1, e2, e3⟩ := pf_err ez (by decide)
            rw [e1, e2, e3, ez]
            exact ⟨_, rfl, bw, ow⟩
          · have p94 := of_decide_eq_false h84
            refine wp_skip ?_
            refine n_block ?_
            refine n_then ?_
            refine wp_seq ?_
            refine r_begin (w0 := w0) (by kernel_rfl) (S80.sub sub_all sub_all) (fun wc T95 B96 => ?_)
            have S97 := S80.kept B96
            refine r_take 0 (.string ⟨l.toArray⟩) A83 T95 (g_move (by kernel_rfl)) rfl rfl rfl (pf_then pf_mPost) (by kernel_rfl) (fun ac A98 => ?_)
            refine r_take 1 (.string ⟨l.toArray⟩) A98 T95 (g_move (by kernel_rfl)) rfl rfl rfl (pf_then pf_mPost) (by kernel_rfl) (fun ac A99 => ?_)
            refine r_take 2 (.int .i64 (l.length : Int)) A99 T95 (g_built (r := [(0, .string ⟨l.toArray⟩)]) (by kernel_rfl) (fun ty cs w => bl_str (l := l) Try.underlying9 ty cs w)) rfl rfl rfl (pf_then pf_mPost) (by kernel_rfl) (fun ac A100 => ?_)
            refine r_take 3 (.int .i64 ((l.length : Int) - 2)) A100 T95 (g_bin (u := .int .i64 (l.length : Int)) (k := .int .i64 2) (by kernel_rfl) (by kernel_rfl) (fun _ => by kernel_rfl) (b_sub (by omega))) rfl rfl rfl (pf_then pf_mPost) (by kernel_rfl) (fun ac A101 => ?_)
            refine r_take 4 (.string ⟨(subU l 0 (l.length - 2)).toArray⟩) A101 T95 (g_slice (u := .string ⟨l.toArray⟩) (lo' := none) (hi' := (some (.int .i64 ((l.length : Int) - 2)))) (mx' := none) (by kernel_rfl) (by kernel_rfl) (by kernel_rfl) (by kernel_rfl) (sl_strH (l := l) (h := l.length - 2) Try.underlying9 (by omega) (by omega))) rfl rfl rfl (pf_then pf_mPost) (by kernel_rfl) (fun ac A102 => ?_)
            refine r_take 5 (.string ⟨l.toArray⟩) A102 T95 (g_move (by kernel_rfl)) rfl rfl rfl (pf_then pf_mPost) (by kernel_rfl) (fun ac A103 => ?_)
            refine r_take 6 (.string ⟨l.toArray⟩) A103 T95 (g_move (by kernel_rfl)) rfl rfl rfl (pf_then pf_mPost) (by kernel_rfl) (fun ac A104 => ?_)
            refine r_take 7 (.int .i64 (l.length : Int)) A104 T95 (g_built (r := [(0, .string ⟨l.toArray⟩)]) (by kernel_rfl) (fun ty cs w => bl_str (l := l) Try.underlying9 ty cs w)) rfl rfl rfl (pf_then pf_mPost) (by kernel_rfl) (fun ac A105 => ?_)
            refine r_take 8 (.int .i64 ((l.length : Int) - 2)) A105 T95 (g_bin (u := .int .i64 (l.length : Int)) (k := .int .i64 2) (by kernel_rfl) (by kernel_rfl) (fun _ => by kernel_rfl) (b_sub (by omega))) rfl rfl rfl (pf_then pf_mPost) (by kernel_rfl) (fun ac A106 => ?_)
            refine r_take 9 (.string ⟨(subU l (l.length - 2) 2).toArray⟩) A106 T95 (g_slice (u := .string ⟨l.toArray⟩) (lo' := (some (.int .i64 ((l.length : Int) - 2)))) (hi' := none) (mx' := none) (by kernel_rfl) (by kernel_rfl) (by kernel_rfl) (by kernel_rfl) (sl_strL_n (l := l) (i := l.length - 2) (k := 2) Try.underlying9 (by omega) (by omega) (by omega))) rfl rfl rfl (pf_then pf_mPost) (by kernel_rfl) (fun ac A107 => ?_)
            refine r_take 10 (.string ⟨(subU l 0 (l.length - 2)).toArray⟩) A107 T95 (g_assign (by kernel_rfl)) rfl rfl rfl (pf_then pf_mPost) (by kernel_rfl) (fun ac A108 => ?_)
            refine r_take 11 (.string ⟨(subU l (l.length - 2) 2).toArray⟩) A108 T95 (g_assign (by kernel_rfl)) rfl rfl rfl (pf_then pf_mPost) (by kernel_rfl) (fun ac A109 => ?_)
            refine r_done (by kernel_rfl) ?_
            refine n_then ?_
            refine wp_seq ?_
            refine wp_seq ?_
            refine wp_region_lit ?_
            refine s_one (.string ⟨(subU l 0 (l.length - 2)).toArray⟩) A109 S97 (g_move (by kernel_rfl)) rfl (fun ac A110 => ?_)
            refine s_call (fs := #[]) (cp := #[]) (r := [(0, .string ⟨(subU l 0 (l.length - 2)).toArray⟩)]) #[.string ⟨(subU l 0 (l.length - 2)).toArray⟩] (.int .i64 (ckU (subU l 0 (l.length - 2)) (subU l 0 (l.length - 2)).length)) A110 S97 (check_s (subU l 0 (l.length - 2)) _ (by have h9 := subU_le l 0 (l.length - 2); omega)) Try.call79 (by kernel_rfl) (by kernel_rfl) (by kernel_rfl) rfl (fun ac wc A111 S112 => ?_)
            refine s_one (.string ⟨(subU l (l.length - 2) 2).toArray⟩) A111 S112 (g_move (by kernel_rfl)) rfl (fun ac A114 => ?_)
            refine s_call (fs := #[]) (cp := #[]) (r := [(0, .string ⟨(subU l (l.length - 2) 2).toArray⟩)]) #[.string ⟨(subU l (l.length - 2) 2).toArray⟩] (.int .i64 (whI l (l.length - 2) 2)) A114 S112 (whole_at l (l.length - 2) 2 _ (by omega) (by omega)) Try.call80 (by kernel_rfl) (by kernel_rfl) (by kernel_rfl) rfl (fun ac wc A115 S116 => ?_)
            refine s_one (.bool (decide (ckU (subU l 0 (l.length - 2)) (subU l 0 (l.length - 2)).length ≠ whI l (l.length - 2) 2))) A115 S116 (g_bin (u := .int .i64 (ckU (subU l 0 (l.length - 2)) (subU l 0 (l.length - 2)).length)) (k := .int .i64 (whI l (l.length - 2) 2)) (by kernel_rfl) (by kernel_rfl) (fun _ => by kernel_rfl) b_neq) rfl (fun ac A118 => ?_)
            refine wpList_nil ?_
            refine n_then ?_
            refine c_ifb (b := (decide (ckU (subU l 0 (l.length - 2)) (subU l 0 (l.length - 2)).length ≠ whI l (l.length - 2) 2))) A118 (by kernel_rfl) (fun h119 => ?_) (fun h119 => ?_)
            · have p120 := of_decide_eq_true h119
              refine wp_seq ?_
              refine wp_region_lit ?_
              refine s_one (.agg #[.int .i64 0, .int .i64 0, .slice none 0 0]) A118 S116 (g_build (r := []) (by kernel_rfl) (fun _ => by kernel_rfl)) rfl (fun ac A121 => ?_)
              refine s_store (g := g3) (off := 0) (v := .agg #[.int .i64 0, .int .i64 0, .slice none 0 0]) 1 (#[.int .i64 0, .int .i64 0, .slice none 0 0]) A121 S116 (by kernel_rfl) (by kernel_rfl) rfl (by kernel_rfl) (fun wc S123 => ?_)
              refine s_store (g := g6) (off := 0) (v := .int .i64 19) 0 (#[.int .i64 19]) A121 S123 (by kernel_rfl) (by kernel_rfl) rfl (by kernel_rfl) (fun wc S126 => ?_)
              refine wpList_nil ?_
              refine n_then ?_
              refine wp_ret ?_
              refine r_then ?_
              refine m_ret0 A121 ?_
              have S128 := S126.nilRow 36 1
              refine fin2 (.agg #[.int .i64 0, .int .i64 0, .slice none 0 0]) (.int .i64 19) Try.results31 A121 S128 (rv_cell (g := g3) (off := 0) 1 (by kernel_rfl) rfl (by kernel_rfl)) (rv_cell (g := g6) (off := 0) 0 (by kernel_rfl) rfl (by kernel_rfl)) ?_
              have bw := S128.kp
              have ow := S128.row 0 rfl
              have ez := pfZ_5 (l := l) (by omega) p39 (by omega) h75 (by omega) p120
              obtain ⟨e1, e2, e3⟩ := pf_err ez (by decide)
              rw [e1, e2, e3, ez]
              exact ⟨_, rfl, bw, ow⟩
            · have p129 := of_decide_eq_false h119
              refine wp_skip ?_
              refine n_then ?_
              refine wp_seq ?_
              refine wp_region_lit ?_
              refine s_one (.string ⟨(subU l 0 (l.length - 2)).toArray⟩) A118 S116 (g_move (by kernel_rfl)) rfl (fun ac A130 => ?_)
              refine s_one (.string ⟨(subU l 4 4).toArray⟩) A130 S116 (g_slice (u := .string ⟨(subU l 0 (l.length - 2)).toArray⟩) (lo' := (some (.int .i64 4))) (hi' := (some (.int .i64 8))) (mx' := none) (by kernel_rfl) (by kernel_rfl) (by kernel_rfl) (by kernel_rfl) (sl_sub_n (l := l) (b := 0) (n := (l.length - 2)) (i := 4) (h := 8) (j := 4) (k := 4) Try.underlying9 (by omega) (by omega) (by omega) (by omega) (by omega) (by omega) (by omega))) rfl (fun ac A131 => ?_)
              refine s_call (fs := #[]) (cp := #[]) (r := [(0, .string ⟨(subU l 4 4).toArray⟩)]) #[.string ⟨(subU l 4 4).toArray⟩] (.int .i64 (whI l 4 4)) A131 S116 (whole_at l 4 4 _ (by omega) (by omega)) Try.call80 (by kernel_rfl) (by kernel_rfl) (by kernel_rfl) rfl (fun ac wc A132 S133 => ?_)
              refine s_one (.int .i32 (w32 (whI l 4 4))) A132 S133 (g_conv (u := .int .i64 (whI l 4 4)) (by kernel_rfl) (fun _ => by kernel_rfl)) rfl (fun ac A135 => ?_)
              refine s_one (.int .i64 (w32 (whI l 4 4))) A135 S133 (g_conv (u := .int .i32 (w32 (whI l 4 4))) (by kernel_rfl) (conv_w32 Try.underlying21 Try.underlying3)) rfl (fun ac A136 => ?_)
              refine s_one (.int .i64 (nthU l 3 : Int)) A136 S133 (g_move (by kernel_rfl)) rfl (fun ac A137 => ?_)
              refine s_one (.agg #[.int .i64 (nthU l 3 : Int), .slice none 0 0]) A137 S133 (g_build (r := [(0, .int .i64 (nthU l 3 : Int))]) (by kernel_rfl) (fun _ => by kernel_rfl)) rfl (fun ac A138 => ?_)
              refine s_one (.agg #[.int .i64 (w32 (whI l 4 4)), .int .i64 (nthU l 3 : Int), .slice none 0 0]) A138 S133 (g_build (r := [(0, .int .i64 (w32 (whI l 4 4))), (1, .agg #[.int .i64 (nthU l 3 : Int), .slice none 0 0])]) (by kernel_rfl) (fun _ => by kernel_rfl)) rfl (fun ac A139 => ?_)
              refine s_alloc (#[.int .i64 0, .int .i64 0, .slice none 0 0]) A139 S133 (by kernel_rfl) rfl (fun g142 ac wc A140 S141 => ?_)
              refine s_store (g := g142) (off := 0) (v := .agg #[.int .i64 (w32 (whI l 4 4)), .int .i64 (nthU l 3 : Int), .slice none 0 0]) 0 (#[.int .i64 (w32 (whI l 4 4)), .int .i64 (nthU l 3 : Int), .slice none 0 0]) A140 S141 (by kernel_rfl) (by kernel_rfl) rfl (by kernel_rfl) (fun wc S144 => ?_)
              refine wpList_nil ?_
              refine n_then ?_
              refine wp_seq ?_
              refine wp_seq ?_
              refine wp_region_lit ?_
              refine s_one (.pointer (some ⟨g142, 0, none⟩)) A140 S144 (g_field (u := .pointer (some ⟨g142, 0, none⟩)) (by kernel_rfl) (fun _ => by kernel_rfl)) rfl (fun ac A146 => ?_)
              refine s_one (.int .i64 (w32 (whI l 4 4))) A146 S144 (g_load (g := g142) (off := 0) 0 (by kernel_rfl) rfl (by kernel_rfl)) rfl (fun ac A147 => ?_)
              refine s_call (fs := #[]) (cp := #[]) (r := [(0, .int .i64 (w32 (whI l 4 4))), (0, .int .i64 1000000000)]) #[.int .i64 (w32 (whI l 4 4)), .int .i64 1000000000] (.bool (inB (w32 (whI l 4 4)) (-1000000000) 1000000000)) A147 S144 (small_s (w32 (whI l 4 4)) 1000000000 _ (by omega) (by omega)) Try.call81 (by kernel_rfl) (by kernel_rfl) (by kernel_rfl) rfl (fun ac wc A148 S149 => ?_)
              refine s_one (.bool (!(inB (w32 (whI l 4 4)) (-1000000000) 1000000000))) A148 S149 (g_un (u := .bool (inB (w32 (whI l 4 4)) (-1000000000) 1000000000)) (by kernel_rfl) (fun _ => by kernel_rfl)) rfl (fun ac A151 => ?_)
              refine wpList_nil ?_
              refine n_then ?_
              refine c_ifb (b := (!(inB (w32 (whI l 4 4)) (-1000000000) 1000000000))) A151 (by kernel_rfl) (fun h152 => ?_) (fun h152 => ?_)
              · have h153 : inB (w32 (whI l 4 4)) (-1000000000) 1000000000 = false := by simpa using h152
                refine wp_seq ?_
                refine wp_region_lit ?_
                refine s_one (.agg #[.int .i64 0, .int .i64 0, .slice none 0 0]) A151 S149 (g_build (r := []) (by kernel_rfl) (fun _ => by kernel_rfl)) rfl (fun ac A154 => ?_)
                refine s_store (g := g3) (off := 0) (v := .agg #[.int .i64 0, .int .i64 0, .slice none 0 0]) 2 (#[.int .i64 0, .int .i64 0, .slice none 0 0]) A154 S149 (by kernel_rfl) (by kernel_rfl) rfl (by kernel_rfl) (fun wc S156 => ?_)
                refine s_store (g := g6) (off := 0) (v := .int .i64 2) 1 (#[.int .i64 2]) A154 S156 (by kernel_rfl) (by kernel_rfl) rfl (by kernel_rfl) (fun wc S159 => ?_)
                refine wpList_nil ?_
                refine n_then ?_
                refine wp_ret ?_
                refine r_then ?_
                refine m_ret0 A154 ?_
                have S161 := S159.nilRow 36 1
                refine fin2 (.agg #[.int .i64 0, .int .i64 0, .slice none 0 0]) (.int .i64 2) Try.results31 A154 S161 (rv_cell (g := g3) (off := 0) 2 (by kernel_rfl) rfl (by kernel_rfl)) (rv_cell (g := g6) (off := 0) 1 (by kernel_rfl) rfl (by kernel_rfl)) ?_
                have bw := S161.kp
                have ow := S161.row 0 rfl
                have ez := pfZ_6 (l := l) (by omega) p39 (by omega) h75 (by omega) (by omega) h153
                obtain ⟨e1, e2, e3⟩ := pf_err ez (by decide)
                rw [e1, e2, e3, ez]
                exact ⟨_, rfl, bw, ow⟩
              · have h162 : inB (w32 (whI l 4 4)) (-1000000000) 1000000000 = true := by simpa using h152
                refine wp_skip ?_
                refine n_then ?_
                refine wp_seq ?_
                refine wp_seq ?_
                refine wp_region_lit ?_
                refine s_one (.string ⟨(subU l 0 (l.length - 2)).toArray⟩) A151 S149 (g_move (by kernel_rfl)) rfl (fun ac A163 => ?_)
                refine s_one (.string ⟨(subU l 8 (l.length - 10)).toArray⟩) A163 S149 (g_slice (u := .string ⟨(subU l 0 (l.length - 2)).toArray⟩) (lo' := (some (.int .i64 8))) (hi' := none) (mx' := none) (by kernel_rfl) (by kernel_rfl) (by kernel_rfl) (by kernel_rfl) (sl_subL_n (l := l) (b := 0) (n := (l.length - 2)) (i := 8) (j := 8) (k := (l.length - 10)) Try.underlying9 (by omega) (by omega) (by omega) (by omega) (by omega))) rfl (fun ac A164 => ?_)
                refine s_bytesOf (l := subU l 8 (l.length - 10)) A164 S149 (by kernel_rfl) Try.underlying9 Try.underlying144 Try.underlying5 rfl (fun wz165 ad166 cap167 ac hc169 hz170 A168 hkx171 S172 => ?_)
                refine s_callSt (T := Nat × Nat) (fs := #[]) (cp := #[]) (r := [(0, .slice (some ad166) (subU l 8 (l.length - 10)).length cap167), (0, .int .i64 2)]) #[.slice (some ad166) (subU l 8 (l.length - 10)).length cap167, .int .i64 2] (fun u => .func (.func 108) #[] #[.pointer (some ⟨u.1, 0, none⟩), .pointer (some ⟨u.2, 0, none⟩)]) (fun u => [⟨u.2, 3, #[.int .i64 2], true⟩, ⟨u.1, 144, #[.slice (some ad166) (subU l 8 (l.length - 10)).length cap167], true⟩]) (fun u => []) A168 S172 (ChunkB_s (some ad166) ((subU l 8 (l.length - 10)).length) cap167 2 _ (by omega) (by omega)) (fun u x hx => by simp only [List.mem_cons, List.not_mem_nil, or_false] at hx; rcases hx with rfl | rfl <;> rfl) Try.call82 (by kernel_rfl) (by kernel_rfl) (by kernel_rfl) rfl (fun u178 ac wc A173 S174 => ?_)
                obtain ⟨gc176, gd177⟩ := u178
                replace S174 : St ⟨w0, wz165⟩ [⟨gd177, 3, #[.int .i64 2], true⟩, ⟨gc176, 144, #[.slice (some ad166) (subU l 8 (l.length - 10)).length cap167], true⟩, ⟨g142, 66, #[.int .i64 (w32 (whI l 4 4)), .int .i64 (nthU l 3 : Int), .slice none 0 0], true⟩, ⟨g6, 32, #[.int .i64 0], true⟩, ⟨g3, 66, #[.int .i64 0, .int .i64 0, .slice none 0 0], true⟩] [] _ := S174
                refine wpList_nil ?_
                refine n_then ?_
                refine wp_block ?_
                have hbl : (subU l 8 (l.length - 10)).length = 64 * (nthU l 3 * nthU l 3) * 2 := by rw [subU_length (by omega)]; omega
                have hcap := hc169
                have SF179 := St.first S174
                refine c_range (α := Nat) (gf := 108) (fs := #[]) (lb := #[.pointer (some ⟨gc176, 0, none⟩), .pointer (some ⟨gd177, 0, none⟩)]) (encs := fun x => #[.slice (some (ad166.add (x * 2))) 2 2]) (G := [⟨gc176, 144, #[.slice (some ad166) (subU l 8 (l.length - 10)).length cap167], true⟩, ⟨gd177, 3, #[.int .i64 2], true⟩]) (xs := List.range (64 * (nthU l 3 * nthU l 3))) A173 SF179 (by kernel_rfl) Try.call108 (List.forall_mem_cons.2 ⟨SF179.get 1 rfl, (List.forall_mem_cons.2 ⟨SF179.get 0 rfl, (List.forall_mem_nil _)⟩)⟩) (chunkB_seq gc176 gd177 true true ad166 (subU l 8 (l.length - 10)).length cap167 2 (64 * (nthU l 3 * nthU l 3)) (by decide) hbl hcap (by omega)) (fun _ => rfl) (fun x => [(72, .slice (some (ad166.add (x * 2))) 2 2)]) (fun _ => (by first | rfl | simp)) (fun _ => (List.forall_mem_cons.2 ⟨(show 72 < 92 by decide), (List.forall_mem_nil _)⟩)) (fun pre W => ∃ (v : Value), (BRd 5 W ad166 (subU l 8 (l.length - 10))) ∧ (∀ k, k < pre.length → inB (pfS l k) (-2047) 2047 = true) ∧ St w0 [⟨gd177, 3, #[.int .i64 2], true⟩, ⟨gc176, 144, #[.slice (some ad166) (subU l 8 (l.length - 10)).length cap167], true⟩, ⟨g142, 66, #[.int .i64 (w32 (whI l 4 4)), .int .i64 (nthU l 3 : Int), v], true⟩, ⟨g6, 32, #[.int .i64 0], true⟩, ⟨g3, 66, #[.int .i64 0, .int .i64 0, .slice none 0 0], true⟩] [⟨v, 36, 1, pre.length, (rowF (fw (pfL l pre.length)))⟩] W) (fun _ W => pfBad l = true ∧ St w0 [⟨g6, 32, #[.int .i64 2], true⟩, ⟨g3, 66, #[.int .i64 0, .int .i64 0, .slice none 0 0], true⟩] [] W) ?_ ?_ ?_ ?_ (fun x => [(8, .slice (some (ad166.add (x * 2))) 2 2), (72, .slice (some (ad166.add (x * 2))) 2 2), (0, .string ⟨l.toArray⟩), (2, .pointer (some ⟨g3, 0, none⟩)), (3, .pointer (some ⟨g6, 0, none⟩)), (17, .bool ((decide ((l.length : Int) < 8)) || (!(decide (subU l 0 2 = [67, 80]))))), (19, .string ⟨l.toArray⟩), (20, .int .u8 (nthU l 3 : Int)), (21, .int .i64 (nthU l 3 : Int)), (4, .int .i64 (nthU l 3 : Int)), (23, .string ⟨l.toArray⟩), (24, .int .u8 (nthU l 2 : Int)), (25, .bool (decide ((nthU l 2 : Int) ≠ 1))), (22, .bool (decide ((nthU l 2 : Int) ≠ 1))), (28, .int .i64 (nthU l 3 : Int)), (29, .bool (inB (nthU l 3 : Int) 1 16)), (30, .bool (!(inB (nthU l 3 : Int) 1 16))), (27, .bool (!(inB (nthU l 3 : Int) 1 16))), (33, .string ⟨l.toArray⟩), (34, .int .i64 (l.length : Int)), (35, .int .i64 (nthU l 3 : Int)), (36, .int .i64 ((10 + 128 * ((nthU l 3) * (nthU l 3)) : Nat) : Int)), (37, .bool (decide ((l.length : Int) ≠ ((10 + 128 * ((nthU l 3) * (nthU l 3)) : Nat) : Int)))), (32, .bool (decide ((l.length : Int) ≠ ((10 + 128 * ((nthU l 3) * (nthU l 3)) : Nat) : Int)))), (39, .string ⟨l.toArray⟩), (40, .string ⟨l.toArray⟩), (41, .int .i64 (l.length : Int)), (42, .int .i64 ((l.length : Int) - 2)), (43, .string ⟨(subU l 0 (l.length - 2)).toArray⟩), (44, .string ⟨l.toArray⟩), (45, .string ⟨l.toArray⟩), (46, .int .i64 (l.length : Int)), (47, .int .i64 ((l.length : Int) - 2)), (48, .string ⟨(subU l (l.length - 2) 2).toArray⟩), (5, .string ⟨(subU l 0 (l.length - 2)).toArray⟩), (6, .string ⟨(subU l (l.length - 2) 2).toArray⟩), (49, .string ⟨(subU l 0 (l.length - 2)).toArray⟩), (50, .int .i64 (ckU (subU l 0 (l.length - 2)) (subU l 0 (l.length - 2)).length)), (51, .string ⟨(subU l (l.length - 2) 2).toArray⟩), (52, .int .i64 (whI l (l.length - 2) 2)), (53, .bool (decide (ckU (subU l 0 (l.length - 2)) (subU l 0 (l.length - 2)).length ≠ whI l (l.length - 2) 2))), (55, .string ⟨(subU l 0 (l.length - 2)).toArray⟩), (56, .string ⟨(subU l 4 4).toArray⟩), (57, .int .i64 (whI l 4 4)), (58, .int .i32 (w32 (whI l 4 4))), (59, .int .i64 (w32 (whI l 4 4))), (60, .int .i64 (nthU l 3 : Int)), (61, .agg #[.int .i64 (nthU l 3 : Int), .slice none 0 0]), (62, .agg #[.int .i64 (w32 (whI l 4 4)), .int .i64 (nthU l 3 : Int), .slice none 0 0]), (7, .pointer (some ⟨g142, 0, none⟩)), (63, .pointer (some ⟨g142, 0, none⟩)), (64, .int .i64 (w32 (whI l 4 4))), (65, .bool (inB (w32 (whI l 4 4)) (-1000000000) 1000000000)), (66, .bool (!(inB (w32 (whI l 4 4)) (-1000000000) 1000000000))), (68, .string ⟨(subU l 0 (l.length - 2)).toArray⟩), (69, .string ⟨(subU l 8 (l.length - 10)).toArray⟩), (70, .slice (some ad166) (subU l 8 (l.length - 10)).length cap167), (71, .func (.func 108) #[] #[.pointer (some ⟨gc176, 0, none⟩), .pointer (some ⟨gd177, 0, none⟩)])]) ?_ ?_ ?_ ?_
                · rintro pre W W' row ⟨v, hB, hall, hS⟩ hg hr
                  exact ⟨v, (BRd.round hB hg (fun r e => (hr r e).2)), hall, St.round hS hg hr⟩
                · rintro pre W W' ⟨v, hB, hall, hS⟩ hb
                  exact ⟨v, (hB.below hb), hall, hS.kept hb⟩
                · rintro pre W W' row ⟨hb, hS⟩ hg hr
                  exact ⟨hb, St.round hS hg hr⟩
                · have S180 := SF179.nilRow 36 1
                  exact ⟨.slice none 0 0, BRd.keep hz170 (St.others S174), fun k hk => absurd hk (Nat.not_lt_zero k), (St.rerow 0 (St.recell 2 S180 rfl (by rfl)) rfl ⟨rfl, rfl⟩).sub sub_all sub_all⟩
                · intro lz x a' WA K HA HK
                  have SA := St.start WA
                  replace HA : Fr 92 a' [(72, .slice (some (ad166.add (x * 2))) 2 2), (0, .string ⟨l.toArray⟩), (2, .pointer (some ⟨g3, 0, none⟩)), (3, .pointer (some ⟨g6, 0, none⟩)), (17, .bool ((decide ((l.length : Int) < 8)) || (!(decide (subU l 0 2 = [67, 80]))))), (19, .string ⟨l.toArray⟩), (20, .int .u8 (nthU l 3 : Int)), (21, .int .i64 (nthU l 3 : Int)), (4, .int .i64 (nthU l 3 : Int)), (23, .string ⟨l.toArray⟩), (24, .int .u8 (nthU l 2 : Int)), (25, .bool (decide ((nthU l 2 : Int) ≠ 1))), (22, .bool (decide ((nthU l 2 : Int) ≠ 1))), (28, .int .i64 (nthU l 3 : Int)), (29, .bool (inB (nthU l 3 : Int) 1 16)), (30, .bool (!(inB (nthU l 3 : Int) 1 16))), (27, .bool (!(inB (nthU l 3 : Int) 1 16))), (33, .string ⟨l.toArray⟩), (34, .int .i64 (l.length : Int)), (35, .int .i64 (nthU l 3 : Int)), (36, .int .i64 ((10 + 128 * ((nthU l 3) * (nthU l 3)) : Nat) : Int)), (37, .bool (decide ((l.length : Int) ≠ ((10 + 128 * ((nthU l 3) * (nthU l 3)) : Nat) : Int)))), (32, .bool (decide ((l.length : Int) ≠ ((10 + 128 * ((nthU l 3) * (nthU l 3)) : Nat) : Int)))), (39, .string ⟨l.toArray⟩), (40, .string ⟨l.toArray⟩), (41, .int .i64 (l.length : Int)), (42, .int .i64 ((l.length : Int) - 2)), (43, .string ⟨(subU l 0 (l.length - 2)).toArray⟩), (44, .string ⟨l.toArray⟩), (45, .string ⟨l.toArray⟩), (46, .int .i64 (l.length : Int)), (47, .int .i64 ((l.length : Int) - 2)), (48, .string ⟨(subU l (l.length - 2) 2).toArray⟩), (5, .string ⟨(subU l 0 (l.length - 2)).toArray⟩), (6, .string ⟨(subU l (l.length - 2) 2).toArray⟩), (49, .string ⟨(subU l 0 (l.length - 2)).toArray⟩), (50, .int .i64 (ckU (subU l 0 (l.length - 2)) (subU l 0 (l.length - 2)).length)), (51, .string ⟨(subU l (l.length - 2) 2).toArray⟩), (52, .int .i64 (whI l (l.length - 2) 2)), (53, .bool (decide (ckU (subU l 0 (l.length - 2)) (subU l 0 (l.length - 2)).length ≠ whI l (l.length - 2) 2))), (55, .string ⟨(subU l 0 (l.length - 2)).toArray⟩), (56, .string ⟨(subU l 4 4).toArray⟩), (57, .int .i64 (whI l 4 4)), (58, .int .i32 (w32 (whI l 4 4))), (59, .int .i64 (w32 (whI l 4 4))), (60, .int .i64 (nthU l 3 : Int)), (61, .agg #[.int .i64 (nthU l 3 : Int), .slice none 0 0]), (62, .agg #[.int .i64 (w32 (whI l 4 4)), .int .i64 (nthU l 3 : Int), .slice none 0 0]), (7, .pointer (some ⟨g142, 0, none⟩)), (63, .pointer (some ⟨g142, 0, none⟩)), (64, .int .i64 (w32 (whI l 4 4))), (65, .bool (inB (w32 (whI l 4 4)) (-1000000000) 1000000000)), (66, .bool (!(inB (w32 (whI l 4 4)) (-1000000000) 1000000000))), (68, .string ⟨(subU l 0 (l.length - 2)).toArray⟩), (69, .string ⟨(subU l 8 (l.length - 10)).toArray⟩), (70, .slice (some ad166) (subU l 8 (l.length - 10)).length cap167), (71, .func (.func 108) #[] #[.pointer (some ⟨gc176, 0, none⟩), .pointer (some ⟨gd177, 0, none⟩)])] := (HA.slot (HA.slot (HA.slot (HA.slot (HA.slot (HA.slot (HA.slot (HA.slot (HA.slot (HA.slot (HA.slot (HA.slot (HA.slot (HA.slot (HA.slot (HA.slot (HA.slot (HA.slot (HA.slot (HA.slot (HA.slot (HA.slot (HA.slot (HA.slot (HA.slot (HA.slot (HA.slot (HA.slot (HA.slot (HA.slot (HA.slot (HA.slot (HA.slot (HA.slot (HA.slot (HA.slot (HA.slot (HA.slot (HA.slot (HA.slot (HA.slot (HA.slot (HA.slot (HA.slot (HA.slot (HA.slot (HA.slot (HA.slot (HA.slot (HA.slot (HA.slot (HA.slot (HA.slot (HA.slot (HA.slot (HA.slot (HA.slot HA.nil (v := .func (.func 108) #[] #[.pointer (some ⟨gc176, 0, none⟩), .pointer (some ⟨gd177, 0, none⟩)]) (by kernel_rfl) rfl) (v := .slice (some ad166) (subU l 8 (l.length - 10)).length cap167) (by kernel_rfl) rfl) (v := .string ⟨(subU l 8 (l.length - 10)).toArray⟩) (by kernel_rfl) rfl) (v := .string ⟨(subU l 0 (l.length - 2)).toArray⟩) (by kernel_rfl) rfl) (v := .bool (!(inB (w32 (whI l 4 4)) (-1000000000) 1000000000))) (by kernel_rfl) rfl) (v := .bool (inB (w32 (whI l 4 4)) (-1000000000) 1000000000)) (by kernel_rfl) rfl) (v := .int .i64 (w32 (whI l 4 4))) (by kernel_rfl) rfl) (v := .pointer (some ⟨g142, 0, none⟩)) (by kernel_rfl) rfl) (v := .pointer (some ⟨g142, 0, none⟩)) (by kernel_rfl) rfl) (v := .agg #[.int .i64 (w32 (whI l 4 4)), .int .i64 (nthU l 3 : Int), .slice none 0 0]) (by kernel_rfl) rfl) (v := .agg #[.int .i64 (nthU l 3 : Int), .slice none 0 0]) (by kernel_rfl) rfl) (v := .int .i64 (nthU l 3 : Int)) (by kernel_rfl) rfl) (v := .int .i64 (w32 (whI l 4 4))) (by kernel_rfl) rfl) (v := .int .i32 (w32 (whI l 4 4))) (by kernel_rfl) rfl) (v := .int .i64 (whI l 4 4)) (by kernel_rfl) rfl) (v := .string ⟨(subU l 4 4).toArray⟩) (by kernel_rfl) rfl) (v := .string ⟨(subU l 0 (l.length - 2)).toArray⟩) (by kernel_rfl) rfl) (v := .bool (decide (ckU (subU l 0 (l.length - 2)) (subU l 0 (l.length - 2)).length ≠ whI l (l.length - 2) 2))) (by kernel_rfl) rfl) (v := .int .i64 (whI l (l.length - 2) 2)) (by kernel_rfl) rfl) (v := .string ⟨(subU l (l.length - 2) 2).toArray⟩) (by kernel_rfl) rfl) (v := .int .i64 (ckU (subU l 0 (l.length - 2)) (subU l 0 (l.length - 2)).length)) (by kernel_rfl) rfl) (v := .string ⟨(subU l 0 (l.length - 2)).toArray⟩) (by kernel_rfl) rfl) (v := .string ⟨(subU l (l.length - 2) 2).toArray⟩) (by kernel_rfl) rfl) (v := .string ⟨(subU l 0 (l.length - 2)).toArray⟩) (by kernel_rfl) rfl) (v := .string ⟨(subU l (l.length - 2) 2).toArray⟩) (by kernel_rfl) rfl) (v := .int .i64 ((l.length : Int) - 2)) (by kernel_rfl) rfl) (v := .int .i64 (l.length : Int)) (by kernel_rfl) rfl) (v := .string ⟨l.toArray⟩) (by kernel_rfl) rfl) (v := .string ⟨l.toArray⟩) (by kernel_rfl) rfl) (v := .string ⟨(subU l 0 (l.length - 2)).toArray⟩) (by kernel_rfl) rfl) (v := .int .i64 ((l.length : Int) - 2)) (by kernel_rfl) rfl) (v := .int .i64 (l.length : Int)) (by kernel_rfl) rfl) (v := .string ⟨l.toArray⟩) (by kernel_rfl) rfl) (v := .string ⟨l.toArray⟩) (by kernel_rfl) rfl) (v := .bool (decide ((l.length : Int) ≠ ((10 + 128 * ((nthU l 3) * (nthU l 3)) : Nat) : Int)))) (by kernel_rfl) rfl) (v := .bool (decide ((l.length : Int) ≠ ((10 + 128 * ((nthU l 3) * (nthU l 3)) : Nat) : Int)))) (by kernel_rfl) rfl) (v := .int .i64 ((10 + 128 * ((nthU l 3) * (nthU l 3)) : Nat) : Int)) (by kernel_rfl) rfl) (v := .int .i64 (nthU l 3 : Int)) (by kernel_rfl) rfl) (v := .int .i64 (l.length : Int)) (by kernel_rfl) rfl) (v := .string ⟨l.toArray⟩) (by kernel_rfl) rfl) (v := .bool (!(inB (nthU l 3 : Int) 1 16))) (by kernel_rfl) rfl) (v := .bool (!(inB (nthU l 3 : Int) 1 16))) (by kernel_rfl) rfl) (v := .bool (inB (nthU l 3 : Int) 1 16)) (by kernel_rfl) rfl) (v := .int .i64 (nthU l 3 : Int)) (by kernel_rfl) rfl) (v := .bool (decide ((nthU l 2 : Int) ≠ 1))) (by kernel_rfl) rfl) (v := .bool (decide ((nthU l 2 : Int) ≠ 1))) (by kernel_rfl) rfl) (v := .int .u8 (nthU l 2 : Int)) (by kernel_rfl) rfl) (v := .string ⟨l.toArray⟩) (by kernel_rfl) rfl) (v := .int .i64 (nthU l 3 : Int)) (by kernel_rfl) rfl) (v := .int .i64 (nthU l 3 : Int)) (by kernel_rfl) rfl) (v := .int .u8 (nthU l 3 : Int)) (by kernel_rfl) rfl) (v := .string ⟨l.toArray⟩) (by kernel_rfl) rfl) (v := .bool ((decide ((l.length : Int) < 8)) || (!(decide (subU l 0 2 = [67, 80]))))) (by kernel_rfl) rfl) (v := .pointer (some ⟨g6, 0, none⟩)) (by kernel_rfl) rfl) (v := .pointer (some ⟨g3, 0, none⟩)) (by kernel_rfl) rfl) (v := .string ⟨l.toArray⟩) (by kernel_rfl) rfl) (v := .slice (some (ad166.add (x * 2))) 2 2) (by kernel_rfl) rfl)
                  refine i_region noOut_assign (by kernel_rfl) ?_
                  refine s_one (.slice (some (ad166.add (x * 2))) 2 2) HA SA (g_assign (by kernel_rfl)) rfl (fun ac A181 => ?_)
                  refine wpList_nil ?_
                  refine n_then ?_
                  exact HK _ (A181.slot (A181.slot (A181.slot (A181.slot (A181.slot (A181.slot (A181.slot (A181.slot (A181.slot (A181.slot (A181.slot (A181.slot (A181.slot (A181.slot (A181.slot (A181.slot (A181.slot (A181.slot (A181.slot (A181.slot (A181.slot (A181.slot (A181.slot (A181.slot (A181.slot (A181.slot (A181.slot (A181.slot (A181.slot (A181.slot (A181.slot (A181.slot (A181.slot (A181.slot (A181.slot (A181.slot (A181.slot (A181.slot (A181.slot (A181.slot (A181.slot (A181.slot (A181.slot (A181.slot (A181.slot (A181.slot (A181.slot (A181.slot (A181.slot (A181.slot (A181.slot (A181.slot (A181.slot (A181.slot (A181.slot (A181.slot (A181.slot (A181.slot A181.nil (v := .func (.func 108) #[] #[.pointer (some ⟨gc176, 0, none⟩), .pointer (some ⟨gd177, 0, none⟩)]) (by kernel_rfl) rfl) (v := .slice (some ad166) (subU l 8 (l.length - 10)).length cap167) (by kernel_rfl) rfl) (v := .string ⟨(subU l 8 (l.length - 10)).toArray⟩) (by kernel_rfl) rfl) (v := .string ⟨(subU l 0 (l.length - 2)).toArray⟩) (by kernel_rfl) rfl) (v := .bool (!(inB (w32 (whI l 4 4)) (-1000000000) 1000000000))) (by kernel_rfl) rfl) (v := .bool (inB (w32 (whI l 4 4)) (-1000000000) 1000000000)) (by kernel_rfl) rfl) (v := .int .i64 (w32 (whI l 4 4))) (by kernel_rfl) rfl) (v := .pointer (some ⟨g142, 0, none⟩)) (by kernel_rfl) rfl) (v := .pointer (some ⟨g142, 0, none⟩)) (by kernel_rfl) rfl) (v := .agg #[.int .i64 (w32 (whI l 4 4)), .int .i64 (nthU l 3 : Int), .slice none 0 0]) (by kernel_rfl) rfl) (v := .agg #[.int .i64 (nthU l 3 : Int), .slice none 0 0]) (by kernel_rfl) rfl) (v := .int .i64 (nthU l 3 : Int)) (by kernel_rfl) rfl) (v := .int .i64 (w32 (whI l 4 4))) (by kernel_rfl) rfl) (v := .int .i32 (w32 (whI l 4 4))) (by kernel_rfl) rfl) (v := .int .i64 (whI l 4 4)) (by kernel_rfl) rfl) (v := .string ⟨(subU l 4 4).toArray⟩) (by kernel_rfl) rfl) (v := .string ⟨(subU l 0 (l.length - 2)).toArray⟩) (by kernel_rfl) rfl) (v := .bool (decide (ckU (subU l 0 (l.length - 2)) (subU l 0 (l.length - 2)).length ≠ whI l (l.length - 2) 2))) (by kernel_rfl) rfl) (v := .int .i64 (whI l (l.length - 2) 2)) (by kernel_rfl) rfl) (v := .string ⟨(subU l (l.length - 2) 2).toArray⟩) (by kernel_rfl) rfl) (v := .int .i64 (ckU (subU l 0 (l.length - 2)) (subU l 0 (l.length - 2)).length)) (by kernel_rfl) rfl) (v := .string ⟨(subU l 0 (l.length - 2)).toArray⟩) (by kernel_rfl) rfl) (v := .string ⟨(subU l (l.length - 2) 2).toArray⟩) (by kernel_rfl) rfl) (v := .string ⟨(subU l 0 (l.length - 2)).toArray⟩) (by kernel_rfl) rfl) (v := .string ⟨(subU l (l.length - 2) 2).toArray⟩) (by kernel_rfl) rfl) (v := .int .i64 ((l.length : Int) - 2)) (by kernel_rfl) rfl) (v := .int .i64 (l.length : Int)) (by kernel_rfl) rfl) (v := .string ⟨l.toArray⟩) (by kernel_rfl) rfl) (v := .string ⟨l.toArray⟩) (by kernel_rfl) rfl) (v := .string ⟨(subU l 0 (l.length - 2)).toArray⟩) (by kernel_rfl) rfl) (v := .int .i64 ((l.length : Int) - 2)) (by kernel_rfl) rfl) (v := .int .i64 (l.length : Int)) (by kernel_rfl) rfl) (v := .string ⟨l.toArray⟩) (by kernel_rfl) rfl) (v := .string ⟨l.toArray⟩) (by kernel_rfl) rfl) (v := .bool (decide ((l.length : Int) ≠ ((10 + 128 * ((nthU l 3) * (nthU l 3)) : Nat) : Int)))) (by kernel_rfl) rfl) (v := .bool (decide ((l.length : Int) ≠ ((10 + 128 * ((nthU l 3) * (nthU l 3)) : Nat) : Int)))) (by kernel_rfl) rfl) (v := .int .i64 ((10 + 128 * ((nthU l 3) * (nthU l 3)) : Nat) : Int)) (by kernel_rfl) rfl) (v := .int .i64 (nthU l 3 : Int)) (by kernel_rfl) rfl) (v := .int .i64 (l.length : Int)) (by kernel_rfl) rfl) (v := .string ⟨l.toArray⟩) (by kernel_rfl) rfl) (v := .bool (!(inB (nthU l 3 : Int) 1 16))) (by kernel_rfl) rfl) (v := .bool (!(inB (nthU l 3 : Int) 1 16))) (by kernel_rfl) rfl) (v := .bool (inB (nthU l 3 : Int) 1 16)) (by kernel_rfl) rfl) (v := .int .i64 (nthU l 3 : Int)) (by kernel_rfl) rfl) (v := .bool (decide ((nthU l 2 : Int) ≠ 1))) (by kernel_rfl) rfl) (v := .bool (decide ((nthU l 2 : Int) ≠ 1))) (by kernel_rfl) rfl) (v := .int .u8 (nthU l 2 : Int)) (by kernel_rfl) rfl) (v := .string ⟨l.toArray⟩) (by kernel_rfl) rfl) (v := .int .i64 (nthU l 3 : Int)) (by kernel_rfl) rfl) (v := .int .i64 (nthU l 3 : Int)) (by kernel_rfl) rfl) (v := .int .u8 (nthU l 3 : Int)) (by kernel_rfl) rfl) (v := .string ⟨l.toArray⟩) (by kernel_rfl) rfl) (v := .bool ((decide ((l.length : Int) < 8)) || (!(decide (subU l 0 2 = [67, 80]))))) (by kernel_rfl) rfl) (v := .pointer (some ⟨g6, 0, none⟩)) (by kernel_rfl) rfl) (v := .pointer (some ⟨g3, 0, none⟩)) (by kernel_rfl) rfl) (v := .string ⟨l.toArray⟩) (by kernel_rfl) rfl) (v := .slice (some (ad166.add (x * 2))) 2 2) (by kernel_rfl) rfl) (v := .slice (some (ad166.add (x * 2))) 2 2) (by kernel_rfl) rfl)
                · rintro lz pre x rest a' WB182 hx ⟨v, hB, hall, hS⟩ HA
                  have SB183 := St.begin hS
                  obtain ⟨rfl, hpre, hlt⟩ := range_next hx
                  refine wpIn_block ?_
                  refine wpIn_seq ?_
                  refine i_region (noOut_then (noOut_block noOut_body)) (by kernel_rfl) ?_
                  refine s_one (.slice (some (ad166.add (pre.length * 2))) 2 2) HA SB183 (g_move (by kernel_rfl)) rfl (fun ac A184 => ?_)
                  refine s_one (.string ⟨(subU (subU l 8 (l.length - 10)) (pre.length * 2) 2).toArray⟩) A184 SB183 (g_strOf (ad := ad166) (l := subU l 8 (l.length - 10)) (i := pre.length * 2) (k := 2) (c := 2) (by kernel_rfl) hB (by omega) Try.underlying144 Try.underlying5 Try.underlying9) rfl (fun ac A185 => ?_)
                  refine s_call (fs := #[]) (cp := #[]) (r := [(0, .string ⟨(subU (subU l 8 (l.length - 10)) (pre.length * 2) 2).toArray⟩)]) #[.string ⟨(subU (subU l 8 (l.length - 10)) (pre.length * 2) 2).toArray⟩] (.int .i64 (whI (subU l 8 (l.length - 10)) (pre.length * 2) 2)) A185 SB183 (whole_at (subU l 8 (l.length - 10)) (pre.length * 2) 2 _ (by omega) (by omega)) Try.call80 (by kernel_rfl) (by kernel_rfl) (by kernel_rfl) rfl (fun ac wc A186 S187 => ?_)
                  refine s_one (.int .i16 (w16 (whI (subU l 8 (l.length - 10)) (pre.length * 2) 2))) A186 S187 (g_conv (u := .int .i64 (whI (subU l 8 (l.length - 10)) (pre.length * 2) 2)) (by kernel_rfl) (fun _ => by kernel_rfl)) rfl (fun ac A189 => ?_)
                  refine s_one (.int .i64 (w16 (whI (subU l 8 (l.length - 10)) (pre.length * 2) 2))) A189 S187 (g_conv (u := .int .i16 (w16 (whI (subU l 8 (l.length - 10)) (pre.length * 2) 2))) (by kernel_rfl) (conv_w16 Try.underlying145 Try.underlying3)) rfl (fun ac A190 => ?_)
                  refine s_one (.int .i64 (w16 (whI (subU l 8 (l.length - 10)) (pre.length * 2) 2))) A190 S187 (g_assign (by kernel_rfl)) rfl (fun ac A191 => ?_)
                  refine wpList_nil ?_
                  refine n_then ?_
                  refine wpIn_seq ?_
                  refine wpIn_seq ?_
                  refine i_region (noOut_then (noOut_then (noOut_block noOut_body))) (by kernel_rfl) ?_
                  refine s_one (.int .i64 (w16 (whI (subU l 8 (l.length - 10)) (pre.length * 2) 2))) A191 S187 (g_move (by kernel_rfl)) rfl (fun ac A192 => ?_)
                  refine s_call (fs := #[]) (cp := #[]) (r := [(0, .int .i64 (w16 (whI (subU l 8 (l.length - 10)) (pre.length * 2) 2))), (0, .int .i64 2047)]) #[.int .i64 (w16 (whI (subU l 8 (l.length - 10)) (pre.length * 2) 2)), .int .i64 2047] (.bool (inB (w16 (whI (subU l 8 (l.length - 10)) (pre.length * 2) 2)) (-2047) 2047)) A192 S187 (small_s (w16 (whI (subU l 8 (l.length - 10)) (pre.length * 2) 2)) 2047 _ (by omega) (by omega)) Try.call81 (by kernel_rfl) (by kernel_rfl) (by kernel_rfl) rfl (fun ac wc A193 S194 => ?_)
                  refine s_one (.bool (!(inB (w16 (whI (subU l 8 (l.length - 10)) (pre.length * 2) 2)) (-2047) 2047))) A193 S194 (g_un (u := .bool (inB (w16 (whI (subU l 8 (l.length - 10)) (pre.length * 2) 2)) (-2047) 2047)) (by kernel_rfl) (fun _ => by kernel_rfl)) rfl (fun ac A196 => ?_)
                  refine wpList_nil ?_
                  refine n_then ?_
                  refine i_ifb (b := (!(inB (w16 (whI (subU l 8 (l.length - 10)) (pre.length * 2) 2)) (-2047) 2047))) A196 (by kernel_rfl) (fun h197 => ?_) (fun h197 => ?_)
                  · have h198 : inB (w16 (whI (subU l 8 (l.length - 10)) (pre.length * 2) 2)) (-2047) 2047 = false := by simpa using h197
                    refine wpIn_seq ?_
                    refine i_region (noOut_then (noOut_then (noOut_block noOut_body))) (by kernel_rfl) ?_
                    refine s_one (.agg #[.int .i64 0, .int .i64 0, .slice none 0 0]) A196 S194 (g_build (r := []) (by kernel_rfl) (fun _ => by kernel_rfl)) rfl (fun ac A199 => ?_)
                    refine s_store (g := g3) (off := 0) (v := .agg #[.int .i64 0, .int .i64 0, .slice none 0 0]) 4 (#[.int .i64 0, .int .i64 0, .slice none 0 0]) A199 S194 (by kernel_rfl) (by kernel_rfl) rfl (by kernel_rfl) (fun wc S201 => ?_)
                    refine s_store (g := g6) (off := 0) (v := .int .i64 2) 3 (#[.int .i64 2]) A199 S201 (by kernel_rfl) (by kernel_rfl) rfl (by kernel_rfl) (fun wc S204 => ?_)
                    refine wpList_nil ?_
                    refine n_then ?_
                    refine wpIn_ret ?_
                    refine r_then ?_
                    refine r_block ?_
                    refine r_stop (w0 := w0) S204 (fun SE => ⟨pfBad_y (k := pre.length) (by omega) h198, SE.sub (sub_skip (sub_skip (sub_skip sub_all))) sub_nil⟩)
                  · have h206 : inB (w16 (whI (subU l 8 (l.length - 10)) (pre.length * 2) 2)) (-2047) 2047 = true := by simpa using h197
                    refine wpIn_skip ?_
                    refine n_then ?_
                    refine i_region (noOut_block noOut_body) (by kernel_rfl) ?_
                    refine s_one (.pointer (some ⟨g142, 1, none⟩)) A196 S194 (g_field (u := .pointer (some ⟨g142, 0, none⟩)) (by kernel_rfl) (fun _ => by kernel_rfl)) rfl (fun ac A207 => ?_)
                    refine s_one (.pointer (some ⟨g142, 2, none⟩)) A207 S194 (g_field (u := .pointer (some ⟨g142, 1, none⟩)) (by kernel_rfl) (fun _ => by kernel_rfl)) rfl (fun ac A208 => ?_)
                    refine s_one (v) A208 S194 (g_load (g := g142) (off := 2) 2 (by kernel_rfl) rfl (by kernel_rfl)) rfl (fun ac A209 => ?_)
                    refine s_one (.int .i64 (w16 (whI (subU l 8 (l.length - 10)) (pre.length * 2) 2))) A209 S194 (g_move (by kernel_rfl)) rfl (fun ac A210 => ?_)
                    refine s_one (.float .f32 (floatOfInt .f32 (w16 (whI (subU l 8 (l.length - 10)) (pre.length * 2) 2)))) A210 S194 (g_conv (u := .int .i64 (w16 (whI (subU l 8 (l.length - 10)) (pre.length * 2) 2))) (by kernel_rfl) (fun _ => by kernel_rfl)) rfl (fun ac A211 => ?_)
                    refine s_bs (e := 36) (r := [(0, .float .f32 (floatOfInt .f32 (w16 (whI (subU l 8 (l.length - 10)) (pre.length * 2) 2))))]) (#[.float .f32 (floatOfInt .f32 (w16 (whI (subU l 8 (l.length - 10)) (pre.length * 2) 2)))]) A211 S194 (by kernel_rfl) (by kernel_rfl) rfl (fun g214 ac wc A212 S213 => ?_)
                    refine s_append (e := 36) (size := 1) (bytes := 4) (v := v) (g := g214) (m' := 1) (c := 1) 0 0 [.float .f32 (floatOfInt .f32 (w16 (whI (subU l 8 (l.length - 10)) (pre.length * 2) 2)))] A212 S213 (by kernel_rfl) (by kernel_rfl) (by kernel_rfl) rfl rfl (by kernel_rfl) rfl (by kernel_rfl) (by omega) (by omega) rfl (fun v218 ac wc A215 S216 => ?_)
                    refine s_one (.pointer (some ⟨g142, 1, none⟩)) A215 S216 (g_field (u := .pointer (some ⟨g142, 0, none⟩)) (by kernel_rfl) (fun _ => by kernel_rfl)) rfl (fun ac A219 => ?_)
                    refine s_one (.pointer (some ⟨g142, 2, none⟩)) A219 S216 (g_field (u := .pointer (some ⟨g142, 1, none⟩)) (by kernel_rfl) (fun _ => by kernel_rfl)) rfl (fun ac A220 => ?_)
                    obtain ⟨A221, cap222, rfl⟩ := row_slice (v := v218) (m := pre.length + 1) (S216.row 0 rfl)
                    refine s_store (g := g142) (off := 2) (v := .slice A221 (pre.length + 1) cap222) 3 (#[.int .i64 (w32 (whI l 4 4)), .int .i64 (nthU l 3 : Int), .slice A221 (pre.length + 1) cap222]) A220 S216 (by kernel_rfl) (by kernel_rfl) rfl (by kernel_rfl) (fun wc S224 => ?_)
                    refine wpList_nil ?_
                    refine n_block ?_
                    refine r_end (w0 := w0) S224 (KpG.cons (S224.get 2 rfl) (KpG.cons (S224.get 1 rfl) KpG.nil)) (fun SE => ?_)
                    exact ⟨.slice A221 (pre.length + 1) cap222, BRd.keep hB (St.others S224), all_snoc hall h206, (St.rerow 0 (St.recell 3 SE rfl (by rfl)) rfl ⟨by simp, pf_snoc2 l (by simp)⟩).sub (sub_skip sub_all) sub_all⟩
                · rintro D226 a' WD227 hD228 ⟨v, hB, hall, hS⟩ hK229 HA230
                  have SD231 := St.begin hS
                  have SR : St ⟨w0, WD227⟩ [⟨gd177, 3, #[.int .i64 2], true⟩, ⟨gc176, 144, #[.slice (some ad166) (subU l 8 (l.length - 10)).length cap167], true⟩, ⟨g142, 66, #[.int .i64 (w32 (whI l 4 4)), .int .i64 (nthU l 3 : Int), v], true⟩, ⟨g6, 32, #[.int .i64 0], true⟩, ⟨g3, 66, #[.int .i64 0, .int .i64 0, .slice none 0 0], true⟩] [⟨v, 36, 1, (64 * (nthU l 3 * nthU l 3)), (rowF (fw (pfL l (64 * (nthU l 3 * nthU l 3)))))⟩] _ := St.rerow 0 SD231 rfl ⟨List.length_range, by rw [List.length_range]⟩
                  have hbn : pfBad l = false := pfBad_n (by simpa using hall)
                  refine n_block ?_
                  refine n_then ?_
                  refine wp_seq ?_
                  refine wp_region_lit ?_
                  refine s_one (.agg #[.int .i64 (w32 (whI l 4 4)), .int .i64 (nthU l 3 : Int), v]) HA230 SR (g_load (g := g142) (off := 0) 2 (by kernel_rfl) rfl (by kernel_rfl)) rfl (fun ac A232 => ?_)
                  obtain ⟨A233, cap234, rfl⟩ := row_slice (v := v) (m := (64 * (nthU l 3 * nthU l 3))) (SR.row 0 rfl)
                  refine s_store (g := g3) (off := 0) (v := .agg #[.int .i64 (w32 (whI l 4 4)), .int .i64 (nthU l 3 : Int), .slice A233 (64 * (nthU l 3 * nthU l 3)) cap234]) 4 (#[.int .i64 (w32 (whI l 4 4)), .int .i64 (nthU l 3 : Int), .slice A233 (64 * (nthU l 3 * nthU l 3)) cap234]) A232 SR (by kernel_rfl) (by kernel_rfl) rfl (by kernel_rfl) (fun wc S236 => ?_)
                  refine s_store (g := g6) (off := 0) (v := .int .i64 0) 3 (#[.int .i64 0]) A232 S236 (by kernel_rfl) (by kernel_rfl) rfl (by kernel_rfl) (fun wc S239 => ?_)
                  refine wpList_nil ?_
                  refine n_then ?_
                  refine wp_ret ?_
                  refine m_ret (w0 := w0) A232 S239 hK229 hD228 (fun ac wc A241 S242 => ?_)
                  refine fin2 (.agg #[.int .i64 (w32 (whI l 4 4)), .int .i64 (nthU l 3 : Int), .slice A233 (64 * (nthU l 3 * nthU l 3)) cap234]) (.int .i64 0) Try.results31 A241 S242 (rv_cell (g := g3) (off := 0) 4 (by kernel_rfl) rfl (by kernel_rfl)) (rv_cell (g := g6) (off := 0) 3 (by kernel_rfl) rfl (by kernel_rfl)) ?_
                  have bw := S242.kp
                  have ow := S242.row 0 rfl
                  have ez := pfZ_7 (l := l) (by omega) p39 (by omega) h75 (by omega) (by omega) h162
                  rw [hbn, if_neg (by decide)] at ez
                  obtain ⟨e1, e2, e3⟩ := pf_ok ez
                  rw [e1, e2, e3, ez, fw_length, pfL_length]
                  exact ⟨_, rfl, bw, ow⟩
                · rintro D pre a' WD hD ⟨hbad, hS⟩ hK HA
                  have SD := St.begin hS
                  refine r_block ?_
                  refine r_then ?_
                  refine m_ret (w0 := w0) HA SD hK hD (fun ac wc A243 S244 => ?_)
                  have S245 := S244.nilRow 36 1
                  refine fin2 (.agg #[.int .i64 0, .int .i64 0, .slice none 0 0]) (.int .i64 2) Try.results31 A243 S245 (rv_cell (g := g3) (off := 0) 1 (by kernel_rfl) rfl (by kernel_rfl)) (rv_cell (g := g6) (off := 0) 0 (by kernel_rfl) rfl (by kernel_rfl)) ?_
                  have bw := S245.kp
                  have ow := S245.row 0 rfl
                  have ez := pfZ_7 (l := l) (by omega) p39 (by omega) h75 (by omega) (by omega) h162
                  rw [hbad, if_pos rfl] at ez
                  obtain ⟨e1, e2, e3⟩ := pf_err ez (by decide)
                  rw [e1, e2, e3, ez]
                  exact ⟨_, rfl, bw, ow⟩

end Go.Proofs.Ytcijkniijomcjaa
/-! Frames: what the reference does with bytes. -/
namespace Go.Proofs.Ytcijkniijomcjaa
open Go.RowKit Go.Cpl
/-- A number's bytes, the greatest ones first. -/
def dvU (c : Int) : Nat → Int
  | 0 => c
  | k + 1 => dvU c k / 256
def byU (c : Int) : Nat → Bs
  | 0 => []
  | k + 1 => ([UInt8.ofNat (dvU c k % 256).toNat] : List UInt8) ++ byU c k
theorem dvU_bd {c : Int} (h : -1000000000000 ≤ c ∧ c ≤ 1000000000000) (k : Nat) : -1000000000000 ≤ dvU c k ∧ dvU c k ≤ 1000000000000 := by
  induction k with
  | zero => exact h
  | succ k ih => simp only [dvU]; omega
theorem byU_length (c : Int) (k : Nat) : (byU c k).length = k := by
  induction k with
  | zero => rfl
  | succ k ih => simp only [byU, List.length_append, List.length_cons, List.length_nil, ih]; omega
theorem nthU_one {y : Int} (h : 0 ≤ y ∧ y < 256) : ((UInt8.ofNat y.toNat).toNat : Int) = y := by
  rw [UInt8.toNat_ofNat', Nat.mod_eq_of_lt (by omega)]; omega
theorem two_eq {l : Bs} (h : l.length = 2) : l = [UInt8.ofNat (nthU l 0), UInt8.ofNat (nthU l 1)] := by
  match l, h with
  | [a, b], _ => simp [nthU]
theorem byU_nth {c : Int} (h : 0 ≤ c ∧ c < 65536) : (nthU (byU c 2) 0 : Int) = c / 256 ∧ (nthU (byU c 2) 1 : Int) = c % 256 := by
  have h0 : nthU (byU c 2) 0 = (UInt8.ofNat (dvU c 1 % 256).toNat).toNat := rfl
  have h1 : nthU (byU c 2) 1 = (UInt8.ofNat (dvU c 0 % 256).toNat).toNat := rfl
  have e0 := nthU_one (y := dvU c 1 % 256) (by omega)
  have e1 := nthU_one (y := dvU c 0 % 256) (by omega)
  rw [h0, h1, e0, e1]
  have d0 : dvU c 0 = c := rfl
  have d1 : dvU c 1 = c / 256 := rfl
  rw [d0, d1]
  omega
/-- The bytes of a number are some bytes, just if it is their number. -/
theorem byU_two {c : Int} {l : Bs} {i : Nat} (h : 0 ≤ c ∧ c < 65536) (hl : i + 2 ≤ l.length) : byU c 2 = subU l i 2 ↔ c = whI l i 2 := by
  have hb := byU_nth h
  have e : whI l i 2 = (nthU l i : Int) * 256 + (nthU l (i + 1) : Int) := by simp [whI]
  have hs0 : nthU (subU l i 2) 0 = nthU l i := subU_nth (by omega)
  have hs1 : nthU (subU l i 2) 1 = nthU l (i + 1) := subU_nth (by omega)
  have l0 := nthU_lt l i
  have l1 := nthU_lt l (i + 1)
  rw [e]
  constructor
  · intro q
    rw [q] at hb
    rw [hs0, hs1] at hb
    omega
  · intro q
    rw [two_eq (byU_length c 2), two_eq (subU_length hl), hs0, hs1, show nthU (byU c 2) 0 = nthU l i by omega, show nthU (byU c 2) 1 = nthU l (i + 1) by omega]
/-- A number, below 0 or not. -/
def nmI (x W : Int) : Int := if 2 * x ≥ W then x - W else x
theorem nmI_y {x W : Int} (h : 2 * x ≥ W) : nmI x W = x - W := if_pos h
theorem nmI_n {x W : Int} (h : ¬ 2 * x ≥ W) : nmI x W = x := if_neg h
theorem nmI_2 (l : Bs) (i : Nat) : nmI (whI l i 2) ((256 : Int) ^ 2) = w16 (whI l i 2) := by
  have h := whI_range l i 2 (by omega)
  rw [w16_eq ⟨h.1, by have : (256 : Int) ^ 2 = 65536 := rfl; omega⟩]; rfl
theorem nmI_4 (l : Bs) (i : Nat) : nmI (whI l i 4) ((256 : Int) ^ 4) = w32 (whI l i 4) := by
  have h := whI_range l i 4 (by omega)
  rw [w32_eq ⟨h.1, by have : (256 : Int) ^ 4 = 4294967296 := rfl; omega⟩]; rfl
theorem pw_bd (k : Nat) (h : k ≤ 4) : 1 ≤ (256 : Int) ^ k ∧ (256 : Int) ^ k ≤ 4294967296 := by
  rcases (by omega : k = 0 ∨ k = 1 ∨ k = 2 ∨ k = 3 ∨ k = 4) with rfl | rfl | rfl | rfl | rfl <;> decide
/-- The letters in front. -/
theorem pre_two {l : Bs} (h : 8 ≤ l.length) : subU l 0 2 = [67, 80] ↔ ((nthU l 0 : Int) = 67 ∧ (nthU l 1 : Int) = 80) := by
  have hs0 : nthU (subU l 0 2) 0 = nthU l 0 := by rw [subU_nth (by omega)]
  have hs1 : nthU (subU l 0 2) 1 = nthU l 1 := by rw [subU_nth (by omega)]
  constructor
  · intro q
    rw [q] at hs0 hs1
    rw [← hs0, ← hs1]
    exact ⟨rfl, rfl⟩
  · intro q
    rw [two_eq (subU_length (by omega)), hs0, hs1, show nthU l 0 = 67 by omega, show nthU l 1 = 80 by omega]
    rfl
/-- The error of a frame. -/
def frE (p el : Int) (xs : List Nat) : Int := if inB p (-1000000000) 1000000000 = true then (mxC el xs).2 else 2
theorem frE_n {p el : Int} {xs : List Nat} (h : inB p (-1000000000) 1000000000 = false) : frE p el xs = 2 := if_neg (by rw [h]; decide)
theorem frE_y {p el : Int} {xs : List Nat} (h : inB p (-1000000000) 1000000000 = true) : frE p el xs = (mxC el xs).2 := if_pos h
theorem firstErr_any {l : List Int} (h : ∀ x ∈ l, x.natAbs < 16777216) : ∀ k, (firstErr (fw l) k).2 = if (l.any fun x => !inB x (-2047) 2047) = true then 2 else 0 := by
  induction l with
  | nil => intro k; rfl
  | cons x l ih =>
    intro k
    have hx := sErr_of x (h x (List.mem_cons_self ..))
    have hi := ih (fun y hy => h y (List.mem_cons_of_mem _ hy)) (k + 1)
    show (if sErr (floatOfInt .f32 x) = 0 then firstErr (fw l) (k + 1) else (k, sErr (floatOfInt .f32 x))).2 = _
    rw [hx, List.any_cons]
    by_cases q : -2047 ≤ x ∧ x ≤ 2047
    · rw [if_pos q, if_pos rfl, hi, inB_true.2 q]; rfl
    · have e : inB x (-2047) 2047 = false := by
        cases z : inB x (-2047) 2047 with
        | false => rfl
        | true => exact absurd (inB_true.1 z) q
      rw [if_neg q, if_neg (by decide), e]; rfl
theorem pfL_small (l : Bs) (n : Nat) : ∀ x ∈ pfL l n, x.natAbs < 16777216 := by
  intro x hx
  obtain ⟨k, _, rfl⟩ := List.mem_map.1 hx
  have := w16_range (whI (subU l 8 (l.length - 10)) (k * 2) 2)
  unfold pfS; omega
theorem pfBad_err (l : Bs) : (firstErr (fw (pfL l (64 * (nthU l 3 * nthU l 3)))) 0).2 = if pfBad l = true then 2 else 0 := by
  rw [firstErr_any (pfL_small _ _), pfL, List.any_map]; rfl
/-- A frame that is made of right bytes. -/
theorem pfZ_ref {l : Bs} (h1 : 8 ≤ l.length) (h2 : subU l 0 2 = [67, 80]) (h3 : (nthU l 2 : Int) = 1) (h4 : inB (nthU l 3 : Int) 1 16 = true) (h5 : l.length = 10 + 128 * (nthU l 3 * nthU l 3)) (h6 : ckU (subU l 0 (l.length - 2)) (subU l 0 (l.length - 2)).length = whI l (l.length - 2) 2) : pfZ l = frE (w32 (whI l 4 4)) (nthU l 3 : Int) (fw (pfL l (64 * (nthU l 3 * nthU l 3)))) := by
  cases h7 : inB (w32 (whI l 4 4)) (-1000000000) 1000000000 with
  | false => rw [pfZ_6 h1 h2 h3 h4 h5 h6 h7, frE_n h7]
  | true =>
    rw [pfZ_7 h1 h2 h3 h4 h5 h6 h7, frE_y h7, mxC_y h4 ?_, pfBad_err]
    rw [fw_length, pfL_length]
    have e : ((nthU l 3 * nthU l 3 : Nat) : Int) = (nthU l 3 : Int) * (nthU l 3 : Int) := Int.natCast_mul _ _
    rw [← e]; omega
section
variable {P : Program} {ops : Array Oper} {Q : Exit → Act → World → Prop} {n : Sz} {a : Act} {w0 : Base} {w : World} {F : Fm} {L Ls : List Bk} {M Ms : List Rw} {rest : List Oper}
theorem g_strOf1 {src dst e t : TypeId} {x : Operand} {g : Nat} {o : Bool} {y : Int} (j : Nat) (hx : evO F x = some (.slice (some ⟨g, 0, none⟩) 1 1)) (hj : L[j]? = some ⟨g, t, #[.int .u8 y], o⟩) (hy : 0 ≤ y ∧ y < 256) (hs : P.underlying src = some (.slice e)) (he : P.underlying e = some (.int .u8)) (hd : P.underlying dst = some .string) : Gives P F w0 L M (.convert src dst x) (.string ⟨([UInt8.ofNat y.toNat] : List UInt8).toArray⟩) := fun _ _ w hA hS _ _ _ _ _ => by
  have hb := hS.get j hj
  have := run_convert_bytes_back (P := P) w src dst e ⟨g, 0, none⟩ 1 [UInt8.ofNat y.toNat] hs he hd (fun k hk => by
    obtain rfl : k = 0 := by simpa using hk
    refine (cells_of_blk (m := 1) hb 0 (.int .u8 y) (by simp)).trans ?_
    simp only [List.getElem_cons_zero, nthU_one hy])
  simp only [List.length_cons, List.length_nil] at this
  simp [execOp, hA.ev hx, this]
theorem conv_to8 {t t' : TypeId} {x : Int} (h : P.underlying t = some (.int .i64)) (h' : P.underlying t' = some (.int .u8)) (w : World) : (convert t t' (.int .i64 (x % 256))).run P w = .ok (.int .u8 (x % 256)) w := by
  have e : (convert t t' (.int .i64 (x % 256))).run P w = .ok (.int .u8 (IntKind.u8.wrap (x % 256))) w := by simp [convert, run_underlying h, run_underlying h', Conv.intToInt]
  rw [e]
  have : IntKind.u8.wrap (x % 256) = x % 256 := by simp [IntKind.wrap, IntKind.bits, IntKind.signed]
  rw [this]
end
end Go.Proofs.Ytcijkniijomcjaa
/- The reference's bytes and numbers. -/
namespace Go.Proofs.Ytcijkniijomcjaa
open Go.RowKit Go.Cpl

set_option maxRecDepth 100000 in
set_option maxHeartbeats 400000 in
theorem bytes_s (c : Int) (m : Nat) (w0 : World) (hc : -1000000000000 ≤ c ∧ c ≤ 1000000000000) (hm : m ≤ 8) :
    Calls Try.prog 83 #[.int .i64 c, .int .i64 (m : Int)] w0 fun e w' => e = .returned (.string ⟨(byU c m).toArray⟩) ∧ Below w0.heap.size w0 w' := by
  have S0 := St.start w0
  refine enter (n := 22) Try.func83 rfl rfl rfl (fun ac A0 => ?_)
  refine wp_seq ?_
  refine wp_region_lit ?_
  refine s_one (.string ⟨([] : List UInt8).toArray⟩) A0 S0 (g_assign (by kernel_rfl)) rfl (fun ac A1 => ?_)
  refine wpList_nil ?_
  refine n_then ?_
  refine wp_seq ?_
  refine wp_region_lit ?_
  refine s_one (.string ⟨([] : List UInt8).toArray⟩) A1 S0 (g_assign (by kernel_rfl)) rfl (fun ac A2 => ?_)
  refine wpList_nil ?_
  refine n_then ?_
  refine wp_seq ?_
  refine wp_seq ?_
  refine wp_region_lit ?_
  refine s_one (.int .i64 0) A2 S0 (g_assign (by kernel_rfl)) rfl (fun ac A3 => ?_)
  refine wpList_nil ?_
  refine n_then ?_
  refine wp_block ?_
  refine c_loopN (fun mm ac wc => ∃ (k : Nat), mm = m - k ∧ (k ≤ m) ∧ Fr 22 ac [(1, .int .i64 (m : Int)), (4, .string ⟨([] : List UInt8).toArray⟩), (0, .int .i64 (dvU c k)), (5, .string ⟨(byU c k).toArray⟩), (6, .int .i64 (k : Int))] ∧ St w0 [] [] wc) _ ⟨0, rfl, Nat.zero_le _, (A3.slot (A3.slot (A3.slot (A3.slot (A3.slot A3.nil (v := .int .i64 0) (by kernel_rfl) (congrArg (Value.int .i64) (by omega))) (v := .string ⟨([] : List UInt8).toArray⟩) (by kernel_rfl) rfl) (v := .int .i64 c) (by kernel_rfl) rfl) (v := .string ⟨([] : List UInt8).toArray⟩) (by kernel_rfl) rfl) (v := .int .i64 (m : Int)) (by kernel_rfl) rfl), S0.sub sub_all sub_all⟩ ?_
  rintro mm ac wc ⟨k, hm6, hk, A4, S5⟩
  have hd := dvU_bd hc k
  have hl := byU_length c k
  refine wp_seq ?_
  refine wp_seq ?_
  refine wp_region_lit ?_
  refine s_one (.int .i64 (k : Int)) A4 S5 (g_move (by kernel_rfl)) rfl (fun ac A7 => ?_)
  refine s_one (.int .i64 (m : Int)) A7 S5 (g_move (by kernel_rfl)) rfl (fun ac A8 => ?_)
  refine s_one (.bool (decide ((k : Int) < (m : Int)))) A8 S5 (g_bin (u := .int .i64 (k : Int)) (k := .int .i64 (m : Int)) (by kernel_rfl) (by kernel_rfl) (fun _ => by kernel_rfl) (fun _ => by kernel_rfl)) rfl (fun ac A9 => ?_)
  refine wpList_nil ?_
  refine n_then ?_
  refine c_ifb (b := (decide ((k : Int) < (m : Int)))) A9 (by kernel_rfl) (fun h10 => ?_) (fun h10 => ?_)
  · have p11 := of_decide_eq_true h10
    refine wp_skip ?_
    refine n_then ?_
    refine wp_seq ?_
    refine wp_block ?_
    refine wp_seq ?_
    refine wp_region_lit ?_
    refine s_one (.int .i64 (dvU c k)) A9 S5 (g_move (by kernel_rfl)) rfl (fun ac A12 => ?_)
    have q16 := Int.emod_nonneg (dvU c k) (b := 256) (by omega)
    have q17 := Int.emod_lt_of_pos (dvU c k) (b := 256) (by omega)
    refine s_call (fs := #[]) (cp := #[]) (r := [(0, .int .i64 (dvU c k)), (0, .int .i64 256)]) #[.int .i64 (dvU c k), .int .i64 256] (.int .i64 ((dvU c k) % 256)) A12 S5 (sameB (Mod_any (dvU c k) 256 _ (by omega) (by omega))) Try.call49 (by kernel_rfl) (by kernel_rfl) (by kernel_rfl) rfl (fun ac wc A13 S14 => ?_)
    refine s_one (.int .u8 ((dvU c k) % 256)) A13 S14 (g_conv (u := .int .i64 ((dvU c k) % 256)) (by kernel_rfl) (conv_to8 Try.underlying3 Try.underlying5)) rfl (fun ac A18 => ?_)
    refine s_bs (e := 5) (r := [(0, .int .u8 ((dvU c k) % 256))]) (#[.int .u8 ((dvU c k) % 256)]) A18 S14 (by kernel_rfl) (by kernel_rfl) rfl (fun g21 ac wc A19 S20 => ?_)
    refine s_one (.string ⟨([UInt8.ofNat ((dvU c k) % 256).toNat] : List UInt8).toArray⟩) A19 S20 (g_strOf1 (t := 5) (o := true) (y := (dvU c k) % 256) 0 (by kernel_rfl) rfl (by omega) Try.underlying144 Try.underlying5 Try.underlying9) rfl (fun ac A22 => ?_)
    refine s_one (.string ⟨(byU c k).toArray⟩) A22 S20 (g_move (by kernel_rfl)) rfl (fun ac A23 => ?_)
    refine s_one (.string ⟨(([UInt8.ofNat ((dvU c k) % 256).toNat] : List UInt8) ++ byU c k).toArray⟩) A23 S20 (g_bin (u := .string ⟨([UInt8.ofNat ((dvU c k) % 256).toNat] : List UInt8).toArray⟩) (k := .string ⟨(byU c k).toArray⟩) (by kernel_rfl) (by kernel_rfl) (fun _ => by kernel_rfl) (b_cat (by simp only [List.length_cons, List.length_nil]; omega))) rfl (fun ac A24 => ?_)
    refine s_one (.string ⟨(([UInt8.ofNat ((dvU c k) % 256).toNat] : List UInt8) ++ byU c k).toArray⟩) A24 S20 (g_assign (by kernel_rfl)) rfl (fun ac A25 => ?_)
    refine wpList_nil ?_
    refine n_then ?_
    refine wp_region_lit ?_
    refine s_one (.int .i64 (dvU c k)) A25 S20 (g_move (by kernel_rfl)) rfl (fun ac A26 => ?_)
    refine s_call (fs := #[]) (cp := #[]) (r := [(0, .int .i64 (dvU c k)), (0, .int .i64 256)]) #[.int .i64 (dvU c k), .int .i64 256] (.int .i64 ((dvU c k) / 256)) A26 S20 (sameB (Floor_any (dvU c k) 256 _ (by omega) (by omega) (by omega))) Try.call106 (by kernel_rfl) (by kernel_rfl) (by kernel_rfl) rfl (fun ac wc A27 S28 => ?_)
    refine s_one (.int .i64 ((dvU c k) / 256)) A27 S28 (g_assign (by kernel_rfl)) rfl (fun ac A30 => ?_)
    refine wpList_nil ?_
    refine n_block ?_
    refine n_then ?_
    refine wp_region_lit ?_
    refine s_one (.int .i64 (k : Int)) A30 S28 (g_move (by kernel_rfl)) rfl (fun ac A31 => ?_)
    refine s_one (.int .i64 ((k : Int) + 1)) A31 S28 (g_bin (u := .int .i64 (k : Int)) (k := .int .i64 1) (by kernel_rfl) (by kernel_rfl) (fun _ => by kernel_rfl) (b_add (by omega))) rfl (fun ac A32 => ?_)
    refine s_one (.int .i64 ((k : Int) + 1)) A32 S28 (g_assign (by kernel_rfl)) rfl (fun ac A33 => ?_)
    refine wpList_nil ?_
    refine n_then ?_
    refine ⟨_, ⟨k + 1, rfl, by omega, (A33.slot (A33.slot (A33.slot (A33.slot (A33.slot A33.nil (v := .int .i64 ((k : Int) + 1)) (by kernel_rfl) (congrArg (Value.int .i64) (by omega))) (v := .string ⟨(([UInt8.ofNat ((dvU c k) % 256).toNat] : List UInt8) ++ byU c k).toArray⟩) (by kernel_rfl) rfl) (v := .int .i64 ((dvU c k) / 256)) (by kernel_rfl) rfl) (v := .string ⟨([] : List UInt8).toArray⟩) (by kernel_rfl) rfl) (v := .int .i64 (m : Int)) (by kernel_rfl) rfl), S28.sub sub_nil sub_all⟩, ?_⟩
    omega
  · have p34 := of_decide_eq_false h10
    refine wp_exit ?_
    refine x_then ?_
    refine x_then ?_
    refine x_hit ?_
    refine n_then ?_
    refine wp_seq ?_
    refine wp_region_lit ?_
    refine s_one (.string ⟨(byU c k).toArray⟩) A9 S5 (g_move (by kernel_rfl)) rfl (fun ac A35 => ?_)
    refine s_one (.string ⟨(byU c k).toArray⟩) A35 S5 (g_assign (by kernel_rfl)) rfl (fun ac A36 => ?_)
    refine wpList_nil ?_
    refine n_then ?_
    refine wp_ret ?_
    refine fin1 (.string ⟨(byU c k).toArray⟩) Try.results83 A36 S5 (rv_tmp (by kernel_rfl)) ⟨?_, S5.kp⟩
    obtain rfl : k = m := by omega
    rfl

set_option maxRecDepth 100000 in
set_option maxHeartbeats 400000 in
theorem number_s (l : List UInt8) (w0 : World) (hl : l.length ≤ 4) :
    Calls Try.prog 85 #[.string ⟨l.toArray⟩] w0 fun e w' => e = .returned (.int .i64 (nmI (whI l 0 l.length) ((256 : Int) ^ l.length))) ∧ Below w0.heap.size w0 w' := by
  have S0 := St.start w0
  refine enter (n := 29) Try.func85 rfl rfl rfl (fun ac A0 => ?_)
  refine wp_seq ?_
  refine wp_region_lit ?_
  refine s_one (.int .i64 0) A0 S0 (g_assign (by kernel_rfl)) rfl (fun ac A1 => ?_)
  refine wpList_nil ?_
  refine n_then ?_
  refine wp_seq ?_
  refine wp_region_lit ?_
  refine s_one (.int .i64 0) A1 S0 (g_assign (by kernel_rfl)) rfl (fun ac A2 => ?_)
  refine s_one (.int .i64 1) A2 S0 (g_assign (by kernel_rfl)) rfl (fun ac A3 => ?_)
  refine wpList_nil ?_
  refine n_then ?_
  refine wp_seq ?_
  refine wp_seq ?_
  refine wp_region_lit ?_
  refine s_one (.int .i64 0) A3 S0 (g_assign (by kernel_rfl)) rfl (fun ac A4 => ?_)
  refine wpList_nil ?_
  refine n_then ?_
  refine wp_block ?_
  refine c_loopN (fun mm ac wc => ∃ (k : Nat), mm = l.length - k ∧ (k ≤ l.length) ∧ Fr 29 ac [(0, .string ⟨l.toArray⟩), (2, .int .i64 0), (3, .int .i64 (whI l 0 k)), (4, .int .i64 ((256 : Int) ^ k)), (5, .int .i64 (k : Int))] ∧ St w0 [] [] wc) _ ⟨0, rfl, Nat.zero_le _, (A4.slot (A4.slot (A4.slot (A4.slot (A4.slot A4.nil (v := .int .i64 0) (by kernel_rfl) (congrArg (Value.int .i64) (by omega))) (v := .int .i64 1) (by kernel_rfl) rfl) (v := .int .i64 0) (by kernel_rfl) rfl) (v := .int .i64 0) (by kernel_rfl) rfl) (v := .string ⟨l.toArray⟩) (by kernel_rfl) rfl), S0.sub sub_all sub_all⟩ ?_
  rintro mm ac wc ⟨k, hm7, hk, A5, S6⟩
  have hr := whI_bd l 0 k (by omega)
  have hu := nthU_lt l k
  have hp := pw_bd k (by omega)
  refine wp_seq ?_
  refine wp_seq ?_
  refine wp_region_lit ?_
  refine s_one (.int .i64 (k : Int)) A5 S6 (g_move (by kernel_rfl)) rfl (fun ac A8 => ?_)
  refine s_one (.string ⟨l.toArray⟩) A8 S6 (g_move (by kernel_rfl)) rfl (fun ac A9 => ?_)
  refine s_one (.int .i64 (l.length : Int)) A9 S6 (g_built (r := [(0, .string ⟨l.toArray⟩)]) (by kernel_rfl) (fun ty cs w => bl_str (l := l) Try.underlying9 ty cs w)) rfl (fun ac A10 => ?_)
  refine s_one (.bool (decide ((k : Int) < (l.length : Int)))) A10 S6 (g_bin (u := .int .i64 (k : Int)) (k := .int .i64 (l.length : Int)) (by kernel_rfl) (by kernel_rfl) (fun _ => by kernel_rfl) (fun _ => by kernel_rfl)) rfl (fun ac A11 => ?_)
  refine wpList_nil ?_
  refine n_then ?_
  refine c_ifb (b := (decide ((k : Int) < (l.length : Int)))) A11 (by kernel_rfl) (fun h12 => ?_) (fun h12 => ?_)
  · have p13 := of_decide_eq_true h12
    refine wp_skip ?_
    refine n_then ?_
    refine wp_seq ?_
    refine wp_block ?_
    refine wp_region_lit ?_
    refine s_one (.int .i64 (whI l 0 k)) A11 S6 (g_move (by kernel_rfl)) rfl (fun ac A14 => ?_)
    refine s_one (.int .i64 (256 * (whI l 0 k))) A14 S6 (g_bin (u := .int .i64 256) (k := .int .i64 (whI l 0 k)) (by kernel_rfl) (by kernel_rfl) (fun _ => by kernel_rfl) (b_mul (by omega))) rfl (fun ac A15 => ?_)
    refine s_one (.string ⟨l.toArray⟩) A15 S6 (g_move (by kernel_rfl)) rfl (fun ac A16 => ?_)
    refine s_one (.int .i64 (k : Int)) A16 S6 (g_move (by kernel_rfl)) rfl (fun ac A17 => ?_)
    refine s_one (.int .u8 (nthU l k : Int)) A17 S6 (g_indexv (u := .string ⟨l.toArray⟩) (k := .int .i64 (k : Int)) (by kernel_rfl) (by kernel_rfl) (ix_str (l := l) k Try.underlying9 (by omega) (by omega))) rfl (fun ac A18 => ?_)
    refine s_one (.int .i64 (nthU l k : Int)) A18 S6 (g_conv (u := .int .u8 (nthU l k : Int)) (by kernel_rfl) (conv_u8 Try.underlying5 Try.underlying3 ⟨by omega, by have h9 := nthU_lt l k; omega⟩)) rfl (fun ac A19 => ?_)
    refine s_one (.int .i64 (256 * (whI l 0 k) + (nthU l k : Int))) A19 S6 (g_bin (u := .int .i64 (256 * (whI l 0 k))) (k := .int .i64 (nthU l k : Int)) (by kernel_rfl) (by kernel_rfl) (fun _ => by kernel_rfl) (b_add (by omega))) rfl (fun ac A20 => ?_)
    refine s_one (.int .i64 ((256 : Int) ^ k)) A20 S6 (g_move (by kernel_rfl)) rfl (fun ac A21 => ?_)
    refine s_one (.int .i64 (256 * ((256 : Int) ^ k))) A21 S6 (g_bin (u := .int .i64 256) (k := .int .i64 ((256 : Int) ^ k)) (by kernel_rfl) (by kernel_rfl) (fun _ => by kernel_rfl) (b_mul (by omega))) rfl (fun ac A22 => ?_)
    refine s_one (.int .i64 (256 * (whI l 0 k) + (nthU l k : Int))) A22 S6 (g_assign (by kernel_rfl)) rfl (fun ac A23 => ?_)
    refine s_one (.int .i64 (256 * ((256 : Int) ^ k))) A23 S6 (g_assign (by kernel_rfl)) rfl (fun ac A24 => ?_)
    refine wpList_nil ?_
    refine n_block ?_
    refine n_then ?_
    refine wp_region_lit ?_
    refine s_one (.int .i64 (k : Int)) A24 S6 (g_move (by kernel_rfl)) rfl (fun ac A25 => ?_)
    refine s_one (.int .i64 ((k : Int) + 1)) A25 S6 (g_bin (u := .int .i64 (k : Int)) (k := .int .i64 1) (by kernel_rfl) (by kernel_rfl) (fun _ => by kernel_rfl) (b_add (by omega))) rfl (fun ac A26 => ?_)
    refine s_one (.int .i64 ((k : Int) + 1)) A26 S6 (g_assign (by kernel_rfl)) rfl (fun ac A27 => ?_)
    refine wpList_nil ?_
    refine n_then ?_
    refine ⟨_, ⟨k + 1, rfl, by omega, (A27.slot (A27.slot (A27.slot (A27.slot (A27.slot A27.nil (v := .int .i64 ((k : Int) + 1)) (by kernel_rfl) (congrArg (Value.int .i64) (by omega))) (v := .int .i64 (256 * ((256 : Int) ^ k))) (by kernel_rfl) (congrArg (Value.int .i64) (by rw [Int.pow_succ]; omega))) (v := .int .i64 (256 * (whI l 0 k) + (nthU l k : Int))) (by kernel_rfl) (congrArg (Value.int .i64) (by simp only [whI, Nat.zero_add]; omega))) (v := .int .i64 0) (by kernel_rfl) rfl) (v := .string ⟨l.toArray⟩) (by kernel_rfl) rfl), S6.sub sub_all sub_all⟩, ?_⟩
    omega
  · have p28 := of_decide_eq_false h12
    refine wp_exit ?_
    refine x_then ?_
    refine x_then ?_
    refine x_hit ?_
    refine n_then ?_
    refine wp_seq ?_
    refine wp_seq ?_
    refine wp_region_lit ?_
    refine s_one (.int .i64 (whI l 0 k)) A11 S6 (g_move (by kernel_rfl)) rfl (fun ac A29 => ?_)
    refine s_one (.int .i64 (2 * (whI l 0 k))) A29 S6 (g_bin (u := .int .i64 2) (k := .int .i64 (whI l 0 k)) (by kernel_rfl) (by kernel_rfl) (fun _ => by kernel_rfl) (b_mul (by omega))) rfl (fun ac A30 => ?_)
    refine s_one (.int .i64 ((256 : Int) ^ k)) A30 S6 (g_move (by kernel_rfl)) rfl (fun ac A31 => ?_)
    refine s_one (.bool (decide (2 * (whI l 0 k) ≥ (256 : Int) ^ k))) A31 S6 (g_bin (u := .int .i64 (2 * (whI l 0 k))) (k := .int .i64 ((256 : Int) ^ k)) (by kernel_rfl) (by kernel_rfl) (fun _ => by kernel_rfl) (fun _ => by kernel_rfl)) rfl (fun ac A32 => ?_)
    refine wpList_nil ?_
    refine n_then ?_
    refine c_ifb (b := (decide (2 * (whI l 0 k) ≥ (256 : Int) ^ k))) A32 (by kernel_rfl) (fun h33 => ?_) (fun h33 => ?_)
    · have p34 := of_decide_eq_true h33
      refine wp_region_lit ?_
      refine s_one (.int .i64 (whI l 0 k)) A32 S6 (g_move (by kernel_rfl)) rfl (fun ac A35 => ?_)
      refine s_one (.int .i64 ((256 : Int) ^ k)) A35 S6 (g_move (by kernel_rfl)) rfl (fun ac A36 => ?_)
      refine s_one (.int .i64 (whI l 0 k - ((256 : Int) ^ k))) A36 S6 (g_bin (u := .int .i64 (whI l 0 k)) (k := .int .i64 ((256 : Int) ^ k)) (by kernel_rfl) (by kernel_rfl) (fun _ => by kernel_rfl) (b_sub (by omega))) rfl (fun ac A37 => ?_)
      refine s_one (.int .i64 (whI l 0 k - ((256 : Int) ^ k))) A37 S6 (g_assign (by kernel_rfl)) rfl (fun ac A38 => ?_)
      refine wpList_nil ?_
      refine n_then ?_
      refine wp_seq ?_
      refine wp_region_lit ?_
      refine s_one (.int .i64 (whI l 0 k - ((256 : Int) ^ k))) A38 S6 (g_move (by kernel_rfl)) rfl (fun ac A39 => ?_)
      refine s_one (.int .i64 (whI l 0 k - ((256 : Int) ^ k))) A39 S6 (g_assign (by kernel_rfl)) rfl (fun ac A40 => ?_)
      refine wpList_nil ?_
      refine n_then ?_
      refine wp_ret ?_
      refine fin1 (.int .i64 (whI l 0 k - ((256 : Int) ^ k))) Try.results85 A40 S6 (rv_tmp (by kernel_rfl)) ⟨?_, S6.kp⟩
      obtain rfl : k = l.length := by omega
      rw [nmI_y p34]
    · have p41 := of_decide_eq_false h33
      refine wp_skip ?_
      refine n_then ?_
      refine wp_seq ?_
      refine wp_region_lit ?_
      refine s_one (.int .i64 (whI l 0 k)) A32 S6 (g_move (by kernel_rfl)) rfl (fun ac A42 => ?_)
      refine s_one (.int .i64 (whI l 0 k)) A42 S6 (g_assign (by kernel_rfl)) rfl (fun ac A43 => ?_)
      refine wpList_nil ?_
      refine n_then ?_
      refine wp_ret ?_
      refine fin1 (.int .i64 (whI l 0 k)) Try.results85 A43 S6 (rv_tmp (by kernel_rfl)) ⟨?_, S6.kp⟩
      obtain rfl : k = l.length := by omega
      rw [nmI_n p41]

theorem number_2 (l : Bs) (i : Nat) (w : World) (h : i + 2 ≤ l.length) : Calls Try.prog 85 #[.string ⟨(subU l i 2).toArray⟩] w fun e w' => e = .returned (.int .i64 (w16 (whI l i 2))) ∧ Below w.heap.size w w' := by
  have hl := subU_length h
  have := number_s (subU l i 2) w (by omega)
  rw [hl, whI_sub (by omega), Nat.add_zero, nmI_2] at this
  exact this

theorem number_4 (l : Bs) (i : Nat) (w : World) (h : i + 4 ≤ l.length) : Calls Try.prog 85 #[.string ⟨(subU l i 4).toArray⟩] w fun e w' => e = .returned (.int .i64 (w32 (whI l i 4))) ∧ Below w.heap.size w w' := by
  have hl := subU_length h
  have := number_s (subU l i 4) w (by omega)
  rw [hl, whI_sub (by omega), Nat.add_zero, nmI_4] at this
  exact this

set_option maxRecDepth 100000 in
set_option maxHeartbeats 400000 in
theorem FrameErr_s (p : Int) (el : Int) (A : Option Addr) (n cap : Nat) (xs : List Nat) (w0 : World) (hn : xs.length = n) (hr : FReads w0 A xs) (hm : n ≤ 1000) :
    Calls Try.prog 47 #[.agg #[.int .i64 p, .int .i64 el, .slice A n cap]] w0 fun e w' => e = .returned (.int .i64 (frE p el xs)) ∧ Below w0.heap.size w0 w' := by
  have S0 := St.start w0
  refine enter (n := 16) Try.func47 rfl rfl rfl (fun ac A0 => ?_)
  refine wp_seq ?_
  refine wp_region_lit ?_
  refine s_box (.agg #[.int .i64 p, .int .i64 el, .slice A n cap]) A0 S0 (by kernel_rfl) rfl (fun g3 ac wc A1 S2 => ?_)
  replace S2 : St _ (⟨g3, 66, #[.int .i64 p, .int .i64 el, .slice A n cap], true⟩ :: _) _ _ := S2
  refine s_one (.int .i64 0) A1 S2 (g_assign (by kernel_rfl)) rfl (fun ac A5 => ?_)
  refine wpList_nil ?_
  refine n_then ?_
  refine wp_seq ?_
  refine wp_seq ?_
  refine wp_region_lit ?_
  refine s_one (.pointer (some ⟨g3, 0, none⟩)) A5 S2 (g_field (u := .pointer (some ⟨g3, 0, none⟩)) (by kernel_rfl) (fun _ => by kernel_rfl)) rfl (fun ac A6 => ?_)
  refine s_one (.int .i64 p) A6 S2 (g_load (g := g3) (off := 0) 0 (by kernel_rfl) rfl (by kernel_rfl)) rfl (fun ac A7 => ?_)
  refine s_call (fs := #[]) (cp := #[]) (r := [(0, .int .i64 p), (0, .int .i64 (-1000000000)), (0, .int .i64 1000000000)]) #[.int .i64 p, .int .i64 (-1000000000), .int .i64 1000000000] (.bool (inB p (-1000000000) 1000000000)) A7 S2 (sameB (Within_any p (-1000000000) 1000000000 _)) Try.call39 (by kernel_rfl) (by kernel_rfl) (by kernel_rfl) rfl (fun ac wc A8 S9 => ?_)
  refine s_one (.bool (!(inB p (-1000000000) 1000000000))) A8 S9 (g_un (u := .bool (inB p (-1000000000) 1000000000)) (by kernel_rfl) (fun _ => by kernel_rfl)) rfl (fun ac A11 => ?_)
  refine wpList_nil ?_
  refine n_then ?_
  refine c_ifb (b := (!(inB p (-1000000000) 1000000000))) A11 (by kernel_rfl) (fun h12 => ?_) (fun h12 => ?_)
  · have h13 : inB p (-1000000000) 1000000000 = false := by simpa using h12
    refine wp_seq ?_
    refine wp_region_lit ?_
    refine s_one (.int .i64 2) A11 S9 (g_assign (by kernel_rfl)) rfl (fun ac A14 => ?_)
    refine wpList_nil ?_
    refine n_then ?_
    refine wp_ret ?_
    refine r_then ?_
    refine fin1 (.int .i64 2) Try.results47 A14 S9 (rv_tmp (by kernel_rfl)) ⟨?_, S9.kp⟩
    rw [frE_n h13]
  · have h15 : inB p (-1000000000) 1000000000 = true := by simpa using h12
    refine wp_skip ?_
    refine n_then ?_
    refine wp_seq ?_
    refine wp_region_lit ?_
    refine s_one (.pointer (some ⟨g3, 1, none⟩)) A11 S9 (g_field (u := .pointer (some ⟨g3, 0, none⟩)) (by kernel_rfl) (fun _ => by kernel_rfl)) rfl (fun ac A16 => ?_)
    refine s_one (.agg #[.int .i64 el, .slice A n cap]) A16 S9 (g_load (g := g3) (off := 1) 0 (by kernel_rfl) rfl (by kernel_rfl)) rfl (fun ac A17 => ?_)
    refine s_call (fs := #[]) (cp := #[]) (r := [(0, .agg #[.int .i64 el, .slice A n cap])]) #[.agg #[.int .i64 el, .slice A n cap]] (.tuple #[.int .i64 ((mxC el xs).1), .int .i64 ((mxC el xs).2)]) A17 S9 (refCheckMatrix_s el A n cap xs _ hn (hr.kept S9.kp) (by omega)) Try.call17 (by kernel_rfl) (by kernel_rfl) (by kernel_rfl) rfl (fun ac wc A18 S19 => ?_)
    refine s_one (.tuple #[.int .i64 ((mxC el xs).1), .int .i64 ((mxC el xs).2)]) A18 S19 (g_move (by kernel_rfl)) rfl (fun ac A21 => ?_)
    refine s_one (.int .i64 ((mxC el xs).1)) A21 S19 (g_extract (u := .tuple #[.int .i64 ((mxC el xs).1), .int .i64 ((mxC el xs).2)]) (by kernel_rfl) (fun _ => by kernel_rfl)) rfl (fun ac A22 => ?_)
    refine s_one (.int .i64 ((mxC el xs).2)) A22 S19 (g_extract (u := .tuple #[.int .i64 ((mxC el xs).1), .int .i64 ((mxC el xs).2)]) (by kernel_rfl) (fun _ => by kernel_rfl)) rfl (fun ac A23 => ?_)
    refine s_one (.int .i64 ((mxC el xs).1)) A23 S19 (g_assign (by kernel_rfl)) rfl (fun ac A24 => ?_)
    refine s_one (.int .i64 ((mxC el xs).2)) A24 S19 (g_assign (by kernel_rfl)) rfl (fun ac A25 => ?_)
    refine wpList_nil ?_
    refine n_then ?_
    refine wp_seq ?_
    refine wp_region_lit ?_
    refine s_one (.int .i64 ((mxC el xs).2)) A25 S19 (g_move (by kernel_rfl)) rfl (fun ac A26 => ?_)
    refine s_one (.int .i64 ((mxC el xs).2)) A26 S19 (g_assign (by kernel_rfl)) rfl (fun ac A27 => ?_)
    refine wpList_nil ?_
    refine n_then ?_
    refine wp_ret ?_
    refine fin1 (.int .i64 ((mxC el xs).2)) Try.results47 A27 S19 (rv_tmp (by kernel_rfl)) ⟨?_, S19.kp⟩
    rw [frE_y h15]

end Go.Proofs.Ytcijkniijomcjaa
