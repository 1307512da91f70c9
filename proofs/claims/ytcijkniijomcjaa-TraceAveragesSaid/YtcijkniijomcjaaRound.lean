import Derived.Test.YtcijkniijomcjaaKit
import Derived.RangeFuncCalls
import Derived.RangeFuncRecord
import Derived.TacticsInMore
import Derived.OrdersIn
/-! The body of a loop over a function runs as any code: from wp to wpIn in a round, at the wide fence. -/
namespace Go.Proofs.Ytcijkniijomcjaa
open Go.RowKit Go.Cpl
/-- No operation is a defer statement. -/
def plainOp (o : Oper) : Bool := match o.op with | .defer _ => false | _ => true
theorem plainOp_spec {o : Oper} (h : plainOp o = true) : ∀ c, o.op ≠ .defer c := by
  intro c e
  unfold plainOp at h
  rw [e] at h
  cases h
section
variable {P : Program} {l n : Nat} {Q : Exit → Act → World → Prop}
theorem rowsIn_of {row : String} {args : Array Value} {w : World} {R : Value → World → Prop} (h : Rows P row args w R) : RowsIn (Fence.wide.inRound l) n P row args w R := by
  intro c cs _
  obtain ⟨v, w', r, s⟩ := h c cs
  exact ⟨v, w', r, stepsIn_wide.2 s⟩
theorem callsIn_of {f : FuncId} {args : Array Value} {w : World} {R : Ending → World → Prop} (h : Calls P f args w R) : CallsIn (Fence.wide.inRound l) n P f args w R :=
  CallsIn.inRound l (callsIn_wide.2 h)
theorem operIn_of {o : Oper} {a : Act} {w : World} {next next' : Act → World → Prop} (hd : plainOp o = true) (hn : ∀ a w, next a w → next' a w) (h : o.wp P a w next Q) : o.wpIn (Fence.wide.inRound l) n P a w next' Q := by
  refine ⟨fun _ _ => trivial, ?_⟩
  rw [show Oper.semAt (Fence.wide.inRound l).round a.eval o = execOp a.eval o from Oper.semAt_some l _ _ (plainOp_spec hd)]
  unfold Oper.wp at h
  generalize (execOp a.eval o).run P w = r at h ⊢
  match r, h with
  | .ok (.value v) w', h => exact hn _ _ h
  | .ok .skip w', h => exact hn _ _ h
  | .ok (.defer d) w', h => exact hn _ _ h
  | .ok (.enter f args) w', h =>
    refine ⟨fun e => (by cases e), callsIn_of (Calls.mono h fun en w'' q => ?_)⟩
    cases en with
    | returned v => exact hn _ _ q
    | panicked c => exact q
    | outgrown => exact q
  | .ok (.row row args) w', h => exact ⟨fun e => (by cases e), rowsIn_of (h.mono fun v w'' q => hn _ _ q)⟩
  | .halt (.panic v) w', h => exact h
theorem wpListIn_of {ops : Array Oper} (hq : ¬ LetsOut Q) : ∀ (rest : List Oper) (a : Act) (w : World), rest.all plainOp = true → wpList P ops Q rest a w → wpListIn (Fence.wide.inRound l) n P ops Q rest a w
  | [], a, w, _, h => h
  | o :: rest, a, w, hd, h => by
    simp only [List.all_cons, Bool.and_eq_true] at hd
    unfold wpList at h
    unfold wpListIn
    by_cases hw : Region.wanted o (yielded ops a.tmps) = true
    · rw [if_pos hw] at h ⊢
      rcases h with h | ⟨_, h⟩
      · exact operIn_of hd.1 (fun a w q => wpListIn_of hq rest a w hd.2 q) h
      · exact absurd h hq
    · rw [if_neg hw] at h ⊢
      exact ⟨fun _ _ => trivial, wpListIn_of hq rest _ w hd.2 h⟩
/-- A region in a round. -/
theorem i_region {id : Nat} {ls : List Oper} {a : Act} {w : World} (hq : ¬ LetsOut Q) (hd : ls.all plainOp = true) (h : wpList P ls.toArray Q ls a w) : (Code.region id ls.toArray false).wpIn (Fence.wide.inRound l) n P Q a w :=
  wpIn_region_lit (wpListIn_of hq ls a w hd h)
theorem wpAnyIn_of {md : Region.Mode} {ops : Array Oper} (hq : ¬ LetsOut Q) (hd : ops.toList.all plainOp = true) : ∀ (fuel : Nat) (listed : Array Bool) (a : Act) (w : World), wpAny P md ops Q fuel listed a w → wpAnyIn (Fence.wide.inRound l) n P md ops Q fuel listed a w
  | 0, _, _, _, h => h
  | fuel + 1, listed, a, w, h => by
    refine ⟨h.1, fun i hi => ?_⟩
    have h2 := h.2 i hi
    unfold wpOp at h2
    unfold wpOpIn
    cases ho : ops[i]? with
    | none => rw [ho] at h2; exact wpAnyIn_of hq hd fuel _ _ _ h2
    | some o =>
      rw [ho] at h2
      have hp : plainOp o = true := List.all_eq_true.1 hd o (Array.mem_toList_iff.2 (Array.mem_of_getElem? ho))
      simp only at h2 ⊢
      by_cases hw : Region.wanted o (yielded ops a.tmps) = true
      · rw [if_pos hw] at h2 ⊢
        rcases h2 with h2 | ⟨_, h2⟩
        · exact operIn_of hp (fun a w q => wpAnyIn_of hq hd fuel _ a w q) h2
        · exact absurd h2 hq
      · rw [if_neg hw] at h2 ⊢
        exact ⟨fun _ _ => trivial, wpAnyIn_of hq hd fuel _ _ _ h2⟩
/-- A region that draws, in a round. -/
theorem i_begin {id : Nat} {ops : Array Oper} {a : Act} {w : World} {w0 : Base} {Ls : List Bk} {Ms : List Rw} (hm : P.follows .mixedOrders = true) (hq : ¬ LetsOut Q) (hd : ops.toList.all plainOp = true) (hS : St w0 Ls Ms w)
    (h : ∀ w', St w0 Ls Ms w' → Below w.heap.size w w' → wpAnyH P .any ops Q (St w0 Ls Ms) ops.size (Array.replicate ops.size false) a w') : (Code.region id ops true).wpIn (Fence.wide.inRound l) n P Q a w :=
  wpIn_region_any hm (wpAnyIn_of hq hd _ _ _ _ (wpAny_of_held _ _ _ _ (h w.drew hS.drew (Below.drew (Below.refl _ _)))))
end
/-! ### Code in a round -/
section
variable {P : Program} {G : Fence} {m : Nat} {n : Sz} {a : Act} {w : World} {F : Fm} {Q : Exit → Act → World → Prop}
theorem i_ifb {c : Operand} {x y : Code} {b : Bool} (hA : Fr n a F) (hc : evO F c = some (.bool b)) (ht : b = true → x.wpIn G m P Q a w) (hf : b = false → y.wpIn G m P Q a w) : (Code.cond c x y).wpIn G m P Q a w := wpIn_cond_split (hA.ev hc) ht hf
theorem i_t {c : Operand} {x y : Code} {b : Bool} (hA : Fr n a F) (hc : evO F c = some (.bool b)) (h : b = true) (k : x.wpIn G m P Q a w) : (Code.cond c x y).wpIn G m P Q a w := wpIn_cond_true (by rw [hA.ev hc, h]) k
theorem i_f {c : Operand} {x y : Code} {b : Bool} (hA : Fr n a F) (hc : evO F c = some (.bool b)) (h : b = false) (k : y.wpIn G m P Q a w) : (Code.cond c x y).wpIn G m P Q a w := wpIn_cond_false (by rw [hA.ev hc, h]) k
theorem i_cut {c : Code} (K : Act → World → Prop) (h1 : c.wpIn G m P (Exit.then K Q) a w) (h2 : ∀ a w, K a w → Q .normal a w) : c.wpIn G m P Q a w :=
  wpIn_mono h1 fun e a w h => by cases e <;> first | exact h2 _ _ h | exact h
theorem i_loopN {c : Code} (I : Nat → Act → World → Prop) (i0 : Nat) (h0 : I i0 a w)
    (round : ∀ i a w, I i a w → c.wpIn G m P (Exit.then (fun a' w' => ∃ j, I j a' w' ∧ j < i) Q) a w) : (Code.loop c).wpIn G m P Q a w := by
  intro b k cs hro hb hr
  have key : ∀ j a w, I j a w → ∃ e a' w', Q e a' w' ∧ ArrivesIn (Machine.fenced P G) P (lone (b.atR a (.code c :: .inLoop c :: k)) cs w) b k cs e a' w' := by
    intro j
    induction j using Nat.strongRecOn with
    | _ j ih =>
      intro a w hI
      obtain ⟨e, a₁, w₁, hq, harr⟩ := round j a w hI b (.inLoop c :: k) cs hro hb hr
      cases e with
      | normal =>
        obtain ⟨i, hI₁, hlt⟩ := hq
        obtain ⟨e₂, a₂, w₂, hq₂, harr₂⟩ := ih i hlt a₁ w₁ hI₁
        exact ⟨e₂, a₂, w₂, hq₂, .of_steps (StepsIn.trans harr (.one (fenced_calm hb hr rfl) stepR_inLoop)) harr₂⟩
      | exit id => exact ⟨_, a₁, w₁, hq, .pass (x := .inLoop c) rfl (fun _ _ => .inl (by simp)) harr⟩
      | goto l => exact ⟨_, a₁, w₁, hq, .pass (x := .inLoop c) rfl (fun _ _ => .inl (by simp)) harr⟩
      | ret => exact ⟨_, a₁, w₁, hq, .pass (x := .inLoop c) rfl (fun _ _ => .inl (by simp)) harr⟩
      | panic ch => exact ⟨_, a₁, w₁, hq, .pass (x := .inLoop c) rfl (fun _ _ => .inl (by simp)) harr⟩
      | outgrown => exact ⟨_, a₁, w₁, hq, .pass (x := .inLoop c) rfl (fun _ _ => .inl (by simp)) harr⟩
  obtain ⟨e, a', w', hq, harr⟩ := key i0 a w h0
  exact ⟨e, a', w', hq, .of_steps (.one (fenced_calm hb hr rfl) stepR_loop) harr⟩
/-- Nothing is let out. -/
theorem noOut_then {K : Act → World → Prop} (h : ¬ LetsOut Q) : ¬ LetsOut (Exit.then K Q) := fun q => h q
theorem noOut_block {i : Nat} (h : ¬ LetsOut Q) : ¬ LetsOut (Exit.inBlock i Q) := fun q => h q
end
/-- What is known abides the loop's own steps. -/
theorem St.round {w0 : Base} {W W' : World} {L : List Bk} {M : List Rw} {row : Option Nat} (h : St w0 L M W) (hg : W.grownBy W' row) (hr : ∀ r, row = some r → w0.w.heap.size ≤ r ∧ ∃ o : Obj, W.heap[r]? = some o ∧ o.isCells = false) : St ⟨w0.w, w0.w⟩ L M W' := by
  have hk : ∀ (g : Nat) (cs : Array Value) (t : TypeId), W.heap[g]? = some (.cells cs t (0, 0)) → W'.heap[g]? = some (.cells cs t (0, 0)) := by
    intro g cs t e
    rw [hg.block g (Array.getElem?_eq_some_iff.1 e).1 ?_]
    · exact e
    · intro e'
      obtain ⟨_, o, ho, hc⟩ := hr g e'.symm
      rw [e] at ho; cases ho; cases hc
  have kp : Below w0.w.heap.size w0.w W' := ⟨hg.os.trans h.kq.1.os, hg.tape.trans h.kq.1.tape, hg.output.trans h.kq.1.output, Nat.le_trans h.kq.1.size hg.size, fun k hk' => by
    rw [hg.block k (Nat.lt_of_lt_of_le hk' h.kq.1.size) (fun e => by have := (hr k e.symm).1; omega)]; exact h.kq.1.block k hk'⟩
  refine ⟨⟨kp, keeps_of_below kp (Nat.le_refl _)⟩, fun b hb => hk _ _ _ (h.blk b hb), h.own, h.apart, fun r hr' => ?_, h.rb, h.rr⟩
  obtain ⟨h1, h2⟩ := h.rows r hr'
  refine ⟨h1, ?_⟩
  rcases h2 with h2 | ⟨g, cap, cur, a1, a2, a3, a4⟩
  · exact .inl h2
  · exact .inr ⟨g, cap, cur, a1, a2, hk _ _ _ a3, a4⟩
/-- Back to the world at first alone. -/
theorem St.first {w0 : Base} {W : World} {L : List Bk} {M : List Rw} (h : St w0 L M W) : St ⟨w0.w, w0.w⟩ L M W := h.since (keeps_of_below h.kq.1 (Nat.le_refl _))
/-! ### A function that ranges over a function -/
section
variable {P : Program} {Q : Exit → Act → World → Prop} {n : Nat} {a : Act} {w : World} {F : Fm} {L : List Bk} {M : List Rw} {fn : Func} {R : Ending → World → Prop}
/-- The mark of the loop's deferred calls. -/
def coll (D : Nat) : Deferred := { target := .collected D, args := #[] }
def mPost (P : Program) (fn : Func) (R : Ending → World → Prop) : Exit → Act → World → Prop
  | .ret, a, w => LeavesInM Fence.wide 3 P fn a.tmps R a.defers .returning w
  | _, _, _ => False
theorem pf_mPost : PanicFree (mPost P fn R) := fun _ _ _ _ _ h => h
theorem start_fr {fn : Func} {args : Array Value} {n : Nat} (hn : fn.ntmps = n) (hs : Nat.ble args.size n = true) : Fr ⟨n, []⟩ { tmps := args ++ Array.replicate (fn.ntmps - args.size) undef, defers := [] } (Go.Cpl.start args) := by
  refine ⟨?_, rfl, fun k v hk => ?_⟩
  · have := Nat.le_of_ble_eq_true hs; simp; omega
  · obtain ⟨_, h2⟩ := look_start args.toList 0 k v hk
    rw [Nat.sub_zero, Array.getElem?_toList] at h2
    have hk' : k < args.size := by
      rcases Nat.lt_or_ge k args.size with h3 | h3
      · exact h3
      · rw [Array.getElem?_eq_none h3] at h2; cases h2
    rw [Array.getElem?_append_left hk']
    exact h2
theorem enterM {f : FuncId} {c : Code} {args : Array Value}
    (hf : P.funcs[f]? = some fn) (hb : fn.body = some c) (hn : fn.ntmps = n) (hs : Nat.ble args.size n = true)
    (h : ∀ a, Fr ⟨n, []⟩ a (Go.Cpl.start args) → c.wp P (mPost P fn R) a w) : Calls P f args w R := by
  refine (callsIn_wide (n := 3)).1 (callsIn_of_wp_marks hf hb trivial (wpIn_wide.2 (wp_mono (h _ (start_fr hn hs)) ?_)))
  intro e a w h
  cases e with
  | ret => exact h
  | _ => exact h.elim
theorem m_ret0 (hA : Fr ⟨n, []⟩ a F) (h : bodyPost P fn R .ret a w) : mPost P fn R .ret a w := by
  show LeavesInM Fence.wide 3 P fn a.tmps R a.defers .returning w
  rw [hA.def_]; exact h.2
theorem m_ret {w0 v : World} {D : Nat} (hA : Fr ⟨n, [coll D]⟩ a F) (hS : St ⟨w0, v⟩ L M w) (hv : v.heap[D]? = some (.deferred (some []))) (hD : w0.heap.size ≤ D)
    (h : ∀ a' w', Fr ⟨n, []⟩ a' F → St ⟨w0, w0⟩ L M w' → bodyPost P fn R .ret a' w') : mPost P fn R .ret a w := by
  have hK := hS.others.same D _ hv rfl
  show LeavesInM Fence.wide 3 P fn a.tmps R a.defers .returning w
  rw [hA.def_]
  refine ⟨by simp, .inl ⟨D, w.putObj D (.deferred none), rfl, run_takeDeferred hK, ?_⟩⟩
  have hS' := St.round hS (grownBy_putObj' w D (.deferred none)) (fun r e => by cases e; exact ⟨hD, _, hK, rfl⟩)
  exact (h { tmps := a.tmps, defers := [] } _ ⟨hA.size, rfl, hA.val⟩ hS').2
/-- What the body of the loop keeps for the iterator. -/
def KpG (G : List Bk) (W W' : World) : Prop := ∀ b ∈ G, Blk W b.g b.t b.cs → Blk W' b.g b.t b.cs
theorem KpG.trans {G : List Bk} {X Y Z : World} (h : KpG G X Y) (k : KpG G Y Z) : KpG G X Z := fun b hb hx => k b hb (h b hb hx)
theorem KpG.nil {W W' : World} : KpG [] W W' := fun b hb => by cases hb
theorem KpG.cons {b : Bk} {G : List Bk} {W W' : World} (h : Blk W' b.g b.t b.cs) (k : KpG G W W') : KpG (b :: G) W W' := fun c hc hx => by
  rcases List.mem_cons.1 hc with rfl | hc
  · exact h
  · exact k c hc hx
theorem KpG.refl {G : List Bk} (W : World) : KpG G W W := fun _ _ h => h
theorem KpG.put {G : List Bk} {W : World} {l : Nat} {o o' : Obj} (h : W.heap[l]? = some o) (hc : o.isCells = false) : KpG G W (W.putObj l o') := fun b _ hx => by
  have e : b.g ≠ l := fun e => by
    rw [← e] at h
    rw [show W.heap[b.g]? = _ from hx] at h; cases h; cases hc
  exact (World.putObj_heap_other e).trans hx
/-- yield's parameters are laid. -/
def zF : List (Nat × Value) → Fm → Fm
  | [], F => F
  | p :: l, F => zF l (p :: F)
theorem zF_fr : ∀ (l : List (Nat × Value)) (t : Array Value) (F : Fm), (∀ p ∈ l, p.1 < n) → Fr ⟨n, []⟩ { tmps := t, defers := [] } F → Fr ⟨n, []⟩ { tmps := l.foldl (fun t p => t.setIfInBounds p.1 p.2) t, defers := [] } (zF l F)
  | [], _, _, _, h => h
  | p :: l, t, F, hl, h => by
    refine zF_fr l _ _ (fun q hq => hl q (List.mem_cons_of_mem _ hq)) ?_
    exact h.put (hl p (List.mem_cons_self ..)) p.2
/-- How the body of a round may be left: it goes on, or it returns. -/
def rPost {α : Type} (G : List Bk) (v : World) (I Ix : List α → World → Prop) (xs : List α) (W : World) : Exit → Act → World → Prop
  | .normal, _, W' => KeepsX v W' ∧ KpG G W W' ∧ I xs W'
  | .ret, _, W' => KeepsX v W' ∧ Ix xs W'
  | _, _, _ => False
/-- What an iterator does, whatever the loop's body is: xs come, in this order; what the body keeps is G. -/
def Seq {α : Type} (P : Program) (gf : FuncId) (fs lb : Array Value) (encs : α → Array Value) (G : List Bk) (xs : List α) : Prop :=
  ∀ (l : Nat) (J Jx : List α → World → Prop) (W : World), (∀ b ∈ G, Blk W b.g b.t b.cs) → (∀ pre W W', J pre W → Below W.heap.size W W' → J pre W') →
    (∀ pre x rest W1, xs = pre ++ x :: rest → J pre W1 → YieldAt Fence.wide 1 P l (encs x) W1 fun e W' =>
      (e = .returned (.bool true) ∧ J (pre ++ [x]) W' ∧ KpG G W1 W') ∨ (e = .returned (.bool false) ∧ Jx (pre ++ [x]) W')) →
    J [] W → CallsIn Fence.wide 2 P gf (fs ++ #[.func (.yield l) #[] #[]] ++ lb) W fun e W' => (∃ v, e = .returned v) ∧ (J xs W' ∨ ∃ pre, Jx pre W')
/-- The statement, in a function that holds no other. -/
theorem c_range {α : Type} {g : Operand} {ps : Array Tmp} {assign body : Code} {gf : Nat} {fs lb : Array Value} {w0 : Base} (hA : Fr ⟨n, []⟩ a F) (hS : St w0 L M w) (hg : evO F g = some (.func (.func gf) fs lb)) (eg : ∀ args w, (callFunc gf args).run P w = .ok (.enter gf args) w)
    {encs : α → Array Value} {G : List Bk} {xs : List α} (hG : ∀ b ∈ G, Blk w b.g b.t b.cs) (hseq : Seq P gf fs lb encs G xs) (hps : ∀ x, (encs x).size = ps.size)
    (z : α → List (Nat × Value)) (hz : ∀ x, (ps.zip (encs x)).toList = z x) (hlt : ∀ x, ∀ p ∈ z x, p.1 < n)
    (I : List α → World → Prop) (Ix : List α → World → Prop)
    (hI : ∀ pre W W' (row : Option Nat), I pre W → W.grownBy W' row → (∀ r, row = some r → w0.w.heap.size ≤ r ∧ ∃ o : Obj, W.heap[r]? = some o ∧ o.isCells = false) → I pre W')
    (hIb : ∀ pre W W', I pre W → Below W.heap.size W W' → I pre W')
    (hIx : ∀ pre W W' (row : Option Nat), Ix pre W → W.grownBy W' row → (∀ r, row = some r → w0.w.heap.size ≤ r ∧ ∃ o : Obj, W.heap[r]? = some o ∧ o.isCells = false) → Ix pre W')
    (h0 : I [] w) (F1 : α → Fm)
    (hassign : ∀ (l : Nat) (x : α) (a' : Act) (W : World) (K : Act → World → Prop), Fr ⟨n, []⟩ a' (zF (z x) F) → (∀ a', Fr ⟨n, []⟩ a' (F1 x) → K a' W) → assign.wpIn (Fence.wide.inRound l) 1 P (Exit.then K (fun _ _ _ => False)) a' W)
    (hbody : ∀ (l : Nat) (pre : List α) (x : α) (rest : List α) (a' : Act) (W : World), xs = pre ++ x :: rest → I pre W → Fr ⟨n, []⟩ a' (F1 x) → body.wpIn (Fence.wide.inRound l) 1 P (rPost G W I Ix (pre ++ [x]) W) a' W)
    (hdone : ∀ (D : Nat) (a' : Act) (W : World), w0.w.heap.size ≤ D → I xs W → W.heap[D]? = some (.deferred (some [])) → Fr ⟨n, [coll D]⟩ a' F → Q .normal a' W)
    (hstop : ∀ (D : Nat) (pre : List α) (a' : Act) (W : World), w0.w.heap.size ≤ D → Ix pre W → W.heap[D]? = some (.deferred (some [])) → Fr ⟨n, [coll D]⟩ a' F → Q .ret a' W) :
    (Code.rangeFunc g ps assign body).wp P Q a w := by
  have hsz := hS.kq.size
  refine (wpIn_wide (n := 3)).1 (wpIn_rangeFunc fun fn hfn => ?_)
  obtain ⟨D, hD⟩ : ∃ D, w.heap.size = D := ⟨_, rfl⟩
  obtain ⟨rec, hrec⟩ : ∃ rec : LoopState → Option Code → Loop, rec = fun st pe => { state := st, pending := pe, fn, tmps := a.tmps, params := ps, assign, body, defers := D } := ⟨_, rfl⟩
  obtain ⟨W1, hW1⟩ : ∃ W1, (w.alloc (.deferred (some []))).alloc (.loop (rec .ready none)) = W1 := ⟨_, rfl⟩
  have hb1 : Below w.heap.size w W1 := by
    rw [← hW1]; exact ((Below.refl _ w).alloc (Nat.le_refl _) _).alloc (by simp) _
  have hL1 : W1.heap[D + 1]? = some (.loop (rec .ready none)) := by
    rw [← hW1, ← hD]; have := World.alloc_heap_new (w.alloc (.deferred (some []))) (.loop (rec .ready none)); rwa [World.size_alloc] at this
  have hK1 : W1.heap[D]? = some (.deferred (some [])) := by
    rw [← hW1, ← hD]; exact (Below.heap_alloc _ _ _ (by simp)).trans (World.alloc_heap_new w _)
  have hn : ∀ {W : World} {st : LoopState} {pe : Option Code}, W.heap[D + 1]? = some (.loop (rec st pe)) → ∀ r, some (D + 1) = some r → w0.w.heap.size ≤ r ∧ ∃ o : Obj, W.heap[r]? = some o ∧ o.isCells = false := fun h r e => by
    cases e; exact ⟨by omega, _, h, rfl⟩
  have hfr : Fr ⟨n, [coll D]⟩ { a with defers := [{ target := .collected D, args := #[] }] ++ a.defers } F := ⟨hA.size, by rw [hA.def_]; rfl, hA.val⟩
  refine ⟨D + 1, [{ target := .collected D, args := #[] }], W1, { target := .fn (.func gf) lb, args := fs ++ #[.func (.yield (D + 1)) #[] #[]] }, W1, gf, fs ++ #[.func (.yield (D + 1)) #[] #[]] ++ lb, W1, ?_, ?_, fun _ _ => trivial, ?_, fun h => (by cases h), ?_⟩
  · rw [← hW1, hrec, ← hD]; exact run_enterLoop_outer _ _ _ _ _
  · simp only [resolve, hA.ev hg, Deferred.ofValue]
    simp [Act.eval]
  · exact eg _ _
  refine (hseq (D + 1) (fun pre W => I pre W ∧ W.heap[D + 1]? = some (.loop (rec .ready none)) ∧ W.heap[D]? = some (.deferred (some [])))
    (fun pre W => Ix pre W ∧ W.heap[D + 1]? = some (.loop (rec .done (some .ret))) ∧ W.heap[D]? = some (.deferred (some []))) W1 (fun b hb => (hG b hb).kept hb1)
    (fun pre W W' h k => ⟨hIb pre W W' h.1 k, (k.block _ (Array.getElem?_eq_some_iff.1 h.2.1).1).trans h.2.1, (k.block _ (Array.getElem?_eq_some_iff.1 h.2.2).1).trans h.2.2⟩) ?_ ⟨hIb _ _ _ h0 hb1, hL1, hK1⟩).mono ?_
  · rintro pre x rest W hx ⟨hi, hl, hk⟩
    have hlt' : D + 1 < W.heap.size := (Array.getElem?_eq_some_iff.1 hl).1
    have hy := run_yield (P := P) (args := encs x) hl (by rw [hrec]; exact hps x)
    rw [hrec] at hy
    refine ⟨fn, _, assign, body, hy, roundIn_of_wpIn hfn ?_⟩
    refine hassign (D + 1) x _ W _ ?_ fun a' ha' => ?_
    · have := zF_fr (z x) a.tmps F (hlt x) ⟨hA.size, rfl, hA.val⟩
      rw [← hz x] at this ⊢
      rw [← Array.foldl_toList]
      exact this
    refine ⟨_, run_beginRound hl (by rw [hrec]), ?_⟩
    obtain ⟨W2, hW2⟩ : ∃ W2, W.putObj (D + 1) (.loop (rec .busy none)) = W2 := ⟨_, rfl⟩
    have e2 : W.putObj (D + 1) (.loop { rec .ready none with state := .busy }) = W2 := by rw [← hW2, hrec]
    rw [e2]
    have hl2 : W2.heap[D + 1]? = some (.loop (rec .busy none)) := by rw [← hW2]; exact World.putObj_heap_same hlt'
    have hk2 : W2.heap[D]? = some (.deferred (some [])) := by rw [← hW2]; exact (World.putObj_heap_other (by omega)).trans hk
    have hi2 : I pre W2 := hI pre W W2 (some (D + 1)) hi (by rw [← hW2]; exact grownBy_putObj' _ _ _) (hn hl)
    have hp2 : KpG G W W2 := by rw [← hW2]; exact KpG.put hl rfl
    have fin : ∀ (jump : Option Code) (W3 : World), KeepsX W2 W3 → ∃ W4, W3.putObj (D + 1) (.loop (rec (if jump.isNone then .ready else .done) jump)) = W4 ∧
        (Instr.endRound (D + 1) jump).run P W3 = .ok (.bool jump.isNone) W4 ∧ W3.heap[D + 1]? = some (.loop (rec .busy none)) ∧
        W4.heap[D + 1]? = some (.loop (rec (if jump.isNone then .ready else .done) jump)) ∧ W4.heap[D]? = some (.deferred (some [])) ∧ W3.grownBy W4 (some (D + 1)) ∧ KpG G W3 W4 := fun jump W3 hk3 => by
      have hl3 := hk3.same _ _ hl2 rfl
      have hr := run_endRound (P := P) jump hl3
      have e4 : W3.putObj (D + 1) (.loop { rec .busy none with state := if jump.isNone then .ready else .done, pending := jump }) = W3.putObj (D + 1) (.loop (rec (if jump.isNone then .ready else .done) jump)) := by rw [hrec]
      rw [e4] at hr
      exact ⟨_, rfl, hr, hl3, World.putObj_heap_same (Array.getElem?_eq_some_iff.1 hl3).1, (World.putObj_heap_other (by omega)).trans (hk3.same _ _ hk2 rfl), grownBy_putObj' _ _ _, KpG.put hl3 rfl⟩
    refine wpIn_mono (hbody (D + 1) pre x rest a' W2 hx hi2 ha') ?_
    rintro e a3 W3 hp
    cases e with
    | normal =>
      obtain ⟨hk3, hp3, hi3⟩ := hp
      obtain ⟨W4, _, hr, hl3, hl4, hk4, hg4, hp4⟩ := fin none W3 hk3
      exact ⟨_, _, hr, .inl ⟨rfl, ⟨hI _ _ _ _ hi3 hg4 (hn hl3), hl4, hk4⟩, (hp2.trans hp3).trans hp4⟩⟩
    | ret =>
      obtain ⟨hk3, hi3⟩ := hp
      obtain ⟨W4, _, hr, hl3, hl4, hk4, hg4, hp4⟩ := fin (some .ret) W3 hk3
      exact ⟨_, _, hr, .inr ⟨rfl, hIx _ _ _ _ hi3 hg4 (hn hl3), hl4, hk4⟩⟩
    | exit id => exact hp.elim
    | goto t => exact hp.elim
    | panic ch => exact hp.elim
    | outgrown => exact hp.elim
  · rintro e W2 ⟨⟨v, rfl⟩, (⟨hi, hl, hk⟩ | ⟨pre, hi, hl, hk⟩)⟩
    · exact ⟨none, _, by have := run_endLoop (P := P) hl (by rw [hrec]; simp); rw [hrec] at this; exact this, hdone D _ _ (by omega) (hI _ _ _ _ hi (grownBy_putObj' W2 (D + 1) _) (hn hl)) ((World.putObj_heap_other (by omega)).trans hk) hfr⟩
    · exact ⟨some .ret, _, by have := run_endLoop (P := P) hl (by rw [hrec]; simp); rw [hrec] at this; exact this, wpIn_ret (hstop D pre _ _ (by omega) (hIx _ _ _ _ hi (grownBy_putObj' W2 (D + 1) _) (hn hl)) ((World.putObj_heap_other (by omega)).trans hk) hfr)⟩
theorem noOut_body {α : Type} {G : List Bk} {v : World} {I Ix : List α → World → Prop} {xs : List α} {W : World} : ¬ LetsOut (rPost G v I Ix xs W) := fun ⟨_, _, h⟩ => h
theorem noOut_assign {K : Act → World → Prop} : ¬ LetsOut (Exit.then K (fun _ _ _ => False)) := fun ⟨_, _, h⟩ => h
theorem pf_round {α : Type} {G : List Bk} {v : World} {I Ix : List α → World → Prop} {xs : List α} {W : World} : PanicFree (rPost G v I Ix xs W) := fun _ _ _ _ _ h => h
/-- The end of a round. -/
theorem r_end {α : Type} {G : List Bk} {I Ix : List α → World → Prop} {xs : List α} {W : World} {w0 : World} (hS : St ⟨w0, W⟩ L M w) (hk : KpG G W w) (hi : St ⟨w0, w0⟩ L M w → I xs w) : rPost G W I Ix xs W .normal a w := ⟨hS.others, hk, hi (St.first hS)⟩
theorem r_stop {α : Type} {G : List Bk} {I Ix : List α → World → Prop} {xs : List α} {W : World} {w0 : World} (hS : St ⟨w0, W⟩ L M w) (hi : St ⟨w0, w0⟩ L M w → Ix xs w) : rPost G W I Ix xs W .ret a w := ⟨hS.others, hi (St.first hS)⟩
/-- The start of a round. -/
theorem St.begin {w0 : Base} {W : World} (h : St w0 L M W) : St ⟨w0.w, W⟩ L M W := h.since (KeepsX.refl W)
end
/-! ### An iterator -/
section
variable {P : Program} {ops : Array Oper} {Q : Exit → Act → World → Prop} {n : Sz} {a : Act} {w : World} {w0 : Base} {F : Fm} {L : List Bk} {M : List Rw} {rest : List Oper} {m : Nat}
theorem wideIn {o : Oper} {next next' : Act → World → Prop} (hq : ¬ LetsOut Q) (hn : ∀ a w, next a w → next' a w) (h : o.wp P a w next Q) : o.wpIn Fence.wide m P a w next' Q := by
  refine ⟨fun _ _ => trivial, ?_⟩
  rw [show Oper.semAt Fence.wide.round a.eval o = execOp a.eval o from Oper.semAt_none _ _]
  unfold Oper.wp at h
  generalize (execOp a.eval o).run P w = r at h ⊢
  match r, h with
  | .ok (.value v) w', h => exact hn _ _ h
  | .ok .skip w', h => exact hn _ _ h
  | .ok (.defer d) w', h => exact hn _ _ h
  | .ok (.enter f args) w', h =>
    refine ⟨fun e => (by cases e), callsIn_wide.2 (Calls.mono h fun en w'' q => ?_)⟩
    cases en with
    | returned v => exact hn _ _ q
    | panicked c => exact q
    | outgrown => exact absurd q hq
  | .ok (.row row args) w', h => exact ⟨fun e => (by cases e), fun c cs _ => by
      obtain ⟨v, w'', r, s⟩ := h c cs
      exact ⟨v, w'', hn _ _ r, stepsIn_wide.2 s⟩⟩
  | .halt (.panic v) w', h => exact h
/-- A pure step ahead of a call of yield. -/
theorem y_one {d : Nat} {op : Op} {ty : TypeId} {pos : String} {aft : Array Edge} (v : Value) (hA : Fr n a F) (hS : St w0 L M w) (hg : Gives P F w0 L M op v) (hd : Nat.blt d n = true)
    (k : ∀ a', Fr n a' ((d, v) :: F) → wpListIn Fence.wide m P ops Q rest a' w) : wpListIn Fence.wide m P ops Q (⟨some d, op, ty, pos, aft, none⟩ :: rest) a w := by
  unfold wpListIn
  rw [if_pos (by rfl)]
  refine ⟨fun _ _ => trivial, ?_⟩
  rw [show Oper.semAt Fence.wide.round a.eval _ = execOp a.eval _ from Oper.semAt_none _ _, hg n a w hA hS]
  exact k _ (hA.put (blt_lt hd) v)
theorem y_nil (h : Q .normal a w) : wpListIn Fence.wide m P ops Q [] a w := h
/-- The call of yield. -/
theorem y_call {d : Nat} {fx : Operand} {args : List Operand} {ats : Array TypeId} {ty : TypeId} {pos : String} {aft : Array Edge} {r : List (Nat × Value)} {l : Nat} (av : Array Value) {R : Ending → World → Prop} (hA : Fr n a F)
    (hy : YieldAt Fence.wide (m - 1) P l av w R) (hR : ∀ e w, R e w → ∃ v, e = .returned v) (hf : evO F fx = some (.func (.yield l) #[] #[])) (hr : evL F (args.map fun x => (0, x)) = some r) (hav : (r.map (·.2)).toArray = av) (hd : Nat.blt d n = true)
    (k : ∀ v a' w', R (.returned v) w' → Fr n a' ((d, v) :: F) → wpListIn Fence.wide m P ops Q rest a' w') : wpListIn Fence.wide m P ops Q (⟨some d, .call ⟨.value fx, args.toArray, ats⟩, ty, pos, aft, none⟩ :: rest) a w := by
  obtain ⟨fn, tmps, assign, body, hy, hRI⟩ := hy
  unfold wpListIn
  rw [if_pos (by rfl)]
  refine ⟨fun _ _ => trivial, ?_⟩
  rw [show Oper.semAt Fence.wide.round a.eval _ = execOp a.eval _ from Oper.semAt_none _ _]
  have e : (execOp a.eval ⟨some d, .call ⟨.value fx, args.toArray, ats⟩, ty, pos, aft, none⟩).run P w = .ok (.round l fn tmps assign body) w := by
    simp only [execOp, resolve, hA.ev hf, Deferred.ofValue, invoke, List.map_toArray, evA_map hA hr, Sem.run_bind, Sem.run_pure, Result.andThen_ok, hav, Array.empty_append]
    exact hy
  rw [e, Oper.uponIn_round]
  refine ⟨fun h => (by cases h), hRI.mono fun en w' hr' => ?_⟩
  obtain ⟨v, rfl⟩ := hR _ _ hr'
  exact k v _ w' hr' (hA.put (blt_lt hd) v)
theorem y_region {id : Nat} {ls : List Oper} (h : wpListIn Fence.wide 2 P ls.toArray Q ls a w) : (Code.region id ls.toArray false).wp P Q a w := (wpIn_wide (n := 2)).1 (wpIn_region_lit h)
end
end Go.Proofs.Ytcijkniijomcjaa
