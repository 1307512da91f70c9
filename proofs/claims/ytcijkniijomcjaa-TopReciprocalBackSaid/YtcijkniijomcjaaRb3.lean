/- Texts of the proof of TopReciprocalBack, put together (part 3): Mat4, Mx, Mx5. -/
import Derived.Test.YtcijkniijomcjaaRb2
namespace Go.Proofs.Ytcijkniijomcjaa
open Go.RowKit Go.Cpl
theorem ix_xarr {P : Program} {t : TypeId} {ad : Addr} {x y len size : Nat} {i : Int} (k : Nat) (hl : arrLen P t = some (len, size)) (hi : i = (k : Int)) (hk : k < len) (hy : y = x + k * size) (w : World) : (Instr.indexAt t (.pointer (some (ad.add x))) (.int .i64 i)).run P w = .ok (.pointer (some (ad.add y))) w := by
  subst hy
  unfold arrLen at hl
  split at hl
  · rename_i ln e hu
    cases hI : P.info? e with
    | none => rw [hI] at hl; cases hl
    | some ti =>
      rw [hI] at hl
      simp only [Option.map_some, Option.some.injEq, Prod.mk.injEq] at hl
      obtain ⟨rfl, rfl⟩ := hl
      subst hi
      simp [Instr.indexAt, asIntOf, run_underlying hu, Instr.sureAddr, sizeOf, typeInfo, hI, Addr.add_add]
      intro h; omega
  · cases hl
theorem St.perm {w0 : Base} {w : World} {L L' : List Bk} {M : List Rw} (h : St w0 L M w) (p : L.Perm L') : St w0 L' M w :=
  ⟨h.kq, fun b hb => h.blk b (p.mem_iff.2 hb), fun b hb => h.own b (p.mem_iff.2 hb), h.apart.perm p (fun q o e => q o.symm e.symm), h.rows, fun r hr b hb => h.rb r hr b (p.mem_iff.2 hb), h.rr⟩
theorem sq3 {el : Int} (h : 1 ≤ el ∧ el ≤ 3) : 0 ≤ el * el ∧ el * el ≤ 9 := by
  have a := Int.mul_le_mul h.2 h.2 (by omega) (by omega)
  have b := Int.mul_nonneg (show 0 ≤ el by omega) (show 0 ≤ el by omega)
  omega
section
variable {P : Program} {ops : Array Oper} {Q : Exit → Act → World → Prop} {n : Sz} {a : Act} {w : World} {w0 : Base} {F : Fm} {L : List Bk} {M : List Rw} {rest : List Oper}
theorem s_callRY {d : Nat} {f : FuncId} {fx : Operand} {args : List Operand} {ats : Array TypeId} {ty : TypeId} {pos : String} {aft : Array Edge} {fs cp : Array Value} {r : List (Nat × Value)} (sh : Value → Value) (av : Array Value) {T : Type} (p : T → Prop) {e : TypeId} {size : Nat} (m : T → Nat) (xs : T → List Value) (hA : Fr n a F) (hS : St w0 L M w)
    (hc : Calls P f av w fun en w' => ∃ u, p u ∧ ∃ v, en = .returned (sh v) ∧ Below w.heap.size w w' ∧ w'.ownsRow w.heap.size e size v (m u) (xs u)) (hcall : ∀ (vs : Array Value) (w : World), (callFunc f vs).run P w = .ok (.enter f vs) w)
    (hf : evO F fx = some (.func (.func f) fs cp)) (hr : evL F (args.map fun x => (0, x)) = some r) (hav : fs ++ (r.map (·.2)).toArray ++ cp = av) (hd : Nat.blt d n = true)
    (k : ∀ u, p u → ∀ v a' w', Fr n a' ((d, sh v) :: F) → St w0 L (⟨v, e, size, m u, xs u⟩ :: M) w' → wpList P ops Q rest a' w') : wpList P ops Q (⟨some d, .call ⟨.value fx, args.toArray, ats⟩, ty, pos, aft, none⟩ :: rest) a w := by
  refine wpList_plain rfl fun K hK => ?_
  unfold Oper.wp
  rw [run_call hA hf hr hav hcall]
  refine hc.mono fun en w' ⟨u, hu, v, he, hb, ho⟩ => ?_
  subst he
  exact hK _ _ (k u hu v _ w' (hA.put (blt_lt hd) _) (hS.gotRow hb ho))
end
set_option maxRecDepth 100000 in
set_option maxHeartbeats 400000 in
theorem Matrix_s (el : Int) (SA : Option Addr) (sn scap : Nat) (sl : List Int) (RA : Option Addr) (rn rcap : Nat) (rl : List Nat) (mo : Int) (w0 : World) (hsn : sl.length = sn * 2) (hsr : IReads w0 SA sl) (hrn : rl.length = rn) (hrr : FReads w0 RA rl) (hs9 : sn ≤ 1000) (hr9 : rn ≤ 1000) :
    Calls Try.prog 13 #[.agg #[.int .i64 el, .slice SA sn scap, .slice RA rn rcap, .int .i64 mo]] w0 fun e w' => ∃ xs : List Nat, xs.length ≤ 600 ∧ ∃ v, e = .returned (.agg #[.int .i64 el, v]) ∧ Below w0.heap.size w0 w' ∧ w'.ownsRow w0.heap.size 36 1 v xs.length (rowF xs) := by
  have S0 := St.start w0
  have hm0 : -1 ≤ mx (-1) (mn 1 mo) ∧ mx (-1) (mn 1 mo) ≤ 1 := by rw [mx_eq, mn_eq]; omega
  refine enter (n := 87) Try.func13 rfl rfl rfl (fun ac A0 => ?_)
  refine wp_seq ?_
  refine wp_region_lit ?_
  refine s_box (.agg #[.int .i64 el, .slice SA sn scap, .slice RA rn rcap, .int .i64 mo]) A0 S0 (by kernel_rfl) rfl (fun g3 ac wc A1 S2 => ?_)
  replace S2 : St _ (⟨g3, 25, #[.int .i64 el, .slice SA sn scap, .slice RA rn rcap, .int .i64 mo], true⟩ :: _) _ _ := S2
  refine s_alloc (#[.int .i64 0, .slice none 0 0]) A1 S2 (by kernel_rfl) rfl (fun g7 ac wc A5 S6 => ?_)
  refine wpList_nil ?_
  refine n_then ?_
  refine wp_seq ?_
  refine wp_region_lit ?_
  refine s_one (.pointer (some ⟨g3, 3, none⟩)) A5 S6 (g_field (u := .pointer (some ⟨g3, 0, none⟩)) (by kernel_rfl) (fun _ => by kernel_rfl)) rfl (fun ac A8 => ?_)
  refine s_one (.int .i64 mo) A8 S6 (g_load (g := g3) (off := 3) 1 (by kernel_rfl) rfl (by kernel_rfl)) rfl (fun ac A9 => ?_)
  refine s_one (.int .i64 (mn 1 mo)) A9 S6 (g_built (r := [(0, .int .i64 1), (0, .int .i64 mo)]) (by kernel_rfl) (fun ty cs w => by show (do let x ← Builtin.min_ _ ty #[.int .i64 1, .int .i64 mo]; pure (Next.value x) : Sem Next).run _ w = _; rw [Sem.run_bind, run_min_mn]; rfl)) rfl (fun ac A10 => ?_)
  refine s_one (.int .i64 (mx (-1) (mn 1 mo))) A10 S6 (g_built (r := [(0, .int .i64 (-1)), (0, .int .i64 (mn 1 mo))]) (by kernel_rfl) (fun ty cs w => by show (do let x ← Builtin.max_ _ ty #[.int .i64 (-1), .int .i64 (mn 1 mo)]; pure (Next.value x) : Sem Next).run _ w = _; rw [Sem.run_bind, run_max_mx]; rfl)) rfl (fun ac A11 => ?_)
  refine s_one (.int .i64 (mx (-1) (mn 1 mo))) A11 S6 (g_assign (by kernel_rfl)) rfl (fun ac A12 => ?_)
  refine wpList_nil ?_
  refine n_then ?_
  refine wp_seq ?_
  refine wp_seq ?_
  refine wp_region_lit ?_
  refine s_one (.pointer (some ⟨g3, 0, none⟩)) A12 S6 (g_field (u := .pointer (some ⟨g3, 0, none⟩)) (by kernel_rfl) (fun _ => by kernel_rfl)) rfl (fun ac A13 => ?_)
  refine s_one (.int .i64 el) A13 S6 (g_load (g := g3) (off := 0) 1 (by kernel_rfl) rfl (by kernel_rfl)) rfl (fun ac A14 => ?_)
  refine s_call (fs := #[]) (cp := #[]) (r := [(0, .int .i64 el), (0, .int .i64 1), (0, .int .i64 3)]) #[.int .i64 el, .int .i64 1, .int .i64 3] (.bool (inB el 1 3)) A14 S6 (sameB (Within_any el 1 3 _)) Try.call39 (by kernel_rfl) (by kernel_rfl) (by kernel_rfl) rfl (fun ac wc A15 S16 => ?_)
  refine wpList_nil ?_
  refine n_then ?_
  refine c_ifb (b := (inB el 1 3)) A15 (by kernel_rfl) (fun h18 => ?_) (fun h18 => ?_)
  · have hel := inB_true.1 h18
    have hsq := sq3 hel
    refine wp_region_lit ?_
    refine s_one (.int .i64 (mx (-1) (mn 1 mo))) A15 S16 (g_move (by kernel_rfl)) rfl (fun ac A19 => ?_)
    refine s_one (.pointer (some ⟨g3, 0, none⟩)) A19 S16 (g_field (u := .pointer (some ⟨g3, 0, none⟩)) (by kernel_rfl) (fun _ => by kernel_rfl)) rfl (fun ac A20 => ?_)
    refine s_one (.int .i64 el) A20 S16 (g_load (g := g3) (off := 0) 1 (by kernel_rfl) rfl (by kernel_rfl)) rfl (fun ac A21 => ?_)
    refine s_one (.pointer (some ⟨g3, 0, none⟩)) A21 S16 (g_field (u := .pointer (some ⟨g3, 0, none⟩)) (by kernel_rfl) (fun _ => by kernel_rfl)) rfl (fun ac A22 => ?_)
    refine s_one (.int .i64 el) A22 S16 (g_load (g := g3) (off := 0) 1 (by kernel_rfl) rfl (by kernel_rfl)) rfl (fun ac A23 => ?_)
    refine s_one (.int .i64 (el * el)) A23 S16 (g_bin (u := .int .i64 el) (k := .int .i64 el) (by kernel_rfl) (by kernel_rfl) (fun _ => by kernel_rfl) (b_mul (by omega))) rfl (fun ac A24 => ?_)
    refine s_one (.int .i64 ((el * el) * 64)) A24 S16 (g_bin (u := .int .i64 (el * el)) (k := .int .i64 64) (by kernel_rfl) (by kernel_rfl) (fun _ => by kernel_rfl) (b_mul (by omega))) rfl (fun ac A25 => ?_)
    refine s_one (.int .i64 (mx (-1) (mn 1 mo) + ((el * el) * 64))) A25 S16 (g_bin (u := .int .i64 (mx (-1) (mn 1 mo))) (k := .int .i64 ((el * el) * 64)) (by kernel_rfl) (by kernel_rfl) (fun _ => by kernel_rfl) (b_add (by omega))) rfl (fun ac A26 => ?_)
    refine s_one (.int .i64 (mx (-1) (mn 1 mo) + ((el * el) * 64))) A26 S16 (g_assign (by kernel_rfl)) rfl (fun ac A27 => ?_)
    refine wpList_nil ?_
    refine n_then ?_
    refine wp_seq ?_
    obtain ⟨N, hN⟩ : ∃ N : Nat, mx 0 (mx (-1) (mn 1 mo) + ((el * el) * 64)) = (N : Int) := ⟨(mx 0 (mx (-1) (mn 1 mo) + ((el * el) * 64))).toNat, by rw [mx_eq]; omega⟩
    have hN2 : N ≤ 600 := by rw [mx_eq 0] at hN; omega
    refine c_cut (fun ac wc => ∃ (g28 : Nat) (g29 : Nat), Fr 87 ac [(0, .agg #[.int .i64 el, .slice SA sn scap, .slice RA rn rcap, .int .i64 mo]), (1, .pointer (some ⟨g3, 0, none⟩)), (2, .pointer (some ⟨g7, 0, none⟩)), (7, .pointer (some ⟨g3, 3, none⟩)), (8, .int .i64 mo), (9, .int .i64 (mn 1 mo)), (10, .int .i64 (mx (-1) (mn 1 mo))), (3, .int .i64 (mx (-1) (mn 1 mo) + ((el * el) * 64))), (11, .pointer (some ⟨g3, 0, none⟩)), (12, .int .i64 el), (13, .bool (inB el 1 3)), (14, .int .i64 (mx (-1) (mn 1 mo))), (15, .pointer (some ⟨g3, 0, none⟩)), (16, .int .i64 el), (17, .pointer (some ⟨g3, 0, none⟩)), (18, .int .i64 el), (19, .int .i64 (el * el)), (20, .int .i64 ((el * el) * 64)), (21, .int .i64 (mx (-1) (mn 1 mo) + ((el * el) * 64))), (4, .pointer (some ⟨g28, 0, none⟩))] ∧ St w0 [⟨g28, 30, #[.int .i64 el, .slice (some ⟨g29, 0, none⟩) N N], true⟩, ⟨g29, 36, (trc (List.replicate N 0)), true⟩, ⟨g7, 30, #[.int .i64 0, .slice none 0 0], true⟩, ⟨g3, 25, #[.int .i64 el, .slice SA sn scap, .slice RA rn rcap, .int .i64 mo], true⟩] [] wc) ?_ ?_
    · refine r_begin (w0 := w0) (by kernel_rfl) (S16.sub sub_all sub_all) (fun wc T30 B31 => ?_)
      have S32 := S16.kept B31
      refine r_take 0 (.pointer (some ⟨g3, 0, none⟩)) A27 T30 (g_field (u := .pointer (some ⟨g3, 0, none⟩)) (by kernel_rfl) (fun _ => by kernel_rfl)) rfl rfl rfl (pf_then (pf_then pf_body)) (by kernel_rfl) (fun ac A33 => ?_)
      refine r_take 1 (.int .i64 el) A33 T30 (g_load (g := g3) (off := 0) 1 (by kernel_rfl) rfl (by kernel_rfl)) rfl rfl rfl (pf_then (pf_then pf_body)) (by kernel_rfl) (fun ac A34 => ?_)
      refine r_take 2 (.int .i64 (mx (-1) (mn 1 mo) + ((el * el) * 64))) A34 T30 (g_move (by kernel_rfl)) rfl rfl rfl (pf_then (pf_then pf_body)) (by kernel_rfl) (fun ac A35 => ?_)
      refine r_take 3 (.int .i64 (mx 0 (mx (-1) (mn 1 mo) + ((el * el) * 64)))) A35 T30 (g_built (r := [(0, .int .i64 0), (0, .int .i64 (mx (-1) (mn 1 mo) + ((el * el) * 64)))]) (by kernel_rfl) (fun ty cs w => by show (do let x ← Builtin.max_ _ ty #[.int .i64 0, .int .i64 (mx (-1) (mn 1 mo) + ((el * el) * 64))]; pure (Next.value x) : Sem Next).run _ w = _; rw [Sem.run_bind, run_max_mx]; rfl)) rfl rfl rfl (pf_then (pf_then pf_body)) (by kernel_rfl) (fun ac A36 => ?_)
      refine r_2 (i := 4) (j := 6) (by kernel_rfl) ?_ ?_
      · refine rs_make (e := 36) (bytes := 4) N A36 S32 sub_all sub_all (by kernel_rfl) (by kernel_rfl) (by kernel_rfl) (by kernel_rfl) hN hN (by omega) (by omega) rfl rfl rfl (fun g39 ac wc A37 S38 => ?_)
        have T40 := S38.sub (sub_skip sub_all) sub_all
        refine r_take 5 (.agg #[.int .i64 el, .slice (some ⟨g39, 0, none⟩) N N]) A37 T40 (g_build (r := [(0, .int .i64 el), (1, .slice (some ⟨g39, 0, none⟩) N N)]) (by kernel_rfl) (fun _ => by kernel_rfl)) rfl rfl rfl (pf_then (pf_then pf_body)) (by kernel_rfl) (fun ac A41 => ?_)
        refine r_1 (i := 6) (by kernel_rfl) ?_
        refine rs_alloc (#[.int .i64 0, .slice none 0 0]) A41 S38 (sub_skip sub_all) sub_all (by kernel_rfl) rfl rfl rfl (fun g44 ac wc A42 S43 => ?_)
        have T45 := S43.sub (sub_skip (sub_skip sub_all)) sub_all
        refine r_1 (i := 7) (by kernel_rfl) ?_
        refine rs_store (g := g44) (off := 0) (v := .agg #[.int .i64 el, .slice (some ⟨g39, 0, none⟩) N N]) 0 (#[.int .i64 el, .slice (some ⟨g39, 0, none⟩) N N]) A42 S43 (sub_skip (sub_skip sub_all)) sub_all (by kernel_rfl) (by kernel_rfl) rfl (by kernel_rfl) rfl rfl (fun wc S47 => ?_)
        have T49 := S47.sub (sub_skip (sub_skip sub_all)) sub_all
        refine r_done (by kernel_rfl) ?_
        refine n_then ?_
        exact ⟨g44, g39, (A42.slot (A42.slot (A42.slot (A42.slot (A42.slot (A42.slot (A42.slot (A42.slot (A42.slot (A42.slot (A42.slot (A42.slot (A42.slot (A42.slot (A42.slot (A42.slot (A42.slot (A42.slot (A42.slot (A42.slot A42.nil (v := .pointer (some ⟨g44, 0, none⟩)) (by kernel_rfl) rfl) (v := .int .i64 (mx (-1) (mn 1 mo) + ((el * el) * 64))) (by kernel_rfl) rfl) (v := .int .i64 ((el * el) * 64)) (by kernel_rfl) rfl) (v := .int .i64 (el * el)) (by kernel_rfl) rfl) (v := .int .i64 el) (by kernel_rfl) rfl) (v := .pointer (some ⟨g3, 0, none⟩)) (by kernel_rfl) rfl) (v := .int .i64 el) (by kernel_rfl) rfl) (v := .pointer (some ⟨g3, 0, none⟩)) (by kernel_rfl) rfl) (v := .int .i64 (mx (-1) (mn 1 mo))) (by kernel_rfl) rfl) (v := .bool (inB el 1 3)) (by kernel_rfl) rfl) (v := .int .i64 el) (by kernel_rfl) rfl) (v := .pointer (some ⟨g3, 0, none⟩)) (by kernel_rfl) rfl) (v := .int .i64 (mx (-1) (mn 1 mo) + ((el * el) * 64))) (by kernel_rfl) rfl) (v := .int .i64 (mx (-1) (mn 1 mo))) (by kernel_rfl) rfl) (v := .int .i64 (mn 1 mo)) (by kernel_rfl) rfl) (v := .int .i64 mo) (by kernel_rfl) rfl) (v := .pointer (some ⟨g3, 3, none⟩)) (by kernel_rfl) rfl) (v := .pointer (some ⟨g7, 0, none⟩)) (by kernel_rfl) rfl) (v := .pointer (some ⟨g3, 0, none⟩)) (by kernel_rfl) rfl) (v := .agg #[.int .i64 el, .slice SA sn scap, .slice RA rn rcap, .int .i64 mo]) (by kernel_rfl) rfl), S47.sub sub_all sub_all⟩
      · refine rs_alloc (#[.int .i64 0, .slice none 0 0]) A36 S32 sub_all sub_all (by kernel_rfl) rfl rfl rfl (fun g52 ac wc A50 S51 => ?_)
        have T53 := S51.sub (sub_skip sub_all) sub_all
        refine r_1 (i := 4) (by kernel_rfl) ?_
        refine rs_make (e := 36) (bytes := 4) N A50 S51 (sub_skip sub_all) sub_all (by kernel_rfl) (by kernel_rfl) (by kernel_rfl) (by kernel_rfl) hN hN (by omega) (by omega) rfl rfl rfl (fun g56 ac wc A54 S55 => ?_)
        have T57 := S55.sub (sub_skip (sub_skip sub_all)) sub_all
        refine r_take 5 (.agg #[.int .i64 el, .slice (some ⟨g56, 0, none⟩) N N]) A54 T57 (g_build (r := [(0, .int .i64 el), (1, .slice (some ⟨g56, 0, none⟩) N N)]) (by kernel_rfl) (fun _ => by kernel_rfl)) rfl rfl rfl (pf_then (pf_then pf_body)) (by kernel_rfl) (fun ac A58 => ?_)
        refine r_1 (i := 7) (by kernel_rfl) ?_
        refine rs_store (g := g52) (off := 0) (v := .agg #[.int .i64 el, .slice (some ⟨g56, 0, none⟩) N N]) 1 (#[.int .i64 el, .slice (some ⟨g56, 0, none⟩) N N]) A58 S55 (sub_skip (sub_skip sub_all)) sub_all (by kernel_rfl) (by kernel_rfl) rfl (by kernel_rfl) rfl rfl (fun wc S60 => ?_)
        have T62 := S60.sub (sub_skip (sub_skip sub_all)) sub_all
        refine r_done (by kernel_rfl) ?_
        refine n_then ?_
        exact ⟨g52, g56, (A58.slot (A58.slot (A58.slot (A58.slot (A58.slot (A58.slot (A58.slot (A58.slot (A58.slot (A58.slot (A58.slot (A58.slot (A58.slot (A58.slot (A58.slot (A58.slot (A58.slot (A58.slot (A58.slot (A58.slot A58.nil (v := .pointer (some ⟨g52, 0, none⟩)) (by kernel_rfl) rfl) (v := .int .i64 (mx (-1) (mn 1 mo) + ((el * el) * 64))) (by kernel_rfl) rfl) (v := .int .i64 ((el * el) * 64)) (by kernel_rfl) rfl) (v := .int .i64 (el * el)) (by kernel_rfl) rfl) (v := .int .i64 el) (by kernel_rfl) rfl) (v := .pointer (some ⟨g3, 0, none⟩)) (by kernel_rfl) rfl) (v := .int .i64 el) (by kernel_rfl) rfl) (v := .pointer (some ⟨g3, 0, none⟩)) (by kernel_rfl) rfl) (v := .int .i64 (mx (-1) (mn 1 mo))) (by kernel_rfl) rfl) (v := .bool (inB el 1 3)) (by kernel_rfl) rfl) (v := .int .i64 el) (by kernel_rfl) rfl) (v := .pointer (some ⟨g3, 0, none⟩)) (by kernel_rfl) rfl) (v := .int .i64 (mx (-1) (mn 1 mo) + ((el * el) * 64))) (by kernel_rfl) rfl) (v := .int .i64 (mx (-1) (mn 1 mo))) (by kernel_rfl) rfl) (v := .int .i64 (mn 1 mo)) (by kernel_rfl) rfl) (v := .int .i64 mo) (by kernel_rfl) rfl) (v := .pointer (some ⟨g3, 3, none⟩)) (by kernel_rfl) rfl) (v := .pointer (some ⟨g7, 0, none⟩)) (by kernel_rfl) rfl) (v := .pointer (some ⟨g3, 0, none⟩)) (by kernel_rfl) rfl) (v := .agg #[.int .i64 el, .slice SA sn scap, .slice RA rn rcap, .int .i64 mo]) (by kernel_rfl) rfl), (St.perm S60 (List.Perm.swap _ _ _)).sub sub_all sub_all⟩
    · rintro ac wc ⟨g28, g29, A63, S64⟩
      refine n_then ?_
      refine wp_seq ?_
      refine wp_seq ?_
      refine wp_region_lit ?_
      refine s_one (.int .i64 0) A63 S64 (g_assign (by kernel_rfl)) rfl (fun ac A65 => ?_)
      refine wpList_nil ?_
      refine n_then ?_
      refine wp_block ?_
      refine c_loopN (fun mm ac wc => ∃ (k : Nat) (xs : List Nat), mm = sn - k ∧ (k ≤ sn) ∧ (xs.length = N) ∧ Fr 87 ac [(0, .agg #[.int .i64 el, .slice SA sn scap, .slice RA rn rcap, .int .i64 mo]), (1, .pointer (some ⟨g3, 0, none⟩)), (2, .pointer (some ⟨g7, 0, none⟩)), (7, .pointer (some ⟨g3, 3, none⟩)), (8, .int .i64 mo), (9, .int .i64 (mn 1 mo)), (10, .int .i64 (mx (-1) (mn 1 mo))), (3, .int .i64 (mx (-1) (mn 1 mo) + ((el * el) * 64))), (11, .pointer (some ⟨g3, 0, none⟩)), (12, .int .i64 el), (13, .bool (inB el 1 3)), (14, .int .i64 (mx (-1) (mn 1 mo))), (15, .pointer (some ⟨g3, 0, none⟩)), (16, .int .i64 el), (17, .pointer (some ⟨g3, 0, none⟩)), (18, .int .i64 el), (19, .int .i64 (el * el)), (20, .int .i64 ((el * el) * 64)), (21, .int .i64 (mx (-1) (mn 1 mo) + ((el * el) * 64))), (4, .pointer (some ⟨g28, 0, none⟩)), (5, .int .i64 (k : Int))] ∧ St w0 [⟨g28, 30, #[.int .i64 el, .slice (some ⟨g29, 0, none⟩) N N], true⟩, ⟨g29, 36, (trc xs), true⟩, ⟨g7, 30, #[.int .i64 0, .slice none 0 0], true⟩, ⟨g3, 25, #[.int .i64 el, .slice SA sn scap, .slice RA rn rcap, .int .i64 mo], true⟩] [] wc) _ ⟨0, (List.replicate N 0), rfl, (by omega), (List.length_replicate), (A65.slot (A65.slot (A65.slot (A65.slot (A65.slot (A65.slot (A65.slot (A65.slot (A65.slot (A65.slot (A65.slot (A65.slot (A65.slot (A65.slot (A65.slot (A65.slot (A65.slot (A65.slot (A65.slot (A65.slot (A65.slot A65.nil (v := .int .i64 0) (by kernel_rfl) (congrArg (Value.int .i64) (by omega))) (v := .pointer (some ⟨g28, 0, none⟩)) (by kernel_rfl) rfl) (v := .int .i64 (mx (-1) (mn 1 mo) + ((el * el) * 64))) (by kernel_rfl) rfl) (v := .int .i64 ((el * el) * 64)) (by kernel_rfl) rfl) (v := .int .i64 (el * el)) (by kernel_rfl) rfl) (v := .int .i64 el) (by kernel_rfl) rfl) (v := .pointer (some ⟨g3, 0, none⟩)) (by kernel_rfl) rfl) (v := .int .i64 el) (by kernel_rfl) rfl) (v := .pointer (some ⟨g3, 0, none⟩)) (by kernel_rfl) rfl) (v := .int .i64 (mx (-1) (mn 1 mo))) (by kernel_rfl) rfl) (v := .bool (inB el 1 3)) (by kernel_rfl) rfl) (v := .int .i64 el) (by kernel_rfl) rfl) (v := .pointer (some ⟨g3, 0, none⟩)) (by kernel_rfl) rfl) (v := .int .i64 (mx (-1) (mn 1 mo) + ((el * el) * 64))) (by kernel_rfl) rfl) (v := .int .i64 (mx (-1) (mn 1 mo))) (by kernel_rfl) rfl) (v := .int .i64 (mn 1 mo)) (by kernel_rfl) rfl) (v := .int .i64 mo) (by kernel_rfl) rfl) (v := .pointer (some ⟨g3, 3, none⟩)) (by kernel_rfl) rfl) (v := .pointer (some ⟨g7, 0, none⟩)) (by kernel_rfl) rfl) (v := .pointer (some ⟨g3, 0, none⟩)) (by kernel_rfl) rfl) (v := .agg #[.int .i64 el, .slice SA sn scap, .slice RA rn rcap, .int .i64 mo]) (by kernel_rfl) rfl), (St.recell 1 S64 rfl (by rfl)).sub sub_all sub_all⟩ ?_
      rintro mm ac wc ⟨k, xs, hm68, hkk, hl, A66, S67⟩
      refine wp_seq ?_
      refine wp_seq ?_
      refine c_cut (fun ac wc => Fr 87 ac [(38, .bool ((decide ((k : Int) < (sn : Int))) && (decide ((N : Int) > 0)))), (0, .agg #[.int .i64 el, .slice SA sn scap, .slice RA rn rcap, .int .i64 mo]), (1, .pointer (some ⟨g3, 0, none⟩)), (2, .pointer (some ⟨g7, 0, none⟩)), (7, .pointer (some ⟨g3, 3, none⟩)), (8, .int .i64 mo), (9, .int .i64 (mn 1 mo)), (10, .int .i64 (mx (-1) (mn 1 mo))), (3, .int .i64 (mx (-1) (mn 1 mo) + ((el * el) * 64))), (11, .pointer (some ⟨g3, 0, none⟩)), (12, .int .i64 el), (13, .bool (inB el 1 3)), (14, .int .i64 (mx (-1) (mn 1 mo))), (15, .pointer (some ⟨g3, 0, none⟩)), (16, .int .i64 el), (17, .pointer (some ⟨g3, 0, none⟩)), (18, .int .i64 el), (19, .int .i64 (el * el)), (20, .int .i64 ((el * el) * 64)), (21, .int .i64 (mx (-1) (mn 1 mo) + ((el * el) * 64))), (4, .pointer (some ⟨g28, 0, none⟩)), (5, .int .i64 (k : Int))] ∧ St w0 [⟨g28, 30, #[.int .i64 el, .slice (some ⟨g29, 0, none⟩) N N], true⟩, ⟨g29, 36, (trc xs), true⟩, ⟨g7, 30, #[.int .i64 0, .slice none 0 0], true⟩, ⟨g3, 25, #[.int .i64 el, .slice SA sn scap, .slice RA rn rcap, .int .i64 mo], true⟩] [] wc) ?_ ?_
      · refine wp_region_lit ?_
        refine s_one (.int .i64 (k : Int)) A66 S67 (g_move (by kernel_rfl)) rfl (fun ac A69 => ?_)
        refine s_one (.pointer (some ⟨g3, 1, none⟩)) A69 S67 (g_field (u := .pointer (some ⟨g3, 0, none⟩)) (by kernel_rfl) (fun _ => by kernel_rfl)) rfl (fun ac A70 => ?_)
        refine s_one (.slice SA sn scap) A70 S67 (g_load (g := g3) (off := 1) 3 (by kernel_rfl) rfl (by kernel_rfl)) rfl (fun ac A71 => ?_)
        refine s_one (.int .i64 (sn : Int)) A71 S67 (g_built (r := [(0, .slice SA sn scap)]) (by kernel_rfl) (fun _ _ _ => by kernel_rfl)) rfl (fun ac A72 => ?_)
        refine s_one (.bool (decide ((k : Int) < (sn : Int)))) A72 S67 (g_bin (u := .int .i64 (k : Int)) (k := .int .i64 (sn : Int)) (by kernel_rfl) (by kernel_rfl) (fun _ => by kernel_rfl) (fun _ => by kernel_rfl)) rfl (fun ac A73 => ?_)
        refine s_one (.bool (decide ((k : Int) < (sn : Int)))) A73 S67 (g_move (by kernel_rfl)) rfl (fun ac A74 => ?_)
        refine by_bool (decide ((k : Int) < (sn : Int))) (fun h75 => ?_) (fun h75 => ?_)
        · have p76 := of_decide_eq_true h75
          refine s_want (dj := 33) (b := (decide ((k : Int) < (sn : Int)))) A74 (by kernel_rfl) (by kernel_rfl) h75 ?_
          refine s_one (.pointer (some ⟨g28, 1, none⟩)) A74 S67 (g_field (u := .pointer (some ⟨g28, 0, none⟩)) (by kernel_rfl) (fun _ => by kernel_rfl)) rfl (fun ac A77 => ?_)
          refine s_want (dj := 33) (b := (decide ((k : Int) < (sn : Int)))) A77 (by kernel_rfl) (by kernel_rfl) h75 ?_
          refine s_one (.slice (some ⟨g29, 0, none⟩) N N) A77 S67 (g_load (g := g28) (off := 1) 0 (by kernel_rfl) rfl (by kernel_rfl)) rfl (fun ac A78 => ?_)
          refine s_want (dj := 33) (b := (decide ((k : Int) < (sn : Int)))) A78 (by kernel_rfl) (by kernel_rfl) h75 ?_
          refine s_one (.int .i64 (N : Int)) A78 S67 (g_built (r := [(0, .slice (some ⟨g29, 0, none⟩) N N)]) (by kernel_rfl) (fun _ _ _ => by kernel_rfl)) rfl (fun ac A79 => ?_)
          refine s_want (dj := 33) (b := (decide ((k : Int) < (sn : Int)))) A79 (by kernel_rfl) (by kernel_rfl) h75 ?_
          refine s_one (.bool (decide ((N : Int) > 0))) A79 S67 (g_bin (u := .int .i64 (N : Int)) (k := .int .i64 0) (by kernel_rfl) (by kernel_rfl) (fun _ => by kernel_rfl) (fun _ => by kernel_rfl)) rfl (fun ac A80 => ?_)
          refine s_one (.bool (decide ((N : Int) > 0))) A80 S67 (g_pick_t (b := (decide ((k : Int) < (sn : Int)))) (by kernel_rfl) h75 (by kernel_rfl)) rfl (fun ac A81 => ?_)
          refine wpList_nil ?_
          refine n_then ?_
          exact ⟨(A81.slot (A81.slot (A81.slot (A81.slot (A81.slot (A81.slot (A81.slot (A81.slot (A81.slot (A81.slot (A81.slot (A81.slot (A81.slot (A81.slot (A81.slot (A81.slot (A81.slot (A81.slot (A81.slot (A81.slot (A81.slot (A81.slot A81.nil (v := .int .i64 (k : Int)) (by kernel_rfl) rfl) (v := .pointer (some ⟨g28, 0, none⟩)) (by kernel_rfl) rfl) (v := .int .i64 (mx (-1) (mn 1 mo) + ((el * el) * 64))) (by kernel_rfl) rfl) (v := .int .i64 ((el * el) * 64)) (by kernel_rfl) rfl) (v := .int .i64 (el * el)) (by kernel_rfl) rfl) (v := .int .i64 el) (by kernel_rfl) rfl) (v := .pointer (some ⟨g3, 0, none⟩)) (by kernel_rfl) rfl) (v := .int .i64 el) (by kernel_rfl) rfl) (v := .pointer (some ⟨g3, 0, none⟩)) (by kernel_rfl) rfl) (v := .int .i64 (mx (-1) (mn 1 mo))) (by kernel_rfl) rfl) (v := .bool (inB el 1 3)) (by kernel_rfl) rfl) (v := .int .i64 el) (by kernel_rfl) rfl) (v := .pointer (some ⟨g3, 0, none⟩)) (by kernel_rfl) rfl) (v := .int .i64 (mx (-1) (mn 1 mo) + ((el * el) * 64))) (by kernel_rfl) rfl) (v := .int .i64 (mx (-1) (mn 1 mo))) (by kernel_rfl) rfl) (v := .int .i64 (mn 1 mo)) (by kernel_rfl) rfl) (v := .int .i64 mo) (by kernel_rfl) rfl) (v := .pointer (some ⟨g3, 3, none⟩)) (by kernel_rfl) rfl) (v := .pointer (some ⟨g7, 0, none⟩)) (by kernel_rfl) rfl) (v := .pointer (some ⟨g3, 0, none⟩)) (by kernel_rfl) rfl) (v := .agg #[.int .i64 el, .slice SA sn scap, .slice RA rn rcap, .int .i64 mo]) (by kernel_rfl) rfl) (v := .bool (decide ((N : Int) > 0))) (by kernel_rfl) (congrArg Value.bool (b_and_t h75 (Eq.refl (decide ((N : Int) > 0)))).symm)), S67.sub sub_all sub_all⟩
        · have p82 := of_decide_eq_false h75
          refine s_not (dj := 33) (b := (decide ((k : Int) < (sn : Int)))) A74 (by kernel_rfl) (by kernel_rfl) h75 rfl (fun ac A83 => ?_)
          refine s_not (dj := 33) (b := (decide ((k : Int) < (sn : Int)))) A83 (by kernel_rfl) (by kernel_rfl) h75 rfl (fun ac A84 => ?_)
          refine s_not (dj := 33) (b := (decide ((k : Int) < (sn : Int)))) A84 (by kernel_rfl) (by kernel_rfl) h75 rfl (fun ac A85 => ?_)
          refine s_not (dj := 33) (b := (decide ((k : Int) < (sn : Int)))) A85 (by kernel_rfl) (by kernel_rfl) h75 rfl (fun ac A86 => ?_)
          refine s_one (.bool false) A86 S67 (g_pick_f (b := (decide ((k : Int) < (sn : Int)))) (by kernel_rfl) h75 (by kernel_rfl)) rfl (fun ac A87 => ?_)
          refine wpList_nil ?_
          refine n_then ?_
          exact ⟨(A87.slot (A87.slot (A87.slot (A87.slot (A87.slot (A87.slot (A87.slot (A87.slot (A87.slot (A87.slot (A87.slot (A87.slot (A87.slot (A87.slot (A87.slot (A87.slot (A87.slot (A87.slot (A87.slot (A87.slot (A87.slot (A87.slot A87.nil (v := .int .i64 (k : Int)) (by kernel_rfl) rfl) (v := .pointer (some ⟨g28, 0, none⟩)) (by kernel_rfl) rfl) (v := .int .i64 (mx (-1) (mn 1 mo) + ((el * el) * 64))) (by kernel_rfl) rfl) (v := .int .i64 ((el * el) * 64)) (by kernel_rfl) rfl) (v := .int .i64 (el * el)) (by kernel_rfl) rfl) (v := .int .i64 el) (by kernel_rfl) rfl) (v := .pointer (some ⟨g3, 0, none⟩)) (by kernel_rfl) rfl) (v := .int .i64 el) (by kernel_rfl) rfl) (v := .pointer (some ⟨g3, 0, none⟩)) (by kernel_rfl) rfl) (v := .int .i64 (mx (-1) (mn 1 mo))) (by kernel_rfl) rfl) (v := .bool (inB el 1 3)) (by kernel_rfl) rfl) (v := .int .i64 el) (by kernel_rfl) rfl) (v := .pointer (some ⟨g3, 0, none⟩)) (by kernel_rfl) rfl) (v := .int .i64 (mx (-1) (mn 1 mo) + ((el * el) * 64))) (by kernel_rfl) rfl) (v := .int .i64 (mx (-1) (mn 1 mo))) (by kernel_rfl) rfl) (v := .int .i64 (mn 1 mo)) (by kernel_rfl) rfl) (v := .int .i64 mo) (by kernel_rfl) rfl) (v := .pointer (some ⟨g3, 3, none⟩)) (by kernel_rfl) rfl) (v := .pointer (some ⟨g7, 0, none⟩)) (by kernel_rfl) rfl) (v := .pointer (some ⟨g3, 0, none⟩)) (by kernel_rfl) rfl) (v := .agg #[.int .i64 el, .slice SA sn scap, .slice RA rn rcap, .int .i64 mo]) (by kernel_rfl) rfl) (v := .bool false) (by kernel_rfl) (congrArg Value.bool (b_af1 h75).symm)), S67.sub sub_all sub_all⟩
      · rintro ac wc ⟨A88, S89⟩
        refine n_then ?_
        refine c_ifb (b := ((decide ((k : Int) < (sn : Int))) && (decide ((N : Int) > 0)))) A88 (by kernel_rfl) (fun h90 => ?_) (fun h90 => ?_)
        · have h91 := (Bool.and_eq_true_iff.1 h90).1
          have p92 := of_decide_eq_true h91
          have h93 := (Bool.and_eq_true_iff.1 h90).2
          have p94 := of_decide_eq_true h93
          refine wp_skip ?_
          refine n_then ?_
          refine wp_seq ?_
          refine wp_block ?_
          refine r_begin (w0 := w0) (by kernel_rfl) (S89.sub (sub_keep (sub_skip sub_all)) sub_all) (fun wc T95 B96 => ?_)
          have S97 := S89.kept B96
          refine r_take 0 (.pointer (some ⟨g28, 1, none⟩)) A88 T95 (g_field (u := .pointer (some ⟨g28, 0, none⟩)) (by kernel_rfl) (fun _ => by kernel_rfl)) rfl rfl rfl (pf_block (pf_then (pf_then (pf_block (pf_then pf_body))))) (by kernel_rfl) (fun ac A98 => ?_)
          refine r_take 1 (.slice (some ⟨g29, 0, none⟩) N N) A98 T95 (g_load (g := g28) (off := 1) 0 (by kernel_rfl) rfl (by kernel_rfl)) rfl rfl rfl (pf_block (pf_then (pf_then (pf_block (pf_then pf_body))))) (by kernel_rfl) (fun ac A99 => ?_)
          refine r_take 2 (.pointer (some ⟨g3, 1, none⟩)) A99 T95 (g_field (u := .pointer (some ⟨g3, 0, none⟩)) (by kernel_rfl) (fun _ => by kernel_rfl)) rfl rfl rfl (pf_block (pf_then (pf_then (pf_block (pf_then pf_body))))) (by kernel_rfl) (fun ac A100 => ?_)
          refine r_take 3 (.slice SA sn scap) A100 T95 (g_load (g := g3) (off := 1) 2 (by kernel_rfl) rfl (by kernel_rfl)) rfl rfl rfl (pf_block (pf_then (pf_then (pf_block (pf_then pf_body))))) (by kernel_rfl) (fun ac A101 => ?_)
          refine r_take 4 (.int .i64 (k : Int)) A101 T95 (g_move (by kernel_rfl)) rfl rfl rfl (pf_block (pf_then (pf_then (pf_block (pf_then pf_body))))) (by kernel_rfl) (fun ac A102 => ?_)
          obtain ⟨ad103, rfl, _⟩ := hsr (k * 2) (by have hlen := hsn; omega)
          refine r_take 5 (.pointer (some (ad103.add (k * 2)))) A102 T95 (g_index (u := .slice (some ad103) sn scap) (k := .int .i64 (k : Int)) (by kernel_rfl) (by kernel_rfl) (ix_xs (e := 26) (bytes := 16) k (by kernel_rfl) (by omega) (by omega))) rfl rfl rfl (pf_block (pf_then (pf_then (pf_block (pf_then pf_body))))) (by kernel_rfl) (fun ac A104 => ?_)
          refine r_take 6 (.pointer (some (ad103.add (k * 2 + 0)))) A104 T95 (g_index (u := .pointer (some (ad103.add (k * 2)))) (k := .int .i64 0) (by kernel_rfl) (by kernel_rfl) (ix_xarr (len := 2) (size := 1) (y := k * 2 + 0) 0 (by kernel_rfl) (by omega) (by omega) (by omega))) rfl rfl rfl (pf_block (pf_then (pf_then (pf_block (pf_then pf_body))))) (by kernel_rfl) (fun ac A105 => ?_)
          refine r_take 7 (.int .i64 (nthI sl (k * 2 + 0))) A105 T95 (g_loadXI (l := sl) (k := k * 2 + 0) (by kernel_rfl) hsr (by have hlen := hsn; omega) (by kernel_rfl)) rfl rfl rfl (pf_block (pf_then (pf_then (pf_block (pf_then pf_body))))) (by kernel_rfl) (fun ac A106 => ?_)
          refine r_take 8 (.pointer (some ⟨g28, 1, none⟩)) A106 T95 (g_field (u := .pointer (some ⟨g28, 0, none⟩)) (by kernel_rfl) (fun _ => by kernel_rfl)) rfl rfl rfl (pf_block (pf_then (pf_then (pf_block (pf_then pf_body))))) (by kernel_rfl) (fun ac A107 => ?_)
          refine r_take 9 (.slice (some ⟨g29, 0, none⟩) N N) A107 T95 (g_load (g := g28) (off := 1) 0 (by kernel_rfl) rfl (by kernel_rfl)) rfl rfl rfl (pf_block (pf_then (pf_then (pf_block (pf_then pf_body))))) (by kernel_rfl) (fun ac A108 => ?_)
          refine r_take 10 (.int .i64 (N : Int)) A108 T95 (g_built (r := [(0, .slice (some ⟨g29, 0, none⟩) N N)]) (by kernel_rfl) (fun _ _ _ => by kernel_rfl)) rfl rfl rfl (pf_block (pf_then (pf_then (pf_block (pf_then pf_body))))) (by kernel_rfl) (fun ac A109 => ?_)
          refine r_take 12 (.pointer (some ⟨g3, 1, none⟩)) A109 T95 (g_field (u := .pointer (some ⟨g3, 0, none⟩)) (by kernel_rfl) (fun _ => by kernel_rfl)) rfl rfl rfl (pf_block (pf_then (pf_then (pf_block (pf_then pf_body))))) (by kernel_rfl) (fun ac A110 => ?_)
          refine r_take 13 (.slice (some ad103) sn scap) A110 T95 (g_load (g := g3) (off := 1) 2 (by kernel_rfl) rfl (by kernel_rfl)) rfl rfl rfl (pf_block (pf_then (pf_then (pf_block (pf_then pf_body))))) (by kernel_rfl) (fun ac A111 => ?_)
          refine r_take 14 (.int .i64 (k : Int)) A111 T95 (g_move (by kernel_rfl)) rfl rfl rfl (pf_block (pf_then (pf_then (pf_block (pf_then pf_body))))) (by kernel_rfl) (fun ac A112 => ?_)
          refine r_take 15 (.pointer (some (ad103.add (k * 2)))) A112 T95 (g_index (u := .slice (some ad103) sn scap) (k := .int .i64 (k : Int)) (by kernel_rfl) (by kernel_rfl) (ix_xs (e := 26) (bytes := 16) k (by kernel_rfl) (by omega) (by omega))) rfl rfl rfl (pf_block (pf_then (pf_then (pf_block (pf_then pf_body))))) (by kernel_rfl) (fun ac A113 => ?_)
          refine r_take 16 (.pointer (some (ad103.add (k * 2 + 1)))) A113 T95 (g_index (u := .pointer (some (ad103.add (k * 2)))) (k := .int .i64 1) (by kernel_rfl) (by kernel_rfl) (ix_xarr (len := 2) (size := 1) (y := k * 2 + 1) 1 (by kernel_rfl) (by omega) (by omega) (by omega))) rfl rfl rfl (pf_block (pf_then (pf_then (pf_block (pf_then pf_body))))) (by kernel_rfl) (fun ac A114 => ?_)
          refine r_take 17 (.int .i64 (nthI sl (k * 2 + 1))) A114 T95 (g_loadXI (l := sl) (k := k * 2 + 1) (by kernel_rfl) hsr (by have hlen := hsn; omega) (by kernel_rfl)) rfl rfl rfl (pf_block (pf_then (pf_then (pf_block (pf_then pf_body))))) (by kernel_rfl) (fun ac A115 => ?_)
          refine r_take 18 (.int .i64 (mn 4000 (nthI sl (k * 2 + 1)))) A115 T95 (g_built (r := [(0, .int .i64 4000), (0, .int .i64 (nthI sl (k * 2 + 1)))]) (by kernel_rfl) (fun ty cs w => by show (do let x ← Builtin.min_ _ ty #[.int .i64 4000, .int .i64 (nthI sl (k * 2 + 1))]; pure (Next.value x) : Sem Next).run _ w = _; rw [Sem.run_bind, run_min_mn]; rfl)) rfl rfl rfl (pf_block (pf_then (pf_then (pf_block (pf_then pf_body))))) (by kernel_rfl) (fun ac A116 => ?_)
          refine r_take 19 (.int .i64 (mx (-4000) (mn 4000 (nthI sl (k * 2 + 1))))) A116 T95 (g_built (r := [(0, .int .i64 (-4000)), (0, .int .i64 (mn 4000 (nthI sl (k * 2 + 1))))]) (by kernel_rfl) (fun ty cs w => by show (do let x ← Builtin.max_ _ ty #[.int .i64 (-4000), .int .i64 (mn 4000 (nthI sl (k * 2 + 1)))]; pure (Next.value x) : Sem Next).run _ w = _; rw [Sem.run_bind, run_max_mx]; rfl)) rfl rfl rfl (pf_block (pf_then (pf_then (pf_block (pf_then pf_body))))) (by kernel_rfl) (fun ac A117 => ?_)
          refine r_take 20 (.float .f32 (floatOfInt .f32 (mx (-4000) (mn 4000 (nthI sl (k * 2 + 1)))))) A117 T95 (g_conv (u := .int .i64 (mx (-4000) (mn 4000 (nthI sl (k * 2 + 1))))) (by kernel_rfl) (fun _ => by kernel_rfl)) rfl rfl rfl (pf_block (pf_then (pf_then (pf_block (pf_then pf_body))))) (by kernel_rfl) (fun ac A118 => ?_)
          refine r_1 (i := 11) (by kernel_rfl) ?_
          have q123 := Int.emod_nonneg (nthI sl (k * 2 + 0)) (b := (N : Int)) (by omega)
          have q124 := Int.emod_lt_of_pos (nthI sl (k * 2 + 0)) (b := (N : Int)) (by omega)
          refine rs_call (fs := #[]) (cp := #[]) (r := [(0, .int .i64 (nthI sl (k * 2 + 0))), (0, .int .i64 (N : Int))]) #[.int .i64 (nthI sl (k * 2 + 0)), .int .i64 (N : Int)] (.int .i64 ((nthI sl (k * 2 + 0)) % (N : Int))) A118 S97 (sub_keep (sub_skip sub_all)) sub_all (sameB (Mod_any (nthI sl (k * 2 + 0)) (N : Int) _ (by omega) (by omega))) Try.call49 rfl rfl (by kernel_rfl) (by kernel_rfl) (by kernel_rfl) rfl (fun ac wc A119 S120 => ?_)
          have T122 := S120.sub (sub_keep (sub_skip sub_all)) sub_all
          refine r_take 21 (.pointer (some ⟨g29, ((nthI sl (k * 2 + 0)) % (N : Int)).toNat, none⟩)) A119 T122 (g_index (u := .slice (some ⟨g29, 0, none⟩) N N) (k := .int .i64 ((nthI sl (k * 2 + 0)) % (N : Int))) (by kernel_rfl) (by kernel_rfl) (ix_sl1 (e := 36) (bytes := 4) (((nthI sl (k * 2 + 0)) % (N : Int)).toNat) (by kernel_rfl) (by omega) (by omega))) rfl rfl rfl (pf_block (pf_then (pf_then (pf_block (pf_then pf_body))))) (by kernel_rfl) (fun ac A125 => ?_)
          refine r_1 (i := 22) (by kernel_rfl) ?_
          refine rs_store (g := g29) (off := ((nthI sl (k * 2 + 0)) % (N : Int)).toNat) (v := .float .f32 (floatOfInt .f32 (mx (-4000) (mn 4000 (nthI sl (k * 2 + 1)))))) 1 (trc (xs.set (((nthI sl (k * 2 + 0)) % (N : Int)).toNat) (floatOfInt .f32 (mx (-4000) (mn 4000 (nthI sl (k * 2 + 1))))))) A125 S120 (sub_keep (sub_skip sub_all)) sub_all (by kernel_rfl) (by kernel_rfl) rfl ((pv_of (by kernel_rfl) rfl (by rw [trc_size, hl]; omega)).trans (congrArg some (trc_set xs (((nthI sl (k * 2 + 0)) % (N : Int)).toNat) (floatOfInt .f32 (mx (-4000) (mn 4000 (nthI sl (k * 2 + 1)))))))) rfl rfl (fun wc S127 => ?_)
          have T129 := S127.sub (sub_keep (sub_skip sub_all)) sub_all
          refine r_done (by kernel_rfl) ?_
          refine n_block ?_
          refine n_then ?_
          refine wp_region_lit ?_
          refine s_one (.int .i64 (k : Int)) A125 S127 (g_move (by kernel_rfl)) rfl (fun ac A130 => ?_)
          refine s_one (.int .i64 ((k : Int) + 1)) A130 S127 (g_bin (u := .int .i64 (k : Int)) (k := .int .i64 1) (by kernel_rfl) (by kernel_rfl) (fun _ => by kernel_rfl) (b_add (by omega))) rfl (fun ac A131 => ?_)
          refine s_one (.int .i64 ((k : Int) + 1)) A131 S127 (g_assign (by kernel_rfl)) rfl (fun ac A132 => ?_)
          refine wpList_nil ?_
          refine n_then ?_
          refine ⟨_, ⟨k + 1, (xs.set (((nthI sl (k * 2 + 0)) % (N : Int)).toNat) (floatOfInt .f32 (mx (-4000) (mn 4000 (nthI sl (k * 2 + 1)))))), rfl, (by omega), (List.length_set.trans hl), (A132.slot (A132.slot (A132.slot (A132.slot (A132.slot (A132.slot (A132.slot (A132.slot (A132.slot (A132.slot (A132.slot (A132.slot (A132.slot (A132.slot (A132.slot (A132.slot (A132.slot (A132.slot (A132.slot (A132.slot (A132.slot A132.nil (v := .int .i64 ((k : Int) + 1)) (by kernel_rfl) (congrArg (Value.int .i64) (by omega))) (v := .pointer (some ⟨g28, 0, none⟩)) (by kernel_rfl) rfl) (v := .int .i64 (mx (-1) (mn 1 mo) + ((el * el) * 64))) (by kernel_rfl) rfl) (v := .int .i64 ((el * el) * 64)) (by kernel_rfl) rfl) (v := .int .i64 (el * el)) (by kernel_rfl) rfl) (v := .int .i64 el) (by kernel_rfl) rfl) (v := .pointer (some ⟨g3, 0, none⟩)) (by kernel_rfl) rfl) (v := .int .i64 el) (by kernel_rfl) rfl) (v := .pointer (some ⟨g3, 0, none⟩)) (by kernel_rfl) rfl) (v := .int .i64 (mx (-1) (mn 1 mo))) (by kernel_rfl) rfl) (v := .bool (inB el 1 3)) (by kernel_rfl) rfl) (v := .int .i64 el) (by kernel_rfl) rfl) (v := .pointer (some ⟨g3, 0, none⟩)) (by kernel_rfl) rfl) (v := .int .i64 (mx (-1) (mn 1 mo) + ((el * el) * 64))) (by kernel_rfl) rfl) (v := .int .i64 (mx (-1) (mn 1 mo))) (by kernel_rfl) rfl) (v := .int .i64 (mn 1 mo)) (by kernel_rfl) rfl) (v := .int .i64 mo) (by kernel_rfl) rfl) (v := .pointer (some ⟨g3, 3, none⟩)) (by kernel_rfl) rfl) (v := .pointer (some ⟨g7, 0, none⟩)) (by kernel_rfl) rfl) (v := .pointer (some ⟨g3, 0, none⟩)) (by kernel_rfl) rfl) (v := .agg #[.int .i64 el, .slice (some ad103) sn scap, .slice RA rn rcap, .int .i64 mo]) (by kernel_rfl) (by first | rfl | simp)), (St.recell 3 S127 rfl (by rfl)).sub sub_all sub_all⟩, ?_⟩
          omega
        · refine wp_exit ?_
          refine x_then ?_
          refine x_then ?_
          refine x_hit ?_
          refine n_then ?_
          refine wp_seq ?_
          refine wp_seq ?_
          refine wp_region_lit ?_
          refine s_one (.int .i64 0) A88 S89 (g_assign (by kernel_rfl)) rfl (fun ac A133 => ?_)
          refine wpList_nil ?_
          refine n_then ?_
          refine wp_block ?_
          refine c_loopN (fun mm ac wc => ∃ (j : Nat) (zs : List Nat), mm = rn - j ∧ (j ≤ rn) ∧ (zs.length = N) ∧ Fr 87 ac [(0, .agg #[.int .i64 el, .slice SA sn scap, .slice RA rn rcap, .int .i64 mo]), (1, .pointer (some ⟨g3, 0, none⟩)), (2, .pointer (some ⟨g7, 0, none⟩)), (7, .pointer (some ⟨g3, 3, none⟩)), (8, .int .i64 mo), (9, .int .i64 (mn 1 mo)), (10, .int .i64 (mx (-1) (mn 1 mo))), (3, .int .i64 (mx (-1) (mn 1 mo) + ((el * el) * 64))), (11, .pointer (some ⟨g3, 0, none⟩)), (12, .int .i64 el), (13, .bool (inB el 1 3)), (14, .int .i64 (mx (-1) (mn 1 mo))), (15, .pointer (some ⟨g3, 0, none⟩)), (16, .int .i64 el), (17, .pointer (some ⟨g3, 0, none⟩)), (18, .int .i64 el), (19, .int .i64 (el * el)), (20, .int .i64 ((el * el) * 64)), (21, .int .i64 (mx (-1) (mn 1 mo) + ((el * el) * 64))), (4, .pointer (some ⟨g28, 0, none⟩)), (5, .int .i64 (k : Int)), (38, .bool ((decide ((k : Int) < (sn : Int))) && (decide ((N : Int) > 0)))), (6, .int .i64 (j : Int))] ∧ St w0 [⟨g28, 30, #[.int .i64 el, .slice (some ⟨g29, 0, none⟩) N N], true⟩, ⟨g29, 36, (trc zs), true⟩, ⟨g7, 30, #[.int .i64 0, .slice none 0 0], true⟩, ⟨g3, 25, #[.int .i64 el, .slice SA sn scap, .slice RA rn rcap, .int .i64 mo], true⟩] [] wc) _ ⟨0, xs, rfl, (by omega), hl, (A133.slot (A133.slot (A133.slot (A133.slot (A133.slot (A133.slot (A133.slot (A133.slot (A133.slot (A133.slot (A133.slot (A133.slot (A133.slot (A133.slot (A133.slot (A133.slot (A133.slot (A133.slot (A133.slot (A133.slot (A133.slot (A133.slot (A133.slot A133.nil (v := .int .i64 0) (by kernel_rfl) (congrArg (Value.int .i64) (by omega))) (v := .bool ((decide ((k : Int) < (sn : Int))) && (decide ((N : Int) > 0)))) (by kernel_rfl) rfl) (v := .int .i64 (k : Int)) (by kernel_rfl) rfl) (v := .pointer (some ⟨g28, 0, none⟩)) (by kernel_rfl) rfl) (v := .int .i64 (mx (-1) (mn 1 mo) + ((el * el) * 64))) (by kernel_rfl) rfl) (v := .int .i64 ((el * el) * 64)) (by kernel_rfl) rfl) (v := .int .i64 (el * el)) (by kernel_rfl) rfl) (v := .int .i64 el) (by kernel_rfl) rfl) (v := .pointer (some ⟨g3, 0, none⟩)) (by kernel_rfl) rfl) (v := .int .i64 el) (by kernel_rfl) rfl) (v := .pointer (some ⟨g3, 0, none⟩)) (by kernel_rfl) rfl) (v := .int .i64 (mx (-1) (mn 1 mo))) (by kernel_rfl) rfl) (v := .bool (inB el 1 3)) (by kernel_rfl) rfl) (v := .int .i64 el) (by kernel_rfl) rfl) (v := .pointer (some ⟨g3, 0, none⟩)) (by kernel_rfl) rfl) (v := .int .i64 (mx (-1) (mn 1 mo) + ((el * el) * 64))) (by kernel_rfl) rfl) (v := .int .i64 (mx (-1) (mn 1 mo))) (by kernel_rfl) rfl) (v := .int .i64 (mn 1 mo)) (by kernel_rfl) rfl) (v := .int .i64 mo) (by kernel_rfl) rfl) (v := .pointer (some ⟨g3, 3, none⟩)) (by kernel_rfl) rfl) (v := .pointer (some ⟨g7, 0, none⟩)) (by kernel_rfl) rfl) (v := .pointer (some ⟨g3, 0, none⟩)) (by kernel_rfl) rfl) (v := .agg #[.int .i64 el, .slice SA sn scap, .slice RA rn rcap, .int .i64 mo]) (by kernel_rfl) rfl), (St.recell 1 S89 rfl (by rfl)).sub sub_all sub_all⟩ ?_
          rintro mm ac wc ⟨j, zs, hm136, hkj, hz, A134, S135⟩
          refine wp_seq ?_
          refine wp_seq ?_
          refine c_cut (fun ac wc => Fr 87 ac [(74, .bool ((decide ((j : Int) < (rn : Int))) && (decide ((j : Int) < (N : Int))))), (0, .agg #[.int .i64 el, .slice SA sn scap, .slice RA rn rcap, .int .i64 mo]), (1, .pointer (some ⟨g3, 0, none⟩)), (2, .pointer (some ⟨g7, 0, none⟩)), (7, .pointer (some ⟨g3, 3, none⟩)), (8, .int .i64 mo), (9, .int .i64 (mn 1 mo)), (10, .int .i64 (mx (-1) (mn 1 mo))), (3, .int .i64 (mx (-1) (mn 1 mo) + ((el * el) * 64))), (11, .pointer (some ⟨g3, 0, none⟩)), (12, .int .i64 el), (13, .bool (inB el 1 3)), (14, .int .i64 (mx (-1) (mn 1 mo))), (15, .pointer (some ⟨g3, 0, none⟩)), (16, .int .i64 el), (17, .pointer (some ⟨g3, 0, none⟩)), (18, .int .i64 el), (19, .int .i64 (el * el)), (20, .int .i64 ((el * el) * 64)), (21, .int .i64 (mx (-1) (mn 1 mo) + ((el * el) * 64))), (4, .pointer (some ⟨g28, 0, none⟩)), (5, .int .i64 (k : Int)), (38, .bool ((decide ((k : Int) < (sn : Int))) && (decide ((N : Int) > 0)))), (6, .int .i64 (j : Int))] ∧ St w0 [⟨g28, 30, #[.int .i64 el, .slice (some ⟨g29, 0, none⟩) N N], true⟩, ⟨g29, 36, (trc zs), true⟩, ⟨g7, 30, #[.int .i64 0, .slice none 0 0], true⟩, ⟨g3, 25, #[.int .i64 el, .slice SA sn scap, .slice RA rn rcap, .int .i64 mo], true⟩] [] wc) ?_ ?_
          · refine wp_region_lit ?_
            refine s_one (.int .i64 (j : Int)) A134 S135 (g_move (by kernel_rfl)) rfl (fun ac A137 => ?_)
            refine s_one (.pointer (some ⟨g3, 2, none⟩)) A137 S135 (g_field (u := .pointer (some ⟨g3, 0, none⟩)) (by kernel_rfl) (fun _ => by kernel_rfl)) rfl (fun ac A138 => ?_)
            refine s_one (.slice RA rn rcap) A138 S135 (g_load (g := g3) (off := 2) 3 (by kernel_rfl) rfl (by kernel_rfl)) rfl (fun ac A139 => ?_)
            refine s_one (.int .i64 (rn : Int)) A139 S135 (g_built (r := [(0, .slice RA rn rcap)]) (by kernel_rfl) (fun _ _ _ => by kernel_rfl)) rfl (fun ac A140 => ?_)
            refine s_one (.bool (decide ((j : Int) < (rn : Int)))) A140 S135 (g_bin (u := .int .i64 (j : Int)) (k := .int .i64 (rn : Int)) (by kernel_rfl) (by kernel_rfl) (fun _ => by kernel_rfl) (fun _ => by kernel_rfl)) rfl (fun ac A141 => ?_)
            refine s_one (.bool (decide ((j : Int) < (rn : Int)))) A141 S135 (g_move (by kernel_rfl)) rfl (fun ac A142 => ?_)
            refine by_bool (decide ((j : Int) < (rn : Int))) (fun h143 => ?_) (fun h143 => ?_)
            · have p144 := of_decide_eq_true h143
              refine s_want (dj := 68) (b := (decide ((j : Int) < (rn : Int)))) A142 (by kernel_rfl) (by kernel_rfl) h143 ?_
              refine s_one (.int .i64 (j : Int)) A142 S135 (g_move (by kernel_rfl)) rfl (fun ac A145 => ?_)
              refine s_want (dj := 68) (b := (decide ((j : Int) < (rn : Int)))) A145 (by kernel_rfl) (by kernel_rfl) h143 ?_
              refine s_one (.pointer (some ⟨g28, 1, none⟩)) A145 S135 (g_field (u := .pointer (some ⟨g28, 0, none⟩)) (by kernel_rfl) (fun _ => by kernel_rfl)) rfl (fun ac A146 => ?_)
              refine s_want (dj := 68) (b := (decide ((j : Int) < (rn : Int)))) A146 (by kernel_rfl) (by kernel_rfl) h143 ?_
              refine s_one (.slice (some ⟨g29, 0, none⟩) N N) A146 S135 (g_load (g := g28) (off := 1) 0 (by kernel_rfl) rfl (by kernel_rfl)) rfl (fun ac A147 => ?_)
              refine s_want (dj := 68) (b := (decide ((j : Int) < (rn : Int)))) A147 (by kernel_rfl) (by kernel_rfl) h143 ?_
              refine s_one (.int .i64 (N : Int)) A147 S135 (g_built (r := [(0, .slice (some ⟨g29, 0, none⟩) N N)]) (by kernel_rfl) (fun _ _ _ => by kernel_rfl)) rfl (fun ac A148 => ?_)
              refine s_want (dj := 68) (b := (decide ((j : Int) < (rn : Int)))) A148 (by kernel_rfl) (by kernel_rfl) h143 ?_
              refine s_one (.bool (decide ((j : Int) < (N : Int)))) A148 S135 (g_bin (u := .int .i64 (j : Int)) (k := .int .i64 (N : Int)) (by kernel_rfl) (by kernel_rfl) (fun _ => by kernel_rfl) (fun _ => by kernel_rfl)) rfl (fun ac A149 => ?_)
              refine s_one (.bool (decide ((j : Int) < (N : Int)))) A149 S135 (g_pick_t (b := (decide ((j : Int) < (rn : Int)))) (by kernel_rfl) h143 (by kernel_rfl)) rfl (fun ac A150 => ?_)
              refine wpList_nil ?_
              refine n_then ?_
              exact ⟨(A150.slot (A150.slot (A150.slot (A150.slot (A150.slot (A150.slot (A150.slot (A150.slot (A150.slot (A150.slot (A150.slot (A150.slot (A150.slot (A150.slot (A150.slot (A150.slot (A150.slot (A150.slot (A150.slot (A150.slot (A150.slot (A150.slot (A150.slot (A150.slot A150.nil (v := .int .i64 (j : Int)) (by kernel_rfl) rfl) (v := .bool ((decide ((k : Int) < (sn : Int))) && (decide ((N : Int) > 0)))) (by kernel_rfl) rfl) (v := .int .i64 (k : Int)) (by kernel_rfl) rfl) (v := .pointer (some ⟨g28, 0, none⟩)) (by kernel_rfl) rfl) (v := .int .i64 (mx (-1) (mn 1 mo) + ((el * el) * 64))) (by kernel_rfl) rfl) (v := .int .i64 ((el * el) * 64)) (by kernel_rfl) rfl) (v := .int .i64 (el * el)) (by kernel_rfl) rfl) (v := .int .i64 el) (by kernel_rfl) rfl) (v := .pointer (some ⟨g3, 0, none⟩)) (by kernel_rfl) rfl) (v := .int .i64 el) (by kernel_rfl) rfl) (v := .pointer (some ⟨g3, 0, none⟩)) (by kernel_rfl) rfl) (v := .int .i64 (mx (-1) (mn 1 mo))) (by kernel_rfl) rfl) (v := .bool (inB el 1 3)) (by kernel_rfl) rfl) (v := .int .i64 el) (by kernel_rfl) rfl) (v := .pointer (some ⟨g3, 0, none⟩)) (by kernel_rfl) rfl) (v := .int .i64 (mx (-1) (mn 1 mo) + ((el * el) * 64))) (by kernel_rfl) rfl) (v := .int .i64 (mx (-1) (mn 1 mo))) (by kernel_rfl) rfl) (v := .int .i64 (mn 1 mo)) (by kernel_rfl) rfl) (v := .int .i64 mo) (by kernel_rfl) rfl) (v := .pointer (some ⟨g3, 3, none⟩)) (by kernel_rfl) rfl) (v := .pointer (some ⟨g7, 0, none⟩)) (by kernel_rfl) rfl) (v := .pointer (some ⟨g3, 0, none⟩)) (by kernel_rfl) rfl) (v := .agg #[.int .i64 el, .slice SA sn scap, .slice RA rn rcap, .int .i64 mo]) (by kernel_rfl) rfl) (v := .bool (decide ((j : Int) < (N : Int)))) (by kernel_rfl) (congrArg Value.bool (b_and_t h143 (Eq.refl (decide ((j : Int) < (N : Int))))).symm)), S135.sub sub_all sub_all⟩
            · have p151 := of_decide_eq_false h143
              refine s_not (dj := 68) (b := (decide ((j : Int) < (rn : Int)))) A142 (by kernel_rfl) (by kernel_rfl) h143 rfl (fun ac A152 => ?_)
              refine s_not (dj := 68) (b := (decide ((j : Int) < (rn : Int)))) A152 (by kernel_rfl) (by kernel_rfl) h143 rfl (fun ac A153 => ?_)
              refine s_not (dj := 68) (b := (decide ((j : Int) < (rn : Int)))) A153 (by kernel_rfl) (by kernel_rfl) h143 rfl (fun ac A154 => ?_)
              refine s_not (dj := 68) (b := (decide ((j : Int) < (rn : Int)))) A154 (by kernel_rfl) (by kernel_rfl) h143 rfl (fun ac A155 => ?_)
              refine s_not (dj := 68) (b := (decide ((j : Int) < (rn : Int)))) A155 (by kernel_rfl) (by kernel_rfl) h143 rfl (fun ac A156 => ?_)
              refine s_one (.bool false) A156 S135 (g_pick_f (b := (decide ((j : Int) < (rn : Int)))) (by kernel_rfl) h143 (by kernel_rfl)) rfl (fun ac A157 => ?_)
              refine wpList_nil ?_
              refine n_then ?_
              exact ⟨(A157.slot (A157.slot (A157.slot (A157.slot (A157.slot (A157.slot (A157.slot (A157.slot (A157.slot (A157.slot (A157.slot (A157.slot (A157.slot (A157.slot (A157.slot (A157.slot (A157.slot (A157.slot (A157.slot (A157.slot (A157.slot (A157.slot (A157.slot (A157.slot A157.nil (v := .int .i64 (j : Int)) (by kernel_rfl) rfl) (v := .bool ((decide ((k : Int) < (sn : Int))) && (decide ((N : Int) > 0)))) (by kernel_rfl) rfl) (v := .int .i64 (k : Int)) (by kernel_rfl) rfl) (v := .pointer (some ⟨g28, 0, none⟩)) (by kernel_rfl) rfl) (v := .int .i64 (mx (-1) (mn 1 mo) + ((el * el) * 64))) (by kernel_rfl) rfl) (v := .int .i64 ((el * el) * 64)) (by kernel_rfl) rfl) (v := .int .i64 (el * el)) (by kernel_rfl) rfl) (v := .int .i64 el) (by kernel_rfl) rfl) (v := .pointer (some ⟨g3, 0, none⟩)) (by kernel_rfl) rfl) (v := .int .i64 el) (by kernel_rfl) rfl) (v := .pointer (some ⟨g3, 0, none⟩)) (by kernel_rfl) rfl) (v := .int .i64 (mx (-1) (mn 1 mo))) (by kernel_rfl) rfl) (v := .bool (inB el 1 3)) (by kernel_rfl) rfl) (v := .int .i64 el) (by kernel_rfl) rfl) (v := .pointer (some ⟨g3, 0, none⟩)) (by kernel_rfl) rfl) (v := .int .i64 (mx (-1) (mn 1 mo) + ((el * el) * 64))) (by kernel_rfl) rfl) (v := .int .i64 (mx (-1) (mn 1 mo))) (by kernel_rfl) rfl) (v := .int .i64 (mn 1 mo)) (by kernel_rfl) rfl) (v := .int .i64 mo) (by kernel_rfl) rfl) (v := .pointer (some ⟨g3, 3, none⟩)) (by kernel_rfl) rfl) (v := .pointer (some ⟨g7, 0, none⟩)) (by kernel_rfl) rfl) (v := .pointer (some ⟨g3, 0, none⟩)) (by kernel_rfl) rfl) (v := .agg #[.int .i64 el, .slice SA sn scap, .slice RA rn rcap, .int .i64 mo]) (by kernel_rfl) rfl) (v := .bool false) (by kernel_rfl) (congrArg Value.bool (b_af1 h143).symm)), S135.sub sub_all sub_all⟩
          · rintro ac wc ⟨A158, S159⟩
            refine n_then ?_
            refine c_ifb (b := ((decide ((j : Int) < (rn : Int))) && (decide ((j : Int) < (N : Int))))) A158 (by kernel_rfl) (fun h160 => ?_) (fun h160 => ?_)
            · have h161 := (Bool.and_eq_true_iff.1 h160).1
              have p162 := of_decide_eq_true h161
              have h163 := (Bool.and_eq_true_iff.1 h160).2
              have p164 := of_decide_eq_true h163
              refine wp_skip ?_
              refine n_then ?_
              refine wp_seq ?_
              refine wp_block ?_
              refine r_begin (w0 := w0) (by kernel_rfl) (S159.sub (sub_keep (sub_skip sub_all)) sub_all) (fun wc T165 B166 => ?_)
              have S167 := S159.kept B166
              refine r_take 0 (.pointer (some ⟨g28, 1, none⟩)) A158 T165 (g_field (u := .pointer (some ⟨g28, 0, none⟩)) (by kernel_rfl) (fun _ => by kernel_rfl)) rfl rfl rfl (pf_block (pf_then (pf_then (pf_block (pf_then pf_body))))) (by kernel_rfl) (fun ac A168 => ?_)
              refine r_take 1 (.slice (some ⟨g29, 0, none⟩) N N) A168 T165 (g_load (g := g28) (off := 1) 0 (by kernel_rfl) rfl (by kernel_rfl)) rfl rfl rfl (pf_block (pf_then (pf_then (pf_block (pf_then pf_body))))) (by kernel_rfl) (fun ac A169 => ?_)
              refine r_take 2 (.int .i64 (j : Int)) A169 T165 (g_move (by kernel_rfl)) rfl rfl rfl (pf_block (pf_then (pf_then (pf_block (pf_then pf_body))))) (by kernel_rfl) (fun ac A170 => ?_)
              refine r_take 3 (.pointer (some ⟨g3, 2, none⟩)) A170 T165 (g_field (u := .pointer (some ⟨g3, 0, none⟩)) (by kernel_rfl) (fun _ => by kernel_rfl)) rfl rfl rfl (pf_block (pf_then (pf_then (pf_block (pf_then pf_body))))) (by kernel_rfl) (fun ac A171 => ?_)
              refine r_take 4 (.slice RA rn rcap) A171 T165 (g_load (g := g3) (off := 2) 2 (by kernel_rfl) rfl (by kernel_rfl)) rfl rfl rfl (pf_block (pf_then (pf_then (pf_block (pf_then pf_body))))) (by kernel_rfl) (fun ac A172 => ?_)
              refine r_take 5 (.int .i64 (j : Int)) A172 T165 (g_move (by kernel_rfl)) rfl rfl rfl (pf_block (pf_then (pf_then (pf_block (pf_then pf_body))))) (by kernel_rfl) (fun ac A173 => ?_)
              obtain ⟨ad174, rfl, _⟩ := hrr (j) (by have hlen := hrn; omega)
              refine r_take 6 (.pointer (some (ad174.add j))) A173 T165 (g_index (u := .slice (some ad174) rn rcap) (k := .int .i64 (j : Int)) (by kernel_rfl) (by kernel_rfl) (ix_x (e := 36) (bytes := 4) j (by kernel_rfl) (by omega) (by omega))) rfl rfl rfl (pf_block (pf_then (pf_then (pf_block (pf_then pf_body))))) (by kernel_rfl) (fun ac A175 => ?_)
              refine r_take 7 (.float .f32 (nth rl j)) A175 T165 (g_loadXF (l := rl) (k := j) (by kernel_rfl) hrr (by have hlen := hrn; omega) (by kernel_rfl)) rfl rfl rfl (pf_block (pf_then (pf_then (pf_block (pf_then pf_body))))) (by kernel_rfl) (fun ac A176 => ?_)
              refine r_take 8 (.pointer (some ⟨g29, j, none⟩)) A176 T165 (g_index (u := .slice (some ⟨g29, 0, none⟩) N N) (k := .int .i64 (j : Int)) (by kernel_rfl) (by kernel_rfl) (ix_sl1 (e := 36) (bytes := 4) j (by kernel_rfl) (by omega) (by omega))) rfl rfl rfl (pf_block (pf_then (pf_then (pf_block (pf_then pf_body))))) (by kernel_rfl) (fun ac A177 => ?_)
              refine r_1 (i := 9) (by kernel_rfl) ?_
              refine rs_store (g := g29) (off := j) (v := .float .f32 (nth rl j)) 1 (trc (zs.set j (nth rl j))) A177 S167 (sub_keep (sub_skip sub_all)) sub_all (by kernel_rfl) (by kernel_rfl) rfl ((pv_of (by kernel_rfl) rfl (by rw [trc_size, hz]; omega)).trans (congrArg some (trc_set zs j (nth rl j)))) rfl rfl (fun wc S179 => ?_)
              have T181 := S179.sub (sub_keep (sub_skip sub_all)) sub_all
              refine r_done (by kernel_rfl) ?_
              refine n_block ?_
              refine n_then ?_
              refine wp_region_lit ?_
              refine s_one (.int .i64 (j : Int)) A177 S179 (g_move (by kernel_rfl)) rfl (fun ac A182 => ?_)
              refine s_one (.int .i64 ((j : Int) + 1)) A182 S179 (g_bin (u := .int .i64 (j : Int)) (k := .int .i64 1) (by kernel_rfl) (by kernel_rfl) (fun _ => by kernel_rfl) (b_add (by omega))) rfl (fun ac A183 => ?_)
              refine s_one (.int .i64 ((j : Int) + 1)) A183 S179 (g_assign (by kernel_rfl)) rfl (fun ac A184 => ?_)
              refine wpList_nil ?_
              refine n_then ?_
              refine ⟨_, ⟨j + 1, (zs.set j (nth rl j)), rfl, (by omega), (List.length_set.trans hz), (A184.slot (A184.slot (A184.slot (A184.slot (A184.slot (A184.slot (A184.slot (A184.slot (A184.slot (A184.slot (A184.slot (A184.slot (A184.slot (A184.slot (A184.slot (A184.slot (A184.slot (A184.slot (A184.slot (A184.slot (A184.slot (A184.slot (A184.slot A184.nil (v := .int .i64 ((j : Int) + 1)) (by kernel_rfl) (congrArg (Value.int .i64) (by omega))) (v := .bool ((decide ((k : Int) < (sn : Int))) && (decide ((N : Int) > 0)))) (by kernel_rfl) rfl) (v := .int .i64 (k : Int)) (by kernel_rfl) rfl) (v := .pointer (some ⟨g28, 0, none⟩)) (by kernel_rfl) rfl) (v := .int .i64 (mx (-1) (mn 1 mo) + ((el * el) * 64))) (by kernel_rfl) rfl) (v := .int .i64 ((el * el) * 64)) (by kernel_rfl) rfl) (v := .int .i64 (el * el)) (by kernel_rfl) rfl) (v := .int .i64 el) (by kernel_rfl) rfl) (v := .pointer (some ⟨g3, 0, none⟩)) (by kernel_rfl) rfl) (v := .int .i64 el) (by kernel_rfl) rfl) (v := .pointer (some ⟨g3, 0, none⟩)) (by kernel_rfl) rfl) (v := .int .i64 (mx (-1) (mn 1 mo))) (by kernel_rfl) rfl) (v := .bool (inB el 1 3)) (by kernel_rfl) rfl) (v := .int .i64 el) (by kernel_rfl) rfl) (v := .pointer (some ⟨g3, 0, none⟩)) (by kernel_rfl) rfl) (v := .int .i64 (mx (-1) (mn 1 mo) + ((el * el) * 64))) (by kernel_rfl) rfl) (v := .int .i64 (mx (-1) (mn 1 mo))) (by kernel_rfl) rfl) (v := .int .i64 (mn 1 mo)) (by kernel_rfl) rfl) (v := .int .i64 mo) (by kernel_rfl) rfl) (v := .pointer (some ⟨g3, 3, none⟩)) (by kernel_rfl) rfl) (v := .pointer (some ⟨g7, 0, none⟩)) (by kernel_rfl) rfl) (v := .pointer (some ⟨g3, 0, none⟩)) (by kernel_rfl) rfl) (v := .agg #[.int .i64 el, .slice SA sn scap, .slice (some ad174) rn rcap, .int .i64 mo]) (by kernel_rfl) (by first | rfl | simp)), (St.recell 3 S179 rfl (by rfl)).sub sub_all sub_all⟩, ?_⟩
              omega
            · refine wp_exit ?_
              refine x_then ?_
              refine x_then ?_
              refine x_hit ?_
              refine n_then ?_
              refine wp_seq ?_
              refine wp_region_lit ?_
              refine s_one (.agg #[.int .i64 el, .slice (some ⟨g29, 0, none⟩) N N]) A158 S159 (g_load (g := g28) (off := 0) 0 (by kernel_rfl) rfl (by kernel_rfl)) rfl (fun ac A185 => ?_)
              refine s_store (g := g7) (off := 0) (v := .agg #[.int .i64 el, .slice (some ⟨g29, 0, none⟩) N N]) 2 (#[.int .i64 el, .slice (some ⟨g29, 0, none⟩) N N]) A185 S159 (by kernel_rfl) (by kernel_rfl) rfl (by kernel_rfl) (fun wc S187 => ?_)
              refine wpList_nil ?_
              refine n_then ?_
              refine wp_ret ?_
              have SC : St w0 [⟨g28, 30, #[.int .i64 el, .slice (some ⟨g29, 0, none⟩) N N], true⟩, ⟨g7, 30, #[.int .i64 el, .slice (some ⟨g29, 0, none⟩) N N], true⟩, ⟨g3, 25, #[.int .i64 el, .slice SA sn scap, .slice RA rn rcap, .int .i64 mo], true⟩] [⟨.slice (some ⟨g29, 0, none⟩) N N, 36, 1, N, (rowF zs)⟩] _ := St.closeRow S187 1 rfl (by rw [trc_size, Nat.mul_one]; exact hz) (Nat.le_refl _) (by unfold maxLen; omega) (by rw [trc_toList, Nat.mul_one]; exact List.take_of_length_le (by simp [rowF, hz]))
              refine fin1 (.agg #[.int .i64 el, .slice (some ⟨g29, 0, none⟩) N N]) Try.results13 A185 SC (rv_cell (g := g7) (off := 0) 1 (by kernel_rfl) rfl (by kernel_rfl)) ?_
              have ow := SC.row 0 rfl
              exact ⟨zs, by omega, _, rfl, SC.kp, by rw [hz]; exact ow⟩
  · refine wp_skip ?_
    refine n_then ?_
    refine wp_seq ?_
    obtain ⟨N, hN⟩ : ∃ N : Nat, mx 0 (mx (-1) (mn 1 mo)) = (N : Int) := ⟨(mx 0 (mx (-1) (mn 1 mo))).toNat, by rw [mx_eq]; omega⟩
    have hN2 : N ≤ 600 := by rw [mx_eq 0] at hN; omega
    refine c_cut (fun ac wc => ∃ (g189 : Nat) (g190 : Nat), Fr 87 ac [(0, .agg #[.int .i64 el, .slice SA sn scap, .slice RA rn rcap, .int .i64 mo]), (1, .pointer (some ⟨g3, 0, none⟩)), (2, .pointer (some ⟨g7, 0, none⟩)), (7, .pointer (some ⟨g3, 3, none⟩)), (8, .int .i64 mo), (9, .int .i64 (mn 1 mo)), (10, .int .i64 (mx (-1) (mn 1 mo))), (3, .int .i64 (mx (-1) (mn 1 mo))), (11, .pointer (some ⟨g3, 0, none⟩)), (12, .int .i64 el), (13, .bool (inB el 1 3)), (4, .pointer (some ⟨g189, 0, none⟩))] ∧ St w0 [⟨g189, 30, #[.int .i64 el, .slice (some ⟨g190, 0, none⟩) N N], true⟩, ⟨g190, 36, (trc (List.replicate N 0)), true⟩, ⟨g7, 30, #[.int .i64 0, .slice none 0 0], true⟩, ⟨g3, 25, #[.int .i64 el, .slice SA sn scap, .slice RA rn rcap, .int .i64 mo], true⟩] [] wc) ?_ ?_
    · refine r_begin (w0 := w0) (by kernel_rfl) (S16.sub sub_all sub_all) (fun wc T191 B192 => ?_)
      have S193 := S16.kept B192
      refine r_take 0 (.pointer (some ⟨g3, 0, none⟩)) A15 T191 (g_field (u := .pointer (some ⟨g3, 0, none⟩)) (by kernel_rfl) (fun _ => by kernel_rfl)) rfl rfl rfl (pf_then (pf_then pf_body)) (by kernel_rfl) (fun ac A194 => ?_)
      refine r_take 1 (.int .i64 el) A194 T191 (g_load (g := g3) (off := 0) 1 (by kernel_rfl) rfl (by kernel_rfl)) rfl rfl rfl (pf_then (pf_then pf_body)) (by kernel_rfl) (fun ac A195 => ?_)
      refine r_take 2 (.int .i64 (mx (-1) (mn 1 mo))) A195 T191 (g_move (by kernel_rfl)) rfl rfl rfl (pf_then (pf_then pf_body)) (by kernel_rfl) (fun ac A196 => ?_)
      refine r_take 3 (.int .i64 (mx 0 (mx (-1) (mn 1 mo)))) A196 T191 (g_built (r := [(0, .int .i64 0), (0, .int .i64 (mx (-1) (mn 1 mo)))]) (by kernel_rfl) (fun ty cs w => by show (do let x ← Builtin.max_ _ ty #[.int .i64 0, .int .i64 (mx (-1) (mn 1 mo))]; pure (Next.value x) : Sem Next).run _ w = _; rw [Sem.run_bind, run_max_mx]; rfl)) rfl rfl rfl (pf_then (pf_then pf_body)) (by kernel_rfl) (fun ac A197 => ?_)
      refine r_2 (i := 4) (j := 6) (by kernel_rfl) ?_ ?_
      · refine rs_make (e := 36) (bytes := 4) N A197 S193 sub_all sub_all (by kernel_rfl) (by kernel_rfl) (by kernel_rfl) (by kernel_rfl) hN hN (by omega) (by omega) rfl rfl rfl (fun g200 ac wc A198 S199 => ?_)
        have T201 := S199.sub (sub_skip sub_all) sub_all
        refine r_take 5 (.agg #[.int .i64 el, .slice (some ⟨g200, 0, none⟩) N N]) A198 T201 (g_build (r := [(0, .int .i64 el), (1, .slice (some ⟨g200, 0, none⟩) N N)]) (by kernel_rfl) (fun _ => by kernel_rfl)) rfl rfl rfl (pf_then (pf_then pf_body)) (by kernel_rfl) (fun ac A202 => ?_)
        refine r_1 (i := 6) (by kernel_rfl) ?_
        refine rs_alloc (#[.int .i64 0, .slice none 0 0]) A202 S199 (sub_skip sub_all) sub_all (by kernel_rfl) rfl rfl rfl (fun g205 ac wc A203 S204 => ?_)
        have T206 := S204.sub (sub_skip (sub_skip sub_all)) sub_all
        refine r_1 (i := 7) (by kernel_rfl) ?_
        refine rs_store (g := g205) (off := 0) (v := .agg #[.int .i64 el, .slice (some ⟨g200, 0, none⟩) N N]) 0 (#[.int .i64 el, .slice (some ⟨g200, 0, none⟩) N N]) A203 S204 (sub_skip (sub_skip sub_all)) sub_all (by kernel_rfl) (by kernel_rfl) rfl (by kernel_rfl) rfl rfl (fun wc S208 => ?_)
        have T210 := S208.sub (sub_skip (sub_skip sub_all)) sub_all
        refine r_done (by kernel_rfl) ?_
        refine n_then ?_
        exact ⟨g205, g200, (A203.slot (A203.slot (A203.slot (A203.slot (A203.slot (A203.slot (A203.slot (A203.slot (A203.slot (A203.slot (A203.slot (A203.slot A203.nil (v := .pointer (some ⟨g205, 0, none⟩)) (by kernel_rfl) rfl) (v := .bool (inB el 1 3)) (by kernel_rfl) rfl) (v := .int .i64 el) (by kernel_rfl) rfl) (v := .pointer (some ⟨g3, 0, none⟩)) (by kernel_rfl) rfl) (v := .int .i64 (mx (-1) (mn 1 mo))) (by kernel_rfl) rfl) (v := .int .i64 (mx (-1) (mn 1 mo))) (by kernel_rfl) rfl) (v := .int .i64 (mn 1 mo)) (by kernel_rfl) rfl) (v := .int .i64 mo) (by kernel_rfl) rfl) (v := .pointer (some ⟨g3, 3, none⟩)) (by kernel_rfl) rfl) (v := .pointer (some ⟨g7, 0, none⟩)) (by kernel_rfl) rfl) (v := .pointer (some ⟨g3, 0, none⟩)) (by kernel_rfl) rfl) (v := .agg #[.int .i64 el, .slice SA sn scap, .slice RA rn rcap, .int .i64 mo]) (by kernel_rfl) rfl), S208.sub sub_all sub_all⟩
      · refine rs_alloc (#[.int .i64 0, .slice none 0 0]) A197 S193 sub_all sub_all (by kernel_rfl) rfl rfl rfl (fun g213 ac wc A211 S212 => ?_)
        have T214 := S212.sub (sub_skip sub_all) sub_all
        refine r_1 (i := 4) (by kernel_rfl) ?_
        refine rs_make (e := 36) (bytes := 4) N A211 S212 (sub_skip sub_all) sub_all (by kernel_rfl) (by kernel_rfl) (by kernel_rfl) (by kernel_rfl) hN hN (by omega) (by omega) rfl rfl rfl (fun g217 ac wc A215 S216 => ?_)
        have T218 := S216.sub (sub_skip (sub_skip sub_all)) sub_all
        refine r_take 5 (.agg #[.int .i64 el, .slice (some ⟨g217, 0, none⟩) N N]) A215 T218 (g_build (r := [(0, .int .i64 el), (1, .slice (some ⟨g217, 0, none⟩) N N)]) (by kernel_rfl) (fun _ => by kernel_rfl)) rfl rfl rfl (pf_then (pf_then pf_body)) (by kernel_rfl) (fun ac A219 => ?_)
        refine r_1 (i := 7) (by kernel_rfl) ?_
        refine rs_store (g := g213) (off := 0) (v := .agg #[.int .i64 el, .slice (some ⟨g217, 0, none⟩) N N]) 1 (#[.int .i64 el, .slice (some ⟨g217, 0, none⟩) N N]) A219 S216 (sub_skip (sub_skip sub_all)) sub_all (by kernel_rfl) (by kernel_rfl) rfl (by kernel_rfl) rfl rfl (fun wc S221 => ?_)
        have T223 := S221.sub (sub_skip (sub_skip sub_all)) sub_all
        refine r_done (by kernel_rfl) ?_
        refine n_then ?_
        exact ⟨g213, g217, (A219.slot (A219.slot (A219.slot (A219.slot (A219.slot (A219.slot (A219.slot (A219.slot (A219.slot (A219.slot (A219.slot (A219.slot A219.nil (v := .pointer (some ⟨g213, 0, none⟩)) (by kernel_rfl) rfl) (v := .bool (inB el 1 3)) (by kernel_rfl) rfl) (v := .int .i64 el) (by kernel_rfl) rfl) (v := .pointer (some ⟨g3, 0, none⟩)) (by kernel_rfl) rfl) (v := .int .i64 (mx (-1) (mn 1 mo))) (by kernel_rfl) rfl) (v := .int .i64 (mx (-1) (mn 1 mo))) (by kernel_rfl) rfl) (v := .int .i64 (mn 1 mo)) (by kernel_rfl) rfl) (v := .int .i64 mo) (by kernel_rfl) rfl) (v := .pointer (some ⟨g3, 3, none⟩)) (by kernel_rfl) rfl) (v := .pointer (some ⟨g7, 0, none⟩)) (by kernel_rfl) rfl) (v := .pointer (some ⟨g3, 0, none⟩)) (by kernel_rfl) rfl) (v := .agg #[.int .i64 el, .slice SA sn scap, .slice RA rn rcap, .int .i64 mo]) (by kernel_rfl) rfl), (St.perm S221 (List.Perm.swap _ _ _)).sub sub_all sub_all⟩
    · rintro ac wc ⟨g189, g190, A224, S225⟩
      refine n_then ?_
      refine wp_seq ?_
      refine wp_seq ?_
      refine wp_region_lit ?_
      refine s_one (.int .i64 0) A224 S225 (g_assign (by kernel_rfl)) rfl (fun ac A226 => ?_)
      refine wpList_nil ?_
      refine n_then ?_
      refine wp_block ?_
      refine c_loopN (fun mm ac wc => ∃ (k : Nat) (xs : List Nat), mm = sn - k ∧ (k ≤ sn) ∧ (xs.length = N) ∧ Fr 87 ac [(0, .agg #[.int .i64 el, .slice SA sn scap, .slice RA rn rcap, .int .i64 mo]), (1, .pointer (some ⟨g3, 0, none⟩)), (2, .pointer (some ⟨g7, 0, none⟩)), (7, .pointer (some ⟨g3, 3, none⟩)), (8, .int .i64 mo), (9, .int .i64 (mn 1 mo)), (10, .int .i64 (mx (-1) (mn 1 mo))), (3, .int .i64 (mx (-1) (mn 1 mo))), (11, .pointer (some ⟨g3, 0, none⟩)), (12, .int .i64 el), (13, .bool (inB el 1 3)), (4, .pointer (some ⟨g189, 0, none⟩)), (5, .int .i64 (k : Int))] ∧ St w0 [⟨g189, 30, #[.int .i64 el, .slice (some ⟨g190, 0, none⟩) N N], true⟩, ⟨g190, 36, (trc xs), true⟩, ⟨g7, 30, #[.int .i64 0, .slice none 0 0], true⟩, ⟨g3, 25, #[.int .i64 el, .slice SA sn scap, .slice RA rn rcap, .int .i64 mo], true⟩] [] wc) _ ⟨0, (List.replicate N 0), rfl, (by omega), (List.length_replicate), (A226.slot (A226.slot (A226.slot (A226.slot (A226.slot (A226.slot (A226.slot (A226.slot (A226.slot (A226.slot (A226.slot (A226.slot (A226.slot A226.nil (v := .int .i64 0) (by kernel_rfl) (congrArg (Value.int .i64) (by omega))) (v := .pointer (some ⟨g189, 0, none⟩)) (by kernel_rfl) rfl) (v := .bool (inB el 1 3)) (by kernel_rfl) rfl) (v := .int .i64 el) (by kernel_rfl) rfl) (v := .pointer (some ⟨g3, 0, none⟩)) (by kernel_rfl) rfl) (v := .int .i64 (mx (-1) (mn 1 mo))) (by kernel_rfl) rfl) (v := .int .i64 (mx (-1) (mn 1 mo))) (by kernel_rfl) rfl) (v := .int .i64 (mn 1 mo)) (by kernel_rfl) rfl) (v := .int .i64 mo) (by kernel_rfl) rfl) (v := .pointer (some ⟨g3, 3, none⟩)) (by kernel_rfl) rfl) (v := .pointer (some ⟨g7, 0, none⟩)) (by kernel_rfl) rfl) (v := .pointer (some ⟨g3, 0, none⟩)) (by kernel_rfl) rfl) (v := .agg #[.int .i64 el, .slice SA sn scap, .slice RA rn rcap, .int .i64 mo]) (by kernel_rfl) rfl), (St.recell 1 S225 rfl (by rfl)).sub sub_all sub_all⟩ ?_
      rintro mm ac wc ⟨k, xs, hm229, hkk, hl, A227, S228⟩
      refine wp_seq ?_
      refine wp_seq ?_
      refine c_cut (fun ac wc => Fr 87 ac [(38, .bool ((decide ((k : Int) < (sn : Int))) && (decide ((N : Int) > 0)))), (0, .agg #[.int .i64 el, .slice SA sn scap, .slice RA rn rcap, .int .i64 mo]), (1, .pointer (some ⟨g3, 0, none⟩)), (2, .pointer (some ⟨g7, 0, none⟩)), (7, .pointer (some ⟨g3, 3, none⟩)), (8, .int .i64 mo), (9, .int .i64 (mn 1 mo)), (10, .int .i64 (mx (-1) (mn 1 mo))), (3, .int .i64 (mx (-1) (mn 1 mo))), (11, .pointer (some ⟨g3, 0, none⟩)), (12, .int .i64 el), (13, .bool (inB el 1 3)), (4, .pointer (some ⟨g189, 0, none⟩)), (5, .int .i64 (k : Int))] ∧ St w0 [⟨g189, 30, #[.int .i64 el, .slice (some ⟨g190, 0, none⟩) N N], true⟩, ⟨g190, 36, (trc xs), true⟩, ⟨g7, 30, #[.int .i64 0, .slice none 0 0], true⟩, ⟨g3, 25, #[.int .i64 el, .slice SA sn scap, .slice RA rn rcap, .int .i64 mo], true⟩] [] wc) ?_ ?_
      · refine wp_region_lit ?_
        refine s_one (.int .i64 (k : Int)) A227 S228 (g_move (by kernel_rfl)) rfl (fun ac A230 => ?_)
        refine s_one (.pointer (some ⟨g3, 1, none⟩)) A230 S228 (g_field (u := .pointer (some ⟨g3, 0, none⟩)) (by kernel_rfl) (fun _ => by kernel_rfl)) rfl (fun ac A231 => ?_)
        refine s_one (.slice SA sn scap) A231 S228 (g_load (g := g3) (off := 1) 3 (by kernel_rfl) rfl (by kernel_rfl)) rfl (fun ac A232 => ?_)
        refine s_one (.int .i64 (sn : Int)) A232 S228 (g_built (r := [(0, .slice SA sn scap)]) (by kernel_rfl) (fun _ _ _ => by kernel_rfl)) rfl (fun ac A233 => ?_)
        refine s_one (.bool (decide ((k : Int) < (sn : Int)))) A233 S228 (g_bin (u := .int .i64 (k : Int)) (k := .int .i64 (sn : Int)) (by kernel_rfl) (by kernel_rfl) (fun _ => by kernel_rfl) (fun _ => by kernel_rfl)) rfl (fun ac A234 => ?_)
        refine s_one (.bool (decide ((k : Int) < (sn : Int)))) A234 S228 (g_move (by kernel_rfl)) rfl (fun ac A235 => ?_)
        refine by_bool (decide ((k : Int) < (sn : Int))) (fun h236 => ?_) (fun h236 => ?_)
        · have p237 := of_decide_eq_true h236
          refine s_want (dj := 33) (b := (decide ((k : Int) < (sn : Int)))) A235 (by kernel_rfl) (by kernel_rfl) h236 ?_
          refine s_one (.pointer (some ⟨g189, 1, none⟩)) A235 S228 (g_field (u := .pointer (some ⟨g189, 0, none⟩)) (by kernel_rfl) (fun _ => by kernel_rfl)) rfl (fun ac A238 => ?_)
          refine s_want (dj := 33) (b := (decide ((k : Int) < (sn : Int)))) A238 (by kernel_rfl) (by kernel_rfl) h236 ?_
          refine s_one (.slice (some ⟨g190, 0, none⟩) N N) A238 S228 (g_load (g := g189) (off := 1) 0 (by kernel_rfl) rfl (by kernel_rfl)) rfl (fun ac A239 => ?_)
          refine s_want (dj := 33) (b := (decide ((k : Int) < (sn : Int)))) A239 (by kernel_rfl) (by kernel_rfl) h236 ?_
          refine s_one (.int .i64 (N : Int)) A239 S228 (g_built (r := [(0, .slice (some ⟨g190, 0, none⟩) N N)]) (by kernel_rfl) (fun _ _ _ => by kernel_rfl)) rfl (fun ac A240 => ?_)
          refine s_want (dj := 33) (b := (decide ((k : Int) < (sn : Int)))) A240 (by kernel_rfl) (by kernel_rfl) h236 ?_
          refine s_one (.bool (decide ((N : Int) > 0))) A240 S228 (g_bin (u := .int .i64 (N : Int)) (k := .int .i64 0) (by kernel_rfl) (by kernel_rfl) (fun _ => by kernel_rfl) (fun _ => by kernel_rfl)) rfl (fun ac A241 => ?_)
          refine s_one (.bool (decide ((N : Int) > 0))) A241 S228 (g_pick_t (b := (decide ((k : Int) < (sn : Int)))) (by kernel_rfl) h236 (by kernel_rfl)) rfl (fun ac A242 => ?_)
          refine wpList_nil ?_
          refine n_then ?_
          exact ⟨(A242.slot (A242.slot (A242.slot (A242.slot (A242.slot (A242.slot (A242.slot (A242.slot (A242.slot (A242.slot (A242.slot (A242.slot (A242.slot (A242.slot A242.nil (v := .int .i64 (k : Int)) (by kernel_rfl) rfl) (v := .pointer (some ⟨g189, 0, none⟩)) (by kernel_rfl) rfl) (v := .bool (inB el 1 3)) (by kernel_rfl) rfl) (v := .int .i64 el) (by kernel_rfl) rfl) (v := .pointer (some ⟨g3, 0, none⟩)) (by kernel_rfl) rfl) (v := .int .i64 (mx (-1) (mn 1 mo))) (by kernel_rfl) rfl) (v := .int .i64 (mx (-1) (mn 1 mo))) (by kernel_rfl) rfl) (v := .int .i64 (mn 1 mo)) (by kernel_rfl) rfl) (v := .int .i64 mo) (by kernel_rfl) rfl) (v := .pointer (some ⟨g3, 3, none⟩)) (by kernel_rfl) rfl) (v := .pointer (some ⟨g7, 0, none⟩)) (by kernel_rfl) rfl) (v := .pointer (some ⟨g3, 0, none⟩)) (by kernel_rfl) rfl) (v := .agg #[.int .i64 el, .slice SA sn scap, .slice RA rn rcap, .int .i64 mo]) (by kernel_rfl) rfl) (v := .bool (decide ((N : Int) > 0))) (by kernel_rfl) (congrArg Value.bool (b_and_t h236 (Eq.refl (decide ((N : Int) > 0)))).symm)), S228.sub sub_all sub_all⟩
        · have p243 := of_decide_eq_false h236
          refine s_not (dj := 33) (b := (decide ((k : Int) < (sn : Int)))) A235 (by kernel_rfl) (by kernel_rfl) h236 rfl (fun ac A244 => ?_)
          refine s_not (dj := 33) (b := (decide ((k : Int) < (sn : Int)))) A244 (by kernel_rfl) (by kernel_rfl) h236 rfl (fun ac A245 => ?_)
          refine s_not (dj := 33) (b := (decide ((k : Int) < (sn : Int)))) A245 (by kernel_rfl) (by kernel_rfl) h236 rfl (fun ac A246 => ?_)
          refine s_not (dj := 33) (b := (decide ((k : Int) < (sn : Int)))) A246 (by kernel_rfl) (by kernel_rfl) h236 rfl (fun ac A247 => ?_)
          refine s_one (.bool false) A247 S228 (g_pick_f (b := (decide ((k : Int) < (sn : Int)))) (by kernel_rfl) h236 (by kernel_rfl)) rfl (fun ac A248 => ?_)
          refine wpList_nil ?_
          refine n_then ?_
          exact ⟨(A248.slot (A248.slot (A248.slot (A248.slot (A248.slot (A248.slot (A248.slot (A248.slot (A248.slot (A248.slot (A248.slot (A248.slot (A248.slot (A248.slot A248.nil (v := .int .i64 (k : Int)) (by kernel_rfl) rfl) (v := .pointer (some ⟨g189, 0, none⟩)) (by kernel_rfl) rfl) (v := .bool (inB el 1 3)) (by kernel_rfl) rfl) (v := .int .i64 el) (by kernel_rfl) rfl) (v := .pointer (some ⟨g3, 0, none⟩)) (by kernel_rfl) rfl) (v := .int .i64 (mx (-1) (mn 1 mo))) (by kernel_rfl) rfl) (v := .int .i64 (mx (-1) (mn 1 mo))) (by kernel_rfl) rfl) (v := .int .i64 (mn 1 mo)) (by kernel_rfl) rfl) (v := .int .i64 mo) (by kernel_rfl) rfl) (v := .pointer (some ⟨g3, 3, none⟩)) (by kernel_rfl) rfl) (v := .pointer (some ⟨g7, 0, none⟩)) (by kernel_rfl) rfl) (v := .pointer (some ⟨g3, 0, none⟩)) (by kernel_rfl) rfl) (v := .agg #[.int .i64 el, .slice SA sn scap, .slice RA rn rcap, .int .i64 mo]) (by kernel_rfl) rfl) (v := .bool false) (by kernel_rfl) (congrArg Value.bool (b_af1 h236).symm)), S228.sub sub_all sub_all⟩
      · rintro ac wc ⟨A249, S250⟩
        refine n_then ?_
        refine c_ifb (b := ((decide ((k : Int) < (sn : Int))) && (decide ((N : Int) > 0)))) A249 (by kernel_rfl) (fun h251 => ?_) (fun h251 => ?_)
        · have h252 := (Bool.and_eq_true_iff.1 h251).1
          have p253 := of_decide_eq_true h252
          have h254 := (Bool.and_eq_true_iff.1 h251).2
          have p255 := of_decide_eq_true h254
          refine wp_skip ?_
          refine n_then ?_
          refine wp_seq ?_
          refine wp_block ?_
          refine r_begin (w0 := w0) (by kernel_rfl) (S250.sub (sub_keep (sub_skip sub_all)) sub_all) (fun wc T256 B257 => ?_)
          have S258 := S250.kept B257
          refine r_take 0 (.pointer (some ⟨g189, 1, none⟩)) A249 T256 (g_field (u := .pointer (some ⟨g189, 0, none⟩)) (by kernel_rfl) (fun _ => by kernel_rfl)) rfl rfl rfl (pf_block (pf_then (pf_then (pf_block (pf_then pf_body))))) (by kernel_rfl) (fun ac A259 => ?_)
          refine r_take 1 (.slice (some ⟨g190, 0, none⟩) N N) A259 T256 (g_load (g := g189) (off := 1) 0 (by kernel_rfl) rfl (by kernel_rfl)) rfl rfl rfl (pf_block (pf_then (pf_then (pf_block (pf_then pf_body))))) (by kernel_rfl) (fun ac A260 => ?_)
          refine r_take 2 (.pointer (some ⟨g3, 1, none⟩)) A260 T256 (g_field (u := .pointer (some ⟨g3, 0, none⟩)) (by kernel_rfl) (fun _ => by kernel_rfl)) rfl rfl rfl (pf_block (pf_then (pf_then (pf_block (pf_then pf_body))))) (by kernel_rfl) (fun ac A261 => ?_)
          refine r_take 3 (.slice SA sn scap) A261 T256 (g_load (g := g3) (off := 1) 2 (by kernel_rfl) rfl (by kernel_rfl)) rfl rfl rfl (pf_block (pf_then (pf_then (pf_block (pf_then pf_body))))) (by kernel_rfl) (fun ac A262 => ?_)
          refine r_take 4 (.int .i64 (k : Int)) A262 T256 (g_move (by kernel_rfl)) rfl rfl rfl (pf_block (pf_then (pf_then (pf_block (pf_then pf_body))))) (by kernel_rfl) (fun ac A263 => ?_)
          obtain ⟨ad264, rfl, _⟩ := hsr (k * 2) (by have hlen := hsn; omega)
          refine r_take 5 (.pointer (some (ad264.add (k * 2)))) A263 T256 (g_index (u := .slice (some ad264) sn scap) (k := .int .i64 (k : Int)) (by kernel_rfl) (by kernel_rfl) (ix_xs (e := 26) (bytes := 16) k (by kernel_rfl) (by omega) (by omega))) rfl rfl rfl (pf_block (pf_then (pf_then (pf_block (pf_then pf_body))))) (by kernel_rfl) (fun ac A265 => ?_)
          refine r_take 6 (.pointer (some (ad264.add (k * 2 + 0)))) A265 T256 (g_index (u := .pointer (some (ad264.add (k * 2)))) (k := .int .i64 0) (by kernel_rfl) (by kernel_rfl) (ix_xarr (len := 2) (size := 1) (y := k * 2 + 0) 0 (by kernel_rfl) (by omega) (by omega) (by omega))) rfl rfl rfl (pf_block (pf_then (pf_then (pf_block (pf_then pf_body))))) (by kernel_rfl) (fun ac A266 => ?_)
          refine r_take 7 (.int .i64 (nthI sl (k * 2 + 0))) A266 T256 (g_loadXI (l := sl) (k := k * 2 + 0) (by kernel_rfl) hsr (by have hlen := hsn; omega) (by kernel_rfl)) rfl rfl rfl (pf_block (pf_then (pf_then (pf_block (pf_then pf_body))))) (by kernel_rfl) (fun ac A267 => ?_)
          refine r_take 8 (.pointer (some ⟨g189, 1, none⟩)) A267 T256 (g_field (u := .pointer (some ⟨g189, 0, none⟩)) (by kernel_rfl) (fun _ => by kernel_rfl)) rfl rfl rfl (pf_block (pf_then (pf_then (pf_block (pf_then pf_body))))) (by kernel_rfl) (fun ac A268 => ?_)
          refine r_take 9 (.slice (some ⟨g190, 0, none⟩) N N) A268 T256 (g_load (g := g189) (off := 1) 0 (by kernel_rfl) rfl (by kernel_rfl)) rfl rfl rfl (pf_block (pf_then (pf_then (pf_block (pf_then pf_body))))) (by kernel_rfl) (fun ac A269 => ?_)
          refine r_take 10 (.int .i64 (N : Int)) A269 T256 (g_built (r := [(0, .slice (some ⟨g190, 0, none⟩) N N)]) (by kernel_rfl) (fun _ _ _ => by kernel_rfl)) rfl rfl rfl (pf_block (pf_then (pf_then (pf_block (pf_then pf_body))))) (by kernel_rfl) (fun ac A270 => ?_)
          refine r_take 12 (.pointer (some ⟨g3, 1, none⟩)) A270 T256 (g_field (u := .pointer (some ⟨g3, 0, none⟩)) (by kernel_rfl) (fun _ => by kernel_rfl)) rfl rfl rfl (pf_block (pf_then (pf_then (pf_block (pf_then pf_body))))) (by kernel_rfl) (fun ac A271 => ?_)
          refine r_take 13 (.slice (some ad264) sn scap) A271 T256 (g_load (g := g3) (off := 1) 2 (by kernel_rfl) rfl (by kernel_rfl)) rfl rfl rfl (pf_block (pf_then (pf_then (pf_block (pf_then pf_body))))) (by kernel_rfl) (fun ac A272 => ?_)
          refine r_take 14 (.int .i64 (k : Int)) A272 T256 (g_move (by kernel_rfl)) rfl rfl rfl (pf_block (pf_then (pf_then (pf_block (pf_then pf_body))))) (by kernel_rfl) (fun ac A273 => ?_)
          refine r_take 15 (.pointer (some (ad264.add (k * 2)))) A273 T256 (g_index (u := .slice (some ad264) sn scap) (k := .int .i64 (k : Int)) (by kernel_rfl) (by kernel_rfl) (ix_xs (e := 26) (bytes := 16) k (by kernel_rfl) (by omega) (by omega))) rfl rfl rfl (pf_block (pf_then (pf_then (pf_block (pf_then pf_body))))) (by kernel_rfl) (fun ac A274 => ?_)
          refine r_take 16 (.pointer (some (ad264.add (k * 2 + 1)))) A274 T256 (g_index (u := .pointer (some (ad264.add (k * 2)))) (k := .int .i64 1) (by kernel_rfl) (by kernel_rfl) (ix_xarr (len := 2) (size := 1) (y := k * 2 + 1) 1 (by kernel_rfl) (by omega) (by omega) (by omega))) rfl rfl rfl (pf_block (pf_then (pf_then (pf_block (pf_then pf_body))))) (by kernel_rfl) (fun ac A275 => ?_)
          refine r_take 17 (.int .i64 (nthI sl (k * 2 + 1))) A275 T256 (g_loadXI (l := sl) (k := k * 2 + 1) (by kernel_rfl) hsr (by have hlen := hsn; omega) (by kernel_rfl)) rfl rfl rfl (pf_block (pf_then (pf_then (pf_block (pf_then pf_body))))) (by kernel_rfl) (fun ac A276 => ?_)
          refine r_take 18 (.int .i64 (mn 4000 (nthI sl (k * 2 + 1)))) A276 T256 (g_built (r := [(0, .int .i64 4000), (0, .int .i64 (nthI sl (k * 2 + 1)))]) (by kernel_rfl) (fun ty cs w => by show (do let x ← Builtin.min_ _ ty #[.int .i64 4000, .int .i64 (nthI sl (k * 2 + 1))]; pure (Next.value x) : Sem Next).run _ w = _; rw [Sem.run_bind, run_min_mn]; rfl)) rfl rfl rfl (pf_block (pf_then (pf_then (pf_block (pf_then pf_body))))) (by kernel_rfl) (fun ac A277 => ?_)
          refine r_take 19 (.int .i64 (mx (-4000) (mn 4000 (nthI sl (k * 2 + 1))))) A277 T256 (g_built (r := [(0, .int .i64 (-4000)), (0, .int .i64 (mn 4000 (nthI sl (k * 2 + 1))))]) (by kernel_rfl) (fun ty cs w => by show (do let x ← Builtin.max_ _ ty #[.int .i64 (-4000), .int .i64 (mn 4000 (nthI sl (k * 2 + 1)))]; pure (Next.value x) : Sem Next).run _ w = _; rw [Sem.run_bind, run_max_mx]; rfl)) rfl rfl rfl (pf_block (pf_then (pf_then (pf_block (pf_then pf_body))))) (by kernel_rfl) (fun ac A278 => ?_)
          refine r_take 20 (.float .f32 (floatOfInt .f32 (mx (-4000) (mn 4000 (nthI sl (k * 2 + 1)))))) A278 T256 (g_conv (u := .int .i64 (mx (-4000) (mn 4000 (nthI sl (k * 2 + 1))))) (by kernel_rfl) (fun _ => by kernel_rfl)) rfl rfl rfl (pf_block (pf_then (pf_then (pf_block (pf_then pf_body))))) (by kernel_rfl) (fun ac A279 => ?_)
          refine r_1 (i := 11) (by kernel_rfl) ?_
          have q284 := Int.emod_nonneg (nthI sl (k * 2 + 0)) (b := (N : Int)) (by omega)
          have q285 := Int.emod_lt_of_pos (nthI sl (k * 2 + 0)) (b := (N : Int)) (by omega)
          refine rs_call (fs := #[]) (cp := #[]) (r := [(0, .int .i64 (nthI sl (k * 2 + 0))), (0, .int .i64 (N : Int))]) #[.int .i64 (nthI sl (k * 2 + 0)), .int .i64 (N : Int)] (.int .i64 ((nthI sl (k * 2 + 0)) % (N : Int))) A279 S258 (sub_keep (sub_skip sub_all)) sub_all (sameB (Mod_any (nthI sl (k * 2 + 0)) (N : Int) _ (by omega) (by omega))) Try.call49 rfl rfl (by kernel_rfl) (by kernel_rfl) (by kernel_rfl) rfl (fun ac wc A280 S281 => ?_)
          have T283 := S281.sub (sub_keep (sub_skip sub_all)) sub_all
          refine r_take 21 (.pointer (some ⟨g190, ((nthI sl (k * 2 + 0)) % (N : Int)).toNat, none⟩)) A280 T283 (g_index (u := .slice (some ⟨g190, 0, none⟩) N N) (k := .int .i64 ((nthI sl (k * 2 + 0)) % (N : Int))) (by kernel_rfl) (by kernel_rfl) (ix_sl1 (e := 36) (bytes := 4) (((nthI sl (k * 2 + 0)) % (N : Int)).toNat) (by kernel_rfl) (by omega) (by omega))) rfl rfl rfl (pf_block (pf_then (pf_then (pf_block (pf_then pf_body))))) (by kernel_rfl) (fun ac A286 => ?_)
          refine r_1 (i := 22) (by kernel_rfl) ?_
          refine rs_store (g := g190) (off := ((nthI sl (k * 2 + 0)) % (N : Int)).toNat) (v := .float .f32 (floatOfInt .f32 (mx (-4000) (mn 4000 (nthI sl (k * 2 + 1)))))) 1 (trc (xs.set (((nthI sl (k * 2 + 0)) % (N : Int)).toNat) (floatOfInt .f32 (mx (-4000) (mn 4000 (nthI sl (k * 2 + 1))))))) A286 S281 (sub_keep (sub_skip sub_all)) sub_all (by kernel_rfl) (by kernel_rfl) rfl ((pv_of (by kernel_rfl) rfl (by rw [trc_size, hl]; omega)).trans (congrArg some (trc_set xs (((nthI sl (k * 2 + 0)) % (N : Int)).toNat) (floatOfInt .f32 (mx (-4000) (mn 4000 (nthI sl (k * 2 + 1)))))))) rfl rfl (fun wc S288 => ?_)
          have T290 := S288.sub (sub_keep (sub_skip sub_all)) sub_all
          refine r_done (by kernel_rfl) ?_
          refine n_block ?_
          refine n_then ?_
          refine wp_region_lit ?_
          refine s_one (.int .i64 (k : Int)) A286 S288 (g_move (by kernel_rfl)) rfl (fun ac A291 => ?_)
          refine s_one (.int .i64 ((k : Int) + 1)) A291 S288 (g_bin (u := .int .i64 (k : Int)) (k := .int .i64 1) (by kernel_rfl) (by kernel_rfl) (fun _ => by kernel_rfl) (b_add (by omega))) rfl (fun ac A292 => ?_)
          refine s_one (.int .i64 ((k : Int) + 1)) A292 S288 (g_assign (by kernel_rfl)) rfl (fun ac A293 => ?_)
          refine wpList_nil ?_
          refine n_then ?_
          refine ⟨_, ⟨k + 1, (xs.set (((nthI sl (k * 2 + 0)) % (N : Int)).toNat) (floatOfInt .f32 (mx (-4000) (mn 4000 (nthI sl (k * 2 + 1)))))), rfl, (by omega), (List.length_set.trans hl), (A293.slot (A293.slot (A293.slot (A293.slot (A293.slot (A293.slot (A293.slot (A293.slot (A293.slot (A293.slot (A293.slot (A293.slot (A293.slot A293.nil (v := .int .i64 ((k : Int) + 1)) (by kernel_rfl) (congrArg (Value.int .i64) (by omega))) (v := .pointer (some ⟨g189, 0, none⟩)) (by kernel_rfl) rfl) (v := .bool (inB el 1 3)) (by kernel_rfl) rfl) (v := .int .i64 el) (by kernel_rfl) rfl) (v := .pointer (some ⟨g3, 0, none⟩)) (by kernel_rfl) rfl) (v := .int .i64 (mx (-1) (mn 1 mo))) (by kernel_rfl) rfl) (v := .int .i64 (mx (-1) (mn 1 mo))) (by kernel_rfl) rfl) (v := .int .i64 (mn 1 mo)) (by kernel_rfl) rfl) (v := .int .i64 mo) (by kernel_rfl) rfl) (v := .pointer (some ⟨g3, 3, none⟩)) (by kernel_rfl) rfl) (v := .pointer (some ⟨g7, 0, none⟩)) (by kernel_rfl) rfl) (v := .pointer (some ⟨g3, 0, none⟩)) (by kernel_rfl) rfl) (v := .agg #[.int .i64 el, .slice (some ad264) sn scap, .slice RA rn rcap, .int .i64 mo]) (by kernel_rfl) (by first | rfl | simp)), (St.recell 3 S288 rfl (by rfl)).sub sub_all sub_all⟩, ?_⟩
          omega
        · refine wp_exit ?_
          refine x_then ?_
          refine x_then ?_
          refine x_hit ?_
          refine n_then ?_
          refine wp_seq ?_
          refine wp_seq ?_
          refine wp_region_lit ?_
          refine s_one (.int .i64 0) A249 S250 (g_assign (by kernel_rfl)) rfl (fun ac A294 => ?_)
          refine wpList_nil ?_
          refine n_then ?_
          refine wp_block ?_
          refine c_loopN (fun mm ac wc => ∃ (j : Nat) (zs : List Nat), mm = rn - j ∧ (j ≤ rn) ∧ (zs.length = N) ∧ Fr 87 ac [(0, .agg #[.int .i64 el, .slice SA sn scap, .slice RA rn rcap, .int .i64 mo]), (1, .pointer (some ⟨g3, 0, none⟩)), (2, .pointer (some ⟨g7, 0, none⟩)), (7, .pointer (some ⟨g3, 3, none⟩)), (8, .int .i64 mo), (9, .int .i64 (mn 1 mo)), (10, .int .i64 (mx (-1) (mn 1 mo))), (3, .int .i64 (mx (-1) (mn 1 mo))), (11, .pointer (some ⟨g3, 0, none⟩)), (12, .int .i64 el), (13, .bool (inB el 1 3)), (4, .pointer (some ⟨g189, 0, none⟩)), (5, .int .i64 (k : Int)), (38, .bool ((decide ((k : Int) < (sn : Int))) && (decide ((N : Int) > 0)))), (6, .int .i64 (j : Int))] ∧ St w0 [⟨g189, 30, #[.int .i64 el, .slice (some ⟨g190, 0, none⟩) N N], true⟩, ⟨g190, 36, (trc zs), true⟩, ⟨g7, 30, #[.int .i64 0, .slice none 0 0], true⟩, ⟨g3, 25, #[.int .i64 el, .slice SA sn scap, .slice RA rn rcap, .int .i64 mo], true⟩] [] wc) _ ⟨0, xs, rfl, (by omega), hl, (A294.slot (A294.slot (A294.slot (A294.slot (A294.slot (A294.slot (A294.slot (A294.slot (A294.slot (A294.slot (A294.slot (A294.slot (A294.slot (A294.slot (A294.slot A294.nil (v := .int .i64 0) (by kernel_rfl) (congrArg (Value.int .i64) (by omega))) (v := .bool ((decide ((k : Int) < (sn : Int))) && (decide ((N : Int) > 0)))) (by kernel_rfl) rfl) (v := .int .i64 (k : Int)) (by kernel_rfl) rfl) (v := .pointer (some ⟨g189, 0, none⟩)) (by kernel_rfl) rfl) (v := .bool (inB el 1 3)) (by kernel_rfl) rfl) (v := .int .i64 el) (by kernel_rfl) rfl) (v := .pointer (some ⟨g3, 0, none⟩)) (by kernel_rfl) rfl) (v := .int .i64 (mx (-1) (mn 1 mo))) (by kernel_rfl) rfl) (v := .int .i64 (mx (-1) (mn 1 mo))) (by kernel_rfl) rfl) (v := .int .i64 (mn 1 mo)) (by kernel_rfl) rfl) (v := .int .i64 mo) (by kernel_rfl) rfl) (v := .pointer (some ⟨g3, 3, none⟩)) (by kernel_rfl) rfl) (v := .pointer (some ⟨g7, 0, none⟩)) (by kernel_rfl) rfl) (v := .pointer (some ⟨g3, 0, none⟩)) (by kernel_rfl) rfl) (v := .agg #[.int .i64 el, .slice SA sn scap, .slice RA rn rcap, .int .i64 mo]) (by kernel_rfl) rfl), (St.recell 1 S250 rfl (by rfl)).sub sub_all sub_all⟩ ?_
          rintro mm ac wc ⟨j, zs, hm297, hkj, hz, A295, S296⟩
          refine wp_seq ?_
          refine wp_seq ?_
          refine c_cut (fun ac wc => Fr 87 ac [(74, .bool ((decide ((j : Int) < (rn : Int))) && (decide ((j : Int) < (N : Int))))), (0, .agg #[.int .i64 el, .slice SA sn scap, .slice RA rn rcap, .int .i64 mo]), (1, .pointer (some ⟨g3, 0, none⟩)), (2, .pointer (some ⟨g7, 0, none⟩)), (7, .pointer (some ⟨g3, 3, none⟩)), (8, .int .i64 mo), (9, .int .i64 (mn 1 mo)), (10, .int .i64 (mx (-1) (mn 1 mo))), (3, .int .i64 (mx (-1) (mn 1 mo))), (11, .pointer (some ⟨g3, 0, none⟩)), (12, .int .i64 el), (13, .bool (inB el 1 3)), (4, .pointer (some ⟨g189, 0, none⟩)), (5, .int .i64 (k : Int)), (38, .bool ((decide ((k : Int) < (sn : Int))) && (decide ((N : Int) > 0)))), (6, .int .i64 (j : Int))] ∧ St w0 [⟨g189, 30, #[.int .i64 el, .slice (some ⟨g190, 0, none⟩) N N], true⟩, ⟨g190, 36, (trc zs), true⟩, ⟨g7, 30, #[.int .i64 0, .slice none 0 0], true⟩, ⟨g3, 25, #[.int .i64 el, .slice SA sn scap, .slice RA rn rcap, .int .i64 mo], true⟩] [] wc) ?_ ?_
          · refine wp_region_lit ?_
            refine s_one (.int .i64 (j : Int)) A295 S296 (g_move (by kernel_rfl)) rfl (fun ac A298 => ?_)
            refine s_one (.pointer (some ⟨g3, 2, none⟩)) A298 S296 (g_field (u := .pointer (some ⟨g3, 0, none⟩)) (by kernel_rfl) (fun _ => by kernel_rfl)) rfl (fun ac A299 => ?_)
            refine s_one (.slice RA rn rcap) A299 S296 (g_load (g := g3) (off := 2) 3 (by kernel_rfl) rfl (by kernel_rfl)) rfl (fun ac A300 => ?_)
            refine s_one (.int .i64 (rn : Int)) A300 S296 (g_built (r := [(0, .slice RA rn rcap)]) (by kernel_rfl) (fun _ _ _ => by kernel_rfl)) rfl (fun ac A301 => ?_)
            refine s_one (.bool (decide ((j : Int) < (rn : Int)))) A301 S296 (g_bin (u := .int .i64 (j : Int)) (k := .int .i64 (rn : Int)) (by kernel_rfl) (by kernel_rfl) (fun _ => by kernel_rfl) (fun _ => by kernel_rfl)) rfl (fun ac A302 => ?_)
            refine s_one (.bool (decide ((j : Int) < (rn : Int)))) A302 S296 (g_move (by kernel_rfl)) rfl (fun ac A303 => ?_)
            refine by_bool (decide ((j : Int) < (rn : Int))) (fun h304 => ?_) (fun h304 => ?_)
            · have p305 := of_decide_eq_true h304
              refine s_want (dj := 68) (b := (decide ((j : Int) < (rn : Int)))) A303 (by kernel_rfl) (by kernel_rfl) h304 ?_
              refine s_one (.int .i64 (j : Int)) A303 S296 (g_move (by kernel_rfl)) rfl (fun ac A306 => ?_)
              refine s_want (dj := 68) (b := (decide ((j : Int) < (rn : Int)))) A306 (by kernel_rfl) (by kernel_rfl) h304 ?_
              refine s_one (.pointer (some ⟨g189, 1, none⟩)) A306 S296 (g_field (u := .pointer (some ⟨g189, 0, none⟩)) (by kernel_rfl) (fun _ => by kernel_rfl)) rfl (fun ac A307 => ?_)
              refine s_want (dj := 68) (b := (decide ((j : Int) < (rn : Int)))) A307 (by kernel_rfl) (by kernel_rfl) h304 ?_
              refine s_one (.slice (some ⟨g190, 0, none⟩) N N) A307 S296 (g_load (g := g189) (off := 1) 0 (by kernel_rfl) rfl (by kernel_rfl)) rfl (fun ac A308 => ?_)
              refine s_want (dj := 68) (b := (decide ((j : Int) < (rn : Int)))) A308 (by kernel_rfl) (by kernel_rfl) h304 ?_
              refine s_one (.int .i64 (N : Int)) A308 S296 (g_built (r := [(0, .slice (some ⟨g190, 0, none⟩) N N)]) (by kernel_rfl) (fun _ _ _ => by kernel_rfl)) rfl (fun ac A309 => ?_)
              refine s_want (dj := 68) (b := (decide ((j : Int) < (rn : Int)))) A309 (by kernel_rfl) (by kernel_rfl) h304 ?_
              refine s_one (.bool (decide ((j : Int) < (N : Int)))) A309 S296 (g_bin (u := .int .i64 (j : Int)) (k := .int .i64 (N : Int)) (by kernel_rfl) (by kernel_rfl) (fun _ => by kernel_rfl) (fun _ => by kernel_rfl)) rfl (fun ac A310 => ?_)
              refine s_one (.bool (decide ((j : Int) < (N : Int)))) A310 S296 (g_pick_t (b := (decide ((j : Int) < (rn : Int)))) (by kernel_rfl) h304 (by kernel_rfl)) rfl (fun ac A311 => ?_)
              refine wpList_nil ?_
              refine n_then ?_
              exact ⟨(A311.slot (A311.slot (A311.slot (A311.slot (A311.slot (A311.slot (A311.slot (A311.slot (A311.slot (A311.slot (A311.slot (A311.slot (A311.slot (A311.slot (A311.slot (A311.slot A311.nil (v := .int .i64 (j : Int)) (by kernel_rfl) rfl) (v := .bool ((decide ((k : Int) < (sn : Int))) && (decide ((N : Int) > 0)))) (by kernel_rfl) rfl) (v := .int .i64 (k : Int)) (by kernel_rfl) rfl) (v := .pointer (some ⟨g189, 0, none⟩)) (by kernel_rfl) rfl) (v := .bool (inB el 1 3)) (by kernel_rfl) rfl) (v := .int .i64 el) (by kernel_rfl) rfl) (v := .pointer (some ⟨g3, 0, none⟩)) (by kernel_rfl) rfl) (v := .int .i64 (mx (-1) (mn 1 mo))) (by kernel_rfl) rfl) (v := .int .i64 (mx (-1) (mn 1 mo))) (by kernel_rfl) rfl) (v := .int .i64 (mn 1 mo)) (by kernel_rfl) rfl) (v := .int .i64 mo) (by kernel_rfl) rfl) (v := .pointer (some ⟨g3, 3, none⟩)) (by kernel_rfl) rfl) (v := .pointer (some ⟨g7, 0, none⟩)) (by kernel_rfl) rfl) (v := .pointer (some ⟨g3, 0, none⟩)) (by kernel_rfl) rfl) (v := .agg #[.int .i64 el, .slice SA sn scap, .slice RA rn rcap, .int .i64 mo]) (by kernel_rfl) rfl) (v := .bool (decide ((j : Int) < (N : Int)))) (by kernel_rfl) (congrArg Value.bool (b_and_t h304 (Eq.refl (decide ((j : Int) < (N : Int))))).symm)), S296.sub sub_all sub_all⟩
            · have p312 := of_decide_eq_false h304
              refine s_not (dj := 68) (b := (decide ((j : Int) < (rn : Int)))) A303 (by kernel_rfl) (by kernel_rfl) h304 rfl (fun ac A313 => ?_)
              refine s_not (dj := 68) (b := (decide ((j : Int) < (rn : Int)))) A313 (by kernel_rfl) (by kernel_rfl) h304 rfl (fun ac A314 => ?_)
              refine s_not (dj := 68) (b := (decide ((j : Int) < (rn : Int)))) A314 (by kernel_rfl) (by kernel_rfl) h304 rfl (fun ac A315 => ?_)
              refine s_not (dj := 68) (b := (decide ((j : Int) < (rn : Int)))) A315 (by kernel_rfl) (by kernel_rfl) h304 rfl (fun ac A316 => ?_)
              refine s_not (dj := 68) (b := (decide ((j : Int) < (rn : Int)))) A316 (by kernel_rfl) (by kernel_rfl) h304 rfl (fun ac A317 => ?_)
              refine s_one (.bool false) A317 S296 (g_pick_f (b := (decide ((j : Int) < (rn : Int)))) (by kernel_rfl) h304 (by kernel_rfl)) rfl (fun ac A318 => ?_)
              refine wpList_nil ?_
              refine n_then ?_
              exact ⟨(A318.slot (A318.slot (A318.slot (A318.slot (A318.slot (A318.slot (A318.slot (A318.slot (A318.slot (A318.slot (A318.slot (A318.slot (A318.slot (A318.slot (A318.slot (A318.slot A318.nil (v := .int .i64 (j : Int)) (by kernel_rfl) rfl) (v := .bool ((decide ((k : Int) < (sn : Int))) && (decide ((N : Int) > 0)))) (by kernel_rfl) rfl) (v := .int .i64 (k : Int)) (by kernel_rfl) rfl) (v := .pointer (some ⟨g189, 0, none⟩)) (by kernel_rfl) rfl) (v := .bool (inB el 1 3)) (by kernel_rfl) rfl) (v := .int .i64 el) (by kernel_rfl) rfl) (v := .pointer (some ⟨g3, 0, none⟩)) (by kernel_rfl) rfl) (v := .int .i64 (mx (-1) (mn 1 mo))) (by kernel_rfl) rfl) (v := .int .i64 (mx (-1) (mn 1 mo))) (by kernel_rfl) rfl) (v := .int .i64 (mn 1 mo)) (by kernel_rfl) rfl) (v := .int .i64 mo) (by kernel_rfl) rfl) (v := .pointer (some ⟨g3, 3, none⟩)) (by kernel_rfl) rfl) (v := .pointer (some ⟨g7, 0, none⟩)) (by kernel_rfl) rfl) (v := .pointer (some ⟨g3, 0, none⟩)) (by kernel_rfl) rfl) (v := .agg #[.int .i64 el, .slice SA sn scap, .slice RA rn rcap, .int .i64 mo]) (by kernel_rfl) rfl) (v := .bool false) (by kernel_rfl) (congrArg Value.bool (b_af1 h304).symm)), S296.sub sub_all sub_all⟩
          · rintro ac wc ⟨A319, S320⟩
            refine n_then ?_
            refine c_ifb (b := ((decide ((j : Int) < (rn : Int))) && (decide ((j : Int) < (N : Int))))) A319 (by kernel_rfl) (fun h321 => ?_) (fun h321 => ?_)
            · have h322 := (Bool.and_eq_true_iff.1 h321).1
              have p323 := of_decide_eq_true h322
              have h324 := (Bool.and_eq_true_iff.1 h321).2
              have p325 := of_decide_eq_true h324
              refine wp_skip ?_
              refine n_then ?_
              refine wp_seq ?_
              refine wp_block ?_
              refine r_begin (w0 := w0) (by kernel_rfl) (S320.sub (sub_keep (sub_skip sub_all)) sub_all) (fun wc T326 B327 => ?_)
              have S328 := S320.kept B327
              refine r_take 0 (.pointer (some ⟨g189, 1, none⟩)) A319 T326 (g_field (u := .pointer (some ⟨g189, 0, none⟩)) (by kernel_rfl) (fun _ => by kernel_rfl)) rfl rfl rfl (pf_block (pf_then (pf_then (pf_block (pf_then pf_body))))) (by kernel_rfl) (fun ac A329 => ?_)
              refine r_take 1 (.slice (some ⟨g190, 0, none⟩) N N) A329 T326 (g_load (g := g189) (off := 1) 0 (by kernel_rfl) rfl (by kernel_rfl)) rfl rfl rfl (pf_block (pf_then (pf_then (pf_block (pf_then pf_body))))) (by kernel_rfl) (fun ac A330 => ?_)
              refine r_take 2 (.int .i64 (j : Int)) A330 T326 (g_move (by kernel_rfl)) rfl rfl rfl (pf_block (pf_then (pf_then (pf_block (pf_then pf_body))))) (by kernel_rfl) (fun ac A331 => ?_)
              refine r_take 3 (.pointer (some ⟨g3, 2, none⟩)) A331 T326 (g_field (u := .pointer (some ⟨g3, 0, none⟩)) (by kernel_rfl) (fun _ => by kernel_rfl)) rfl rfl rfl (pf_block (pf_then (pf_then (pf_block (pf_then pf_body))))) (by kernel_rfl) (fun ac A332 => ?_)
              refine r_take 4 (.slice RA rn rcap) A332 T326 (g_load (g := g3) (off := 2) 2 (by kernel_rfl) rfl (by kernel_rfl)) rfl rfl rfl (pf_block (pf_then (pf_then (pf_block (pf_then pf_body))))) (by kernel_rfl) (fun ac A333 => ?_)
              refine r_take 5 (.int .i64 (j : Int)) A333 T326 (g_move (by kernel_rfl)) rfl rfl rfl (pf_block (pf_then (pf_then (pf_block (pf_then pf_body))))) (by kernel_rfl) (fun ac A334 => ?_)
              obtain ⟨ad335, rfl, _⟩ := hrr (j) (by have hlen := hrn; omega)
              refine r_take 6 (.pointer (some (ad335.add j))) A334 T326 (g_index (u := .slice (some ad335) rn rcap) (k := .int .i64 (j : Int)) (by kernel_rfl) (by kernel_rfl) (ix_x (e := 36) (bytes := 4) j (by kernel_rfl) (by omega) (by omega))) rfl rfl rfl (pf_block (pf_then (pf_then (pf_block (pf_then pf_body))))) (by kernel_rfl) (fun ac A336 => ?_)
              refine r_take 7 (.float .f32 (nth rl j)) A336 T326 (g_loadXF (l := rl) (k := j) (by kernel_rfl) hrr (by have hlen := hrn; omega) (by kernel_rfl)) rfl rfl rfl (pf_block (pf_then (pf_then (pf_block (pf_then pf_body))))) (by kernel_rfl) (fun ac A337 => ?_)
              refine r_take 8 (.pointer (some ⟨g190, j, none⟩)) A337 T326 (g_index (u := .slice (some ⟨g190, 0, none⟩) N N) (k := .int .i64 (j : Int)) (by kernel_rfl) (by kernel_rfl) (ix_sl1 (e := 36) (bytes := 4) j (by kernel_rfl) (by omega) (by omega))) rfl rfl rfl (pf_block (pf_then (pf_then (pf_block (pf_then pf_body))))) (by kernel_rfl) (fun ac A338 => ?_)
              refine r_1 (i := 9) (by kernel_rfl) ?_
              refine rs_store (g := g190) (off := j) (v := .float .f32 (nth rl j)) 1 (trc (zs.set j (nth rl j))) A338 S328 (sub_keep (sub_skip sub_all)) sub_all (by kernel_rfl) (by kernel_rfl) rfl ((pv_of (by kernel_rfl) rfl (by rw [trc_size, hz]; omega)).trans (congrArg some (trc_set zs j (nth rl j)))) rfl rfl (fun wc S340 => ?_)
              have T342 := S340.sub (sub_keep (sub_skip sub_all)) sub_all
              refine r_done (by kernel_rfl) ?_
              refine n_block ?_
              refine n_then ?_
              refine wp_region_lit ?_
              refine s_one (.int .i64 (j : Int)) A338 S340 (g_move (by kernel_rfl)) rfl (fun ac A343 => ?_)
              refine s_one (.int .i64 ((j : Int) + 1)) A343 S340 (g_bin (u := .int .i64 (j : Int)) (k := .int .i64 1) (by kernel_rfl) (by kernel_rfl) (fun _ => by kernel_rfl) (b_add (by omega))) rfl (fun ac A344 => ?_)
              refine s_one (.int .i64 ((j : Int) + 1)) A344 S340 (g_assign (by kernel_rfl)) rfl (fun ac A345 => ?_)
              refine wpList_nil ?_
              refine n_then ?_
              refine ⟨_, ⟨j + 1, (zs.set j (nth rl j)), rfl, (by omega), (List.length_set.trans hz), (A345.slot (A345.slot (A345.slot (A345.slot (A345.slot (A345.slot (A345.slot (A345.slot (A345.slot (A345.slot (A345.slot (A345.slot (A345.slot (A345.slot (A345.slot A345.nil (v := .int .i64 ((j : Int) + 1)) (by kernel_rfl) (congrArg (Value.int .i64) (by omega))) (v := .bool ((decide ((k : Int) < (sn : Int))) && (decide ((N : Int) > 0)))) (by kernel_rfl) rfl) (v := .int .i64 (k : Int)) (by kernel_rfl) rfl) (v := .pointer (some ⟨g189, 0, none⟩)) (by kernel_rfl) rfl) (v := .bool (inB el 1 3)) (by kernel_rfl) rfl) (v := .int .i64 el) (by kernel_rfl) rfl) (v := .pointer (some ⟨g3, 0, none⟩)) (by kernel_rfl) rfl) (v := .int .i64 (mx (-1) (mn 1 mo))) (by kernel_rfl) rfl) (v := .int .i64 (mx (-1) (mn 1 mo))) (by kernel_rfl) rfl) (v := .int .i64 (mn 1 mo)) (by kernel_rfl) rfl) (v := .int .i64 mo) (by kernel_rfl) rfl) (v := .pointer (some ⟨g3, 3, none⟩)) (by kernel_rfl) rfl) (v := .pointer (some ⟨g7, 0, none⟩)) (by kernel_rfl) rfl) (v := .pointer (some ⟨g3, 0, none⟩)) (by kernel_rfl) rfl) (v := .agg #[.int .i64 el, .slice SA sn scap, .slice (some ad335) rn rcap, .int .i64 mo]) (by kernel_rfl) (by first | rfl | simp)), (St.recell 3 S340 rfl (by rfl)).sub sub_all sub_all⟩, ?_⟩
              omega
            · refine wp_exit ?_
              refine x_then ?_
              refine x_then ?_
              refine x_hit ?_
              refine n_then ?_
              refine wp_seq ?_
              refine wp_region_lit ?_
              refine s_one (.agg #[.int .i64 el, .slice (some ⟨g190, 0, none⟩) N N]) A319 S320 (g_load (g := g189) (off := 0) 0 (by kernel_rfl) rfl (by kernel_rfl)) rfl (fun ac A346 => ?_)
              refine s_store (g := g7) (off := 0) (v := .agg #[.int .i64 el, .slice (some ⟨g190, 0, none⟩) N N]) 2 (#[.int .i64 el, .slice (some ⟨g190, 0, none⟩) N N]) A346 S320 (by kernel_rfl) (by kernel_rfl) rfl (by kernel_rfl) (fun wc S348 => ?_)
              refine wpList_nil ?_
              refine n_then ?_
              refine wp_ret ?_
              have SC : St w0 [⟨g189, 30, #[.int .i64 el, .slice (some ⟨g190, 0, none⟩) N N], true⟩, ⟨g7, 30, #[.int .i64 el, .slice (some ⟨g190, 0, none⟩) N N], true⟩, ⟨g3, 25, #[.int .i64 el, .slice SA sn scap, .slice RA rn rcap, .int .i64 mo], true⟩] [⟨.slice (some ⟨g190, 0, none⟩) N N, 36, 1, N, (rowF zs)⟩] _ := St.closeRow S348 1 rfl (by rw [trc_size, Nat.mul_one]; exact hz) (Nat.le_refl _) (by unfold maxLen; omega) (by rw [trc_toList, Nat.mul_one]; exact List.take_of_length_le (by simp [rowF, hz]))
              refine fin1 (.agg #[.int .i64 el, .slice (some ⟨g190, 0, none⟩) N N]) Try.results13 A346 SC (rv_cell (g := g7) (off := 0) 1 (by kernel_rfl) rfl (by kernel_rfl)) ?_
              have ow := SC.row 0 rfl
              exact ⟨zs, by omega, _, rfl, SC.kp, by rw [hz]; exact ow⟩
end Go.Proofs.Ytcijkniijomcjaa
/-! Matrices as lists of ints: parts of lists, arrays as elements, calls that make blocks. -/
namespace Go.Proofs.Ytcijkniijomcjaa
open Go.RowKit Go.Cpl
/-- A part of a list of ints. -/
def cutN (l : List Int) (i n : Nat) : List Int := (List.range n).map fun j => nthI l (i + j)
theorem cutN_length (l : List Int) (i n : Nat) : (cutN l i n).length = n := by simp [cutN]
theorem cutN_nth {l : List Int} {i n k : Nat} (h : k < n) : nthI (cutN l i n) k = nthI l (i + k) := by
  rw [nthI_eq (by rw [cutN_length]; exact h)]; simp [cutN]
theorem cutN_flat (l : List Int) (k s : Nat) : Value.agg (ints (cutN l k s)) = .agg (flat l k s).toArray := by simp [ints, cutN, flat]
theorem cutN_take {l : List Int} {i n : Nat} (h : i + n ≤ l.length) : cutN l i n = (l.drop i).take n := by
  apply List.ext_getElem
  · simp [cutN]; omega
  · intro j h1 h2
    have hj : j < n := by simpa [cutN] using h1
    simp [cutN]
    rw [nthI_eq (by omega)]
theorem take_cutN {l : List Int} {i n : Nat} (h : i + n ≤ l.length) : l.take i ++ cutN l i n = l.take (i + n) := by
  rw [cutN_take h, List.take_add]
section
variable {P : Program} {ops : Array Oper} {Q : Exit → Act → World → Prop} {n : Sz} {a : Act} {w0 : Base} {w : World} {F : Fm} {L Ls : List Bk} {M Ms : List Rw} {rest : List Oper} {fuel : Nat} {listed : Array Bool}
theorem g_loadXN {ty : TypeId} {x : Operand} {ad : Addr} {l : List Int} {k : Nat} (s : Nat) (hx : evO F x = some (.pointer (some (ad.add k)))) (hr : IReads w0.w (some ad) l) (hk : k + s ≤ l.length) (ht : rowType P ty s = true) : Gives P F w0 L M (.load ty x) (.agg (ints (cutN l k s))) := g_loadXS s hx hr hk ht (cutN_flat l k s)
theorem g_loadRN {ty : TypeId} {x : Operand} {ad : Addr} {l : List Int} {k : Nat} (j s : Nat) {e : TypeId} {size m m' cap : Nat} (hx : evO F x = some (.pointer (some (ad.add k)))) (hj : M[j]? = some ⟨.slice (some ad) m cap, e, size, m', rowI l⟩) (hk : k + s ≤ l.length) (ht : rowType P ty s = true) : Gives P F w0 L M (.load ty x) (.agg (ints (cutN l k s))) := g_loadRS j s hx hj hk ht (cutN_flat l k s)
/-- The tail of a slice, and a part of it with its own capacity. -/
theorem sl_from1 {t e : TypeId} {b : Nat} {ad : Addr} {m c i : Nat} (he : elemInfo P t = some (e, 1, b)) (h1 : i < m) (h2 : m ≤ c) {x : Int} (hx : x = (i : Int)) (w : World) : (Instr.sliceAt t (.slice (some ad) m c) (some (.int .i64 x)) none none).run P w = .ok (.slice (some (ad.add i)) (m - i) (c - i)) w := by
  obtain ⟨ti, z, q1, q2, q3, q4, q5, q6, q7⟩ := elemInfo_spec he
  subst hx
  have ee : P.elem t = e := by simp [Program.elem, q1]
  rw [run_sliceAt_slice w t _ _ _ _ (by rw [ee]; exact q1), run_slice_l w t _ _ _ (by rw [ee]; exact q1) _ _ (by omega) (by omega)]
  have hz : (sizeOf (P.elem t)).run P w = .ok 1 w := by rw [ee]; simp [sizeOf, typeInfo, q2, q4]
  rw [hz]
  simp only [Result.andThen, sliced, Int.toNat_natCast]
  rw [if_neg (by omega), Nat.mul_one]; rfl
theorem sl_cap {t e : TypeId} {b : Nat} {ad : Addr} {m c i k : Nat} (he : elemInfo P t = some (e, 1, b)) (h1 : 0 < k) (h2 : i + k ≤ c) {x y y' : Int} (hx : x = (i : Int)) (hy : y = ((i + k : Nat) : Int)) (hy' : y' = ((i + k : Nat) : Int)) (w : World) : (Instr.sliceAt t (.slice (some ad) m c) (some (.int .i64 x)) (some (.int .i64 y)) (some (.int .i64 y'))).run P w = .ok (.slice (some (ad.add i)) k k) w := by
  obtain ⟨ti, z, q1, q2, q3, q4, q5, q6, q7⟩ := elemInfo_spec he
  subst hx; subst hy; subst hy'
  have ee : P.elem t = e := by simp [Program.elem, q1]
  rw [run_sliceAt_slice w t _ _ _ _ (by rw [ee]; exact q1), run_slice_lhm w t _ _ _ (by rw [ee]; exact q1) _ _ _ _ _ _ (by omega) (by omega) (by omega) (by omega)]
  have hz : (sizeOf (P.elem t)).run P w = .ok 1 w := by rw [ee]; simp [sizeOf, typeInfo, q2, q4]
  rw [hz]
  simp only [Result.andThen, sliced, Int.toNat_natCast]
  rw [if_neg (by omega), Nat.mul_one, Nat.add_sub_cancel_left]; rfl
/-- One element that is an array. -/
theorem fold_put : ∀ (l : List Value) (k : Nat) (c : Array Value), k + l.length = c.size → (l.zipIdx k).foldl (fun cs p => cs.setIfInBounds (0 + p.2) p.1) c = (c.toList.take k ++ l).toArray := by
  intro l
  induction l with
  | nil => intro k c h; simp only [List.zipIdx_nil, List.foldl_nil, List.append_nil]; rw [List.take_of_length_le (by simp at h ⊢; omega)]
  | cons v l ih =>
    intro k c h
    simp only [List.zipIdx_cons, List.foldl_cons]
    rw [ih (k + 1) _ (by simp at h ⊢; omega)]
    have hk : k < c.toList.length := by simp at h ⊢; omega
    congr 1
    rw [Nat.zero_add, Array.toList_setIfInBounds, List.take_add_one, List.getElem?_set_self hk, List.take_set_of_le (Nat.le_refl k)]
    simp
theorem bsRow_one {t e : TypeId} {size bytes : Nat} {cs : Array Value} (he : elemInfo P t = some (e, size, bytes)) (hs : cs.size = size) (hb : size ≤ 16777216) : bsRow P t 1 [(0, .agg cs)] = some (e, cs) := by
  obtain ⟨ti, z, q1, q2, q3, q4, q5, q6, q7⟩ := elemInfo_spec he
  unfold bsRow
  simp only [q1, q2, q4, Nat.one_mul]
  rw [if_neg (by simp; omega), if_neg (by omega), q3]
  simp only [Option.map_some]
  generalize z.cells = zs
  unfold Instr.fill
  simp only [show (Value.agg cs).cells = cs from rfl, hs, Nat.zero_mul]
  rw [if_neg (by simp)]
  unfold Instr.fill
  simp only [Option.map_some, Option.some.injEq, Prod.mk.injEq, true_and]
  rw [← Array.foldl_toList, Array.toList_zipIdx]
  have := fold_put cs.toList 0 ((Array.range size).map (zs[· % zs.size]!)) (by simp [hs])
  simpa using this
theorem take_rowI {l : List Int} {m : Nat} (h : l.length = m) : (ints l).toList.take m = rowI l := by
  rw [List.take_of_length_le (by simp [ints, h])]; simp [ints, rowI]
theorem take_rowF {l : List Nat} {m : Nat} (h : l.length = m) : (trc l).toList.take m = rowF l := by
  rw [List.take_of_length_le (by simp [trc, h])]; simp [trc, rowF]
theorem ble_ints {l : List Int} {m : Nat} (h : l.length = m) : Nat.ble m (ints l).size = true := by rw [ints_size, h, Nat.ble_eq]; exact Nat.le_refl _
theorem ble_trc {l : List Nat} {m : Nat} (h : l.length = m) : Nat.ble m (trc l).size = true := by rw [trc_size, h, Nat.ble_eq]; exact Nat.le_refl _
theorem rowI_one (l : List Int) : (rowI l).all (·.oneCell') = true := by simp [rowI, Value.oneCell']
theorem rowF_one (l : List Nat) : (rowF l).all (·.oneCell') = true := by simp [rowF, Value.oneCell']
end
theorem it_end {P : Program} {fn : Func} {R : Ending → World → Prop} {m0 : Nat} {a : Act} {F : Fm} {w : World} (hA : Fr ⟨m0, []⟩ a F) (hres : fn.results = #[]) (hR : R (.returned (.tuple #[])) w) : bodyPost P fn R .normal a w := ⟨hA.def_, _, results_none hres _ _ _, hR⟩
theorem it_ret {P : Program} {fn : Func} {R : Ending → World → Prop} {m0 : Nat} {a : Act} {F : Fm} {w : World} (hA : Fr ⟨m0, []⟩ a F) (hres : fn.results = #[]) (hR : R (.returned (.tuple #[])) w) : bodyPost P fn R .ret a w := ⟨hA.def_, _, results_none hres _ _ _, hR⟩
/-! ### Calls that make blocks -/
theorem ownsRow_base {w : World} {B B' : Nat} {e : TypeId} {size : Nat} {v : Value} {n : Nat} {xs : List Value} (h : w.ownsRow B e size v n xs) (hB : B' ≤ B) : w.ownsRow B' e size v n xs := by
  refine ⟨h.1, ?_⟩
  rcases h.2 with hn | ⟨g, cap, cur, hv, hb, rest⟩
  · exact .inl hn
  · exact .inr ⟨g, cap, cur, hv, Nat.le_trans hB hb, rest⟩
theorem St.join {b : Base} {w w' : World} {L L' : List Bk} {M M' : List Rw} (h : St b L M w) (k : St w L' M' w') (ho : ∀ x ∈ L', x.own = true) : St b (L' ++ L) (M' ++ M) w' := by
  have hb := k.kp
  have h' := h.kept hb
  have hge : ∀ x ∈ L', w.heap.size ≤ x.g := fun x hx => k.own x hx (ho x hx)
  have hlt : ∀ x ∈ L, x.g < w.heap.size := fun x hx => (h.blk x hx).lt
  refine ⟨h'.kq, fun x hx => ?_, fun x hx hx' => ?_, List.pairwise_append.2 ⟨k.apart, h.apart, fun x hx y hy _ => ?_⟩, fun r hr => ?_, fun r hr x hx => ?_, List.pairwise_append.2 ⟨k.rr, h.rr, fun r hr s hs => ?_⟩⟩
  · rcases List.mem_append.1 hx with hx | hx
    · exact k.blk x hx
    · exact h'.blk x hx
  · rcases List.mem_append.1 hx with hx | hx
    · exact Nat.le_trans h.kq.size (hge x hx)
    · exact h.own x hx hx'
  · have := hge x hx; have := hlt y hy; omega
  · rcases List.mem_append.1 hr with hr | hr
    · exact ownsRow_base (k.rows r hr) h.kq.size
    · exact h'.rows r hr
  · rcases List.mem_append.1 hr with hr | hr
    · rcases List.mem_append.1 hx with hx | hx
      · exact k.rb r hr x hx
      · intro e
        have := ((k.rows r hr).lt _ e).1; have := hlt x hx
        simp only at *; omega
    · rcases List.mem_append.1 hx with hx | hx
      · intro e
        have := ((h.rows r hr).lt _ e).2; have := hge x hx; omega
      · exact h.rb r hr x hx
  · cases hv : r.v.ownBlock with
    | none => exact .inl rfl
    | some g =>
      refine .inr fun e => ?_
      have := ((k.rows r hr).lt g hv).1
      have := ((h.rows s hs).lt g e.symm).2
      simp only at *; omega
section
variable {P : Program} {ops : Array Oper} {Q : Exit → Act → World → Prop} {n : Sz} {a : Act} {w0 : Base} {w : World} {F : Fm} {L Ls : List Bk} {M Ms : List Rw} {rest : List Oper} {fuel : Nat} {listed : Array Bool}
theorem s_callSt {T : Type} {d : Nat} {f : FuncId} {fx : Operand} {args : List Operand} {ats : Array TypeId} {ty : TypeId} {pos : String} {aft : Array Edge} {fs cp : Array Value} {r : List (Nat × Value)} (av : Array Value) (sh : T → Value) (L' : T → List Bk) (M' : T → List Rw) (hA : Fr n a F) (hS : St w0 L M w)
    (hc : Calls P f av w fun en w' => ∃ u, en = .returned (sh u) ∧ St w (L' u) (M' u) w') (ho : ∀ u, ∀ x ∈ L' u, x.own = true) (hcall : ∀ (vs : Array Value) (w : World), (callFunc f vs).run P w = .ok (.enter f vs) w)
    (hf : evO F fx = some (.func (.func f) fs cp)) (hr : evL F (args.map fun x => (0, x)) = some r) (hav : fs ++ (r.map (·.2)).toArray ++ cp = av) (hd : Nat.blt d n = true)
    (k : ∀ u a' w', Fr n a' ((d, sh u) :: F) → St w0 (L' u ++ L) (M' u ++ M) w' → wpList P ops Q rest a' w') : wpList P ops Q (⟨some d, .call ⟨.value fx, args.toArray, ats⟩, ty, pos, aft, none⟩ :: rest) a w := by
  refine wpList_plain rfl fun K hK => ?_
  unfold Oper.wp
  rw [run_call hA hf hr hav hcall]
  refine hc.mono fun en w' ⟨u, he, hs⟩ => ?_
  subst he
  exact hK _ _ (k u _ w' (hA.put (blt_lt hd) _) (St.join hS hs (ho u)))
end
/-! ### Pairs, in their order -/
/-- The pairs of so many elements. -/
def preP (n i j : Nat) : List (Nat × Nat) := ((List.range i).flatMap fun f => (List.range n).map fun r => (f, r)) ++ (List.range j).map fun r => (i, r)
def pairsOf (n : Nat) : List (Nat × Nat) := preP n n 0
theorem preP_succ (n i j : Nat) : preP n i j ++ [(i, j)] = preP n i (j + 1) := by simp [preP, List.range_succ]
theorem preP_row (n i : Nat) : preP n i n = preP n (i + 1) 0 := by simp [preP, List.range_succ]
theorem preP_length (n i j : Nat) : (preP n i j).length = i * n + j := by
  have e : (List.map (fun _ => n) (List.range i)).sum = i * n := by rw [List.map_const']; simp
  simp [preP, List.length_flatMap, e]
theorem preP_add (n i j k : Nat) : preP n i (j + k) = preP n i j ++ (List.range k).map fun r => (i, j + r) := by
  induction k with
  | zero => simp
  | succ k ih => rw [← Nat.add_assoc, ← preP_succ, ih, List.range_succ]; simp
theorem preP_rows (n i k : Nat) : preP n (i + k) 0 = preP n i 0 ++ (List.range k).flatMap fun f => (List.range n).map fun r => (i + f, r) := by
  induction k with
  | zero => simp
  | succ k ih =>
    rw [← Nat.add_assoc, ← preP_row]
    have := preP_add n (i + k) 0 n
    rw [Nat.zero_add] at this
    rw [this, ih, List.range_succ]
    simp
theorem pairs_at {n i j : Nat} (hi : i < n) (hj : j < n) : ∃ rest, pairsOf n = preP n i j ++ (i, j) :: rest := by
  obtain ⟨k, rfl⟩ : ∃ k, n = i + 1 + k := ⟨n - (i + 1), by omega⟩
  obtain ⟨m, hm⟩ : ∃ m, i + 1 + k = j + 1 + m := ⟨i + 1 + k - (j + 1), by omega⟩
  refine ⟨((List.range m).map fun r => (i, j + 1 + r)) ++ (List.range k).flatMap fun f => (List.range (i + 1 + k)).map fun r => (i + 1 + f, r), ?_⟩
  unfold pairsOf
  rw [preP_rows (i + 1 + k) (i + 1) k, ← preP_row]
  have := preP_add (i + 1 + k) i (j + 1) m
  rw [← hm] at this
  rw [this, ← preP_succ]
  simp
/-- What the next pair is. -/
theorem pairs_next {n : Nat} {pre : List (Nat × Nat)} {x : Nat × Nat} {rest : List (Nat × Nat)} (h : pairsOf n = pre ++ x :: rest) : x.1 < n ∧ x.2 < n ∧ pre.length = x.1 * n + x.2 := by
  have hlen : (pairsOf n).length = n * n := by rw [pairsOf, preP_length]; simp
  have hl : pre.length < n * n := by rw [← hlen, h]; simp
  have hn : 0 < n := by
    rcases Nat.eq_zero_or_pos n with e | e
    · subst e; omega
    · exact e
  have h1 : pre.length / n < n := Nat.div_lt_of_lt_mul hl
  have h2 : pre.length % n < n := Nat.mod_lt _ hn
  obtain ⟨rest', e⟩ := pairs_at h1 h2
  have e3 : (preP n (pre.length / n) (pre.length % n)).length = pre.length := by rw [preP_length, Nat.mul_comm]; exact Nat.div_add_mod _ _
  have := h.symm.trans e
  obtain ⟨e4, e5⟩ := List.append_inj this e3.symm
  simp only [List.cons.injEq] at e5
  obtain ⟨rfl, _⟩ := e5
  exact ⟨h1, h2, by rw [Nat.mul_comm]; exact (Nat.div_add_mod _ _).symm⟩
theorem range_next {n : Nat} {pre : List Nat} {x : Nat} {rest : List Nat} (h : List.range n = pre ++ x :: rest) : x = pre.length ∧ pre = List.range pre.length ∧ pre.length < n := by
  have hl : pre.length < n := by have := congrArg List.length h; simp at this; omega
  have e : (List.range n)[pre.length]? = some x := by rw [h]; simp
  rw [List.getElem?_range hl] at e
  refine ⟨(Option.some.inj e).symm, ?_, hl⟩
  have := congrArg (List.take pre.length) h
  rw [List.take_range, Nat.min_eq_left (by omega)] at this
  simpa using this.symm
end Go.Proofs.Ytcijkniijomcjaa
namespace Go.Proofs.Ytcijkniijomcjaa
open Go.RowKit Go.Cpl
theorem range_at {n k : Nat} (h : k < n) : List.range n = List.range k ++ k :: (List.range (n - (k + 1))).map (k + 1 + ·) := by
  obtain ⟨j, rfl⟩ : ∃ j, n = k + 1 + j := ⟨n - (k + 1), by omega⟩
  rw [List.range_add, List.range_succ, Nat.add_sub_cancel_left]
  simp
set_option maxRecDepth 100000 in
theorem all_seq (g n : Nat) (v : Value) (o : Bool) (hn : n ≤ 1000) : Seq Try.prog 86 #[.pointer (some ⟨g, 0, none⟩)] #[] (fun x : Nat × Nat => #[.int .i64 (x.1 : Int), .int .i64 (x.2 : Int)]) [⟨g, 137, #[.int .i64 (n : Int), v], o⟩] (pairsOf n) := by
  intro l J Jx W hG hAb hY hJ
  refine callsIn_wide.2 ?_
  refine enter (n := 27) Try.func86 rfl rfl rfl (fun ac A0 => ?_)
  have S0 := (St.came (St.start W) (hG _ (List.mem_singleton.2 rfl)) (by simp))
  refine wp_seq ?_
  refine wp_region_lit ?_
  refine s_one (.pointer (some ⟨g, 0, none⟩)) A0 S0 (g_move (by kernel_rfl)) rfl (fun ac A1 => ?_)
  refine s_one (.pointer (some ⟨g, 0, none⟩)) A1 S0 (g_nil (by kernel_rfl)) rfl (fun ac A2 => ?_)
  refine s_one (.pointer (some ⟨g, 0, none⟩)) A2 S0 (g_field (u := .pointer (some ⟨g, 0, none⟩)) (by kernel_rfl) (fun _ => by kernel_rfl)) rfl (fun ac A3 => ?_)
  refine s_one (.int .i64 (n : Int)) A3 S0 (g_load (g := g) (off := 0) 0 (by kernel_rfl) rfl (by kernel_rfl)) rfl (fun ac A4 => ?_)
  refine s_one (.int .i64 0) A4 S0 (g_move (by kernel_rfl)) rfl (fun ac A5 => ?_)
  refine wpList_nil ?_
  refine n_then ?_
  refine wp_block ?_
  refine c_loopN (fun mm ac wc => ∃ (i : Nat), mm = n - i ∧ (i ≤ n) ∧ (J (preP n i 0) wc) ∧ Fr 27 ac [(0, .pointer (some ⟨g, 0, none⟩)), (1, .func (.yield l) #[] #[]), (6, .pointer (some ⟨g, 0, none⟩)), (7, .pointer (some ⟨g, 0, none⟩)), (8, .pointer (some ⟨g, 0, none⟩)), (9, .int .i64 (n : Int)), (10, .int .i64 (i : Int))] ∧ St wc [⟨g, 137, #[.int .i64 (n : Int), v], false⟩] [] wc) _ ⟨0, rfl, Nat.zero_le _, hJ, (A5.slot (A5.slot (A5.slot (A5.slot (A5.slot (A5.slot (A5.slot A5.nil (v := .int .i64 0) (by kernel_rfl) (congrArg (Value.int .i64) (by omega))) (v := .int .i64 (n : Int)) (by kernel_rfl) rfl) (v := .pointer (some ⟨g, 0, none⟩)) (by kernel_rfl) rfl) (v := .pointer (some ⟨g, 0, none⟩)) (by kernel_rfl) rfl) (v := .pointer (some ⟨g, 0, none⟩)) (by kernel_rfl) rfl) (v := .func (.yield l) #[] #[]) (by kernel_rfl) rfl) (v := .pointer (some ⟨g, 0, none⟩)) (by kernel_rfl) rfl), S0.sub sub_all sub_all⟩ ?_
  rintro mm ac wc ⟨i, hm8, hi, hJ, A6, S7⟩
  refine wp_seq ?_
  refine wp_region_lit ?_
  refine s_one (.bool (decide ((i : Int) < (n : Int)))) A6 S7 (g_bin (u := .int .i64 (i : Int)) (k := .int .i64 (n : Int)) (by kernel_rfl) (by kernel_rfl) (fun _ => by kernel_rfl) (fun _ => by kernel_rfl)) rfl (fun ac A9 => ?_)
  refine wpList_nil ?_
  refine n_then ?_
  refine wp_seq ?_
  refine c_ifb (b := (decide ((i : Int) < (n : Int)))) A9 (by kernel_rfl) (fun h10 => ?_) (fun h10 => ?_)
  · have p11 := of_decide_eq_true h10
    refine wp_skip ?_
    refine n_then ?_
    refine wp_seq ?_
    refine wp_block ?_
    refine wp_seq ?_
    refine wp_region_lit ?_
    refine s_one (.int .i64 (i : Int)) A9 S7 (g_move (by kernel_rfl)) rfl (fun ac A12 => ?_)
    refine s_one (.int .i64 (i : Int)) A12 S7 (g_assign (by kernel_rfl)) rfl (fun ac A13 => ?_)
    refine wpList_nil ?_
    refine n_then ?_
    refine wp_seq ?_
    refine wp_region_lit ?_
    refine s_one (.pointer (some ⟨g, 0, none⟩)) A13 S7 (g_move (by kernel_rfl)) rfl (fun ac A14 => ?_)
    refine s_one (.pointer (some ⟨g, 0, none⟩)) A14 S7 (g_nil (by kernel_rfl)) rfl (fun ac A15 => ?_)
    refine s_one (.pointer (some ⟨g, 0, none⟩)) A15 S7 (g_field (u := .pointer (some ⟨g, 0, none⟩)) (by kernel_rfl) (fun _ => by kernel_rfl)) rfl (fun ac A16 => ?_)
    refine s_one (.int .i64 (n : Int)) A16 S7 (g_load (g := g) (off := 0) 0 (by kernel_rfl) rfl (by kernel_rfl)) rfl (fun ac A17 => ?_)
    refine s_one (.int .i64 0) A17 S7 (g_move (by kernel_rfl)) rfl (fun ac A18 => ?_)
    refine wpList_nil ?_
    refine n_then ?_
    refine wp_block ?_
    refine c_loopN (fun mm ac wc => ∃ (j : Nat), mm = n - j ∧ (j ≤ n) ∧ (J (preP n i j) wc) ∧ Fr 27 ac [(0, .pointer (some ⟨g, 0, none⟩)), (1, .func (.yield l) #[] #[]), (6, .pointer (some ⟨g, 0, none⟩)), (7, .pointer (some ⟨g, 0, none⟩)), (8, .pointer (some ⟨g, 0, none⟩)), (9, .int .i64 (n : Int)), (10, .int .i64 (i : Int)), (11, .bool (decide ((i : Int) < (n : Int)))), (12, .int .i64 (i : Int)), (4, .int .i64 (i : Int)), (13, .pointer (some ⟨g, 0, none⟩)), (14, .pointer (some ⟨g, 0, none⟩)), (15, .pointer (some ⟨g, 0, none⟩)), (16, .int .i64 (n : Int)), (17, .int .i64 (j : Int))] ∧ St wc [⟨g, 137, #[.int .i64 (n : Int), v], false⟩] [] wc) _ ⟨0, rfl, Nat.zero_le _, hJ, (A18.slot (A18.slot (A18.slot (A18.slot (A18.slot (A18.slot (A18.slot (A18.slot (A18.slot (A18.slot (A18.slot (A18.slot (A18.slot (A18.slot (A18.slot A18.nil (v := .int .i64 0) (by kernel_rfl) (congrArg (Value.int .i64) (by omega))) (v := .int .i64 (n : Int)) (by kernel_rfl) rfl) (v := .pointer (some ⟨g, 0, none⟩)) (by kernel_rfl) rfl) (v := .pointer (some ⟨g, 0, none⟩)) (by kernel_rfl) rfl) (v := .pointer (some ⟨g, 0, none⟩)) (by kernel_rfl) rfl) (v := .int .i64 (i : Int)) (by kernel_rfl) rfl) (v := .int .i64 (i : Int)) (by kernel_rfl) rfl) (v := .bool (decide ((i : Int) < (n : Int)))) (by kernel_rfl) rfl) (v := .int .i64 (i : Int)) (by kernel_rfl) rfl) (v := .int .i64 (n : Int)) (by kernel_rfl) rfl) (v := .pointer (some ⟨g, 0, none⟩)) (by kernel_rfl) rfl) (v := .pointer (some ⟨g, 0, none⟩)) (by kernel_rfl) rfl) (v := .pointer (some ⟨g, 0, none⟩)) (by kernel_rfl) rfl) (v := .func (.yield l) #[] #[]) (by kernel_rfl) rfl) (v := .pointer (some ⟨g, 0, none⟩)) (by kernel_rfl) rfl), S7.sub sub_all sub_all⟩ ?_
    rintro mm ac wc ⟨j, hm21, hj, hJ, A19, S20⟩
    refine wp_seq ?_
    refine wp_region_lit ?_
    refine s_one (.bool (decide ((j : Int) < (n : Int)))) A19 S20 (g_bin (u := .int .i64 (j : Int)) (k := .int .i64 (n : Int)) (by kernel_rfl) (by kernel_rfl) (fun _ => by kernel_rfl) (fun _ => by kernel_rfl)) rfl (fun ac A22 => ?_)
    refine wpList_nil ?_
    refine n_then ?_
    refine wp_seq ?_
    refine c_ifb (b := (decide ((j : Int) < (n : Int)))) A22 (by kernel_rfl) (fun h23 => ?_) (fun h23 => ?_)
    · have p24 := of_decide_eq_true h23
      refine wp_skip ?_
      refine n_then ?_
      refine wp_seq ?_
      refine wp_block ?_
      refine wp_seq ?_
      refine wp_region_lit ?_
      refine s_one (.int .i64 (j : Int)) A22 S20 (g_move (by kernel_rfl)) rfl (fun ac A25 => ?_)
      refine s_one (.int .i64 (j : Int)) A25 S20 (g_assign (by kernel_rfl)) rfl (fun ac A26 => ?_)
      refine wpList_nil ?_
      refine n_then ?_
      refine wp_seq ?_
      obtain ⟨rest, hx⟩ := pairs_at (n := n) (i := i) (j := j) (by omega) (by omega)
      refine y_region ?_
      refine y_one (.func (.yield l) #[] #[]) A26 S20 (g_move (by kernel_rfl)) rfl (fun ac A27 => ?_)
      refine y_one (.int .i64 (i : Int)) A27 S20 (g_move (by kernel_rfl)) rfl (fun ac A28 => ?_)
      refine y_one (.int .i64 (j : Int)) A28 S20 (g_move (by kernel_rfl)) rfl (fun ac A29 => ?_)
      refine y_call (r := [(0, .int .i64 (i : Int)), (0, .int .i64 (j : Int))]) #[.int .i64 (i : Int), .int .i64 (j : Int)] A29 (hY _ (i, j) _ _ hx hJ) (by rintro e w (⟨rfl, _⟩ | ⟨rfl, _⟩) <;> exact ⟨_, rfl⟩) (by kernel_rfl) (by kernel_rfl) rfl rfl (fun v ac wc hr A30 => ?_)
      rcases hr with ⟨he, hJ, hk⟩ | ⟨he, hx⟩
      · cases he
        have S31 := (St.came (St.start _) (hk _ (List.mem_singleton.2 rfl) (S20.get 0 (b := ⟨g, 137, #[.int .i64 (n : Int), v], false⟩) rfl)) (by simp))
        refine y_one (.bool false) A30 S31 (g_un (u := .bool true) (by kernel_rfl) (fun _ => by kernel_rfl)) rfl (fun ac A32 => ?_)
        refine y_nil ?_
        refine n_then ?_
        refine c_f (b := false) A32 (by kernel_rfl) rfl ?_
        refine wp_skip ?_
        refine n_block ?_
        refine n_then ?_
        refine wp_region_lit ?_
        refine s_one (.int .i64 ((j : Int) + 1)) A32 S31 (g_bin (u := .int .i64 (j : Int)) (k := .int .i64 1) (by kernel_rfl) (by kernel_rfl) (fun _ => by kernel_rfl) (b_add (by omega))) rfl (fun ac A33 => ?_)
        refine s_one (.int .i64 ((j : Int) + 1)) A33 S31 (g_move (by kernel_rfl)) rfl (fun ac A34 => ?_)
        refine wpList_nil ?_
        refine n_then ?_
        refine ⟨_, ⟨j + 1, rfl, by omega, by rw [← preP_succ]; exact hJ, (A34.slot (A34.slot (A34.slot (A34.slot (A34.slot (A34.slot (A34.slot (A34.slot (A34.slot (A34.slot (A34.slot (A34.slot (A34.slot (A34.slot (A34.slot A34.nil (v := .int .i64 ((j : Int) + 1)) (by kernel_rfl) (congrArg (Value.int .i64) (by omega))) (v := .int .i64 (n : Int)) (by kernel_rfl) rfl) (v := .pointer (some ⟨g, 0, none⟩)) (by kernel_rfl) rfl) (v := .pointer (some ⟨g, 0, none⟩)) (by kernel_rfl) rfl) (v := .pointer (some ⟨g, 0, none⟩)) (by kernel_rfl) rfl) (v := .int .i64 (i : Int)) (by kernel_rfl) rfl) (v := .int .i64 (i : Int)) (by kernel_rfl) rfl) (v := .bool (decide ((i : Int) < (n : Int)))) (by kernel_rfl) rfl) (v := .int .i64 (i : Int)) (by kernel_rfl) rfl) (v := .int .i64 (n : Int)) (by kernel_rfl) rfl) (v := .pointer (some ⟨g, 0, none⟩)) (by kernel_rfl) rfl) (v := .pointer (some ⟨g, 0, none⟩)) (by kernel_rfl) rfl) (v := .pointer (some ⟨g, 0, none⟩)) (by kernel_rfl) rfl) (v := .func (.yield l) #[] #[]) (by kernel_rfl) rfl) (v := .pointer (some ⟨g, 0, none⟩)) (by kernel_rfl) rfl), S31.sub sub_all sub_all⟩, ?_⟩
        omega
      · cases he
        have S35 := St.start wc
        refine y_one (.bool true) A30 S35 (g_un (u := .bool false) (by kernel_rfl) (fun _ => by kernel_rfl)) rfl (fun ac A36 => ?_)
        refine y_nil ?_
        refine n_then ?_
        refine c_t (b := true) A36 (by kernel_rfl) rfl ?_
        refine wp_ret ?_
        refine r_block ?_
        refine r_then ?_
        refine r_then ?_
        refine r_block ?_
        refine r_block ?_
        refine r_then ?_
        refine r_then ?_
        refine r_block ?_
        exact it_ret A36 Try.results86 ⟨⟨_, rfl⟩, .inr ⟨_, hx⟩⟩
    · have p37 := of_decide_eq_false h23
      refine wp_exit ?_
      refine x_then ?_
      refine x_then ?_
      refine x_hit ?_
      refine n_block ?_
      refine n_then ?_
      refine wp_region_lit ?_
      refine s_one (.int .i64 ((i : Int) + 1)) A22 S20 (g_bin (u := .int .i64 (i : Int)) (k := .int .i64 1) (by kernel_rfl) (by kernel_rfl) (fun _ => by kernel_rfl) (b_add (by omega))) rfl (fun ac A38 => ?_)
      refine s_one (.int .i64 ((i : Int) + 1)) A38 S20 (g_move (by kernel_rfl)) rfl (fun ac A39 => ?_)
      refine wpList_nil ?_
      refine n_then ?_
      have e : j = n := by omega
      rw [e] at hJ
      refine ⟨_, ⟨i + 1, rfl, by omega, by rw [← preP_row]; exact hJ, (A39.slot (A39.slot (A39.slot (A39.slot (A39.slot (A39.slot (A39.slot A39.nil (v := .int .i64 ((i : Int) + 1)) (by kernel_rfl) (congrArg (Value.int .i64) (by omega))) (v := .int .i64 (n : Int)) (by kernel_rfl) rfl) (v := .pointer (some ⟨g, 0, none⟩)) (by kernel_rfl) rfl) (v := .pointer (some ⟨g, 0, none⟩)) (by kernel_rfl) rfl) (v := .pointer (some ⟨g, 0, none⟩)) (by kernel_rfl) rfl) (v := .func (.yield l) #[] #[]) (by kernel_rfl) rfl) (v := .pointer (some ⟨g, 0, none⟩)) (by kernel_rfl) rfl), S20.sub sub_all sub_all⟩, ?_⟩
      omega
  · have p40 := of_decide_eq_false h10
    refine wp_exit ?_
    refine x_then ?_
    refine x_then ?_
    refine x_hit ?_
    have e : i = n := by omega
    rw [e] at hJ
    exact it_end A9 Try.results86 ⟨⟨_, rfl⟩, .inl hJ⟩
set_option maxRecDepth 100000 in
theorem chunkF_seq (g1 g2 : Nat) (o1 o2 : Bool) (ad : Addr) (m cap c N : Nat) (hc : 0 < c) (hm : m = N * c) (hmc : m ≤ cap) (hm1 : m ≤ 200000) : Seq Try.prog 111 #[] #[.pointer (some ⟨g1, 0, none⟩), .pointer (some ⟨g2, 0, none⟩)] (fun k : Nat => #[.slice (some (ad.add (k * c))) c c]) [⟨g1, 23, #[.slice (some ad) m cap], o1⟩, ⟨g2, 3, #[.int .i64 (c : Int)], o2⟩] (List.range N) := by
  intro l J Jx W hG hAb hY hJ
  refine callsIn_wide.2 ?_
  refine enter (n := 31) Try.func111 rfl rfl rfl (fun ac A0 => ?_)
  have S0 := (St.came (St.came (St.start W) (hG _ (List.mem_cons_of_mem _ (List.mem_singleton.2 rfl))) (by simp)) (hG _ (List.mem_cons_self ..)) (by simp))
  refine wp_seq ?_
  refine wp_region_lit ?_
  refine s_one (.int .i64 0) A0 S0 (g_assign (by kernel_rfl)) rfl (fun ac A1 => ?_)
  refine wpList_nil ?_
  refine n_then ?_
  refine wp_block ?_
  refine c_loopN (fun mm ac wc => ∃ (k : Nat), mm = N - k ∧ (k ≤ N) ∧ (J (List.range k) wc) ∧ Fr 31 ac [(0, .func (.yield l) #[] #[]), (1, .pointer (some ⟨g1, 0, none⟩)), (2, .pointer (some ⟨g2, 0, none⟩)), (4, .int .i64 ((k * c : Nat) : Int))] ∧ St wc [⟨g1, 23, #[.slice (some ad) m cap], false⟩, ⟨g2, 3, #[.int .i64 (c : Int)], false⟩] [] wc) _ ⟨0, rfl, Nat.zero_le _, hJ, (A1.slot (A1.slot (A1.slot (A1.slot A1.nil (v := .int .i64 0) (by kernel_rfl) (by simp)) (v := .pointer (some ⟨g2, 0, none⟩)) (by kernel_rfl) rfl) (v := .pointer (some ⟨g1, 0, none⟩)) (by kernel_rfl) rfl) (v := .func (.yield l) #[] #[]) (by kernel_rfl) rfl), S0.sub sub_all sub_all⟩ ?_
  rintro mm ac wc ⟨k, hm4, hk, hJ, A2, S3⟩
  have hkc : k < N → k * c + c ≤ m := fun h => by rw [hm, ← Nat.succ_mul]; exact Nat.mul_le_mul_right c h
  have hkn : N ≤ k → m ≤ k * c := fun h => by rw [hm]; exact Nat.mul_le_mul_right c h
  refine wp_seq ?_
  refine wp_seq ?_
  refine wp_region_lit ?_
  refine s_one (.int .i64 ((k * c : Nat) : Int)) A2 S3 (g_move (by kernel_rfl)) rfl (fun ac A5 => ?_)
  refine s_one (.slice (some ad) m cap) A5 S3 (g_load (g := g1) (off := 0) 0 (by kernel_rfl) rfl (by kernel_rfl)) rfl (fun ac A6 => ?_)
  refine s_one (.int .i64 ((m : Nat) : Int)) A6 S3 (g_built (r := [(0, .slice (some ad) m cap)]) (by kernel_rfl) (fun _ _ _ => by kernel_rfl)) rfl (fun ac A7 => ?_)
  refine s_one (.bool (decide (((k * c : Nat) : Int) < ((m : Nat) : Int)))) A7 S3 (g_bin (u := .int .i64 ((k * c : Nat) : Int)) (k := .int .i64 ((m : Nat) : Int)) (by kernel_rfl) (by kernel_rfl) (fun _ => by kernel_rfl) (fun _ => by kernel_rfl)) rfl (fun ac A8 => ?_)
  refine wpList_nil ?_
  refine n_then ?_
  refine c_ifb (b := (decide (((k * c : Nat) : Int) < ((m : Nat) : Int)))) A8 (by kernel_rfl) (fun h9 => ?_) (fun h9 => ?_)
  · have p10 := of_decide_eq_true h9
    refine wp_skip ?_
    refine n_then ?_
    refine wp_seq ?_
    refine wp_block ?_
    refine wp_seq ?_
    have hkN : k < N := by rcases Nat.lt_or_ge k N with q | q; exact q; have := hkn q; omega
    have hkc := hkc hkN
    have hx : List.range N = List.range k ++ k :: (List.range (N - (k + 1))).map (k + 1 + ·) := range_at hkN
    refine r_begin (w0 := _) (by kernel_rfl) (S3.sub sub_all sub_all) (fun wc T11 B12 => ?_)
    replace hJ := hAb _ _ _ hJ B12
    have S13 := S3.kept B12
    refine r_take 0 (.int .i64 (c : Int)) A8 T11 (g_load (g := g2) (off := 0) 1 (by kernel_rfl) rfl (by kernel_rfl)) rfl rfl rfl (pf_then (pf_block (pf_then (pf_then (pf_block pf_body))))) (by kernel_rfl) (fun ac A14 => ?_)
    refine r_take 1 (.slice (some ad) m cap) A14 T11 (g_load (g := g1) (off := 0) 0 (by kernel_rfl) rfl (by kernel_rfl)) rfl rfl rfl (pf_then (pf_block (pf_then (pf_then (pf_block pf_body))))) (by kernel_rfl) (fun ac A15 => ?_)
    refine r_take 2 (.int .i64 ((k * c : Nat) : Int)) A15 T11 (g_move (by kernel_rfl)) rfl rfl rfl (pf_then (pf_block (pf_then (pf_then (pf_block pf_body))))) (by kernel_rfl) (fun ac A16 => ?_)
    refine r_take 3 (.slice (some (ad.add (k * c))) (m - k * c) (cap - k * c)) A16 T11 (g_slice (u := .slice (some ad) m cap) (lo' := (some (.int .i64 ((k * c : Nat) : Int)))) (hi' := none) (mx' := none) (by kernel_rfl) (by kernel_rfl) (by kernel_rfl) (by kernel_rfl) (sl_from1 (e := 36) (b := 4) (i := k * c) (by kernel_rfl) (by omega) (by omega) rfl)) rfl rfl rfl (pf_then (pf_block (pf_then (pf_then (pf_block pf_body))))) (by kernel_rfl) (fun ac A17 => ?_)
    refine r_take 4 (.int .i64 (((m - k * c) : Nat) : Int)) A17 T11 (g_built (r := [(0, .slice (some (ad.add (k * c))) (m - k * c) (cap - k * c))]) (by kernel_rfl) (fun _ _ _ => by kernel_rfl)) rfl rfl rfl (pf_then (pf_block (pf_then (pf_then (pf_block pf_body))))) (by kernel_rfl) (fun ac A18 => ?_)
    refine r_take 5 (.int .i64 (mn (c : Int) (((m - k * c) : Nat) : Int))) A18 T11 (g_built (r := [(0, .int .i64 (c : Int)), (0, .int .i64 (((m - k * c) : Nat) : Int))]) (by kernel_rfl) (fun ty cs w => by show (do let x ← Builtin.min_ _ ty #[.int .i64 (c : Int), .int .i64 (((m - k * c) : Nat) : Int)]; pure (Next.value x) : Sem Next).run _ w = _; rw [Sem.run_bind, run_min_mn]; rfl)) rfl rfl rfl (pf_then (pf_block (pf_then (pf_then (pf_block pf_body))))) (by kernel_rfl) (fun ac A19 => ?_)
    refine r_take 6 (.int .i64 (mn (c : Int) (((m - k * c) : Nat) : Int))) A19 T11 (g_assign (by kernel_rfl)) rfl rfl rfl (pf_then (pf_block (pf_then (pf_then (pf_block pf_body))))) (by kernel_rfl) (fun ac A20 => ?_)
    refine r_done (by kernel_rfl) ?_
    refine n_then ?_
    refine wp_seq ?_
    have hmn : mn (c : Int) ((m - k * c) : Nat) = (c : Int) := by rw [mn_eq]; omega
    have AW1 := A20
    simp only [hmn] at AW1
    refine y_region ?_
    refine y_one (.func (.yield l) #[] #[]) AW1 S13 (g_move (by kernel_rfl)) rfl (fun ac A21 => ?_)
    refine y_one (.slice (some ad) m cap) A21 S13 (g_load (g := g1) (off := 0) 0 (by kernel_rfl) rfl (by kernel_rfl)) rfl (fun ac A22 => ?_)
    refine y_one (.int .i64 ((k * c : Nat) : Int)) A22 S13 (g_move (by kernel_rfl)) rfl (fun ac A23 => ?_)
    refine y_one (.int .i64 ((k * c : Nat) : Int)) A23 S13 (g_move (by kernel_rfl)) rfl (fun ac A24 => ?_)
    refine y_one (.int .i64 (c : Int)) A24 S13 (g_move (by kernel_rfl)) rfl (fun ac A25 => ?_)
    refine y_one (.int .i64 (((k * c : Nat) : Int) + (c : Int))) A25 S13 (g_bin (u := .int .i64 ((k * c : Nat) : Int)) (k := .int .i64 (c : Int)) (by kernel_rfl) (by kernel_rfl) (fun _ => by kernel_rfl) (b_add (by omega))) rfl (fun ac A26 => ?_)
    refine y_one (.int .i64 ((k * c : Nat) : Int)) A26 S13 (g_move (by kernel_rfl)) rfl (fun ac A27 => ?_)
    refine y_one (.int .i64 (c : Int)) A27 S13 (g_move (by kernel_rfl)) rfl (fun ac A28 => ?_)
    refine y_one (.int .i64 (((k * c : Nat) : Int) + (c : Int))) A28 S13 (g_bin (u := .int .i64 ((k * c : Nat) : Int)) (k := .int .i64 (c : Int)) (by kernel_rfl) (by kernel_rfl) (fun _ => by kernel_rfl) (b_add (by omega))) rfl (fun ac A29 => ?_)
    refine y_one (.slice (some (ad.add (k * c))) c c) A29 S13 (g_slice (u := .slice (some ad) m cap) (lo' := (some (.int .i64 ((k * c : Nat) : Int)))) (hi' := (some (.int .i64 (((k * c : Nat) : Int) + (c : Int))))) (mx' := (some (.int .i64 (((k * c : Nat) : Int) + (c : Int))))) (by kernel_rfl) (by kernel_rfl) (by kernel_rfl) (by kernel_rfl) (sl_cap (e := 36) (b := 4) (i := k * c) (k := c) (by kernel_rfl) hc (by omega) rfl (by omega) (by omega))) rfl (fun ac A30 => ?_)
    refine y_call (r := [(0, .slice (some (ad.add (k * c))) c c)]) #[.slice (some (ad.add (k * c))) c c] A30 (hY _ k _ _ hx hJ) (by rintro e w (⟨rfl, _⟩ | ⟨rfl, _⟩) <;> exact ⟨_, rfl⟩) (by kernel_rfl) (by kernel_rfl) rfl rfl (fun v ac wc hr A31 => ?_)
    rcases hr with ⟨he, hJ, hk⟩ | ⟨he, hx⟩
    · cases he
      have S32 := (St.came (St.came (St.start _) (hk _ (List.mem_cons_of_mem _ (List.mem_singleton.2 rfl)) (S13.get 1 (b := ⟨g2, 3, #[.int .i64 (c : Int)], false⟩) rfl)) (by simp)) (hk _ (List.mem_cons_self ..) (S13.get 0 (b := ⟨g1, 23, #[.slice (some ad) m cap], false⟩) rfl)) (by simp))
      refine y_one (.bool false) A31 S32 (g_un (u := .bool true) (by kernel_rfl) (fun _ => by kernel_rfl)) rfl (fun ac A33 => ?_)
      refine y_nil ?_
      refine n_then ?_
      refine c_f (b := false) A33 (by kernel_rfl) rfl ?_
      refine wp_skip ?_
      refine n_block ?_
      refine n_then ?_
      refine wp_region_lit ?_
      refine s_one (.int .i64 ((k * c : Nat) : Int)) A33 S32 (g_move (by kernel_rfl)) rfl (fun ac A34 => ?_)
      refine s_one (.int .i64 (c : Int)) A34 S32 (g_load (g := g2) (off := 0) 1 (by kernel_rfl) rfl (by kernel_rfl)) rfl (fun ac A35 => ?_)
      refine s_one (.int .i64 (((k * c : Nat) : Int) + (c : Int))) A35 S32 (g_bin (u := .int .i64 ((k * c : Nat) : Int)) (k := .int .i64 (c : Int)) (by kernel_rfl) (by kernel_rfl) (fun _ => by kernel_rfl) (b_add (by omega))) rfl (fun ac A36 => ?_)
      refine s_one (.int .i64 (((k * c : Nat) : Int) + (c : Int))) A36 S32 (g_assign (by kernel_rfl)) rfl (fun ac A37 => ?_)
      refine wpList_nil ?_
      refine n_then ?_
      refine ⟨_, ⟨k + 1, rfl, by omega, by rw [List.range_succ]; exact hJ, (A37.slot (A37.slot (A37.slot (A37.slot A37.nil (v := .int .i64 (((k * c : Nat) : Int) + (c : Int))) (by kernel_rfl) (congrArg (Value.int .i64) (by rw [Nat.succ_mul]; omega))) (v := .pointer (some ⟨g2, 0, none⟩)) (by kernel_rfl) rfl) (v := .pointer (some ⟨g1, 0, none⟩)) (by kernel_rfl) rfl) (v := .func (.yield l) #[] #[]) (by kernel_rfl) rfl), S32.sub sub_all sub_all⟩, ?_⟩
      omega
    · cases he
      have S38 := St.start wc
      refine y_one (.bool true) A31 S38 (g_un (u := .bool false) (by kernel_rfl) (fun _ => by kernel_rfl)) rfl (fun ac A39 => ?_)
      refine y_nil ?_
      refine n_then ?_
      refine c_t (b := true) A39 (by kernel_rfl) rfl ?_
      refine wp_ret ?_
      refine r_block ?_
      refine r_then ?_
      refine r_then ?_
      refine r_block ?_
      exact it_ret A39 Try.results111 ⟨⟨_, rfl⟩, .inr ⟨_, hx⟩⟩
  · have p40 := of_decide_eq_false h9
    refine wp_exit ?_
    refine x_then ?_
    refine x_then ?_
    refine x_hit ?_
    have e : k = N := by rcases Nat.lt_or_ge k N with q | q; have := hkc q; omega; omega
    rw [e] at hJ
    exact it_end A8 Try.results111 ⟨⟨_, rfl⟩, .inl hJ⟩
set_option maxRecDepth 100000 in
theorem chunkB_seq (g1 g2 : Nat) (o1 o2 : Bool) (ad : Addr) (m cap c N : Nat) (hc : 0 < c) (hm : m = N * c) (hmc : m ≤ cap) (hm1 : m ≤ 200000) : Seq Try.prog 108 #[] #[.pointer (some ⟨g1, 0, none⟩), .pointer (some ⟨g2, 0, none⟩)] (fun k : Nat => #[.slice (some (ad.add (k * c))) c c]) [⟨g1, 144, #[.slice (some ad) m cap], o1⟩, ⟨g2, 3, #[.int .i64 (c : Int)], o2⟩] (List.range N) := by
  intro l J Jx W hG hAb hY hJ
  refine callsIn_wide.2 ?_
  refine enter (n := 31) Try.func108 rfl rfl rfl (fun ac A0 => ?_)
  have S0 := (St.came (St.came (St.start W) (hG _ (List.mem_cons_of_mem _ (List.mem_singleton.2 rfl))) (by simp)) (hG _ (List.mem_cons_self ..)) (by simp))
  refine wp_seq ?_
  refine wp_region_lit ?_
  refine s_one (.int .i64 0) A0 S0 (g_assign (by kernel_rfl)) rfl (fun ac A1 => ?_)
  refine wpList_nil ?_
  refine n_then ?_
  refine wp_block ?_
  refine c_loopN (fun mm ac wc => ∃ (k : Nat), mm = N - k ∧ (k ≤ N) ∧ (J (List.range k) wc) ∧ Fr 31 ac [(0, .func (.yield l) #[] #[]), (1, .pointer (some ⟨g1, 0, none⟩)), (2, .pointer (some ⟨g2, 0, none⟩)), (4, .int .i64 ((k * c : Nat) : Int))] ∧ St wc [⟨g1, 144, #[.slice (some ad) m cap], false⟩, ⟨g2, 3, #[.int .i64 (c : Int)], false⟩] [] wc) _ ⟨0, rfl, Nat.zero_le _, hJ, (A1.slot (A1.slot (A1.slot (A1.slot A1.nil (v := .int .i64 0) (by kernel_rfl) (by simp)) (v := .pointer (some ⟨g2, 0, none⟩)) (by kernel_rfl) rfl) (v := .pointer (some ⟨g1, 0, none⟩)) (by kernel_rfl) rfl) (v := .func (.yield l) #[] #[]) (by kernel_rfl) rfl), S0.sub sub_all sub_all⟩ ?_
  rintro mm ac wc ⟨k, hm4, hk, hJ, A2, S3⟩
  have hkc : k < N → k * c + c ≤ m := fun h => by rw [hm, ← Nat.succ_mul]; exact Nat.mul_le_mul_right c h
  have hkn : N ≤ k → m ≤ k * c := fun h => by rw [hm]; exact Nat.mul_le_mul_right c h
  refine wp_seq ?_
  refine wp_seq ?_
  refine wp_region_lit ?_
  refine s_one (.int .i64 ((k * c : Nat) : Int)) A2 S3 (g_move (by kernel_rfl)) rfl (fun ac A5 => ?_)
  refine s_one (.slice (some ad) m cap) A5 S3 (g_load (g := g1) (off := 0) 0 (by kernel_rfl) rfl (by kernel_rfl)) rfl (fun ac A6 => ?_)
  refine s_one (.int .i64 ((m : Nat) : Int)) A6 S3 (g_built (r := [(0, .slice (some ad) m cap)]) (by kernel_rfl) (fun _ _ _ => by kernel_rfl)) rfl (fun ac A7 => ?_)
  refine s_one (.bool (decide (((k * c : Nat) : Int) < ((m : Nat) : Int)))) A7 S3 (g_bin (u := .int .i64 ((k * c : Nat) : Int)) (k := .int .i64 ((m : Nat) : Int)) (by kernel_rfl) (by kernel_rfl) (fun _ => by kernel_rfl) (fun _ => by kernel_rfl)) rfl (fun ac A8 => ?_)
  refine wpList_nil ?_
  refine n_then ?_
  refine c_ifb (b := (decide (((k * c : Nat) : Int) < ((m : Nat) : Int)))) A8 (by kernel_rfl) (fun h9 => ?_) (fun h9 => ?_)
  · have p10 := of_decide_eq_true h9
    refine wp_skip ?_
    refine n_then ?_
    refine wp_seq ?_
    refine wp_block ?_
    refine wp_seq ?_
    have hkN : k < N := by rcases Nat.lt_or_ge k N with q | q; exact q; have := hkn q; omega
    have hkc := hkc hkN
    have hx : List.range N = List.range k ++ k :: (List.range (N - (k + 1))).map (k + 1 + ·) := range_at hkN
    refine r_begin (w0 := _) (by kernel_rfl) (S3.sub sub_all sub_all) (fun wc T11 B12 => ?_)
    replace hJ := hAb _ _ _ hJ B12
    have S13 := S3.kept B12
    refine r_take 0 (.int .i64 (c : Int)) A8 T11 (g_load (g := g2) (off := 0) 1 (by kernel_rfl) rfl (by kernel_rfl)) rfl rfl rfl (pf_then (pf_block (pf_then (pf_then (pf_block pf_body))))) (by kernel_rfl) (fun ac A14 => ?_)
    refine r_take 1 (.slice (some ad) m cap) A14 T11 (g_load (g := g1) (off := 0) 0 (by kernel_rfl) rfl (by kernel_rfl)) rfl rfl rfl (pf_then (pf_block (pf_then (pf_then (pf_block pf_body))))) (by kernel_rfl) (fun ac A15 => ?_)
    refine r_take 2 (.int .i64 ((k * c : Nat) : Int)) A15 T11 (g_move (by kernel_rfl)) rfl rfl rfl (pf_then (pf_block (pf_then (pf_then (pf_block pf_body))))) (by kernel_rfl) (fun ac A16 => ?_)
    refine r_take 3 (.slice (some (ad.add (k * c))) (m - k * c) (cap - k * c)) A16 T11 (g_slice (u := .slice (some ad) m cap) (lo' := (some (.int .i64 ((k * c : Nat) : Int)))) (hi' := none) (mx' := none) (by kernel_rfl) (by kernel_rfl) (by kernel_rfl) (by kernel_rfl) (sl_from1 (e := 5) (b := 1) (i := k * c) (by kernel_rfl) (by omega) (by omega) rfl)) rfl rfl rfl (pf_then (pf_block (pf_then (pf_then (pf_block pf_body))))) (by kernel_rfl) (fun ac A17 => ?_)
    refine r_take 4 (.int .i64 (((m - k * c) : Nat) : Int)) A17 T11 (g_built (r := [(0, .slice (some (ad.add (k * c))) (m - k * c) (cap - k * c))]) (by kernel_rfl) (fun _ _ _ => by kernel_rfl)) rfl rfl rfl (pf_then (pf_block (pf_then (pf_then (pf_block pf_body))))) (by kernel_rfl) (fun ac A18 => ?_)
    refine r_take 5 (.int .i64 (mn (c : Int) (((m - k * c) : Nat) : Int))) A18 T11 (g_built (r := [(0, .int .i64 (c : Int)), (0, .int .i64 (((m - k * c) : Nat) : Int))]) (by kernel_rfl) (fun ty cs w => by show (do let x ← Builtin.min_ _ ty #[.int .i64 (c : Int), .int .i64 (((m - k * c) : Nat) : Int)]; pure (Next.value x) : Sem Next).run _ w = _; rw [Sem.run_bind, run_min_mn]; rfl)) rfl rfl rfl (pf_then (pf_block (pf_then (pf_then (pf_block pf_body))))) (by kernel_rfl) (fun ac A19 => ?_)
    refine r_take 6 (.int .i64 (mn (c : Int) (((m - k * c) : Nat) : Int))) A19 T11 (g_assign (by kernel_rfl)) rfl rfl rfl (pf_then (pf_block (pf_then (pf_then (pf_block pf_body))))) (by kernel_rfl) (fun ac A20 => ?_)
    refine r_done (by kernel_rfl) ?_
    refine n_then ?_
    refine wp_seq ?_
    have hmn : mn (c : Int) ((m - k * c) : Nat) = (c : Int) := by rw [mn_eq]; omega
    have AW2 := A20
    simp only [hmn] at AW2
    refine y_region ?_
    refine y_one (.func (.yield l) #[] #[]) AW2 S13 (g_move (by kernel_rfl)) rfl (fun ac A21 => ?_)
    refine y_one (.slice (some ad) m cap) A21 S13 (g_load (g := g1) (off := 0) 0 (by kernel_rfl) rfl (by kernel_rfl)) rfl (fun ac A22 => ?_)
    refine y_one (.int .i64 ((k * c : Nat) : Int)) A22 S13 (g_move (by kernel_rfl)) rfl (fun ac A23 => ?_)
    refine y_one (.int .i64 ((k * c : Nat) : Int)) A23 S13 (g_move (by kernel_rfl)) rfl (fun ac A24 => ?_)
    refine y_one (.int .i64 (c : Int)) A24 S13 (g_move (by kernel_rfl)) rfl (fun ac A25 => ?_)
    refine y_one (.int .i64 (((k * c : Nat) : Int) + (c : Int))) A25 S13 (g_bin (u := .int .i64 ((k * c : Nat) : Int)) (k := .int .i64 (c : Int)) (by kernel_rfl) (by kernel_rfl) (fun _ => by kernel_rfl) (b_add (by omega))) rfl (fun ac A26 => ?_)
    refine y_one (.int .i64 ((k * c : Nat) : Int)) A26 S13 (g_move (by kernel_rfl)) rfl (fun ac A27 => ?_)
    refine y_one (.int .i64 (c : Int)) A27 S13 (g_move (by kernel_rfl)) rfl (fun ac A28 => ?_)
    refine y_one (.int .i64 (((k * c : Nat) : Int) + (c : Int))) A28 S13 (g_bin (u := .int .i64 ((k * c : Nat) : Int)) (k := .int .i64 (c : Int)) (by kernel_rfl) (by kernel_rfl) (fun _ => by kernel_rfl) (b_add (by omega))) rfl (fun ac A29 => ?_)
    refine y_one (.slice (some (ad.add (k * c))) c c) A29 S13 (g_slice (u := .slice (some ad) m cap) (lo' := (some (.int .i64 ((k * c : Nat) : Int)))) (hi' := (some (.int .i64 (((k * c : Nat) : Int) + (c : Int))))) (mx' := (some (.int .i64 (((k * c : Nat) : Int) + (c : Int))))) (by kernel_rfl) (by kernel_rfl) (by kernel_rfl) (by kernel_rfl) (sl_cap (e := 5) (b := 1) (i := k * c) (k := c) (by kernel_rfl) hc (by omega) rfl (by omega) (by omega))) rfl (fun ac A30 => ?_)
    refine y_call (r := [(0, .slice (some (ad.add (k * c))) c c)]) #[.slice (some (ad.add (k * c))) c c] A30 (hY _ k _ _ hx hJ) (by rintro e w (⟨rfl, _⟩ | ⟨rfl, _⟩) <;> exact ⟨_, rfl⟩) (by kernel_rfl) (by kernel_rfl) rfl rfl (fun v ac wc hr A31 => ?_)
    rcases hr with ⟨he, hJ, hk⟩ | ⟨he, hx⟩
    · cases he
      have S32 := (St.came (St.came (St.start _) (hk _ (List.mem_cons_of_mem _ (List.mem_singleton.2 rfl)) (S13.get 1 (b := ⟨g2, 3, #[.int .i64 (c : Int)], false⟩) rfl)) (by simp)) (hk _ (List.mem_cons_self ..) (S13.get 0 (b := ⟨g1, 144, #[.slice (some ad) m cap], false⟩) rfl)) (by simp))
      refine y_one (.bool false) A31 S32 (g_un (u := .bool true) (by kernel_rfl) (fun _ => by kernel_rfl)) rfl (fun ac A33 => ?_)
      refine y_nil ?_
      refine n_then ?_
      refine c_f (b := false) A33 (by kernel_rfl) rfl ?_
      refine wp_skip ?_
      refine n_block ?_
      refine n_then ?_
      refine wp_region_lit ?_
      refine s_one (.int .i64 ((k * c : Nat) : Int)) A33 S32 (g_move (by kernel_rfl)) rfl (fun ac A34 => ?_)
      refine s_one (.int .i64 (c : Int)) A34 S32 (g_load (g := g2) (off := 0) 1 (by kernel_rfl) rfl (by kernel_rfl)) rfl (fun ac A35 => ?_)
      refine s_one (.int .i64 (((k * c : Nat) : Int) + (c : Int))) A35 S32 (g_bin (u := .int .i64 ((k * c : Nat) : Int)) (k := .int .i64 (c : Int)) (by kernel_rfl) (by kernel_rfl) (fun _ => by kernel_rfl) (b_add (by omega))) rfl (fun ac A36 => ?_)
      refine s_one (.int .i64 (((k * c : Nat) : Int) + (c : Int))) A36 S32 (g_assign (by kernel_rfl)) rfl (fun ac A37 => ?_)
      refine wpList_nil ?_
      refine n_then ?_
      refine ⟨_, ⟨k + 1, rfl, by omega, by rw [List.range_succ]; exact hJ, (A37.slot (A37.slot (A37.slot (A37.slot A37.nil (v := .int .i64 (((k * c : Nat) : Int) + (c : Int))) (by kernel_rfl) (congrArg (Value.int .i64) (by rw [Nat.succ_mul]; omega))) (v := .pointer (some ⟨g2, 0, none⟩)) (by kernel_rfl) rfl) (v := .pointer (some ⟨g1, 0, none⟩)) (by kernel_rfl) rfl) (v := .func (.yield l) #[] #[]) (by kernel_rfl) rfl), S32.sub sub_all sub_all⟩, ?_⟩
      omega
    · cases he
      have S38 := St.start wc
      refine y_one (.bool true) A31 S38 (g_un (u := .bool false) (by kernel_rfl) (fun _ => by kernel_rfl)) rfl (fun ac A39 => ?_)
      refine y_nil ?_
      refine n_then ?_
      refine c_t (b := true) A39 (by kernel_rfl) rfl ?_
      refine wp_ret ?_
      refine r_block ?_
      refine r_then ?_
      refine r_then ?_
      refine r_block ?_
      exact it_ret A39 Try.results108 ⟨⟨_, rfl⟩, .inr ⟨_, hx⟩⟩
  · have p40 := of_decide_eq_false h9
    refine wp_exit ?_
    refine x_then ?_
    refine x_then ?_
    refine x_hit ?_
    have e : k = N := by rcases Nat.lt_or_ge k N with q | q; have := hkc q; omega; omega
    rw [e] at hJ
    exact it_end A8 Try.results108 ⟨⟨_, rfl⟩, .inl hJ⟩
end Go.Proofs.Ytcijkniijomcjaa
