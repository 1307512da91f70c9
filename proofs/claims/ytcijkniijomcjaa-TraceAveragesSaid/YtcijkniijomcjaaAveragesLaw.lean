/- The walk of TraceAverages: it returns true. -/
import Derived.Test.YtcijkniijomcjaaMd
namespace Go.Proofs.Ytcijkniijomcjaa
open Go.RowKit Go.Cpl

theorem md_bd {w : World} {A : Option Addr} {ds : List Md} (h : MdReads w A ds) (k : Nat) : -9223372036854775808 ≤ (mdK ds k).el ∧ (mdK ds k).el ≤ 9223372036854775807 := by
  rcases Nat.lt_or_ge k ds.length with q | q
  · exact ⟨(h.2 k q).lo, (h.2 k q).hi⟩
  · have e : mdK ds k = ⟨0, none, 0, 0, [], none, 0, 0, [], 0⟩ := by simp [mdK, List.getD_eq_getElem?_getD, List.getElem?_eq_none q]
    rw [e]; decide
theorem avW_le {w : World} {A : Option Addr} {ms : List Mt} (h : MtReads w A ms) : (avW ms).length ≤ 1000 := by
  unfold avW
  split
  · rename_i z
    have hp : 0 < ms.length := by
      rcases Nat.eq_zero_or_pos ms.length with q | q
      · rw [avZ_0 q] at z; exact absurd z (by decide)
      · exact q
    have o := h.2 0 hp
    rw [fw_length, avL_length, o.len]; exact o.few
  · exact Nat.zero_le _
theorem mt_one {w : World} {g : Nat} {t : TypeId} {el : Int} {B : Option Addr} {n c : Nat} {xs : List Nat} (hb : Blk w g t #[.int .i64 el, .slice B n c]) (ok : MtOk w ⟨el, B, n, c, xs⟩) : MtReads w (some ⟨g, 0, none⟩) [⟨el, B, n, c, xs⟩] := by
  refine ⟨fun k x hx => ⟨_, rfl, ?_⟩, fun k hk => ?_⟩
  · refine cells_of_blk (m := 2) hb k x ?_
    simpa [mtX, mtC] using hx
  · obtain rfl : k = 0 := by simpa using hk
    exact ok
theorem Averaged_n (A : Option Addr) (n cap : Nat) (ms : List Mt) (w : World) (hn : ms.length = n) (hr : MtReads w A ms) (hl : ms.length ≤ 1000) : Calls Try.prog 28 #[.slice A n cap] w fun e w' => ∃ v, e = .returned (.tuple #[.agg #[.int .i64 (avE ms), v], .int .i64 (avZ ms)]) ∧ Below w.heap.size w w' ∧ w'.ownsRow w.heap.size 36 1 v (avW ms).length (rowF (avW ms)) := by
  subst hn; exact Averaged_s A cap ms w hr hl
theorem refAveraged_n (A : Option Addr) (n cap : Nat) (ms : List Mt) (w : World) (hn : ms.length = n) (hr : MtReads w A ms) (hl : ms.length ≤ 1000) : Calls Try.prog 29 #[.slice A n cap] w fun e w' => ∃ v, e = .returned (.tuple #[.agg #[.int .i64 (avE ms), v], .int .i64 (avZ ms)]) ∧ Below w.heap.size w w' ∧ w'.ownsRow w.heap.size 36 1 v (avW ms).length (rowF (avW ms)) := by
  subst hn; exact refAveraged_s A cap ms w hr hl

set_option maxRecDepth 100000 in
set_option maxHeartbeats 400000 in
theorem averages_small (A : Option Addr) (cap : Nat) (ds : List Md) (w0 : World) (hr : MdReads w0 A ds) (hl : ds.length ≤ 4) :
    Calls Try.prog 5 #[.slice A ds.length cap] w0 fun e w' => e = .returned (.bool true) ∧ Below w0.heap.size w0 w' := by
  have S0 := St.start w0
  refine enter (n := 97) Try.func5 rfl rfl rfl (fun ac A0 => ?_)
  refine wp_seq ?_
  refine wp_region_lit ?_
  refine s_one (.bool false) A0 S0 (g_assign (by kernel_rfl)) rfl (fun ac A1 => ?_)
  refine wpList_nil ?_
  refine n_then ?_
  refine wp_seq ?_
  refine wp_seq ?_
  refine wp_region_lit ?_
  refine s_call (fs := #[]) (cp := #[]) (r := []) #[] (.bool true) A1 S0 (awake_any _) Try.call11 (by kernel_rfl) (by kernel_rfl) (by kernel_rfl) rfl (fun ac wc A2 S3 => ?_)
  refine s_one (.bool false) A2 S3 (g_un (u := .bool true) (by kernel_rfl) (fun _ => by kernel_rfl)) rfl (fun ac A5 => ?_)
  refine wpList_nil ?_
  refine n_then ?_
  refine c_f (b := false) A5 (by kernel_rfl) rfl ?_
  refine wp_skip ?_
  refine n_then ?_
  refine wp_seq ?_
  refine wp_seq ?_
  refine wp_region_lit ?_
  refine s_one (.slice A ds.length cap) A5 S3 (g_move (by kernel_rfl)) rfl (fun ac A6 => ?_)
  refine s_one (.int .i64 (ds.length : Int)) A6 S3 (g_built (r := [(0, .slice A ds.length cap)]) (by kernel_rfl) (fun _ _ _ => by kernel_rfl)) rfl (fun ac A7 => ?_)
  refine s_one (.bool (decide ((ds.length : Int) > 4))) A7 S3 (g_bin (u := .int .i64 (ds.length : Int)) (k := .int .i64 4) (by kernel_rfl) (by kernel_rfl) (fun _ => by kernel_rfl) (fun _ => by kernel_rfl)) rfl (fun ac A8 => ?_)
  refine s_one (.bool (decide ((ds.length : Int) > 4))) A8 S3 (g_move (by kernel_rfl)) rfl (fun ac A9 => ?_)
  refine s_not (dj := 17) (b := (decide ((ds.length : Int) > 4))) A9 (by kernel_rfl) (by kernel_rfl) (decide_eq_false (by omega)) rfl (fun ac A10 => ?_)
  refine s_not (dj := 17) (b := (decide ((ds.length : Int) > 4))) A10 (by kernel_rfl) (by kernel_rfl) (decide_eq_false (by omega)) rfl (fun ac A11 => ?_)
  refine s_not (dj := 17) (b := (decide ((ds.length : Int) > 4))) A11 (by kernel_rfl) (by kernel_rfl) (decide_eq_false (by omega)) rfl (fun ac A12 => ?_)
  refine s_one (.bool false) A12 S3 (g_pick_f (b := (decide ((ds.length : Int) > 4))) (by kernel_rfl) (decide_eq_false (by omega)) (by kernel_rfl)) rfl (fun ac A13 => ?_)
  refine s_one (.bool false) A13 S3 (g_move (by kernel_rfl)) rfl (fun ac A14 => ?_)
  refine s_want (dj := 22) (b := false) A14 (by kernel_rfl) (by kernel_rfl) rfl ?_
  refine s_one (.slice A ds.length cap) A14 S3 (g_move (by kernel_rfl)) rfl (fun ac A15 => ?_)
  refine s_want (dj := 22) (b := false) A15 (by kernel_rfl) (by kernel_rfl) rfl ?_
  refine s_one (.int .i64 (ds.length : Int)) A15 S3 (g_built (r := [(0, .slice A ds.length cap)]) (by kernel_rfl) (fun _ _ _ => by kernel_rfl)) rfl (fun ac A16 => ?_)
  refine s_want (dj := 22) (b := false) A16 (by kernel_rfl) (by kernel_rfl) rfl ?_
  refine s_one (.bool (decide ((ds.length : Int) > 34))) A16 S3 (g_bin (u := .int .i64 (ds.length : Int)) (k := .int .i64 34) (by kernel_rfl) (by kernel_rfl) (fun _ => by kernel_rfl) (fun _ => by kernel_rfl)) rfl (fun ac A17 => ?_)
  refine s_one (.bool (decide ((ds.length : Int) > 34))) A17 S3 (g_pick_f (b := false) (by kernel_rfl) rfl (by kernel_rfl)) rfl (fun ac A18 => ?_)
  refine wpList_nil ?_
  refine n_then ?_
  refine c_f (b := (decide ((ds.length : Int) > 34))) A18 (by kernel_rfl) (decide_eq_false (by omega)) ?_
  refine wp_skip ?_
  refine n_then ?_
  refine wp_seq ?_
  refine wp_region_lit ?_
  refine s_one (.slice none 0 0) A18 S3 (g_assign (by kernel_rfl)) rfl (fun ac A19 => ?_)
  refine s_one (.slice none 0 0) A19 S3 (g_assign (by kernel_rfl)) rfl (fun ac A20 => ?_)
  refine wpList_nil ?_
  refine n_then ?_
  refine wp_seq ?_
  refine wp_seq ?_
  refine wp_region_lit ?_
  refine s_one (.int .i64 0) A20 S3 (g_assign (by kernel_rfl)) rfl (fun ac A21 => ?_)
  refine wpList_nil ?_
  refine n_then ?_
  refine wp_block ?_
  have S22 := S3.nilRow 30 2
  have S23 := S22.nilRow 30 2
  refine c_loopN (fun mm ac wc => ∃ (vs : List Value) (us : List Value) (v : Value) (u : Value), mm = ds.length - vs.length ∧ (vs.length ≤ ds.length) ∧ (us.length = vs.length) ∧ Fr 97 ac [(0, .slice A ds.length cap), (12, .bool true), (13, .bool false), (14, .slice A ds.length cap), (15, .int .i64 (ds.length : Int)), (16, .bool (decide ((ds.length : Int) > 4))), (17, .bool (decide ((ds.length : Int) > 4))), (18, undef), (19, undef), (20, undef), (21, .bool false), (22, .bool false), (23, .slice A ds.length cap), (24, .int .i64 (ds.length : Int)), (25, .bool (decide ((ds.length : Int) > 34))), (26, .bool (decide ((ds.length : Int) > 34))), (5, .int .i64 (vs.length : Int)), (3, v), (4, u)] ∧ St w0 [] (⟨v, 30, 2, vs.length, (mkX ds vs)⟩ :: (⟨u, 30, 2, us.length, (mkX ds us)⟩ :: ((mkM 36 ds vs) ++ (mkM 36 ds us)))) wc) _ ⟨[], [], .slice none 0 0, .slice none 0 0, rfl, Nat.zero_le _, rfl, (A21.slot (A21.slot (A21.slot (A21.slot (A21.slot (A21.slot (A21.slot (A21.slot (A21.slot (A21.slot (A21.slot (A21.slot (A21.slot (A21.slot (A21.slot (A21.slot (A21.slot (A21.slot (A21.slot A21.nil (v := .slice none 0 0) (by kernel_rfl) (by first | rfl | simp)) (v := .slice none 0 0) (by kernel_rfl) (by first | rfl | simp)) (v := .int .i64 0) (by kernel_rfl) rfl) (v := .bool (decide ((ds.length : Int) > 34))) (by kernel_rfl) rfl) (v := .bool (decide ((ds.length : Int) > 34))) (by kernel_rfl) rfl) (v := .int .i64 (ds.length : Int)) (by kernel_rfl) rfl) (v := .slice A ds.length cap) (by kernel_rfl) rfl) (v := .bool false) (by kernel_rfl) rfl) (v := .bool false) (by kernel_rfl) rfl) (v := undef) (by kernel_rfl) rfl) (v := undef) (by kernel_rfl) rfl) (v := undef) (by kernel_rfl) rfl) (v := .bool (decide ((ds.length : Int) > 4))) (by kernel_rfl) rfl) (v := .bool (decide ((ds.length : Int) > 4))) (by kernel_rfl) rfl) (v := .int .i64 (ds.length : Int)) (by kernel_rfl) rfl) (v := .slice A ds.length cap) (by kernel_rfl) rfl) (v := .bool false) (by kernel_rfl) rfl) (v := .bool true) (by kernel_rfl) rfl) (v := .slice A ds.length cap) (by kernel_rfl) rfl), (St.rerow 1 (St.rerow 0 S23 rfl ⟨rfl, rfl⟩) rfl ⟨rfl, rfl⟩).sub sub_all sub_all⟩ ?_
  rintro mm ac wc ⟨vs, us, v, u, hm26, hk, hu, A24, S25⟩
  have hxl1 := mkX_length ds vs
  have hxl2 := mkX_length ds us
  refine wp_seq ?_
  refine wp_seq ?_
  refine wp_region_lit ?_
  refine s_one (.int .i64 (vs.length : Int)) A24 S25 (g_move (by kernel_rfl)) rfl (fun ac A27 => ?_)
  refine s_one (.slice A ds.length cap) A27 S25 (g_move (by kernel_rfl)) rfl (fun ac A28 => ?_)
  refine s_one (.int .i64 (ds.length : Int)) A28 S25 (g_built (r := [(0, .slice A ds.length cap)]) (by kernel_rfl) (fun _ _ _ => by kernel_rfl)) rfl (fun ac A29 => ?_)
  refine s_one (.bool (decide ((vs.length : Int) < (ds.length : Int)))) A29 S25 (g_bin (u := .int .i64 (vs.length : Int)) (k := .int .i64 (ds.length : Int)) (by kernel_rfl) (by kernel_rfl) (fun _ => by kernel_rfl) (fun _ => by kernel_rfl)) rfl (fun ac A30 => ?_)
  refine wpList_nil ?_
  refine n_then ?_
  refine c_ifb (b := (decide ((vs.length : Int) < (ds.length : Int)))) A30 (by kernel_rfl) (fun h31 => ?_) (fun h31 => ?_)
  · have p32 := of_decide_eq_true h31
    refine wp_skip ?_
    refine n_then ?_
    refine wp_seq ?_
    refine wp_block ?_
    refine wp_seq ?_
    refine wp_seq ?_
    refine wp_region_lit ?_
    refine s_one (.slice A ds.length cap) A30 S25 (g_move (by kernel_rfl)) rfl (fun ac A33 => ?_)
    refine s_one (.int .i64 (vs.length : Int)) A33 S25 (g_move (by kernel_rfl)) rfl (fun ac A34 => ?_)
    obtain ⟨ad35, he36, hx37⟩ := md_at hr (k := vs.length) (by omega)
    refine s_one (.pointer (some (ad35.add (vs.length * 4)))) A34 S25 (g_index (u := .slice A ds.length cap) (k := .int .i64 (vs.length : Int)) (by kernel_rfl) (by kernel_rfl) (ix_xsB (e := 25) (size := 4) (bytes := 64) vs.length (by kernel_rfl) (by omega) (by omega) he36)) rfl (fun ac A38 => ?_)
    refine s_one (.agg #[.int .i64 ((mdK ds vs.length).el), .slice (mdK ds vs.length).SA ((mdK ds vs.length).sn) (mdK ds vs.length).sc, .slice (mdK ds vs.length).RA ((mdK ds vs.length).rn) (mdK ds vs.length).rc, .int .i64 ((mdK ds vs.length).mo)]) A38 S25 (g_loadXV (p := ad35.add (vs.length * 4)) (X := mdC (mdK ds vs.length)) (by kernel_rfl) hx37 (by kernel_rfl) rfl) rfl (fun ac A39 => ?_)
    refine s_call (fs := #[]) (cp := #[]) (r := [(0, .agg #[.int .i64 ((mdK ds vs.length).el), .slice (mdK ds vs.length).SA ((mdK ds vs.length).sn) (mdK ds vs.length).sc, .slice (mdK ds vs.length).RA ((mdK ds vs.length).rn) (mdK ds vs.length).rc, .int .i64 ((mdK ds vs.length).mo)])]) #[.agg #[.int .i64 ((mdK ds vs.length).el), .slice (mdK ds vs.length).SA ((mdK ds vs.length).sn) (mdK ds vs.length).sc, .slice (mdK ds vs.length).RA ((mdK ds vs.length).rn) (mdK ds vs.length).rc, .int .i64 ((mdK ds vs.length).mo)]] (.bool ((decide (((mdK ds vs.length).sn : Int) ≤ 40)) && (decide (((mdK ds vs.length).rn : Int) ≤ 200)))) A39 S25 (few_s ((mdK ds vs.length).el) (mdK ds vs.length).SA ((mdK ds vs.length).sn) (mdK ds vs.length).sc (mdK ds vs.length).RA ((mdK ds vs.length).rn) (mdK ds vs.length).rc ((mdK ds vs.length).mo) _) Try.call12 (by kernel_rfl) (by kernel_rfl) (by kernel_rfl) rfl (fun ac wc A40 S41 => ?_)
    refine s_one (.bool (!((decide (((mdK ds vs.length).sn : Int) ≤ 40)) && (decide (((mdK ds vs.length).rn : Int) ≤ 200))))) A40 S41 (g_un (u := .bool ((decide (((mdK ds vs.length).sn : Int) ≤ 40)) && (decide (((mdK ds vs.length).rn : Int) ≤ 200)))) (by kernel_rfl) (fun _ => by kernel_rfl)) rfl (fun ac A43 => ?_)
    refine wpList_nil ?_
    refine n_then ?_
    refine c_ifb (b := (!((decide (((mdK ds vs.length).sn : Int) ≤ 40)) && (decide (((mdK ds vs.length).rn : Int) ≤ 200))))) A43 (by kernel_rfl) (fun h44 => ?_) (fun h44 => ?_)
    · have h45 : ((decide (((mdK ds vs.length).sn : Int) ≤ 40)) && (decide (((mdK ds vs.length).rn : Int) ≤ 200))) = false := Eq.mp (Bool.not_eq_true' _) h44
      refine wp_seq ?_
      refine wp_region_lit ?_
      refine s_one (.bool true) A43 S41 (g_assign (by kernel_rfl)) rfl (fun ac A46 => ?_)
      refine wpList_nil ?_
      refine n_then ?_
      refine wp_ret ?_
      refine r_then ?_
      refine r_block ?_
      refine r_then ?_
      refine r_then ?_
      refine r_block ?_
      refine r_then ?_
      refine fin1 (.bool true) Try.results5 A46 S41 (rv_tmp (by kernel_rfl)) ⟨?_, S41.kp⟩
      rfl
    · have h47 : ((decide (((mdK ds vs.length).sn : Int) ≤ 40)) && (decide (((mdK ds vs.length).rn : Int) ≤ 200))) = true := Eq.mp (Bool.not_eq_false' _) h44
      have h48 := (Bool.and_eq_true_iff.1 h47).1
      have p49 := of_decide_eq_true h48
      have h50 := (Bool.and_eq_true_iff.1 h47).2
      have p51 := of_decide_eq_true h50
      refine wp_skip ?_
      refine n_then ?_
      refine r_begin (w0 := w0) (by kernel_rfl) (S41.sub sub_all sub_nil) (fun wc T52 B53 => ?_)
      have S54 := S41.kept B53
      refine r_take 0 (v) A43 T52 (g_move (by kernel_rfl)) rfl rfl rfl (pf_block (pf_then (pf_then (pf_block (pf_then pf_body))))) (by kernel_rfl) (fun ac A55 => ?_)
      refine r_take 1 (.slice A ds.length cap) A55 T52 (g_move (by kernel_rfl)) rfl rfl rfl (pf_block (pf_then (pf_then (pf_block (pf_then pf_body))))) (by kernel_rfl) (fun ac A56 => ?_)
      refine r_take 2 (.int .i64 (vs.length : Int)) A56 T52 (g_move (by kernel_rfl)) rfl rfl rfl (pf_block (pf_then (pf_then (pf_block (pf_then pf_body))))) (by kernel_rfl) (fun ac A57 => ?_)
      obtain ⟨ad58, he59, hx60⟩ := md_at hr (k := vs.length) (by omega)
      refine r_take 3 (.pointer (some (ad58.add (vs.length * 4)))) A57 T52 (g_index (u := .slice A ds.length cap) (k := .int .i64 (vs.length : Int)) (by kernel_rfl) (by kernel_rfl) (ix_xsB (e := 25) (size := 4) (bytes := 64) vs.length (by kernel_rfl) (by omega) (by omega) he59)) rfl rfl rfl (pf_block (pf_then (pf_then (pf_block (pf_then pf_body))))) (by kernel_rfl) (fun ac A61 => ?_)
      refine r_take 4 (.agg #[.int .i64 ((mdK ds vs.length).el), .slice (mdK ds vs.length).SA ((mdK ds vs.length).sn) (mdK ds vs.length).sc, .slice (mdK ds vs.length).RA ((mdK ds vs.length).rn) (mdK ds vs.length).rc, .int .i64 ((mdK ds vs.length).mo)]) A61 T52 (g_loadXV (p := ad58.add (vs.length * 4)) (X := mdC (mdK ds vs.length)) (by kernel_rfl) hx60 (by kernel_rfl) rfl) rfl rfl rfl (pf_block (pf_then (pf_then (pf_block (pf_then pf_body))))) (by kernel_rfl) (fun ac A62 => ?_)
      refine r_take 8 (u) A62 T52 (g_move (by kernel_rfl)) rfl rfl rfl (pf_block (pf_then (pf_then (pf_block (pf_then pf_body))))) (by kernel_rfl) (fun ac A63 => ?_)
      refine r_take 9 (.slice A ds.length cap) A63 T52 (g_move (by kernel_rfl)) rfl rfl rfl (pf_block (pf_then (pf_then (pf_block (pf_then pf_body))))) (by kernel_rfl) (fun ac A64 => ?_)
      refine r_take 10 (.int .i64 (vs.length : Int)) A64 T52 (g_move (by kernel_rfl)) rfl rfl rfl (pf_block (pf_then (pf_then (pf_block (pf_then pf_body))))) (by kernel_rfl) (fun ac A65 => ?_)
      obtain ⟨ad66, he67, hx68⟩ := md_at hr (k := vs.length) (by omega)
      refine r_take 11 (.pointer (some (ad66.add (vs.length * 4)))) A65 T52 (g_index (u := .slice A ds.length cap) (k := .int .i64 (vs.length : Int)) (by kernel_rfl) (by kernel_rfl) (ix_xsB (e := 25) (size := 4) (bytes := 64) vs.length (by kernel_rfl) (by omega) (by omega) he67)) rfl rfl rfl (pf_block (pf_then (pf_then (pf_block (pf_then pf_body))))) (by kernel_rfl) (fun ac A69 => ?_)
      refine r_take 12 (.agg #[.int .i64 ((mdK ds vs.length).el), .slice (mdK ds vs.length).SA ((mdK ds vs.length).sn) (mdK ds vs.length).sc, .slice (mdK ds vs.length).RA ((mdK ds vs.length).rn) (mdK ds vs.length).rc, .int .i64 ((mdK ds vs.length).mo)]) A69 T52 (g_loadXV (p := ad66.add (vs.length * 4)) (X := mdC (mdK ds vs.length)) (by kernel_rfl) hx68 (by kernel_rfl) rfl) rfl rfl rfl (pf_block (pf_then (pf_then (pf_block (pf_then pf_body))))) (by kernel_rfl) (fun ac A70 => ?_)
      refine r_1 (i := 5) (by kernel_rfl) ?_
      refine rs_callRF (fs := #[]) (cp := #[]) (r := [(0, .agg #[.int .i64 ((mdK ds vs.length).el), .slice (mdK ds vs.length).SA ((mdK ds vs.length).sn) (mdK ds vs.length).sc, .slice (mdK ds vs.length).RA ((mdK ds vs.length).rn) (mdK ds vs.length).rc, .int .i64 ((mdK ds vs.length).mo)])]) (fun v => .agg #[.int .i64 ((mdK ds vs.length).el), v]) #[.agg #[.int .i64 ((mdK ds vs.length).el), .slice (mdK ds vs.length).SA ((mdK ds vs.length).sn) (mdK ds vs.length).sc, .slice (mdK ds vs.length).RA ((mdK ds vs.length).rn) (mdK ds vs.length).rc, .int .i64 ((mdK ds vs.length).mo)]] A70 S54 sub_all sub_nil (Matrix_d ((mdK ds vs.length).el) (mdK ds vs.length).SA ((mdK ds vs.length).sn) (mdK ds vs.length).sc ((mdK ds vs.length).sl) (mdK ds vs.length).RA ((mdK ds vs.length).rn) (mdK ds vs.length).rc ((mdK ds vs.length).rl) ((mdK ds vs.length).mo) _ (hr.2 vs.length (by omega)).hs ((hr.2 vs.length (by omega)).rs.kept S54.kp) (hr.2 vs.length (by omega)).hr ((hr.2 vs.length (by omega)).rr.kept S54.kp) (by omega) (by omega)) Try.call13 rfl rfl (by kernel_rfl) (by kernel_rfl) (by kernel_rfl) rfl (fun v75 ac wc A71 S72 => ?_)
      obtain ⟨hl76, A77, cap78, rfl, hc79, hr80⟩ := rowF_reads (v := v75) (m := (mkN ((mdK ds vs.length).el) ((mdK ds vs.length).mo))) (l := mkW ((mdK ds vs.length).el) ((mdK ds vs.length).sn) ((mdK ds vs.length).sl) ((mdK ds vs.length).rn) ((mdK ds vs.length).rl) ((mdK ds vs.length).mo)) (S72.row 0 rfl)
      have T74 := S72.sub sub_all sub_nil
      refine r_1 (i := 6) (by kernel_rfl) ?_
      refine rs_bs (e := 30) (r := [(0, .agg #[.int .i64 ((mdK ds vs.length).el), .slice A77 (mkN ((mdK ds vs.length).el) ((mdK ds vs.length).mo)) cap78])]) (#[.int .i64 ((mdK ds vs.length).el), .slice A77 (mkN ((mdK ds vs.length).el) ((mdK ds vs.length).mo)) cap78]) A71 S72 sub_all sub_nil (by kernel_rfl) (by kernel_rfl) rfl rfl rfl (fun g83 ac wc A81 S82 => ?_)
      have T84 := S82.sub sub_nil sub_nil
      refine r_1 (i := 7) (by kernel_rfl) ?_
      refine rs_append (e := 30) (size := 2) (bytes := 32) (v := v) (g := g83) (m' := 1) (c := 1) 1 0 [.int .i64 ((mdK ds vs.length).el), .slice A77 (mkN ((mdK ds vs.length).el) ((mdK ds vs.length).mo)) cap78] A81 S82 sub_nil (fun _ => sub_nil) (by kernel_rfl) (by kernel_rfl) (by kernel_rfl) rfl rfl (by kernel_rfl) rfl (by kernel_rfl) (by omega) (by omega) rfl rfl rfl (fun v89 ac wc A85 S86 => ?_)
      have T88 := S86.sub sub_nil sub_nil
      refine r_1 (i := 13) (by kernel_rfl) ?_
      refine rs_callRF (fs := #[]) (cp := #[]) (r := [(0, .agg #[.int .i64 ((mdK ds vs.length).el), .slice (mdK ds vs.length).SA ((mdK ds vs.length).sn) (mdK ds vs.length).sc, .slice (mdK ds vs.length).RA ((mdK ds vs.length).rn) (mdK ds vs.length).rc, .int .i64 ((mdK ds vs.length).mo)])]) (fun v => .agg #[.int .i64 ((mdK ds vs.length).el), v]) #[.agg #[.int .i64 ((mdK ds vs.length).el), .slice (mdK ds vs.length).SA ((mdK ds vs.length).sn) (mdK ds vs.length).sc, .slice (mdK ds vs.length).RA ((mdK ds vs.length).rn) (mdK ds vs.length).rc, .int .i64 ((mdK ds vs.length).mo)]] A85 S86 sub_nil sub_nil (Matrix_d ((mdK ds vs.length).el) (mdK ds vs.length).SA ((mdK ds vs.length).sn) (mdK ds vs.length).sc ((mdK ds vs.length).sl) (mdK ds vs.length).RA ((mdK ds vs.length).rn) (mdK ds vs.length).rc ((mdK ds vs.length).rl) ((mdK ds vs.length).mo) _ (hr.2 vs.length (by omega)).hs ((hr.2 vs.length (by omega)).rs.kept S86.kp) (hr.2 vs.length (by omega)).hr ((hr.2 vs.length (by omega)).rr.kept S86.kp) (by omega) (by omega)) Try.call13 rfl rfl (by kernel_rfl) (by kernel_rfl) (by kernel_rfl) rfl (fun v94 ac wc A90 S91 => ?_)
      obtain ⟨hl95, A96, cap97, rfl, hc98, hr99⟩ := rowF_reads (v := v94) (m := (mkN ((mdK ds vs.length).el) ((mdK ds vs.length).mo))) (l := mkW ((mdK ds vs.length).el) ((mdK ds vs.length).sn) ((mdK ds vs.length).sl) ((mdK ds vs.length).rn) ((mdK ds vs.length).rl) ((mdK ds vs.length).mo)) (S91.row 0 rfl)
      have T93 := S91.sub sub_nil sub_nil
      refine r_1 (i := 14) (by kernel_rfl) ?_
      refine rs_bs (e := 30) (r := [(0, .agg #[.int .i64 ((mdK ds vs.length).el), .slice A96 (mkN ((mdK ds vs.length).el) ((mdK ds vs.length).mo)) cap97])]) (#[.int .i64 ((mdK ds vs.length).el), .slice A96 (mkN ((mdK ds vs.length).el) ((mdK ds vs.length).mo)) cap97]) A90 S91 sub_nil sub_nil (by kernel_rfl) (by kernel_rfl) rfl rfl rfl (fun g102 ac wc A100 S101 => ?_)
      have T103 := S101.sub sub_nil sub_nil
      refine r_1 (i := 15) (by kernel_rfl) ?_
      refine rs_append (e := 30) (size := 2) (bytes := 32) (v := u) (g := g102) (m' := 1) (c := 1) 3 0 [.int .i64 ((mdK ds vs.length).el), .slice A96 (mkN ((mdK ds vs.length).el) ((mdK ds vs.length).mo)) cap97] A100 S101 sub_nil (fun _ => sub_nil) (by kernel_rfl) (by kernel_rfl) (by kernel_rfl) rfl rfl (by kernel_rfl) rfl (by kernel_rfl) (by omega) (by omega) rfl rfl rfl (fun v108 ac wc A104 S105 => ?_)
      have T107 := S105.sub sub_nil sub_nil
      refine r_take 16 (v89) A104 T107 (g_assign (by kernel_rfl)) rfl rfl rfl (pf_block (pf_then (pf_then (pf_block (pf_then pf_body))))) (by kernel_rfl) (fun ac A109 => ?_)
      refine r_take 17 (v108) A109 T107 (g_assign (by kernel_rfl)) rfl rfl rfl (pf_block (pf_then (pf_then (pf_block (pf_then pf_body))))) (by kernel_rfl) (fun ac A110 => ?_)
      refine r_done (by kernel_rfl) ?_
      refine n_block ?_
      refine n_then ?_
      refine wp_region_lit ?_
      refine s_one (.int .i64 (vs.length : Int)) A110 S105 (g_move (by kernel_rfl)) rfl (fun ac A111 => ?_)
      refine s_one (.int .i64 ((vs.length : Int) + 1)) A111 S105 (g_bin (u := .int .i64 (vs.length : Int)) (k := .int .i64 1) (by kernel_rfl) (by kernel_rfl) (fun _ => by kernel_rfl) (b_add (by omega))) rfl (fun ac A112 => ?_)
      refine s_one (.int .i64 ((vs.length : Int) + 1)) A112 S105 (g_assign (by kernel_rfl)) rfl (fun ac A113 => ?_)
      refine wpList_nil ?_
      refine n_then ?_
      have e9 : (⟨v89, 30, 2, (vs.length + 1), ((mkX ds vs) ++ [.int .i64 ((mdK ds vs.length).el), .slice A77 (mkN ((mdK ds vs.length).el) ((mdK ds vs.length).mo)) cap78])⟩ :: ⟨v108, 30, 2, (us.length + 1), ((mkX ds us) ++ [.int .i64 ((mdK ds vs.length).el), .slice A96 (mkN ((mdK ds vs.length).el) ((mdK ds vs.length).mo)) cap97])⟩ :: ⟨.slice A77 (mkN ((mdK ds vs.length).el) ((mdK ds vs.length).mo)) cap78, 36, 1, (mkN ((mdK ds vs.length).el) ((mdK ds vs.length).mo)), (rowF (mkW ((mdK ds vs.length).el) ((mdK ds vs.length).sn) ((mdK ds vs.length).sl) ((mdK ds vs.length).rn) ((mdK ds vs.length).rl) ((mdK ds vs.length).mo)))⟩ :: (mkM 36 ds vs ++ ⟨.slice A96 (mkN ((mdK ds vs.length).el) ((mdK ds vs.length).mo)) cap97, 36, 1, (mkN ((mdK ds vs.length).el) ((mdK ds vs.length).mo)), (rowF (mkW ((mdK ds vs.length).el) ((mdK ds vs.length).sn) ((mdK ds vs.length).sl) ((mdK ds vs.length).rn) ((mdK ds vs.length).rl) ((mdK ds vs.length).mo)))⟩ :: mkM 36 ds us) : List Rw) = (⟨v89, 30, 2, (((Value.slice A77 (mkN ((mdK ds vs.length).el) ((mdK ds vs.length).mo)) cap78) :: vs).length), (mkX ds ((Value.slice A77 (mkN ((mdK ds vs.length).el) ((mdK ds vs.length).mo)) cap78) :: vs))⟩ :: (⟨v108, 30, 2, (((Value.slice A96 (mkN ((mdK ds vs.length).el) ((mdK ds vs.length).mo)) cap97) :: us).length), (mkX ds ((Value.slice A96 (mkN ((mdK ds vs.length).el) ((mdK ds vs.length).mo)) cap97) :: us))⟩ :: ((mkM 36 ds ((Value.slice A77 (mkN ((mdK ds vs.length).el) ((mdK ds vs.length).mo)) cap78) :: vs)) ++ (mkM 36 ds ((Value.slice A96 (mkN ((mdK ds vs.length).el) ((mdK ds vs.length).mo)) cap97) :: us))))) := by simp only [mkM, mkX, List.cons_append, List.length_cons, hu, mdW, mdN]
      have SP : St w0 [⟨g102, 30, #[.int .i64 ((mdK ds vs.length).el), .slice A96 (mkN ((mdK ds vs.length).el) ((mdK ds vs.length).mo)) cap97], true⟩, ⟨g83, 30, #[.int .i64 ((mdK ds vs.length).el), .slice A77 (mkN ((mdK ds vs.length).el) ((mdK ds vs.length).mo)) cap78], true⟩] (⟨v89, 30, 2, (((Value.slice A77 (mkN ((mdK ds vs.length).el) ((mdK ds vs.length).mo)) cap78) :: vs).length), (mkX ds ((Value.slice A77 (mkN ((mdK ds vs.length).el) ((mdK ds vs.length).mo)) cap78) :: vs))⟩ :: (⟨v108, 30, 2, (((Value.slice A96 (mkN ((mdK ds vs.length).el) ((mdK ds vs.length).mo)) cap97) :: us).length), (mkX ds ((Value.slice A96 (mkN ((mdK ds vs.length).el) ((mdK ds vs.length).mo)) cap97) :: us))⟩ :: ((mkM 36 ds ((Value.slice A77 (mkN ((mdK ds vs.length).el) ((mdK ds vs.length).mo)) cap78) :: vs)) ++ (mkM 36 ds ((Value.slice A96 (mkN ((mdK ds vs.length).el) ((mdK ds vs.length).mo)) cap97) :: us))))) _ := St.permM S105 ((perm5 _ _).trans (List.Perm.of_eq e9))
      have ha : ((Value.slice A77 (mkN ((mdK ds vs.length).el) ((mdK ds vs.length).mo)) cap78) :: vs).length = vs.length + 1 := rfl
      have hb : ((Value.slice A96 (mkN ((mdK ds vs.length).el) ((mdK ds vs.length).mo)) cap97) :: us).length = us.length + 1 := rfl
      refine ⟨_, ⟨((Value.slice A77 (mkN ((mdK ds vs.length).el) ((mdK ds vs.length).mo)) cap78) :: vs), ((Value.slice A96 (mkN ((mdK ds vs.length).el) ((mdK ds vs.length).mo)) cap97) :: us), v89, v108, rfl, by omega, by omega, (A113.slot (A113.slot (A113.slot (A113.slot (A113.slot (A113.slot (A113.slot (A113.slot (A113.slot (A113.slot (A113.slot (A113.slot (A113.slot (A113.slot (A113.slot (A113.slot (A113.slot (A113.slot (A113.slot A113.nil (v := v108) (by kernel_rfl) rfl) (v := v89) (by kernel_rfl) rfl) (v := .int .i64 ((vs.length : Int) + 1)) (by kernel_rfl) (congrArg (Value.int .i64) (by rw [ha]; omega))) (v := .bool (decide ((ds.length : Int) > 34))) (by kernel_rfl) rfl) (v := .bool (decide ((ds.length : Int) > 34))) (by kernel_rfl) rfl) (v := .int .i64 (ds.length : Int)) (by kernel_rfl) rfl) (v := .slice A ds.length cap) (by kernel_rfl) rfl) (v := .bool false) (by kernel_rfl) rfl) (v := .bool false) (by kernel_rfl) rfl) (v := undef) (by kernel_rfl) rfl) (v := undef) (by kernel_rfl) rfl) (v := undef) (by kernel_rfl) rfl) (v := .bool (decide ((ds.length : Int) > 4))) (by kernel_rfl) rfl) (v := .bool (decide ((ds.length : Int) > 4))) (by kernel_rfl) rfl) (v := .int .i64 (ds.length : Int)) (by kernel_rfl) rfl) (v := .slice A ds.length cap) (by kernel_rfl) rfl) (v := .bool false) (by kernel_rfl) rfl) (v := .bool true) (by kernel_rfl) rfl) (v := .slice A ds.length cap) (by kernel_rfl) rfl), (St.rerow 1 (St.rerow 0 SP rfl ⟨rfl, rfl⟩) rfl ⟨rfl, rfl⟩).sub sub_nil sub_all⟩, ?_⟩
      omega
  · have p114 := of_decide_eq_false h31
    refine wp_exit ?_
    refine x_then ?_
    refine x_then ?_
    refine x_hit ?_
    refine n_then ?_
    refine wp_seq ?_
    refine any_world S25 (fun w1 S1 => ?_)
    obtain ⟨B1, b1, rfl⟩ := row_slice (v := v) (m := vs.length) (S1.row 0 rfl)
    obtain ⟨B2, b2, rfl⟩ := row_slice (v := u) (m := us.length) (S1.row 1 rfl)
    have hV1 := row_vreads (S1.row 0 rfl)
    have hV2 := row_vreads (S1.row 1 rfl)
    obtain ⟨ms, hl1, hx1, hm1⟩ := mk_reads (w := w1) (base := w0.heap.size) (e := 36) (md_bd hr) vs (fun i hi => S1.rows (⟨vI vs i, 36, 1, mdN (mdK ds i), rowF (mdW (mdK ds i))⟩ : Rw) (List.mem_cons_of_mem _ (List.mem_cons_of_mem _ (List.mem_append_left _ (mkM_mem hi)))))
    have hR1 : MtReads w1 B1 ms := ⟨by rw [hx1]; exact hV1, fun i hi => (hm1 i (by omega)).1⟩
    obtain ⟨ns, hl2, hx2, hm2⟩ := mk_reads (w := w1) (base := w0.heap.size) (e := 36) (md_bd hr) us (fun i hi => S1.rows (⟨vI us i, 36, 1, mdN (mdK ds i), rowF (mdW (mdK ds i))⟩ : Rw) (List.mem_cons_of_mem _ (List.mem_cons_of_mem _ (List.mem_append_right _ (mkM_mem hi)))))
    have hR2 : MtReads w1 B2 ns := ⟨by rw [hx2]; exact hV2, fun i hi => (hm2 i (by omega)).1⟩
    obtain ⟨eZ, eE, eW⟩ := av_same (ms := ns) (ns := ms) (by omega) (fun i hi => ⟨(hm2 i (by omega)).2.1.trans (hm1 i (by omega)).2.1.symm, (hm2 i (by omega)).2.2.trans (hm1 i (by omega)).2.2.symm⟩)
    have hlm : ms.length = ds.length := by omega
    have hwl1 := avW_le hR1
    have hwl2 := avW_le hR2
    have SB := St.start w1
    refine wp_region_lit ?_
    refine s_one (.slice B2 us.length b2) A30 SB (g_move (by kernel_rfl)) rfl (fun ac A115 => ?_)
    refine s_callRF (fs := #[]) (cp := #[]) (r := [(0, .slice B2 us.length b2)]) (fun v => .tuple #[.agg #[.int .i64 (avE ns), v], .int .i64 (avZ ns)]) #[.slice B2 us.length b2] A115 SB (Averaged_n B2 us.length b2 ns _ hl2 (hR2.kept SB.kp) (by omega)) Try.call28 (by kernel_rfl) (by kernel_rfl) (by kernel_rfl) rfl (fun v119 ac wc A116 S117 => ?_)
    obtain ⟨hl120, A121, cap122, rfl, hc123, hr124⟩ := rowF_reads (v := v119) (m := (avW ns).length) (l := avW ns) (S117.row 0 rfl)
    refine s_one (.tuple #[.agg #[.int .i64 (avE ns), .slice A121 ((avW ns).length) cap122], .int .i64 (avZ ns)]) A116 S117 (g_move (by kernel_rfl)) rfl (fun ac A125 => ?_)
    refine s_one (.agg #[.int .i64 (avE ns), .slice A121 ((avW ns).length) cap122]) A125 S117 (g_extract (u := .tuple #[.agg #[.int .i64 (avE ns), .slice A121 ((avW ns).length) cap122], .int .i64 (avZ ns)]) (by kernel_rfl) (fun _ => by kernel_rfl)) rfl (fun ac A126 => ?_)
    refine s_one (.int .i64 (avZ ns)) A126 S117 (g_extract (u := .tuple #[.agg #[.int .i64 (avE ns), .slice A121 ((avW ns).length) cap122], .int .i64 (avZ ns)]) (by kernel_rfl) (fun _ => by kernel_rfl)) rfl (fun ac A127 => ?_)
    refine s_alloc (#[.int .i64 0, .slice none 0 0]) A127 S117 (by kernel_rfl) rfl (fun g130 ac wc A128 S129 => ?_)
    refine s_store (g := g130) (off := 0) (v := .agg #[.int .i64 (avE ns), .slice A121 ((avW ns).length) cap122]) 0 (#[.int .i64 (avE ns), .slice A121 ((avW ns).length) cap122]) A128 S129 (by kernel_rfl) (by kernel_rfl) rfl (by kernel_rfl) (fun wc S132 => ?_)
    refine s_one (.int .i64 (avZ ns)) A128 S132 (g_assign (by kernel_rfl)) rfl (fun ac A134 => ?_)
    refine wpList_nil ?_
    refine n_then ?_
    refine wp_seq ?_
    refine wp_region_lit ?_
    refine s_one (.slice B1 vs.length b1) A134 S132 (g_move (by kernel_rfl)) rfl (fun ac A135 => ?_)
    refine s_callRF (fs := #[]) (cp := #[]) (r := [(0, .slice B1 vs.length b1)]) (fun v => .tuple #[.agg #[.int .i64 (avE ms), v], .int .i64 (avZ ms)]) #[.slice B1 vs.length b1] A135 S132 (refAveraged_n B1 vs.length b1 ms _ hl1 (hR1.kept S132.kp) (by omega)) Try.call29 (by kernel_rfl) (by kernel_rfl) (by kernel_rfl) rfl (fun v139 ac wc A136 S137 => ?_)
    obtain ⟨hl140, A141, cap142, rfl, hc143, hr144⟩ := rowF_reads (v := v139) (m := (avW ms).length) (l := avW ms) (S137.row 0 rfl)
    refine s_one (.tuple #[.agg #[.int .i64 (avE ms), .slice A141 ((avW ms).length) cap142], .int .i64 (avZ ms)]) A136 S137 (g_move (by kernel_rfl)) rfl (fun ac A145 => ?_)
    refine s_one (.agg #[.int .i64 (avE ms), .slice A141 ((avW ms).length) cap142]) A145 S137 (g_extract (u := .tuple #[.agg #[.int .i64 (avE ms), .slice A141 ((avW ms).length) cap142], .int .i64 (avZ ms)]) (by kernel_rfl) (fun _ => by kernel_rfl)) rfl (fun ac A146 => ?_)
    refine s_one (.int .i64 (avZ ms)) A146 S137 (g_extract (u := .tuple #[.agg #[.int .i64 (avE ms), .slice A141 ((avW ms).length) cap142], .int .i64 (avZ ms)]) (by kernel_rfl) (fun _ => by kernel_rfl)) rfl (fun ac A147 => ?_)
    refine s_alloc (#[.int .i64 0, .slice none 0 0]) A147 S137 (by kernel_rfl) rfl (fun g150 ac wc A148 S149 => ?_)
    refine s_store (g := g150) (off := 0) (v := .agg #[.int .i64 (avE ms), .slice A141 ((avW ms).length) cap142]) 0 (#[.int .i64 (avE ms), .slice A141 ((avW ms).length) cap142]) A148 S149 (by kernel_rfl) (by kernel_rfl) rfl (by kernel_rfl) (fun wc S152 => ?_)
    refine s_one (.int .i64 (avZ ms)) A148 S152 (g_assign (by kernel_rfl)) rfl (fun ac A154 => ?_)
    refine wpList_nil ?_
    refine n_then ?_
    refine wp_seq ?_
    refine wp_seq ?_
    refine wp_region_lit ?_
    refine s_one (.agg #[.int .i64 (avE ns), .slice A121 ((avW ns).length) cap122]) A154 S152 (g_load (g := g130) (off := 0) 1 (by kernel_rfl) rfl (by kernel_rfl)) rfl (fun ac A155 => ?_)
    refine s_one (.int .i64 (avZ ns)) A155 S152 (g_move (by kernel_rfl)) rfl (fun ac A156 => ?_)
    refine s_one (.agg #[.int .i64 (avE ms), .slice A141 ((avW ms).length) cap142]) A156 S152 (g_load (g := g150) (off := 0) 0 (by kernel_rfl) rfl (by kernel_rfl)) rfl (fun ac A157 => ?_)
    refine s_one (.int .i64 (avZ ms)) A157 S152 (g_move (by kernel_rfl)) rfl (fun ac A158 => ?_)
    refine s_call (fs := #[]) (cp := #[]) (r := [(0, .agg #[.int .i64 (avE ns), .slice A121 ((avW ns).length) cap122]), (0, .int .i64 (avZ ns)), (0, .agg #[.int .i64 (avE ms), .slice A141 ((avW ms).length) cap142]), (0, .int .i64 (avZ ms))]) #[.agg #[.int .i64 (avE ns), .slice A121 ((avW ns).length) cap122], .int .i64 (avZ ns), .agg #[.int .i64 (avE ms), .slice A141 ((avW ms).length) cap142], .int .i64 (avZ ms)] (.bool true) A158 S152 (same_eq (avZ ns) (avZ ms) eZ (avE ns) (avE ms) eE (avW ns) (avW ms) eW A121 A141 cap122 cap142 ((avW ns).length) ((avW ms).length) _ hl120 hl140 (len_bd (ys := avW ms) (m := (avW ms).length) eW hl120 hl140 (by omega)) (row_fr (S152.row 1 rfl)) (row_fr (S152.row 0 rfl))) Try.call26 (by kernel_rfl) (by kernel_rfl) (by kernel_rfl) rfl (fun ac wc A159 S160 => ?_)
    refine s_one (.bool false) A159 S160 (g_un (u := .bool true) (by kernel_rfl) (fun _ => by kernel_rfl)) rfl (fun ac A162 => ?_)
    refine wpList_nil ?_
    refine n_then ?_
    refine c_f (b := false) A162 (by kernel_rfl) rfl ?_
    refine wp_skip ?_
    refine n_then ?_
    refine wp_seq ?_
    refine wp_seq ?_
    refine c_cut (fun ac wc => Fr 97 ac [(80, .bool ((decide ((ds.length : Int) = 0)) || (decide ((mxC ((mtK ms 0).el) ((mtK ms 0).xs)).2 ≠ 0)))), (0, .slice A ds.length cap), (12, .bool true), (13, .bool false), (14, .slice A ds.length cap), (15, .int .i64 (ds.length : Int)), (16, .bool (decide ((ds.length : Int) > 4))), (17, .bool (decide ((ds.length : Int) > 4))), (18, undef), (19, undef), (20, undef), (21, .bool false), (22, .bool false), (23, .slice A ds.length cap), (24, .int .i64 (ds.length : Int)), (25, .bool (decide ((ds.length : Int) > 34))), (26, .bool (decide ((ds.length : Int) > 34))), (5, .int .i64 (vs.length : Int)), (3, .slice B1 vs.length b1), (4, .slice B2 us.length b2), (27, .int .i64 (vs.length : Int)), (28, .slice A ds.length cap), (29, .int .i64 (ds.length : Int)), (30, .bool (decide ((vs.length : Int) < (ds.length : Int)))), (56, .slice B2 us.length b2), (57, .tuple #[.agg #[.int .i64 (avE ns), .slice A121 ((avW ns).length) cap122], .int .i64 (avZ ns)]), (55, .tuple #[.agg #[.int .i64 (avE ns), .slice A121 ((avW ns).length) cap122], .int .i64 (avZ ns)]), (58, .agg #[.int .i64 (avE ns), .slice A121 ((avW ns).length) cap122]), (59, .int .i64 (avZ ns)), (6, .pointer (some ⟨g130, 0, none⟩)), (7, .int .i64 (avZ ns)), (61, .slice B1 vs.length b1), (62, .tuple #[.agg #[.int .i64 (avE ms), .slice A141 ((avW ms).length) cap142], .int .i64 (avZ ms)]), (60, .tuple #[.agg #[.int .i64 (avE ms), .slice A141 ((avW ms).length) cap142], .int .i64 (avZ ms)]), (63, .agg #[.int .i64 (avE ms), .slice A141 ((avW ms).length) cap142]), (64, .int .i64 (avZ ms)), (8, .pointer (some ⟨g150, 0, none⟩)), (9, .int .i64 (avZ ms)), (65, .agg #[.int .i64 (avE ns), .slice A121 ((avW ns).length) cap122]), (66, .int .i64 (avZ ns)), (67, .agg #[.int .i64 (avE ms), .slice A141 ((avW ms).length) cap142]), (68, .int .i64 (avZ ms)), (69, .bool true), (70, .bool false)] ∧ St w1 [⟨g150, 30, #[.int .i64 (avE ms), .slice A141 ((avW ms).length) cap142], true⟩, ⟨g130, 30, #[.int .i64 (avE ns), .slice A121 ((avW ns).length) cap122], true⟩] [⟨.slice A141 ((avW ms).length) cap142, 36, 1, ((avW ms).length), (rowF (avW ms))⟩, ⟨.slice A121 ((avW ns).length) cap122, 36, 1, ((avW ns).length), (rowF (avW ns))⟩] wc) ?_ ?_
    · refine wp_region_lit ?_
      refine s_one (.slice A ds.length cap) A162 S160 (g_move (by kernel_rfl)) rfl (fun ac A163 => ?_)
      refine s_one (.int .i64 (ds.length : Int)) A163 S160 (g_built (r := [(0, .slice A ds.length cap)]) (by kernel_rfl) (fun _ _ _ => by kernel_rfl)) rfl (fun ac A164 => ?_)
      refine s_one (.bool (decide ((ds.length : Int) = 0))) A164 S160 (g_bin (u := .int .i64 (ds.length : Int)) (k := .int .i64 0) (by kernel_rfl) (by kernel_rfl) (fun _ => by kernel_rfl) b_eql) rfl (fun ac A165 => ?_)
      refine s_one (.bool (decide ((ds.length : Int) = 0))) A165 S160 (g_move (by kernel_rfl)) rfl (fun ac A166 => ?_)
      refine by_bool (decide ((ds.length : Int) = 0)) (fun h167 => ?_) (fun h167 => ?_)
      · have p168 := of_decide_eq_true h167
        refine s_not (dj := 74) (b := (decide ((ds.length : Int) = 0))) A166 (by kernel_rfl) (by kernel_rfl) h167 rfl (fun ac A169 => ?_)
        refine s_not (dj := 74) (b := (decide ((ds.length : Int) = 0))) A169 (by kernel_rfl) (by kernel_rfl) h167 rfl (fun ac A170 => ?_)
        refine s_not (dj := 74) (b := (decide ((ds.length : Int) = 0))) A170 (by kernel_rfl) (by kernel_rfl) h167 rfl (fun ac A171 => ?_)
        refine s_not (dj := 74) (b := (decide ((ds.length : Int) = 0))) A171 (by kernel_rfl) (by kernel_rfl) h167 rfl (fun ac A172 => ?_)
        refine s_not (dj := 74) (b := (decide ((ds.length : Int) = 0))) A172 (by kernel_rfl) (by kernel_rfl) h167 rfl (fun ac A173 => ?_)
        refine s_one (.bool true) A173 S160 (g_pick_t (b := (decide ((ds.length : Int) = 0))) (by kernel_rfl) h167 (by kernel_rfl)) rfl (fun ac A174 => ?_)
        refine wpList_nil ?_
        refine n_then ?_
        exact ⟨(A174.slot (A174.slot (A174.slot (A174.slot (A174.slot (A174.slot (A174.slot (A174.slot (A174.slot (A174.slot (A174.slot (A174.slot (A174.slot (A174.slot (A174.slot (A174.slot (A174.slot (A174.slot (A174.slot (A174.slot (A174.slot (A174.slot (A174.slot (A174.slot (A174.slot (A174.slot (A174.slot (A174.slot (A174.slot (A174.slot (A174.slot (A174.slot (A174.slot (A174.slot (A174.slot (A174.slot (A174.slot (A174.slot (A174.slot (A174.slot (A174.slot (A174.slot (A174.slot (A174.slot A174.nil (v := .bool false) (by kernel_rfl) rfl) (v := .bool true) (by kernel_rfl) rfl) (v := .int .i64 (avZ ms)) (by kernel_rfl) rfl) (v := .agg #[.int .i64 (avE ms), .slice A141 ((avW ms).length) cap142]) (by kernel_rfl) rfl) (v := .int .i64 (avZ ns)) (by kernel_rfl) rfl) (v := .agg #[.int .i64 (avE ns), .slice A121 ((avW ns).length) cap122]) (by kernel_rfl) rfl) (v := .int .i64 (avZ ms)) (by kernel_rfl) rfl) (v := .pointer (some ⟨g150, 0, none⟩)) (by kernel_rfl) rfl) (v := .int .i64 (avZ ms)) (by kernel_rfl) rfl) (v := .agg #[.int .i64 (avE ms), .slice A141 ((avW ms).length) cap142]) (by kernel_rfl) rfl) (v := .tuple #[.agg #[.int .i64 (avE ms), .slice A141 ((avW ms).length) cap142], .int .i64 (avZ ms)]) (by kernel_rfl) rfl) (v := .tuple #[.agg #[.int .i64 (avE ms), .slice A141 ((avW ms).length) cap142], .int .i64 (avZ ms)]) (by kernel_rfl) rfl) (v := .slice B1 vs.length b1) (by kernel_rfl) rfl) (v := .int .i64 (avZ ns)) (by kernel_rfl) rfl) (v := .pointer (some ⟨g130, 0, none⟩)) (by kernel_rfl) rfl) (v := .int .i64 (avZ ns)) (by kernel_rfl) rfl) (v := .agg #[.int .i64 (avE ns), .slice A121 ((avW ns).length) cap122]) (by kernel_rfl) rfl) (v := .tuple #[.agg #[.int .i64 (avE ns), .slice A121 ((avW ns).length) cap122], .int .i64 (avZ ns)]) (by kernel_rfl) rfl) (v := .tuple #[.agg #[.int .i64 (avE ns), .slice A121 ((avW ns).length) cap122], .int .i64 (avZ ns)]) (by kernel_rfl) rfl) (v := .slice B2 us.length b2) (by kernel_rfl) rfl) (v := .bool (decide ((vs.length : Int) < (ds.length : Int)))) (by kernel_rfl) rfl) (v := .int .i64 (ds.length : Int)) (by kernel_rfl) rfl) (v := .slice A ds.length cap) (by kernel_rfl) rfl) (v := .int .i64 (vs.length : Int)) (by kernel_rfl) rfl) (v := .slice B2 us.length b2) (by kernel_rfl) rfl) (v := .slice B1 vs.length b1) (by kernel_rfl) rfl) (v := .int .i64 (vs.length : Int)) (by kernel_rfl) rfl) (v := .bool (decide ((ds.length : Int) > 34))) (by kernel_rfl) rfl) (v := .bool (decide ((ds.length : Int) > 34))) (by kernel_rfl) rfl) (v := .int .i64 (ds.length : Int)) (by kernel_rfl) rfl) (v := .slice A ds.length cap) (by kernel_rfl) rfl) (v := .bool false) (by kernel_rfl) rfl) (v := .bool false) (by kernel_rfl) rfl) (v := undef) (by kernel_rfl) rfl) (v := undef) (by kernel_rfl) rfl) (v := undef) (by kernel_rfl) rfl) (v := .bool (decide ((ds.length : Int) > 4))) (by kernel_rfl) rfl) (v := .bool (decide ((ds.length : Int) > 4))) (by kernel_rfl) rfl) (v := .int .i64 (ds.length : Int)) (by kernel_rfl) rfl) (v := .slice A ds.length cap) (by kernel_rfl) rfl) (v := .bool false) (by kernel_rfl) rfl) (v := .bool true) (by kernel_rfl) rfl) (v := .slice A ds.length cap) (by kernel_rfl) rfl) (v := .bool true) (by kernel_rfl) (congrArg Value.bool (b_ot1 h167).symm)), S160.sub sub_all sub_all⟩
      · have p175 := of_decide_eq_false h167
        refine s_want (dj := 74) (b := (decide ((ds.length : Int) = 0))) A166 (by kernel_rfl) (by kernel_rfl) h167 ?_
        refine s_one (.slice B1 vs.length b1) A166 S160 (g_move (by kernel_rfl)) rfl (fun ac A176 => ?_)
        refine s_want (dj := 74) (b := (decide ((ds.length : Int) = 0))) A176 (by kernel_rfl) (by kernel_rfl) h167 ?_
        obtain ⟨ad177, he178, hx179⟩ := mt_at hR1 (k := 0) (by omega)
        have hq180 := (hR1.2 0 (by omega)).few
        have hq181 := (hR1.2 0 (by omega)).cap
        have hq182 := (hR1.2 0 (by omega)).len
        refine s_one (.pointer (some (ad177.add (0 * 2)))) A176 S160 (g_index (u := .slice B1 vs.length b1) (k := .int .i64 0) (by kernel_rfl) (by kernel_rfl) (ix_xsB (e := 30) (size := 2) (bytes := 32) 0 (by kernel_rfl) (by omega) (by omega) he178)) rfl (fun ac A183 => ?_)
        refine s_want (dj := 74) (b := (decide ((ds.length : Int) = 0))) A183 (by kernel_rfl) (by kernel_rfl) h167 ?_
        refine s_one (.agg #[.int .i64 ((mtK ms 0).el), .slice (mtK ms 0).B ((mtK ms 0).n) (mtK ms 0).c]) A183 S160 (g_loadXV (p := ad177.add (0 * 2)) (X := mtC (mtK ms 0)) (by kernel_rfl) hx179 (by kernel_rfl) rfl) rfl (fun ac A184 => ?_)
        refine s_want (dj := 74) (b := (decide ((ds.length : Int) = 0))) A184 (by kernel_rfl) (by kernel_rfl) h167 ?_
        refine s_call (fs := #[]) (cp := #[]) (r := [(0, .agg #[.int .i64 ((mtK ms 0).el), .slice (mtK ms 0).B ((mtK ms 0).n) (mtK ms 0).c])]) #[.agg #[.int .i64 ((mtK ms 0).el), .slice (mtK ms 0).B ((mtK ms 0).n) (mtK ms 0).c]] (.int .i64 ((mxC ((mtK ms 0).el) ((mtK ms 0).xs)).2)) A184 S160 (err_s ((mtK ms 0).el) (mtK ms 0).B ((mtK ms 0).n) (mtK ms 0).c ((mtK ms 0).xs) _ (hR1.2 0 (by omega)).len ((hR1.2 0 (by omega)).rd.kept S160.kp) (by omega)) Try.call23 (by kernel_rfl) (by kernel_rfl) (by kernel_rfl) rfl (fun ac wc A185 S186 => ?_)
        refine s_want (dj := 74) (b := (decide ((ds.length : Int) = 0))) A185 (by kernel_rfl) (by kernel_rfl) h167 ?_
        refine s_one (.bool (decide ((mxC ((mtK ms 0).el) ((mtK ms 0).xs)).2 ≠ 0))) A185 S186 (g_bin (u := .int .i64 ((mxC ((mtK ms 0).el) ((mtK ms 0).xs)).2)) (k := .int .i64 0) (by kernel_rfl) (by kernel_rfl) (fun _ => by kernel_rfl) b_neq) rfl (fun ac A188 => ?_)
        refine s_one (.bool (decide ((mxC ((mtK ms 0).el) ((mtK ms 0).xs)).2 ≠ 0))) A188 S186 (g_pick_f (b := (decide ((ds.length : Int) = 0))) (by kernel_rfl) h167 (by kernel_rfl)) rfl (fun ac A189 => ?_)
        refine wpList_nil ?_
        refine n_then ?_
        exact ⟨(A189.slot (A189.slot (A189.slot (A189.slot (A189.slot (A189.slot (A189.slot (A189.slot (A189.slot (A189.slot (A189.slot (A189.slot (A189.slot (A189.slot (A189.slot (A189.slot (A189.slot (A189.slot (A189.slot (A189.slot (A189.slot (A189.slot (A189.slot (A189.slot (A189.slot (A189.slot (A189.slot (A189.slot (A189.slot (A189.slot (A189.slot (A189.slot (A189.slot (A189.slot (A189.slot (A189.slot (A189.slot (A189.slot (A189.slot (A189.slot (A189.slot (A189.slot (A189.slot (A189.slot A189.nil (v := .bool false) (by kernel_rfl) rfl) (v := .bool true) (by kernel_rfl) rfl) (v := .int .i64 (avZ ms)) (by kernel_rfl) rfl) (v := .agg #[.int .i64 (avE ms), .slice A141 ((avW ms).length) cap142]) (by kernel_rfl) rfl) (v := .int .i64 (avZ ns)) (by kernel_rfl) rfl) (v := .agg #[.int .i64 (avE ns), .slice A121 ((avW ns).length) cap122]) (by kernel_rfl) rfl) (v := .int .i64 (avZ ms)) (by kernel_rfl) rfl) (v := .pointer (some ⟨g150, 0, none⟩)) (by kernel_rfl) rfl) (v := .int .i64 (avZ ms)) (by kernel_rfl) rfl) (v := .agg #[.int .i64 (avE ms), .slice A141 ((avW ms).length) cap142]) (by kernel_rfl) rfl) (v := .tuple #[.agg #[.int .i64 (avE ms), .slice A141 ((avW ms).length) cap142], .int .i64 (avZ ms)]) (by kernel_rfl) rfl) (v := .tuple #[.agg #[.int .i64 (avE ms), .slice A141 ((avW ms).length) cap142], .int .i64 (avZ ms)]) (by kernel_rfl) rfl) (v := .slice B1 vs.length b1) (by kernel_rfl) rfl) (v := .int .i64 (avZ ns)) (by kernel_rfl) rfl) (v := .pointer (some ⟨g130, 0, none⟩)) (by kernel_rfl) rfl) (v := .int .i64 (avZ ns)) (by kernel_rfl) rfl) (v := .agg #[.int .i64 (avE ns), .slice A121 ((avW ns).length) cap122]) (by kernel_rfl) rfl) (v := .tuple #[.agg #[.int .i64 (avE ns), .slice A121 ((avW ns).length) cap122], .int .i64 (avZ ns)]) (by kernel_rfl) rfl) (v := .tuple #[.agg #[.int .i64 (avE ns), .slice A121 ((avW ns).length) cap122], .int .i64 (avZ ns)]) (by kernel_rfl) rfl) (v := .slice B2 us.length b2) (by kernel_rfl) rfl) (v := .bool (decide ((vs.length : Int) < (ds.length : Int)))) (by kernel_rfl) rfl) (v := .int .i64 (ds.length : Int)) (by kernel_rfl) rfl) (v := .slice A ds.length cap) (by kernel_rfl) rfl) (v := .int .i64 (vs.length : Int)) (by kernel_rfl) rfl) (v := .slice B2 us.length b2) (by kernel_rfl) rfl) (v := .slice B1 vs.length b1) (by kernel_rfl) rfl) (v := .int .i64 (vs.length : Int)) (by kernel_rfl) rfl) (v := .bool (decide ((ds.length : Int) > 34))) (by kernel_rfl) rfl) (v := .bool (decide ((ds.length : Int) > 34))) (by kernel_rfl) rfl) (v := .int .i64 (ds.length : Int)) (by kernel_rfl) rfl) (v := .slice A ds.length cap) (by kernel_rfl) rfl) (v := .bool false) (by kernel_rfl) rfl) (v := .bool false) (by kernel_rfl) rfl) (v := undef) (by kernel_rfl) rfl) (v := undef) (by kernel_rfl) rfl) (v := undef) (by kernel_rfl) rfl) (v := .bool (decide ((ds.length : Int) > 4))) (by kernel_rfl) rfl) (v := .bool (decide ((ds.length : Int) > 4))) (by kernel_rfl) rfl) (v := .int .i64 (ds.length : Int)) (by kernel_rfl) rfl) (v := .slice A ds.length cap) (by kernel_rfl) rfl) (v := .bool false) (by kernel_rfl) rfl) (v := .bool true) (by kernel_rfl) rfl) (v := .slice A ds.length cap) (by kernel_rfl) rfl) (v := .bool (decide ((mxC ((mtK ms 0).el) ((mtK ms 0).xs)).2 ≠ 0))) (by kernel_rfl) (congrArg Value.bool (b_or_f h167 (Eq.refl (decide ((mxC ((mtK ms 0).el) ((mtK ms 0).xs)).2 ≠ 0)))).symm)), S186.sub sub_all sub_all⟩
    · rintro ac wc ⟨A190, S191⟩
      refine n_then ?_
      refine c_ifb (b := ((decide ((ds.length : Int) = 0)) || (decide ((mxC ((mtK ms 0).el) ((mtK ms 0).xs)).2 ≠ 0)))) A190 (by kernel_rfl) (fun h192 => ?_) (fun h192 => ?_)
      · refine wp_seq ?_
        refine wp_region_lit ?_
        refine s_one (.bool true) A190 S191 (g_assign (by kernel_rfl)) rfl (fun ac A193 => ?_)
        refine wpList_nil ?_
        refine n_then ?_
        refine wp_ret ?_
        refine r_then ?_
        refine fin1 (.bool true) Try.results5 A193 S191 (rv_tmp (by kernel_rfl)) ⟨?_, kp_trans S1.kp S191.kp⟩
        rfl
      · have h194 := (Bool.or_eq_false_iff.1 h192).1
        have p195 := of_decide_eq_false h194
        have h196 := (Bool.or_eq_false_iff.1 h192).2
        have p197 := of_decide_eq_false h196
        have hz : (mxC (mtK ms 0).el (mtK ms 0).xs).2 = 0 := Decidable.of_not_not p197
        refine wp_skip ?_
        refine n_then ?_
        refine wp_seq ?_
        refine wp_region_lit ?_
        refine s_one (.slice B1 vs.length b1) A190 S191 (g_move (by kernel_rfl)) rfl (fun ac A198 => ?_)
        obtain ⟨ad199, he200, hx201⟩ := mt_at hR1 (k := 0) (by omega)
        have hq202 := (hR1.2 0 (by omega)).few
        have hq203 := (hR1.2 0 (by omega)).cap
        have hq204 := (hR1.2 0 (by omega)).len
        refine s_one (.pointer (some (ad199.add (0 * 2)))) A198 S191 (g_index (u := .slice B1 vs.length b1) (k := .int .i64 0) (by kernel_rfl) (by kernel_rfl) (ix_xsB (e := 30) (size := 2) (bytes := 32) 0 (by kernel_rfl) (by omega) (by omega) he200)) rfl (fun ac A205 => ?_)
        refine s_one (.agg #[.int .i64 ((mtK ms 0).el), .slice (mtK ms 0).B ((mtK ms 0).n) (mtK ms 0).c]) A205 S191 (g_loadXV (p := ad199.add (0 * 2)) (X := mtC (mtK ms 0)) (by kernel_rfl) hx201 (by kernel_rfl) rfl) rfl (fun ac A206 => ?_)
        refine s_callRF (fs := #[]) (cp := #[]) (r := [(0, .agg #[.int .i64 ((mtK ms 0).el), .slice (mtK ms 0).B ((mtK ms 0).n) (mtK ms 0).c])]) (fun v => .agg #[.int .i64 ((mtK ms 0).el), v]) #[.agg #[.int .i64 ((mtK ms 0).el), .slice (mtK ms 0).B ((mtK ms 0).n) (mtK ms 0).c]] A206 S191 (CopyMatrix_s ((mtK ms 0).el) (mtK ms 0).B ((mtK ms 0).n) (mtK ms 0).c ((mtK ms 0).xs) _ (hR1.2 0 (by omega)).len ((hR1.2 0 (by omega)).rd.kept S191.kp) (by omega)) Try.call15 (by kernel_rfl) (by kernel_rfl) (by kernel_rfl) rfl (fun v210 ac wc A207 S208 => ?_)
        obtain ⟨hl211, A212, cap213, rfl, hc214, hr215⟩ := rowF_reads (v := v210) (m := ((mtK ms 0).n)) (l := (mtK ms 0).xs) (S208.row 0 rfl)
        refine s_bs (e := 30) (r := [(0, .agg #[.int .i64 ((mtK ms 0).el), .slice A212 ((mtK ms 0).n) cap213])]) (#[.int .i64 ((mtK ms 0).el), .slice A212 ((mtK ms 0).n) cap213]) A207 S208 (by kernel_rfl) (by kernel_rfl) rfl (fun g218 ac wc A216 S217 => ?_)
        refine s_callRF (fs := #[]) (cp := #[]) (r := [(0, .slice (some ⟨g218, 0, none⟩) 1 1)]) (fun v => .tuple #[.agg #[.int .i64 (avE [(⟨(mtK ms 0).el, A212, ((mtK ms 0).n), cap213, (mtK ms 0).xs⟩ : Mt)]), v], .int .i64 (avZ [(⟨(mtK ms 0).el, A212, ((mtK ms 0).n), cap213, (mtK ms 0).xs⟩ : Mt)])]) #[.slice (some ⟨g218, 0, none⟩) 1 1] A216 S217 (Averaged_n (some ⟨g218, 0, none⟩) 1 1 [(⟨(mtK ms 0).el, A212, ((mtK ms 0).n), cap213, (mtK ms 0).xs⟩ : Mt)] _ rfl (mt_one (S217.get 0 rfl) ⟨hl211, by show (_ : Nat) ≤ _; omega, (row_fr (S217.row 0 rfl)), by show (_ : Nat) ≤ _; omega, (hR1.2 0 (by omega)).lo, (hR1.2 0 (by omega)).hi⟩) (by simp)) Try.call28 (by kernel_rfl) (by kernel_rfl) (by kernel_rfl) rfl (fun v222 ac wc A219 S220 => ?_)
        obtain ⟨hl223, A224, cap225, rfl, hc226, hr227⟩ := rowF_reads (v := v222) (m := (avW [(⟨(mtK ms 0).el, A212, ((mtK ms 0).n), cap213, (mtK ms 0).xs⟩ : Mt)]).length) (l := avW [(⟨(mtK ms 0).el, A212, ((mtK ms 0).n), cap213, (mtK ms 0).xs⟩ : Mt)]) (S220.row 0 rfl)
        refine s_one (.tuple #[.agg #[.int .i64 (avE [(⟨(mtK ms 0).el, A212, ((mtK ms 0).n), cap213, (mtK ms 0).xs⟩ : Mt)]), .slice A224 ((avW [(⟨(mtK ms 0).el, A212, ((mtK ms 0).n), cap213, (mtK ms 0).xs⟩ : Mt)]).length) cap225], .int .i64 (avZ [(⟨(mtK ms 0).el, A212, ((mtK ms 0).n), cap213, (mtK ms 0).xs⟩ : Mt)])]) A219 S220 (g_move (by kernel_rfl)) rfl (fun ac A228 => ?_)
        refine s_one (.agg #[.int .i64 (avE [(⟨(mtK ms 0).el, A212, ((mtK ms 0).n), cap213, (mtK ms 0).xs⟩ : Mt)]), .slice A224 ((avW [(⟨(mtK ms 0).el, A212, ((mtK ms 0).n), cap213, (mtK ms 0).xs⟩ : Mt)]).length) cap225]) A228 S220 (g_extract (u := .tuple #[.agg #[.int .i64 (avE [(⟨(mtK ms 0).el, A212, ((mtK ms 0).n), cap213, (mtK ms 0).xs⟩ : Mt)]), .slice A224 ((avW [(⟨(mtK ms 0).el, A212, ((mtK ms 0).n), cap213, (mtK ms 0).xs⟩ : Mt)]).length) cap225], .int .i64 (avZ [(⟨(mtK ms 0).el, A212, ((mtK ms 0).n), cap213, (mtK ms 0).xs⟩ : Mt)])]) (by kernel_rfl) (fun _ => by kernel_rfl)) rfl (fun ac A229 => ?_)
        refine s_one (.int .i64 (avZ [(⟨(mtK ms 0).el, A212, ((mtK ms 0).n), cap213, (mtK ms 0).xs⟩ : Mt)])) A229 S220 (g_extract (u := .tuple #[.agg #[.int .i64 (avE [(⟨(mtK ms 0).el, A212, ((mtK ms 0).n), cap213, (mtK ms 0).xs⟩ : Mt)]), .slice A224 ((avW [(⟨(mtK ms 0).el, A212, ((mtK ms 0).n), cap213, (mtK ms 0).xs⟩ : Mt)]).length) cap225], .int .i64 (avZ [(⟨(mtK ms 0).el, A212, ((mtK ms 0).n), cap213, (mtK ms 0).xs⟩ : Mt)])]) (by kernel_rfl) (fun _ => by kernel_rfl)) rfl (fun ac A230 => ?_)
        refine s_alloc (#[.int .i64 0, .slice none 0 0]) A230 S220 (by kernel_rfl) rfl (fun g233 ac wc A231 S232 => ?_)
        refine s_store (g := g233) (off := 0) (v := .agg #[.int .i64 (avE [(⟨(mtK ms 0).el, A212, ((mtK ms 0).n), cap213, (mtK ms 0).xs⟩ : Mt)]), .slice A224 ((avW [(⟨(mtK ms 0).el, A212, ((mtK ms 0).n), cap213, (mtK ms 0).xs⟩ : Mt)]).length) cap225]) 0 (#[.int .i64 (avE [(⟨(mtK ms 0).el, A212, ((mtK ms 0).n), cap213, (mtK ms 0).xs⟩ : Mt)]), .slice A224 ((avW [(⟨(mtK ms 0).el, A212, ((mtK ms 0).n), cap213, (mtK ms 0).xs⟩ : Mt)]).length) cap225]) A231 S232 (by kernel_rfl) (by kernel_rfl) rfl (by kernel_rfl) (fun wc S235 => ?_)
        refine s_one (.int .i64 (avZ [(⟨(mtK ms 0).el, A212, ((mtK ms 0).n), cap213, (mtK ms 0).xs⟩ : Mt)])) A231 S235 (g_assign (by kernel_rfl)) rfl (fun ac A237 => ?_)
        refine wpList_nil ?_
        refine n_then ?_
        refine wp_seq ?_
        refine r_begin (w0 := w1) (by kernel_rfl) (S235.sub sub_all sub_all) (fun wc T238 B239 => ?_)
        have S240 := S235.kept B239
        refine r_take 0 (.agg #[.int .i64 (avE [(⟨(mtK ms 0).el, A212, ((mtK ms 0).n), cap213, (mtK ms 0).xs⟩ : Mt)]), .slice A224 ((avW [(⟨(mtK ms 0).el, A212, ((mtK ms 0).n), cap213, (mtK ms 0).xs⟩ : Mt)]).length) cap225]) A237 T238 (g_load (g := g233) (off := 0) 0 (by kernel_rfl) rfl (by kernel_rfl)) rfl rfl rfl (pf_then pf_body) (by kernel_rfl) (fun ac A241 => ?_)
        refine r_take 1 (.int .i64 (avZ [(⟨(mtK ms 0).el, A212, ((mtK ms 0).n), cap213, (mtK ms 0).xs⟩ : Mt)])) A241 T238 (g_move (by kernel_rfl)) rfl rfl rfl (pf_then pf_body) (by kernel_rfl) (fun ac A242 => ?_)
        refine r_take 2 (.slice B1 vs.length b1) A242 T238 (g_move (by kernel_rfl)) rfl rfl rfl (pf_then pf_body) (by kernel_rfl) (fun ac A243 => ?_)
        obtain ⟨ad244, he245, hx246⟩ := mt_at hR1 (k := 0) (by omega)
        have hq247 := (hR1.2 0 (by omega)).few
        have hq248 := (hR1.2 0 (by omega)).cap
        have hq249 := (hR1.2 0 (by omega)).len
        refine r_take 3 (.pointer (some (ad244.add (0 * 2)))) A243 T238 (g_index (u := .slice B1 vs.length b1) (k := .int .i64 0) (by kernel_rfl) (by kernel_rfl) (ix_xsB (e := 30) (size := 2) (bytes := 32) 0 (by kernel_rfl) (by omega) (by omega) he245)) rfl rfl rfl (pf_then pf_body) (by kernel_rfl) (fun ac A250 => ?_)
        refine r_take 4 (.agg #[.int .i64 ((mtK ms 0).el), .slice (mtK ms 0).B ((mtK ms 0).n) (mtK ms 0).c]) A250 T238 (g_loadXV (p := ad244.add (0 * 2)) (X := mtC (mtK ms 0)) (by kernel_rfl) hx246 (by kernel_rfl) rfl) rfl rfl rfl (pf_then pf_body) (by kernel_rfl) (fun ac A251 => ?_)
        refine r_1 (i := 5) (by kernel_rfl) ?_
        have hfm : (fw (mi ((mtK ms 0).xs))).length = (mtK ms 0).n := (fw_length _).trans ((mi_length _).trans (hR1.2 0 (by omega)).len)
        refine rs_callRF (fs := #[]) (cp := #[]) (r := [(0, .agg #[.int .i64 ((mtK ms 0).el), .slice (mtK ms 0).B ((mtK ms 0).n) (mtK ms 0).c])]) (fun v => .agg #[.int .i64 ((mtK ms 0).el), v]) #[.agg #[.int .i64 ((mtK ms 0).el), .slice (mtK ms 0).B ((mtK ms 0).n) (mtK ms 0).c]] A251 S240 sub_all sub_all (Plain_s ((mtK ms 0).el) (mtK ms 0).B ((mtK ms 0).n) (mtK ms 0).c ((mtK ms 0).xs) _ (hR1.2 0 (by omega)).len ((hR1.2 0 (by omega)).rd.kept S240.kp) (by omega) (right_of (mxC_0 hz).2.2)) Try.call27 rfl rfl (by kernel_rfl) (by kernel_rfl) (by kernel_rfl) rfl (fun v256 ac wc A252 S253 => ?_)
        obtain ⟨hl257, A258, cap259, rfl, hc260, hr261⟩ := rowF_reads (v := v256) (m := ((mtK ms 0).n)) (l := fw (mi ((mtK ms 0).xs))) (S253.row 0 rfl)
        have T255 := S253.sub sub_all (sub_skip sub_all)
        refine r_1 (i := 6) (by kernel_rfl) ?_
        refine rs_call (fs := #[]) (cp := #[]) (r := [(0, .agg #[.int .i64 (avE [(⟨(mtK ms 0).el, A212, ((mtK ms 0).n), cap213, (mtK ms 0).xs⟩ : Mt)]), .slice A224 ((avW [(⟨(mtK ms 0).el, A212, ((mtK ms 0).n), cap213, (mtK ms 0).xs⟩ : Mt)]).length) cap225]), (0, .int .i64 (avZ [(⟨(mtK ms 0).el, A212, ((mtK ms 0).n), cap213, (mtK ms 0).xs⟩ : Mt)])), (0, .agg #[.int .i64 ((mtK ms 0).el), .slice A258 ((mtK ms 0).n) cap259]), (0, .int .i64 0)]) #[.agg #[.int .i64 (avE [(⟨(mtK ms 0).el, A212, ((mtK ms 0).n), cap213, (mtK ms 0).xs⟩ : Mt)]), .slice A224 ((avW [(⟨(mtK ms 0).el, A212, ((mtK ms 0).n), cap213, (mtK ms 0).xs⟩ : Mt)]).length) cap225], .int .i64 (avZ [(⟨(mtK ms 0).el, A212, ((mtK ms 0).n), cap213, (mtK ms 0).xs⟩ : Mt)]), .agg #[.int .i64 ((mtK ms 0).el), .slice A258 ((mtK ms 0).n) cap259], .int .i64 0] (.bool true) A252 S253 sub_all (sub_skip sub_all) (same_eq (avZ [(⟨(mtK ms 0).el, A212, ((mtK ms 0).n), cap213, (mtK ms 0).xs⟩ : Mt)]) 0 ((avZ_one _).trans hz) (avE [(⟨(mtK ms 0).el, A212, ((mtK ms 0).n), cap213, (mtK ms 0).xs⟩ : Mt)]) ((mtK ms 0).el) (avE_one hz) (avW [(⟨(mtK ms 0).el, A212, ((mtK ms 0).n), cap213, (mtK ms 0).xs⟩ : Mt)]) (fw (mi ((mtK ms 0).xs))) (avW_one hz) A224 A258 cap225 cap259 ((avW [(⟨(mtK ms 0).el, A212, ((mtK ms 0).n), cap213, (mtK ms 0).xs⟩ : Mt)]).length) ((mtK ms 0).n) _ hl223 hl257 (len_bd (ys := fw (mi ((mtK ms 0).xs))) (m := ((mtK ms 0).n)) (avW_one hz) hl223 hl257 (by omega)) (row_fr (S253.row 1 rfl)) (row_fr (S253.row 0 rfl))) Try.call26 rfl rfl (by kernel_rfl) (by kernel_rfl) (by kernel_rfl) rfl (fun ac wc A262 S263 => ?_)
        have T265 := S263.sub sub_all (sub_skip sub_all)
        refine r_take 7 (.bool true) A262 T265 (g_assign (by kernel_rfl)) rfl rfl rfl (pf_then pf_body) (by kernel_rfl) (fun ac A266 => ?_)
        refine r_done (by kernel_rfl) ?_
        refine n_then ?_
        refine wp_ret ?_
        refine fin1 (.bool true) Try.results5 A266 S263 (rv_tmp (by kernel_rfl)) ⟨?_, kp_trans S1.kp S263.kp⟩
        rfl

set_option maxRecDepth 100000 in
set_option maxHeartbeats 400000 in
theorem averages_mid (A : Option Addr) (cap : Nat) (ds : List Md) (w0 : World) (_hr : MdReads w0 A ds) (hl : 4 < ds.length) (hl2 : ds.length ≤ 32) :
    Calls Try.prog 5 #[.slice A ds.length cap] w0 fun e w' => e = .returned (.bool true) ∧ Below w0.heap.size w0 w' := by
  have S0 := St.start w0
  refine enter (n := 97) Try.func5 rfl rfl rfl (fun ac A0 => ?_)
  refine wp_seq ?_
  refine wp_region_lit ?_
  refine s_one (.bool false) A0 S0 (g_assign (by kernel_rfl)) rfl (fun ac A1 => ?_)
  refine wpList_nil ?_
  refine n_then ?_
  refine wp_seq ?_
  refine wp_seq ?_
  refine wp_region_lit ?_
  refine s_call (fs := #[]) (cp := #[]) (r := []) #[] (.bool true) A1 S0 (awake_any _) Try.call11 (by kernel_rfl) (by kernel_rfl) (by kernel_rfl) rfl (fun ac wc A2 S3 => ?_)
  refine s_one (.bool false) A2 S3 (g_un (u := .bool true) (by kernel_rfl) (fun _ => by kernel_rfl)) rfl (fun ac A5 => ?_)
  refine wpList_nil ?_
  refine n_then ?_
  refine c_f (b := false) A5 (by kernel_rfl) rfl ?_
  refine wp_skip ?_
  refine n_then ?_
  refine wp_seq ?_
  refine wp_seq ?_
  refine wp_region_lit ?_
  refine s_one (.slice A ds.length cap) A5 S3 (g_move (by kernel_rfl)) rfl (fun ac A6 => ?_)
  refine s_one (.int .i64 (ds.length : Int)) A6 S3 (g_built (r := [(0, .slice A ds.length cap)]) (by kernel_rfl) (fun _ _ _ => by kernel_rfl)) rfl (fun ac A7 => ?_)
  refine s_one (.bool (decide ((ds.length : Int) > 4))) A7 S3 (g_bin (u := .int .i64 (ds.length : Int)) (k := .int .i64 4) (by kernel_rfl) (by kernel_rfl) (fun _ => by kernel_rfl) (fun _ => by kernel_rfl)) rfl (fun ac A8 => ?_)
  refine s_one (.bool (decide ((ds.length : Int) > 4))) A8 S3 (g_move (by kernel_rfl)) rfl (fun ac A9 => ?_)
  refine s_want (dj := 17) (b := (decide ((ds.length : Int) > 4))) A9 (by kernel_rfl) (by kernel_rfl) (decide_eq_true (by omega)) ?_
  refine s_one (.slice A ds.length cap) A9 S3 (g_move (by kernel_rfl)) rfl (fun ac A10 => ?_)
  refine s_want (dj := 17) (b := (decide ((ds.length : Int) > 4))) A10 (by kernel_rfl) (by kernel_rfl) (decide_eq_true (by omega)) ?_
  refine s_one (.int .i64 (ds.length : Int)) A10 S3 (g_built (r := [(0, .slice A ds.length cap)]) (by kernel_rfl) (fun _ _ _ => by kernel_rfl)) rfl (fun ac A11 => ?_)
  refine s_want (dj := 17) (b := (decide ((ds.length : Int) > 4))) A11 (by kernel_rfl) (by kernel_rfl) (decide_eq_true (by omega)) ?_
  refine s_one (.bool (decide ((ds.length : Int) ≤ 32))) A11 S3 (g_bin (u := .int .i64 (ds.length : Int)) (k := .int .i64 32) (by kernel_rfl) (by kernel_rfl) (fun _ => by kernel_rfl) (fun _ => by kernel_rfl)) rfl (fun ac A12 => ?_)
  refine s_one (.bool (decide ((ds.length : Int) ≤ 32))) A12 S3 (g_pick_t (b := (decide ((ds.length : Int) > 4))) (by kernel_rfl) (decide_eq_true (by omega)) (by kernel_rfl)) rfl (fun ac A13 => ?_)
  refine s_one (.bool (decide ((ds.length : Int) ≤ 32))) A13 S3 (g_move (by kernel_rfl)) rfl (fun ac A14 => ?_)
  refine s_not (dj := 22) (b := (decide ((ds.length : Int) ≤ 32))) A14 (by kernel_rfl) (by kernel_rfl) (decide_eq_true (by omega)) rfl (fun ac A15 => ?_)
  refine s_not (dj := 22) (b := (decide ((ds.length : Int) ≤ 32))) A15 (by kernel_rfl) (by kernel_rfl) (decide_eq_true (by omega)) rfl (fun ac A16 => ?_)
  refine s_not (dj := 22) (b := (decide ((ds.length : Int) ≤ 32))) A16 (by kernel_rfl) (by kernel_rfl) (decide_eq_true (by omega)) rfl (fun ac A17 => ?_)
  refine s_one (.bool true) A17 S3 (g_pick_t (b := (decide ((ds.length : Int) ≤ 32))) (by kernel_rfl) (decide_eq_true (by omega)) (by kernel_rfl)) rfl (fun ac A18 => ?_)
  refine wpList_nil ?_
  refine n_then ?_
  refine c_t (b := true) A18 (by kernel_rfl) rfl ?_
  refine wp_seq ?_
  refine wp_region_lit ?_
  refine s_one (.bool true) A18 S3 (g_assign (by kernel_rfl)) rfl (fun ac A19 => ?_)
  refine wpList_nil ?_
  refine n_then ?_
  refine wp_ret ?_
  refine r_then ?_
  refine fin1 (.bool true) Try.results5 A19 S3 (rv_tmp (by kernel_rfl)) ⟨?_, S3.kp⟩
  rfl

set_option maxRecDepth 100000 in
set_option maxHeartbeats 400000 in
theorem averages_big (A : Option Addr) (cap : Nat) (ds : List Md) (w0 : World) (hr : MdReads w0 A ds) (hl : 32 < ds.length) (hl2 : ds.length ≤ 34) :
    Calls Try.prog 5 #[.slice A ds.length cap] w0 fun e w' => e = .returned (.bool true) ∧ Below w0.heap.size w0 w' := by
  have S0 := St.start w0
  refine enter (n := 97) Try.func5 rfl rfl rfl (fun ac A0 => ?_)
  refine wp_seq ?_
  refine wp_region_lit ?_
  refine s_one (.bool false) A0 S0 (g_assign (by kernel_rfl)) rfl (fun ac A1 => ?_)
  refine wpList_nil ?_
  refine n_then ?_
  refine wp_seq ?_
  refine wp_seq ?_
  refine wp_region_lit ?_
  refine s_call (fs := #[]) (cp := #[]) (r := []) #[] (.bool true) A1 S0 (awake_any _) Try.call11 (by kernel_rfl) (by kernel_rfl) (by kernel_rfl) rfl (fun ac wc A2 S3 => ?_)
  refine s_one (.bool false) A2 S3 (g_un (u := .bool true) (by kernel_rfl) (fun _ => by kernel_rfl)) rfl (fun ac A5 => ?_)
  refine wpList_nil ?_
  refine n_then ?_
  refine c_f (b := false) A5 (by kernel_rfl) rfl ?_
  refine wp_skip ?_
  refine n_then ?_
  refine wp_seq ?_
  refine wp_seq ?_
  refine wp_region_lit ?_
  refine s_one (.slice A ds.length cap) A5 S3 (g_move (by kernel_rfl)) rfl (fun ac A6 => ?_)
  refine s_one (.int .i64 (ds.length : Int)) A6 S3 (g_built (r := [(0, .slice A ds.length cap)]) (by kernel_rfl) (fun _ _ _ => by kernel_rfl)) rfl (fun ac A7 => ?_)
  refine s_one (.bool (decide ((ds.length : Int) > 4))) A7 S3 (g_bin (u := .int .i64 (ds.length : Int)) (k := .int .i64 4) (by kernel_rfl) (by kernel_rfl) (fun _ => by kernel_rfl) (fun _ => by kernel_rfl)) rfl (fun ac A8 => ?_)
  refine s_one (.bool (decide ((ds.length : Int) > 4))) A8 S3 (g_move (by kernel_rfl)) rfl (fun ac A9 => ?_)
  refine s_want (dj := 17) (b := (decide ((ds.length : Int) > 4))) A9 (by kernel_rfl) (by kernel_rfl) (decide_eq_true (by omega)) ?_
  refine s_one (.slice A ds.length cap) A9 S3 (g_move (by kernel_rfl)) rfl (fun ac A10 => ?_)
  refine s_want (dj := 17) (b := (decide ((ds.length : Int) > 4))) A10 (by kernel_rfl) (by kernel_rfl) (decide_eq_true (by omega)) ?_
  refine s_one (.int .i64 (ds.length : Int)) A10 S3 (g_built (r := [(0, .slice A ds.length cap)]) (by kernel_rfl) (fun _ _ _ => by kernel_rfl)) rfl (fun ac A11 => ?_)
  refine s_want (dj := 17) (b := (decide ((ds.length : Int) > 4))) A11 (by kernel_rfl) (by kernel_rfl) (decide_eq_true (by omega)) ?_
  refine s_one (.bool (decide ((ds.length : Int) ≤ 32))) A11 S3 (g_bin (u := .int .i64 (ds.length : Int)) (k := .int .i64 32) (by kernel_rfl) (by kernel_rfl) (fun _ => by kernel_rfl) (fun _ => by kernel_rfl)) rfl (fun ac A12 => ?_)
  refine s_one (.bool (decide ((ds.length : Int) ≤ 32))) A12 S3 (g_pick_t (b := (decide ((ds.length : Int) > 4))) (by kernel_rfl) (decide_eq_true (by omega)) (by kernel_rfl)) rfl (fun ac A13 => ?_)
  refine s_one (.bool (decide ((ds.length : Int) ≤ 32))) A13 S3 (g_move (by kernel_rfl)) rfl (fun ac A14 => ?_)
  refine s_want (dj := 22) (b := (decide ((ds.length : Int) ≤ 32))) A14 (by kernel_rfl) (by kernel_rfl) (decide_eq_false (by omega)) ?_
  refine s_one (.slice A ds.length cap) A14 S3 (g_move (by kernel_rfl)) rfl (fun ac A15 => ?_)
  refine s_want (dj := 22) (b := (decide ((ds.length : Int) ≤ 32))) A15 (by kernel_rfl) (by kernel_rfl) (decide_eq_false (by omega)) ?_
  refine s_one (.int .i64 (ds.length : Int)) A15 S3 (g_built (r := [(0, .slice A ds.length cap)]) (by kernel_rfl) (fun _ _ _ => by kernel_rfl)) rfl (fun ac A16 => ?_)
  refine s_want (dj := 22) (b := (decide ((ds.length : Int) ≤ 32))) A16 (by kernel_rfl) (by kernel_rfl) (decide_eq_false (by omega)) ?_
  refine s_one (.bool (decide ((ds.length : Int) > 34))) A16 S3 (g_bin (u := .int .i64 (ds.length : Int)) (k := .int .i64 34) (by kernel_rfl) (by kernel_rfl) (fun _ => by kernel_rfl) (fun _ => by kernel_rfl)) rfl (fun ac A17 => ?_)
  refine s_one (.bool (decide ((ds.length : Int) > 34))) A17 S3 (g_pick_f (b := (decide ((ds.length : Int) ≤ 32))) (by kernel_rfl) (decide_eq_false (by omega)) (by kernel_rfl)) rfl (fun ac A18 => ?_)
  refine wpList_nil ?_
  refine n_then ?_
  refine c_f (b := (decide ((ds.length : Int) > 34))) A18 (by kernel_rfl) (decide_eq_false (by omega)) ?_
  refine wp_skip ?_
  refine n_then ?_
  refine wp_seq ?_
  refine wp_region_lit ?_
  refine s_one (.slice none 0 0) A18 S3 (g_assign (by kernel_rfl)) rfl (fun ac A19 => ?_)
  refine s_one (.slice none 0 0) A19 S3 (g_assign (by kernel_rfl)) rfl (fun ac A20 => ?_)
  refine wpList_nil ?_
  refine n_then ?_
  refine wp_seq ?_
  refine wp_seq ?_
  refine wp_region_lit ?_
  refine s_one (.int .i64 0) A20 S3 (g_assign (by kernel_rfl)) rfl (fun ac A21 => ?_)
  refine wpList_nil ?_
  refine n_then ?_
  refine wp_block ?_
  have S22 := S3.nilRow 30 2
  have S23 := S22.nilRow 30 2
  refine c_loopN (fun mm ac wc => ∃ (vs : List Value) (us : List Value) (v : Value) (u : Value), mm = ds.length - vs.length ∧ (vs.length ≤ ds.length) ∧ (us.length = vs.length) ∧ Fr 97 ac [(0, .slice A ds.length cap), (12, .bool true), (13, .bool false), (14, .slice A ds.length cap), (15, .int .i64 (ds.length : Int)), (16, .bool (decide ((ds.length : Int) > 4))), (17, .bool (decide ((ds.length : Int) > 4))), (18, .slice A ds.length cap), (19, .int .i64 (ds.length : Int)), (20, .bool (decide ((ds.length : Int) ≤ 32))), (21, .bool (decide ((ds.length : Int) ≤ 32))), (22, .bool (decide ((ds.length : Int) ≤ 32))), (23, .slice A ds.length cap), (24, .int .i64 (ds.length : Int)), (25, .bool (decide ((ds.length : Int) > 34))), (26, .bool (decide ((ds.length : Int) > 34))), (5, .int .i64 (vs.length : Int)), (3, v), (4, u)] ∧ St w0 [] (⟨v, 30, 2, vs.length, (mkX ds vs)⟩ :: (⟨u, 30, 2, us.length, (mkX ds us)⟩ :: ((mkM 36 ds vs) ++ (mkM 36 ds us)))) wc) _ ⟨[], [], .slice none 0 0, .slice none 0 0, rfl, Nat.zero_le _, rfl, (A21.slot (A21.slot (A21.slot (A21.slot (A21.slot (A21.slot (A21.slot (A21.slot (A21.slot (A21.slot (A21.slot (A21.slot (A21.slot (A21.slot (A21.slot (A21.slot (A21.slot (A21.slot (A21.slot A21.nil (v := .slice none 0 0) (by kernel_rfl) (by first | rfl | simp)) (v := .slice none 0 0) (by kernel_rfl) (by first | rfl | simp)) (v := .int .i64 0) (by kernel_rfl) rfl) (v := .bool (decide ((ds.length : Int) > 34))) (by kernel_rfl) rfl) (v := .bool (decide ((ds.length : Int) > 34))) (by kernel_rfl) rfl) (v := .int .i64 (ds.length : Int)) (by kernel_rfl) rfl) (v := .slice A ds.length cap) (by kernel_rfl) rfl) (v := .bool (decide ((ds.length : Int) ≤ 32))) (by kernel_rfl) rfl) (v := .bool (decide ((ds.length : Int) ≤ 32))) (by kernel_rfl) rfl) (v := .bool (decide ((ds.length : Int) ≤ 32))) (by kernel_rfl) rfl) (v := .int .i64 (ds.length : Int)) (by kernel_rfl) rfl) (v := .slice A ds.length cap) (by kernel_rfl) rfl) (v := .bool (decide ((ds.length : Int) > 4))) (by kernel_rfl) rfl) (v := .bool (decide ((ds.length : Int) > 4))) (by kernel_rfl) rfl) (v := .int .i64 (ds.length : Int)) (by kernel_rfl) rfl) (v := .slice A ds.length cap) (by kernel_rfl) rfl) (v := .bool false) (by kernel_rfl) rfl) (v := .bool true) (by kernel_rfl) rfl) (v := .slice A ds.length cap) (by kernel_rfl) rfl), (St.rerow 1 (St.rerow 0 S23 rfl ⟨rfl, rfl⟩) rfl ⟨rfl, rfl⟩).sub sub_all sub_all⟩ ?_
  rintro mm ac wc ⟨vs, us, v, u, hm26, hk, hu, A24, S25⟩
  have hxl1 := mkX_length ds vs
  have hxl2 := mkX_length ds us
  refine wp_seq ?_
  refine wp_seq ?_
  refine wp_region_lit ?_
  refine s_one (.int .i64 (vs.length : Int)) A24 S25 (g_move (by kernel_rfl)) rfl (fun ac A27 => ?_)
  refine s_one (.slice A ds.length cap) A27 S25 (g_move (by kernel_rfl)) rfl (fun ac A28 => ?_)
  refine s_one (.int .i64 (ds.length : Int)) A28 S25 (g_built (r := [(0, .slice A ds.length cap)]) (by kernel_rfl) (fun _ _ _ => by kernel_rfl)) rfl (fun ac A29 => ?_)
  refine s_one (.bool (decide ((vs.length : Int) < (ds.length : Int)))) A29 S25 (g_bin (u := .int .i64 (vs.length : Int)) (k := .int .i64 (ds.length : Int)) (by kernel_rfl) (by kernel_rfl) (fun _ => by kernel_rfl) (fun _ => by kernel_rfl)) rfl (fun ac A30 => ?_)
  refine wpList_nil ?_
  refine n_then ?_
  refine c_ifb (b := (decide ((vs.length : Int) < (ds.length : Int)))) A30 (by kernel_rfl) (fun h31 => ?_) (fun h31 => ?_)
  · have p32 := of_decide_eq_true h31
    refine wp_skip ?_
    refine n_then ?_
    refine wp_seq ?_
    refine wp_block ?_
    refine wp_seq ?_
    refine wp_seq ?_
    refine wp_region_lit ?_
    refine s_one (.slice A ds.length cap) A30 S25 (g_move (by kernel_rfl)) rfl (fun ac A33 => ?_)
    refine s_one (.int .i64 (vs.length : Int)) A33 S25 (g_move (by kernel_rfl)) rfl (fun ac A34 => ?_)
    obtain ⟨ad35, he36, hx37⟩ := md_at hr (k := vs.length) (by omega)
    refine s_one (.pointer (some (ad35.add (vs.length * 4)))) A34 S25 (g_index (u := .slice A ds.length cap) (k := .int .i64 (vs.length : Int)) (by kernel_rfl) (by kernel_rfl) (ix_xsB (e := 25) (size := 4) (bytes := 64) vs.length (by kernel_rfl) (by omega) (by omega) he36)) rfl (fun ac A38 => ?_)
    refine s_one (.agg #[.int .i64 ((mdK ds vs.length).el), .slice (mdK ds vs.length).SA ((mdK ds vs.length).sn) (mdK ds vs.length).sc, .slice (mdK ds vs.length).RA ((mdK ds vs.length).rn) (mdK ds vs.length).rc, .int .i64 ((mdK ds vs.length).mo)]) A38 S25 (g_loadXV (p := ad35.add (vs.length * 4)) (X := mdC (mdK ds vs.length)) (by kernel_rfl) hx37 (by kernel_rfl) rfl) rfl (fun ac A39 => ?_)
    refine s_call (fs := #[]) (cp := #[]) (r := [(0, .agg #[.int .i64 ((mdK ds vs.length).el), .slice (mdK ds vs.length).SA ((mdK ds vs.length).sn) (mdK ds vs.length).sc, .slice (mdK ds vs.length).RA ((mdK ds vs.length).rn) (mdK ds vs.length).rc, .int .i64 ((mdK ds vs.length).mo)])]) #[.agg #[.int .i64 ((mdK ds vs.length).el), .slice (mdK ds vs.length).SA ((mdK ds vs.length).sn) (mdK ds vs.length).sc, .slice (mdK ds vs.length).RA ((mdK ds vs.length).rn) (mdK ds vs.length).rc, .int .i64 ((mdK ds vs.length).mo)]] (.bool ((decide (((mdK ds vs.length).sn : Int) ≤ 40)) && (decide (((mdK ds vs.length).rn : Int) ≤ 200)))) A39 S25 (few_s ((mdK ds vs.length).el) (mdK ds vs.length).SA ((mdK ds vs.length).sn) (mdK ds vs.length).sc (mdK ds vs.length).RA ((mdK ds vs.length).rn) (mdK ds vs.length).rc ((mdK ds vs.length).mo) _) Try.call12 (by kernel_rfl) (by kernel_rfl) (by kernel_rfl) rfl (fun ac wc A40 S41 => ?_)
    refine s_one (.bool (!((decide (((mdK ds vs.length).sn : Int) ≤ 40)) && (decide (((mdK ds vs.length).rn : Int) ≤ 200))))) A40 S41 (g_un (u := .bool ((decide (((mdK ds vs.length).sn : Int) ≤ 40)) && (decide (((mdK ds vs.length).rn : Int) ≤ 200)))) (by kernel_rfl) (fun _ => by kernel_rfl)) rfl (fun ac A43 => ?_)
    refine wpList_nil ?_
    refine n_then ?_
    refine c_ifb (b := (!((decide (((mdK ds vs.length).sn : Int) ≤ 40)) && (decide (((mdK ds vs.length).rn : Int) ≤ 200))))) A43 (by kernel_rfl) (fun h44 => ?_) (fun h44 => ?_)
    · have h45 : ((decide (((mdK ds vs.length).sn : Int) ≤ 40)) && (decide (((mdK ds vs.length).rn : Int) ≤ 200))) = false := Eq.mp (Bool.not_eq_true' _) h44
      refine wp_seq ?_
      refine wp_region_lit ?_
      refine s_one (.bool true) A43 S41 (g_assign (by kernel_rfl)) rfl (fun ac A46 => ?_)
      refine wpList_nil ?_
      refine n_then ?_
      refine wp_ret ?_
      refine r_then ?_
      refine r_block ?_
      refine r_then ?_
      refine r_then ?_
      refine r_block ?_
      refine r_then ?_
      refine fin1 (.bool true) Try.results5 A46 S41 (rv_tmp (by kernel_rfl)) ⟨?_, S41.kp⟩
      rfl
    · have h47 : ((decide (((mdK ds vs.length).sn : Int) ≤ 40)) && (decide (((mdK ds vs.length).rn : Int) ≤ 200))) = true := Eq.mp (Bool.not_eq_false' _) h44
      have h48 := (Bool.and_eq_true_iff.1 h47).1
      have p49 := of_decide_eq_true h48
      have h50 := (Bool.and_eq_true_iff.1 h47).2
      have p51 := of_decide_eq_true h50
      refine wp_skip ?_
      refine n_then ?_
      refine r_begin (w0 := w0) (by kernel_rfl) (S41.sub sub_all sub_nil) (fun wc T52 B53 => ?_)
      have S54 := S41.kept B53
      refine r_take 0 (v) A43 T52 (g_move (by kernel_rfl)) rfl rfl rfl (pf_block (pf_then (pf_then (pf_block (pf_then pf_body))))) (by kernel_rfl) (fun ac A55 => ?_)
      refine r_take 1 (.slice A ds.length cap) A55 T52 (g_move (by kernel_rfl)) rfl rfl rfl (pf_block (pf_then (pf_then (pf_block (pf_then pf_body))))) (by kernel_rfl) (fun ac A56 => ?_)
      refine r_take 2 (.int .i64 (vs.length : Int)) A56 T52 (g_move (by kernel_rfl)) rfl rfl rfl (pf_block (pf_then (pf_then (pf_block (pf_then pf_body))))) (by kernel_rfl) (fun ac A57 => ?_)
      obtain ⟨ad58, he59, hx60⟩ := md_at hr (k := vs.length) (by omega)
      refine r_take 3 (.pointer (some (ad58.add (vs.length * 4)))) A57 T52 (g_index (u := .slice A ds.length cap) (k := .int .i64 (vs.length : Int)) (by kernel_rfl) (by kernel_rfl) (ix_xsB (e := 25) (size := 4) (bytes := 64) vs.length (by kernel_rfl) (by omega) (by omega) he59)) rfl rfl rfl (pf_block (pf_then (pf_then (pf_block (pf_then pf_body))))) (by kernel_rfl) (fun ac A61 => ?_)
      refine r_take 4 (.agg #[.int .i64 ((mdK ds vs.length).el), .slice (mdK ds vs.length).SA ((mdK ds vs.length).sn) (mdK ds vs.length).sc, .slice (mdK ds vs.length).RA ((mdK ds vs.length).rn) (mdK ds vs.length).rc, .int .i64 ((mdK ds vs.length).mo)]) A61 T52 (g_loadXV (p := ad58.add (vs.length * 4)) (X := mdC (mdK ds vs.length)) (by kernel_rfl) hx60 (by kernel_rfl) rfl) rfl rfl rfl (pf_block (pf_then (pf_then (pf_block (pf_then pf_body))))) (by kernel_rfl) (fun ac A62 => ?_)
      refine r_take 8 (u) A62 T52 (g_move (by kernel_rfl)) rfl rfl rfl (pf_block (pf_then (pf_then (pf_block (pf_then pf_body))))) (by kernel_rfl) (fun ac A63 => ?_)
      refine r_take 9 (.slice A ds.length cap) A63 T52 (g_move (by kernel_rfl)) rfl rfl rfl (pf_block (pf_then (pf_then (pf_block (pf_then pf_body))))) (by kernel_rfl) (fun ac A64 => ?_)
      refine r_take 10 (.int .i64 (vs.length : Int)) A64 T52 (g_move (by kernel_rfl)) rfl rfl rfl (pf_block (pf_then (pf_then (pf_block (pf_then pf_body))))) (by kernel_rfl) (fun ac A65 => ?_)
      obtain ⟨ad66, he67, hx68⟩ := md_at hr (k := vs.length) (by omega)
      refine r_take 11 (.pointer (some (ad66.add (vs.length * 4)))) A65 T52 (g_index (u := .slice A ds.length cap) (k := .int .i64 (vs.length : Int)) (by kernel_rfl) (by kernel_rfl) (ix_xsB (e := 25) (size := 4) (bytes := 64) vs.length (by kernel_rfl) (by omega) (by omega) he67)) rfl rfl rfl (pf_block (pf_then (pf_then (pf_block (pf_then pf_body))))) (by kernel_rfl) (fun ac A69 => ?_)
      refine r_take 12 (.agg #[.int .i64 ((mdK ds vs.length).el), .slice (mdK ds vs.length).SA ((mdK ds vs.length).sn) (mdK ds vs.length).sc, .slice (mdK ds vs.length).RA ((mdK ds vs.length).rn) (mdK ds vs.length).rc, .int .i64 ((mdK ds vs.length).mo)]) A69 T52 (g_loadXV (p := ad66.add (vs.length * 4)) (X := mdC (mdK ds vs.length)) (by kernel_rfl) hx68 (by kernel_rfl) rfl) rfl rfl rfl (pf_block (pf_then (pf_then (pf_block (pf_then pf_body))))) (by kernel_rfl) (fun ac A70 => ?_)
      refine r_1 (i := 5) (by kernel_rfl) ?_
      refine rs_callRF (fs := #[]) (cp := #[]) (r := [(0, .agg #[.int .i64 ((mdK ds vs.length).el), .slice (mdK ds vs.length).SA ((mdK ds vs.length).sn) (mdK ds vs.length).sc, .slice (mdK ds vs.length).RA ((mdK ds vs.length).rn) (mdK ds vs.length).rc, .int .i64 ((mdK ds vs.length).mo)])]) (fun v => .agg #[.int .i64 ((mdK ds vs.length).el), v]) #[.agg #[.int .i64 ((mdK ds vs.length).el), .slice (mdK ds vs.length).SA ((mdK ds vs.length).sn) (mdK ds vs.length).sc, .slice (mdK ds vs.length).RA ((mdK ds vs.length).rn) (mdK ds vs.length).rc, .int .i64 ((mdK ds vs.length).mo)]] A70 S54 sub_all sub_nil (Matrix_d ((mdK ds vs.length).el) (mdK ds vs.length).SA ((mdK ds vs.length).sn) (mdK ds vs.length).sc ((mdK ds vs.length).sl) (mdK ds vs.length).RA ((mdK ds vs.length).rn) (mdK ds vs.length).rc ((mdK ds vs.length).rl) ((mdK ds vs.length).mo) _ (hr.2 vs.length (by omega)).hs ((hr.2 vs.length (by omega)).rs.kept S54.kp) (hr.2 vs.length (by omega)).hr ((hr.2 vs.length (by omega)).rr.kept S54.kp) (by omega) (by omega)) Try.call13 rfl rfl (by kernel_rfl) (by kernel_rfl) (by kernel_rfl) rfl (fun v75 ac wc A71 S72 => ?_)
      obtain ⟨hl76, A77, cap78, rfl, hc79, hr80⟩ := rowF_reads (v := v75) (m := (mkN ((mdK ds vs.length).el) ((mdK ds vs.length).mo))) (l := mkW ((mdK ds vs.length).el) ((mdK ds vs.length).sn) ((mdK ds vs.length).sl) ((mdK ds vs.length).rn) ((mdK ds vs.length).rl) ((mdK ds vs.length).mo)) (S72.row 0 rfl)
      have T74 := S72.sub sub_all sub_nil
      refine r_1 (i := 6) (by kernel_rfl) ?_
      refine rs_bs (e := 30) (r := [(0, .agg #[.int .i64 ((mdK ds vs.length).el), .slice A77 (mkN ((mdK ds vs.length).el) ((mdK ds vs.length).mo)) cap78])]) (#[.int .i64 ((mdK ds vs.length).el), .slice A77 (mkN ((mdK ds vs.length).el) ((mdK ds vs.length).mo)) cap78]) A71 S72 sub_all sub_nil (by kernel_rfl) (by kernel_rfl) rfl rfl rfl (fun g83 ac wc A81 S82 => ?_)
      have T84 := S82.sub sub_nil sub_nil
      refine r_1 (i := 7) (by kernel_rfl) ?_
      refine rs_append (e := 30) (size := 2) (bytes := 32) (v := v) (g := g83) (m' := 1) (c := 1) 1 0 [.int .i64 ((mdK ds vs.length).el), .slice A77 (mkN ((mdK ds vs.length).el) ((mdK ds vs.length).mo)) cap78] A81 S82 sub_nil (fun _ => sub_nil) (by kernel_rfl) (by kernel_rfl) (by kernel_rfl) rfl rfl (by kernel_rfl) rfl (by kernel_rfl) (by omega) (by omega) rfl rfl rfl (fun v89 ac wc A85 S86 => ?_)
      have T88 := S86.sub sub_nil sub_nil
      refine r_1 (i := 13) (by kernel_rfl) ?_
      refine rs_callRF (fs := #[]) (cp := #[]) (r := [(0, .agg #[.int .i64 ((mdK ds vs.length).el), .slice (mdK ds vs.length).SA ((mdK ds vs.length).sn) (mdK ds vs.length).sc, .slice (mdK ds vs.length).RA ((mdK ds vs.length).rn) (mdK ds vs.length).rc, .int .i64 ((mdK ds vs.length).mo)])]) (fun v => .agg #[.int .i64 ((mdK ds vs.length).el), v]) #[.agg #[.int .i64 ((mdK ds vs.length).el), .slice (mdK ds vs.length).SA ((mdK ds vs.length).sn) (mdK ds vs.length).sc, .slice (mdK ds vs.length).RA ((mdK ds vs.length).rn) (mdK ds vs.length).rc, .int .i64 ((mdK ds vs.length).mo)]] A85 S86 sub_nil sub_nil (Matrix_d ((mdK ds vs.length).el) (mdK ds vs.length).SA ((mdK ds vs.length).sn) (mdK ds vs.length).sc ((mdK ds vs.length).sl) (mdK ds vs.length).RA ((mdK ds vs.length).rn) (mdK ds vs.length).rc ((mdK ds vs.length).rl) ((mdK ds vs.length).mo) _ (hr.2 vs.length (by omega)).hs ((hr.2 vs.length (by omega)).rs.kept S86.kp) (hr.2 vs.length (by omega)).hr ((hr.2 vs.length (by omega)).rr.kept S86.kp) (by omega) (by omega)) Try.call13 rfl rfl (by kernel_rfl) (by kernel_rfl) (by kernel_rfl) rfl (fun v94 ac wc A90 S91 => ?_)
      obtain ⟨hl95, A96, cap97, rfl, hc98, hr99⟩ := rowF_reads (v := v94) (m := (mkN ((mdK ds vs.length).el) ((mdK ds vs.length).mo))) (l := mkW ((mdK ds vs.length).el) ((mdK ds vs.length).sn) ((mdK ds vs.length).sl) ((mdK ds vs.length).rn) ((mdK ds vs.length).rl) ((mdK ds vs.length).mo)) (S91.row 0 rfl)
      have T93 := S91.sub sub_nil sub_nil
      refine r_1 (i := 14) (by kernel_rfl) ?_
      refine rs_bs (e := 30) (r := [(0, .agg #[.int .i64 ((mdK ds vs.length).el), .slice A96 (mkN ((mdK ds vs.length).el) ((mdK ds vs.length).mo)) cap97])]) (#[.int .i64 ((mdK ds vs.length).el), .slice A96 (mkN ((mdK ds vs.length).el) ((mdK ds vs.length).mo)) cap97]) A90 S91 sub_nil sub_nil (by kernel_rfl) (by kernel_rfl) rfl rfl rfl (fun g102 ac wc A100 S101 => ?_)
      have T103 := S101.sub sub_nil sub_nil
      refine r_1 (i := 15) (by kernel_rfl) ?_
      refine rs_append (e := 30) (size := 2) (bytes := 32) (v := u) (g := g102) (m' := 1) (c := 1) 3 0 [.int .i64 ((mdK ds vs.length).el), .slice A96 (mkN ((mdK ds vs.length).el) ((mdK ds vs.length).mo)) cap97] A100 S101 sub_nil (fun _ => sub_nil) (by kernel_rfl) (by kernel_rfl) (by kernel_rfl) rfl rfl (by kernel_rfl) rfl (by kernel_rfl) (by omega) (by omega) rfl rfl rfl (fun v108 ac wc A104 S105 => ?_)
      have T107 := S105.sub sub_nil sub_nil
      refine r_take 16 (v89) A104 T107 (g_assign (by kernel_rfl)) rfl rfl rfl (pf_block (pf_then (pf_then (pf_block (pf_then pf_body))))) (by kernel_rfl) (fun ac A109 => ?_)
      refine r_take 17 (v108) A109 T107 (g_assign (by kernel_rfl)) rfl rfl rfl (pf_block (pf_then (pf_then (pf_block (pf_then pf_body))))) (by kernel_rfl) (fun ac A110 => ?_)
      refine r_done (by kernel_rfl) ?_
      refine n_block ?_
      refine n_then ?_
      refine wp_region_lit ?_
      refine s_one (.int .i64 (vs.length : Int)) A110 S105 (g_move (by kernel_rfl)) rfl (fun ac A111 => ?_)
      refine s_one (.int .i64 ((vs.length : Int) + 1)) A111 S105 (g_bin (u := .int .i64 (vs.length : Int)) (k := .int .i64 1) (by kernel_rfl) (by kernel_rfl) (fun _ => by kernel_rfl) (b_add (by omega))) rfl (fun ac A112 => ?_)
      refine s_one (.int .i64 ((vs.length : Int) + 1)) A112 S105 (g_assign (by kernel_rfl)) rfl (fun ac A113 => ?_)
      refine wpList_nil ?_
      refine n_then ?_
      have e9 : (⟨v89, 30, 2, (vs.length + 1), ((mkX ds vs) ++ [.int .i64 ((mdK ds vs.length).el), .slice A77 (mkN ((mdK ds vs.length).el) ((mdK ds vs.length).mo)) cap78])⟩ :: ⟨v108, 30, 2, (us.length + 1), ((mkX ds us) ++ [.int .i64 ((mdK ds vs.length).el), .slice A96 (mkN ((mdK ds vs.length).el) ((mdK ds vs.length).mo)) cap97])⟩ :: ⟨.slice A77 (mkN ((mdK ds vs.length).el) ((mdK ds vs.length).mo)) cap78, 36, 1, (mkN ((mdK ds vs.length).el) ((mdK ds vs.length).mo)), (rowF (mkW ((mdK ds vs.length).el) ((mdK ds vs.length).sn) ((mdK ds vs.length).sl) ((mdK ds vs.length).rn) ((mdK ds vs.length).rl) ((mdK ds vs.length).mo)))⟩ :: (mkM 36 ds vs ++ ⟨.slice A96 (mkN ((mdK ds vs.length).el) ((mdK ds vs.length).mo)) cap97, 36, 1, (mkN ((mdK ds vs.length).el) ((mdK ds vs.length).mo)), (rowF (mkW ((mdK ds vs.length).el) ((mdK ds vs.length).sn) ((mdK ds vs.length).sl) ((mdK ds vs.length).rn) ((mdK ds vs.length).rl) ((mdK ds vs.length).mo)))⟩ :: mkM 36 ds us) : List Rw) = (⟨v89, 30, 2, (((Value.slice A77 (mkN ((mdK ds vs.length).el) ((mdK ds vs.length).mo)) cap78) :: vs).length), (mkX ds ((Value.slice A77 (mkN ((mdK ds vs.length).el) ((mdK ds vs.length).mo)) cap78) :: vs))⟩ :: (⟨v108, 30, 2, (((Value.slice A96 (mkN ((mdK ds vs.length).el) ((mdK ds vs.length).mo)) cap97) :: us).length), (mkX ds ((Value.slice A96 (mkN ((mdK ds vs.length).el) ((mdK ds vs.length).mo)) cap97) :: us))⟩ :: ((mkM 36 ds ((Value.slice A77 (mkN ((mdK ds vs.length).el) ((mdK ds vs.length).mo)) cap78) :: vs)) ++ (mkM 36 ds ((Value.slice A96 (mkN ((mdK ds vs.length).el) ((mdK ds vs.length).mo)) cap97) :: us))))) := by simp only [mkM, mkX, List.cons_append, List.length_cons, hu, mdW, mdN]
      have SP : St w0 [⟨g102, 30, #[.int .i64 ((mdK ds vs.length).el), .slice A96 (mkN ((mdK ds vs.length).el) ((mdK ds vs.length).mo)) cap97], true⟩, ⟨g83, 30, #[.int .i64 ((mdK ds vs.length).el), .slice A77 (mkN ((mdK ds vs.length).el) ((mdK ds vs.length).mo)) cap78], true⟩] (⟨v89, 30, 2, (((Value.slice A77 (mkN ((mdK ds vs.length).el) ((mdK ds vs.length).mo)) cap78) :: vs).length), (mkX ds ((Value.slice A77 (mkN ((mdK ds vs.length).el) ((mdK ds vs.length).mo)) cap78) :: vs))⟩ :: (⟨v108, 30, 2, (((Value.slice A96 (mkN ((mdK ds vs.length).el) ((mdK ds vs.length).mo)) cap97) :: us).length), (mkX ds ((Value.slice A96 (mkN ((mdK ds vs.length).el) ((mdK ds vs.length).mo)) cap97) :: us))⟩ :: ((mkM 36 ds ((Value.slice A77 (mkN ((mdK ds vs.length).el) ((mdK ds vs.length).mo)) cap78) :: vs)) ++ (mkM 36 ds ((Value.slice A96 (mkN ((mdK ds vs.length).el) ((mdK ds vs.length).mo)) cap97) :: us))))) _ := St.permM S105 ((perm5 _ _).trans (List.Perm.of_eq e9))
      have ha : ((Value.slice A77 (mkN ((mdK ds vs.length).el) ((mdK ds vs.length).mo)) cap78) :: vs).length = vs.length + 1 := rfl
      have hb : ((Value.slice A96 (mkN ((mdK ds vs.length).el) ((mdK ds vs.length).mo)) cap97) :: us).length = us.length + 1 := rfl
      refine ⟨_, ⟨((Value.slice A77 (mkN ((mdK ds vs.length).el) ((mdK ds vs.length).mo)) cap78) :: vs), ((Value.slice A96 (mkN ((mdK ds vs.length).el) ((mdK ds vs.length).mo)) cap97) :: us), v89, v108, rfl, by omega, by omega, (A113.slot (A113.slot (A113.slot (A113.slot (A113.slot (A113.slot (A113.slot (A113.slot (A113.slot (A113.slot (A113.slot (A113.slot (A113.slot (A113.slot (A113.slot (A113.slot (A113.slot (A113.slot (A113.slot A113.nil (v := v108) (by kernel_rfl) rfl) (v := v89) (by kernel_rfl) rfl) (v := .int .i64 ((vs.length : Int) + 1)) (by kernel_rfl) (congrArg (Value.int .i64) (by rw [ha]; omega))) (v := .bool (decide ((ds.length : Int) > 34))) (by kernel_rfl) rfl) (v := .bool (decide ((ds.length : Int) > 34))) (by kernel_rfl) rfl) (v := .int .i64 (ds.length : Int)) (by kernel_rfl) rfl) (v := .slice A ds.length cap) (by kernel_rfl) rfl) (v := .bool (decide ((ds.length : Int) ≤ 32))) (by kernel_rfl) rfl) (v := .bool (decide ((ds.length : Int) ≤ 32))) (by kernel_rfl) rfl) (v := .bool (decide ((ds.length : Int) ≤ 32))) (by kernel_rfl) rfl) (v := .int .i64 (ds.length : Int)) (by kernel_rfl) rfl) (v := .slice A ds.length cap) (by kernel_rfl) rfl) (v := .bool (decide ((ds.length : Int) > 4))) (by kernel_rfl) rfl) (v := .bool (decide ((ds.length : Int) > 4))) (by kernel_rfl) rfl) (v := .int .i64 (ds.length : Int)) (by kernel_rfl) rfl) (v := .slice A ds.length cap) (by kernel_rfl) rfl) (v := .bool false) (by kernel_rfl) rfl) (v := .bool true) (by kernel_rfl) rfl) (v := .slice A ds.length cap) (by kernel_rfl) rfl), (St.rerow 1 (St.rerow 0 SP rfl ⟨rfl, rfl⟩) rfl ⟨rfl, rfl⟩).sub sub_nil sub_all⟩, ?_⟩
      omega
  · have p114 := of_decide_eq_false h31
    refine wp_exit ?_
    refine x_then ?_
    refine x_then ?_
    refine x_hit ?_
    refine n_then ?_
    refine wp_seq ?_
    refine any_world S25 (fun w1 S1 => ?_)
    obtain ⟨B1, b1, rfl⟩ := row_slice (v := v) (m := vs.length) (S1.row 0 rfl)
    obtain ⟨B2, b2, rfl⟩ := row_slice (v := u) (m := us.length) (S1.row 1 rfl)
    have hV1 := row_vreads (S1.row 0 rfl)
    have hV2 := row_vreads (S1.row 1 rfl)
    obtain ⟨ms, hl1, hx1, hm1⟩ := mk_reads (w := w1) (base := w0.heap.size) (e := 36) (md_bd hr) vs (fun i hi => S1.rows (⟨vI vs i, 36, 1, mdN (mdK ds i), rowF (mdW (mdK ds i))⟩ : Rw) (List.mem_cons_of_mem _ (List.mem_cons_of_mem _ (List.mem_append_left _ (mkM_mem hi)))))
    have hR1 : MtReads w1 B1 ms := ⟨by rw [hx1]; exact hV1, fun i hi => (hm1 i (by omega)).1⟩
    obtain ⟨ns, hl2, hx2, hm2⟩ := mk_reads (w := w1) (base := w0.heap.size) (e := 36) (md_bd hr) us (fun i hi => S1.rows (⟨vI us i, 36, 1, mdN (mdK ds i), rowF (mdW (mdK ds i))⟩ : Rw) (List.mem_cons_of_mem _ (List.mem_cons_of_mem _ (List.mem_append_right _ (mkM_mem hi)))))
    have hR2 : MtReads w1 B2 ns := ⟨by rw [hx2]; exact hV2, fun i hi => (hm2 i (by omega)).1⟩
    obtain ⟨eZ, eE, eW⟩ := av_same (ms := ns) (ns := ms) (by omega) (fun i hi => ⟨(hm2 i (by omega)).2.1.trans (hm1 i (by omega)).2.1.symm, (hm2 i (by omega)).2.2.trans (hm1 i (by omega)).2.2.symm⟩)
    have hlm : ms.length = ds.length := by omega
    have hwl1 := avW_le hR1
    have hwl2 := avW_le hR2
    have SB := St.start w1
    refine wp_region_lit ?_
    refine s_one (.slice B2 us.length b2) A30 SB (g_move (by kernel_rfl)) rfl (fun ac A115 => ?_)
    refine s_callRF (fs := #[]) (cp := #[]) (r := [(0, .slice B2 us.length b2)]) (fun v => .tuple #[.agg #[.int .i64 (avE ns), v], .int .i64 (avZ ns)]) #[.slice B2 us.length b2] A115 SB (Averaged_n B2 us.length b2 ns _ hl2 (hR2.kept SB.kp) (by omega)) Try.call28 (by kernel_rfl) (by kernel_rfl) (by kernel_rfl) rfl (fun v119 ac wc A116 S117 => ?_)
    obtain ⟨hl120, A121, cap122, rfl, hc123, hr124⟩ := rowF_reads (v := v119) (m := (avW ns).length) (l := avW ns) (S117.row 0 rfl)
    refine s_one (.tuple #[.agg #[.int .i64 (avE ns), .slice A121 ((avW ns).length) cap122], .int .i64 (avZ ns)]) A116 S117 (g_move (by kernel_rfl)) rfl (fun ac A125 => ?_)
    refine s_one (.agg #[.int .i64 (avE ns), .slice A121 ((avW ns).length) cap122]) A125 S117 (g_extract (u := .tuple #[.agg #[.int .i64 (avE ns), .slice A121 ((avW ns).length) cap122], .int .i64 (avZ ns)]) (by kernel_rfl) (fun _ => by kernel_rfl)) rfl (fun ac A126 => ?_)
    refine s_one (.int .i64 (avZ ns)) A126 S117 (g_extract (u := .tuple #[.agg #[.int .i64 (avE ns), .slice A121 ((avW ns).length) cap122], .int .i64 (avZ ns)]) (by kernel_rfl) (fun _ => by kernel_rfl)) rfl (fun ac A127 => ?_)
    refine s_alloc (#[.int .i64 0, .slice none 0 0]) A127 S117 (by kernel_rfl) rfl (fun g130 ac wc A128 S129 => ?_)
    refine s_store (g := g130) (off := 0) (v := .agg #[.int .i64 (avE ns), .slice A121 ((avW ns).length) cap122]) 0 (#[.int .i64 (avE ns), .slice A121 ((avW ns).length) cap122]) A128 S129 (by kernel_rfl) (by kernel_rfl) rfl (by kernel_rfl) (fun wc S132 => ?_)
    refine s_one (.int .i64 (avZ ns)) A128 S132 (g_assign (by kernel_rfl)) rfl (fun ac A134 => ?_)
    refine wpList_nil ?_
    refine n_then ?_
    refine wp_seq ?_
    refine wp_region_lit ?_
    refine s_one (.slice B1 vs.length b1) A134 S132 (g_move (by kernel_rfl)) rfl (fun ac A135 => ?_)
    refine s_callRF (fs := #[]) (cp := #[]) (r := [(0, .slice B1 vs.length b1)]) (fun v => .tuple #[.agg #[.int .i64 (avE ms), v], .int .i64 (avZ ms)]) #[.slice B1 vs.length b1] A135 S132 (refAveraged_n B1 vs.length b1 ms _ hl1 (hR1.kept S132.kp) (by omega)) Try.call29 (by kernel_rfl) (by kernel_rfl) (by kernel_rfl) rfl (fun v139 ac wc A136 S137 => ?_)
    obtain ⟨hl140, A141, cap142, rfl, hc143, hr144⟩ := rowF_reads (v := v139) (m := (avW ms).length) (l := avW ms) (S137.row 0 rfl)
    refine s_one (.tuple #[.agg #[.int .i64 (avE ms), .slice A141 ((avW ms).length) cap142], .int .i64 (avZ ms)]) A136 S137 (g_move (by kernel_rfl)) rfl (fun ac A145 => ?_)
    refine s_one (.agg #[.int .i64 (avE ms), .slice A141 ((avW ms).length) cap142]) A145 S137 (g_extract (u := .tuple #[.agg #[.int .i64 (avE ms), .slice A141 ((avW ms).length) cap142], .int .i64 (avZ ms)]) (by kernel_rfl) (fun _ => by kernel_rfl)) rfl (fun ac A146 => ?_)
    refine s_one (.int .i64 (avZ ms)) A146 S137 (g_extract (u := .tuple #[.agg #[.int .i64 (avE ms), .slice A141 ((avW ms).length) cap142], .int .i64 (avZ ms)]) (by kernel_rfl) (fun _ => by kernel_rfl)) rfl (fun ac A147 => ?_)
    refine s_alloc (#[.int .i64 0, .slice none 0 0]) A147 S137 (by kernel_rfl) rfl (fun g150 ac wc A148 S149 => ?_)
    refine s_store (g := g150) (off := 0) (v := .agg #[.int .i64 (avE ms), .slice A141 ((avW ms).length) cap142]) 0 (#[.int .i64 (avE ms), .slice A141 ((avW ms).length) cap142]) A148 S149 (by kernel_rfl) (by kernel_rfl) rfl (by kernel_rfl) (fun wc S152 => ?_)
    refine s_one (.int .i64 (avZ ms)) A148 S152 (g_assign (by kernel_rfl)) rfl (fun ac A154 => ?_)
    refine wpList_nil ?_
    refine n_then ?_
    refine wp_seq ?_
    refine wp_seq ?_
    refine wp_region_lit ?_
    refine s_one (.agg #[.int .i64 (avE ns), .slice A121 ((avW ns).length) cap122]) A154 S152 (g_load (g := g130) (off := 0) 1 (by kernel_rfl) rfl (by kernel_rfl)) rfl (fun ac A155 => ?_)
    refine s_one (.int .i64 (avZ ns)) A155 S152 (g_move (by kernel_rfl)) rfl (fun ac A156 => ?_)
    refine s_one (.agg #[.int .i64 (avE ms), .slice A141 ((avW ms).length) cap142]) A156 S152 (g_load (g := g150) (off := 0) 0 (by kernel_rfl) rfl (by kernel_rfl)) rfl (fun ac A157 => ?_)
    refine s_one (.int .i64 (avZ ms)) A157 S152 (g_move (by kernel_rfl)) rfl (fun ac A158 => ?_)
    refine s_call (fs := #[]) (cp := #[]) (r := [(0, .agg #[.int .i64 (avE ns), .slice A121 ((avW ns).length) cap122]), (0, .int .i64 (avZ ns)), (0, .agg #[.int .i64 (avE ms), .slice A141 ((avW ms).length) cap142]), (0, .int .i64 (avZ ms))]) #[.agg #[.int .i64 (avE ns), .slice A121 ((avW ns).length) cap122], .int .i64 (avZ ns), .agg #[.int .i64 (avE ms), .slice A141 ((avW ms).length) cap142], .int .i64 (avZ ms)] (.bool true) A158 S152 (same_eq (avZ ns) (avZ ms) eZ (avE ns) (avE ms) eE (avW ns) (avW ms) eW A121 A141 cap122 cap142 ((avW ns).length) ((avW ms).length) _ hl120 hl140 (len_bd (ys := avW ms) (m := (avW ms).length) eW hl120 hl140 (by omega)) (row_fr (S152.row 1 rfl)) (row_fr (S152.row 0 rfl))) Try.call26 (by kernel_rfl) (by kernel_rfl) (by kernel_rfl) rfl (fun ac wc A159 S160 => ?_)
    refine s_one (.bool false) A159 S160 (g_un (u := .bool true) (by kernel_rfl) (fun _ => by kernel_rfl)) rfl (fun ac A162 => ?_)
    refine wpList_nil ?_
    refine n_then ?_
    refine c_f (b := false) A162 (by kernel_rfl) rfl ?_
    refine wp_skip ?_
    refine n_then ?_
    refine wp_seq ?_
    refine wp_seq ?_
    refine c_cut (fun ac wc => Fr 97 ac [(80, .bool ((decide ((ds.length : Int) = 0)) || (decide ((mxC ((mtK ms 0).el) ((mtK ms 0).xs)).2 ≠ 0)))), (0, .slice A ds.length cap), (12, .bool true), (13, .bool false), (14, .slice A ds.length cap), (15, .int .i64 (ds.length : Int)), (16, .bool (decide ((ds.length : Int) > 4))), (17, .bool (decide ((ds.length : Int) > 4))), (18, .slice A ds.length cap), (19, .int .i64 (ds.length : Int)), (20, .bool (decide ((ds.length : Int) ≤ 32))), (21, .bool (decide ((ds.length : Int) ≤ 32))), (22, .bool (decide ((ds.length : Int) ≤ 32))), (23, .slice A ds.length cap), (24, .int .i64 (ds.length : Int)), (25, .bool (decide ((ds.length : Int) > 34))), (26, .bool (decide ((ds.length : Int) > 34))), (5, .int .i64 (vs.length : Int)), (3, .slice B1 vs.length b1), (4, .slice B2 us.length b2), (27, .int .i64 (vs.length : Int)), (28, .slice A ds.length cap), (29, .int .i64 (ds.length : Int)), (30, .bool (decide ((vs.length : Int) < (ds.length : Int)))), (56, .slice B2 us.length b2), (57, .tuple #[.agg #[.int .i64 (avE ns), .slice A121 ((avW ns).length) cap122], .int .i64 (avZ ns)]), (55, .tuple #[.agg #[.int .i64 (avE ns), .slice A121 ((avW ns).length) cap122], .int .i64 (avZ ns)]), (58, .agg #[.int .i64 (avE ns), .slice A121 ((avW ns).length) cap122]), (59, .int .i64 (avZ ns)), (6, .pointer (some ⟨g130, 0, none⟩)), (7, .int .i64 (avZ ns)), (61, .slice B1 vs.length b1), (62, .tuple #[.agg #[.int .i64 (avE ms), .slice A141 ((avW ms).length) cap142], .int .i64 (avZ ms)]), (60, .tuple #[.agg #[.int .i64 (avE ms), .slice A141 ((avW ms).length) cap142], .int .i64 (avZ ms)]), (63, .agg #[.int .i64 (avE ms), .slice A141 ((avW ms).length) cap142]), (64, .int .i64 (avZ ms)), (8, .pointer (some ⟨g150, 0, none⟩)), (9, .int .i64 (avZ ms)), (65, .agg #[.int .i64 (avE ns), .slice A121 ((avW ns).length) cap122]), (66, .int .i64 (avZ ns)), (67, .agg #[.int .i64 (avE ms), .slice A141 ((avW ms).length) cap142]), (68, .int .i64 (avZ ms)), (69, .bool true), (70, .bool false)] ∧ St w1 [⟨g150, 30, #[.int .i64 (avE ms), .slice A141 ((avW ms).length) cap142], true⟩, ⟨g130, 30, #[.int .i64 (avE ns), .slice A121 ((avW ns).length) cap122], true⟩] [⟨.slice A141 ((avW ms).length) cap142, 36, 1, ((avW ms).length), (rowF (avW ms))⟩, ⟨.slice A121 ((avW ns).length) cap122, 36, 1, ((avW ns).length), (rowF (avW ns))⟩] wc) ?_ ?_
    · refine wp_region_lit ?_
      refine s_one (.slice A ds.length cap) A162 S160 (g_move (by kernel_rfl)) rfl (fun ac A163 => ?_)
      refine s_one (.int .i64 (ds.length : Int)) A163 S160 (g_built (r := [(0, .slice A ds.length cap)]) (by kernel_rfl) (fun _ _ _ => by kernel_rfl)) rfl (fun ac A164 => ?_)
      refine s_one (.bool (decide ((ds.length : Int) = 0))) A164 S160 (g_bin (u := .int .i64 (ds.length : Int)) (k := .int .i64 0) (by kernel_rfl) (by kernel_rfl) (fun _ => by kernel_rfl) b_eql) rfl (fun ac A165 => ?_)
      refine s_one (.bool (decide ((ds.length : Int) = 0))) A165 S160 (g_move (by kernel_rfl)) rfl (fun ac A166 => ?_)
      refine by_bool (decide ((ds.length : Int) = 0)) (fun h167 => ?_) (fun h167 => ?_)
      · have p168 := of_decide_eq_true h167
        refine s_not (dj := 74) (b := (decide ((ds.length : Int) = 0))) A166 (by kernel_rfl) (by kernel_rfl) h167 rfl (fun ac A169 => ?_)
        refine s_not (dj := 74) (b := (decide ((ds.length : Int) = 0))) A169 (by kernel_rfl) (by kernel_rfl) h167 rfl (fun ac A170 => ?_)
        refine s_not (dj := 74) (b := (decide ((ds.length : Int) = 0))) A170 (by kernel_rfl) (by kernel_rfl) h167 rfl (fun ac A171 => ?_)
        refine s_not (dj := 74) (b := (decide ((ds.length : Int) = 0))) A171 (by kernel_rfl) (by kernel_rfl) h167 rfl (fun ac A172 => ?_)
        refine s_not (dj := 74) (b := (decide ((ds.length : Int) = 0))) A172 (by kernel_rfl) (by kernel_rfl) h167 rfl (fun ac A173 => ?_)
        refine s_one (.bool true) A173 S160 (g_pick_t (b := (decide ((ds.length : Int) = 0))) (by kernel_rfl) h167 (by kernel_rfl)) rfl (fun ac A174 => ?_)
        refine wpList_nil ?_
        refine n_then ?_
        exact ⟨(A174.slot (A174.slot (A174.slot (A174.slot (A174.slot (A174.slot (A174.slot (A174.slot (A174.slot (A174.slot (A174.slot (A174.slot (A174.slot (A174.slot (A174.slot (A174.slot (A174.slot (A174.slot (A174.slot (A174.slot (A174.slot (A174.slot (A174.slot (A174.slot (A174.slot (A174.slot (A174.slot (A174.slot (A174.slot (A174.slot (A174.slot (A174.slot (A174.slot (A174.slot (A174.slot (A174.slot (A174.slot (A174.slot (A174.slot (A174.slot (A174.slot (A174.slot (A174.slot (A174.slot A174.nil (v := .bool false) (by kernel_rfl) rfl) (v := .bool true) (by kernel_rfl) rfl) (v := .int .i64 (avZ ms)) (by kernel_rfl) rfl) (v := .agg #[.int .i64 (avE ms), .slice A141 ((avW ms).length) cap142]) (by kernel_rfl) rfl) (v := .int .i64 (avZ ns)) (by kernel_rfl) rfl) (v := .agg #[.int .i64 (avE ns), .slice A121 ((avW ns).length) cap122]) (by kernel_rfl) rfl) (v := .int .i64 (avZ ms)) (by kernel_rfl) rfl) (v := .pointer (some ⟨g150, 0, none⟩)) (by kernel_rfl) rfl) (v := .int .i64 (avZ ms)) (by kernel_rfl) rfl) (v := .agg #[.int .i64 (avE ms), .slice A141 ((avW ms).length) cap142]) (by kernel_rfl) rfl) (v := .tuple #[.agg #[.int .i64 (avE ms), .slice A141 ((avW ms).length) cap142], .int .i64 (avZ ms)]) (by kernel_rfl) rfl) (v := .tuple #[.agg #[.int .i64 (avE ms), .slice A141 ((avW ms).length) cap142], .int .i64 (avZ ms)]) (by kernel_rfl) rfl) (v := .slice B1 vs.length b1) (by kernel_rfl) rfl) (v := .int .i64 (avZ ns)) (by kernel_rfl) rfl) (v := .pointer (some ⟨g130, 0, none⟩)) (by kernel_rfl) rfl) (v := .int .i64 (avZ ns)) (by kernel_rfl) rfl) (v := .agg #[.int .i64 (avE ns), .slice A121 ((avW ns).length) cap122]) (by kernel_rfl) rfl) (v := .tuple #[.agg #[.int .i64 (avE ns), .slice A121 ((avW ns).length) cap122], .int .i64 (avZ ns)]) (by kernel_rfl) rfl) (v := .tuple #[.agg #[.int .i64 (avE ns), .slice A121 ((avW ns).length) cap122], .int .i64 (avZ ns)]) (by kernel_rfl) rfl) (v := .slice B2 us.length b2) (by kernel_rfl) rfl) (v := .bool (decide ((vs.length : Int) < (ds.length : Int)))) (by kernel_rfl) rfl) (v := .int .i64 (ds.length : Int)) (by kernel_rfl) rfl) (v := .slice A ds.length cap) (by kernel_rfl) rfl) (v := .int .i64 (vs.length : Int)) (by kernel_rfl) rfl) (v := .slice B2 us.length b2) (by kernel_rfl) rfl) (v := .slice B1 vs.length b1) (by kernel_rfl) rfl) (v := .int .i64 (vs.length : Int)) (by kernel_rfl) rfl) (v := .bool (decide ((ds.length : Int) > 34))) (by kernel_rfl) rfl) (v := .bool (decide ((ds.length : Int) > 34))) (by kernel_rfl) rfl) (v := .int .i64 (ds.length : Int)) (by kernel_rfl) rfl) (v := .slice A ds.length cap) (by kernel_rfl) rfl) (v := .bool (decide ((ds.length : Int) ≤ 32))) (by kernel_rfl) rfl) (v := .bool (decide ((ds.length : Int) ≤ 32))) (by kernel_rfl) rfl) (v := .bool (decide ((ds.length : Int) ≤ 32))) (by kernel_rfl) rfl) (v := .int .i64 (ds.length : Int)) (by kernel_rfl) rfl) (v := .slice A ds.length cap) (by kernel_rfl) rfl) (v := .bool (decide ((ds.length : Int) > 4))) (by kernel_rfl) rfl) (v := .bool (decide ((ds.length : Int) > 4))) (by kernel_rfl) rfl) (v := .int .i64 (ds.length : Int)) (by kernel_rfl) rfl) (v := .slice A ds.length cap) (by kernel_rfl) rfl) (v := .bool false) (by kernel_rfl) rfl) (v := .bool true) (by kernel_rfl) rfl) (v := .slice A ds.length cap) (by kernel_rfl) rfl) (v := .bool true) (by kernel_rfl) (congrArg Value.bool (b_ot1 h167).symm)), S160.sub sub_all sub_all⟩
      · have p175 := of_decide_eq_false h167
        refine s_want (dj := 74) (b := (decide ((ds.length : Int) = 0))) A166 (by kernel_rfl) (by kernel_rfl) h167 ?_
        refine s_one (.slice B1 vs.length b1) A166 S160 (g_move (by kernel_rfl)) rfl (fun ac A176 => ?_)
        refine s_want (dj := 74) (b := (decide ((ds.length : Int) = 0))) A176 (by kernel_rfl) (by kernel_rfl) h167 ?_
        obtain ⟨ad177, he178, hx179⟩ := mt_at hR1 (k := 0) (by omega)
        have hq180 := (hR1.2 0 (by omega)).few
        have hq181 := (hR1.2 0 (by omega)).cap
        have hq182 := (hR1.2 0 (by omega)).len
        refine s_one (.pointer (some (ad177.add (0 * 2)))) A176 S160 (g_index (u := .slice B1 vs.length b1) (k := .int .i64 0) (by kernel_rfl) (by kernel_rfl) (ix_xsB (e := 30) (size := 2) (bytes := 32) 0 (by kernel_rfl) (by omega) (by omega) he178)) rfl (fun ac A183 => ?_)
        refine s_want (dj := 74) (b := (decide ((ds.length : Int) = 0))) A183 (by kernel_rfl) (by kernel_rfl) h167 ?_
        refine s_one (.agg #[.int .i64 ((mtK ms 0).el), .slice (mtK ms 0).B ((mtK ms 0).n) (mtK ms 0).c]) A183 S160 (g_loadXV (p := ad177.add (0 * 2)) (X := mtC (mtK ms 0)) (by kernel_rfl) hx179 (by kernel_rfl) rfl) rfl (fun ac A184 => ?_)
        refine s_want (dj := 74) (b := (decide ((ds.length : Int) = 0))) A184 (by kernel_rfl) (by kernel_rfl) h167 ?_
        refine s_call (fs := #[]) (cp := #[]) (r := [(0, .agg #[.int .i64 ((mtK ms 0).el), .slice (mtK ms 0).B ((mtK ms 0).n) (mtK ms 0).c])]) #[.agg #[.int .i64 ((mtK ms 0).el), .slice (mtK ms 0).B ((mtK ms 0).n) (mtK ms 0).c]] (.int .i64 ((mxC ((mtK ms 0).el) ((mtK ms 0).xs)).2)) A184 S160 (err_s ((mtK ms 0).el) (mtK ms 0).B ((mtK ms 0).n) (mtK ms 0).c ((mtK ms 0).xs) _ (hR1.2 0 (by omega)).len ((hR1.2 0 (by omega)).rd.kept S160.kp) (by omega)) Try.call23 (by kernel_rfl) (by kernel_rfl) (by kernel_rfl) rfl (fun ac wc A185 S186 => ?_)
        refine s_want (dj := 74) (b := (decide ((ds.length : Int) = 0))) A185 (by kernel_rfl) (by kernel_rfl) h167 ?_
        refine s_one (.bool (decide ((mxC ((mtK ms 0).el) ((mtK ms 0).xs)).2 ≠ 0))) A185 S186 (g_bin (u := .int .i64 ((mxC ((mtK ms 0).el) ((mtK ms 0).xs)).2)) (k := .int .i64 0) (by kernel_rfl) (by kernel_rfl) (fun _ => by kernel_rfl) b_neq) rfl (fun ac A188 => ?_)
        refine s_one (.bool (decide ((mxC ((mtK ms 0).el) ((mtK ms 0).xs)).2 ≠ 0))) A188 S186 (g_pick_f (b := (decide ((ds.length : Int) = 0))) (by kernel_rfl) h167 (by kernel_rfl)) rfl (fun ac A189 => ?_)
        refine wpList_nil ?_
        refine n_then ?_
        exact ⟨(A189.slot (A189.slot (A189.slot (A189.slot (A189.slot (A189.slot (A189.slot (A189.slot (A189.slot (A189.slot (A189.slot (A189.slot (A189.slot (A189.slot (A189.slot (A189.slot (A189.slot (A189.slot (A189.slot (A189.slot (A189.slot (A189.slot (A189.slot (A189.slot (A189.slot (A189.slot (A189.slot (A189.slot (A189.slot (A189.slot (A189.slot (A189.slot (A189.slot (A189.slot (A189.slot (A189.slot (A189.slot (A189.slot (A189.slot (A189.slot (A189.slot (A189.slot (A189.slot (A189.slot A189.nil (v := .bool false) (by kernel_rfl) rfl) (v := .bool true) (by kernel_rfl) rfl) (v := .int .i64 (avZ ms)) (by kernel_rfl) rfl) (v := .agg #[.int .i64 (avE ms), .slice A141 ((avW ms).length) cap142]) (by kernel_rfl) rfl) (v := .int .i64 (avZ ns)) (by kernel_rfl) rfl) (v := .agg #[.int .i64 (avE ns), .slice A121 ((avW ns).length) cap122]) (by kernel_rfl) rfl) (v := .int .i64 (avZ ms)) (by kernel_rfl) rfl) (v := .pointer (some ⟨g150, 0, none⟩)) (by kernel_rfl) rfl) (v := .int .i64 (avZ ms)) (by kernel_rfl) rfl) (v := .agg #[.int .i64 (avE ms), .slice A141 ((avW ms).length) cap142]) (by kernel_rfl) rfl) (v := .tuple #[.agg #[.int .i64 (avE ms), .slice A141 ((avW ms).length) cap142], .int .i64 (avZ ms)]) (by kernel_rfl) rfl) (v := .tuple #[.agg #[.int .i64 (avE ms), .slice A141 ((avW ms).length) cap142], .int .i64 (avZ ms)]) (by kernel_rfl) rfl) (v := .slice B1 vs.length b1) (by kernel_rfl) rfl) (v := .int .i64 (avZ ns)) (by kernel_rfl) rfl) (v := .pointer (some ⟨g130, 0, none⟩)) (by kernel_rfl) rfl) (v := .int .i64 (avZ ns)) (by kernel_rfl) rfl) (v := .agg #[.int .i64 (avE ns), .slice A121 ((avW ns).length) cap122]) (by kernel_rfl) rfl) (v := .tuple #[.agg #[.int .i64 (avE ns), .slice A121 ((avW ns).length) cap122], .int .i64 (avZ ns)]) (by kernel_rfl) rfl) (v := .tuple #[.agg #[.int .i64 (avE ns), .slice A121 ((avW ns).length) cap122], .int .i64 (avZ ns)]) (by kernel_rfl) rfl) (v := .slice B2 us.length b2) (by kernel_rfl) rfl) (v := .bool (decide ((vs.length : Int) < (ds.length : Int)))) (by kernel_rfl) rfl) (v := .int .i64 (ds.length : Int)) (by kernel_rfl) rfl) (v := .slice A ds.length cap) (by kernel_rfl) rfl) (v := .int .i64 (vs.length : Int)) (by kernel_rfl) rfl) (v := .slice B2 us.length b2) (by kernel_rfl) rfl) (v := .slice B1 vs.length b1) (by kernel_rfl) rfl) (v := .int .i64 (vs.length : Int)) (by kernel_rfl) rfl) (v := .bool (decide ((ds.length : Int) > 34))) (by kernel_rfl) rfl) (v := .bool (decide ((ds.length : Int) > 34))) (by kernel_rfl) rfl) (v := .int .i64 (ds.length : Int)) (by kernel_rfl) rfl) (v := .slice A ds.length cap) (by kernel_rfl) rfl) (v := .bool (decide ((ds.length : Int) ≤ 32))) (by kernel_rfl) rfl) (v := .bool (decide ((ds.length : Int) ≤ 32))) (by kernel_rfl) rfl) (v := .bool (decide ((ds.length : Int) ≤ 32))) (by kernel_rfl) rfl) (v := .int .i64 (ds.length : Int)) (by kernel_rfl) rfl) (v := .slice A ds.length cap) (by kernel_rfl) rfl) (v := .bool (decide ((ds.length : Int) > 4))) (by kernel_rfl) rfl) (v := .bool (decide ((ds.length : Int) > 4))) (by kernel_rfl) rfl) (v := .int .i64 (ds.length : Int)) (by kernel_rfl) rfl) (v := .slice A ds.length cap) (by kernel_rfl) rfl) (v := .bool false) (by kernel_rfl) rfl) (v := .bool true) (by kernel_rfl) rfl) (v := .slice A ds.length cap) (by kernel_rfl) rfl) (v := .bool (decide ((mxC ((mtK ms 0).el) ((mtK ms 0).xs)).2 ≠ 0))) (by kernel_rfl) (congrArg Value.bool (b_or_f h167 (Eq.refl (decide ((mxC ((mtK ms 0).el) ((mtK ms 0).xs)).2 ≠ 0)))).symm)), S186.sub sub_all sub_all⟩
    · rintro ac wc ⟨A190, S191⟩
      refine n_then ?_
      refine c_ifb (b := ((decide ((ds.length : Int) = 0)) || (decide ((mxC ((mtK ms 0).el) ((mtK ms 0).xs)).2 ≠ 0)))) A190 (by kernel_rfl) (fun h192 => ?_) (fun h192 => ?_)
      · refine wp_seq ?_
        refine wp_region_lit ?_
        refine s_one (.bool true) A190 S191 (g_assign (by kernel_rfl)) rfl (fun ac A193 => ?_)
        refine wpList_nil ?_
        refine n_then ?_
        refine wp_ret ?_
        refine r_then ?_
        refine fin1 (.bool true) Try.results5 A193 S191 (rv_tmp (by kernel_rfl)) ⟨?_, kp_trans S1.kp S191.kp⟩
        rfl
      · have h194 := (Bool.or_eq_false_iff.1 h192).1
        have p195 := of_decide_eq_false h194
        have h196 := (Bool.or_eq_false_iff.1 h192).2
        have p197 := of_decide_eq_false h196
        have hz : (mxC (mtK ms 0).el (mtK ms 0).xs).2 = 0 := Decidable.of_not_not p197
        refine wp_skip ?_
        refine n_then ?_
        refine wp_seq ?_
        refine wp_region_lit ?_
        refine s_one (.slice B1 vs.length b1) A190 S191 (g_move (by kernel_rfl)) rfl (fun ac A198 => ?_)
        obtain ⟨ad199, he200, hx201⟩ := mt_at hR1 (k := 0) (by omega)
        have hq202 := (hR1.2 0 (by omega)).few
        have hq203 := (hR1.2 0 (by omega)).cap
        have hq204 := (hR1.2 0 (by omega)).len
        refine s_one (.pointer (some (ad199.add (0 * 2)))) A198 S191 (g_index (u := .slice B1 vs.length b1) (k := .int .i64 0) (by kernel_rfl) (by kernel_rfl) (ix_xsB (e := 30) (size := 2) (bytes := 32) 0 (by kernel_rfl) (by omega) (by omega) he200)) rfl (fun ac A205 => ?_)
        refine s_one (.agg #[.int .i64 ((mtK ms 0).el), .slice (mtK ms 0).B ((mtK ms 0).n) (mtK ms 0).c]) A205 S191 (g_loadXV (p := ad199.add (0 * 2)) (X := mtC (mtK ms 0)) (by kernel_rfl) hx201 (by kernel_rfl) rfl) rfl (fun ac A206 => ?_)
        refine s_callRF (fs := #[]) (cp := #[]) (r := [(0, .agg #[.int .i64 ((mtK ms 0).el), .slice (mtK ms 0).B ((mtK ms 0).n) (mtK ms 0).c])]) (fun v => .agg #[.int .i64 ((mtK ms 0).el), v]) #[.agg #[.int .i64 ((mtK ms 0).el), .slice (mtK ms 0).B ((mtK ms 0).n) (mtK ms 0).c]] A206 S191 (CopyMatrix_s ((mtK ms 0).el) (mtK ms 0).B ((mtK ms 0).n) (mtK ms 0).c ((mtK ms 0).xs) _ (hR1.2 0 (by omega)).len ((hR1.2 0 (by omega)).rd.kept S191.kp) (by omega)) Try.call15 (by kernel_rfl) (by kernel_rfl) (by kernel_rfl) rfl (fun v210 ac wc A207 S208 => ?_)
        obtain ⟨hl211, A212, cap213, rfl, hc214, hr215⟩ := rowF_reads (v := v210) (m := ((mtK ms 0).n)) (l := (mtK ms 0).xs) (S208.row 0 rfl)
        refine s_bs (e := 30) (r := [(0, .agg #[.int .i64 ((mtK ms 0).el), .slice A212 ((mtK ms 0).n) cap213])]) (#[.int .i64 ((mtK ms 0).el), .slice A212 ((mtK ms 0).n) cap213]) A207 S208 (by kernel_rfl) (by kernel_rfl) rfl (fun g218 ac wc A216 S217 => ?_)
        refine s_callRF (fs := #[]) (cp := #[]) (r := [(0, .slice (some ⟨g218, 0, none⟩) 1 1)]) (fun v => .tuple #[.agg #[.int .i64 (avE [(⟨(mtK ms 0).el, A212, ((mtK ms 0).n), cap213, (mtK ms 0).xs⟩ : Mt)]), v], .int .i64 (avZ [(⟨(mtK ms 0).el, A212, ((mtK ms 0).n), cap213, (mtK ms 0).xs⟩ : Mt)])]) #[.slice (some ⟨g218, 0, none⟩) 1 1] A216 S217 (Averaged_n (some ⟨g218, 0, none⟩) 1 1 [(⟨(mtK ms 0).el, A212, ((mtK ms 0).n), cap213, (mtK ms 0).xs⟩ : Mt)] _ rfl (mt_one (S217.get 0 rfl) ⟨hl211, by show (_ : Nat) ≤ _; omega, (row_fr (S217.row 0 rfl)), by show (_ : Nat) ≤ _; omega, (hR1.2 0 (by omega)).lo, (hR1.2 0 (by omega)).hi⟩) (by simp)) Try.call28 (by kernel_rfl) (by kernel_rfl) (by kernel_rfl) rfl (fun v222 ac wc A219 S220 => ?_)
        obtain ⟨hl223, A224, cap225, rfl, hc226, hr227⟩ := rowF_reads (v := v222) (m := (avW [(⟨(mtK ms 0).el, A212, ((mtK ms 0).n), cap213, (mtK ms 0).xs⟩ : Mt)]).length) (l := avW [(⟨(mtK ms 0).el, A212, ((mtK ms 0).n), cap213, (mtK ms 0).xs⟩ : Mt)]) (S220.row 0 rfl)
        refine s_one (.tuple #[.agg #[.int .i64 (avE [(⟨(mtK ms 0).el, A212, ((mtK ms 0).n), cap213, (mtK ms 0).xs⟩ : Mt)]), .slice A224 ((avW [(⟨(mtK ms 0).el, A212, ((mtK ms 0).n), cap213, (mtK ms 0).xs⟩ : Mt)]).length) cap225], .int .i64 (avZ [(⟨(mtK ms 0).el, A212, ((mtK ms 0).n), cap213, (mtK ms 0).xs⟩ : Mt)])]) A219 S220 (g_move (by kernel_rfl)) rfl (fun ac A228 => ?_)
        refine s_one (.agg #[.int .i64 (avE [(⟨(mtK ms 0).el, A212, ((mtK ms 0).n), cap213, (mtK ms 0).xs⟩ : Mt)]), .slice A224 ((avW [(⟨(mtK ms 0).el, A212, ((mtK ms 0).n), cap213, (mtK ms 0).xs⟩ : Mt)]).length) cap225]) A228 S220 (g_extract (u := .tuple #[.agg #[.int .i64 (avE [(⟨(mtK ms 0).el, A212, ((mtK ms 0).n), cap213, (mtK ms 0).xs⟩ : Mt)]), .slice A224 ((avW [(⟨(mtK ms 0).el, A212, ((mtK ms 0).n), cap213, (mtK ms 0).xs⟩ : Mt)]).length) cap225], .int .i64 (avZ [(⟨(mtK ms 0).el, A212, ((mtK ms 0).n), cap213, (mtK ms 0).xs⟩ : Mt)])]) (by kernel_rfl) (fun _ => by kernel_rfl)) rfl (fun ac A229 => ?_)
        refine s_one (.int .i64 (avZ [(⟨(mtK ms 0).el, A212, ((mtK ms 0).n), cap213, (mtK ms 0).xs⟩ : Mt)])) A229 S220 (g_extract (u := .tuple #[.agg #[.int .i64 (avE [(⟨(mtK ms 0).el, A212, ((mtK ms 0).n), cap213, (mtK ms 0).xs⟩ : Mt)]), .slice A224 ((avW [(⟨(mtK ms 0).el, A212, ((mtK ms 0).n), cap213, (mtK ms 0).xs⟩ : Mt)]).length) cap225], .int .i64 (avZ [(⟨(mtK ms 0).el, A212, ((mtK ms 0).n), cap213, (mtK ms 0).xs⟩ : Mt)])]) (by kernel_rfl) (fun _ => by kernel_rfl)) rfl (fun ac A230 => ?_)
        refine s_alloc (#[.int .i64 0, .slice none 0 0]) A230 S220 (by kernel_rfl) rfl (fun g233 ac wc A231 S232 => ?_)
        refine s_store (g := g233) (off := 0) (v := .agg #[.int .i64 (avE [(⟨(mtK ms 0).el, A212, ((mtK ms 0).n), cap213, (mtK ms 0).xs⟩ : Mt)]), .slice A224 ((avW [(⟨(mtK ms 0).el, A212, ((mtK ms 0).n), cap213, (mtK ms 0).xs⟩ : Mt)]).length) cap225]) 0 (#[.int .i64 (avE [(⟨(mtK ms 0).el, A212, ((mtK ms 0).n), cap213, (mtK ms 0).xs⟩ : Mt)]), .slice A224 ((avW [(⟨(mtK ms 0).el, A212, ((mtK ms 0).n), cap213, (mtK ms 0).xs⟩ : Mt)]).length) cap225]) A231 S232 (by kernel_rfl) (by kernel_rfl) rfl (by kernel_rfl) (fun wc S235 => ?_)
        refine s_one (.int .i64 (avZ [(⟨(mtK ms 0).el, A212, ((mtK ms 0).n), cap213, (mtK ms 0).xs⟩ : Mt)])) A231 S235 (g_assign (by kernel_rfl)) rfl (fun ac A237 => ?_)
        refine wpList_nil ?_
        refine n_then ?_
        refine wp_seq ?_
        refine r_begin (w0 := w1) (by kernel_rfl) (S235.sub sub_all sub_all) (fun wc T238 B239 => ?_)
        have S240 := S235.kept B239
        refine r_take 0 (.agg #[.int .i64 (avE [(⟨(mtK ms 0).el, A212, ((mtK ms 0).n), cap213, (mtK ms 0).xs⟩ : Mt)]), .slice A224 ((avW [(⟨(mtK ms 0).el, A212, ((mtK ms 0).n), cap213, (mtK ms 0).xs⟩ : Mt)]).length) cap225]) A237 T238 (g_load (g := g233) (off := 0) 0 (by kernel_rfl) rfl (by kernel_rfl)) rfl rfl rfl (pf_then pf_body) (by kernel_rfl) (fun ac A241 => ?_)
        refine r_take 1 (.int .i64 (avZ [(⟨(mtK ms 0).el, A212, ((mtK ms 0).n), cap213, (mtK ms 0).xs⟩ : Mt)])) A241 T238 (g_move (by kernel_rfl)) rfl rfl rfl (pf_then pf_body) (by kernel_rfl) (fun ac A242 => ?_)
        refine r_take 2 (.slice B1 vs.length b1) A242 T238 (g_move (by kernel_rfl)) rfl rfl rfl (pf_then pf_body) (by kernel_rfl) (fun ac A243 => ?_)
        obtain ⟨ad244, he245, hx246⟩ := mt_at hR1 (k := 0) (by omega)
        have hq247 := (hR1.2 0 (by omega)).few
        have hq248 := (hR1.2 0 (by omega)).cap
        have hq249 := (hR1.2 0 (by omega)).len
        refine r_take 3 (.pointer (some (ad244.add (0 * 2)))) A243 T238 (g_index (u := .slice B1 vs.length b1) (k := .int .i64 0) (by kernel_rfl) (by kernel_rfl) (ix_xsB (e := 30) (size := 2) (bytes := 32) 0 (by kernel_rfl) (by omega) (by omega) he245)) rfl rfl rfl (pf_then pf_body) (by kernel_rfl) (fun ac A250 => ?_)
        refine r_take 4 (.agg #[.int .i64 ((mtK ms 0).el), .slice (mtK ms 0).B ((mtK ms 0).n) (mtK ms 0).c]) A250 T238 (g_loadXV (p := ad244.add (0 * 2)) (X := mtC (mtK ms 0)) (by kernel_rfl) hx246 (by kernel_rfl) rfl) rfl rfl rfl (pf_then pf_body) (by kernel_rfl) (fun ac A251 => ?_)
        refine r_1 (i := 5) (by kernel_rfl) ?_
        have hfm : (fw (mi ((mtK ms 0).xs))).length = (mtK ms 0).n := (fw_length _).trans ((mi_length _).trans (hR1.2 0 (by omega)).len)
        refine rs_callRF (fs := #[]) (cp := #[]) (r := [(0, .agg #[.int .i64 ((mtK ms 0).el), .slice (mtK ms 0).B ((mtK ms 0).n) (mtK ms 0).c])]) (fun v => .agg #[.int .i64 ((mtK ms 0).el), v]) #[.agg #[.int .i64 ((mtK ms 0).el), .slice (mtK ms 0).B ((mtK ms 0).n) (mtK ms 0).c]] A251 S240 sub_all sub_all (Plain_s ((mtK ms 0).el) (mtK ms 0).B ((mtK ms 0).n) (mtK ms 0).c ((mtK ms 0).xs) _ (hR1.2 0 (by omega)).len ((hR1.2 0 (by omega)).rd.kept S240.kp) (by omega) (right_of (mxC_0 hz).2.2)) Try.call27 rfl rfl (by kernel_rfl) (by kernel_rfl) (by kernel_rfl) rfl (fun v256 ac wc A252 S253 => ?_)
        obtain ⟨hl257, A258, cap259, rfl, hc260, hr261⟩ := rowF_reads (v := v256) (m := ((mtK ms 0).n)) (l := fw (mi ((mtK ms 0).xs))) (S253.row 0 rfl)
        have T255 := S253.sub sub_all (sub_skip sub_all)
        refine r_1 (i := 6) (by kernel_rfl) ?_
        refine rs_call (fs := #[]) (cp := #[]) (r := [(0, .agg #[.int .i64 (avE [(⟨(mtK ms 0).el, A212, ((mtK ms 0).n), cap213, (mtK ms 0).xs⟩ : Mt)]), .slice A224 ((avW [(⟨(mtK ms 0).el, A212, ((mtK ms 0).n), cap213, (mtK ms 0).xs⟩ : Mt)]).length) cap225]), (0, .int .i64 (avZ [(⟨(mtK ms 0).el, A212, ((mtK ms 0).n), cap213, (mtK ms 0).xs⟩ : Mt)])), (0, .agg #[.int .i64 ((mtK ms 0).el), .slice A258 ((mtK ms 0).n) cap259]), (0, .int .i64 0)]) #[.agg #[.int .i64 (avE [(⟨(mtK ms 0).el, A212, ((mtK ms 0).n), cap213, (mtK ms 0).xs⟩ : Mt)]), .slice A224 ((avW [(⟨(mtK ms 0).el, A212, ((mtK ms 0).n), cap213, (mtK ms 0).xs⟩ : Mt)]).length) cap225], .int .i64 (avZ [(⟨(mtK ms 0).el, A212, ((mtK ms 0).n), cap213, (mtK ms 0).xs⟩ : Mt)]), .agg #[.int .i64 ((mtK ms 0).el), .slice A258 ((mtK ms 0).n) cap259], .int .i64 0] (.bool true) A252 S253 sub_all (sub_skip sub_all) (same_eq (avZ [(⟨(mtK ms 0).el, A212, ((mtK ms 0).n), cap213, (mtK ms 0).xs⟩ : Mt)]) 0 ((avZ_one _).trans hz) (avE [(⟨(mtK ms 0).el, A212, ((mtK ms 0).n), cap213, (mtK ms 0).xs⟩ : Mt)]) ((mtK ms 0).el) (avE_one hz) (avW [(⟨(mtK ms 0).el, A212, ((mtK ms 0).n), cap213, (mtK ms 0).xs⟩ : Mt)]) (fw (mi ((mtK ms 0).xs))) (avW_one hz) A224 A258 cap225 cap259 ((avW [(⟨(mtK ms 0).el, A212, ((mtK ms 0).n), cap213, (mtK ms 0).xs⟩ : Mt)]).length) ((mtK ms 0).n) _ hl223 hl257 (len_bd (ys := fw (mi ((mtK ms 0).xs))) (m := ((mtK ms 0).n)) (avW_one hz) hl223 hl257 (by omega)) (row_fr (S253.row 1 rfl)) (row_fr (S253.row 0 rfl))) Try.call26 rfl rfl (by kernel_rfl) (by kernel_rfl) (by kernel_rfl) rfl (fun ac wc A262 S263 => ?_)
        have T265 := S263.sub sub_all (sub_skip sub_all)
        refine r_take 7 (.bool true) A262 T265 (g_assign (by kernel_rfl)) rfl rfl rfl (pf_then pf_body) (by kernel_rfl) (fun ac A266 => ?_)
        refine r_done (by kernel_rfl) ?_
        refine n_then ?_
        refine wp_ret ?_
        refine fin1 (.bool true) Try.results5 A266 S263 (rv_tmp (by kernel_rfl)) ⟨?_, kp_trans S1.kp S263.kp⟩
        rfl

set_option maxRecDepth 100000 in
set_option maxHeartbeats 400000 in
theorem averages_huge (A : Option Addr) (cap : Nat) (ds : List Md) (w0 : World) (_hr : MdReads w0 A ds) (hl : 34 < ds.length) (hl2 : ds.length ≤ 9223372036854775807) :
    Calls Try.prog 5 #[.slice A ds.length cap] w0 fun e w' => e = .returned (.bool true) ∧ Below w0.heap.size w0 w' := by
  have S0 := St.start w0
  refine enter (n := 97) Try.func5 rfl rfl rfl (fun ac A0 => ?_)
  refine wp_seq ?_
  refine wp_region_lit ?_
  refine s_one (.bool false) A0 S0 (g_assign (by kernel_rfl)) rfl (fun ac A1 => ?_)
  refine wpList_nil ?_
  refine n_then ?_
  refine wp_seq ?_
  refine wp_seq ?_
  refine wp_region_lit ?_
  refine s_call (fs := #[]) (cp := #[]) (r := []) #[] (.bool true) A1 S0 (awake_any _) Try.call11 (by kernel_rfl) (by kernel_rfl) (by kernel_rfl) rfl (fun ac wc A2 S3 => ?_)
  refine s_one (.bool false) A2 S3 (g_un (u := .bool true) (by kernel_rfl) (fun _ => by kernel_rfl)) rfl (fun ac A5 => ?_)
  refine wpList_nil ?_
  refine n_then ?_
  refine c_f (b := false) A5 (by kernel_rfl) rfl ?_
  refine wp_skip ?_
  refine n_then ?_
  refine wp_seq ?_
  refine wp_seq ?_
  refine wp_region_lit ?_
  refine s_one (.slice A ds.length cap) A5 S3 (g_move (by kernel_rfl)) rfl (fun ac A6 => ?_)
  refine s_one (.int .i64 (ds.length : Int)) A6 S3 (g_built (r := [(0, .slice A ds.length cap)]) (by kernel_rfl) (fun _ _ _ => by kernel_rfl)) rfl (fun ac A7 => ?_)
  refine s_one (.bool (decide ((ds.length : Int) > 4))) A7 S3 (g_bin (u := .int .i64 (ds.length : Int)) (k := .int .i64 4) (by kernel_rfl) (by kernel_rfl) (fun _ => by kernel_rfl) (fun _ => by kernel_rfl)) rfl (fun ac A8 => ?_)
  refine s_one (.bool (decide ((ds.length : Int) > 4))) A8 S3 (g_move (by kernel_rfl)) rfl (fun ac A9 => ?_)
  refine s_want (dj := 17) (b := (decide ((ds.length : Int) > 4))) A9 (by kernel_rfl) (by kernel_rfl) (decide_eq_true (by omega)) ?_
  refine s_one (.slice A ds.length cap) A9 S3 (g_move (by kernel_rfl)) rfl (fun ac A10 => ?_)
  refine s_want (dj := 17) (b := (decide ((ds.length : Int) > 4))) A10 (by kernel_rfl) (by kernel_rfl) (decide_eq_true (by omega)) ?_
  refine s_one (.int .i64 (ds.length : Int)) A10 S3 (g_built (r := [(0, .slice A ds.length cap)]) (by kernel_rfl) (fun _ _ _ => by kernel_rfl)) rfl (fun ac A11 => ?_)
  refine s_want (dj := 17) (b := (decide ((ds.length : Int) > 4))) A11 (by kernel_rfl) (by kernel_rfl) (decide_eq_true (by omega)) ?_
  refine s_one (.bool (decide ((ds.length : Int) ≤ 32))) A11 S3 (g_bin (u := .int .i64 (ds.length : Int)) (k := .int .i64 32) (by kernel_rfl) (by kernel_rfl) (fun _ => by kernel_rfl) (fun _ => by kernel_rfl)) rfl (fun ac A12 => ?_)
  refine s_one (.bool (decide ((ds.length : Int) ≤ 32))) A12 S3 (g_pick_t (b := (decide ((ds.length : Int) > 4))) (by kernel_rfl) (decide_eq_true (by omega)) (by kernel_rfl)) rfl (fun ac A13 => ?_)
  refine s_one (.bool (decide ((ds.length : Int) ≤ 32))) A13 S3 (g_move (by kernel_rfl)) rfl (fun ac A14 => ?_)
  refine s_want (dj := 22) (b := (decide ((ds.length : Int) ≤ 32))) A14 (by kernel_rfl) (by kernel_rfl) (decide_eq_false (by omega)) ?_
  refine s_one (.slice A ds.length cap) A14 S3 (g_move (by kernel_rfl)) rfl (fun ac A15 => ?_)
  refine s_want (dj := 22) (b := (decide ((ds.length : Int) ≤ 32))) A15 (by kernel_rfl) (by kernel_rfl) (decide_eq_false (by omega)) ?_
  refine s_one (.int .i64 (ds.length : Int)) A15 S3 (g_built (r := [(0, .slice A ds.length cap)]) (by kernel_rfl) (fun _ _ _ => by kernel_rfl)) rfl (fun ac A16 => ?_)
  refine s_want (dj := 22) (b := (decide ((ds.length : Int) ≤ 32))) A16 (by kernel_rfl) (by kernel_rfl) (decide_eq_false (by omega)) ?_
  refine s_one (.bool (decide ((ds.length : Int) > 34))) A16 S3 (g_bin (u := .int .i64 (ds.length : Int)) (k := .int .i64 34) (by kernel_rfl) (by kernel_rfl) (fun _ => by kernel_rfl) (fun _ => by kernel_rfl)) rfl (fun ac A17 => ?_)
  refine s_one (.bool (decide ((ds.length : Int) > 34))) A17 S3 (g_pick_f (b := (decide ((ds.length : Int) ≤ 32))) (by kernel_rfl) (decide_eq_false (by omega)) (by kernel_rfl)) rfl (fun ac A18 => ?_)
  refine wpList_nil ?_
  refine n_then ?_
  refine c_t (b := (decide ((ds.length : Int) > 34))) A18 (by kernel_rfl) (decide_eq_true (by omega)) ?_
  refine wp_seq ?_
  refine wp_region_lit ?_
  refine s_one (.bool true) A18 S3 (g_assign (by kernel_rfl)) rfl (fun ac A19 => ?_)
  refine wpList_nil ?_
  refine n_then ?_
  refine wp_ret ?_
  refine r_then ?_
  refine fin1 (.bool true) Try.results5 A19 S3 (rv_tmp (by kernel_rfl)) ⟨?_, S3.kp⟩
  rfl

theorem TraceAverages_s (A : Option Addr) (n cap : Nat) (ds : List Md) (w0 : World) (hn : ds.length = n) (hr : MdReads w0 A ds) (hl : n ≤ 9223372036854775807) : Calls Try.prog 5 #[.slice A n cap] w0 fun e w' => e = .returned (.bool true) ∧ Below w0.heap.size w0 w' := by
  subst hn
  rcases Nat.lt_or_ge 4 ds.length with h1 | h1
  · rcases Nat.lt_or_ge 32 ds.length with h2 | h2
    · rcases Nat.lt_or_ge 34 ds.length with h3 | h3
      · exact averages_huge A cap ds w0 hr h3 hl
      · exact averages_big A cap ds w0 hr h2 h3
    · exact averages_mid A cap ds w0 hr h1 h2
  · exact averages_small A cap ds w0 hr h1

end Go.Proofs.Ytcijkniijomcjaa
