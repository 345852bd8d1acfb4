/- What the laws of this chapter rest on, part 4: what the functions that they reach answer, each shown once. Conditions: what each theorem states. (Merged by a program of this session, wip/tools/merge.py, out of its own texts and of the words that the kit's print wrote for this seat, cut to those that are used.) -/
import Derived.Test.YtalaochocmcbcaaVC
set_option linter.unusedVariables false
set_option linter.unusedSimpArgs false
set_option maxHeartbeats 16000000
set_option maxRecDepth 100000
section
namespace Go.Proofs.Ytalaochocmcbcaa.Diag
open Go.RowKit Go.Proofs.Ytalaochocmcbcaa.P Go.Proofs.Ytalaochocmcbcaa.E Go.Proofs.Ytalaochocmcbcaa.Cur Go.Proofs.Ytalaochocmcbcaa.Cu Go.Proofs.Ytalaochocmcbcaa.Same Go.Proofs.Ytalaochocmcbcaa.Code Go.Proofs.YtalaochocmcbcaaW.PrintWords Go.Proofs.YtalaochocmcbcaaW.PrintLast Go.Proofs.YtalaochocmcbcaaW.PrintMore
def Rob (B : Nat) (w' : World) (cx : Array Value) (m : Msg) : Prop := ∀ W', Kept w' W' (fun k => k < B) → IsMsg W' cx m
theorem St_first {w0 w1 w2 w3 : World} {gr gm g : Nat} {cx : Array Value} {m : Msg} {c : Cu} (hg : gr = w0.heap.size) (hk : w1.heap[gr]? = some (.cells zeroC 30 (0, 0))) (hb : Below w0.heap.size w0 w1) (hm : gm = w1.heap.size) (hk2 : w2.heap[gm]? = some (.cells cx 30 (0, 0))) (hb2 : Below w1.heap.size w1 w2) (M : ∀ W, IsMsg W cx m) (nl : NilL cx)
    (h1 : w2.heap.size ≤ g) (hc : PAt w2.heap.size g w3 g c) (h2 : Below w2.heap.size w2 w3) : PS.St w0 gr g gm w3 c m := by
  have l1 := blk_lt hk
  have l2 := blk_lt hk2
  have s0 := hb.size
  have s1 := hb2.size
  exact ⟨hb.trans ((hb2.mono hb.size).trans (h2.mono (Nat.le_trans hb.size hb2.size))), ⟨w2.heap.size, g, hc, .inl l2, .inl (by omega)⟩, ⟨cx, blk_below hk2 h2, fun W' _ => M W'⟩, blk_below (blk_below hk hb2) h2, ⟨by omega, by omega, by omega⟩, ⟨by omega, by omega, by omega⟩, ⟨cx, blk_below hk2 h2, nl⟩⟩
theorem parse_dir {A : Option Addr} {c : Nat} {l : List Int} {w0 : World} (hr : Kd.C (Kd.int .u8) w0 A l.length l) (hc : l.length ≤ c) (hs : l.length ≤ 1000000) (hb : isBytes l) {dir code : Int} (h0 : dir ≠ 0) (h1 : dir ≠ 1) :
    Calls Try.prog 12 #[.int .i64 dir, .int .u8 code, .slice A l.length c] w0 fun en w' => ∃ cx, en = .returned (.tuple #[.agg cx, .int .i64 1]) ∧ Rob w0.heap.size w' cx zeroM ∧ Below w0.heap.size w0 w' := by
  clear hr hc hs hb
  have H := Aside0.mk (Held.start w0)
  have e0 : (dir != 0) = true := by simpa using h0
  have e1 : (dir != 1) = true := by simpa using h1
  have e0' : (dir == 0) = false := by simpa using h0
  have e1' : (dir == 1) = false := by simpa using h1
  clear h0 h1
  go_enter Try.func12, Try.ntmps12
  go_wp2_with (first | ((with_reducible refine gate_dst (N := 6) rfl ?_); refine ev_alloc rfl rfl ?_; intro g w1 hg_ h1_ h2_; have n0_ := Aside0.mk (H.out.new hg_ h1_ h2_); clear H; have H := n0_; clear n0_; clear h1_ h2_ hg_) | ((with_reducible refine gate_dst (N := 17) rfl ?_); refine ev_build (zeroC) rfl (by go_simp; first | rfl | done) ?_; intro cx hcx_; have M := Aside0.mk (show ∀ W, IsMsg W cx _ from fun W => by rw [hcx_]; exact zero_is W); clear hcx_) | ((with_reducible refine gate_op (u := .store 30 (.tmp 6) (.tmp 17)) rfl ?_); refine ev_store rfl rfl rfl rfl H.out (i := 0) rfl (rfl) (M.out w0) ?_; intro w2 h3_ h4_; have n0_ := Aside0.mk (h3_); clear H; have H := n0_; clear n0_; clear h3_ h4_))
  refine bodyPost_ret (results_ct rfl _ _ g 30 cx (0, 0) _ rfl (H.out.at 0 rfl) Try.underlying30 rfl (msg_info ((M.out w0).size))) rfl (⟨cx, rfl, fun W' _ => M.out W', H.out.b⟩)
theorem parse_no0 {A : Option Addr} {c : Nat} {l : List Int} {w0 : World} (hr : Kd.C (Kd.int .u8) w0 A l.length l) (hc : l.length ≤ c) (hs : l.length ≤ 1000000) (hb : isBytes l) {code : Int} (hcd : 0 ≤ code ∧ code < 256) (hk : ¬ isCode code) :
    Calls Try.prog 12 #[.int .i64 0, .int .u8 code, .slice A l.length c] w0 fun en w' => ∃ cx, en = .returned (.tuple #[.agg cx, .int .i64 4]) ∧ Rob w0.heap.size w' cx zeroM ∧ Below w0.heap.size w0 w' := by
  have HR := Aside0.mk hr
  have HC := Aside0.mk hc
  have HS := Aside0.mk hs
  have HBB := Aside0.mk hb
  clear hr hc hs hb
  have HKB := Aside0.mk hcd
  clear hcd
  have b7 : (code == 7) = false := beq_eq_false_iff_ne.2 (fun e => hk (by unfold isCode; omega))
  have c7 : (code != 7) = true := by rw [bne, b7]; rfl
  have b8 : (code == 8) = false := beq_eq_false_iff_ne.2 (fun e => hk (by unfold isCode; omega))
  have c8 : (code != 8) = true := by rw [bne, b8]; rfl
  have b11 : (code == 11) = false := beq_eq_false_iff_ne.2 (fun e => hk (by unfold isCode; omega))
  have c11 : (code != 11) = true := by rw [bne, b11]; rfl
  have b12 : (code == 12) = false := beq_eq_false_iff_ne.2 (fun e => hk (by unfold isCode; omega))
  have c12 : (code != 12) = true := by rw [bne, b12]; rfl
  have b17 : (code == 17) = false := beq_eq_false_iff_ne.2 (fun e => hk (by unfold isCode; omega))
  have c17 : (code != 17) = true := by rw [bne, b17]; rfl
  clear hk
  go_enter Try.func12, Try.ntmps12
  go_upto_region 3 with (first | ((with_reducible refine gate_dst (N := 6) rfl ?_); refine ev_alloc rfl rfl ?_; intro gr w1 hg_ h1_ h2_; have HG := Aside0.mk hg_; have H1 := Aside0.mk h1_; have H2 := Aside0.mk h2_; clear hg_ h1_ h2_))
  go_upto_region 4 with (first | ((with_reducible refine gate_dst (N := 19) rfl ?_); refine ev_build ((zeroC.setIfInBounds 0 (.int .u8 (code)))) rfl (by go_simp; first | rfl | done) ?_; intro cx hcx_; have M := Aside0.mk (show ∀ W, IsMsg W cx _ from fun W => by rw [hcx_]; exact (fun W => set_code (zero_is W) (v := code) ⟨by have := HKB.out; omega, by have := HKB.out; omega⟩) W); have NL := Aside0.mk (show NilL cx by rw [hcx_]; exact PS.zero_nil.set (by decide)); clear hcx_) | ((with_reducible refine gate_dst (N := 8) rfl ?_); refine ev_var (y := .tmp 19) rfl rfl rfl rfl rfl (M.out w0) rfl rfl ?_; intro gm w2 hg_ h1_ hb_; have HM1 := Aside0.mk hg_; have HM2 := Aside0.mk h1_; have HM3 := Aside0.mk hb_; clear h1_ hb_ hg_))
  go_upto_region 5 with (first | (go_at_call 20; (with_reducible refine (p_new A c l _ (Kd.C_below HR.out (H2.out.trans (HM3.out.mono H2.out.size))) HC.out HS.out HBB.out).mono ?_); rintro en w3 ⟨g, rfl, q1_, q2_, q3_, q4_⟩; have HP := Aside0.mk (St_first HG.out H1.out H2.out HM1.out HM2.out HM3.out M.out NL.out q1_ q2_ q3_); clear q1_ q2_ q3_ q4_ H1 H2 HG HM1 HM2 HM3))
  have H := Aside0.mk (PS.St.held HP.out)
  clear HP M NL
  go_wp2_with (first | ((with_reducible refine gate_dst (N := 23) rfl ?_); refine ev_build (zeroC) rfl (by go_simp; first | rfl | done) ?_; intro cx hcx_; have M := Aside0.mk (show ∀ W, IsMsg W cx _ from fun W => by rw [hcx_]; exact zero_is W); clear hcx_) | ((with_reducible refine gate_op (u := .store 30 (.tmp 6) (.tmp 23)) rfl ?_); refine ev_store rfl rfl rfl rfl H.out (i := 0) rfl (rfl) (M.out w0) ?_; intro w99 h3_ h4_; have n0_ := Aside0.mk (h3_); clear H; have H := n0_; clear n0_; clear h3_ h4_))
  refine bodyPost_ret (results_ct rfl _ _ gr 30 _ (0, 0) _ rfl (H.out.at 0 rfl) Try.underlying30 rfl (msg_info ((M.out w0).size))) rfl (⟨_, rfl, fun W' _ => M.out W', H.out.b⟩)
theorem parse_0_7 {A : Option Addr} {c : Nat} {l : List Int} {w0 : World} (hr : Kd.C (Kd.int .u8) w0 A l.length l) (hc : l.length ≤ c) (hs : l.length ≤ 1000000) (hb : isBytes l) :
    Calls Try.prog 12 #[.int .i64 0, .int .u8 7, .slice A l.length c] w0 fun en w' => ∃ cx, en = .returned (.tuple #[.agg cx, .int .i64 (parse 0 7 l).2]) ∧ Rob w0.heap.size w' cx (parse 0 7 l).1 ∧ Below w0.heap.size w0 w' := by
  have HR := Aside0.mk hr
  have HC := Aside0.mk hc
  have HS := Aside0.mk hs
  have HBB := Aside0.mk hb
  clear hr hc hs hb
  go_enter Try.func12, Try.ntmps12
  go_upto_region 3 with (first | ((with_reducible refine gate_dst (N := 6) rfl ?_); refine ev_alloc rfl rfl ?_; intro gr w1 hg_ h1_ h2_; have HG := Aside0.mk hg_; have H1 := Aside0.mk h1_; have H2 := Aside0.mk h2_; clear hg_ h1_ h2_))
  go_upto_region 4 with (first | ((with_reducible refine gate_dst (N := 19) rfl ?_); refine ev_build ((zeroC.setIfInBounds 0 (.int .u8 (7)))) rfl (by go_simp; first | rfl | done) ?_; intro cx hcx_; have M := Aside0.mk (show ∀ W, IsMsg W cx _ from fun W => by rw [hcx_]; exact (fun W => set_code (zero_is W) (v := 7) (by decide)) W); have NL := Aside0.mk (show NilL cx by rw [hcx_]; exact PS.zero_nil.set (by decide)); clear hcx_) | ((with_reducible refine gate_dst (N := 8) rfl ?_); refine ev_var (y := .tmp 19) rfl rfl rfl rfl rfl (M.out w0) rfl rfl ?_; intro gm w2 hg_ h1_ hb_; have HM1 := Aside0.mk hg_; have HM2 := Aside0.mk h1_; have HM3 := Aside0.mk hb_; clear h1_ hb_ hg_))
  go_upto_region 5 with (first | (go_at_call 20; (with_reducible refine (p_new A c l _ (Kd.C_below HR.out (H2.out.trans (HM3.out.mono H2.out.size))) HC.out HS.out HBB.out).mono ?_); rintro en w3 ⟨g, rfl, q1_, q2_, q3_, q4_⟩; have HP := Aside0.mk (St_first HG.out H1.out H2.out HM1.out HM2.out HM3.out M.out NL.out q1_ q2_ q3_); clear q1_ q2_ q3_ q4_ H1 H2 HG HM1 HM2 HM3))
  obtain ⟨m0, hm0⟩ : ∃ z, z = ({ zeroM with code := 7 } : Msg) := ⟨_, rfl⟩
  rw [← hm0] at HP
  have HM0 := Aside0.mk hm0
  have HMC := Aside0.mk (show m0.code = 7 by rw [hm0])
  clear hm0 M NL
  go_upto_region 15 with (fail)
  obtain ⟨c9, e9_⟩ : ∃ z, z = (⟨l, false, 0⟩ : Cu) := ⟨_, rfl⟩
  rw [← e9_] at HP
  have HP2 : Aside0 (PS.St w0 gr g gm _ c9 m0) := HP
  clear HP
  have HP := HP2
  clear HP2
  have e2 : bodyR 0 m0 (cu l) = (c9, m0) := by unfold bodyR; rw [if_neg (by have := HMC.out; omega), if_neg (by decide), e9_]; rfl
  clear e9_
  have E2 := Aside0.mk e2
  clear e2
  go_upto_region 16 with (first | (go_at_call 23; (with_reducible refine (PS.St.fin HP.out).mono ?_); rintro en x1 ⟨rfl, hp_⟩; obtain ⟨c10, ec_⟩ : ∃ z, z = c9.fin := ⟨_, rfl⟩; rw [← ec_] at hp_; have Ec10 := Aside0.mk ec_; clear ec_; have n0_ := Aside0.mk hp_; clear HP hp_; have HP := n0_; clear n0_))
  go_upto_region 17 with (first | (go_at_call 24; (with_reducible refine (PS.St.err HP.out).mono ?_); rintro en x2 ⟨rfl, hp_⟩; have n0_ := Aside0.mk hp_; clear HP hp_; have HP := n0_; clear n0_))
  have he1 : parse 0 7 l = if c10.e ≠ 0 then (zeroM, c10.e) else (m0, 0) := by
    unfold parse
    rw [if_neg (by decide), if_neg (by decide), ← HM0.out, E2.out, Ec10.out]
  by_cases h9 : c10.e = 0
  · have ex_ : parse 0 7 l = (m0, 0) := by rw [he1, if_neg (fun h => h h9)]
    have EX := Aside0.mk ex_
    have g1 : (c10.e != 0) = false := by rw [h9]; rfl
    have g2 : (c10.e == 0) = true := by rw [h9]; rfl
    clear h9 ex_ he1
    obtain ⟨cx, h_, hz_, hm_⟩ := PS.St.held3 HP.out
    have H := Aside0.mk h_
    have HZ := Aside0.mk hz_
    have HM := Aside0.mk hm_
    have HB := Aside0.mk HP.out.b
    clear h_ hz_ hm_ HP
    go_wp2_with (first | ((with_reducible refine gate_dst (N := 46) rfl ?_); refine ev_load (x := .tmp 8) rfl rfl rfl H.out (i := 1) rfl (HZ.out) ?_) | ((with_reducible refine gate_op (u := .store 30 (.tmp 6) (.tmp 46)) rfl ?_); refine ev_store rfl rfl rfl rfl H.out (i := 0) rfl rfl (HM.out _ ⟨rfl, rfl, rfl, Kept.refl _ _⟩).1 ?_; intro x91 h3_ h4_; have HE := Aside0.mk (HM.out _ h4_).2; clear h4_; have n0_ := Aside0.mk (h3_); clear H; have H := n0_; clear n0_; clear h3_))
    refine bodyPost_ret (results_ct rfl _ _ gr 30 _ (0, 0) _ rfl (H.out.at 0 rfl) Try.underlying30 rfl (msg_info (HZ.out))) rfl (by rw [EX.out]; exact ⟨_, rfl, HE.out, H.out.b⟩)
  · have ex_ : parse 0 7 l = (zeroM, c10.e) := by rw [he1, if_pos h9]
    have EX := Aside0.mk ex_
    have g1 : (c10.e != 0) = true := by simpa using h9
    have g2 : (c10.e == 0) = false := by simpa using h9
    clear h9 ex_ he1
    have H := Aside0.mk (PS.St.held HP.out)
    clear HP
    go_wp2_with (first | ((with_reducible refine gate_dst (N := 44) rfl ?_); refine ev_build (zeroC) rfl (by go_simp; first | rfl | done) ?_; intro cx hcx_; have M := Aside0.mk (show ∀ W, IsMsg W cx _ from fun W => by rw [hcx_]; exact zero_is W); clear hcx_) | ((with_reducible refine gate_op (u := .store 30 (.tmp 6) (.tmp 44)) rfl ?_); refine ev_store rfl rfl rfl rfl H.out (i := 0) rfl (rfl) (M.out w0) ?_; intro x90 h3_ h4_; have n0_ := Aside0.mk (h3_); clear H; have H := n0_; clear n0_; clear h3_ h4_))
    refine bodyPost_ret (results_ct rfl _ _ gr 30 _ (0, 0) _ rfl (H.out.at 0 rfl) Try.underlying30 rfl (msg_info ((M.out w0).size))) rfl (by rw [EX.out]; exact ⟨_, rfl, fun W' _ => M.out W', H.out.b⟩)
theorem parse_0_8 {A : Option Addr} {c : Nat} {l : List Int} {w0 : World} (hr : Kd.C (Kd.int .u8) w0 A l.length l) (hc : l.length ≤ c) (hs : l.length ≤ 1000000) (hb : isBytes l) :
    Calls Try.prog 12 #[.int .i64 0, .int .u8 8, .slice A l.length c] w0 fun en w' => ∃ cx, en = .returned (.tuple #[.agg cx, .int .i64 (parse 0 8 l).2]) ∧ Rob w0.heap.size w' cx (parse 0 8 l).1 ∧ Below w0.heap.size w0 w' := by
  have HR := Aside0.mk hr
  have HC := Aside0.mk hc
  have HS := Aside0.mk hs
  have HBB := Aside0.mk hb
  clear hr hc hs hb
  go_enter Try.func12, Try.ntmps12
  go_upto_region 3 with (first | ((with_reducible refine gate_dst (N := 6) rfl ?_); refine ev_alloc rfl rfl ?_; intro gr w1 hg_ h1_ h2_; have HG := Aside0.mk hg_; have H1 := Aside0.mk h1_; have H2 := Aside0.mk h2_; clear hg_ h1_ h2_))
  go_upto_region 4 with (first | ((with_reducible refine gate_dst (N := 19) rfl ?_); refine ev_build ((zeroC.setIfInBounds 0 (.int .u8 (8)))) rfl (by go_simp; first | rfl | done) ?_; intro cx hcx_; have M := Aside0.mk (show ∀ W, IsMsg W cx _ from fun W => by rw [hcx_]; exact (fun W => set_code (zero_is W) (v := 8) (by decide)) W); have NL := Aside0.mk (show NilL cx by rw [hcx_]; exact PS.zero_nil.set (by decide)); clear hcx_) | ((with_reducible refine gate_dst (N := 8) rfl ?_); refine ev_var (y := .tmp 19) rfl rfl rfl rfl rfl (M.out w0) rfl rfl ?_; intro gm w2 hg_ h1_ hb_; have HM1 := Aside0.mk hg_; have HM2 := Aside0.mk h1_; have HM3 := Aside0.mk hb_; clear h1_ hb_ hg_))
  go_upto_region 5 with (first | (go_at_call 20; (with_reducible refine (p_new A c l _ (Kd.C_below HR.out (H2.out.trans (HM3.out.mono H2.out.size))) HC.out HS.out HBB.out).mono ?_); rintro en w3 ⟨g, rfl, q1_, q2_, q3_, q4_⟩; have HP := Aside0.mk (St_first HG.out H1.out H2.out HM1.out HM2.out HM3.out M.out NL.out q1_ q2_ q3_); clear q1_ q2_ q3_ q4_ H1 H2 HG HM1 HM2 HM3))
  obtain ⟨m0, hm0⟩ : ∃ z, z = ({ zeroM with code := 8 } : Msg) := ⟨_, rfl⟩
  rw [← hm0] at HP
  have HM0 := Aside0.mk hm0
  have HMC := Aside0.mk (show m0.code = 8 by rw [hm0])
  clear hm0 M NL
  go_upto_region 15 with (first | (go_at_call 21; (with_reducible refine (line_0 HP.out).mono ?_); rintro en w6 ⟨rfl, hp_⟩; obtain ⟨cb, e_⟩ : ∃ z, z = lineR 0 m0 ⟨l, false, 0⟩ := ⟨_, rfl⟩; rw [← e_] at hp_; obtain ⟨c9, m9⟩ := cb; have EB := Aside0.mk e_; clear e_; have n0_ := Aside0.mk hp_; clear HP hp_; have HP := n0_; clear n0_))
  replace HP : Aside0 (PS.St w0 gr g gm w6 c9 m9) := HP
  have e2 : bodyR 0 m0 (cu l) = (c9, m9) := by unfold bodyR; rw [if_pos HMC.out, EB.out]; rfl
  have E2 := Aside0.mk e2
  clear e2
  go_upto_region 16 with (first | (go_at_call 23; (with_reducible refine (PS.St.fin HP.out).mono ?_); rintro en x1 ⟨rfl, hp_⟩; obtain ⟨c10, ec_⟩ : ∃ z, z = c9.fin := ⟨_, rfl⟩; rw [← ec_] at hp_; have Ec10 := Aside0.mk ec_; clear ec_; have n0_ := Aside0.mk hp_; clear HP hp_; have HP := n0_; clear n0_))
  go_upto_region 17 with (first | (go_at_call 24; (with_reducible refine (PS.St.err HP.out).mono ?_); rintro en x2 ⟨rfl, hp_⟩; have n0_ := Aside0.mk hp_; clear HP hp_; have HP := n0_; clear n0_))
  have he1 : parse 0 8 l = if c10.e ≠ 0 then (zeroM, c10.e) else (m9, 0) := by
    unfold parse
    rw [if_neg (by decide), if_neg (by decide), ← HM0.out, E2.out, Ec10.out]
  by_cases h9 : c10.e = 0
  · have ex_ : parse 0 8 l = (m9, 0) := by rw [he1, if_neg (fun h => h h9)]
    have EX := Aside0.mk ex_
    have g1 : (c10.e != 0) = false := by rw [h9]; rfl
    have g2 : (c10.e == 0) = true := by rw [h9]; rfl
    clear h9 ex_ he1
    obtain ⟨cx, h_, hz_, hm_⟩ := PS.St.held3 HP.out
    have H := Aside0.mk h_
    have HZ := Aside0.mk hz_
    have HM := Aside0.mk hm_
    have HB := Aside0.mk HP.out.b
    clear h_ hz_ hm_ HP
    go_wp2_with (first | ((with_reducible refine gate_dst (N := 46) rfl ?_); refine ev_load (x := .tmp 8) rfl rfl rfl H.out (i := 1) rfl (HZ.out) ?_) | ((with_reducible refine gate_op (u := .store 30 (.tmp 6) (.tmp 46)) rfl ?_); refine ev_store rfl rfl rfl rfl H.out (i := 0) rfl rfl (HM.out _ ⟨rfl, rfl, rfl, Kept.refl _ _⟩).1 ?_; intro x91 h3_ h4_; have HE := Aside0.mk (HM.out _ h4_).2; clear h4_; have n0_ := Aside0.mk (h3_); clear H; have H := n0_; clear n0_; clear h3_))
    refine bodyPost_ret (results_ct rfl _ _ gr 30 _ (0, 0) _ rfl (H.out.at 0 rfl) Try.underlying30 rfl (msg_info (HZ.out))) rfl (by rw [EX.out]; exact ⟨_, rfl, HE.out, H.out.b⟩)
  · have ex_ : parse 0 8 l = (zeroM, c10.e) := by rw [he1, if_pos h9]
    have EX := Aside0.mk ex_
    have g1 : (c10.e != 0) = true := by simpa using h9
    have g2 : (c10.e == 0) = false := by simpa using h9
    clear h9 ex_ he1
    have H := Aside0.mk (PS.St.held HP.out)
    clear HP
    go_wp2_with (first | ((with_reducible refine gate_dst (N := 44) rfl ?_); refine ev_build (zeroC) rfl (by go_simp; first | rfl | done) ?_; intro cx hcx_; have M := Aside0.mk (show ∀ W, IsMsg W cx _ from fun W => by rw [hcx_]; exact zero_is W); clear hcx_) | ((with_reducible refine gate_op (u := .store 30 (.tmp 6) (.tmp 44)) rfl ?_); refine ev_store rfl rfl rfl rfl H.out (i := 0) rfl (rfl) (M.out w0) ?_; intro x90 h3_ h4_; have n0_ := Aside0.mk (h3_); clear H; have H := n0_; clear n0_; clear h3_ h4_))
    refine bodyPost_ret (results_ct rfl _ _ gr 30 _ (0, 0) _ rfl (H.out.at 0 rfl) Try.underlying30 rfl (msg_info ((M.out w0).size))) rfl (by rw [EX.out]; exact ⟨_, rfl, fun W' _ => M.out W', H.out.b⟩)
theorem parse_0_11 {A : Option Addr} {c : Nat} {l : List Int} {w0 : World} (hr : Kd.C (Kd.int .u8) w0 A l.length l) (hc : l.length ≤ c) (hs : l.length ≤ 1000000) (hb : isBytes l) :
    Calls Try.prog 12 #[.int .i64 0, .int .u8 11, .slice A l.length c] w0 fun en w' => ∃ cx, en = .returned (.tuple #[.agg cx, .int .i64 (parse 0 11 l).2]) ∧ Rob w0.heap.size w' cx (parse 0 11 l).1 ∧ Below w0.heap.size w0 w' := by
  have HR := Aside0.mk hr
  have HC := Aside0.mk hc
  have HS := Aside0.mk hs
  have HBB := Aside0.mk hb
  clear hr hc hs hb
  go_enter Try.func12, Try.ntmps12
  go_upto_region 3 with (first | ((with_reducible refine gate_dst (N := 6) rfl ?_); refine ev_alloc rfl rfl ?_; intro gr w1 hg_ h1_ h2_; have HG := Aside0.mk hg_; have H1 := Aside0.mk h1_; have H2 := Aside0.mk h2_; clear hg_ h1_ h2_))
  go_upto_region 4 with (first | ((with_reducible refine gate_dst (N := 19) rfl ?_); refine ev_build ((zeroC.setIfInBounds 0 (.int .u8 (11)))) rfl (by go_simp; first | rfl | done) ?_; intro cx hcx_; have M := Aside0.mk (show ∀ W, IsMsg W cx _ from fun W => by rw [hcx_]; exact (fun W => set_code (zero_is W) (v := 11) (by decide)) W); have NL := Aside0.mk (show NilL cx by rw [hcx_]; exact PS.zero_nil.set (by decide)); clear hcx_) | ((with_reducible refine gate_dst (N := 8) rfl ?_); refine ev_var (y := .tmp 19) rfl rfl rfl rfl rfl (M.out w0) rfl rfl ?_; intro gm w2 hg_ h1_ hb_; have HM1 := Aside0.mk hg_; have HM2 := Aside0.mk h1_; have HM3 := Aside0.mk hb_; clear h1_ hb_ hg_))
  go_upto_region 5 with (first | (go_at_call 20; (with_reducible refine (p_new A c l _ (Kd.C_below HR.out (H2.out.trans (HM3.out.mono H2.out.size))) HC.out HS.out HBB.out).mono ?_); rintro en w3 ⟨g, rfl, q1_, q2_, q3_, q4_⟩; have HP := Aside0.mk (St_first HG.out H1.out H2.out HM1.out HM2.out HM3.out M.out NL.out q1_ q2_ q3_); clear q1_ q2_ q3_ q4_ H1 H2 HG HM1 HM2 HM3))
  obtain ⟨m0, hm0⟩ : ∃ z, z = ({ zeroM with code := 11 } : Msg) := ⟨_, rfl⟩
  rw [← hm0] at HP
  have HM0 := Aside0.mk hm0
  have HMC := Aside0.mk (show m0.code = 11 by rw [hm0])
  clear hm0 M NL
  go_upto_region 15 with (fail)
  obtain ⟨c9, e9_⟩ : ∃ z, z = (⟨l, false, 0⟩ : Cu) := ⟨_, rfl⟩
  rw [← e9_] at HP
  have HP2 : Aside0 (PS.St w0 gr g gm _ c9 m0) := HP
  clear HP
  have HP := HP2
  clear HP2
  have e2 : bodyR 0 m0 (cu l) = (c9, m0) := by unfold bodyR; rw [if_neg (by have := HMC.out; omega), if_neg (by decide), e9_]; rfl
  clear e9_
  have E2 := Aside0.mk e2
  clear e2
  go_upto_region 16 with (first | (go_at_call 23; (with_reducible refine (PS.St.fin HP.out).mono ?_); rintro en x1 ⟨rfl, hp_⟩; obtain ⟨c10, ec_⟩ : ∃ z, z = c9.fin := ⟨_, rfl⟩; rw [← ec_] at hp_; have Ec10 := Aside0.mk ec_; clear ec_; have n0_ := Aside0.mk hp_; clear HP hp_; have HP := n0_; clear n0_))
  go_upto_region 17 with (first | (go_at_call 24; (with_reducible refine (PS.St.err HP.out).mono ?_); rintro en x2 ⟨rfl, hp_⟩; have n0_ := Aside0.mk hp_; clear HP hp_; have HP := n0_; clear n0_))
  have he1 : parse 0 11 l = if c10.e ≠ 0 then (zeroM, c10.e) else (m0, 0) := by
    unfold parse
    rw [if_neg (by decide), if_neg (by decide), ← HM0.out, E2.out, Ec10.out]
  by_cases h9 : c10.e = 0
  · have ex_ : parse 0 11 l = (m0, 0) := by rw [he1, if_neg (fun h => h h9)]
    have EX := Aside0.mk ex_
    have g1 : (c10.e != 0) = false := by rw [h9]; rfl
    have g2 : (c10.e == 0) = true := by rw [h9]; rfl
    clear h9 ex_ he1
    obtain ⟨cx, h_, hz_, hm_⟩ := PS.St.held3 HP.out
    have H := Aside0.mk h_
    have HZ := Aside0.mk hz_
    have HM := Aside0.mk hm_
    have HB := Aside0.mk HP.out.b
    clear h_ hz_ hm_ HP
    go_wp2_with (first | ((with_reducible refine gate_dst (N := 46) rfl ?_); refine ev_load (x := .tmp 8) rfl rfl rfl H.out (i := 1) rfl (HZ.out) ?_) | ((with_reducible refine gate_op (u := .store 30 (.tmp 6) (.tmp 46)) rfl ?_); refine ev_store rfl rfl rfl rfl H.out (i := 0) rfl rfl (HM.out _ ⟨rfl, rfl, rfl, Kept.refl _ _⟩).1 ?_; intro x91 h3_ h4_; have HE := Aside0.mk (HM.out _ h4_).2; clear h4_; have n0_ := Aside0.mk (h3_); clear H; have H := n0_; clear n0_; clear h3_))
    refine bodyPost_ret (results_ct rfl _ _ gr 30 _ (0, 0) _ rfl (H.out.at 0 rfl) Try.underlying30 rfl (msg_info (HZ.out))) rfl (by rw [EX.out]; exact ⟨_, rfl, HE.out, H.out.b⟩)
  · have ex_ : parse 0 11 l = (zeroM, c10.e) := by rw [he1, if_pos h9]
    have EX := Aside0.mk ex_
    have g1 : (c10.e != 0) = true := by simpa using h9
    have g2 : (c10.e == 0) = false := by simpa using h9
    clear h9 ex_ he1
    have H := Aside0.mk (PS.St.held HP.out)
    clear HP
    go_wp2_with (first | ((with_reducible refine gate_dst (N := 44) rfl ?_); refine ev_build (zeroC) rfl (by go_simp; first | rfl | done) ?_; intro cx hcx_; have M := Aside0.mk (show ∀ W, IsMsg W cx _ from fun W => by rw [hcx_]; exact zero_is W); clear hcx_) | ((with_reducible refine gate_op (u := .store 30 (.tmp 6) (.tmp 44)) rfl ?_); refine ev_store rfl rfl rfl rfl H.out (i := 0) rfl (rfl) (M.out w0) ?_; intro x90 h3_ h4_; have n0_ := Aside0.mk (h3_); clear H; have H := n0_; clear n0_; clear h3_ h4_))
    refine bodyPost_ret (results_ct rfl _ _ gr 30 _ (0, 0) _ rfl (H.out.at 0 rfl) Try.underlying30 rfl (msg_info ((M.out w0).size))) rfl (by rw [EX.out]; exact ⟨_, rfl, fun W' _ => M.out W', H.out.b⟩)
theorem parse_0_12 {A : Option Addr} {c : Nat} {l : List Int} {w0 : World} (hr : Kd.C (Kd.int .u8) w0 A l.length l) (hc : l.length ≤ c) (hs : l.length ≤ 1000000) (hb : isBytes l) :
    Calls Try.prog 12 #[.int .i64 0, .int .u8 12, .slice A l.length c] w0 fun en w' => ∃ cx, en = .returned (.tuple #[.agg cx, .int .i64 (parse 0 12 l).2]) ∧ Rob w0.heap.size w' cx (parse 0 12 l).1 ∧ Below w0.heap.size w0 w' := by
  have HR := Aside0.mk hr
  have HC := Aside0.mk hc
  have HS := Aside0.mk hs
  have HBB := Aside0.mk hb
  clear hr hc hs hb
  go_enter Try.func12, Try.ntmps12
  go_upto_region 3 with (first | ((with_reducible refine gate_dst (N := 6) rfl ?_); refine ev_alloc rfl rfl ?_; intro gr w1 hg_ h1_ h2_; have HG := Aside0.mk hg_; have H1 := Aside0.mk h1_; have H2 := Aside0.mk h2_; clear hg_ h1_ h2_))
  go_upto_region 4 with (first | ((with_reducible refine gate_dst (N := 19) rfl ?_); refine ev_build ((zeroC.setIfInBounds 0 (.int .u8 (12)))) rfl (by go_simp; first | rfl | done) ?_; intro cx hcx_; have M := Aside0.mk (show ∀ W, IsMsg W cx _ from fun W => by rw [hcx_]; exact (fun W => set_code (zero_is W) (v := 12) (by decide)) W); have NL := Aside0.mk (show NilL cx by rw [hcx_]; exact PS.zero_nil.set (by decide)); clear hcx_) | ((with_reducible refine gate_dst (N := 8) rfl ?_); refine ev_var (y := .tmp 19) rfl rfl rfl rfl rfl (M.out w0) rfl rfl ?_; intro gm w2 hg_ h1_ hb_; have HM1 := Aside0.mk hg_; have HM2 := Aside0.mk h1_; have HM3 := Aside0.mk hb_; clear h1_ hb_ hg_))
  go_upto_region 5 with (first | (go_at_call 20; (with_reducible refine (p_new A c l _ (Kd.C_below HR.out (H2.out.trans (HM3.out.mono H2.out.size))) HC.out HS.out HBB.out).mono ?_); rintro en w3 ⟨g, rfl, q1_, q2_, q3_, q4_⟩; have HP := Aside0.mk (St_first HG.out H1.out H2.out HM1.out HM2.out HM3.out M.out NL.out q1_ q2_ q3_); clear q1_ q2_ q3_ q4_ H1 H2 HG HM1 HM2 HM3))
  obtain ⟨m0, hm0⟩ : ∃ z, z = ({ zeroM with code := 12 } : Msg) := ⟨_, rfl⟩
  rw [← hm0] at HP
  have HM0 := Aside0.mk hm0
  have HMC := Aside0.mk (show m0.code = 12 by rw [hm0])
  clear hm0 M NL
  go_upto_region 15 with (fail)
  obtain ⟨c9, e9_⟩ : ∃ z, z = (⟨l, false, 0⟩ : Cu) := ⟨_, rfl⟩
  rw [← e9_] at HP
  have HP2 : Aside0 (PS.St w0 gr g gm _ c9 m0) := HP
  clear HP
  have HP := HP2
  clear HP2
  have e2 : bodyR 0 m0 (cu l) = (c9, m0) := by unfold bodyR; rw [if_neg (by have := HMC.out; omega), if_neg (by decide), e9_]; rfl
  clear e9_
  have E2 := Aside0.mk e2
  clear e2
  go_upto_region 16 with (first | (go_at_call 23; (with_reducible refine (PS.St.fin HP.out).mono ?_); rintro en x1 ⟨rfl, hp_⟩; obtain ⟨c10, ec_⟩ : ∃ z, z = c9.fin := ⟨_, rfl⟩; rw [← ec_] at hp_; have Ec10 := Aside0.mk ec_; clear ec_; have n0_ := Aside0.mk hp_; clear HP hp_; have HP := n0_; clear n0_))
  go_upto_region 17 with (first | (go_at_call 24; (with_reducible refine (PS.St.err HP.out).mono ?_); rintro en x2 ⟨rfl, hp_⟩; have n0_ := Aside0.mk hp_; clear HP hp_; have HP := n0_; clear n0_))
  have he1 : parse 0 12 l = if c10.e ≠ 0 then (zeroM, c10.e) else (m0, 0) := by
    unfold parse
    rw [if_neg (by decide), if_neg (by decide), ← HM0.out, E2.out, Ec10.out]
  by_cases h9 : c10.e = 0
  · have ex_ : parse 0 12 l = (m0, 0) := by rw [he1, if_neg (fun h => h h9)]
    have EX := Aside0.mk ex_
    have g1 : (c10.e != 0) = false := by rw [h9]; rfl
    have g2 : (c10.e == 0) = true := by rw [h9]; rfl
    clear h9 ex_ he1
    obtain ⟨cx, h_, hz_, hm_⟩ := PS.St.held3 HP.out
    have H := Aside0.mk h_
    have HZ := Aside0.mk hz_
    have HM := Aside0.mk hm_
    have HB := Aside0.mk HP.out.b
    clear h_ hz_ hm_ HP
    go_wp2_with (first | ((with_reducible refine gate_dst (N := 46) rfl ?_); refine ev_load (x := .tmp 8) rfl rfl rfl H.out (i := 1) rfl (HZ.out) ?_) | ((with_reducible refine gate_op (u := .store 30 (.tmp 6) (.tmp 46)) rfl ?_); refine ev_store rfl rfl rfl rfl H.out (i := 0) rfl rfl (HM.out _ ⟨rfl, rfl, rfl, Kept.refl _ _⟩).1 ?_; intro x91 h3_ h4_; have HE := Aside0.mk (HM.out _ h4_).2; clear h4_; have n0_ := Aside0.mk (h3_); clear H; have H := n0_; clear n0_; clear h3_))
    refine bodyPost_ret (results_ct rfl _ _ gr 30 _ (0, 0) _ rfl (H.out.at 0 rfl) Try.underlying30 rfl (msg_info (HZ.out))) rfl (by rw [EX.out]; exact ⟨_, rfl, HE.out, H.out.b⟩)
  · have ex_ : parse 0 12 l = (zeroM, c10.e) := by rw [he1, if_pos h9]
    have EX := Aside0.mk ex_
    have g1 : (c10.e != 0) = true := by simpa using h9
    have g2 : (c10.e == 0) = false := by simpa using h9
    clear h9 ex_ he1
    have H := Aside0.mk (PS.St.held HP.out)
    clear HP
    go_wp2_with (first | ((with_reducible refine gate_dst (N := 44) rfl ?_); refine ev_build (zeroC) rfl (by go_simp; first | rfl | done) ?_; intro cx hcx_; have M := Aside0.mk (show ∀ W, IsMsg W cx _ from fun W => by rw [hcx_]; exact zero_is W); clear hcx_) | ((with_reducible refine gate_op (u := .store 30 (.tmp 6) (.tmp 44)) rfl ?_); refine ev_store rfl rfl rfl rfl H.out (i := 0) rfl (rfl) (M.out w0) ?_; intro x90 h3_ h4_; have n0_ := Aside0.mk (h3_); clear H; have H := n0_; clear n0_; clear h3_ h4_))
    refine bodyPost_ret (results_ct rfl _ _ gr 30 _ (0, 0) _ rfl (H.out.at 0 rfl) Try.underlying30 rfl (msg_info ((M.out w0).size))) rfl (by rw [EX.out]; exact ⟨_, rfl, fun W' _ => M.out W', H.out.b⟩)
theorem parse_0_17 {A : Option Addr} {c : Nat} {l : List Int} {w0 : World} (hr : Kd.C (Kd.int .u8) w0 A l.length l) (hc : l.length ≤ c) (hs : l.length ≤ 1000000) (hb : isBytes l) :
    Calls Try.prog 12 #[.int .i64 0, .int .u8 17, .slice A l.length c] w0 fun en w' => ∃ cx, en = .returned (.tuple #[.agg cx, .int .i64 (parse 0 17 l).2]) ∧ Rob w0.heap.size w' cx (parse 0 17 l).1 ∧ Below w0.heap.size w0 w' := by
  have HR := Aside0.mk hr
  have HC := Aside0.mk hc
  have HS := Aside0.mk hs
  have HBB := Aside0.mk hb
  clear hr hc hs hb
  go_enter Try.func12, Try.ntmps12
  go_upto_region 3 with (first | ((with_reducible refine gate_dst (N := 6) rfl ?_); refine ev_alloc rfl rfl ?_; intro gr w1 hg_ h1_ h2_; have HG := Aside0.mk hg_; have H1 := Aside0.mk h1_; have H2 := Aside0.mk h2_; clear hg_ h1_ h2_))
  go_upto_region 4 with (first | ((with_reducible refine gate_dst (N := 19) rfl ?_); refine ev_build ((zeroC.setIfInBounds 0 (.int .u8 (17)))) rfl (by go_simp; first | rfl | done) ?_; intro cx hcx_; have M := Aside0.mk (show ∀ W, IsMsg W cx _ from fun W => by rw [hcx_]; exact (fun W => set_code (zero_is W) (v := 17) (by decide)) W); have NL := Aside0.mk (show NilL cx by rw [hcx_]; exact PS.zero_nil.set (by decide)); clear hcx_) | ((with_reducible refine gate_dst (N := 8) rfl ?_); refine ev_var (y := .tmp 19) rfl rfl rfl rfl rfl (M.out w0) rfl rfl ?_; intro gm w2 hg_ h1_ hb_; have HM1 := Aside0.mk hg_; have HM2 := Aside0.mk h1_; have HM3 := Aside0.mk hb_; clear h1_ hb_ hg_))
  go_upto_region 5 with (first | (go_at_call 20; (with_reducible refine (p_new A c l _ (Kd.C_below HR.out (H2.out.trans (HM3.out.mono H2.out.size))) HC.out HS.out HBB.out).mono ?_); rintro en w3 ⟨g, rfl, q1_, q2_, q3_, q4_⟩; have HP := Aside0.mk (St_first HG.out H1.out H2.out HM1.out HM2.out HM3.out M.out NL.out q1_ q2_ q3_); clear q1_ q2_ q3_ q4_ H1 H2 HG HM1 HM2 HM3))
  obtain ⟨m0, hm0⟩ : ∃ z, z = ({ zeroM with code := 17 } : Msg) := ⟨_, rfl⟩
  rw [← hm0] at HP
  have HM0 := Aside0.mk hm0
  have HMC := Aside0.mk (show m0.code = 17 by rw [hm0])
  clear hm0 M NL
  go_upto_region 15 with (fail)
  obtain ⟨c9, e9_⟩ : ∃ z, z = (⟨l, false, 0⟩ : Cu) := ⟨_, rfl⟩
  rw [← e9_] at HP
  have HP2 : Aside0 (PS.St w0 gr g gm _ c9 m0) := HP
  clear HP
  have HP := HP2
  clear HP2
  have e2 : bodyR 0 m0 (cu l) = (c9, m0) := by unfold bodyR; rw [if_neg (by have := HMC.out; omega), if_neg (by decide), e9_]; rfl
  clear e9_
  have E2 := Aside0.mk e2
  clear e2
  go_upto_region 16 with (first | (go_at_call 23; (with_reducible refine (PS.St.fin HP.out).mono ?_); rintro en x1 ⟨rfl, hp_⟩; obtain ⟨c10, ec_⟩ : ∃ z, z = c9.fin := ⟨_, rfl⟩; rw [← ec_] at hp_; have Ec10 := Aside0.mk ec_; clear ec_; have n0_ := Aside0.mk hp_; clear HP hp_; have HP := n0_; clear n0_))
  go_upto_region 17 with (first | (go_at_call 24; (with_reducible refine (PS.St.err HP.out).mono ?_); rintro en x2 ⟨rfl, hp_⟩; have n0_ := Aside0.mk hp_; clear HP hp_; have HP := n0_; clear n0_))
  have he1 : parse 0 17 l = if c10.e ≠ 0 then (zeroM, c10.e) else (m0, 0) := by
    unfold parse
    rw [if_neg (by decide), if_neg (by decide), ← HM0.out, E2.out, Ec10.out]
  by_cases h9 : c10.e = 0
  · have ex_ : parse 0 17 l = (m0, 0) := by rw [he1, if_neg (fun h => h h9)]
    have EX := Aside0.mk ex_
    have g1 : (c10.e != 0) = false := by rw [h9]; rfl
    have g2 : (c10.e == 0) = true := by rw [h9]; rfl
    clear h9 ex_ he1
    obtain ⟨cx, h_, hz_, hm_⟩ := PS.St.held3 HP.out
    have H := Aside0.mk h_
    have HZ := Aside0.mk hz_
    have HM := Aside0.mk hm_
    have HB := Aside0.mk HP.out.b
    clear h_ hz_ hm_ HP
    go_wp2_with (first | ((with_reducible refine gate_dst (N := 46) rfl ?_); refine ev_load (x := .tmp 8) rfl rfl rfl H.out (i := 1) rfl (HZ.out) ?_) | ((with_reducible refine gate_op (u := .store 30 (.tmp 6) (.tmp 46)) rfl ?_); refine ev_store rfl rfl rfl rfl H.out (i := 0) rfl rfl (HM.out _ ⟨rfl, rfl, rfl, Kept.refl _ _⟩).1 ?_; intro x91 h3_ h4_; have HE := Aside0.mk (HM.out _ h4_).2; clear h4_; have n0_ := Aside0.mk (h3_); clear H; have H := n0_; clear n0_; clear h3_))
    refine bodyPost_ret (results_ct rfl _ _ gr 30 _ (0, 0) _ rfl (H.out.at 0 rfl) Try.underlying30 rfl (msg_info (HZ.out))) rfl (by rw [EX.out]; exact ⟨_, rfl, HE.out, H.out.b⟩)
  · have ex_ : parse 0 17 l = (zeroM, c10.e) := by rw [he1, if_pos h9]
    have EX := Aside0.mk ex_
    have g1 : (c10.e != 0) = true := by simpa using h9
    have g2 : (c10.e == 0) = false := by simpa using h9
    clear h9 ex_ he1
    have H := Aside0.mk (PS.St.held HP.out)
    clear HP
    go_wp2_with (first | ((with_reducible refine gate_dst (N := 44) rfl ?_); refine ev_build (zeroC) rfl (by go_simp; first | rfl | done) ?_; intro cx hcx_; have M := Aside0.mk (show ∀ W, IsMsg W cx _ from fun W => by rw [hcx_]; exact zero_is W); clear hcx_) | ((with_reducible refine gate_op (u := .store 30 (.tmp 6) (.tmp 44)) rfl ?_); refine ev_store rfl rfl rfl rfl H.out (i := 0) rfl (rfl) (M.out w0) ?_; intro x90 h3_ h4_; have n0_ := Aside0.mk (h3_); clear H; have H := n0_; clear n0_; clear h3_ h4_))
    refine bodyPost_ret (results_ct rfl _ _ gr 30 _ (0, 0) _ rfl (H.out.at 0 rfl) Try.underlying30 rfl (msg_info ((M.out w0).size))) rfl (by rw [EX.out]; exact ⟨_, rfl, fun W' _ => M.out W', H.out.b⟩)
theorem parse_no1 {A : Option Addr} {c : Nat} {l : List Int} {w0 : World} (hr : Kd.C (Kd.int .u8) w0 A l.length l) (hc : l.length ≤ c) (hs : l.length ≤ 1000000) (hb : isBytes l) {code : Int} (hcd : 0 ≤ code ∧ code < 256) (hk : ¬ isCode code) :
    Calls Try.prog 12 #[.int .i64 1, .int .u8 code, .slice A l.length c] w0 fun en w' => ∃ cx, en = .returned (.tuple #[.agg cx, .int .i64 4]) ∧ Rob w0.heap.size w' cx zeroM ∧ Below w0.heap.size w0 w' := by
  have HR := Aside0.mk hr
  have HC := Aside0.mk hc
  have HS := Aside0.mk hs
  have HBB := Aside0.mk hb
  clear hr hc hs hb
  have HKB := Aside0.mk hcd
  clear hcd
  have b7 : (code == 7) = false := beq_eq_false_iff_ne.2 (fun e => hk (by unfold isCode; omega))
  have c7 : (code != 7) = true := by rw [bne, b7]; rfl
  have b8 : (code == 8) = false := beq_eq_false_iff_ne.2 (fun e => hk (by unfold isCode; omega))
  have c8 : (code != 8) = true := by rw [bne, b8]; rfl
  have b11 : (code == 11) = false := beq_eq_false_iff_ne.2 (fun e => hk (by unfold isCode; omega))
  have c11 : (code != 11) = true := by rw [bne, b11]; rfl
  have b12 : (code == 12) = false := beq_eq_false_iff_ne.2 (fun e => hk (by unfold isCode; omega))
  have c12 : (code != 12) = true := by rw [bne, b12]; rfl
  have b17 : (code == 17) = false := beq_eq_false_iff_ne.2 (fun e => hk (by unfold isCode; omega))
  have c17 : (code != 17) = true := by rw [bne, b17]; rfl
  clear hk
  go_enter Try.func12, Try.ntmps12
  go_upto_region 3 with (first | ((with_reducible refine gate_dst (N := 6) rfl ?_); refine ev_alloc rfl rfl ?_; intro gr w1 hg_ h1_ h2_; have HG := Aside0.mk hg_; have H1 := Aside0.mk h1_; have H2 := Aside0.mk h2_; clear hg_ h1_ h2_))
  go_upto_region 4 with (first | ((with_reducible refine gate_dst (N := 19) rfl ?_); refine ev_build ((zeroC.setIfInBounds 0 (.int .u8 (code)))) rfl (by go_simp; first | rfl | done) ?_; intro cx hcx_; have M := Aside0.mk (show ∀ W, IsMsg W cx _ from fun W => by rw [hcx_]; exact (fun W => set_code (zero_is W) (v := code) ⟨by have := HKB.out; omega, by have := HKB.out; omega⟩) W); have NL := Aside0.mk (show NilL cx by rw [hcx_]; exact PS.zero_nil.set (by decide)); clear hcx_) | ((with_reducible refine gate_dst (N := 8) rfl ?_); refine ev_var (y := .tmp 19) rfl rfl rfl rfl rfl (M.out w0) rfl rfl ?_; intro gm w2 hg_ h1_ hb_; have HM1 := Aside0.mk hg_; have HM2 := Aside0.mk h1_; have HM3 := Aside0.mk hb_; clear h1_ hb_ hg_))
  go_upto_region 5 with (first | (go_at_call 20; (with_reducible refine (p_new A c l _ (Kd.C_below HR.out (H2.out.trans (HM3.out.mono H2.out.size))) HC.out HS.out HBB.out).mono ?_); rintro en w3 ⟨g, rfl, q1_, q2_, q3_, q4_⟩; have HP := Aside0.mk (St_first HG.out H1.out H2.out HM1.out HM2.out HM3.out M.out NL.out q1_ q2_ q3_); clear q1_ q2_ q3_ q4_ H1 H2 HG HM1 HM2 HM3))
  have H := Aside0.mk (PS.St.held HP.out)
  clear HP M NL
  go_wp2_with (first | ((with_reducible refine gate_dst (N := 23) rfl ?_); refine ev_build (zeroC) rfl (by go_simp; first | rfl | done) ?_; intro cx hcx_; have M := Aside0.mk (show ∀ W, IsMsg W cx _ from fun W => by rw [hcx_]; exact zero_is W); clear hcx_) | ((with_reducible refine gate_op (u := .store 30 (.tmp 6) (.tmp 23)) rfl ?_); refine ev_store rfl rfl rfl rfl H.out (i := 0) rfl (rfl) (M.out w0) ?_; intro w99 h3_ h4_; have n0_ := Aside0.mk (h3_); clear H; have H := n0_; clear n0_; clear h3_ h4_))
  refine bodyPost_ret (results_ct rfl _ _ gr 30 _ (0, 0) _ rfl (H.out.at 0 rfl) Try.underlying30 rfl (msg_info ((M.out w0).size))) rfl (⟨_, rfl, fun W' _ => M.out W', H.out.b⟩)
theorem parse_1_7 {A : Option Addr} {c : Nat} {l : List Int} {w0 : World} (hr : Kd.C (Kd.int .u8) w0 A l.length l) (hc : l.length ≤ c) (hs : l.length ≤ 1000000) (hb : isBytes l) :
    Calls Try.prog 12 #[.int .i64 1, .int .u8 7, .slice A l.length c] w0 fun en w' => ∃ cx, en = .returned (.tuple #[.agg cx, .int .i64 (parse 1 7 l).2]) ∧ Rob w0.heap.size w' cx (parse 1 7 l).1 ∧ Below w0.heap.size w0 w' := by
  have HR := Aside0.mk hr
  have HC := Aside0.mk hc
  have HS := Aside0.mk hs
  have HBB := Aside0.mk hb
  clear hr hc hs hb
  go_enter Try.func12, Try.ntmps12
  go_upto_region 3 with (first | ((with_reducible refine gate_dst (N := 6) rfl ?_); refine ev_alloc rfl rfl ?_; intro gr w1 hg_ h1_ h2_; have HG := Aside0.mk hg_; have H1 := Aside0.mk h1_; have H2 := Aside0.mk h2_; clear hg_ h1_ h2_))
  go_upto_region 4 with (first | ((with_reducible refine gate_dst (N := 19) rfl ?_); refine ev_build ((zeroC.setIfInBounds 0 (.int .u8 (7)))) rfl (by go_simp; first | rfl | done) ?_; intro cx hcx_; have M := Aside0.mk (show ∀ W, IsMsg W cx _ from fun W => by rw [hcx_]; exact (fun W => set_code (zero_is W) (v := 7) (by decide)) W); have NL := Aside0.mk (show NilL cx by rw [hcx_]; exact PS.zero_nil.set (by decide)); clear hcx_) | ((with_reducible refine gate_dst (N := 8) rfl ?_); refine ev_var (y := .tmp 19) rfl rfl rfl rfl rfl (M.out w0) rfl rfl ?_; intro gm w2 hg_ h1_ hb_; have HM1 := Aside0.mk hg_; have HM2 := Aside0.mk h1_; have HM3 := Aside0.mk hb_; clear h1_ hb_ hg_))
  go_upto_region 5 with (first | (go_at_call 20; (with_reducible refine (p_new A c l _ (Kd.C_below HR.out (H2.out.trans (HM3.out.mono H2.out.size))) HC.out HS.out HBB.out).mono ?_); rintro en w3 ⟨g, rfl, q1_, q2_, q3_, q4_⟩; have HP := Aside0.mk (St_first HG.out H1.out H2.out HM1.out HM2.out HM3.out M.out NL.out q1_ q2_ q3_); clear q1_ q2_ q3_ q4_ H1 H2 HG HM1 HM2 HM3))
  obtain ⟨m0, hm0⟩ : ∃ z, z = ({ zeroM with code := 7 } : Msg) := ⟨_, rfl⟩
  rw [← hm0] at HP
  have HM0 := Aside0.mk hm0
  have HMC := Aside0.mk (show m0.code = 7 by rw [hm0])
  clear hm0 M NL
  go_upto_region 15 with (first | (go_at_call 22; (with_reducible refine (answer_7 HP.out HMC.out).mono ?_); rintro en w6 ⟨rfl, hp_⟩; obtain ⟨cb, e_⟩ : ∃ z, z = ansR m0 ⟨l, false, 0⟩ := ⟨_, rfl⟩; rw [← e_] at hp_; obtain ⟨c9, m9⟩ := cb; have EB := Aside0.mk e_; clear e_; have n0_ := Aside0.mk hp_; clear HP hp_; have HP := n0_; clear n0_))
  replace HP : Aside0 (PS.St w0 gr g gm w6 c9 m9) := HP
  have e2 : bodyR 1 m0 (cu l) = (c9, m9) := by unfold bodyR; rw [if_neg (by have := HMC.out; omega), if_pos rfl, EB.out]; rfl
  have E2 := Aside0.mk e2
  clear e2
  go_upto_region 16 with (first | (go_at_call 23; (with_reducible refine (PS.St.fin HP.out).mono ?_); rintro en x1 ⟨rfl, hp_⟩; obtain ⟨c10, ec_⟩ : ∃ z, z = c9.fin := ⟨_, rfl⟩; rw [← ec_] at hp_; have Ec10 := Aside0.mk ec_; clear ec_; have n0_ := Aside0.mk hp_; clear HP hp_; have HP := n0_; clear n0_))
  go_upto_region 17 with (first | (go_at_call 24; (with_reducible refine (PS.St.err HP.out).mono ?_); rintro en x2 ⟨rfl, hp_⟩; have n0_ := Aside0.mk hp_; clear HP hp_; have HP := n0_; clear n0_))
  have he1 : parse 1 7 l = if c10.e ≠ 0 then (zeroM, c10.e) else (m9, 0) := by
    unfold parse
    rw [if_neg (by decide), if_neg (by decide), ← HM0.out, E2.out, Ec10.out]
  by_cases h9 : c10.e = 0
  · have ex_ : parse 1 7 l = (m9, 0) := by rw [he1, if_neg (fun h => h h9)]
    have EX := Aside0.mk ex_
    have g1 : (c10.e != 0) = false := by rw [h9]; rfl
    have g2 : (c10.e == 0) = true := by rw [h9]; rfl
    clear h9 ex_ he1
    obtain ⟨cx, h_, hz_, hm_⟩ := PS.St.held3 HP.out
    have H := Aside0.mk h_
    have HZ := Aside0.mk hz_
    have HM := Aside0.mk hm_
    have HB := Aside0.mk HP.out.b
    clear h_ hz_ hm_ HP
    go_wp2_with (first | ((with_reducible refine gate_dst (N := 46) rfl ?_); refine ev_load (x := .tmp 8) rfl rfl rfl H.out (i := 1) rfl (HZ.out) ?_) | ((with_reducible refine gate_op (u := .store 30 (.tmp 6) (.tmp 46)) rfl ?_); refine ev_store rfl rfl rfl rfl H.out (i := 0) rfl rfl (HM.out _ ⟨rfl, rfl, rfl, Kept.refl _ _⟩).1 ?_; intro x91 h3_ h4_; have HE := Aside0.mk (HM.out _ h4_).2; clear h4_; have n0_ := Aside0.mk (h3_); clear H; have H := n0_; clear n0_; clear h3_))
    refine bodyPost_ret (results_ct rfl _ _ gr 30 _ (0, 0) _ rfl (H.out.at 0 rfl) Try.underlying30 rfl (msg_info (HZ.out))) rfl (by rw [EX.out]; exact ⟨_, rfl, HE.out, H.out.b⟩)
  · have ex_ : parse 1 7 l = (zeroM, c10.e) := by rw [he1, if_pos h9]
    have EX := Aside0.mk ex_
    have g1 : (c10.e != 0) = true := by simpa using h9
    have g2 : (c10.e == 0) = false := by simpa using h9
    clear h9 ex_ he1
    have H := Aside0.mk (PS.St.held HP.out)
    clear HP
    go_wp2_with (first | ((with_reducible refine gate_dst (N := 44) rfl ?_); refine ev_build (zeroC) rfl (by go_simp; first | rfl | done) ?_; intro cx hcx_; have M := Aside0.mk (show ∀ W, IsMsg W cx _ from fun W => by rw [hcx_]; exact zero_is W); clear hcx_) | ((with_reducible refine gate_op (u := .store 30 (.tmp 6) (.tmp 44)) rfl ?_); refine ev_store rfl rfl rfl rfl H.out (i := 0) rfl (rfl) (M.out w0) ?_; intro x90 h3_ h4_; have n0_ := Aside0.mk (h3_); clear H; have H := n0_; clear n0_; clear h3_ h4_))
    refine bodyPost_ret (results_ct rfl _ _ gr 30 _ (0, 0) _ rfl (H.out.at 0 rfl) Try.underlying30 rfl (msg_info ((M.out w0).size))) rfl (by rw [EX.out]; exact ⟨_, rfl, fun W' _ => M.out W', H.out.b⟩)
theorem parse_1_8 {A : Option Addr} {c : Nat} {l : List Int} {w0 : World} (hr : Kd.C (Kd.int .u8) w0 A l.length l) (hc : l.length ≤ c) (hs : l.length ≤ 1000000) (hb : isBytes l) :
    Calls Try.prog 12 #[.int .i64 1, .int .u8 8, .slice A l.length c] w0 fun en w' => ∃ cx, en = .returned (.tuple #[.agg cx, .int .i64 (parse 1 8 l).2]) ∧ Rob w0.heap.size w' cx (parse 1 8 l).1 ∧ Below w0.heap.size w0 w' := by
  have HR := Aside0.mk hr
  have HC := Aside0.mk hc
  have HS := Aside0.mk hs
  have HBB := Aside0.mk hb
  clear hr hc hs hb
  go_enter Try.func12, Try.ntmps12
  go_upto_region 3 with (first | ((with_reducible refine gate_dst (N := 6) rfl ?_); refine ev_alloc rfl rfl ?_; intro gr w1 hg_ h1_ h2_; have HG := Aside0.mk hg_; have H1 := Aside0.mk h1_; have H2 := Aside0.mk h2_; clear hg_ h1_ h2_))
  go_upto_region 4 with (first | ((with_reducible refine gate_dst (N := 19) rfl ?_); refine ev_build ((zeroC.setIfInBounds 0 (.int .u8 (8)))) rfl (by go_simp; first | rfl | done) ?_; intro cx hcx_; have M := Aside0.mk (show ∀ W, IsMsg W cx _ from fun W => by rw [hcx_]; exact (fun W => set_code (zero_is W) (v := 8) (by decide)) W); have NL := Aside0.mk (show NilL cx by rw [hcx_]; exact PS.zero_nil.set (by decide)); clear hcx_) | ((with_reducible refine gate_dst (N := 8) rfl ?_); refine ev_var (y := .tmp 19) rfl rfl rfl rfl rfl (M.out w0) rfl rfl ?_; intro gm w2 hg_ h1_ hb_; have HM1 := Aside0.mk hg_; have HM2 := Aside0.mk h1_; have HM3 := Aside0.mk hb_; clear h1_ hb_ hg_))
  go_upto_region 5 with (first | (go_at_call 20; (with_reducible refine (p_new A c l _ (Kd.C_below HR.out (H2.out.trans (HM3.out.mono H2.out.size))) HC.out HS.out HBB.out).mono ?_); rintro en w3 ⟨g, rfl, q1_, q2_, q3_, q4_⟩; have HP := Aside0.mk (St_first HG.out H1.out H2.out HM1.out HM2.out HM3.out M.out NL.out q1_ q2_ q3_); clear q1_ q2_ q3_ q4_ H1 H2 HG HM1 HM2 HM3))
  obtain ⟨m0, hm0⟩ : ∃ z, z = ({ zeroM with code := 8 } : Msg) := ⟨_, rfl⟩
  rw [← hm0] at HP
  have HM0 := Aside0.mk hm0
  have HMC := Aside0.mk (show m0.code = 8 by rw [hm0])
  clear hm0 M NL
  go_upto_region 15 with (first | (go_at_call 21; (with_reducible refine (line_1 HP.out).mono ?_); rintro en w6 ⟨rfl, hp_⟩; obtain ⟨cb, e_⟩ : ∃ z, z = lineR 1 m0 ⟨l, false, 0⟩ := ⟨_, rfl⟩; rw [← e_] at hp_; obtain ⟨c9, m9⟩ := cb; have EB := Aside0.mk e_; clear e_; have n0_ := Aside0.mk hp_; clear HP hp_; have HP := n0_; clear n0_))
  replace HP : Aside0 (PS.St w0 gr g gm w6 c9 m9) := HP
  have e2 : bodyR 1 m0 (cu l) = (c9, m9) := by unfold bodyR; rw [if_pos HMC.out, EB.out]; rfl
  have E2 := Aside0.mk e2
  clear e2
  go_upto_region 16 with (first | (go_at_call 23; (with_reducible refine (PS.St.fin HP.out).mono ?_); rintro en x1 ⟨rfl, hp_⟩; obtain ⟨c10, ec_⟩ : ∃ z, z = c9.fin := ⟨_, rfl⟩; rw [← ec_] at hp_; have Ec10 := Aside0.mk ec_; clear ec_; have n0_ := Aside0.mk hp_; clear HP hp_; have HP := n0_; clear n0_))
  go_upto_region 17 with (first | (go_at_call 24; (with_reducible refine (PS.St.err HP.out).mono ?_); rintro en x2 ⟨rfl, hp_⟩; have n0_ := Aside0.mk hp_; clear HP hp_; have HP := n0_; clear n0_))
  have he1 : parse 1 8 l = if c10.e ≠ 0 then (zeroM, c10.e) else (m9, 0) := by
    unfold parse
    rw [if_neg (by decide), if_neg (by decide), ← HM0.out, E2.out, Ec10.out]
  by_cases h9 : c10.e = 0
  · have ex_ : parse 1 8 l = (m9, 0) := by rw [he1, if_neg (fun h => h h9)]
    have EX := Aside0.mk ex_
    have g1 : (c10.e != 0) = false := by rw [h9]; rfl
    have g2 : (c10.e == 0) = true := by rw [h9]; rfl
    clear h9 ex_ he1
    obtain ⟨cx, h_, hz_, hm_⟩ := PS.St.held3 HP.out
    have H := Aside0.mk h_
    have HZ := Aside0.mk hz_
    have HM := Aside0.mk hm_
    have HB := Aside0.mk HP.out.b
    clear h_ hz_ hm_ HP
    go_wp2_with (first | ((with_reducible refine gate_dst (N := 46) rfl ?_); refine ev_load (x := .tmp 8) rfl rfl rfl H.out (i := 1) rfl (HZ.out) ?_) | ((with_reducible refine gate_op (u := .store 30 (.tmp 6) (.tmp 46)) rfl ?_); refine ev_store rfl rfl rfl rfl H.out (i := 0) rfl rfl (HM.out _ ⟨rfl, rfl, rfl, Kept.refl _ _⟩).1 ?_; intro x91 h3_ h4_; have HE := Aside0.mk (HM.out _ h4_).2; clear h4_; have n0_ := Aside0.mk (h3_); clear H; have H := n0_; clear n0_; clear h3_))
    refine bodyPost_ret (results_ct rfl _ _ gr 30 _ (0, 0) _ rfl (H.out.at 0 rfl) Try.underlying30 rfl (msg_info (HZ.out))) rfl (by rw [EX.out]; exact ⟨_, rfl, HE.out, H.out.b⟩)
  · have ex_ : parse 1 8 l = (zeroM, c10.e) := by rw [he1, if_pos h9]
    have EX := Aside0.mk ex_
    have g1 : (c10.e != 0) = true := by simpa using h9
    have g2 : (c10.e == 0) = false := by simpa using h9
    clear h9 ex_ he1
    have H := Aside0.mk (PS.St.held HP.out)
    clear HP
    go_wp2_with (first | ((with_reducible refine gate_dst (N := 44) rfl ?_); refine ev_build (zeroC) rfl (by go_simp; first | rfl | done) ?_; intro cx hcx_; have M := Aside0.mk (show ∀ W, IsMsg W cx _ from fun W => by rw [hcx_]; exact zero_is W); clear hcx_) | ((with_reducible refine gate_op (u := .store 30 (.tmp 6) (.tmp 44)) rfl ?_); refine ev_store rfl rfl rfl rfl H.out (i := 0) rfl (rfl) (M.out w0) ?_; intro x90 h3_ h4_; have n0_ := Aside0.mk (h3_); clear H; have H := n0_; clear n0_; clear h3_ h4_))
    refine bodyPost_ret (results_ct rfl _ _ gr 30 _ (0, 0) _ rfl (H.out.at 0 rfl) Try.underlying30 rfl (msg_info ((M.out w0).size))) rfl (by rw [EX.out]; exact ⟨_, rfl, fun W' _ => M.out W', H.out.b⟩)
theorem parse_1_11 {A : Option Addr} {c : Nat} {l : List Int} {w0 : World} (hr : Kd.C (Kd.int .u8) w0 A l.length l) (hc : l.length ≤ c) (hs : l.length ≤ 1000000) (hb : isBytes l) :
    Calls Try.prog 12 #[.int .i64 1, .int .u8 11, .slice A l.length c] w0 fun en w' => ∃ cx, en = .returned (.tuple #[.agg cx, .int .i64 (parse 1 11 l).2]) ∧ Rob w0.heap.size w' cx (parse 1 11 l).1 ∧ Below w0.heap.size w0 w' := by
  have HR := Aside0.mk hr
  have HC := Aside0.mk hc
  have HS := Aside0.mk hs
  have HBB := Aside0.mk hb
  clear hr hc hs hb
  go_enter Try.func12, Try.ntmps12
  go_upto_region 3 with (first | ((with_reducible refine gate_dst (N := 6) rfl ?_); refine ev_alloc rfl rfl ?_; intro gr w1 hg_ h1_ h2_; have HG := Aside0.mk hg_; have H1 := Aside0.mk h1_; have H2 := Aside0.mk h2_; clear hg_ h1_ h2_))
  go_upto_region 4 with (first | ((with_reducible refine gate_dst (N := 19) rfl ?_); refine ev_build ((zeroC.setIfInBounds 0 (.int .u8 (11)))) rfl (by go_simp; first | rfl | done) ?_; intro cx hcx_; have M := Aside0.mk (show ∀ W, IsMsg W cx _ from fun W => by rw [hcx_]; exact (fun W => set_code (zero_is W) (v := 11) (by decide)) W); have NL := Aside0.mk (show NilL cx by rw [hcx_]; exact PS.zero_nil.set (by decide)); clear hcx_) | ((with_reducible refine gate_dst (N := 8) rfl ?_); refine ev_var (y := .tmp 19) rfl rfl rfl rfl rfl (M.out w0) rfl rfl ?_; intro gm w2 hg_ h1_ hb_; have HM1 := Aside0.mk hg_; have HM2 := Aside0.mk h1_; have HM3 := Aside0.mk hb_; clear h1_ hb_ hg_))
  go_upto_region 5 with (first | (go_at_call 20; (with_reducible refine (p_new A c l _ (Kd.C_below HR.out (H2.out.trans (HM3.out.mono H2.out.size))) HC.out HS.out HBB.out).mono ?_); rintro en w3 ⟨g, rfl, q1_, q2_, q3_, q4_⟩; have HP := Aside0.mk (St_first HG.out H1.out H2.out HM1.out HM2.out HM3.out M.out NL.out q1_ q2_ q3_); clear q1_ q2_ q3_ q4_ H1 H2 HG HM1 HM2 HM3))
  obtain ⟨m0, hm0⟩ : ∃ z, z = ({ zeroM with code := 11 } : Msg) := ⟨_, rfl⟩
  rw [← hm0] at HP
  have HM0 := Aside0.mk hm0
  have HMC := Aside0.mk (show m0.code = 11 by rw [hm0])
  clear hm0 M NL
  go_upto_region 15 with (first | (go_at_call 22; (with_reducible refine (answer_11 HP.out HMC.out).mono ?_); rintro en w6 ⟨rfl, hp_⟩; obtain ⟨cb, e_⟩ : ∃ z, z = ansR m0 ⟨l, false, 0⟩ := ⟨_, rfl⟩; rw [← e_] at hp_; obtain ⟨c9, m9⟩ := cb; have EB := Aside0.mk e_; clear e_; have n0_ := Aside0.mk hp_; clear HP hp_; have HP := n0_; clear n0_))
  replace HP : Aside0 (PS.St w0 gr g gm w6 c9 m9) := HP
  have e2 : bodyR 1 m0 (cu l) = (c9, m9) := by unfold bodyR; rw [if_neg (by have := HMC.out; omega), if_pos rfl, EB.out]; rfl
  have E2 := Aside0.mk e2
  clear e2
  go_upto_region 16 with (first | (go_at_call 23; (with_reducible refine (PS.St.fin HP.out).mono ?_); rintro en x1 ⟨rfl, hp_⟩; obtain ⟨c10, ec_⟩ : ∃ z, z = c9.fin := ⟨_, rfl⟩; rw [← ec_] at hp_; have Ec10 := Aside0.mk ec_; clear ec_; have n0_ := Aside0.mk hp_; clear HP hp_; have HP := n0_; clear n0_))
  go_upto_region 17 with (first | (go_at_call 24; (with_reducible refine (PS.St.err HP.out).mono ?_); rintro en x2 ⟨rfl, hp_⟩; have n0_ := Aside0.mk hp_; clear HP hp_; have HP := n0_; clear n0_))
  have he1 : parse 1 11 l = if c10.e ≠ 0 then (zeroM, c10.e) else (m9, 0) := by
    unfold parse
    rw [if_neg (by decide), if_neg (by decide), ← HM0.out, E2.out, Ec10.out]
  by_cases h9 : c10.e = 0
  · have ex_ : parse 1 11 l = (m9, 0) := by rw [he1, if_neg (fun h => h h9)]
    have EX := Aside0.mk ex_
    have g1 : (c10.e != 0) = false := by rw [h9]; rfl
    have g2 : (c10.e == 0) = true := by rw [h9]; rfl
    clear h9 ex_ he1
    obtain ⟨cx, h_, hz_, hm_⟩ := PS.St.held3 HP.out
    have H := Aside0.mk h_
    have HZ := Aside0.mk hz_
    have HM := Aside0.mk hm_
    have HB := Aside0.mk HP.out.b
    clear h_ hz_ hm_ HP
    go_wp2_with (first | ((with_reducible refine gate_dst (N := 46) rfl ?_); refine ev_load (x := .tmp 8) rfl rfl rfl H.out (i := 1) rfl (HZ.out) ?_) | ((with_reducible refine gate_op (u := .store 30 (.tmp 6) (.tmp 46)) rfl ?_); refine ev_store rfl rfl rfl rfl H.out (i := 0) rfl rfl (HM.out _ ⟨rfl, rfl, rfl, Kept.refl _ _⟩).1 ?_; intro x91 h3_ h4_; have HE := Aside0.mk (HM.out _ h4_).2; clear h4_; have n0_ := Aside0.mk (h3_); clear H; have H := n0_; clear n0_; clear h3_))
    refine bodyPost_ret (results_ct rfl _ _ gr 30 _ (0, 0) _ rfl (H.out.at 0 rfl) Try.underlying30 rfl (msg_info (HZ.out))) rfl (by rw [EX.out]; exact ⟨_, rfl, HE.out, H.out.b⟩)
  · have ex_ : parse 1 11 l = (zeroM, c10.e) := by rw [he1, if_pos h9]
    have EX := Aside0.mk ex_
    have g1 : (c10.e != 0) = true := by simpa using h9
    have g2 : (c10.e == 0) = false := by simpa using h9
    clear h9 ex_ he1
    have H := Aside0.mk (PS.St.held HP.out)
    clear HP
    go_wp2_with (first | ((with_reducible refine gate_dst (N := 44) rfl ?_); refine ev_build (zeroC) rfl (by go_simp; first | rfl | done) ?_; intro cx hcx_; have M := Aside0.mk (show ∀ W, IsMsg W cx _ from fun W => by rw [hcx_]; exact zero_is W); clear hcx_) | ((with_reducible refine gate_op (u := .store 30 (.tmp 6) (.tmp 44)) rfl ?_); refine ev_store rfl rfl rfl rfl H.out (i := 0) rfl (rfl) (M.out w0) ?_; intro x90 h3_ h4_; have n0_ := Aside0.mk (h3_); clear H; have H := n0_; clear n0_; clear h3_ h4_))
    refine bodyPost_ret (results_ct rfl _ _ gr 30 _ (0, 0) _ rfl (H.out.at 0 rfl) Try.underlying30 rfl (msg_info ((M.out w0).size))) rfl (by rw [EX.out]; exact ⟨_, rfl, fun W' _ => M.out W', H.out.b⟩)
theorem parse_1_12 {A : Option Addr} {c : Nat} {l : List Int} {w0 : World} (hr : Kd.C (Kd.int .u8) w0 A l.length l) (hc : l.length ≤ c) (hs : l.length ≤ 1000000) (hb : isBytes l) :
    Calls Try.prog 12 #[.int .i64 1, .int .u8 12, .slice A l.length c] w0 fun en w' => ∃ cx, en = .returned (.tuple #[.agg cx, .int .i64 (parse 1 12 l).2]) ∧ Rob w0.heap.size w' cx (parse 1 12 l).1 ∧ Below w0.heap.size w0 w' := by
  have HR := Aside0.mk hr
  have HC := Aside0.mk hc
  have HS := Aside0.mk hs
  have HBB := Aside0.mk hb
  clear hr hc hs hb
  go_enter Try.func12, Try.ntmps12
  go_upto_region 3 with (first | ((with_reducible refine gate_dst (N := 6) rfl ?_); refine ev_alloc rfl rfl ?_; intro gr w1 hg_ h1_ h2_; have HG := Aside0.mk hg_; have H1 := Aside0.mk h1_; have H2 := Aside0.mk h2_; clear hg_ h1_ h2_))
  go_upto_region 4 with (first | ((with_reducible refine gate_dst (N := 19) rfl ?_); refine ev_build ((zeroC.setIfInBounds 0 (.int .u8 (12)))) rfl (by go_simp; first | rfl | done) ?_; intro cx hcx_; have M := Aside0.mk (show ∀ W, IsMsg W cx _ from fun W => by rw [hcx_]; exact (fun W => set_code (zero_is W) (v := 12) (by decide)) W); have NL := Aside0.mk (show NilL cx by rw [hcx_]; exact PS.zero_nil.set (by decide)); clear hcx_) | ((with_reducible refine gate_dst (N := 8) rfl ?_); refine ev_var (y := .tmp 19) rfl rfl rfl rfl rfl (M.out w0) rfl rfl ?_; intro gm w2 hg_ h1_ hb_; have HM1 := Aside0.mk hg_; have HM2 := Aside0.mk h1_; have HM3 := Aside0.mk hb_; clear h1_ hb_ hg_))
  go_upto_region 5 with (first | (go_at_call 20; (with_reducible refine (p_new A c l _ (Kd.C_below HR.out (H2.out.trans (HM3.out.mono H2.out.size))) HC.out HS.out HBB.out).mono ?_); rintro en w3 ⟨g, rfl, q1_, q2_, q3_, q4_⟩; have HP := Aside0.mk (St_first HG.out H1.out H2.out HM1.out HM2.out HM3.out M.out NL.out q1_ q2_ q3_); clear q1_ q2_ q3_ q4_ H1 H2 HG HM1 HM2 HM3))
  obtain ⟨m0, hm0⟩ : ∃ z, z = ({ zeroM with code := 12 } : Msg) := ⟨_, rfl⟩
  rw [← hm0] at HP
  have HM0 := Aside0.mk hm0
  have HMC := Aside0.mk (show m0.code = 12 by rw [hm0])
  clear hm0 M NL
  go_upto_region 15 with (first | (go_at_call 22; (with_reducible refine (answer_12 HP.out HMC.out).mono ?_); rintro en w6 ⟨rfl, hp_⟩; obtain ⟨cb, e_⟩ : ∃ z, z = ansR m0 ⟨l, false, 0⟩ := ⟨_, rfl⟩; rw [← e_] at hp_; obtain ⟨c9, m9⟩ := cb; have EB := Aside0.mk e_; clear e_; have n0_ := Aside0.mk hp_; clear HP hp_; have HP := n0_; clear n0_))
  replace HP : Aside0 (PS.St w0 gr g gm w6 c9 m9) := HP
  have e2 : bodyR 1 m0 (cu l) = (c9, m9) := by unfold bodyR; rw [if_neg (by have := HMC.out; omega), if_pos rfl, EB.out]; rfl
  have E2 := Aside0.mk e2
  clear e2
  go_upto_region 16 with (first | (go_at_call 23; (with_reducible refine (PS.St.fin HP.out).mono ?_); rintro en x1 ⟨rfl, hp_⟩; obtain ⟨c10, ec_⟩ : ∃ z, z = c9.fin := ⟨_, rfl⟩; rw [← ec_] at hp_; have Ec10 := Aside0.mk ec_; clear ec_; have n0_ := Aside0.mk hp_; clear HP hp_; have HP := n0_; clear n0_))
  go_upto_region 17 with (first | (go_at_call 24; (with_reducible refine (PS.St.err HP.out).mono ?_); rintro en x2 ⟨rfl, hp_⟩; have n0_ := Aside0.mk hp_; clear HP hp_; have HP := n0_; clear n0_))
  have he1 : parse 1 12 l = if c10.e ≠ 0 then (zeroM, c10.e) else (m9, 0) := by
    unfold parse
    rw [if_neg (by decide), if_neg (by decide), ← HM0.out, E2.out, Ec10.out]
  by_cases h9 : c10.e = 0
  · have ex_ : parse 1 12 l = (m9, 0) := by rw [he1, if_neg (fun h => h h9)]
    have EX := Aside0.mk ex_
    have g1 : (c10.e != 0) = false := by rw [h9]; rfl
    have g2 : (c10.e == 0) = true := by rw [h9]; rfl
    clear h9 ex_ he1
    obtain ⟨cx, h_, hz_, hm_⟩ := PS.St.held3 HP.out
    have H := Aside0.mk h_
    have HZ := Aside0.mk hz_
    have HM := Aside0.mk hm_
    have HB := Aside0.mk HP.out.b
    clear h_ hz_ hm_ HP
    go_wp2_with (first | ((with_reducible refine gate_dst (N := 46) rfl ?_); refine ev_load (x := .tmp 8) rfl rfl rfl H.out (i := 1) rfl (HZ.out) ?_) | ((with_reducible refine gate_op (u := .store 30 (.tmp 6) (.tmp 46)) rfl ?_); refine ev_store rfl rfl rfl rfl H.out (i := 0) rfl rfl (HM.out _ ⟨rfl, rfl, rfl, Kept.refl _ _⟩).1 ?_; intro x91 h3_ h4_; have HE := Aside0.mk (HM.out _ h4_).2; clear h4_; have n0_ := Aside0.mk (h3_); clear H; have H := n0_; clear n0_; clear h3_))
    refine bodyPost_ret (results_ct rfl _ _ gr 30 _ (0, 0) _ rfl (H.out.at 0 rfl) Try.underlying30 rfl (msg_info (HZ.out))) rfl (by rw [EX.out]; exact ⟨_, rfl, HE.out, H.out.b⟩)
  · have ex_ : parse 1 12 l = (zeroM, c10.e) := by rw [he1, if_pos h9]
    have EX := Aside0.mk ex_
    have g1 : (c10.e != 0) = true := by simpa using h9
    have g2 : (c10.e == 0) = false := by simpa using h9
    clear h9 ex_ he1
    have H := Aside0.mk (PS.St.held HP.out)
    clear HP
    go_wp2_with (first | ((with_reducible refine gate_dst (N := 44) rfl ?_); refine ev_build (zeroC) rfl (by go_simp; first | rfl | done) ?_; intro cx hcx_; have M := Aside0.mk (show ∀ W, IsMsg W cx _ from fun W => by rw [hcx_]; exact zero_is W); clear hcx_) | ((with_reducible refine gate_op (u := .store 30 (.tmp 6) (.tmp 44)) rfl ?_); refine ev_store rfl rfl rfl rfl H.out (i := 0) rfl (rfl) (M.out w0) ?_; intro x90 h3_ h4_; have n0_ := Aside0.mk (h3_); clear H; have H := n0_; clear n0_; clear h3_ h4_))
    refine bodyPost_ret (results_ct rfl _ _ gr 30 _ (0, 0) _ rfl (H.out.at 0 rfl) Try.underlying30 rfl (msg_info ((M.out w0).size))) rfl (by rw [EX.out]; exact ⟨_, rfl, fun W' _ => M.out W', H.out.b⟩)
theorem parse_1_17 {A : Option Addr} {c : Nat} {l : List Int} {w0 : World} (hr : Kd.C (Kd.int .u8) w0 A l.length l) (hc : l.length ≤ c) (hs : l.length ≤ 1000000) (hb : isBytes l) :
    Calls Try.prog 12 #[.int .i64 1, .int .u8 17, .slice A l.length c] w0 fun en w' => ∃ cx, en = .returned (.tuple #[.agg cx, .int .i64 (parse 1 17 l).2]) ∧ Rob w0.heap.size w' cx (parse 1 17 l).1 ∧ Below w0.heap.size w0 w' := by
  have HR := Aside0.mk hr
  have HC := Aside0.mk hc
  have HS := Aside0.mk hs
  have HBB := Aside0.mk hb
  clear hr hc hs hb
  go_enter Try.func12, Try.ntmps12
  go_upto_region 3 with (first | ((with_reducible refine gate_dst (N := 6) rfl ?_); refine ev_alloc rfl rfl ?_; intro gr w1 hg_ h1_ h2_; have HG := Aside0.mk hg_; have H1 := Aside0.mk h1_; have H2 := Aside0.mk h2_; clear hg_ h1_ h2_))
  go_upto_region 4 with (first | ((with_reducible refine gate_dst (N := 19) rfl ?_); refine ev_build ((zeroC.setIfInBounds 0 (.int .u8 (17)))) rfl (by go_simp; first | rfl | done) ?_; intro cx hcx_; have M := Aside0.mk (show ∀ W, IsMsg W cx _ from fun W => by rw [hcx_]; exact (fun W => set_code (zero_is W) (v := 17) (by decide)) W); have NL := Aside0.mk (show NilL cx by rw [hcx_]; exact PS.zero_nil.set (by decide)); clear hcx_) | ((with_reducible refine gate_dst (N := 8) rfl ?_); refine ev_var (y := .tmp 19) rfl rfl rfl rfl rfl (M.out w0) rfl rfl ?_; intro gm w2 hg_ h1_ hb_; have HM1 := Aside0.mk hg_; have HM2 := Aside0.mk h1_; have HM3 := Aside0.mk hb_; clear h1_ hb_ hg_))
  go_upto_region 5 with (first | (go_at_call 20; (with_reducible refine (p_new A c l _ (Kd.C_below HR.out (H2.out.trans (HM3.out.mono H2.out.size))) HC.out HS.out HBB.out).mono ?_); rintro en w3 ⟨g, rfl, q1_, q2_, q3_, q4_⟩; have HP := Aside0.mk (St_first HG.out H1.out H2.out HM1.out HM2.out HM3.out M.out NL.out q1_ q2_ q3_); clear q1_ q2_ q3_ q4_ H1 H2 HG HM1 HM2 HM3))
  obtain ⟨m0, hm0⟩ : ∃ z, z = ({ zeroM with code := 17 } : Msg) := ⟨_, rfl⟩
  rw [← hm0] at HP
  have HM0 := Aside0.mk hm0
  have HMC := Aside0.mk (show m0.code = 17 by rw [hm0])
  clear hm0 M NL
  go_upto_region 15 with (first | (go_at_call 22; (with_reducible refine (answer_17 HP.out HMC.out).mono ?_); rintro en w6 ⟨rfl, hp_⟩; obtain ⟨cb, e_⟩ : ∃ z, z = ansR m0 ⟨l, false, 0⟩ := ⟨_, rfl⟩; rw [← e_] at hp_; obtain ⟨c9, m9⟩ := cb; have EB := Aside0.mk e_; clear e_; have n0_ := Aside0.mk hp_; clear HP hp_; have HP := n0_; clear n0_))
  replace HP : Aside0 (PS.St w0 gr g gm w6 c9 m9) := HP
  have e2 : bodyR 1 m0 (cu l) = (c9, m9) := by unfold bodyR; rw [if_neg (by have := HMC.out; omega), if_pos rfl, EB.out]; rfl
  have E2 := Aside0.mk e2
  clear e2
  go_upto_region 16 with (first | (go_at_call 23; (with_reducible refine (PS.St.fin HP.out).mono ?_); rintro en x1 ⟨rfl, hp_⟩; obtain ⟨c10, ec_⟩ : ∃ z, z = c9.fin := ⟨_, rfl⟩; rw [← ec_] at hp_; have Ec10 := Aside0.mk ec_; clear ec_; have n0_ := Aside0.mk hp_; clear HP hp_; have HP := n0_; clear n0_))
  go_upto_region 17 with (first | (go_at_call 24; (with_reducible refine (PS.St.err HP.out).mono ?_); rintro en x2 ⟨rfl, hp_⟩; have n0_ := Aside0.mk hp_; clear HP hp_; have HP := n0_; clear n0_))
  have he1 : parse 1 17 l = if c10.e ≠ 0 then (zeroM, c10.e) else (m9, 0) := by
    unfold parse
    rw [if_neg (by decide), if_neg (by decide), ← HM0.out, E2.out, Ec10.out]
  by_cases h9 : c10.e = 0
  · have ex_ : parse 1 17 l = (m9, 0) := by rw [he1, if_neg (fun h => h h9)]
    have EX := Aside0.mk ex_
    have g1 : (c10.e != 0) = false := by rw [h9]; rfl
    have g2 : (c10.e == 0) = true := by rw [h9]; rfl
    clear h9 ex_ he1
    obtain ⟨cx, h_, hz_, hm_⟩ := PS.St.held3 HP.out
    have H := Aside0.mk h_
    have HZ := Aside0.mk hz_
    have HM := Aside0.mk hm_
    have HB := Aside0.mk HP.out.b
    clear h_ hz_ hm_ HP
    go_wp2_with (first | ((with_reducible refine gate_dst (N := 46) rfl ?_); refine ev_load (x := .tmp 8) rfl rfl rfl H.out (i := 1) rfl (HZ.out) ?_) | ((with_reducible refine gate_op (u := .store 30 (.tmp 6) (.tmp 46)) rfl ?_); refine ev_store rfl rfl rfl rfl H.out (i := 0) rfl rfl (HM.out _ ⟨rfl, rfl, rfl, Kept.refl _ _⟩).1 ?_; intro x91 h3_ h4_; have HE := Aside0.mk (HM.out _ h4_).2; clear h4_; have n0_ := Aside0.mk (h3_); clear H; have H := n0_; clear n0_; clear h3_))
    refine bodyPost_ret (results_ct rfl _ _ gr 30 _ (0, 0) _ rfl (H.out.at 0 rfl) Try.underlying30 rfl (msg_info (HZ.out))) rfl (by rw [EX.out]; exact ⟨_, rfl, HE.out, H.out.b⟩)
  · have ex_ : parse 1 17 l = (zeroM, c10.e) := by rw [he1, if_pos h9]
    have EX := Aside0.mk ex_
    have g1 : (c10.e != 0) = true := by simpa using h9
    have g2 : (c10.e == 0) = false := by simpa using h9
    clear h9 ex_ he1
    have H := Aside0.mk (PS.St.held HP.out)
    clear HP
    go_wp2_with (first | ((with_reducible refine gate_dst (N := 44) rfl ?_); refine ev_build (zeroC) rfl (by go_simp; first | rfl | done) ?_; intro cx hcx_; have M := Aside0.mk (show ∀ W, IsMsg W cx _ from fun W => by rw [hcx_]; exact zero_is W); clear hcx_) | ((with_reducible refine gate_op (u := .store 30 (.tmp 6) (.tmp 44)) rfl ?_); refine ev_store rfl rfl rfl rfl H.out (i := 0) rfl (rfl) (M.out w0) ?_; intro x90 h3_ h4_; have n0_ := Aside0.mk (h3_); clear H; have H := n0_; clear n0_; clear h3_ h4_))
    refine bodyPost_ret (results_ct rfl _ _ gr 30 _ (0, 0) _ rfl (H.out.at 0 rfl) Try.underlying30 rfl (msg_info ((M.out w0).size))) rfl (by rw [EX.out]; exact ⟨_, rfl, fun W' _ => M.out W', H.out.b⟩)
theorem parse_rob {dir code : Int} {A : Option Addr} {c : Nat} {l : List Int} {w0 : World} (hr : Kd.C (Kd.int .u8) w0 A l.length l) (hc : l.length ≤ c) (hs : l.length ≤ 1000000) (hb : isBytes l) (hcd : 0 ≤ code ∧ code < 256) :
    Calls Try.prog 12 #[.int .i64 dir, .int .u8 code, .slice A l.length c] w0 fun en w' => ∃ cx, en = .returned (.tuple #[.agg cx, .int .i64 (parse dir code l).2]) ∧ Rob w0.heap.size w' cx (parse dir code l).1 ∧ Below w0.heap.size w0 w' := by
  by_cases h0 : dir = 0
  · subst h0
    by_cases k7 : code = 7
    · subst k7; exact parse_0_7 hr hc hs hb
    by_cases k8 : code = 8
    · subst k8; exact parse_0_8 hr hc hs hb
    by_cases k11 : code = 11
    · subst k11; exact parse_0_11 hr hc hs hb
    by_cases k12 : code = 12
    · subst k12; exact parse_0_12 hr hc hs hb
    by_cases k17 : code = 17
    · subst k17; exact parse_0_17 hr hc hs hb
    have hn : ¬ isCode code := by unfold isCode; omega
    have e : parse 0 code l = (zeroM, 4) := by unfold parse; rw [if_neg (by decide), if_pos hn]
    rw [e]; exact parse_no0 hr hc hs hb hcd hn
  by_cases h1 : dir = 1
  · subst h1
    by_cases k7 : code = 7
    · subst k7; exact parse_1_7 hr hc hs hb
    by_cases k8 : code = 8
    · subst k8; exact parse_1_8 hr hc hs hb
    by_cases k11 : code = 11
    · subst k11; exact parse_1_11 hr hc hs hb
    by_cases k12 : code = 12
    · subst k12; exact parse_1_12 hr hc hs hb
    by_cases k17 : code = 17
    · subst k17; exact parse_1_17 hr hc hs hb
    have hn : ¬ isCode code := by unfold isCode; omega
    have e : parse 1 code l = (zeroM, 4) := by unfold parse; rw [if_neg (by decide), if_pos hn]
    rw [e]; exact parse_no1 hr hc hs hb hcd hn
  have e : parse dir code l = (zeroM, 1) := by unfold parse; rw [if_pos ⟨h0, h1⟩]
  rw [e]; exact parse_dir hr hc hs hb h0 h1
theorem parse_any {dir code : Int} {A : Option Addr} {c : Nat} {l : List Int} {w0 : World} (hr : Kd.C (Kd.int .u8) w0 A l.length l) (hc : l.length ≤ c) (hs : l.length ≤ 1000000) (hb : isBytes l) (hcd : 0 ≤ code ∧ code < 256) :
    Calls Try.prog 12 #[.int .i64 dir, .int .u8 code, .slice A l.length c] w0 fun en w' => ∃ cx, en = .returned (.tuple #[.agg cx, .int .i64 (parse dir code l).2]) ∧ IsMsg w' cx (parse dir code l).1 ∧ Below w0.heap.size w0 w' := by
  refine (parse_rob hr hc hs hb hcd).mono ?_
  rintro en w' ⟨cx, rfl, h1, h2⟩
  exact ⟨cx, rfl, h1 w' (Kept.refl _ _), h2⟩
end Go.Proofs.Ytalaochocmcbcaa.Diag
end
section
namespace Go.Proofs.Ytalaochocmcbcaa.Com
open Go.RowKit Go.Proofs.Ytalaochocmcbcaa.P Go.Proofs.Ytalaochocmcbcaa.E Go.Proofs.Ytalaochocmcbcaa.Same Go.Proofs.YtalaochocmcbcaaW.PrintWords Go.Proofs.YtalaochocmcbcaaW.PrintLast Go.Proofs.YtalaochocmcbcaaW.PrintMore
def ParseC (fn : Nat) (dir code : Int) (l : List Int) (P : Msg × Int) : Prop := ∀ (A : Option Addr) (c : Nat) (W : World), Kd.C (Kd.int .u8) W A l.length l → l.length ≤ c → Calls Try.prog fn #[.int .i64 dir, .int .u8 code, .slice A l.length c] W fun en w' => ∃ cx, en = .returned (.tuple #[.agg cx, .int .i64 P.2]) ∧ IsMsg w' cx P.1 ∧ Below W.heap.size W w'
def LayC (fn : Nat) (dir : Int) (m : Msg) (l : List Int) : Prop := ∀ (cx : Array Value) (W : World), IsMsg W cx m → Calls Try.prog fn #[.int .i64 dir, .agg cx] W fun en w' => ∃ A c, en = .returned (.slice A l.length c) ∧ l.length ≤ c ∧ Kd.C (Kd.int .u8) w' A l.length l ∧ Below W.heap.size W w'
def WriteC (fn : Nat) (dir : Int) (m : Msg) (R : List Int × Int) : Prop := ∀ (cx : Array Value) (W : World), IsMsg W cx m → Calls Try.prog fn #[.int .i64 dir, .agg cx] W fun en w' => ∃ A c, en = .returned (.tuple #[.slice A R.1.length c, .int .i64 R.2]) ∧ R.1.length ≤ c ∧ Kd.C (Kd.int .u8) w' A R.1.length R.1 ∧ Below W.heap.size W w'
def AwakeC (fn : Nat) : Prop := ∀ W : World, Calls Try.prog fn #[] W fun en w' => en = .returned (.bool true) ∧ Below W.heap.size W w'
theorem ParseC.c {fn : Nat} {dir code : Int} {l : List Int} {P : Msg × Int} (h : ParseC fn dir code l P) {A : Option Addr} {c : Nat} {W : World} (hr : Kd.C (Kd.int .u8) W A l.length l) (hc : l.length ≤ c) : Calls Try.prog fn #[.int .i64 dir, .int .u8 code, .slice A l.length c] W fun en w' => ∃ cx, en = .returned (.tuple #[.agg cx, .int .i64 P.2]) ∧ IsMsg w' cx P.1 ∧ Below W.heap.size W w' := h A c W hr hc
theorem LayC.c {fn : Nat} {dir : Int} {m : Msg} {l : List Int} (h : LayC fn dir m l) {cx : Array Value} {W : World} (hm : IsMsg W cx m) : Calls Try.prog fn #[.int .i64 dir, .agg cx] W fun en w' => ∃ A c, en = .returned (.slice A l.length c) ∧ l.length ≤ c ∧ Kd.C (Kd.int .u8) w' A l.length l ∧ Below W.heap.size W w' := h cx W hm
theorem WriteC.c {fn : Nat} {dir : Int} {m : Msg} {R : List Int × Int} (h : WriteC fn dir m R) {cx : Array Value} {W : World} (hm : IsMsg W cx m) : Calls Try.prog fn #[.int .i64 dir, .agg cx] W fun en w' => ∃ A c, en = .returned (.tuple #[.slice A R.1.length c, .int .i64 R.2]) ∧ R.1.length ≤ c ∧ Kd.C (Kd.int .u8) w' A R.1.length R.1 ∧ Below W.heap.size W w' := h cx W hm
theorem WriteC.n {fn : Nat} {dir : Int} {m : Msg} {xs : List Int} {e : Int} (h : WriteC fn dir m (xs, e)) {n : Nat} (hn : xs.length = n) {cx : Array Value} {W : World} (hm : IsMsg W cx m) : Calls Try.prog fn #[.int .i64 dir, .agg cx] W fun en w' => ∃ A c, en = .returned (.tuple #[.slice A n c, .int .i64 e]) ∧ n ≤ c ∧ Kd.C (Kd.int .u8) w' A n xs ∧ Below W.heap.size W w' := by
  subst hn
  exact h cx W hm
theorem ParseC.ex {fn : Nat} {dir code : Int} {bs xs : List Int} {P : Msg × Int} (h : ParseC fn dir code xs P) (he : bs = xs) : ParseC fn dir code bs P := he ▸ h
theorem ev_rlit {P : Program} {ops : Array Oper} {rest : List Oper} {o : Oper} {a : Act} {w : World} {Q : Exit → Act → World → Prop} (q : IntKind) (xs : List Int) (e : TypeId) {N : Tmp} (hd : o.dst = some N) (hgd : o.guard = none)
    (hrun : (execOp a.eval o).run P w = .ok (.value (.slice (some ⟨w.heap.size, 0, none⟩) xs.length xs.length)) (w.alloc (.cells (xs.map (Value.int q)).toArray e))) (hl : xs.length ≤ 1000000)
    (h : ∀ v w1, Kd.R (Kd.int q) e w1 w.heap.size (fun _ => True) v xs → Below w.heap.size w w1 → wpList P ops Q rest (a.put o.dst v) w1) : wpList P ops Q (o :: rest) a w := by
  refine Kd.R_lit (Kd.int q) (w0 := w) w.heap.size e hgd hd (xs := xs) (inner := xs.map (Value.int q)) (ok := fun _ => True) (okp := fun _ => True) hrun ?_ (fun _ hk => hk) trivial (Below.refl _ _) (Nat.le_refl _) (by omega) (fun v w1 h1 h2 _ _ => h v w1 h1 h2)
  clear h hrun hl
  induction xs with
  | nil => exact Reps.none _ _
  | cons x xs ih => exact Reps.one (show Kd.M (Kd.int q) _ _ _ x [.int q x] from rfl) ih
theorem ev_app {P : Program} {ops : Array Oper} {rest : List Oper} {o : Oper} {a : Act} {W0 W : World} {Q : Exit → Act → World → Prop} (q : IntKind) (e : TypeId) (s x : Operand) (t : TypeId) (bytes : Nat) (hgd : o.guard = none)
    (ho : o.op = .call { callee := .builtin .append, args := #[s, x], argTypes := #[t, t] }) (ht : P.underlying t = some (.slice e)) (hinfo : (P.info? e).map (fun i => (i.zero, i.size, i.bytes)) = some (some (.int q 0), 1, bytes)) (hb0 : 0 < bytes) (hb8 : bytes ≤ 8)
    {v : Value} {xs ys : List Int} {A : Option Addr} {m c : Nat} (hs : a.eval s = v) (hx : a.eval x = .slice A m c) {ok : Nat → Prop} (HO : Kd.R (Kd.int q) e W W0.heap.size ok v xs) (HR : Kd.C (Kd.int q) W A m ys) (HB : Below W0.heap.size W0 W) (hl : xs.length + m ≤ 1000000)
    {zs : List Int} {n : Nat} (hz : xs ++ ys = zs) (hn : zs.length = n)
    (h : ∀ v1 A1 c1 w1, v1 = .slice A1 n c1 → Kd.R (Kd.int q) e w1 W0.heap.size (fun _ => True) v1 zs → Kd.C (Kd.int q) w1 A1 n zs → n ≤ c1 → Below W0.heap.size W0 w1 → wpList P ops Q rest (a.put o.dst (.slice A1 n c1)) w1) : wpList P ops Q (o :: rest) a W := by
  subst hz
  subst hn
  refine Kd.R_append_rows (Kd.int q) (w0 := W0) W0.heap.size hgd s x t e (.int q 0) bytes ho ht hinfo rfl (show 0 < 1 by decide) hb0 v xs ys A m c (fun _ => True) (fun _ => False) hs hx ⟨fun _ _ => trivial, HO.2.imp_ (fun _ _ hp => hp)⟩ HR (fun _ _ h => h) (fun _ h => h.elim) (fun _ _ => trivial) HB HB.size ?_ ?_
  · exact Nat.le_trans (Nat.mul_le_mul hl hb8) (by decide)
  · intro v1 w1 h1 h2 _ _
    obtain ⟨A1, c1, e1, e2, e3⟩ := Kd.R_reads h1
    rw [e1]
    exact h v1 A1 c1 w1 e1 h1 e3 e2 h2
theorem AwakeC.c {fn : Nat} (h : AwakeC fn) (W : World) : Calls Try.prog fn #[] W fun en w' => en = .returned (.bool true) ∧ Below W.heap.size W w' := h W
def writeR (m : Msg) (l : List Int) (P : Msg × Int) : List Int × Int := if P.2 = 0 ∧ sameB P.1 m = true then (l, 0) else ([], 1)
theorem write_err {dir : Int} {m : Msg} {l : List Int} {P : Msg × Int} (hl : LayC 35 dir m l) (hp : ParseC 12 dir m.code l P) {cx : Array Value} {w : World} (hm : IsMsg w cx m) (he : P.2 ≠ 0) :
    Calls Try.prog 16 #[.int .i64 dir, .agg cx] w fun en w' => ∃ A c, en = .returned (.tuple #[.slice A (([] : List Int)).length c, .int .i64 1]) ∧ (([] : List Int)).length ≤ c ∧ Kd.C (Kd.int .u8) w' A (([] : List Int)).length (([] : List Int)) ∧ Below w.heap.size w w' := by
  have HL := Aside0.mk hl
  have HPC := Aside0.mk hp
  have H := Aside0.mk (Hd.start w)
  have hsz := hm.size
  have hix := msg_info hsz
  have n0_ := Aside0.mk ((((H.out.on (below_alloc (Below.refl _ _) (Obj.cells cx 30)))).add (sta_blk _ _) (blk_new _ _)).add (sta_msg _ _) (hm.on (below_alloc (Below.refl _ _) _)))
  clear H
  have H := n0_
  clear n0_
  have e0 : (P.2 == 0) = false := beq_eq_false_iff_ne.2 he
  have e1 : (P.2 != 0) = true := by rw [bne, e0]; rfl
  clear hl hp he hm
  go_enter Try.func16, Try.ntmps16
  go_upto_region 2 with (first | ((with_reducible refine gate_dst (N := 10) rfl ?_); (try (refine gate_guard (by rfl) ?_; dsimp only)); refine ev_get (x := .tmp 3) rfl rfl rfl H.out.f.1.2 H.out.f.2 ?_) | (go_at_call 35; (with_reducible refine (LayC.c HL.out H.out.f.2).mono ?_); rintro en wb ⟨Ab, cb, rfl, hz_, hr_, hb_⟩; have n0_ := Aside0.mk ((H.out.on hb_).add (sta_C _ _ _ _) (hr_)); clear H; have H := n0_; clear n0_; have Zb := Aside0.mk hz_; clear hb_ hr_ hz_))
  have kc := bx_code H.out.f.1.1.2 H.out.f.1.2
  go_upto_region 3 with (first | (go_at_call 12; (with_reducible refine (ParseC.c HPC.out H.out.f.2 Zb.out).mono ?_); rintro en wx ⟨cx2, rfl, hm_, hb_⟩; have n0_ := Aside0.mk ((H.out.on hb_).add (sta_msg _ _) (hm_)); clear H; have H := n0_; clear n0_; clear hb_ hm_) | ((with_reducible refine gate_dst (N := 7) rfl ?_); refine ev_var (y := .tmp 18) rfl rfl rfl rfl rfl H.out.f.2 rfl rfl ?_; intro gx wv hg_ h1_ hb_; have n0_ := Aside0.mk ((H.out.on hb_).add (sta_blk _ _) (h1_)); clear H; have H := n0_; clear n0_; clear h1_ hb_ hg_))
  clear kc
  go_wp2
  go_ret2
  exact ⟨none, 0, rfl, Nat.le_refl _, Kd.C_nil _ _, H.out.b⟩
theorem write_not {dir : Int} {m : Msg} {l : List Int} {P : Msg × Int} (hl : LayC 35 dir m l) (hp : ParseC 12 dir m.code l P) {cx : Array Value} {w : World} (hm : IsMsg w cx m) (he : P.2 = 0) (hs : sameB P.1 m = false) :
    Calls Try.prog 16 #[.int .i64 dir, .agg cx] w fun en w' => ∃ A c, en = .returned (.tuple #[.slice A (([] : List Int)).length c, .int .i64 1]) ∧ (([] : List Int)).length ≤ c ∧ Kd.C (Kd.int .u8) w' A (([] : List Int)).length (([] : List Int)) ∧ Below w.heap.size w w' := by
  have HL := Aside0.mk hl
  have HPC := Aside0.mk hp
  have H := Aside0.mk (Hd.start w)
  have hsz := hm.size
  have hix := msg_info hsz
  have n0_ := Aside0.mk ((((H.out.on (below_alloc (Below.refl _ _) (Obj.cells cx 30)))).add (sta_blk _ _) (blk_new _ _)).add (sta_msg _ _) (hm.on (below_alloc (Below.refl _ _) _)))
  clear H
  have H := n0_
  clear n0_
  have e0 : (P.2 == 0) = true := beq_iff_eq.2 he
  have e1 : (P.2 != 0) = false := by rw [bne, e0]; rfl
  clear hl hp he hm
  go_enter Try.func16, Try.ntmps16
  go_upto_region 2 with (first | ((with_reducible refine gate_dst (N := 10) rfl ?_); (try (refine gate_guard (by rfl) ?_; dsimp only)); refine ev_get (x := .tmp 3) rfl rfl rfl H.out.f.1.2 H.out.f.2 ?_) | (go_at_call 35; (with_reducible refine (LayC.c HL.out H.out.f.2).mono ?_); rintro en wb ⟨Ab, cb, rfl, hz_, hr_, hb_⟩; have n0_ := Aside0.mk ((H.out.on hb_).add (sta_C _ _ _ _) (hr_)); clear H; have H := n0_; clear n0_; have Zb := Aside0.mk hz_; clear hb_ hr_ hz_))
  have kc := bx_code H.out.f.1.1.2 H.out.f.1.2
  go_upto_region 3 with (first | (go_at_call 12; (with_reducible refine (ParseC.c HPC.out H.out.f.2 Zb.out).mono ?_); rintro en wx ⟨cx2, rfl, hm_, hb_⟩; have n0_ := Aside0.mk ((H.out.on hb_).add (sta_msg _ _) (hm_)); clear H; have H := n0_; clear n0_; clear hb_ hm_) | ((with_reducible refine gate_dst (N := 7) rfl ?_); refine ev_var (y := .tmp 18) rfl rfl rfl rfl rfl H.out.f.2 rfl rfl ?_; intro gx wv hg_ h1_ hb_; have n0_ := Aside0.mk ((H.out.on hb_).add (sta_blk _ _) (h1_)); clear H; have H := n0_; clear n0_; clear h1_ hb_ hg_))
  clear kc
  go_wp2_with (first | ((with_reducible refine gate_dst (N := 23) rfl ?_); (try (refine gate_guard (by rfl) ?_; dsimp only)); refine ev_get (x := .tmp 7) rfl rfl rfl H.out.f.2 H.out.f.1.2 ?_) | ((with_reducible refine gate_dst (N := 24) rfl ?_); (try (refine gate_guard (by rfl) ?_; dsimp only)); refine ev_get (x := .tmp 3) rfl rfl rfl H.out.f.1.1.1.1.2 H.out.f.1.1.1.2 ?_) | (go_at_call 36; (with_reducible refine (same_msg H.out.f.1.2 H.out.f.1.1.1.2).mono ?_); rintro en ws ⟨rfl, hb_⟩; have n0_ := Aside0.mk (H.out.on hb_); clear H; have H := n0_; clear n0_; clear hb_))
  go_ret2
  exact ⟨none, 0, rfl, Nat.le_refl _, Kd.C_nil _ _, H.out.b⟩
theorem write_yes {dir : Int} {m : Msg} {l : List Int} {P : Msg × Int} (hl : LayC 35 dir m l) (hp : ParseC 12 dir m.code l P) {cx : Array Value} {w : World} (hm : IsMsg w cx m) (he : P.2 = 0) (hs : sameB P.1 m = true) :
    Calls Try.prog 16 #[.int .i64 dir, .agg cx] w fun en w' => ∃ A c, en = .returned (.tuple #[.slice A (l).length c, .int .i64 0]) ∧ (l).length ≤ c ∧ Kd.C (Kd.int .u8) w' A (l).length (l) ∧ Below w.heap.size w w' := by
  have HL := Aside0.mk hl
  have HPC := Aside0.mk hp
  have H := Aside0.mk (Hd.start w)
  have hsz := hm.size
  have hix := msg_info hsz
  have n0_ := Aside0.mk ((((H.out.on (below_alloc (Below.refl _ _) (Obj.cells cx 30)))).add (sta_blk _ _) (blk_new _ _)).add (sta_msg _ _) (hm.on (below_alloc (Below.refl _ _) _)))
  clear H
  have H := n0_
  clear n0_
  have e0 : (P.2 == 0) = true := beq_iff_eq.2 he
  have e1 : (P.2 != 0) = false := by rw [bne, e0]; rfl
  clear hl hp he hm
  go_enter Try.func16, Try.ntmps16
  go_upto_region 2 with (first | ((with_reducible refine gate_dst (N := 10) rfl ?_); (try (refine gate_guard (by rfl) ?_; dsimp only)); refine ev_get (x := .tmp 3) rfl rfl rfl H.out.f.1.2 H.out.f.2 ?_) | (go_at_call 35; (with_reducible refine (LayC.c HL.out H.out.f.2).mono ?_); rintro en wb ⟨Ab, cb, rfl, hz_, hr_, hb_⟩; have n0_ := Aside0.mk ((H.out.on hb_).add (sta_C _ _ _ _) (hr_)); clear H; have H := n0_; clear n0_; have Zb := Aside0.mk hz_; clear hb_ hr_ hz_))
  have kc := bx_code H.out.f.1.1.2 H.out.f.1.2
  go_upto_region 3 with (first | (go_at_call 12; (with_reducible refine (ParseC.c HPC.out H.out.f.2 Zb.out).mono ?_); rintro en wx ⟨cx2, rfl, hm_, hb_⟩; have n0_ := Aside0.mk ((H.out.on hb_).add (sta_msg _ _) (hm_)); clear H; have H := n0_; clear n0_; clear hb_ hm_) | ((with_reducible refine gate_dst (N := 7) rfl ?_); refine ev_var (y := .tmp 18) rfl rfl rfl rfl rfl H.out.f.2 rfl rfl ?_; intro gx wv hg_ h1_ hb_; have n0_ := Aside0.mk ((H.out.on hb_).add (sta_blk _ _) (h1_)); clear H; have H := n0_; clear n0_; clear h1_ hb_ hg_))
  clear kc
  go_wp2_with (first | ((with_reducible refine gate_dst (N := 23) rfl ?_); (try (refine gate_guard (by rfl) ?_; dsimp only)); refine ev_get (x := .tmp 7) rfl rfl rfl H.out.f.2 H.out.f.1.2 ?_) | ((with_reducible refine gate_dst (N := 24) rfl ?_); (try (refine gate_guard (by rfl) ?_; dsimp only)); refine ev_get (x := .tmp 3) rfl rfl rfl H.out.f.1.1.1.1.2 H.out.f.1.1.1.2 ?_) | (go_at_call 36; (with_reducible refine (same_msg H.out.f.1.2 H.out.f.1.1.1.2).mono ?_); rintro en ws ⟨rfl, hb_⟩; have n0_ := Aside0.mk (H.out.on hb_); clear H; have H := n0_; clear n0_; clear hb_))
  go_ret2
  exact ⟨Ab, cb, rfl, Zb.out, H.out.f.1.1.2, H.out.b⟩
theorem write_of {dir : Int} {m : Msg} {l : List Int} {P : Msg × Int} (hl : LayC 35 dir m l) (hp : ParseC 12 dir m.code l P) : WriteC 16 dir m (writeR m l P) := by
  intro cx W hm
  unfold writeR
  by_cases he : P.2 = 0
  · cases hs : sameB P.1 m with
    | false => rw [if_neg (fun h => by cases h.2)]; exact write_not hl hp hm he hs
    | true => rw [if_pos ⟨he, rfl⟩]; exact write_yes hl hp hm he hs
  · rw [if_neg (fun h => he h.1)]; exact write_err hl hp hm he
end Go.Proofs.Ytalaochocmcbcaa.Com
end
section
namespace Go.Proofs.Ytalaochocmcbcaa.P
open Go.RowKit Go.Proofs.YtalaochocmcbcaaW.PrintWords Go.Proofs.YtalaochocmcbcaaW.PrintLast Go.Proofs.YtalaochocmcbcaaW.PrintMore
attribute [local go_sem] max2_int min2_int max_two min_two max_three min_three max_four min_four   -- for this text's walks alone
end Go.Proofs.Ytalaochocmcbcaa.P
end
section
namespace Go.Proofs.Ytalaochocmcbcaa.P
open Go.RowKit Go.Proofs.YtalaochocmcbcaaW.PrintWords Go.Proofs.YtalaochocmcbcaaW.PrintLast Go.Proofs.YtalaochocmcbcaaW.PrintMore
attribute [local go_sem] max2_int min2_int max_two min_two max_three min_three max_four min_four   -- for this text's walks alone
end Go.Proofs.Ytalaochocmcbcaa.P
end
section
namespace Go.Proofs.Ytalaochocmcbcaa.DiagR
open Go.RowKit Go.Proofs.Ytalaochocmcbcaa.P Go.Proofs.Ytalaochocmcbcaa.E Go.Proofs.Ytalaochocmcbcaa.Cur Go.Proofs.Ytalaochocmcbcaa.Cu Go.Proofs.Ytalaochocmcbcaa.Same Go.Proofs.Ytalaochocmcbcaa.Code Go.Proofs.Ytalaochocmcbcaa.Diag Go.Proofs.YtalaochocmcbcaaW.PrintWords Go.Proofs.YtalaochocmcbcaaW.PrintLast Go.Proofs.YtalaochocmcbcaaW.PrintMore
end Go.Proofs.Ytalaochocmcbcaa.DiagR
end
section
namespace Go.Proofs.Ytalaochocmcbcaa.P
open Go.RowKit Go.Proofs.YtalaochocmcbcaaW.PrintWords Go.Proofs.YtalaochocmcbcaaW.PrintLast Go.Proofs.YtalaochocmcbcaaW.PrintMore
attribute [local go_sem] max2_int min2_int max_two min_two max_three min_three max_four min_four   -- for this text's walks alone
def word_Put.l0 : Nat → List Int → List Int → Int → Int → Option (List Int)
  | 0, _, _, _, _ => none
  | k + 1, x3, x6, x7, x8 => if x8 < x7 then (if 0 ≤ x8 then (if x8 < (x6.length : Int) then ((some (([((rd x6 x8) / 256) % 256, (rd x6 x8) % 256] : List Int) : List Int)).bind fun y111 => (if x3.length + y111.length < 140737488355328 then (word_Put.l0 k (x3 ++ y111) x6 x7 (wrap64 (x8 + 1))) else (none))) else (none)) else (none)) else (some x3)
def word_Put.f (k : Nat) (l0 : List Int) : Option (List Int) := word_Put.l0 k ([] : List Int) l0 (l0.length : Int) 0
theorem word_Put.mono_l : ∀ k, (∀ y0 y1 y2 y3, LeO (word_Put.l0 k y0 y1 y2 y3) (word_Put.l0 (k + 1) y0 y1 y2 y3))
  | 0 => fun _ _ _ _ r h => by simp [word_Put.l0] at h
  | k + 1 => by
    have ih0 := word_Put.mono_l k
    · intro y0 y1 y2 y3
      unfold word_Put.l0
      repeat' first
      | (with_reducible exact ih0 _ _ _ _)
      | (with_reducible exact LeO.refl _)
      | (with_reducible exact LeO.none _)
      | (with_reducible refine LeO.ite ?_ ?_)
      | (with_reducible refine LeO.bind ?_ (fun _ => ?_))
      | exact ih0 _ _ _ _
      | exact LeO.none _
      | refine LeO.ite ?_ ?_
      | refine LeO.bind ?_ (fun _ => ?_)
theorem word_Put.mono : ∀ a0 k, LeO (word_Put.f k a0) (word_Put.f (k + 1) a0) := by
  intro a0 k
  have ih0 := word_Put.mono_l k
  unfold word_Put.f
  repeat' first
      | (with_reducible exact ih0 _ _ _ _)
      | (with_reducible exact LeO.refl _)
      | (with_reducible exact LeO.none _)
      | (with_reducible refine LeO.ite ?_ ?_)
      | (with_reducible refine LeO.bind ?_ (fun _ => ?_))
      | exact ih0 _ _ _ _
      | exact LeO.none _
      | refine LeO.ite ?_ ?_
      | refine LeO.bind ?_ (fun _ => ?_)
theorem word_Put.calls (k : Nat) (A0 : Option Addr) (c0 : Nat) (l0 : List Int) (r : List Int) (w : World) (hr0 : Kd.C (Kd.int .u16) w A0 l0.length l0) (hc0 : l0.length ≤ c0) (h : word_Put.f k l0 = some r) :
    Calls Try.prog 49 #[.slice A0 l0.length c0] w fun e w' => ∃ v0_ : Value, e = .returned (v0_) ∧ Kd.R (Kd.int .u8) 5 w' w.heap.size (fun _ => True) v0_ r ∧ Below w.heap.size w w' := by
  have HR0 := Aside0.mk hr0
  have HC0 := Aside0.mk hc0
  clear hr0 hc0
  have HB := Aside0.mk (Below.refl w.heap.size w)
  have H : (word_Put.l0 k ([] : List Int) l0 (l0.length : Int) 0) = some r := h
  clear h
  have H' := Aside0.mk H
  clear H
  go_enter Try.func49, Try.ntmps49
  go_wp2
  go_loopg [3, 8] k (fun kq v3 v8 w' => ∃ (x3_1 : List Int) (x8_1 : Int), v8 = .int .i64 x8_1 ∧ Aside0 (word_Put.l0 kq x3_1 l0 (l0.length : Int) x8_1 = some r) ∧ Aside0 (kq ≤ k) ∧ Aside0 (Kd.R (Kd.int .u8) 5 w' w.heap.size (fun _ => True) v3 x3_1) ∧ Aside0 (Below w.heap.size w w'))
  case atStart => exact ⟨(([] : List Int)), (0), (by first | rfl | (simp; done) | (simp [*]; done)), H', ⟨Nat.le_refl _⟩, ⟨by first | exact Kd.R_nil _ _ _ _ _ | exact Kd.N_nil _ _ _ _ _ | exact Kd.V_nil _ _ _ _ _ | exact Kd.Q_nil _ _ _ _ _ | exact Kd.S_nil _ _ _ _ _⟩, ⟨by repeat (first | (with_reducible first | exact HB.out | apply below_alloc | apply pw_below_drewN | apply below_drew1) | exact HB.out)⟩⟩
  case round =>
    clear H'
    obtain ⟨x3_1, x8_1, rfl, HA, HK1, HO_3, HB⟩ := hrel
    cases gk with
    | zero => exact absurd HA.out (by simp [word_Put.l0])
    | succ k1 =>
      have H := HA.out
      clear HA
      simp only [word_Put.l0] at H
      by_cases c2 : x8_1 < (l0.length : Int)
      · rw [if_pos c2] at H
        have c2b0 : decide (x8_1 < (l0.length : Int)) = true := decide_eq_true c2
        clear c2
        by_cases c3 : 0 ≤ x8_1
        · rw [if_pos c3] at H
          have c3b0 : decide (0 ≤ x8_1) = true := decide_eq_true c3
          clear c3
          by_cases c4 : x8_1 < (l0.length : Int)
          · rw [if_pos c4] at H
            have c4b0 : decide (x8_1 < (l0.length : Int)) = true := decide_eq_true c4
            clear c4
            obtain ⟨y111, hy111⟩ : ∃ y_ : List Int, y_ = (([((rd l0 x8_1) / 256) % 256, (rd l0 x8_1) % 256] : List Int)) := ⟨_, rfl⟩
            replace H : (if x3_1.length + y111.length < 140737488355328 then (word_Put.l0 k1 (x3_1 ++ y111) l0 (l0.length : Int) (wrap64 (x8_1 + 1))) else (none)) = some r := by first | (rw [hy111]; with_reducible exact H) | (have H2_ := (Option.bind_some _ _).symm.trans H; rw [hy111]; with_reducible exact H2_) | (have H2_ := (Option.bind_some _ _).symm.trans H; with_reducible exact H2_) | with_reducible exact H | (rw [hy111]; exact H) | exact H
            have Ny111 := Aside0.mk hy111
            clear hy111
            by_cases c5 : x3_1.length + y111.length < 140737488355328
            · rw [if_pos c5] at H
              have LMc5 := Aside0.mk c5
              clear c5
              obtain ⟨y114, hy114⟩ : ∃ y_ : List Int, y_ = (x3_1 ++ y111) := ⟨_, rfl⟩
              replace H : (word_Put.l0 k1 y114 l0 (l0.length : Int) (wrap64 (x8_1 + 1))) = some r := by first | (rw [hy114]; with_reducible exact H) | (have H2_ := (Option.bind_some _ _).symm.trans H; rw [hy114]; with_reducible exact H2_) | (have H2_ := (Option.bind_some _ _).symm.trans H; with_reducible exact H2_) | with_reducible exact H | (rw [hy114]; exact H) | exact H
              have Ny114 := Aside0.mk hy114
              clear hy114
              have H' := Aside0.mk H
              clear H
              have p110 : 0 ≤ (x8_1 : Int) := of_decide_eq_true (by first | (with_reducible assumption) | assumption)
              have q110 : x8_1 < (l0.length : Int) := of_decide_eq_true (by first | (with_reducible assumption) | assumption)
              obtain ⟨ad110, e110, hx110_0⟩ := Kd.at_int HR0.out x8_1 p110 q110
              cases e110
              replace hx110_0 := (HB.out.cell (World.block_lt_of_cell? w _ hx110_0)).trans hx110_0
              replace p110 := eq_true p110
              replace q110 := eq_true q110
              go_wp2_with (first | ((with_reducible refine gate_dst (N := 18) rfl ?_); refine Kd.R_lit (Kd.int .u8) _ 5 ?hg (N := 18) ?hd (xs := ([((rd l0 x8_1) / 256) % 256, (rd l0 x8_1) % 256] : List Int)) (inner := [.int .u8 (((rd l0 x8_1) / 256) % 256), .int .u8 ((rd l0 x8_1) % 256)]) (ok := fun _ => True) (okp := fun _ => True) ?hr ?hp (fun _ hk => hk) trivial (Below.refl _ _) (Nat.le_refl _) (by simp) ?_; (case hd => rfl); (case hg => rfl); (case hr => first | (go_simp; done) | (go_simp; rfl)); (case hp => exact (Reps.one (show Kd.M (Kd.int .u8) _ _ _ (((rd l0 x8_1) / 256) % 256) [.int .u8 (((rd l0 x8_1) / 256) % 256)] from rfl) (Reps.one (show Kd.M (Kd.int .u8) _ _ _ ((rd l0 x8_1) % 256) [.int .u8 ((rd l0 x8_1) % 256)] from rfl) (Reps.none _ _)))); intro v112 w6 ho7 hb hg_ hnew_; clear hg_ hnew_; (first | rw [← Ny111.out] at ho7 | (simp only [Int.reduceToNat] at ho7; rw [← Ny111.out] at ho7)); have n0_ := Aside0.mk (Kd.R_elder' (by (with_reducible repeat (first | apply Kd.R_alloc | apply Kd.R_drewN | apply Kd.R_drew)); exact HO_3.out) (Kd.R_base ho7) hb); have n1_ := Aside0.mk (Kd.R_lower (Kd.R_new' ho7 (Kd.R_lt (by (with_reducible repeat (first | apply Kd.R_alloc | apply Kd.R_drewN | apply Kd.R_drew)); exact HO_3.out))) (below_size (by repeat (first | (with_reducible first | exact HB.out | apply below_alloc | apply pw_below_drewN | apply below_drew1) | exact HB.out)))); have n2_ := Aside0.mk (below_step (by repeat (first | (with_reducible first | exact HB.out | apply below_alloc | apply pw_below_drewN | apply below_drew1) | exact HB.out)) hb); clear HO_3; clear HB; have HO_3 := n0_; have HO113 := n1_; have HB := n2_; clear n0_ n1_ n2_; clear hb ho7; obtain ⟨Ao9, co9, eo9⟩ := Kd.R_slice HO113.out; subst eo9) | ((with_reducible refine gate_builtin (b := .append) (xs := #[.tmp 12, .tmp 18]) rfl ?_); at_builtin; refine Kd.R_append_rows (Kd.int .u8) (w0 := w) w.heap.size rfl (.tmp 12) (.tmp 18) 22 5 (.int .u8 0) 1 rfl Try.underlying22 info5 rfl (by decide) (by omega) u3 x3_1 y111 _ _ _ (fun k_ => some k_ ≠ (.slice Ao9 y111.length co9 : Value).ownBlock) (fun _ => False) rfl rfl ?aO ?aR (fun _ _ h => h) (fun _ h => h.elim) ?aF ?aB ?aS ?aL ?_; (case aR => repeat (first | exact (Kd.R_reads' HO113.out).2.2 | (with_reducible refine Kd.C_alloc ?_ _) | (with_reducible refine Kd.C_drewN ?_ _) | (with_reducible refine Kd.C_drew ?_))); (case aB => exact (by repeat (first | (with_reducible first | exact HB.out | apply below_alloc | apply pw_below_drewN | apply below_drew1) | exact HB.out))); (case aF => exact (fun k_ hk => Kd.fresh' (Kd.R_lt (by (with_reducible repeat (first | apply Kd.R_alloc | apply Kd.R_drewN | apply Kd.R_drew)); exact HO113.out)) k_ hk)); (case aO => exact (by (with_reducible repeat (first | apply Kd.R_alloc | apply Kd.R_drewN | apply Kd.R_drew)); exact Kd.R_mono HO_3.out (fun _ hk => hk.2))); (case aS => exact (below_size (by repeat (first | (with_reducible first | exact HB.out | apply below_alloc | apply pw_below_drewN | apply below_drew1) | exact HB.out)))); (case aL => have := LMc5.out; omega); intro v115 w8 ho hb hg hat; rw [← Ny114.out] at ho; have n0_ := Aside0.mk (Kd.R_after (ok := (fun _ => True)) (by (with_reducible repeat (first | apply Kd.R_alloc | apply Kd.R_drewN | apply Kd.R_drew)); exact HO113.out) hg hat); have n1_ := Aside0.mk (hb); have n2_ := Aside0.mk (ho); clear HO113; clear HB; clear HO_3; have HO113 := n0_; have HB := n1_; have HO116 := n2_; clear n0_ n1_ n2_; clear ho hb hg hat))
              go_roundg k1
              case measure => have := HK1.out; omega
              case rel => exact ⟨(y114), (wrap64 (x8_1 + 1)), (by first | rfl | (simp; done) | (simp [*]; done)), H', ⟨by have := HK1.out; omega⟩, ⟨by (with_reducible repeat (first | apply Kd.R_alloc | apply Kd.R_drewN | apply Kd.R_drew)); exact Kd.R_mono HO116.out (fun _ hk => trivial)⟩, ⟨by repeat (first | (with_reducible first | exact HB.out | apply below_alloc | apply pw_below_drewN | apply below_drew1) | exact HB.out)⟩⟩
            · rw [if_neg c5] at H
              exact absurd H (by simp)
          · rw [if_neg c4] at H
            exact absurd H (by simp)
        · rw [if_neg c3] at H
          exact absurd H (by simp)
      · rw [if_neg c2] at H
        have c2b0 : decide (x8_1 < (l0.length : Int)) = false := decide_eq_false c2
        clear c2
        obtain rfl := Option.some.inj H
        go_wp2
        go_ret
        exact ⟨_, by first | rfl | (simp [errW_none, errW_some] <;> rfl) | (simp [*, errW_none, errW_some] <;> rfl), by (with_reducible repeat (first | apply Kd.R_alloc | apply Kd.R_drewN | apply Kd.R_drew)); exact HO_3.out, by repeat (first | (with_reducible first | exact HB.out | apply below_alloc | apply pw_below_drewN | apply below_drew1) | exact HB.out)⟩
end Go.Proofs.Ytalaochocmcbcaa.P
end
section
namespace Go.Proofs.Ytalaochocmcbcaa.P
open Go.RowKit Go.Proofs.YtalaochocmcbcaaW.PrintWords Go.Proofs.YtalaochocmcbcaaW.PrintLast Go.Proofs.YtalaochocmcbcaaW.PrintMore
attribute [local go_sem] max2_int min2_int max_two min_two max_three min_three max_four min_four   -- for this text's walks alone
end Go.Proofs.Ytalaochocmcbcaa.P
end
section
namespace Go.Proofs.Ytalaochocmcbcaa.Put
open Go.RowKit Go.Proofs.Ytalaochocmcbcaa.P Go.Proofs.Ytalaochocmcbcaa.E Go.Proofs.Ytalaochocmcbcaa.Take Go.Proofs.YtalaochocmcbcaaW.PrintWords Go.Proofs.YtalaochocmcbcaaW.PrintLast Go.Proofs.YtalaochocmcbcaaW.PrintMore
def is16 (ws : List Int) : Prop := ∀ w ∈ ws, 0 ≤ w ∧ w < 65536
def putL : List Int → List Int
  | [] => []
  | w :: r => (w / 256) % 256 :: w % 256 :: putL r
theorem putL_length : ∀ ws : List Int, (putL ws).length = 2 * ws.length
  | [] => rfl
  | w :: r => by simp only [putL, List.length_cons, putL_length r]; omega
theorem putL_append : ∀ a b : List Int, putL (a ++ b) = putL a ++ putL b
  | [], b => rfl
  | w :: r, b => by simp only [List.cons_append, putL, putL_append r b]
theorem putL_bytes : ∀ ws : List Int, isBytes (putL ws)
  | [] => fun x h => by cases h
  | w :: r => fun x hx => by
    rcases List.mem_cons.1 hx with rfl | hx
    · omega
    rcases List.mem_cons.1 hx with rfl | hx
    · omega
    · exact putL_bytes r x hx
theorem words_cons (a b : Int) (t : List Int) (ht : t.length % 2 = 0) : words (a :: b :: t) = (a * 256 + b) :: words t := by
  unfold words
  rw [if_pos (by simp only [List.length_cons]; omega), if_pos ht, show (a :: b :: t).length / 2 = t.length / 2 + 1 by simp only [List.length_cons]; omega]
  unfold pre
  rw [List.range_succ_eq_map, List.map_cons, List.map_map]
  congr 1
theorem words_nil : words [] = [] := rfl
theorem words_putL : ∀ {ws : List Int}, is16 ws → words (putL ws) = ws
  | [], _ => rfl
  | w :: r, h => by
    have h1 := h w List.mem_cons_self
    simp only [putL]
    rw [words_cons _ _ _ (by rw [putL_length]; omega), words_putL (fun x hx => h x (List.mem_cons_of_mem _ hx)), show w / 256 % 256 * 256 + w % 256 = w by omega]
theorem words_facts : ∀ (n : Nat) (l : List Int), l.length = 2 * n → isBytes l → putL (words l) = l ∧ is16 (words l) ∧ (words l).length = n
  | 0, l, hn, _ => by
    obtain rfl : l = [] := List.eq_nil_of_length_eq_zero hn
    refine ⟨rfl, fun x hx => ?_, rfl⟩
    exact absurd hx (by rw [words_nil]; exact List.not_mem_nil)
  | n + 1, [], hn, _ => by
    simp only [List.length_nil] at hn
    omega
  | n + 1, [a], hn, _ => by
    simp only [List.length_cons, List.length_nil] at hn
    omega
  | n + 1, a :: b :: t, hn, hb => by
    have hl : t.length = 2 * n := by simp only [List.length_cons] at hn; omega
    have ha := hb a (by simp)
    have hb1 := hb b (by simp)
    obtain ⟨h1, h2, h3⟩ := words_facts n t hl (fun x hx => hb x (by simp [hx]))
    rw [words_cons a b t (by omega)]
    refine ⟨?_, ?_, by rw [List.length_cons, h3]⟩
    · simp only [putL, h1]
      rw [show (a * 256 + b) / 256 % 256 = a by omega, show (a * 256 + b) % 256 = b by omega]
    · intro x hx
      rcases List.mem_cons.1 hx with rfl | hx
      · omega
      · exact h2 x hx
theorem putL_words {l : List Int} (he : l.length % 2 = 0) (hb : isBytes l) : putL (words l) = l := (words_facts (l.length / 2) l (by omega) hb).1
theorem words_16 {l : List Int} (he : l.length % 2 = 0) (hb : isBytes l) : is16 (words l) := (words_facts (l.length / 2) l (by omega) hb).2.1
theorem words_length {l : List Int} (he : l.length % 2 = 0) (hb : isBytes l) : (words l).length = l.length / 2 := (words_facts (l.length / 2) l (by omega) hb).2.2
theorem put_l0 (ws : List Int) (h : is16 ws) (hl : ws.length ≤ 1000000) : ∀ (d i : Nat), d = ws.length - i → i ≤ ws.length → word_Put.l0 (d + 1) (putL (ws.take i)) ws (ws.length : Int) (i : Int) = some (putL ws) := by
  intro d
  induction d with
  | zero =>
    intro i hd hi
    have e : i = ws.length := by omega
    subst e
    unfold word_Put.l0
    rw [if_neg (by omega), List.take_length]
  | succ d ih =>
    intro i hd hi
    have hlt : i < ws.length := by omega
    have e1 : rd ws (i : Int) = ws.getD i 0 := by simp [rd]
    have e2 : wrap64 ((i : Int) + 1) = ((i + 1 : Nat) : Int) := by rw [wrap64_id (by omega) (by omega)]; omega
    have e3 : ws.take (i + 1) = ws.take i ++ [ws.getD i 0] := by
      rw [List.take_add_one, List.getD_eq_getElem?_getD, List.getElem?_eq_getElem hlt]; rfl
    have h2 := ih (i + 1) (by omega) (by omega)
    rw [e3, putL_append] at h2
    unfold word_Put.l0
    rw [if_pos (show (i : Int) < (ws.length : Int) by omega), if_pos (show (0 : Int) ≤ (i : Int) by omega), if_pos (show (i : Int) < (ws.length : Int) by omega), e1, e2]
    simp only [Option.bind_some]
    rw [if_pos (show (putL (ws.take i)).length + [ws.getD i 0 / 256 % 256, ws.getD i 0 % 256].length < 140737488355328 by rw [putL_length, List.length_take]; simp only [List.length_cons, List.length_nil]; omega)]
    exact h2
theorem put_ev (ws : List Int) (h : is16 ws) (hl : ws.length ≤ 1000000) : Ev (fun k => word_Put.f k ws) (putL ws) := Ev.of (word_Put.mono ws) (k := ws.length + 1) (put_l0 ws h hl ws.length 0 (by omega) (by omega))
theorem is16_2 {a b : Int} (ha : 0 ≤ a ∧ a < 65536) (hb : 0 ≤ b ∧ b < 65536) : is16 [a, b] := fun x hx => by
  rcases List.mem_cons.1 hx with rfl | hx
  · exact ha
  · obtain rfl := List.mem_singleton.1 hx; exact hb
end Go.Proofs.Ytalaochocmcbcaa.Put
end
section
namespace Go.Proofs.Ytalaochocmcbcaa.Diag
open Go.RowKit Go.Proofs.Ytalaochocmcbcaa.P Go.Proofs.Ytalaochocmcbcaa.E Go.Proofs.Ytalaochocmcbcaa.Same Go.Proofs.Ytalaochocmcbcaa.Put Go.Proofs.Ytalaochocmcbcaa.Com Go.Proofs.YtalaochocmcbcaaW.PrintWords Go.Proofs.YtalaochocmcbcaaW.PrintLast Go.Proofs.YtalaochocmcbcaaW.PrintMore
def counted (l : List Int) : List Int := ((l.length : Int) % 256) :: l
def logged (s e g : Int) (l : List Int) : List Int := (((l.length : Int) + 6) % 256) :: (putL [s, e, g] ++ l)
def lay (dir : Int) (m : Msg) : List Int :=
  if m.code = 8 then putL (m.sub :: m.words) else if dir = 0 then [] else if m.code = 7 then [m.value % 256] else if m.code = 11 then putL [m.status, m.events] else if m.code = 12 then logged m.status m.events m.messages m.data else counted m.data
theorem is16_1 {a : Int} (ha : 0 ≤ a ∧ a < 65536) : is16 [a] := fun x hx => by
  rw [List.mem_singleton.1 hx]; exact ha
theorem is16_3 {a b c : Int} (ha : 0 ≤ a ∧ a < 65536) (hb : 0 ≤ b ∧ b < 65536) (hc : 0 ≤ c ∧ c < 65536) : is16 [a, b, c] := fun x hx => by
  simp only [List.mem_cons, List.not_mem_nil, or_false] at hx
  rcases hx with rfl | rfl | rfl <;> assumption
theorem len8 (s : Int) (l : List Int) : (putL (s :: l)).length = (putL [s]).length + (putL l).length := by
  rw [putL_length, putL_length, putL_length]
  simp only [List.length_cons, List.length_nil]
  omega
theorem put_r {ws : List Int} {n : Nat} (hn : ws.length = n) (h : is16 ws) (hl : ws.length ≤ 1000000) {A : Option Addr} {c : Nat} {w : World} (hr : Kd.C (Kd.int .u16) w A n ws) (hc : n ≤ c) : Calls Try.prog 49 #[.slice A n c] w fun en w' => ∃ v, en = .returned v ∧ Kd.R (Kd.int .u8) 5 w' w.heap.size (fun _ => True) v (putL ws) ∧ Below w.heap.size w w' := by
  subst hn
  obtain ⟨k, hk⟩ := (put_ev ws h hl).rounds
  exact word_Put.calls k A c ws _ w hr hc hk
theorem put_b {ws : List Int} {n : Nat} (hn : ws.length = n) (h : is16 ws) (hl : ws.length ≤ 1000000) {A : Option Addr} {c : Nat} {w : World} (hr : Kd.C (Kd.int .u16) w A n ws) (hc : n ≤ c) : Calls Try.prog 49 #[.slice A n c] w fun en w' => ∃ A c, en = .returned (.slice A (putL ws).length c) ∧ (putL ws).length ≤ c ∧ Kd.C (Kd.int .u8) w' A (putL ws).length (putL ws) ∧ Below w.heap.size w w' := by
  refine (put_r hn h hl hr hc).mono ?_
  rintro en w' ⟨v, rfl, R, B⟩
  obtain ⟨A, c, rfl, hz, hr⟩ := Kd.R_reads R
  exact ⟨A, c, rfl, hz, hr, B⟩
def lay.T2 : Bool × List (List Nat × List Nat) := (true, [([], []), ([0], [0]), ([1], [1]), ([2], [2]), ([], []), ([4], [4]), ([5, 3], [5]), ([3, 6, 6], [3, 6]), ([7, 7, 0, 1, 2, 3, 4, 5, 6, 7], [7])])
def lay.B2 : List Nat := [0, 1, 3, 7, 0, 16, 63, 127, 255]
theorem lay.tab2 : rtab .any (opsOf Try.f35 2) = lay.T2 := by kernel_rfl
theorem lay.bits2 : waitsOk lay.T2.2 lay.B2 = true := by kernel_rfl
theorem lay_8 {dir : Int} {m : Msg} {cx : Array Value} {w : World} (hm : IsMsg w cx m) (hdl : m.data.length ≤ 900000) (hw : m.words.length ≤ 900000) (hk : m.code = 8) :
    Calls Try.prog 35 #[.int .i64 dir, .agg cx] w fun en w' => ∃ A c, en = .returned (.slice A (lay dir m).length c) ∧ (lay dir m).length ≤ c ∧ Kd.C (Kd.int .u8) w' A (lay dir m).length (lay dir m) ∧ Below w.heap.size w w' := by
  obtain ⟨⟨a0, a1, a2, a3, a4, a5, a6, a7, a8, a9, a10, a11, _⟩, adt, _⟩ := goodM_num hm.good
  have hws : is16 m.words := hm.good.2.1
  have H := Aside0.mk (Hd.start w)
  have hsz := hm.size
  have hix := msg_info hsz
  have n0_ := Aside0.mk ((((H.out.on (below_alloc (Below.refl _ _) (Obj.cells cx 30)))).add (sta_blk _ _) (blk_new _ _)).add (sta_msg _ _) (hm.on (below_alloc (Below.refl _ _) _)))
  clear H
  have H := n0_
  clear n0_
  have b8 : (m.code == 8) = true := beq_iff_eq.2 hk
  have b7 : (m.code == 7) = false := beq_eq_false_iff_ne.2 (by omega)
  have b11 : (m.code == 11) = false := beq_eq_false_iff_ne.2 (by omega)
  have b12 : (m.code == 12) = false := beq_eq_false_iff_ne.2 (by omega)
  have kcode := bx_code H.out.f.1.2 H.out.f.2
  rw [show lay dir m = putL (m.sub :: m.words) from by unfold lay; rw [if_pos hk]]
  obtain ⟨A12, c12, A13, c13, A14, c14, A15, c15, A21, c21, ⟨l12, _, l14, _, _⟩, ⟨r12, q12⟩, _, ⟨r14, q14⟩, _, _⟩ := IsMsg.lists H.out.f.2
  have ksub := bx_sub H.out.f.1.2 H.out.f.2
  have kw := (blk_cell H.out.f.1.2 12).trans l12
  have RW_ := Aside0.mk r12
  have QW := Aside0.mk q12
  clear l12 r12 q12 l14 r14 q14
  have HA := Aside0.mk (And.intro a4 (And.intro a8 (And.intro a9 (And.intro a10 a11))))
  have HWS := Aside0.mk hws
  have HWL := Aside0.mk hw
  have HDL := Aside0.mk hdl
  clear a0 a1 a2 a3 a4 a5 a6 a7 a8 a9 a10 a11 adt hws hm
  clear hk
  go_enter Try.func35, Try.ntmps35
  go_upto_region 2 with (fail)
  have KS := Aside0.mk (show (w.alloc (.cells cx 30 (0, 0))).drew.cell? ⟨w.heap.size, 8, none⟩ = some (.int .u16 m.sub) from ksub)
  have KW := Aside0.mk (show (w.alloc (.cells cx 30 (0, 0))).drew.cell? ⟨w.heap.size, 12, none⟩ = some (.slice A12 m.words.length c12) from kw)
  have RWD := Aside0.mk (Kd.C_below RW_.out (below_drew (Below.refl _ _)))
  clear ksub kw kcode
  have HB := Aside0.mk (Below.refl (w.alloc (.cells cx 30 (0, 0))).drew.heap.size ((w.alloc (.cells cx 30 (0, 0))).drew))
  refine start_ (n := 9) (S := fun w' => True) (ds := []) #[false, false, false, false, false, false, false, false, false] (by kernel_rfl) rfl rfl trivial (fun hHeld => ?_)
  refine with_tabW lay.tab2 lay.bits2 (fun HT_ HW_ => ?_)
  refine pure_ (i := 0) (N := some 10) (v := ?_) (a' := ?_) #[true, false, false, false, false, false, false, false, false] rfl rfl (any_of HT_.out (by kernel_rfl)) (fun _ _ _ h => h) (Or.inl ⟨by rfl, ?_⟩) ?_ ?_
  rotate_left
  · intro w'
    go_simp
    with_reducible rfl
  rotate_left
  · simp only [Act.put, List.setIfInBounds_toArray, List.set_cons_zero, List.set_cons_succ, i64_w, i32_w]
    rfl
  refine pure_ (i := 4) (N := some 14) (v := ?_) (a' := ?_) #[true, false, false, false, true, false, false, false, false] rfl rfl (any_of HT_.out (by kernel_rfl)) (fun _ _ _ h => h) (Or.inl ⟨by rfl, ?_⟩) ?_ ?_
  rotate_left
  · intro w'
    go_simp
    with_reducible rfl
  rotate_left
  · simp only [Act.put, List.setIfInBounds_toArray, List.set_cons_zero, List.set_cons_succ, i64_w, i32_w]
    rfl
  refine inv_at [1, 2, 3, 5, 6, 7, 8] (fun a0_ b a w' => ∃ (v2 : Value) (v3 : Value) (v6 : Value) (v7 : Value) (m8_ : Value), a = putSel a0_ b [(1, 11, .int .u16 m.sub), (2, 12, v2), (3, 13, v3), (5, 15, .slice A12 m.words.length c12), (6, 16, v6), (7, 17, v7), (8, 4, m8_)] ∧ (Below (w.alloc (.cells cx 30 (0, 0))).drew.heap.size (w.alloc (.cells cx 30 (0, 0))).drew w') ∧ (b 2 = true → b 3 = false → Kd.R (Kd.int .u16) 24 w' (w.alloc (.cells cx 30 (0, 0))).drew.heap.size (fun _ => True) v2 ([m.sub])) ∧ (b 3 = true → b 7 = false → Kd.R (Kd.int .u8) 5 w' (w.alloc (.cells cx 30 (0, 0))).drew.heap.size (fun _ => True) v3 (putL [m.sub])) ∧ (b 6 = true → b 7 = false → Kd.R (Kd.int .u8) 5 w' (w.alloc (.cells cx 30 (0, 0))).drew.heap.size (fun _ => True) v6 (putL m.words)) ∧ (b 7 = true → Kd.R (Kd.int .u8) 5 w' (w.alloc (.cells cx 30 (0, 0))).drew.heap.size (fun _ => True) v7 (putL [m.sub] ++ putL m.words)) ∧ (b 8 = true → (m8_ : Value) = v7)) HT_.out HW_.out (by kernel_rfl) (by kernel_rfl) ?_ ?_ ?_
  · exact ⟨.bool false, .bool false, .bool false, .bool false, .bool false, by simp only [putSel, Bool.false_eq_true, if_false], HB.out, fun h_ => absurd h_ (by decide), fun h_ => absurd h_ (by decide), fun h_ => absurd h_ (by decide), fun h_ => absurd h_ (by decide), fun h_ => absurd h_ (by decide)⟩
  · skip
    clear HB
    refine steps_cons ?_ ?_
    · rintro b a w' ⟨v2, v3, v6, v7, m8_, ha, Q_HB, Q_R2, Q_R3, Q_R6, Q_R7, Q_X8_⟩ hb_ hon hoff
      refine ⟨_, rfl, fun K hK => ?_⟩
      have e10 : a.tmps[10]? = some (.pointer (some ⟨w.heap.size, 8, none⟩)) := by rw [ha]; exact (putSel_off rfl).trans rfl
      replace ha := Aside0.mk ha
      have HB := Aside0.mk Q_HB
      have hs1_ : w'.cell? ⟨w.heap.size, 8, none⟩ = some (.int .u16 m.sub) := (HB.out.cell (World.block_lt_of_cell? _ _ KS.out)).trans KS.out
      refine value_ (w1 := w') (v := .int .u16 m.sub) (by rfl) rfl ?_ ?_
      · go_simp
        (try simp only [i64_w])
        try rfl
      refine hK.out _ _ ⟨v2, v3, v6, v7, m8_, (by rw [ha.out]; exact putSel_upk 0 hb_ rfl rfl rfl), Q_HB, fun h0_ _ => absurd ((hoff 2 (by kernel_rfl)).symm.trans h0_) (by decide), fun h0_ _ => absurd ((hoff 3 (by kernel_rfl)).symm.trans h0_) (by decide), fun h0_ _ => absurd ((hoff 6 (by kernel_rfl)).symm.trans h0_) (by decide), fun h0_ => absurd ((hoff 7 (by kernel_rfl)).symm.trans h0_) (by decide), fun h0_ => absurd ((hoff 8 (by kernel_rfl)).symm.trans h0_) (by decide)⟩
    refine steps_cons ?_ ?_
    · rintro b a w' ⟨v2, v3, v6, v7, m8_, ha, Q_HB, Q_R2, Q_R3, Q_R6, Q_R7, Q_X8_⟩ hb_ hon hoff
      refine ⟨_, rfl, fun K hK => ?_⟩
      have e11 : a.tmps[11]? = some (.int .u16 m.sub) := by rw [ha]; exact putSel_on (e := (1, 11, .int .u16 m.sub)) 0 rfl rfl (hon 1 (by kernel_rfl)) rfl
      replace ha := Aside0.mk ha
      have HB := Aside0.mk Q_HB
      refine Kd.R_lit_step (Kd.int .u16) (w0 := (w.alloc (.cells cx 30 (0, 0))).drew) (w.alloc (.cells cx 30 (0, 0))).drew.heap.size 24 (by rfl) (N := 12) rfl (xs := [m.sub]) (inner := [.int .u16 (m.sub)]) (ok := fun _ => True) (okp := fun _ => True) ?hr (Reps.one (show Kd.M (Kd.int .u16) _ _ _ (m.sub) [.int .u16 (m.sub)] from rfl) (Reps.none _ _)) (fun _ hk => hk) trivial HB.out HB.out.size (by simp) ?_
      case hr => first | (go_simp; done) | (go_simp; rfl)
      intro nv_ w2 hR_ hB_ hg_ hn_
      have z_R3 := fun (h0_ : b 3 = true) (h1_ : b 7 = false) => (show Kd.R (Kd.int .u8) 5 w2 (w.alloc (.cells cx 30 (0, 0))).drew.heap.size (fun _ => True) v3 (putL [m.sub]) from Kd.R_grown (Q_R3 h0_ h1_) hg_ (fun _ _ => by simp))
      have z_R6 := fun (h0_ : b 6 = true) (h1_ : b 7 = false) => (show Kd.R (Kd.int .u8) 5 w2 (w.alloc (.cells cx 30 (0, 0))).drew.heap.size (fun _ => True) v6 (putL m.words) from Kd.R_grown (Q_R6 h0_ h1_) hg_ (fun _ _ => by simp))
      have z_R7 := fun (h0_ : b 7 = true) => (show Kd.R (Kd.int .u8) 5 w2 (w.alloc (.cells cx 30 (0, 0))).drew.heap.size (fun _ => True) v7 (putL [m.sub] ++ putL m.words) from Kd.R_grown (Q_R7 h0_) hg_ (fun _ _ => by simp))
      refine hK.out _ _ ⟨nv_, v3, v6, v7, m8_, (by rw [ha.out]; exact putSel_upk 1 hb_ rfl rfl rfl), hB_, fun _ _ => hR_, fun h0_ _ => absurd ((hoff 3 (by kernel_rfl)).symm.trans h0_) (by decide), fun h0_ _ => absurd ((hoff 6 (by kernel_rfl)).symm.trans h0_) (by decide), fun h0_ => absurd ((hoff 7 (by kernel_rfl)).symm.trans h0_) (by decide), fun h0_ => absurd ((hoff 8 (by kernel_rfl)).symm.trans h0_) (by decide)⟩
    refine steps_cons ?_ ?_
    · rintro b a w' ⟨v2, v3, v6, v7, m8_, ha, Q_HB, Q_R2, Q_R3, Q_R6, Q_R7, Q_X8_⟩ hb_ hon hoff
      refine ⟨_, rfl, fun K hK => ?_⟩
      have e12 : a.tmps[12]? = some (v2) := by rw [ha]; exact putSel_on (e := (2, 12, v2)) 1 rfl rfl (hon 2 (by kernel_rfl)) rfl
      replace ha := Aside0.mk ha
      have HB := Aside0.mk Q_HB
      have R2 := Aside0.mk (Q_R2 (hon 2 (by kernel_rfl)) hb_)
      obtain ⟨A_, c_, ev_, hc_, hr_⟩ := Kd.R_reads R2.out
      rw [ev_] at e12
      refine goes_ Try.func49 (by kernel_rfl) rfl #[.slice A_ ([m.sub]).length c_] (by rfl) rfl rfl (by first | (simp only [List.map_toArray, List.map_cons, List.map_nil, Act.eval, Array.getD_eq_getD_getElem?, Option.getD_some, e12]; done) | (simp only [List.map_toArray, List.map_cons, List.map_nil, Act.eval, Array.getD_eq_getD_getElem?, Option.getD_some, e12]; rfl)) ?_
      with_reducible refine (put_r (ws := [m.sub]) rfl (is16_1 HA.out.2.1) (by simp) hr_ hc_).mono ?_
      rintro en w2 ⟨nv_, rfl, hR_, hB_⟩
      refine ⟨_, rfl, ?_⟩
      have z_R6 := fun (h0_ : b 6 = true) (h1_ : b 7 = false) => (show Kd.R (Kd.int .u8) 5 w2 (w.alloc (.cells cx 30 (0, 0))).drew.heap.size (fun _ => True) v6 (putL m.words) from Kd.R_below (Q_R6 h0_ h1_) hB_)
      have z_R7 := fun (h0_ : b 7 = true) => (show Kd.R (Kd.int .u8) 5 w2 (w.alloc (.cells cx 30 (0, 0))).drew.heap.size (fun _ => True) v7 (putL [m.sub] ++ putL m.words) from Kd.R_below (Q_R7 h0_) hB_)
      refine hK.out _ _ ⟨v2, nv_, v6, v7, m8_, (by rw [ha.out]; exact putSel_upk 2 hb_ rfl rfl rfl), HB.out.trans (hB_.mono HB.out.size), fun _ h1_ => absurd ((up_self b 3).symm.trans h1_) (by decide), fun _ _ => Kd.R_lower hR_ HB.out.size, fun h0_ _ => absurd ((hoff 6 (by kernel_rfl)).symm.trans h0_) (by decide), fun h0_ => absurd ((hoff 7 (by kernel_rfl)).symm.trans h0_) (by decide), fun h0_ => absurd ((hoff 8 (by kernel_rfl)).symm.trans h0_) (by decide)⟩
    refine steps_cons ?_ ?_
    · rintro b a w' ⟨v2, v3, v6, v7, m8_, ha, Q_HB, Q_R2, Q_R3, Q_R6, Q_R7, Q_X8_⟩ hb_ hon hoff
      refine ⟨_, rfl, fun K hK => ?_⟩
      have e14 : a.tmps[14]? = some (.pointer (some ⟨w.heap.size, 12, none⟩)) := by rw [ha]; exact (putSel_off rfl).trans rfl
      replace ha := Aside0.mk ha
      have HB := Aside0.mk Q_HB
      have hs5_ : w'.cell? ⟨w.heap.size, 12, none⟩ = some (.slice A12 m.words.length c12) := (HB.out.cell (World.block_lt_of_cell? _ _ KW.out)).trans KW.out
      refine value_ (w1 := w') (v := .slice A12 m.words.length c12) (by rfl) rfl ?_ ?_
      · go_simp
        (try simp only [i64_w])
        try rfl
      refine hK.out _ _ ⟨v2, v3, v6, v7, m8_, (by rw [ha.out]; exact putSel_upk 3 hb_ rfl rfl rfl), Q_HB, Q_R2, Q_R3, fun h0_ _ => absurd ((hoff 6 (by kernel_rfl)).symm.trans h0_) (by decide), fun h0_ => absurd ((hoff 7 (by kernel_rfl)).symm.trans h0_) (by decide), fun h0_ => absurd ((hoff 8 (by kernel_rfl)).symm.trans h0_) (by decide)⟩
    refine steps_cons ?_ ?_
    · rintro b a w' ⟨v2, v3, v6, v7, m8_, ha, Q_HB, Q_R2, Q_R3, Q_R6, Q_R7, Q_X8_⟩ hb_ hon hoff
      refine ⟨_, rfl, fun K hK => ?_⟩
      have e15 : a.tmps[15]? = some (.slice A12 m.words.length c12) := by rw [ha]; exact putSel_on (e := (5, 15, .slice A12 m.words.length c12)) 3 rfl rfl (hon 5 (by kernel_rfl)) rfl
      replace ha := Aside0.mk ha
      have HB := Aside0.mk Q_HB
      have R3 := Aside0.mk (Q_R3 (hon 3 (by kernel_rfl)) (hoff 7 (by kernel_rfl)))
      refine goes_ Try.func49 (by kernel_rfl) rfl #[.slice A12 m.words.length c12] (by rfl) rfl rfl (by first | (simp only [List.map_toArray, List.map_cons, List.map_nil, Act.eval, Array.getD_eq_getD_getElem?, Option.getD_some, e15]; done) | (simp only [List.map_toArray, List.map_cons, List.map_nil, Act.eval, Array.getD_eq_getD_getElem?, Option.getD_some, e15]; rfl)) ?_
      with_reducible refine (put_r (ws := m.words) rfl HWS.out (by have := HWL.out; omega) (Kd.C_below RWD.out HB.out) QW.out).mono ?_
      rintro en w2 ⟨nv_, rfl, hR_, hB_⟩
      refine ⟨_, rfl, ?_⟩
      have z_R2 := fun (h0_ : b 2 = true) (h1_ : b 3 = false) => (show Kd.R (Kd.int .u16) 24 w2 (w.alloc (.cells cx 30 (0, 0))).drew.heap.size (fun _ => True) v2 ([m.sub]) from Kd.R_below (Q_R2 h0_ h1_) hB_)
      have z_R3 := fun (h0_ : b 3 = true) (h1_ : b 7 = false) => (show Kd.R (Kd.int .u8) 5 w2 (w.alloc (.cells cx 30 (0, 0))).drew.heap.size (fun _ => True) v3 (putL [m.sub]) from Kd.R_below (Q_R3 h0_ h1_) hB_)
      have z_R7 := fun (h0_ : b 7 = true) => (show Kd.R (Kd.int .u8) 5 w2 (w.alloc (.cells cx 30 (0, 0))).drew.heap.size (fun _ => True) v7 (putL [m.sub] ++ putL m.words) from Kd.R_below (Q_R7 h0_) hB_)
      refine hK.out _ _ ⟨v2, v3, nv_, v7, m8_, (by rw [ha.out]; exact putSel_upk 4 hb_ rfl rfl rfl), HB.out.trans (hB_.mono HB.out.size), fun _ h1_ => absurd ((hon 3 (by kernel_rfl)).symm.trans h1_) (by decide), z_R3, fun _ _ => Kd.R_lower hR_ HB.out.size, fun h0_ => absurd ((hoff 7 (by kernel_rfl)).symm.trans h0_) (by decide), fun h0_ => absurd ((hoff 8 (by kernel_rfl)).symm.trans h0_) (by decide)⟩
    refine steps_cons ?_ ?_
    · rintro b a w' ⟨v2, v3, v6, v7, m8_, ha, Q_HB, Q_R2, Q_R3, Q_R6, Q_R7, Q_X8_⟩ hb_ hon hoff
      refine ⟨_, rfl, fun K hK => ?_⟩
      have e13 : a.tmps[13]? = some (v3) := by rw [ha]; exact putSel_on (e := (3, 13, v3)) 2 rfl rfl (hon 3 (by kernel_rfl)) rfl
      have e16 : a.tmps[16]? = some (v6) := by rw [ha]; exact putSel_on (e := (6, 16, v6)) 4 rfl rfl (hon 6 (by kernel_rfl)) rfl
      replace ha := Aside0.mk ha
      have HB := Aside0.mk Q_HB
      have R3 := Aside0.mk (Q_R3 (hon 3 (by kernel_rfl)) hb_)
      have R6 := Aside0.mk (Q_R6 (hon 6 (by kernel_rfl)) hb_)
      obtain ⟨A_, c_, ev_, hc_, hr_⟩ := Kd.R_reads R6.out
      have HX_ : a.eval (.tmp 16) = .slice A_ (putL m.words).length c_ := by rw [← ev_]; exact (by simp only [Act.eval, Array.getD_eq_getD_getElem?, Option.getD_some, e16])
      refine Kd.R_append_rows_step (Kd.int .u8) (w0 := (w.alloc (.cells cx 30 (0, 0))).drew) (w.alloc (.cells cx 30 (0, 0))).drew.heap.size (by rfl) (.tmp 13) (.tmp 16) 22 5 (.int .u8 0) 1 rfl Try.underlying22 (by kernel_rfl) rfl (by decide) (by decide) v3 (putL [m.sub]) (putL m.words) A_ ((putL m.words).length) c_ (fun _ => True) (fun _ => False) (by simp only [Act.eval, Array.getD_eq_getD_getElem?, Option.getD_some, e13]) HX_ R3.out hr_ (fun _ _ h => h) (fun _ h => h.elim) (fun _ _ => trivial) HB.out HB.out.size (by rw [putL_length, putL_length]; have := HWL.out; simp only [List.length_cons, List.length_nil]; omega) ?_
      intro nv_ w2 hR_ hB_ hg_ hat_
      refine hK.out _ _ ⟨v2, v3, v6, nv_, m8_, (by rw [ha.out]; exact putSel_upk 5 hb_ rfl rfl rfl), hB_, fun _ h1_ => absurd ((hon 3 (by kernel_rfl)).symm.trans h1_) (by decide), fun _ h1_ => absurd ((up_self b 7).symm.trans h1_) (by decide), fun _ h1_ => absurd ((up_self b 7).symm.trans h1_) (by decide), fun _ => hR_, fun h0_ => absurd ((hoff 8 (by kernel_rfl)).symm.trans h0_) (by decide)⟩
    refine steps_cons ?_ ?_
    · rintro b a w' ⟨v2, v3, v6, v7, m8_, ha, Q_HB, Q_R2, Q_R3, Q_R6, Q_R7, Q_X8_⟩ hb_ hon hoff
      refine ⟨_, rfl, fun K hK => ?_⟩
      have e17 : a.tmps[17]? = some (v7) := by rw [ha]; exact putSel_on (e := (7, 17, v7)) 5 rfl rfl (hon 7 (by kernel_rfl)) rfl
      replace ha := Aside0.mk ha
      have HB := Aside0.mk Q_HB
      have R7 := Aside0.mk (Q_R7 (hon 7 (by kernel_rfl)))
      refine value_ (w1 := w') (v := v7) (by rfl) rfl ?_ ?_
      · go_simp
        (try simp only [i64_w])
        try rfl
      refine hK.out _ _ ⟨v2, v3, v6, v7, (v7), (by rw [ha.out]; exact putSel_upk 6 hb_ rfl rfl rfl), Q_HB, fun _ h1_ => absurd ((hon 3 (by kernel_rfl)).symm.trans h1_) (by decide), fun _ h1_ => absurd ((hon 7 (by kernel_rfl)).symm.trans h1_) (by decide), fun _ h1_ => absurd ((hon 7 (by kernel_rfl)).symm.trans h1_) (by decide), Q_R7, fun _ => rfl⟩
    exact steps_nil
  rintro b a w2 hall ⟨v2, v3, v6, v7, m8_, ha, Q_HB, Q_R2, Q_R3, Q_R6, Q_R7, Q_X8_⟩
  clear HB
  have hb1_ := hall 1 (by kernel_rfl)
  have hb2_ := hall 2 (by kernel_rfl)
  have hb3_ := hall 3 (by kernel_rfl)
  have hb5_ := hall 5 (by kernel_rfl)
  have hb6_ := hall 6 (by kernel_rfl)
  have hb7_ := hall 7 (by kernel_rfl)
  have hb8_ := hall 8 (by kernel_rfl)
  subst ha
  obtain rfl := Q_X8_ hb8_
  simp only [putSel, hb1_, hb2_, hb3_, hb5_, hb6_, hb7_, hb8_, if_true, Act.put, List.setIfInBounds_toArray, List.set_cons_zero, List.set_cons_succ]
  have HB := Aside0.mk Q_HB
  clear Q_HB
  clear Q_R2
  clear Q_R3
  clear Q_R6
  have R7 := Aside0.mk (Q_R7 hb7_)
  clear Q_R7
  clear hall hb1_ hb2_ hb3_ hb5_ hb6_ hb7_ hb8_
  obtain ⟨A7, c7, rfl, hz7, hr7⟩ := Kd.R_reads R7.out
  have HZ7 := Aside0.mk hz7
  have HR7 := Aside0.mk hr7
  have HBW := Aside0.mk (H.out.dr.on HB.out).b
  clear hz7 hr7 H HB R7
  go_wp2
  go_ret
  exact ⟨A7, c7, by rw [len8 m.sub m.words]; rfl, HZ7.out, HR7.out, HBW.out⟩
theorem lay_0 {dir : Int} {m : Msg} {cx : Array Value} {w : World} (hm : IsMsg w cx m) (hdl : m.data.length ≤ 900000) (hw : m.words.length ≤ 900000) (hk : m.code ≠ 8) (hd : dir = 0) :
    Calls Try.prog 35 #[.int .i64 dir, .agg cx] w fun en w' => ∃ A c, en = .returned (.slice A (lay dir m).length c) ∧ (lay dir m).length ≤ c ∧ Kd.C (Kd.int .u8) w' A (lay dir m).length (lay dir m) ∧ Below w.heap.size w w' := by
  obtain ⟨⟨a0, a1, a2, a3, a4, a5, a6, a7, a8, a9, a10, a11, _⟩, adt, _⟩ := goodM_num hm.good
  have hws : is16 m.words := hm.good.2.1
  have H := Aside0.mk (Hd.start w)
  have hsz := hm.size
  have hix := msg_info hsz
  have n0_ := Aside0.mk ((((H.out.on (below_alloc (Below.refl _ _) (Obj.cells cx 30)))).add (sta_blk _ _) (blk_new _ _)).add (sta_msg _ _) (hm.on (below_alloc (Below.refl _ _) _)))
  clear H
  have H := n0_
  clear n0_
  have b8 : (m.code == 8) = false := beq_eq_false_iff_ne.2 hk
  have bd : (dir == 0) = true := beq_iff_eq.2 hd
  have kcode := bx_code H.out.f.1.2 H.out.f.2
  rw [show lay dir m = [] from by unfold lay; rw [if_neg hk, if_pos hd]]
  have HA := Aside0.mk (And.intro a4 (And.intro a8 (And.intro a9 (And.intro a10 a11))))
  have HWS := Aside0.mk hws
  have HWL := Aside0.mk hw
  have HDL := Aside0.mk hdl
  clear a0 a1 a2 a3 a4 a5 a6 a7 a8 a9 a10 a11 adt hws hm
  clear hk hd
  go_enter Try.func35, Try.ntmps35
  go_wp2_with (first | (fail))
  go_ret
  exact ⟨none, 0, rfl, Nat.le_refl _, Kd.C_nil _ _, H.out.b⟩
theorem lay_7 {dir : Int} {m : Msg} {cx : Array Value} {w : World} (hm : IsMsg w cx m) (hdl : m.data.length ≤ 900000) (hw : m.words.length ≤ 900000) (hd : dir ≠ 0) (hk : m.code = 7) :
    Calls Try.prog 35 #[.int .i64 dir, .agg cx] w fun en w' => ∃ A c, en = .returned (.slice A (lay dir m).length c) ∧ (lay dir m).length ≤ c ∧ Kd.C (Kd.int .u8) w' A (lay dir m).length (lay dir m) ∧ Below w.heap.size w w' := by
  obtain ⟨⟨a0, a1, a2, a3, a4, a5, a6, a7, a8, a9, a10, a11, _⟩, adt, _⟩ := goodM_num hm.good
  have hws : is16 m.words := hm.good.2.1
  have H := Aside0.mk (Hd.start w)
  have hsz := hm.size
  have hix := msg_info hsz
  have n0_ := Aside0.mk ((((H.out.on (below_alloc (Below.refl _ _) (Obj.cells cx 30)))).add (sta_blk _ _) (blk_new _ _)).add (sta_msg _ _) (hm.on (below_alloc (Below.refl _ _) _)))
  clear H
  have H := n0_
  clear n0_
  have b8 : (m.code == 8) = false := beq_eq_false_iff_ne.2 (by omega)
  have b7 : (m.code == 7) = true := beq_iff_eq.2 hk
  have b11 : (m.code == 11) = false := beq_eq_false_iff_ne.2 (by omega)
  have b12 : (m.code == 12) = false := beq_eq_false_iff_ne.2 (by omega)
  have bd : (dir == 0) = false := beq_eq_false_iff_ne.2 hd
  have kcode := bx_code H.out.f.1.2 H.out.f.2
  rw [show lay dir m = [m.value % 256] from by unfold lay; rw [if_neg (by omega), if_neg hd, if_pos hk]]
  have kval := bx_value H.out.f.1.2 H.out.f.2
  have wv : IntKind.u8.wrap m.value = m.value % 256 := by rw [IntKind.wrap_u8]
  have HA := Aside0.mk (And.intro a4 (And.intro a8 (And.intro a9 (And.intro a10 a11))))
  have HWS := Aside0.mk hws
  have HWL := Aside0.mk hw
  have HDL := Aside0.mk hdl
  clear a0 a1 a2 a3 a4 a5 a6 a7 a8 a9 a10 a11 adt hws hm
  clear hk
  clear hd
  go_enter Try.func35, Try.ntmps35
  go_wp2_with (first | ((with_reducible refine gate_dst (N := 28) rfl ?_); (try (refine gate_guard (by rfl) ?_; dsimp only)); refine ev_lit .u8 [m.value % 256] 5 rfl (by first | (go_simp; done) | (go_simp; rfl)) (by simp) ?_; intro Al cl wl bl he_ hr_ hz_ hb_; have Zl := Aside0.mk hz_; have El := Aside0.mk he_; have n0_ := Aside0.mk ((H.out.on hb_).add (sta_C _ _ _ _) (hr_)); clear H; have H := n0_; clear n0_; clear hr_ hz_ hb_ he_))
  go_ret
  exact ⟨Al, cl, by rw [El.out]; rfl, by have := Zl.out; rw [El.out] at this; exact this, by have := H.out.f.2; rw [El.out] at this; exact this, H.out.b⟩
theorem lay_11 {dir : Int} {m : Msg} {cx : Array Value} {w : World} (hm : IsMsg w cx m) (hdl : m.data.length ≤ 900000) (hw : m.words.length ≤ 900000) (hd : dir ≠ 0) (hk : m.code = 11) :
    Calls Try.prog 35 #[.int .i64 dir, .agg cx] w fun en w' => ∃ A c, en = .returned (.slice A (lay dir m).length c) ∧ (lay dir m).length ≤ c ∧ Kd.C (Kd.int .u8) w' A (lay dir m).length (lay dir m) ∧ Below w.heap.size w w' := by
  obtain ⟨⟨a0, a1, a2, a3, a4, a5, a6, a7, a8, a9, a10, a11, _⟩, adt, _⟩ := goodM_num hm.good
  have hws : is16 m.words := hm.good.2.1
  have H := Aside0.mk (Hd.start w)
  have hsz := hm.size
  have hix := msg_info hsz
  have n0_ := Aside0.mk ((((H.out.on (below_alloc (Below.refl _ _) (Obj.cells cx 30)))).add (sta_blk _ _) (blk_new _ _)).add (sta_msg _ _) (hm.on (below_alloc (Below.refl _ _) _)))
  clear H
  have H := n0_
  clear n0_
  have b8 : (m.code == 8) = false := beq_eq_false_iff_ne.2 (by omega)
  have b7 : (m.code == 7) = false := beq_eq_false_iff_ne.2 (by omega)
  have b11 : (m.code == 11) = true := beq_iff_eq.2 hk
  have b12 : (m.code == 12) = false := beq_eq_false_iff_ne.2 (by omega)
  have bd : (dir == 0) = false := beq_eq_false_iff_ne.2 hd
  have kcode := bx_code H.out.f.1.2 H.out.f.2
  rw [show lay dir m = putL [m.status, m.events] from by unfold lay; rw [if_neg (by omega), if_neg hd, if_neg (by omega), if_pos hk]]
  have ks := bx_status H.out.f.1.2 H.out.f.2
  have ke := bx_events H.out.f.1.2 H.out.f.2
  have HA := Aside0.mk (And.intro a4 (And.intro a8 (And.intro a9 (And.intro a10 a11))))
  have HWS := Aside0.mk hws
  have HWL := Aside0.mk hw
  have HDL := Aside0.mk hdl
  clear a0 a1 a2 a3 a4 a5 a6 a7 a8 a9 a10 a11 adt hws hm
  clear hk
  clear hd
  go_enter Try.func35, Try.ntmps35
  go_wp2_with (first | ((with_reducible refine gate_dst (N := 37) rfl ?_); (try (refine gate_guard (by rfl) ?_; dsimp only)); refine ev_lit .u16 [m.status, m.events] 24 rfl (by first | (go_simp; done) | (go_simp; rfl)) (by simp) ?_; intro Al cl wl bl he_ hr_ hz_ hb_; have Zl := Aside0.mk hz_; have El := Aside0.mk he_; have n0_ := Aside0.mk ((H.out.on hb_).add (sta_C _ _ _ _) (hr_)); clear H; have H := n0_; clear n0_; clear hr_ hz_ hb_ he_) | (go_at_call 49; (with_reducible refine (put_b (ws := bl) rfl (by rw [El.out]; exact is16_2 HA.out.2.2.1 HA.out.2.2.2.1) (by rw [El.out]; simp) H.out.f.2 Zl.out).mono ?_); rintro en wq ⟨Aq, cq, rfl, hz_, hr_, hb_⟩; have n0_ := Aside0.mk ((H.out.on hb_).add (sta_C _ _ _ _) (hr_)); clear H; have H := n0_; clear n0_; have Zq := Aside0.mk hz_; clear hb_ hz_ hr_))
  go_ret
  rw [← El.out]
  exact ⟨Aq, cq, rfl, Zq.out, H.out.f.2, H.out.b⟩
def lay.T10 : Bool × List (List Nat × List Nat) := (true, [([], []), ([0], [0]), ([1], [1]), ([2], [2]), ([3], [3]), ([4], [4]), ([], []), ([6], [6]), ([], []), ([8], [8]), ([], []), ([10], [10]), ([7, 9, 11], [7, 9, 11]), ([12], [12]), ([5, 13, 13], [5, 13]), ([14, 14, 0, 1, 2, 3, 4, 5, 6, 7, 8, 9, 10, 11, 12, 13, 14], [14])])
def lay.B10 : List Nat := [0, 1, 3, 7, 15, 31, 0, 64, 0, 256, 0, 1024, 4032, 8128, 16383, 32767]
theorem lay.tab10 : rtab .any (opsOf Try.f35 10) = lay.T10 := by kernel_rfl
theorem lay.bits10 : waitsOk lay.T10.2 lay.B10 = true := by kernel_rfl
theorem lay_12 {dir : Int} {m : Msg} {cx : Array Value} {w : World} (hm : IsMsg w cx m) (hdl : m.data.length ≤ 900000) (hw : m.words.length ≤ 900000) (hd : dir ≠ 0) (hk : m.code = 12) :
    Calls Try.prog 35 #[.int .i64 dir, .agg cx] w fun en w' => ∃ A c, en = .returned (.slice A (lay dir m).length c) ∧ (lay dir m).length ≤ c ∧ Kd.C (Kd.int .u8) w' A (lay dir m).length (lay dir m) ∧ Below w.heap.size w w' := by
  obtain ⟨⟨a0, a1, a2, a3, a4, a5, a6, a7, a8, a9, a10, a11, _⟩, adt, _⟩ := goodM_num hm.good
  have hws : is16 m.words := hm.good.2.1
  have H := Aside0.mk (Hd.start w)
  have hsz := hm.size
  have hix := msg_info hsz
  have n0_ := Aside0.mk ((((H.out.on (below_alloc (Below.refl _ _) (Obj.cells cx 30)))).add (sta_blk _ _) (blk_new _ _)).add (sta_msg _ _) (hm.on (below_alloc (Below.refl _ _) _)))
  clear H
  have H := n0_
  clear n0_
  have b8 : (m.code == 8) = false := beq_eq_false_iff_ne.2 (by omega)
  have b7 : (m.code == 7) = false := beq_eq_false_iff_ne.2 (by omega)
  have b11 : (m.code == 11) = false := beq_eq_false_iff_ne.2 (by omega)
  have b12 : (m.code == 12) = true := beq_iff_eq.2 hk
  have bd : (dir == 0) = false := beq_eq_false_iff_ne.2 hd
  have kcode := bx_code H.out.f.1.2 H.out.f.2
  rw [show lay dir m = logged m.status m.events m.messages m.data from by unfold lay; rw [if_neg (by omega), if_neg hd, if_neg (by omega), if_neg (by omega), if_pos hk]]
  obtain ⟨A12, c12, A13, c13, A14, c14, A15, c15, A21, c21, ⟨l12, _, l14, _, _⟩, ⟨r12, q12⟩, _, ⟨r14, q14⟩, _, _⟩ := IsMsg.lists H.out.f.2
  have kd := (blk_cell H.out.f.1.2 14).trans l14
  have RD := Aside0.mk r14
  have QD := Aside0.mk q14
  clear l12 r12 q12 l14 r14 q14
  have ks := bx_status H.out.f.1.2 H.out.f.2
  have ke := bx_events H.out.f.1.2 H.out.f.2
  have kg := bx_messages H.out.f.1.2 H.out.f.2
  have HA := Aside0.mk (And.intro a4 (And.intro a8 (And.intro a9 (And.intro a10 a11))))
  have HWS := Aside0.mk hws
  have HWL := Aside0.mk hw
  have HDL := Aside0.mk hdl
  clear a0 a1 a2 a3 a4 a5 a6 a7 a8 a9 a10 a11 adt hws hm
  clear hk
  clear hd
  go_enter Try.func35, Try.ntmps35
  go_upto_region 10 with (fail)
  have KD := Aside0.mk (show (w.alloc (.cells cx 30 (0, 0))).drew.cell? ⟨w.heap.size, 14, none⟩ = some (.slice A14 m.data.length c14) from kd)
  have KS := Aside0.mk (show (w.alloc (.cells cx 30 (0, 0))).drew.cell? ⟨w.heap.size, 9, none⟩ = some (.int .u16 m.status) from ks)
  have KE := Aside0.mk (show (w.alloc (.cells cx 30 (0, 0))).drew.cell? ⟨w.heap.size, 10, none⟩ = some (.int .u16 m.events) from ke)
  have KG := Aside0.mk (show (w.alloc (.cells cx 30 (0, 0))).drew.cell? ⟨w.heap.size, 11, none⟩ = some (.int .u16 m.messages) from kg)
  have RDD := Aside0.mk (Kd.C_below RD.out (below_drew (Below.refl _ _)))
  clear kd ks ke kg kcode
  have HB := Aside0.mk (Below.refl (w.alloc (.cells cx 30 (0, 0))).drew.heap.size ((w.alloc (.cells cx 30 (0, 0))).drew))
  refine start_ (n := 16) (S := fun w' => True) (ds := []) #[false, false, false, false, false, false, false, false, false, false, false, false, false, false, false, false] (by kernel_rfl) rfl rfl trivial (fun hHeld => ?_)
  refine with_tabW lay.tab10 lay.bits10 (fun HT_ HW_ => ?_)
  refine pure_ (i := 0) (N := some 43) (v := ?_) (a' := ?_) #[true, false, false, false, false, false, false, false, false, false, false, false, false, false, false, false] rfl rfl (any_of HT_.out (by kernel_rfl)) (fun _ _ _ h => h) (Or.inl ⟨by rfl, ?_⟩) ?_ ?_
  rotate_left
  · intro w'
    go_simp
    with_reducible rfl
  rotate_left
  · simp only [Act.put, List.setIfInBounds_toArray, List.set_cons_zero, List.set_cons_succ, i64_w, i32_w]
    rfl
  refine pure_ (i := 6) (N := some 49) (v := ?_) (a' := ?_) #[true, false, false, false, false, false, true, false, false, false, false, false, false, false, false, false] rfl rfl (any_of HT_.out (by kernel_rfl)) (fun _ _ _ h => h) (Or.inl ⟨by rfl, ?_⟩) ?_ ?_
  rotate_left
  · intro w'
    go_simp
    with_reducible rfl
  rotate_left
  · simp only [Act.put, List.setIfInBounds_toArray, List.set_cons_zero, List.set_cons_succ, i64_w, i32_w]
    rfl
  refine pure_ (i := 8) (N := some 51) (v := ?_) (a' := ?_) #[true, false, false, false, false, false, true, false, true, false, false, false, false, false, false, false] rfl rfl (any_of HT_.out (by kernel_rfl)) (fun _ _ _ h => h) (Or.inl ⟨by rfl, ?_⟩) ?_ ?_
  rotate_left
  · intro w'
    go_simp
    with_reducible rfl
  rotate_left
  · simp only [Act.put, List.setIfInBounds_toArray, List.set_cons_zero, List.set_cons_succ, i64_w, i32_w]
    rfl
  refine pure_ (i := 10) (N := some 53) (v := ?_) (a' := ?_) #[true, false, false, false, false, false, true, false, true, false, true, false, false, false, false, false] rfl rfl (any_of HT_.out (by kernel_rfl)) (fun _ _ _ h => h) (Or.inl ⟨by rfl, ?_⟩) ?_ ?_
  rotate_left
  · intro w'
    go_simp
    with_reducible rfl
  rotate_left
  · simp only [Act.put, List.setIfInBounds_toArray, List.set_cons_zero, List.set_cons_succ, i64_w, i32_w]
    rfl
  refine inv_at [1, 2, 3, 4, 5, 7, 9, 11, 12, 13, 14, 15] (fun a0_ b a w' => ∃ (v5 : Value) (v12 : Value) (v13 : Value) (v14 : Value) (m15_ : Value), a = putSel a0_ b [(1, 44, .slice A14 m.data.length c14), (2, 45, .int .i64 (m.data.length : Int)), (3, 46, .int .i64 (6 + (m.data.length : Int))), (4, 47, .int .u8 (((m.data.length : Int) + 6) % 256)), (5, 48, v5), (7, 50, .int .u16 m.status), (9, 52, .int .u16 m.events), (11, 54, .int .u16 m.messages), (12, 55, v12), (13, 56, v13), (14, 57, v14), (15, 5, m15_)] ∧ (Below (w.alloc (.cells cx 30 (0, 0))).drew.heap.size (w.alloc (.cells cx 30 (0, 0))).drew w') ∧ (b 5 = true → b 14 = false → Kd.R (Kd.int .u8) 5 w' (w.alloc (.cells cx 30 (0, 0))).drew.heap.size (fun _ => True) v5 ([((m.data.length : Int) + 6) % 256])) ∧ (b 12 = true → b 13 = false → Kd.R (Kd.int .u16) 24 w' (w.alloc (.cells cx 30 (0, 0))).drew.heap.size (fun _ => True) v12 ([m.status, m.events, m.messages])) ∧ (b 13 = true → b 14 = false → Kd.R (Kd.int .u8) 5 w' (w.alloc (.cells cx 30 (0, 0))).drew.heap.size (fun _ => True) v13 (putL [m.status, m.events, m.messages])) ∧ (b 14 = true → Kd.R (Kd.int .u8) 5 w' (w.alloc (.cells cx 30 (0, 0))).drew.heap.size (fun _ => True) v14 ([((m.data.length : Int) + 6) % 256] ++ putL [m.status, m.events, m.messages])) ∧ (b 15 = true → (m15_ : Value) = v14)) HT_.out HW_.out (by kernel_rfl) (by kernel_rfl) ?_ ?_ ?_
  · exact ⟨.bool false, .bool false, .bool false, .bool false, .bool false, by simp only [putSel, Bool.false_eq_true, if_false], HB.out, fun h_ => absurd h_ (by decide), fun h_ => absurd h_ (by decide), fun h_ => absurd h_ (by decide), fun h_ => absurd h_ (by decide), fun h_ => absurd h_ (by decide)⟩
  · skip
    clear HB
    refine steps_cons ?_ ?_
    · rintro b a w' ⟨v5, v12, v13, v14, m15_, ha, Q_HB, Q_R5, Q_R12, Q_R13, Q_R14, Q_X15_⟩ hb_ hon hoff
      refine ⟨_, rfl, fun K hK => ?_⟩
      have e43 : a.tmps[43]? = some (.pointer (some ⟨w.heap.size, 14, none⟩)) := by rw [ha]; exact (putSel_off rfl).trans rfl
      replace ha := Aside0.mk ha
      have HB := Aside0.mk Q_HB
      have hs1_ : w'.cell? ⟨w.heap.size, 14, none⟩ = some (.slice A14 m.data.length c14) := (HB.out.cell (World.block_lt_of_cell? _ _ KD.out)).trans KD.out
      refine value_ (w1 := w') (v := .slice A14 m.data.length c14) (by rfl) rfl ?_ ?_
      · go_simp
        (try simp only [i64_w])
        try rfl
      refine hK.out _ _ ⟨v5, v12, v13, v14, m15_, (by rw [ha.out]; exact putSel_upk 0 hb_ rfl rfl rfl), Q_HB, fun h0_ _ => absurd ((hoff 5 (by kernel_rfl)).symm.trans h0_) (by decide), Q_R12, Q_R13, fun h0_ => absurd ((hoff 14 (by kernel_rfl)).symm.trans h0_) (by decide), fun h0_ => absurd ((hoff 15 (by kernel_rfl)).symm.trans h0_) (by decide)⟩
    refine steps_cons ?_ ?_
    · rintro b a w' ⟨v5, v12, v13, v14, m15_, ha, Q_HB, Q_R5, Q_R12, Q_R13, Q_R14, Q_X15_⟩ hb_ hon hoff
      refine ⟨_, rfl, fun K hK => ?_⟩
      have e44 : a.tmps[44]? = some (.slice A14 m.data.length c14) := by rw [ha]; exact putSel_on (e := (1, 44, .slice A14 m.data.length c14)) 0 rfl rfl (hon 1 (by kernel_rfl)) rfl
      replace ha := Aside0.mk ha
      have HB := Aside0.mk Q_HB
      refine value_ (w1 := w') (v := .int .i64 (m.data.length : Int)) (by rfl) rfl ?_ ?_
      · go_simp
        (try simp only [i64_w])
        try rfl
      refine hK.out _ _ ⟨v5, v12, v13, v14, m15_, (by rw [ha.out]; exact putSel_upk 1 hb_ rfl rfl rfl), Q_HB, fun h0_ _ => absurd ((hoff 5 (by kernel_rfl)).symm.trans h0_) (by decide), Q_R12, Q_R13, fun h0_ => absurd ((hoff 14 (by kernel_rfl)).symm.trans h0_) (by decide), fun h0_ => absurd ((hoff 15 (by kernel_rfl)).symm.trans h0_) (by decide)⟩
    refine steps_cons ?_ ?_
    · rintro b a w' ⟨v5, v12, v13, v14, m15_, ha, Q_HB, Q_R5, Q_R12, Q_R13, Q_R14, Q_X15_⟩ hb_ hon hoff
      refine ⟨_, rfl, fun K hK => ?_⟩
      have e45 : a.tmps[45]? = some (.int .i64 (m.data.length : Int)) := by rw [ha]; exact putSel_on (e := (2, 45, .int .i64 (m.data.length : Int))) 1 rfl rfl (hon 2 (by kernel_rfl)) rfl
      replace ha := Aside0.mk ha
      have HB := Aside0.mk Q_HB
      have w6 : wrap64 (6 + (m.data.length : Int)) = 6 + (m.data.length : Int) := wrap64_id (by have := HDL.out; omega) (by have := HDL.out; omega)
      have w6b : IntKind.i64.wrap (6 + (m.data.length : Int)) = 6 + (m.data.length : Int) := by rw [i64_w]; exact w6
      refine value_ (w1 := w') (v := .int .i64 (6 + (m.data.length : Int))) (by rfl) rfl ?_ ?_
      · go_simp
        (try simp only [i64_w])
        try rfl
      refine hK.out _ _ ⟨v5, v12, v13, v14, m15_, (by rw [ha.out]; exact putSel_upk 2 hb_ rfl rfl rfl), Q_HB, fun h0_ _ => absurd ((hoff 5 (by kernel_rfl)).symm.trans h0_) (by decide), Q_R12, Q_R13, fun h0_ => absurd ((hoff 14 (by kernel_rfl)).symm.trans h0_) (by decide), fun h0_ => absurd ((hoff 15 (by kernel_rfl)).symm.trans h0_) (by decide)⟩
    refine steps_cons ?_ ?_
    · rintro b a w' ⟨v5, v12, v13, v14, m15_, ha, Q_HB, Q_R5, Q_R12, Q_R13, Q_R14, Q_X15_⟩ hb_ hon hoff
      refine ⟨_, rfl, fun K hK => ?_⟩
      have e46 : a.tmps[46]? = some (.int .i64 (6 + (m.data.length : Int))) := by rw [ha]; exact putSel_on (e := (3, 46, .int .i64 (6 + (m.data.length : Int)))) 2 rfl rfl (hon 3 (by kernel_rfl)) rfl
      replace ha := Aside0.mk ha
      have HB := Aside0.mk Q_HB
      have wl : IntKind.u8.wrap (6 + (m.data.length : Int)) = ((m.data.length : Int) + 6) % 256 := by first | (rw [IntKind.wrap_u8]; done) | (rw [IntKind.wrap_u8]; congr 1; omega)
      refine value_ (w1 := w') (v := .int .u8 (((m.data.length : Int) + 6) % 256)) (by rfl) rfl ?_ ?_
      · go_simp
        (try simp only [i64_w])
        try rfl
      refine hK.out _ _ ⟨v5, v12, v13, v14, m15_, (by rw [ha.out]; exact putSel_upk 3 hb_ rfl rfl rfl), Q_HB, fun h0_ _ => absurd ((hoff 5 (by kernel_rfl)).symm.trans h0_) (by decide), Q_R12, Q_R13, fun h0_ => absurd ((hoff 14 (by kernel_rfl)).symm.trans h0_) (by decide), fun h0_ => absurd ((hoff 15 (by kernel_rfl)).symm.trans h0_) (by decide)⟩
    refine steps_cons ?_ ?_
    · rintro b a w' ⟨v5, v12, v13, v14, m15_, ha, Q_HB, Q_R5, Q_R12, Q_R13, Q_R14, Q_X15_⟩ hb_ hon hoff
      refine ⟨_, rfl, fun K hK => ?_⟩
      have e47 : a.tmps[47]? = some (.int .u8 (((m.data.length : Int) + 6) % 256)) := by rw [ha]; exact putSel_on (e := (4, 47, .int .u8 (((m.data.length : Int) + 6) % 256))) 3 rfl rfl (hon 4 (by kernel_rfl)) rfl
      replace ha := Aside0.mk ha
      have HB := Aside0.mk Q_HB
      refine Kd.R_lit_step (Kd.int .u8) (w0 := (w.alloc (.cells cx 30 (0, 0))).drew) (w.alloc (.cells cx 30 (0, 0))).drew.heap.size 5 (by rfl) (N := 48) rfl (xs := [((m.data.length : Int) + 6) % 256]) (inner := [.int .u8 (((m.data.length : Int) + 6) % 256)]) (ok := fun _ => True) (okp := fun _ => True) ?hr (Reps.one (show Kd.M (Kd.int .u8) _ _ _ (((m.data.length : Int) + 6) % 256) [.int .u8 (((m.data.length : Int) + 6) % 256)] from rfl) (Reps.none _ _)) (fun _ hk => hk) trivial HB.out HB.out.size (by simp) ?_
      case hr => first | (go_simp; done) | (go_simp; rfl)
      intro nv_ w2 hR_ hB_ hg_ hn_
      have z_R12 := fun (h0_ : b 12 = true) (h1_ : b 13 = false) => (show Kd.R (Kd.int .u16) 24 w2 (w.alloc (.cells cx 30 (0, 0))).drew.heap.size (fun _ => True) v12 ([m.status, m.events, m.messages]) from Kd.R_grown (Q_R12 h0_ h1_) hg_ (fun _ _ => by simp))
      have z_R13 := fun (h0_ : b 13 = true) (h1_ : b 14 = false) => (show Kd.R (Kd.int .u8) 5 w2 (w.alloc (.cells cx 30 (0, 0))).drew.heap.size (fun _ => True) v13 (putL [m.status, m.events, m.messages]) from Kd.R_grown (Q_R13 h0_ h1_) hg_ (fun _ _ => by simp))
      have z_R14 := fun (h0_ : b 14 = true) => (show Kd.R (Kd.int .u8) 5 w2 (w.alloc (.cells cx 30 (0, 0))).drew.heap.size (fun _ => True) v14 ([((m.data.length : Int) + 6) % 256] ++ putL [m.status, m.events, m.messages]) from Kd.R_grown (Q_R14 h0_) hg_ (fun _ _ => by simp))
      refine hK.out _ _ ⟨nv_, v12, v13, v14, m15_, (by rw [ha.out]; exact putSel_upk 4 hb_ rfl rfl rfl), hB_, fun _ _ => hR_, z_R12, z_R13, fun h0_ => absurd ((hoff 14 (by kernel_rfl)).symm.trans h0_) (by decide), fun h0_ => absurd ((hoff 15 (by kernel_rfl)).symm.trans h0_) (by decide)⟩
    refine steps_cons ?_ ?_
    · rintro b a w' ⟨v5, v12, v13, v14, m15_, ha, Q_HB, Q_R5, Q_R12, Q_R13, Q_R14, Q_X15_⟩ hb_ hon hoff
      refine ⟨_, rfl, fun K hK => ?_⟩
      have e49 : a.tmps[49]? = some (.pointer (some ⟨w.heap.size, 9, none⟩)) := by rw [ha]; exact (putSel_off rfl).trans rfl
      replace ha := Aside0.mk ha
      have HB := Aside0.mk Q_HB
      have hs7_ : w'.cell? ⟨w.heap.size, 9, none⟩ = some (.int .u16 m.status) := (HB.out.cell (World.block_lt_of_cell? _ _ KS.out)).trans KS.out
      refine value_ (w1 := w') (v := .int .u16 m.status) (by rfl) rfl ?_ ?_
      · go_simp
        (try simp only [i64_w])
        try rfl
      refine hK.out _ _ ⟨v5, v12, v13, v14, m15_, (by rw [ha.out]; exact putSel_upk 5 hb_ rfl rfl rfl), Q_HB, Q_R5, fun h0_ _ => absurd ((hoff 12 (by kernel_rfl)).symm.trans h0_) (by decide), fun h0_ _ => absurd ((hoff 13 (by kernel_rfl)).symm.trans h0_) (by decide), fun h0_ => absurd ((hoff 14 (by kernel_rfl)).symm.trans h0_) (by decide), fun h0_ => absurd ((hoff 15 (by kernel_rfl)).symm.trans h0_) (by decide)⟩
    refine steps_cons ?_ ?_
    · rintro b a w' ⟨v5, v12, v13, v14, m15_, ha, Q_HB, Q_R5, Q_R12, Q_R13, Q_R14, Q_X15_⟩ hb_ hon hoff
      refine ⟨_, rfl, fun K hK => ?_⟩
      have e51 : a.tmps[51]? = some (.pointer (some ⟨w.heap.size, 10, none⟩)) := by rw [ha]; exact (putSel_off rfl).trans rfl
      replace ha := Aside0.mk ha
      have HB := Aside0.mk Q_HB
      have hs9_ : w'.cell? ⟨w.heap.size, 10, none⟩ = some (.int .u16 m.events) := (HB.out.cell (World.block_lt_of_cell? _ _ KE.out)).trans KE.out
      refine value_ (w1 := w') (v := .int .u16 m.events) (by rfl) rfl ?_ ?_
      · go_simp
        (try simp only [i64_w])
        try rfl
      refine hK.out _ _ ⟨v5, v12, v13, v14, m15_, (by rw [ha.out]; exact putSel_upk 6 hb_ rfl rfl rfl), Q_HB, Q_R5, fun h0_ _ => absurd ((hoff 12 (by kernel_rfl)).symm.trans h0_) (by decide), fun h0_ _ => absurd ((hoff 13 (by kernel_rfl)).symm.trans h0_) (by decide), fun h0_ => absurd ((hoff 14 (by kernel_rfl)).symm.trans h0_) (by decide), fun h0_ => absurd ((hoff 15 (by kernel_rfl)).symm.trans h0_) (by decide)⟩
    refine steps_cons ?_ ?_
    · rintro b a w' ⟨v5, v12, v13, v14, m15_, ha, Q_HB, Q_R5, Q_R12, Q_R13, Q_R14, Q_X15_⟩ hb_ hon hoff
      refine ⟨_, rfl, fun K hK => ?_⟩
      have e53 : a.tmps[53]? = some (.pointer (some ⟨w.heap.size, 11, none⟩)) := by rw [ha]; exact (putSel_off rfl).trans rfl
      replace ha := Aside0.mk ha
      have HB := Aside0.mk Q_HB
      have hs11_ : w'.cell? ⟨w.heap.size, 11, none⟩ = some (.int .u16 m.messages) := (HB.out.cell (World.block_lt_of_cell? _ _ KG.out)).trans KG.out
      refine value_ (w1 := w') (v := .int .u16 m.messages) (by rfl) rfl ?_ ?_
      · go_simp
        (try simp only [i64_w])
        try rfl
      refine hK.out _ _ ⟨v5, v12, v13, v14, m15_, (by rw [ha.out]; exact putSel_upk 7 hb_ rfl rfl rfl), Q_HB, Q_R5, fun h0_ _ => absurd ((hoff 12 (by kernel_rfl)).symm.trans h0_) (by decide), fun h0_ _ => absurd ((hoff 13 (by kernel_rfl)).symm.trans h0_) (by decide), fun h0_ => absurd ((hoff 14 (by kernel_rfl)).symm.trans h0_) (by decide), fun h0_ => absurd ((hoff 15 (by kernel_rfl)).symm.trans h0_) (by decide)⟩
    refine steps_cons ?_ ?_
    · rintro b a w' ⟨v5, v12, v13, v14, m15_, ha, Q_HB, Q_R5, Q_R12, Q_R13, Q_R14, Q_X15_⟩ hb_ hon hoff
      refine ⟨_, rfl, fun K hK => ?_⟩
      have e50 : a.tmps[50]? = some (.int .u16 m.status) := by rw [ha]; exact putSel_on (e := (7, 50, .int .u16 m.status)) 5 rfl rfl (hon 7 (by kernel_rfl)) rfl
      have e52 : a.tmps[52]? = some (.int .u16 m.events) := by rw [ha]; exact putSel_on (e := (9, 52, .int .u16 m.events)) 6 rfl rfl (hon 9 (by kernel_rfl)) rfl
      have e54 : a.tmps[54]? = some (.int .u16 m.messages) := by rw [ha]; exact putSel_on (e := (11, 54, .int .u16 m.messages)) 7 rfl rfl (hon 11 (by kernel_rfl)) rfl
      replace ha := Aside0.mk ha
      have HB := Aside0.mk Q_HB
      refine Kd.R_lit_step (Kd.int .u16) (w0 := (w.alloc (.cells cx 30 (0, 0))).drew) (w.alloc (.cells cx 30 (0, 0))).drew.heap.size 24 (by rfl) (N := 55) rfl (xs := [m.status, m.events, m.messages]) (inner := [.int .u16 (m.status), .int .u16 (m.events), .int .u16 (m.messages)]) (ok := fun _ => True) (okp := fun _ => True) ?hr (Reps.one (show Kd.M (Kd.int .u16) _ _ _ (m.status) [.int .u16 (m.status)] from rfl) (Reps.one (show Kd.M (Kd.int .u16) _ _ _ (m.events) [.int .u16 (m.events)] from rfl) (Reps.one (show Kd.M (Kd.int .u16) _ _ _ (m.messages) [.int .u16 (m.messages)] from rfl) (Reps.none _ _)))) (fun _ hk => hk) trivial HB.out HB.out.size (by simp) ?_
      case hr => first | (go_simp; done) | (go_simp; rfl)
      intro nv_ w2 hR_ hB_ hg_ hn_
      have z_R5 := fun (h0_ : b 5 = true) (h1_ : b 14 = false) => (show Kd.R (Kd.int .u8) 5 w2 (w.alloc (.cells cx 30 (0, 0))).drew.heap.size (fun _ => True) v5 ([((m.data.length : Int) + 6) % 256]) from Kd.R_grown (Q_R5 h0_ h1_) hg_ (fun _ _ => by simp))
      have z_R13 := fun (h0_ : b 13 = true) (h1_ : b 14 = false) => (show Kd.R (Kd.int .u8) 5 w2 (w.alloc (.cells cx 30 (0, 0))).drew.heap.size (fun _ => True) v13 (putL [m.status, m.events, m.messages]) from Kd.R_grown (Q_R13 h0_ h1_) hg_ (fun _ _ => by simp))
      have z_R14 := fun (h0_ : b 14 = true) => (show Kd.R (Kd.int .u8) 5 w2 (w.alloc (.cells cx 30 (0, 0))).drew.heap.size (fun _ => True) v14 ([((m.data.length : Int) + 6) % 256] ++ putL [m.status, m.events, m.messages]) from Kd.R_grown (Q_R14 h0_) hg_ (fun _ _ => by simp))
      refine hK.out _ _ ⟨v5, nv_, v13, v14, m15_, (by rw [ha.out]; exact putSel_upk 8 hb_ rfl rfl rfl), hB_, z_R5, fun _ _ => hR_, fun h0_ _ => absurd ((hoff 13 (by kernel_rfl)).symm.trans h0_) (by decide), fun h0_ => absurd ((hoff 14 (by kernel_rfl)).symm.trans h0_) (by decide), fun h0_ => absurd ((hoff 15 (by kernel_rfl)).symm.trans h0_) (by decide)⟩
    refine steps_cons ?_ ?_
    · rintro b a w' ⟨v5, v12, v13, v14, m15_, ha, Q_HB, Q_R5, Q_R12, Q_R13, Q_R14, Q_X15_⟩ hb_ hon hoff
      refine ⟨_, rfl, fun K hK => ?_⟩
      have e55 : a.tmps[55]? = some (v12) := by rw [ha]; exact putSel_on (e := (12, 55, v12)) 8 rfl rfl (hon 12 (by kernel_rfl)) rfl
      replace ha := Aside0.mk ha
      have HB := Aside0.mk Q_HB
      have R12 := Aside0.mk (Q_R12 (hon 12 (by kernel_rfl)) hb_)
      obtain ⟨A_, c_, ev_, hc_, hr_⟩ := Kd.R_reads R12.out
      rw [ev_] at e55
      refine goes_ Try.func49 (by kernel_rfl) rfl #[.slice A_ ([m.status, m.events, m.messages]).length c_] (by rfl) rfl rfl (by first | (simp only [List.map_toArray, List.map_cons, List.map_nil, Act.eval, Array.getD_eq_getD_getElem?, Option.getD_some, e55]; done) | (simp only [List.map_toArray, List.map_cons, List.map_nil, Act.eval, Array.getD_eq_getD_getElem?, Option.getD_some, e55]; rfl)) ?_
      with_reducible refine (put_r (ws := [m.status, m.events, m.messages]) rfl (is16_3 HA.out.2.2.1 HA.out.2.2.2.1 HA.out.2.2.2.2) (by simp) hr_ hc_).mono ?_
      rintro en w2 ⟨nv_, rfl, hR_, hB_⟩
      refine ⟨_, rfl, ?_⟩
      have z_R5 := fun (h0_ : b 5 = true) (h1_ : b 14 = false) => (show Kd.R (Kd.int .u8) 5 w2 (w.alloc (.cells cx 30 (0, 0))).drew.heap.size (fun _ => True) v5 ([((m.data.length : Int) + 6) % 256]) from Kd.R_below (Q_R5 h0_ h1_) hB_)
      have z_R14 := fun (h0_ : b 14 = true) => (show Kd.R (Kd.int .u8) 5 w2 (w.alloc (.cells cx 30 (0, 0))).drew.heap.size (fun _ => True) v14 ([((m.data.length : Int) + 6) % 256] ++ putL [m.status, m.events, m.messages]) from Kd.R_below (Q_R14 h0_) hB_)
      refine hK.out _ _ ⟨v5, v12, nv_, v14, m15_, (by rw [ha.out]; exact putSel_upk 9 hb_ rfl rfl rfl), HB.out.trans (hB_.mono HB.out.size), z_R5, fun _ h1_ => absurd ((up_self b 13).symm.trans h1_) (by decide), fun _ _ => Kd.R_lower hR_ HB.out.size, fun h0_ => absurd ((hoff 14 (by kernel_rfl)).symm.trans h0_) (by decide), fun h0_ => absurd ((hoff 15 (by kernel_rfl)).symm.trans h0_) (by decide)⟩
    refine steps_cons ?_ ?_
    · rintro b a w' ⟨v5, v12, v13, v14, m15_, ha, Q_HB, Q_R5, Q_R12, Q_R13, Q_R14, Q_X15_⟩ hb_ hon hoff
      refine ⟨_, rfl, fun K hK => ?_⟩
      have e48 : a.tmps[48]? = some (v5) := by rw [ha]; exact putSel_on (e := (5, 48, v5)) 4 rfl rfl (hon 5 (by kernel_rfl)) rfl
      have e56 : a.tmps[56]? = some (v13) := by rw [ha]; exact putSel_on (e := (13, 56, v13)) 9 rfl rfl (hon 13 (by kernel_rfl)) rfl
      replace ha := Aside0.mk ha
      have HB := Aside0.mk Q_HB
      have R5 := Aside0.mk (Q_R5 (hon 5 (by kernel_rfl)) hb_)
      have R13 := Aside0.mk (Q_R13 (hon 13 (by kernel_rfl)) hb_)
      obtain ⟨A_, c_, ev_, hc_, hr_⟩ := Kd.R_reads R13.out
      have HX_ : a.eval (.tmp 56) = .slice A_ (putL [m.status, m.events, m.messages]).length c_ := by rw [← ev_]; exact (by simp only [Act.eval, Array.getD_eq_getD_getElem?, Option.getD_some, e56])
      refine Kd.R_append_rows_step (Kd.int .u8) (w0 := (w.alloc (.cells cx 30 (0, 0))).drew) (w.alloc (.cells cx 30 (0, 0))).drew.heap.size (by rfl) (.tmp 48) (.tmp 56) 22 5 (.int .u8 0) 1 rfl Try.underlying22 (by kernel_rfl) rfl (by decide) (by decide) v5 ([((m.data.length : Int) + 6) % 256]) (putL [m.status, m.events, m.messages]) A_ ((putL [m.status, m.events, m.messages]).length) c_ (fun _ => True) (fun _ => False) (by simp only [Act.eval, Array.getD_eq_getD_getElem?, Option.getD_some, e48]) HX_ R5.out hr_ (fun _ _ h => h) (fun _ h => h.elim) (fun _ _ => trivial) HB.out HB.out.size (by rw [putL_length]; simp only [List.length_cons, List.length_nil]; omega) ?_
      intro nv_ w2 hR_ hB_ hg_ hat_
      refine hK.out _ _ ⟨v5, v12, v13, nv_, m15_, (by rw [ha.out]; exact putSel_upk 10 hb_ rfl rfl rfl), hB_, fun _ h1_ => absurd ((up_self b 14).symm.trans h1_) (by decide), fun _ h1_ => absurd ((hon 13 (by kernel_rfl)).symm.trans h1_) (by decide), fun _ h1_ => absurd ((up_self b 14).symm.trans h1_) (by decide), fun _ => hR_, fun h0_ => absurd ((hoff 15 (by kernel_rfl)).symm.trans h0_) (by decide)⟩
    refine steps_cons ?_ ?_
    · rintro b a w' ⟨v5, v12, v13, v14, m15_, ha, Q_HB, Q_R5, Q_R12, Q_R13, Q_R14, Q_X15_⟩ hb_ hon hoff
      refine ⟨_, rfl, fun K hK => ?_⟩
      have e57 : a.tmps[57]? = some (v14) := by rw [ha]; exact putSel_on (e := (14, 57, v14)) 10 rfl rfl (hon 14 (by kernel_rfl)) rfl
      replace ha := Aside0.mk ha
      have HB := Aside0.mk Q_HB
      have R14 := Aside0.mk (Q_R14 (hon 14 (by kernel_rfl)))
      refine value_ (w1 := w') (v := v14) (by rfl) rfl ?_ ?_
      · go_simp
        (try simp only [i64_w])
        try rfl
      refine hK.out _ _ ⟨v5, v12, v13, v14, (v14), (by rw [ha.out]; exact putSel_upk 11 hb_ rfl rfl rfl), Q_HB, fun _ h1_ => absurd ((hon 14 (by kernel_rfl)).symm.trans h1_) (by decide), fun _ h1_ => absurd ((hon 13 (by kernel_rfl)).symm.trans h1_) (by decide), fun _ h1_ => absurd ((hon 14 (by kernel_rfl)).symm.trans h1_) (by decide), Q_R14, fun _ => rfl⟩
    exact steps_nil
  rintro b a w2 hall ⟨v5, v12, v13, v14, m15_, ha, Q_HB, Q_R5, Q_R12, Q_R13, Q_R14, Q_X15_⟩
  clear HB
  have hb1_ := hall 1 (by kernel_rfl)
  have hb2_ := hall 2 (by kernel_rfl)
  have hb3_ := hall 3 (by kernel_rfl)
  have hb4_ := hall 4 (by kernel_rfl)
  have hb5_ := hall 5 (by kernel_rfl)
  have hb7_ := hall 7 (by kernel_rfl)
  have hb9_ := hall 9 (by kernel_rfl)
  have hb11_ := hall 11 (by kernel_rfl)
  have hb12_ := hall 12 (by kernel_rfl)
  have hb13_ := hall 13 (by kernel_rfl)
  have hb14_ := hall 14 (by kernel_rfl)
  have hb15_ := hall 15 (by kernel_rfl)
  subst ha
  obtain rfl := Q_X15_ hb15_
  simp only [putSel, hb1_, hb2_, hb3_, hb4_, hb5_, hb7_, hb9_, hb11_, hb12_, hb13_, hb14_, hb15_, if_true, Act.put, List.setIfInBounds_toArray, List.set_cons_zero, List.set_cons_succ]
  have HB := Aside0.mk Q_HB
  clear Q_HB
  clear Q_R5
  clear Q_R12
  clear Q_R13
  have R14 := Aside0.mk (Q_R14 hb14_)
  clear Q_R14
  clear hall hb1_ hb2_ hb3_ hb4_ hb5_ hb7_ hb9_ hb11_ hb12_ hb13_ hb14_ hb15_
  have n0_ := Aside0.mk H.out.dr
  clear H
  have H := n0_
  clear n0_
  have kd2 : w2.cell? ⟨w.heap.size, 14, none⟩ = some (.slice A14 m.data.length c14) := (HB.out.cell (World.block_lt_of_cell? _ _ KD.out)).trans KD.out
  have B14 := HB
  clear HB KD KS KE KG
  obtain ⟨A7, c7, rfl, hz7, hr7⟩ := Kd.R_reads R14.out
  clear hz7 hr7
  have hl7 : ([((m.data.length : Int) + 6) % 256] ++ putL [m.status, m.events, m.messages]).length ≤ 7 := by rw [List.length_append, putL_length]; simp only [List.length_cons, List.length_nil]; omega
  go_wp2_with (first | ((with_reducible refine gate_builtin (b := .append) (xs := #[.tmp 58, .tmp 60]) rfl ?_); at_builtin; (try (refine gate_guard (by rfl) ?_; dsimp only)); refine Com.ev_app .u8 5 (.tmp 58) (.tmp 60) 22 1 rfl rfl Try.underlying22 (by kernel_rfl) (by decide) (by decide) rfl rfl R14.out (Kd.C_below (RDD.out) B14.out) B14.out (by first | omega | (simp; omega)) (zs := logged m.status m.events m.messages m.data) (n := (logged m.status m.events m.messages m.data).length) (by first | rfl | simp) (by first | rfl | simp) ?_; intro v1_ Ax nx wap e1_ hR_ hC_ hz_ hb_; have Zx := Aside0.mk hz_; have n0_ := Aside0.mk ((H.out.on hb_).add (sta_C _ _ _ _) (hC_)); clear H; have H := n0_; clear n0_; clear e1_ hR_ hC_ hz_ hb_ R14 B14))
  go_ret
  exact ⟨Ax, nx, rfl, Zx.out, H.out.f.2, H.out.b⟩
theorem lay_17 {dir : Int} {m : Msg} {cx : Array Value} {w : World} (hm : IsMsg w cx m) (hdl : m.data.length ≤ 900000) (hw : m.words.length ≤ 900000) (hd : dir ≠ 0) (hk : m.code ≠ 8 ∧ m.code ≠ 7 ∧ m.code ≠ 11 ∧ m.code ≠ 12) :
    Calls Try.prog 35 #[.int .i64 dir, .agg cx] w fun en w' => ∃ A c, en = .returned (.slice A (lay dir m).length c) ∧ (lay dir m).length ≤ c ∧ Kd.C (Kd.int .u8) w' A (lay dir m).length (lay dir m) ∧ Below w.heap.size w w' := by
  obtain ⟨⟨a0, a1, a2, a3, a4, a5, a6, a7, a8, a9, a10, a11, _⟩, adt, _⟩ := goodM_num hm.good
  have hws : is16 m.words := hm.good.2.1
  have H := Aside0.mk (Hd.start w)
  have hsz := hm.size
  have hix := msg_info hsz
  have n0_ := Aside0.mk ((((H.out.on (below_alloc (Below.refl _ _) (Obj.cells cx 30)))).add (sta_blk _ _) (blk_new _ _)).add (sta_msg _ _) (hm.on (below_alloc (Below.refl _ _) _)))
  clear H
  have H := n0_
  clear n0_
  have b8 : (m.code == 8) = false := beq_eq_false_iff_ne.2 (by omega)
  have b7 : (m.code == 7) = false := beq_eq_false_iff_ne.2 (by omega)
  have b11 : (m.code == 11) = false := beq_eq_false_iff_ne.2 (by omega)
  have b12 : (m.code == 12) = false := beq_eq_false_iff_ne.2 (by omega)
  have bd : (dir == 0) = false := beq_eq_false_iff_ne.2 hd
  have kcode := bx_code H.out.f.1.2 H.out.f.2
  rw [show lay dir m = counted m.data from by unfold lay; rw [if_neg (by omega), if_neg hd, if_neg (by omega), if_neg (by omega), if_neg (by omega)]]
  obtain ⟨A12, c12, A13, c13, A14, c14, A15, c15, A21, c21, ⟨l12, _, l14, _, _⟩, ⟨r12, q12⟩, _, ⟨r14, q14⟩, _, _⟩ := IsMsg.lists H.out.f.2
  have kd := (blk_cell H.out.f.1.2 14).trans l14
  have RD := Aside0.mk r14
  have QD := Aside0.mk q14
  clear l12 r12 q12 l14 r14 q14
  have wl : IntKind.u8.wrap (m.data.length : Int) = (m.data.length : Int) % 256 := by rw [IntKind.wrap_u8]
  have HA := Aside0.mk (And.intro a4 (And.intro a8 (And.intro a9 (And.intro a10 a11))))
  have HWS := Aside0.mk hws
  have HWL := Aside0.mk hw
  have HDL := Aside0.mk hdl
  clear a0 a1 a2 a3 a4 a5 a6 a7 a8 a9 a10 a11 adt hws hm
  clear hk
  clear hd
  go_enter Try.func35, Try.ntmps35
  go_wp2_with (first | ((with_reducible refine gate_dst (N := 66) rfl ?_); (try (refine gate_guard (by rfl) ?_; dsimp only)); refine Com.ev_rlit .u8 [(m.data.length : Int) % 256] 5 rfl rfl (by first | (go_simp; done) | (go_simp; rfl)) (by simp) ?_; intro v wr hr_ hb_; have Rv := Aside0.mk hr_; have Bv := Aside0.mk hb_; clear hr_ hb_; have n0_ := (Bv.out.cell (World.block_lt_of_cell? _ _ kd)).trans kd; clear kd; have kd := n0_; clear n0_) | ((with_reducible refine gate_builtin (b := .append) (xs := #[.tmp 66, .tmp 68]) rfl ?_); at_builtin; (try (refine gate_guard (by rfl) ?_; dsimp only)); refine Com.ev_app .u8 5 (.tmp 66) (.tmp 68) 22 1 rfl rfl Try.underlying22 (by kernel_rfl) (by decide) (by decide) rfl rfl Rv.out (Kd.C_below (RD.out) Bv.out) Bv.out (by first | omega | (simp; omega)) (zs := counted m.data) (n := (counted m.data).length) (by first | rfl | simp) (by first | rfl | simp) ?_; intro v1_ Ax nx wap e1_ hR_ hC_ hz_ hb_; have Zx := Aside0.mk hz_; have n0_ := Aside0.mk ((H.out.on hb_).add (sta_C _ _ _ _) (hC_)); clear H; have H := n0_; clear n0_; clear e1_ hR_ hC_ hz_ hb_ Rv Bv))
  go_ret
  exact ⟨Ax, nx, rfl, Zx.out, H.out.f.2, H.out.b⟩
theorem lay_any {dir : Int} {m : Msg} (hd : m.data.length ≤ 900000) (hb : m.words.length ≤ 900000) : LayC 35 dir m (lay dir m) := by
  intro cx W hm
  by_cases h8 : m.code = 8
  · exact lay_8 hm hd hb h8
  by_cases h0 : dir = 0
  · exact lay_0 hm hd hb h8 h0
  by_cases h7 : m.code = 7
  · exact lay_7 hm hd hb h0 h7
  by_cases h11 : m.code = 11
  · exact lay_11 hm hd hb h0 h11
  by_cases h12 : m.code = 12
  · exact lay_12 hm hd hb h0 h12
  exact lay_17 hm hd hb h0 ⟨h8, h7, h11, h12⟩
end Go.Proofs.Ytalaochocmcbcaa.Diag
end
section
namespace Go.Proofs.Ytalaochocmcbcaa.Diag
open Go.RowKit Go.Proofs.Ytalaochocmcbcaa.P Go.Proofs.Ytalaochocmcbcaa.E Go.Proofs.Ytalaochocmcbcaa.Cur Go.Proofs.Ytalaochocmcbcaa.Cu Go.Proofs.Ytalaochocmcbcaa.Same Go.Proofs.Ytalaochocmcbcaa.Put Go.Proofs.Ytalaochocmcbcaa.Com Go.Proofs.YtalaochocmcbcaaW.PrintWords Go.Proofs.YtalaochocmcbcaaW.PrintLast Go.Proofs.YtalaochocmcbcaaW.PrintMore
theorem counted_bytes {l : List Int} (h : isBytes l) : isBytes (counted l) := fun x hx => by
  rcases List.mem_cons.1 hx with rfl | hx
  · omega
  · exact h x hx
theorem logged_bytes {s e g : Int} {l : List Int} (h : isBytes l) : isBytes (logged s e g l) := fun x hx => by
  rcases List.mem_cons.1 hx with rfl | hx
  · omega
  · rcases List.mem_append.1 hx with hx | hx
    · exact putL_bytes _ x hx
    · exact h x hx
theorem lay_bytes {dir : Int} {m : Msg} (hg : goodM m) : isBytes (lay dir m) := by
  have G := (goodM_num hg).2.1
  unfold lay
  split
  · exact putL_bytes _
  split
  · exact fun x hx => absurd hx (List.not_mem_nil)
  split
  · exact fun x hx => by rw [List.mem_singleton.1 hx]; omega
  split
  · exact putL_bytes _
  split
  · exact logged_bytes G
  · exact counted_bytes G
theorem lay_len {dir : Int} {m : Msg} (hd : m.data.length ≤ 1000) (hb : m.words.length ≤ 1000) : (lay dir m).length ≤ 3000 := by
  unfold lay counted logged
  (repeat' split) <;> simp only [putL_length, List.length_append, List.length_cons, List.length_nil] <;> omega
theorem parse_c {dir code : Int} {l : List Int} (hs : l.length ≤ 1000000) (hb : isBytes l) (hc : 0 ≤ code ∧ code < 256) : ParseC 12 dir code l (parse dir code l) := fun A c W hr hc2 => parse_any hr hc2 hs hb hc
def write (dir : Int) (m : Msg) : List Int × Int := writeR m (lay dir m) (parse dir m.code (lay dir m))
theorem write_c {dir : Int} {m : Msg} (hd : m.data.length ≤ 1000) (hb : m.words.length ≤ 1000) (hg : goodM m) : WriteC 16 dir m (write dir m) := write_of (lay_any (by omega) (by omega)) (parse_c (by have := lay_len (dir := dir) hd hb; omega) (lay_bytes hg) (goodM_num hg).1.1)
theorem parse_ok {dir code : Int} {b : List Int} (h : (parse dir code b).2 = 0) : (dir = 0 ∨ dir = 1) ∧ isCode code ∧ (bodyR dir { zeroM with code := code } (cu b)).1.fin.e = 0 ∧ parse dir code b = ((bodyR dir { zeroM with code := code } (cu b)).2, 0) := by
  unfold parse at h ⊢
  by_cases h1 : dir ≠ 0 ∧ dir ≠ 1
  · rw [if_pos h1] at h; exact absurd h (by decide)
  rw [if_neg h1] at h ⊢
  by_cases h2 : ¬ isCode code
  · rw [if_pos h2] at h; exact absurd h (by decide)
  rw [if_neg h2] at h ⊢
  by_cases h3 : (bodyR dir { zeroM with code := code } (cu b)).1.fin.e ≠ 0
  · rw [if_pos h3] at h; exact absurd h h3
  rw [if_neg h3]
  exact ⟨by omega, by simpa using h2, by simpa using h3, rfl⟩
theorem parse_of {dir code : Int} {b : List Int} (hd : dir = 0 ∨ dir = 1) (hc : isCode code) (h : (bodyR dir { zeroM with code := code } (cu b)).1.fin.e = 0) : parse dir code b = ((bodyR dir { zeroM with code := code } (cu b)).2, 0) := by
  unfold parse
  rw [if_neg (by omega), if_neg (fun hn => hn hc), if_neg (by simpa using h)]
theorem parse_bad {dir code : Int} {b : List Int} (hd : dir = 0 ∨ dir = 1) (hc : isCode code) (h : (bodyR dir { zeroM with code := code } (cu b)).1.fin.e ≠ 0) : parse dir code b = (zeroM, (bodyR dir { zeroM with code := code } (cu b)).1.fin.e) := by
  unfold parse
  rw [if_neg (by omega), if_neg (fun hn => hn hc), if_pos h]
theorem writeR_ok {m : Msg} {l : List Int} {P : Msg × Int} (h : (writeR m l P).2 = 0) : P.2 = 0 ∧ P.1 = m ∧ writeR m l P = (l, 0) := by
  unfold writeR at h ⊢
  by_cases hc : P.2 = 0 ∧ sameB P.1 m = true
  · rw [if_pos hc]
    exact ⟨hc.1, (same_eq _ _).1 hc.2, rfl⟩
  · rw [if_neg hc] at h
    exact absurd h (by decide)
theorem writeR_no {m : Msg} {l : List Int} {P : Msg × Int} (h : (writeR m l P).2 ≠ 0) : writeR m l P = ([], 1) := by
  unfold writeR at h ⊢
  by_cases hc : P.2 = 0 ∧ sameB P.1 m = true
  · rw [if_pos hc] at h
    exact absurd rfl h
  · rw [if_neg hc]
theorem writeR_eq {m : Msg} {l : List Int} {P : Msg × Int} (h : P = (m, 0)) : writeR m l P = (l, 0) := by
  unfold writeR
  rw [h, if_pos ⟨rfl, same_refl m⟩]
end Go.Proofs.Ytalaochocmcbcaa.Diag
end
section
namespace Go.Proofs.Ytalaochocmcbcaa.Diag
open Go.RowKit Go.Proofs.Ytalaochocmcbcaa.P Go.Proofs.Ytalaochocmcbcaa.E Go.Proofs.Ytalaochocmcbcaa.Cur Go.Proofs.Ytalaochocmcbcaa.Cu Go.Proofs.Ytalaochocmcbcaa.Same Go.Proofs.Ytalaochocmcbcaa.Code Go.Proofs.Ytalaochocmcbcaa.Put Go.Proofs.Ytalaochocmcbcaa.Com Go.Proofs.YtalaochocmcbcaaW.PrintWords Go.Proofs.YtalaochocmcbcaaW.PrintLast Go.Proofs.YtalaochocmcbcaaW.PrintMore
theorem put_word {a b : Int} (ha : 0 ≤ a ∧ a < 256) (hb : 0 ≤ b ∧ b < 256) (t : List Int) : (a * 256 + b) / 256 % 256 :: (a * 256 + b) % 256 :: t = a :: b :: t := by
  rw [show (a * 256 + b) / 256 % 256 = a by omega, show (a * 256 + b) % 256 = b by omega]
theorem bytes_cons {x : Int} {t : List Int} (h : isBytes (x :: t)) : (0 ≤ x ∧ x < 256) ∧ isBytes t := ⟨h x List.mem_cons_self, fun y hy => h y (List.mem_cons_of_mem _ hy)⟩
theorem Dd.left : Dd leftR := fun c h => rfl
theorem left_run {β : Type} (f : Int → (Cu → Cu × β)) (t : List Int) : Rd.bind leftR f (cu t) = f (t.length : Int) (cu t) := rfl
theorem echoR_dd (m : Msg) : Dd (echoR m) := Dd.left.bind fun _ => (Dd.need _ _).bind fun _ => (Dd.words _).bind fun _ => Dd.ret _
theorem lineT_dd (dir s : Int) (m : Msg) : Dd (if s = 0 then echoR { m with sub := s } else Rd.bind (Rd.words 1) fun l => Rd.bind (Rd.need (l.length == 1 && mayB dir s (l.headD 0)) 6) fun _ => Rd.ret ({ m with sub := s, words := l } : Msg)) := Dd.ite (echoR_dd _) ((Dd.words _).bind fun _ => (Dd.need _ _).bind fun _ => Dd.ret _)
theorem busyR_dd : Dd busyR := Dd.word.bind fun _ => (Dd.need _ _).bind fun _ => Dd.ret _
def okL (dir s : Int) (l : List Int) : Bool := subB s && (dir == 0 || s != 4) && (if s = 0 then decide (1 ≤ l.length) && decide (l.length ≤ 125) else (l.length == 1 && mayB dir s (l.headD 0)))
theorem two_words_eq (a b : Int) : Take.words [a, b] = [a * 256 + b] := by simp [Take.words, Take.pre, Take.wordAt, List.range_succ]
theorem line_inv {dir : Int} {m : Msg} {b : List Int} (hb : isBytes b) (h : (lineR dir m (cu b)).1.fin.e = 0) : ∃ s l, b = putL (s :: l) ∧ is16 (s :: l) ∧ okL dir s l = true ∧ lineR dir m (cu b) = (cu [], { m with sub := s, words := l }) := by
  have h0 := (fin_ok h).1
  unfold lineR at h h0 ⊢
  obtain ⟨x, y, t, rfl, e1⟩ := word_inv (fun s => (Dd.need _ _).bind fun _ => lineT_dd dir s m) h0
  rw [e1] at h h0 ⊢
  obtain ⟨hc, e2⟩ := need_inv (by decide) (fun _ => lineT_dd dir _ m) h0
  rw [e2] at h h0 ⊢
  clear e1 e2
  obtain ⟨bx, hb⟩ := bytes_cons hb
  obtain ⟨by_, hb⟩ := bytes_cons hb
  have hs : 0 ≤ x * 256 + y ∧ x * 256 + y < 65536 := by omega
  have hput : ∀ l, putL ((x * 256 + y) :: l) = x :: y :: putL l := fun l => put_word bx by_ (putL l)
  obtain ⟨s, hse⟩ : ∃ s, s = x * 256 + y := ⟨_, rfl⟩
  rw [← hse] at h h0 hc hs hput ⊢
  by_cases hz : s = 0
  · rw [if_pos hz] at h h0 ⊢
    unfold echoR at h h0 ⊢
    rw [left_run] at h h0 ⊢
    obtain ⟨hn, e3⟩ := need_inv (by decide) (fun _ => (Dd.words _).bind fun _ => Dd.ret _) h0
    rw [e3] at h h0 ⊢
    obtain ⟨h1, h2, e4⟩ := words_inv (fun _ => Dd.ret _) h0
    rw [e4] at h h0 ⊢
    clear e3 e4
    simp only [Bool.and_eq_true, beq_iff_eq, decide_eq_true_eq] at hn
    have hlen : 2 * ((t.length : Int) / 2).toNat = t.length := by omega
    rw [hlen, List.take_length, List.drop_length] at h ⊢
    refine ⟨s, Take.words t, by rw [hput, putL_words (by omega) hb], fun w hw => ?_, ?_, rfl⟩
    · rcases List.mem_cons.1 hw with rfl | hw
      · exact hs
      · exact words_16 (by omega) hb w hw
    · unfold okL
      rw [hc, if_pos hz, words_length (by omega) hb, Bool.true_and]
      simp only [Bool.and_eq_true, decide_eq_true_eq]
      omega
  · rw [if_neg hz] at h h0 ⊢
    obtain ⟨h1, h2, e4⟩ := words_inv (fun _ => (Dd.need _ _).bind fun _ => Dd.ret _) h0
    rw [e4] at h h0 ⊢
    obtain ⟨hn, e3⟩ := need_inv (by decide) (fun _ => Dd.ret _) h0
    rw [e3] at h h0 ⊢
    clear e3 e4
    have h : (cu (t.drop (2 * (1 : Int).toNat))).fin.e = 0 := h
    have hd : t.drop (2 * (1 : Int).toNat) = [] := (fin_ok h).2
    have hl : t.length = 2 := by
      have := congrArg List.length hd
      rw [List.length_drop] at this
      simp at this
      omega
    obtain ⟨p, q, rfl⟩ : ∃ p q, t = [p, q] := by
      match t, hl with
      | [p, q], _ => exact ⟨p, q, rfl⟩
    obtain ⟨bp, hb⟩ := bytes_cons hb
    obtain ⟨bq, hb⟩ := bytes_cons hb
    have ht : Take.words (List.take (2 * (1 : Int).toNat) [p, q]) = [p * 256 + q] := two_words_eq p q
    rw [ht] at hn ⊢
    refine ⟨s, [p * 256 + q], by rw [hput]; exact congrArg (fun z => x :: y :: z) (put_word bp bq []).symm, fun w hw => ?_, ?_, ?_⟩
    · simp only [List.mem_cons, List.not_mem_nil, or_false] at hw
      rcases hw with rfl | rfl
      · exact hs
      · omega
    · unfold okL
      rw [hc, if_neg hz, hn, Bool.true_and]
    · rfl
theorem line_run {dir s : Int} {m : Msg} {l : List Int} (h : is16 (s :: l)) (ho : okL dir s l = true) : lineR dir m (cu (putL (s :: l))) = (cu [], { m with sub := s, words := l }) := by
  have hs := h s List.mem_cons_self
  have hl : is16 l := fun x hx => h x (List.mem_cons_of_mem _ hx)
  unfold okL at ho
  rw [Bool.and_eq_true] at ho
  obtain ⟨h1, h2⟩ := ho
  unfold lineR
  show Rd.bind Rd.word _ (cu ((s / 256) % 256 :: s % 256 :: putL l)) = _
  rw [word_run _ hs, need_run _ h1]
  by_cases hz : s = 0
  · rw [if_pos hz] at h2 ⊢
    simp only [Bool.and_eq_true, decide_eq_true_eq] at h2
    have hpl := putL_length l
    unfold echoR
    rw [left_run, need_run _ (by simp only [Bool.and_eq_true, beq_iff_eq, decide_eq_true_eq]; omega)]
    have e := words_run (fun l => Rd.ret ({ m with sub := s, words := l } : Msg)) (putL l) [] (n := ((putL l).length : Int) / 2) (by omega)
    rw [List.append_nil] at e
    refine e.trans ?_
    rw [words_putL hl]
    rfl
  · rw [if_neg hz] at h2 ⊢
    rw [Bool.and_eq_true] at h2
    have h3 := h2.1
    obtain ⟨v, rfl⟩ : ∃ v, l = [v] := by
      have h3 := beq_iff_eq.1 h3
      match l, h3 with
      | [v], _ => exact ⟨v, rfl⟩
    have e := words_run (fun l => Rd.bind (Rd.need (l.length == 1 && mayB dir s (l.headD 0)) 6) fun _ => Rd.ret ({ m with sub := s, words := l } : Msg)) (putL [v]) [] (n := 1) (by rw [putL_length]; rfl)
    rw [List.append_nil] at e
    refine e.trans ?_
    rw [words_putL hl, need_run _ (by rw [Bool.and_eq_true]; exact h2)]
    rfl
theorem busy_inv {β : Type} {f : Int → (Cu → Cu × β)} {l : List Int} (hf : ∀ a, Dd (f a)) (h : (Rd.bind busyR f (cu l)).1.e = 0) : ∃ a b t, l = a :: b :: t ∧ (a * 256 + b = 0 ∨ a * 256 + b = 65535) ∧ Rd.bind busyR f (cu l) = f (a * 256 + b) (cu t) := by
  have e : ∀ c, Rd.bind busyR f c = (Rd.bind Rd.word fun s => Rd.bind (Rd.need (s == 0 || s == 65535) 6) fun _ => f s) c := fun _ => rfl
  rw [e] at h ⊢
  obtain ⟨a, b, t, h1, e1⟩ := word_inv (fun s => (Dd.need _ _).bind fun _ => hf s) h
  rw [e1] at h ⊢
  obtain ⟨hc, e2⟩ := need_inv (by decide) (fun _ => hf _) h
  rw [e2]
  exact ⟨a, b, t, h1, by simpa using hc, rfl⟩
theorem busy_run {β : Type} (f : Int → (Cu → Cu × β)) {s : Int} (hs : s = 0 ∨ s = 65535) (t : List Int) : Rd.bind busyR f (cu ((s / 256) % 256 :: s % 256 :: t)) = f s (cu t) := by
  have e : ∀ c, Rd.bind busyR f c = (Rd.bind Rd.word fun s => Rd.bind (Rd.need (s == 0 || s == 65535) 6) fun _ => f s) c := fun _ => rfl
  rw [e, word_run _ (by omega), need_run _ (by simpa using hs)]
theorem events_inv {m : Msg} {b : List Int} (hb : isBytes b) (h : (eventsR m (cu b)).1.fin.e = 0) : ∃ s e, b = putL [s, e] ∧ is16 [s, e] ∧ (s = 0 ∨ s = 65535) ∧ eventsR m (cu b) = (cu [], { m with status := s, events := e }) := by
  have h0 := (fin_ok h).1
  unfold eventsR at h h0 ⊢
  obtain ⟨x, y, t, rfl, hs, e1⟩ := busy_inv (fun _ => Dd.word.bind fun _ => Dd.ret _) h0
  rw [e1] at h h0 ⊢
  obtain ⟨p, q, t2, rfl, e2⟩ := word_inv (fun _ => Dd.ret _) h0
  rw [e2] at h h0 ⊢
  have h : (cu t2).fin.e = 0 := h
  have ht : t2 = [] := (fin_ok h).2
  subst ht
  obtain ⟨bx, hb⟩ := bytes_cons hb
  obtain ⟨by_, hb⟩ := bytes_cons hb
  obtain ⟨bp, hb⟩ := bytes_cons hb
  obtain ⟨bq, hb⟩ := bytes_cons hb
  refine ⟨x * 256 + y, p * 256 + q, ?_, is16_2 (by omega) (by omega), hs, rfl⟩
  show _ = (x * 256 + y) / 256 % 256 :: (x * 256 + y) % 256 :: (p * 256 + q) / 256 % 256 :: (p * 256 + q) % 256 :: []
  rw [put_word bx by_, put_word bp bq]
theorem events_run {s e : Int} {m : Msg} (hs : s = 0 ∨ s = 65535) (he : 0 ≤ e ∧ e < 65536) : eventsR m (cu (putL [s, e])) = (cu [], { m with status := s, events := e }) := by
  unfold eventsR
  show Rd.bind busyR _ (cu ((s / 256) % 256 :: s % 256 :: (e / 256) % 256 :: e % 256 :: [])) = _
  rw [busy_run _ hs, word_run _ he]
  rfl
theorem logs_inv {m : Msg} {b : List Int} (hb : isBytes b) (h : (logsR m (cu b)).1.fin.e = 0) : ∃ s e g l, b = logged s e g l ∧ is16 [s, e, g] ∧ isBytes l ∧ (s = 0 ∨ s = 65535) ∧ l.length ≤ 64 ∧ logsR m (cu b) = (cu [], { m with status := s, events := e, messages := g, data := l }) := by
  have h0 := (fin_ok h).1
  unfold logsR at h h0 ⊢
  obtain ⟨n, t, rfl, e0⟩ := byte_inv (fun _ => (Dd.need _ _).bind fun _ => busyR_dd.bind fun _ => Dd.word.bind fun _ => Dd.word.bind fun _ => (Dd.bytes _).bind fun _ => Dd.ret _) h0
  rw [e0] at h h0 ⊢
  obtain ⟨hn, e1⟩ := need_inv (by decide) (fun _ => busyR_dd.bind fun _ => Dd.word.bind fun _ => Dd.word.bind fun _ => (Dd.bytes _).bind fun _ => Dd.ret _) h0
  rw [e1] at h h0 ⊢
  obtain ⟨x, y, t, rfl, hs, e2⟩ := busy_inv (fun _ => Dd.word.bind fun _ => Dd.word.bind fun _ => (Dd.bytes _).bind fun _ => Dd.ret _) h0
  rw [e2] at h h0 ⊢
  obtain ⟨p, q, t, rfl, e3⟩ := word_inv (fun _ => Dd.word.bind fun _ => (Dd.bytes _).bind fun _ => Dd.ret _) h0
  rw [e3] at h h0 ⊢
  obtain ⟨u, v, t, rfl, e4⟩ := word_inv (fun _ => (Dd.bytes _).bind fun _ => Dd.ret _) h0
  rw [e4] at h h0 ⊢
  obtain ⟨h1, h2, e5⟩ := bytes_inv (fun _ => Dd.ret _) h0
  rw [e5] at h h0 ⊢
  clear e0 e1 e2 e3 e4 e5
  have h : (cu (t.drop (n - 6).toNat)).fin.e = 0 := h
  have ht : t.drop (n - 6).toNat = [] := (fin_ok h).2
  have hl : t.length ≤ (n - 6).toNat := by
    have := congrArg List.length ht
    rw [List.length_drop] at this
    simp at this
    omega
  rw [List.take_of_length_le hl, ht]
  simp only [Bool.and_eq_true, decide_eq_true_eq] at hn
  obtain ⟨bn, hb⟩ := bytes_cons hb
  obtain ⟨bx, hb⟩ := bytes_cons hb
  obtain ⟨by_, hb⟩ := bytes_cons hb
  obtain ⟨bp, hb⟩ := bytes_cons hb
  obtain ⟨bq, hb⟩ := bytes_cons hb
  obtain ⟨bu, hb⟩ := bytes_cons hb
  obtain ⟨bv, hb⟩ := bytes_cons hb
  refine ⟨x * 256 + y, p * 256 + q, u * 256 + v, t, ?_, is16_3 (by omega) (by omega) (by omega), hb, hs, by omega, rfl⟩
  unfold logged
  rw [show ((t.length : Int) + 6) % 256 = n by omega]
  show _ = n :: (x * 256 + y) / 256 % 256 :: (x * 256 + y) % 256 :: (p * 256 + q) / 256 % 256 :: (p * 256 + q) % 256 :: (u * 256 + v) / 256 % 256 :: (u * 256 + v) % 256 :: t
  rw [put_word bx by_, put_word bp bq, put_word bu bv]
theorem name_inv {m : Msg} {b : List Int} (hb : isBytes b) (h : (nameR m (cu b)).1.fin.e = 0) : ∃ l, b = counted l ∧ isBytes l ∧ 1 ≤ l.length ∧ l.length ≤ 251 ∧ nameR m (cu b) = (cu [], { m with data := l }) := by
  have h0 := (fin_ok h).1
  unfold nameR at h h0 ⊢
  obtain ⟨n, t, rfl, e0⟩ := byte_inv (fun _ => (Dd.need _ _).bind fun _ => (Dd.bytes _).bind fun _ => Dd.ret _) h0
  rw [e0] at h h0 ⊢
  obtain ⟨hn, e1⟩ := need_inv (by decide) (fun _ => (Dd.bytes _).bind fun _ => Dd.ret _) h0
  rw [e1] at h h0 ⊢
  obtain ⟨h1, h2, e5⟩ := bytes_inv (fun _ => Dd.ret _) h0
  rw [e5] at h h0 ⊢
  clear e0 e1 e5
  have h : (cu (t.drop n.toNat)).fin.e = 0 := h
  have ht : t.drop n.toNat = [] := (fin_ok h).2
  have hl : t.length ≤ n.toNat := by
    have := congrArg List.length ht
    rw [List.length_drop] at this
    simp at this
    omega
  rw [List.take_of_length_le hl, ht]
  simp only [Bool.and_eq_true, decide_eq_true_eq] at hn
  obtain ⟨bn, hb⟩ := bytes_cons hb
  refine ⟨t, ?_, hb, by omega, by omega, rfl⟩
  unfold counted
  rw [show (t.length : Int) % 256 = n by omega]
theorem layc8 {dir : Int} {m : Msg} (h : m.code = 8) : lay dir m = putL (m.sub :: m.words) := by unfold lay; rw [if_pos h]
theorem layc0 {m : Msg} (h : m.code ≠ 8) : lay 0 m = [] := by unfold lay; rw [if_neg h, if_pos rfl]
theorem layc7 {m : Msg} (h : m.code = 7) : lay 1 m = [m.value % 256] := by unfold lay; rw [if_neg (by omega), if_neg (by decide), if_pos h]
theorem layc11 {m : Msg} (h : m.code = 11) : lay 1 m = putL [m.status, m.events] := by unfold lay; rw [if_neg (by omega), if_neg (by decide), if_neg (by omega), if_pos h]
theorem layc12 {m : Msg} (h : m.code = 12) : lay 1 m = logged m.status m.events m.messages m.data := by unfold lay; rw [if_neg (by omega), if_neg (by decide), if_neg (by omega), if_neg (by omega), if_pos h]
theorem layc17 {m : Msg} (h : m.code = 17) : lay 1 m = counted m.data := by unfold lay; rw [if_neg (by omega), if_neg (by decide), if_neg (by omega), if_neg (by omega), if_neg (by omega)]
theorem bodyc8 {dir : Int} {m : Msg} (h : m.code = 8) : bodyR dir m = lineR dir m := by unfold bodyR; rw [if_pos h]
theorem bodyc0 {m : Msg} (h : m.code ≠ 8) : bodyR 0 m = Rd.ret m := by unfold bodyR; rw [if_neg h, if_neg (by decide)]
theorem bodyc7 {m : Msg} (h : m.code = 7) : bodyR 1 m = Rd.bind Rd.byte fun v => Rd.ret { m with value := v } := by unfold bodyR ansR; rw [if_neg (by omega), if_pos rfl, if_pos h]
theorem bodyc11 {m : Msg} (h : m.code = 11) : bodyR 1 m = eventsR m := by unfold bodyR ansR; rw [if_neg (by omega), if_pos rfl, if_neg (by omega), if_pos h]
theorem bodyc12 {m : Msg} (h : m.code = 12) : bodyR 1 m = logsR m := by unfold bodyR ansR; rw [if_neg (by omega), if_pos rfl, if_neg (by omega), if_neg (by omega), if_pos h]
theorem bodyc17 {m : Msg} (h : m.code = 17) : bodyR 1 m = nameR m := by unfold bodyR ansR; rw [if_neg (by omega), if_pos rfl, if_neg (by omega), if_neg (by omega), if_neg (by omega), if_pos h]
theorem body_rt {dir code : Int} {b : List Int} (hd : dir = 0 ∨ dir = 1) (hc : isCode code) (hb : isBytes b) (h : (bodyR dir { zeroM with code := code } (cu b)).1.fin.e = 0) : lay dir (bodyR dir { zeroM with code := code } (cu b)).2 = b ∧ (bodyR dir { zeroM with code := code } (cu b)).2.code = code ∧ (bodyR dir { zeroM with code := code } (cu b)).2.data.length ≤ 1000 ∧ (bodyR dir { zeroM with code := code } (cu b)).2.words.length ≤ 1000 := by
  by_cases h8 : code = 8
  · rw [bodyc8 (show ({ zeroM with code := code } : Msg).code = 8 from h8)] at h ⊢
    obtain ⟨s, l, e, _, ho, e2⟩ := line_inv hb h
    rw [e2]
    refine ⟨(layc8 (show code = 8 from h8)).trans e.symm, rfl, Nat.zero_le _, ?_⟩
    show l.length ≤ 1000
    unfold okL at ho
    by_cases hz : s = 0
    · rw [if_pos hz] at ho
      simp only [Bool.and_eq_true, decide_eq_true_eq] at ho
      omega
    · rw [if_neg hz] at ho
      simp only [Bool.and_eq_true, beq_iff_eq] at ho
      omega
  rcases hd with rfl | rfl
  · rw [bodyc0 (show ({ zeroM with code := code } : Msg).code ≠ 8 from h8)] at h ⊢
    have h : (cu b).fin.e = 0 := h
    have hbn : b = [] := (fin_ok h).2
    subst hbn
    exact ⟨layc0 (show code ≠ 8 from h8), rfl, Nat.zero_le _, Nat.zero_le _⟩
  by_cases h7 : code = 7
  · rw [bodyc7 (show ({ zeroM with code := code } : Msg).code = 7 from h7)] at h ⊢
    have h0 := (fin_ok h).1
    obtain ⟨n, t, rfl, e0⟩ := byte_inv (fun _ => Dd.ret _) h0
    rw [e0] at h ⊢
    have h : (cu t).fin.e = 0 := h
    have ht : t = [] := (fin_ok h).2
    subst ht
    refine ⟨(layc7 (show code = 7 from h7)).trans ?_, rfl, Nat.zero_le _, Nat.zero_le _⟩
    show [n % 256] = [n]
    rw [show n % 256 = n by have := hb n List.mem_cons_self; omega]
  by_cases h11 : code = 11
  · rw [bodyc11 (show ({ zeroM with code := code } : Msg).code = 11 from h11)] at h ⊢
    obtain ⟨s, e, eb, _, _, e2⟩ := events_inv hb h
    rw [e2]
    exact ⟨(layc11 (show code = 11 from h11)).trans eb.symm, rfl, Nat.zero_le _, Nat.zero_le _⟩
  by_cases h12 : code = 12
  · rw [bodyc12 (show ({ zeroM with code := code } : Msg).code = 12 from h12)] at h ⊢
    obtain ⟨s, e, g, l, eb, _, _, _, hl, e2⟩ := logs_inv hb h
    rw [e2]
    exact ⟨(layc12 (show code = 12 from h12)).trans eb.symm, rfl, (show l.length ≤ 1000 by omega), Nat.zero_le _⟩
  have h17 : code = 17 := by unfold isCode at hc; omega
  rw [bodyc17 (show ({ zeroM with code := code } : Msg).code = 17 from h17)] at h ⊢
  obtain ⟨l, eb, _, _, hl, e2⟩ := name_inv hb h
  rw [e2]
  exact ⟨(layc17 (show code = 17 from h17)).trans eb.symm, rfl, (show l.length ≤ 1000 by omega), Nat.zero_le _⟩
theorem parse_rt {dir code : Int} {b : List Int} (hb : isBytes b) (h : (parse dir code b).2 = 0) : lay dir (parse dir code b).1 = b ∧ (parse dir code b).1.code = code := by
  obtain ⟨hd, hc, hf, e⟩ := parse_ok h
  rw [e]
  have r := body_rt hd hc hb hf
  exact ⟨r.1, r.2.1⟩
theorem other_m {dir : Int} {m : Msg} {b : List Int} (hb : isBytes b) (hne : b ≠ lay dir m) : (parse dir m.code b).2 ≠ 0 ∨ sameB (parse dir m.code b).1 m = false := by
  by_cases h : (parse dir m.code b).2 = 0
  · right
    cases hs : sameB (parse dir m.code b).1 m with
    | false => rfl
    | true =>
      have e := (same_eq _ _).1 hs
      have r := (parse_rt hb h).1
      rw [e] at r
      exact absurd r.symm hne
  · exact .inl h
theorem few_small {m : Msg} (h : fewB m = true) : m.data.length ≤ 1000 ∧ m.words.length ≤ 1000 := by
  unfold fewB at h
  simp only [Bool.and_eq_true, decide_eq_true_eq, List.all_eq_true] at h
  obtain ⟨⟨h1, h2, h3, h4, h5⟩, h6, h7⟩ := h
  omega
-- what may be written
def mk8 (s : Int) (l : List Int) : Msg := { zeroM with code := 8, sub := s, words := l }
def mkE (s e : Int) : Msg := { zeroM with code := 11, status := s, events := e }
def mkC (code : Int) : Msg := { zeroM with code := code }
theorem write_run {dir : Int} {m : Msg} (hd : dir = 0 ∨ dir = 1) (hc : isCode m.code) (h : bodyR dir { zeroM with code := m.code } (cu (lay dir m)) = (cu [], m)) : write dir m = (lay dir m, 0) := by
  refine writeR_eq ?_
  rw [parse_of hd hc (by rw [h]; rfl), h]
theorem write_body {dir : Int} {m : Msg} (h : (write dir m).2 = 0) : (bodyR dir { zeroM with code := m.code } (cu (lay dir m))).1.fin.e = 0 ∧ (bodyR dir { zeroM with code := m.code } (cu (lay dir m))).2 = m := by
  obtain ⟨h1, h2, _⟩ := writeR_ok h
  obtain ⟨_, _, h3, h4⟩ := parse_ok h1
  rw [h4] at h2
  exact ⟨h3, h2⟩
theorem lay8 (dir s : Int) (l : List Int) : lay dir (mk8 s l) = putL (s :: l) := layc8 (m := mk8 s l) rfl
theorem write8 {dir s : Int} {l : List Int} (hd : dir = 0 ∨ dir = 1) (h : is16 (s :: l)) : write dir (mk8 s l) = if okL dir s l = true then (putL (s :: l), 0) else ([], 1) := by
  have hbd : bodyR dir { zeroM with code := (mk8 s l).code } = lineR dir { zeroM with code := (mk8 s l).code } := bodyc8 (m := { zeroM with code := (mk8 s l).code }) rfl
  split
  · rename_i ho
    rw [← lay8 dir]
    refine write_run hd (.inr (.inl rfl)) ?_
    rw [lay8, hbd]
    exact line_run h ho
  · rename_i ho
    refine writeR_no fun h0 => ho ?_
    obtain ⟨h1, h2⟩ := write_body h0
    rw [lay8, hbd] at h1 h2
    obtain ⟨s', l', e1, i1, o1, e2⟩ := line_inv (putL_bytes _) h1
    rw [e2] at h2
    have a1 : s' = s := congrArg (fun m : Msg => m.sub) h2
    have a2 : l' = l := congrArg (fun m : Msg => m.words) h2
    rw [← a1, ← a2]
    exact o1
theorem layE (s e : Int) : lay 1 (mkE s e) = putL [s, e] := layc11 (m := mkE s e) rfl
theorem writeE {s e : Int} (he : 0 ≤ e ∧ e < 65536) : write 1 (mkE s e) = if s = 0 ∨ s = 65535 then (putL [s, e], 0) else ([], 1) := by
  have hl := layE s e
  have hbd : bodyR 1 { zeroM with code := (mkE s e).code } = eventsR { zeroM with code := (mkE s e).code } := bodyc11 (m := { zeroM with code := (mkE s e).code }) rfl
  split
  · rename_i ho
    rw [← hl]
    refine write_run (.inr rfl) (.inr (.inr (.inl rfl))) ?_
    rw [hl, hbd]
    exact events_run ho he
  · rename_i ho
    refine writeR_no fun h0 => ho ?_
    obtain ⟨h1, h2⟩ := write_body h0
    rw [hl, hbd] at h1 h2
    obtain ⟨s', e', _, _, o1, e2⟩ := events_inv (putL_bytes _) h1
    rw [e2] at h2
    have a1 : s' = s := congrArg (fun m : Msg => m.status) h2
    rw [← a1]
    exact o1
theorem asks {code : Int} {b : List Int} (hc : code = 7 ∨ code = 11 ∨ code = 12 ∨ code = 17) : parse 0 code b = if b = [] then (mkC code, 0) else (zeroM, 3) := by
  have e : bodyR 0 { zeroM with code := code } (cu b) = (cu b, mkC code) := by
    rw [bodyc0 (show code ≠ 8 by omega)]
    rfl
  have hk : isCode code := by unfold isCode; omega
  cases b with
  | nil =>
    rw [if_pos rfl, parse_of (.inl rfl) hk (by rw [e]; rfl), e]
  | cons x t =>
    rw [if_neg (by simp)]
    have e3 : (cu (x :: t)).fin.e = 3 := fin_cu_cons x t
    rw [parse_bad (.inl rfl) hk (by rw [e]; show (cu (x :: t)).fin.e ≠ 0; rw [e3]; decide), e]
    exact congrArg (Prod.mk zeroM) e3
end Go.Proofs.Ytalaochocmcbcaa.Diag
end
section
namespace Go.Proofs.Ytalaochocmcbcaa.Diag
open Go.RowKit Go.Proofs.Ytalaochocmcbcaa.P Go.Proofs.Ytalaochocmcbcaa.E Go.Proofs.Ytalaochocmcbcaa.Cur Go.Proofs.Ytalaochocmcbcaa.Cu Go.Proofs.Ytalaochocmcbcaa.Same Go.Proofs.Ytalaochocmcbcaa.Code Go.Proofs.Ytalaochocmcbcaa.Put Go.Proofs.Ytalaochocmcbcaa.Com Go.Proofs.Ytalaochocmcbcaa.Diag Go.Proofs.YtalaochocmcbcaaW.PrintWords Go.Proofs.YtalaochocmcbcaaW.PrintLast Go.Proofs.YtalaochocmcbcaaW.PrintMore
theorem mkC_is {code : Int} (hc : 0 ≤ code ∧ code < 256) (W : World) : IsMsg W (zeroC.setIfInBounds 0 (.int .u8 code)) (mkC code) := set_code (zero_is W) hc
theorem bytes_dec (l : List Int) (h : l.all (fun x => decide (0 ≤ x) && decide (x < 256)) = true) : isBytes l := fun x hx => by
  have := List.all_eq_true.1 h x hx
  simpa using this
theorem ex1 : parse 0 8 [0, 0, 165, 55] = (mk8 0 [42295], 0) := by
  have h := write8 (dir := 0) (s := 0) (l := [42295]) (.inl rfl) (is16_2 (by decide) (by decide))
  rw [if_pos (by decide)] at h
  obtain ⟨h1, h2, _⟩ := writeR_ok (show (write 0 (mk8 0 [42295])).2 = 0 by rw [h])
  rw [lay8] at h1 h2
  exact Prod.ext h2 h1
theorem ex2 : parse 1 11 [255, 255, 1, 8] = (mkE 65535 264, 0) := by
  have h := writeE (s := 65535) (e := 264) (by decide)
  rw [if_pos (.inr rfl)] at h
  obtain ⟨h1, h2, _⟩ := writeR_ok (show (write 1 (mkE 65535 264)).2 = 0 by rw [h])
  rw [layE] at h1 h2
  exact Prod.ext h2 h1
theorem ex3 : write 0 (mkC 7) = ([], 0) := by
  have h := asks (code := 7) (b := []) (.inl rfl)
  rw [if_pos rfl] at h
  exact writeR_eq h
end Go.Proofs.Ytalaochocmcbcaa.Diag
end
section
namespace Go.Proofs.Ytalaochocmcbcaa.Laws
open Go.RowKit Go.Proofs.Ytalaochocmcbcaa.P Go.Proofs.Ytalaochocmcbcaa.E Go.Proofs.Ytalaochocmcbcaa.Cur Go.Proofs.Ytalaochocmcbcaa.Cu Go.Proofs.Ytalaochocmcbcaa.Same Go.Proofs.Ytalaochocmcbcaa.Code Go.Proofs.Ytalaochocmcbcaa.Put Go.Proofs.Ytalaochocmcbcaa.Com Go.Proofs.Ytalaochocmcbcaa.Diag Go.Proofs.YtalaochocmcbcaaW.PrintWords Go.Proofs.YtalaochocmcbcaaW.PrintLast Go.Proofs.YtalaochocmcbcaaW.PrintMore
theorem awake_any (w : World) :
    Calls Try.prog 11 #[] w fun e w' => e = .returned (.bool true) ∧ Below w.heap.size w w' := by
  have H1 := Aside0.mk (show ParseC 12 0 8 [0, 0, 165, 55] (mk8 0 [42295], 0) from by rw [← ex1]; exact parse_c (by decide) (bytes_dec _ (by decide)) (by decide))
  have H2 := Aside0.mk (show ParseC 12 1 11 [255, 255, 1, 8] (mkE 65535 264, 0) from by rw [← ex2]; exact parse_c (by decide) (bytes_dec _ (by decide)) (by decide))
  have H3 := Aside0.mk (show WriteC 16 0 (mkC 7) ([], 0) from by rw [← ex3]; exact write_c (Nat.zero_le _) (Nat.zero_le _) (good_code zero_good (v := 7) (by decide)))
  have H := Aside0.mk (Hd.start w)
  go_enter Try.func11, Try.ntmps11
  go_upto_region 2 with (first | ((with_reducible refine gate_dst (N := 8) rfl ?_); (try (refine gate_guard (by rfl) ?_; dsimp only)); refine ev_lit .u8 [0, 0, 165, 55] 5 rfl (by first | (go_simp; done) | (go_simp; rfl)) (by simp) ?_; intro Aa ca wl ba he_ hr_ hz_ hb_; have Za := Aside0.mk hz_; have Ea := Aside0.mk he_; have n0_ := Aside0.mk ((H.out.on hb_).add (sta_C _ _ _ _) (hr_)); clear H; have H := n0_; clear n0_; clear hr_ hz_ hb_ he_) | (go_at_call 12; (with_reducible refine (ParseC.c (ParseC.ex H1.out Ea.out) H.out.f.2 Za.out).mono ?_); rintro en wm ⟨cm, rfl, hm_, hb_⟩; have n0_ := Aside0.mk ((H.out.on hb_).add (sta_msg _ _) (hm_)); clear H; have H := n0_; clear n0_; clear hb_ hm_) | ((with_reducible refine gate_dst (N := 1) rfl ?_); refine ev_var (y := .tmp 10) rfl rfl rfl rfl rfl H.out.f.2 rfl rfl ?_; intro gm wv hg_ h1_ hb_; have n0_ := Aside0.mk ((H.out.on hb_).add (sta_blk _ _) (h1_)); clear H; have H := n0_; clear n0_; clear h1_ hb_ hg_))
  go_upto_region 3 with (first | ((with_reducible refine gate_dst (N := 13) rfl ?_); (try (refine gate_guard (by rfl) ?_; dsimp only)); refine ev_lit .u8 [255, 255, 1, 8] 5 rfl (by first | (go_simp; done) | (go_simp; rfl)) (by simp) ?_; intro Ab cb wlb bb he_ hr_ hz_ hb_; have Zb := Aside0.mk hz_; have Eb := Aside0.mk he_; have n0_ := Aside0.mk ((H.out.on hb_).add (sta_C _ _ _ _) (hr_)); clear H; have H := n0_; clear n0_; clear hr_ hz_ hb_ he_) | (go_at_call 12; (with_reducible refine (ParseC.c (ParseC.ex H2.out Eb.out) H.out.f.2 Zb.out).mono ?_); rintro en wx ⟨cx, rfl, hm_, hb_⟩; have n0_ := Aside0.mk ((H.out.on hb_).add (sta_msg _ _) (hm_)); clear H; have H := n0_; clear n0_; clear hb_ hm_) | ((with_reducible refine gate_dst (N := 3) rfl ?_); refine ev_var (y := .tmp 15) rfl rfl rfl rfl rfl H.out.f.2 rfl rfl ?_; intro gx wxx hg_ h1_ hb_; have n0_ := Aside0.mk ((H.out.on hb_).add (sta_blk _ _) (h1_)); clear H; have H := n0_; clear n0_; clear h1_ hb_ hg_))
  go_upto_region 4 with (first | ((with_reducible refine gate_dst (N := 18) rfl ?_); (try (refine gate_guard (by rfl) ?_; dsimp only)); refine ev_build (zeroC.setIfInBounds 0 (.int .u8 7)) rfl (by first | (go_simp; done) | (go_simp; rfl)) ?_; intro cz hcx_; have mx_ := (fun W => (by rw [hcx_]; exact ((fun W => mkC_is (by decide) W)) W : IsMsg W cz (mkC 7))); have n0_ := Aside0.mk ((H.out).add (sta_msg _ _) (mx_ _)); clear H; have H := n0_; clear n0_; clear hcx_ mx_) | (go_at_call 16; (with_reducible refine (WriteC.n H3.out (n := 0) rfl H.out.f.2).mono ?_); rintro en ww ⟨Aw, cw, rfl, hz_, hr_, hb_⟩; have n0_ := Aside0.mk ((H.out.on hb_).add (sta_C _ _ _ _) (hr_)); clear H; have H := n0_; clear n0_; have Zw := Aside0.mk hz_; clear hb_ hr_ hz_))
  obtain ⟨A12, c12, A13, c13, A14, c14, A15, c15, A21, c21, ⟨l12, _, _, _, _⟩, _, _, _, _, _⟩ := IsMsg.lists H.out.f.1.1.1.1.1.1.2
  have k12 : ww.cell? ⟨gm, 12, none⟩ = some (.slice A12 1 c12) := (blk_cell H.out.f.1.1.1.1.1.2 12).trans l12
  have ksub : ww.cell? ⟨gm, 8, none⟩ = some (.int .u16 0) := bx_sub H.out.f.1.1.1.1.1.2 H.out.f.1.1.1.1.1.1.2
  have kst : ww.cell? ⟨gx, 9, none⟩ = some (.int .u16 65535) := bx_status H.out.f.1.1.2 H.out.f.1.1.1.2
  have kev : ww.cell? ⟨gx, 10, none⟩ = some (.int .u16 264) := bx_events H.out.f.1.1.2 H.out.f.1.1.1.2
  clear l12
  go_wp2
  go_ret
  exact ⟨by first | rfl | (simp; done) | decide, H.out.b⟩
theorem awake_c : AwakeC 11 := fun W => awake_any W
theorem u8_wf {n : Int} (h : (Lit.int .u8 n).wf = true) : 0 ≤ n ∧ n < 256 := by
  simp only [Lit.wf, IntKind.min, IntKind.max, IntKind.signed, IntKind.bits, Bool.and_eq_true, decide_eq_true_eq] at h
  simp at h
  omega
theorem u16_wf {n : Int} (h : (Lit.int .u16 n).wf = true) : 0 ≤ n ∧ n < 65536 := by
  simp only [Lit.wf, IntKind.min, IntKind.max, IntKind.signed, IntKind.bits, Bool.and_eq_true, decide_eq_true_eq] at h
  simp at h
  omega
end Go.Proofs.Ytalaochocmcbcaa.Laws
end
