/- What the laws of this chapter rest on, part 5: what the functions that they reach answer, each shown once. Conditions: what each theorem states. (Merged by a program of this session, wip/tools/merge.py, out of its own texts and of the words that the kit's print wrote for this seat, cut to those that are used.) -/
import Derived.Test.YtmglilncdffbkaaQD
set_option linter.unusedVariables false
set_option linter.unusedSimpArgs false
set_option maxHeartbeats 16000000
set_option maxRecDepth 100000
section
namespace Go.Proofs.Ytmglilncdffbkaa.RegR
open Go.RowKit Go.Proofs.Ytmglilncdffbkaa.P Go.Proofs.Ytmglilncdffbkaa.E Go.Proofs.Ytmglilncdffbkaa.Cur Go.Proofs.Ytmglilncdffbkaa.Cu Go.Proofs.Ytmglilncdffbkaa.Same Go.Proofs.Ytmglilncdffbkaa.Reg Go.Proofs.YtmglilncdffbkaaW.PrintWords Go.Proofs.YtmglilncdffbkaaW.PrintLast Go.Proofs.YtmglilncdffbkaaW.PrintMore
theorem span_1 {w0 w : World} {gr g gm : Nat} {c0 : Cu} {m : Msg} (h : QS.St w0 gr g gm w c0 m) {a most : Int} (ha : 0 ≤ a ∧ a < 65536) (hg : 1 ≤ c0.wordV) :
    Calls Try.prog 28 #[.pointer (some ⟨g, 0, none⟩), .int .u16 a, .int .i64 most] w fun en w' => en = .returned (.int .i64 (spanR most a c0).2) ∧ QS.St w0 gr g gm w' (spanR most a c0).1 m := by
  have HP := Aside0.mk h
  have HG := Aside0.mk hg
  clear h hg
  go_enter Try.func28, Try.ntmps28
  go_upto_region 2 with (first | (go_at_call 27; obtain ⟨l0, h0⟩ := Cu.wordV_bd (QS.St.good HP.out); (with_reducible refine (QS.St.word HP.out).mono ?_); rintro en x1 ⟨rfl, hp_⟩; obtain ⟨c1, ec_⟩ : ∃ z, z = c0.wordS := ⟨_, rfl⟩; rw [← ec_] at hp_; have Ec1 := Aside0.mk ec_; clear ec_; have n0_ := Aside0.mk hp_; clear HP hp_; have HP := n0_; clear n0_))
  have wk := wrap64_id (x := c0.wordV) (by omega) (by omega)
  have wkb : IntKind.i64.wrap (c0.wordV) = c0.wordV := by rw [i64_w]; exact wk
  have hge : decide (1 ≤ c0.wordV) = true := decide_eq_true (by have := HG.out; omega)
  have hge2 : decide (c0.wordV > 0) = true := by rw [← hge]; exact decide_eq_decide.2 ⟨fun h => by omega, fun h => by omega⟩
  have hge3 : decide (0 < c0.wordV) = true := hge2
  have EB := Aside0.mk (show (decide (1 ≤ c0.wordV) && decide (c0.wordV ≤ most)) = (decide (c0.wordV ≤ most)) from by rw [hge]; rfl)
  go_upto_region 3 with (first | (go_at_call 25; (with_reducible refine (QS.St.need HP.out (decide (c0.wordV ≤ most)) 5).mono ?_); rintro en x2 ⟨rfl, hp_⟩; rw [← EB.out] at hp_; obtain ⟨c2, ec_⟩ : ∃ z, z = c1.need (decide (1 ≤ c0.wordV) && decide (c0.wordV ≤ most)) 5 := ⟨_, rfl⟩; rw [← ec_] at hp_; have Ec2 := Aside0.mk ec_; clear ec_; have n0_ := Aside0.mk hp_; clear HP hp_; have HP := n0_; clear n0_))
  clear hge hge2 hge3
  go_wp2_with (first | (go_at_call 53; (with_reducible refine (rwithin_c ha _).mono ?_); rintro en x90 ⟨rfl, hb_⟩; have n0_ := Aside0.mk (HP.out.below hb_); clear HP hb_; have HP := n0_; clear n0_) | (go_at_call 25; (with_reducible refine (QS.St.need HP.out (withinB a c0.wordV) 7).mono ?_); rintro en x3 ⟨rfl, hp_⟩; obtain ⟨c3, ec_⟩ : ∃ z, z = c2.need (withinB a c0.wordV) 7 := ⟨_, rfl⟩; rw [← ec_] at hp_; have Ec3 := Aside0.mk ec_; clear ec_; have n0_ := Aside0.mk hp_; clear HP hp_; have HP := n0_; clear n0_))
  go_ret
  have eq_ : spanR most a c0 = (c3, c0.wordV) := by
    rw [Ec3.out, Ec2.out, Ec1.out]
    rfl
  rw [eq_]
  exact ⟨rfl, HP.out⟩
theorem span_0 {w0 w : World} {gr g gm : Nat} {c0 : Cu} {m : Msg} (h : QS.St w0 gr g gm w c0 m) {a most : Int} (ha : 0 ≤ a ∧ a < 65536) (hg : ¬ 1 ≤ c0.wordV) :
    Calls Try.prog 28 #[.pointer (some ⟨g, 0, none⟩), .int .u16 a, .int .i64 most] w fun en w' => en = .returned (.int .i64 (spanR most a c0).2) ∧ QS.St w0 gr g gm w' (spanR most a c0).1 m := by
  have HP := Aside0.mk h
  have HG := Aside0.mk hg
  clear h hg
  go_enter Try.func28, Try.ntmps28
  go_upto_region 2 with (first | (go_at_call 27; obtain ⟨l0, h0⟩ := Cu.wordV_bd (QS.St.good HP.out); (with_reducible refine (QS.St.word HP.out).mono ?_); rintro en x1 ⟨rfl, hp_⟩; obtain ⟨c1, ec_⟩ : ∃ z, z = c0.wordS := ⟨_, rfl⟩; rw [← ec_] at hp_; have Ec1 := Aside0.mk ec_; clear ec_; have n0_ := Aside0.mk hp_; clear HP hp_; have HP := n0_; clear n0_))
  have wk := wrap64_id (x := c0.wordV) (by omega) (by omega)
  have wkb : IntKind.i64.wrap (c0.wordV) = c0.wordV := by rw [i64_w]; exact wk
  have hge : decide (1 ≤ c0.wordV) = false := decide_eq_false (by have := HG.out; omega)
  have hge2 : decide (c0.wordV > 0) = false := by rw [← hge]; exact decide_eq_decide.2 ⟨fun h => by omega, fun h => by omega⟩
  have hge3 : decide (0 < c0.wordV) = false := hge2
  have EB := Aside0.mk (show (decide (1 ≤ c0.wordV) && decide (c0.wordV ≤ most)) = (false) from by rw [hge]; rfl)
  go_upto_region 3 with (first | (go_at_call 25; (with_reducible refine (QS.St.need HP.out (false) 5).mono ?_); rintro en x2 ⟨rfl, hp_⟩; rw [← EB.out] at hp_; obtain ⟨c2, ec_⟩ : ∃ z, z = c1.need (decide (1 ≤ c0.wordV) && decide (c0.wordV ≤ most)) 5 := ⟨_, rfl⟩; rw [← ec_] at hp_; have Ec2 := Aside0.mk ec_; clear ec_; have n0_ := Aside0.mk hp_; clear HP hp_; have HP := n0_; clear n0_))
  clear hge hge2 hge3
  go_wp2_with (first | (go_at_call 53; (with_reducible refine (rwithin_c ha _).mono ?_); rintro en x90 ⟨rfl, hb_⟩; have n0_ := Aside0.mk (HP.out.below hb_); clear HP hb_; have HP := n0_; clear n0_) | (go_at_call 25; (with_reducible refine (QS.St.need HP.out (withinB a c0.wordV) 7).mono ?_); rintro en x3 ⟨rfl, hp_⟩; obtain ⟨c3, ec_⟩ : ∃ z, z = c2.need (withinB a c0.wordV) 7 := ⟨_, rfl⟩; rw [← ec_] at hp_; have Ec3 := Aside0.mk ec_; clear ec_; have n0_ := Aside0.mk hp_; clear HP hp_; have HP := n0_; clear n0_))
  go_ret
  have eq_ : spanR most a c0 = (c3, c0.wordV) := by
    rw [Ec3.out, Ec2.out, Ec1.out]
    rfl
  rw [eq_]
  exact ⟨rfl, HP.out⟩
theorem span_any {w0 w : World} {gr g gm : Nat} {c0 : Cu} {m : Msg} (h : QS.St w0 gr g gm w c0 m) {a : Int} (ha : 0 ≤ a ∧ a < 65536) (most : Int) : Calls Try.prog 28 #[.pointer (some ⟨g, 0, none⟩), .int .u16 a, .int .i64 most] w fun en w' => en = .returned (.int .i64 (spanR most a c0).2) ∧ QS.St w0 gr g gm w' (spanR most a c0).1 m := by
  by_cases hg : 1 ≤ c0.wordV
  · exact span_1 h ha hg
  · exact span_0 h ha hg
theorem parse_dir {A : Option Addr} {c : Nat} {l : List Int} {w0 : World} (hr : Kd.C (Kd.int .u8) w0 A l.length l) (hc : l.length ≤ c) (hs : l.length ≤ 1000000) (hb : isBytes l) {dir code : Int} (h0 : dir ≠ 0) (h1 : dir ≠ 1) :
    Calls Try.prog 13 #[.int .i64 dir, .int .u8 code, .slice A l.length c] w0 fun en w' => ∃ cx, en = .returned (.tuple #[.agg cx, .int .i64 1]) ∧ IsMsg w' cx zeroM ∧ Below w0.heap.size w0 w' := by
  clear hr hc hs hb
  have H := Aside0.mk (Held.start w0)
  have e0 : (dir != 0) = true := by simpa using h0
  have e1 : (dir != 1) = true := by simpa using h1
  have e0' : (dir == 0) = false := by simpa using h0
  have e1' : (dir == 1) = false := by simpa using h1
  clear h0 h1
  go_enter Try.func13, Try.ntmps13
  go_wp2_with (first | ((with_reducible refine gate_dst (N := 6) rfl ?_); refine ev_alloc rfl rfl ?_; intro g w1 hg_ h1_ h2_; have n0_ := Aside0.mk (H.out.new hg_ h1_ h2_); clear H; have H := n0_; clear n0_; clear h1_ h2_ hg_) | ((with_reducible refine gate_dst (N := 22) rfl ?_); refine ev_build (zeroC) rfl (by go_simp; first | rfl | done) ?_; intro cx hcx_; have M := Aside0.mk (show ∀ W, IsMsg W cx _ from fun W => by rw [hcx_]; exact zero_is W); clear hcx_) | ((with_reducible refine gate_op (u := .store 30 (.tmp 6) (.tmp 22)) rfl ?_); refine ev_store rfl rfl rfl rfl H.out (i := 0) rfl (rfl) (M.out w0) ?_; intro w2 h3_ h4_; have n0_ := Aside0.mk (h3_); clear H; have H := n0_; clear n0_; clear h3_ h4_))
  refine bodyPost_ret (results_ct rfl _ _ g 30 cx (0, 0) _ rfl (H.out.at 0 rfl) Try.underlying30 rfl (msg_info ((M.out w0).size))) rfl (⟨cx, rfl, M.out _, H.out.b⟩)
def rparse9.T45 : Bool × List (List Nat × List Nat) := (true, [([], []), ([], []), ([1], [1]), ([2], [2]), ([3], [3]), ([0, 0], [0]), ([4, 5, 0, 1, 2, 3, 4, 5], [4])])
def rparse9.B45 : List Nat := [0, 0, 2, 6, 14, 1, 63]
theorem rparse9.tab45 : rtab .any (opsOf Try.f13 45) = rparse9.T45 := by kernel_rfl
theorem rparse9.bits45 : waitsOk rparse9.T45.2 rparse9.B45 = true := by kernel_rfl
theorem parse_no0 {A : Option Addr} {c : Nat} {l : List Int} {w0 : World} (hr : Kd.C (Kd.int .u8) w0 A l.length l) (hc : l.length ≤ c) (hs : l.length ≤ 1000000) (hb : isBytes l) {code : Int} (hcd : 0 ≤ code ∧ code < 256) (hk : ¬ isCode code) :
    Calls Try.prog 13 #[.int .i64 0, .int .u8 code, .slice A l.length c] w0 fun en w' => ∃ cx, en = .returned (.tuple #[.agg cx, .int .i64 4]) ∧ IsMsg w' cx zeroM ∧ Below w0.heap.size w0 w' := by
  have HR := Aside0.mk hr
  have HC := Aside0.mk hc
  have HS := Aside0.mk hs
  have HBB := Aside0.mk hb
  clear hr hc hs hb
  have HKB := Aside0.mk hcd
  clear hcd
  have b3 : (code == 3) = false := beq_eq_false_iff_ne.2 (fun e => hk (by unfold isCode; omega))
  have b4 : (code == 4) = false := beq_eq_false_iff_ne.2 (fun e => hk (by unfold isCode; omega))
  have b6 : (code == 6) = false := beq_eq_false_iff_ne.2 (fun e => hk (by unfold isCode; omega))
  have b16 : (code == 16) = false := beq_eq_false_iff_ne.2 (fun e => hk (by unfold isCode; omega))
  have b22 : (code == 22) = false := beq_eq_false_iff_ne.2 (fun e => hk (by unfold isCode; omega))
  have b23 : (code == 23) = false := beq_eq_false_iff_ne.2 (fun e => hk (by unfold isCode; omega))
  have b24 : (code == 24) = false := beq_eq_false_iff_ne.2 (fun e => hk (by unfold isCode; omega))
  clear hk
  go_enter Try.func13, Try.ntmps13
  go_upto_region 3 with (first | ((with_reducible refine gate_dst (N := 6) rfl ?_); refine ev_alloc rfl rfl ?_; intro gr w1 hg_ h1_ h2_; have HG_ := Aside0.mk hg_; have H1 := Aside0.mk h1_; have H2 := Aside0.mk h2_; clear hg_ h1_ h2_))
  go_upto_region 4 with (first | ((with_reducible refine gate_dst (N := 25) rfl ?_); refine QS.ev_cur rfl rfl rfl ?_; intro g w2 q1_ q2_; have HP := Aside0.mk (QS.Nw.first HR.out HC.out HS.out HBB.out HG_.out H1.out H2.out q1_ q2_); clear q1_ q2_ H1 H2 HG_))
  obtain ⟨c0, e_⟩ : ∃ z, z = (⟨l, false, 0⟩ : Cu) := ⟨_, rfl⟩
  rw [← e_] at HP
  have Ec0 := Aside0.mk e_
  clear e_
  go_upto_region 6 with (first | ((with_reducible refine gate_dst (N := 27) rfl ?_); refine ev_build ((zeroC.setIfInBounds 0 (.int .u8 (code)))) rfl (by go_simp; first | rfl | done) ?_; intro cx hcx_; have M := Aside0.mk (show ∀ W, IsMsg W cx _ from fun W => by rw [hcx_]; exact (fun W => set_code (zero_is W) (v := code) ⟨by have := HKB.out; omega, by have := HKB.out; omega⟩) W); have NL := Aside0.mk (show NilL cx by rw [hcx_]; exact (QS.zero_nil.set (by decide))); clear hcx_) | ((with_reducible refine gate_dst (N := 9) rfl ?_); refine ev_var (y := .tmp 27) rfl rfl rfl rfl rfl (M.out w0) rfl rfl ?_; intro gm w4 hg_ h1_ hb_; have hp_ := QS.Nw.new HP.out hg_ h1_ hb_ M.out NL.out; clear h1_ hb_ hg_; have n0_ := Aside0.mk hp_; clear HP hp_; have HP := n0_; clear n0_))
  clear HR HC HS HBB M NL
  obtain ⟨m0, hm0⟩ : ∃ z, z = ({ zeroM with code := code } : Msg) := ⟨_, rfl⟩
  replace HP : Aside0 (QS.St w0 gr g gm w4 c0 { zeroM with code := code }) := HP
  rw [← hm0] at HP
  have HM0 := Aside0.mk hm0
  clear hm0
  have H := Aside0.mk (QS.St.held HP.out)
  clear HP
  go_wp2_with (first | ((with_reducible refine gate_dst (N := 28) rfl ?_); refine ev_build (zeroC) rfl (by go_simp; first | rfl | done) ?_; intro cx hcx_; have M := Aside0.mk (show ∀ W, IsMsg W cx _ from fun W => by rw [hcx_]; exact zero_is W); clear hcx_) | ((with_reducible refine gate_op (u := .store 30 (.tmp 6) (.tmp 28)) rfl ?_); refine ev_store rfl rfl rfl rfl H.out (i := 0) rfl (rfl) (M.out w0) ?_; intro w99 h3_ h4_; have n0_ := Aside0.mk (h3_); clear H; have H := n0_; clear n0_; clear h3_ h4_))
  refine bodyPost_ret (results_ct rfl _ _ gr 30 _ (0, 0) _ rfl (H.out.at 0 rfl) Try.underlying30 rfl (msg_info ((M.out w0).size))) rfl (⟨_, rfl, M.out _, H.out.b⟩)
theorem parse_0_3 {A : Option Addr} {c : Nat} {l : List Int} {w0 : World} (hr : Kd.C (Kd.int .u8) w0 A l.length l) (hc : l.length ≤ c) (hs : l.length ≤ 1000000) (hb : isBytes l) :
    Calls Try.prog 13 #[.int .i64 0, .int .u8 3, .slice A l.length c] w0 fun en w' => ∃ cx, en = .returned (.tuple #[.agg cx, .int .i64 (parse 0 3 l).2]) ∧ IsMsg w' cx (parse 0 3 l).1 ∧ Below w0.heap.size w0 w' := by
  have HR := Aside0.mk hr
  have HC := Aside0.mk hc
  have HS := Aside0.mk hs
  have HBB := Aside0.mk hb
  clear hr hc hs hb
  go_enter Try.func13, Try.ntmps13
  go_upto_region 3 with (first | ((with_reducible refine gate_dst (N := 6) rfl ?_); refine ev_alloc rfl rfl ?_; intro gr w1 hg_ h1_ h2_; have HG_ := Aside0.mk hg_; have H1 := Aside0.mk h1_; have H2 := Aside0.mk h2_; clear hg_ h1_ h2_))
  go_upto_region 4 with (first | ((with_reducible refine gate_dst (N := 25) rfl ?_); refine QS.ev_cur rfl rfl rfl ?_; intro g w2 q1_ q2_; have HP := Aside0.mk (QS.Nw.first HR.out HC.out HS.out HBB.out HG_.out H1.out H2.out q1_ q2_); clear q1_ q2_ H1 H2 HG_))
  obtain ⟨c0, e_⟩ : ∃ z, z = (⟨l, false, 0⟩ : Cu) := ⟨_, rfl⟩
  rw [← e_] at HP
  have Ec0 := Aside0.mk e_
  clear e_
  go_upto_region 6 with (first | ((with_reducible refine gate_dst (N := 27) rfl ?_); refine ev_build ((zeroC.setIfInBounds 0 (.int .u8 (3)))) rfl (by go_simp; first | rfl | done) ?_; intro cx hcx_; have M := Aside0.mk (show ∀ W, IsMsg W cx _ from fun W => by rw [hcx_]; exact (fun W => set_code (zero_is W) (v := 3) (by decide)) W); have NL := Aside0.mk (show NilL cx by rw [hcx_]; exact (QS.zero_nil.set (by decide))); clear hcx_) | ((with_reducible refine gate_dst (N := 9) rfl ?_); refine ev_var (y := .tmp 27) rfl rfl rfl rfl rfl (M.out w0) rfl rfl ?_; intro gm w4 hg_ h1_ hb_; have hp_ := QS.Nw.new HP.out hg_ h1_ hb_ M.out NL.out; clear h1_ hb_ hg_; have n0_ := Aside0.mk hp_; clear HP hp_; have HP := n0_; clear n0_))
  clear HR HC HS HBB M NL
  obtain ⟨m0, hm0⟩ : ∃ z, z = ({ zeroM with code := 3 } : Msg) := ⟨_, rfl⟩
  replace HP : Aside0 (QS.St w0 gr g gm w4 c0 { zeroM with code := 3 }) := HP
  rw [← hm0] at HP
  have HM0 := Aside0.mk hm0
  clear hm0
  have HMC := Aside0.mk (show m0.code = 3 by rw [HM0.out])
  go_upto_region 11 with (fail)
  go_upto_region 12 with (first | (go_at_call 27; obtain ⟨l0, h0⟩ := Cu.wordV_bd (QS.St.good HP.out); (with_reducible refine (QS.St.word HP.out).mono ?_); rintro en x1 ⟨rfl, hp_⟩; obtain ⟨c1, ec_⟩ : ∃ z, z = c0.wordS := ⟨_, rfl⟩; rw [← ec_] at hp_; have Ec1 := Aside0.mk ec_; clear ec_; obtain ⟨kaddr, faddr⟩ := QS.St.at_addr hp_; have n0_ := Aside0.mk hp_; clear HP hp_; have HP := n0_; clear n0_))
  have hp_ := HP.out.put_addr ⟨l0, h0⟩
  have n0_ := Aside0.mk hp_
  clear HP hp_
  have HP := n0_
  clear n0_
  clear kaddr faddr
  obtain ⟨kaddr, faddr⟩ := QS.St.at_addr HP.out
  obtain ⟨ln1, hn1⟩ := spanR_bd (QS.St.good HP.out) 125 c0.wordV
  have wu1 : IntKind.u16.wrap (spanR 125 c0.wordV c1).2 = (spanR 125 c0.wordV c1).2 := by rw [IntKind.wrap_u16]; omega
  go_upto_region 43 with (first | (go_at_call 28; (with_reducible refine (span_any HP.out ⟨l0, h0⟩ 125).mono ?_); rintro en x2 ⟨rfl, hp_⟩; obtain ⟨c2, ec_⟩ : ∃ z, z = (spanR 125 c0.wordV c1).1 := ⟨_, rfl⟩; rw [← ec_] at hp_; have Ec2 := Aside0.mk ec_; clear ec_; obtain ⟨kcount, fcount⟩ := QS.St.at_count hp_; have n0_ := Aside0.mk hp_; clear HP hp_; have HP := n0_; clear n0_))
  have hp_ := HP.out.put_count ⟨ln1, hn1⟩
  have n0_ := Aside0.mk hp_
  clear HP hp_
  have HP := n0_
  clear n0_
  clear kaddr faddr kcount fcount
  have eq_ : bodyR 0 m0 c0 = (c2, { m0 with addr := c0.wordV, count := (spanR 125 c0.wordV c1).2 }) := by
    unfold bodyR
    rw [if_pos (by have := HMC.out; omega)]
    rw [if_pos (by decide)]
    rw [Ec2.out, Ec1.out]
    rfl
  obtain ⟨cb, e_⟩ : ∃ z, z = bodyR 0 m0 c0 := ⟨_, rfl⟩
  have EBD := Aside0.mk e_
  rw [eq_] at e_
  obtain ⟨c9, m9⟩ := cb
  obtain ⟨e1_, e2_⟩ := Prod.mk.inj e_
  rw [← e1_, ← e2_] at HP
  clear e_ e1_ e2_ eq_
  go_upto_region 44 with (first | (go_at_call 29; (with_reducible refine (QS.St.fin HP.out).mono ?_); rintro en x61 ⟨rfl, hp_⟩; obtain ⟨c10, ec_⟩ : ∃ z, z = c9.fin := ⟨_, rfl⟩; rw [← ec_] at hp_; have Ec10 := Aside0.mk ec_; clear ec_; have n0_ := Aside0.mk hp_; clear HP hp_; have HP := n0_; clear n0_))
  have he1 : parse 0 3 l = if c10.e ≠ 0 then (zeroM, c10.e) else (m9, 0) := by
    have e2 : bodyR 0 m0 (cu l) = (c9, m9) := by rw [EBD.out, Ec0.out]; rfl
    unfold parse
    rw [if_neg (by decide), if_neg (by decide), ← HM0.out, e2, Ec10.out]
  obtain ⟨v0, v1, v2, hbk⟩ := QS.St.blk HP.out
  have ke := (RCur.cells4 hbk).1.2.2.2
  have HBK := Aside0.mk hbk
  have HNE := Aside0.mk HP.out.h2.2.1
  clear hbk
  by_cases h9 : c10.e = 0
  · have ex_ : parse 0 3 l = (m9, 0) := by rw [he1, if_neg (fun h => h h9)]
    have EX := Aside0.mk ex_
    have g1 : (c10.e != 0) = false := by rw [h9]; rfl
    have g2 : (c10.e == 0) = true := by rw [h9]; rfl
    clear h9 ex_ he1
    obtain ⟨cx, h_, hz_, hm_⟩ := QS.St.held2 HP.out
    have H := Aside0.mk h_
    have HZ := Aside0.mk hz_
    have HM := Aside0.mk hm_
    have HB := Aside0.mk HP.out.b
    clear h_ hz_ hm_ HP
    go_wp2_with (first | ((with_reducible refine gate_dst (N := 220) rfl ?_); refine ev_load (x := .tmp 9) rfl rfl rfl H.out (i := 1) rfl (HZ.out) ?_) | ((with_reducible refine gate_op (u := .store 30 (.tmp 6) (.tmp 220)) rfl ?_); refine ev_store rfl rfl rfl rfl H.out (i := 0) rfl rfl (HM.out _ ⟨rfl, rfl, rfl, Kept.refl _ _⟩) ?_; intro x91 h3_ h4_; have HE := Aside0.mk (HM.out _ h4_); clear h4_; have n0_ := Aside0.mk (h3_); clear H; have H := n0_; clear n0_; clear h3_))
    refine bodyPost_ret (results_ct rfl _ _ gr 30 _ (0, 0) _ rfl (H.out.at 0 rfl) Try.underlying30 rfl (msg_info (HZ.out))) rfl (by rw [EX.out]; exact ⟨_, rfl, HE.out, H.out.b⟩)
  · have ex_ : parse 0 3 l = (zeroM, c10.e) := by rw [he1, if_pos h9]
    have EX := Aside0.mk ex_
    have g1 : (c10.e != 0) = true := by simpa using h9
    have g2 : (c10.e == 0) = false := by simpa using h9
    clear h9 ex_ he1
    have H := Aside0.mk (QS.St.held HP.out)
    clear HP
    go_upto_region 45 with (fail)
    clear ke
    refine start_ (n := 7) (S := fun w' => w'.cell? ⟨g, 3, none⟩ = some (.int .i64 c10.e) ∧ Aside0 (Held w0 [(gr, zeroC)] w')) (ds := []) (bm 7 0) (by as_aux_lemma => kernel_rfl) rfl (by as_aux_lemma => kernel_rfl) ⟨((RCur.cells4 (blk_drew HBK.out)).1.2.2.2), (Aside0.mk H.out.drew)⟩ (fun hHeld => ?_)
    refine with_tabW rparse9.tab45 rparse9.bits45 (fun HT_ HW_ => ?_)
    refine pu_ 0 (some 215) (bm 7 1) HT_ (by as_aux_lemma => kernel_rfl) rfl rfl (fun _ _ _ h => h) (by rfl) (by intro w'; go_simp; with_reducible rfl) (by go_simp; rfl) ?_
    refine pu_ 1 (some 216) (bm 7 3) HT_ (by as_aux_lemma => kernel_rfl) rfl rfl (fun _ _ _ h => h) (by rfl) (by intro w'; go_simp; with_reducible rfl) (by go_simp; rfl) ?_
    refine pu_ 2 (some 217) (bm 7 7) HT_ (by as_aux_lemma => kernel_rfl) rfl rfl (fun _ _ _ h => h) (by rfl) (by intro w'; go_simp; with_reducible rfl) (by go_simp; rfl) ?_
    refine pu_ 3 (some 218) (bm 7 15) HT_ (by as_aux_lemma => kernel_rfl) rfl rfl (fun _ _ _ h => h) (by rfl) (by intro w'; go_simp; with_reducible rfl) (by go_simp; rfl) ?_
    refine tk_ 4 (some 219) (bm 7 31) HT_ HW_ hHeld (by as_aux_lemma => kernel_rfl) rfl rfl (fun _ _ _ h => h) (by rfl) (by rintro w' ⟨s0, s1⟩; go_simp; with_reducible rfl) (by go_simp; rfl) ?_
    refine one_ (i := 5) (N := none) (bm 7 63) rfl rfl (one_of HT_.out (by as_aux_lemma => kernel_rfl)) (by as_aux_lemma => decide) (fun K hK => ?_)
    have Hd_ := Aside0.mk H.out.drew
    clear H
    have H := Hd_
    clear Hd_
    refine store_ (x := .tmp 6) (y := .tmp 215) (by rfl) rfl rfl rfl rfl H.out (i := 0) rfl (rfl) (zero_is w0) ?_
    intro x97 h3_ h4_
    have ke3 := (RCur.cells4 (blk_kept (blk_drew HBK.out) h4_.kept (fun e => HNE.out e.symm))).1.2.2.2
    have n0_ := Aside0.mk (h3_); clear H; have H := n0_; clear n0_; clear h3_ h4_
    refine hK.out _ _ ⟨ke3, H⟩ (fun hHeld => ?_)
    clear hK K
    refine pu_ 6 (some 7) (bm 7 127) HT_ (by as_aux_lemma => kernel_rfl) rfl rfl (fun _ _ _ h => h) (by rfl) (by intro w'; go_simp; with_reducible rfl) (by go_simp; rfl) ?_
    refine done_ (done_of HT_.out (by as_aux_lemma => kernel_rfl)) ?_
    go_wp2
    refine bodyPost_ret (results_ct rfl _ _ gr 30 _ (0, 0) _ rfl (H.out.at 0 rfl) Try.underlying30 rfl (msg_info (rfl))) rfl (by rw [EX.out]; exact ⟨_, rfl, zero_is _, H.out.b⟩)
theorem parse_0_4 {A : Option Addr} {c : Nat} {l : List Int} {w0 : World} (hr : Kd.C (Kd.int .u8) w0 A l.length l) (hc : l.length ≤ c) (hs : l.length ≤ 1000000) (hb : isBytes l) :
    Calls Try.prog 13 #[.int .i64 0, .int .u8 4, .slice A l.length c] w0 fun en w' => ∃ cx, en = .returned (.tuple #[.agg cx, .int .i64 (parse 0 4 l).2]) ∧ IsMsg w' cx (parse 0 4 l).1 ∧ Below w0.heap.size w0 w' := by
  have HR := Aside0.mk hr
  have HC := Aside0.mk hc
  have HS := Aside0.mk hs
  have HBB := Aside0.mk hb
  clear hr hc hs hb
  go_enter Try.func13, Try.ntmps13
  go_upto_region 3 with (first | ((with_reducible refine gate_dst (N := 6) rfl ?_); refine ev_alloc rfl rfl ?_; intro gr w1 hg_ h1_ h2_; have HG_ := Aside0.mk hg_; have H1 := Aside0.mk h1_; have H2 := Aside0.mk h2_; clear hg_ h1_ h2_))
  go_upto_region 4 with (first | ((with_reducible refine gate_dst (N := 25) rfl ?_); refine QS.ev_cur rfl rfl rfl ?_; intro g w2 q1_ q2_; have HP := Aside0.mk (QS.Nw.first HR.out HC.out HS.out HBB.out HG_.out H1.out H2.out q1_ q2_); clear q1_ q2_ H1 H2 HG_))
  obtain ⟨c0, e_⟩ : ∃ z, z = (⟨l, false, 0⟩ : Cu) := ⟨_, rfl⟩
  rw [← e_] at HP
  have Ec0 := Aside0.mk e_
  clear e_
  go_upto_region 6 with (first | ((with_reducible refine gate_dst (N := 27) rfl ?_); refine ev_build ((zeroC.setIfInBounds 0 (.int .u8 (4)))) rfl (by go_simp; first | rfl | done) ?_; intro cx hcx_; have M := Aside0.mk (show ∀ W, IsMsg W cx _ from fun W => by rw [hcx_]; exact (fun W => set_code (zero_is W) (v := 4) (by decide)) W); have NL := Aside0.mk (show NilL cx by rw [hcx_]; exact (QS.zero_nil.set (by decide))); clear hcx_) | ((with_reducible refine gate_dst (N := 9) rfl ?_); refine ev_var (y := .tmp 27) rfl rfl rfl rfl rfl (M.out w0) rfl rfl ?_; intro gm w4 hg_ h1_ hb_; have hp_ := QS.Nw.new HP.out hg_ h1_ hb_ M.out NL.out; clear h1_ hb_ hg_; have n0_ := Aside0.mk hp_; clear HP hp_; have HP := n0_; clear n0_))
  clear HR HC HS HBB M NL
  obtain ⟨m0, hm0⟩ : ∃ z, z = ({ zeroM with code := 4 } : Msg) := ⟨_, rfl⟩
  replace HP : Aside0 (QS.St w0 gr g gm w4 c0 { zeroM with code := 4 }) := HP
  rw [← hm0] at HP
  have HM0 := Aside0.mk hm0
  clear hm0
  have HMC := Aside0.mk (show m0.code = 4 by rw [HM0.out])
  go_upto_region 11 with (fail)
  go_upto_region 12 with (first | (go_at_call 27; obtain ⟨l0, h0⟩ := Cu.wordV_bd (QS.St.good HP.out); (with_reducible refine (QS.St.word HP.out).mono ?_); rintro en x1 ⟨rfl, hp_⟩; obtain ⟨c1, ec_⟩ : ∃ z, z = c0.wordS := ⟨_, rfl⟩; rw [← ec_] at hp_; have Ec1 := Aside0.mk ec_; clear ec_; obtain ⟨kaddr, faddr⟩ := QS.St.at_addr hp_; have n0_ := Aside0.mk hp_; clear HP hp_; have HP := n0_; clear n0_))
  have hp_ := HP.out.put_addr ⟨l0, h0⟩
  have n0_ := Aside0.mk hp_
  clear HP hp_
  have HP := n0_
  clear n0_
  clear kaddr faddr
  obtain ⟨kaddr, faddr⟩ := QS.St.at_addr HP.out
  obtain ⟨ln1, hn1⟩ := spanR_bd (QS.St.good HP.out) 125 c0.wordV
  have wu1 : IntKind.u16.wrap (spanR 125 c0.wordV c1).2 = (spanR 125 c0.wordV c1).2 := by rw [IntKind.wrap_u16]; omega
  go_upto_region 43 with (first | (go_at_call 28; (with_reducible refine (span_any HP.out ⟨l0, h0⟩ 125).mono ?_); rintro en x2 ⟨rfl, hp_⟩; obtain ⟨c2, ec_⟩ : ∃ z, z = (spanR 125 c0.wordV c1).1 := ⟨_, rfl⟩; rw [← ec_] at hp_; have Ec2 := Aside0.mk ec_; clear ec_; obtain ⟨kcount, fcount⟩ := QS.St.at_count hp_; have n0_ := Aside0.mk hp_; clear HP hp_; have HP := n0_; clear n0_))
  have hp_ := HP.out.put_count ⟨ln1, hn1⟩
  have n0_ := Aside0.mk hp_
  clear HP hp_
  have HP := n0_
  clear n0_
  clear kaddr faddr kcount fcount
  have eq_ : bodyR 0 m0 c0 = (c2, { m0 with addr := c0.wordV, count := (spanR 125 c0.wordV c1).2 }) := by
    unfold bodyR
    rw [if_pos (by have := HMC.out; omega)]
    rw [if_pos (by decide)]
    rw [Ec2.out, Ec1.out]
    rfl
  obtain ⟨cb, e_⟩ : ∃ z, z = bodyR 0 m0 c0 := ⟨_, rfl⟩
  have EBD := Aside0.mk e_
  rw [eq_] at e_
  obtain ⟨c9, m9⟩ := cb
  obtain ⟨e1_, e2_⟩ := Prod.mk.inj e_
  rw [← e1_, ← e2_] at HP
  clear e_ e1_ e2_ eq_
  go_upto_region 44 with (first | (go_at_call 29; (with_reducible refine (QS.St.fin HP.out).mono ?_); rintro en x61 ⟨rfl, hp_⟩; obtain ⟨c10, ec_⟩ : ∃ z, z = c9.fin := ⟨_, rfl⟩; rw [← ec_] at hp_; have Ec10 := Aside0.mk ec_; clear ec_; have n0_ := Aside0.mk hp_; clear HP hp_; have HP := n0_; clear n0_))
  have he1 : parse 0 4 l = if c10.e ≠ 0 then (zeroM, c10.e) else (m9, 0) := by
    have e2 : bodyR 0 m0 (cu l) = (c9, m9) := by rw [EBD.out, Ec0.out]; rfl
    unfold parse
    rw [if_neg (by decide), if_neg (by decide), ← HM0.out, e2, Ec10.out]
  obtain ⟨v0, v1, v2, hbk⟩ := QS.St.blk HP.out
  have ke := (RCur.cells4 hbk).1.2.2.2
  have HBK := Aside0.mk hbk
  have HNE := Aside0.mk HP.out.h2.2.1
  clear hbk
  by_cases h9 : c10.e = 0
  · have ex_ : parse 0 4 l = (m9, 0) := by rw [he1, if_neg (fun h => h h9)]
    have EX := Aside0.mk ex_
    have g1 : (c10.e != 0) = false := by rw [h9]; rfl
    have g2 : (c10.e == 0) = true := by rw [h9]; rfl
    clear h9 ex_ he1
    obtain ⟨cx, h_, hz_, hm_⟩ := QS.St.held2 HP.out
    have H := Aside0.mk h_
    have HZ := Aside0.mk hz_
    have HM := Aside0.mk hm_
    have HB := Aside0.mk HP.out.b
    clear h_ hz_ hm_ HP
    go_wp2_with (first | ((with_reducible refine gate_dst (N := 220) rfl ?_); refine ev_load (x := .tmp 9) rfl rfl rfl H.out (i := 1) rfl (HZ.out) ?_) | ((with_reducible refine gate_op (u := .store 30 (.tmp 6) (.tmp 220)) rfl ?_); refine ev_store rfl rfl rfl rfl H.out (i := 0) rfl rfl (HM.out _ ⟨rfl, rfl, rfl, Kept.refl _ _⟩) ?_; intro x91 h3_ h4_; have HE := Aside0.mk (HM.out _ h4_); clear h4_; have n0_ := Aside0.mk (h3_); clear H; have H := n0_; clear n0_; clear h3_))
    refine bodyPost_ret (results_ct rfl _ _ gr 30 _ (0, 0) _ rfl (H.out.at 0 rfl) Try.underlying30 rfl (msg_info (HZ.out))) rfl (by rw [EX.out]; exact ⟨_, rfl, HE.out, H.out.b⟩)
  · have ex_ : parse 0 4 l = (zeroM, c10.e) := by rw [he1, if_pos h9]
    have EX := Aside0.mk ex_
    have g1 : (c10.e != 0) = true := by simpa using h9
    have g2 : (c10.e == 0) = false := by simpa using h9
    clear h9 ex_ he1
    have H := Aside0.mk (QS.St.held HP.out)
    clear HP
    go_upto_region 45 with (fail)
    clear ke
    refine start_ (n := 7) (S := fun w' => w'.cell? ⟨g, 3, none⟩ = some (.int .i64 c10.e) ∧ Aside0 (Held w0 [(gr, zeroC)] w')) (ds := []) (bm 7 0) (by as_aux_lemma => kernel_rfl) rfl (by as_aux_lemma => kernel_rfl) ⟨((RCur.cells4 (blk_drew HBK.out)).1.2.2.2), (Aside0.mk H.out.drew)⟩ (fun hHeld => ?_)
    refine with_tabW rparse9.tab45 rparse9.bits45 (fun HT_ HW_ => ?_)
    refine pu_ 0 (some 215) (bm 7 1) HT_ (by as_aux_lemma => kernel_rfl) rfl rfl (fun _ _ _ h => h) (by rfl) (by intro w'; go_simp; with_reducible rfl) (by go_simp; rfl) ?_
    refine pu_ 1 (some 216) (bm 7 3) HT_ (by as_aux_lemma => kernel_rfl) rfl rfl (fun _ _ _ h => h) (by rfl) (by intro w'; go_simp; with_reducible rfl) (by go_simp; rfl) ?_
    refine pu_ 2 (some 217) (bm 7 7) HT_ (by as_aux_lemma => kernel_rfl) rfl rfl (fun _ _ _ h => h) (by rfl) (by intro w'; go_simp; with_reducible rfl) (by go_simp; rfl) ?_
    refine pu_ 3 (some 218) (bm 7 15) HT_ (by as_aux_lemma => kernel_rfl) rfl rfl (fun _ _ _ h => h) (by rfl) (by intro w'; go_simp; with_reducible rfl) (by go_simp; rfl) ?_
    refine tk_ 4 (some 219) (bm 7 31) HT_ HW_ hHeld (by as_aux_lemma => kernel_rfl) rfl rfl (fun _ _ _ h => h) (by rfl) (by rintro w' ⟨s0, s1⟩; go_simp; with_reducible rfl) (by go_simp; rfl) ?_
    refine one_ (i := 5) (N := none) (bm 7 63) rfl rfl (one_of HT_.out (by as_aux_lemma => kernel_rfl)) (by as_aux_lemma => decide) (fun K hK => ?_)
    have Hd_ := Aside0.mk H.out.drew
    clear H
    have H := Hd_
    clear Hd_
    refine store_ (x := .tmp 6) (y := .tmp 215) (by rfl) rfl rfl rfl rfl H.out (i := 0) rfl (rfl) (zero_is w0) ?_
    intro x97 h3_ h4_
    have ke3 := (RCur.cells4 (blk_kept (blk_drew HBK.out) h4_.kept (fun e => HNE.out e.symm))).1.2.2.2
    have n0_ := Aside0.mk (h3_); clear H; have H := n0_; clear n0_; clear h3_ h4_
    refine hK.out _ _ ⟨ke3, H⟩ (fun hHeld => ?_)
    clear hK K
    refine pu_ 6 (some 7) (bm 7 127) HT_ (by as_aux_lemma => kernel_rfl) rfl rfl (fun _ _ _ h => h) (by rfl) (by intro w'; go_simp; with_reducible rfl) (by go_simp; rfl) ?_
    refine done_ (done_of HT_.out (by as_aux_lemma => kernel_rfl)) ?_
    go_wp2
    refine bodyPost_ret (results_ct rfl _ _ gr 30 _ (0, 0) _ rfl (H.out.at 0 rfl) Try.underlying30 rfl (msg_info (rfl))) rfl (by rw [EX.out]; exact ⟨_, rfl, zero_is _, H.out.b⟩)
theorem parse_0_6 {A : Option Addr} {c : Nat} {l : List Int} {w0 : World} (hr : Kd.C (Kd.int .u8) w0 A l.length l) (hc : l.length ≤ c) (hs : l.length ≤ 1000000) (hb : isBytes l) :
    Calls Try.prog 13 #[.int .i64 0, .int .u8 6, .slice A l.length c] w0 fun en w' => ∃ cx, en = .returned (.tuple #[.agg cx, .int .i64 (parse 0 6 l).2]) ∧ IsMsg w' cx (parse 0 6 l).1 ∧ Below w0.heap.size w0 w' := by
  have HR := Aside0.mk hr
  have HC := Aside0.mk hc
  have HS := Aside0.mk hs
  have HBB := Aside0.mk hb
  clear hr hc hs hb
  go_enter Try.func13, Try.ntmps13
  go_upto_region 3 with (first | ((with_reducible refine gate_dst (N := 6) rfl ?_); refine ev_alloc rfl rfl ?_; intro gr w1 hg_ h1_ h2_; have HG_ := Aside0.mk hg_; have H1 := Aside0.mk h1_; have H2 := Aside0.mk h2_; clear hg_ h1_ h2_))
  go_upto_region 4 with (first | ((with_reducible refine gate_dst (N := 25) rfl ?_); refine QS.ev_cur rfl rfl rfl ?_; intro g w2 q1_ q2_; have HP := Aside0.mk (QS.Nw.first HR.out HC.out HS.out HBB.out HG_.out H1.out H2.out q1_ q2_); clear q1_ q2_ H1 H2 HG_))
  obtain ⟨c0, e_⟩ : ∃ z, z = (⟨l, false, 0⟩ : Cu) := ⟨_, rfl⟩
  rw [← e_] at HP
  have Ec0 := Aside0.mk e_
  clear e_
  go_upto_region 6 with (first | ((with_reducible refine gate_dst (N := 27) rfl ?_); refine ev_build ((zeroC.setIfInBounds 0 (.int .u8 (6)))) rfl (by go_simp; first | rfl | done) ?_; intro cx hcx_; have M := Aside0.mk (show ∀ W, IsMsg W cx _ from fun W => by rw [hcx_]; exact (fun W => set_code (zero_is W) (v := 6) (by decide)) W); have NL := Aside0.mk (show NilL cx by rw [hcx_]; exact (QS.zero_nil.set (by decide))); clear hcx_) | ((with_reducible refine gate_dst (N := 9) rfl ?_); refine ev_var (y := .tmp 27) rfl rfl rfl rfl rfl (M.out w0) rfl rfl ?_; intro gm w4 hg_ h1_ hb_; have hp_ := QS.Nw.new HP.out hg_ h1_ hb_ M.out NL.out; clear h1_ hb_ hg_; have n0_ := Aside0.mk hp_; clear HP hp_; have HP := n0_; clear n0_))
  clear HR HC HS HBB M NL
  obtain ⟨m0, hm0⟩ : ∃ z, z = ({ zeroM with code := 6 } : Msg) := ⟨_, rfl⟩
  replace HP : Aside0 (QS.St w0 gr g gm w4 c0 { zeroM with code := 6 }) := HP
  rw [← hm0] at HP
  have HM0 := Aside0.mk hm0
  clear hm0
  have HMC := Aside0.mk (show m0.code = 6 by rw [HM0.out])
  go_upto_region 14 with (fail)
  go_upto_region 15 with (first | (go_at_call 27; obtain ⟨l0, h0⟩ := Cu.wordV_bd (QS.St.good HP.out); (with_reducible refine (QS.St.word HP.out).mono ?_); rintro en x1 ⟨rfl, hp_⟩; obtain ⟨c1, ec_⟩ : ∃ z, z = c0.wordS := ⟨_, rfl⟩; rw [← ec_] at hp_; have Ec1 := Aside0.mk ec_; clear ec_; obtain ⟨kaddr, faddr⟩ := QS.St.at_addr hp_; have n0_ := Aside0.mk hp_; clear HP hp_; have HP := n0_; clear n0_))
  have hp_ := HP.out.put_addr ⟨l0, h0⟩
  have n0_ := Aside0.mk hp_
  clear HP hp_
  have HP := n0_
  clear n0_
  clear kaddr faddr
  go_upto_region 43 with (first | (go_at_call 27; obtain ⟨l1, h1⟩ := Cu.wordV_bd (QS.St.good HP.out); (with_reducible refine (QS.St.word HP.out).mono ?_); rintro en x2 ⟨rfl, hp_⟩; obtain ⟨c2, ec_⟩ : ∃ z, z = c1.wordS := ⟨_, rfl⟩; rw [← ec_] at hp_; have Ec2 := Aside0.mk ec_; clear ec_; obtain ⟨kvalue, fvalue⟩ := QS.St.at_value hp_; have n0_ := Aside0.mk hp_; clear HP hp_; have HP := n0_; clear n0_))
  have hp_ := HP.out.put_value ⟨l1, h1⟩
  have n0_ := Aside0.mk hp_
  clear HP hp_
  have HP := n0_
  clear n0_
  clear kvalue fvalue
  have eq_ : bodyR 0 m0 c0 = (c2, { m0 with addr := c0.wordV, value := c1.wordV }) := by
    unfold bodyR
    rw [if_neg (by have := HMC.out; omega)]
    rw [if_pos (by have := HMC.out; omega)]
    rw [Ec2.out, Ec1.out]
    rfl
  obtain ⟨cb, e_⟩ : ∃ z, z = bodyR 0 m0 c0 := ⟨_, rfl⟩
  have EBD := Aside0.mk e_
  rw [eq_] at e_
  obtain ⟨c9, m9⟩ := cb
  obtain ⟨e1_, e2_⟩ := Prod.mk.inj e_
  rw [← e1_, ← e2_] at HP
  clear e_ e1_ e2_ eq_
  go_upto_region 44 with (first | (go_at_call 29; (with_reducible refine (QS.St.fin HP.out).mono ?_); rintro en x61 ⟨rfl, hp_⟩; obtain ⟨c10, ec_⟩ : ∃ z, z = c9.fin := ⟨_, rfl⟩; rw [← ec_] at hp_; have Ec10 := Aside0.mk ec_; clear ec_; have n0_ := Aside0.mk hp_; clear HP hp_; have HP := n0_; clear n0_))
  have he1 : parse 0 6 l = if c10.e ≠ 0 then (zeroM, c10.e) else (m9, 0) := by
    have e2 : bodyR 0 m0 (cu l) = (c9, m9) := by rw [EBD.out, Ec0.out]; rfl
    unfold parse
    rw [if_neg (by decide), if_neg (by decide), ← HM0.out, e2, Ec10.out]
  obtain ⟨v0, v1, v2, hbk⟩ := QS.St.blk HP.out
  have ke := (RCur.cells4 hbk).1.2.2.2
  have HBK := Aside0.mk hbk
  have HNE := Aside0.mk HP.out.h2.2.1
  clear hbk
  by_cases h9 : c10.e = 0
  · have ex_ : parse 0 6 l = (m9, 0) := by rw [he1, if_neg (fun h => h h9)]
    have EX := Aside0.mk ex_
    have g1 : (c10.e != 0) = false := by rw [h9]; rfl
    have g2 : (c10.e == 0) = true := by rw [h9]; rfl
    clear h9 ex_ he1
    obtain ⟨cx, h_, hz_, hm_⟩ := QS.St.held2 HP.out
    have H := Aside0.mk h_
    have HZ := Aside0.mk hz_
    have HM := Aside0.mk hm_
    have HB := Aside0.mk HP.out.b
    clear h_ hz_ hm_ HP
    go_wp2_with (first | ((with_reducible refine gate_dst (N := 220) rfl ?_); refine ev_load (x := .tmp 9) rfl rfl rfl H.out (i := 1) rfl (HZ.out) ?_) | ((with_reducible refine gate_op (u := .store 30 (.tmp 6) (.tmp 220)) rfl ?_); refine ev_store rfl rfl rfl rfl H.out (i := 0) rfl rfl (HM.out _ ⟨rfl, rfl, rfl, Kept.refl _ _⟩) ?_; intro x91 h3_ h4_; have HE := Aside0.mk (HM.out _ h4_); clear h4_; have n0_ := Aside0.mk (h3_); clear H; have H := n0_; clear n0_; clear h3_))
    refine bodyPost_ret (results_ct rfl _ _ gr 30 _ (0, 0) _ rfl (H.out.at 0 rfl) Try.underlying30 rfl (msg_info (HZ.out))) rfl (by rw [EX.out]; exact ⟨_, rfl, HE.out, H.out.b⟩)
  · have ex_ : parse 0 6 l = (zeroM, c10.e) := by rw [he1, if_pos h9]
    have EX := Aside0.mk ex_
    have g1 : (c10.e != 0) = true := by simpa using h9
    have g2 : (c10.e == 0) = false := by simpa using h9
    clear h9 ex_ he1
    have H := Aside0.mk (QS.St.held HP.out)
    clear HP
    go_upto_region 45 with (fail)
    clear ke
    refine start_ (n := 7) (S := fun w' => w'.cell? ⟨g, 3, none⟩ = some (.int .i64 c10.e) ∧ Aside0 (Held w0 [(gr, zeroC)] w')) (ds := []) (bm 7 0) (by as_aux_lemma => kernel_rfl) rfl (by as_aux_lemma => kernel_rfl) ⟨((RCur.cells4 (blk_drew HBK.out)).1.2.2.2), (Aside0.mk H.out.drew)⟩ (fun hHeld => ?_)
    refine with_tabW rparse9.tab45 rparse9.bits45 (fun HT_ HW_ => ?_)
    refine pu_ 0 (some 215) (bm 7 1) HT_ (by as_aux_lemma => kernel_rfl) rfl rfl (fun _ _ _ h => h) (by rfl) (by intro w'; go_simp; with_reducible rfl) (by go_simp; rfl) ?_
    refine pu_ 1 (some 216) (bm 7 3) HT_ (by as_aux_lemma => kernel_rfl) rfl rfl (fun _ _ _ h => h) (by rfl) (by intro w'; go_simp; with_reducible rfl) (by go_simp; rfl) ?_
    refine pu_ 2 (some 217) (bm 7 7) HT_ (by as_aux_lemma => kernel_rfl) rfl rfl (fun _ _ _ h => h) (by rfl) (by intro w'; go_simp; with_reducible rfl) (by go_simp; rfl) ?_
    refine pu_ 3 (some 218) (bm 7 15) HT_ (by as_aux_lemma => kernel_rfl) rfl rfl (fun _ _ _ h => h) (by rfl) (by intro w'; go_simp; with_reducible rfl) (by go_simp; rfl) ?_
    refine tk_ 4 (some 219) (bm 7 31) HT_ HW_ hHeld (by as_aux_lemma => kernel_rfl) rfl rfl (fun _ _ _ h => h) (by rfl) (by rintro w' ⟨s0, s1⟩; go_simp; with_reducible rfl) (by go_simp; rfl) ?_
    refine one_ (i := 5) (N := none) (bm 7 63) rfl rfl (one_of HT_.out (by as_aux_lemma => kernel_rfl)) (by as_aux_lemma => decide) (fun K hK => ?_)
    have Hd_ := Aside0.mk H.out.drew
    clear H
    have H := Hd_
    clear Hd_
    refine store_ (x := .tmp 6) (y := .tmp 215) (by rfl) rfl rfl rfl rfl H.out (i := 0) rfl (rfl) (zero_is w0) ?_
    intro x97 h3_ h4_
    have ke3 := (RCur.cells4 (blk_kept (blk_drew HBK.out) h4_.kept (fun e => HNE.out e.symm))).1.2.2.2
    have n0_ := Aside0.mk (h3_); clear H; have H := n0_; clear n0_; clear h3_ h4_
    refine hK.out _ _ ⟨ke3, H⟩ (fun hHeld => ?_)
    clear hK K
    refine pu_ 6 (some 7) (bm 7 127) HT_ (by as_aux_lemma => kernel_rfl) rfl rfl (fun _ _ _ h => h) (by rfl) (by intro w'; go_simp; with_reducible rfl) (by go_simp; rfl) ?_
    refine done_ (done_of HT_.out (by as_aux_lemma => kernel_rfl)) ?_
    go_wp2
    refine bodyPost_ret (results_ct rfl _ _ gr 30 _ (0, 0) _ rfl (H.out.at 0 rfl) Try.underlying30 rfl (msg_info (rfl))) rfl (by rw [EX.out]; exact ⟨_, rfl, zero_is _, H.out.b⟩)
theorem parse_0_16 {A : Option Addr} {c : Nat} {l : List Int} {w0 : World} (hr : Kd.C (Kd.int .u8) w0 A l.length l) (hc : l.length ≤ c) (hs : l.length ≤ 1000000) (hb : isBytes l) :
    Calls Try.prog 13 #[.int .i64 0, .int .u8 16, .slice A l.length c] w0 fun en w' => ∃ cx, en = .returned (.tuple #[.agg cx, .int .i64 (parse 0 16 l).2]) ∧ IsMsg w' cx (parse 0 16 l).1 ∧ Below w0.heap.size w0 w' := by
  have HR := Aside0.mk hr
  have HC := Aside0.mk hc
  have HS := Aside0.mk hs
  have HBB := Aside0.mk hb
  clear hr hc hs hb
  go_enter Try.func13, Try.ntmps13
  go_upto_region 3 with (first | ((with_reducible refine gate_dst (N := 6) rfl ?_); refine ev_alloc rfl rfl ?_; intro gr w1 hg_ h1_ h2_; have HG_ := Aside0.mk hg_; have H1 := Aside0.mk h1_; have H2 := Aside0.mk h2_; clear hg_ h1_ h2_))
  go_upto_region 4 with (first | ((with_reducible refine gate_dst (N := 25) rfl ?_); refine QS.ev_cur rfl rfl rfl ?_; intro g w2 q1_ q2_; have HP := Aside0.mk (QS.Nw.first HR.out HC.out HS.out HBB.out HG_.out H1.out H2.out q1_ q2_); clear q1_ q2_ H1 H2 HG_))
  obtain ⟨c0, e_⟩ : ∃ z, z = (⟨l, false, 0⟩ : Cu) := ⟨_, rfl⟩
  rw [← e_] at HP
  have Ec0 := Aside0.mk e_
  clear e_
  go_upto_region 6 with (first | ((with_reducible refine gate_dst (N := 27) rfl ?_); refine ev_build ((zeroC.setIfInBounds 0 (.int .u8 (16)))) rfl (by go_simp; first | rfl | done) ?_; intro cx hcx_; have M := Aside0.mk (show ∀ W, IsMsg W cx _ from fun W => by rw [hcx_]; exact (fun W => set_code (zero_is W) (v := 16) (by decide)) W); have NL := Aside0.mk (show NilL cx by rw [hcx_]; exact (QS.zero_nil.set (by decide))); clear hcx_) | ((with_reducible refine gate_dst (N := 9) rfl ?_); refine ev_var (y := .tmp 27) rfl rfl rfl rfl rfl (M.out w0) rfl rfl ?_; intro gm w4 hg_ h1_ hb_; have hp_ := QS.Nw.new HP.out hg_ h1_ hb_ M.out NL.out; clear h1_ hb_ hg_; have n0_ := Aside0.mk hp_; clear HP hp_; have HP := n0_; clear n0_))
  clear HR HC HS HBB M NL
  obtain ⟨m0, hm0⟩ : ∃ z, z = ({ zeroM with code := 16 } : Msg) := ⟨_, rfl⟩
  replace HP : Aside0 (QS.St w0 gr g gm w4 c0 { zeroM with code := 16 }) := HP
  rw [← hm0] at HP
  have HM0 := Aside0.mk hm0
  clear hm0
  have HMC := Aside0.mk (show m0.code = 16 by rw [HM0.out])
  go_upto_region 17 with (fail)
  go_upto_region 18 with (first | (go_at_call 27; obtain ⟨l0, h0⟩ := Cu.wordV_bd (QS.St.good HP.out); (with_reducible refine (QS.St.word HP.out).mono ?_); rintro en x1 ⟨rfl, hp_⟩; obtain ⟨c1, ec_⟩ : ∃ z, z = c0.wordS := ⟨_, rfl⟩; rw [← ec_] at hp_; have Ec1 := Aside0.mk ec_; clear ec_; obtain ⟨kaddr, faddr⟩ := QS.St.at_addr hp_; have n0_ := Aside0.mk hp_; clear HP hp_; have HP := n0_; clear n0_))
  have hp_ := HP.out.put_addr ⟨l0, h0⟩
  have n0_ := Aside0.mk hp_
  clear HP hp_
  have HP := n0_
  clear n0_
  clear kaddr faddr
  obtain ⟨kaddr, faddr⟩ := QS.St.at_addr HP.out
  obtain ⟨ln1, hn1⟩ := spanR_bd (QS.St.good HP.out) 123 c0.wordV
  have wu1 : IntKind.u16.wrap (spanR 123 c0.wordV c1).2 = (spanR 123 c0.wordV c1).2 := by rw [IntKind.wrap_u16]; omega
  go_upto_region 19 with (first | (go_at_call 28; (with_reducible refine (span_any HP.out ⟨l0, h0⟩ 123).mono ?_); rintro en x2 ⟨rfl, hp_⟩; obtain ⟨c2, ec_⟩ : ∃ z, z = (spanR 123 c0.wordV c1).1 := ⟨_, rfl⟩; rw [← ec_] at hp_; have Ec2 := Aside0.mk ec_; clear ec_; obtain ⟨kcount, fcount⟩ := QS.St.at_count hp_; have n0_ := Aside0.mk hp_; clear HP hp_; have HP := n0_; clear n0_))
  have hp_ := HP.out.put_count ⟨ln1, hn1⟩
  have n0_ := Aside0.mk hp_
  clear HP hp_
  have HP := n0_
  clear n0_
  clear kaddr faddr kcount fcount
  go_upto_region 21 with (first | (go_at_call 24; obtain ⟨l2, h2⟩ := Cu.byteV_bd (QS.St.good HP.out); (with_reducible refine (QS.St.byte HP.out).mono ?_); rintro en x3 ⟨rfl, hp_⟩; obtain ⟨c3, ec_⟩ : ∃ z, z = c2.byteS := ⟨_, rfl⟩; rw [← ec_] at hp_; have Ec3 := Aside0.mk ec_; clear ec_; have n0_ := Aside0.mk hp_; clear HP hp_; have HP := n0_; clear n0_))
  have wk := wrap64_id (x := c2.byteV) (by omega) (by omega)
  have wkb : IntKind.i64.wrap (c2.byteV) = c2.byteV := by rw [i64_w]; exact wk
  have wk3 := wrap64_id (x := (spanR 123 c0.wordV c1).2) (by omega) (by omega)
  have wk3b : IntKind.i64.wrap ((spanR 123 c0.wordV c1).2) = (spanR 123 c0.wordV c1).2 := by rw [i64_w]; exact wk3
  have wk4 := wrap64_id (x := 2 * (spanR 123 c0.wordV c1).2) (by omega) (by omega)
  obtain ⟨kcount, fcount⟩ := QS.St.at_count HP.out
  go_upto_region 22 with (first | (go_at_call 25; (with_reducible refine (QS.St.need HP.out (c2.byteV == 2 * (spanR 123 c0.wordV c1).2) 5).mono ?_); rintro en x4 ⟨rfl, hp_⟩; obtain ⟨c4, ec_⟩ : ∃ z, z = c3.need (c2.byteV == 2 * (spanR 123 c0.wordV c1).2) 5 := ⟨_, rfl⟩; rw [← ec_] at hp_; have Ec4 := Aside0.mk ec_; clear ec_; have n0_ := Aside0.mk hp_; clear HP hp_; have HP := n0_; clear n0_))
  clear kcount fcount
  obtain ⟨kcount, fcount⟩ := QS.St.at_count HP.out
  have HBY := Aside0.mk (Cu.wordsV_bd (QS.St.good HP.out) ((spanR 123 c0.wordV c1).2))
  go_upto_region 43 with (first | (go_at_call 26; (with_reducible refine (QS.St.words HP.out ((spanR 123 c0.wordV c1).2)).mono ?_); rintro en x5 ⟨A5, n5, rfl, hz_, hr_, hp_⟩; obtain ⟨c5, ec_⟩ : ∃ z, z = c4.wordsS ((spanR 123 c0.wordV c1).2) := ⟨_, rfl⟩; rw [← ec_] at hp_; have Ec5 := Aside0.mk ec_; clear ec_; have R5 := Aside0.mk hr_; have R5z := Aside0.mk hz_; clear hr_ hz_; have n0_ := Aside0.mk hp_; clear HP hp_; have HP := n0_; clear n0_; obtain ⟨Aw, nw, kw, fw⟩ := QS.St.at_words HP.out))
  have hp_ := HP.out.put_words R5z.out HBY.out R5.out
  have n0_ := Aside0.mk hp_
  clear HP hp_
  have HP := n0_
  clear n0_
  have eq_ : bodyR 0 m0 c0 = (c5, { m0 with addr := c0.wordV, count := (spanR 123 c0.wordV c1).2, words := c4.wordsV ((spanR 123 c0.wordV c1).2) }) := by
    unfold bodyR
    rw [if_neg (by have := HMC.out; omega)]
    rw [if_neg (by have := HMC.out; omega)]
    rw [if_pos (by have := HMC.out; omega)]
    rw [if_pos (by decide)]
    rw [Ec5.out, Ec4.out, Ec3.out, Ec2.out, Ec1.out]
    rfl
  obtain ⟨cb, e_⟩ : ∃ z, z = bodyR 0 m0 c0 := ⟨_, rfl⟩
  have EBD := Aside0.mk e_
  rw [eq_] at e_
  obtain ⟨c9, m9⟩ := cb
  obtain ⟨e1_, e2_⟩ := Prod.mk.inj e_
  rw [← e1_, ← e2_] at HP
  clear e_ e1_ e2_ eq_
  go_upto_region 44 with (first | (go_at_call 29; (with_reducible refine (QS.St.fin HP.out).mono ?_); rintro en x61 ⟨rfl, hp_⟩; obtain ⟨c10, ec_⟩ : ∃ z, z = c9.fin := ⟨_, rfl⟩; rw [← ec_] at hp_; have Ec10 := Aside0.mk ec_; clear ec_; have n0_ := Aside0.mk hp_; clear HP hp_; have HP := n0_; clear n0_))
  have he1 : parse 0 16 l = if c10.e ≠ 0 then (zeroM, c10.e) else (m9, 0) := by
    have e2 : bodyR 0 m0 (cu l) = (c9, m9) := by rw [EBD.out, Ec0.out]; rfl
    unfold parse
    rw [if_neg (by decide), if_neg (by decide), ← HM0.out, e2, Ec10.out]
  obtain ⟨v0, v1, v2, hbk⟩ := QS.St.blk HP.out
  have ke := (RCur.cells4 hbk).1.2.2.2
  have HBK := Aside0.mk hbk
  have HNE := Aside0.mk HP.out.h2.2.1
  clear hbk
  by_cases h9 : c10.e = 0
  · have ex_ : parse 0 16 l = (m9, 0) := by rw [he1, if_neg (fun h => h h9)]
    have EX := Aside0.mk ex_
    have g1 : (c10.e != 0) = false := by rw [h9]; rfl
    have g2 : (c10.e == 0) = true := by rw [h9]; rfl
    clear h9 ex_ he1
    obtain ⟨cx, h_, hz_, hm_⟩ := QS.St.held2 HP.out
    have H := Aside0.mk h_
    have HZ := Aside0.mk hz_
    have HM := Aside0.mk hm_
    have HB := Aside0.mk HP.out.b
    clear h_ hz_ hm_ HP
    go_wp2_with (first | ((with_reducible refine gate_dst (N := 220) rfl ?_); refine ev_load (x := .tmp 9) rfl rfl rfl H.out (i := 1) rfl (HZ.out) ?_) | ((with_reducible refine gate_op (u := .store 30 (.tmp 6) (.tmp 220)) rfl ?_); refine ev_store rfl rfl rfl rfl H.out (i := 0) rfl rfl (HM.out _ ⟨rfl, rfl, rfl, Kept.refl _ _⟩) ?_; intro x91 h3_ h4_; have HE := Aside0.mk (HM.out _ h4_); clear h4_; have n0_ := Aside0.mk (h3_); clear H; have H := n0_; clear n0_; clear h3_))
    refine bodyPost_ret (results_ct rfl _ _ gr 30 _ (0, 0) _ rfl (H.out.at 0 rfl) Try.underlying30 rfl (msg_info (HZ.out))) rfl (by rw [EX.out]; exact ⟨_, rfl, HE.out, H.out.b⟩)
  · have ex_ : parse 0 16 l = (zeroM, c10.e) := by rw [he1, if_pos h9]
    have EX := Aside0.mk ex_
    have g1 : (c10.e != 0) = true := by simpa using h9
    have g2 : (c10.e == 0) = false := by simpa using h9
    clear h9 ex_ he1
    have H := Aside0.mk (QS.St.held HP.out)
    clear HP
    go_upto_region 45 with (fail)
    clear ke
    refine start_ (n := 7) (S := fun w' => w'.cell? ⟨g, 3, none⟩ = some (.int .i64 c10.e) ∧ Aside0 (Held w0 [(gr, zeroC)] w')) (ds := []) (bm 7 0) (by as_aux_lemma => kernel_rfl) rfl (by as_aux_lemma => kernel_rfl) ⟨((RCur.cells4 (blk_drew HBK.out)).1.2.2.2), (Aside0.mk H.out.drew)⟩ (fun hHeld => ?_)
    refine with_tabW rparse9.tab45 rparse9.bits45 (fun HT_ HW_ => ?_)
    refine pu_ 0 (some 215) (bm 7 1) HT_ (by as_aux_lemma => kernel_rfl) rfl rfl (fun _ _ _ h => h) (by rfl) (by intro w'; go_simp; with_reducible rfl) (by go_simp; rfl) ?_
    refine pu_ 1 (some 216) (bm 7 3) HT_ (by as_aux_lemma => kernel_rfl) rfl rfl (fun _ _ _ h => h) (by rfl) (by intro w'; go_simp; with_reducible rfl) (by go_simp; rfl) ?_
    refine pu_ 2 (some 217) (bm 7 7) HT_ (by as_aux_lemma => kernel_rfl) rfl rfl (fun _ _ _ h => h) (by rfl) (by intro w'; go_simp; with_reducible rfl) (by go_simp; rfl) ?_
    refine pu_ 3 (some 218) (bm 7 15) HT_ (by as_aux_lemma => kernel_rfl) rfl rfl (fun _ _ _ h => h) (by rfl) (by intro w'; go_simp; with_reducible rfl) (by go_simp; rfl) ?_
    refine tk_ 4 (some 219) (bm 7 31) HT_ HW_ hHeld (by as_aux_lemma => kernel_rfl) rfl rfl (fun _ _ _ h => h) (by rfl) (by rintro w' ⟨s0, s1⟩; go_simp; with_reducible rfl) (by go_simp; rfl) ?_
    refine one_ (i := 5) (N := none) (bm 7 63) rfl rfl (one_of HT_.out (by as_aux_lemma => kernel_rfl)) (by as_aux_lemma => decide) (fun K hK => ?_)
    have Hd_ := Aside0.mk H.out.drew
    clear H
    have H := Hd_
    clear Hd_
    refine store_ (x := .tmp 6) (y := .tmp 215) (by rfl) rfl rfl rfl rfl H.out (i := 0) rfl (rfl) (zero_is w0) ?_
    intro x97 h3_ h4_
    have ke3 := (RCur.cells4 (blk_kept (blk_drew HBK.out) h4_.kept (fun e => HNE.out e.symm))).1.2.2.2
    have n0_ := Aside0.mk (h3_); clear H; have H := n0_; clear n0_; clear h3_ h4_
    refine hK.out _ _ ⟨ke3, H⟩ (fun hHeld => ?_)
    clear hK K
    refine pu_ 6 (some 7) (bm 7 127) HT_ (by as_aux_lemma => kernel_rfl) rfl rfl (fun _ _ _ h => h) (by rfl) (by intro w'; go_simp; with_reducible rfl) (by go_simp; rfl) ?_
    refine done_ (done_of HT_.out (by as_aux_lemma => kernel_rfl)) ?_
    go_wp2
    refine bodyPost_ret (results_ct rfl _ _ gr 30 _ (0, 0) _ rfl (H.out.at 0 rfl) Try.underlying30 rfl (msg_info (rfl))) rfl (by rw [EX.out]; exact ⟨_, rfl, zero_is _, H.out.b⟩)
theorem parse_0_22 {A : Option Addr} {c : Nat} {l : List Int} {w0 : World} (hr : Kd.C (Kd.int .u8) w0 A l.length l) (hc : l.length ≤ c) (hs : l.length ≤ 1000000) (hb : isBytes l) :
    Calls Try.prog 13 #[.int .i64 0, .int .u8 22, .slice A l.length c] w0 fun en w' => ∃ cx, en = .returned (.tuple #[.agg cx, .int .i64 (parse 0 22 l).2]) ∧ IsMsg w' cx (parse 0 22 l).1 ∧ Below w0.heap.size w0 w' := by
  have HR := Aside0.mk hr
  have HC := Aside0.mk hc
  have HS := Aside0.mk hs
  have HBB := Aside0.mk hb
  clear hr hc hs hb
  go_enter Try.func13, Try.ntmps13
  go_upto_region 3 with (first | ((with_reducible refine gate_dst (N := 6) rfl ?_); refine ev_alloc rfl rfl ?_; intro gr w1 hg_ h1_ h2_; have HG_ := Aside0.mk hg_; have H1 := Aside0.mk h1_; have H2 := Aside0.mk h2_; clear hg_ h1_ h2_))
  go_upto_region 4 with (first | ((with_reducible refine gate_dst (N := 25) rfl ?_); refine QS.ev_cur rfl rfl rfl ?_; intro g w2 q1_ q2_; have HP := Aside0.mk (QS.Nw.first HR.out HC.out HS.out HBB.out HG_.out H1.out H2.out q1_ q2_); clear q1_ q2_ H1 H2 HG_))
  obtain ⟨c0, e_⟩ : ∃ z, z = (⟨l, false, 0⟩ : Cu) := ⟨_, rfl⟩
  rw [← e_] at HP
  have Ec0 := Aside0.mk e_
  clear e_
  go_upto_region 6 with (first | ((with_reducible refine gate_dst (N := 27) rfl ?_); refine ev_build ((zeroC.setIfInBounds 0 (.int .u8 (22)))) rfl (by go_simp; first | rfl | done) ?_; intro cx hcx_; have M := Aside0.mk (show ∀ W, IsMsg W cx _ from fun W => by rw [hcx_]; exact (fun W => set_code (zero_is W) (v := 22) (by decide)) W); have NL := Aside0.mk (show NilL cx by rw [hcx_]; exact (QS.zero_nil.set (by decide))); clear hcx_) | ((with_reducible refine gate_dst (N := 9) rfl ?_); refine ev_var (y := .tmp 27) rfl rfl rfl rfl rfl (M.out w0) rfl rfl ?_; intro gm w4 hg_ h1_ hb_; have hp_ := QS.Nw.new HP.out hg_ h1_ hb_ M.out NL.out; clear h1_ hb_ hg_; have n0_ := Aside0.mk hp_; clear HP hp_; have HP := n0_; clear n0_))
  clear HR HC HS HBB M NL
  obtain ⟨m0, hm0⟩ : ∃ z, z = ({ zeroM with code := 22 } : Msg) := ⟨_, rfl⟩
  replace HP : Aside0 (QS.St w0 gr g gm w4 c0 { zeroM with code := 22 }) := HP
  rw [← hm0] at HP
  have HM0 := Aside0.mk hm0
  clear hm0
  have HMC := Aside0.mk (show m0.code = 22 by rw [HM0.out])
  go_upto_region 24 with (fail)
  go_upto_region 25 with (first | (go_at_call 27; obtain ⟨l0, h0⟩ := Cu.wordV_bd (QS.St.good HP.out); (with_reducible refine (QS.St.word HP.out).mono ?_); rintro en x1 ⟨rfl, hp_⟩; obtain ⟨c1, ec_⟩ : ∃ z, z = c0.wordS := ⟨_, rfl⟩; rw [← ec_] at hp_; have Ec1 := Aside0.mk ec_; clear ec_; obtain ⟨kaddr, faddr⟩ := QS.St.at_addr hp_; have n0_ := Aside0.mk hp_; clear HP hp_; have HP := n0_; clear n0_))
  have hp_ := HP.out.put_addr ⟨l0, h0⟩
  have n0_ := Aside0.mk hp_
  clear HP hp_
  have HP := n0_
  clear n0_
  clear kaddr faddr
  go_upto_region 26 with (first | (go_at_call 27; obtain ⟨l1, h1⟩ := Cu.wordV_bd (QS.St.good HP.out); (with_reducible refine (QS.St.word HP.out).mono ?_); rintro en x2 ⟨rfl, hp_⟩; obtain ⟨c2, ec_⟩ : ∃ z, z = c1.wordS := ⟨_, rfl⟩; rw [← ec_] at hp_; have Ec2 := Aside0.mk ec_; clear ec_; obtain ⟨kand, fand⟩ := QS.St.at_and hp_; have n0_ := Aside0.mk hp_; clear HP hp_; have HP := n0_; clear n0_))
  have hp_ := HP.out.put_and ⟨l1, h1⟩
  have n0_ := Aside0.mk hp_
  clear HP hp_
  have HP := n0_
  clear n0_
  clear kand fand
  go_upto_region 43 with (first | (go_at_call 27; obtain ⟨l2, h2⟩ := Cu.wordV_bd (QS.St.good HP.out); (with_reducible refine (QS.St.word HP.out).mono ?_); rintro en x3 ⟨rfl, hp_⟩; obtain ⟨c3, ec_⟩ : ∃ z, z = c2.wordS := ⟨_, rfl⟩; rw [← ec_] at hp_; have Ec3 := Aside0.mk ec_; clear ec_; obtain ⟨kor, f_or⟩ := QS.St.at_or hp_; have n0_ := Aside0.mk hp_; clear HP hp_; have HP := n0_; clear n0_))
  have hp_ := HP.out.put_or ⟨l2, h2⟩
  have n0_ := Aside0.mk hp_
  clear HP hp_
  have HP := n0_
  clear n0_
  clear kor f_or
  have eq_ : bodyR 0 m0 c0 = (c3, { m0 with addr := c0.wordV, and_ := c1.wordV, or_ := c2.wordV }) := by
    unfold bodyR
    rw [if_neg (by have := HMC.out; omega)]
    rw [if_neg (by have := HMC.out; omega)]
    rw [if_neg (by have := HMC.out; omega)]
    rw [if_pos (by have := HMC.out; omega)]
    rw [Ec3.out, Ec2.out, Ec1.out]
    rfl
  obtain ⟨cb, e_⟩ : ∃ z, z = bodyR 0 m0 c0 := ⟨_, rfl⟩
  have EBD := Aside0.mk e_
  rw [eq_] at e_
  obtain ⟨c9, m9⟩ := cb
  obtain ⟨e1_, e2_⟩ := Prod.mk.inj e_
  rw [← e1_, ← e2_] at HP
  clear e_ e1_ e2_ eq_
  go_upto_region 44 with (first | (go_at_call 29; (with_reducible refine (QS.St.fin HP.out).mono ?_); rintro en x61 ⟨rfl, hp_⟩; obtain ⟨c10, ec_⟩ : ∃ z, z = c9.fin := ⟨_, rfl⟩; rw [← ec_] at hp_; have Ec10 := Aside0.mk ec_; clear ec_; have n0_ := Aside0.mk hp_; clear HP hp_; have HP := n0_; clear n0_))
  have he1 : parse 0 22 l = if c10.e ≠ 0 then (zeroM, c10.e) else (m9, 0) := by
    have e2 : bodyR 0 m0 (cu l) = (c9, m9) := by rw [EBD.out, Ec0.out]; rfl
    unfold parse
    rw [if_neg (by decide), if_neg (by decide), ← HM0.out, e2, Ec10.out]
  obtain ⟨v0, v1, v2, hbk⟩ := QS.St.blk HP.out
  have ke := (RCur.cells4 hbk).1.2.2.2
  have HBK := Aside0.mk hbk
  have HNE := Aside0.mk HP.out.h2.2.1
  clear hbk
  by_cases h9 : c10.e = 0
  · have ex_ : parse 0 22 l = (m9, 0) := by rw [he1, if_neg (fun h => h h9)]
    have EX := Aside0.mk ex_
    have g1 : (c10.e != 0) = false := by rw [h9]; rfl
    have g2 : (c10.e == 0) = true := by rw [h9]; rfl
    clear h9 ex_ he1
    obtain ⟨cx, h_, hz_, hm_⟩ := QS.St.held2 HP.out
    have H := Aside0.mk h_
    have HZ := Aside0.mk hz_
    have HM := Aside0.mk hm_
    have HB := Aside0.mk HP.out.b
    clear h_ hz_ hm_ HP
    go_wp2_with (first | ((with_reducible refine gate_dst (N := 220) rfl ?_); refine ev_load (x := .tmp 9) rfl rfl rfl H.out (i := 1) rfl (HZ.out) ?_) | ((with_reducible refine gate_op (u := .store 30 (.tmp 6) (.tmp 220)) rfl ?_); refine ev_store rfl rfl rfl rfl H.out (i := 0) rfl rfl (HM.out _ ⟨rfl, rfl, rfl, Kept.refl _ _⟩) ?_; intro x91 h3_ h4_; have HE := Aside0.mk (HM.out _ h4_); clear h4_; have n0_ := Aside0.mk (h3_); clear H; have H := n0_; clear n0_; clear h3_))
    refine bodyPost_ret (results_ct rfl _ _ gr 30 _ (0, 0) _ rfl (H.out.at 0 rfl) Try.underlying30 rfl (msg_info (HZ.out))) rfl (by rw [EX.out]; exact ⟨_, rfl, HE.out, H.out.b⟩)
  · have ex_ : parse 0 22 l = (zeroM, c10.e) := by rw [he1, if_pos h9]
    have EX := Aside0.mk ex_
    have g1 : (c10.e != 0) = true := by simpa using h9
    have g2 : (c10.e == 0) = false := by simpa using h9
    clear h9 ex_ he1
    have H := Aside0.mk (QS.St.held HP.out)
    clear HP
    go_upto_region 45 with (fail)
    clear ke
    refine start_ (n := 7) (S := fun w' => w'.cell? ⟨g, 3, none⟩ = some (.int .i64 c10.e) ∧ Aside0 (Held w0 [(gr, zeroC)] w')) (ds := []) (bm 7 0) (by as_aux_lemma => kernel_rfl) rfl (by as_aux_lemma => kernel_rfl) ⟨((RCur.cells4 (blk_drew HBK.out)).1.2.2.2), (Aside0.mk H.out.drew)⟩ (fun hHeld => ?_)
    refine with_tabW rparse9.tab45 rparse9.bits45 (fun HT_ HW_ => ?_)
    refine pu_ 0 (some 215) (bm 7 1) HT_ (by as_aux_lemma => kernel_rfl) rfl rfl (fun _ _ _ h => h) (by rfl) (by intro w'; go_simp; with_reducible rfl) (by go_simp; rfl) ?_
    refine pu_ 1 (some 216) (bm 7 3) HT_ (by as_aux_lemma => kernel_rfl) rfl rfl (fun _ _ _ h => h) (by rfl) (by intro w'; go_simp; with_reducible rfl) (by go_simp; rfl) ?_
    refine pu_ 2 (some 217) (bm 7 7) HT_ (by as_aux_lemma => kernel_rfl) rfl rfl (fun _ _ _ h => h) (by rfl) (by intro w'; go_simp; with_reducible rfl) (by go_simp; rfl) ?_
    refine pu_ 3 (some 218) (bm 7 15) HT_ (by as_aux_lemma => kernel_rfl) rfl rfl (fun _ _ _ h => h) (by rfl) (by intro w'; go_simp; with_reducible rfl) (by go_simp; rfl) ?_
    refine tk_ 4 (some 219) (bm 7 31) HT_ HW_ hHeld (by as_aux_lemma => kernel_rfl) rfl rfl (fun _ _ _ h => h) (by rfl) (by rintro w' ⟨s0, s1⟩; go_simp; with_reducible rfl) (by go_simp; rfl) ?_
    refine one_ (i := 5) (N := none) (bm 7 63) rfl rfl (one_of HT_.out (by as_aux_lemma => kernel_rfl)) (by as_aux_lemma => decide) (fun K hK => ?_)
    have Hd_ := Aside0.mk H.out.drew
    clear H
    have H := Hd_
    clear Hd_
    refine store_ (x := .tmp 6) (y := .tmp 215) (by rfl) rfl rfl rfl rfl H.out (i := 0) rfl (rfl) (zero_is w0) ?_
    intro x97 h3_ h4_
    have ke3 := (RCur.cells4 (blk_kept (blk_drew HBK.out) h4_.kept (fun e => HNE.out e.symm))).1.2.2.2
    have n0_ := Aside0.mk (h3_); clear H; have H := n0_; clear n0_; clear h3_ h4_
    refine hK.out _ _ ⟨ke3, H⟩ (fun hHeld => ?_)
    clear hK K
    refine pu_ 6 (some 7) (bm 7 127) HT_ (by as_aux_lemma => kernel_rfl) rfl rfl (fun _ _ _ h => h) (by rfl) (by intro w'; go_simp; with_reducible rfl) (by go_simp; rfl) ?_
    refine done_ (done_of HT_.out (by as_aux_lemma => kernel_rfl)) ?_
    go_wp2
    refine bodyPost_ret (results_ct rfl _ _ gr 30 _ (0, 0) _ rfl (H.out.at 0 rfl) Try.underlying30 rfl (msg_info (rfl))) rfl (by rw [EX.out]; exact ⟨_, rfl, zero_is _, H.out.b⟩)
theorem parse_0_23 {A : Option Addr} {c : Nat} {l : List Int} {w0 : World} (hr : Kd.C (Kd.int .u8) w0 A l.length l) (hc : l.length ≤ c) (hs : l.length ≤ 1000000) (hb : isBytes l) :
    Calls Try.prog 13 #[.int .i64 0, .int .u8 23, .slice A l.length c] w0 fun en w' => ∃ cx, en = .returned (.tuple #[.agg cx, .int .i64 (parse 0 23 l).2]) ∧ IsMsg w' cx (parse 0 23 l).1 ∧ Below w0.heap.size w0 w' := by
  have HR := Aside0.mk hr
  have HC := Aside0.mk hc
  have HS := Aside0.mk hs
  have HBB := Aside0.mk hb
  clear hr hc hs hb
  go_enter Try.func13, Try.ntmps13
  go_upto_region 3 with (first | ((with_reducible refine gate_dst (N := 6) rfl ?_); refine ev_alloc rfl rfl ?_; intro gr w1 hg_ h1_ h2_; have HG_ := Aside0.mk hg_; have H1 := Aside0.mk h1_; have H2 := Aside0.mk h2_; clear hg_ h1_ h2_))
  go_upto_region 4 with (first | ((with_reducible refine gate_dst (N := 25) rfl ?_); refine QS.ev_cur rfl rfl rfl ?_; intro g w2 q1_ q2_; have HP := Aside0.mk (QS.Nw.first HR.out HC.out HS.out HBB.out HG_.out H1.out H2.out q1_ q2_); clear q1_ q2_ H1 H2 HG_))
  obtain ⟨c0, e_⟩ : ∃ z, z = (⟨l, false, 0⟩ : Cu) := ⟨_, rfl⟩
  rw [← e_] at HP
  have Ec0 := Aside0.mk e_
  clear e_
  go_upto_region 6 with (first | ((with_reducible refine gate_dst (N := 27) rfl ?_); refine ev_build ((zeroC.setIfInBounds 0 (.int .u8 (23)))) rfl (by go_simp; first | rfl | done) ?_; intro cx hcx_; have M := Aside0.mk (show ∀ W, IsMsg W cx _ from fun W => by rw [hcx_]; exact (fun W => set_code (zero_is W) (v := 23) (by decide)) W); have NL := Aside0.mk (show NilL cx by rw [hcx_]; exact (QS.zero_nil.set (by decide))); clear hcx_) | ((with_reducible refine gate_dst (N := 9) rfl ?_); refine ev_var (y := .tmp 27) rfl rfl rfl rfl rfl (M.out w0) rfl rfl ?_; intro gm w4 hg_ h1_ hb_; have hp_ := QS.Nw.new HP.out hg_ h1_ hb_ M.out NL.out; clear h1_ hb_ hg_; have n0_ := Aside0.mk hp_; clear HP hp_; have HP := n0_; clear n0_))
  clear HR HC HS HBB M NL
  obtain ⟨m0, hm0⟩ : ∃ z, z = ({ zeroM with code := 23 } : Msg) := ⟨_, rfl⟩
  replace HP : Aside0 (QS.St w0 gr g gm w4 c0 { zeroM with code := 23 }) := HP
  rw [← hm0] at HP
  have HM0 := Aside0.mk hm0
  clear hm0
  have HMC := Aside0.mk (show m0.code = 23 by rw [HM0.out])
  go_upto_region 28 with (fail)
  go_upto_region 29 with (first | (go_at_call 27; obtain ⟨l0, h0⟩ := Cu.wordV_bd (QS.St.good HP.out); (with_reducible refine (QS.St.word HP.out).mono ?_); rintro en x1 ⟨rfl, hp_⟩; obtain ⟨c1, ec_⟩ : ∃ z, z = c0.wordS := ⟨_, rfl⟩; rw [← ec_] at hp_; have Ec1 := Aside0.mk ec_; clear ec_; obtain ⟨kaddr, faddr⟩ := QS.St.at_addr hp_; have n0_ := Aside0.mk hp_; clear HP hp_; have HP := n0_; clear n0_))
  have hp_ := HP.out.put_addr ⟨l0, h0⟩
  have n0_ := Aside0.mk hp_
  clear HP hp_
  have HP := n0_
  clear n0_
  clear kaddr faddr
  obtain ⟨kaddr, faddr⟩ := QS.St.at_addr HP.out
  obtain ⟨ln1, hn1⟩ := spanR_bd (QS.St.good HP.out) 125 c0.wordV
  have wu1 : IntKind.u16.wrap (spanR 125 c0.wordV c1).2 = (spanR 125 c0.wordV c1).2 := by rw [IntKind.wrap_u16]; omega
  go_upto_region 30 with (first | (go_at_call 28; (with_reducible refine (span_any HP.out ⟨l0, h0⟩ 125).mono ?_); rintro en x2 ⟨rfl, hp_⟩; obtain ⟨c2, ec_⟩ : ∃ z, z = (spanR 125 c0.wordV c1).1 := ⟨_, rfl⟩; rw [← ec_] at hp_; have Ec2 := Aside0.mk ec_; clear ec_; obtain ⟨kcount, fcount⟩ := QS.St.at_count hp_; have n0_ := Aside0.mk hp_; clear HP hp_; have HP := n0_; clear n0_))
  have hp_ := HP.out.put_count ⟨ln1, hn1⟩
  have n0_ := Aside0.mk hp_
  clear HP hp_
  have HP := n0_
  clear n0_
  clear kaddr faddr kcount fcount
  go_upto_region 31 with (first | (go_at_call 27; obtain ⟨l2, h2⟩ := Cu.wordV_bd (QS.St.good HP.out); (with_reducible refine (QS.St.word HP.out).mono ?_); rintro en x3 ⟨rfl, hp_⟩; obtain ⟨c3, ec_⟩ : ∃ z, z = c2.wordS := ⟨_, rfl⟩; rw [← ec_] at hp_; have Ec3 := Aside0.mk ec_; clear ec_; obtain ⟨kaddr2, faddr2⟩ := QS.St.at_addr2 hp_; have n0_ := Aside0.mk hp_; clear HP hp_; have HP := n0_; clear n0_))
  have hp_ := HP.out.put_addr2 ⟨l2, h2⟩
  have n0_ := Aside0.mk hp_
  clear HP hp_
  have HP := n0_
  clear n0_
  clear kaddr2 faddr2
  obtain ⟨kaddr2, faddr2⟩ := QS.St.at_addr2 HP.out
  obtain ⟨ls, hs⟩ := spanR_bd (QS.St.good HP.out) 121 c2.wordV
  go_upto_region 32 with (first | (go_at_call 28; (with_reducible refine (span_any HP.out ⟨l2, h2⟩ 121).mono ?_); rintro en x4 ⟨rfl, hp_⟩; obtain ⟨c4, ec_⟩ : ∃ z, z = (spanR 121 c2.wordV c3).1 := ⟨_, rfl⟩; rw [← ec_] at hp_; have Ec4 := Aside0.mk ec_; clear ec_; have n0_ := Aside0.mk hp_; clear HP hp_; have HP := n0_; clear n0_))
  clear kaddr2 faddr2
  go_upto_region 33 with (first | (go_at_call 24; obtain ⟨l4, h4⟩ := Cu.byteV_bd (QS.St.good HP.out); (with_reducible refine (QS.St.byte HP.out).mono ?_); rintro en x5 ⟨rfl, hp_⟩; obtain ⟨c5, ec_⟩ : ∃ z, z = c4.byteS := ⟨_, rfl⟩; rw [← ec_] at hp_; have Ec5 := Aside0.mk ec_; clear ec_; have n0_ := Aside0.mk hp_; clear HP hp_; have HP := n0_; clear n0_))
  have wk := wrap64_id (x := c4.byteV) (by omega) (by omega)
  have wkb : IntKind.i64.wrap (c4.byteV) = c4.byteV := by rw [i64_w]; exact wk
  have wk4 := wrap64_id (x := 2 * (spanR 121 c2.wordV c3).2) (by omega) (by omega)
  go_upto_region 34 with (first | (go_at_call 25; (with_reducible refine (QS.St.need HP.out (c4.byteV == 2 * (spanR 121 c2.wordV c3).2) 5).mono ?_); rintro en x6 ⟨rfl, hp_⟩; obtain ⟨c6, ec_⟩ : ∃ z, z = c5.need (c4.byteV == 2 * (spanR 121 c2.wordV c3).2) 5 := ⟨_, rfl⟩; rw [← ec_] at hp_; have Ec6 := Aside0.mk ec_; clear ec_; have n0_ := Aside0.mk hp_; clear HP hp_; have HP := n0_; clear n0_))
  have HBY := Aside0.mk (Cu.wordsV_bd (QS.St.good HP.out) ((spanR 121 c2.wordV c3).2))
  go_upto_region 43 with (first | (go_at_call 26; (with_reducible refine (QS.St.words HP.out ((spanR 121 c2.wordV c3).2)).mono ?_); rintro en x7 ⟨A5, n5, rfl, hz_, hr_, hp_⟩; obtain ⟨c7, ec_⟩ : ∃ z, z = c6.wordsS ((spanR 121 c2.wordV c3).2) := ⟨_, rfl⟩; rw [← ec_] at hp_; have Ec7 := Aside0.mk ec_; clear ec_; have R5 := Aside0.mk hr_; have R5z := Aside0.mk hz_; clear hr_ hz_; have n0_ := Aside0.mk hp_; clear HP hp_; have HP := n0_; clear n0_; obtain ⟨Aw, nw, kw, fw⟩ := QS.St.at_words HP.out))
  have hp_ := HP.out.put_words R5z.out HBY.out R5.out
  have n0_ := Aside0.mk hp_
  clear HP hp_
  have HP := n0_
  clear n0_
  have eq_ : bodyR 0 m0 c0 = (c7, { m0 with addr := c0.wordV, count := (spanR 125 c0.wordV c1).2, addr2 := c2.wordV, words := c6.wordsV ((spanR 121 c2.wordV c3).2) }) := by
    unfold bodyR
    rw [if_neg (by have := HMC.out; omega)]
    rw [if_neg (by have := HMC.out; omega)]
    rw [if_neg (by have := HMC.out; omega)]
    rw [if_neg (by have := HMC.out; omega)]
    rw [if_pos (by have := HMC.out; omega)]
    rw [if_pos (by decide)]
    rw [Ec7.out, Ec6.out, Ec5.out, Ec4.out, Ec3.out, Ec2.out, Ec1.out]
    rfl
  obtain ⟨cb, e_⟩ : ∃ z, z = bodyR 0 m0 c0 := ⟨_, rfl⟩
  have EBD := Aside0.mk e_
  rw [eq_] at e_
  obtain ⟨c9, m9⟩ := cb
  obtain ⟨e1_, e2_⟩ := Prod.mk.inj e_
  rw [← e1_, ← e2_] at HP
  clear e_ e1_ e2_ eq_
  go_upto_region 44 with (first | (go_at_call 29; (with_reducible refine (QS.St.fin HP.out).mono ?_); rintro en x61 ⟨rfl, hp_⟩; obtain ⟨c10, ec_⟩ : ∃ z, z = c9.fin := ⟨_, rfl⟩; rw [← ec_] at hp_; have Ec10 := Aside0.mk ec_; clear ec_; have n0_ := Aside0.mk hp_; clear HP hp_; have HP := n0_; clear n0_))
  have he1 : parse 0 23 l = if c10.e ≠ 0 then (zeroM, c10.e) else (m9, 0) := by
    have e2 : bodyR 0 m0 (cu l) = (c9, m9) := by rw [EBD.out, Ec0.out]; rfl
    unfold parse
    rw [if_neg (by decide), if_neg (by decide), ← HM0.out, e2, Ec10.out]
  obtain ⟨v0, v1, v2, hbk⟩ := QS.St.blk HP.out
  have ke := (RCur.cells4 hbk).1.2.2.2
  have HBK := Aside0.mk hbk
  have HNE := Aside0.mk HP.out.h2.2.1
  clear hbk
  by_cases h9 : c10.e = 0
  · have ex_ : parse 0 23 l = (m9, 0) := by rw [he1, if_neg (fun h => h h9)]
    have EX := Aside0.mk ex_
    have g1 : (c10.e != 0) = false := by rw [h9]; rfl
    have g2 : (c10.e == 0) = true := by rw [h9]; rfl
    clear h9 ex_ he1
    obtain ⟨cx, h_, hz_, hm_⟩ := QS.St.held2 HP.out
    have H := Aside0.mk h_
    have HZ := Aside0.mk hz_
    have HM := Aside0.mk hm_
    have HB := Aside0.mk HP.out.b
    clear h_ hz_ hm_ HP
    go_wp2_with (first | ((with_reducible refine gate_dst (N := 220) rfl ?_); refine ev_load (x := .tmp 9) rfl rfl rfl H.out (i := 1) rfl (HZ.out) ?_) | ((with_reducible refine gate_op (u := .store 30 (.tmp 6) (.tmp 220)) rfl ?_); refine ev_store rfl rfl rfl rfl H.out (i := 0) rfl rfl (HM.out _ ⟨rfl, rfl, rfl, Kept.refl _ _⟩) ?_; intro x91 h3_ h4_; have HE := Aside0.mk (HM.out _ h4_); clear h4_; have n0_ := Aside0.mk (h3_); clear H; have H := n0_; clear n0_; clear h3_))
    refine bodyPost_ret (results_ct rfl _ _ gr 30 _ (0, 0) _ rfl (H.out.at 0 rfl) Try.underlying30 rfl (msg_info (HZ.out))) rfl (by rw [EX.out]; exact ⟨_, rfl, HE.out, H.out.b⟩)
  · have ex_ : parse 0 23 l = (zeroM, c10.e) := by rw [he1, if_pos h9]
    have EX := Aside0.mk ex_
    have g1 : (c10.e != 0) = true := by simpa using h9
    have g2 : (c10.e == 0) = false := by simpa using h9
    clear h9 ex_ he1
    have H := Aside0.mk (QS.St.held HP.out)
    clear HP
    go_upto_region 45 with (fail)
    clear ke
    refine start_ (n := 7) (S := fun w' => w'.cell? ⟨g, 3, none⟩ = some (.int .i64 c10.e) ∧ Aside0 (Held w0 [(gr, zeroC)] w')) (ds := []) (bm 7 0) (by as_aux_lemma => kernel_rfl) rfl (by as_aux_lemma => kernel_rfl) ⟨((RCur.cells4 (blk_drew HBK.out)).1.2.2.2), (Aside0.mk H.out.drew)⟩ (fun hHeld => ?_)
    refine with_tabW rparse9.tab45 rparse9.bits45 (fun HT_ HW_ => ?_)
    refine pu_ 0 (some 215) (bm 7 1) HT_ (by as_aux_lemma => kernel_rfl) rfl rfl (fun _ _ _ h => h) (by rfl) (by intro w'; go_simp; with_reducible rfl) (by go_simp; rfl) ?_
    refine pu_ 1 (some 216) (bm 7 3) HT_ (by as_aux_lemma => kernel_rfl) rfl rfl (fun _ _ _ h => h) (by rfl) (by intro w'; go_simp; with_reducible rfl) (by go_simp; rfl) ?_
    refine pu_ 2 (some 217) (bm 7 7) HT_ (by as_aux_lemma => kernel_rfl) rfl rfl (fun _ _ _ h => h) (by rfl) (by intro w'; go_simp; with_reducible rfl) (by go_simp; rfl) ?_
    refine pu_ 3 (some 218) (bm 7 15) HT_ (by as_aux_lemma => kernel_rfl) rfl rfl (fun _ _ _ h => h) (by rfl) (by intro w'; go_simp; with_reducible rfl) (by go_simp; rfl) ?_
    refine tk_ 4 (some 219) (bm 7 31) HT_ HW_ hHeld (by as_aux_lemma => kernel_rfl) rfl rfl (fun _ _ _ h => h) (by rfl) (by rintro w' ⟨s0, s1⟩; go_simp; with_reducible rfl) (by go_simp; rfl) ?_
    refine one_ (i := 5) (N := none) (bm 7 63) rfl rfl (one_of HT_.out (by as_aux_lemma => kernel_rfl)) (by as_aux_lemma => decide) (fun K hK => ?_)
    have Hd_ := Aside0.mk H.out.drew
    clear H
    have H := Hd_
    clear Hd_
    refine store_ (x := .tmp 6) (y := .tmp 215) (by rfl) rfl rfl rfl rfl H.out (i := 0) rfl (rfl) (zero_is w0) ?_
    intro x97 h3_ h4_
    have ke3 := (RCur.cells4 (blk_kept (blk_drew HBK.out) h4_.kept (fun e => HNE.out e.symm))).1.2.2.2
    have n0_ := Aside0.mk (h3_); clear H; have H := n0_; clear n0_; clear h3_ h4_
    refine hK.out _ _ ⟨ke3, H⟩ (fun hHeld => ?_)
    clear hK K
    refine pu_ 6 (some 7) (bm 7 127) HT_ (by as_aux_lemma => kernel_rfl) rfl rfl (fun _ _ _ h => h) (by rfl) (by intro w'; go_simp; with_reducible rfl) (by go_simp; rfl) ?_
    refine done_ (done_of HT_.out (by as_aux_lemma => kernel_rfl)) ?_
    go_wp2
    refine bodyPost_ret (results_ct rfl _ _ gr 30 _ (0, 0) _ rfl (H.out.at 0 rfl) Try.underlying30 rfl (msg_info (rfl))) rfl (by rw [EX.out]; exact ⟨_, rfl, zero_is _, H.out.b⟩)
theorem parse_0_24 {A : Option Addr} {c : Nat} {l : List Int} {w0 : World} (hr : Kd.C (Kd.int .u8) w0 A l.length l) (hc : l.length ≤ c) (hs : l.length ≤ 1000000) (hb : isBytes l) :
    Calls Try.prog 13 #[.int .i64 0, .int .u8 24, .slice A l.length c] w0 fun en w' => ∃ cx, en = .returned (.tuple #[.agg cx, .int .i64 (parse 0 24 l).2]) ∧ IsMsg w' cx (parse 0 24 l).1 ∧ Below w0.heap.size w0 w' := by
  have HR := Aside0.mk hr
  have HC := Aside0.mk hc
  have HS := Aside0.mk hs
  have HBB := Aside0.mk hb
  clear hr hc hs hb
  go_enter Try.func13, Try.ntmps13
  go_upto_region 3 with (first | ((with_reducible refine gate_dst (N := 6) rfl ?_); refine ev_alloc rfl rfl ?_; intro gr w1 hg_ h1_ h2_; have HG_ := Aside0.mk hg_; have H1 := Aside0.mk h1_; have H2 := Aside0.mk h2_; clear hg_ h1_ h2_))
  go_upto_region 4 with (first | ((with_reducible refine gate_dst (N := 25) rfl ?_); refine QS.ev_cur rfl rfl rfl ?_; intro g w2 q1_ q2_; have HP := Aside0.mk (QS.Nw.first HR.out HC.out HS.out HBB.out HG_.out H1.out H2.out q1_ q2_); clear q1_ q2_ H1 H2 HG_))
  obtain ⟨c0, e_⟩ : ∃ z, z = (⟨l, false, 0⟩ : Cu) := ⟨_, rfl⟩
  rw [← e_] at HP
  have Ec0 := Aside0.mk e_
  clear e_
  go_upto_region 6 with (first | ((with_reducible refine gate_dst (N := 27) rfl ?_); refine ev_build ((zeroC.setIfInBounds 0 (.int .u8 (24)))) rfl (by go_simp; first | rfl | done) ?_; intro cx hcx_; have M := Aside0.mk (show ∀ W, IsMsg W cx _ from fun W => by rw [hcx_]; exact (fun W => set_code (zero_is W) (v := 24) (by decide)) W); have NL := Aside0.mk (show NilL cx by rw [hcx_]; exact (QS.zero_nil.set (by decide))); clear hcx_) | ((with_reducible refine gate_dst (N := 9) rfl ?_); refine ev_var (y := .tmp 27) rfl rfl rfl rfl rfl (M.out w0) rfl rfl ?_; intro gm w4 hg_ h1_ hb_; have hp_ := QS.Nw.new HP.out hg_ h1_ hb_ M.out NL.out; clear h1_ hb_ hg_; have n0_ := Aside0.mk hp_; clear HP hp_; have HP := n0_; clear n0_))
  clear HR HC HS HBB M NL
  obtain ⟨m0, hm0⟩ : ∃ z, z = ({ zeroM with code := 24 } : Msg) := ⟨_, rfl⟩
  replace HP : Aside0 (QS.St w0 gr g gm w4 c0 { zeroM with code := 24 }) := HP
  rw [← hm0] at HP
  have HM0 := Aside0.mk hm0
  clear hm0
  have HMC := Aside0.mk (show m0.code = 24 by rw [HM0.out])
  go_upto_region 36 with (fail)
  go_upto_region 43 with (first | (go_at_call 27; obtain ⟨l0, h0⟩ := Cu.wordV_bd (QS.St.good HP.out); (with_reducible refine (QS.St.word HP.out).mono ?_); rintro en x1 ⟨rfl, hp_⟩; obtain ⟨c1, ec_⟩ : ∃ z, z = c0.wordS := ⟨_, rfl⟩; rw [← ec_] at hp_; have Ec1 := Aside0.mk ec_; clear ec_; obtain ⟨kaddr, faddr⟩ := QS.St.at_addr hp_; have n0_ := Aside0.mk hp_; clear HP hp_; have HP := n0_; clear n0_))
  have hp_ := HP.out.put_addr ⟨l0, h0⟩
  have n0_ := Aside0.mk hp_
  clear HP hp_
  have HP := n0_
  clear n0_
  clear kaddr faddr
  have eq_ : bodyR 0 m0 c0 = (c1, { m0 with addr := c0.wordV }) := by
    unfold bodyR
    rw [if_neg (by have := HMC.out; omega)]
    rw [if_neg (by have := HMC.out; omega)]
    rw [if_neg (by have := HMC.out; omega)]
    rw [if_neg (by have := HMC.out; omega)]
    rw [if_neg (by have := HMC.out; omega)]
    rw [if_pos (by decide)]
    rw [Ec1.out]
    rfl
  obtain ⟨cb, e_⟩ : ∃ z, z = bodyR 0 m0 c0 := ⟨_, rfl⟩
  have EBD := Aside0.mk e_
  rw [eq_] at e_
  obtain ⟨c9, m9⟩ := cb
  obtain ⟨e1_, e2_⟩ := Prod.mk.inj e_
  rw [← e1_, ← e2_] at HP
  clear e_ e1_ e2_ eq_
  go_upto_region 44 with (first | (go_at_call 29; (with_reducible refine (QS.St.fin HP.out).mono ?_); rintro en x61 ⟨rfl, hp_⟩; obtain ⟨c10, ec_⟩ : ∃ z, z = c9.fin := ⟨_, rfl⟩; rw [← ec_] at hp_; have Ec10 := Aside0.mk ec_; clear ec_; have n0_ := Aside0.mk hp_; clear HP hp_; have HP := n0_; clear n0_))
  have he1 : parse 0 24 l = if c10.e ≠ 0 then (zeroM, c10.e) else (m9, 0) := by
    have e2 : bodyR 0 m0 (cu l) = (c9, m9) := by rw [EBD.out, Ec0.out]; rfl
    unfold parse
    rw [if_neg (by decide), if_neg (by decide), ← HM0.out, e2, Ec10.out]
  obtain ⟨v0, v1, v2, hbk⟩ := QS.St.blk HP.out
  have ke := (RCur.cells4 hbk).1.2.2.2
  have HBK := Aside0.mk hbk
  have HNE := Aside0.mk HP.out.h2.2.1
  clear hbk
  by_cases h9 : c10.e = 0
  · have ex_ : parse 0 24 l = (m9, 0) := by rw [he1, if_neg (fun h => h h9)]
    have EX := Aside0.mk ex_
    have g1 : (c10.e != 0) = false := by rw [h9]; rfl
    have g2 : (c10.e == 0) = true := by rw [h9]; rfl
    clear h9 ex_ he1
    obtain ⟨cx, h_, hz_, hm_⟩ := QS.St.held2 HP.out
    have H := Aside0.mk h_
    have HZ := Aside0.mk hz_
    have HM := Aside0.mk hm_
    have HB := Aside0.mk HP.out.b
    clear h_ hz_ hm_ HP
    go_wp2_with (first | ((with_reducible refine gate_dst (N := 220) rfl ?_); refine ev_load (x := .tmp 9) rfl rfl rfl H.out (i := 1) rfl (HZ.out) ?_) | ((with_reducible refine gate_op (u := .store 30 (.tmp 6) (.tmp 220)) rfl ?_); refine ev_store rfl rfl rfl rfl H.out (i := 0) rfl rfl (HM.out _ ⟨rfl, rfl, rfl, Kept.refl _ _⟩) ?_; intro x91 h3_ h4_; have HE := Aside0.mk (HM.out _ h4_); clear h4_; have n0_ := Aside0.mk (h3_); clear H; have H := n0_; clear n0_; clear h3_))
    refine bodyPost_ret (results_ct rfl _ _ gr 30 _ (0, 0) _ rfl (H.out.at 0 rfl) Try.underlying30 rfl (msg_info (HZ.out))) rfl (by rw [EX.out]; exact ⟨_, rfl, HE.out, H.out.b⟩)
  · have ex_ : parse 0 24 l = (zeroM, c10.e) := by rw [he1, if_pos h9]
    have EX := Aside0.mk ex_
    have g1 : (c10.e != 0) = true := by simpa using h9
    have g2 : (c10.e == 0) = false := by simpa using h9
    clear h9 ex_ he1
    have H := Aside0.mk (QS.St.held HP.out)
    clear HP
    go_upto_region 45 with (fail)
    clear ke
    refine start_ (n := 7) (S := fun w' => w'.cell? ⟨g, 3, none⟩ = some (.int .i64 c10.e) ∧ Aside0 (Held w0 [(gr, zeroC)] w')) (ds := []) (bm 7 0) (by as_aux_lemma => kernel_rfl) rfl (by as_aux_lemma => kernel_rfl) ⟨((RCur.cells4 (blk_drew HBK.out)).1.2.2.2), (Aside0.mk H.out.drew)⟩ (fun hHeld => ?_)
    refine with_tabW rparse9.tab45 rparse9.bits45 (fun HT_ HW_ => ?_)
    refine pu_ 0 (some 215) (bm 7 1) HT_ (by as_aux_lemma => kernel_rfl) rfl rfl (fun _ _ _ h => h) (by rfl) (by intro w'; go_simp; with_reducible rfl) (by go_simp; rfl) ?_
    refine pu_ 1 (some 216) (bm 7 3) HT_ (by as_aux_lemma => kernel_rfl) rfl rfl (fun _ _ _ h => h) (by rfl) (by intro w'; go_simp; with_reducible rfl) (by go_simp; rfl) ?_
    refine pu_ 2 (some 217) (bm 7 7) HT_ (by as_aux_lemma => kernel_rfl) rfl rfl (fun _ _ _ h => h) (by rfl) (by intro w'; go_simp; with_reducible rfl) (by go_simp; rfl) ?_
    refine pu_ 3 (some 218) (bm 7 15) HT_ (by as_aux_lemma => kernel_rfl) rfl rfl (fun _ _ _ h => h) (by rfl) (by intro w'; go_simp; with_reducible rfl) (by go_simp; rfl) ?_
    refine tk_ 4 (some 219) (bm 7 31) HT_ HW_ hHeld (by as_aux_lemma => kernel_rfl) rfl rfl (fun _ _ _ h => h) (by rfl) (by rintro w' ⟨s0, s1⟩; go_simp; with_reducible rfl) (by go_simp; rfl) ?_
    refine one_ (i := 5) (N := none) (bm 7 63) rfl rfl (one_of HT_.out (by as_aux_lemma => kernel_rfl)) (by as_aux_lemma => decide) (fun K hK => ?_)
    have Hd_ := Aside0.mk H.out.drew
    clear H
    have H := Hd_
    clear Hd_
    refine store_ (x := .tmp 6) (y := .tmp 215) (by rfl) rfl rfl rfl rfl H.out (i := 0) rfl (rfl) (zero_is w0) ?_
    intro x97 h3_ h4_
    have ke3 := (RCur.cells4 (blk_kept (blk_drew HBK.out) h4_.kept (fun e => HNE.out e.symm))).1.2.2.2
    have n0_ := Aside0.mk (h3_); clear H; have H := n0_; clear n0_; clear h3_ h4_
    refine hK.out _ _ ⟨ke3, H⟩ (fun hHeld => ?_)
    clear hK K
    refine pu_ 6 (some 7) (bm 7 127) HT_ (by as_aux_lemma => kernel_rfl) rfl rfl (fun _ _ _ h => h) (by rfl) (by intro w'; go_simp; with_reducible rfl) (by go_simp; rfl) ?_
    refine done_ (done_of HT_.out (by as_aux_lemma => kernel_rfl)) ?_
    go_wp2
    refine bodyPost_ret (results_ct rfl _ _ gr 30 _ (0, 0) _ rfl (H.out.at 0 rfl) Try.underlying30 rfl (msg_info (rfl))) rfl (by rw [EX.out]; exact ⟨_, rfl, zero_is _, H.out.b⟩)
theorem parse_no1 {A : Option Addr} {c : Nat} {l : List Int} {w0 : World} (hr : Kd.C (Kd.int .u8) w0 A l.length l) (hc : l.length ≤ c) (hs : l.length ≤ 1000000) (hb : isBytes l) {code : Int} (hcd : 0 ≤ code ∧ code < 256) (hk : ¬ isCode code) :
    Calls Try.prog 13 #[.int .i64 1, .int .u8 code, .slice A l.length c] w0 fun en w' => ∃ cx, en = .returned (.tuple #[.agg cx, .int .i64 4]) ∧ IsMsg w' cx zeroM ∧ Below w0.heap.size w0 w' := by
  have HR := Aside0.mk hr
  have HC := Aside0.mk hc
  have HS := Aside0.mk hs
  have HBB := Aside0.mk hb
  clear hr hc hs hb
  have HKB := Aside0.mk hcd
  clear hcd
  have b3 : (code == 3) = false := beq_eq_false_iff_ne.2 (fun e => hk (by unfold isCode; omega))
  have b4 : (code == 4) = false := beq_eq_false_iff_ne.2 (fun e => hk (by unfold isCode; omega))
  have b6 : (code == 6) = false := beq_eq_false_iff_ne.2 (fun e => hk (by unfold isCode; omega))
  have b16 : (code == 16) = false := beq_eq_false_iff_ne.2 (fun e => hk (by unfold isCode; omega))
  have b22 : (code == 22) = false := beq_eq_false_iff_ne.2 (fun e => hk (by unfold isCode; omega))
  have b23 : (code == 23) = false := beq_eq_false_iff_ne.2 (fun e => hk (by unfold isCode; omega))
  have b24 : (code == 24) = false := beq_eq_false_iff_ne.2 (fun e => hk (by unfold isCode; omega))
  clear hk
  go_enter Try.func13, Try.ntmps13
  go_upto_region 3 with (first | ((with_reducible refine gate_dst (N := 6) rfl ?_); refine ev_alloc rfl rfl ?_; intro gr w1 hg_ h1_ h2_; have HG_ := Aside0.mk hg_; have H1 := Aside0.mk h1_; have H2 := Aside0.mk h2_; clear hg_ h1_ h2_))
  go_upto_region 4 with (first | ((with_reducible refine gate_dst (N := 25) rfl ?_); refine QS.ev_cur rfl rfl rfl ?_; intro g w2 q1_ q2_; have HP := Aside0.mk (QS.Nw.first HR.out HC.out HS.out HBB.out HG_.out H1.out H2.out q1_ q2_); clear q1_ q2_ H1 H2 HG_))
  obtain ⟨c0, e_⟩ : ∃ z, z = (⟨l, false, 0⟩ : Cu) := ⟨_, rfl⟩
  rw [← e_] at HP
  have Ec0 := Aside0.mk e_
  clear e_
  go_upto_region 6 with (first | ((with_reducible refine gate_dst (N := 27) rfl ?_); refine ev_build ((zeroC.setIfInBounds 0 (.int .u8 (code)))) rfl (by go_simp; first | rfl | done) ?_; intro cx hcx_; have M := Aside0.mk (show ∀ W, IsMsg W cx _ from fun W => by rw [hcx_]; exact (fun W => set_code (zero_is W) (v := code) ⟨by have := HKB.out; omega, by have := HKB.out; omega⟩) W); have NL := Aside0.mk (show NilL cx by rw [hcx_]; exact (QS.zero_nil.set (by decide))); clear hcx_) | ((with_reducible refine gate_dst (N := 9) rfl ?_); refine ev_var (y := .tmp 27) rfl rfl rfl rfl rfl (M.out w0) rfl rfl ?_; intro gm w4 hg_ h1_ hb_; have hp_ := QS.Nw.new HP.out hg_ h1_ hb_ M.out NL.out; clear h1_ hb_ hg_; have n0_ := Aside0.mk hp_; clear HP hp_; have HP := n0_; clear n0_))
  clear HR HC HS HBB M NL
  obtain ⟨m0, hm0⟩ : ∃ z, z = ({ zeroM with code := code } : Msg) := ⟨_, rfl⟩
  replace HP : Aside0 (QS.St w0 gr g gm w4 c0 { zeroM with code := code }) := HP
  rw [← hm0] at HP
  have HM0 := Aside0.mk hm0
  clear hm0
  have H := Aside0.mk (QS.St.held HP.out)
  clear HP
  go_wp2_with (first | ((with_reducible refine gate_dst (N := 28) rfl ?_); refine ev_build (zeroC) rfl (by go_simp; first | rfl | done) ?_; intro cx hcx_; have M := Aside0.mk (show ∀ W, IsMsg W cx _ from fun W => by rw [hcx_]; exact zero_is W); clear hcx_) | ((with_reducible refine gate_op (u := .store 30 (.tmp 6) (.tmp 28)) rfl ?_); refine ev_store rfl rfl rfl rfl H.out (i := 0) rfl (rfl) (M.out w0) ?_; intro w99 h3_ h4_; have n0_ := Aside0.mk (h3_); clear H; have H := n0_; clear n0_; clear h3_ h4_))
  refine bodyPost_ret (results_ct rfl _ _ gr 30 _ (0, 0) _ rfl (H.out.at 0 rfl) Try.underlying30 rfl (msg_info ((M.out w0).size))) rfl (⟨_, rfl, M.out _, H.out.b⟩)
theorem parse_1_3 {A : Option Addr} {c : Nat} {l : List Int} {w0 : World} (hr : Kd.C (Kd.int .u8) w0 A l.length l) (hc : l.length ≤ c) (hs : l.length ≤ 1000000) (hb : isBytes l) :
    Calls Try.prog 13 #[.int .i64 1, .int .u8 3, .slice A l.length c] w0 fun en w' => ∃ cx, en = .returned (.tuple #[.agg cx, .int .i64 (parse 1 3 l).2]) ∧ IsMsg w' cx (parse 1 3 l).1 ∧ Below w0.heap.size w0 w' := by
  have HR := Aside0.mk hr
  have HC := Aside0.mk hc
  have HS := Aside0.mk hs
  have HBB := Aside0.mk hb
  clear hr hc hs hb
  go_enter Try.func13, Try.ntmps13
  go_upto_region 3 with (first | ((with_reducible refine gate_dst (N := 6) rfl ?_); refine ev_alloc rfl rfl ?_; intro gr w1 hg_ h1_ h2_; have HG_ := Aside0.mk hg_; have H1 := Aside0.mk h1_; have H2 := Aside0.mk h2_; clear hg_ h1_ h2_))
  go_upto_region 4 with (first | ((with_reducible refine gate_dst (N := 25) rfl ?_); refine QS.ev_cur rfl rfl rfl ?_; intro g w2 q1_ q2_; have HP := Aside0.mk (QS.Nw.first HR.out HC.out HS.out HBB.out HG_.out H1.out H2.out q1_ q2_); clear q1_ q2_ H1 H2 HG_))
  obtain ⟨c0, e_⟩ : ∃ z, z = (⟨l, false, 0⟩ : Cu) := ⟨_, rfl⟩
  rw [← e_] at HP
  have Ec0 := Aside0.mk e_
  clear e_
  go_upto_region 6 with (first | ((with_reducible refine gate_dst (N := 27) rfl ?_); refine ev_build ((zeroC.setIfInBounds 0 (.int .u8 (3)))) rfl (by go_simp; first | rfl | done) ?_; intro cx hcx_; have M := Aside0.mk (show ∀ W, IsMsg W cx _ from fun W => by rw [hcx_]; exact (fun W => set_code (zero_is W) (v := 3) (by decide)) W); have NL := Aside0.mk (show NilL cx by rw [hcx_]; exact (QS.zero_nil.set (by decide))); clear hcx_) | ((with_reducible refine gate_dst (N := 9) rfl ?_); refine ev_var (y := .tmp 27) rfl rfl rfl rfl rfl (M.out w0) rfl rfl ?_; intro gm w4 hg_ h1_ hb_; have hp_ := QS.Nw.new HP.out hg_ h1_ hb_ M.out NL.out; clear h1_ hb_ hg_; have n0_ := Aside0.mk hp_; clear HP hp_; have HP := n0_; clear n0_))
  clear HR HC HS HBB M NL
  obtain ⟨m0, hm0⟩ : ∃ z, z = ({ zeroM with code := 3 } : Msg) := ⟨_, rfl⟩
  replace HP : Aside0 (QS.St w0 gr g gm w4 c0 { zeroM with code := 3 }) := HP
  rw [← hm0] at HP
  have HM0 := Aside0.mk hm0
  clear hm0
  have HMC := Aside0.mk (show m0.code = 3 by rw [HM0.out])
  go_upto_region 7 with (fail)
  go_upto_region 8 with (first | (go_at_call 24; obtain ⟨l0, h0⟩ := Cu.byteV_bd (QS.St.good HP.out); (with_reducible refine (QS.St.byte HP.out).mono ?_); rintro en x1 ⟨rfl, hp_⟩; obtain ⟨c1, ec_⟩ : ∃ z, z = c0.byteS := ⟨_, rfl⟩; rw [← ec_] at hp_; have Ec1 := Aside0.mk ec_; clear ec_; have n0_ := Aside0.mk hp_; clear HP hp_; have HP := n0_; clear n0_))
  have wk := wrap64_id (x := c0.byteV) (by omega) (by omega)
  have wkb : IntKind.i64.wrap (c0.byteV) = c0.byteV := by rw [i64_w]; exact wk
  have wd : Int.tdiv c0.byteV 2 = c0.byteV / 2 := Int.tdiv_eq_ediv_of_nonneg (by omega)
  have wq := wrap64_id (x := c0.byteV / 2) (by omega) (by omega)
  obtain ⟨c2, e_⟩ : ∃ z, z = c1.need (c0.byteV % 2 == 0 && (decide (2 ≤ c0.byteV) && decide (c0.byteV ≤ 250))) 5 := ⟨_, rfl⟩
  have Ec2 := Aside0.mk e_
  clear e_
  go_cut [] from 47 to 60 (fun wx => Aside0 (QS.St w0 gr g gm wx c2 (m0)))
  case first =>
    cases hs0_ : (c0.byteV % 2 == 0) with
    | true =>
      have hs0a_ : (c0.byteV % 2 != 0) = false := by first | exact hs0_ | (rw [bne, hs0_]; rfl) | (have := hs0_; rw [bne] at this; simpa using this)
      have hs0t_ : (Int.tmod c0.byteV 2 == 0) = true := by rw [Int.tmod_eq_emod_of_nonneg (by omega)]; exact hs0_
      cases hs1_ : (decide (2 ≤ c0.byteV)) with
      | true =>
        have hs1a_ : (decide (c0.byteV ≥ 2)) = true := by first | exact hs1_ | (rw [bne, hs1_]; rfl) | (have := hs1_; rw [bne] at this; simpa using this)
        have eb_ : (c0.byteV % 2 == 0 && (decide (2 ≤ c0.byteV) && decide (c0.byteV ≤ 250))) = (decide (c0.byteV ≤ 250)) := by first | (simp only [hs0_, hs1_]; first | rfl | (simp; done)) | (simp [hs0_, hs1_]; done) | (simp only [bne, hs0_, hs1_]; first | rfl | (simp; done))
        first | (have hgt_ : decide (c0.byteV > 0) = true := by (rw [← hs1_]; exact decide_eq_decide.2 ⟨fun h => by have := beq_iff_eq.1 hs0_; omega, fun h => by omega⟩)) | (have hgt_ : decide (c0.byteV > 0) = false := by (rw [← hs1_]; exact decide_eq_decide.2 ⟨fun h => by have := beq_iff_eq.1 hs0_; omega, fun h => by omega⟩)) | skip
        first | (have hgt2_ : decide (0 < c0.byteV) = true := by (rw [← hs1_]; exact decide_eq_decide.2 ⟨fun h => by have := beq_iff_eq.1 hs0_; omega, fun h => by omega⟩)) | (have hgt2_ : decide (0 < c0.byteV) = false := by (rw [← hs1_]; exact decide_eq_decide.2 ⟨fun h => by have := beq_iff_eq.1 hs0_; omega, fun h => by omega⟩)) | skip
        have EB_ := Aside0.mk eb_
        clear eb_
        go_wp2_with (first | (go_at_call 25; (with_reducible refine (QS.St.need HP.out (decide (c0.byteV ≤ 250)) 5).mono ?_); rintro en x2 ⟨rfl, hp_⟩; have n0_ := Aside0.mk hp_; clear HP hp_; have HP := n0_; clear n0_))
        go_meet
        rw [Ec2.out, EB_.out]
        exact HP
      | false =>
        have hs1a_ : (decide (c0.byteV ≥ 2)) = false := by first | exact hs1_ | (rw [bne, hs1_]; rfl) | (have := hs1_; rw [bne] at this; simpa using this)
        have eb_ : (c0.byteV % 2 == 0 && (decide (2 ≤ c0.byteV) && decide (c0.byteV ≤ 250))) = (false) := by first | (simp only [hs0_, hs1_]; first | rfl | (simp; done)) | (simp [hs0_, hs1_]; done) | (simp only [bne, hs0_, hs1_]; first | rfl | (simp; done))
        first | (have hgt_ : decide (c0.byteV > 0) = true := by (rw [← hs1_]; exact decide_eq_decide.2 ⟨fun h => by have := beq_iff_eq.1 hs0_; omega, fun h => by omega⟩)) | (have hgt_ : decide (c0.byteV > 0) = false := by (rw [← hs1_]; exact decide_eq_decide.2 ⟨fun h => by have := beq_iff_eq.1 hs0_; omega, fun h => by omega⟩)) | skip
        first | (have hgt2_ : decide (0 < c0.byteV) = true := by (rw [← hs1_]; exact decide_eq_decide.2 ⟨fun h => by have := beq_iff_eq.1 hs0_; omega, fun h => by omega⟩)) | (have hgt2_ : decide (0 < c0.byteV) = false := by (rw [← hs1_]; exact decide_eq_decide.2 ⟨fun h => by have := beq_iff_eq.1 hs0_; omega, fun h => by omega⟩)) | skip
        have EB_ := Aside0.mk eb_
        clear eb_
        go_wp2_with (first | (go_at_call 25; (with_reducible refine (QS.St.need HP.out (false) 5).mono ?_); rintro en x2 ⟨rfl, hp_⟩; have n0_ := Aside0.mk hp_; clear HP hp_; have HP := n0_; clear n0_))
        go_meet
        rw [Ec2.out, EB_.out]
        exact HP
    | false =>
      have hs0a_ : (c0.byteV % 2 != 0) = true := by first | exact hs0_ | (rw [bne, hs0_]; rfl) | (have := hs0_; rw [bne] at this; simpa using this)
      have hs0t_ : (Int.tmod c0.byteV 2 == 0) = false := by rw [Int.tmod_eq_emod_of_nonneg (by omega)]; exact hs0_
      have eb_ : (c0.byteV % 2 == 0 && (decide (2 ≤ c0.byteV) && decide (c0.byteV ≤ 250))) = (false) := by first | (simp only [hs0_]; first | rfl | (simp; done)) | (simp [hs0_]; done) | (simp only [bne, hs0_]; first | rfl | (simp; done))
      first | (have hgt_ : decide (c0.byteV > 0) = true := by (rw [← hs1_]; exact decide_eq_decide.2 ⟨fun h => by have := beq_iff_eq.1 hs0_; omega, fun h => by omega⟩)) | (have hgt_ : decide (c0.byteV > 0) = false := by (rw [← hs1_]; exact decide_eq_decide.2 ⟨fun h => by have := beq_iff_eq.1 hs0_; omega, fun h => by omega⟩)) | skip
      first | (have hgt2_ : decide (0 < c0.byteV) = true := by (rw [← hs1_]; exact decide_eq_decide.2 ⟨fun h => by have := beq_iff_eq.1 hs0_; omega, fun h => by omega⟩)) | (have hgt2_ : decide (0 < c0.byteV) = false := by (rw [← hs1_]; exact decide_eq_decide.2 ⟨fun h => by have := beq_iff_eq.1 hs0_; omega, fun h => by omega⟩)) | skip
      have EB_ := Aside0.mk eb_
      clear eb_
      go_wp2_with (first | (go_at_call 25; (with_reducible refine (QS.St.need HP.out (false) 5).mono ?_); rintro en x2 ⟨rfl, hp_⟩; have n0_ := Aside0.mk hp_; clear HP hp_; have HP := n0_; clear n0_))
      go_meet
      rw [Ec2.out, EB_.out]
      exact HP
  case rest =>
  clear HP
  have HP := hcut
  clear hcut
  have HBY := Aside0.mk (Cu.wordsV_bd (QS.St.good HP.out) (c0.byteV / 2))
  go_upto_region 43 with (first | (go_at_call 26; (with_reducible refine (QS.St.words HP.out (c0.byteV / 2)).mono ?_); rintro en x3 ⟨A5, n5, rfl, hz_, hr_, hp_⟩; obtain ⟨c3, ec_⟩ : ∃ z, z = c2.wordsS (c0.byteV / 2) := ⟨_, rfl⟩; rw [← ec_] at hp_; have Ec3 := Aside0.mk ec_; clear ec_; have R5 := Aside0.mk hr_; have R5z := Aside0.mk hz_; clear hr_ hz_; have n0_ := Aside0.mk hp_; clear HP hp_; have HP := n0_; clear n0_; obtain ⟨Aw, nw, kw, fw⟩ := QS.St.at_words HP.out))
  have hp_ := HP.out.put_words R5z.out HBY.out R5.out
  have n0_ := Aside0.mk hp_
  clear HP hp_
  have HP := n0_
  clear n0_
  have eq_ : bodyR 1 m0 c0 = (c3, { m0 with words := c2.wordsV (c0.byteV / 2) }) := by
    unfold bodyR
    rw [if_pos (by have := HMC.out; omega)]
    rw [if_neg (by decide)]
    rw [Ec3.out, Ec2.out, Ec1.out]
    rfl
  obtain ⟨cb, e_⟩ : ∃ z, z = bodyR 1 m0 c0 := ⟨_, rfl⟩
  have EBD := Aside0.mk e_
  rw [eq_] at e_
  obtain ⟨c9, m9⟩ := cb
  obtain ⟨e1_, e2_⟩ := Prod.mk.inj e_
  rw [← e1_, ← e2_] at HP
  clear e_ e1_ e2_ eq_
  go_upto_region 44 with (first | (go_at_call 29; (with_reducible refine (QS.St.fin HP.out).mono ?_); rintro en x61 ⟨rfl, hp_⟩; obtain ⟨c10, ec_⟩ : ∃ z, z = c9.fin := ⟨_, rfl⟩; rw [← ec_] at hp_; have Ec10 := Aside0.mk ec_; clear ec_; have n0_ := Aside0.mk hp_; clear HP hp_; have HP := n0_; clear n0_))
  have he1 : parse 1 3 l = if c10.e ≠ 0 then (zeroM, c10.e) else (m9, 0) := by
    have e2 : bodyR 1 m0 (cu l) = (c9, m9) := by rw [EBD.out, Ec0.out]; rfl
    unfold parse
    rw [if_neg (by decide), if_neg (by decide), ← HM0.out, e2, Ec10.out]
  obtain ⟨v0, v1, v2, hbk⟩ := QS.St.blk HP.out
  have ke := (RCur.cells4 hbk).1.2.2.2
  have HBK := Aside0.mk hbk
  have HNE := Aside0.mk HP.out.h2.2.1
  clear hbk
  by_cases h9 : c10.e = 0
  · have ex_ : parse 1 3 l = (m9, 0) := by rw [he1, if_neg (fun h => h h9)]
    have EX := Aside0.mk ex_
    have g1 : (c10.e != 0) = false := by rw [h9]; rfl
    have g2 : (c10.e == 0) = true := by rw [h9]; rfl
    clear h9 ex_ he1
    obtain ⟨cx, h_, hz_, hm_⟩ := QS.St.held2 HP.out
    have H := Aside0.mk h_
    have HZ := Aside0.mk hz_
    have HM := Aside0.mk hm_
    have HB := Aside0.mk HP.out.b
    clear h_ hz_ hm_ HP
    go_wp2_with (first | ((with_reducible refine gate_dst (N := 220) rfl ?_); refine ev_load (x := .tmp 9) rfl rfl rfl H.out (i := 1) rfl (HZ.out) ?_) | ((with_reducible refine gate_op (u := .store 30 (.tmp 6) (.tmp 220)) rfl ?_); refine ev_store rfl rfl rfl rfl H.out (i := 0) rfl rfl (HM.out _ ⟨rfl, rfl, rfl, Kept.refl _ _⟩) ?_; intro x91 h3_ h4_; have HE := Aside0.mk (HM.out _ h4_); clear h4_; have n0_ := Aside0.mk (h3_); clear H; have H := n0_; clear n0_; clear h3_))
    refine bodyPost_ret (results_ct rfl _ _ gr 30 _ (0, 0) _ rfl (H.out.at 0 rfl) Try.underlying30 rfl (msg_info (HZ.out))) rfl (by rw [EX.out]; exact ⟨_, rfl, HE.out, H.out.b⟩)
  · have ex_ : parse 1 3 l = (zeroM, c10.e) := by rw [he1, if_pos h9]
    have EX := Aside0.mk ex_
    have g1 : (c10.e != 0) = true := by simpa using h9
    have g2 : (c10.e == 0) = false := by simpa using h9
    clear h9 ex_ he1
    have H := Aside0.mk (QS.St.held HP.out)
    clear HP
    go_upto_region 45 with (fail)
    clear ke
    refine start_ (n := 7) (S := fun w' => w'.cell? ⟨g, 3, none⟩ = some (.int .i64 c10.e) ∧ Aside0 (Held w0 [(gr, zeroC)] w')) (ds := []) (bm 7 0) (by as_aux_lemma => kernel_rfl) rfl (by as_aux_lemma => kernel_rfl) ⟨((RCur.cells4 (blk_drew HBK.out)).1.2.2.2), (Aside0.mk H.out.drew)⟩ (fun hHeld => ?_)
    refine with_tabW rparse9.tab45 rparse9.bits45 (fun HT_ HW_ => ?_)
    refine pu_ 0 (some 215) (bm 7 1) HT_ (by as_aux_lemma => kernel_rfl) rfl rfl (fun _ _ _ h => h) (by rfl) (by intro w'; go_simp; with_reducible rfl) (by go_simp; rfl) ?_
    refine pu_ 1 (some 216) (bm 7 3) HT_ (by as_aux_lemma => kernel_rfl) rfl rfl (fun _ _ _ h => h) (by rfl) (by intro w'; go_simp; with_reducible rfl) (by go_simp; rfl) ?_
    refine pu_ 2 (some 217) (bm 7 7) HT_ (by as_aux_lemma => kernel_rfl) rfl rfl (fun _ _ _ h => h) (by rfl) (by intro w'; go_simp; with_reducible rfl) (by go_simp; rfl) ?_
    refine pu_ 3 (some 218) (bm 7 15) HT_ (by as_aux_lemma => kernel_rfl) rfl rfl (fun _ _ _ h => h) (by rfl) (by intro w'; go_simp; with_reducible rfl) (by go_simp; rfl) ?_
    refine tk_ 4 (some 219) (bm 7 31) HT_ HW_ hHeld (by as_aux_lemma => kernel_rfl) rfl rfl (fun _ _ _ h => h) (by rfl) (by rintro w' ⟨s0, s1⟩; go_simp; with_reducible rfl) (by go_simp; rfl) ?_
    refine one_ (i := 5) (N := none) (bm 7 63) rfl rfl (one_of HT_.out (by as_aux_lemma => kernel_rfl)) (by as_aux_lemma => decide) (fun K hK => ?_)
    have Hd_ := Aside0.mk H.out.drew
    clear H
    have H := Hd_
    clear Hd_
    refine store_ (x := .tmp 6) (y := .tmp 215) (by rfl) rfl rfl rfl rfl H.out (i := 0) rfl (rfl) (zero_is w0) ?_
    intro x97 h3_ h4_
    have ke3 := (RCur.cells4 (blk_kept (blk_drew HBK.out) h4_.kept (fun e => HNE.out e.symm))).1.2.2.2
    have n0_ := Aside0.mk (h3_); clear H; have H := n0_; clear n0_; clear h3_ h4_
    refine hK.out _ _ ⟨ke3, H⟩ (fun hHeld => ?_)
    clear hK K
    refine pu_ 6 (some 7) (bm 7 127) HT_ (by as_aux_lemma => kernel_rfl) rfl rfl (fun _ _ _ h => h) (by rfl) (by intro w'; go_simp; with_reducible rfl) (by go_simp; rfl) ?_
    refine done_ (done_of HT_.out (by as_aux_lemma => kernel_rfl)) ?_
    go_wp2
    refine bodyPost_ret (results_ct rfl _ _ gr 30 _ (0, 0) _ rfl (H.out.at 0 rfl) Try.underlying30 rfl (msg_info (rfl))) rfl (by rw [EX.out]; exact ⟨_, rfl, zero_is _, H.out.b⟩)
theorem parse_1_4 {A : Option Addr} {c : Nat} {l : List Int} {w0 : World} (hr : Kd.C (Kd.int .u8) w0 A l.length l) (hc : l.length ≤ c) (hs : l.length ≤ 1000000) (hb : isBytes l) :
    Calls Try.prog 13 #[.int .i64 1, .int .u8 4, .slice A l.length c] w0 fun en w' => ∃ cx, en = .returned (.tuple #[.agg cx, .int .i64 (parse 1 4 l).2]) ∧ IsMsg w' cx (parse 1 4 l).1 ∧ Below w0.heap.size w0 w' := by
  have HR := Aside0.mk hr
  have HC := Aside0.mk hc
  have HS := Aside0.mk hs
  have HBB := Aside0.mk hb
  clear hr hc hs hb
  go_enter Try.func13, Try.ntmps13
  go_upto_region 3 with (first | ((with_reducible refine gate_dst (N := 6) rfl ?_); refine ev_alloc rfl rfl ?_; intro gr w1 hg_ h1_ h2_; have HG_ := Aside0.mk hg_; have H1 := Aside0.mk h1_; have H2 := Aside0.mk h2_; clear hg_ h1_ h2_))
  go_upto_region 4 with (first | ((with_reducible refine gate_dst (N := 25) rfl ?_); refine QS.ev_cur rfl rfl rfl ?_; intro g w2 q1_ q2_; have HP := Aside0.mk (QS.Nw.first HR.out HC.out HS.out HBB.out HG_.out H1.out H2.out q1_ q2_); clear q1_ q2_ H1 H2 HG_))
  obtain ⟨c0, e_⟩ : ∃ z, z = (⟨l, false, 0⟩ : Cu) := ⟨_, rfl⟩
  rw [← e_] at HP
  have Ec0 := Aside0.mk e_
  clear e_
  go_upto_region 6 with (first | ((with_reducible refine gate_dst (N := 27) rfl ?_); refine ev_build ((zeroC.setIfInBounds 0 (.int .u8 (4)))) rfl (by go_simp; first | rfl | done) ?_; intro cx hcx_; have M := Aside0.mk (show ∀ W, IsMsg W cx _ from fun W => by rw [hcx_]; exact (fun W => set_code (zero_is W) (v := 4) (by decide)) W); have NL := Aside0.mk (show NilL cx by rw [hcx_]; exact (QS.zero_nil.set (by decide))); clear hcx_) | ((with_reducible refine gate_dst (N := 9) rfl ?_); refine ev_var (y := .tmp 27) rfl rfl rfl rfl rfl (M.out w0) rfl rfl ?_; intro gm w4 hg_ h1_ hb_; have hp_ := QS.Nw.new HP.out hg_ h1_ hb_ M.out NL.out; clear h1_ hb_ hg_; have n0_ := Aside0.mk hp_; clear HP hp_; have HP := n0_; clear n0_))
  clear HR HC HS HBB M NL
  obtain ⟨m0, hm0⟩ : ∃ z, z = ({ zeroM with code := 4 } : Msg) := ⟨_, rfl⟩
  replace HP : Aside0 (QS.St w0 gr g gm w4 c0 { zeroM with code := 4 }) := HP
  rw [← hm0] at HP
  have HM0 := Aside0.mk hm0
  clear hm0
  have HMC := Aside0.mk (show m0.code = 4 by rw [HM0.out])
  go_upto_region 7 with (fail)
  go_upto_region 8 with (first | (go_at_call 24; obtain ⟨l0, h0⟩ := Cu.byteV_bd (QS.St.good HP.out); (with_reducible refine (QS.St.byte HP.out).mono ?_); rintro en x1 ⟨rfl, hp_⟩; obtain ⟨c1, ec_⟩ : ∃ z, z = c0.byteS := ⟨_, rfl⟩; rw [← ec_] at hp_; have Ec1 := Aside0.mk ec_; clear ec_; have n0_ := Aside0.mk hp_; clear HP hp_; have HP := n0_; clear n0_))
  have wk := wrap64_id (x := c0.byteV) (by omega) (by omega)
  have wkb : IntKind.i64.wrap (c0.byteV) = c0.byteV := by rw [i64_w]; exact wk
  have wd : Int.tdiv c0.byteV 2 = c0.byteV / 2 := Int.tdiv_eq_ediv_of_nonneg (by omega)
  have wq := wrap64_id (x := c0.byteV / 2) (by omega) (by omega)
  obtain ⟨c2, e_⟩ : ∃ z, z = c1.need (c0.byteV % 2 == 0 && (decide (2 ≤ c0.byteV) && decide (c0.byteV ≤ 250))) 5 := ⟨_, rfl⟩
  have Ec2 := Aside0.mk e_
  clear e_
  go_cut [] from 47 to 60 (fun wx => Aside0 (QS.St w0 gr g gm wx c2 (m0)))
  case first =>
    cases hs0_ : (c0.byteV % 2 == 0) with
    | true =>
      have hs0a_ : (c0.byteV % 2 != 0) = false := by first | exact hs0_ | (rw [bne, hs0_]; rfl) | (have := hs0_; rw [bne] at this; simpa using this)
      have hs0t_ : (Int.tmod c0.byteV 2 == 0) = true := by rw [Int.tmod_eq_emod_of_nonneg (by omega)]; exact hs0_
      cases hs1_ : (decide (2 ≤ c0.byteV)) with
      | true =>
        have hs1a_ : (decide (c0.byteV ≥ 2)) = true := by first | exact hs1_ | (rw [bne, hs1_]; rfl) | (have := hs1_; rw [bne] at this; simpa using this)
        have eb_ : (c0.byteV % 2 == 0 && (decide (2 ≤ c0.byteV) && decide (c0.byteV ≤ 250))) = (decide (c0.byteV ≤ 250)) := by first | (simp only [hs0_, hs1_]; first | rfl | (simp; done)) | (simp [hs0_, hs1_]; done) | (simp only [bne, hs0_, hs1_]; first | rfl | (simp; done))
        first | (have hgt_ : decide (c0.byteV > 0) = true := by (rw [← hs1_]; exact decide_eq_decide.2 ⟨fun h => by have := beq_iff_eq.1 hs0_; omega, fun h => by omega⟩)) | (have hgt_ : decide (c0.byteV > 0) = false := by (rw [← hs1_]; exact decide_eq_decide.2 ⟨fun h => by have := beq_iff_eq.1 hs0_; omega, fun h => by omega⟩)) | skip
        first | (have hgt2_ : decide (0 < c0.byteV) = true := by (rw [← hs1_]; exact decide_eq_decide.2 ⟨fun h => by have := beq_iff_eq.1 hs0_; omega, fun h => by omega⟩)) | (have hgt2_ : decide (0 < c0.byteV) = false := by (rw [← hs1_]; exact decide_eq_decide.2 ⟨fun h => by have := beq_iff_eq.1 hs0_; omega, fun h => by omega⟩)) | skip
        have EB_ := Aside0.mk eb_
        clear eb_
        go_wp2_with (first | (go_at_call 25; (with_reducible refine (QS.St.need HP.out (decide (c0.byteV ≤ 250)) 5).mono ?_); rintro en x2 ⟨rfl, hp_⟩; have n0_ := Aside0.mk hp_; clear HP hp_; have HP := n0_; clear n0_))
        go_meet
        rw [Ec2.out, EB_.out]
        exact HP
      | false =>
        have hs1a_ : (decide (c0.byteV ≥ 2)) = false := by first | exact hs1_ | (rw [bne, hs1_]; rfl) | (have := hs1_; rw [bne] at this; simpa using this)
        have eb_ : (c0.byteV % 2 == 0 && (decide (2 ≤ c0.byteV) && decide (c0.byteV ≤ 250))) = (false) := by first | (simp only [hs0_, hs1_]; first | rfl | (simp; done)) | (simp [hs0_, hs1_]; done) | (simp only [bne, hs0_, hs1_]; first | rfl | (simp; done))
        first | (have hgt_ : decide (c0.byteV > 0) = true := by (rw [← hs1_]; exact decide_eq_decide.2 ⟨fun h => by have := beq_iff_eq.1 hs0_; omega, fun h => by omega⟩)) | (have hgt_ : decide (c0.byteV > 0) = false := by (rw [← hs1_]; exact decide_eq_decide.2 ⟨fun h => by have := beq_iff_eq.1 hs0_; omega, fun h => by omega⟩)) | skip
        first | (have hgt2_ : decide (0 < c0.byteV) = true := by (rw [← hs1_]; exact decide_eq_decide.2 ⟨fun h => by have := beq_iff_eq.1 hs0_; omega, fun h => by omega⟩)) | (have hgt2_ : decide (0 < c0.byteV) = false := by (rw [← hs1_]; exact decide_eq_decide.2 ⟨fun h => by have := beq_iff_eq.1 hs0_; omega, fun h => by omega⟩)) | skip
        have EB_ := Aside0.mk eb_
        clear eb_
        go_wp2_with (first | (go_at_call 25; (with_reducible refine (QS.St.need HP.out (false) 5).mono ?_); rintro en x2 ⟨rfl, hp_⟩; have n0_ := Aside0.mk hp_; clear HP hp_; have HP := n0_; clear n0_))
        go_meet
        rw [Ec2.out, EB_.out]
        exact HP
    | false =>
      have hs0a_ : (c0.byteV % 2 != 0) = true := by first | exact hs0_ | (rw [bne, hs0_]; rfl) | (have := hs0_; rw [bne] at this; simpa using this)
      have hs0t_ : (Int.tmod c0.byteV 2 == 0) = false := by rw [Int.tmod_eq_emod_of_nonneg (by omega)]; exact hs0_
      have eb_ : (c0.byteV % 2 == 0 && (decide (2 ≤ c0.byteV) && decide (c0.byteV ≤ 250))) = (false) := by first | (simp only [hs0_]; first | rfl | (simp; done)) | (simp [hs0_]; done) | (simp only [bne, hs0_]; first | rfl | (simp; done))
      first | (have hgt_ : decide (c0.byteV > 0) = true := by (rw [← hs1_]; exact decide_eq_decide.2 ⟨fun h => by have := beq_iff_eq.1 hs0_; omega, fun h => by omega⟩)) | (have hgt_ : decide (c0.byteV > 0) = false := by (rw [← hs1_]; exact decide_eq_decide.2 ⟨fun h => by have := beq_iff_eq.1 hs0_; omega, fun h => by omega⟩)) | skip
      first | (have hgt2_ : decide (0 < c0.byteV) = true := by (rw [← hs1_]; exact decide_eq_decide.2 ⟨fun h => by have := beq_iff_eq.1 hs0_; omega, fun h => by omega⟩)) | (have hgt2_ : decide (0 < c0.byteV) = false := by (rw [← hs1_]; exact decide_eq_decide.2 ⟨fun h => by have := beq_iff_eq.1 hs0_; omega, fun h => by omega⟩)) | skip
      have EB_ := Aside0.mk eb_
      clear eb_
      go_wp2_with (first | (go_at_call 25; (with_reducible refine (QS.St.need HP.out (false) 5).mono ?_); rintro en x2 ⟨rfl, hp_⟩; have n0_ := Aside0.mk hp_; clear HP hp_; have HP := n0_; clear n0_))
      go_meet
      rw [Ec2.out, EB_.out]
      exact HP
  case rest =>
  clear HP
  have HP := hcut
  clear hcut
  have HBY := Aside0.mk (Cu.wordsV_bd (QS.St.good HP.out) (c0.byteV / 2))
  go_upto_region 43 with (first | (go_at_call 26; (with_reducible refine (QS.St.words HP.out (c0.byteV / 2)).mono ?_); rintro en x3 ⟨A5, n5, rfl, hz_, hr_, hp_⟩; obtain ⟨c3, ec_⟩ : ∃ z, z = c2.wordsS (c0.byteV / 2) := ⟨_, rfl⟩; rw [← ec_] at hp_; have Ec3 := Aside0.mk ec_; clear ec_; have R5 := Aside0.mk hr_; have R5z := Aside0.mk hz_; clear hr_ hz_; have n0_ := Aside0.mk hp_; clear HP hp_; have HP := n0_; clear n0_; obtain ⟨Aw, nw, kw, fw⟩ := QS.St.at_words HP.out))
  have hp_ := HP.out.put_words R5z.out HBY.out R5.out
  have n0_ := Aside0.mk hp_
  clear HP hp_
  have HP := n0_
  clear n0_
  have eq_ : bodyR 1 m0 c0 = (c3, { m0 with words := c2.wordsV (c0.byteV / 2) }) := by
    unfold bodyR
    rw [if_pos (by have := HMC.out; omega)]
    rw [if_neg (by decide)]
    rw [Ec3.out, Ec2.out, Ec1.out]
    rfl
  obtain ⟨cb, e_⟩ : ∃ z, z = bodyR 1 m0 c0 := ⟨_, rfl⟩
  have EBD := Aside0.mk e_
  rw [eq_] at e_
  obtain ⟨c9, m9⟩ := cb
  obtain ⟨e1_, e2_⟩ := Prod.mk.inj e_
  rw [← e1_, ← e2_] at HP
  clear e_ e1_ e2_ eq_
  go_upto_region 44 with (first | (go_at_call 29; (with_reducible refine (QS.St.fin HP.out).mono ?_); rintro en x61 ⟨rfl, hp_⟩; obtain ⟨c10, ec_⟩ : ∃ z, z = c9.fin := ⟨_, rfl⟩; rw [← ec_] at hp_; have Ec10 := Aside0.mk ec_; clear ec_; have n0_ := Aside0.mk hp_; clear HP hp_; have HP := n0_; clear n0_))
  have he1 : parse 1 4 l = if c10.e ≠ 0 then (zeroM, c10.e) else (m9, 0) := by
    have e2 : bodyR 1 m0 (cu l) = (c9, m9) := by rw [EBD.out, Ec0.out]; rfl
    unfold parse
    rw [if_neg (by decide), if_neg (by decide), ← HM0.out, e2, Ec10.out]
  obtain ⟨v0, v1, v2, hbk⟩ := QS.St.blk HP.out
  have ke := (RCur.cells4 hbk).1.2.2.2
  have HBK := Aside0.mk hbk
  have HNE := Aside0.mk HP.out.h2.2.1
  clear hbk
  by_cases h9 : c10.e = 0
  · have ex_ : parse 1 4 l = (m9, 0) := by rw [he1, if_neg (fun h => h h9)]
    have EX := Aside0.mk ex_
    have g1 : (c10.e != 0) = false := by rw [h9]; rfl
    have g2 : (c10.e == 0) = true := by rw [h9]; rfl
    clear h9 ex_ he1
    obtain ⟨cx, h_, hz_, hm_⟩ := QS.St.held2 HP.out
    have H := Aside0.mk h_
    have HZ := Aside0.mk hz_
    have HM := Aside0.mk hm_
    have HB := Aside0.mk HP.out.b
    clear h_ hz_ hm_ HP
    go_wp2_with (first | ((with_reducible refine gate_dst (N := 220) rfl ?_); refine ev_load (x := .tmp 9) rfl rfl rfl H.out (i := 1) rfl (HZ.out) ?_) | ((with_reducible refine gate_op (u := .store 30 (.tmp 6) (.tmp 220)) rfl ?_); refine ev_store rfl rfl rfl rfl H.out (i := 0) rfl rfl (HM.out _ ⟨rfl, rfl, rfl, Kept.refl _ _⟩) ?_; intro x91 h3_ h4_; have HE := Aside0.mk (HM.out _ h4_); clear h4_; have n0_ := Aside0.mk (h3_); clear H; have H := n0_; clear n0_; clear h3_))
    refine bodyPost_ret (results_ct rfl _ _ gr 30 _ (0, 0) _ rfl (H.out.at 0 rfl) Try.underlying30 rfl (msg_info (HZ.out))) rfl (by rw [EX.out]; exact ⟨_, rfl, HE.out, H.out.b⟩)
  · have ex_ : parse 1 4 l = (zeroM, c10.e) := by rw [he1, if_pos h9]
    have EX := Aside0.mk ex_
    have g1 : (c10.e != 0) = true := by simpa using h9
    have g2 : (c10.e == 0) = false := by simpa using h9
    clear h9 ex_ he1
    have H := Aside0.mk (QS.St.held HP.out)
    clear HP
    go_upto_region 45 with (fail)
    clear ke
    refine start_ (n := 7) (S := fun w' => w'.cell? ⟨g, 3, none⟩ = some (.int .i64 c10.e) ∧ Aside0 (Held w0 [(gr, zeroC)] w')) (ds := []) (bm 7 0) (by as_aux_lemma => kernel_rfl) rfl (by as_aux_lemma => kernel_rfl) ⟨((RCur.cells4 (blk_drew HBK.out)).1.2.2.2), (Aside0.mk H.out.drew)⟩ (fun hHeld => ?_)
    refine with_tabW rparse9.tab45 rparse9.bits45 (fun HT_ HW_ => ?_)
    refine pu_ 0 (some 215) (bm 7 1) HT_ (by as_aux_lemma => kernel_rfl) rfl rfl (fun _ _ _ h => h) (by rfl) (by intro w'; go_simp; with_reducible rfl) (by go_simp; rfl) ?_
    refine pu_ 1 (some 216) (bm 7 3) HT_ (by as_aux_lemma => kernel_rfl) rfl rfl (fun _ _ _ h => h) (by rfl) (by intro w'; go_simp; with_reducible rfl) (by go_simp; rfl) ?_
    refine pu_ 2 (some 217) (bm 7 7) HT_ (by as_aux_lemma => kernel_rfl) rfl rfl (fun _ _ _ h => h) (by rfl) (by intro w'; go_simp; with_reducible rfl) (by go_simp; rfl) ?_
    refine pu_ 3 (some 218) (bm 7 15) HT_ (by as_aux_lemma => kernel_rfl) rfl rfl (fun _ _ _ h => h) (by rfl) (by intro w'; go_simp; with_reducible rfl) (by go_simp; rfl) ?_
    refine tk_ 4 (some 219) (bm 7 31) HT_ HW_ hHeld (by as_aux_lemma => kernel_rfl) rfl rfl (fun _ _ _ h => h) (by rfl) (by rintro w' ⟨s0, s1⟩; go_simp; with_reducible rfl) (by go_simp; rfl) ?_
    refine one_ (i := 5) (N := none) (bm 7 63) rfl rfl (one_of HT_.out (by as_aux_lemma => kernel_rfl)) (by as_aux_lemma => decide) (fun K hK => ?_)
    have Hd_ := Aside0.mk H.out.drew
    clear H
    have H := Hd_
    clear Hd_
    refine store_ (x := .tmp 6) (y := .tmp 215) (by rfl) rfl rfl rfl rfl H.out (i := 0) rfl (rfl) (zero_is w0) ?_
    intro x97 h3_ h4_
    have ke3 := (RCur.cells4 (blk_kept (blk_drew HBK.out) h4_.kept (fun e => HNE.out e.symm))).1.2.2.2
    have n0_ := Aside0.mk (h3_); clear H; have H := n0_; clear n0_; clear h3_ h4_
    refine hK.out _ _ ⟨ke3, H⟩ (fun hHeld => ?_)
    clear hK K
    refine pu_ 6 (some 7) (bm 7 127) HT_ (by as_aux_lemma => kernel_rfl) rfl rfl (fun _ _ _ h => h) (by rfl) (by intro w'; go_simp; with_reducible rfl) (by go_simp; rfl) ?_
    refine done_ (done_of HT_.out (by as_aux_lemma => kernel_rfl)) ?_
    go_wp2
    refine bodyPost_ret (results_ct rfl _ _ gr 30 _ (0, 0) _ rfl (H.out.at 0 rfl) Try.underlying30 rfl (msg_info (rfl))) rfl (by rw [EX.out]; exact ⟨_, rfl, zero_is _, H.out.b⟩)
theorem parse_1_6 {A : Option Addr} {c : Nat} {l : List Int} {w0 : World} (hr : Kd.C (Kd.int .u8) w0 A l.length l) (hc : l.length ≤ c) (hs : l.length ≤ 1000000) (hb : isBytes l) :
    Calls Try.prog 13 #[.int .i64 1, .int .u8 6, .slice A l.length c] w0 fun en w' => ∃ cx, en = .returned (.tuple #[.agg cx, .int .i64 (parse 1 6 l).2]) ∧ IsMsg w' cx (parse 1 6 l).1 ∧ Below w0.heap.size w0 w' := by
  have HR := Aside0.mk hr
  have HC := Aside0.mk hc
  have HS := Aside0.mk hs
  have HBB := Aside0.mk hb
  clear hr hc hs hb
  go_enter Try.func13, Try.ntmps13
  go_upto_region 3 with (first | ((with_reducible refine gate_dst (N := 6) rfl ?_); refine ev_alloc rfl rfl ?_; intro gr w1 hg_ h1_ h2_; have HG_ := Aside0.mk hg_; have H1 := Aside0.mk h1_; have H2 := Aside0.mk h2_; clear hg_ h1_ h2_))
  go_upto_region 4 with (first | ((with_reducible refine gate_dst (N := 25) rfl ?_); refine QS.ev_cur rfl rfl rfl ?_; intro g w2 q1_ q2_; have HP := Aside0.mk (QS.Nw.first HR.out HC.out HS.out HBB.out HG_.out H1.out H2.out q1_ q2_); clear q1_ q2_ H1 H2 HG_))
  obtain ⟨c0, e_⟩ : ∃ z, z = (⟨l, false, 0⟩ : Cu) := ⟨_, rfl⟩
  rw [← e_] at HP
  have Ec0 := Aside0.mk e_
  clear e_
  go_upto_region 6 with (first | ((with_reducible refine gate_dst (N := 27) rfl ?_); refine ev_build ((zeroC.setIfInBounds 0 (.int .u8 (6)))) rfl (by go_simp; first | rfl | done) ?_; intro cx hcx_; have M := Aside0.mk (show ∀ W, IsMsg W cx _ from fun W => by rw [hcx_]; exact (fun W => set_code (zero_is W) (v := 6) (by decide)) W); have NL := Aside0.mk (show NilL cx by rw [hcx_]; exact (QS.zero_nil.set (by decide))); clear hcx_) | ((with_reducible refine gate_dst (N := 9) rfl ?_); refine ev_var (y := .tmp 27) rfl rfl rfl rfl rfl (M.out w0) rfl rfl ?_; intro gm w4 hg_ h1_ hb_; have hp_ := QS.Nw.new HP.out hg_ h1_ hb_ M.out NL.out; clear h1_ hb_ hg_; have n0_ := Aside0.mk hp_; clear HP hp_; have HP := n0_; clear n0_))
  clear HR HC HS HBB M NL
  obtain ⟨m0, hm0⟩ : ∃ z, z = ({ zeroM with code := 6 } : Msg) := ⟨_, rfl⟩
  replace HP : Aside0 (QS.St w0 gr g gm w4 c0 { zeroM with code := 6 }) := HP
  rw [← hm0] at HP
  have HM0 := Aside0.mk hm0
  clear hm0
  have HMC := Aside0.mk (show m0.code = 6 by rw [HM0.out])
  go_upto_region 14 with (fail)
  go_upto_region 15 with (first | (go_at_call 27; obtain ⟨l0, h0⟩ := Cu.wordV_bd (QS.St.good HP.out); (with_reducible refine (QS.St.word HP.out).mono ?_); rintro en x1 ⟨rfl, hp_⟩; obtain ⟨c1, ec_⟩ : ∃ z, z = c0.wordS := ⟨_, rfl⟩; rw [← ec_] at hp_; have Ec1 := Aside0.mk ec_; clear ec_; obtain ⟨kaddr, faddr⟩ := QS.St.at_addr hp_; have n0_ := Aside0.mk hp_; clear HP hp_; have HP := n0_; clear n0_))
  have hp_ := HP.out.put_addr ⟨l0, h0⟩
  have n0_ := Aside0.mk hp_
  clear HP hp_
  have HP := n0_
  clear n0_
  clear kaddr faddr
  go_upto_region 43 with (first | (go_at_call 27; obtain ⟨l1, h1⟩ := Cu.wordV_bd (QS.St.good HP.out); (with_reducible refine (QS.St.word HP.out).mono ?_); rintro en x2 ⟨rfl, hp_⟩; obtain ⟨c2, ec_⟩ : ∃ z, z = c1.wordS := ⟨_, rfl⟩; rw [← ec_] at hp_; have Ec2 := Aside0.mk ec_; clear ec_; obtain ⟨kvalue, fvalue⟩ := QS.St.at_value hp_; have n0_ := Aside0.mk hp_; clear HP hp_; have HP := n0_; clear n0_))
  have hp_ := HP.out.put_value ⟨l1, h1⟩
  have n0_ := Aside0.mk hp_
  clear HP hp_
  have HP := n0_
  clear n0_
  clear kvalue fvalue
  have eq_ : bodyR 1 m0 c0 = (c2, { m0 with addr := c0.wordV, value := c1.wordV }) := by
    unfold bodyR
    rw [if_neg (by have := HMC.out; omega)]
    rw [if_pos (by have := HMC.out; omega)]
    rw [Ec2.out, Ec1.out]
    rfl
  obtain ⟨cb, e_⟩ : ∃ z, z = bodyR 1 m0 c0 := ⟨_, rfl⟩
  have EBD := Aside0.mk e_
  rw [eq_] at e_
  obtain ⟨c9, m9⟩ := cb
  obtain ⟨e1_, e2_⟩ := Prod.mk.inj e_
  rw [← e1_, ← e2_] at HP
  clear e_ e1_ e2_ eq_
  go_upto_region 44 with (first | (go_at_call 29; (with_reducible refine (QS.St.fin HP.out).mono ?_); rintro en x61 ⟨rfl, hp_⟩; obtain ⟨c10, ec_⟩ : ∃ z, z = c9.fin := ⟨_, rfl⟩; rw [← ec_] at hp_; have Ec10 := Aside0.mk ec_; clear ec_; have n0_ := Aside0.mk hp_; clear HP hp_; have HP := n0_; clear n0_))
  have he1 : parse 1 6 l = if c10.e ≠ 0 then (zeroM, c10.e) else (m9, 0) := by
    have e2 : bodyR 1 m0 (cu l) = (c9, m9) := by rw [EBD.out, Ec0.out]; rfl
    unfold parse
    rw [if_neg (by decide), if_neg (by decide), ← HM0.out, e2, Ec10.out]
  obtain ⟨v0, v1, v2, hbk⟩ := QS.St.blk HP.out
  have ke := (RCur.cells4 hbk).1.2.2.2
  have HBK := Aside0.mk hbk
  have HNE := Aside0.mk HP.out.h2.2.1
  clear hbk
  by_cases h9 : c10.e = 0
  · have ex_ : parse 1 6 l = (m9, 0) := by rw [he1, if_neg (fun h => h h9)]
    have EX := Aside0.mk ex_
    have g1 : (c10.e != 0) = false := by rw [h9]; rfl
    have g2 : (c10.e == 0) = true := by rw [h9]; rfl
    clear h9 ex_ he1
    obtain ⟨cx, h_, hz_, hm_⟩ := QS.St.held2 HP.out
    have H := Aside0.mk h_
    have HZ := Aside0.mk hz_
    have HM := Aside0.mk hm_
    have HB := Aside0.mk HP.out.b
    clear h_ hz_ hm_ HP
    go_wp2_with (first | ((with_reducible refine gate_dst (N := 220) rfl ?_); refine ev_load (x := .tmp 9) rfl rfl rfl H.out (i := 1) rfl (HZ.out) ?_) | ((with_reducible refine gate_op (u := .store 30 (.tmp 6) (.tmp 220)) rfl ?_); refine ev_store rfl rfl rfl rfl H.out (i := 0) rfl rfl (HM.out _ ⟨rfl, rfl, rfl, Kept.refl _ _⟩) ?_; intro x91 h3_ h4_; have HE := Aside0.mk (HM.out _ h4_); clear h4_; have n0_ := Aside0.mk (h3_); clear H; have H := n0_; clear n0_; clear h3_))
    refine bodyPost_ret (results_ct rfl _ _ gr 30 _ (0, 0) _ rfl (H.out.at 0 rfl) Try.underlying30 rfl (msg_info (HZ.out))) rfl (by rw [EX.out]; exact ⟨_, rfl, HE.out, H.out.b⟩)
  · have ex_ : parse 1 6 l = (zeroM, c10.e) := by rw [he1, if_pos h9]
    have EX := Aside0.mk ex_
    have g1 : (c10.e != 0) = true := by simpa using h9
    have g2 : (c10.e == 0) = false := by simpa using h9
    clear h9 ex_ he1
    have H := Aside0.mk (QS.St.held HP.out)
    clear HP
    go_upto_region 45 with (fail)
    clear ke
    refine start_ (n := 7) (S := fun w' => w'.cell? ⟨g, 3, none⟩ = some (.int .i64 c10.e) ∧ Aside0 (Held w0 [(gr, zeroC)] w')) (ds := []) (bm 7 0) (by as_aux_lemma => kernel_rfl) rfl (by as_aux_lemma => kernel_rfl) ⟨((RCur.cells4 (blk_drew HBK.out)).1.2.2.2), (Aside0.mk H.out.drew)⟩ (fun hHeld => ?_)
    refine with_tabW rparse9.tab45 rparse9.bits45 (fun HT_ HW_ => ?_)
    refine pu_ 0 (some 215) (bm 7 1) HT_ (by as_aux_lemma => kernel_rfl) rfl rfl (fun _ _ _ h => h) (by rfl) (by intro w'; go_simp; with_reducible rfl) (by go_simp; rfl) ?_
    refine pu_ 1 (some 216) (bm 7 3) HT_ (by as_aux_lemma => kernel_rfl) rfl rfl (fun _ _ _ h => h) (by rfl) (by intro w'; go_simp; with_reducible rfl) (by go_simp; rfl) ?_
    refine pu_ 2 (some 217) (bm 7 7) HT_ (by as_aux_lemma => kernel_rfl) rfl rfl (fun _ _ _ h => h) (by rfl) (by intro w'; go_simp; with_reducible rfl) (by go_simp; rfl) ?_
    refine pu_ 3 (some 218) (bm 7 15) HT_ (by as_aux_lemma => kernel_rfl) rfl rfl (fun _ _ _ h => h) (by rfl) (by intro w'; go_simp; with_reducible rfl) (by go_simp; rfl) ?_
    refine tk_ 4 (some 219) (bm 7 31) HT_ HW_ hHeld (by as_aux_lemma => kernel_rfl) rfl rfl (fun _ _ _ h => h) (by rfl) (by rintro w' ⟨s0, s1⟩; go_simp; with_reducible rfl) (by go_simp; rfl) ?_
    refine one_ (i := 5) (N := none) (bm 7 63) rfl rfl (one_of HT_.out (by as_aux_lemma => kernel_rfl)) (by as_aux_lemma => decide) (fun K hK => ?_)
    have Hd_ := Aside0.mk H.out.drew
    clear H
    have H := Hd_
    clear Hd_
    refine store_ (x := .tmp 6) (y := .tmp 215) (by rfl) rfl rfl rfl rfl H.out (i := 0) rfl (rfl) (zero_is w0) ?_
    intro x97 h3_ h4_
    have ke3 := (RCur.cells4 (blk_kept (blk_drew HBK.out) h4_.kept (fun e => HNE.out e.symm))).1.2.2.2
    have n0_ := Aside0.mk (h3_); clear H; have H := n0_; clear n0_; clear h3_ h4_
    refine hK.out _ _ ⟨ke3, H⟩ (fun hHeld => ?_)
    clear hK K
    refine pu_ 6 (some 7) (bm 7 127) HT_ (by as_aux_lemma => kernel_rfl) rfl rfl (fun _ _ _ h => h) (by rfl) (by intro w'; go_simp; with_reducible rfl) (by go_simp; rfl) ?_
    refine done_ (done_of HT_.out (by as_aux_lemma => kernel_rfl)) ?_
    go_wp2
    refine bodyPost_ret (results_ct rfl _ _ gr 30 _ (0, 0) _ rfl (H.out.at 0 rfl) Try.underlying30 rfl (msg_info (rfl))) rfl (by rw [EX.out]; exact ⟨_, rfl, zero_is _, H.out.b⟩)
theorem parse_1_16 {A : Option Addr} {c : Nat} {l : List Int} {w0 : World} (hr : Kd.C (Kd.int .u8) w0 A l.length l) (hc : l.length ≤ c) (hs : l.length ≤ 1000000) (hb : isBytes l) :
    Calls Try.prog 13 #[.int .i64 1, .int .u8 16, .slice A l.length c] w0 fun en w' => ∃ cx, en = .returned (.tuple #[.agg cx, .int .i64 (parse 1 16 l).2]) ∧ IsMsg w' cx (parse 1 16 l).1 ∧ Below w0.heap.size w0 w' := by
  have HR := Aside0.mk hr
  have HC := Aside0.mk hc
  have HS := Aside0.mk hs
  have HBB := Aside0.mk hb
  clear hr hc hs hb
  go_enter Try.func13, Try.ntmps13
  go_upto_region 3 with (first | ((with_reducible refine gate_dst (N := 6) rfl ?_); refine ev_alloc rfl rfl ?_; intro gr w1 hg_ h1_ h2_; have HG_ := Aside0.mk hg_; have H1 := Aside0.mk h1_; have H2 := Aside0.mk h2_; clear hg_ h1_ h2_))
  go_upto_region 4 with (first | ((with_reducible refine gate_dst (N := 25) rfl ?_); refine QS.ev_cur rfl rfl rfl ?_; intro g w2 q1_ q2_; have HP := Aside0.mk (QS.Nw.first HR.out HC.out HS.out HBB.out HG_.out H1.out H2.out q1_ q2_); clear q1_ q2_ H1 H2 HG_))
  obtain ⟨c0, e_⟩ : ∃ z, z = (⟨l, false, 0⟩ : Cu) := ⟨_, rfl⟩
  rw [← e_] at HP
  have Ec0 := Aside0.mk e_
  clear e_
  go_upto_region 6 with (first | ((with_reducible refine gate_dst (N := 27) rfl ?_); refine ev_build ((zeroC.setIfInBounds 0 (.int .u8 (16)))) rfl (by go_simp; first | rfl | done) ?_; intro cx hcx_; have M := Aside0.mk (show ∀ W, IsMsg W cx _ from fun W => by rw [hcx_]; exact (fun W => set_code (zero_is W) (v := 16) (by decide)) W); have NL := Aside0.mk (show NilL cx by rw [hcx_]; exact (QS.zero_nil.set (by decide))); clear hcx_) | ((with_reducible refine gate_dst (N := 9) rfl ?_); refine ev_var (y := .tmp 27) rfl rfl rfl rfl rfl (M.out w0) rfl rfl ?_; intro gm w4 hg_ h1_ hb_; have hp_ := QS.Nw.new HP.out hg_ h1_ hb_ M.out NL.out; clear h1_ hb_ hg_; have n0_ := Aside0.mk hp_; clear HP hp_; have HP := n0_; clear n0_))
  clear HR HC HS HBB M NL
  obtain ⟨m0, hm0⟩ : ∃ z, z = ({ zeroM with code := 16 } : Msg) := ⟨_, rfl⟩
  replace HP : Aside0 (QS.St w0 gr g gm w4 c0 { zeroM with code := 16 }) := HP
  rw [← hm0] at HP
  have HM0 := Aside0.mk hm0
  clear hm0
  have HMC := Aside0.mk (show m0.code = 16 by rw [HM0.out])
  go_upto_region 17 with (fail)
  go_upto_region 18 with (first | (go_at_call 27; obtain ⟨l0, h0⟩ := Cu.wordV_bd (QS.St.good HP.out); (with_reducible refine (QS.St.word HP.out).mono ?_); rintro en x1 ⟨rfl, hp_⟩; obtain ⟨c1, ec_⟩ : ∃ z, z = c0.wordS := ⟨_, rfl⟩; rw [← ec_] at hp_; have Ec1 := Aside0.mk ec_; clear ec_; obtain ⟨kaddr, faddr⟩ := QS.St.at_addr hp_; have n0_ := Aside0.mk hp_; clear HP hp_; have HP := n0_; clear n0_))
  have hp_ := HP.out.put_addr ⟨l0, h0⟩
  have n0_ := Aside0.mk hp_
  clear HP hp_
  have HP := n0_
  clear n0_
  clear kaddr faddr
  obtain ⟨kaddr, faddr⟩ := QS.St.at_addr HP.out
  obtain ⟨ln1, hn1⟩ := spanR_bd (QS.St.good HP.out) 123 c0.wordV
  have wu1 : IntKind.u16.wrap (spanR 123 c0.wordV c1).2 = (spanR 123 c0.wordV c1).2 := by rw [IntKind.wrap_u16]; omega
  go_upto_region 43 with (first | (go_at_call 28; (with_reducible refine (span_any HP.out ⟨l0, h0⟩ 123).mono ?_); rintro en x2 ⟨rfl, hp_⟩; obtain ⟨c2, ec_⟩ : ∃ z, z = (spanR 123 c0.wordV c1).1 := ⟨_, rfl⟩; rw [← ec_] at hp_; have Ec2 := Aside0.mk ec_; clear ec_; obtain ⟨kcount, fcount⟩ := QS.St.at_count hp_; have n0_ := Aside0.mk hp_; clear HP hp_; have HP := n0_; clear n0_))
  have hp_ := HP.out.put_count ⟨ln1, hn1⟩
  have n0_ := Aside0.mk hp_
  clear HP hp_
  have HP := n0_
  clear n0_
  clear kaddr faddr kcount fcount
  have eq_ : bodyR 1 m0 c0 = (c2, { m0 with addr := c0.wordV, count := (spanR 123 c0.wordV c1).2 }) := by
    unfold bodyR
    rw [if_neg (by have := HMC.out; omega)]
    rw [if_neg (by have := HMC.out; omega)]
    rw [if_pos (by have := HMC.out; omega)]
    rw [if_neg (by decide)]
    rw [Ec2.out, Ec1.out]
    rfl
  obtain ⟨cb, e_⟩ : ∃ z, z = bodyR 1 m0 c0 := ⟨_, rfl⟩
  have EBD := Aside0.mk e_
  rw [eq_] at e_
  obtain ⟨c9, m9⟩ := cb
  obtain ⟨e1_, e2_⟩ := Prod.mk.inj e_
  rw [← e1_, ← e2_] at HP
  clear e_ e1_ e2_ eq_
  go_upto_region 44 with (first | (go_at_call 29; (with_reducible refine (QS.St.fin HP.out).mono ?_); rintro en x61 ⟨rfl, hp_⟩; obtain ⟨c10, ec_⟩ : ∃ z, z = c9.fin := ⟨_, rfl⟩; rw [← ec_] at hp_; have Ec10 := Aside0.mk ec_; clear ec_; have n0_ := Aside0.mk hp_; clear HP hp_; have HP := n0_; clear n0_))
  have he1 : parse 1 16 l = if c10.e ≠ 0 then (zeroM, c10.e) else (m9, 0) := by
    have e2 : bodyR 1 m0 (cu l) = (c9, m9) := by rw [EBD.out, Ec0.out]; rfl
    unfold parse
    rw [if_neg (by decide), if_neg (by decide), ← HM0.out, e2, Ec10.out]
  obtain ⟨v0, v1, v2, hbk⟩ := QS.St.blk HP.out
  have ke := (RCur.cells4 hbk).1.2.2.2
  have HBK := Aside0.mk hbk
  have HNE := Aside0.mk HP.out.h2.2.1
  clear hbk
  by_cases h9 : c10.e = 0
  · have ex_ : parse 1 16 l = (m9, 0) := by rw [he1, if_neg (fun h => h h9)]
    have EX := Aside0.mk ex_
    have g1 : (c10.e != 0) = false := by rw [h9]; rfl
    have g2 : (c10.e == 0) = true := by rw [h9]; rfl
    clear h9 ex_ he1
    obtain ⟨cx, h_, hz_, hm_⟩ := QS.St.held2 HP.out
    have H := Aside0.mk h_
    have HZ := Aside0.mk hz_
    have HM := Aside0.mk hm_
    have HB := Aside0.mk HP.out.b
    clear h_ hz_ hm_ HP
    go_wp2_with (first | ((with_reducible refine gate_dst (N := 220) rfl ?_); refine ev_load (x := .tmp 9) rfl rfl rfl H.out (i := 1) rfl (HZ.out) ?_) | ((with_reducible refine gate_op (u := .store 30 (.tmp 6) (.tmp 220)) rfl ?_); refine ev_store rfl rfl rfl rfl H.out (i := 0) rfl rfl (HM.out _ ⟨rfl, rfl, rfl, Kept.refl _ _⟩) ?_; intro x91 h3_ h4_; have HE := Aside0.mk (HM.out _ h4_); clear h4_; have n0_ := Aside0.mk (h3_); clear H; have H := n0_; clear n0_; clear h3_))
    refine bodyPost_ret (results_ct rfl _ _ gr 30 _ (0, 0) _ rfl (H.out.at 0 rfl) Try.underlying30 rfl (msg_info (HZ.out))) rfl (by rw [EX.out]; exact ⟨_, rfl, HE.out, H.out.b⟩)
  · have ex_ : parse 1 16 l = (zeroM, c10.e) := by rw [he1, if_pos h9]
    have EX := Aside0.mk ex_
    have g1 : (c10.e != 0) = true := by simpa using h9
    have g2 : (c10.e == 0) = false := by simpa using h9
    clear h9 ex_ he1
    have H := Aside0.mk (QS.St.held HP.out)
    clear HP
    go_upto_region 45 with (fail)
    clear ke
    refine start_ (n := 7) (S := fun w' => w'.cell? ⟨g, 3, none⟩ = some (.int .i64 c10.e) ∧ Aside0 (Held w0 [(gr, zeroC)] w')) (ds := []) (bm 7 0) (by as_aux_lemma => kernel_rfl) rfl (by as_aux_lemma => kernel_rfl) ⟨((RCur.cells4 (blk_drew HBK.out)).1.2.2.2), (Aside0.mk H.out.drew)⟩ (fun hHeld => ?_)
    refine with_tabW rparse9.tab45 rparse9.bits45 (fun HT_ HW_ => ?_)
    refine pu_ 0 (some 215) (bm 7 1) HT_ (by as_aux_lemma => kernel_rfl) rfl rfl (fun _ _ _ h => h) (by rfl) (by intro w'; go_simp; with_reducible rfl) (by go_simp; rfl) ?_
    refine pu_ 1 (some 216) (bm 7 3) HT_ (by as_aux_lemma => kernel_rfl) rfl rfl (fun _ _ _ h => h) (by rfl) (by intro w'; go_simp; with_reducible rfl) (by go_simp; rfl) ?_
    refine pu_ 2 (some 217) (bm 7 7) HT_ (by as_aux_lemma => kernel_rfl) rfl rfl (fun _ _ _ h => h) (by rfl) (by intro w'; go_simp; with_reducible rfl) (by go_simp; rfl) ?_
    refine pu_ 3 (some 218) (bm 7 15) HT_ (by as_aux_lemma => kernel_rfl) rfl rfl (fun _ _ _ h => h) (by rfl) (by intro w'; go_simp; with_reducible rfl) (by go_simp; rfl) ?_
    refine tk_ 4 (some 219) (bm 7 31) HT_ HW_ hHeld (by as_aux_lemma => kernel_rfl) rfl rfl (fun _ _ _ h => h) (by rfl) (by rintro w' ⟨s0, s1⟩; go_simp; with_reducible rfl) (by go_simp; rfl) ?_
    refine one_ (i := 5) (N := none) (bm 7 63) rfl rfl (one_of HT_.out (by as_aux_lemma => kernel_rfl)) (by as_aux_lemma => decide) (fun K hK => ?_)
    have Hd_ := Aside0.mk H.out.drew
    clear H
    have H := Hd_
    clear Hd_
    refine store_ (x := .tmp 6) (y := .tmp 215) (by rfl) rfl rfl rfl rfl H.out (i := 0) rfl (rfl) (zero_is w0) ?_
    intro x97 h3_ h4_
    have ke3 := (RCur.cells4 (blk_kept (blk_drew HBK.out) h4_.kept (fun e => HNE.out e.symm))).1.2.2.2
    have n0_ := Aside0.mk (h3_); clear H; have H := n0_; clear n0_; clear h3_ h4_
    refine hK.out _ _ ⟨ke3, H⟩ (fun hHeld => ?_)
    clear hK K
    refine pu_ 6 (some 7) (bm 7 127) HT_ (by as_aux_lemma => kernel_rfl) rfl rfl (fun _ _ _ h => h) (by rfl) (by intro w'; go_simp; with_reducible rfl) (by go_simp; rfl) ?_
    refine done_ (done_of HT_.out (by as_aux_lemma => kernel_rfl)) ?_
    go_wp2
    refine bodyPost_ret (results_ct rfl _ _ gr 30 _ (0, 0) _ rfl (H.out.at 0 rfl) Try.underlying30 rfl (msg_info (rfl))) rfl (by rw [EX.out]; exact ⟨_, rfl, zero_is _, H.out.b⟩)
theorem parse_1_22 {A : Option Addr} {c : Nat} {l : List Int} {w0 : World} (hr : Kd.C (Kd.int .u8) w0 A l.length l) (hc : l.length ≤ c) (hs : l.length ≤ 1000000) (hb : isBytes l) :
    Calls Try.prog 13 #[.int .i64 1, .int .u8 22, .slice A l.length c] w0 fun en w' => ∃ cx, en = .returned (.tuple #[.agg cx, .int .i64 (parse 1 22 l).2]) ∧ IsMsg w' cx (parse 1 22 l).1 ∧ Below w0.heap.size w0 w' := by
  have HR := Aside0.mk hr
  have HC := Aside0.mk hc
  have HS := Aside0.mk hs
  have HBB := Aside0.mk hb
  clear hr hc hs hb
  go_enter Try.func13, Try.ntmps13
  go_upto_region 3 with (first | ((with_reducible refine gate_dst (N := 6) rfl ?_); refine ev_alloc rfl rfl ?_; intro gr w1 hg_ h1_ h2_; have HG_ := Aside0.mk hg_; have H1 := Aside0.mk h1_; have H2 := Aside0.mk h2_; clear hg_ h1_ h2_))
  go_upto_region 4 with (first | ((with_reducible refine gate_dst (N := 25) rfl ?_); refine QS.ev_cur rfl rfl rfl ?_; intro g w2 q1_ q2_; have HP := Aside0.mk (QS.Nw.first HR.out HC.out HS.out HBB.out HG_.out H1.out H2.out q1_ q2_); clear q1_ q2_ H1 H2 HG_))
  obtain ⟨c0, e_⟩ : ∃ z, z = (⟨l, false, 0⟩ : Cu) := ⟨_, rfl⟩
  rw [← e_] at HP
  have Ec0 := Aside0.mk e_
  clear e_
  go_upto_region 6 with (first | ((with_reducible refine gate_dst (N := 27) rfl ?_); refine ev_build ((zeroC.setIfInBounds 0 (.int .u8 (22)))) rfl (by go_simp; first | rfl | done) ?_; intro cx hcx_; have M := Aside0.mk (show ∀ W, IsMsg W cx _ from fun W => by rw [hcx_]; exact (fun W => set_code (zero_is W) (v := 22) (by decide)) W); have NL := Aside0.mk (show NilL cx by rw [hcx_]; exact (QS.zero_nil.set (by decide))); clear hcx_) | ((with_reducible refine gate_dst (N := 9) rfl ?_); refine ev_var (y := .tmp 27) rfl rfl rfl rfl rfl (M.out w0) rfl rfl ?_; intro gm w4 hg_ h1_ hb_; have hp_ := QS.Nw.new HP.out hg_ h1_ hb_ M.out NL.out; clear h1_ hb_ hg_; have n0_ := Aside0.mk hp_; clear HP hp_; have HP := n0_; clear n0_))
  clear HR HC HS HBB M NL
  obtain ⟨m0, hm0⟩ : ∃ z, z = ({ zeroM with code := 22 } : Msg) := ⟨_, rfl⟩
  replace HP : Aside0 (QS.St w0 gr g gm w4 c0 { zeroM with code := 22 }) := HP
  rw [← hm0] at HP
  have HM0 := Aside0.mk hm0
  clear hm0
  have HMC := Aside0.mk (show m0.code = 22 by rw [HM0.out])
  go_upto_region 24 with (fail)
  go_upto_region 25 with (first | (go_at_call 27; obtain ⟨l0, h0⟩ := Cu.wordV_bd (QS.St.good HP.out); (with_reducible refine (QS.St.word HP.out).mono ?_); rintro en x1 ⟨rfl, hp_⟩; obtain ⟨c1, ec_⟩ : ∃ z, z = c0.wordS := ⟨_, rfl⟩; rw [← ec_] at hp_; have Ec1 := Aside0.mk ec_; clear ec_; obtain ⟨kaddr, faddr⟩ := QS.St.at_addr hp_; have n0_ := Aside0.mk hp_; clear HP hp_; have HP := n0_; clear n0_))
  have hp_ := HP.out.put_addr ⟨l0, h0⟩
  have n0_ := Aside0.mk hp_
  clear HP hp_
  have HP := n0_
  clear n0_
  clear kaddr faddr
  go_upto_region 26 with (first | (go_at_call 27; obtain ⟨l1, h1⟩ := Cu.wordV_bd (QS.St.good HP.out); (with_reducible refine (QS.St.word HP.out).mono ?_); rintro en x2 ⟨rfl, hp_⟩; obtain ⟨c2, ec_⟩ : ∃ z, z = c1.wordS := ⟨_, rfl⟩; rw [← ec_] at hp_; have Ec2 := Aside0.mk ec_; clear ec_; obtain ⟨kand, fand⟩ := QS.St.at_and hp_; have n0_ := Aside0.mk hp_; clear HP hp_; have HP := n0_; clear n0_))
  have hp_ := HP.out.put_and ⟨l1, h1⟩
  have n0_ := Aside0.mk hp_
  clear HP hp_
  have HP := n0_
  clear n0_
  clear kand fand
  go_upto_region 43 with (first | (go_at_call 27; obtain ⟨l2, h2⟩ := Cu.wordV_bd (QS.St.good HP.out); (with_reducible refine (QS.St.word HP.out).mono ?_); rintro en x3 ⟨rfl, hp_⟩; obtain ⟨c3, ec_⟩ : ∃ z, z = c2.wordS := ⟨_, rfl⟩; rw [← ec_] at hp_; have Ec3 := Aside0.mk ec_; clear ec_; obtain ⟨kor, f_or⟩ := QS.St.at_or hp_; have n0_ := Aside0.mk hp_; clear HP hp_; have HP := n0_; clear n0_))
  have hp_ := HP.out.put_or ⟨l2, h2⟩
  have n0_ := Aside0.mk hp_
  clear HP hp_
  have HP := n0_
  clear n0_
  clear kor f_or
  have eq_ : bodyR 1 m0 c0 = (c3, { m0 with addr := c0.wordV, and_ := c1.wordV, or_ := c2.wordV }) := by
    unfold bodyR
    rw [if_neg (by have := HMC.out; omega)]
    rw [if_neg (by have := HMC.out; omega)]
    rw [if_neg (by have := HMC.out; omega)]
    rw [if_pos (by have := HMC.out; omega)]
    rw [Ec3.out, Ec2.out, Ec1.out]
    rfl
  obtain ⟨cb, e_⟩ : ∃ z, z = bodyR 1 m0 c0 := ⟨_, rfl⟩
  have EBD := Aside0.mk e_
  rw [eq_] at e_
  obtain ⟨c9, m9⟩ := cb
  obtain ⟨e1_, e2_⟩ := Prod.mk.inj e_
  rw [← e1_, ← e2_] at HP
  clear e_ e1_ e2_ eq_
  go_upto_region 44 with (first | (go_at_call 29; (with_reducible refine (QS.St.fin HP.out).mono ?_); rintro en x61 ⟨rfl, hp_⟩; obtain ⟨c10, ec_⟩ : ∃ z, z = c9.fin := ⟨_, rfl⟩; rw [← ec_] at hp_; have Ec10 := Aside0.mk ec_; clear ec_; have n0_ := Aside0.mk hp_; clear HP hp_; have HP := n0_; clear n0_))
  have he1 : parse 1 22 l = if c10.e ≠ 0 then (zeroM, c10.e) else (m9, 0) := by
    have e2 : bodyR 1 m0 (cu l) = (c9, m9) := by rw [EBD.out, Ec0.out]; rfl
    unfold parse
    rw [if_neg (by decide), if_neg (by decide), ← HM0.out, e2, Ec10.out]
  obtain ⟨v0, v1, v2, hbk⟩ := QS.St.blk HP.out
  have ke := (RCur.cells4 hbk).1.2.2.2
  have HBK := Aside0.mk hbk
  have HNE := Aside0.mk HP.out.h2.2.1
  clear hbk
  by_cases h9 : c10.e = 0
  · have ex_ : parse 1 22 l = (m9, 0) := by rw [he1, if_neg (fun h => h h9)]
    have EX := Aside0.mk ex_
    have g1 : (c10.e != 0) = false := by rw [h9]; rfl
    have g2 : (c10.e == 0) = true := by rw [h9]; rfl
    clear h9 ex_ he1
    obtain ⟨cx, h_, hz_, hm_⟩ := QS.St.held2 HP.out
    have H := Aside0.mk h_
    have HZ := Aside0.mk hz_
    have HM := Aside0.mk hm_
    have HB := Aside0.mk HP.out.b
    clear h_ hz_ hm_ HP
    go_wp2_with (first | ((with_reducible refine gate_dst (N := 220) rfl ?_); refine ev_load (x := .tmp 9) rfl rfl rfl H.out (i := 1) rfl (HZ.out) ?_) | ((with_reducible refine gate_op (u := .store 30 (.tmp 6) (.tmp 220)) rfl ?_); refine ev_store rfl rfl rfl rfl H.out (i := 0) rfl rfl (HM.out _ ⟨rfl, rfl, rfl, Kept.refl _ _⟩) ?_; intro x91 h3_ h4_; have HE := Aside0.mk (HM.out _ h4_); clear h4_; have n0_ := Aside0.mk (h3_); clear H; have H := n0_; clear n0_; clear h3_))
    refine bodyPost_ret (results_ct rfl _ _ gr 30 _ (0, 0) _ rfl (H.out.at 0 rfl) Try.underlying30 rfl (msg_info (HZ.out))) rfl (by rw [EX.out]; exact ⟨_, rfl, HE.out, H.out.b⟩)
  · have ex_ : parse 1 22 l = (zeroM, c10.e) := by rw [he1, if_pos h9]
    have EX := Aside0.mk ex_
    have g1 : (c10.e != 0) = true := by simpa using h9
    have g2 : (c10.e == 0) = false := by simpa using h9
    clear h9 ex_ he1
    have H := Aside0.mk (QS.St.held HP.out)
    clear HP
    go_upto_region 45 with (fail)
    clear ke
    refine start_ (n := 7) (S := fun w' => w'.cell? ⟨g, 3, none⟩ = some (.int .i64 c10.e) ∧ Aside0 (Held w0 [(gr, zeroC)] w')) (ds := []) (bm 7 0) (by as_aux_lemma => kernel_rfl) rfl (by as_aux_lemma => kernel_rfl) ⟨((RCur.cells4 (blk_drew HBK.out)).1.2.2.2), (Aside0.mk H.out.drew)⟩ (fun hHeld => ?_)
    refine with_tabW rparse9.tab45 rparse9.bits45 (fun HT_ HW_ => ?_)
    refine pu_ 0 (some 215) (bm 7 1) HT_ (by as_aux_lemma => kernel_rfl) rfl rfl (fun _ _ _ h => h) (by rfl) (by intro w'; go_simp; with_reducible rfl) (by go_simp; rfl) ?_
    refine pu_ 1 (some 216) (bm 7 3) HT_ (by as_aux_lemma => kernel_rfl) rfl rfl (fun _ _ _ h => h) (by rfl) (by intro w'; go_simp; with_reducible rfl) (by go_simp; rfl) ?_
    refine pu_ 2 (some 217) (bm 7 7) HT_ (by as_aux_lemma => kernel_rfl) rfl rfl (fun _ _ _ h => h) (by rfl) (by intro w'; go_simp; with_reducible rfl) (by go_simp; rfl) ?_
    refine pu_ 3 (some 218) (bm 7 15) HT_ (by as_aux_lemma => kernel_rfl) rfl rfl (fun _ _ _ h => h) (by rfl) (by intro w'; go_simp; with_reducible rfl) (by go_simp; rfl) ?_
    refine tk_ 4 (some 219) (bm 7 31) HT_ HW_ hHeld (by as_aux_lemma => kernel_rfl) rfl rfl (fun _ _ _ h => h) (by rfl) (by rintro w' ⟨s0, s1⟩; go_simp; with_reducible rfl) (by go_simp; rfl) ?_
    refine one_ (i := 5) (N := none) (bm 7 63) rfl rfl (one_of HT_.out (by as_aux_lemma => kernel_rfl)) (by as_aux_lemma => decide) (fun K hK => ?_)
    have Hd_ := Aside0.mk H.out.drew
    clear H
    have H := Hd_
    clear Hd_
    refine store_ (x := .tmp 6) (y := .tmp 215) (by rfl) rfl rfl rfl rfl H.out (i := 0) rfl (rfl) (zero_is w0) ?_
    intro x97 h3_ h4_
    have ke3 := (RCur.cells4 (blk_kept (blk_drew HBK.out) h4_.kept (fun e => HNE.out e.symm))).1.2.2.2
    have n0_ := Aside0.mk (h3_); clear H; have H := n0_; clear n0_; clear h3_ h4_
    refine hK.out _ _ ⟨ke3, H⟩ (fun hHeld => ?_)
    clear hK K
    refine pu_ 6 (some 7) (bm 7 127) HT_ (by as_aux_lemma => kernel_rfl) rfl rfl (fun _ _ _ h => h) (by rfl) (by intro w'; go_simp; with_reducible rfl) (by go_simp; rfl) ?_
    refine done_ (done_of HT_.out (by as_aux_lemma => kernel_rfl)) ?_
    go_wp2
    refine bodyPost_ret (results_ct rfl _ _ gr 30 _ (0, 0) _ rfl (H.out.at 0 rfl) Try.underlying30 rfl (msg_info (rfl))) rfl (by rw [EX.out]; exact ⟨_, rfl, zero_is _, H.out.b⟩)
theorem parse_1_23 {A : Option Addr} {c : Nat} {l : List Int} {w0 : World} (hr : Kd.C (Kd.int .u8) w0 A l.length l) (hc : l.length ≤ c) (hs : l.length ≤ 1000000) (hb : isBytes l) :
    Calls Try.prog 13 #[.int .i64 1, .int .u8 23, .slice A l.length c] w0 fun en w' => ∃ cx, en = .returned (.tuple #[.agg cx, .int .i64 (parse 1 23 l).2]) ∧ IsMsg w' cx (parse 1 23 l).1 ∧ Below w0.heap.size w0 w' := by
  have HR := Aside0.mk hr
  have HC := Aside0.mk hc
  have HS := Aside0.mk hs
  have HBB := Aside0.mk hb
  clear hr hc hs hb
  go_enter Try.func13, Try.ntmps13
  go_upto_region 3 with (first | ((with_reducible refine gate_dst (N := 6) rfl ?_); refine ev_alloc rfl rfl ?_; intro gr w1 hg_ h1_ h2_; have HG_ := Aside0.mk hg_; have H1 := Aside0.mk h1_; have H2 := Aside0.mk h2_; clear hg_ h1_ h2_))
  go_upto_region 4 with (first | ((with_reducible refine gate_dst (N := 25) rfl ?_); refine QS.ev_cur rfl rfl rfl ?_; intro g w2 q1_ q2_; have HP := Aside0.mk (QS.Nw.first HR.out HC.out HS.out HBB.out HG_.out H1.out H2.out q1_ q2_); clear q1_ q2_ H1 H2 HG_))
  obtain ⟨c0, e_⟩ : ∃ z, z = (⟨l, false, 0⟩ : Cu) := ⟨_, rfl⟩
  rw [← e_] at HP
  have Ec0 := Aside0.mk e_
  clear e_
  go_upto_region 6 with (first | ((with_reducible refine gate_dst (N := 27) rfl ?_); refine ev_build ((zeroC.setIfInBounds 0 (.int .u8 (23)))) rfl (by go_simp; first | rfl | done) ?_; intro cx hcx_; have M := Aside0.mk (show ∀ W, IsMsg W cx _ from fun W => by rw [hcx_]; exact (fun W => set_code (zero_is W) (v := 23) (by decide)) W); have NL := Aside0.mk (show NilL cx by rw [hcx_]; exact (QS.zero_nil.set (by decide))); clear hcx_) | ((with_reducible refine gate_dst (N := 9) rfl ?_); refine ev_var (y := .tmp 27) rfl rfl rfl rfl rfl (M.out w0) rfl rfl ?_; intro gm w4 hg_ h1_ hb_; have hp_ := QS.Nw.new HP.out hg_ h1_ hb_ M.out NL.out; clear h1_ hb_ hg_; have n0_ := Aside0.mk hp_; clear HP hp_; have HP := n0_; clear n0_))
  clear HR HC HS HBB M NL
  obtain ⟨m0, hm0⟩ : ∃ z, z = ({ zeroM with code := 23 } : Msg) := ⟨_, rfl⟩
  replace HP : Aside0 (QS.St w0 gr g gm w4 c0 { zeroM with code := 23 }) := HP
  rw [← hm0] at HP
  have HM0 := Aside0.mk hm0
  clear hm0
  have HMC := Aside0.mk (show m0.code = 23 by rw [HM0.out])
  go_upto_region 7 with (fail)
  go_upto_region 8 with (first | (go_at_call 24; obtain ⟨l0, h0⟩ := Cu.byteV_bd (QS.St.good HP.out); (with_reducible refine (QS.St.byte HP.out).mono ?_); rintro en x1 ⟨rfl, hp_⟩; obtain ⟨c1, ec_⟩ : ∃ z, z = c0.byteS := ⟨_, rfl⟩; rw [← ec_] at hp_; have Ec1 := Aside0.mk ec_; clear ec_; have n0_ := Aside0.mk hp_; clear HP hp_; have HP := n0_; clear n0_))
  have wk := wrap64_id (x := c0.byteV) (by omega) (by omega)
  have wkb : IntKind.i64.wrap (c0.byteV) = c0.byteV := by rw [i64_w]; exact wk
  have wd : Int.tdiv c0.byteV 2 = c0.byteV / 2 := Int.tdiv_eq_ediv_of_nonneg (by omega)
  have wq := wrap64_id (x := c0.byteV / 2) (by omega) (by omega)
  obtain ⟨c2, e_⟩ : ∃ z, z = c1.need (c0.byteV % 2 == 0 && (decide (2 ≤ c0.byteV) && decide (c0.byteV ≤ 250))) 5 := ⟨_, rfl⟩
  have Ec2 := Aside0.mk e_
  clear e_
  go_cut [] from 47 to 60 (fun wx => Aside0 (QS.St w0 gr g gm wx c2 (m0)))
  case first =>
    cases hs0_ : (c0.byteV % 2 == 0) with
    | true =>
      have hs0a_ : (c0.byteV % 2 != 0) = false := by first | exact hs0_ | (rw [bne, hs0_]; rfl) | (have := hs0_; rw [bne] at this; simpa using this)
      have hs0t_ : (Int.tmod c0.byteV 2 == 0) = true := by rw [Int.tmod_eq_emod_of_nonneg (by omega)]; exact hs0_
      cases hs1_ : (decide (2 ≤ c0.byteV)) with
      | true =>
        have hs1a_ : (decide (c0.byteV ≥ 2)) = true := by first | exact hs1_ | (rw [bne, hs1_]; rfl) | (have := hs1_; rw [bne] at this; simpa using this)
        have eb_ : (c0.byteV % 2 == 0 && (decide (2 ≤ c0.byteV) && decide (c0.byteV ≤ 250))) = (decide (c0.byteV ≤ 250)) := by first | (simp only [hs0_, hs1_]; first | rfl | (simp; done)) | (simp [hs0_, hs1_]; done) | (simp only [bne, hs0_, hs1_]; first | rfl | (simp; done))
        first | (have hgt_ : decide (c0.byteV > 0) = true := by (rw [← hs1_]; exact decide_eq_decide.2 ⟨fun h => by have := beq_iff_eq.1 hs0_; omega, fun h => by omega⟩)) | (have hgt_ : decide (c0.byteV > 0) = false := by (rw [← hs1_]; exact decide_eq_decide.2 ⟨fun h => by have := beq_iff_eq.1 hs0_; omega, fun h => by omega⟩)) | skip
        first | (have hgt2_ : decide (0 < c0.byteV) = true := by (rw [← hs1_]; exact decide_eq_decide.2 ⟨fun h => by have := beq_iff_eq.1 hs0_; omega, fun h => by omega⟩)) | (have hgt2_ : decide (0 < c0.byteV) = false := by (rw [← hs1_]; exact decide_eq_decide.2 ⟨fun h => by have := beq_iff_eq.1 hs0_; omega, fun h => by omega⟩)) | skip
        have EB_ := Aside0.mk eb_
        clear eb_
        go_wp2_with (first | (go_at_call 25; (with_reducible refine (QS.St.need HP.out (decide (c0.byteV ≤ 250)) 5).mono ?_); rintro en x2 ⟨rfl, hp_⟩; have n0_ := Aside0.mk hp_; clear HP hp_; have HP := n0_; clear n0_))
        go_meet
        rw [Ec2.out, EB_.out]
        exact HP
      | false =>
        have hs1a_ : (decide (c0.byteV ≥ 2)) = false := by first | exact hs1_ | (rw [bne, hs1_]; rfl) | (have := hs1_; rw [bne] at this; simpa using this)
        have eb_ : (c0.byteV % 2 == 0 && (decide (2 ≤ c0.byteV) && decide (c0.byteV ≤ 250))) = (false) := by first | (simp only [hs0_, hs1_]; first | rfl | (simp; done)) | (simp [hs0_, hs1_]; done) | (simp only [bne, hs0_, hs1_]; first | rfl | (simp; done))
        first | (have hgt_ : decide (c0.byteV > 0) = true := by (rw [← hs1_]; exact decide_eq_decide.2 ⟨fun h => by have := beq_iff_eq.1 hs0_; omega, fun h => by omega⟩)) | (have hgt_ : decide (c0.byteV > 0) = false := by (rw [← hs1_]; exact decide_eq_decide.2 ⟨fun h => by have := beq_iff_eq.1 hs0_; omega, fun h => by omega⟩)) | skip
        first | (have hgt2_ : decide (0 < c0.byteV) = true := by (rw [← hs1_]; exact decide_eq_decide.2 ⟨fun h => by have := beq_iff_eq.1 hs0_; omega, fun h => by omega⟩)) | (have hgt2_ : decide (0 < c0.byteV) = false := by (rw [← hs1_]; exact decide_eq_decide.2 ⟨fun h => by have := beq_iff_eq.1 hs0_; omega, fun h => by omega⟩)) | skip
        have EB_ := Aside0.mk eb_
        clear eb_
        go_wp2_with (first | (go_at_call 25; (with_reducible refine (QS.St.need HP.out (false) 5).mono ?_); rintro en x2 ⟨rfl, hp_⟩; have n0_ := Aside0.mk hp_; clear HP hp_; have HP := n0_; clear n0_))
        go_meet
        rw [Ec2.out, EB_.out]
        exact HP
    | false =>
      have hs0a_ : (c0.byteV % 2 != 0) = true := by first | exact hs0_ | (rw [bne, hs0_]; rfl) | (have := hs0_; rw [bne] at this; simpa using this)
      have hs0t_ : (Int.tmod c0.byteV 2 == 0) = false := by rw [Int.tmod_eq_emod_of_nonneg (by omega)]; exact hs0_
      have eb_ : (c0.byteV % 2 == 0 && (decide (2 ≤ c0.byteV) && decide (c0.byteV ≤ 250))) = (false) := by first | (simp only [hs0_]; first | rfl | (simp; done)) | (simp [hs0_]; done) | (simp only [bne, hs0_]; first | rfl | (simp; done))
      first | (have hgt_ : decide (c0.byteV > 0) = true := by (rw [← hs1_]; exact decide_eq_decide.2 ⟨fun h => by have := beq_iff_eq.1 hs0_; omega, fun h => by omega⟩)) | (have hgt_ : decide (c0.byteV > 0) = false := by (rw [← hs1_]; exact decide_eq_decide.2 ⟨fun h => by have := beq_iff_eq.1 hs0_; omega, fun h => by omega⟩)) | skip
      first | (have hgt2_ : decide (0 < c0.byteV) = true := by (rw [← hs1_]; exact decide_eq_decide.2 ⟨fun h => by have := beq_iff_eq.1 hs0_; omega, fun h => by omega⟩)) | (have hgt2_ : decide (0 < c0.byteV) = false := by (rw [← hs1_]; exact decide_eq_decide.2 ⟨fun h => by have := beq_iff_eq.1 hs0_; omega, fun h => by omega⟩)) | skip
      have EB_ := Aside0.mk eb_
      clear eb_
      go_wp2_with (first | (go_at_call 25; (with_reducible refine (QS.St.need HP.out (false) 5).mono ?_); rintro en x2 ⟨rfl, hp_⟩; have n0_ := Aside0.mk hp_; clear HP hp_; have HP := n0_; clear n0_))
      go_meet
      rw [Ec2.out, EB_.out]
      exact HP
  case rest =>
  clear HP
  have HP := hcut
  clear hcut
  have HBY := Aside0.mk (Cu.wordsV_bd (QS.St.good HP.out) (c0.byteV / 2))
  go_upto_region 43 with (first | (go_at_call 26; (with_reducible refine (QS.St.words HP.out (c0.byteV / 2)).mono ?_); rintro en x3 ⟨A5, n5, rfl, hz_, hr_, hp_⟩; obtain ⟨c3, ec_⟩ : ∃ z, z = c2.wordsS (c0.byteV / 2) := ⟨_, rfl⟩; rw [← ec_] at hp_; have Ec3 := Aside0.mk ec_; clear ec_; have R5 := Aside0.mk hr_; have R5z := Aside0.mk hz_; clear hr_ hz_; have n0_ := Aside0.mk hp_; clear HP hp_; have HP := n0_; clear n0_; obtain ⟨Aw, nw, kw, fw⟩ := QS.St.at_words HP.out))
  have hp_ := HP.out.put_words R5z.out HBY.out R5.out
  have n0_ := Aside0.mk hp_
  clear HP hp_
  have HP := n0_
  clear n0_
  have eq_ : bodyR 1 m0 c0 = (c3, { m0 with words := c2.wordsV (c0.byteV / 2) }) := by
    unfold bodyR
    rw [if_neg (by have := HMC.out; omega)]
    rw [if_neg (by have := HMC.out; omega)]
    rw [if_neg (by have := HMC.out; omega)]
    rw [if_neg (by have := HMC.out; omega)]
    rw [if_pos (by have := HMC.out; omega)]
    rw [if_neg (by decide)]
    rw [Ec3.out, Ec2.out, Ec1.out]
    rfl
  obtain ⟨cb, e_⟩ : ∃ z, z = bodyR 1 m0 c0 := ⟨_, rfl⟩
  have EBD := Aside0.mk e_
  rw [eq_] at e_
  obtain ⟨c9, m9⟩ := cb
  obtain ⟨e1_, e2_⟩ := Prod.mk.inj e_
  rw [← e1_, ← e2_] at HP
  clear e_ e1_ e2_ eq_
  go_upto_region 44 with (first | (go_at_call 29; (with_reducible refine (QS.St.fin HP.out).mono ?_); rintro en x61 ⟨rfl, hp_⟩; obtain ⟨c10, ec_⟩ : ∃ z, z = c9.fin := ⟨_, rfl⟩; rw [← ec_] at hp_; have Ec10 := Aside0.mk ec_; clear ec_; have n0_ := Aside0.mk hp_; clear HP hp_; have HP := n0_; clear n0_))
  have he1 : parse 1 23 l = if c10.e ≠ 0 then (zeroM, c10.e) else (m9, 0) := by
    have e2 : bodyR 1 m0 (cu l) = (c9, m9) := by rw [EBD.out, Ec0.out]; rfl
    unfold parse
    rw [if_neg (by decide), if_neg (by decide), ← HM0.out, e2, Ec10.out]
  obtain ⟨v0, v1, v2, hbk⟩ := QS.St.blk HP.out
  have ke := (RCur.cells4 hbk).1.2.2.2
  have HBK := Aside0.mk hbk
  have HNE := Aside0.mk HP.out.h2.2.1
  clear hbk
  by_cases h9 : c10.e = 0
  · have ex_ : parse 1 23 l = (m9, 0) := by rw [he1, if_neg (fun h => h h9)]
    have EX := Aside0.mk ex_
    have g1 : (c10.e != 0) = false := by rw [h9]; rfl
    have g2 : (c10.e == 0) = true := by rw [h9]; rfl
    clear h9 ex_ he1
    obtain ⟨cx, h_, hz_, hm_⟩ := QS.St.held2 HP.out
    have H := Aside0.mk h_
    have HZ := Aside0.mk hz_
    have HM := Aside0.mk hm_
    have HB := Aside0.mk HP.out.b
    clear h_ hz_ hm_ HP
    go_wp2_with (first | ((with_reducible refine gate_dst (N := 220) rfl ?_); refine ev_load (x := .tmp 9) rfl rfl rfl H.out (i := 1) rfl (HZ.out) ?_) | ((with_reducible refine gate_op (u := .store 30 (.tmp 6) (.tmp 220)) rfl ?_); refine ev_store rfl rfl rfl rfl H.out (i := 0) rfl rfl (HM.out _ ⟨rfl, rfl, rfl, Kept.refl _ _⟩) ?_; intro x91 h3_ h4_; have HE := Aside0.mk (HM.out _ h4_); clear h4_; have n0_ := Aside0.mk (h3_); clear H; have H := n0_; clear n0_; clear h3_))
    refine bodyPost_ret (results_ct rfl _ _ gr 30 _ (0, 0) _ rfl (H.out.at 0 rfl) Try.underlying30 rfl (msg_info (HZ.out))) rfl (by rw [EX.out]; exact ⟨_, rfl, HE.out, H.out.b⟩)
  · have ex_ : parse 1 23 l = (zeroM, c10.e) := by rw [he1, if_pos h9]
    have EX := Aside0.mk ex_
    have g1 : (c10.e != 0) = true := by simpa using h9
    have g2 : (c10.e == 0) = false := by simpa using h9
    clear h9 ex_ he1
    have H := Aside0.mk (QS.St.held HP.out)
    clear HP
    go_upto_region 45 with (fail)
    clear ke
    refine start_ (n := 7) (S := fun w' => w'.cell? ⟨g, 3, none⟩ = some (.int .i64 c10.e) ∧ Aside0 (Held w0 [(gr, zeroC)] w')) (ds := []) (bm 7 0) (by as_aux_lemma => kernel_rfl) rfl (by as_aux_lemma => kernel_rfl) ⟨((RCur.cells4 (blk_drew HBK.out)).1.2.2.2), (Aside0.mk H.out.drew)⟩ (fun hHeld => ?_)
    refine with_tabW rparse9.tab45 rparse9.bits45 (fun HT_ HW_ => ?_)
    refine pu_ 0 (some 215) (bm 7 1) HT_ (by as_aux_lemma => kernel_rfl) rfl rfl (fun _ _ _ h => h) (by rfl) (by intro w'; go_simp; with_reducible rfl) (by go_simp; rfl) ?_
    refine pu_ 1 (some 216) (bm 7 3) HT_ (by as_aux_lemma => kernel_rfl) rfl rfl (fun _ _ _ h => h) (by rfl) (by intro w'; go_simp; with_reducible rfl) (by go_simp; rfl) ?_
    refine pu_ 2 (some 217) (bm 7 7) HT_ (by as_aux_lemma => kernel_rfl) rfl rfl (fun _ _ _ h => h) (by rfl) (by intro w'; go_simp; with_reducible rfl) (by go_simp; rfl) ?_
    refine pu_ 3 (some 218) (bm 7 15) HT_ (by as_aux_lemma => kernel_rfl) rfl rfl (fun _ _ _ h => h) (by rfl) (by intro w'; go_simp; with_reducible rfl) (by go_simp; rfl) ?_
    refine tk_ 4 (some 219) (bm 7 31) HT_ HW_ hHeld (by as_aux_lemma => kernel_rfl) rfl rfl (fun _ _ _ h => h) (by rfl) (by rintro w' ⟨s0, s1⟩; go_simp; with_reducible rfl) (by go_simp; rfl) ?_
    refine one_ (i := 5) (N := none) (bm 7 63) rfl rfl (one_of HT_.out (by as_aux_lemma => kernel_rfl)) (by as_aux_lemma => decide) (fun K hK => ?_)
    have Hd_ := Aside0.mk H.out.drew
    clear H
    have H := Hd_
    clear Hd_
    refine store_ (x := .tmp 6) (y := .tmp 215) (by rfl) rfl rfl rfl rfl H.out (i := 0) rfl (rfl) (zero_is w0) ?_
    intro x97 h3_ h4_
    have ke3 := (RCur.cells4 (blk_kept (blk_drew HBK.out) h4_.kept (fun e => HNE.out e.symm))).1.2.2.2
    have n0_ := Aside0.mk (h3_); clear H; have H := n0_; clear n0_; clear h3_ h4_
    refine hK.out _ _ ⟨ke3, H⟩ (fun hHeld => ?_)
    clear hK K
    refine pu_ 6 (some 7) (bm 7 127) HT_ (by as_aux_lemma => kernel_rfl) rfl rfl (fun _ _ _ h => h) (by rfl) (by intro w'; go_simp; with_reducible rfl) (by go_simp; rfl) ?_
    refine done_ (done_of HT_.out (by as_aux_lemma => kernel_rfl)) ?_
    go_wp2
    refine bodyPost_ret (results_ct rfl _ _ gr 30 _ (0, 0) _ rfl (H.out.at 0 rfl) Try.underlying30 rfl (msg_info (rfl))) rfl (by rw [EX.out]; exact ⟨_, rfl, zero_is _, H.out.b⟩)
theorem parse_1_24 {A : Option Addr} {c : Nat} {l : List Int} {w0 : World} (hr : Kd.C (Kd.int .u8) w0 A l.length l) (hc : l.length ≤ c) (hs : l.length ≤ 1000000) (hb : isBytes l) :
    Calls Try.prog 13 #[.int .i64 1, .int .u8 24, .slice A l.length c] w0 fun en w' => ∃ cx, en = .returned (.tuple #[.agg cx, .int .i64 (parse 1 24 l).2]) ∧ IsMsg w' cx (parse 1 24 l).1 ∧ Below w0.heap.size w0 w' := by
  have HR := Aside0.mk hr
  have HC := Aside0.mk hc
  have HS := Aside0.mk hs
  have HBB := Aside0.mk hb
  clear hr hc hs hb
  go_enter Try.func13, Try.ntmps13
  go_upto_region 3 with (first | ((with_reducible refine gate_dst (N := 6) rfl ?_); refine ev_alloc rfl rfl ?_; intro gr w1 hg_ h1_ h2_; have HG_ := Aside0.mk hg_; have H1 := Aside0.mk h1_; have H2 := Aside0.mk h2_; clear hg_ h1_ h2_))
  go_upto_region 4 with (first | ((with_reducible refine gate_dst (N := 25) rfl ?_); refine QS.ev_cur rfl rfl rfl ?_; intro g w2 q1_ q2_; have HP := Aside0.mk (QS.Nw.first HR.out HC.out HS.out HBB.out HG_.out H1.out H2.out q1_ q2_); clear q1_ q2_ H1 H2 HG_))
  obtain ⟨c0, e_⟩ : ∃ z, z = (⟨l, false, 0⟩ : Cu) := ⟨_, rfl⟩
  rw [← e_] at HP
  have Ec0 := Aside0.mk e_
  clear e_
  go_upto_region 6 with (first | ((with_reducible refine gate_dst (N := 27) rfl ?_); refine ev_build ((zeroC.setIfInBounds 0 (.int .u8 (24)))) rfl (by go_simp; first | rfl | done) ?_; intro cx hcx_; have M := Aside0.mk (show ∀ W, IsMsg W cx _ from fun W => by rw [hcx_]; exact (fun W => set_code (zero_is W) (v := 24) (by decide)) W); have NL := Aside0.mk (show NilL cx by rw [hcx_]; exact (QS.zero_nil.set (by decide))); clear hcx_) | ((with_reducible refine gate_dst (N := 9) rfl ?_); refine ev_var (y := .tmp 27) rfl rfl rfl rfl rfl (M.out w0) rfl rfl ?_; intro gm w4 hg_ h1_ hb_; have hp_ := QS.Nw.new HP.out hg_ h1_ hb_ M.out NL.out; clear h1_ hb_ hg_; have n0_ := Aside0.mk hp_; clear HP hp_; have HP := n0_; clear n0_))
  clear HR HC HS HBB M NL
  obtain ⟨m0, hm0⟩ : ∃ z, z = ({ zeroM with code := 24 } : Msg) := ⟨_, rfl⟩
  replace HP : Aside0 (QS.St w0 gr g gm w4 c0 { zeroM with code := 24 }) := HP
  rw [← hm0] at HP
  have HM0 := Aside0.mk hm0
  clear hm0
  have HMC := Aside0.mk (show m0.code = 24 by rw [HM0.out])
  go_upto_region 38 with (fail)
  go_upto_region 39 with (first | (go_at_call 27; obtain ⟨l0, h0⟩ := Cu.wordV_bd (QS.St.good HP.out); (with_reducible refine (QS.St.word HP.out).mono ?_); rintro en x1 ⟨rfl, hp_⟩; obtain ⟨c1, ec_⟩ : ∃ z, z = c0.wordS := ⟨_, rfl⟩; rw [← ec_] at hp_; have Ec1 := Aside0.mk ec_; clear ec_; have n0_ := Aside0.mk hp_; clear HP hp_; have HP := n0_; clear n0_))
  have wk := wrap64_id (x := c0.wordV) (by omega) (by omega)
  have wkb : IntKind.i64.wrap (c0.wordV) = c0.wordV := by rw [i64_w]; exact wk
  obtain ⟨c2, e_⟩ : ∃ z, z = c1.need (c0.wordV % 2 == 0 && (decide (2 ≤ c0.wordV) && decide (c0.wordV ≤ 64))) 5 := ⟨_, rfl⟩
  have Ec2 := Aside0.mk e_
  clear e_
  go_cut [] from 181 to 194 (fun wx => Aside0 (QS.St w0 gr g gm wx c2 (m0)))
  case first =>
    cases hs0_ : (c0.wordV % 2 == 0) with
    | true =>
      have hs0a_ : (c0.wordV % 2 != 0) = false := by first | exact hs0_ | (rw [bne, hs0_]; rfl) | (have := hs0_; rw [bne] at this; simpa using this)
      have hs0t_ : (Int.tmod c0.wordV 2 == 0) = true := by rw [Int.tmod_eq_emod_of_nonneg (by omega)]; exact hs0_
      cases hs1_ : (decide (2 ≤ c0.wordV)) with
      | true =>
        have hs1a_ : (decide (c0.wordV ≥ 2)) = true := by first | exact hs1_ | (rw [bne, hs1_]; rfl) | (have := hs1_; rw [bne] at this; simpa using this)
        have eb_ : (c0.wordV % 2 == 0 && (decide (2 ≤ c0.wordV) && decide (c0.wordV ≤ 64))) = (decide (c0.wordV ≤ 64)) := by first | (simp only [hs0_, hs1_]; first | rfl | (simp; done)) | (simp [hs0_, hs1_]; done) | (simp only [bne, hs0_, hs1_]; first | rfl | (simp; done))
        have EB_ := Aside0.mk eb_
        clear eb_
        go_wp2_with (first | (go_at_call 25; (with_reducible refine (QS.St.need HP.out (decide (c0.wordV ≤ 64)) 5).mono ?_); rintro en x2 ⟨rfl, hp_⟩; have n0_ := Aside0.mk hp_; clear HP hp_; have HP := n0_; clear n0_))
        go_meet
        rw [Ec2.out, EB_.out]
        exact HP
      | false =>
        have hs1a_ : (decide (c0.wordV ≥ 2)) = false := by first | exact hs1_ | (rw [bne, hs1_]; rfl) | (have := hs1_; rw [bne] at this; simpa using this)
        have eb_ : (c0.wordV % 2 == 0 && (decide (2 ≤ c0.wordV) && decide (c0.wordV ≤ 64))) = (false) := by first | (simp only [hs0_, hs1_]; first | rfl | (simp; done)) | (simp [hs0_, hs1_]; done) | (simp only [bne, hs0_, hs1_]; first | rfl | (simp; done))
        have EB_ := Aside0.mk eb_
        clear eb_
        go_wp2_with (first | (go_at_call 25; (with_reducible refine (QS.St.need HP.out (false) 5).mono ?_); rintro en x2 ⟨rfl, hp_⟩; have n0_ := Aside0.mk hp_; clear HP hp_; have HP := n0_; clear n0_))
        go_meet
        rw [Ec2.out, EB_.out]
        exact HP
    | false =>
      have hs0a_ : (c0.wordV % 2 != 0) = true := by first | exact hs0_ | (rw [bne, hs0_]; rfl) | (have := hs0_; rw [bne] at this; simpa using this)
      have hs0t_ : (Int.tmod c0.wordV 2 == 0) = false := by rw [Int.tmod_eq_emod_of_nonneg (by omega)]; exact hs0_
      have eb_ : (c0.wordV % 2 == 0 && (decide (2 ≤ c0.wordV) && decide (c0.wordV ≤ 64))) = (false) := by first | (simp only [hs0_]; first | rfl | (simp; done)) | (simp [hs0_]; done) | (simp only [bne, hs0_]; first | rfl | (simp; done))
      have EB_ := Aside0.mk eb_
      clear eb_
      go_wp2_with (first | (go_at_call 25; (with_reducible refine (QS.St.need HP.out (false) 5).mono ?_); rintro en x2 ⟨rfl, hp_⟩; have n0_ := Aside0.mk hp_; clear HP hp_; have HP := n0_; clear n0_))
      go_meet
      rw [Ec2.out, EB_.out]
      exact HP
  case rest =>
  clear HP
  have HP := hcut
  clear hcut
  go_upto_region 41 with (first | (go_at_call 27; obtain ⟨l2, h2⟩ := Cu.wordV_bd (QS.St.good HP.out); (with_reducible refine (QS.St.word HP.out).mono ?_); rintro en x3 ⟨rfl, hp_⟩; obtain ⟨c3, ec_⟩ : ∃ z, z = c2.wordS := ⟨_, rfl⟩; rw [← ec_] at hp_; have Ec3 := Aside0.mk ec_; clear ec_; have n0_ := Aside0.mk hp_; clear HP hp_; have HP := n0_; clear n0_))
  have wk2 := wrap64_id (x := c2.wordV) (by omega) (by omega)
  have wk2b : IntKind.i64.wrap (c2.wordV) = c2.wordV := by rw [i64_w]; exact wk2
  have w3 := wrap64_id (x := 2 * c2.wordV) (by omega) (by omega)
  have w4 := wrap64_id (x := 2 * c2.wordV + 2) (by omega) (by omega)
  have EB := Aside0.mk (show (2 + 2 * c2.wordV == c0.wordV) = (c0.wordV == 2 * c2.wordV + 2) from by rw [Bool.eq_iff_iff, beq_iff_eq, beq_iff_eq]; omega)
  go_upto_region 42 with (first | (go_at_call 25; (with_reducible refine (QS.St.need HP.out (c0.wordV == 2 * c2.wordV + 2) 5).mono ?_); rintro en x4 ⟨rfl, hp_⟩; rw [← EB.out] at hp_; obtain ⟨c4, ec_⟩ : ∃ z, z = c3.need (2 + 2 * c2.wordV == c0.wordV) 5 := ⟨_, rfl⟩; rw [← ec_] at hp_; have Ec4 := Aside0.mk ec_; clear ec_; have n0_ := Aside0.mk hp_; clear HP hp_; have HP := n0_; clear n0_))
  have HBY := Aside0.mk (Cu.wordsV_bd (QS.St.good HP.out) (c2.wordV))
  go_upto_region 43 with (first | (go_at_call 26; (with_reducible refine (QS.St.words HP.out (c2.wordV)).mono ?_); rintro en x5 ⟨A5, n5, rfl, hz_, hr_, hp_⟩; obtain ⟨c5, ec_⟩ : ∃ z, z = c4.wordsS (c2.wordV) := ⟨_, rfl⟩; rw [← ec_] at hp_; have Ec5 := Aside0.mk ec_; clear ec_; have R5 := Aside0.mk hr_; have R5z := Aside0.mk hz_; clear hr_ hz_; have n0_ := Aside0.mk hp_; clear HP hp_; have HP := n0_; clear n0_; obtain ⟨Aw, nw, kw, fw⟩ := QS.St.at_words HP.out))
  have hp_ := HP.out.put_words R5z.out HBY.out R5.out
  have n0_ := Aside0.mk hp_
  clear HP hp_
  have HP := n0_
  clear n0_
  have eq_ : bodyR 1 m0 c0 = (c5, { m0 with words := c4.wordsV (c2.wordV) }) := by
    unfold bodyR
    rw [if_neg (by have := HMC.out; omega)]
    rw [if_neg (by have := HMC.out; omega)]
    rw [if_neg (by have := HMC.out; omega)]
    rw [if_neg (by have := HMC.out; omega)]
    rw [if_neg (by have := HMC.out; omega)]
    rw [if_neg (by decide)]
    rw [Ec5.out, Ec4.out, Ec3.out, Ec2.out, Ec1.out]
    rfl
  obtain ⟨cb, e_⟩ : ∃ z, z = bodyR 1 m0 c0 := ⟨_, rfl⟩
  have EBD := Aside0.mk e_
  rw [eq_] at e_
  obtain ⟨c9, m9⟩ := cb
  obtain ⟨e1_, e2_⟩ := Prod.mk.inj e_
  rw [← e1_, ← e2_] at HP
  clear e_ e1_ e2_ eq_
  go_upto_region 44 with (first | (go_at_call 29; (with_reducible refine (QS.St.fin HP.out).mono ?_); rintro en x61 ⟨rfl, hp_⟩; obtain ⟨c10, ec_⟩ : ∃ z, z = c9.fin := ⟨_, rfl⟩; rw [← ec_] at hp_; have Ec10 := Aside0.mk ec_; clear ec_; have n0_ := Aside0.mk hp_; clear HP hp_; have HP := n0_; clear n0_))
  have he1 : parse 1 24 l = if c10.e ≠ 0 then (zeroM, c10.e) else (m9, 0) := by
    have e2 : bodyR 1 m0 (cu l) = (c9, m9) := by rw [EBD.out, Ec0.out]; rfl
    unfold parse
    rw [if_neg (by decide), if_neg (by decide), ← HM0.out, e2, Ec10.out]
  obtain ⟨v0, v1, v2, hbk⟩ := QS.St.blk HP.out
  have ke := (RCur.cells4 hbk).1.2.2.2
  have HBK := Aside0.mk hbk
  have HNE := Aside0.mk HP.out.h2.2.1
  clear hbk
  by_cases h9 : c10.e = 0
  · have ex_ : parse 1 24 l = (m9, 0) := by rw [he1, if_neg (fun h => h h9)]
    have EX := Aside0.mk ex_
    have g1 : (c10.e != 0) = false := by rw [h9]; rfl
    have g2 : (c10.e == 0) = true := by rw [h9]; rfl
    clear h9 ex_ he1
    obtain ⟨cx, h_, hz_, hm_⟩ := QS.St.held2 HP.out
    have H := Aside0.mk h_
    have HZ := Aside0.mk hz_
    have HM := Aside0.mk hm_
    have HB := Aside0.mk HP.out.b
    clear h_ hz_ hm_ HP
    go_wp2_with (first | ((with_reducible refine gate_dst (N := 220) rfl ?_); refine ev_load (x := .tmp 9) rfl rfl rfl H.out (i := 1) rfl (HZ.out) ?_) | ((with_reducible refine gate_op (u := .store 30 (.tmp 6) (.tmp 220)) rfl ?_); refine ev_store rfl rfl rfl rfl H.out (i := 0) rfl rfl (HM.out _ ⟨rfl, rfl, rfl, Kept.refl _ _⟩) ?_; intro x91 h3_ h4_; have HE := Aside0.mk (HM.out _ h4_); clear h4_; have n0_ := Aside0.mk (h3_); clear H; have H := n0_; clear n0_; clear h3_))
    refine bodyPost_ret (results_ct rfl _ _ gr 30 _ (0, 0) _ rfl (H.out.at 0 rfl) Try.underlying30 rfl (msg_info (HZ.out))) rfl (by rw [EX.out]; exact ⟨_, rfl, HE.out, H.out.b⟩)
  · have ex_ : parse 1 24 l = (zeroM, c10.e) := by rw [he1, if_pos h9]
    have EX := Aside0.mk ex_
    have g1 : (c10.e != 0) = true := by simpa using h9
    have g2 : (c10.e == 0) = false := by simpa using h9
    clear h9 ex_ he1
    have H := Aside0.mk (QS.St.held HP.out)
    clear HP
    go_upto_region 45 with (fail)
    clear ke
    refine start_ (n := 7) (S := fun w' => w'.cell? ⟨g, 3, none⟩ = some (.int .i64 c10.e) ∧ Aside0 (Held w0 [(gr, zeroC)] w')) (ds := []) (bm 7 0) (by as_aux_lemma => kernel_rfl) rfl (by as_aux_lemma => kernel_rfl) ⟨((RCur.cells4 (blk_drew HBK.out)).1.2.2.2), (Aside0.mk H.out.drew)⟩ (fun hHeld => ?_)
    refine with_tabW rparse9.tab45 rparse9.bits45 (fun HT_ HW_ => ?_)
    refine pu_ 0 (some 215) (bm 7 1) HT_ (by as_aux_lemma => kernel_rfl) rfl rfl (fun _ _ _ h => h) (by rfl) (by intro w'; go_simp; with_reducible rfl) (by go_simp; rfl) ?_
    refine pu_ 1 (some 216) (bm 7 3) HT_ (by as_aux_lemma => kernel_rfl) rfl rfl (fun _ _ _ h => h) (by rfl) (by intro w'; go_simp; with_reducible rfl) (by go_simp; rfl) ?_
    refine pu_ 2 (some 217) (bm 7 7) HT_ (by as_aux_lemma => kernel_rfl) rfl rfl (fun _ _ _ h => h) (by rfl) (by intro w'; go_simp; with_reducible rfl) (by go_simp; rfl) ?_
    refine pu_ 3 (some 218) (bm 7 15) HT_ (by as_aux_lemma => kernel_rfl) rfl rfl (fun _ _ _ h => h) (by rfl) (by intro w'; go_simp; with_reducible rfl) (by go_simp; rfl) ?_
    refine tk_ 4 (some 219) (bm 7 31) HT_ HW_ hHeld (by as_aux_lemma => kernel_rfl) rfl rfl (fun _ _ _ h => h) (by rfl) (by rintro w' ⟨s0, s1⟩; go_simp; with_reducible rfl) (by go_simp; rfl) ?_
    refine one_ (i := 5) (N := none) (bm 7 63) rfl rfl (one_of HT_.out (by as_aux_lemma => kernel_rfl)) (by as_aux_lemma => decide) (fun K hK => ?_)
    have Hd_ := Aside0.mk H.out.drew
    clear H
    have H := Hd_
    clear Hd_
    refine store_ (x := .tmp 6) (y := .tmp 215) (by rfl) rfl rfl rfl rfl H.out (i := 0) rfl (rfl) (zero_is w0) ?_
    intro x97 h3_ h4_
    have ke3 := (RCur.cells4 (blk_kept (blk_drew HBK.out) h4_.kept (fun e => HNE.out e.symm))).1.2.2.2
    have n0_ := Aside0.mk (h3_); clear H; have H := n0_; clear n0_; clear h3_ h4_
    refine hK.out _ _ ⟨ke3, H⟩ (fun hHeld => ?_)
    clear hK K
    refine pu_ 6 (some 7) (bm 7 127) HT_ (by as_aux_lemma => kernel_rfl) rfl rfl (fun _ _ _ h => h) (by rfl) (by intro w'; go_simp; with_reducible rfl) (by go_simp; rfl) ?_
    refine done_ (done_of HT_.out (by as_aux_lemma => kernel_rfl)) ?_
    go_wp2
    refine bodyPost_ret (results_ct rfl _ _ gr 30 _ (0, 0) _ rfl (H.out.at 0 rfl) Try.underlying30 rfl (msg_info (rfl))) rfl (by rw [EX.out]; exact ⟨_, rfl, zero_is _, H.out.b⟩)
theorem parse_any {dir code : Int} {A : Option Addr} {c : Nat} {l : List Int} {w0 : World} (hr : Kd.C (Kd.int .u8) w0 A l.length l) (hc : l.length ≤ c) (hs : l.length ≤ 1000000) (hb : isBytes l) (hcd : 0 ≤ code ∧ code < 256) :
    Calls Try.prog 13 #[.int .i64 dir, .int .u8 code, .slice A l.length c] w0 fun en w' => ∃ cx, en = .returned (.tuple #[.agg cx, .int .i64 (parse dir code l).2]) ∧ IsMsg w' cx (parse dir code l).1 ∧ Below w0.heap.size w0 w' := by
  by_cases h0 : dir = 0
  · subst h0
    by_cases k3 : code = 3
    · subst k3; exact parse_0_3 hr hc hs hb
    by_cases k4 : code = 4
    · subst k4; exact parse_0_4 hr hc hs hb
    by_cases k6 : code = 6
    · subst k6; exact parse_0_6 hr hc hs hb
    by_cases k16 : code = 16
    · subst k16; exact parse_0_16 hr hc hs hb
    by_cases k22 : code = 22
    · subst k22; exact parse_0_22 hr hc hs hb
    by_cases k23 : code = 23
    · subst k23; exact parse_0_23 hr hc hs hb
    by_cases k24 : code = 24
    · subst k24; exact parse_0_24 hr hc hs hb
    have hn : ¬ isCode code := by unfold isCode; omega
    have e : parse 0 code l = (zeroM, 4) := by unfold parse; rw [if_neg (by decide), if_pos hn]
    rw [e]; exact parse_no0 hr hc hs hb hcd hn
  by_cases h1 : dir = 1
  · subst h1
    by_cases k3 : code = 3
    · subst k3; exact parse_1_3 hr hc hs hb
    by_cases k4 : code = 4
    · subst k4; exact parse_1_4 hr hc hs hb
    by_cases k6 : code = 6
    · subst k6; exact parse_1_6 hr hc hs hb
    by_cases k16 : code = 16
    · subst k16; exact parse_1_16 hr hc hs hb
    by_cases k22 : code = 22
    · subst k22; exact parse_1_22 hr hc hs hb
    by_cases k23 : code = 23
    · subst k23; exact parse_1_23 hr hc hs hb
    by_cases k24 : code = 24
    · subst k24; exact parse_1_24 hr hc hs hb
    have hn : ¬ isCode code := by unfold isCode; omega
    have e : parse 1 code l = (zeroM, 4) := by unfold parse; rw [if_neg (by decide), if_pos hn]
    rw [e]; exact parse_no1 hr hc hs hb hcd hn
  have e : parse dir code l = (zeroM, 1) := by unfold parse; rw [if_pos ⟨h0, h1⟩]
  rw [e]; exact parse_dir hr hc hs hb h0 h1
end Go.Proofs.Ytmglilncdffbkaa.RegR
end
section
namespace Go.Proofs.Ytmglilncdffbkaa.P
open Go.RowKit Go.Proofs.YtmglilncdffbkaaW.PrintWords Go.Proofs.YtmglilncdffbkaaW.PrintLast Go.Proofs.YtmglilncdffbkaaW.PrintMore
attribute [local go_sem] max2_int min2_int max_two min_two max_three min_three max_four min_four   -- for this text's walks alone
def word_Put.l0 : Nat → List Int → List Int → Int → Int → Option (List Int)
  | 0, _, _, _, _ => none
  | k + 1, x3, x6, x7, x8 => if x8 < x7 then (if 0 ≤ x8 then (if x8 < (x6.length : Int) then ((some (([((rd x6 x8) / 256) % 256, (rd x6 x8) % 256] : List Int) : List Int)).bind fun y111 => (if x3.length + y111.length < 140737488355328 then (word_Put.l0 k (x3 ++ y111) x6 x7 (wrap64 (x8 + 1))) else (none))) else (none)) else (none)) else (some x3)
def word_Put.f (k : Nat) (l0 : List Int) : Option (List Int) := word_Put.l0 k ([] : List Int) l0 (l0.length : Int) 0
theorem word_Put.mono_l : ∀ k, (∀ y0 y1 y2 y3, LeO (word_Put.l0 k y0 y1 y2 y3) (word_Put.l0 (k + 1) y0 y1 y2 y3))
  | 0 => fun _ _ _ _ r h => by simp [word_Put.l0] at h
  | k + 1 => by
    have ih0 := word_Put.mono_l k
    · intro y0 y1 y2 y3
      unfold word_Put.l0
      repeat' first
      | (with_reducible exact ih0 _ _ _ _)
      | (with_reducible exact LeO.refl _)
      | (with_reducible exact LeO.none _)
      | (with_reducible refine LeO.ite ?_ ?_)
      | (with_reducible refine LeO.bind ?_ (fun _ => ?_))
      | exact ih0 _ _ _ _
      | exact LeO.none _
      | refine LeO.ite ?_ ?_
      | refine LeO.bind ?_ (fun _ => ?_)
theorem word_Put.mono : ∀ a0 k, LeO (word_Put.f k a0) (word_Put.f (k + 1) a0) := by
  intro a0 k
  have ih0 := word_Put.mono_l k
  unfold word_Put.f
  repeat' first
      | (with_reducible exact ih0 _ _ _ _)
      | (with_reducible exact LeO.refl _)
      | (with_reducible exact LeO.none _)
      | (with_reducible refine LeO.ite ?_ ?_)
      | (with_reducible refine LeO.bind ?_ (fun _ => ?_))
      | exact ih0 _ _ _ _
      | exact LeO.none _
      | refine LeO.ite ?_ ?_
      | refine LeO.bind ?_ (fun _ => ?_)
theorem word_Put.calls (k : Nat) (A0 : Option Addr) (c0 : Nat) (l0 : List Int) (r : List Int) (w : World) (hr0 : Kd.C (Kd.int .u16) w A0 l0.length l0) (hc0 : l0.length ≤ c0) (h : word_Put.f k l0 = some r) :
    Calls Try.prog 55 #[.slice A0 l0.length c0] w fun e w' => ∃ v0_ : Value, e = .returned (v0_) ∧ Kd.R (Kd.int .u8) 5 w' w.heap.size (fun _ => True) v0_ r ∧ Below w.heap.size w w' := by
  have HR0 := Aside0.mk hr0
  have HC0 := Aside0.mk hc0
  clear hr0 hc0
  have HB := Aside0.mk (Below.refl w.heap.size w)
  have H : (word_Put.l0 k ([] : List Int) l0 (l0.length : Int) 0) = some r := h
  clear h
  have H' := Aside0.mk H
  clear H
  go_enter Try.func55, Try.ntmps55
  go_wp2
  go_loopg [3, 8] k (fun kq v3 v8 w' => ∃ (x3_1 : List Int) (x8_1 : Int), v8 = .int .i64 x8_1 ∧ Aside0 (word_Put.l0 kq x3_1 l0 (l0.length : Int) x8_1 = some r) ∧ Aside0 (kq ≤ k) ∧ Aside0 (Kd.R (Kd.int .u8) 5 w' w.heap.size (fun _ => True) v3 x3_1) ∧ Aside0 (Below w.heap.size w w'))
  case atStart => exact ⟨(([] : List Int)), (0), (by first | rfl | (simp; done) | (simp [*]; done)), H', ⟨Nat.le_refl _⟩, ⟨by first | exact Kd.R_nil _ _ _ _ _ | exact Kd.N_nil _ _ _ _ _ | exact Kd.V_nil _ _ _ _ _ | exact Kd.Q_nil _ _ _ _ _ | exact Kd.S_nil _ _ _ _ _⟩, ⟨by repeat (first | (with_reducible first | exact HB.out | apply below_alloc | apply pw_below_drewN | apply below_drew1) | exact HB.out)⟩⟩
  case round =>
    clear H'
    obtain ⟨x3_1, x8_1, rfl, HA, HK1, HO_3, HB⟩ := hrel
    cases gk with
    | zero => exact absurd HA.out (by simp [word_Put.l0])
    | succ k1 =>
      have H := HA.out
      clear HA
      simp only [word_Put.l0] at H
      by_cases c2 : x8_1 < (l0.length : Int)
      · rw [if_pos c2] at H
        have c2b0 : decide (x8_1 < (l0.length : Int)) = true := decide_eq_true c2
        clear c2
        by_cases c3 : 0 ≤ x8_1
        · rw [if_pos c3] at H
          have c3b0 : decide (0 ≤ x8_1) = true := decide_eq_true c3
          clear c3
          by_cases c4 : x8_1 < (l0.length : Int)
          · rw [if_pos c4] at H
            have c4b0 : decide (x8_1 < (l0.length : Int)) = true := decide_eq_true c4
            clear c4
            obtain ⟨y111, hy111⟩ : ∃ y_ : List Int, y_ = (([((rd l0 x8_1) / 256) % 256, (rd l0 x8_1) % 256] : List Int)) := ⟨_, rfl⟩
            replace H : (if x3_1.length + y111.length < 140737488355328 then (word_Put.l0 k1 (x3_1 ++ y111) l0 (l0.length : Int) (wrap64 (x8_1 + 1))) else (none)) = some r := by first | (rw [hy111]; with_reducible exact H) | (have H2_ := (Option.bind_some _ _).symm.trans H; rw [hy111]; with_reducible exact H2_) | (have H2_ := (Option.bind_some _ _).symm.trans H; with_reducible exact H2_) | with_reducible exact H | (rw [hy111]; exact H) | exact H
            have Ny111 := Aside0.mk hy111
            clear hy111
            by_cases c5 : x3_1.length + y111.length < 140737488355328
            · rw [if_pos c5] at H
              have LMc5 := Aside0.mk c5
              clear c5
              obtain ⟨y114, hy114⟩ : ∃ y_ : List Int, y_ = (x3_1 ++ y111) := ⟨_, rfl⟩
              replace H : (word_Put.l0 k1 y114 l0 (l0.length : Int) (wrap64 (x8_1 + 1))) = some r := by first | (rw [hy114]; with_reducible exact H) | (have H2_ := (Option.bind_some _ _).symm.trans H; rw [hy114]; with_reducible exact H2_) | (have H2_ := (Option.bind_some _ _).symm.trans H; with_reducible exact H2_) | with_reducible exact H | (rw [hy114]; exact H) | exact H
              have Ny114 := Aside0.mk hy114
              clear hy114
              have H' := Aside0.mk H
              clear H
              have p110 : 0 ≤ (x8_1 : Int) := of_decide_eq_true (by first | (with_reducible assumption) | assumption)
              have q110 : x8_1 < (l0.length : Int) := of_decide_eq_true (by first | (with_reducible assumption) | assumption)
              obtain ⟨ad110, e110, hx110_0⟩ := Kd.at_int HR0.out x8_1 p110 q110
              cases e110
              replace hx110_0 := (HB.out.cell (World.block_lt_of_cell? w _ hx110_0)).trans hx110_0
              replace p110 := eq_true p110
              replace q110 := eq_true q110
              go_wp2_with (first | ((with_reducible refine gate_dst (N := 18) rfl ?_); refine Kd.R_lit (Kd.int .u8) _ 5 ?hg (N := 18) ?hd (xs := ([((rd l0 x8_1) / 256) % 256, (rd l0 x8_1) % 256] : List Int)) (inner := [.int .u8 (((rd l0 x8_1) / 256) % 256), .int .u8 ((rd l0 x8_1) % 256)]) (ok := fun _ => True) (okp := fun _ => True) ?hr ?hp (fun _ hk => hk) trivial (Below.refl _ _) (Nat.le_refl _) (by simp) ?_; (case hd => rfl); (case hg => rfl); (case hr => first | (go_simp; done) | (go_simp; rfl)); (case hp => exact (Reps.one (show Kd.M (Kd.int .u8) _ _ _ (((rd l0 x8_1) / 256) % 256) [.int .u8 (((rd l0 x8_1) / 256) % 256)] from rfl) (Reps.one (show Kd.M (Kd.int .u8) _ _ _ ((rd l0 x8_1) % 256) [.int .u8 ((rd l0 x8_1) % 256)] from rfl) (Reps.none _ _)))); intro v112 w6 ho7 hb hg_ hnew_; clear hg_ hnew_; (first | rw [← Ny111.out] at ho7 | (simp only [Int.reduceToNat] at ho7; rw [← Ny111.out] at ho7)); have n0_ := Aside0.mk (Kd.R_elder' (by (with_reducible repeat (first | apply Kd.R_alloc | apply Kd.R_drewN | apply Kd.R_drew)); exact HO_3.out) (Kd.R_base ho7) hb); have n1_ := Aside0.mk (Kd.R_lower (Kd.R_new' ho7 (Kd.R_lt (by (with_reducible repeat (first | apply Kd.R_alloc | apply Kd.R_drewN | apply Kd.R_drew)); exact HO_3.out))) (below_size (by repeat (first | (with_reducible first | exact HB.out | apply below_alloc | apply pw_below_drewN | apply below_drew1) | exact HB.out)))); have n2_ := Aside0.mk (below_step (by repeat (first | (with_reducible first | exact HB.out | apply below_alloc | apply pw_below_drewN | apply below_drew1) | exact HB.out)) hb); clear HO_3; clear HB; have HO_3 := n0_; have HO113 := n1_; have HB := n2_; clear n0_ n1_ n2_; clear hb ho7; obtain ⟨Ao9, co9, eo9⟩ := Kd.R_slice HO113.out; subst eo9) | ((with_reducible refine gate_builtin (b := .append) (xs := #[.tmp 12, .tmp 18]) rfl ?_); at_builtin; refine Kd.R_append_rows (Kd.int .u8) (w0 := w) w.heap.size rfl (.tmp 12) (.tmp 18) 22 5 (.int .u8 0) 1 rfl Try.underlying22 info5 rfl (by decide) (by omega) u3 x3_1 y111 _ _ _ (fun k_ => some k_ ≠ (.slice Ao9 y111.length co9 : Value).ownBlock) (fun _ => False) rfl rfl ?aO ?aR (fun _ _ h => h) (fun _ h => h.elim) ?aF ?aB ?aS ?aL ?_; (case aR => repeat (first | exact (Kd.R_reads' HO113.out).2.2 | (with_reducible refine Kd.C_alloc ?_ _) | (with_reducible refine Kd.C_drewN ?_ _) | (with_reducible refine Kd.C_drew ?_))); (case aB => exact (by repeat (first | (with_reducible first | exact HB.out | apply below_alloc | apply pw_below_drewN | apply below_drew1) | exact HB.out))); (case aF => exact (fun k_ hk => Kd.fresh' (Kd.R_lt (by (with_reducible repeat (first | apply Kd.R_alloc | apply Kd.R_drewN | apply Kd.R_drew)); exact HO113.out)) k_ hk)); (case aO => exact (by (with_reducible repeat (first | apply Kd.R_alloc | apply Kd.R_drewN | apply Kd.R_drew)); exact Kd.R_mono HO_3.out (fun _ hk => hk.2))); (case aS => exact (below_size (by repeat (first | (with_reducible first | exact HB.out | apply below_alloc | apply pw_below_drewN | apply below_drew1) | exact HB.out)))); (case aL => have := LMc5.out; omega); intro v115 w8 ho hb hg hat; rw [← Ny114.out] at ho; have n0_ := Aside0.mk (Kd.R_after (ok := (fun _ => True)) (by (with_reducible repeat (first | apply Kd.R_alloc | apply Kd.R_drewN | apply Kd.R_drew)); exact HO113.out) hg hat); have n1_ := Aside0.mk (hb); have n2_ := Aside0.mk (ho); clear HO113; clear HB; clear HO_3; have HO113 := n0_; have HB := n1_; have HO116 := n2_; clear n0_ n1_ n2_; clear ho hb hg hat))
              go_roundg k1
              case measure => have := HK1.out; omega
              case rel => exact ⟨(y114), (wrap64 (x8_1 + 1)), (by first | rfl | (simp; done) | (simp [*]; done)), H', ⟨by have := HK1.out; omega⟩, ⟨by (with_reducible repeat (first | apply Kd.R_alloc | apply Kd.R_drewN | apply Kd.R_drew)); exact Kd.R_mono HO116.out (fun _ hk => trivial)⟩, ⟨by repeat (first | (with_reducible first | exact HB.out | apply below_alloc | apply pw_below_drewN | apply below_drew1) | exact HB.out)⟩⟩
            · rw [if_neg c5] at H
              exact absurd H (by simp)
          · rw [if_neg c4] at H
            exact absurd H (by simp)
        · rw [if_neg c3] at H
          exact absurd H (by simp)
      · rw [if_neg c2] at H
        have c2b0 : decide (x8_1 < (l0.length : Int)) = false := decide_eq_false c2
        clear c2
        obtain rfl := Option.some.inj H
        go_wp2
        go_ret
        exact ⟨_, by first | rfl | (simp [errW_none, errW_some] <;> rfl) | (simp [*, errW_none, errW_some] <;> rfl), by (with_reducible repeat (first | apply Kd.R_alloc | apply Kd.R_drewN | apply Kd.R_drew)); exact HO_3.out, by repeat (first | (with_reducible first | exact HB.out | apply below_alloc | apply pw_below_drewN | apply below_drew1) | exact HB.out)⟩
end Go.Proofs.Ytmglilncdffbkaa.P
end
section
namespace Go.Proofs.Ytmglilncdffbkaa.P
open Go.RowKit Go.Proofs.YtmglilncdffbkaaW.PrintWords Go.Proofs.YtmglilncdffbkaaW.PrintLast Go.Proofs.YtmglilncdffbkaaW.PrintMore
attribute [local go_sem] max2_int min2_int max_two min_two max_three min_three max_four min_four   -- for this text's walks alone
def busbarref04_Put.l0 : Nat → List Int → List Int → Int → Option (List Int)
  | 0, _, _, _ => none
  | k + 1, x0, x3, x4 => if x4 < (x0.length : Int) then (if 0 ≤ x4 then ((some (([(IntKind.u16.wrap (Int.tdiv (rd x0 x4) 256)) % 256, (Int.tmod (rd x0 x4) 256) % 256] : List Int) : List Int)).bind fun y250 => (if x3.length + y250.length < 140737488355328 then (busbarref04_Put.l0 k x0 (x3 ++ y250) (wrap64 (x4 + 1))) else (none))) else (none)) else (some x3)
def busbarref04_Put.f (k : Nat) (l0 : List Int) : Option (List Int) := busbarref04_Put.l0 k l0 ([] : List Int) 0
theorem busbarref04_Put.mono_l : ∀ k, (∀ y0 y1 y2, LeO (busbarref04_Put.l0 k y0 y1 y2) (busbarref04_Put.l0 (k + 1) y0 y1 y2))
  | 0 => fun _ _ _ r h => by simp [busbarref04_Put.l0] at h
  | k + 1 => by
    have ih0 := busbarref04_Put.mono_l k
    · intro y0 y1 y2
      unfold busbarref04_Put.l0
      repeat' first
      | (with_reducible exact ih0 _ _ _)
      | (with_reducible exact LeO.refl _)
      | (with_reducible exact LeO.none _)
      | (with_reducible refine LeO.ite ?_ ?_)
      | (with_reducible refine LeO.bind ?_ (fun _ => ?_))
      | exact ih0 _ _ _
      | exact LeO.none _
      | refine LeO.ite ?_ ?_
      | refine LeO.bind ?_ (fun _ => ?_)
theorem busbarref04_Put.mono : ∀ a0 k, LeO (busbarref04_Put.f k a0) (busbarref04_Put.f (k + 1) a0) := by
  intro a0 k
  have ih0 := busbarref04_Put.mono_l k
  unfold busbarref04_Put.f
  repeat' first
      | (with_reducible exact ih0 _ _ _)
      | (with_reducible exact LeO.refl _)
      | (with_reducible exact LeO.none _)
      | (with_reducible refine LeO.ite ?_ ?_)
      | (with_reducible refine LeO.bind ?_ (fun _ => ?_))
      | exact ih0 _ _ _
      | exact LeO.none _
      | refine LeO.ite ?_ ?_
      | refine LeO.bind ?_ (fun _ => ?_)
def busbarref04_Put.T5 : Bool × List (List Nat × List Nat) := (true, [([], []), ([], []), ([], []), ([1, 2], [1, 2]), ([3], [3]), ([4], [4]), ([5], [5]), ([], []), ([], []), ([7, 8], [7, 8]), ([9], [9]), ([10], [10]), ([11], [11]), ([6, 12], [6, 12]), ([0, 13], [0, 13]), ([14, 14, 0, 1, 2, 3, 4, 5, 6, 7, 8, 9, 10, 11, 12, 13, 14], [0, 14])])
def busbarref04_Put.B5 : List Nat := [0, 0, 0, 6, 14, 30, 62, 0, 0, 384, 896, 1920, 3968, 8190, 16383, 32767]
theorem busbarref04_Put.tab5 : rtab .any (opsOf Try.f63 5) = busbarref04_Put.T5 := by kernel_rfl
theorem busbarref04_Put.bits5 : waitsOk busbarref04_Put.T5.2 busbarref04_Put.B5 = true := by kernel_rfl
theorem busbarref04_Put.calls (k : Nat) (A0 : Option Addr) (c0 : Nat) (l0 : List Int) (r : List Int) (w : World) (hr0 : Kd.C (Kd.int .u16) w A0 l0.length l0) (hc0 : l0.length ≤ c0) (h : busbarref04_Put.f k l0 = some r) :
    Calls Try.prog 63 #[.slice A0 l0.length c0] w fun e w' => ∃ v0_ : Value, e = .returned (v0_) ∧ Kd.R (Kd.int .u8) 5 w' w.heap.size (fun _ => True) v0_ r ∧ Below w.heap.size w w' := by
  have HR0 := Aside0.mk hr0
  have HC0 := Aside0.mk hc0
  clear hr0 hc0
  have HB := Aside0.mk (Below.refl w.heap.size w)
  have H : (busbarref04_Put.l0 k l0 ([] : List Int) 0) = some r := h
  clear h
  have H' := Aside0.mk H
  clear H
  go_enter Try.func63, Try.ntmps63
  go_wp2
  go_loopg [3, 4] k (fun kq v3 v4 w' => ∃ (x3_1 : List Int) (x4_1 : Int), v4 = .int .i64 x4_1 ∧ Aside0 (busbarref04_Put.l0 kq l0 x3_1 x4_1 = some r) ∧ Aside0 (kq ≤ k) ∧ Aside0 (Kd.R (Kd.int .u8) 5 w' w.heap.size (fun _ => True) v3 x3_1) ∧ Aside0 (Below w.heap.size w w'))
  case atStart => exact ⟨(([] : List Int)), (0), (by first | rfl | (simp; done) | (simp [*]; done)), H', ⟨Nat.le_refl _⟩, ⟨by first | exact Kd.R_nil _ _ _ _ _ | exact Kd.N_nil _ _ _ _ _ | exact Kd.V_nil _ _ _ _ _ | exact Kd.Q_nil _ _ _ _ _ | exact Kd.S_nil _ _ _ _ _⟩, ⟨by repeat (first | (with_reducible first | exact HB.out | apply below_alloc | apply pw_below_drewN | apply below_drew1) | exact HB.out)⟩⟩
  case round =>
    clear H'
    obtain ⟨x3_1, x4_1, rfl, HA, HK1, HO_3, HB⟩ := hrel
    cases gk with
    | zero => exact absurd HA.out (by simp [busbarref04_Put.l0])
    | succ k1 =>
      have H := HA.out
      clear HA
      simp only [busbarref04_Put.l0] at H
      by_cases c2 : x4_1 < (l0.length : Int)
      · rw [if_pos c2] at H
        have c2b0 : decide (x4_1 < (l0.length : Int)) = true := decide_eq_true c2
        clear c2
        by_cases c3 : 0 ≤ x4_1
        · rw [if_pos c3] at H
          have c3b0 : decide (0 ≤ x4_1) = true := decide_eq_true c3
          clear c3
          obtain ⟨y250, hy250⟩ : ∃ y_ : List Int, y_ = (([(IntKind.u16.wrap (Int.tdiv (rd l0 x4_1) 256)) % 256, (Int.tmod (rd l0 x4_1) 256) % 256] : List Int)) := ⟨_, rfl⟩
          replace H : (if x3_1.length + y250.length < 140737488355328 then (busbarref04_Put.l0 k1 l0 (x3_1 ++ y250) (wrap64 (x4_1 + 1))) else (none)) = some r := by first | (rw [hy250]; with_reducible exact H) | (have H2_ := (Option.bind_some _ _).symm.trans H; rw [hy250]; with_reducible exact H2_) | (have H2_ := (Option.bind_some _ _).symm.trans H; with_reducible exact H2_) | with_reducible exact H | (rw [hy250]; exact H) | exact H
          have Ny250 := Aside0.mk hy250
          clear hy250
          by_cases c4 : x3_1.length + y250.length < 140737488355328
          · rw [if_pos c4] at H
            have LMc4 := Aside0.mk c4
            clear c4
            obtain ⟨y253, hy253⟩ : ∃ y_ : List Int, y_ = (x3_1 ++ y250) := ⟨_, rfl⟩
            replace H : (busbarref04_Put.l0 k1 l0 y253 (wrap64 (x4_1 + 1))) = some r := by first | (rw [hy253]; with_reducible exact H) | (have H2_ := (Option.bind_some _ _).symm.trans H; rw [hy253]; with_reducible exact H2_) | (have H2_ := (Option.bind_some _ _).symm.trans H; with_reducible exact H2_) | with_reducible exact H | (rw [hy253]; exact H) | exact H
            have Ny253 := Aside0.mk hy253
            clear hy253
            have H' := Aside0.mk H
            clear H
            try go_wp2
            have n0_ := Aside0.mk (Kd.R_drew HO_3.out)
            have n1_ := Aside0.mk (below_drew1 HB.out)
            clear HO_3
            clear HB
            have HO_3 := n0_
            have HB := n1_
            clear n0_ n1_
            have p248 : 0 ≤ (x4_1 : Int) := of_decide_eq_true (by first | (with_reducible assumption) | assumption)
            have q248 : x4_1 < (l0.length : Int) := of_decide_eq_true (by first | (with_reducible assumption) | assumption)
            obtain ⟨ad248, e248, hx248_0⟩ := Kd.at_int HR0.out x4_1 p248 q248
            have hw248_0 := hx248_0
            cases e248
            replace hx248_0 := (HB.out.cell (World.block_lt_of_cell? w _ hx248_0)).trans hx248_0
            replace p248 := eq_true p248
            replace q248 := eq_true q248
            have p249 : 0 ≤ (x4_1 : Int) := of_decide_eq_true (by first | (with_reducible assumption) | assumption)
            have q249 : x4_1 < (l0.length : Int) := of_decide_eq_true (by first | (with_reducible assumption) | assumption)
            obtain ⟨ad249, e249, hx249_0⟩ := Kd.at_int HR0.out x4_1 p249 q249
            have hw249_0 := hx249_0
            obtain rfl : ad248 = ad249 := (by injection e249)
            replace hx249_0 := (HB.out.cell (World.block_lt_of_cell? w _ hx249_0)).trans hx249_0
            replace p249 := eq_true p249
            replace q249 := eq_true q249
            refine start_ (n := 16) (S := fun w' => w'.cell? (ad248.add (x4_1).toNat) = some (.int .u16 (rd l0 x4_1)) ∧ w'.cell? (ad248.add (x4_1).toNat) = some (.int .u16 (rd l0 x4_1))) (ds := []) #[false, false, false, false, false, false, false, false, false, false, false, false, false, false, false, false] (by kernel_rfl) rfl rfl ⟨((HB.out.cell (World.block_lt_of_cell? w _ hw248_0)).trans hw248_0), ((HB.out.cell (World.block_lt_of_cell? w _ hw249_0)).trans hw249_0)⟩ (fun hHeld => ?_); refine with_tabW busbarref04_Put.tab5 busbarref04_Put.bits5 (fun HT_ HW_ => ?_)
            generalize wr.drew = w5 at HO_3 HB hx248_0 hx249_0 hHeld ⊢
            refine pure_ (i := 0) (N := some 11) (v := ?_) (a' := ?_) #[true, false, false, false, false, false, false, false, false, false, false, false, false, false, false, false] rfl rfl (any_of HT_.out (by kernel_rfl)) (fun _ _ _ h => h) (Or.inl ⟨by rfl, ?_⟩) ?_ ?_
            rotate_left
            · intro w'
              go_simp
              with_reducible rfl
            rotate_left
            · simp only [Act.put, List.setIfInBounds_toArray, List.set_cons_zero, List.set_cons_succ, i64_w, i32_w]
              rfl
            refine pure_ (i := 1) (N := some 12) (v := ?_) (a' := ?_) #[true, true, false, false, false, false, false, false, false, false, false, false, false, false, false, false] rfl rfl (any_of HT_.out (by kernel_rfl)) (fun _ _ _ h => h) (Or.inl ⟨by rfl, ?_⟩) ?_ ?_
            rotate_left
            · intro w'
              go_simp
              with_reducible rfl
            rotate_left
            · simp only [Act.put, List.setIfInBounds_toArray, List.set_cons_zero, List.set_cons_succ, i64_w, i32_w]
              rfl
            refine pure_ (i := 2) (N := some 13) (v := ?_) (a' := ?_) #[true, true, true, false, false, false, false, false, false, false, false, false, false, false, false, false] rfl rfl (any_of HT_.out (by kernel_rfl)) (fun _ _ _ h => h) (Or.inl ⟨by rfl, ?_⟩) ?_ ?_
            rotate_left
            · intro w'
              go_simp
              with_reducible rfl
            rotate_left
            · simp only [Act.put, List.setIfInBounds_toArray, List.set_cons_zero, List.set_cons_succ, i64_w, i32_w]
              rfl
            refine pure_ (i := 3) (N := some 14) (v := ?_) (a' := ?_) #[true, true, true, true, false, false, false, false, false, false, false, false, false, false, false, false] rfl rfl (any_of HT_.out (by kernel_rfl)) (fun _ _ _ h => h) (Or.inl ⟨by rfl, ?_⟩) ?_ ?_
            rotate_left
            · intro w'
              go_simp
              with_reducible rfl
            rotate_left
            · simp only [Act.put, List.setIfInBounds_toArray, List.set_cons_zero, List.set_cons_succ, i64_w, i32_w]
              rfl
            refine pure_ (i := 7) (N := some 18) (v := ?_) (a' := ?_) #[true, true, true, true, false, false, false, true, false, false, false, false, false, false, false, false] rfl rfl (any_of HT_.out (by kernel_rfl)) (fun _ _ _ h => h) (Or.inl ⟨by rfl, ?_⟩) ?_ ?_
            rotate_left
            · intro w'
              go_simp
              with_reducible rfl
            rotate_left
            · simp only [Act.put, List.setIfInBounds_toArray, List.set_cons_zero, List.set_cons_succ, i64_w, i32_w]
              rfl
            refine pure_ (i := 8) (N := some 19) (v := ?_) (a' := ?_) #[true, true, true, true, false, false, false, true, true, false, false, false, false, false, false, false] rfl rfl (any_of HT_.out (by kernel_rfl)) (fun _ _ _ h => h) (Or.inl ⟨by rfl, ?_⟩) ?_ ?_
            rotate_left
            · intro w'
              go_simp
              with_reducible rfl
            rotate_left
            · simp only [Act.put, List.setIfInBounds_toArray, List.set_cons_zero, List.set_cons_succ, i64_w, i32_w]
              rfl
            refine pure_ (i := 9) (N := some 20) (v := ?_) (a' := ?_) #[true, true, true, true, false, false, false, true, true, true, false, false, false, false, false, false] rfl rfl (any_of HT_.out (by kernel_rfl)) (fun _ _ _ h => h) (Or.inl ⟨by rfl, ?_⟩) ?_ ?_
            rotate_left
            · intro w'
              go_simp
              with_reducible rfl
            rotate_left
            · simp only [Act.put, List.setIfInBounds_toArray, List.set_cons_zero, List.set_cons_succ, i64_w, i32_w]
              rfl
            refine take_ (i := 4) (N := some 15) (v := ?_) (a' := ?_) #[true, true, true, true, true, false, false, true, true, true, false, false, false, false, false, false] rfl rfl (take_ofW HT_.out HW_.out (by kernel_rfl)) (fun _ _ _ h => h) (Or.inl ⟨by rfl, ?_⟩) hHeld ?_ ?_
            rotate_left
            · rintro w' ⟨s0, s1⟩
              go_simp
              with_reducible rfl
            rotate_left
            · simp only [Act.put, List.setIfInBounds_toArray, List.set_cons_zero, List.set_cons_succ, i64_w, i32_w]
              rfl
            refine pure_ (i := 5) (N := some 16) (v := ?_) (a' := ?_) #[true, true, true, true, true, true, false, true, true, true, false, false, false, false, false, false] rfl rfl (any_of HT_.out (by kernel_rfl)) (fun _ _ _ h => h) (Or.inl ⟨by rfl, ?_⟩) ?_ ?_
            rotate_left
            · intro w'
              go_simp
              with_reducible rfl
            rotate_left
            · simp only [Act.put, List.setIfInBounds_toArray, List.set_cons_zero, List.set_cons_succ, i64_w, i32_w]
              rfl
            refine pure_ (i := 6) (N := some 17) (v := ?_) (a' := ?_) #[true, true, true, true, true, true, true, true, true, true, false, false, false, false, false, false] rfl rfl (any_of HT_.out (by kernel_rfl)) (fun _ _ _ h => h) (Or.inl ⟨by rfl, ?_⟩) ?_ ?_
            rotate_left
            · intro w'
              go_simp
              with_reducible rfl
            rotate_left
            · simp only [Act.put, List.setIfInBounds_toArray, List.set_cons_zero, List.set_cons_succ, i64_w, i32_w]
              rfl
            refine take_ (i := 10) (N := some 21) (v := ?_) (a' := ?_) #[true, true, true, true, true, true, true, true, true, true, true, false, false, false, false, false] rfl rfl (take_ofW HT_.out HW_.out (by kernel_rfl)) (fun _ _ _ h => h) (Or.inl ⟨by rfl, ?_⟩) hHeld ?_ ?_
            rotate_left
            · rintro w' ⟨s0, s1⟩
              go_simp
              with_reducible rfl
            rotate_left
            · simp only [Act.put, List.setIfInBounds_toArray, List.set_cons_zero, List.set_cons_succ, i64_w, i32_w]
              rfl
            refine pure_ (i := 11) (N := some 22) (v := ?_) (a' := ?_) #[true, true, true, true, true, true, true, true, true, true, true, true, false, false, false, false] rfl rfl (any_of HT_.out (by kernel_rfl)) (fun _ _ _ h => h) (Or.inl ⟨by rfl, ?_⟩) ?_ ?_
            rotate_left
            · intro w'
              go_simp
              with_reducible rfl
            rotate_left
            · simp only [Act.put, List.setIfInBounds_toArray, List.set_cons_zero, List.set_cons_succ, i64_w, i32_w]
              rfl
            refine pure_ (i := 12) (N := some 23) (v := ?_) (a' := ?_) #[true, true, true, true, true, true, true, true, true, true, true, true, true, false, false, false] rfl rfl (any_of HT_.out (by kernel_rfl)) (fun _ _ _ h => h) (Or.inl ⟨by rfl, ?_⟩) ?_ ?_
            rotate_left
            · intro w'
              go_simp
              with_reducible rfl
            rotate_left
            · simp only [Act.put, List.setIfInBounds_toArray, List.set_cons_zero, List.set_cons_succ, i64_w, i32_w]
              rfl
            refine one_ (i := 13) (N := some 24) #[true, true, true, true, true, true, true, true, true, true, true, true, true, true, false, false] rfl rfl (one_of HT_.out (by kernel_rfl)) (by decide) (fun K hK => ?_)
            refine Kd.R_lit_step (Kd.int .u8) _ 5 ?hg (N := 24) ?hd (xs := ([(IntKind.u16.wrap (Int.tdiv (rd l0 x4_1) 256)) % 256, (Int.tmod (rd l0 x4_1) 256) % 256] : List Int)) (inner := [.int .u8 ((IntKind.u16.wrap (Int.tdiv (rd l0 x4_1) 256)) % 256), .int .u8 ((Int.tmod (rd l0 x4_1) 256) % 256)]) (ok := fun _ => True) (okp := fun _ => True) ?hr ?hp (fun _ hk => hk) trivial (Below.refl _ _) (Nat.le_refl _) (by simp) ?_; (case hd => rfl); (case hg => rfl); (case hr => first | (go_simp; done) | (go_simp; rfl)); (case hp => exact (Reps.one (show Kd.M (Kd.int .u8) _ _ _ ((IntKind.u16.wrap (Int.tdiv (rd l0 x4_1) 256)) % 256) [.int .u8 ((IntKind.u16.wrap (Int.tdiv (rd l0 x4_1) 256)) % 256)] from rfl) (Reps.one (show Kd.M (Kd.int .u8) _ _ _ ((Int.tmod (rd l0 x4_1) 256) % 256) [.int .u8 ((Int.tmod (rd l0 x4_1) 256) % 256)] from rfl) (Reps.none _ _))))
            intro v251 w6 ho7 hb hg_ hnew_
            clear hg_ hnew_
            (first | rw [← Ny250.out] at ho7 | (simp only [Int.reduceToNat] at ho7; rw [← Ny250.out] at ho7))
            have n0_ := Aside0.mk (Kd.R_elder' (by (with_reducible repeat (first | apply Kd.R_alloc | apply Kd.R_drewN | apply Kd.R_drew)); exact HO_3.out) (Kd.R_base ho7) hb)
            have n1_ := Aside0.mk (Kd.R_lower (Kd.R_new' ho7 (Kd.R_lt (by (with_reducible repeat (first | apply Kd.R_alloc | apply Kd.R_drewN | apply Kd.R_drew)); exact HO_3.out))) (below_size (by repeat (first | (with_reducible first | exact HB.out | apply below_alloc | apply pw_below_drewN | apply below_drew1) | exact HB.out))))
            have n2_ := Aside0.mk (below_step (by repeat (first | (with_reducible first | exact HB.out | apply below_alloc | apply pw_below_drewN | apply below_drew1) | exact HB.out)) hb)
            clear HO_3
            clear HB
            have HO_3 := n0_
            have HO252 := n1_
            have HB := n2_
            clear n0_ n1_ n2_
            clear hb ho7
            obtain ⟨Ao9, co9, eo9⟩ := Kd.R_slice HO252.out
            (first | subst eo9 | (injection eo9 with f1_ f2_ f3_; have f4_ := f1_.symm; have f5_ := f3_.symm; clear f1_ f2_ f3_; subst f4_; subst f5_))
            refine hK.out _ _ ⟨((HB.out.cell (World.block_lt_of_cell? w _ hw248_0)).trans hw248_0), ((HB.out.cell (World.block_lt_of_cell? w _ hw249_0)).trans hw249_0)⟩ (fun hHeld => ?_)
            clear hK K
            refine norm_ (a' := ?_) ?_ ?_
            rotate_left
            · show Act.put _ (some 24) _ = _
              simp only [Act.put, List.setIfInBounds_toArray, List.set_cons_zero, List.set_cons_succ, i64_w, i32_w]
              rfl
            refine one_ (i := 14) (N := some 25) #[true, true, true, true, true, true, true, true, true, true, true, true, true, true, true, false] rfl rfl (one_of HT_.out (by kernel_rfl)) (by decide) (fun K hK => ?_)
            refine Kd.R_append_rows_step (Kd.int .u8) (w0 := w) w.heap.size (by rfl) (.tmp 11) (.tmp 24) 22 5 (.int .u8 0) 1 rfl Try.underlying22 info5 rfl (by decide) (by omega) u3 x3_1 y250 _ _ _ (fun k_ => some k_ ≠ (.slice Ao9 y250.length co9 : Value).ownBlock) (fun _ => False) rfl rfl ?aO ?aR (fun _ _ h => h) (fun _ h => h.elim) ?aF ?aB ?aS ?aL ?_
            (case aR => repeat (first | exact (Kd.R_reads' HO252.out).2.2 | (with_reducible refine Kd.C_alloc ?_ _) | (with_reducible refine Kd.C_drewN ?_ _) | (with_reducible refine Kd.C_drew ?_)))
            (case aB => exact (by repeat (first | (with_reducible first | exact HB.out | apply below_alloc | apply pw_below_drewN | apply below_drew1) | exact HB.out)))
            (case aF => exact (fun k_ hk => Kd.fresh' (Kd.R_lt (by (with_reducible repeat (first | apply Kd.R_alloc | apply Kd.R_drewN | apply Kd.R_drew)); exact HO252.out)) k_ hk))
            (case aO => exact (by (with_reducible repeat (first | apply Kd.R_alloc | apply Kd.R_drewN | apply Kd.R_drew)); exact Kd.R_mono HO_3.out (fun _ hk => hk.2)))
            (case aS => exact (below_size (by repeat (first | (with_reducible first | exact HB.out | apply below_alloc | apply pw_below_drewN | apply below_drew1) | exact HB.out))))
            (case aL => have := LMc4.out; omega)
            intro v254 w8 ho hb hg hat
            rw [← Ny253.out] at ho
            have n0_ := Aside0.mk (Kd.R_after (ok := (fun _ => True)) (by (with_reducible repeat (first | apply Kd.R_alloc | apply Kd.R_drewN | apply Kd.R_drew)); exact HO252.out) hg hat)
            have n1_ := Aside0.mk (hb)
            have n2_ := Aside0.mk (ho)
            clear HO252
            clear HB
            clear HO_3
            have HO252 := n0_
            have HB := n1_
            have HO255 := n2_
            clear n0_ n1_ n2_
            clear ho hb hg hat
            refine hK.out _ _ ⟨((HB.out.cell (World.block_lt_of_cell? w _ hw248_0)).trans hw248_0), ((HB.out.cell (World.block_lt_of_cell? w _ hw249_0)).trans hw249_0)⟩ (fun hHeld => ?_)
            clear hK K
            refine norm_ (a' := ?_) ?_ ?_
            rotate_left
            · show Act.put _ (some 25) _ = _
              simp only [Act.put, List.setIfInBounds_toArray, List.set_cons_zero, List.set_cons_succ, i64_w, i32_w]
              rfl
            refine pure_ (i := 15) (N := some 3) (v := ?_) (a' := ?_) #[true, true, true, true, true, true, true, true, true, true, true, true, true, true, true, true] rfl rfl (any_of HT_.out (by kernel_rfl)) (fun _ _ _ h => h) (Or.inl ⟨by rfl, ?_⟩) ?_ ?_
            rotate_left
            · intro w'
              go_simp
              with_reducible rfl
            rotate_left
            · simp only [Act.put, List.setIfInBounds_toArray, List.set_cons_zero, List.set_cons_succ, i64_w, i32_w]
              rfl
            refine done_ (done_of HT_.out (by kernel_rfl)) ?_
            try go_wp2
            go_roundg k1
            case measure => have := HK1.out; omega
            case rel => exact ⟨(y253), (wrap64 (x4_1 + 1)), (by first | rfl | (simp; done) | (simp [*]; done)), H', ⟨by have := HK1.out; omega⟩, ⟨by (with_reducible repeat (first | apply Kd.R_alloc | apply Kd.R_drewN | apply Kd.R_drew)); exact Kd.R_mono HO255.out (fun _ hk => trivial)⟩, ⟨by repeat (first | (with_reducible first | exact HB.out | apply below_alloc | apply pw_below_drewN | apply below_drew1) | exact HB.out)⟩⟩
          · rw [if_neg c4] at H
            exact absurd H (by simp)
        · rw [if_neg c3] at H
          exact absurd H (by simp)
      · rw [if_neg c2] at H
        have c2b0 : decide (x4_1 < (l0.length : Int)) = false := decide_eq_false c2
        clear c2
        obtain rfl := Option.some.inj H
        go_wp2
        go_ret
        exact ⟨_, by first | rfl | (simp [errW_none, errW_some] <;> rfl) | (simp [*, errW_none, errW_some] <;> rfl), by (with_reducible repeat (first | apply Kd.R_alloc | apply Kd.R_drewN | apply Kd.R_drew)); exact HO_3.out, by repeat (first | (with_reducible first | exact HB.out | apply below_alloc | apply pw_below_drewN | apply below_drew1) | exact HB.out)⟩
end Go.Proofs.Ytmglilncdffbkaa.P
end
section
namespace Go.Proofs.Ytmglilncdffbkaa.Put
open Go.RowKit Go.Proofs.Ytmglilncdffbkaa.P Go.Proofs.Ytmglilncdffbkaa.E Go.Proofs.Ytmglilncdffbkaa.Take Go.Proofs.YtmglilncdffbkaaW.PrintWords Go.Proofs.YtmglilncdffbkaaW.PrintLast Go.Proofs.YtmglilncdffbkaaW.PrintMore
def is16 (ws : List Int) : Prop := ∀ w ∈ ws, 0 ≤ w ∧ w < 65536
def putL : List Int → List Int
  | [] => []
  | w :: r => (w / 256) % 256 :: w % 256 :: putL r
theorem putL_length : ∀ ws : List Int, (putL ws).length = 2 * ws.length
  | [] => rfl
  | w :: r => by simp only [putL, List.length_cons, putL_length r]; omega
theorem putL_append : ∀ a b : List Int, putL (a ++ b) = putL a ++ putL b
  | [], b => rfl
  | w :: r, b => by simp only [List.cons_append, putL, putL_append r b]
theorem putL_bytes : ∀ ws : List Int, isBytes (putL ws)
  | [] => fun x h => by cases h
  | w :: r => fun x hx => by
    rcases List.mem_cons.1 hx with rfl | hx
    · omega
    rcases List.mem_cons.1 hx with rfl | hx
    · omega
    · exact putL_bytes r x hx
theorem words_cons (a b : Int) (t : List Int) (ht : t.length % 2 = 0) : words (a :: b :: t) = (a * 256 + b) :: words t := by
  unfold words
  rw [if_pos (by simp only [List.length_cons]; omega), if_pos ht, show (a :: b :: t).length / 2 = t.length / 2 + 1 by simp only [List.length_cons]; omega]
  unfold pre
  rw [List.range_succ_eq_map, List.map_cons, List.map_map]
  congr 1
theorem words_nil : words [] = [] := rfl
theorem words_putL : ∀ {ws : List Int}, is16 ws → words (putL ws) = ws
  | [], _ => rfl
  | w :: r, h => by
    have h1 := h w List.mem_cons_self
    simp only [putL]
    rw [words_cons _ _ _ (by rw [putL_length]; omega), words_putL (fun x hx => h x (List.mem_cons_of_mem _ hx)), show w / 256 % 256 * 256 + w % 256 = w by omega]
theorem words_facts : ∀ (n : Nat) (l : List Int), l.length = 2 * n → isBytes l → putL (words l) = l ∧ is16 (words l) ∧ (words l).length = n
  | 0, l, hn, _ => by
    obtain rfl : l = [] := List.eq_nil_of_length_eq_zero hn
    refine ⟨rfl, fun x hx => ?_, rfl⟩
    exact absurd hx (by rw [words_nil]; exact List.not_mem_nil)
  | n + 1, [], hn, _ => by
    simp only [List.length_nil] at hn
    omega
  | n + 1, [a], hn, _ => by
    simp only [List.length_cons, List.length_nil] at hn
    omega
  | n + 1, a :: b :: t, hn, hb => by
    have hl : t.length = 2 * n := by simp only [List.length_cons] at hn; omega
    have ha := hb a (by simp)
    have hb1 := hb b (by simp)
    obtain ⟨h1, h2, h3⟩ := words_facts n t hl (fun x hx => hb x (by simp [hx]))
    rw [words_cons a b t (by omega)]
    refine ⟨?_, ?_, by rw [List.length_cons, h3]⟩
    · simp only [putL, h1]
      rw [show (a * 256 + b) / 256 % 256 = a by omega, show (a * 256 + b) % 256 = b by omega]
    · intro x hx
      rcases List.mem_cons.1 hx with rfl | hx
      · omega
      · exact h2 x hx
theorem put_l0 (ws : List Int) (h : is16 ws) (hl : ws.length ≤ 1000000) : ∀ (d i : Nat), d = ws.length - i → i ≤ ws.length → word_Put.l0 (d + 1) (putL (ws.take i)) ws (ws.length : Int) (i : Int) = some (putL ws) := by
  intro d
  induction d with
  | zero =>
    intro i hd hi
    have e : i = ws.length := by omega
    subst e
    unfold word_Put.l0
    rw [if_neg (by omega), List.take_length]
  | succ d ih =>
    intro i hd hi
    have hlt : i < ws.length := by omega
    have e1 : rd ws (i : Int) = ws.getD i 0 := by simp [rd]
    have e2 : wrap64 ((i : Int) + 1) = ((i + 1 : Nat) : Int) := by rw [wrap64_id (by omega) (by omega)]; omega
    have e3 : ws.take (i + 1) = ws.take i ++ [ws.getD i 0] := by
      rw [List.take_add_one, List.getD_eq_getElem?_getD, List.getElem?_eq_getElem hlt]; rfl
    have h2 := ih (i + 1) (by omega) (by omega)
    rw [e3, putL_append] at h2
    unfold word_Put.l0
    rw [if_pos (show (i : Int) < (ws.length : Int) by omega), if_pos (show (0 : Int) ≤ (i : Int) by omega), if_pos (show (i : Int) < (ws.length : Int) by omega), e1, e2]
    simp only [Option.bind_some]
    rw [if_pos (show (putL (ws.take i)).length + [ws.getD i 0 / 256 % 256, ws.getD i 0 % 256].length < 140737488355328 by rw [putL_length, List.length_take]; simp only [List.length_cons, List.length_nil]; omega)]
    exact h2
theorem put_ev (ws : List Int) (h : is16 ws) (hl : ws.length ≤ 1000000) : Ev (fun k => word_Put.f k ws) (putL ws) := Ev.of (word_Put.mono ws) (k := ws.length + 1) (put_l0 ws h hl ws.length 0 (by omega) (by omega))
theorem rput_l0 (ws : List Int) (h : is16 ws) (hl : ws.length ≤ 1000000) : ∀ (d i : Nat), d = ws.length - i → i ≤ ws.length → busbarref04_Put.l0 (d + 1) ws (putL (ws.take i)) (i : Int) = some (putL ws) := by
  intro d
  induction d with
  | zero =>
    intro i hd hi
    have e : i = ws.length := by omega
    subst e
    unfold busbarref04_Put.l0
    rw [if_neg (by omega), List.take_length]
  | succ d ih =>
    intro i hd hi
    have hlt : i < ws.length := by omega
    have e1 : rd ws (i : Int) = ws.getD i 0 := by simp [rd]
    have e2 : wrap64 ((i : Int) + 1) = ((i + 1 : Nat) : Int) := by rw [wrap64_id (by omega) (by omega)]; omega
    have e3 : ws.take (i + 1) = ws.take i ++ [ws.getD i 0] := by
      rw [List.take_add_one, List.getD_eq_getElem?_getD, List.getElem?_eq_getElem hlt]; rfl
    have h2 := ih (i + 1) (by omega) (by omega)
    rw [e3, putL_append] at h2
    have hb : 0 ≤ ws.getD i 0 ∧ ws.getD i 0 < 65536 := by
      rw [List.getD_eq_getElem?_getD, List.getElem?_eq_getElem hlt]; exact h _ (List.getElem_mem hlt)
    unfold busbarref04_Put.l0
    rw [if_pos (show (i : Int) < (ws.length : Int) by omega), if_pos (show (0 : Int) ≤ (i : Int) by omega), e1, e2, tdiv_id hb.1, tmod_id hb.1, wrap16 (by omega) (by omega), show ws.getD i 0 % 256 % 256 = ws.getD i 0 % 256 by omega]
    simp only [Option.bind_some]
    rw [if_pos (show (putL (ws.take i)).length + [ws.getD i 0 / 256 % 256, ws.getD i 0 % 256].length < 140737488355328 by rw [putL_length, List.length_take]; simp only [List.length_cons, List.length_nil]; omega)]
    exact h2
theorem rput_ev (ws : List Int) (h : is16 ws) (hl : ws.length ≤ 1000000) : Ev (fun k => busbarref04_Put.f k ws) (putL ws) := Ev.of (busbarref04_Put.mono ws) (k := ws.length + 1) (rput_l0 ws h hl ws.length 0 (by omega) (by omega))
theorem is16_2 {a b : Int} (ha : 0 ≤ a ∧ a < 65536) (hb : 0 ≤ b ∧ b < 65536) : is16 [a, b] := fun x hx => by
  rcases List.mem_cons.1 hx with rfl | hx
  · exact ha
  · obtain rfl := List.mem_singleton.1 hx; exact hb
end Go.Proofs.Ytmglilncdffbkaa.Put
end
