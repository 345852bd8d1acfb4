/- The four laws of chapter 13. Conditions: what each theorem states. -/
import Derived.Test.YtbilolgiihegiaaLaw13a
set_option linter.unusedVariables false
set_option linter.unusedSimpArgs false
namespace Go.Proofs.Ytbilolgiihegiaa.Laws
open Go.RowKit Go.Proofs.Ytbilolgiihegiaa.P Go.Proofs.Ytbilolgiihegiaa.E Go.Proofs.Ytbilolgiihegiaa.Same Go.Proofs.Ytbilolgiihegiaa.Refu Go.Proofs.YtbilolgiihegiaaW.PrintWords Go.Proofs.YtbilolgiihegiaaW.PrintLast Go.Proofs.YtbilolgiihegiaaW.PrintMore

set_option maxHeartbeats 16000000 in
set_option maxRecDepth 100000 in
theorem RefusalParses_long (A : Option Addr) (c : Nat) (l : List Int) (w : World) (hr : Kd.C (Kd.int .u8) w A l.length l) (hc : l.length ≤ c) (hb : isBytes l) (hl : 400 < l.length) :
    Calls Try.prog 3 #[.slice A l.length c] w fun en w' => en = .returned (.bool true) ∧ Below w.heap.size w w' := by
  have H := Aside0.mk (Hd.start w)
  have d1 : decide ((l.length : Int) > 400) = true := decide_eq_true (by omega)
  have d2 : decide ((400 : Int) < (l.length : Int)) = true := decide_eq_true (by omega)
  clear hr hb
  go_enter Try.func3, Try.ntmps3
  go_wp2_with (first | (go_at_call 7; (with_reducible refine (awake_any _).mono ?_); rintro en wa ⟨rfl, hb_⟩; have n0_ := Aside0.mk (H.out.on hb_); clear H; have H := n0_; clear n0_; clear hb_))
  go_ret
  exact ⟨rfl, H.out.b⟩
set_option maxHeartbeats 16000000 in
set_option maxRecDepth 100000 in
theorem RefusalParses_go (A : Option Addr) (c : Nat) (l : List Int) (w : World) (hr : Kd.C (Kd.int .u8) w A l.length l) (hc : l.length ≤ c) (hb : isBytes l) (hl : ¬ 400 < l.length) :
    Calls Try.prog 3 #[.slice A l.length c] w fun en w' => en = .returned (.bool true) ∧ Below w.heap.size w w' := by
  have H := Aside0.mk (Hd.start w)
  have n0_ := Aside0.mk ((H.out).add (sta_C _ _ _ _) (hr))
  clear H
  have H := n0_
  clear n0_
  have d1 : decide ((l.length : Int) > 400) = false := decide_eq_false (by omega)
  have d2 : decide ((400 : Int) < (l.length : Int)) = false := decide_eq_false (by omega)
  have HBY := Aside0.mk hb
  clear hr hb
  have e1 : ((parse l).2 == (parse l).2) = true := beq_self_eq_true _
  have e2 := same_refl (parse l).1
  go_enter Try.func3, Try.ntmps3
  go_upto_region 4 with (first | (go_at_call 7; (with_reducible refine (awake_any _).mono ?_); rintro en wa ⟨rfl, hb_⟩; have n0_ := Aside0.mk (H.out.on hb_); clear H; have H := n0_; clear n0_; clear hb_))
  go_upto_region 5 with (first | (go_at_call 8; (with_reducible refine (parse_any A c l _ H.out.f.2 HBY.out).mono ?_); rintro en wm ⟨cm, rfl, hm_, hb_⟩; have n0_ := Aside0.mk ((H.out.on hb_).add (sta_msg _ _) (hm_)); clear H; have H := n0_; clear n0_; clear hb_ hm_) | ((with_reducible refine gate_dst (N := 4) rfl ?_); refine ev_var (y := .tmp 16) rfl rfl rfl rfl rfl H.out.f.2 rfl rfl ?_; intro gm wv hg_ h1_ hb_; have n0_ := Aside0.mk ((H.out.on hb_).add (sta_blk _ _) (h1_)); clear H; have H := n0_; clear n0_; clear h1_ hb_ hg_))
  go_upto_region 6 with (first | (go_at_call 9; (with_reducible refine (rparse_any A c l _ H.out.f.1.1.2 HBY.out).mono ?_); rintro en wn ⟨cn, rfl, hm_, hb_⟩; have n0_ := Aside0.mk ((H.out.on hb_).add (sta_msg _ _) (hm_)); clear H; have H := n0_; clear n0_; clear hb_ hm_) | ((with_reducible refine gate_dst (N := 6) rfl ?_); refine ev_var (y := .tmp 21) rfl rfl rfl rfl rfl H.out.f.2 rfl rfl ?_; intro gn wo hg_ h1_ hb_; have n0_ := Aside0.mk ((H.out.on hb_).add (sta_blk _ _) (h1_)); clear H; have H := n0_; clear n0_; clear h1_ hb_ hg_))
  go_wp2_with (first | ((with_reducible refine gate_dst (N := 30) rfl ?_); (try (refine gate_guard (by rfl) ?_; dsimp only)); refine ev_get (x := .tmp 4) rfl rfl rfl H.out.f.1.1.2 H.out.f.1.1.1.2 ?_) | ((with_reducible refine gate_dst (N := 31) rfl ?_); (try (refine gate_guard (by rfl) ?_; dsimp only)); refine ev_get (x := .tmp 6) rfl rfl rfl H.out.f.2 H.out.f.1.2 ?_) | (go_at_call 10; (with_reducible refine (refsame_msg H.out.f.1.1.1.2 H.out.f.1.2).mono ?_); rintro en ws ⟨rfl, hb_⟩; have n0_ := Aside0.mk (H.out.on hb_); clear H; have H := n0_; clear n0_; clear hb_))
  go_ret
  exact ⟨by first | rfl | (simp [same_refl]; done), H.out.b⟩
theorem u8_wf {n : Int} (h : (Lit.int .u8 n).wf = true) : 0 ≤ n ∧ n < 256 := by
  simp only [Lit.wf, IntKind.min, IntKind.max, IntKind.signed, IntKind.bits, Bool.and_eq_true, decide_eq_true_eq] at h
  simp at h
  omega
theorem busbarlaw13_RefusalParses (A : Option Addr) (c : Nat) (l : List Int) (w : World) (hr : Kd.C (Kd.int .u8) w A l.length l) (hc : l.length ≤ c) {p1 : Prop} (_ : p1) (hw : ∀ x ∈ l, (Lit.int .u8 x).wf = true) :
    Calls Try.prog 3 #[.slice A l.length c] w fun en w' => en = .returned (.bool true) ∧ Below w.heap.size w w' := by
  by_cases hl : 400 < l.length
  · exact RefusalParses_long A c l w hr hc (fun x hx => u8_wf (hw x hx)) hl
  · exact RefusalParses_go A c l w hr hc (fun x hx => u8_wf (hw x hx)) hl
set_option maxHeartbeats 16000000 in
set_option maxRecDepth 100000 in
theorem RefusalWrites_many (m : Msg) (cx : Array Value) (ask why : Int) (w : World) (hm : IsMsg w cx m) (ha : 0 ≤ ask ∧ ask < 256) (hy : 0 ≤ why ∧ why < 256) (hf : fewB m = false) :
    Calls Try.prog 4 #[.agg cx, .int .u8 ask, .int .u8 why] w fun en w' => en = .returned (.bool true) ∧ Below w.heap.size w w' := by
  have H := Aside0.mk (Hd.start w)
  have hsz := hm.size
  have hix := msg_info hsz
  have HA := Aside0.mk ha
  have HY := Aside0.mk hy
  have n0_ := Aside0.mk ((((H.out.on (below_alloc (Below.refl _ _) (Obj.cells cx 30)))).add (sta_blk _ _) (blk_new _ _)).add (sta_msg _ _) (hm.on (below_alloc (Below.refl _ _) _)))
  clear H
  have H := n0_
  clear n0_
  clear ha hy
  clear hm
  go_enter Try.func4, Try.ntmps4
  go_upto_region 2 with (first | (go_at_call 7; (with_reducible refine (awake_any _).mono ?_); rintro en wa ⟨rfl, hb_⟩; have n0_ := Aside0.mk (H.out.on hb_); clear H; have H := n0_; clear n0_; clear hb_))
  go_upto_region 3 with (first | ((with_reducible refine gate_dst (N := 19) rfl ?_); (try (refine gate_guard (by rfl) ?_; dsimp only)); refine ev_get (x := .tmp 3) rfl rfl rfl H.out.f.1.2 H.out.f.2 ?_) | (go_at_call 11; (with_reducible refine (few_msg H.out.f.2).mono ?_); rintro en ws ⟨rfl, hb_⟩; have n0_ := Aside0.mk (H.out.on hb_); clear H; have H := n0_; clear n0_; clear hb_))
  go_wp2
  go_ret
  exact ⟨rfl, H.out.b⟩
theorem write_bytes {m : Msg} {w : World} {cx : Array Value} (hm : IsMsg w cx m) : isBytes (write m).1 := by
  have G := (goodM_num hm.good).1
  unfold write
  split
  · rename_i h
    have := right_lt G.1 h.1
    intro x hx
    rcases List.mem_cons.1 hx with rfl | hx
    · omega
    rcases List.mem_cons.1 hx with rfl | hx
    · exact G.2.1
    · cases hx
  · intro x hx
    cases hx
theorem write_y {cx : Array Value} {ask why : Int} {w : World} (ha : 0 ≤ ask ∧ ask < 256) (hy : 0 ≤ why ∧ why < 256) (hr : rightB ask why = true) (hm : IsMsg w cx (msg2 ask why)) :
    Calls Try.prog 13 #[.agg cx] w fun en w' => ∃ A c, en = .returned (.tuple #[.slice A 2 c, .int .i64 0]) ∧ 2 ≤ c ∧ Kd.C (Kd.int .u8) w' A 2 [ask + 128, why] ∧ Below w.heap.size w w' := by
  have h := rwrite_any hm
  have e : write (msg2 ask why) = ([ask + 128, why], 0) := by
    unfold write
    rw [if_pos ⟨hr, by exact same_refl _⟩]
    rfl
  rw [e] at h
  exact h
theorem write_n {cx : Array Value} {ask why : Int} {w : World} (ha : 0 ≤ ask ∧ ask < 256) (hy : 0 ≤ why ∧ why < 256) (hr : rightB ask why = false) (hm : IsMsg w cx (msg2 ask why)) :
    Calls Try.prog 13 #[.agg cx] w fun en w' => ∃ A c, en = .returned (.tuple #[.slice A 0 c, .int .i64 1]) ∧ 0 ≤ c ∧ Kd.C (Kd.int .u8) w' A 0 [] ∧ Below w.heap.size w w' := by
  have h := rwrite_any hm
  have e : write (msg2 ask why) = ([], 1) := by
    unfold write
    rw [if_neg (fun h => by have := h.1; rw [show rightB (msg2 ask why).code (msg2 ask why).fail = rightB ask why from rfl, hr] at this; cases this)]
  rw [e] at h
  exact h
set_option maxHeartbeats 16000000 in
set_option maxRecDepth 100000 in
theorem RefusalWrites_yes (m : Msg) (cx : Array Value) (ask why : Int) (w : World) (hm : IsMsg w cx m) (ha : 0 ≤ ask ∧ ask < 256) (hy : 0 ≤ why ∧ why < 256) (hf : fewB m = true) (hr : rightB ask why = true) :
    Calls Try.prog 4 #[.agg cx, .int .u8 ask, .int .u8 why] w fun en w' => en = .returned (.bool true) ∧ Below w.heap.size w w' := by
  have H := Aside0.mk (Hd.start w)
  have hsz := hm.size
  have hix := msg_info hsz
  have HA := Aside0.mk ha
  have HY := Aside0.mk hy
  have n0_ := Aside0.mk ((((H.out.on (below_alloc (Below.refl _ _) (Obj.cells cx 30)))).add (sta_blk _ _) (blk_new _ _)).add (sta_msg _ _) (hm.on (below_alloc (Below.refl _ _) _)))
  clear H
  have H := n0_
  clear n0_
  clear ha hy
  have gm_ := goodM_num hm.good
  have HWB := Aside0.mk (show isBytes (write m).1 from write_bytes hm)
  clear gm_ hm
  have e1 : ((write m).2 == (write m).2) = true := beq_self_eq_true _
  have e2 : ((write m).1 == (write m).1) = true := beq_self_eq_true _
  go_enter Try.func4, Try.ntmps4
  go_upto_region 2 with (first | (go_at_call 7; (with_reducible refine (awake_any _).mono ?_); rintro en wa ⟨rfl, hb_⟩; have n0_ := Aside0.mk (H.out.on hb_); clear H; have H := n0_; clear n0_; clear hb_))
  go_upto_region 3 with (first | ((with_reducible refine gate_dst (N := 19) rfl ?_); (try (refine gate_guard (by rfl) ?_; dsimp only)); refine ev_get (x := .tmp 3) rfl rfl rfl H.out.f.1.2 H.out.f.2 ?_) | (go_at_call 11; (with_reducible refine (few_msg H.out.f.2).mono ?_); rintro en ws ⟨rfl, hb_⟩; have n0_ := Aside0.mk (H.out.on hb_); clear H; have H := n0_; clear n0_; clear hb_))
  go_upto_region 5 with (fail)
  go_upto_region 6 with (first | ((with_reducible refine gate_dst (N := 25) rfl ?_); (try (refine gate_guard (by rfl) ?_; dsimp only)); refine ev_get (x := .tmp 3) rfl rfl rfl H.out.f.1.2 H.out.f.2 ?_) | (go_at_call 12; (with_reducible refine (write_any H.out.f.2).mono ?_); rintro en wb ⟨Ab, cb, rfl, hz_, hr_, hb_⟩; have n0_ := Aside0.mk ((H.out.on hb_).add (sta_C _ _ _ _) (hr_)); clear H; have H := n0_; clear n0_; have Zb := Aside0.mk hz_; clear hb_ hr_ hz_))
  go_upto_region 7 with (first | ((with_reducible refine gate_dst (N := 30) rfl ?_); (try (refine gate_guard (by rfl) ?_; dsimp only)); refine ev_get (x := .tmp 3) rfl rfl rfl H.out.f.1.1.2 H.out.f.1.2 ?_) | (go_at_call 13; (with_reducible refine (rwrite_any H.out.f.1.2).mono ?_); rintro en wd ⟨Ad, cd, rfl, hz_, hr_, hb_⟩; have n0_ := Aside0.mk ((H.out.on hb_).add (sta_C _ _ _ _) (hr_)); clear H; have H := n0_; clear n0_; have Zd := Aside0.mk hz_; clear hb_ hr_ hz_))
  go_upto_region 8 with (first | (go_at_call 14; (with_reducible refine (of_yes ask why HA.out HY.out _ hr).mono ?_); rintro en wx ⟨cxx, rfl, hm_, hb_⟩; have n0_ := Aside0.mk ((H.out.on hb_).add (sta_msg _ _) (hm_)); clear H; have H := n0_; clear n0_; clear hb_ hm_) | ((with_reducible refine gate_dst (N := 13) rfl ?_); refine ev_var (y := .tmp 38) rfl rfl rfl rfl rfl H.out.f.2 rfl rfl ?_; intro gx wxx hg_ h1_ hb_; have n0_ := Aside0.mk ((H.out.on hb_).add (sta_blk _ _) (h1_)); clear H; have H := n0_; clear n0_; clear h1_ hb_ hg_))
  go_upto_region 9 with (first | ((with_reducible refine gate_dst (N := 42) rfl ?_); (try (refine gate_guard (by rfl) ?_; dsimp only)); refine ev_build (msg2C ask why) rfl (by first | (go_simp; done) | (go_simp; rfl)) ?_; intro cy hcx_; have mx_ := (fun W => (by rw [hcx_]; exact (msg2_is HA.out HY.out) W : IsMsg W cy (msg2 ask why))); have n0_ := Aside0.mk ((H.out).add (sta_msg _ _) (mx_ _)); clear H; have H := n0_; clear n0_; clear hcx_ mx_) | ((with_reducible refine gate_dst (N := 15) rfl ?_); refine ev_var (y := .tmp 42) rfl rfl rfl rfl rfl H.out.f.2 rfl rfl ?_; intro gy wyy hg_ h1_ hb_; have n0_ := Aside0.mk ((H.out.on hb_).add (sta_blk _ _) (h1_)); clear H; have H := n0_; clear n0_; clear h1_ hb_ hg_))
  go_upto_region 10 with (first | ((with_reducible refine gate_dst (N := 44) rfl ?_); (try (refine gate_guard (by rfl) ?_; dsimp only)); refine ev_get (x := .tmp 15) rfl rfl rfl H.out.f.2 H.out.f.1.2 ?_) | (go_at_call 13; (with_reducible refine (write_y HA.out HY.out hr H.out.f.1.2).mono ?_); rintro en wz ⟨Az, cz, rfl, hz_, hr_, hb_⟩; have n0_ := Aside0.mk ((H.out.on hb_).add (sta_C _ _ _ _) (hr_)); clear H; have H := n0_; clear n0_; have Zz := Aside0.mk hz_; clear hb_ hr_ hz_))
  go_upto_region 12 with (fail)
  go_wp2_with (first | (go_at_call 15; (with_reducible refine (R01.same_c HWB.out HWB.out H.out.f.1.1.1.1.1.1.2 Zb.out H.out.f.1.1.1.1.1.2 Zd.out).mono ?_); rintro en we ⟨rfl, hb_⟩; have n0_ := Aside0.mk (H.out.on hb_); clear H; have H := n0_; clear n0_; clear hb_) | ((with_reducible refine gate_dst (N := 68) rfl ?_); (try (refine gate_guard (by rfl) ?_; dsimp only)); refine ev_get (x := .tmp 13) rfl rfl rfl H.out.f.1.1.1.2 H.out.f.1.1.1.1.2 ?_) | ((with_reducible refine gate_dst (N := 69) rfl ?_); (try (refine gate_guard (by rfl) ?_; dsimp only)); refine ev_get (x := .tmp 15) rfl rfl rfl H.out.f.1.2 H.out.f.1.1.2 ?_) | (go_at_call 10; (with_reducible refine (refsame_msg H.out.f.1.1.1.1.2 H.out.f.1.1.2).mono ?_); rintro en wf ⟨rfl, hb_⟩; have n0_ := Aside0.mk (H.out.on hb_); clear H; have H := n0_; clear n0_; clear hb_))
  go_ret
  exact ⟨by first | rfl | (simp [same_refl]; done), H.out.b⟩
set_option maxHeartbeats 16000000 in
set_option maxRecDepth 100000 in
theorem RefusalWrites_no (m : Msg) (cx : Array Value) (ask why : Int) (w : World) (hm : IsMsg w cx m) (ha : 0 ≤ ask ∧ ask < 256) (hy : 0 ≤ why ∧ why < 256) (hf : fewB m = true) (hr : rightB ask why = false) :
    Calls Try.prog 4 #[.agg cx, .int .u8 ask, .int .u8 why] w fun en w' => en = .returned (.bool true) ∧ Below w.heap.size w w' := by
  have H := Aside0.mk (Hd.start w)
  have hsz := hm.size
  have hix := msg_info hsz
  have HA := Aside0.mk ha
  have HY := Aside0.mk hy
  have n0_ := Aside0.mk ((((H.out.on (below_alloc (Below.refl _ _) (Obj.cells cx 30)))).add (sta_blk _ _) (blk_new _ _)).add (sta_msg _ _) (hm.on (below_alloc (Below.refl _ _) _)))
  clear H
  have H := n0_
  clear n0_
  clear ha hy
  have gm_ := goodM_num hm.good
  have HWB := Aside0.mk (show isBytes (write m).1 from write_bytes hm)
  clear gm_ hm
  have e1 : ((write m).2 == (write m).2) = true := beq_self_eq_true _
  have e2 : ((write m).1 == (write m).1) = true := beq_self_eq_true _
  go_enter Try.func4, Try.ntmps4
  go_upto_region 2 with (first | (go_at_call 7; (with_reducible refine (awake_any _).mono ?_); rintro en wa ⟨rfl, hb_⟩; have n0_ := Aside0.mk (H.out.on hb_); clear H; have H := n0_; clear n0_; clear hb_))
  go_upto_region 3 with (first | ((with_reducible refine gate_dst (N := 19) rfl ?_); (try (refine gate_guard (by rfl) ?_; dsimp only)); refine ev_get (x := .tmp 3) rfl rfl rfl H.out.f.1.2 H.out.f.2 ?_) | (go_at_call 11; (with_reducible refine (few_msg H.out.f.2).mono ?_); rintro en ws ⟨rfl, hb_⟩; have n0_ := Aside0.mk (H.out.on hb_); clear H; have H := n0_; clear n0_; clear hb_))
  go_upto_region 5 with (fail)
  go_upto_region 6 with (first | ((with_reducible refine gate_dst (N := 25) rfl ?_); (try (refine gate_guard (by rfl) ?_; dsimp only)); refine ev_get (x := .tmp 3) rfl rfl rfl H.out.f.1.2 H.out.f.2 ?_) | (go_at_call 12; (with_reducible refine (write_any H.out.f.2).mono ?_); rintro en wb ⟨Ab, cb, rfl, hz_, hr_, hb_⟩; have n0_ := Aside0.mk ((H.out.on hb_).add (sta_C _ _ _ _) (hr_)); clear H; have H := n0_; clear n0_; have Zb := Aside0.mk hz_; clear hb_ hr_ hz_))
  go_upto_region 7 with (first | ((with_reducible refine gate_dst (N := 30) rfl ?_); (try (refine gate_guard (by rfl) ?_; dsimp only)); refine ev_get (x := .tmp 3) rfl rfl rfl H.out.f.1.1.2 H.out.f.1.2 ?_) | (go_at_call 13; (with_reducible refine (rwrite_any H.out.f.1.2).mono ?_); rintro en wd ⟨Ad, cd, rfl, hz_, hr_, hb_⟩; have n0_ := Aside0.mk ((H.out.on hb_).add (sta_C _ _ _ _) (hr_)); clear H; have H := n0_; clear n0_; have Zd := Aside0.mk hz_; clear hb_ hr_ hz_))
  go_upto_region 8 with (first | (go_at_call 14; (with_reducible refine (of_no ask why HA.out HY.out _ hr).mono ?_); rintro en wx ⟨cxx, rfl, hm_, hb_⟩; have n0_ := Aside0.mk ((H.out.on hb_).add (sta_msg _ _) (hm_)); clear H; have H := n0_; clear n0_; clear hb_ hm_) | ((with_reducible refine gate_dst (N := 13) rfl ?_); refine ev_var (y := .tmp 38) rfl rfl rfl rfl rfl H.out.f.2 rfl rfl ?_; intro gx wxx hg_ h1_ hb_; have n0_ := Aside0.mk ((H.out.on hb_).add (sta_blk _ _) (h1_)); clear H; have H := n0_; clear n0_; clear h1_ hb_ hg_))
  have n0_ := Aside0.mk ((H.out).add (sta_below wxx.heap.size wxx) (⟨Nat.le_refl _, Below.refl _ _⟩))
  clear H
  have H := n0_
  clear n0_
  have H8 := H
  go_upto_region 9 with (first | ((with_reducible refine gate_dst (N := 42) rfl ?_); (try (refine gate_guard (by rfl) ?_; dsimp only)); refine ev_build (msg2C ask why) rfl (by first | (go_simp; done) | (go_simp; rfl)) ?_; intro cy hcx_; have mx_ := (fun W => (by rw [hcx_]; exact (msg2_is HA.out HY.out) W : IsMsg W cy (msg2 ask why))); have n0_ := Aside0.mk ((H.out).add (sta_msg _ _) (mx_ _)); clear H; have H := n0_; clear n0_; clear hcx_ mx_) | ((with_reducible refine gate_dst (N := 15) rfl ?_); refine ev_var (y := .tmp 42) rfl rfl rfl rfl rfl H.out.f.2 rfl rfl ?_; intro gy wyy hg_ h1_ hb_; have n0_ := Aside0.mk ((H.out.on hb_).add (sta_blk _ _) (h1_)); clear H; have H := n0_; clear n0_; have GY := Aside0.mk (show wxx.heap.size ≤ gy by rw [hg_]; exact Nat.le_refl _); clear h1_ hb_ hg_))
  go_upto_region 10 with (first | ((with_reducible refine gate_dst (N := 44) rfl ?_); (try (refine gate_guard (by rfl) ?_; dsimp only)); refine ev_get (x := .tmp 15) rfl rfl rfl H.out.f.2 H.out.f.1.2 ?_) | (go_at_call 13; (with_reducible refine (write_n HA.out HY.out hr H.out.f.1.2).mono ?_); rintro en wz ⟨Az, cz, rfl, hz_, hr_, hb_⟩; have n0_ := Aside0.mk ((H.out.on hb_).add (sta_C _ _ _ _) (hr_)); clear H; have H := n0_; clear n0_; have Zz := Aside0.mk hz_; clear hb_ hr_ hz_))
  go_upto_region 12 with (first | ((with_reducible refine gate_dst (N := 50) rfl ?_); refine ev_build zeroC rfl (by first | (go_simp; done) | (go_simp; rfl)) ?_; intro c0_ hc0_; subst hc0_) | ((with_reducible refine gate_op (u := .store 30 (.tmp 15) (.tmp 50)) rfl ?_); refine Same.wpList_store_row 30 (.tmp 15) (.tmp 50) rfl rfl rfl rfl H.out.f.1.2 (H.out.f.1.1.2.size.trans (zero_is w).size.symm) (msg_info (zero_is w).size) (zero_is w).one ?_; intro w0_ h1_ hu_; have hb_ := (H.out.f.1.1.1.2).2.trans ((hu_.below (Nat.le_trans GY.out (Nat.le_refl _)) (H.out.f.1.1.1.2).1)); have n0_ := Aside0.mk (((H8.out.on hb_).add (sta_blk _ _) (h1_)).add (sta_msg _ _) (zero_is _)); clear H; have H := n0_; clear n0_; clear h1_ hu_ hb_))
  go_wp2_with (first | (go_at_call 15; (with_reducible refine (R01.same_c HWB.out HWB.out H.out.f.1.1.1.1.1.1.2 Zb.out H.out.f.1.1.1.1.1.2 Zd.out).mono ?_); rintro en we ⟨rfl, hb_⟩; have n0_ := Aside0.mk (H.out.on hb_); clear H; have H := n0_; clear n0_; clear hb_) | ((with_reducible refine gate_dst (N := 68) rfl ?_); (try (refine gate_guard (by rfl) ?_; dsimp only)); refine ev_get (x := .tmp 13) rfl rfl rfl H.out.f.1.1.1.2 H.out.f.1.1.1.1.2 ?_) | ((with_reducible refine gate_dst (N := 69) rfl ?_); (try (refine gate_guard (by rfl) ?_; dsimp only)); refine ev_get (x := .tmp 15) rfl rfl rfl H.out.f.1.2 H.out.f.2 ?_) | (go_at_call 10; (with_reducible refine (refsame_msg H.out.f.1.1.1.1.2 H.out.f.2).mono ?_); rintro en wf ⟨rfl, hb_⟩; have n0_ := Aside0.mk (H.out.on hb_); clear H; have H := n0_; clear n0_; clear hb_))
  go_ret
  exact ⟨by first | rfl | (simp [same_refl]; done), H.out.b⟩
theorem u8_wfp {n : Int} (h : (Lit.int .u8 n).wf = true) : 0 ≤ n ∧ n < 256 := u8_wf h
theorem busbarlaw13_RefusalWrites (m : Msg) (cx : Array Value) (ask why : Int) (w : World) (hm : IsMsg w cx m) (ha : (Lit.int .u8 ask).wf = true) (hy : (Lit.int .u8 why).wf = true) :
    Calls Try.prog 4 #[.agg cx, .int .u8 ask, .int .u8 why] w fun en w' => en = .returned (.bool true) ∧ Below w.heap.size w w' := by
  cases hf : fewB m with
  | false => exact RefusalWrites_many m cx ask why w hm (u8_wf ha) (u8_wf hy) hf
  | true =>
  cases hr : rightB ask why with
  | false => exact RefusalWrites_no m cx ask why w hm (u8_wf ha) (u8_wf hy) hf hr
  | true => exact RefusalWrites_yes m cx ask why w hm (u8_wf ha) (u8_wf hy) hf hr
theorem two_bytes {a b : Int} (ha : 0 ≤ a ∧ a < 256) (hb : 0 ≤ b ∧ b < 256) : isBytes [a, b] := by
  intro x hx
  rcases List.mem_cons.1 hx with rfl | hx
  · exact ha
  rcases List.mem_cons.1 hx with rfl | hx
  · exact hb
  · cases hx
theorem parse_l {A : Option Addr} {c : Nat} {bs xs : List Int} {W : World} (hx : isBytes xs) (he : bs = xs) (hr : Kd.C (Kd.int .u8) W A bs.length bs) :
    Calls Try.prog 8 #[.slice A bs.length c] W fun en w' => ∃ cx, en = .returned (.tuple #[.agg cx, .int .i64 (parse xs).2]) ∧ IsMsg w' cx (parse xs).1 ∧ Below W.heap.size W w' := by
  subst he
  exact parse_any A c bs W hr hx
/-- What is read of two bytes is written as these. -/
theorem back_two {a b : Int} (ha : 0 ≤ a ∧ a < 256) (hb : 0 ≤ b ∧ b < 256) (h : (parse [a, b]).2 = 0) : write (parse [a, b]).1 = ([a, b], 0) := by
  have e1 : [a, b].getD 0 0 = a := rfl
  have e2 : [a, b].getD 1 0 = b := rfl
  unfold parse at h ⊢
  rw [e1, e2] at h ⊢
  by_cases h1 : a < 128
  · rw [if_neg (by simp), if_pos h1] at h; cases h
  cases h2 : pubB (a - 128) with
  | false => rw [if_neg (by simp), if_neg h1, h2, if_pos rfl] at h; cases h
  | true =>
  cases h3 : faiB b with
  | false => rw [if_neg (by simp), if_neg h1, h2, if_neg (by simp), if_neg (by simp), h3, if_pos rfl] at h; cases h
  | true =>
    rw [if_neg (by simp), if_neg h1, if_neg (by simp), if_neg (by simp), if_neg (by simp), if_neg (by simp)]
    have hr : rightB (a - 128) b = true := by unfold rightB; rw [h2, h3]; rfl
    unfold write
    rw [if_pos ⟨hr, by exact same_refl _⟩]
    show ([a - 128 + 128, b], (0 : Int)) = ([a, b], 0)
    rw [show a - 128 + 128 = a by omega]
theorem write_b {cx : Array Value} {a b : Int} {w : World} (ha : 0 ≤ a ∧ a < 256) (hb : 0 ≤ b ∧ b < 256) (h : (parse [a, b]).2 = 0) (hm : IsMsg w cx (parse [a, b]).1) :
    Calls Try.prog 12 #[.agg cx] w fun en w' => ∃ A c, en = .returned (.tuple #[.slice A 2 c, .int .i64 0]) ∧ 2 ≤ c ∧ Kd.C (Kd.int .u8) w' A 2 [a, b] ∧ Below w.heap.size w w' := by
  have h2 := write_any hm
  rw [back_two ha hb h] at h2
  exact h2
theorem write_r {cx : Array Value} {ask why : Int} {w : World} (hr : rightB ask why = true) (hm : IsMsg w cx (msg2 ask why)) :
    Calls Try.prog 12 #[.agg cx] w fun en w' => ∃ A c, en = .returned (.tuple #[.slice A 2 c, .int .i64 0]) ∧ 2 ≤ c ∧ Kd.C (Kd.int .u8) w' A 2 [ask + 128, why] ∧ Below w.heap.size w w' := by
  have h := write_any hm
  have e : write (msg2 ask why) = ([ask + 128, why], 0) := by
    unfold write
    rw [if_pos ⟨hr, by exact same_refl _⟩]
    rfl
  rw [e] at h
  exact h
theorem parse_r {A : Option Addr} {c : Nat} {ask why : Int} {W : World} (hk : 0 ≤ ask ∧ ask < 256) (hy : 0 ≤ why ∧ why < 256) (hr : rightB ask why = true) (h : Kd.C (Kd.int .u8) W A 2 [ask + 128, why]) :
    Calls Try.prog 8 #[.slice A 2 c] W fun en w' => ∃ cx, en = .returned (.tuple #[.agg cx, .int .i64 0]) ∧ IsMsg w' cx (msg2 ask why) ∧ Below W.heap.size W w' := by
  have hl := right_lt hk hr
  have h2 := parse_any A c [ask + 128, why] W h (two_bytes (by omega) hy)
  rw [parse_two hl hk.1] at h2
  unfold rightB at hr
  rw [Bool.and_eq_true] at hr
  rw [hr.1, hr.2] at h2
  exact h2
theorem bsame_l {bs xs : List Int} (hx : isBytes xs) (he : bs = xs) {A B : Option Addr} {c d : Nat} {W : World} {n : Nat} (hn : n = xs.length) (rl : Kd.C (Kd.int .u8) W A n xs) (zl : n ≤ c) (rm : Kd.C (Kd.int .u8) W B bs.length bs) (zm : bs.length ≤ d) :
    Calls Try.prog 15 #[.slice A n c, .slice B bs.length d] W fun e w' => e = .returned (.bool true) ∧ Below W.heap.size W w' := by
  subst he
  subst hn
  have h := R01.same_c hx hx rl zl rm zm
  rw [beq_self_eq_true] at h
  exact h
set_option maxHeartbeats 16000000 in
set_option maxRecDepth 100000 in
theorem RefusalBack_11 (a b ask why : Int) (w : World) (ha : 0 ≤ a ∧ a < 256) (hb : 0 ≤ b ∧ b < 256) (hk : 0 ≤ ask ∧ ask < 256) (hy : 0 ≤ why ∧ why < 256) (hp : (parse [a, b]).2 = 0) (hr : rightB ask why = true) :
    Calls Try.prog 5 #[.int .u8 a, .int .u8 b, .int .u8 ask, .int .u8 why] w fun en w' => en = .returned (.bool true) ∧ Below w.heap.size w w' := by
  have H := Aside0.mk (Hd.start w)
  have HA := Aside0.mk ha
  have HB_ := Aside0.mk hb
  have HK := Aside0.mk hk
  have HY := Aside0.mk hy
  clear ha hb hk hy
  have e0 : ((parse [a, b]).2 == 0) = true := beq_iff_eq.2 hp
  have HP := Aside0.mk hp
  clear hp
  have eab : ([a, b] == [a, b]) = true := beq_self_eq_true _
  go_enter Try.func5, Try.ntmps5
  go_upto_region 2 with (first | (go_at_call 7; (with_reducible refine (awake_any _).mono ?_); rintro en wa ⟨rfl, hb_⟩; have n0_ := Aside0.mk (H.out.on hb_); clear H; have H := n0_; clear n0_; clear hb_))
  go_upto_region 3 with (first | ((with_reducible refine gate_dst (N := 24) rfl ?_); (try (refine gate_guard (by rfl) ?_; dsimp only)); refine ev_lit .u8 [a, b] 5 rfl (by first | (go_simp; done) | (go_simp; rfl)) (by simp) ?_; intro Aa ca wl ba he_ hr_ hz_ hb_; have Za := Aside0.mk hz_; have Ea := Aside0.mk he_; have n0_ := Aside0.mk ((H.out.on hb_).add (sta_C _ _ _ _) (hr_)); clear H; have H := n0_; clear n0_; clear hr_ hz_ hb_ he_) | (go_at_call 8; (with_reducible refine (parse_l (two_bytes HA.out HB_.out) Ea.out H.out.f.2).mono ?_); rintro en wm ⟨cm, rfl, hm_, hb_⟩; have n0_ := Aside0.mk ((H.out.on hb_).add (sta_msg _ _) (hm_)); clear H; have H := n0_; clear n0_; clear hb_ hm_) | ((with_reducible refine gate_dst (N := 10) rfl ?_); refine ev_var (y := .tmp 26) rfl rfl rfl rfl rfl H.out.f.2 rfl rfl ?_; intro gm wv hg_ h1_ hb_; have n0_ := Aside0.mk ((H.out.on hb_).add (sta_blk _ _) (h1_)); clear H; have H := n0_; clear n0_; clear h1_ hb_ hg_))
  go_upto_region 5 with (first | ((with_reducible refine gate_dst (N := 31) rfl ?_); (try (refine gate_guard (by rfl) ?_; dsimp only)); refine ev_get (x := .tmp 10) rfl rfl rfl H.out.f.2 H.out.f.1.2 ?_) | (go_at_call 12; (with_reducible refine (write_b HA.out HB_.out HP.out H.out.f.1.2).mono ?_); rintro en wl_ ⟨Al, cl, rfl, hz_, hr_, hb_⟩; have n0_ := Aside0.mk ((H.out.on hb_).add (sta_C _ _ _ _) (hr_)); clear H; have H := n0_; clear n0_; have Zl := Aside0.mk hz_; clear hb_ hr_ hz_))
  go_upto_region 7 with (first | ((with_reducible refine gate_dst (N := 41) rfl ?_); (try (refine gate_guard (by rfl) ?_; dsimp only)); refine ev_lit .u8 [a, b] 5 rfl (by first | (go_simp; done) | (go_simp; rfl)) (by simp) ?_; intro Ab cb wbb bb he_ hr_ hz_ hb_; have Zb := Aside0.mk hz_; have Eb := Aside0.mk he_; have n0_ := Aside0.mk ((H.out.on hb_).add (sta_C _ _ _ _) (hr_)); clear H; have H := n0_; clear n0_; clear hr_ hz_ hb_ he_) | (go_at_call 15; (with_reducible refine (bsame_l (two_bytes HA.out HB_.out) Eb.out (n := 2) rfl H.out.f.1.2 Zl.out H.out.f.2 Zb.out).mono ?_); rintro en we ⟨rfl, hb_⟩; have n0_ := Aside0.mk (H.out.on hb_); clear H; have H := n0_; clear n0_; clear hb_))
  go_upto_region 8 with (first | (go_at_call 14; (with_reducible refine (of_yes ask why HK.out HY.out _ hr).mono ?_); rintro en wx ⟨cxx, rfl, hm_, hb_⟩; have n0_ := Aside0.mk ((H.out.on hb_).add (sta_msg _ _) (hm_)); clear H; have H := n0_; clear n0_; clear hb_ hm_) | ((with_reducible refine gate_dst (N := 14) rfl ?_); refine ev_var (y := .tmp 49) rfl rfl rfl rfl rfl H.out.f.2 rfl rfl ?_; intro gx wxx hg_ h1_ hb_; have n0_ := Aside0.mk ((H.out.on hb_).add (sta_blk _ _) (h1_)); clear H; have H := n0_; clear n0_; clear h1_ hb_ hg_))
  go_upto_region 11 with (first | ((with_reducible refine gate_dst (N := 60) rfl ?_); (try (refine gate_guard (by rfl) ?_; dsimp only)); refine ev_get (x := .tmp 14) rfl rfl rfl H.out.f.2 H.out.f.1.2 ?_) | (go_at_call 12; (with_reducible refine (write_r hr H.out.f.1.2).mono ?_); rintro en wd ⟨Ad, cd, rfl, hz_, hr_, hb_⟩; have n0_ := Aside0.mk ((H.out.on hb_).add (sta_C _ _ _ _) (hr_)); clear H; have H := n0_; clear n0_; have Zd := Aside0.mk hz_; clear hb_ hr_ hz_))
  go_upto_region 12 with (first | (go_at_call 8; (with_reducible refine (parse_r HK.out HY.out hr H.out.f.2).mono ?_); rintro en wy ⟨cy, rfl, hm_, hb_⟩; have n0_ := Aside0.mk ((H.out.on hb_).add (sta_msg _ _) (hm_)); clear H; have H := n0_; clear n0_; clear hb_ hm_) | ((with_reducible refine gate_dst (N := 18) rfl ?_); refine ev_var (y := .tmp 67) rfl rfl rfl rfl rfl H.out.f.2 rfl rfl ?_; intro gy wyy hg_ h1_ hb_; have n0_ := Aside0.mk ((H.out.on hb_).add (sta_blk _ _) (h1_)); clear H; have H := n0_; clear n0_; clear h1_ hb_ hg_))
  have es := same_refl (msg2 ask why)
  go_wp2_with (first | ((with_reducible refine gate_dst (N := 84) rfl ?_); (try (refine gate_guard (by rfl) ?_; dsimp only)); refine ev_get (x := .tmp 14) rfl rfl rfl H.out.f.1.1.1.2 H.out.f.1.1.1.1.2 ?_) | ((with_reducible refine gate_dst (N := 85) rfl ?_); (try (refine gate_guard (by rfl) ?_; dsimp only)); refine ev_get (x := .tmp 18) rfl rfl rfl H.out.f.2 H.out.f.1.2 ?_) | (go_at_call 10; (with_reducible refine (refsame_msg H.out.f.1.1.1.1.2 H.out.f.1.2).mono ?_); rintro en wf ⟨rfl, hb_⟩; have n0_ := Aside0.mk (H.out.on hb_); clear H; have H := n0_; clear n0_; clear hb_; have kc : wf.cell? ⟨gy, 0, none⟩ = some (.int .u8 ask) := bx_code H.out.f.2 H.out.f.1.2; have kf : wf.cell? ⟨gy, 1, none⟩ = some (.int .u8 why) := bx_fail H.out.f.2 H.out.f.1.2))
  go_ret
  exact ⟨by first | rfl | (simp [same_refl]; done), H.out.b⟩
set_option maxHeartbeats 16000000 in
set_option maxRecDepth 100000 in
theorem RefusalBack_10 (a b ask why : Int) (w : World) (ha : 0 ≤ a ∧ a < 256) (hb : 0 ≤ b ∧ b < 256) (hk : 0 ≤ ask ∧ ask < 256) (hy : 0 ≤ why ∧ why < 256) (hp : (parse [a, b]).2 = 0) (hr : rightB ask why = false) :
    Calls Try.prog 5 #[.int .u8 a, .int .u8 b, .int .u8 ask, .int .u8 why] w fun en w' => en = .returned (.bool true) ∧ Below w.heap.size w w' := by
  have H := Aside0.mk (Hd.start w)
  have HA := Aside0.mk ha
  have HB_ := Aside0.mk hb
  have HK := Aside0.mk hk
  have HY := Aside0.mk hy
  clear ha hb hk hy
  have e0 : ((parse [a, b]).2 == 0) = true := beq_iff_eq.2 hp
  have HP := Aside0.mk hp
  clear hp
  have eab : ([a, b] == [a, b]) = true := beq_self_eq_true _
  go_enter Try.func5, Try.ntmps5
  go_upto_region 2 with (first | (go_at_call 7; (with_reducible refine (awake_any _).mono ?_); rintro en wa ⟨rfl, hb_⟩; have n0_ := Aside0.mk (H.out.on hb_); clear H; have H := n0_; clear n0_; clear hb_))
  go_upto_region 3 with (first | ((with_reducible refine gate_dst (N := 24) rfl ?_); (try (refine gate_guard (by rfl) ?_; dsimp only)); refine ev_lit .u8 [a, b] 5 rfl (by first | (go_simp; done) | (go_simp; rfl)) (by simp) ?_; intro Aa ca wl ba he_ hr_ hz_ hb_; have Za := Aside0.mk hz_; have Ea := Aside0.mk he_; have n0_ := Aside0.mk ((H.out.on hb_).add (sta_C _ _ _ _) (hr_)); clear H; have H := n0_; clear n0_; clear hr_ hz_ hb_ he_) | (go_at_call 8; (with_reducible refine (parse_l (two_bytes HA.out HB_.out) Ea.out H.out.f.2).mono ?_); rintro en wm ⟨cm, rfl, hm_, hb_⟩; have n0_ := Aside0.mk ((H.out.on hb_).add (sta_msg _ _) (hm_)); clear H; have H := n0_; clear n0_; clear hb_ hm_) | ((with_reducible refine gate_dst (N := 10) rfl ?_); refine ev_var (y := .tmp 26) rfl rfl rfl rfl rfl H.out.f.2 rfl rfl ?_; intro gm wv hg_ h1_ hb_; have n0_ := Aside0.mk ((H.out.on hb_).add (sta_blk _ _) (h1_)); clear H; have H := n0_; clear n0_; clear h1_ hb_ hg_))
  go_upto_region 5 with (first | ((with_reducible refine gate_dst (N := 31) rfl ?_); (try (refine gate_guard (by rfl) ?_; dsimp only)); refine ev_get (x := .tmp 10) rfl rfl rfl H.out.f.2 H.out.f.1.2 ?_) | (go_at_call 12; (with_reducible refine (write_b HA.out HB_.out HP.out H.out.f.1.2).mono ?_); rintro en wl_ ⟨Al, cl, rfl, hz_, hr_, hb_⟩; have n0_ := Aside0.mk ((H.out.on hb_).add (sta_C _ _ _ _) (hr_)); clear H; have H := n0_; clear n0_; have Zl := Aside0.mk hz_; clear hb_ hr_ hz_))
  go_upto_region 7 with (first | ((with_reducible refine gate_dst (N := 41) rfl ?_); (try (refine gate_guard (by rfl) ?_; dsimp only)); refine ev_lit .u8 [a, b] 5 rfl (by first | (go_simp; done) | (go_simp; rfl)) (by simp) ?_; intro Ab cb wbb bb he_ hr_ hz_ hb_; have Zb := Aside0.mk hz_; have Eb := Aside0.mk he_; have n0_ := Aside0.mk ((H.out.on hb_).add (sta_C _ _ _ _) (hr_)); clear H; have H := n0_; clear n0_; clear hr_ hz_ hb_ he_) | (go_at_call 15; (with_reducible refine (bsame_l (two_bytes HA.out HB_.out) Eb.out (n := 2) rfl H.out.f.1.2 Zl.out H.out.f.2 Zb.out).mono ?_); rintro en we ⟨rfl, hb_⟩; have n0_ := Aside0.mk (H.out.on hb_); clear H; have H := n0_; clear n0_; clear hb_))
  go_upto_region 8 with (first | (go_at_call 14; (with_reducible refine (of_no ask why HK.out HY.out _ hr).mono ?_); rintro en wx ⟨cxx, rfl, hm_, hb_⟩; have n0_ := Aside0.mk ((H.out.on hb_).add (sta_msg _ _) (hm_)); clear H; have H := n0_; clear n0_; clear hb_ hm_) | ((with_reducible refine gate_dst (N := 14) rfl ?_); refine ev_var (y := .tmp 49) rfl rfl rfl rfl rfl H.out.f.2 rfl rfl ?_; intro gx wxx hg_ h1_ hb_; have n0_ := Aside0.mk ((H.out.on hb_).add (sta_blk _ _) (h1_)); clear H; have H := n0_; clear n0_; clear h1_ hb_ hg_))
  go_wp2_with (first | ((with_reducible refine gate_dst (N := 55) rfl ?_); (try (refine gate_guard (by rfl) ?_; dsimp only)); refine ev_get (x := .tmp 14) rfl rfl rfl H.out.f.2 H.out.f.1.2 ?_) | ((with_reducible refine gate_dst (N := 56) rfl ?_); (try (refine gate_guard (by rfl) ?_; dsimp only)); refine ev_build (zeroC) rfl (by first | (go_simp; done) | (go_simp; rfl)) ?_; intro cz hcx_; have mx_ := (fun W => (by rw [hcx_]; exact (zero_is) W : IsMsg W cz (zeroM))); have n0_ := Aside0.mk ((H.out).add (sta_msg _ _) (mx_ _)); clear H; have H := n0_; clear n0_; clear hcx_ mx_) | (go_at_call 10; (with_reducible refine (refsame_msg H.out.f.1.1.2 H.out.f.2).mono ?_); rintro en wf ⟨rfl, hb_⟩; have n0_ := Aside0.mk (H.out.on hb_); clear H; have H := n0_; clear n0_; clear hb_))
  go_ret
  exact ⟨by first | rfl | (simp [same_refl]; done), H.out.b⟩
set_option maxHeartbeats 16000000 in
set_option maxRecDepth 100000 in
theorem RefusalBack_01 (a b ask why : Int) (w : World) (ha : 0 ≤ a ∧ a < 256) (hb : 0 ≤ b ∧ b < 256) (hk : 0 ≤ ask ∧ ask < 256) (hy : 0 ≤ why ∧ why < 256) (hp : (parse [a, b]).2 ≠ 0) (hr : rightB ask why = true) :
    Calls Try.prog 5 #[.int .u8 a, .int .u8 b, .int .u8 ask, .int .u8 why] w fun en w' => en = .returned (.bool true) ∧ Below w.heap.size w w' := by
  have H := Aside0.mk (Hd.start w)
  have HA := Aside0.mk ha
  have HB_ := Aside0.mk hb
  have HK := Aside0.mk hk
  have HY := Aside0.mk hy
  clear ha hb hk hy
  have e0 : ((parse [a, b]).2 == 0) = false := beq_eq_false_iff_ne.2 hp
  have HP := Aside0.mk hp
  clear hp
  have eab : ([a, b] == [a, b]) = true := beq_self_eq_true _
  go_enter Try.func5, Try.ntmps5
  go_upto_region 2 with (first | (go_at_call 7; (with_reducible refine (awake_any _).mono ?_); rintro en wa ⟨rfl, hb_⟩; have n0_ := Aside0.mk (H.out.on hb_); clear H; have H := n0_; clear n0_; clear hb_))
  go_upto_region 3 with (first | ((with_reducible refine gate_dst (N := 24) rfl ?_); (try (refine gate_guard (by rfl) ?_; dsimp only)); refine ev_lit .u8 [a, b] 5 rfl (by first | (go_simp; done) | (go_simp; rfl)) (by simp) ?_; intro Aa ca wl ba he_ hr_ hz_ hb_; have Za := Aside0.mk hz_; have Ea := Aside0.mk he_; have n0_ := Aside0.mk ((H.out.on hb_).add (sta_C _ _ _ _) (hr_)); clear H; have H := n0_; clear n0_; clear hr_ hz_ hb_ he_) | (go_at_call 8; (with_reducible refine (parse_l (two_bytes HA.out HB_.out) Ea.out H.out.f.2).mono ?_); rintro en wm ⟨cm, rfl, hm_, hb_⟩; have n0_ := Aside0.mk ((H.out.on hb_).add (sta_msg _ _) (hm_)); clear H; have H := n0_; clear n0_; clear hb_ hm_) | ((with_reducible refine gate_dst (N := 10) rfl ?_); refine ev_var (y := .tmp 26) rfl rfl rfl rfl rfl H.out.f.2 rfl rfl ?_; intro gm wv hg_ h1_ hb_; have n0_ := Aside0.mk ((H.out.on hb_).add (sta_blk _ _) (h1_)); clear H; have H := n0_; clear n0_; clear h1_ hb_ hg_))
  go_upto_region 7 with (fail)
  go_upto_region 8 with (first | (go_at_call 14; (with_reducible refine (of_yes ask why HK.out HY.out _ hr).mono ?_); rintro en wx ⟨cxx, rfl, hm_, hb_⟩; have n0_ := Aside0.mk ((H.out.on hb_).add (sta_msg _ _) (hm_)); clear H; have H := n0_; clear n0_; clear hb_ hm_) | ((with_reducible refine gate_dst (N := 14) rfl ?_); refine ev_var (y := .tmp 49) rfl rfl rfl rfl rfl H.out.f.2 rfl rfl ?_; intro gx wxx hg_ h1_ hb_; have n0_ := Aside0.mk ((H.out.on hb_).add (sta_blk _ _) (h1_)); clear H; have H := n0_; clear n0_; clear h1_ hb_ hg_))
  go_upto_region 11 with (first | ((with_reducible refine gate_dst (N := 60) rfl ?_); (try (refine gate_guard (by rfl) ?_; dsimp only)); refine ev_get (x := .tmp 14) rfl rfl rfl H.out.f.2 H.out.f.1.2 ?_) | (go_at_call 12; (with_reducible refine (write_r hr H.out.f.1.2).mono ?_); rintro en wd ⟨Ad, cd, rfl, hz_, hr_, hb_⟩; have n0_ := Aside0.mk ((H.out.on hb_).add (sta_C _ _ _ _) (hr_)); clear H; have H := n0_; clear n0_; have Zd := Aside0.mk hz_; clear hb_ hr_ hz_))
  go_upto_region 12 with (first | (go_at_call 8; (with_reducible refine (parse_r HK.out HY.out hr H.out.f.2).mono ?_); rintro en wy ⟨cy, rfl, hm_, hb_⟩; have n0_ := Aside0.mk ((H.out.on hb_).add (sta_msg _ _) (hm_)); clear H; have H := n0_; clear n0_; clear hb_ hm_) | ((with_reducible refine gate_dst (N := 18) rfl ?_); refine ev_var (y := .tmp 67) rfl rfl rfl rfl rfl H.out.f.2 rfl rfl ?_; intro gy wyy hg_ h1_ hb_; have n0_ := Aside0.mk ((H.out.on hb_).add (sta_blk _ _) (h1_)); clear H; have H := n0_; clear n0_; clear h1_ hb_ hg_))
  have es := same_refl (msg2 ask why)
  go_wp2_with (first | ((with_reducible refine gate_dst (N := 84) rfl ?_); (try (refine gate_guard (by rfl) ?_; dsimp only)); refine ev_get (x := .tmp 14) rfl rfl rfl H.out.f.1.1.1.2 H.out.f.1.1.1.1.2 ?_) | ((with_reducible refine gate_dst (N := 85) rfl ?_); (try (refine gate_guard (by rfl) ?_; dsimp only)); refine ev_get (x := .tmp 18) rfl rfl rfl H.out.f.2 H.out.f.1.2 ?_) | (go_at_call 10; (with_reducible refine (refsame_msg H.out.f.1.1.1.1.2 H.out.f.1.2).mono ?_); rintro en wf ⟨rfl, hb_⟩; have n0_ := Aside0.mk (H.out.on hb_); clear H; have H := n0_; clear n0_; clear hb_; have kc : wf.cell? ⟨gy, 0, none⟩ = some (.int .u8 ask) := bx_code H.out.f.2 H.out.f.1.2; have kf : wf.cell? ⟨gy, 1, none⟩ = some (.int .u8 why) := bx_fail H.out.f.2 H.out.f.1.2))
  go_ret
  exact ⟨by first | rfl | (simp [same_refl]; done), H.out.b⟩
set_option maxHeartbeats 16000000 in
set_option maxRecDepth 100000 in
theorem RefusalBack_00 (a b ask why : Int) (w : World) (ha : 0 ≤ a ∧ a < 256) (hb : 0 ≤ b ∧ b < 256) (hk : 0 ≤ ask ∧ ask < 256) (hy : 0 ≤ why ∧ why < 256) (hp : (parse [a, b]).2 ≠ 0) (hr : rightB ask why = false) :
    Calls Try.prog 5 #[.int .u8 a, .int .u8 b, .int .u8 ask, .int .u8 why] w fun en w' => en = .returned (.bool true) ∧ Below w.heap.size w w' := by
  have H := Aside0.mk (Hd.start w)
  have HA := Aside0.mk ha
  have HB_ := Aside0.mk hb
  have HK := Aside0.mk hk
  have HY := Aside0.mk hy
  clear ha hb hk hy
  have e0 : ((parse [a, b]).2 == 0) = false := beq_eq_false_iff_ne.2 hp
  have HP := Aside0.mk hp
  clear hp
  have eab : ([a, b] == [a, b]) = true := beq_self_eq_true _
  go_enter Try.func5, Try.ntmps5
  go_upto_region 2 with (first | (go_at_call 7; (with_reducible refine (awake_any _).mono ?_); rintro en wa ⟨rfl, hb_⟩; have n0_ := Aside0.mk (H.out.on hb_); clear H; have H := n0_; clear n0_; clear hb_))
  go_upto_region 3 with (first | ((with_reducible refine gate_dst (N := 24) rfl ?_); (try (refine gate_guard (by rfl) ?_; dsimp only)); refine ev_lit .u8 [a, b] 5 rfl (by first | (go_simp; done) | (go_simp; rfl)) (by simp) ?_; intro Aa ca wl ba he_ hr_ hz_ hb_; have Za := Aside0.mk hz_; have Ea := Aside0.mk he_; have n0_ := Aside0.mk ((H.out.on hb_).add (sta_C _ _ _ _) (hr_)); clear H; have H := n0_; clear n0_; clear hr_ hz_ hb_ he_) | (go_at_call 8; (with_reducible refine (parse_l (two_bytes HA.out HB_.out) Ea.out H.out.f.2).mono ?_); rintro en wm ⟨cm, rfl, hm_, hb_⟩; have n0_ := Aside0.mk ((H.out.on hb_).add (sta_msg _ _) (hm_)); clear H; have H := n0_; clear n0_; clear hb_ hm_) | ((with_reducible refine gate_dst (N := 10) rfl ?_); refine ev_var (y := .tmp 26) rfl rfl rfl rfl rfl H.out.f.2 rfl rfl ?_; intro gm wv hg_ h1_ hb_; have n0_ := Aside0.mk ((H.out.on hb_).add (sta_blk _ _) (h1_)); clear H; have H := n0_; clear n0_; clear h1_ hb_ hg_))
  go_upto_region 7 with (fail)
  go_upto_region 8 with (first | (go_at_call 14; (with_reducible refine (of_no ask why HK.out HY.out _ hr).mono ?_); rintro en wx ⟨cxx, rfl, hm_, hb_⟩; have n0_ := Aside0.mk ((H.out.on hb_).add (sta_msg _ _) (hm_)); clear H; have H := n0_; clear n0_; clear hb_ hm_) | ((with_reducible refine gate_dst (N := 14) rfl ?_); refine ev_var (y := .tmp 49) rfl rfl rfl rfl rfl H.out.f.2 rfl rfl ?_; intro gx wxx hg_ h1_ hb_; have n0_ := Aside0.mk ((H.out.on hb_).add (sta_blk _ _) (h1_)); clear H; have H := n0_; clear n0_; clear h1_ hb_ hg_))
  go_wp2_with (first | ((with_reducible refine gate_dst (N := 55) rfl ?_); (try (refine gate_guard (by rfl) ?_; dsimp only)); refine ev_get (x := .tmp 14) rfl rfl rfl H.out.f.2 H.out.f.1.2 ?_) | ((with_reducible refine gate_dst (N := 56) rfl ?_); (try (refine gate_guard (by rfl) ?_; dsimp only)); refine ev_build (zeroC) rfl (by first | (go_simp; done) | (go_simp; rfl)) ?_; intro cz hcx_; have mx_ := (fun W => (by rw [hcx_]; exact (zero_is) W : IsMsg W cz (zeroM))); have n0_ := Aside0.mk ((H.out).add (sta_msg _ _) (mx_ _)); clear H; have H := n0_; clear n0_; clear hcx_ mx_) | (go_at_call 10; (with_reducible refine (refsame_msg H.out.f.1.1.2 H.out.f.2).mono ?_); rintro en wf ⟨rfl, hb_⟩; have n0_ := Aside0.mk (H.out.on hb_); clear H; have H := n0_; clear n0_; clear hb_))
  go_ret
  exact ⟨by first | rfl | (simp [same_refl]; done), H.out.b⟩
theorem busbarlaw13_RefusalBack (a b ask why : Int) (w : World) (ha : (Lit.int .u8 a).wf = true) (hb : (Lit.int .u8 b).wf = true) (hk : (Lit.int .u8 ask).wf = true) (hy : (Lit.int .u8 why).wf = true) :
    Calls Try.prog 5 #[.int .u8 a, .int .u8 b, .int .u8 ask, .int .u8 why] w fun en w' => en = .returned (.bool true) ∧ Below w.heap.size w w' := by
  by_cases hp : (parse [a, b]).2 = 0 <;> cases hr : rightB ask why
  · exact RefusalBack_10 a b ask why w (u8_wf ha) (u8_wf hb) (u8_wf hk) (u8_wf hy) hp hr
  · exact RefusalBack_11 a b ask why w (u8_wf ha) (u8_wf hb) (u8_wf hk) (u8_wf hy) hp hr
  · exact RefusalBack_00 a b ask why w (u8_wf ha) (u8_wf hb) (u8_wf hk) (u8_wf hy) hp hr
  · exact RefusalBack_01 a b ask why w (u8_wf ha) (u8_wf hb) (u8_wf hk) (u8_wf hy) hp hr
theorem bsame_2 {a b x y : Int} (h1 : isBytes [a, b]) (h2 : isBytes [x, y]) {A B : Option Addr} {c d : Nat} {W : World} (rl : Kd.C (Kd.int .u8) W A 2 [a, b]) (zl : 2 ≤ c) (rm : Kd.C (Kd.int .u8) W B 2 [x, y]) (zm : 2 ≤ d) :
    Calls Try.prog 15 #[.slice A 2 c, .slice B 2 d] W fun e w' => e = .returned (.bool ([a, b] == [x, y])) ∧ Below W.heap.size W w' := R01.same_c h1 h2 rl zl rm zm
set_option maxHeartbeats 16000000 in
set_option maxRecDepth 100000 in
theorem RefusalEach_0000 (a why b too : Int) (w : World) (ha : 0 ≤ a ∧ a < 256) (hw : 0 ≤ why ∧ why < 256) (hb : 0 ≤ b ∧ b < 256) (ht : 0 ≤ too ∧ too < 256) (h1 : pubB a = false) (h3 : pubB b = false) :
    Calls Try.prog 6 #[.int .u8 a, .int .u8 why, .int .u8 b, .int .u8 too] w fun en w' => en = .returned (.bool true) ∧ Below w.heap.size w w' := by
  have H := Aside0.mk (Hd.start w)
  have HA := Aside0.mk ha
  have HW := Aside0.mk hw
  have HB_ := Aside0.mk hb
  have HT := Aside0.mk ht
  clear ha hw hb ht
  have r1 : rightB a why = false := by unfold rightB; rw [h1]; rfl
  have r2 : rightB b too = false := by unfold rightB; rw [h3]; rfl
  have R1 := Aside0.mk r1
  have R2 := Aside0.mk r2
  clear r1 r2
  go_enter Try.func6, Try.ntmps6
  go_upto_region 2 with (first | (go_at_call 7; (with_reducible refine (awake_any _).mono ?_); rintro en wa ⟨rfl, hb_⟩; have n0_ := Aside0.mk (H.out.on hb_); clear H; have H := n0_; clear n0_; clear hb_))
  go_upto_region 3 with (first | (go_at_call 14; (with_reducible refine (of_no a why HA.out HW.out _ R1.out).mono ?_); rintro en wx ⟨cx, rfl, hm_, hb_⟩; have n0_ := Aside0.mk ((H.out.on hb_).add (sta_msg _ _) (hm_)); clear H; have H := n0_; clear n0_; clear hb_ hm_) | ((with_reducible refine gate_dst (N := 10) rfl ?_); refine ev_var (y := .tmp 25) rfl rfl rfl rfl rfl H.out.f.2 rfl rfl ?_; intro gx wxx hg_ h1_ hb_; have n0_ := Aside0.mk ((H.out.on hb_).add (sta_blk _ _) (h1_)); clear H; have H := n0_; clear n0_; clear h1_ hb_ hg_))
  go_upto_region 4 with (first | (go_at_call 14; (with_reducible refine (of_no b too HB_.out HT.out _ R2.out).mono ?_); rintro en wy ⟨cy, rfl, hm_, hb_⟩; have n0_ := Aside0.mk ((H.out.on hb_).add (sta_msg _ _) (hm_)); clear H; have H := n0_; clear n0_; clear hb_ hm_) | ((with_reducible refine gate_dst (N := 12) rfl ?_); refine ev_var (y := .tmp 31) rfl rfl rfl rfl rfl H.out.f.2 rfl rfl ?_; intro gy wyy hg_ h1_ hb_; have n0_ := Aside0.mk ((H.out.on hb_).add (sta_blk _ _) (h1_)); clear H; have H := n0_; clear n0_; clear h1_ hb_ hg_))
  go_upto_region 5 with (first | (go_at_call 16; (with_reducible refine (rpub_c HA.out _).mono ?_); rintro en wp1 ⟨rfl, hb_⟩; have n0_ := Aside0.mk (H.out.on hb_); clear H; have H := n0_; clear n0_; clear hb_))
  go_upto_region 6 with (first | (go_at_call 16; (with_reducible refine (rpub_c HB_.out _).mono ?_); rintro en wp2 ⟨rfl, hb_⟩; have n0_ := Aside0.mk (H.out.on hb_); clear H; have H := n0_; clear n0_; clear hb_))
  go_wp2
  go_ret
  exact ⟨by first | rfl | (simp; done), H.out.b⟩
set_option maxHeartbeats 16000000 in
set_option maxRecDepth 100000 in
theorem RefusalEach_0010 (a why b too : Int) (w : World) (ha : 0 ≤ a ∧ a < 256) (hw : 0 ≤ why ∧ why < 256) (hb : 0 ≤ b ∧ b < 256) (ht : 0 ≤ too ∧ too < 256) (h1 : pubB a = false) (h3 : pubB b = true) (h4 : faiB too = false) :
    Calls Try.prog 6 #[.int .u8 a, .int .u8 why, .int .u8 b, .int .u8 too] w fun en w' => en = .returned (.bool true) ∧ Below w.heap.size w w' := by
  have H := Aside0.mk (Hd.start w)
  have HA := Aside0.mk ha
  have HW := Aside0.mk hw
  have HB_ := Aside0.mk hb
  have HT := Aside0.mk ht
  clear ha hw hb ht
  have r1 : rightB a why = false := by unfold rightB; rw [h1]; rfl
  have r2 : rightB b too = false := by unfold rightB; rw [h3, h4]; rfl
  have R1 := Aside0.mk r1
  have R2 := Aside0.mk r2
  clear r1 r2
  go_enter Try.func6, Try.ntmps6
  go_upto_region 2 with (first | (go_at_call 7; (with_reducible refine (awake_any _).mono ?_); rintro en wa ⟨rfl, hb_⟩; have n0_ := Aside0.mk (H.out.on hb_); clear H; have H := n0_; clear n0_; clear hb_))
  go_upto_region 3 with (first | (go_at_call 14; (with_reducible refine (of_no a why HA.out HW.out _ R1.out).mono ?_); rintro en wx ⟨cx, rfl, hm_, hb_⟩; have n0_ := Aside0.mk ((H.out.on hb_).add (sta_msg _ _) (hm_)); clear H; have H := n0_; clear n0_; clear hb_ hm_) | ((with_reducible refine gate_dst (N := 10) rfl ?_); refine ev_var (y := .tmp 25) rfl rfl rfl rfl rfl H.out.f.2 rfl rfl ?_; intro gx wxx hg_ h1_ hb_; have n0_ := Aside0.mk ((H.out.on hb_).add (sta_blk _ _) (h1_)); clear H; have H := n0_; clear n0_; clear h1_ hb_ hg_))
  go_upto_region 4 with (first | (go_at_call 14; (with_reducible refine (of_no b too HB_.out HT.out _ R2.out).mono ?_); rintro en wy ⟨cy, rfl, hm_, hb_⟩; have n0_ := Aside0.mk ((H.out.on hb_).add (sta_msg _ _) (hm_)); clear H; have H := n0_; clear n0_; clear hb_ hm_) | ((with_reducible refine gate_dst (N := 12) rfl ?_); refine ev_var (y := .tmp 31) rfl rfl rfl rfl rfl H.out.f.2 rfl rfl ?_; intro gy wyy hg_ h1_ hb_; have n0_ := Aside0.mk ((H.out.on hb_).add (sta_blk _ _) (h1_)); clear H; have H := n0_; clear n0_; clear h1_ hb_ hg_))
  go_upto_region 5 with (first | (go_at_call 16; (with_reducible refine (rpub_c HA.out _).mono ?_); rintro en wp1 ⟨rfl, hb_⟩; have n0_ := Aside0.mk (H.out.on hb_); clear H; have H := n0_; clear n0_; clear hb_))
  go_upto_region 6 with (first | (go_at_call 16; (with_reducible refine (rpub_c HB_.out _).mono ?_); rintro en wp2 ⟨rfl, hb_⟩; have n0_ := Aside0.mk (H.out.on hb_); clear H; have H := n0_; clear n0_; clear hb_) | (go_at_call 17; (with_reducible refine (rfai_c HT.out _).mono ?_); rintro en wf2 ⟨rfl, hb_⟩; have n0_ := Aside0.mk (H.out.on hb_); clear H; have H := n0_; clear n0_; clear hb_))
  go_wp2
  go_ret
  exact ⟨by first | rfl | (simp; done), H.out.b⟩
set_option maxHeartbeats 16000000 in
set_option maxRecDepth 100000 in
theorem RefusalEach_0011 (a why b too : Int) (w : World) (ha : 0 ≤ a ∧ a < 256) (hw : 0 ≤ why ∧ why < 256) (hb : 0 ≤ b ∧ b < 256) (ht : 0 ≤ too ∧ too < 256) (h1 : pubB a = false) (h3 : pubB b = true) (h4 : faiB too = true) :
    Calls Try.prog 6 #[.int .u8 a, .int .u8 why, .int .u8 b, .int .u8 too] w fun en w' => en = .returned (.bool true) ∧ Below w.heap.size w w' := by
  have H := Aside0.mk (Hd.start w)
  have HA := Aside0.mk ha
  have HW := Aside0.mk hw
  have HB_ := Aside0.mk hb
  have HT := Aside0.mk ht
  clear ha hw hb ht
  have r1 : rightB a why = false := by unfold rightB; rw [h1]; rfl
  have r2 : rightB b too = true := by unfold rightB; rw [h3, h4]; rfl
  have R1 := Aside0.mk r1
  have R2 := Aside0.mk r2
  clear r1 r2
  go_enter Try.func6, Try.ntmps6
  go_upto_region 2 with (first | (go_at_call 7; (with_reducible refine (awake_any _).mono ?_); rintro en wa ⟨rfl, hb_⟩; have n0_ := Aside0.mk (H.out.on hb_); clear H; have H := n0_; clear n0_; clear hb_))
  go_upto_region 3 with (first | (go_at_call 14; (with_reducible refine (of_no a why HA.out HW.out _ R1.out).mono ?_); rintro en wx ⟨cx, rfl, hm_, hb_⟩; have n0_ := Aside0.mk ((H.out.on hb_).add (sta_msg _ _) (hm_)); clear H; have H := n0_; clear n0_; clear hb_ hm_) | ((with_reducible refine gate_dst (N := 10) rfl ?_); refine ev_var (y := .tmp 25) rfl rfl rfl rfl rfl H.out.f.2 rfl rfl ?_; intro gx wxx hg_ h1_ hb_; have n0_ := Aside0.mk ((H.out.on hb_).add (sta_blk _ _) (h1_)); clear H; have H := n0_; clear n0_; clear h1_ hb_ hg_))
  go_upto_region 4 with (first | (go_at_call 14; (with_reducible refine (of_yes b too HB_.out HT.out _ R2.out).mono ?_); rintro en wy ⟨cy, rfl, hm_, hb_⟩; have n0_ := Aside0.mk ((H.out.on hb_).add (sta_msg _ _) (hm_)); clear H; have H := n0_; clear n0_; clear hb_ hm_) | ((with_reducible refine gate_dst (N := 12) rfl ?_); refine ev_var (y := .tmp 31) rfl rfl rfl rfl rfl H.out.f.2 rfl rfl ?_; intro gy wyy hg_ h1_ hb_; have n0_ := Aside0.mk ((H.out.on hb_).add (sta_blk _ _) (h1_)); clear H; have H := n0_; clear n0_; clear h1_ hb_ hg_))
  go_upto_region 5 with (first | (go_at_call 16; (with_reducible refine (rpub_c HA.out _).mono ?_); rintro en wp1 ⟨rfl, hb_⟩; have n0_ := Aside0.mk (H.out.on hb_); clear H; have H := n0_; clear n0_; clear hb_))
  go_upto_region 6 with (first | (go_at_call 16; (with_reducible refine (rpub_c HB_.out _).mono ?_); rintro en wp2 ⟨rfl, hb_⟩; have n0_ := Aside0.mk (H.out.on hb_); clear H; have H := n0_; clear n0_; clear hb_) | (go_at_call 17; (with_reducible refine (rfai_c HT.out _).mono ?_); rintro en wf2 ⟨rfl, hb_⟩; have n0_ := Aside0.mk (H.out.on hb_); clear H; have H := n0_; clear n0_; clear hb_))
  go_wp2
  go_ret
  exact ⟨by first | rfl | (simp; done), H.out.b⟩
set_option maxHeartbeats 16000000 in
set_option maxRecDepth 100000 in
theorem RefusalEach_1000 (a why b too : Int) (w : World) (ha : 0 ≤ a ∧ a < 256) (hw : 0 ≤ why ∧ why < 256) (hb : 0 ≤ b ∧ b < 256) (ht : 0 ≤ too ∧ too < 256) (h1 : pubB a = true) (h2 : faiB why = false) (h3 : pubB b = false) :
    Calls Try.prog 6 #[.int .u8 a, .int .u8 why, .int .u8 b, .int .u8 too] w fun en w' => en = .returned (.bool true) ∧ Below w.heap.size w w' := by
  have H := Aside0.mk (Hd.start w)
  have HA := Aside0.mk ha
  have HW := Aside0.mk hw
  have HB_ := Aside0.mk hb
  have HT := Aside0.mk ht
  clear ha hw hb ht
  have r1 : rightB a why = false := by unfold rightB; rw [h1, h2]; rfl
  have r2 : rightB b too = false := by unfold rightB; rw [h3]; rfl
  have R1 := Aside0.mk r1
  have R2 := Aside0.mk r2
  clear r1 r2
  go_enter Try.func6, Try.ntmps6
  go_upto_region 2 with (first | (go_at_call 7; (with_reducible refine (awake_any _).mono ?_); rintro en wa ⟨rfl, hb_⟩; have n0_ := Aside0.mk (H.out.on hb_); clear H; have H := n0_; clear n0_; clear hb_))
  go_upto_region 3 with (first | (go_at_call 14; (with_reducible refine (of_no a why HA.out HW.out _ R1.out).mono ?_); rintro en wx ⟨cx, rfl, hm_, hb_⟩; have n0_ := Aside0.mk ((H.out.on hb_).add (sta_msg _ _) (hm_)); clear H; have H := n0_; clear n0_; clear hb_ hm_) | ((with_reducible refine gate_dst (N := 10) rfl ?_); refine ev_var (y := .tmp 25) rfl rfl rfl rfl rfl H.out.f.2 rfl rfl ?_; intro gx wxx hg_ h1_ hb_; have n0_ := Aside0.mk ((H.out.on hb_).add (sta_blk _ _) (h1_)); clear H; have H := n0_; clear n0_; clear h1_ hb_ hg_))
  go_upto_region 4 with (first | (go_at_call 14; (with_reducible refine (of_no b too HB_.out HT.out _ R2.out).mono ?_); rintro en wy ⟨cy, rfl, hm_, hb_⟩; have n0_ := Aside0.mk ((H.out.on hb_).add (sta_msg _ _) (hm_)); clear H; have H := n0_; clear n0_; clear hb_ hm_) | ((with_reducible refine gate_dst (N := 12) rfl ?_); refine ev_var (y := .tmp 31) rfl rfl rfl rfl rfl H.out.f.2 rfl rfl ?_; intro gy wyy hg_ h1_ hb_; have n0_ := Aside0.mk ((H.out.on hb_).add (sta_blk _ _) (h1_)); clear H; have H := n0_; clear n0_; clear h1_ hb_ hg_))
  go_upto_region 5 with (first | (go_at_call 16; (with_reducible refine (rpub_c HA.out _).mono ?_); rintro en wp1 ⟨rfl, hb_⟩; have n0_ := Aside0.mk (H.out.on hb_); clear H; have H := n0_; clear n0_; clear hb_) | (go_at_call 17; (with_reducible refine (rfai_c HW.out _).mono ?_); rintro en wf1 ⟨rfl, hb_⟩; have n0_ := Aside0.mk (H.out.on hb_); clear H; have H := n0_; clear n0_; clear hb_))
  go_upto_region 6 with (first | (go_at_call 16; (with_reducible refine (rpub_c HB_.out _).mono ?_); rintro en wp2 ⟨rfl, hb_⟩; have n0_ := Aside0.mk (H.out.on hb_); clear H; have H := n0_; clear n0_; clear hb_))
  go_wp2
  go_ret
  exact ⟨by first | rfl | (simp; done), H.out.b⟩
set_option maxHeartbeats 16000000 in
set_option maxRecDepth 100000 in
theorem RefusalEach_1010 (a why b too : Int) (w : World) (ha : 0 ≤ a ∧ a < 256) (hw : 0 ≤ why ∧ why < 256) (hb : 0 ≤ b ∧ b < 256) (ht : 0 ≤ too ∧ too < 256) (h1 : pubB a = true) (h2 : faiB why = false) (h3 : pubB b = true) (h4 : faiB too = false) :
    Calls Try.prog 6 #[.int .u8 a, .int .u8 why, .int .u8 b, .int .u8 too] w fun en w' => en = .returned (.bool true) ∧ Below w.heap.size w w' := by
  have H := Aside0.mk (Hd.start w)
  have HA := Aside0.mk ha
  have HW := Aside0.mk hw
  have HB_ := Aside0.mk hb
  have HT := Aside0.mk ht
  clear ha hw hb ht
  have r1 : rightB a why = false := by unfold rightB; rw [h1, h2]; rfl
  have r2 : rightB b too = false := by unfold rightB; rw [h3, h4]; rfl
  have R1 := Aside0.mk r1
  have R2 := Aside0.mk r2
  clear r1 r2
  go_enter Try.func6, Try.ntmps6
  go_upto_region 2 with (first | (go_at_call 7; (with_reducible refine (awake_any _).mono ?_); rintro en wa ⟨rfl, hb_⟩; have n0_ := Aside0.mk (H.out.on hb_); clear H; have H := n0_; clear n0_; clear hb_))
  go_upto_region 3 with (first | (go_at_call 14; (with_reducible refine (of_no a why HA.out HW.out _ R1.out).mono ?_); rintro en wx ⟨cx, rfl, hm_, hb_⟩; have n0_ := Aside0.mk ((H.out.on hb_).add (sta_msg _ _) (hm_)); clear H; have H := n0_; clear n0_; clear hb_ hm_) | ((with_reducible refine gate_dst (N := 10) rfl ?_); refine ev_var (y := .tmp 25) rfl rfl rfl rfl rfl H.out.f.2 rfl rfl ?_; intro gx wxx hg_ h1_ hb_; have n0_ := Aside0.mk ((H.out.on hb_).add (sta_blk _ _) (h1_)); clear H; have H := n0_; clear n0_; clear h1_ hb_ hg_))
  go_upto_region 4 with (first | (go_at_call 14; (with_reducible refine (of_no b too HB_.out HT.out _ R2.out).mono ?_); rintro en wy ⟨cy, rfl, hm_, hb_⟩; have n0_ := Aside0.mk ((H.out.on hb_).add (sta_msg _ _) (hm_)); clear H; have H := n0_; clear n0_; clear hb_ hm_) | ((with_reducible refine gate_dst (N := 12) rfl ?_); refine ev_var (y := .tmp 31) rfl rfl rfl rfl rfl H.out.f.2 rfl rfl ?_; intro gy wyy hg_ h1_ hb_; have n0_ := Aside0.mk ((H.out.on hb_).add (sta_blk _ _) (h1_)); clear H; have H := n0_; clear n0_; clear h1_ hb_ hg_))
  go_upto_region 5 with (first | (go_at_call 16; (with_reducible refine (rpub_c HA.out _).mono ?_); rintro en wp1 ⟨rfl, hb_⟩; have n0_ := Aside0.mk (H.out.on hb_); clear H; have H := n0_; clear n0_; clear hb_) | (go_at_call 17; (with_reducible refine (rfai_c HW.out _).mono ?_); rintro en wf1 ⟨rfl, hb_⟩; have n0_ := Aside0.mk (H.out.on hb_); clear H; have H := n0_; clear n0_; clear hb_))
  go_upto_region 6 with (first | (go_at_call 16; (with_reducible refine (rpub_c HB_.out _).mono ?_); rintro en wp2 ⟨rfl, hb_⟩; have n0_ := Aside0.mk (H.out.on hb_); clear H; have H := n0_; clear n0_; clear hb_) | (go_at_call 17; (with_reducible refine (rfai_c HT.out _).mono ?_); rintro en wf2 ⟨rfl, hb_⟩; have n0_ := Aside0.mk (H.out.on hb_); clear H; have H := n0_; clear n0_; clear hb_))
  go_wp2
  go_ret
  exact ⟨by first | rfl | (simp; done), H.out.b⟩
set_option maxHeartbeats 16000000 in
set_option maxRecDepth 100000 in
theorem RefusalEach_1011 (a why b too : Int) (w : World) (ha : 0 ≤ a ∧ a < 256) (hw : 0 ≤ why ∧ why < 256) (hb : 0 ≤ b ∧ b < 256) (ht : 0 ≤ too ∧ too < 256) (h1 : pubB a = true) (h2 : faiB why = false) (h3 : pubB b = true) (h4 : faiB too = true) :
    Calls Try.prog 6 #[.int .u8 a, .int .u8 why, .int .u8 b, .int .u8 too] w fun en w' => en = .returned (.bool true) ∧ Below w.heap.size w w' := by
  have H := Aside0.mk (Hd.start w)
  have HA := Aside0.mk ha
  have HW := Aside0.mk hw
  have HB_ := Aside0.mk hb
  have HT := Aside0.mk ht
  clear ha hw hb ht
  have r1 : rightB a why = false := by unfold rightB; rw [h1, h2]; rfl
  have r2 : rightB b too = true := by unfold rightB; rw [h3, h4]; rfl
  have R1 := Aside0.mk r1
  have R2 := Aside0.mk r2
  clear r1 r2
  go_enter Try.func6, Try.ntmps6
  go_upto_region 2 with (first | (go_at_call 7; (with_reducible refine (awake_any _).mono ?_); rintro en wa ⟨rfl, hb_⟩; have n0_ := Aside0.mk (H.out.on hb_); clear H; have H := n0_; clear n0_; clear hb_))
  go_upto_region 3 with (first | (go_at_call 14; (with_reducible refine (of_no a why HA.out HW.out _ R1.out).mono ?_); rintro en wx ⟨cx, rfl, hm_, hb_⟩; have n0_ := Aside0.mk ((H.out.on hb_).add (sta_msg _ _) (hm_)); clear H; have H := n0_; clear n0_; clear hb_ hm_) | ((with_reducible refine gate_dst (N := 10) rfl ?_); refine ev_var (y := .tmp 25) rfl rfl rfl rfl rfl H.out.f.2 rfl rfl ?_; intro gx wxx hg_ h1_ hb_; have n0_ := Aside0.mk ((H.out.on hb_).add (sta_blk _ _) (h1_)); clear H; have H := n0_; clear n0_; clear h1_ hb_ hg_))
  go_upto_region 4 with (first | (go_at_call 14; (with_reducible refine (of_yes b too HB_.out HT.out _ R2.out).mono ?_); rintro en wy ⟨cy, rfl, hm_, hb_⟩; have n0_ := Aside0.mk ((H.out.on hb_).add (sta_msg _ _) (hm_)); clear H; have H := n0_; clear n0_; clear hb_ hm_) | ((with_reducible refine gate_dst (N := 12) rfl ?_); refine ev_var (y := .tmp 31) rfl rfl rfl rfl rfl H.out.f.2 rfl rfl ?_; intro gy wyy hg_ h1_ hb_; have n0_ := Aside0.mk ((H.out.on hb_).add (sta_blk _ _) (h1_)); clear H; have H := n0_; clear n0_; clear h1_ hb_ hg_))
  go_upto_region 5 with (first | (go_at_call 16; (with_reducible refine (rpub_c HA.out _).mono ?_); rintro en wp1 ⟨rfl, hb_⟩; have n0_ := Aside0.mk (H.out.on hb_); clear H; have H := n0_; clear n0_; clear hb_) | (go_at_call 17; (with_reducible refine (rfai_c HW.out _).mono ?_); rintro en wf1 ⟨rfl, hb_⟩; have n0_ := Aside0.mk (H.out.on hb_); clear H; have H := n0_; clear n0_; clear hb_))
  go_upto_region 6 with (first | (go_at_call 16; (with_reducible refine (rpub_c HB_.out _).mono ?_); rintro en wp2 ⟨rfl, hb_⟩; have n0_ := Aside0.mk (H.out.on hb_); clear H; have H := n0_; clear n0_; clear hb_) | (go_at_call 17; (with_reducible refine (rfai_c HT.out _).mono ?_); rintro en wf2 ⟨rfl, hb_⟩; have n0_ := Aside0.mk (H.out.on hb_); clear H; have H := n0_; clear n0_; clear hb_))
  go_wp2
  go_ret
  exact ⟨by first | rfl | (simp; done), H.out.b⟩
set_option maxHeartbeats 16000000 in
set_option maxRecDepth 100000 in
theorem RefusalEach_1100 (a why b too : Int) (w : World) (ha : 0 ≤ a ∧ a < 256) (hw : 0 ≤ why ∧ why < 256) (hb : 0 ≤ b ∧ b < 256) (ht : 0 ≤ too ∧ too < 256) (h1 : pubB a = true) (h2 : faiB why = true) (h3 : pubB b = false) :
    Calls Try.prog 6 #[.int .u8 a, .int .u8 why, .int .u8 b, .int .u8 too] w fun en w' => en = .returned (.bool true) ∧ Below w.heap.size w w' := by
  have H := Aside0.mk (Hd.start w)
  have HA := Aside0.mk ha
  have HW := Aside0.mk hw
  have HB_ := Aside0.mk hb
  have HT := Aside0.mk ht
  clear ha hw hb ht
  have r1 : rightB a why = true := by unfold rightB; rw [h1, h2]; rfl
  have r2 : rightB b too = false := by unfold rightB; rw [h3]; rfl
  have R1 := Aside0.mk r1
  have R2 := Aside0.mk r2
  clear r1 r2
  go_enter Try.func6, Try.ntmps6
  go_upto_region 2 with (first | (go_at_call 7; (with_reducible refine (awake_any _).mono ?_); rintro en wa ⟨rfl, hb_⟩; have n0_ := Aside0.mk (H.out.on hb_); clear H; have H := n0_; clear n0_; clear hb_))
  go_upto_region 3 with (first | (go_at_call 14; (with_reducible refine (of_yes a why HA.out HW.out _ R1.out).mono ?_); rintro en wx ⟨cx, rfl, hm_, hb_⟩; have n0_ := Aside0.mk ((H.out.on hb_).add (sta_msg _ _) (hm_)); clear H; have H := n0_; clear n0_; clear hb_ hm_) | ((with_reducible refine gate_dst (N := 10) rfl ?_); refine ev_var (y := .tmp 25) rfl rfl rfl rfl rfl H.out.f.2 rfl rfl ?_; intro gx wxx hg_ h1_ hb_; have n0_ := Aside0.mk ((H.out.on hb_).add (sta_blk _ _) (h1_)); clear H; have H := n0_; clear n0_; clear h1_ hb_ hg_))
  go_upto_region 4 with (first | (go_at_call 14; (with_reducible refine (of_no b too HB_.out HT.out _ R2.out).mono ?_); rintro en wy ⟨cy, rfl, hm_, hb_⟩; have n0_ := Aside0.mk ((H.out.on hb_).add (sta_msg _ _) (hm_)); clear H; have H := n0_; clear n0_; clear hb_ hm_) | ((with_reducible refine gate_dst (N := 12) rfl ?_); refine ev_var (y := .tmp 31) rfl rfl rfl rfl rfl H.out.f.2 rfl rfl ?_; intro gy wyy hg_ h1_ hb_; have n0_ := Aside0.mk ((H.out.on hb_).add (sta_blk _ _) (h1_)); clear H; have H := n0_; clear n0_; clear h1_ hb_ hg_))
  go_upto_region 5 with (first | (go_at_call 16; (with_reducible refine (rpub_c HA.out _).mono ?_); rintro en wp1 ⟨rfl, hb_⟩; have n0_ := Aside0.mk (H.out.on hb_); clear H; have H := n0_; clear n0_; clear hb_) | (go_at_call 17; (with_reducible refine (rfai_c HW.out _).mono ?_); rintro en wf1 ⟨rfl, hb_⟩; have n0_ := Aside0.mk (H.out.on hb_); clear H; have H := n0_; clear n0_; clear hb_))
  go_upto_region 6 with (first | (go_at_call 16; (with_reducible refine (rpub_c HB_.out _).mono ?_); rintro en wp2 ⟨rfl, hb_⟩; have n0_ := Aside0.mk (H.out.on hb_); clear H; have H := n0_; clear n0_; clear hb_))
  go_wp2
  go_ret
  exact ⟨by first | rfl | (simp; done), H.out.b⟩
set_option maxHeartbeats 16000000 in
set_option maxRecDepth 100000 in
theorem RefusalEach_1110 (a why b too : Int) (w : World) (ha : 0 ≤ a ∧ a < 256) (hw : 0 ≤ why ∧ why < 256) (hb : 0 ≤ b ∧ b < 256) (ht : 0 ≤ too ∧ too < 256) (h1 : pubB a = true) (h2 : faiB why = true) (h3 : pubB b = true) (h4 : faiB too = false) :
    Calls Try.prog 6 #[.int .u8 a, .int .u8 why, .int .u8 b, .int .u8 too] w fun en w' => en = .returned (.bool true) ∧ Below w.heap.size w w' := by
  have H := Aside0.mk (Hd.start w)
  have HA := Aside0.mk ha
  have HW := Aside0.mk hw
  have HB_ := Aside0.mk hb
  have HT := Aside0.mk ht
  clear ha hw hb ht
  have r1 : rightB a why = true := by unfold rightB; rw [h1, h2]; rfl
  have r2 : rightB b too = false := by unfold rightB; rw [h3, h4]; rfl
  have R1 := Aside0.mk r1
  have R2 := Aside0.mk r2
  clear r1 r2
  go_enter Try.func6, Try.ntmps6
  go_upto_region 2 with (first | (go_at_call 7; (with_reducible refine (awake_any _).mono ?_); rintro en wa ⟨rfl, hb_⟩; have n0_ := Aside0.mk (H.out.on hb_); clear H; have H := n0_; clear n0_; clear hb_))
  go_upto_region 3 with (first | (go_at_call 14; (with_reducible refine (of_yes a why HA.out HW.out _ R1.out).mono ?_); rintro en wx ⟨cx, rfl, hm_, hb_⟩; have n0_ := Aside0.mk ((H.out.on hb_).add (sta_msg _ _) (hm_)); clear H; have H := n0_; clear n0_; clear hb_ hm_) | ((with_reducible refine gate_dst (N := 10) rfl ?_); refine ev_var (y := .tmp 25) rfl rfl rfl rfl rfl H.out.f.2 rfl rfl ?_; intro gx wxx hg_ h1_ hb_; have n0_ := Aside0.mk ((H.out.on hb_).add (sta_blk _ _) (h1_)); clear H; have H := n0_; clear n0_; clear h1_ hb_ hg_))
  go_upto_region 4 with (first | (go_at_call 14; (with_reducible refine (of_no b too HB_.out HT.out _ R2.out).mono ?_); rintro en wy ⟨cy, rfl, hm_, hb_⟩; have n0_ := Aside0.mk ((H.out.on hb_).add (sta_msg _ _) (hm_)); clear H; have H := n0_; clear n0_; clear hb_ hm_) | ((with_reducible refine gate_dst (N := 12) rfl ?_); refine ev_var (y := .tmp 31) rfl rfl rfl rfl rfl H.out.f.2 rfl rfl ?_; intro gy wyy hg_ h1_ hb_; have n0_ := Aside0.mk ((H.out.on hb_).add (sta_blk _ _) (h1_)); clear H; have H := n0_; clear n0_; clear h1_ hb_ hg_))
  go_upto_region 5 with (first | (go_at_call 16; (with_reducible refine (rpub_c HA.out _).mono ?_); rintro en wp1 ⟨rfl, hb_⟩; have n0_ := Aside0.mk (H.out.on hb_); clear H; have H := n0_; clear n0_; clear hb_) | (go_at_call 17; (with_reducible refine (rfai_c HW.out _).mono ?_); rintro en wf1 ⟨rfl, hb_⟩; have n0_ := Aside0.mk (H.out.on hb_); clear H; have H := n0_; clear n0_; clear hb_))
  go_upto_region 6 with (first | (go_at_call 16; (with_reducible refine (rpub_c HB_.out _).mono ?_); rintro en wp2 ⟨rfl, hb_⟩; have n0_ := Aside0.mk (H.out.on hb_); clear H; have H := n0_; clear n0_; clear hb_) | (go_at_call 17; (with_reducible refine (rfai_c HT.out _).mono ?_); rintro en wf2 ⟨rfl, hb_⟩; have n0_ := Aside0.mk (H.out.on hb_); clear H; have H := n0_; clear n0_; clear hb_))
  go_wp2
  go_ret
  exact ⟨by first | rfl | (simp; done), H.out.b⟩
set_option maxHeartbeats 16000000 in
set_option maxRecDepth 100000 in
theorem RefusalEach_1111ab (a why b too : Int) (w : World) (ha : 0 ≤ a ∧ a < 256) (hw : 0 ≤ why ∧ why < 256) (hb : 0 ≤ b ∧ b < 256) (ht : 0 ≤ too ∧ too < 256) (h1 : pubB a = true) (h2 : faiB why = true) (h3 : pubB b = true) (h4 : faiB too = true) (hq : a = b) (hs : why = too) :
    Calls Try.prog 6 #[.int .u8 a, .int .u8 why, .int .u8 b, .int .u8 too] w fun en w' => en = .returned (.bool true) ∧ Below w.heap.size w w' := by
  subst hq
  subst hs
  have H := Aside0.mk (Hd.start w)
  have HA := Aside0.mk ha
  have HW := Aside0.mk hw
  have HB_ := Aside0.mk hb
  have HT := Aside0.mk ht
  clear ha hw hb ht
  have r1 : rightB a why = true := by unfold rightB; rw [h1, h2]; rfl
  have r2 : rightB a why = true := by unfold rightB; rw [h3, h4]; rfl
  have R1 := Aside0.mk r1
  have R2 := Aside0.mk r2
  clear r1 r2
  go_enter Try.func6, Try.ntmps6
  go_upto_region 2 with (first | (go_at_call 7; (with_reducible refine (awake_any _).mono ?_); rintro en wa ⟨rfl, hb_⟩; have n0_ := Aside0.mk (H.out.on hb_); clear H; have H := n0_; clear n0_; clear hb_))
  go_upto_region 3 with (first | (go_at_call 14; (with_reducible refine (of_yes a why HA.out HW.out _ R1.out).mono ?_); rintro en wx ⟨cx, rfl, hm_, hb_⟩; have n0_ := Aside0.mk ((H.out.on hb_).add (sta_msg _ _) (hm_)); clear H; have H := n0_; clear n0_; clear hb_ hm_) | ((with_reducible refine gate_dst (N := 10) rfl ?_); refine ev_var (y := .tmp 25) rfl rfl rfl rfl rfl H.out.f.2 rfl rfl ?_; intro gx wxx hg_ h1_ hb_; have n0_ := Aside0.mk ((H.out.on hb_).add (sta_blk _ _) (h1_)); clear H; have H := n0_; clear n0_; clear h1_ hb_ hg_))
  go_upto_region 4 with (first | (go_at_call 14; (with_reducible refine (of_yes a why HB_.out HT.out _ R2.out).mono ?_); rintro en wy ⟨cy, rfl, hm_, hb_⟩; have n0_ := Aside0.mk ((H.out.on hb_).add (sta_msg _ _) (hm_)); clear H; have H := n0_; clear n0_; clear hb_ hm_) | ((with_reducible refine gate_dst (N := 12) rfl ?_); refine ev_var (y := .tmp 31) rfl rfl rfl rfl rfl H.out.f.2 rfl rfl ?_; intro gy wyy hg_ h1_ hb_; have n0_ := Aside0.mk ((H.out.on hb_).add (sta_blk _ _) (h1_)); clear H; have H := n0_; clear n0_; clear h1_ hb_ hg_))
  go_upto_region 5 with (first | (go_at_call 16; (with_reducible refine (rpub_c HA.out _).mono ?_); rintro en wp1 ⟨rfl, hb_⟩; have n0_ := Aside0.mk (H.out.on hb_); clear H; have H := n0_; clear n0_; clear hb_) | (go_at_call 17; (with_reducible refine (rfai_c HW.out _).mono ?_); rintro en wf1 ⟨rfl, hb_⟩; have n0_ := Aside0.mk (H.out.on hb_); clear H; have H := n0_; clear n0_; clear hb_))
  go_upto_region 6 with (first | (go_at_call 16; (with_reducible refine (rpub_c HB_.out _).mono ?_); rintro en wp2 ⟨rfl, hb_⟩; have n0_ := Aside0.mk (H.out.on hb_); clear H; have H := n0_; clear n0_; clear hb_) | (go_at_call 17; (with_reducible refine (rfai_c HT.out _).mono ?_); rintro en wf2 ⟨rfl, hb_⟩; have n0_ := Aside0.mk (H.out.on hb_); clear H; have H := n0_; clear n0_; clear hb_))
  go_upto_region 9 with (first | ((with_reducible refine gate_dst (N := 77) rfl ?_); (try (refine gate_guard (by rfl) ?_; dsimp only)); refine ev_get (x := .tmp 10) rfl rfl rfl H.out.f.1.1.2 H.out.f.1.1.1.2 ?_) | (go_at_call 12; (with_reducible refine (write_r R1.out H.out.f.1.1.1.2).mono ?_); rintro en wu ⟨Au, cu, rfl, hz_, hr_, hb_⟩; have n0_ := Aside0.mk ((H.out.on hb_).add (sta_C _ _ _ _) (hr_)); clear H; have H := n0_; clear n0_; have Zu := Aside0.mk hz_; clear hb_ hr_ hz_))
  go_upto_region 10 with (first | ((with_reducible refine gate_dst (N := 82) rfl ?_); (try (refine gate_guard (by rfl) ?_; dsimp only)); refine ev_get (x := .tmp 12) rfl rfl rfl H.out.f.1.2 H.out.f.1.1.2 ?_) | (go_at_call 12; (with_reducible refine (write_r R2.out H.out.f.1.1.2).mono ?_); rintro en wv_ ⟨Av, cv, rfl, hz_, hr_, hb_⟩; have n0_ := Aside0.mk ((H.out.on hb_).add (sta_C _ _ _ _) (hr_)); clear H; have H := n0_; clear n0_; have Zv := Aside0.mk hz_; clear hb_ hr_ hz_))
  have es : ([a + 128, why] == [a + 128, why]) = true := beq_self_eq_true _
  have hi1 := Aside0.mk (two_bytes (a := a + 128) (b := why) (by have := HA.out; have := right_lt HA.out R1.out; omega) HW.out)
  have hi2 := Aside0.mk (two_bytes (a := a + 128) (b := why) (by have := HB_.out; have := right_lt HB_.out R2.out; omega) HT.out)
  go_wp2_with (first | (go_at_call 15; (with_reducible refine (bsame_2 hi1.out hi2.out H.out.f.1.2 Zu.out H.out.f.2 Zv.out).mono ?_); rintro en wsm ⟨rfl, hb_⟩; have n0_ := Aside0.mk (H.out.on hb_); clear H; have H := n0_; clear n0_; clear hb_))
  go_ret
  exact ⟨by first | rfl | (simp; done), H.out.b⟩
set_option maxHeartbeats 16000000 in
set_option maxRecDepth 100000 in
theorem RefusalEach_1111a (a why b too : Int) (w : World) (ha : 0 ≤ a ∧ a < 256) (hw : 0 ≤ why ∧ why < 256) (hb : 0 ≤ b ∧ b < 256) (ht : 0 ≤ too ∧ too < 256) (h1 : pubB a = true) (h2 : faiB why = true) (h3 : pubB b = true) (h4 : faiB too = true) (hq : a = b) (hs : why ≠ too) :
    Calls Try.prog 6 #[.int .u8 a, .int .u8 why, .int .u8 b, .int .u8 too] w fun en w' => en = .returned (.bool true) ∧ Below w.heap.size w w' := by
  subst hq
  have HS := Aside0.mk hs
  clear hs
  have H := Aside0.mk (Hd.start w)
  have HA := Aside0.mk ha
  have HW := Aside0.mk hw
  have HB_ := Aside0.mk hb
  have HT := Aside0.mk ht
  clear ha hw hb ht
  have r1 : rightB a why = true := by unfold rightB; rw [h1, h2]; rfl
  have r2 : rightB a too = true := by unfold rightB; rw [h3, h4]; rfl
  have R1 := Aside0.mk r1
  have R2 := Aside0.mk r2
  clear r1 r2
  go_enter Try.func6, Try.ntmps6
  go_upto_region 2 with (first | (go_at_call 7; (with_reducible refine (awake_any _).mono ?_); rintro en wa ⟨rfl, hb_⟩; have n0_ := Aside0.mk (H.out.on hb_); clear H; have H := n0_; clear n0_; clear hb_))
  go_upto_region 3 with (first | (go_at_call 14; (with_reducible refine (of_yes a why HA.out HW.out _ R1.out).mono ?_); rintro en wx ⟨cx, rfl, hm_, hb_⟩; have n0_ := Aside0.mk ((H.out.on hb_).add (sta_msg _ _) (hm_)); clear H; have H := n0_; clear n0_; clear hb_ hm_) | ((with_reducible refine gate_dst (N := 10) rfl ?_); refine ev_var (y := .tmp 25) rfl rfl rfl rfl rfl H.out.f.2 rfl rfl ?_; intro gx wxx hg_ h1_ hb_; have n0_ := Aside0.mk ((H.out.on hb_).add (sta_blk _ _) (h1_)); clear H; have H := n0_; clear n0_; clear h1_ hb_ hg_))
  go_upto_region 4 with (first | (go_at_call 14; (with_reducible refine (of_yes a too HB_.out HT.out _ R2.out).mono ?_); rintro en wy ⟨cy, rfl, hm_, hb_⟩; have n0_ := Aside0.mk ((H.out.on hb_).add (sta_msg _ _) (hm_)); clear H; have H := n0_; clear n0_; clear hb_ hm_) | ((with_reducible refine gate_dst (N := 12) rfl ?_); refine ev_var (y := .tmp 31) rfl rfl rfl rfl rfl H.out.f.2 rfl rfl ?_; intro gy wyy hg_ h1_ hb_; have n0_ := Aside0.mk ((H.out.on hb_).add (sta_blk _ _) (h1_)); clear H; have H := n0_; clear n0_; clear h1_ hb_ hg_))
  go_upto_region 5 with (first | (go_at_call 16; (with_reducible refine (rpub_c HA.out _).mono ?_); rintro en wp1 ⟨rfl, hb_⟩; have n0_ := Aside0.mk (H.out.on hb_); clear H; have H := n0_; clear n0_; clear hb_) | (go_at_call 17; (with_reducible refine (rfai_c HW.out _).mono ?_); rintro en wf1 ⟨rfl, hb_⟩; have n0_ := Aside0.mk (H.out.on hb_); clear H; have H := n0_; clear n0_; clear hb_))
  go_upto_region 6 with (first | (go_at_call 16; (with_reducible refine (rpub_c HB_.out _).mono ?_); rintro en wp2 ⟨rfl, hb_⟩; have n0_ := Aside0.mk (H.out.on hb_); clear H; have H := n0_; clear n0_; clear hb_) | (go_at_call 17; (with_reducible refine (rfai_c HT.out _).mono ?_); rintro en wf2 ⟨rfl, hb_⟩; have n0_ := Aside0.mk (H.out.on hb_); clear H; have H := n0_; clear n0_; clear hb_))
  go_upto_region 9 with (first | ((with_reducible refine gate_dst (N := 77) rfl ?_); (try (refine gate_guard (by rfl) ?_; dsimp only)); refine ev_get (x := .tmp 10) rfl rfl rfl H.out.f.1.1.2 H.out.f.1.1.1.2 ?_) | (go_at_call 12; (with_reducible refine (write_r R1.out H.out.f.1.1.1.2).mono ?_); rintro en wu ⟨Au, cu, rfl, hz_, hr_, hb_⟩; have n0_ := Aside0.mk ((H.out.on hb_).add (sta_C _ _ _ _) (hr_)); clear H; have H := n0_; clear n0_; have Zu := Aside0.mk hz_; clear hb_ hr_ hz_))
  go_upto_region 10 with (first | ((with_reducible refine gate_dst (N := 82) rfl ?_); (try (refine gate_guard (by rfl) ?_; dsimp only)); refine ev_get (x := .tmp 12) rfl rfl rfl H.out.f.1.2 H.out.f.1.1.2 ?_) | (go_at_call 12; (with_reducible refine (write_r R2.out H.out.f.1.1.2).mono ?_); rintro en wv_ ⟨Av, cv, rfl, hz_, hr_, hb_⟩; have n0_ := Aside0.mk ((H.out.on hb_).add (sta_C _ _ _ _) (hr_)); clear H; have H := n0_; clear n0_; have Zv := Aside0.mk hz_; clear hb_ hr_ hz_))
  have hs := HS.out
  have e2 : (why == too) = false := beq_eq_false_iff_ne.2 hs
  have es : ([a + 128, why] == [a + 128, too]) = false := beq_eq_false_iff_ne.2 (fun h => hs (List.cons.inj (List.cons.inj h).2).1)
  clear hs
  have hi1 := Aside0.mk (two_bytes (a := a + 128) (b := why) (by have := HA.out; have := right_lt HA.out R1.out; omega) HW.out)
  have hi2 := Aside0.mk (two_bytes (a := a + 128) (b := too) (by have := HB_.out; have := right_lt HB_.out R2.out; omega) HT.out)
  go_wp2_with (first | (go_at_call 15; (with_reducible refine (bsame_2 hi1.out hi2.out H.out.f.1.2 Zu.out H.out.f.2 Zv.out).mono ?_); rintro en wsm ⟨rfl, hb_⟩; have n0_ := Aside0.mk (H.out.on hb_); clear H; have H := n0_; clear n0_; clear hb_))
  go_ret
  exact ⟨by first | rfl | (simp; done), H.out.b⟩
set_option maxHeartbeats 16000000 in
set_option maxRecDepth 100000 in
theorem RefusalEach_1111n (a why b too : Int) (w : World) (ha : 0 ≤ a ∧ a < 256) (hw : 0 ≤ why ∧ why < 256) (hb : 0 ≤ b ∧ b < 256) (ht : 0 ≤ too ∧ too < 256) (h1 : pubB a = true) (h2 : faiB why = true) (h3 : pubB b = true) (h4 : faiB too = true) (hq : a ≠ b) :
    Calls Try.prog 6 #[.int .u8 a, .int .u8 why, .int .u8 b, .int .u8 too] w fun en w' => en = .returned (.bool true) ∧ Below w.heap.size w w' := by
  have HQ := Aside0.mk hq
  clear hq
  have H := Aside0.mk (Hd.start w)
  have HA := Aside0.mk ha
  have HW := Aside0.mk hw
  have HB_ := Aside0.mk hb
  have HT := Aside0.mk ht
  clear ha hw hb ht
  have r1 : rightB a why = true := by unfold rightB; rw [h1, h2]; rfl
  have r2 : rightB b too = true := by unfold rightB; rw [h3, h4]; rfl
  have R1 := Aside0.mk r1
  have R2 := Aside0.mk r2
  clear r1 r2
  go_enter Try.func6, Try.ntmps6
  go_upto_region 2 with (first | (go_at_call 7; (with_reducible refine (awake_any _).mono ?_); rintro en wa ⟨rfl, hb_⟩; have n0_ := Aside0.mk (H.out.on hb_); clear H; have H := n0_; clear n0_; clear hb_))
  go_upto_region 3 with (first | (go_at_call 14; (with_reducible refine (of_yes a why HA.out HW.out _ R1.out).mono ?_); rintro en wx ⟨cx, rfl, hm_, hb_⟩; have n0_ := Aside0.mk ((H.out.on hb_).add (sta_msg _ _) (hm_)); clear H; have H := n0_; clear n0_; clear hb_ hm_) | ((with_reducible refine gate_dst (N := 10) rfl ?_); refine ev_var (y := .tmp 25) rfl rfl rfl rfl rfl H.out.f.2 rfl rfl ?_; intro gx wxx hg_ h1_ hb_; have n0_ := Aside0.mk ((H.out.on hb_).add (sta_blk _ _) (h1_)); clear H; have H := n0_; clear n0_; clear h1_ hb_ hg_))
  go_upto_region 4 with (first | (go_at_call 14; (with_reducible refine (of_yes b too HB_.out HT.out _ R2.out).mono ?_); rintro en wy ⟨cy, rfl, hm_, hb_⟩; have n0_ := Aside0.mk ((H.out.on hb_).add (sta_msg _ _) (hm_)); clear H; have H := n0_; clear n0_; clear hb_ hm_) | ((with_reducible refine gate_dst (N := 12) rfl ?_); refine ev_var (y := .tmp 31) rfl rfl rfl rfl rfl H.out.f.2 rfl rfl ?_; intro gy wyy hg_ h1_ hb_; have n0_ := Aside0.mk ((H.out.on hb_).add (sta_blk _ _) (h1_)); clear H; have H := n0_; clear n0_; clear h1_ hb_ hg_))
  go_upto_region 5 with (first | (go_at_call 16; (with_reducible refine (rpub_c HA.out _).mono ?_); rintro en wp1 ⟨rfl, hb_⟩; have n0_ := Aside0.mk (H.out.on hb_); clear H; have H := n0_; clear n0_; clear hb_) | (go_at_call 17; (with_reducible refine (rfai_c HW.out _).mono ?_); rintro en wf1 ⟨rfl, hb_⟩; have n0_ := Aside0.mk (H.out.on hb_); clear H; have H := n0_; clear n0_; clear hb_))
  go_upto_region 6 with (first | (go_at_call 16; (with_reducible refine (rpub_c HB_.out _).mono ?_); rintro en wp2 ⟨rfl, hb_⟩; have n0_ := Aside0.mk (H.out.on hb_); clear H; have H := n0_; clear n0_; clear hb_) | (go_at_call 17; (with_reducible refine (rfai_c HT.out _).mono ?_); rintro en wf2 ⟨rfl, hb_⟩; have n0_ := Aside0.mk (H.out.on hb_); clear H; have H := n0_; clear n0_; clear hb_))
  go_upto_region 9 with (first | ((with_reducible refine gate_dst (N := 77) rfl ?_); (try (refine gate_guard (by rfl) ?_; dsimp only)); refine ev_get (x := .tmp 10) rfl rfl rfl H.out.f.1.1.2 H.out.f.1.1.1.2 ?_) | (go_at_call 12; (with_reducible refine (write_r R1.out H.out.f.1.1.1.2).mono ?_); rintro en wu ⟨Au, cu, rfl, hz_, hr_, hb_⟩; have n0_ := Aside0.mk ((H.out.on hb_).add (sta_C _ _ _ _) (hr_)); clear H; have H := n0_; clear n0_; have Zu := Aside0.mk hz_; clear hb_ hr_ hz_))
  go_upto_region 10 with (first | ((with_reducible refine gate_dst (N := 82) rfl ?_); (try (refine gate_guard (by rfl) ?_; dsimp only)); refine ev_get (x := .tmp 12) rfl rfl rfl H.out.f.1.2 H.out.f.1.1.2 ?_) | (go_at_call 12; (with_reducible refine (write_r R2.out H.out.f.1.1.2).mono ?_); rintro en wv_ ⟨Av, cv, rfl, hz_, hr_, hb_⟩; have n0_ := Aside0.mk ((H.out.on hb_).add (sta_C _ _ _ _) (hr_)); clear H; have H := n0_; clear n0_; have Zv := Aside0.mk hz_; clear hb_ hr_ hz_))
  have hq := HQ.out
  have e1 : (a == b) = false := beq_eq_false_iff_ne.2 hq
  have es : ([a + 128, why] == [b + 128, too]) = false := beq_eq_false_iff_ne.2 (fun h => hq (by have := (List.cons.inj h).1; omega))
  clear hq
  have hi1 := Aside0.mk (two_bytes (a := a + 128) (b := why) (by have := HA.out; have := right_lt HA.out R1.out; omega) HW.out)
  have hi2 := Aside0.mk (two_bytes (a := b + 128) (b := too) (by have := HB_.out; have := right_lt HB_.out R2.out; omega) HT.out)
  go_wp2_with (first | (go_at_call 15; (with_reducible refine (bsame_2 hi1.out hi2.out H.out.f.1.2 Zu.out H.out.f.2 Zv.out).mono ?_); rintro en wsm ⟨rfl, hb_⟩; have n0_ := Aside0.mk (H.out.on hb_); clear H; have H := n0_; clear n0_; clear hb_))
  go_ret
  exact ⟨by first | rfl | (simp; done), H.out.b⟩
theorem busbarlaw13_RefusalEach (a why b too : Int) (w : World) (ha : (Lit.int .u8 a).wf = true) (hw : (Lit.int .u8 why).wf = true) (hb : (Lit.int .u8 b).wf = true) (ht : (Lit.int .u8 too).wf = true) :
    Calls Try.prog 6 #[.int .u8 a, .int .u8 why, .int .u8 b, .int .u8 too] w fun en w' => en = .returned (.bool true) ∧ Below w.heap.size w w' := by
  have ba := u8_wf ha
  have bw := u8_wf hw
  have bb := u8_wf hb
  have bt := u8_wf ht
  cases h1 : pubB a <;> cases h2 : faiB why <;> cases h3 : pubB b <;> cases h4 : faiB too
  · exact RefusalEach_0000 a why b too w ba bw bb bt h1 h3
  · exact RefusalEach_0000 a why b too w ba bw bb bt h1 h3
  · exact RefusalEach_0010 a why b too w ba bw bb bt h1 h3 h4
  · exact RefusalEach_0011 a why b too w ba bw bb bt h1 h3 h4
  · exact RefusalEach_0000 a why b too w ba bw bb bt h1 h3
  · exact RefusalEach_0000 a why b too w ba bw bb bt h1 h3
  · exact RefusalEach_0010 a why b too w ba bw bb bt h1 h3 h4
  · exact RefusalEach_0011 a why b too w ba bw bb bt h1 h3 h4
  · exact RefusalEach_1000 a why b too w ba bw bb bt h1 h2 h3
  · exact RefusalEach_1000 a why b too w ba bw bb bt h1 h2 h3
  · exact RefusalEach_1010 a why b too w ba bw bb bt h1 h2 h3 h4
  · exact RefusalEach_1011 a why b too w ba bw bb bt h1 h2 h3 h4
  · exact RefusalEach_1100 a why b too w ba bw bb bt h1 h2 h3
  · exact RefusalEach_1100 a why b too w ba bw bb bt h1 h2 h3
  · exact RefusalEach_1110 a why b too w ba bw bb bt h1 h2 h3 h4
  · by_cases hq : a = b
    · by_cases hs : why = too
      · exact RefusalEach_1111ab a why b too w ba bw bb bt h1 h2 h3 h4 hq hs
      · exact RefusalEach_1111a a why b too w ba bw bb bt h1 h2 h3 h4 hq hs
    · exact RefusalEach_1111n a why b too w ba bw bb bt h1 h2 h3 h4 hq
end Go.Proofs.Ytbilolgiihegiaa.Laws
