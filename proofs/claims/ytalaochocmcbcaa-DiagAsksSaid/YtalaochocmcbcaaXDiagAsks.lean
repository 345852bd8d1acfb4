/- The law DiagAsks: its walk, and the plain law. Conditions: what each theorem states. -/
import Derived.Test.YtalaochocmcbcaaMD
set_option linter.unusedVariables false
set_option linter.unusedSimpArgs false
set_option maxHeartbeats 16000000
set_option maxRecDepth 100000
section
namespace Go.Proofs.Ytalaochocmcbcaa.Laws
open Go.RowKit Go.Proofs.Ytalaochocmcbcaa.P Go.Proofs.Ytalaochocmcbcaa.E Go.Proofs.Ytalaochocmcbcaa.Cur Go.Proofs.Ytalaochocmcbcaa.Cu Go.Proofs.Ytalaochocmcbcaa.Same Go.Proofs.Ytalaochocmcbcaa.Code Go.Proofs.Ytalaochocmcbcaa.Put Go.Proofs.Ytalaochocmcbcaa.Com Go.Proofs.Ytalaochocmcbcaa.Diag Go.Proofs.YtalaochocmcbcaaW.PrintWords Go.Proofs.YtalaochocmcbcaaW.PrintLast Go.Proofs.YtalaochocmcbcaaW.PrintMore
theorem Asks_long {k : Int} {l : List Int} {A : Option Addr} {c : Nat} {w : World} (hr : Kd.C (Kd.int .u8) w A l.length l) (hc : l.length ≤ c) (hl : 400 < l.length) :
    Calls Try.prog 7 #[.int .u8 k, .slice A l.length c] w fun en w' => en = .returned (.bool true) ∧ Below w.heap.size w w' := by
  have H := Aside0.mk (Hd.start w)
  have d1 : decide ((l.length : Int) > 400) = true := decide_eq_true (by omega)
  have d2 : decide ((400 : Int) < (l.length : Int)) = true := decide_eq_true (by omega)
  clear hr
  go_enter Try.func7, Try.ntmps7
  go_wp2_with (first | (go_at_call 11; (with_reducible refine (awake_any _).mono ?_); rintro en wa ⟨rfl, hb_⟩; have n0_ := Aside0.mk (H.out.on hb_); clear H; have H := n0_; clear n0_; clear hb_))
  go_ret
  exact ⟨by first | rfl | (simp [same_refl]; done), H.out.b⟩
theorem Asks_no {k : Int} {l : List Int} {A : Option Addr} {c : Nat} {w : World} (hr : Kd.C (Kd.int .u8) w A l.length l) (hc : l.length ≤ c) (hl : ¬ 400 < l.length) (hk : ¬ (k = 7 ∨ k = 11 ∨ k = 12 ∨ k = 17)) :
    Calls Try.prog 7 #[.int .u8 k, .slice A l.length c] w fun en w' => en = .returned (.bool true) ∧ Below w.heap.size w w' := by
  have H := Aside0.mk (Hd.start w)
  have d1 : decide ((l.length : Int) > 400) = false := decide_eq_false (by omega)
  have d2 : decide ((400 : Int) < (l.length : Int)) = false := decide_eq_false (by omega)
  have b7 : (k == 7) = false := beq_eq_false_iff_ne.2 (by omega)
  have c7 : (k != 7) = true := by rw [bne, b7]; rfl
  have b11 : (k == 11) = false := beq_eq_false_iff_ne.2 (by omega)
  have c11 : (k != 11) = true := by rw [bne, b11]; rfl
  have b12 : (k == 12) = false := beq_eq_false_iff_ne.2 (by omega)
  have c12 : (k != 12) = true := by rw [bne, b12]; rfl
  have b17 : (k == 17) = false := beq_eq_false_iff_ne.2 (by omega)
  have c17 : (k != 17) = true := by rw [bne, b17]; rfl
  clear hr hk
  go_enter Try.func7, Try.ntmps7
  go_wp2_with (first | (go_at_call 11; (with_reducible refine (awake_any _).mono ?_); rintro en wa ⟨rfl, hb_⟩; have n0_ := Aside0.mk (H.out.on hb_); clear H; have H := n0_; clear n0_; clear hb_))
  go_ret
  exact ⟨by first | rfl | (simp [same_refl]; done), H.out.b⟩
theorem Asks_7_1 {l : List Int} {A : Option Addr} {c : Nat} {w : World} (hr : Kd.C (Kd.int .u8) w A l.length l) (hc : l.length ≤ c) (hl : ¬ 400 < l.length) (hb : isBytes l) (hz : l.length ≠ 0) (hp : parse 0 7 l = (zeroM, 3)) :
    Calls Try.prog 7 #[.int .u8 7, .slice A l.length c] w fun en w' => en = .returned (.bool true) ∧ Below w.heap.size w w' := by
  have H := Aside0.mk (Hd.start w)
  have n0_ := Aside0.mk ((H.out).add (sta_C _ _ _ _) (hr))
  clear H
  have H := n0_
  clear n0_
  have d1 : decide ((l.length : Int) > 400) = false := decide_eq_false (by omega)
  have d2 : decide ((400 : Int) < (l.length : Int)) = false := decide_eq_false (by omega)
  have z1 : decide ((l.length : Int) > 0) = true := decide_eq_true (by omega)
  have z2 : decide ((0 : Int) < (l.length : Int)) = true := decide_eq_true (by omega)
  have z3 : decide (0 < l.length) = true := decide_eq_true (by omega)
  have HP := Aside0.mk (show ParseC 12 0 7 l (zeroM, 3) from by rw [← hp]; exact parse_c (by omega) hb (by decide))
  have HC := Aside0.mk hc
  clear hr hc hl hb hp hz
  go_enter Try.func7, Try.ntmps7
  go_upto_region 4 with (first | (go_at_call 11; (with_reducible refine (awake_any _).mono ?_); rintro en wa ⟨rfl, hb_⟩; have n0_ := Aside0.mk (H.out.on hb_); clear H; have H := n0_; clear n0_; clear hb_))
  go_upto_region 5 with (first | (go_at_call 12; (with_reducible refine (ParseC.c HP.out H.out.f.2 HC.out).mono ?_); rintro en wm ⟨cm, rfl, hm_, hb_⟩; have n0_ := Aside0.mk ((H.out.on hb_).add (sta_msg _ _) (hm_)); clear H; have H := n0_; clear n0_; clear hb_ hm_) | ((with_reducible refine gate_dst (N := 6) rfl ?_); refine ev_var (y := .tmp 33) rfl rfl rfl rfl rfl H.out.f.2 rfl rfl ?_; intro gm wv hg_ h1_ hb_; have n0_ := Aside0.mk ((H.out.on hb_).add (sta_blk _ _) (h1_)); clear H; have H := n0_; clear n0_; clear h1_ hb_ hg_))
  go_wp2
  go_ret
  exact ⟨by first | rfl | (simp [same_refl]; done), H.out.b⟩
theorem Asks_7_0 {l : List Int} {A : Option Addr} {c : Nat} {w : World} (hr : Kd.C (Kd.int .u8) w A l.length l) (hc : l.length ≤ c) (hl : ¬ 400 < l.length) (hb : isBytes l) (hz : l.length = 0) (hp : parse 0 7 l = (mkC 7, 0)) :
    Calls Try.prog 7 #[.int .u8 7, .slice A l.length c] w fun en w' => en = .returned (.bool true) ∧ Below w.heap.size w w' := by
  have H := Aside0.mk (Hd.start w)
  have n0_ := Aside0.mk ((H.out).add (sta_C _ _ _ _) (hr))
  clear H
  have H := n0_
  clear n0_
  have d1 : decide ((l.length : Int) > 400) = false := decide_eq_false (by omega)
  have d2 : decide ((400 : Int) < (l.length : Int)) = false := decide_eq_false (by omega)
  have z1 : decide ((l.length : Int) > 0) = false := decide_eq_false (by omega)
  have z2 : decide ((0 : Int) < (l.length : Int)) = false := decide_eq_false (by omega)
  have z3 : decide (0 < l.length) = false := decide_eq_false (by omega)
  have HP := Aside0.mk (show ParseC 12 0 7 l (mkC 7, 0) from by rw [← hp]; exact parse_c (by omega) hb (by decide))
  have HC := Aside0.mk hc
  clear hr hc hl hb hp hz
  go_enter Try.func7, Try.ntmps7
  go_upto_region 4 with (first | (go_at_call 11; (with_reducible refine (awake_any _).mono ?_); rintro en wa ⟨rfl, hb_⟩; have n0_ := Aside0.mk (H.out.on hb_); clear H; have H := n0_; clear n0_; clear hb_))
  go_upto_region 5 with (first | (go_at_call 12; (with_reducible refine (ParseC.c HP.out H.out.f.2 HC.out).mono ?_); rintro en wm ⟨cm, rfl, hm_, hb_⟩; have n0_ := Aside0.mk ((H.out.on hb_).add (sta_msg _ _) (hm_)); clear H; have H := n0_; clear n0_; clear hb_ hm_) | ((with_reducible refine gate_dst (N := 6) rfl ?_); refine ev_var (y := .tmp 33) rfl rfl rfl rfl rfl H.out.f.2 rfl rfl ?_; intro gm wv hg_ h1_ hb_; have n0_ := Aside0.mk ((H.out.on hb_).add (sta_blk _ _) (h1_)); clear H; have H := n0_; clear n0_; clear h1_ hb_ hg_))
  go_wp2_with (first | ((with_reducible refine gate_dst (N := 49) rfl ?_); (try (refine gate_guard (by rfl) ?_; dsimp only)); refine ev_get (x := .tmp 6) rfl rfl rfl H.out.f.2 H.out.f.1.2 ?_) | ((with_reducible refine gate_dst (N := 51) rfl ?_); (try (refine gate_guard (by rfl) ?_; dsimp only)); refine ev_build (zeroC.setIfInBounds 0 (.int .u8 7)) rfl (by first | (go_simp; done) | (go_simp; rfl)) ?_; intro cz hcx_; have mx_ := (fun W => (by rw [hcx_]; exact ((fun W => mkC_is (by decide) W)) W : IsMsg W cz (mkC 7))); have n0_ := Aside0.mk ((H.out).add (sta_msg _ _) (mx_ _)); clear H; have H := n0_; clear n0_; clear hcx_ mx_) | (go_at_call 14; (with_reducible refine (refsame_msg H.out.f.1.1.2 H.out.f.2).mono ?_); rintro en ws ⟨rfl, hb_⟩; have n0_ := Aside0.mk (H.out.on hb_); clear H; have H := n0_; clear n0_; clear hb_))
  go_ret
  exact ⟨by first | rfl | (simp [same_refl]; done), H.out.b⟩
theorem Asks_11_1 {l : List Int} {A : Option Addr} {c : Nat} {w : World} (hr : Kd.C (Kd.int .u8) w A l.length l) (hc : l.length ≤ c) (hl : ¬ 400 < l.length) (hb : isBytes l) (hz : l.length ≠ 0) (hp : parse 0 11 l = (zeroM, 3)) :
    Calls Try.prog 7 #[.int .u8 11, .slice A l.length c] w fun en w' => en = .returned (.bool true) ∧ Below w.heap.size w w' := by
  have H := Aside0.mk (Hd.start w)
  have n0_ := Aside0.mk ((H.out).add (sta_C _ _ _ _) (hr))
  clear H
  have H := n0_
  clear n0_
  have d1 : decide ((l.length : Int) > 400) = false := decide_eq_false (by omega)
  have d2 : decide ((400 : Int) < (l.length : Int)) = false := decide_eq_false (by omega)
  have z1 : decide ((l.length : Int) > 0) = true := decide_eq_true (by omega)
  have z2 : decide ((0 : Int) < (l.length : Int)) = true := decide_eq_true (by omega)
  have z3 : decide (0 < l.length) = true := decide_eq_true (by omega)
  have HP := Aside0.mk (show ParseC 12 0 11 l (zeroM, 3) from by rw [← hp]; exact parse_c (by omega) hb (by decide))
  have HC := Aside0.mk hc
  clear hr hc hl hb hp hz
  go_enter Try.func7, Try.ntmps7
  go_upto_region 4 with (first | (go_at_call 11; (with_reducible refine (awake_any _).mono ?_); rintro en wa ⟨rfl, hb_⟩; have n0_ := Aside0.mk (H.out.on hb_); clear H; have H := n0_; clear n0_; clear hb_))
  go_upto_region 5 with (first | (go_at_call 12; (with_reducible refine (ParseC.c HP.out H.out.f.2 HC.out).mono ?_); rintro en wm ⟨cm, rfl, hm_, hb_⟩; have n0_ := Aside0.mk ((H.out.on hb_).add (sta_msg _ _) (hm_)); clear H; have H := n0_; clear n0_; clear hb_ hm_) | ((with_reducible refine gate_dst (N := 6) rfl ?_); refine ev_var (y := .tmp 33) rfl rfl rfl rfl rfl H.out.f.2 rfl rfl ?_; intro gm wv hg_ h1_ hb_; have n0_ := Aside0.mk ((H.out.on hb_).add (sta_blk _ _) (h1_)); clear H; have H := n0_; clear n0_; clear h1_ hb_ hg_))
  go_wp2
  go_ret
  exact ⟨by first | rfl | (simp [same_refl]; done), H.out.b⟩
theorem Asks_11_0 {l : List Int} {A : Option Addr} {c : Nat} {w : World} (hr : Kd.C (Kd.int .u8) w A l.length l) (hc : l.length ≤ c) (hl : ¬ 400 < l.length) (hb : isBytes l) (hz : l.length = 0) (hp : parse 0 11 l = (mkC 11, 0)) :
    Calls Try.prog 7 #[.int .u8 11, .slice A l.length c] w fun en w' => en = .returned (.bool true) ∧ Below w.heap.size w w' := by
  have H := Aside0.mk (Hd.start w)
  have n0_ := Aside0.mk ((H.out).add (sta_C _ _ _ _) (hr))
  clear H
  have H := n0_
  clear n0_
  have d1 : decide ((l.length : Int) > 400) = false := decide_eq_false (by omega)
  have d2 : decide ((400 : Int) < (l.length : Int)) = false := decide_eq_false (by omega)
  have z1 : decide ((l.length : Int) > 0) = false := decide_eq_false (by omega)
  have z2 : decide ((0 : Int) < (l.length : Int)) = false := decide_eq_false (by omega)
  have z3 : decide (0 < l.length) = false := decide_eq_false (by omega)
  have HP := Aside0.mk (show ParseC 12 0 11 l (mkC 11, 0) from by rw [← hp]; exact parse_c (by omega) hb (by decide))
  have HC := Aside0.mk hc
  clear hr hc hl hb hp hz
  go_enter Try.func7, Try.ntmps7
  go_upto_region 4 with (first | (go_at_call 11; (with_reducible refine (awake_any _).mono ?_); rintro en wa ⟨rfl, hb_⟩; have n0_ := Aside0.mk (H.out.on hb_); clear H; have H := n0_; clear n0_; clear hb_))
  go_upto_region 5 with (first | (go_at_call 12; (with_reducible refine (ParseC.c HP.out H.out.f.2 HC.out).mono ?_); rintro en wm ⟨cm, rfl, hm_, hb_⟩; have n0_ := Aside0.mk ((H.out.on hb_).add (sta_msg _ _) (hm_)); clear H; have H := n0_; clear n0_; clear hb_ hm_) | ((with_reducible refine gate_dst (N := 6) rfl ?_); refine ev_var (y := .tmp 33) rfl rfl rfl rfl rfl H.out.f.2 rfl rfl ?_; intro gm wv hg_ h1_ hb_; have n0_ := Aside0.mk ((H.out.on hb_).add (sta_blk _ _) (h1_)); clear H; have H := n0_; clear n0_; clear h1_ hb_ hg_))
  go_wp2_with (first | ((with_reducible refine gate_dst (N := 49) rfl ?_); (try (refine gate_guard (by rfl) ?_; dsimp only)); refine ev_get (x := .tmp 6) rfl rfl rfl H.out.f.2 H.out.f.1.2 ?_) | ((with_reducible refine gate_dst (N := 51) rfl ?_); (try (refine gate_guard (by rfl) ?_; dsimp only)); refine ev_build (zeroC.setIfInBounds 0 (.int .u8 11)) rfl (by first | (go_simp; done) | (go_simp; rfl)) ?_; intro cz hcx_; have mx_ := (fun W => (by rw [hcx_]; exact ((fun W => mkC_is (by decide) W)) W : IsMsg W cz (mkC 11))); have n0_ := Aside0.mk ((H.out).add (sta_msg _ _) (mx_ _)); clear H; have H := n0_; clear n0_; clear hcx_ mx_) | (go_at_call 14; (with_reducible refine (refsame_msg H.out.f.1.1.2 H.out.f.2).mono ?_); rintro en ws ⟨rfl, hb_⟩; have n0_ := Aside0.mk (H.out.on hb_); clear H; have H := n0_; clear n0_; clear hb_))
  go_ret
  exact ⟨by first | rfl | (simp [same_refl]; done), H.out.b⟩
theorem Asks_12_1 {l : List Int} {A : Option Addr} {c : Nat} {w : World} (hr : Kd.C (Kd.int .u8) w A l.length l) (hc : l.length ≤ c) (hl : ¬ 400 < l.length) (hb : isBytes l) (hz : l.length ≠ 0) (hp : parse 0 12 l = (zeroM, 3)) :
    Calls Try.prog 7 #[.int .u8 12, .slice A l.length c] w fun en w' => en = .returned (.bool true) ∧ Below w.heap.size w w' := by
  have H := Aside0.mk (Hd.start w)
  have n0_ := Aside0.mk ((H.out).add (sta_C _ _ _ _) (hr))
  clear H
  have H := n0_
  clear n0_
  have d1 : decide ((l.length : Int) > 400) = false := decide_eq_false (by omega)
  have d2 : decide ((400 : Int) < (l.length : Int)) = false := decide_eq_false (by omega)
  have z1 : decide ((l.length : Int) > 0) = true := decide_eq_true (by omega)
  have z2 : decide ((0 : Int) < (l.length : Int)) = true := decide_eq_true (by omega)
  have z3 : decide (0 < l.length) = true := decide_eq_true (by omega)
  have HP := Aside0.mk (show ParseC 12 0 12 l (zeroM, 3) from by rw [← hp]; exact parse_c (by omega) hb (by decide))
  have HC := Aside0.mk hc
  clear hr hc hl hb hp hz
  go_enter Try.func7, Try.ntmps7
  go_upto_region 4 with (first | (go_at_call 11; (with_reducible refine (awake_any _).mono ?_); rintro en wa ⟨rfl, hb_⟩; have n0_ := Aside0.mk (H.out.on hb_); clear H; have H := n0_; clear n0_; clear hb_))
  go_upto_region 5 with (first | (go_at_call 12; (with_reducible refine (ParseC.c HP.out H.out.f.2 HC.out).mono ?_); rintro en wm ⟨cm, rfl, hm_, hb_⟩; have n0_ := Aside0.mk ((H.out.on hb_).add (sta_msg _ _) (hm_)); clear H; have H := n0_; clear n0_; clear hb_ hm_) | ((with_reducible refine gate_dst (N := 6) rfl ?_); refine ev_var (y := .tmp 33) rfl rfl rfl rfl rfl H.out.f.2 rfl rfl ?_; intro gm wv hg_ h1_ hb_; have n0_ := Aside0.mk ((H.out.on hb_).add (sta_blk _ _) (h1_)); clear H; have H := n0_; clear n0_; clear h1_ hb_ hg_))
  go_wp2
  go_ret
  exact ⟨by first | rfl | (simp [same_refl]; done), H.out.b⟩
theorem Asks_12_0 {l : List Int} {A : Option Addr} {c : Nat} {w : World} (hr : Kd.C (Kd.int .u8) w A l.length l) (hc : l.length ≤ c) (hl : ¬ 400 < l.length) (hb : isBytes l) (hz : l.length = 0) (hp : parse 0 12 l = (mkC 12, 0)) :
    Calls Try.prog 7 #[.int .u8 12, .slice A l.length c] w fun en w' => en = .returned (.bool true) ∧ Below w.heap.size w w' := by
  have H := Aside0.mk (Hd.start w)
  have n0_ := Aside0.mk ((H.out).add (sta_C _ _ _ _) (hr))
  clear H
  have H := n0_
  clear n0_
  have d1 : decide ((l.length : Int) > 400) = false := decide_eq_false (by omega)
  have d2 : decide ((400 : Int) < (l.length : Int)) = false := decide_eq_false (by omega)
  have z1 : decide ((l.length : Int) > 0) = false := decide_eq_false (by omega)
  have z2 : decide ((0 : Int) < (l.length : Int)) = false := decide_eq_false (by omega)
  have z3 : decide (0 < l.length) = false := decide_eq_false (by omega)
  have HP := Aside0.mk (show ParseC 12 0 12 l (mkC 12, 0) from by rw [← hp]; exact parse_c (by omega) hb (by decide))
  have HC := Aside0.mk hc
  clear hr hc hl hb hp hz
  go_enter Try.func7, Try.ntmps7
  go_upto_region 4 with (first | (go_at_call 11; (with_reducible refine (awake_any _).mono ?_); rintro en wa ⟨rfl, hb_⟩; have n0_ := Aside0.mk (H.out.on hb_); clear H; have H := n0_; clear n0_; clear hb_))
  go_upto_region 5 with (first | (go_at_call 12; (with_reducible refine (ParseC.c HP.out H.out.f.2 HC.out).mono ?_); rintro en wm ⟨cm, rfl, hm_, hb_⟩; have n0_ := Aside0.mk ((H.out.on hb_).add (sta_msg _ _) (hm_)); clear H; have H := n0_; clear n0_; clear hb_ hm_) | ((with_reducible refine gate_dst (N := 6) rfl ?_); refine ev_var (y := .tmp 33) rfl rfl rfl rfl rfl H.out.f.2 rfl rfl ?_; intro gm wv hg_ h1_ hb_; have n0_ := Aside0.mk ((H.out.on hb_).add (sta_blk _ _) (h1_)); clear H; have H := n0_; clear n0_; clear h1_ hb_ hg_))
  go_wp2_with (first | ((with_reducible refine gate_dst (N := 49) rfl ?_); (try (refine gate_guard (by rfl) ?_; dsimp only)); refine ev_get (x := .tmp 6) rfl rfl rfl H.out.f.2 H.out.f.1.2 ?_) | ((with_reducible refine gate_dst (N := 51) rfl ?_); (try (refine gate_guard (by rfl) ?_; dsimp only)); refine ev_build (zeroC.setIfInBounds 0 (.int .u8 12)) rfl (by first | (go_simp; done) | (go_simp; rfl)) ?_; intro cz hcx_; have mx_ := (fun W => (by rw [hcx_]; exact ((fun W => mkC_is (by decide) W)) W : IsMsg W cz (mkC 12))); have n0_ := Aside0.mk ((H.out).add (sta_msg _ _) (mx_ _)); clear H; have H := n0_; clear n0_; clear hcx_ mx_) | (go_at_call 14; (with_reducible refine (refsame_msg H.out.f.1.1.2 H.out.f.2).mono ?_); rintro en ws ⟨rfl, hb_⟩; have n0_ := Aside0.mk (H.out.on hb_); clear H; have H := n0_; clear n0_; clear hb_))
  go_ret
  exact ⟨by first | rfl | (simp [same_refl]; done), H.out.b⟩
theorem Asks_17_1 {l : List Int} {A : Option Addr} {c : Nat} {w : World} (hr : Kd.C (Kd.int .u8) w A l.length l) (hc : l.length ≤ c) (hl : ¬ 400 < l.length) (hb : isBytes l) (hz : l.length ≠ 0) (hp : parse 0 17 l = (zeroM, 3)) :
    Calls Try.prog 7 #[.int .u8 17, .slice A l.length c] w fun en w' => en = .returned (.bool true) ∧ Below w.heap.size w w' := by
  have H := Aside0.mk (Hd.start w)
  have n0_ := Aside0.mk ((H.out).add (sta_C _ _ _ _) (hr))
  clear H
  have H := n0_
  clear n0_
  have d1 : decide ((l.length : Int) > 400) = false := decide_eq_false (by omega)
  have d2 : decide ((400 : Int) < (l.length : Int)) = false := decide_eq_false (by omega)
  have z1 : decide ((l.length : Int) > 0) = true := decide_eq_true (by omega)
  have z2 : decide ((0 : Int) < (l.length : Int)) = true := decide_eq_true (by omega)
  have z3 : decide (0 < l.length) = true := decide_eq_true (by omega)
  have HP := Aside0.mk (show ParseC 12 0 17 l (zeroM, 3) from by rw [← hp]; exact parse_c (by omega) hb (by decide))
  have HC := Aside0.mk hc
  clear hr hc hl hb hp hz
  go_enter Try.func7, Try.ntmps7
  go_upto_region 4 with (first | (go_at_call 11; (with_reducible refine (awake_any _).mono ?_); rintro en wa ⟨rfl, hb_⟩; have n0_ := Aside0.mk (H.out.on hb_); clear H; have H := n0_; clear n0_; clear hb_))
  go_upto_region 5 with (first | (go_at_call 12; (with_reducible refine (ParseC.c HP.out H.out.f.2 HC.out).mono ?_); rintro en wm ⟨cm, rfl, hm_, hb_⟩; have n0_ := Aside0.mk ((H.out.on hb_).add (sta_msg _ _) (hm_)); clear H; have H := n0_; clear n0_; clear hb_ hm_) | ((with_reducible refine gate_dst (N := 6) rfl ?_); refine ev_var (y := .tmp 33) rfl rfl rfl rfl rfl H.out.f.2 rfl rfl ?_; intro gm wv hg_ h1_ hb_; have n0_ := Aside0.mk ((H.out.on hb_).add (sta_blk _ _) (h1_)); clear H; have H := n0_; clear n0_; clear h1_ hb_ hg_))
  go_wp2
  go_ret
  exact ⟨by first | rfl | (simp [same_refl]; done), H.out.b⟩
theorem Asks_17_0 {l : List Int} {A : Option Addr} {c : Nat} {w : World} (hr : Kd.C (Kd.int .u8) w A l.length l) (hc : l.length ≤ c) (hl : ¬ 400 < l.length) (hb : isBytes l) (hz : l.length = 0) (hp : parse 0 17 l = (mkC 17, 0)) :
    Calls Try.prog 7 #[.int .u8 17, .slice A l.length c] w fun en w' => en = .returned (.bool true) ∧ Below w.heap.size w w' := by
  have H := Aside0.mk (Hd.start w)
  have n0_ := Aside0.mk ((H.out).add (sta_C _ _ _ _) (hr))
  clear H
  have H := n0_
  clear n0_
  have d1 : decide ((l.length : Int) > 400) = false := decide_eq_false (by omega)
  have d2 : decide ((400 : Int) < (l.length : Int)) = false := decide_eq_false (by omega)
  have z1 : decide ((l.length : Int) > 0) = false := decide_eq_false (by omega)
  have z2 : decide ((0 : Int) < (l.length : Int)) = false := decide_eq_false (by omega)
  have z3 : decide (0 < l.length) = false := decide_eq_false (by omega)
  have HP := Aside0.mk (show ParseC 12 0 17 l (mkC 17, 0) from by rw [← hp]; exact parse_c (by omega) hb (by decide))
  have HC := Aside0.mk hc
  clear hr hc hl hb hp hz
  go_enter Try.func7, Try.ntmps7
  go_upto_region 4 with (first | (go_at_call 11; (with_reducible refine (awake_any _).mono ?_); rintro en wa ⟨rfl, hb_⟩; have n0_ := Aside0.mk (H.out.on hb_); clear H; have H := n0_; clear n0_; clear hb_))
  go_upto_region 5 with (first | (go_at_call 12; (with_reducible refine (ParseC.c HP.out H.out.f.2 HC.out).mono ?_); rintro en wm ⟨cm, rfl, hm_, hb_⟩; have n0_ := Aside0.mk ((H.out.on hb_).add (sta_msg _ _) (hm_)); clear H; have H := n0_; clear n0_; clear hb_ hm_) | ((with_reducible refine gate_dst (N := 6) rfl ?_); refine ev_var (y := .tmp 33) rfl rfl rfl rfl rfl H.out.f.2 rfl rfl ?_; intro gm wv hg_ h1_ hb_; have n0_ := Aside0.mk ((H.out.on hb_).add (sta_blk _ _) (h1_)); clear H; have H := n0_; clear n0_; clear h1_ hb_ hg_))
  go_wp2_with (first | ((with_reducible refine gate_dst (N := 49) rfl ?_); (try (refine gate_guard (by rfl) ?_; dsimp only)); refine ev_get (x := .tmp 6) rfl rfl rfl H.out.f.2 H.out.f.1.2 ?_) | ((with_reducible refine gate_dst (N := 51) rfl ?_); (try (refine gate_guard (by rfl) ?_; dsimp only)); refine ev_build (zeroC.setIfInBounds 0 (.int .u8 17)) rfl (by first | (go_simp; done) | (go_simp; rfl)) ?_; intro cz hcx_; have mx_ := (fun W => (by rw [hcx_]; exact ((fun W => mkC_is (by decide) W)) W : IsMsg W cz (mkC 17))); have n0_ := Aside0.mk ((H.out).add (sta_msg _ _) (mx_ _)); clear H; have H := n0_; clear n0_; clear hcx_ mx_) | (go_at_call 14; (with_reducible refine (refsame_msg H.out.f.1.1.2 H.out.f.2).mono ?_); rintro en ws ⟨rfl, hb_⟩; have n0_ := Aside0.mk (H.out.on hb_); clear H; have H := n0_; clear n0_; clear hb_))
  go_ret
  exact ⟨by first | rfl | (simp [same_refl]; done), H.out.b⟩
theorem busbarlaw10_DiagAsks (k : Int) (A : Option Addr) (c : Nat) (l : List Int) (w : World) (hr : Kd.C (Kd.int .u8) w A l.length l) (hc : l.length ≤ c) (hk : (Lit.int .u8 k).wf = true) {p : Prop} (_ : p) (hw : ∀ x ∈ l, (Lit.int .u8 x).wf = true) :
    Calls Try.prog 7 #[.int .u8 k, .slice A l.length c] w fun en w' => en = .returned (.bool true) ∧ Below w.heap.size w w' := by
  by_cases hl : 400 < l.length
  · exact Asks_long hr hc hl
  by_cases hk : k = 7 ∨ k = 11 ∨ k = 12 ∨ k = 17
  · have hb : isBytes l := fun x hx => u8_wf (hw x hx)
    have hp := asks (b := l) hk
    by_cases hz : l.length = 0
    · rw [if_pos (List.length_eq_zero_iff.1 hz)] at hp
      rcases hk with rfl | rfl | rfl | rfl
      · exact Asks_7_0 hr hc hl hb hz hp
      · exact Asks_11_0 hr hc hl hb hz hp
      · exact Asks_12_0 hr hc hl hb hz hp
      · exact Asks_17_0 hr hc hl hb hz hp
    · rw [if_neg (fun e => hz (by rw [e]; rfl))] at hp
      rcases hk with rfl | rfl | rfl | rfl
      · exact Asks_7_1 hr hc hl hb hz hp
      · exact Asks_11_1 hr hc hl hb hz hp
      · exact Asks_12_1 hr hc hl hb hz hp
      · exact Asks_17_1 hr hc hl hb hz hp
  · exact Asks_no hr hc hl hk
end Go.Proofs.Ytalaochocmcbcaa.Laws
end
