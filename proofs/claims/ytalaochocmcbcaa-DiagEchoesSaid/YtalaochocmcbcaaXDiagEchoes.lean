/- The law DiagEchoes: its walk, and the plain law. Conditions: what each theorem states. -/
import Derived.Test.YtalaochocmcbcaaMD
set_option linter.unusedVariables false
set_option linter.unusedSimpArgs false
set_option maxHeartbeats 16000000
set_option maxRecDepth 100000
section
namespace Go.Proofs.Ytalaochocmcbcaa.Laws
open Go.RowKit Go.Proofs.Ytalaochocmcbcaa.P Go.Proofs.Ytalaochocmcbcaa.E Go.Proofs.Ytalaochocmcbcaa.Cur Go.Proofs.Ytalaochocmcbcaa.Cu Go.Proofs.Ytalaochocmcbcaa.Same Go.Proofs.Ytalaochocmcbcaa.Code Go.Proofs.Ytalaochocmcbcaa.Put Go.Proofs.Ytalaochocmcbcaa.Com Go.Proofs.Ytalaochocmcbcaa.Diag Go.Proofs.YtalaochocmcbcaaW.PrintWords Go.Proofs.YtalaochocmcbcaaW.PrintLast Go.Proofs.YtalaochocmcbcaaW.PrintMore
theorem nilB : isBytes ([] : List Int) := fun x hx => by cases hx
theorem Echoes_long {s : Int} {l : List Int} {A : Option Addr} {c : Nat} {w : World} (hr : Kd.C (Kd.int .u16) w A l.length l) (hc : l.length ≤ c) (hl : 400 < l.length) :
    Calls Try.prog 6 #[.int .u16 s, .slice A l.length c] w fun en w' => en = .returned (.bool true) ∧ Below w.heap.size w w' := by
  have H := Aside0.mk (Hd.start w)
  have d1 : decide ((l.length : Int) > 400) = true := decide_eq_true (by omega)
  have d2 : decide ((400 : Int) < (l.length : Int)) = true := decide_eq_true (by omega)
  clear hr
  go_enter Try.func6, Try.ntmps6
  go_wp2_with (first | (go_at_call 11; (with_reducible refine (awake_any _).mono ?_); rintro en wa ⟨rfl, hb_⟩; have n0_ := Aside0.mk (H.out.on hb_); clear H; have H := n0_; clear n0_; clear hb_))
  go_ret
  exact ⟨by first | rfl | (simp [same_refl]; done), H.out.b⟩
theorem Echoes_0_1 {l : List Int} {A : Option Addr} {c : Nat} {w : World} (hr : Kd.C (Kd.int .u16) w A l.length l) (hc : l.length ≤ c) (h16 : is16 (0 :: l)) (hl : ¬ 400 < l.length) (w0 : write 0 (mk8 0 l) = (putL (0 :: l), 0)) (w1 : write 1 (mk8 0 l) = (putL (0 :: l), 0)) :
    Calls Try.prog 6 #[.int .u16 0, .slice A l.length c] w fun en w' => en = .returned (.bool true) ∧ Below w.heap.size w w' := by
  have H := Aside0.mk (Hd.start w)
  have n0_ := Aside0.mk ((H.out).add (sta_C _ _ _ _) (hr))
  clear H
  have H := n0_
  clear n0_
  have d1 : decide ((l.length : Int) > 400) = false := decide_eq_false (by omega)
  have d2 : decide ((400 : Int) < (l.length : Int)) = false := decide_eq_false (by omega)
  have HW0 := Aside0.mk (show WriteC 16 0 (mk8 0 l) (putL (0 :: l), 0) from mk8_c h16 (by omega) (w0))
  have HW1 := Aside0.mk (show WriteC 16 1 (mk8 0 l) (putL (0 :: l), 0) from mk8_c h16 (by omega) (w1))
  have HS := Aside0.mk h16
  have HC := Aside0.mk hc
  clear hr h16 hc w0 w1 hl
  go_enter Try.func6, Try.ntmps6
  go_upto_region 4 with (first | (go_at_call 11; (with_reducible refine (awake_any _).mono ?_); rintro en wa ⟨rfl, hb_⟩; have n0_ := Aside0.mk (H.out.on hb_); clear H; have H := n0_; clear n0_; clear hb_))
  go_upto_region 5 with (first | ((with_reducible refine gate_dst (N := 18) rfl ?_); (try (refine gate_guard (by rfl) ?_; dsimp only)); refine ev_build (((zeroC.setIfInBounds 0 (.int .u8 8)).setIfInBounds 8 (.int .u16 0)).setIfInBounds 12 (.slice A l.length c)) rfl (by first | (go_simp; done) | (go_simp; rfl)) ?_; intro cm hcx_; have mx_ := (show IsMsg _ (((zeroC.setIfInBounds 0 (.int .u8 8)).setIfInBounds 8 (.int .u16 0)).setIfInBounds 12 (.slice A l.length c)) (mk8 0 l) from mk8_is HS.out H.out.f.2 HC.out); rw [← hcx_] at mx_; have n0_ := Aside0.mk ((H.out).add (sta_msg _ _) (mx_)); clear H; have H := n0_; clear n0_; clear hcx_ mx_) | ((with_reducible refine gate_dst (N := 6) rfl ?_); refine ev_var (y := .tmp 18) rfl rfl rfl rfl rfl H.out.f.2 rfl rfl ?_; intro gm wv hg_ h1_ hb_; have n0_ := Aside0.mk ((H.out.on hb_).add (sta_blk _ _) (h1_)); clear H; have H := n0_; clear n0_; clear h1_ hb_ hg_))
  go_upto_region 6 with (first | ((with_reducible refine gate_dst (N := 20) rfl ?_); (try (refine gate_guard (by rfl) ?_; dsimp only)); refine ev_get (x := .tmp 6) rfl rfl rfl H.out.f.2 H.out.f.1.2 ?_) | (go_at_call 16; (with_reducible refine (WriteC.n HW0.out (n := (putL (0 :: l)).length) rfl H.out.f.1.2).mono ?_); rintro en wa1 ⟨Aa, ca, rfl, hz_, hr_, hb_⟩; have n0_ := Aside0.mk ((H.out.on hb_).add (sta_C _ _ _ _) (hr_)); clear H; have H := n0_; clear n0_; have Za := Aside0.mk hz_; clear hb_ hr_ hz_))
  go_upto_region 7 with (first | ((with_reducible refine gate_dst (N := 25) rfl ?_); (try (refine gate_guard (by rfl) ?_; dsimp only)); refine ev_get (x := .tmp 6) rfl rfl rfl H.out.f.1.2 H.out.f.1.1.2 ?_) | (go_at_call 16; (with_reducible refine (WriteC.n HW1.out (n := (putL (0 :: l)).length) rfl H.out.f.1.1.2).mono ?_); rintro en wb1 ⟨Ab, cb, rfl, hz_, hr_, hb_⟩; have n0_ := Aside0.mk ((H.out.on hb_).add (sta_C _ _ _ _) (hr_)); clear H; have H := n0_; clear n0_; have Zb := Aside0.mk hz_; clear hb_ hr_ hz_))
  go_wp2_with (first | (go_at_call 18; (with_reducible refine (same_e (xs := putL (0 :: l)) (putL_bytes _) rfl (n := (putL (0 :: l)).length) (m := (putL (0 :: l)).length) rfl rfl H.out.f.1.2 Za.out H.out.f.2 Zb.out).mono ?_); rintro en we ⟨rfl, hb_⟩; have n0_ := Aside0.mk (H.out.on hb_); clear H; have H := n0_; clear n0_; clear hb_))
  go_ret
  exact ⟨by first | rfl | (simp [same_refl]; done), H.out.b⟩
theorem Echoes_0_0 {l : List Int} {A : Option Addr} {c : Nat} {w : World} (hr : Kd.C (Kd.int .u16) w A l.length l) (hc : l.length ≤ c) (h16 : is16 (0 :: l)) (hl : ¬ 400 < l.length) (w0 : write 0 (mk8 0 l) = (([] : List Int), 1)) (w1 : write 1 (mk8 0 l) = (([] : List Int), 1)) :
    Calls Try.prog 6 #[.int .u16 0, .slice A l.length c] w fun en w' => en = .returned (.bool true) ∧ Below w.heap.size w w' := by
  have H := Aside0.mk (Hd.start w)
  have n0_ := Aside0.mk ((H.out).add (sta_C _ _ _ _) (hr))
  clear H
  have H := n0_
  clear n0_
  have d1 : decide ((l.length : Int) > 400) = false := decide_eq_false (by omega)
  have d2 : decide ((400 : Int) < (l.length : Int)) = false := decide_eq_false (by omega)
  have HW0 := Aside0.mk (show WriteC 16 0 (mk8 0 l) (([] : List Int), 1) from mk8_c h16 (by omega) (w0))
  have HW1 := Aside0.mk (show WriteC 16 1 (mk8 0 l) (([] : List Int), 1) from mk8_c h16 (by omega) (w1))
  have HS := Aside0.mk h16
  have HC := Aside0.mk hc
  clear hr h16 hc w0 w1 hl
  go_enter Try.func6, Try.ntmps6
  go_upto_region 4 with (first | (go_at_call 11; (with_reducible refine (awake_any _).mono ?_); rintro en wa ⟨rfl, hb_⟩; have n0_ := Aside0.mk (H.out.on hb_); clear H; have H := n0_; clear n0_; clear hb_))
  go_upto_region 5 with (first | ((with_reducible refine gate_dst (N := 18) rfl ?_); (try (refine gate_guard (by rfl) ?_; dsimp only)); refine ev_build (((zeroC.setIfInBounds 0 (.int .u8 8)).setIfInBounds 8 (.int .u16 0)).setIfInBounds 12 (.slice A l.length c)) rfl (by first | (go_simp; done) | (go_simp; rfl)) ?_; intro cm hcx_; have mx_ := (show IsMsg _ (((zeroC.setIfInBounds 0 (.int .u8 8)).setIfInBounds 8 (.int .u16 0)).setIfInBounds 12 (.slice A l.length c)) (mk8 0 l) from mk8_is HS.out H.out.f.2 HC.out); rw [← hcx_] at mx_; have n0_ := Aside0.mk ((H.out).add (sta_msg _ _) (mx_)); clear H; have H := n0_; clear n0_; clear hcx_ mx_) | ((with_reducible refine gate_dst (N := 6) rfl ?_); refine ev_var (y := .tmp 18) rfl rfl rfl rfl rfl H.out.f.2 rfl rfl ?_; intro gm wv hg_ h1_ hb_; have n0_ := Aside0.mk ((H.out.on hb_).add (sta_blk _ _) (h1_)); clear H; have H := n0_; clear n0_; clear h1_ hb_ hg_))
  go_upto_region 6 with (first | ((with_reducible refine gate_dst (N := 20) rfl ?_); (try (refine gate_guard (by rfl) ?_; dsimp only)); refine ev_get (x := .tmp 6) rfl rfl rfl H.out.f.2 H.out.f.1.2 ?_) | (go_at_call 16; (with_reducible refine (WriteC.n HW0.out (n := 0) rfl H.out.f.1.2).mono ?_); rintro en wa1 ⟨Aa, ca, rfl, hz_, hr_, hb_⟩; have n0_ := Aside0.mk ((H.out.on hb_).add (sta_C _ _ _ _) (hr_)); clear H; have H := n0_; clear n0_; have Za := Aside0.mk hz_; clear hb_ hr_ hz_))
  go_upto_region 7 with (first | ((with_reducible refine gate_dst (N := 25) rfl ?_); (try (refine gate_guard (by rfl) ?_; dsimp only)); refine ev_get (x := .tmp 6) rfl rfl rfl H.out.f.1.2 H.out.f.1.1.2 ?_) | (go_at_call 16; (with_reducible refine (WriteC.n HW1.out (n := 0) rfl H.out.f.1.1.2).mono ?_); rintro en wb1 ⟨Ab, cb, rfl, hz_, hr_, hb_⟩; have n0_ := Aside0.mk ((H.out.on hb_).add (sta_C _ _ _ _) (hr_)); clear H; have H := n0_; clear n0_; have Zb := Aside0.mk hz_; clear hb_ hr_ hz_))
  go_wp2_with (first | (go_at_call 18; (with_reducible refine (same_e (xs := ([] : List Int)) nilB rfl (n := 0) (m := 0) rfl rfl H.out.f.1.2 Za.out H.out.f.2 Zb.out).mono ?_); rintro en we ⟨rfl, hb_⟩; have n0_ := Aside0.mk (H.out.on hb_); clear H; have H := n0_; clear n0_; clear hb_))
  go_ret
  exact ⟨by first | rfl | (simp [same_refl]; done), H.out.b⟩
theorem Echoes_1_1 {l : List Int} {A : Option Addr} {c : Nat} {w : World} (hr : Kd.C (Kd.int .u16) w A l.length l) (hc : l.length ≤ c) (h16 : is16 (1 :: l)) (hl : ¬ 400 < l.length) (w0 : write 0 (mk8 1 l) = (putL (1 :: l), 0)) (w1 : write 1 (mk8 1 l) = (putL (1 :: l), 0)) :
    Calls Try.prog 6 #[.int .u16 1, .slice A l.length c] w fun en w' => en = .returned (.bool true) ∧ Below w.heap.size w w' := by
  have H := Aside0.mk (Hd.start w)
  have n0_ := Aside0.mk ((H.out).add (sta_C _ _ _ _) (hr))
  clear H
  have H := n0_
  clear n0_
  have d1 : decide ((l.length : Int) > 400) = false := decide_eq_false (by omega)
  have d2 : decide ((400 : Int) < (l.length : Int)) = false := decide_eq_false (by omega)
  have HW0 := Aside0.mk (show WriteC 16 0 (mk8 1 l) (putL (1 :: l), 0) from mk8_c h16 (by omega) (w0))
  have HW1 := Aside0.mk (show WriteC 16 1 (mk8 1 l) (putL (1 :: l), 0) from mk8_c h16 (by omega) (w1))
  have HS := Aside0.mk h16
  have HC := Aside0.mk hc
  clear hr h16 hc w0 w1 hl
  go_enter Try.func6, Try.ntmps6
  go_upto_region 4 with (first | (go_at_call 11; (with_reducible refine (awake_any _).mono ?_); rintro en wa ⟨rfl, hb_⟩; have n0_ := Aside0.mk (H.out.on hb_); clear H; have H := n0_; clear n0_; clear hb_))
  go_upto_region 5 with (first | ((with_reducible refine gate_dst (N := 18) rfl ?_); (try (refine gate_guard (by rfl) ?_; dsimp only)); refine ev_build (((zeroC.setIfInBounds 0 (.int .u8 8)).setIfInBounds 8 (.int .u16 1)).setIfInBounds 12 (.slice A l.length c)) rfl (by first | (go_simp; done) | (go_simp; rfl)) ?_; intro cm hcx_; have mx_ := (show IsMsg _ (((zeroC.setIfInBounds 0 (.int .u8 8)).setIfInBounds 8 (.int .u16 1)).setIfInBounds 12 (.slice A l.length c)) (mk8 1 l) from mk8_is HS.out H.out.f.2 HC.out); rw [← hcx_] at mx_; have n0_ := Aside0.mk ((H.out).add (sta_msg _ _) (mx_)); clear H; have H := n0_; clear n0_; clear hcx_ mx_) | ((with_reducible refine gate_dst (N := 6) rfl ?_); refine ev_var (y := .tmp 18) rfl rfl rfl rfl rfl H.out.f.2 rfl rfl ?_; intro gm wv hg_ h1_ hb_; have n0_ := Aside0.mk ((H.out.on hb_).add (sta_blk _ _) (h1_)); clear H; have H := n0_; clear n0_; clear h1_ hb_ hg_))
  go_upto_region 6 with (first | ((with_reducible refine gate_dst (N := 20) rfl ?_); (try (refine gate_guard (by rfl) ?_; dsimp only)); refine ev_get (x := .tmp 6) rfl rfl rfl H.out.f.2 H.out.f.1.2 ?_) | (go_at_call 16; (with_reducible refine (WriteC.n HW0.out (n := (putL (1 :: l)).length) rfl H.out.f.1.2).mono ?_); rintro en wa1 ⟨Aa, ca, rfl, hz_, hr_, hb_⟩; have n0_ := Aside0.mk ((H.out.on hb_).add (sta_C _ _ _ _) (hr_)); clear H; have H := n0_; clear n0_; have Za := Aside0.mk hz_; clear hb_ hr_ hz_))
  go_upto_region 7 with (first | ((with_reducible refine gate_dst (N := 25) rfl ?_); (try (refine gate_guard (by rfl) ?_; dsimp only)); refine ev_get (x := .tmp 6) rfl rfl rfl H.out.f.1.2 H.out.f.1.1.2 ?_) | (go_at_call 16; (with_reducible refine (WriteC.n HW1.out (n := (putL (1 :: l)).length) rfl H.out.f.1.1.2).mono ?_); rintro en wb1 ⟨Ab, cb, rfl, hz_, hr_, hb_⟩; have n0_ := Aside0.mk ((H.out.on hb_).add (sta_C _ _ _ _) (hr_)); clear H; have H := n0_; clear n0_; have Zb := Aside0.mk hz_; clear hb_ hr_ hz_))
  go_wp2_with (first | (go_at_call 18; (with_reducible refine (same_e (xs := putL (1 :: l)) (putL_bytes _) rfl (n := (putL (1 :: l)).length) (m := (putL (1 :: l)).length) rfl rfl H.out.f.1.2 Za.out H.out.f.2 Zb.out).mono ?_); rintro en we ⟨rfl, hb_⟩; have n0_ := Aside0.mk (H.out.on hb_); clear H; have H := n0_; clear n0_; clear hb_))
  go_ret
  exact ⟨by first | rfl | (simp [same_refl]; done), H.out.b⟩
theorem Echoes_1_0 {l : List Int} {A : Option Addr} {c : Nat} {w : World} (hr : Kd.C (Kd.int .u16) w A l.length l) (hc : l.length ≤ c) (h16 : is16 (1 :: l)) (hl : ¬ 400 < l.length) (w0 : write 0 (mk8 1 l) = (([] : List Int), 1)) (w1 : write 1 (mk8 1 l) = (([] : List Int), 1)) :
    Calls Try.prog 6 #[.int .u16 1, .slice A l.length c] w fun en w' => en = .returned (.bool true) ∧ Below w.heap.size w w' := by
  have H := Aside0.mk (Hd.start w)
  have n0_ := Aside0.mk ((H.out).add (sta_C _ _ _ _) (hr))
  clear H
  have H := n0_
  clear n0_
  have d1 : decide ((l.length : Int) > 400) = false := decide_eq_false (by omega)
  have d2 : decide ((400 : Int) < (l.length : Int)) = false := decide_eq_false (by omega)
  have HW0 := Aside0.mk (show WriteC 16 0 (mk8 1 l) (([] : List Int), 1) from mk8_c h16 (by omega) (w0))
  have HW1 := Aside0.mk (show WriteC 16 1 (mk8 1 l) (([] : List Int), 1) from mk8_c h16 (by omega) (w1))
  have HS := Aside0.mk h16
  have HC := Aside0.mk hc
  clear hr h16 hc w0 w1 hl
  go_enter Try.func6, Try.ntmps6
  go_upto_region 4 with (first | (go_at_call 11; (with_reducible refine (awake_any _).mono ?_); rintro en wa ⟨rfl, hb_⟩; have n0_ := Aside0.mk (H.out.on hb_); clear H; have H := n0_; clear n0_; clear hb_))
  go_upto_region 5 with (first | ((with_reducible refine gate_dst (N := 18) rfl ?_); (try (refine gate_guard (by rfl) ?_; dsimp only)); refine ev_build (((zeroC.setIfInBounds 0 (.int .u8 8)).setIfInBounds 8 (.int .u16 1)).setIfInBounds 12 (.slice A l.length c)) rfl (by first | (go_simp; done) | (go_simp; rfl)) ?_; intro cm hcx_; have mx_ := (show IsMsg _ (((zeroC.setIfInBounds 0 (.int .u8 8)).setIfInBounds 8 (.int .u16 1)).setIfInBounds 12 (.slice A l.length c)) (mk8 1 l) from mk8_is HS.out H.out.f.2 HC.out); rw [← hcx_] at mx_; have n0_ := Aside0.mk ((H.out).add (sta_msg _ _) (mx_)); clear H; have H := n0_; clear n0_; clear hcx_ mx_) | ((with_reducible refine gate_dst (N := 6) rfl ?_); refine ev_var (y := .tmp 18) rfl rfl rfl rfl rfl H.out.f.2 rfl rfl ?_; intro gm wv hg_ h1_ hb_; have n0_ := Aside0.mk ((H.out.on hb_).add (sta_blk _ _) (h1_)); clear H; have H := n0_; clear n0_; clear h1_ hb_ hg_))
  go_upto_region 6 with (first | ((with_reducible refine gate_dst (N := 20) rfl ?_); (try (refine gate_guard (by rfl) ?_; dsimp only)); refine ev_get (x := .tmp 6) rfl rfl rfl H.out.f.2 H.out.f.1.2 ?_) | (go_at_call 16; (with_reducible refine (WriteC.n HW0.out (n := 0) rfl H.out.f.1.2).mono ?_); rintro en wa1 ⟨Aa, ca, rfl, hz_, hr_, hb_⟩; have n0_ := Aside0.mk ((H.out.on hb_).add (sta_C _ _ _ _) (hr_)); clear H; have H := n0_; clear n0_; have Za := Aside0.mk hz_; clear hb_ hr_ hz_))
  go_upto_region 7 with (first | ((with_reducible refine gate_dst (N := 25) rfl ?_); (try (refine gate_guard (by rfl) ?_; dsimp only)); refine ev_get (x := .tmp 6) rfl rfl rfl H.out.f.1.2 H.out.f.1.1.2 ?_) | (go_at_call 16; (with_reducible refine (WriteC.n HW1.out (n := 0) rfl H.out.f.1.1.2).mono ?_); rintro en wb1 ⟨Ab, cb, rfl, hz_, hr_, hb_⟩; have n0_ := Aside0.mk ((H.out.on hb_).add (sta_C _ _ _ _) (hr_)); clear H; have H := n0_; clear n0_; have Zb := Aside0.mk hz_; clear hb_ hr_ hz_))
  go_wp2_with (first | (go_at_call 18; (with_reducible refine (same_e (xs := ([] : List Int)) nilB rfl (n := 0) (m := 0) rfl rfl H.out.f.1.2 Za.out H.out.f.2 Zb.out).mono ?_); rintro en we ⟨rfl, hb_⟩; have n0_ := Aside0.mk (H.out.on hb_); clear H; have H := n0_; clear n0_; clear hb_))
  go_ret
  exact ⟨by first | rfl | (simp [same_refl]; done), H.out.b⟩
theorem Echoes_3_1 {l : List Int} {A : Option Addr} {c : Nat} {w : World} (hr : Kd.C (Kd.int .u16) w A l.length l) (hc : l.length ≤ c) (h16 : is16 (3 :: l)) (hl : ¬ 400 < l.length) (w0 : write 0 (mk8 3 l) = (putL (3 :: l), 0)) (w1 : write 1 (mk8 3 l) = (putL (3 :: l), 0)) :
    Calls Try.prog 6 #[.int .u16 3, .slice A l.length c] w fun en w' => en = .returned (.bool true) ∧ Below w.heap.size w w' := by
  have H := Aside0.mk (Hd.start w)
  have n0_ := Aside0.mk ((H.out).add (sta_C _ _ _ _) (hr))
  clear H
  have H := n0_
  clear n0_
  have d1 : decide ((l.length : Int) > 400) = false := decide_eq_false (by omega)
  have d2 : decide ((400 : Int) < (l.length : Int)) = false := decide_eq_false (by omega)
  have HW0 := Aside0.mk (show WriteC 16 0 (mk8 3 l) (putL (3 :: l), 0) from mk8_c h16 (by omega) (w0))
  have HW1 := Aside0.mk (show WriteC 16 1 (mk8 3 l) (putL (3 :: l), 0) from mk8_c h16 (by omega) (w1))
  have HS := Aside0.mk h16
  have HC := Aside0.mk hc
  clear hr h16 hc w0 w1 hl
  go_enter Try.func6, Try.ntmps6
  go_upto_region 4 with (first | (go_at_call 11; (with_reducible refine (awake_any _).mono ?_); rintro en wa ⟨rfl, hb_⟩; have n0_ := Aside0.mk (H.out.on hb_); clear H; have H := n0_; clear n0_; clear hb_))
  go_upto_region 5 with (first | ((with_reducible refine gate_dst (N := 18) rfl ?_); (try (refine gate_guard (by rfl) ?_; dsimp only)); refine ev_build (((zeroC.setIfInBounds 0 (.int .u8 8)).setIfInBounds 8 (.int .u16 3)).setIfInBounds 12 (.slice A l.length c)) rfl (by first | (go_simp; done) | (go_simp; rfl)) ?_; intro cm hcx_; have mx_ := (show IsMsg _ (((zeroC.setIfInBounds 0 (.int .u8 8)).setIfInBounds 8 (.int .u16 3)).setIfInBounds 12 (.slice A l.length c)) (mk8 3 l) from mk8_is HS.out H.out.f.2 HC.out); rw [← hcx_] at mx_; have n0_ := Aside0.mk ((H.out).add (sta_msg _ _) (mx_)); clear H; have H := n0_; clear n0_; clear hcx_ mx_) | ((with_reducible refine gate_dst (N := 6) rfl ?_); refine ev_var (y := .tmp 18) rfl rfl rfl rfl rfl H.out.f.2 rfl rfl ?_; intro gm wv hg_ h1_ hb_; have n0_ := Aside0.mk ((H.out.on hb_).add (sta_blk _ _) (h1_)); clear H; have H := n0_; clear n0_; clear h1_ hb_ hg_))
  go_upto_region 6 with (first | ((with_reducible refine gate_dst (N := 20) rfl ?_); (try (refine gate_guard (by rfl) ?_; dsimp only)); refine ev_get (x := .tmp 6) rfl rfl rfl H.out.f.2 H.out.f.1.2 ?_) | (go_at_call 16; (with_reducible refine (WriteC.n HW0.out (n := (putL (3 :: l)).length) rfl H.out.f.1.2).mono ?_); rintro en wa1 ⟨Aa, ca, rfl, hz_, hr_, hb_⟩; have n0_ := Aside0.mk ((H.out.on hb_).add (sta_C _ _ _ _) (hr_)); clear H; have H := n0_; clear n0_; have Za := Aside0.mk hz_; clear hb_ hr_ hz_))
  go_upto_region 7 with (first | ((with_reducible refine gate_dst (N := 25) rfl ?_); (try (refine gate_guard (by rfl) ?_; dsimp only)); refine ev_get (x := .tmp 6) rfl rfl rfl H.out.f.1.2 H.out.f.1.1.2 ?_) | (go_at_call 16; (with_reducible refine (WriteC.n HW1.out (n := (putL (3 :: l)).length) rfl H.out.f.1.1.2).mono ?_); rintro en wb1 ⟨Ab, cb, rfl, hz_, hr_, hb_⟩; have n0_ := Aside0.mk ((H.out.on hb_).add (sta_C _ _ _ _) (hr_)); clear H; have H := n0_; clear n0_; have Zb := Aside0.mk hz_; clear hb_ hr_ hz_))
  go_wp2_with (first | (go_at_call 18; (with_reducible refine (same_e (xs := putL (3 :: l)) (putL_bytes _) rfl (n := (putL (3 :: l)).length) (m := (putL (3 :: l)).length) rfl rfl H.out.f.1.2 Za.out H.out.f.2 Zb.out).mono ?_); rintro en we ⟨rfl, hb_⟩; have n0_ := Aside0.mk (H.out.on hb_); clear H; have H := n0_; clear n0_; clear hb_))
  go_ret
  exact ⟨by first | rfl | (simp [same_refl]; done), H.out.b⟩
theorem Echoes_3_0 {l : List Int} {A : Option Addr} {c : Nat} {w : World} (hr : Kd.C (Kd.int .u16) w A l.length l) (hc : l.length ≤ c) (h16 : is16 (3 :: l)) (hl : ¬ 400 < l.length) (w0 : write 0 (mk8 3 l) = (([] : List Int), 1)) (w1 : write 1 (mk8 3 l) = (([] : List Int), 1)) :
    Calls Try.prog 6 #[.int .u16 3, .slice A l.length c] w fun en w' => en = .returned (.bool true) ∧ Below w.heap.size w w' := by
  have H := Aside0.mk (Hd.start w)
  have n0_ := Aside0.mk ((H.out).add (sta_C _ _ _ _) (hr))
  clear H
  have H := n0_
  clear n0_
  have d1 : decide ((l.length : Int) > 400) = false := decide_eq_false (by omega)
  have d2 : decide ((400 : Int) < (l.length : Int)) = false := decide_eq_false (by omega)
  have HW0 := Aside0.mk (show WriteC 16 0 (mk8 3 l) (([] : List Int), 1) from mk8_c h16 (by omega) (w0))
  have HW1 := Aside0.mk (show WriteC 16 1 (mk8 3 l) (([] : List Int), 1) from mk8_c h16 (by omega) (w1))
  have HS := Aside0.mk h16
  have HC := Aside0.mk hc
  clear hr h16 hc w0 w1 hl
  go_enter Try.func6, Try.ntmps6
  go_upto_region 4 with (first | (go_at_call 11; (with_reducible refine (awake_any _).mono ?_); rintro en wa ⟨rfl, hb_⟩; have n0_ := Aside0.mk (H.out.on hb_); clear H; have H := n0_; clear n0_; clear hb_))
  go_upto_region 5 with (first | ((with_reducible refine gate_dst (N := 18) rfl ?_); (try (refine gate_guard (by rfl) ?_; dsimp only)); refine ev_build (((zeroC.setIfInBounds 0 (.int .u8 8)).setIfInBounds 8 (.int .u16 3)).setIfInBounds 12 (.slice A l.length c)) rfl (by first | (go_simp; done) | (go_simp; rfl)) ?_; intro cm hcx_; have mx_ := (show IsMsg _ (((zeroC.setIfInBounds 0 (.int .u8 8)).setIfInBounds 8 (.int .u16 3)).setIfInBounds 12 (.slice A l.length c)) (mk8 3 l) from mk8_is HS.out H.out.f.2 HC.out); rw [← hcx_] at mx_; have n0_ := Aside0.mk ((H.out).add (sta_msg _ _) (mx_)); clear H; have H := n0_; clear n0_; clear hcx_ mx_) | ((with_reducible refine gate_dst (N := 6) rfl ?_); refine ev_var (y := .tmp 18) rfl rfl rfl rfl rfl H.out.f.2 rfl rfl ?_; intro gm wv hg_ h1_ hb_; have n0_ := Aside0.mk ((H.out.on hb_).add (sta_blk _ _) (h1_)); clear H; have H := n0_; clear n0_; clear h1_ hb_ hg_))
  go_upto_region 6 with (first | ((with_reducible refine gate_dst (N := 20) rfl ?_); (try (refine gate_guard (by rfl) ?_; dsimp only)); refine ev_get (x := .tmp 6) rfl rfl rfl H.out.f.2 H.out.f.1.2 ?_) | (go_at_call 16; (with_reducible refine (WriteC.n HW0.out (n := 0) rfl H.out.f.1.2).mono ?_); rintro en wa1 ⟨Aa, ca, rfl, hz_, hr_, hb_⟩; have n0_ := Aside0.mk ((H.out.on hb_).add (sta_C _ _ _ _) (hr_)); clear H; have H := n0_; clear n0_; have Za := Aside0.mk hz_; clear hb_ hr_ hz_))
  go_upto_region 7 with (first | ((with_reducible refine gate_dst (N := 25) rfl ?_); (try (refine gate_guard (by rfl) ?_; dsimp only)); refine ev_get (x := .tmp 6) rfl rfl rfl H.out.f.1.2 H.out.f.1.1.2 ?_) | (go_at_call 16; (with_reducible refine (WriteC.n HW1.out (n := 0) rfl H.out.f.1.1.2).mono ?_); rintro en wb1 ⟨Ab, cb, rfl, hz_, hr_, hb_⟩; have n0_ := Aside0.mk ((H.out.on hb_).add (sta_C _ _ _ _) (hr_)); clear H; have H := n0_; clear n0_; have Zb := Aside0.mk hz_; clear hb_ hr_ hz_))
  go_wp2_with (first | (go_at_call 18; (with_reducible refine (same_e (xs := ([] : List Int)) nilB rfl (n := 0) (m := 0) rfl rfl H.out.f.1.2 Za.out H.out.f.2 Zb.out).mono ?_); rintro en we ⟨rfl, hb_⟩; have n0_ := Aside0.mk (H.out.on hb_); clear H; have H := n0_; clear n0_; clear hb_))
  go_ret
  exact ⟨by first | rfl | (simp [same_refl]; done), H.out.b⟩
theorem Echoes_10_1 {l : List Int} {A : Option Addr} {c : Nat} {w : World} (hr : Kd.C (Kd.int .u16) w A l.length l) (hc : l.length ≤ c) (h16 : is16 (10 :: l)) (hl : ¬ 400 < l.length) (w0 : write 0 (mk8 10 l) = (putL (10 :: l), 0)) (w1 : write 1 (mk8 10 l) = (putL (10 :: l), 0)) :
    Calls Try.prog 6 #[.int .u16 10, .slice A l.length c] w fun en w' => en = .returned (.bool true) ∧ Below w.heap.size w w' := by
  have H := Aside0.mk (Hd.start w)
  have n0_ := Aside0.mk ((H.out).add (sta_C _ _ _ _) (hr))
  clear H
  have H := n0_
  clear n0_
  have d1 : decide ((l.length : Int) > 400) = false := decide_eq_false (by omega)
  have d2 : decide ((400 : Int) < (l.length : Int)) = false := decide_eq_false (by omega)
  have HW0 := Aside0.mk (show WriteC 16 0 (mk8 10 l) (putL (10 :: l), 0) from mk8_c h16 (by omega) (w0))
  have HW1 := Aside0.mk (show WriteC 16 1 (mk8 10 l) (putL (10 :: l), 0) from mk8_c h16 (by omega) (w1))
  have HS := Aside0.mk h16
  have HC := Aside0.mk hc
  clear hr h16 hc w0 w1 hl
  go_enter Try.func6, Try.ntmps6
  go_upto_region 4 with (first | (go_at_call 11; (with_reducible refine (awake_any _).mono ?_); rintro en wa ⟨rfl, hb_⟩; have n0_ := Aside0.mk (H.out.on hb_); clear H; have H := n0_; clear n0_; clear hb_))
  go_upto_region 5 with (first | ((with_reducible refine gate_dst (N := 18) rfl ?_); (try (refine gate_guard (by rfl) ?_; dsimp only)); refine ev_build (((zeroC.setIfInBounds 0 (.int .u8 8)).setIfInBounds 8 (.int .u16 10)).setIfInBounds 12 (.slice A l.length c)) rfl (by first | (go_simp; done) | (go_simp; rfl)) ?_; intro cm hcx_; have mx_ := (show IsMsg _ (((zeroC.setIfInBounds 0 (.int .u8 8)).setIfInBounds 8 (.int .u16 10)).setIfInBounds 12 (.slice A l.length c)) (mk8 10 l) from mk8_is HS.out H.out.f.2 HC.out); rw [← hcx_] at mx_; have n0_ := Aside0.mk ((H.out).add (sta_msg _ _) (mx_)); clear H; have H := n0_; clear n0_; clear hcx_ mx_) | ((with_reducible refine gate_dst (N := 6) rfl ?_); refine ev_var (y := .tmp 18) rfl rfl rfl rfl rfl H.out.f.2 rfl rfl ?_; intro gm wv hg_ h1_ hb_; have n0_ := Aside0.mk ((H.out.on hb_).add (sta_blk _ _) (h1_)); clear H; have H := n0_; clear n0_; clear h1_ hb_ hg_))
  go_upto_region 6 with (first | ((with_reducible refine gate_dst (N := 20) rfl ?_); (try (refine gate_guard (by rfl) ?_; dsimp only)); refine ev_get (x := .tmp 6) rfl rfl rfl H.out.f.2 H.out.f.1.2 ?_) | (go_at_call 16; (with_reducible refine (WriteC.n HW0.out (n := (putL (10 :: l)).length) rfl H.out.f.1.2).mono ?_); rintro en wa1 ⟨Aa, ca, rfl, hz_, hr_, hb_⟩; have n0_ := Aside0.mk ((H.out.on hb_).add (sta_C _ _ _ _) (hr_)); clear H; have H := n0_; clear n0_; have Za := Aside0.mk hz_; clear hb_ hr_ hz_))
  go_upto_region 7 with (first | ((with_reducible refine gate_dst (N := 25) rfl ?_); (try (refine gate_guard (by rfl) ?_; dsimp only)); refine ev_get (x := .tmp 6) rfl rfl rfl H.out.f.1.2 H.out.f.1.1.2 ?_) | (go_at_call 16; (with_reducible refine (WriteC.n HW1.out (n := (putL (10 :: l)).length) rfl H.out.f.1.1.2).mono ?_); rintro en wb1 ⟨Ab, cb, rfl, hz_, hr_, hb_⟩; have n0_ := Aside0.mk ((H.out.on hb_).add (sta_C _ _ _ _) (hr_)); clear H; have H := n0_; clear n0_; have Zb := Aside0.mk hz_; clear hb_ hr_ hz_))
  go_wp2_with (first | (go_at_call 18; (with_reducible refine (same_e (xs := putL (10 :: l)) (putL_bytes _) rfl (n := (putL (10 :: l)).length) (m := (putL (10 :: l)).length) rfl rfl H.out.f.1.2 Za.out H.out.f.2 Zb.out).mono ?_); rintro en we ⟨rfl, hb_⟩; have n0_ := Aside0.mk (H.out.on hb_); clear H; have H := n0_; clear n0_; clear hb_))
  go_ret
  exact ⟨by first | rfl | (simp [same_refl]; done), H.out.b⟩
theorem Echoes_10_0 {l : List Int} {A : Option Addr} {c : Nat} {w : World} (hr : Kd.C (Kd.int .u16) w A l.length l) (hc : l.length ≤ c) (h16 : is16 (10 :: l)) (hl : ¬ 400 < l.length) (w0 : write 0 (mk8 10 l) = (([] : List Int), 1)) (w1 : write 1 (mk8 10 l) = (([] : List Int), 1)) :
    Calls Try.prog 6 #[.int .u16 10, .slice A l.length c] w fun en w' => en = .returned (.bool true) ∧ Below w.heap.size w w' := by
  have H := Aside0.mk (Hd.start w)
  have n0_ := Aside0.mk ((H.out).add (sta_C _ _ _ _) (hr))
  clear H
  have H := n0_
  clear n0_
  have d1 : decide ((l.length : Int) > 400) = false := decide_eq_false (by omega)
  have d2 : decide ((400 : Int) < (l.length : Int)) = false := decide_eq_false (by omega)
  have HW0 := Aside0.mk (show WriteC 16 0 (mk8 10 l) (([] : List Int), 1) from mk8_c h16 (by omega) (w0))
  have HW1 := Aside0.mk (show WriteC 16 1 (mk8 10 l) (([] : List Int), 1) from mk8_c h16 (by omega) (w1))
  have HS := Aside0.mk h16
  have HC := Aside0.mk hc
  clear hr h16 hc w0 w1 hl
  go_enter Try.func6, Try.ntmps6
  go_upto_region 4 with (first | (go_at_call 11; (with_reducible refine (awake_any _).mono ?_); rintro en wa ⟨rfl, hb_⟩; have n0_ := Aside0.mk (H.out.on hb_); clear H; have H := n0_; clear n0_; clear hb_))
  go_upto_region 5 with (first | ((with_reducible refine gate_dst (N := 18) rfl ?_); (try (refine gate_guard (by rfl) ?_; dsimp only)); refine ev_build (((zeroC.setIfInBounds 0 (.int .u8 8)).setIfInBounds 8 (.int .u16 10)).setIfInBounds 12 (.slice A l.length c)) rfl (by first | (go_simp; done) | (go_simp; rfl)) ?_; intro cm hcx_; have mx_ := (show IsMsg _ (((zeroC.setIfInBounds 0 (.int .u8 8)).setIfInBounds 8 (.int .u16 10)).setIfInBounds 12 (.slice A l.length c)) (mk8 10 l) from mk8_is HS.out H.out.f.2 HC.out); rw [← hcx_] at mx_; have n0_ := Aside0.mk ((H.out).add (sta_msg _ _) (mx_)); clear H; have H := n0_; clear n0_; clear hcx_ mx_) | ((with_reducible refine gate_dst (N := 6) rfl ?_); refine ev_var (y := .tmp 18) rfl rfl rfl rfl rfl H.out.f.2 rfl rfl ?_; intro gm wv hg_ h1_ hb_; have n0_ := Aside0.mk ((H.out.on hb_).add (sta_blk _ _) (h1_)); clear H; have H := n0_; clear n0_; clear h1_ hb_ hg_))
  go_upto_region 6 with (first | ((with_reducible refine gate_dst (N := 20) rfl ?_); (try (refine gate_guard (by rfl) ?_; dsimp only)); refine ev_get (x := .tmp 6) rfl rfl rfl H.out.f.2 H.out.f.1.2 ?_) | (go_at_call 16; (with_reducible refine (WriteC.n HW0.out (n := 0) rfl H.out.f.1.2).mono ?_); rintro en wa1 ⟨Aa, ca, rfl, hz_, hr_, hb_⟩; have n0_ := Aside0.mk ((H.out.on hb_).add (sta_C _ _ _ _) (hr_)); clear H; have H := n0_; clear n0_; have Za := Aside0.mk hz_; clear hb_ hr_ hz_))
  go_upto_region 7 with (first | ((with_reducible refine gate_dst (N := 25) rfl ?_); (try (refine gate_guard (by rfl) ?_; dsimp only)); refine ev_get (x := .tmp 6) rfl rfl rfl H.out.f.1.2 H.out.f.1.1.2 ?_) | (go_at_call 16; (with_reducible refine (WriteC.n HW1.out (n := 0) rfl H.out.f.1.1.2).mono ?_); rintro en wb1 ⟨Ab, cb, rfl, hz_, hr_, hb_⟩; have n0_ := Aside0.mk ((H.out.on hb_).add (sta_C _ _ _ _) (hr_)); clear H; have H := n0_; clear n0_; have Zb := Aside0.mk hz_; clear hb_ hr_ hz_))
  go_wp2_with (first | (go_at_call 18; (with_reducible refine (same_e (xs := ([] : List Int)) nilB rfl (n := 0) (m := 0) rfl rfl H.out.f.1.2 Za.out H.out.f.2 Zb.out).mono ?_); rintro en we ⟨rfl, hb_⟩; have n0_ := Aside0.mk (H.out.on hb_); clear H; have H := n0_; clear n0_; clear hb_))
  go_ret
  exact ⟨by first | rfl | (simp [same_refl]; done), H.out.b⟩
theorem Echoes_20_1 {l : List Int} {A : Option Addr} {c : Nat} {w : World} (hr : Kd.C (Kd.int .u16) w A l.length l) (hc : l.length ≤ c) (h16 : is16 (20 :: l)) (hl : ¬ 400 < l.length) (w0 : write 0 (mk8 20 l) = (putL (20 :: l), 0)) (w1 : write 1 (mk8 20 l) = (putL (20 :: l), 0)) :
    Calls Try.prog 6 #[.int .u16 20, .slice A l.length c] w fun en w' => en = .returned (.bool true) ∧ Below w.heap.size w w' := by
  have H := Aside0.mk (Hd.start w)
  have n0_ := Aside0.mk ((H.out).add (sta_C _ _ _ _) (hr))
  clear H
  have H := n0_
  clear n0_
  have d1 : decide ((l.length : Int) > 400) = false := decide_eq_false (by omega)
  have d2 : decide ((400 : Int) < (l.length : Int)) = false := decide_eq_false (by omega)
  have HW0 := Aside0.mk (show WriteC 16 0 (mk8 20 l) (putL (20 :: l), 0) from mk8_c h16 (by omega) (w0))
  have HW1 := Aside0.mk (show WriteC 16 1 (mk8 20 l) (putL (20 :: l), 0) from mk8_c h16 (by omega) (w1))
  have HS := Aside0.mk h16
  have HC := Aside0.mk hc
  clear hr h16 hc w0 w1 hl
  go_enter Try.func6, Try.ntmps6
  go_upto_region 4 with (first | (go_at_call 11; (with_reducible refine (awake_any _).mono ?_); rintro en wa ⟨rfl, hb_⟩; have n0_ := Aside0.mk (H.out.on hb_); clear H; have H := n0_; clear n0_; clear hb_))
  go_upto_region 5 with (first | ((with_reducible refine gate_dst (N := 18) rfl ?_); (try (refine gate_guard (by rfl) ?_; dsimp only)); refine ev_build (((zeroC.setIfInBounds 0 (.int .u8 8)).setIfInBounds 8 (.int .u16 20)).setIfInBounds 12 (.slice A l.length c)) rfl (by first | (go_simp; done) | (go_simp; rfl)) ?_; intro cm hcx_; have mx_ := (show IsMsg _ (((zeroC.setIfInBounds 0 (.int .u8 8)).setIfInBounds 8 (.int .u16 20)).setIfInBounds 12 (.slice A l.length c)) (mk8 20 l) from mk8_is HS.out H.out.f.2 HC.out); rw [← hcx_] at mx_; have n0_ := Aside0.mk ((H.out).add (sta_msg _ _) (mx_)); clear H; have H := n0_; clear n0_; clear hcx_ mx_) | ((with_reducible refine gate_dst (N := 6) rfl ?_); refine ev_var (y := .tmp 18) rfl rfl rfl rfl rfl H.out.f.2 rfl rfl ?_; intro gm wv hg_ h1_ hb_; have n0_ := Aside0.mk ((H.out.on hb_).add (sta_blk _ _) (h1_)); clear H; have H := n0_; clear n0_; clear h1_ hb_ hg_))
  go_upto_region 6 with (first | ((with_reducible refine gate_dst (N := 20) rfl ?_); (try (refine gate_guard (by rfl) ?_; dsimp only)); refine ev_get (x := .tmp 6) rfl rfl rfl H.out.f.2 H.out.f.1.2 ?_) | (go_at_call 16; (with_reducible refine (WriteC.n HW0.out (n := (putL (20 :: l)).length) rfl H.out.f.1.2).mono ?_); rintro en wa1 ⟨Aa, ca, rfl, hz_, hr_, hb_⟩; have n0_ := Aside0.mk ((H.out.on hb_).add (sta_C _ _ _ _) (hr_)); clear H; have H := n0_; clear n0_; have Za := Aside0.mk hz_; clear hb_ hr_ hz_))
  go_upto_region 7 with (first | ((with_reducible refine gate_dst (N := 25) rfl ?_); (try (refine gate_guard (by rfl) ?_; dsimp only)); refine ev_get (x := .tmp 6) rfl rfl rfl H.out.f.1.2 H.out.f.1.1.2 ?_) | (go_at_call 16; (with_reducible refine (WriteC.n HW1.out (n := (putL (20 :: l)).length) rfl H.out.f.1.1.2).mono ?_); rintro en wb1 ⟨Ab, cb, rfl, hz_, hr_, hb_⟩; have n0_ := Aside0.mk ((H.out.on hb_).add (sta_C _ _ _ _) (hr_)); clear H; have H := n0_; clear n0_; have Zb := Aside0.mk hz_; clear hb_ hr_ hz_))
  go_wp2_with (first | (go_at_call 18; (with_reducible refine (same_e (xs := putL (20 :: l)) (putL_bytes _) rfl (n := (putL (20 :: l)).length) (m := (putL (20 :: l)).length) rfl rfl H.out.f.1.2 Za.out H.out.f.2 Zb.out).mono ?_); rintro en we ⟨rfl, hb_⟩; have n0_ := Aside0.mk (H.out.on hb_); clear H; have H := n0_; clear n0_; clear hb_))
  go_ret
  exact ⟨by first | rfl | (simp [same_refl]; done), H.out.b⟩
theorem Echoes_20_0 {l : List Int} {A : Option Addr} {c : Nat} {w : World} (hr : Kd.C (Kd.int .u16) w A l.length l) (hc : l.length ≤ c) (h16 : is16 (20 :: l)) (hl : ¬ 400 < l.length) (w0 : write 0 (mk8 20 l) = (([] : List Int), 1)) (w1 : write 1 (mk8 20 l) = (([] : List Int), 1)) :
    Calls Try.prog 6 #[.int .u16 20, .slice A l.length c] w fun en w' => en = .returned (.bool true) ∧ Below w.heap.size w w' := by
  have H := Aside0.mk (Hd.start w)
  have n0_ := Aside0.mk ((H.out).add (sta_C _ _ _ _) (hr))
  clear H
  have H := n0_
  clear n0_
  have d1 : decide ((l.length : Int) > 400) = false := decide_eq_false (by omega)
  have d2 : decide ((400 : Int) < (l.length : Int)) = false := decide_eq_false (by omega)
  have HW0 := Aside0.mk (show WriteC 16 0 (mk8 20 l) (([] : List Int), 1) from mk8_c h16 (by omega) (w0))
  have HW1 := Aside0.mk (show WriteC 16 1 (mk8 20 l) (([] : List Int), 1) from mk8_c h16 (by omega) (w1))
  have HS := Aside0.mk h16
  have HC := Aside0.mk hc
  clear hr h16 hc w0 w1 hl
  go_enter Try.func6, Try.ntmps6
  go_upto_region 4 with (first | (go_at_call 11; (with_reducible refine (awake_any _).mono ?_); rintro en wa ⟨rfl, hb_⟩; have n0_ := Aside0.mk (H.out.on hb_); clear H; have H := n0_; clear n0_; clear hb_))
  go_upto_region 5 with (first | ((with_reducible refine gate_dst (N := 18) rfl ?_); (try (refine gate_guard (by rfl) ?_; dsimp only)); refine ev_build (((zeroC.setIfInBounds 0 (.int .u8 8)).setIfInBounds 8 (.int .u16 20)).setIfInBounds 12 (.slice A l.length c)) rfl (by first | (go_simp; done) | (go_simp; rfl)) ?_; intro cm hcx_; have mx_ := (show IsMsg _ (((zeroC.setIfInBounds 0 (.int .u8 8)).setIfInBounds 8 (.int .u16 20)).setIfInBounds 12 (.slice A l.length c)) (mk8 20 l) from mk8_is HS.out H.out.f.2 HC.out); rw [← hcx_] at mx_; have n0_ := Aside0.mk ((H.out).add (sta_msg _ _) (mx_)); clear H; have H := n0_; clear n0_; clear hcx_ mx_) | ((with_reducible refine gate_dst (N := 6) rfl ?_); refine ev_var (y := .tmp 18) rfl rfl rfl rfl rfl H.out.f.2 rfl rfl ?_; intro gm wv hg_ h1_ hb_; have n0_ := Aside0.mk ((H.out.on hb_).add (sta_blk _ _) (h1_)); clear H; have H := n0_; clear n0_; clear h1_ hb_ hg_))
  go_upto_region 6 with (first | ((with_reducible refine gate_dst (N := 20) rfl ?_); (try (refine gate_guard (by rfl) ?_; dsimp only)); refine ev_get (x := .tmp 6) rfl rfl rfl H.out.f.2 H.out.f.1.2 ?_) | (go_at_call 16; (with_reducible refine (WriteC.n HW0.out (n := 0) rfl H.out.f.1.2).mono ?_); rintro en wa1 ⟨Aa, ca, rfl, hz_, hr_, hb_⟩; have n0_ := Aside0.mk ((H.out.on hb_).add (sta_C _ _ _ _) (hr_)); clear H; have H := n0_; clear n0_; have Za := Aside0.mk hz_; clear hb_ hr_ hz_))
  go_upto_region 7 with (first | ((with_reducible refine gate_dst (N := 25) rfl ?_); (try (refine gate_guard (by rfl) ?_; dsimp only)); refine ev_get (x := .tmp 6) rfl rfl rfl H.out.f.1.2 H.out.f.1.1.2 ?_) | (go_at_call 16; (with_reducible refine (WriteC.n HW1.out (n := 0) rfl H.out.f.1.1.2).mono ?_); rintro en wb1 ⟨Ab, cb, rfl, hz_, hr_, hb_⟩; have n0_ := Aside0.mk ((H.out.on hb_).add (sta_C _ _ _ _) (hr_)); clear H; have H := n0_; clear n0_; have Zb := Aside0.mk hz_; clear hb_ hr_ hz_))
  go_wp2_with (first | (go_at_call 18; (with_reducible refine (same_e (xs := ([] : List Int)) nilB rfl (n := 0) (m := 0) rfl rfl H.out.f.1.2 Za.out H.out.f.2 Zb.out).mono ?_); rintro en we ⟨rfl, hb_⟩; have n0_ := Aside0.mk (H.out.on hb_); clear H; have H := n0_; clear n0_; clear hb_))
  go_ret
  exact ⟨by first | rfl | (simp [same_refl]; done), H.out.b⟩
theorem Echoes_4 {l : List Int} {A : Option Addr} {c : Nat} {w : World} (hr : Kd.C (Kd.int .u16) w A l.length l) (hc : l.length ≤ c) {R0 : List Int × Int} (h16 : is16 (4 :: l)) (hl : ¬ 400 < l.length) (w0 : write 0 (mk8 4 l) = R0) (w1 : write 1 (mk8 4 l) = (([] : List Int), 1)) :
    Calls Try.prog 6 #[.int .u16 4, .slice A l.length c] w fun en w' => en = .returned (.bool true) ∧ Below w.heap.size w w' := by
  have H := Aside0.mk (Hd.start w)
  have n0_ := Aside0.mk ((H.out).add (sta_C _ _ _ _) (hr))
  clear H
  have H := n0_
  clear n0_
  have d1 : decide ((l.length : Int) > 400) = false := decide_eq_false (by omega)
  have d2 : decide ((400 : Int) < (l.length : Int)) = false := decide_eq_false (by omega)
  have HW0 := Aside0.mk (show WriteC 16 0 (mk8 4 l) R0 from mk8_c h16 (by omega) (w0))
  have HW1 := Aside0.mk (show WriteC 16 1 (mk8 4 l) (([] : List Int), 1) from mk8_c h16 (by omega) (w1))
  have HS := Aside0.mk h16
  have HC := Aside0.mk hc
  clear hr h16 hc w0 w1 hl
  go_enter Try.func6, Try.ntmps6
  go_upto_region 4 with (first | (go_at_call 11; (with_reducible refine (awake_any _).mono ?_); rintro en wa ⟨rfl, hb_⟩; have n0_ := Aside0.mk (H.out.on hb_); clear H; have H := n0_; clear n0_; clear hb_))
  go_upto_region 5 with (first | ((with_reducible refine gate_dst (N := 18) rfl ?_); (try (refine gate_guard (by rfl) ?_; dsimp only)); refine ev_build (((zeroC.setIfInBounds 0 (.int .u8 8)).setIfInBounds 8 (.int .u16 4)).setIfInBounds 12 (.slice A l.length c)) rfl (by first | (go_simp; done) | (go_simp; rfl)) ?_; intro cm hcx_; have mx_ := (show IsMsg _ (((zeroC.setIfInBounds 0 (.int .u8 8)).setIfInBounds 8 (.int .u16 4)).setIfInBounds 12 (.slice A l.length c)) (mk8 4 l) from mk8_is HS.out H.out.f.2 HC.out); rw [← hcx_] at mx_; have n0_ := Aside0.mk ((H.out).add (sta_msg _ _) (mx_)); clear H; have H := n0_; clear n0_; clear hcx_ mx_) | ((with_reducible refine gate_dst (N := 6) rfl ?_); refine ev_var (y := .tmp 18) rfl rfl rfl rfl rfl H.out.f.2 rfl rfl ?_; intro gm wv hg_ h1_ hb_; have n0_ := Aside0.mk ((H.out.on hb_).add (sta_blk _ _) (h1_)); clear H; have H := n0_; clear n0_; clear h1_ hb_ hg_))
  go_upto_region 6 with (first | ((with_reducible refine gate_dst (N := 20) rfl ?_); (try (refine gate_guard (by rfl) ?_; dsimp only)); refine ev_get (x := .tmp 6) rfl rfl rfl H.out.f.2 H.out.f.1.2 ?_) | (go_at_call 16; (with_reducible refine (WriteC.c HW0.out H.out.f.1.2).mono ?_); rintro en wa1 ⟨Aa, ca, rfl, hz_, hr_, hb_⟩; have n0_ := Aside0.mk ((H.out.on hb_).add (sta_C _ _ _ _) (hr_)); clear H; have H := n0_; clear n0_; have Za := Aside0.mk hz_; clear hb_ hr_ hz_))
  go_upto_region 7 with (first | ((with_reducible refine gate_dst (N := 25) rfl ?_); (try (refine gate_guard (by rfl) ?_; dsimp only)); refine ev_get (x := .tmp 6) rfl rfl rfl H.out.f.1.2 H.out.f.1.1.2 ?_) | (go_at_call 16; (with_reducible refine (WriteC.n HW1.out (n := 0) rfl H.out.f.1.1.2).mono ?_); rintro en wb1 ⟨Ab, cb, rfl, hz_, hr_, hb_⟩; have n0_ := Aside0.mk ((H.out.on hb_).add (sta_C _ _ _ _) (hr_)); clear H; have H := n0_; clear n0_; have Zb := Aside0.mk hz_; clear hb_ hr_ hz_))
  go_wp2
  go_ret
  exact ⟨by first | rfl | (simp [same_refl]; done), H.out.b⟩
theorem Echoes_s_1 {l : List Int} {A : Option Addr} {c : Nat} {w : World} (hr : Kd.C (Kd.int .u16) w A l.length l) (hc : l.length ≤ c) {s : Int} (h16 : is16 (s :: l)) (hl : ¬ 400 < l.length) (w0 : write 0 (mk8 s l) = (putL (s :: l), 0)) (w1 : write 1 (mk8 s l) = (putL (s :: l), 0)) (hn : s ≠ 0 ∧ s ≠ 1 ∧ s ≠ 3 ∧ s ≠ 10 ∧ s ≠ 20 ∧ s ≠ 4) :
    Calls Try.prog 6 #[.int .u16 s, .slice A l.length c] w fun en w' => en = .returned (.bool true) ∧ Below w.heap.size w w' := by
  have H := Aside0.mk (Hd.start w)
  have n0_ := Aside0.mk ((H.out).add (sta_C _ _ _ _) (hr))
  clear H
  have H := n0_
  clear n0_
  have d1 : decide ((l.length : Int) > 400) = false := decide_eq_false (by omega)
  have d2 : decide ((400 : Int) < (l.length : Int)) = false := decide_eq_false (by omega)
  have e0 : (s == 0) = false := beq_eq_false_iff_ne.2 (by omega)
  have e1 : (s == 1) = false := beq_eq_false_iff_ne.2 (by omega)
  have e3 : (s == 3) = false := beq_eq_false_iff_ne.2 (by omega)
  have e10 : (s == 10) = false := beq_eq_false_iff_ne.2 (by omega)
  have e20 : (s == 20) = false := beq_eq_false_iff_ne.2 (by omega)
  have e4 : (s == 4) = false := beq_eq_false_iff_ne.2 (by omega)
  clear hn
  have HW0 := Aside0.mk (show WriteC 16 0 (mk8 s l) (putL (s :: l), 0) from mk8_c h16 (by omega) (w0))
  have HW1 := Aside0.mk (show WriteC 16 1 (mk8 s l) (putL (s :: l), 0) from mk8_c h16 (by omega) (w1))
  have HS := Aside0.mk h16
  have HC := Aside0.mk hc
  clear hr h16 hc w0 w1 hl
  go_enter Try.func6, Try.ntmps6
  go_upto_region 4 with (first | (go_at_call 11; (with_reducible refine (awake_any _).mono ?_); rintro en wa ⟨rfl, hb_⟩; have n0_ := Aside0.mk (H.out.on hb_); clear H; have H := n0_; clear n0_; clear hb_))
  go_upto_region 5 with (first | ((with_reducible refine gate_dst (N := 18) rfl ?_); (try (refine gate_guard (by rfl) ?_; dsimp only)); refine ev_build (((zeroC.setIfInBounds 0 (.int .u8 8)).setIfInBounds 8 (.int .u16 s)).setIfInBounds 12 (.slice A l.length c)) rfl (by first | (go_simp; done) | (go_simp; rfl)) ?_; intro cm hcx_; have mx_ := (show IsMsg _ (((zeroC.setIfInBounds 0 (.int .u8 8)).setIfInBounds 8 (.int .u16 s)).setIfInBounds 12 (.slice A l.length c)) (mk8 s l) from mk8_is HS.out H.out.f.2 HC.out); rw [← hcx_] at mx_; have n0_ := Aside0.mk ((H.out).add (sta_msg _ _) (mx_)); clear H; have H := n0_; clear n0_; clear hcx_ mx_) | ((with_reducible refine gate_dst (N := 6) rfl ?_); refine ev_var (y := .tmp 18) rfl rfl rfl rfl rfl H.out.f.2 rfl rfl ?_; intro gm wv hg_ h1_ hb_; have n0_ := Aside0.mk ((H.out.on hb_).add (sta_blk _ _) (h1_)); clear H; have H := n0_; clear n0_; clear h1_ hb_ hg_))
  go_upto_region 6 with (first | ((with_reducible refine gate_dst (N := 20) rfl ?_); (try (refine gate_guard (by rfl) ?_; dsimp only)); refine ev_get (x := .tmp 6) rfl rfl rfl H.out.f.2 H.out.f.1.2 ?_) | (go_at_call 16; (with_reducible refine (WriteC.n HW0.out (n := (putL (s :: l)).length) rfl H.out.f.1.2).mono ?_); rintro en wa1 ⟨Aa, ca, rfl, hz_, hr_, hb_⟩; have n0_ := Aside0.mk ((H.out.on hb_).add (sta_C _ _ _ _) (hr_)); clear H; have H := n0_; clear n0_; have Za := Aside0.mk hz_; clear hb_ hr_ hz_))
  go_upto_region 7 with (first | ((with_reducible refine gate_dst (N := 25) rfl ?_); (try (refine gate_guard (by rfl) ?_; dsimp only)); refine ev_get (x := .tmp 6) rfl rfl rfl H.out.f.1.2 H.out.f.1.1.2 ?_) | (go_at_call 16; (with_reducible refine (WriteC.n HW1.out (n := (putL (s :: l)).length) rfl H.out.f.1.1.2).mono ?_); rintro en wb1 ⟨Ab, cb, rfl, hz_, hr_, hb_⟩; have n0_ := Aside0.mk ((H.out.on hb_).add (sta_C _ _ _ _) (hr_)); clear H; have H := n0_; clear n0_; have Zb := Aside0.mk hz_; clear hb_ hr_ hz_))
  go_wp2_with (first | (go_at_call 18; (with_reducible refine (same_e (xs := putL (s :: l)) (putL_bytes _) rfl (n := (putL (s :: l)).length) (m := (putL (s :: l)).length) rfl rfl H.out.f.1.2 Za.out H.out.f.2 Zb.out).mono ?_); rintro en we ⟨rfl, hb_⟩; have n0_ := Aside0.mk (H.out.on hb_); clear H; have H := n0_; clear n0_; clear hb_))
  go_ret
  exact ⟨by first | rfl | (simp [same_refl]; done), H.out.b⟩
theorem Echoes_s_0 {l : List Int} {A : Option Addr} {c : Nat} {w : World} (hr : Kd.C (Kd.int .u16) w A l.length l) (hc : l.length ≤ c) {s : Int} {R1 : List Int × Int} (h16 : is16 (s :: l)) (hl : ¬ 400 < l.length) (w0 : write 0 (mk8 s l) = (([] : List Int), 1)) (w1 : write 1 (mk8 s l) = R1) (hn : s ≠ 0 ∧ s ≠ 1 ∧ s ≠ 3 ∧ s ≠ 10 ∧ s ≠ 20 ∧ s ≠ 4) :
    Calls Try.prog 6 #[.int .u16 s, .slice A l.length c] w fun en w' => en = .returned (.bool true) ∧ Below w.heap.size w w' := by
  have H := Aside0.mk (Hd.start w)
  have n0_ := Aside0.mk ((H.out).add (sta_C _ _ _ _) (hr))
  clear H
  have H := n0_
  clear n0_
  have d1 : decide ((l.length : Int) > 400) = false := decide_eq_false (by omega)
  have d2 : decide ((400 : Int) < (l.length : Int)) = false := decide_eq_false (by omega)
  have e0 : (s == 0) = false := beq_eq_false_iff_ne.2 (by omega)
  have e1 : (s == 1) = false := beq_eq_false_iff_ne.2 (by omega)
  have e3 : (s == 3) = false := beq_eq_false_iff_ne.2 (by omega)
  have e10 : (s == 10) = false := beq_eq_false_iff_ne.2 (by omega)
  have e20 : (s == 20) = false := beq_eq_false_iff_ne.2 (by omega)
  have e4 : (s == 4) = false := beq_eq_false_iff_ne.2 (by omega)
  clear hn
  have HW0 := Aside0.mk (show WriteC 16 0 (mk8 s l) (([] : List Int), 1) from mk8_c h16 (by omega) (w0))
  have HW1 := Aside0.mk (show WriteC 16 1 (mk8 s l) R1 from mk8_c h16 (by omega) (w1))
  have HS := Aside0.mk h16
  have HC := Aside0.mk hc
  clear hr h16 hc w0 w1 hl
  go_enter Try.func6, Try.ntmps6
  go_upto_region 4 with (first | (go_at_call 11; (with_reducible refine (awake_any _).mono ?_); rintro en wa ⟨rfl, hb_⟩; have n0_ := Aside0.mk (H.out.on hb_); clear H; have H := n0_; clear n0_; clear hb_))
  go_upto_region 5 with (first | ((with_reducible refine gate_dst (N := 18) rfl ?_); (try (refine gate_guard (by rfl) ?_; dsimp only)); refine ev_build (((zeroC.setIfInBounds 0 (.int .u8 8)).setIfInBounds 8 (.int .u16 s)).setIfInBounds 12 (.slice A l.length c)) rfl (by first | (go_simp; done) | (go_simp; rfl)) ?_; intro cm hcx_; have mx_ := (show IsMsg _ (((zeroC.setIfInBounds 0 (.int .u8 8)).setIfInBounds 8 (.int .u16 s)).setIfInBounds 12 (.slice A l.length c)) (mk8 s l) from mk8_is HS.out H.out.f.2 HC.out); rw [← hcx_] at mx_; have n0_ := Aside0.mk ((H.out).add (sta_msg _ _) (mx_)); clear H; have H := n0_; clear n0_; clear hcx_ mx_) | ((with_reducible refine gate_dst (N := 6) rfl ?_); refine ev_var (y := .tmp 18) rfl rfl rfl rfl rfl H.out.f.2 rfl rfl ?_; intro gm wv hg_ h1_ hb_; have n0_ := Aside0.mk ((H.out.on hb_).add (sta_blk _ _) (h1_)); clear H; have H := n0_; clear n0_; clear h1_ hb_ hg_))
  go_upto_region 6 with (first | ((with_reducible refine gate_dst (N := 20) rfl ?_); (try (refine gate_guard (by rfl) ?_; dsimp only)); refine ev_get (x := .tmp 6) rfl rfl rfl H.out.f.2 H.out.f.1.2 ?_) | (go_at_call 16; (with_reducible refine (WriteC.n HW0.out (n := 0) rfl H.out.f.1.2).mono ?_); rintro en wa1 ⟨Aa, ca, rfl, hz_, hr_, hb_⟩; have n0_ := Aside0.mk ((H.out.on hb_).add (sta_C _ _ _ _) (hr_)); clear H; have H := n0_; clear n0_; have Za := Aside0.mk hz_; clear hb_ hr_ hz_))
  go_upto_region 7 with (first | ((with_reducible refine gate_dst (N := 25) rfl ?_); (try (refine gate_guard (by rfl) ?_; dsimp only)); refine ev_get (x := .tmp 6) rfl rfl rfl H.out.f.1.2 H.out.f.1.1.2 ?_) | (go_at_call 16; (with_reducible refine (WriteC.c HW1.out H.out.f.1.1.2).mono ?_); rintro en wb1 ⟨Ab, cb, rfl, hz_, hr_, hb_⟩; have n0_ := Aside0.mk ((H.out.on hb_).add (sta_C _ _ _ _) (hr_)); clear H; have H := n0_; clear n0_; have Zb := Aside0.mk hz_; clear hb_ hr_ hz_))
  go_wp2
  go_ret
  exact ⟨by first | rfl | (simp [same_refl]; done), H.out.b⟩
theorem may_up {s v : Int} (h : mayB 0 s v = true) : mayB 1 s v = true := by
  unfold mayB at h ⊢
  rw [if_neg (fun h => absurd h.2 (by decide))] at h
  by_cases ht : (s = 2 ∨ (11 ≤ s ∧ s ≤ 18)) ∧ (1 : Int) = 1
  · rw [if_pos ht]
  · rw [if_neg ht]; exact h
theorem may_eq {s v : Int} (hs : ¬ (s = 2 ∨ (11 ≤ s ∧ s ≤ 18))) : mayB 1 s v = mayB 0 s v := by
  have h1 : ¬ ((s = 2 ∨ (11 ≤ s ∧ s ≤ 18)) ∧ (1 : Int) = 1) := fun h => hs h.1
  have h0 : ¬ ((s = 2 ∨ (11 ≤ s ∧ s ≤ 18)) ∧ (0 : Int) = 1) := fun h => hs h.1
  unfold mayB
  rw [if_neg h1, if_neg h0]
theorem ok_eq {s : Int} {l : List Int} (hs : s = 0 ∨ s = 1 ∨ s = 3 ∨ s = 10 ∨ s = 20) : okL 1 s l = okL 0 s l := by
  unfold okL
  have e4 : (s != 4) = true := by rw [bne_iff_ne]; omega
  rw [may_eq (by omega), e4, Bool.or_true, Bool.or_true]
theorem ok_4 {l : List Int} : okL 1 4 l = false := by
  unfold okL
  rw [show ((1 : Int) == 0 || (4 : Int) != 4) = false from rfl, Bool.and_false, Bool.false_and]
theorem ok_up {s : Int} {l : List Int} (hs : s ≠ 4) (h : okL 0 s l = true) : okL 1 s l = true := by
  unfold okL at h ⊢
  have e4 : (s != 4) = true := by rw [bne_iff_ne]; exact hs
  rw [e4, Bool.or_true] at h ⊢
  by_cases hz : s = 0
  · rw [if_pos hz] at h ⊢; exact h
  · rw [if_neg hz] at h ⊢
    simp only [Bool.and_eq_true] at h ⊢
    exact ⟨h.1, h.2.1, may_up h.2.2⟩
theorem busbarlaw10_DiagEchoes (s : Int) (A : Option Addr) (c : Nat) (l : List Int) (w : World) (hr : Kd.C (Kd.int .u16) w A l.length l) (hc : l.length ≤ c) (hs : (Lit.int .u16 s).wf = true) {p : Prop} (_ : p) (hw : ∀ x ∈ l, (Lit.int .u16 x).wf = true) :
    Calls Try.prog 6 #[.int .u16 s, .slice A l.length c] w fun en w' => en = .returned (.bool true) ∧ Below w.heap.size w w' := by
  by_cases hl : 400 < l.length
  · exact Echoes_long hr hc hl
  have h16 : is16 (s :: l) := fun x hx => by
    rcases List.mem_cons.1 hx with rfl | hx
    · exact u16_wf hs
    · exact u16_wf (hw x hx)
  have w0 := write8 (dir := 0) (.inl rfl) h16
  have w1 := write8 (dir := 1) (.inr rfl) h16
  by_cases h5 : s = 0 ∨ s = 1 ∨ s = 3 ∨ s = 10 ∨ s = 20
  · rw [ok_eq h5] at w1
    cases ho : okL 0 s l with
    | true =>
      rw [if_pos ho] at w0 w1
      rcases h5 with rfl | rfl | rfl | rfl | rfl
      · exact Echoes_0_1 hr hc h16 hl w0 w1
      · exact Echoes_1_1 hr hc h16 hl w0 w1
      · exact Echoes_3_1 hr hc h16 hl w0 w1
      · exact Echoes_10_1 hr hc h16 hl w0 w1
      · exact Echoes_20_1 hr hc h16 hl w0 w1
    | false =>
      rw [if_neg (by rw [ho]; decide)] at w0 w1
      rcases h5 with rfl | rfl | rfl | rfl | rfl
      · exact Echoes_0_0 hr hc h16 hl w0 w1
      · exact Echoes_1_0 hr hc h16 hl w0 w1
      · exact Echoes_3_0 hr hc h16 hl w0 w1
      · exact Echoes_10_0 hr hc h16 hl w0 w1
      · exact Echoes_20_0 hr hc h16 hl w0 w1
  by_cases h4 : s = 4
  · subst h4
    rw [if_neg (by rw [ok_4]; decide)] at w1
    exact Echoes_4 hr hc h16 hl rfl w1
  have hn : s ≠ 0 ∧ s ≠ 1 ∧ s ≠ 3 ∧ s ≠ 10 ∧ s ≠ 20 ∧ s ≠ 4 := by omega
  cases ho : okL 0 s l with
  | true =>
    rw [if_pos ho] at w0
    rw [if_pos (ok_up h4 ho)] at w1
    exact Echoes_s_1 hr hc h16 hl w0 w1 hn
  | false =>
    rw [if_neg (by rw [ho]; decide)] at w0
    exact Echoes_s_0 hr hc h16 hl w0 rfl hn
end Go.Proofs.Ytalaochocmcbcaa.Laws
end
