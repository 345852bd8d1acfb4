/- The law DiagSubs: its walk, and the plain law. Conditions: what each theorem states. -/
import Derived.Test.YtalaochocmcbcaaMD
set_option linter.unusedVariables false
set_option linter.unusedSimpArgs false
set_option maxHeartbeats 16000000
set_option maxRecDepth 100000
section
namespace Go.Proofs.Ytalaochocmcbcaa.Laws
open Go.RowKit Go.Proofs.Ytalaochocmcbcaa.P Go.Proofs.Ytalaochocmcbcaa.E Go.Proofs.Ytalaochocmcbcaa.Cur Go.Proofs.Ytalaochocmcbcaa.Cu Go.Proofs.Ytalaochocmcbcaa.Same Go.Proofs.Ytalaochocmcbcaa.Code Go.Proofs.Ytalaochocmcbcaa.Put Go.Proofs.Ytalaochocmcbcaa.Com Go.Proofs.Ytalaochocmcbcaa.Diag Go.Proofs.YtalaochocmcbcaaW.PrintWords Go.Proofs.YtalaochocmcbcaaW.PrintLast Go.Proofs.YtalaochocmcbcaaW.PrintMore
theorem Subs_no {v : Int} {w : World} {s : Int} (h16 : is16 [s, v]) (hv : 0 ≤ v ∧ v < 65536) (hsb : subB s = false) (w0 : write 0 (mk8 s [v]) = (([] : List Int), 1)) (w1 : write 1 (mk8 s [v]) = (([] : List Int), 1)) :
    Calls Try.prog 9 #[.int .u16 s, .int .u16 v] w fun en w' => en = .returned (.bool true) ∧ Below w.heap.size w w' := by
  have H := Aside0.mk (Hd.start w)
  have HW0 := Aside0.mk (show WriteC 16 0 (mk8 s [v]) (([] : List Int), 1) from mk8_c h16 (by simp) w0)
  have HW1 := Aside0.mk (show WriteC 16 1 (mk8 s [v]) (([] : List Int), 1) from mk8_c h16 (by simp) w1)
  have HS0 := Aside0.mk (h16 s List.mem_cons_self)
  have HS := Aside0.mk h16
  have HV := Aside0.mk hv
  have HSB := Aside0.mk hsb
  clear h16 w0 w1 hv hsb
  go_enter Try.func9, Try.ntmps9
  go_upto_region 2 with (first | (go_at_call 11; (with_reducible refine (awake_any _).mono ?_); rintro en wa ⟨rfl, hb_⟩; have n0_ := Aside0.mk (H.out.on hb_); clear H; have H := n0_; clear n0_; clear hb_))
  go_upto_region 3 with (first | ((with_reducible refine gate_dst (N := 15) rfl ?_); (try (refine gate_guard (by rfl) ?_; dsimp only)); refine ev_lit .u16 [v] 24 rfl (by first | (go_simp; done) | (go_simp; rfl)) (by simp) ?_; intro Al cl wl bl he_ hr_ hz_ hb_; have Zl := Aside0.mk hz_; have El := Aside0.mk he_; have n0_ := Aside0.mk ((H.out.on hb_).add (sta_C _ _ _ _) (hr_)); clear H; have H := n0_; clear n0_; clear hr_ hz_ hb_ he_) | ((with_reducible refine gate_dst (N := 16) rfl ?_); (try (refine gate_guard (by rfl) ?_; dsimp only)); refine ev_build (((zeroC.setIfInBounds 0 (.int .u8 8)).setIfInBounds 8 (.int .u16 s)).setIfInBounds 12 (.slice Al bl.length cl)) rfl (by first | (go_simp; done) | (go_simp; rfl)) ?_; intro cm hcx_; have mx_ := (show IsMsg _ (((zeroC.setIfInBounds 0 (.int .u8 8)).setIfInBounds 8 (.int .u16 s)).setIfInBounds 12 (.slice Al bl.length cl)) (mk8 s bl) from mk8_is (by rw [El.out]; exact HS.out) H.out.f.2 Zl.out); rw [← hcx_] at mx_; have n0_ := Aside0.mk ((H.out).add (sta_msg _ _) (mx_)); clear H; have H := n0_; clear n0_; clear hcx_ mx_) | ((with_reducible refine gate_dst (N := 6) rfl ?_); refine ev_var (y := .tmp 16) rfl rfl rfl rfl rfl H.out.f.2 rfl rfl ?_; intro gm wv hg_ h1_ hb_; have n0_ := Aside0.mk ((H.out.on hb_).add (sta_blk _ _) (h1_)); clear H; have H := n0_; clear n0_; clear h1_ hb_ hg_))
  go_upto_region 4 with (first | ((with_reducible refine gate_dst (N := 18) rfl ?_); (try (refine gate_guard (by rfl) ?_; dsimp only)); refine ev_get (x := .tmp 6) rfl rfl rfl H.out.f.2 H.out.f.1.2 ?_) | (go_at_call 16; (with_reducible refine (WriteC.n (show WriteC 16 0 (mk8 s bl) (([] : List Int), 1) from by rw [El.out]; exact HW0.out) (n := 0) rfl H.out.f.1.2).mono ?_); rintro en wa1 ⟨Aa, ca, rfl, hz_, hr_, hb_⟩; have n0_ := Aside0.mk ((H.out.on hb_).add (sta_C _ _ _ _) (hr_)); clear H; have H := n0_; clear n0_; have Za := Aside0.mk hz_; clear hb_ hr_ hz_))
  go_upto_region 5 with (first | ((with_reducible refine gate_dst (N := 23) rfl ?_); (try (refine gate_guard (by rfl) ?_; dsimp only)); refine ev_get (x := .tmp 6) rfl rfl rfl H.out.f.1.2 H.out.f.1.1.2 ?_) | (go_at_call 16; (with_reducible refine (WriteC.n (show WriteC 16 1 (mk8 s bl) (([] : List Int), 1) from by rw [El.out]; exact HW1.out) (n := 0) rfl H.out.f.1.1.2).mono ?_); rintro en wb1 ⟨Ab, cb, rfl, hz_, hr_, hb_⟩; have n0_ := Aside0.mk ((H.out.on hb_).add (sta_C _ _ _ _) (hr_)); clear H; have H := n0_; clear n0_; have Zb := Aside0.mk hz_; clear hb_ hr_ hz_))
  go_wp2_with (first | (go_at_call 19; (with_reducible refine ((show Calls Try.prog 19 #[.int .u16 s] _ (fun en w' => en = .returned (.bool false) ∧ Below _ _ w') from by rw [← HSB.out]; exact DiagR.rsub_c HS0.out _)).mono ?_); rintro en wsu ⟨rfl, hb_⟩; have n0_ := Aside0.mk (H.out.on hb_); clear H; have H := n0_; clear n0_; clear hb_))
  go_ret
  exact ⟨by first | rfl | (simp [same_refl]; done), H.out.b⟩
theorem Subs_2_1 {v : Int} {w : World} (h16 : is16 [2, v]) (hv : 0 ≤ v ∧ v < 65536) (hsb : subB 2 = true) (w0 : write 0 (mk8 2 [v]) = (putL [2, v], 0)) (w1 : write 1 (mk8 2 [v]) = (putL [2, v], 0)) (hz : v = 0) :
    Calls Try.prog 9 #[.int .u16 2, .int .u16 v] w fun en w' => en = .returned (.bool true) ∧ Below w.heap.size w w' := by
  have H := Aside0.mk (Hd.start w)
  have v0 : (v == 0) = true := beq_iff_eq.2 hz
  have HW0 := Aside0.mk (show WriteC 16 0 (mk8 2 [v]) (putL [2, v], 0) from mk8_c h16 (by simp) w0)
  have HW1 := Aside0.mk (show WriteC 16 1 (mk8 2 [v]) (putL [2, v], 0) from mk8_c h16 (by simp) w1)
  have HS0 := Aside0.mk (h16 2 List.mem_cons_self)
  have HS := Aside0.mk h16
  have HV := Aside0.mk hv
  have HSB := Aside0.mk hsb
  clear h16 w0 w1 hv hsb hz
  go_enter Try.func9, Try.ntmps9
  go_upto_region 2 with (first | (go_at_call 11; (with_reducible refine (awake_any _).mono ?_); rintro en wa ⟨rfl, hb_⟩; have n0_ := Aside0.mk (H.out.on hb_); clear H; have H := n0_; clear n0_; clear hb_))
  go_upto_region 3 with (first | ((with_reducible refine gate_dst (N := 15) rfl ?_); (try (refine gate_guard (by rfl) ?_; dsimp only)); refine ev_lit .u16 [v] 24 rfl (by first | (go_simp; done) | (go_simp; rfl)) (by simp) ?_; intro Al cl wl bl he_ hr_ hz_ hb_; have Zl := Aside0.mk hz_; have El := Aside0.mk he_; have n0_ := Aside0.mk ((H.out.on hb_).add (sta_C _ _ _ _) (hr_)); clear H; have H := n0_; clear n0_; clear hr_ hz_ hb_ he_) | ((with_reducible refine gate_dst (N := 16) rfl ?_); (try (refine gate_guard (by rfl) ?_; dsimp only)); refine ev_build (((zeroC.setIfInBounds 0 (.int .u8 8)).setIfInBounds 8 (.int .u16 2)).setIfInBounds 12 (.slice Al bl.length cl)) rfl (by first | (go_simp; done) | (go_simp; rfl)) ?_; intro cm hcx_; have mx_ := (show IsMsg _ (((zeroC.setIfInBounds 0 (.int .u8 8)).setIfInBounds 8 (.int .u16 2)).setIfInBounds 12 (.slice Al bl.length cl)) (mk8 2 bl) from mk8_is (by rw [El.out]; exact HS.out) H.out.f.2 Zl.out); rw [← hcx_] at mx_; have n0_ := Aside0.mk ((H.out).add (sta_msg _ _) (mx_)); clear H; have H := n0_; clear n0_; clear hcx_ mx_) | ((with_reducible refine gate_dst (N := 6) rfl ?_); refine ev_var (y := .tmp 16) rfl rfl rfl rfl rfl H.out.f.2 rfl rfl ?_; intro gm wv hg_ h1_ hb_; have n0_ := Aside0.mk ((H.out.on hb_).add (sta_blk _ _) (h1_)); clear H; have H := n0_; clear n0_; clear h1_ hb_ hg_))
  go_upto_region 4 with (first | ((with_reducible refine gate_dst (N := 18) rfl ?_); (try (refine gate_guard (by rfl) ?_; dsimp only)); refine ev_get (x := .tmp 6) rfl rfl rfl H.out.f.2 H.out.f.1.2 ?_) | (go_at_call 16; (with_reducible refine (WriteC.n (show WriteC 16 0 (mk8 2 bl) (putL [2, v], 0) from by rw [El.out]; exact HW0.out) (n := 4) rfl H.out.f.1.2).mono ?_); rintro en wa1 ⟨Aa, ca, rfl, hz_, hr_, hb_⟩; have n0_ := Aside0.mk ((H.out.on hb_).add (sta_C _ _ _ _) (hr_)); clear H; have H := n0_; clear n0_; have Za := Aside0.mk hz_; clear hb_ hr_ hz_))
  go_upto_region 5 with (first | ((with_reducible refine gate_dst (N := 23) rfl ?_); (try (refine gate_guard (by rfl) ?_; dsimp only)); refine ev_get (x := .tmp 6) rfl rfl rfl H.out.f.1.2 H.out.f.1.1.2 ?_) | (go_at_call 16; (with_reducible refine (WriteC.n (show WriteC 16 1 (mk8 2 bl) (putL [2, v], 0) from by rw [El.out]; exact HW1.out) (n := 4) rfl H.out.f.1.1.2).mono ?_); rintro en wb1 ⟨Ab, cb, rfl, hz_, hr_, hb_⟩; have n0_ := Aside0.mk ((H.out.on hb_).add (sta_C _ _ _ _) (hr_)); clear H; have H := n0_; clear n0_; have Zb := Aside0.mk hz_; clear hb_ hr_ hz_))
  go_wp2_with (first | (go_at_call 19; (with_reducible refine ((show Calls Try.prog 19 #[.int .u16 2] _ (fun en w' => en = .returned (.bool true) ∧ Below _ _ w') from by rw [← HSB.out]; exact DiagR.rsub_c HS0.out _)).mono ?_); rintro en wsu ⟨rfl, hb_⟩; have n0_ := Aside0.mk (H.out.on hb_); clear H; have H := n0_; clear n0_; clear hb_))
  go_ret
  exact ⟨by first | rfl | (simp [same_refl]; done), H.out.b⟩
theorem Subs_m_1 {v : Int} {w : World} {s : Int} (h16 : is16 [s, v]) (hv : 0 ≤ v ∧ v < 65536) (hsb : subB s = true) (w0 : write 0 (mk8 s [v]) = (putL [s, v], 0)) (w1 : write 1 (mk8 s [v]) = (putL [s, v], 0)) (hz : v = 0) (hm : 11 ≤ s ∧ s ≤ 18) :
    Calls Try.prog 9 #[.int .u16 s, .int .u16 v] w fun en w' => en = .returned (.bool true) ∧ Below w.heap.size w w' := by
  have H := Aside0.mk (Hd.start w)
  have v0 : (v == 0) = true := beq_iff_eq.2 hz
  have e2 : (s == 2) = false := beq_eq_false_iff_ne.2 (by omega)
  have e11 : decide (s ≥ 11) = true := decide_eq_true (by omega)
  have e11b : decide (11 ≤ s) = true := e11
  have e18 : decide (s ≤ 18) = true := decide_eq_true (by omega)
  have HW0 := Aside0.mk (show WriteC 16 0 (mk8 s [v]) (putL [s, v], 0) from mk8_c h16 (by simp) w0)
  have HW1 := Aside0.mk (show WriteC 16 1 (mk8 s [v]) (putL [s, v], 0) from mk8_c h16 (by simp) w1)
  have HS0 := Aside0.mk (h16 s List.mem_cons_self)
  have HS := Aside0.mk h16
  have HV := Aside0.mk hv
  have HSB := Aside0.mk hsb
  clear h16 w0 w1 hv hsb hz hm
  go_enter Try.func9, Try.ntmps9
  go_upto_region 2 with (first | (go_at_call 11; (with_reducible refine (awake_any _).mono ?_); rintro en wa ⟨rfl, hb_⟩; have n0_ := Aside0.mk (H.out.on hb_); clear H; have H := n0_; clear n0_; clear hb_))
  go_upto_region 3 with (first | ((with_reducible refine gate_dst (N := 15) rfl ?_); (try (refine gate_guard (by rfl) ?_; dsimp only)); refine ev_lit .u16 [v] 24 rfl (by first | (go_simp; done) | (go_simp; rfl)) (by simp) ?_; intro Al cl wl bl he_ hr_ hz_ hb_; have Zl := Aside0.mk hz_; have El := Aside0.mk he_; have n0_ := Aside0.mk ((H.out.on hb_).add (sta_C _ _ _ _) (hr_)); clear H; have H := n0_; clear n0_; clear hr_ hz_ hb_ he_) | ((with_reducible refine gate_dst (N := 16) rfl ?_); (try (refine gate_guard (by rfl) ?_; dsimp only)); refine ev_build (((zeroC.setIfInBounds 0 (.int .u8 8)).setIfInBounds 8 (.int .u16 s)).setIfInBounds 12 (.slice Al bl.length cl)) rfl (by first | (go_simp; done) | (go_simp; rfl)) ?_; intro cm hcx_; have mx_ := (show IsMsg _ (((zeroC.setIfInBounds 0 (.int .u8 8)).setIfInBounds 8 (.int .u16 s)).setIfInBounds 12 (.slice Al bl.length cl)) (mk8 s bl) from mk8_is (by rw [El.out]; exact HS.out) H.out.f.2 Zl.out); rw [← hcx_] at mx_; have n0_ := Aside0.mk ((H.out).add (sta_msg _ _) (mx_)); clear H; have H := n0_; clear n0_; clear hcx_ mx_) | ((with_reducible refine gate_dst (N := 6) rfl ?_); refine ev_var (y := .tmp 16) rfl rfl rfl rfl rfl H.out.f.2 rfl rfl ?_; intro gm wv hg_ h1_ hb_; have n0_ := Aside0.mk ((H.out.on hb_).add (sta_blk _ _) (h1_)); clear H; have H := n0_; clear n0_; clear h1_ hb_ hg_))
  go_upto_region 4 with (first | ((with_reducible refine gate_dst (N := 18) rfl ?_); (try (refine gate_guard (by rfl) ?_; dsimp only)); refine ev_get (x := .tmp 6) rfl rfl rfl H.out.f.2 H.out.f.1.2 ?_) | (go_at_call 16; (with_reducible refine (WriteC.n (show WriteC 16 0 (mk8 s bl) (putL [s, v], 0) from by rw [El.out]; exact HW0.out) (n := 4) rfl H.out.f.1.2).mono ?_); rintro en wa1 ⟨Aa, ca, rfl, hz_, hr_, hb_⟩; have n0_ := Aside0.mk ((H.out.on hb_).add (sta_C _ _ _ _) (hr_)); clear H; have H := n0_; clear n0_; have Za := Aside0.mk hz_; clear hb_ hr_ hz_))
  go_upto_region 5 with (first | ((with_reducible refine gate_dst (N := 23) rfl ?_); (try (refine gate_guard (by rfl) ?_; dsimp only)); refine ev_get (x := .tmp 6) rfl rfl rfl H.out.f.1.2 H.out.f.1.1.2 ?_) | (go_at_call 16; (with_reducible refine (WriteC.n (show WriteC 16 1 (mk8 s bl) (putL [s, v], 0) from by rw [El.out]; exact HW1.out) (n := 4) rfl H.out.f.1.1.2).mono ?_); rintro en wb1 ⟨Ab, cb, rfl, hz_, hr_, hb_⟩; have n0_ := Aside0.mk ((H.out.on hb_).add (sta_C _ _ _ _) (hr_)); clear H; have H := n0_; clear n0_; have Zb := Aside0.mk hz_; clear hb_ hr_ hz_))
  go_wp2_with (first | (go_at_call 19; (with_reducible refine ((show Calls Try.prog 19 #[.int .u16 s] _ (fun en w' => en = .returned (.bool true) ∧ Below _ _ w') from by rw [← HSB.out]; exact DiagR.rsub_c HS0.out _)).mono ?_); rintro en wsu ⟨rfl, hb_⟩; have n0_ := Aside0.mk (H.out.on hb_); clear H; have H := n0_; clear n0_; clear hb_))
  go_ret
  exact ⟨by first | rfl | (simp [same_refl]; done), H.out.b⟩
theorem Subs_2_0 {v : Int} {w : World} (h16 : is16 [2, v]) (hv : 0 ≤ v ∧ v < 65536) (hsb : subB 2 = true) (w0 : write 0 (mk8 2 [v]) = (([] : List Int), 1)) (w1 : write 1 (mk8 2 [v]) = (putL [2, v], 0)) (hz : v ≠ 0) :
    Calls Try.prog 9 #[.int .u16 2, .int .u16 v] w fun en w' => en = .returned (.bool true) ∧ Below w.heap.size w w' := by
  have H := Aside0.mk (Hd.start w)
  have v0 : (v == 0) = false := beq_eq_false_iff_ne.2 hz
  have HW0 := Aside0.mk (show WriteC 16 0 (mk8 2 [v]) (([] : List Int), 1) from mk8_c h16 (by simp) w0)
  have HW1 := Aside0.mk (show WriteC 16 1 (mk8 2 [v]) (putL [2, v], 0) from mk8_c h16 (by simp) w1)
  have HS0 := Aside0.mk (h16 2 List.mem_cons_self)
  have HS := Aside0.mk h16
  have HV := Aside0.mk hv
  have HSB := Aside0.mk hsb
  clear h16 w0 w1 hv hsb hz
  go_enter Try.func9, Try.ntmps9
  go_upto_region 2 with (first | (go_at_call 11; (with_reducible refine (awake_any _).mono ?_); rintro en wa ⟨rfl, hb_⟩; have n0_ := Aside0.mk (H.out.on hb_); clear H; have H := n0_; clear n0_; clear hb_))
  go_upto_region 3 with (first | ((with_reducible refine gate_dst (N := 15) rfl ?_); (try (refine gate_guard (by rfl) ?_; dsimp only)); refine ev_lit .u16 [v] 24 rfl (by first | (go_simp; done) | (go_simp; rfl)) (by simp) ?_; intro Al cl wl bl he_ hr_ hz_ hb_; have Zl := Aside0.mk hz_; have El := Aside0.mk he_; have n0_ := Aside0.mk ((H.out.on hb_).add (sta_C _ _ _ _) (hr_)); clear H; have H := n0_; clear n0_; clear hr_ hz_ hb_ he_) | ((with_reducible refine gate_dst (N := 16) rfl ?_); (try (refine gate_guard (by rfl) ?_; dsimp only)); refine ev_build (((zeroC.setIfInBounds 0 (.int .u8 8)).setIfInBounds 8 (.int .u16 2)).setIfInBounds 12 (.slice Al bl.length cl)) rfl (by first | (go_simp; done) | (go_simp; rfl)) ?_; intro cm hcx_; have mx_ := (show IsMsg _ (((zeroC.setIfInBounds 0 (.int .u8 8)).setIfInBounds 8 (.int .u16 2)).setIfInBounds 12 (.slice Al bl.length cl)) (mk8 2 bl) from mk8_is (by rw [El.out]; exact HS.out) H.out.f.2 Zl.out); rw [← hcx_] at mx_; have n0_ := Aside0.mk ((H.out).add (sta_msg _ _) (mx_)); clear H; have H := n0_; clear n0_; clear hcx_ mx_) | ((with_reducible refine gate_dst (N := 6) rfl ?_); refine ev_var (y := .tmp 16) rfl rfl rfl rfl rfl H.out.f.2 rfl rfl ?_; intro gm wv hg_ h1_ hb_; have n0_ := Aside0.mk ((H.out.on hb_).add (sta_blk _ _) (h1_)); clear H; have H := n0_; clear n0_; clear h1_ hb_ hg_))
  go_upto_region 4 with (first | ((with_reducible refine gate_dst (N := 18) rfl ?_); (try (refine gate_guard (by rfl) ?_; dsimp only)); refine ev_get (x := .tmp 6) rfl rfl rfl H.out.f.2 H.out.f.1.2 ?_) | (go_at_call 16; (with_reducible refine (WriteC.n (show WriteC 16 0 (mk8 2 bl) (([] : List Int), 1) from by rw [El.out]; exact HW0.out) (n := 0) rfl H.out.f.1.2).mono ?_); rintro en wa1 ⟨Aa, ca, rfl, hz_, hr_, hb_⟩; have n0_ := Aside0.mk ((H.out.on hb_).add (sta_C _ _ _ _) (hr_)); clear H; have H := n0_; clear n0_; have Za := Aside0.mk hz_; clear hb_ hr_ hz_))
  go_upto_region 5 with (first | ((with_reducible refine gate_dst (N := 23) rfl ?_); (try (refine gate_guard (by rfl) ?_; dsimp only)); refine ev_get (x := .tmp 6) rfl rfl rfl H.out.f.1.2 H.out.f.1.1.2 ?_) | (go_at_call 16; (with_reducible refine (WriteC.n (show WriteC 16 1 (mk8 2 bl) (putL [2, v], 0) from by rw [El.out]; exact HW1.out) (n := 4) rfl H.out.f.1.1.2).mono ?_); rintro en wb1 ⟨Ab, cb, rfl, hz_, hr_, hb_⟩; have n0_ := Aside0.mk ((H.out.on hb_).add (sta_C _ _ _ _) (hr_)); clear H; have H := n0_; clear n0_; have Zb := Aside0.mk hz_; clear hb_ hr_ hz_))
  go_wp2_with (first | (go_at_call 19; (with_reducible refine ((show Calls Try.prog 19 #[.int .u16 2] _ (fun en w' => en = .returned (.bool true) ∧ Below _ _ w') from by rw [← HSB.out]; exact DiagR.rsub_c HS0.out _)).mono ?_); rintro en wsu ⟨rfl, hb_⟩; have n0_ := Aside0.mk (H.out.on hb_); clear H; have H := n0_; clear n0_; clear hb_))
  go_ret
  exact ⟨by first | rfl | (simp [same_refl]; done), H.out.b⟩
theorem Subs_m_0 {v : Int} {w : World} {s : Int} (h16 : is16 [s, v]) (hv : 0 ≤ v ∧ v < 65536) (hsb : subB s = true) (w0 : write 0 (mk8 s [v]) = (([] : List Int), 1)) (w1 : write 1 (mk8 s [v]) = (putL [s, v], 0)) (hz : v ≠ 0) (hm : 11 ≤ s ∧ s ≤ 18) :
    Calls Try.prog 9 #[.int .u16 s, .int .u16 v] w fun en w' => en = .returned (.bool true) ∧ Below w.heap.size w w' := by
  have H := Aside0.mk (Hd.start w)
  have v0 : (v == 0) = false := beq_eq_false_iff_ne.2 hz
  have e2 : (s == 2) = false := beq_eq_false_iff_ne.2 (by omega)
  have e11 : decide (s ≥ 11) = true := decide_eq_true (by omega)
  have e11b : decide (11 ≤ s) = true := e11
  have e18 : decide (s ≤ 18) = true := decide_eq_true (by omega)
  have HW0 := Aside0.mk (show WriteC 16 0 (mk8 s [v]) (([] : List Int), 1) from mk8_c h16 (by simp) w0)
  have HW1 := Aside0.mk (show WriteC 16 1 (mk8 s [v]) (putL [s, v], 0) from mk8_c h16 (by simp) w1)
  have HS0 := Aside0.mk (h16 s List.mem_cons_self)
  have HS := Aside0.mk h16
  have HV := Aside0.mk hv
  have HSB := Aside0.mk hsb
  clear h16 w0 w1 hv hsb hz hm
  go_enter Try.func9, Try.ntmps9
  go_upto_region 2 with (first | (go_at_call 11; (with_reducible refine (awake_any _).mono ?_); rintro en wa ⟨rfl, hb_⟩; have n0_ := Aside0.mk (H.out.on hb_); clear H; have H := n0_; clear n0_; clear hb_))
  go_upto_region 3 with (first | ((with_reducible refine gate_dst (N := 15) rfl ?_); (try (refine gate_guard (by rfl) ?_; dsimp only)); refine ev_lit .u16 [v] 24 rfl (by first | (go_simp; done) | (go_simp; rfl)) (by simp) ?_; intro Al cl wl bl he_ hr_ hz_ hb_; have Zl := Aside0.mk hz_; have El := Aside0.mk he_; have n0_ := Aside0.mk ((H.out.on hb_).add (sta_C _ _ _ _) (hr_)); clear H; have H := n0_; clear n0_; clear hr_ hz_ hb_ he_) | ((with_reducible refine gate_dst (N := 16) rfl ?_); (try (refine gate_guard (by rfl) ?_; dsimp only)); refine ev_build (((zeroC.setIfInBounds 0 (.int .u8 8)).setIfInBounds 8 (.int .u16 s)).setIfInBounds 12 (.slice Al bl.length cl)) rfl (by first | (go_simp; done) | (go_simp; rfl)) ?_; intro cm hcx_; have mx_ := (show IsMsg _ (((zeroC.setIfInBounds 0 (.int .u8 8)).setIfInBounds 8 (.int .u16 s)).setIfInBounds 12 (.slice Al bl.length cl)) (mk8 s bl) from mk8_is (by rw [El.out]; exact HS.out) H.out.f.2 Zl.out); rw [← hcx_] at mx_; have n0_ := Aside0.mk ((H.out).add (sta_msg _ _) (mx_)); clear H; have H := n0_; clear n0_; clear hcx_ mx_) | ((with_reducible refine gate_dst (N := 6) rfl ?_); refine ev_var (y := .tmp 16) rfl rfl rfl rfl rfl H.out.f.2 rfl rfl ?_; intro gm wv hg_ h1_ hb_; have n0_ := Aside0.mk ((H.out.on hb_).add (sta_blk _ _) (h1_)); clear H; have H := n0_; clear n0_; clear h1_ hb_ hg_))
  go_upto_region 4 with (first | ((with_reducible refine gate_dst (N := 18) rfl ?_); (try (refine gate_guard (by rfl) ?_; dsimp only)); refine ev_get (x := .tmp 6) rfl rfl rfl H.out.f.2 H.out.f.1.2 ?_) | (go_at_call 16; (with_reducible refine (WriteC.n (show WriteC 16 0 (mk8 s bl) (([] : List Int), 1) from by rw [El.out]; exact HW0.out) (n := 0) rfl H.out.f.1.2).mono ?_); rintro en wa1 ⟨Aa, ca, rfl, hz_, hr_, hb_⟩; have n0_ := Aside0.mk ((H.out.on hb_).add (sta_C _ _ _ _) (hr_)); clear H; have H := n0_; clear n0_; have Za := Aside0.mk hz_; clear hb_ hr_ hz_))
  go_upto_region 5 with (first | ((with_reducible refine gate_dst (N := 23) rfl ?_); (try (refine gate_guard (by rfl) ?_; dsimp only)); refine ev_get (x := .tmp 6) rfl rfl rfl H.out.f.1.2 H.out.f.1.1.2 ?_) | (go_at_call 16; (with_reducible refine (WriteC.n (show WriteC 16 1 (mk8 s bl) (putL [s, v], 0) from by rw [El.out]; exact HW1.out) (n := 4) rfl H.out.f.1.1.2).mono ?_); rintro en wb1 ⟨Ab, cb, rfl, hz_, hr_, hb_⟩; have n0_ := Aside0.mk ((H.out.on hb_).add (sta_C _ _ _ _) (hr_)); clear H; have H := n0_; clear n0_; have Zb := Aside0.mk hz_; clear hb_ hr_ hz_))
  go_wp2_with (first | (go_at_call 19; (with_reducible refine ((show Calls Try.prog 19 #[.int .u16 s] _ (fun en w' => en = .returned (.bool true) ∧ Below _ _ w') from by rw [← HSB.out]; exact DiagR.rsub_c HS0.out _)).mono ?_); rintro en wsu ⟨rfl, hb_⟩; have n0_ := Aside0.mk (H.out.on hb_); clear H; have H := n0_; clear n0_; clear hb_))
  go_ret
  exact ⟨by first | rfl | (simp [same_refl]; done), H.out.b⟩
theorem Subs_0_1 {v : Int} {w : World} (h16 : is16 [0, v]) (hv : 0 ≤ v ∧ v < 65536) (hsb : subB 0 = true) (w0 : write 0 (mk8 0 [v]) = (putL [0, v], 0)) (w1 : write 1 (mk8 0 [v]) = (putL [0, v], 0)) (hz : v = 0) :
    Calls Try.prog 9 #[.int .u16 0, .int .u16 v] w fun en w' => en = .returned (.bool true) ∧ Below w.heap.size w w' := by
  have H := Aside0.mk (Hd.start w)
  have v0 : (v == 0) = true := beq_iff_eq.2 hz
  have HW0 := Aside0.mk (show WriteC 16 0 (mk8 0 [v]) (putL [0, v], 0) from mk8_c h16 (by simp) w0)
  have HW1 := Aside0.mk (show WriteC 16 1 (mk8 0 [v]) (putL [0, v], 0) from mk8_c h16 (by simp) w1)
  have HS0 := Aside0.mk (h16 0 List.mem_cons_self)
  have HS := Aside0.mk h16
  have HV := Aside0.mk hv
  have HSB := Aside0.mk hsb
  clear h16 w0 w1 hv hsb hz
  go_enter Try.func9, Try.ntmps9
  go_upto_region 2 with (first | (go_at_call 11; (with_reducible refine (awake_any _).mono ?_); rintro en wa ⟨rfl, hb_⟩; have n0_ := Aside0.mk (H.out.on hb_); clear H; have H := n0_; clear n0_; clear hb_))
  go_upto_region 3 with (first | ((with_reducible refine gate_dst (N := 15) rfl ?_); (try (refine gate_guard (by rfl) ?_; dsimp only)); refine ev_lit .u16 [v] 24 rfl (by first | (go_simp; done) | (go_simp; rfl)) (by simp) ?_; intro Al cl wl bl he_ hr_ hz_ hb_; have Zl := Aside0.mk hz_; have El := Aside0.mk he_; have n0_ := Aside0.mk ((H.out.on hb_).add (sta_C _ _ _ _) (hr_)); clear H; have H := n0_; clear n0_; clear hr_ hz_ hb_ he_) | ((with_reducible refine gate_dst (N := 16) rfl ?_); (try (refine gate_guard (by rfl) ?_; dsimp only)); refine ev_build (((zeroC.setIfInBounds 0 (.int .u8 8)).setIfInBounds 8 (.int .u16 0)).setIfInBounds 12 (.slice Al bl.length cl)) rfl (by first | (go_simp; done) | (go_simp; rfl)) ?_; intro cm hcx_; have mx_ := (show IsMsg _ (((zeroC.setIfInBounds 0 (.int .u8 8)).setIfInBounds 8 (.int .u16 0)).setIfInBounds 12 (.slice Al bl.length cl)) (mk8 0 bl) from mk8_is (by rw [El.out]; exact HS.out) H.out.f.2 Zl.out); rw [← hcx_] at mx_; have n0_ := Aside0.mk ((H.out).add (sta_msg _ _) (mx_)); clear H; have H := n0_; clear n0_; clear hcx_ mx_) | ((with_reducible refine gate_dst (N := 6) rfl ?_); refine ev_var (y := .tmp 16) rfl rfl rfl rfl rfl H.out.f.2 rfl rfl ?_; intro gm wv hg_ h1_ hb_; have n0_ := Aside0.mk ((H.out.on hb_).add (sta_blk _ _) (h1_)); clear H; have H := n0_; clear n0_; clear h1_ hb_ hg_))
  go_upto_region 4 with (first | ((with_reducible refine gate_dst (N := 18) rfl ?_); (try (refine gate_guard (by rfl) ?_; dsimp only)); refine ev_get (x := .tmp 6) rfl rfl rfl H.out.f.2 H.out.f.1.2 ?_) | (go_at_call 16; (with_reducible refine (WriteC.n (show WriteC 16 0 (mk8 0 bl) (putL [0, v], 0) from by rw [El.out]; exact HW0.out) (n := 4) rfl H.out.f.1.2).mono ?_); rintro en wa1 ⟨Aa, ca, rfl, hz_, hr_, hb_⟩; have n0_ := Aside0.mk ((H.out.on hb_).add (sta_C _ _ _ _) (hr_)); clear H; have H := n0_; clear n0_; have Za := Aside0.mk hz_; clear hb_ hr_ hz_))
  go_upto_region 5 with (first | ((with_reducible refine gate_dst (N := 23) rfl ?_); (try (refine gate_guard (by rfl) ?_; dsimp only)); refine ev_get (x := .tmp 6) rfl rfl rfl H.out.f.1.2 H.out.f.1.1.2 ?_) | (go_at_call 16; (with_reducible refine (WriteC.n (show WriteC 16 1 (mk8 0 bl) (putL [0, v], 0) from by rw [El.out]; exact HW1.out) (n := 4) rfl H.out.f.1.1.2).mono ?_); rintro en wb1 ⟨Ab, cb, rfl, hz_, hr_, hb_⟩; have n0_ := Aside0.mk ((H.out.on hb_).add (sta_C _ _ _ _) (hr_)); clear H; have H := n0_; clear n0_; have Zb := Aside0.mk hz_; clear hb_ hr_ hz_))
  go_wp2_with (first | (go_at_call 19; (with_reducible refine ((show Calls Try.prog 19 #[.int .u16 0] _ (fun en w' => en = .returned (.bool true) ∧ Below _ _ w') from by rw [← HSB.out]; exact DiagR.rsub_c HS0.out _)).mono ?_); rintro en wsu ⟨rfl, hb_⟩; have n0_ := Aside0.mk (H.out.on hb_); clear H; have H := n0_; clear n0_; clear hb_))
  go_ret
  exact ⟨by first | rfl | (simp [same_refl]; done), H.out.b⟩
theorem Subs_0_0 {v : Int} {w : World} {R0 : List Int × Int} {R1 : List Int × Int} (h16 : is16 [0, v]) (hv : 0 ≤ v ∧ v < 65536) (hsb : subB 0 = true) (w0 : write 0 (mk8 0 [v]) = R0) (w1 : write 1 (mk8 0 [v]) = R1) (hz : v ≠ 0) :
    Calls Try.prog 9 #[.int .u16 0, .int .u16 v] w fun en w' => en = .returned (.bool true) ∧ Below w.heap.size w w' := by
  have H := Aside0.mk (Hd.start w)
  have v0 : (v == 0) = false := beq_eq_false_iff_ne.2 hz
  have HW0 := Aside0.mk (show WriteC 16 0 (mk8 0 [v]) R0 from mk8_c h16 (by simp) w0)
  have HW1 := Aside0.mk (show WriteC 16 1 (mk8 0 [v]) R1 from mk8_c h16 (by simp) w1)
  have HS0 := Aside0.mk (h16 0 List.mem_cons_self)
  have HS := Aside0.mk h16
  have HV := Aside0.mk hv
  have HSB := Aside0.mk hsb
  clear h16 w0 w1 hv hsb hz
  go_enter Try.func9, Try.ntmps9
  go_upto_region 2 with (first | (go_at_call 11; (with_reducible refine (awake_any _).mono ?_); rintro en wa ⟨rfl, hb_⟩; have n0_ := Aside0.mk (H.out.on hb_); clear H; have H := n0_; clear n0_; clear hb_))
  go_upto_region 3 with (first | ((with_reducible refine gate_dst (N := 15) rfl ?_); (try (refine gate_guard (by rfl) ?_; dsimp only)); refine ev_lit .u16 [v] 24 rfl (by first | (go_simp; done) | (go_simp; rfl)) (by simp) ?_; intro Al cl wl bl he_ hr_ hz_ hb_; have Zl := Aside0.mk hz_; have El := Aside0.mk he_; have n0_ := Aside0.mk ((H.out.on hb_).add (sta_C _ _ _ _) (hr_)); clear H; have H := n0_; clear n0_; clear hr_ hz_ hb_ he_) | ((with_reducible refine gate_dst (N := 16) rfl ?_); (try (refine gate_guard (by rfl) ?_; dsimp only)); refine ev_build (((zeroC.setIfInBounds 0 (.int .u8 8)).setIfInBounds 8 (.int .u16 0)).setIfInBounds 12 (.slice Al bl.length cl)) rfl (by first | (go_simp; done) | (go_simp; rfl)) ?_; intro cm hcx_; have mx_ := (show IsMsg _ (((zeroC.setIfInBounds 0 (.int .u8 8)).setIfInBounds 8 (.int .u16 0)).setIfInBounds 12 (.slice Al bl.length cl)) (mk8 0 bl) from mk8_is (by rw [El.out]; exact HS.out) H.out.f.2 Zl.out); rw [← hcx_] at mx_; have n0_ := Aside0.mk ((H.out).add (sta_msg _ _) (mx_)); clear H; have H := n0_; clear n0_; clear hcx_ mx_) | ((with_reducible refine gate_dst (N := 6) rfl ?_); refine ev_var (y := .tmp 16) rfl rfl rfl rfl rfl H.out.f.2 rfl rfl ?_; intro gm wv hg_ h1_ hb_; have n0_ := Aside0.mk ((H.out.on hb_).add (sta_blk _ _) (h1_)); clear H; have H := n0_; clear n0_; clear h1_ hb_ hg_))
  go_upto_region 4 with (first | ((with_reducible refine gate_dst (N := 18) rfl ?_); (try (refine gate_guard (by rfl) ?_; dsimp only)); refine ev_get (x := .tmp 6) rfl rfl rfl H.out.f.2 H.out.f.1.2 ?_) | (go_at_call 16; (with_reducible refine (WriteC.c (show WriteC 16 0 (mk8 0 bl) R0 from by rw [El.out]; exact HW0.out) H.out.f.1.2).mono ?_); rintro en wa1 ⟨Aa, ca, rfl, hz_, hr_, hb_⟩; have n0_ := Aside0.mk ((H.out.on hb_).add (sta_C _ _ _ _) (hr_)); clear H; have H := n0_; clear n0_; have Za := Aside0.mk hz_; clear hb_ hr_ hz_))
  go_upto_region 5 with (first | ((with_reducible refine gate_dst (N := 23) rfl ?_); (try (refine gate_guard (by rfl) ?_; dsimp only)); refine ev_get (x := .tmp 6) rfl rfl rfl H.out.f.1.2 H.out.f.1.1.2 ?_) | (go_at_call 16; (with_reducible refine (WriteC.c (show WriteC 16 1 (mk8 0 bl) R1 from by rw [El.out]; exact HW1.out) H.out.f.1.1.2).mono ?_); rintro en wb1 ⟨Ab, cb, rfl, hz_, hr_, hb_⟩; have n0_ := Aside0.mk ((H.out.on hb_).add (sta_C _ _ _ _) (hr_)); clear H; have H := n0_; clear n0_; have Zb := Aside0.mk hz_; clear hb_ hr_ hz_))
  go_wp2_with (first | (go_at_call 19; (with_reducible refine ((show Calls Try.prog 19 #[.int .u16 0] _ (fun en w' => en = .returned (.bool true) ∧ Below _ _ w') from by rw [← HSB.out]; exact DiagR.rsub_c HS0.out _)).mono ?_); rintro en wsu ⟨rfl, hb_⟩; have n0_ := Aside0.mk (H.out.on hb_); clear H; have H := n0_; clear n0_; clear hb_))
  go_ret
  exact ⟨by first | rfl | (simp [same_refl]; done), H.out.b⟩
theorem Subs_1_1 {v : Int} {w : World} (h16 : is16 [1, v]) (hv : 0 ≤ v ∧ v < 65536) (hsb : subB 1 = true) (w0 : write 0 (mk8 1 [v]) = (putL [1, v], 0)) (w1 : write 1 (mk8 1 [v]) = (putL [1, v], 0)) (hz : v = 0) :
    Calls Try.prog 9 #[.int .u16 1, .int .u16 v] w fun en w' => en = .returned (.bool true) ∧ Below w.heap.size w w' := by
  have H := Aside0.mk (Hd.start w)
  have v0 : (v == 0) = true := beq_iff_eq.2 hz
  have HW0 := Aside0.mk (show WriteC 16 0 (mk8 1 [v]) (putL [1, v], 0) from mk8_c h16 (by simp) w0)
  have HW1 := Aside0.mk (show WriteC 16 1 (mk8 1 [v]) (putL [1, v], 0) from mk8_c h16 (by simp) w1)
  have HS0 := Aside0.mk (h16 1 List.mem_cons_self)
  have HS := Aside0.mk h16
  have HV := Aside0.mk hv
  have HSB := Aside0.mk hsb
  clear h16 w0 w1 hv hsb hz
  go_enter Try.func9, Try.ntmps9
  go_upto_region 2 with (first | (go_at_call 11; (with_reducible refine (awake_any _).mono ?_); rintro en wa ⟨rfl, hb_⟩; have n0_ := Aside0.mk (H.out.on hb_); clear H; have H := n0_; clear n0_; clear hb_))
  go_upto_region 3 with (first | ((with_reducible refine gate_dst (N := 15) rfl ?_); (try (refine gate_guard (by rfl) ?_; dsimp only)); refine ev_lit .u16 [v] 24 rfl (by first | (go_simp; done) | (go_simp; rfl)) (by simp) ?_; intro Al cl wl bl he_ hr_ hz_ hb_; have Zl := Aside0.mk hz_; have El := Aside0.mk he_; have n0_ := Aside0.mk ((H.out.on hb_).add (sta_C _ _ _ _) (hr_)); clear H; have H := n0_; clear n0_; clear hr_ hz_ hb_ he_) | ((with_reducible refine gate_dst (N := 16) rfl ?_); (try (refine gate_guard (by rfl) ?_; dsimp only)); refine ev_build (((zeroC.setIfInBounds 0 (.int .u8 8)).setIfInBounds 8 (.int .u16 1)).setIfInBounds 12 (.slice Al bl.length cl)) rfl (by first | (go_simp; done) | (go_simp; rfl)) ?_; intro cm hcx_; have mx_ := (show IsMsg _ (((zeroC.setIfInBounds 0 (.int .u8 8)).setIfInBounds 8 (.int .u16 1)).setIfInBounds 12 (.slice Al bl.length cl)) (mk8 1 bl) from mk8_is (by rw [El.out]; exact HS.out) H.out.f.2 Zl.out); rw [← hcx_] at mx_; have n0_ := Aside0.mk ((H.out).add (sta_msg _ _) (mx_)); clear H; have H := n0_; clear n0_; clear hcx_ mx_) | ((with_reducible refine gate_dst (N := 6) rfl ?_); refine ev_var (y := .tmp 16) rfl rfl rfl rfl rfl H.out.f.2 rfl rfl ?_; intro gm wv hg_ h1_ hb_; have n0_ := Aside0.mk ((H.out.on hb_).add (sta_blk _ _) (h1_)); clear H; have H := n0_; clear n0_; clear h1_ hb_ hg_))
  go_upto_region 4 with (first | ((with_reducible refine gate_dst (N := 18) rfl ?_); (try (refine gate_guard (by rfl) ?_; dsimp only)); refine ev_get (x := .tmp 6) rfl rfl rfl H.out.f.2 H.out.f.1.2 ?_) | (go_at_call 16; (with_reducible refine (WriteC.n (show WriteC 16 0 (mk8 1 bl) (putL [1, v], 0) from by rw [El.out]; exact HW0.out) (n := 4) rfl H.out.f.1.2).mono ?_); rintro en wa1 ⟨Aa, ca, rfl, hz_, hr_, hb_⟩; have n0_ := Aside0.mk ((H.out.on hb_).add (sta_C _ _ _ _) (hr_)); clear H; have H := n0_; clear n0_; have Za := Aside0.mk hz_; clear hb_ hr_ hz_))
  go_upto_region 5 with (first | ((with_reducible refine gate_dst (N := 23) rfl ?_); (try (refine gate_guard (by rfl) ?_; dsimp only)); refine ev_get (x := .tmp 6) rfl rfl rfl H.out.f.1.2 H.out.f.1.1.2 ?_) | (go_at_call 16; (with_reducible refine (WriteC.n (show WriteC 16 1 (mk8 1 bl) (putL [1, v], 0) from by rw [El.out]; exact HW1.out) (n := 4) rfl H.out.f.1.1.2).mono ?_); rintro en wb1 ⟨Ab, cb, rfl, hz_, hr_, hb_⟩; have n0_ := Aside0.mk ((H.out.on hb_).add (sta_C _ _ _ _) (hr_)); clear H; have H := n0_; clear n0_; have Zb := Aside0.mk hz_; clear hb_ hr_ hz_))
  go_wp2_with (first | (go_at_call 19; (with_reducible refine ((show Calls Try.prog 19 #[.int .u16 1] _ (fun en w' => en = .returned (.bool true) ∧ Below _ _ w') from by rw [← HSB.out]; exact DiagR.rsub_c HS0.out _)).mono ?_); rintro en wsu ⟨rfl, hb_⟩; have n0_ := Aside0.mk (H.out.on hb_); clear H; have H := n0_; clear n0_; clear hb_))
  go_ret
  exact ⟨by first | rfl | (simp [same_refl]; done), H.out.b⟩
theorem Subs_1_0 {v : Int} {w : World} {R0 : List Int × Int} {R1 : List Int × Int} (h16 : is16 [1, v]) (hv : 0 ≤ v ∧ v < 65536) (hsb : subB 1 = true) (w0 : write 0 (mk8 1 [v]) = R0) (w1 : write 1 (mk8 1 [v]) = R1) (hz : v ≠ 0) :
    Calls Try.prog 9 #[.int .u16 1, .int .u16 v] w fun en w' => en = .returned (.bool true) ∧ Below w.heap.size w w' := by
  have H := Aside0.mk (Hd.start w)
  have v0 : (v == 0) = false := beq_eq_false_iff_ne.2 hz
  have HW0 := Aside0.mk (show WriteC 16 0 (mk8 1 [v]) R0 from mk8_c h16 (by simp) w0)
  have HW1 := Aside0.mk (show WriteC 16 1 (mk8 1 [v]) R1 from mk8_c h16 (by simp) w1)
  have HS0 := Aside0.mk (h16 1 List.mem_cons_self)
  have HS := Aside0.mk h16
  have HV := Aside0.mk hv
  have HSB := Aside0.mk hsb
  clear h16 w0 w1 hv hsb hz
  go_enter Try.func9, Try.ntmps9
  go_upto_region 2 with (first | (go_at_call 11; (with_reducible refine (awake_any _).mono ?_); rintro en wa ⟨rfl, hb_⟩; have n0_ := Aside0.mk (H.out.on hb_); clear H; have H := n0_; clear n0_; clear hb_))
  go_upto_region 3 with (first | ((with_reducible refine gate_dst (N := 15) rfl ?_); (try (refine gate_guard (by rfl) ?_; dsimp only)); refine ev_lit .u16 [v] 24 rfl (by first | (go_simp; done) | (go_simp; rfl)) (by simp) ?_; intro Al cl wl bl he_ hr_ hz_ hb_; have Zl := Aside0.mk hz_; have El := Aside0.mk he_; have n0_ := Aside0.mk ((H.out.on hb_).add (sta_C _ _ _ _) (hr_)); clear H; have H := n0_; clear n0_; clear hr_ hz_ hb_ he_) | ((with_reducible refine gate_dst (N := 16) rfl ?_); (try (refine gate_guard (by rfl) ?_; dsimp only)); refine ev_build (((zeroC.setIfInBounds 0 (.int .u8 8)).setIfInBounds 8 (.int .u16 1)).setIfInBounds 12 (.slice Al bl.length cl)) rfl (by first | (go_simp; done) | (go_simp; rfl)) ?_; intro cm hcx_; have mx_ := (show IsMsg _ (((zeroC.setIfInBounds 0 (.int .u8 8)).setIfInBounds 8 (.int .u16 1)).setIfInBounds 12 (.slice Al bl.length cl)) (mk8 1 bl) from mk8_is (by rw [El.out]; exact HS.out) H.out.f.2 Zl.out); rw [← hcx_] at mx_; have n0_ := Aside0.mk ((H.out).add (sta_msg _ _) (mx_)); clear H; have H := n0_; clear n0_; clear hcx_ mx_) | ((with_reducible refine gate_dst (N := 6) rfl ?_); refine ev_var (y := .tmp 16) rfl rfl rfl rfl rfl H.out.f.2 rfl rfl ?_; intro gm wv hg_ h1_ hb_; have n0_ := Aside0.mk ((H.out.on hb_).add (sta_blk _ _) (h1_)); clear H; have H := n0_; clear n0_; clear h1_ hb_ hg_))
  go_upto_region 4 with (first | ((with_reducible refine gate_dst (N := 18) rfl ?_); (try (refine gate_guard (by rfl) ?_; dsimp only)); refine ev_get (x := .tmp 6) rfl rfl rfl H.out.f.2 H.out.f.1.2 ?_) | (go_at_call 16; (with_reducible refine (WriteC.c (show WriteC 16 0 (mk8 1 bl) R0 from by rw [El.out]; exact HW0.out) H.out.f.1.2).mono ?_); rintro en wa1 ⟨Aa, ca, rfl, hz_, hr_, hb_⟩; have n0_ := Aside0.mk ((H.out.on hb_).add (sta_C _ _ _ _) (hr_)); clear H; have H := n0_; clear n0_; have Za := Aside0.mk hz_; clear hb_ hr_ hz_))
  go_upto_region 5 with (first | ((with_reducible refine gate_dst (N := 23) rfl ?_); (try (refine gate_guard (by rfl) ?_; dsimp only)); refine ev_get (x := .tmp 6) rfl rfl rfl H.out.f.1.2 H.out.f.1.1.2 ?_) | (go_at_call 16; (with_reducible refine (WriteC.c (show WriteC 16 1 (mk8 1 bl) R1 from by rw [El.out]; exact HW1.out) H.out.f.1.1.2).mono ?_); rintro en wb1 ⟨Ab, cb, rfl, hz_, hr_, hb_⟩; have n0_ := Aside0.mk ((H.out.on hb_).add (sta_C _ _ _ _) (hr_)); clear H; have H := n0_; clear n0_; have Zb := Aside0.mk hz_; clear hb_ hr_ hz_))
  go_wp2_with (first | (go_at_call 19; (with_reducible refine ((show Calls Try.prog 19 #[.int .u16 1] _ (fun en w' => en = .returned (.bool true) ∧ Below _ _ w') from by rw [← HSB.out]; exact DiagR.rsub_c HS0.out _)).mono ?_); rintro en wsu ⟨rfl, hb_⟩; have n0_ := Aside0.mk (H.out.on hb_); clear H; have H := n0_; clear n0_; clear hb_))
  go_ret
  exact ⟨by first | rfl | (simp [same_refl]; done), H.out.b⟩
theorem Subs_3_1 {v : Int} {w : World} (h16 : is16 [3, v]) (hv : 0 ≤ v ∧ v < 65536) (hsb : subB 3 = true) (w0 : write 0 (mk8 3 [v]) = (putL [3, v], 0)) (w1 : write 1 (mk8 3 [v]) = (putL [3, v], 0)) (hz : v = 0) :
    Calls Try.prog 9 #[.int .u16 3, .int .u16 v] w fun en w' => en = .returned (.bool true) ∧ Below w.heap.size w w' := by
  have H := Aside0.mk (Hd.start w)
  have v0 : (v == 0) = true := beq_iff_eq.2 hz
  have HW0 := Aside0.mk (show WriteC 16 0 (mk8 3 [v]) (putL [3, v], 0) from mk8_c h16 (by simp) w0)
  have HW1 := Aside0.mk (show WriteC 16 1 (mk8 3 [v]) (putL [3, v], 0) from mk8_c h16 (by simp) w1)
  have HS0 := Aside0.mk (h16 3 List.mem_cons_self)
  have HS := Aside0.mk h16
  have HV := Aside0.mk hv
  have HSB := Aside0.mk hsb
  clear h16 w0 w1 hv hsb hz
  go_enter Try.func9, Try.ntmps9
  go_upto_region 2 with (first | (go_at_call 11; (with_reducible refine (awake_any _).mono ?_); rintro en wa ⟨rfl, hb_⟩; have n0_ := Aside0.mk (H.out.on hb_); clear H; have H := n0_; clear n0_; clear hb_))
  go_upto_region 3 with (first | ((with_reducible refine gate_dst (N := 15) rfl ?_); (try (refine gate_guard (by rfl) ?_; dsimp only)); refine ev_lit .u16 [v] 24 rfl (by first | (go_simp; done) | (go_simp; rfl)) (by simp) ?_; intro Al cl wl bl he_ hr_ hz_ hb_; have Zl := Aside0.mk hz_; have El := Aside0.mk he_; have n0_ := Aside0.mk ((H.out.on hb_).add (sta_C _ _ _ _) (hr_)); clear H; have H := n0_; clear n0_; clear hr_ hz_ hb_ he_) | ((with_reducible refine gate_dst (N := 16) rfl ?_); (try (refine gate_guard (by rfl) ?_; dsimp only)); refine ev_build (((zeroC.setIfInBounds 0 (.int .u8 8)).setIfInBounds 8 (.int .u16 3)).setIfInBounds 12 (.slice Al bl.length cl)) rfl (by first | (go_simp; done) | (go_simp; rfl)) ?_; intro cm hcx_; have mx_ := (show IsMsg _ (((zeroC.setIfInBounds 0 (.int .u8 8)).setIfInBounds 8 (.int .u16 3)).setIfInBounds 12 (.slice Al bl.length cl)) (mk8 3 bl) from mk8_is (by rw [El.out]; exact HS.out) H.out.f.2 Zl.out); rw [← hcx_] at mx_; have n0_ := Aside0.mk ((H.out).add (sta_msg _ _) (mx_)); clear H; have H := n0_; clear n0_; clear hcx_ mx_) | ((with_reducible refine gate_dst (N := 6) rfl ?_); refine ev_var (y := .tmp 16) rfl rfl rfl rfl rfl H.out.f.2 rfl rfl ?_; intro gm wv hg_ h1_ hb_; have n0_ := Aside0.mk ((H.out.on hb_).add (sta_blk _ _) (h1_)); clear H; have H := n0_; clear n0_; clear h1_ hb_ hg_))
  go_upto_region 4 with (first | ((with_reducible refine gate_dst (N := 18) rfl ?_); (try (refine gate_guard (by rfl) ?_; dsimp only)); refine ev_get (x := .tmp 6) rfl rfl rfl H.out.f.2 H.out.f.1.2 ?_) | (go_at_call 16; (with_reducible refine (WriteC.n (show WriteC 16 0 (mk8 3 bl) (putL [3, v], 0) from by rw [El.out]; exact HW0.out) (n := 4) rfl H.out.f.1.2).mono ?_); rintro en wa1 ⟨Aa, ca, rfl, hz_, hr_, hb_⟩; have n0_ := Aside0.mk ((H.out.on hb_).add (sta_C _ _ _ _) (hr_)); clear H; have H := n0_; clear n0_; have Za := Aside0.mk hz_; clear hb_ hr_ hz_))
  go_upto_region 5 with (first | ((with_reducible refine gate_dst (N := 23) rfl ?_); (try (refine gate_guard (by rfl) ?_; dsimp only)); refine ev_get (x := .tmp 6) rfl rfl rfl H.out.f.1.2 H.out.f.1.1.2 ?_) | (go_at_call 16; (with_reducible refine (WriteC.n (show WriteC 16 1 (mk8 3 bl) (putL [3, v], 0) from by rw [El.out]; exact HW1.out) (n := 4) rfl H.out.f.1.1.2).mono ?_); rintro en wb1 ⟨Ab, cb, rfl, hz_, hr_, hb_⟩; have n0_ := Aside0.mk ((H.out.on hb_).add (sta_C _ _ _ _) (hr_)); clear H; have H := n0_; clear n0_; have Zb := Aside0.mk hz_; clear hb_ hr_ hz_))
  go_wp2_with (first | (go_at_call 19; (with_reducible refine ((show Calls Try.prog 19 #[.int .u16 3] _ (fun en w' => en = .returned (.bool true) ∧ Below _ _ w') from by rw [← HSB.out]; exact DiagR.rsub_c HS0.out _)).mono ?_); rintro en wsu ⟨rfl, hb_⟩; have n0_ := Aside0.mk (H.out.on hb_); clear H; have H := n0_; clear n0_; clear hb_))
  go_ret
  exact ⟨by first | rfl | (simp [same_refl]; done), H.out.b⟩
theorem Subs_3_0 {v : Int} {w : World} {R0 : List Int × Int} {R1 : List Int × Int} (h16 : is16 [3, v]) (hv : 0 ≤ v ∧ v < 65536) (hsb : subB 3 = true) (w0 : write 0 (mk8 3 [v]) = R0) (w1 : write 1 (mk8 3 [v]) = R1) (hz : v ≠ 0) :
    Calls Try.prog 9 #[.int .u16 3, .int .u16 v] w fun en w' => en = .returned (.bool true) ∧ Below w.heap.size w w' := by
  have H := Aside0.mk (Hd.start w)
  have v0 : (v == 0) = false := beq_eq_false_iff_ne.2 hz
  have HW0 := Aside0.mk (show WriteC 16 0 (mk8 3 [v]) R0 from mk8_c h16 (by simp) w0)
  have HW1 := Aside0.mk (show WriteC 16 1 (mk8 3 [v]) R1 from mk8_c h16 (by simp) w1)
  have HS0 := Aside0.mk (h16 3 List.mem_cons_self)
  have HS := Aside0.mk h16
  have HV := Aside0.mk hv
  have HSB := Aside0.mk hsb
  clear h16 w0 w1 hv hsb hz
  go_enter Try.func9, Try.ntmps9
  go_upto_region 2 with (first | (go_at_call 11; (with_reducible refine (awake_any _).mono ?_); rintro en wa ⟨rfl, hb_⟩; have n0_ := Aside0.mk (H.out.on hb_); clear H; have H := n0_; clear n0_; clear hb_))
  go_upto_region 3 with (first | ((with_reducible refine gate_dst (N := 15) rfl ?_); (try (refine gate_guard (by rfl) ?_; dsimp only)); refine ev_lit .u16 [v] 24 rfl (by first | (go_simp; done) | (go_simp; rfl)) (by simp) ?_; intro Al cl wl bl he_ hr_ hz_ hb_; have Zl := Aside0.mk hz_; have El := Aside0.mk he_; have n0_ := Aside0.mk ((H.out.on hb_).add (sta_C _ _ _ _) (hr_)); clear H; have H := n0_; clear n0_; clear hr_ hz_ hb_ he_) | ((with_reducible refine gate_dst (N := 16) rfl ?_); (try (refine gate_guard (by rfl) ?_; dsimp only)); refine ev_build (((zeroC.setIfInBounds 0 (.int .u8 8)).setIfInBounds 8 (.int .u16 3)).setIfInBounds 12 (.slice Al bl.length cl)) rfl (by first | (go_simp; done) | (go_simp; rfl)) ?_; intro cm hcx_; have mx_ := (show IsMsg _ (((zeroC.setIfInBounds 0 (.int .u8 8)).setIfInBounds 8 (.int .u16 3)).setIfInBounds 12 (.slice Al bl.length cl)) (mk8 3 bl) from mk8_is (by rw [El.out]; exact HS.out) H.out.f.2 Zl.out); rw [← hcx_] at mx_; have n0_ := Aside0.mk ((H.out).add (sta_msg _ _) (mx_)); clear H; have H := n0_; clear n0_; clear hcx_ mx_) | ((with_reducible refine gate_dst (N := 6) rfl ?_); refine ev_var (y := .tmp 16) rfl rfl rfl rfl rfl H.out.f.2 rfl rfl ?_; intro gm wv hg_ h1_ hb_; have n0_ := Aside0.mk ((H.out.on hb_).add (sta_blk _ _) (h1_)); clear H; have H := n0_; clear n0_; clear h1_ hb_ hg_))
  go_upto_region 4 with (first | ((with_reducible refine gate_dst (N := 18) rfl ?_); (try (refine gate_guard (by rfl) ?_; dsimp only)); refine ev_get (x := .tmp 6) rfl rfl rfl H.out.f.2 H.out.f.1.2 ?_) | (go_at_call 16; (with_reducible refine (WriteC.c (show WriteC 16 0 (mk8 3 bl) R0 from by rw [El.out]; exact HW0.out) H.out.f.1.2).mono ?_); rintro en wa1 ⟨Aa, ca, rfl, hz_, hr_, hb_⟩; have n0_ := Aside0.mk ((H.out.on hb_).add (sta_C _ _ _ _) (hr_)); clear H; have H := n0_; clear n0_; have Za := Aside0.mk hz_; clear hb_ hr_ hz_))
  go_upto_region 5 with (first | ((with_reducible refine gate_dst (N := 23) rfl ?_); (try (refine gate_guard (by rfl) ?_; dsimp only)); refine ev_get (x := .tmp 6) rfl rfl rfl H.out.f.1.2 H.out.f.1.1.2 ?_) | (go_at_call 16; (with_reducible refine (WriteC.c (show WriteC 16 1 (mk8 3 bl) R1 from by rw [El.out]; exact HW1.out) H.out.f.1.1.2).mono ?_); rintro en wb1 ⟨Ab, cb, rfl, hz_, hr_, hb_⟩; have n0_ := Aside0.mk ((H.out.on hb_).add (sta_C _ _ _ _) (hr_)); clear H; have H := n0_; clear n0_; have Zb := Aside0.mk hz_; clear hb_ hr_ hz_))
  go_wp2_with (first | (go_at_call 19; (with_reducible refine ((show Calls Try.prog 19 #[.int .u16 3] _ (fun en w' => en = .returned (.bool true) ∧ Below _ _ w') from by rw [← HSB.out]; exact DiagR.rsub_c HS0.out _)).mono ?_); rintro en wsu ⟨rfl, hb_⟩; have n0_ := Aside0.mk (H.out.on hb_); clear H; have H := n0_; clear n0_; clear hb_))
  go_ret
  exact ⟨by first | rfl | (simp [same_refl]; done), H.out.b⟩
theorem Subs_4_1 {v : Int} {w : World} (h16 : is16 [4, v]) (hv : 0 ≤ v ∧ v < 65536) (hsb : subB 4 = true) (w0 : write 0 (mk8 4 [v]) = (putL [4, v], 0)) (w1 : write 1 (mk8 4 [v]) = (([] : List Int), 1)) (hz : v = 0) :
    Calls Try.prog 9 #[.int .u16 4, .int .u16 v] w fun en w' => en = .returned (.bool true) ∧ Below w.heap.size w w' := by
  have H := Aside0.mk (Hd.start w)
  have v0 : (v == 0) = true := beq_iff_eq.2 hz
  have HW0 := Aside0.mk (show WriteC 16 0 (mk8 4 [v]) (putL [4, v], 0) from mk8_c h16 (by simp) w0)
  have HW1 := Aside0.mk (show WriteC 16 1 (mk8 4 [v]) (([] : List Int), 1) from mk8_c h16 (by simp) w1)
  have HS0 := Aside0.mk (h16 4 List.mem_cons_self)
  have HS := Aside0.mk h16
  have HV := Aside0.mk hv
  have HSB := Aside0.mk hsb
  clear h16 w0 w1 hv hsb hz
  go_enter Try.func9, Try.ntmps9
  go_upto_region 2 with (first | (go_at_call 11; (with_reducible refine (awake_any _).mono ?_); rintro en wa ⟨rfl, hb_⟩; have n0_ := Aside0.mk (H.out.on hb_); clear H; have H := n0_; clear n0_; clear hb_))
  go_upto_region 3 with (first | ((with_reducible refine gate_dst (N := 15) rfl ?_); (try (refine gate_guard (by rfl) ?_; dsimp only)); refine ev_lit .u16 [v] 24 rfl (by first | (go_simp; done) | (go_simp; rfl)) (by simp) ?_; intro Al cl wl bl he_ hr_ hz_ hb_; have Zl := Aside0.mk hz_; have El := Aside0.mk he_; have n0_ := Aside0.mk ((H.out.on hb_).add (sta_C _ _ _ _) (hr_)); clear H; have H := n0_; clear n0_; clear hr_ hz_ hb_ he_) | ((with_reducible refine gate_dst (N := 16) rfl ?_); (try (refine gate_guard (by rfl) ?_; dsimp only)); refine ev_build (((zeroC.setIfInBounds 0 (.int .u8 8)).setIfInBounds 8 (.int .u16 4)).setIfInBounds 12 (.slice Al bl.length cl)) rfl (by first | (go_simp; done) | (go_simp; rfl)) ?_; intro cm hcx_; have mx_ := (show IsMsg _ (((zeroC.setIfInBounds 0 (.int .u8 8)).setIfInBounds 8 (.int .u16 4)).setIfInBounds 12 (.slice Al bl.length cl)) (mk8 4 bl) from mk8_is (by rw [El.out]; exact HS.out) H.out.f.2 Zl.out); rw [← hcx_] at mx_; have n0_ := Aside0.mk ((H.out).add (sta_msg _ _) (mx_)); clear H; have H := n0_; clear n0_; clear hcx_ mx_) | ((with_reducible refine gate_dst (N := 6) rfl ?_); refine ev_var (y := .tmp 16) rfl rfl rfl rfl rfl H.out.f.2 rfl rfl ?_; intro gm wv hg_ h1_ hb_; have n0_ := Aside0.mk ((H.out.on hb_).add (sta_blk _ _) (h1_)); clear H; have H := n0_; clear n0_; clear h1_ hb_ hg_))
  go_upto_region 4 with (first | ((with_reducible refine gate_dst (N := 18) rfl ?_); (try (refine gate_guard (by rfl) ?_; dsimp only)); refine ev_get (x := .tmp 6) rfl rfl rfl H.out.f.2 H.out.f.1.2 ?_) | (go_at_call 16; (with_reducible refine (WriteC.n (show WriteC 16 0 (mk8 4 bl) (putL [4, v], 0) from by rw [El.out]; exact HW0.out) (n := 4) rfl H.out.f.1.2).mono ?_); rintro en wa1 ⟨Aa, ca, rfl, hz_, hr_, hb_⟩; have n0_ := Aside0.mk ((H.out.on hb_).add (sta_C _ _ _ _) (hr_)); clear H; have H := n0_; clear n0_; have Za := Aside0.mk hz_; clear hb_ hr_ hz_))
  go_upto_region 5 with (first | ((with_reducible refine gate_dst (N := 23) rfl ?_); (try (refine gate_guard (by rfl) ?_; dsimp only)); refine ev_get (x := .tmp 6) rfl rfl rfl H.out.f.1.2 H.out.f.1.1.2 ?_) | (go_at_call 16; (with_reducible refine (WriteC.n (show WriteC 16 1 (mk8 4 bl) (([] : List Int), 1) from by rw [El.out]; exact HW1.out) (n := 0) rfl H.out.f.1.1.2).mono ?_); rintro en wb1 ⟨Ab, cb, rfl, hz_, hr_, hb_⟩; have n0_ := Aside0.mk ((H.out.on hb_).add (sta_C _ _ _ _) (hr_)); clear H; have H := n0_; clear n0_; have Zb := Aside0.mk hz_; clear hb_ hr_ hz_))
  go_wp2_with (first | (go_at_call 19; (with_reducible refine ((show Calls Try.prog 19 #[.int .u16 4] _ (fun en w' => en = .returned (.bool true) ∧ Below _ _ w') from by rw [← HSB.out]; exact DiagR.rsub_c HS0.out _)).mono ?_); rintro en wsu ⟨rfl, hb_⟩; have n0_ := Aside0.mk (H.out.on hb_); clear H; have H := n0_; clear n0_; clear hb_))
  go_ret
  exact ⟨by first | rfl | (simp [same_refl]; done), H.out.b⟩
theorem Subs_4_0 {v : Int} {w : World} {R1 : List Int × Int} (h16 : is16 [4, v]) (hv : 0 ≤ v ∧ v < 65536) (hsb : subB 4 = true) (w0 : write 0 (mk8 4 [v]) = (([] : List Int), 1)) (w1 : write 1 (mk8 4 [v]) = R1) (hz : v ≠ 0) :
    Calls Try.prog 9 #[.int .u16 4, .int .u16 v] w fun en w' => en = .returned (.bool true) ∧ Below w.heap.size w w' := by
  have H := Aside0.mk (Hd.start w)
  have v0 : (v == 0) = false := beq_eq_false_iff_ne.2 hz
  have HW0 := Aside0.mk (show WriteC 16 0 (mk8 4 [v]) (([] : List Int), 1) from mk8_c h16 (by simp) w0)
  have HW1 := Aside0.mk (show WriteC 16 1 (mk8 4 [v]) R1 from mk8_c h16 (by simp) w1)
  have HS0 := Aside0.mk (h16 4 List.mem_cons_self)
  have HS := Aside0.mk h16
  have HV := Aside0.mk hv
  have HSB := Aside0.mk hsb
  clear h16 w0 w1 hv hsb hz
  go_enter Try.func9, Try.ntmps9
  go_upto_region 2 with (first | (go_at_call 11; (with_reducible refine (awake_any _).mono ?_); rintro en wa ⟨rfl, hb_⟩; have n0_ := Aside0.mk (H.out.on hb_); clear H; have H := n0_; clear n0_; clear hb_))
  go_upto_region 3 with (first | ((with_reducible refine gate_dst (N := 15) rfl ?_); (try (refine gate_guard (by rfl) ?_; dsimp only)); refine ev_lit .u16 [v] 24 rfl (by first | (go_simp; done) | (go_simp; rfl)) (by simp) ?_; intro Al cl wl bl he_ hr_ hz_ hb_; have Zl := Aside0.mk hz_; have El := Aside0.mk he_; have n0_ := Aside0.mk ((H.out.on hb_).add (sta_C _ _ _ _) (hr_)); clear H; have H := n0_; clear n0_; clear hr_ hz_ hb_ he_) | ((with_reducible refine gate_dst (N := 16) rfl ?_); (try (refine gate_guard (by rfl) ?_; dsimp only)); refine ev_build (((zeroC.setIfInBounds 0 (.int .u8 8)).setIfInBounds 8 (.int .u16 4)).setIfInBounds 12 (.slice Al bl.length cl)) rfl (by first | (go_simp; done) | (go_simp; rfl)) ?_; intro cm hcx_; have mx_ := (show IsMsg _ (((zeroC.setIfInBounds 0 (.int .u8 8)).setIfInBounds 8 (.int .u16 4)).setIfInBounds 12 (.slice Al bl.length cl)) (mk8 4 bl) from mk8_is (by rw [El.out]; exact HS.out) H.out.f.2 Zl.out); rw [← hcx_] at mx_; have n0_ := Aside0.mk ((H.out).add (sta_msg _ _) (mx_)); clear H; have H := n0_; clear n0_; clear hcx_ mx_) | ((with_reducible refine gate_dst (N := 6) rfl ?_); refine ev_var (y := .tmp 16) rfl rfl rfl rfl rfl H.out.f.2 rfl rfl ?_; intro gm wv hg_ h1_ hb_; have n0_ := Aside0.mk ((H.out.on hb_).add (sta_blk _ _) (h1_)); clear H; have H := n0_; clear n0_; clear h1_ hb_ hg_))
  go_upto_region 4 with (first | ((with_reducible refine gate_dst (N := 18) rfl ?_); (try (refine gate_guard (by rfl) ?_; dsimp only)); refine ev_get (x := .tmp 6) rfl rfl rfl H.out.f.2 H.out.f.1.2 ?_) | (go_at_call 16; (with_reducible refine (WriteC.n (show WriteC 16 0 (mk8 4 bl) (([] : List Int), 1) from by rw [El.out]; exact HW0.out) (n := 0) rfl H.out.f.1.2).mono ?_); rintro en wa1 ⟨Aa, ca, rfl, hz_, hr_, hb_⟩; have n0_ := Aside0.mk ((H.out.on hb_).add (sta_C _ _ _ _) (hr_)); clear H; have H := n0_; clear n0_; have Za := Aside0.mk hz_; clear hb_ hr_ hz_))
  go_upto_region 5 with (first | ((with_reducible refine gate_dst (N := 23) rfl ?_); (try (refine gate_guard (by rfl) ?_; dsimp only)); refine ev_get (x := .tmp 6) rfl rfl rfl H.out.f.1.2 H.out.f.1.1.2 ?_) | (go_at_call 16; (with_reducible refine (WriteC.c (show WriteC 16 1 (mk8 4 bl) R1 from by rw [El.out]; exact HW1.out) H.out.f.1.1.2).mono ?_); rintro en wb1 ⟨Ab, cb, rfl, hz_, hr_, hb_⟩; have n0_ := Aside0.mk ((H.out.on hb_).add (sta_C _ _ _ _) (hr_)); clear H; have H := n0_; clear n0_; have Zb := Aside0.mk hz_; clear hb_ hr_ hz_))
  go_wp2_with (first | (go_at_call 19; (with_reducible refine ((show Calls Try.prog 19 #[.int .u16 4] _ (fun en w' => en = .returned (.bool true) ∧ Below _ _ w') from by rw [← HSB.out]; exact DiagR.rsub_c HS0.out _)).mono ?_); rintro en wsu ⟨rfl, hb_⟩; have n0_ := Aside0.mk (H.out.on hb_); clear H; have H := n0_; clear n0_; clear hb_))
  go_ret
  exact ⟨by first | rfl | (simp [same_refl]; done), H.out.b⟩
theorem Subs_10_1 {v : Int} {w : World} (h16 : is16 [10, v]) (hv : 0 ≤ v ∧ v < 65536) (hsb : subB 10 = true) (w0 : write 0 (mk8 10 [v]) = (putL [10, v], 0)) (w1 : write 1 (mk8 10 [v]) = (putL [10, v], 0)) (hz : v = 0) :
    Calls Try.prog 9 #[.int .u16 10, .int .u16 v] w fun en w' => en = .returned (.bool true) ∧ Below w.heap.size w w' := by
  have H := Aside0.mk (Hd.start w)
  have v0 : (v == 0) = true := beq_iff_eq.2 hz
  have HW0 := Aside0.mk (show WriteC 16 0 (mk8 10 [v]) (putL [10, v], 0) from mk8_c h16 (by simp) w0)
  have HW1 := Aside0.mk (show WriteC 16 1 (mk8 10 [v]) (putL [10, v], 0) from mk8_c h16 (by simp) w1)
  have HS0 := Aside0.mk (h16 10 List.mem_cons_self)
  have HS := Aside0.mk h16
  have HV := Aside0.mk hv
  have HSB := Aside0.mk hsb
  clear h16 w0 w1 hv hsb hz
  go_enter Try.func9, Try.ntmps9
  go_upto_region 2 with (first | (go_at_call 11; (with_reducible refine (awake_any _).mono ?_); rintro en wa ⟨rfl, hb_⟩; have n0_ := Aside0.mk (H.out.on hb_); clear H; have H := n0_; clear n0_; clear hb_))
  go_upto_region 3 with (first | ((with_reducible refine gate_dst (N := 15) rfl ?_); (try (refine gate_guard (by rfl) ?_; dsimp only)); refine ev_lit .u16 [v] 24 rfl (by first | (go_simp; done) | (go_simp; rfl)) (by simp) ?_; intro Al cl wl bl he_ hr_ hz_ hb_; have Zl := Aside0.mk hz_; have El := Aside0.mk he_; have n0_ := Aside0.mk ((H.out.on hb_).add (sta_C _ _ _ _) (hr_)); clear H; have H := n0_; clear n0_; clear hr_ hz_ hb_ he_) | ((with_reducible refine gate_dst (N := 16) rfl ?_); (try (refine gate_guard (by rfl) ?_; dsimp only)); refine ev_build (((zeroC.setIfInBounds 0 (.int .u8 8)).setIfInBounds 8 (.int .u16 10)).setIfInBounds 12 (.slice Al bl.length cl)) rfl (by first | (go_simp; done) | (go_simp; rfl)) ?_; intro cm hcx_; have mx_ := (show IsMsg _ (((zeroC.setIfInBounds 0 (.int .u8 8)).setIfInBounds 8 (.int .u16 10)).setIfInBounds 12 (.slice Al bl.length cl)) (mk8 10 bl) from mk8_is (by rw [El.out]; exact HS.out) H.out.f.2 Zl.out); rw [← hcx_] at mx_; have n0_ := Aside0.mk ((H.out).add (sta_msg _ _) (mx_)); clear H; have H := n0_; clear n0_; clear hcx_ mx_) | ((with_reducible refine gate_dst (N := 6) rfl ?_); refine ev_var (y := .tmp 16) rfl rfl rfl rfl rfl H.out.f.2 rfl rfl ?_; intro gm wv hg_ h1_ hb_; have n0_ := Aside0.mk ((H.out.on hb_).add (sta_blk _ _) (h1_)); clear H; have H := n0_; clear n0_; clear h1_ hb_ hg_))
  go_upto_region 4 with (first | ((with_reducible refine gate_dst (N := 18) rfl ?_); (try (refine gate_guard (by rfl) ?_; dsimp only)); refine ev_get (x := .tmp 6) rfl rfl rfl H.out.f.2 H.out.f.1.2 ?_) | (go_at_call 16; (with_reducible refine (WriteC.n (show WriteC 16 0 (mk8 10 bl) (putL [10, v], 0) from by rw [El.out]; exact HW0.out) (n := 4) rfl H.out.f.1.2).mono ?_); rintro en wa1 ⟨Aa, ca, rfl, hz_, hr_, hb_⟩; have n0_ := Aside0.mk ((H.out.on hb_).add (sta_C _ _ _ _) (hr_)); clear H; have H := n0_; clear n0_; have Za := Aside0.mk hz_; clear hb_ hr_ hz_))
  go_upto_region 5 with (first | ((with_reducible refine gate_dst (N := 23) rfl ?_); (try (refine gate_guard (by rfl) ?_; dsimp only)); refine ev_get (x := .tmp 6) rfl rfl rfl H.out.f.1.2 H.out.f.1.1.2 ?_) | (go_at_call 16; (with_reducible refine (WriteC.n (show WriteC 16 1 (mk8 10 bl) (putL [10, v], 0) from by rw [El.out]; exact HW1.out) (n := 4) rfl H.out.f.1.1.2).mono ?_); rintro en wb1 ⟨Ab, cb, rfl, hz_, hr_, hb_⟩; have n0_ := Aside0.mk ((H.out.on hb_).add (sta_C _ _ _ _) (hr_)); clear H; have H := n0_; clear n0_; have Zb := Aside0.mk hz_; clear hb_ hr_ hz_))
  go_wp2_with (first | (go_at_call 19; (with_reducible refine ((show Calls Try.prog 19 #[.int .u16 10] _ (fun en w' => en = .returned (.bool true) ∧ Below _ _ w') from by rw [← HSB.out]; exact DiagR.rsub_c HS0.out _)).mono ?_); rintro en wsu ⟨rfl, hb_⟩; have n0_ := Aside0.mk (H.out.on hb_); clear H; have H := n0_; clear n0_; clear hb_))
  go_ret
  exact ⟨by first | rfl | (simp [same_refl]; done), H.out.b⟩
theorem Subs_10_0 {v : Int} {w : World} {R1 : List Int × Int} (h16 : is16 [10, v]) (hv : 0 ≤ v ∧ v < 65536) (hsb : subB 10 = true) (w0 : write 0 (mk8 10 [v]) = (([] : List Int), 1)) (w1 : write 1 (mk8 10 [v]) = R1) (hz : v ≠ 0) :
    Calls Try.prog 9 #[.int .u16 10, .int .u16 v] w fun en w' => en = .returned (.bool true) ∧ Below w.heap.size w w' := by
  have H := Aside0.mk (Hd.start w)
  have v0 : (v == 0) = false := beq_eq_false_iff_ne.2 hz
  have HW0 := Aside0.mk (show WriteC 16 0 (mk8 10 [v]) (([] : List Int), 1) from mk8_c h16 (by simp) w0)
  have HW1 := Aside0.mk (show WriteC 16 1 (mk8 10 [v]) R1 from mk8_c h16 (by simp) w1)
  have HS0 := Aside0.mk (h16 10 List.mem_cons_self)
  have HS := Aside0.mk h16
  have HV := Aside0.mk hv
  have HSB := Aside0.mk hsb
  clear h16 w0 w1 hv hsb hz
  go_enter Try.func9, Try.ntmps9
  go_upto_region 2 with (first | (go_at_call 11; (with_reducible refine (awake_any _).mono ?_); rintro en wa ⟨rfl, hb_⟩; have n0_ := Aside0.mk (H.out.on hb_); clear H; have H := n0_; clear n0_; clear hb_))
  go_upto_region 3 with (first | ((with_reducible refine gate_dst (N := 15) rfl ?_); (try (refine gate_guard (by rfl) ?_; dsimp only)); refine ev_lit .u16 [v] 24 rfl (by first | (go_simp; done) | (go_simp; rfl)) (by simp) ?_; intro Al cl wl bl he_ hr_ hz_ hb_; have Zl := Aside0.mk hz_; have El := Aside0.mk he_; have n0_ := Aside0.mk ((H.out.on hb_).add (sta_C _ _ _ _) (hr_)); clear H; have H := n0_; clear n0_; clear hr_ hz_ hb_ he_) | ((with_reducible refine gate_dst (N := 16) rfl ?_); (try (refine gate_guard (by rfl) ?_; dsimp only)); refine ev_build (((zeroC.setIfInBounds 0 (.int .u8 8)).setIfInBounds 8 (.int .u16 10)).setIfInBounds 12 (.slice Al bl.length cl)) rfl (by first | (go_simp; done) | (go_simp; rfl)) ?_; intro cm hcx_; have mx_ := (show IsMsg _ (((zeroC.setIfInBounds 0 (.int .u8 8)).setIfInBounds 8 (.int .u16 10)).setIfInBounds 12 (.slice Al bl.length cl)) (mk8 10 bl) from mk8_is (by rw [El.out]; exact HS.out) H.out.f.2 Zl.out); rw [← hcx_] at mx_; have n0_ := Aside0.mk ((H.out).add (sta_msg _ _) (mx_)); clear H; have H := n0_; clear n0_; clear hcx_ mx_) | ((with_reducible refine gate_dst (N := 6) rfl ?_); refine ev_var (y := .tmp 16) rfl rfl rfl rfl rfl H.out.f.2 rfl rfl ?_; intro gm wv hg_ h1_ hb_; have n0_ := Aside0.mk ((H.out.on hb_).add (sta_blk _ _) (h1_)); clear H; have H := n0_; clear n0_; clear h1_ hb_ hg_))
  go_upto_region 4 with (first | ((with_reducible refine gate_dst (N := 18) rfl ?_); (try (refine gate_guard (by rfl) ?_; dsimp only)); refine ev_get (x := .tmp 6) rfl rfl rfl H.out.f.2 H.out.f.1.2 ?_) | (go_at_call 16; (with_reducible refine (WriteC.n (show WriteC 16 0 (mk8 10 bl) (([] : List Int), 1) from by rw [El.out]; exact HW0.out) (n := 0) rfl H.out.f.1.2).mono ?_); rintro en wa1 ⟨Aa, ca, rfl, hz_, hr_, hb_⟩; have n0_ := Aside0.mk ((H.out.on hb_).add (sta_C _ _ _ _) (hr_)); clear H; have H := n0_; clear n0_; have Za := Aside0.mk hz_; clear hb_ hr_ hz_))
  go_upto_region 5 with (first | ((with_reducible refine gate_dst (N := 23) rfl ?_); (try (refine gate_guard (by rfl) ?_; dsimp only)); refine ev_get (x := .tmp 6) rfl rfl rfl H.out.f.1.2 H.out.f.1.1.2 ?_) | (go_at_call 16; (with_reducible refine (WriteC.c (show WriteC 16 1 (mk8 10 bl) R1 from by rw [El.out]; exact HW1.out) H.out.f.1.1.2).mono ?_); rintro en wb1 ⟨Ab, cb, rfl, hz_, hr_, hb_⟩; have n0_ := Aside0.mk ((H.out.on hb_).add (sta_C _ _ _ _) (hr_)); clear H; have H := n0_; clear n0_; have Zb := Aside0.mk hz_; clear hb_ hr_ hz_))
  go_wp2_with (first | (go_at_call 19; (with_reducible refine ((show Calls Try.prog 19 #[.int .u16 10] _ (fun en w' => en = .returned (.bool true) ∧ Below _ _ w') from by rw [← HSB.out]; exact DiagR.rsub_c HS0.out _)).mono ?_); rintro en wsu ⟨rfl, hb_⟩; have n0_ := Aside0.mk (H.out.on hb_); clear H; have H := n0_; clear n0_; clear hb_))
  go_ret
  exact ⟨by first | rfl | (simp [same_refl]; done), H.out.b⟩
theorem Subs_20_1 {v : Int} {w : World} (h16 : is16 [20, v]) (hv : 0 ≤ v ∧ v < 65536) (hsb : subB 20 = true) (w0 : write 0 (mk8 20 [v]) = (putL [20, v], 0)) (w1 : write 1 (mk8 20 [v]) = (putL [20, v], 0)) (hz : v = 0) :
    Calls Try.prog 9 #[.int .u16 20, .int .u16 v] w fun en w' => en = .returned (.bool true) ∧ Below w.heap.size w w' := by
  have H := Aside0.mk (Hd.start w)
  have v0 : (v == 0) = true := beq_iff_eq.2 hz
  have HW0 := Aside0.mk (show WriteC 16 0 (mk8 20 [v]) (putL [20, v], 0) from mk8_c h16 (by simp) w0)
  have HW1 := Aside0.mk (show WriteC 16 1 (mk8 20 [v]) (putL [20, v], 0) from mk8_c h16 (by simp) w1)
  have HS0 := Aside0.mk (h16 20 List.mem_cons_self)
  have HS := Aside0.mk h16
  have HV := Aside0.mk hv
  have HSB := Aside0.mk hsb
  clear h16 w0 w1 hv hsb hz
  go_enter Try.func9, Try.ntmps9
  go_upto_region 2 with (first | (go_at_call 11; (with_reducible refine (awake_any _).mono ?_); rintro en wa ⟨rfl, hb_⟩; have n0_ := Aside0.mk (H.out.on hb_); clear H; have H := n0_; clear n0_; clear hb_))
  go_upto_region 3 with (first | ((with_reducible refine gate_dst (N := 15) rfl ?_); (try (refine gate_guard (by rfl) ?_; dsimp only)); refine ev_lit .u16 [v] 24 rfl (by first | (go_simp; done) | (go_simp; rfl)) (by simp) ?_; intro Al cl wl bl he_ hr_ hz_ hb_; have Zl := Aside0.mk hz_; have El := Aside0.mk he_; have n0_ := Aside0.mk ((H.out.on hb_).add (sta_C _ _ _ _) (hr_)); clear H; have H := n0_; clear n0_; clear hr_ hz_ hb_ he_) | ((with_reducible refine gate_dst (N := 16) rfl ?_); (try (refine gate_guard (by rfl) ?_; dsimp only)); refine ev_build (((zeroC.setIfInBounds 0 (.int .u8 8)).setIfInBounds 8 (.int .u16 20)).setIfInBounds 12 (.slice Al bl.length cl)) rfl (by first | (go_simp; done) | (go_simp; rfl)) ?_; intro cm hcx_; have mx_ := (show IsMsg _ (((zeroC.setIfInBounds 0 (.int .u8 8)).setIfInBounds 8 (.int .u16 20)).setIfInBounds 12 (.slice Al bl.length cl)) (mk8 20 bl) from mk8_is (by rw [El.out]; exact HS.out) H.out.f.2 Zl.out); rw [← hcx_] at mx_; have n0_ := Aside0.mk ((H.out).add (sta_msg _ _) (mx_)); clear H; have H := n0_; clear n0_; clear hcx_ mx_) | ((with_reducible refine gate_dst (N := 6) rfl ?_); refine ev_var (y := .tmp 16) rfl rfl rfl rfl rfl H.out.f.2 rfl rfl ?_; intro gm wv hg_ h1_ hb_; have n0_ := Aside0.mk ((H.out.on hb_).add (sta_blk _ _) (h1_)); clear H; have H := n0_; clear n0_; clear h1_ hb_ hg_))
  go_upto_region 4 with (first | ((with_reducible refine gate_dst (N := 18) rfl ?_); (try (refine gate_guard (by rfl) ?_; dsimp only)); refine ev_get (x := .tmp 6) rfl rfl rfl H.out.f.2 H.out.f.1.2 ?_) | (go_at_call 16; (with_reducible refine (WriteC.n (show WriteC 16 0 (mk8 20 bl) (putL [20, v], 0) from by rw [El.out]; exact HW0.out) (n := 4) rfl H.out.f.1.2).mono ?_); rintro en wa1 ⟨Aa, ca, rfl, hz_, hr_, hb_⟩; have n0_ := Aside0.mk ((H.out.on hb_).add (sta_C _ _ _ _) (hr_)); clear H; have H := n0_; clear n0_; have Za := Aside0.mk hz_; clear hb_ hr_ hz_))
  go_upto_region 5 with (first | ((with_reducible refine gate_dst (N := 23) rfl ?_); (try (refine gate_guard (by rfl) ?_; dsimp only)); refine ev_get (x := .tmp 6) rfl rfl rfl H.out.f.1.2 H.out.f.1.1.2 ?_) | (go_at_call 16; (with_reducible refine (WriteC.n (show WriteC 16 1 (mk8 20 bl) (putL [20, v], 0) from by rw [El.out]; exact HW1.out) (n := 4) rfl H.out.f.1.1.2).mono ?_); rintro en wb1 ⟨Ab, cb, rfl, hz_, hr_, hb_⟩; have n0_ := Aside0.mk ((H.out.on hb_).add (sta_C _ _ _ _) (hr_)); clear H; have H := n0_; clear n0_; have Zb := Aside0.mk hz_; clear hb_ hr_ hz_))
  go_wp2_with (first | (go_at_call 19; (with_reducible refine ((show Calls Try.prog 19 #[.int .u16 20] _ (fun en w' => en = .returned (.bool true) ∧ Below _ _ w') from by rw [← HSB.out]; exact DiagR.rsub_c HS0.out _)).mono ?_); rintro en wsu ⟨rfl, hb_⟩; have n0_ := Aside0.mk (H.out.on hb_); clear H; have H := n0_; clear n0_; clear hb_))
  go_ret
  exact ⟨by first | rfl | (simp [same_refl]; done), H.out.b⟩
theorem Subs_20_0 {v : Int} {w : World} {R1 : List Int × Int} (h16 : is16 [20, v]) (hv : 0 ≤ v ∧ v < 65536) (hsb : subB 20 = true) (w0 : write 0 (mk8 20 [v]) = (([] : List Int), 1)) (w1 : write 1 (mk8 20 [v]) = R1) (hz : v ≠ 0) :
    Calls Try.prog 9 #[.int .u16 20, .int .u16 v] w fun en w' => en = .returned (.bool true) ∧ Below w.heap.size w w' := by
  have H := Aside0.mk (Hd.start w)
  have v0 : (v == 0) = false := beq_eq_false_iff_ne.2 hz
  have HW0 := Aside0.mk (show WriteC 16 0 (mk8 20 [v]) (([] : List Int), 1) from mk8_c h16 (by simp) w0)
  have HW1 := Aside0.mk (show WriteC 16 1 (mk8 20 [v]) R1 from mk8_c h16 (by simp) w1)
  have HS0 := Aside0.mk (h16 20 List.mem_cons_self)
  have HS := Aside0.mk h16
  have HV := Aside0.mk hv
  have HSB := Aside0.mk hsb
  clear h16 w0 w1 hv hsb hz
  go_enter Try.func9, Try.ntmps9
  go_upto_region 2 with (first | (go_at_call 11; (with_reducible refine (awake_any _).mono ?_); rintro en wa ⟨rfl, hb_⟩; have n0_ := Aside0.mk (H.out.on hb_); clear H; have H := n0_; clear n0_; clear hb_))
  go_upto_region 3 with (first | ((with_reducible refine gate_dst (N := 15) rfl ?_); (try (refine gate_guard (by rfl) ?_; dsimp only)); refine ev_lit .u16 [v] 24 rfl (by first | (go_simp; done) | (go_simp; rfl)) (by simp) ?_; intro Al cl wl bl he_ hr_ hz_ hb_; have Zl := Aside0.mk hz_; have El := Aside0.mk he_; have n0_ := Aside0.mk ((H.out.on hb_).add (sta_C _ _ _ _) (hr_)); clear H; have H := n0_; clear n0_; clear hr_ hz_ hb_ he_) | ((with_reducible refine gate_dst (N := 16) rfl ?_); (try (refine gate_guard (by rfl) ?_; dsimp only)); refine ev_build (((zeroC.setIfInBounds 0 (.int .u8 8)).setIfInBounds 8 (.int .u16 20)).setIfInBounds 12 (.slice Al bl.length cl)) rfl (by first | (go_simp; done) | (go_simp; rfl)) ?_; intro cm hcx_; have mx_ := (show IsMsg _ (((zeroC.setIfInBounds 0 (.int .u8 8)).setIfInBounds 8 (.int .u16 20)).setIfInBounds 12 (.slice Al bl.length cl)) (mk8 20 bl) from mk8_is (by rw [El.out]; exact HS.out) H.out.f.2 Zl.out); rw [← hcx_] at mx_; have n0_ := Aside0.mk ((H.out).add (sta_msg _ _) (mx_)); clear H; have H := n0_; clear n0_; clear hcx_ mx_) | ((with_reducible refine gate_dst (N := 6) rfl ?_); refine ev_var (y := .tmp 16) rfl rfl rfl rfl rfl H.out.f.2 rfl rfl ?_; intro gm wv hg_ h1_ hb_; have n0_ := Aside0.mk ((H.out.on hb_).add (sta_blk _ _) (h1_)); clear H; have H := n0_; clear n0_; clear h1_ hb_ hg_))
  go_upto_region 4 with (first | ((with_reducible refine gate_dst (N := 18) rfl ?_); (try (refine gate_guard (by rfl) ?_; dsimp only)); refine ev_get (x := .tmp 6) rfl rfl rfl H.out.f.2 H.out.f.1.2 ?_) | (go_at_call 16; (with_reducible refine (WriteC.n (show WriteC 16 0 (mk8 20 bl) (([] : List Int), 1) from by rw [El.out]; exact HW0.out) (n := 0) rfl H.out.f.1.2).mono ?_); rintro en wa1 ⟨Aa, ca, rfl, hz_, hr_, hb_⟩; have n0_ := Aside0.mk ((H.out.on hb_).add (sta_C _ _ _ _) (hr_)); clear H; have H := n0_; clear n0_; have Za := Aside0.mk hz_; clear hb_ hr_ hz_))
  go_upto_region 5 with (first | ((with_reducible refine gate_dst (N := 23) rfl ?_); (try (refine gate_guard (by rfl) ?_; dsimp only)); refine ev_get (x := .tmp 6) rfl rfl rfl H.out.f.1.2 H.out.f.1.1.2 ?_) | (go_at_call 16; (with_reducible refine (WriteC.c (show WriteC 16 1 (mk8 20 bl) R1 from by rw [El.out]; exact HW1.out) H.out.f.1.1.2).mono ?_); rintro en wb1 ⟨Ab, cb, rfl, hz_, hr_, hb_⟩; have n0_ := Aside0.mk ((H.out.on hb_).add (sta_C _ _ _ _) (hr_)); clear H; have H := n0_; clear n0_; have Zb := Aside0.mk hz_; clear hb_ hr_ hz_))
  go_wp2_with (first | (go_at_call 19; (with_reducible refine ((show Calls Try.prog 19 #[.int .u16 20] _ (fun en w' => en = .returned (.bool true) ∧ Below _ _ w') from by rw [← HSB.out]; exact DiagR.rsub_c HS0.out _)).mono ?_); rintro en wsu ⟨rfl, hb_⟩; have n0_ := Aside0.mk (H.out.on hb_); clear H; have H := n0_; clear n0_; clear hb_))
  go_ret
  exact ⟨by first | rfl | (simp [same_refl]; done), H.out.b⟩
theorem ok_1 {dir s v : Int} (hs : s ≠ 0) : okL dir s [v] = (subB s && (dir == 0 || s != 4) && mayB dir s v) := by
  unfold okL
  rw [if_neg hs]
  rfl
theorem sub_cases {s : Int} (h : subB s = true) : s = 0 ∨ s = 1 ∨ s = 3 ∨ s = 4 ∨ s = 10 ∨ s = 20 ∨ s = 2 ∨ (11 ≤ s ∧ s ≤ 18) := by
  unfold subB at h
  simp only [bitsubL, List.contains_eq_mem, List.mem_cons, List.not_mem_nil, or_false, decide_eq_true_eq] at h
  omega
theorem busbarlaw10_DiagSubs (s v : Int) (w : World) (hs : (Lit.int .u16 s).wf = true) (hv : (Lit.int .u16 v).wf = true) :
    Calls Try.prog 9 #[.int .u16 s, .int .u16 v] w fun en w' => en = .returned (.bool true) ∧ Below w.heap.size w w' := by
  have hs := u16_wf hs
  have hv := u16_wf hv
  have h16 : is16 [s, v] := is16_2 hs hv
  have w0 := write8 (dir := 0) (.inl rfl) h16
  have w1 := write8 (dir := 1) (.inr rfl) h16
  cases hsb : subB s with
  | false =>
    have n0 : ∀ d, ¬ okL d s [v] = true := fun d h => by
      unfold okL at h
      rw [hsb, Bool.false_and, Bool.false_and] at h
      cases h
    rw [if_neg (n0 0)] at w0
    rw [if_neg (n0 1)] at w1
    exact Subs_no h16 hv hsb w0 w1
  | true =>
  have told : ∀ d : Int, (s = 2 ∨ (11 ≤ s ∧ s ≤ 18)) → okL d s [v] = (decide (d = 1) || v == 0) := fun d ht => by
    rw [ok_1 (by omega), hsb, show (s != 4) = true by rw [bne_iff_ne]; omega, Bool.or_true, Bool.true_and, Bool.true_and]
    unfold mayB
    by_cases hd : d = 1
    · rw [if_pos ⟨ht, hd⟩, decide_eq_true hd, Bool.true_or]
    · rw [if_neg (fun h => hd h.2), if_neg (by omega), if_neg (by omega), decide_eq_false hd, Bool.false_or]
  by_cases ht : s = 2 ∨ (11 ≤ s ∧ s ≤ 18)
  · rw [if_pos (by rw [told 1 ht]; rfl)] at w1
    by_cases hz : v = 0
    · rw [if_pos (by rw [told 0 ht, beq_iff_eq.2 hz]; rfl)] at w0
      rcases ht with rfl | ht
      · exact Subs_2_1 h16 hv hsb w0 w1 hz
      · exact Subs_m_1 h16 hv hsb w0 w1 hz ht
    · rw [if_neg (by rw [told 0 ht, beq_eq_false_iff_ne.2 hz]; decide)] at w0
      rcases ht with rfl | ht
      · exact Subs_2_0 h16 hv hsb w0 w1 hz
      · exact Subs_m_0 h16 hv hsb w0 w1 hz ht
  by_cases hz : v = 0
  · subst hz
    rcases sub_cases hsb with rfl | rfl | rfl | rfl | rfl | rfl | h | h
    · rw [if_pos (by decide)] at w0
      rw [if_pos (by decide)] at w1
      exact Subs_0_1 h16 hv hsb w0 w1 rfl
    · rw [if_pos (by decide)] at w0
      rw [if_pos (by decide)] at w1
      exact Subs_1_1 h16 hv hsb w0 w1 rfl
    · rw [if_pos (by decide)] at w0
      rw [if_pos (by decide)] at w1
      exact Subs_3_1 h16 hv hsb w0 w1 rfl
    · rw [if_pos (by decide)] at w0
      rw [if_neg (by decide)] at w1
      exact Subs_4_1 h16 hv hsb w0 w1 rfl
    · rw [if_pos (by decide)] at w0
      rw [if_pos (by decide)] at w1
      exact Subs_10_1 h16 hv hsb w0 w1 rfl
    · rw [if_pos (by decide)] at w0
      rw [if_pos (by decide)] at w1
      exact Subs_20_1 h16 hv hsb w0 w1 rfl
    · exact absurd (.inl h) ht
    · exact absurd (.inr h) ht
  · rcases sub_cases hsb with rfl | rfl | rfl | rfl | rfl | rfl | h | h
    · exact Subs_0_0 h16 hv hsb rfl rfl hz
    · exact Subs_1_0 h16 hv hsb rfl rfl hz
    · exact Subs_3_0 h16 hv hsb rfl rfl hz
    · rw [if_neg (by rw [ok_1 (by decide)]; unfold mayB; rw [if_neg (by decide), if_neg (by decide), if_neg (by decide), beq_eq_false_iff_ne.2 hz, Bool.and_false]; decide)] at w0
      exact Subs_4_0 h16 hv hsb w0 rfl hz
    · rw [if_neg (by rw [ok_1 (by decide)]; unfold mayB; rw [if_neg (by decide), if_neg (by decide), if_neg (by decide), beq_eq_false_iff_ne.2 hz, Bool.and_false]; decide)] at w0
      exact Subs_10_0 h16 hv hsb w0 rfl hz
    · rw [if_neg (by rw [ok_1 (by decide)]; unfold mayB; rw [if_neg (by decide), if_neg (by decide), if_neg (by decide), beq_eq_false_iff_ne.2 hz, Bool.and_false]; decide)] at w0
      exact Subs_20_0 h16 hv hsb w0 rfl hz
    · exact absurd (.inl h) ht
    · exact absurd (.inr h) ht
end Go.Proofs.Ytalaochocmcbcaa.Laws
end
