/- The law CoilsReads: its walk, and the plain law. Conditions: what each theorem states. -/
import Derived.Test.YtggiobdjepgkfaaOC
set_option linter.unusedVariables false
set_option linter.unusedSimpArgs false
section
namespace Go.Proofs.Ytggiobdjepgkfaa.Laws
open Go.RowKit Go.Proofs.Ytggiobdjepgkfaa.P Go.Proofs.Ytggiobdjepgkfaa.E Go.Proofs.Ytggiobdjepgkfaa.Cur Go.Proofs.Ytggiobdjepgkfaa.Cu Go.Proofs.Ytggiobdjepgkfaa.Same Go.Proofs.Ytggiobdjepgkfaa.Bits Go.Proofs.Ytggiobdjepgkfaa.Put Go.Proofs.Ytggiobdjepgkfaa.Com Go.Proofs.Ytggiobdjepgkfaa.Coil Go.Proofs.YtggiobdjepgkfaaW.PrintWords Go.Proofs.YtggiobdjepgkfaaW.PrintLast Go.Proofs.YtggiobdjepgkfaaW.PrintMore
set_option maxHeartbeats 16000000 in
set_option maxRecDepth 100000 in
theorem CoilsReads_1 {addr count : Int} {w : World} (ha : 0 ≤ addr ∧ addr < 65536) (hk : 0 ≤ count ∧ count < 65536) (hok : inB 2000 addr count) :
    Calls Try.prog 8 #[.int .u16 addr, .int .u16 count] w fun en w' => en = .returned (.bool true) ∧ Below w.heap.size w w' := by
  have H := Aside0.mk (Hd.start w)
  have HA := Aside0.mk ha
  have HK := Aside0.mk hk
  have HW1 := Aside0.mk (show WriteC 17 0 (mkA 1 addr count) (putL [addr, count], 0) from mkA_c (by decide) ha hk (by rw [ask_w (.inl rfl) ha hk, if_pos hok]))
  have HW2 := Aside0.mk (show WriteC 17 0 (mkA 2 addr count) (putL [addr, count], 0) from mkA_c (by decide) ha hk (by rw [ask_w (.inr rfl) ha hk, if_pos hok]))
  have q1 : Int.tdiv addr 256 = addr / 256 := tdiv_id (by omega)
  have q2 : Int.tmod addr 256 = addr % 256 := tmod_id (by omega)
  have q3 : Int.tdiv count 256 = count / 256 := tdiv_id (by omega)
  have q4 : Int.tmod count 256 = count % 256 := tmod_id (by omega)
  have q5 : IntKind.u16.wrap (addr / 256) = addr / 256 := by simp [IntKind.wrap, IntKind.signed, IntKind.bits]; omega
  have q6 : IntKind.u16.wrap (count / 256) = count / 256 := by simp [IntKind.wrap, IntKind.signed, IntKind.bits]; omega
  clear ha hk hok
  go_enter Try.func8, Try.ntmps8
  go_upto_region 2 with (first | (go_at_call 12; (with_reducible refine (awake_any _).mono ?_); rintro en wa ⟨rfl, hb_⟩; have n0_ := Aside0.mk (H.out.on hb_); clear H; have H := n0_; clear n0_; clear hb_))
  go_upto_region 3 with (first | ((with_reducible refine gate_dst (N := 14) rfl ?_); (try (refine gate_guard (by rfl) ?_; dsimp only)); refine ev_build (((zeroC.setIfInBounds 0 (.int .u8 1)).setIfInBounds 2 (.int .u16 addr)).setIfInBounds 3 (.int .u16 count)) rfl (by first | (go_simp; done) | (go_simp; rfl)) ?_; intro cm hcx_; have mx_ := (fun W => (by rw [hcx_]; exact ((fun W => mkA_is (by decide) HA.out HK.out W)) W : IsMsg W cm (mkA 1 addr count))); have n0_ := Aside0.mk ((H.out).add (sta_msg _ _) (mx_ _)); clear H; have H := n0_; clear n0_; clear hcx_ mx_) | (go_at_call 17; (with_reducible refine (WriteC.n HW1.out (n := 4) rfl H.out.f.2).mono ?_); rintro en wb ⟨Ab, cb, rfl, hz_, hr_, hb_⟩; have n0_ := Aside0.mk ((H.out.on hb_).add (sta_C _ _ _ _) (hr_)); clear H; have H := n0_; clear n0_; have Zb := Aside0.mk hz_; clear hb_ hr_ hz_))
  go_upto_region 4 with (first | ((with_reducible refine gate_dst (N := 21) rfl ?_); (try (refine gate_guard (by rfl) ?_; dsimp only)); refine ev_build (((zeroC.setIfInBounds 0 (.int .u8 2)).setIfInBounds 2 (.int .u16 addr)).setIfInBounds 3 (.int .u16 count)) rfl (by first | (go_simp; done) | (go_simp; rfl)) ?_; intro cn hcx_; have mx_ := (fun W => (by rw [hcx_]; exact ((fun W => mkA_is (by decide) HA.out HK.out W)) W : IsMsg W cn (mkA 2 addr count))); have n0_ := Aside0.mk ((H.out).add (sta_msg _ _) (mx_ _)); clear H; have H := n0_; clear n0_; clear hcx_ mx_) | (go_at_call 17; (with_reducible refine (WriteC.n HW2.out (n := 4) rfl H.out.f.2).mono ?_); rintro en wd ⟨Ad, cd, rfl, hz_, hr_, hb_⟩; have n0_ := Aside0.mk ((H.out.on hb_).add (sta_C _ _ _ _) (hr_)); clear H; have H := n0_; clear n0_; have Zd := Aside0.mk hz_; clear hb_ hr_ hz_))
  go_wp2_with (first | (go_at_call 19; (with_reducible refine (same_e (putL_bytes _) rfl (n := 4) (m := 4) rfl rfl H.out.f.1.1.2 Zb.out H.out.f.2 Zd.out).mono ?_); rintro en we ⟨rfl, hb_⟩; have n0_ := Aside0.mk (H.out.on hb_); clear H; have H := n0_; clear n0_; clear hb_) | ((with_reducible refine gate_dst (N := 65) rfl ?_); (try (refine gate_guard (by rfl) ?_; dsimp only)); refine ev_lit .u8 [addr / 256 % 256, addr % 256, count / 256 % 256, count % 256] 5 rfl (by first | (go_simp; done) | (go_simp; rfl)) (by simp) ?_; intro Al cl wl bl he_ hr_ hz_ hb_; have Zl := Aside0.mk hz_; have El := Aside0.mk he_; have n0_ := Aside0.mk ((H.out.on hb_).add (sta_C _ _ _ _) (hr_)); clear H; have H := n0_; clear n0_; clear hr_ hz_ hb_ he_) | (go_at_call 19; (with_reducible refine (same_e (putL_bytes _) El.out (n := 4) rfl rfl H.out.f.1.1.1.2 Zb.out H.out.f.2 Zl.out).mono ?_); rintro en we2 ⟨rfl, hb_⟩; have n0_ := Aside0.mk (H.out.on hb_); clear H; have H := n0_; clear n0_; clear hb_))
  go_ret
  exact ⟨by first | rfl | (simp [same_refl]; done), H.out.b⟩
set_option maxHeartbeats 16000000 in
set_option maxRecDepth 100000 in
theorem CoilsReads_0 {addr count : Int} {w : World} (ha : 0 ≤ addr ∧ addr < 65536) (hk : 0 ≤ count ∧ count < 65536) (hok : ¬ inB 2000 addr count) :
    Calls Try.prog 8 #[.int .u16 addr, .int .u16 count] w fun en w' => en = .returned (.bool true) ∧ Below w.heap.size w w' := by
  have H := Aside0.mk (Hd.start w)
  have HA := Aside0.mk ha
  have HK := Aside0.mk hk
  have HW1 := Aside0.mk (show WriteC 17 0 (mkA 1 addr count) (([] : List Int), 1) from mkA_c (by decide) ha hk (by rw [ask_w (.inl rfl) ha hk, if_neg hok]))
  have HW2 := Aside0.mk (show WriteC 17 0 (mkA 2 addr count) (([] : List Int), 1) from mkA_c (by decide) ha hk (by rw [ask_w (.inr rfl) ha hk, if_neg hok]))
  clear ha hk hok
  go_enter Try.func8, Try.ntmps8
  go_upto_region 2 with (first | (go_at_call 12; (with_reducible refine (awake_any _).mono ?_); rintro en wa ⟨rfl, hb_⟩; have n0_ := Aside0.mk (H.out.on hb_); clear H; have H := n0_; clear n0_; clear hb_))
  go_upto_region 3 with (first | ((with_reducible refine gate_dst (N := 14) rfl ?_); (try (refine gate_guard (by rfl) ?_; dsimp only)); refine ev_build (((zeroC.setIfInBounds 0 (.int .u8 1)).setIfInBounds 2 (.int .u16 addr)).setIfInBounds 3 (.int .u16 count)) rfl (by first | (go_simp; done) | (go_simp; rfl)) ?_; intro cm hcx_; have mx_ := (fun W => (by rw [hcx_]; exact ((fun W => mkA_is (by decide) HA.out HK.out W)) W : IsMsg W cm (mkA 1 addr count))); have n0_ := Aside0.mk ((H.out).add (sta_msg _ _) (mx_ _)); clear H; have H := n0_; clear n0_; clear hcx_ mx_) | (go_at_call 17; (with_reducible refine (WriteC.n HW1.out (n := 0) rfl H.out.f.2).mono ?_); rintro en wb ⟨Ab, cb, rfl, hz_, hr_, hb_⟩; have n0_ := Aside0.mk ((H.out.on hb_).add (sta_C _ _ _ _) (hr_)); clear H; have H := n0_; clear n0_; have Zb := Aside0.mk hz_; clear hb_ hr_ hz_))
  go_upto_region 4 with (first | ((with_reducible refine gate_dst (N := 21) rfl ?_); (try (refine gate_guard (by rfl) ?_; dsimp only)); refine ev_build (((zeroC.setIfInBounds 0 (.int .u8 2)).setIfInBounds 2 (.int .u16 addr)).setIfInBounds 3 (.int .u16 count)) rfl (by first | (go_simp; done) | (go_simp; rfl)) ?_; intro cn hcx_; have mx_ := (fun W => (by rw [hcx_]; exact ((fun W => mkA_is (by decide) HA.out HK.out W)) W : IsMsg W cn (mkA 2 addr count))); have n0_ := Aside0.mk ((H.out).add (sta_msg _ _) (mx_ _)); clear H; have H := n0_; clear n0_; clear hcx_ mx_) | (go_at_call 17; (with_reducible refine (WriteC.n HW2.out (n := 0) rfl H.out.f.2).mono ?_); rintro en wd ⟨Ad, cd, rfl, hz_, hr_, hb_⟩; have n0_ := Aside0.mk ((H.out.on hb_).add (sta_C _ _ _ _) (hr_)); clear H; have H := n0_; clear n0_; have Zd := Aside0.mk hz_; clear hb_ hr_ hz_))
  go_wp2
  go_ret
  exact ⟨by first | rfl | (simp [same_refl]; done), H.out.b⟩
theorem busbarlaw08_CoilsReads (addr count : Int) (w : World) (ha : (Lit.int .u16 addr).wf = true) (hk : (Lit.int .u16 count).wf = true) :
    Calls Try.prog 8 #[.int .u16 addr, .int .u16 count] w fun en w' => en = .returned (.bool true) ∧ Below w.heap.size w w' := by
  by_cases h : inB 2000 addr count
  · exact CoilsReads_1 (u16_wf ha) (u16_wf hk) h
  · exact CoilsReads_0 (u16_wf ha) (u16_wf hk) h
end Go.Proofs.Ytggiobdjepgkfaa.Laws
end
