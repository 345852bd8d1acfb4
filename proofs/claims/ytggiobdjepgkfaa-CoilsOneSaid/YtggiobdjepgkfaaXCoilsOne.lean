/- The law CoilsOne: its walk, and the plain law. Conditions: what each theorem states. -/
import Derived.Test.YtggiobdjepgkfaaOC
set_option linter.unusedVariables false
set_option linter.unusedSimpArgs false
section
namespace Go.Proofs.Ytggiobdjepgkfaa.Laws
open Go.RowKit Go.Proofs.Ytggiobdjepgkfaa.P Go.Proofs.Ytggiobdjepgkfaa.E Go.Proofs.Ytggiobdjepgkfaa.Cur Go.Proofs.Ytggiobdjepgkfaa.Cu Go.Proofs.Ytggiobdjepgkfaa.Same Go.Proofs.Ytggiobdjepgkfaa.Bits Go.Proofs.Ytggiobdjepgkfaa.Put Go.Proofs.Ytggiobdjepgkfaa.Com Go.Proofs.Ytggiobdjepgkfaa.Coil Go.Proofs.YtggiobdjepgkfaaW.PrintWords Go.Proofs.YtggiobdjepgkfaaW.PrintLast Go.Proofs.YtggiobdjepgkfaaW.PrintMore
set_option maxHeartbeats 16000000 in
set_option maxRecDepth 100000 in
theorem CoilsOne_0 {addr : Int} {w : World} (ha : 0 ≤ addr ∧ addr < 65536) :
    Calls Try.prog 10 #[.int .u16 addr, .int .u16 0] w fun en w' => en = .returned (.bool true) ∧ Below w.heap.size w w' := by
  have H := Aside0.mk (Hd.start w)
  have HA := Aside0.mk ha
  have HW0 := Aside0.mk (show WriteC 17 0 (mkV addr 0) (putL [addr, 0], 0) from mkV_c ha (by decide) (by rw [one_w (.inl rfl) ha (by decide), if_pos (by omega)]))
  have HW1 := Aside0.mk (show WriteC 17 1 (mkV addr 0) (putL [addr, 0], 0) from mkV_c ha (by decide) (by rw [one_w (.inr rfl) ha (by decide), if_pos (by omega)]))
  clear ha
  go_enter Try.func10, Try.ntmps10
  go_upto_region 2 with (first | (go_at_call 12; (with_reducible refine (awake_any _).mono ?_); rintro en wa ⟨rfl, hb_⟩; have n0_ := Aside0.mk (H.out.on hb_); clear H; have H := n0_; clear n0_; clear hb_))
  go_upto_region 3 with (first | ((with_reducible refine gate_dst (N := 14) rfl ?_); (try (refine gate_guard (by rfl) ?_; dsimp only)); refine ev_build (((zeroC.setIfInBounds 0 (.int .u8 5)).setIfInBounds 2 (.int .u16 addr)).setIfInBounds 4 (.int .u16 0)) rfl (by first | (go_simp; done) | (go_simp; rfl)) ?_; intro cm hcx_; have mx_ := (fun W => (by rw [hcx_]; exact ((fun W => mkV_is HA.out (by decide) W)) W : IsMsg W cm (mkV addr 0))); have n0_ := Aside0.mk ((H.out).add (sta_msg _ _) (mx_ _)); clear H; have H := n0_; clear n0_; clear hcx_ mx_) | ((with_reducible refine gate_dst (N := 6) rfl ?_); refine ev_var (y := .tmp 14) rfl rfl rfl rfl rfl H.out.f.2 rfl rfl ?_; intro gm wm hg_ h1_ hb_; have n0_ := Aside0.mk ((H.out.on hb_).add (sta_blk _ _) (h1_)); clear H; have H := n0_; clear n0_; clear h1_ hb_ hg_))
  go_upto_region 4 with (first | ((with_reducible refine gate_dst (N := 16) rfl ?_); (try (refine gate_guard (by rfl) ?_; dsimp only)); refine ev_get (x := .tmp 6) rfl rfl rfl H.out.f.2 H.out.f.1.2 ?_) | (go_at_call 17; (with_reducible refine (WriteC.n HW0.out (n := 4) rfl H.out.f.1.2).mono ?_); rintro en wb ⟨Ab, cb, rfl, hz_, hr_, hb_⟩; have n0_ := Aside0.mk ((H.out.on hb_).add (sta_C _ _ _ _) (hr_)); clear H; have H := n0_; clear n0_; have Zb := Aside0.mk hz_; clear hb_ hr_ hz_))
  go_upto_region 5 with (first | ((with_reducible refine gate_dst (N := 21) rfl ?_); (try (refine gate_guard (by rfl) ?_; dsimp only)); refine ev_get (x := .tmp 6) rfl rfl rfl H.out.f.1.2 H.out.f.1.1.2 ?_) | (go_at_call 17; (with_reducible refine (WriteC.n HW1.out (n := 4) rfl H.out.f.1.1.2).mono ?_); rintro en wd ⟨Ad, cd, rfl, hz_, hr_, hb_⟩; have n0_ := Aside0.mk ((H.out.on hb_).add (sta_C _ _ _ _) (hr_)); clear H; have H := n0_; clear n0_; have Zd := Aside0.mk hz_; clear hb_ hr_ hz_))
  go_wp2_with (first | (go_at_call 19; (with_reducible refine (same_e (putL_bytes _) rfl (n := 4) (m := 4) rfl rfl H.out.f.1.2 Zb.out H.out.f.2 Zd.out).mono ?_); rintro en we ⟨rfl, hb_⟩; have n0_ := Aside0.mk (H.out.on hb_); clear H; have H := n0_; clear n0_; clear hb_))
  go_ret
  exact ⟨by first | rfl | (simp [same_refl]; done), H.out.b⟩
set_option maxHeartbeats 16000000 in
set_option maxRecDepth 100000 in
theorem CoilsOne_65280 {addr : Int} {w : World} (ha : 0 ≤ addr ∧ addr < 65536) :
    Calls Try.prog 10 #[.int .u16 addr, .int .u16 65280] w fun en w' => en = .returned (.bool true) ∧ Below w.heap.size w w' := by
  have H := Aside0.mk (Hd.start w)
  have HA := Aside0.mk ha
  have HW0 := Aside0.mk (show WriteC 17 0 (mkV addr 65280) (putL [addr, 65280], 0) from mkV_c ha (by decide) (by rw [one_w (.inl rfl) ha (by decide), if_pos (by omega)]))
  have HW1 := Aside0.mk (show WriteC 17 1 (mkV addr 65280) (putL [addr, 65280], 0) from mkV_c ha (by decide) (by rw [one_w (.inr rfl) ha (by decide), if_pos (by omega)]))
  clear ha
  go_enter Try.func10, Try.ntmps10
  go_upto_region 2 with (first | (go_at_call 12; (with_reducible refine (awake_any _).mono ?_); rintro en wa ⟨rfl, hb_⟩; have n0_ := Aside0.mk (H.out.on hb_); clear H; have H := n0_; clear n0_; clear hb_))
  go_upto_region 3 with (first | ((with_reducible refine gate_dst (N := 14) rfl ?_); (try (refine gate_guard (by rfl) ?_; dsimp only)); refine ev_build (((zeroC.setIfInBounds 0 (.int .u8 5)).setIfInBounds 2 (.int .u16 addr)).setIfInBounds 4 (.int .u16 65280)) rfl (by first | (go_simp; done) | (go_simp; rfl)) ?_; intro cm hcx_; have mx_ := (fun W => (by rw [hcx_]; exact ((fun W => mkV_is HA.out (by decide) W)) W : IsMsg W cm (mkV addr 65280))); have n0_ := Aside0.mk ((H.out).add (sta_msg _ _) (mx_ _)); clear H; have H := n0_; clear n0_; clear hcx_ mx_) | ((with_reducible refine gate_dst (N := 6) rfl ?_); refine ev_var (y := .tmp 14) rfl rfl rfl rfl rfl H.out.f.2 rfl rfl ?_; intro gm wm hg_ h1_ hb_; have n0_ := Aside0.mk ((H.out.on hb_).add (sta_blk _ _) (h1_)); clear H; have H := n0_; clear n0_; clear h1_ hb_ hg_))
  go_upto_region 4 with (first | ((with_reducible refine gate_dst (N := 16) rfl ?_); (try (refine gate_guard (by rfl) ?_; dsimp only)); refine ev_get (x := .tmp 6) rfl rfl rfl H.out.f.2 H.out.f.1.2 ?_) | (go_at_call 17; (with_reducible refine (WriteC.n HW0.out (n := 4) rfl H.out.f.1.2).mono ?_); rintro en wb ⟨Ab, cb, rfl, hz_, hr_, hb_⟩; have n0_ := Aside0.mk ((H.out.on hb_).add (sta_C _ _ _ _) (hr_)); clear H; have H := n0_; clear n0_; have Zb := Aside0.mk hz_; clear hb_ hr_ hz_))
  go_upto_region 5 with (first | ((with_reducible refine gate_dst (N := 21) rfl ?_); (try (refine gate_guard (by rfl) ?_; dsimp only)); refine ev_get (x := .tmp 6) rfl rfl rfl H.out.f.1.2 H.out.f.1.1.2 ?_) | (go_at_call 17; (with_reducible refine (WriteC.n HW1.out (n := 4) rfl H.out.f.1.1.2).mono ?_); rintro en wd ⟨Ad, cd, rfl, hz_, hr_, hb_⟩; have n0_ := Aside0.mk ((H.out.on hb_).add (sta_C _ _ _ _) (hr_)); clear H; have H := n0_; clear n0_; have Zd := Aside0.mk hz_; clear hb_ hr_ hz_))
  go_wp2_with (first | (go_at_call 19; (with_reducible refine (same_e (putL_bytes _) rfl (n := 4) (m := 4) rfl rfl H.out.f.1.2 Zb.out H.out.f.2 Zd.out).mono ?_); rintro en we ⟨rfl, hb_⟩; have n0_ := Aside0.mk (H.out.on hb_); clear H; have H := n0_; clear n0_; clear hb_))
  go_ret
  exact ⟨by first | rfl | (simp [same_refl]; done), H.out.b⟩
set_option maxHeartbeats 16000000 in
set_option maxRecDepth 100000 in
theorem CoilsOne_v {addr v : Int} {w : World} (ha : 0 ≤ addr ∧ addr < 65536) (hv : 0 ≤ v ∧ v < 65536) (hz : v ≠ 0 ∧ v ≠ 65280) :
    Calls Try.prog 10 #[.int .u16 addr, .int .u16 v] w fun en w' => en = .returned (.bool true) ∧ Below w.heap.size w w' := by
  have H := Aside0.mk (Hd.start w)
  have HA := Aside0.mk ha
  have HW0 := Aside0.mk (show WriteC 17 0 (mkV addr v) (([] : List Int), 1) from mkV_c ha hv (by rw [one_w (.inl rfl) ha hv, if_neg (by omega)]))
  have HW1 := Aside0.mk (show WriteC 17 1 (mkV addr v) (([] : List Int), 1) from mkV_c ha hv (by rw [one_w (.inr rfl) ha hv, if_neg (by omega)]))
  have z1 : (v == 0) = false := beq_eq_false_iff_ne.2 hz.1
  have z1n : (v != 0) = true := by rw [bne, z1]; rfl
  have z2 : (v == 65280) = false := beq_eq_false_iff_ne.2 hz.2
  have z2n : (v != 65280) = true := by rw [bne, z2]; rfl
  have HV := Aside0.mk hv
  clear ha hv hz
  go_enter Try.func10, Try.ntmps10
  go_upto_region 2 with (first | (go_at_call 12; (with_reducible refine (awake_any _).mono ?_); rintro en wa ⟨rfl, hb_⟩; have n0_ := Aside0.mk (H.out.on hb_); clear H; have H := n0_; clear n0_; clear hb_))
  go_upto_region 3 with (first | ((with_reducible refine gate_dst (N := 14) rfl ?_); (try (refine gate_guard (by rfl) ?_; dsimp only)); refine ev_build (((zeroC.setIfInBounds 0 (.int .u8 5)).setIfInBounds 2 (.int .u16 addr)).setIfInBounds 4 (.int .u16 v)) rfl (by first | (go_simp; done) | (go_simp; rfl)) ?_; intro cm hcx_; have mx_ := (fun W => (by rw [hcx_]; exact ((fun W => mkV_is HA.out HV.out W)) W : IsMsg W cm (mkV addr v))); have n0_ := Aside0.mk ((H.out).add (sta_msg _ _) (mx_ _)); clear H; have H := n0_; clear n0_; clear hcx_ mx_) | ((with_reducible refine gate_dst (N := 6) rfl ?_); refine ev_var (y := .tmp 14) rfl rfl rfl rfl rfl H.out.f.2 rfl rfl ?_; intro gm wm hg_ h1_ hb_; have n0_ := Aside0.mk ((H.out.on hb_).add (sta_blk _ _) (h1_)); clear H; have H := n0_; clear n0_; clear h1_ hb_ hg_))
  go_upto_region 4 with (first | ((with_reducible refine gate_dst (N := 16) rfl ?_); (try (refine gate_guard (by rfl) ?_; dsimp only)); refine ev_get (x := .tmp 6) rfl rfl rfl H.out.f.2 H.out.f.1.2 ?_) | (go_at_call 17; (with_reducible refine (WriteC.n HW0.out (n := 0) rfl H.out.f.1.2).mono ?_); rintro en wb ⟨Ab, cb, rfl, hz_, hr_, hb_⟩; have n0_ := Aside0.mk ((H.out.on hb_).add (sta_C _ _ _ _) (hr_)); clear H; have H := n0_; clear n0_; have Zb := Aside0.mk hz_; clear hb_ hr_ hz_))
  go_upto_region 5 with (first | ((with_reducible refine gate_dst (N := 21) rfl ?_); (try (refine gate_guard (by rfl) ?_; dsimp only)); refine ev_get (x := .tmp 6) rfl rfl rfl H.out.f.1.2 H.out.f.1.1.2 ?_) | (go_at_call 17; (with_reducible refine (WriteC.n HW1.out (n := 0) rfl H.out.f.1.1.2).mono ?_); rintro en wd ⟨Ad, cd, rfl, hz_, hr_, hb_⟩; have n0_ := Aside0.mk ((H.out.on hb_).add (sta_C _ _ _ _) (hr_)); clear H; have H := n0_; clear n0_; have Zd := Aside0.mk hz_; clear hb_ hr_ hz_))
  go_wp2
  go_ret
  exact ⟨by first | rfl | (simp [same_refl]; done), H.out.b⟩
theorem busbarlaw08_CoilsOne (addr v : Int) (w : World) (ha : (Lit.int .u16 addr).wf = true) (hv : (Lit.int .u16 v).wf = true) :
    Calls Try.prog 10 #[.int .u16 addr, .int .u16 v] w fun en w' => en = .returned (.bool true) ∧ Below w.heap.size w w' := by
  by_cases h1 : v = 0
  · subst h1; exact CoilsOne_0 (u16_wf ha)
  by_cases h2 : v = 65280
  · subst h2; exact CoilsOne_65280 (u16_wf ha)
  · exact CoilsOne_v (u16_wf ha) (u16_wf hv) ⟨h1, h2⟩
end Go.Proofs.Ytggiobdjepgkfaa.Laws
end
