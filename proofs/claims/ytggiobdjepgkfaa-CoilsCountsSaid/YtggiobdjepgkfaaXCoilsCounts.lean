/- The law CoilsCounts: its walk, and the plain law. Conditions: what each theorem states. -/
import Derived.Test.YtggiobdjepgkfaaOC
set_option linter.unusedVariables false
set_option linter.unusedSimpArgs false
section
namespace Go.Proofs.Ytggiobdjepgkfaa.Laws
open Go.RowKit Go.Proofs.Ytggiobdjepgkfaa.P Go.Proofs.Ytggiobdjepgkfaa.E Go.Proofs.Ytggiobdjepgkfaa.Cur Go.Proofs.Ytggiobdjepgkfaa.Cu Go.Proofs.Ytggiobdjepgkfaa.Same Go.Proofs.Ytggiobdjepgkfaa.Bits Go.Proofs.Ytggiobdjepgkfaa.Put Go.Proofs.Ytggiobdjepgkfaa.Com Go.Proofs.Ytggiobdjepgkfaa.Coil Go.Proofs.YtggiobdjepgkfaaW.PrintWords Go.Proofs.YtggiobdjepgkfaaW.PrintLast Go.Proofs.YtggiobdjepgkfaaW.PrintMore
set_option maxHeartbeats 16000000 in
set_option maxRecDepth 100000 in
theorem CoilsCounts_0xxx {addr count : Int} {w : World} (ha : 0 ≤ addr ∧ addr < 65536) (hk : 0 ≤ count ∧ count < 65536) (h1 : ¬ (1 ≤ count)) (h2 : True) (h3 : True) (h4 : True) :
    Calls Try.prog 6 #[.int .u16 addr, .int .u16 count] w fun en w' => en = .returned (.bool true) ∧ Below w.heap.size w w' := by
  have H := Aside0.mk (Hd.start w)
  have HA := Aside0.mk ha
  have HK := Aside0.mk hk
  have HW1 := Aside0.mk (show WriteC 17 0 (mkA 2 addr count) (([] : List Int), 1) from mkA_c (by decide) ha hk (by rw [ask_w (.inr rfl) ha hk, if_neg (by unfold inB; omega)]))
  have HW2 := Aside0.mk (show WriteC 17 1 (mkA 15 addr count) (([] : List Int), 1) from mkA_c (by decide) ha hk (by rw [did_w ha hk, if_neg (by unfold inB; omega)]))
  have d1 : decide (count ≥ 1) = false := decide_eq_false (by omega)
  have d1' : decide ((1 : Int) ≤ count) = false := decide_eq_false (by omega)
  have w1 : IntKind.i64.wrap addr = addr := by rw [i64_w]; exact wrap64_id (by omega) (by omega)
  have w2 : IntKind.i64.wrap count = count := by rw [i64_w]; exact wrap64_id (by omega) (by omega)
  have w3 : wrap64 (addr + count) = addr + count := wrap64_id (by omega) (by omega)
  clear ha hk h1 h2 h3 h4
  go_enter Try.func6, Try.ntmps6
  go_upto_region 3 with (first | (go_at_call 12; (with_reducible refine (awake_any _).mono ?_); rintro en wa ⟨rfl, hb_⟩; have n0_ := Aside0.mk (H.out.on hb_); clear H; have H := n0_; clear n0_; clear hb_))
  go_upto_region 4 with (first | ((with_reducible refine gate_dst (N := 21) rfl ?_); (try (refine gate_guard (by rfl) ?_; dsimp only)); refine ev_build (((zeroC.setIfInBounds 0 (.int .u8 2)).setIfInBounds 2 (.int .u16 addr)).setIfInBounds 3 (.int .u16 count)) rfl (by first | (go_simp; done) | (go_simp; rfl)) ?_; intro cm hcx_; have mx_ := (fun W => (by rw [hcx_]; exact ((fun W => mkA_is (by decide) HA.out HK.out W)) W : IsMsg W cm (mkA 2 addr count))); have n0_ := Aside0.mk ((H.out).add (sta_msg _ _) (mx_ _)); clear H; have H := n0_; clear n0_; clear hcx_ mx_) | (go_at_call 17; (with_reducible refine (WriteC.n HW1.out (n := 0) rfl H.out.f.2).mono ?_); rintro en wb ⟨Ab, cb, rfl, hz_, hr_, hb_⟩; have n0_ := Aside0.mk ((H.out.on hb_).add (sta_C _ _ _ _) (hr_)); clear H; have H := n0_; clear n0_; have Zb := Aside0.mk hz_; clear hb_ hr_ hz_))
  go_upto_region 5 with (first | ((with_reducible refine gate_dst (N := 28) rfl ?_); (try (refine gate_guard (by rfl) ?_; dsimp only)); refine ev_build (((zeroC.setIfInBounds 0 (.int .u8 15)).setIfInBounds 2 (.int .u16 addr)).setIfInBounds 3 (.int .u16 count)) rfl (by first | (go_simp; done) | (go_simp; rfl)) ?_; intro cn hcx_; have mx_ := (fun W => (by rw [hcx_]; exact ((fun W => mkA_is (by decide) HA.out HK.out W)) W : IsMsg W cn (mkA 15 addr count))); have n0_ := Aside0.mk ((H.out).add (sta_msg _ _) (mx_ _)); clear H; have H := n0_; clear n0_; clear hcx_ mx_) | (go_at_call 17; (with_reducible refine (WriteC.n HW2.out (n := 0) rfl H.out.f.2).mono ?_); rintro en wd ⟨Ad, cd, rfl, hz_, hr_, hb_⟩; have n0_ := Aside0.mk ((H.out.on hb_).add (sta_C _ _ _ _) (hr_)); clear H; have H := n0_; clear n0_; have Zd := Aside0.mk hz_; clear hb_ hr_ hz_))
  go_wp2
  go_ret
  exact ⟨by first | rfl | (simp [same_refl]; done), H.out.b⟩
set_option maxHeartbeats 16000000 in
set_option maxRecDepth 100000 in
theorem CoilsCounts_100x {addr count : Int} {w : World} (ha : 0 ≤ addr ∧ addr < 65536) (hk : 0 ≤ count ∧ count < 65536) (h1 : 1 ≤ count) (h2 : ¬ (count ≤ 2000)) (h3 : ¬ (count ≤ 1968)) (h4 : True) :
    Calls Try.prog 6 #[.int .u16 addr, .int .u16 count] w fun en w' => en = .returned (.bool true) ∧ Below w.heap.size w w' := by
  have H := Aside0.mk (Hd.start w)
  have HA := Aside0.mk ha
  have HK := Aside0.mk hk
  have HW1 := Aside0.mk (show WriteC 17 0 (mkA 2 addr count) (([] : List Int), 1) from mkA_c (by decide) ha hk (by rw [ask_w (.inr rfl) ha hk, if_neg (by unfold inB; omega)]))
  have HW2 := Aside0.mk (show WriteC 17 1 (mkA 15 addr count) (([] : List Int), 1) from mkA_c (by decide) ha hk (by rw [did_w ha hk, if_neg (by unfold inB; omega)]))
  have d1 : decide (count ≥ 1) = true := decide_eq_true (by omega)
  have d1' : decide ((1 : Int) ≤ count) = true := decide_eq_true (by omega)
  have d2 : decide (count ≤ 2000) = false := decide_eq_false (by omega)
  have d3 : decide (count ≤ 1968) = false := decide_eq_false (by omega)
  have w1 : IntKind.i64.wrap addr = addr := by rw [i64_w]; exact wrap64_id (by omega) (by omega)
  have w2 : IntKind.i64.wrap count = count := by rw [i64_w]; exact wrap64_id (by omega) (by omega)
  have w3 : wrap64 (addr + count) = addr + count := wrap64_id (by omega) (by omega)
  clear ha hk h1 h2 h3 h4
  go_enter Try.func6, Try.ntmps6
  go_upto_region 3 with (first | (go_at_call 12; (with_reducible refine (awake_any _).mono ?_); rintro en wa ⟨rfl, hb_⟩; have n0_ := Aside0.mk (H.out.on hb_); clear H; have H := n0_; clear n0_; clear hb_))
  go_upto_region 4 with (first | ((with_reducible refine gate_dst (N := 21) rfl ?_); (try (refine gate_guard (by rfl) ?_; dsimp only)); refine ev_build (((zeroC.setIfInBounds 0 (.int .u8 2)).setIfInBounds 2 (.int .u16 addr)).setIfInBounds 3 (.int .u16 count)) rfl (by first | (go_simp; done) | (go_simp; rfl)) ?_; intro cm hcx_; have mx_ := (fun W => (by rw [hcx_]; exact ((fun W => mkA_is (by decide) HA.out HK.out W)) W : IsMsg W cm (mkA 2 addr count))); have n0_ := Aside0.mk ((H.out).add (sta_msg _ _) (mx_ _)); clear H; have H := n0_; clear n0_; clear hcx_ mx_) | (go_at_call 17; (with_reducible refine (WriteC.n HW1.out (n := 0) rfl H.out.f.2).mono ?_); rintro en wb ⟨Ab, cb, rfl, hz_, hr_, hb_⟩; have n0_ := Aside0.mk ((H.out.on hb_).add (sta_C _ _ _ _) (hr_)); clear H; have H := n0_; clear n0_; have Zb := Aside0.mk hz_; clear hb_ hr_ hz_))
  go_upto_region 5 with (first | ((with_reducible refine gate_dst (N := 28) rfl ?_); (try (refine gate_guard (by rfl) ?_; dsimp only)); refine ev_build (((zeroC.setIfInBounds 0 (.int .u8 15)).setIfInBounds 2 (.int .u16 addr)).setIfInBounds 3 (.int .u16 count)) rfl (by first | (go_simp; done) | (go_simp; rfl)) ?_; intro cn hcx_; have mx_ := (fun W => (by rw [hcx_]; exact ((fun W => mkA_is (by decide) HA.out HK.out W)) W : IsMsg W cn (mkA 15 addr count))); have n0_ := Aside0.mk ((H.out).add (sta_msg _ _) (mx_ _)); clear H; have H := n0_; clear n0_; clear hcx_ mx_) | (go_at_call 17; (with_reducible refine (WriteC.n HW2.out (n := 0) rfl H.out.f.2).mono ?_); rintro en wd ⟨Ad, cd, rfl, hz_, hr_, hb_⟩; have n0_ := Aside0.mk ((H.out.on hb_).add (sta_C _ _ _ _) (hr_)); clear H; have H := n0_; clear n0_; have Zd := Aside0.mk hz_; clear hb_ hr_ hz_))
  go_wp2
  go_ret
  exact ⟨by first | rfl | (simp [same_refl]; done), H.out.b⟩
set_option maxHeartbeats 16000000 in
set_option maxRecDepth 100000 in
theorem CoilsCounts_1101 {addr count : Int} {w : World} (ha : 0 ≤ addr ∧ addr < 65536) (hk : 0 ≤ count ∧ count < 65536) (h1 : 1 ≤ count) (h2 : count ≤ 2000) (h3 : ¬ (count ≤ 1968)) (h4 : addr + count ≤ 65536) :
    Calls Try.prog 6 #[.int .u16 addr, .int .u16 count] w fun en w' => en = .returned (.bool true) ∧ Below w.heap.size w w' := by
  have H := Aside0.mk (Hd.start w)
  have HA := Aside0.mk ha
  have HK := Aside0.mk hk
  have HW1 := Aside0.mk (show WriteC 17 0 (mkA 2 addr count) (putL [addr, count], 0) from mkA_c (by decide) ha hk (by rw [ask_w (.inr rfl) ha hk, if_pos (by unfold inB; omega)]))
  have HW2 := Aside0.mk (show WriteC 17 1 (mkA 15 addr count) (([] : List Int), 1) from mkA_c (by decide) ha hk (by rw [did_w ha hk, if_neg (by unfold inB; omega)]))
  have d1 : decide (count ≥ 1) = true := decide_eq_true (by omega)
  have d1' : decide ((1 : Int) ≤ count) = true := decide_eq_true (by omega)
  have d2 : decide (count ≤ 2000) = true := decide_eq_true (by omega)
  have d3 : decide (count ≤ 1968) = false := decide_eq_false (by omega)
  have d4 : decide (addr + count ≤ 65536) = true := decide_eq_true (by omega)
  have w1 : IntKind.i64.wrap addr = addr := by rw [i64_w]; exact wrap64_id (by omega) (by omega)
  have w2 : IntKind.i64.wrap count = count := by rw [i64_w]; exact wrap64_id (by omega) (by omega)
  have w3 : wrap64 (addr + count) = addr + count := wrap64_id (by omega) (by omega)
  clear ha hk h1 h2 h3 h4
  go_enter Try.func6, Try.ntmps6
  go_upto_region 3 with (first | (go_at_call 12; (with_reducible refine (awake_any _).mono ?_); rintro en wa ⟨rfl, hb_⟩; have n0_ := Aside0.mk (H.out.on hb_); clear H; have H := n0_; clear n0_; clear hb_))
  go_upto_region 4 with (first | ((with_reducible refine gate_dst (N := 21) rfl ?_); (try (refine gate_guard (by rfl) ?_; dsimp only)); refine ev_build (((zeroC.setIfInBounds 0 (.int .u8 2)).setIfInBounds 2 (.int .u16 addr)).setIfInBounds 3 (.int .u16 count)) rfl (by first | (go_simp; done) | (go_simp; rfl)) ?_; intro cm hcx_; have mx_ := (fun W => (by rw [hcx_]; exact ((fun W => mkA_is (by decide) HA.out HK.out W)) W : IsMsg W cm (mkA 2 addr count))); have n0_ := Aside0.mk ((H.out).add (sta_msg _ _) (mx_ _)); clear H; have H := n0_; clear n0_; clear hcx_ mx_) | (go_at_call 17; (with_reducible refine (WriteC.n HW1.out (n := 4) rfl H.out.f.2).mono ?_); rintro en wb ⟨Ab, cb, rfl, hz_, hr_, hb_⟩; have n0_ := Aside0.mk ((H.out.on hb_).add (sta_C _ _ _ _) (hr_)); clear H; have H := n0_; clear n0_; have Zb := Aside0.mk hz_; clear hb_ hr_ hz_))
  go_upto_region 5 with (first | ((with_reducible refine gate_dst (N := 28) rfl ?_); (try (refine gate_guard (by rfl) ?_; dsimp only)); refine ev_build (((zeroC.setIfInBounds 0 (.int .u8 15)).setIfInBounds 2 (.int .u16 addr)).setIfInBounds 3 (.int .u16 count)) rfl (by first | (go_simp; done) | (go_simp; rfl)) ?_; intro cn hcx_; have mx_ := (fun W => (by rw [hcx_]; exact ((fun W => mkA_is (by decide) HA.out HK.out W)) W : IsMsg W cn (mkA 15 addr count))); have n0_ := Aside0.mk ((H.out).add (sta_msg _ _) (mx_ _)); clear H; have H := n0_; clear n0_; clear hcx_ mx_) | (go_at_call 17; (with_reducible refine (WriteC.n HW2.out (n := 0) rfl H.out.f.2).mono ?_); rintro en wd ⟨Ad, cd, rfl, hz_, hr_, hb_⟩; have n0_ := Aside0.mk ((H.out.on hb_).add (sta_C _ _ _ _) (hr_)); clear H; have H := n0_; clear n0_; have Zd := Aside0.mk hz_; clear hb_ hr_ hz_))
  go_wp2
  go_ret
  exact ⟨by first | rfl | (simp [same_refl]; done), H.out.b⟩
set_option maxHeartbeats 16000000 in
set_option maxRecDepth 100000 in
theorem CoilsCounts_1100 {addr count : Int} {w : World} (ha : 0 ≤ addr ∧ addr < 65536) (hk : 0 ≤ count ∧ count < 65536) (h1 : 1 ≤ count) (h2 : count ≤ 2000) (h3 : ¬ (count ≤ 1968)) (h4 : ¬ (addr + count ≤ 65536)) :
    Calls Try.prog 6 #[.int .u16 addr, .int .u16 count] w fun en w' => en = .returned (.bool true) ∧ Below w.heap.size w w' := by
  have H := Aside0.mk (Hd.start w)
  have HA := Aside0.mk ha
  have HK := Aside0.mk hk
  have HW1 := Aside0.mk (show WriteC 17 0 (mkA 2 addr count) (([] : List Int), 1) from mkA_c (by decide) ha hk (by rw [ask_w (.inr rfl) ha hk, if_neg (by unfold inB; omega)]))
  have HW2 := Aside0.mk (show WriteC 17 1 (mkA 15 addr count) (([] : List Int), 1) from mkA_c (by decide) ha hk (by rw [did_w ha hk, if_neg (by unfold inB; omega)]))
  have d1 : decide (count ≥ 1) = true := decide_eq_true (by omega)
  have d1' : decide ((1 : Int) ≤ count) = true := decide_eq_true (by omega)
  have d2 : decide (count ≤ 2000) = true := decide_eq_true (by omega)
  have d3 : decide (count ≤ 1968) = false := decide_eq_false (by omega)
  have d4 : decide (addr + count ≤ 65536) = false := decide_eq_false (by omega)
  have w1 : IntKind.i64.wrap addr = addr := by rw [i64_w]; exact wrap64_id (by omega) (by omega)
  have w2 : IntKind.i64.wrap count = count := by rw [i64_w]; exact wrap64_id (by omega) (by omega)
  have w3 : wrap64 (addr + count) = addr + count := wrap64_id (by omega) (by omega)
  clear ha hk h1 h2 h3 h4
  go_enter Try.func6, Try.ntmps6
  go_upto_region 3 with (first | (go_at_call 12; (with_reducible refine (awake_any _).mono ?_); rintro en wa ⟨rfl, hb_⟩; have n0_ := Aside0.mk (H.out.on hb_); clear H; have H := n0_; clear n0_; clear hb_))
  go_upto_region 4 with (first | ((with_reducible refine gate_dst (N := 21) rfl ?_); (try (refine gate_guard (by rfl) ?_; dsimp only)); refine ev_build (((zeroC.setIfInBounds 0 (.int .u8 2)).setIfInBounds 2 (.int .u16 addr)).setIfInBounds 3 (.int .u16 count)) rfl (by first | (go_simp; done) | (go_simp; rfl)) ?_; intro cm hcx_; have mx_ := (fun W => (by rw [hcx_]; exact ((fun W => mkA_is (by decide) HA.out HK.out W)) W : IsMsg W cm (mkA 2 addr count))); have n0_ := Aside0.mk ((H.out).add (sta_msg _ _) (mx_ _)); clear H; have H := n0_; clear n0_; clear hcx_ mx_) | (go_at_call 17; (with_reducible refine (WriteC.n HW1.out (n := 0) rfl H.out.f.2).mono ?_); rintro en wb ⟨Ab, cb, rfl, hz_, hr_, hb_⟩; have n0_ := Aside0.mk ((H.out.on hb_).add (sta_C _ _ _ _) (hr_)); clear H; have H := n0_; clear n0_; have Zb := Aside0.mk hz_; clear hb_ hr_ hz_))
  go_upto_region 5 with (first | ((with_reducible refine gate_dst (N := 28) rfl ?_); (try (refine gate_guard (by rfl) ?_; dsimp only)); refine ev_build (((zeroC.setIfInBounds 0 (.int .u8 15)).setIfInBounds 2 (.int .u16 addr)).setIfInBounds 3 (.int .u16 count)) rfl (by first | (go_simp; done) | (go_simp; rfl)) ?_; intro cn hcx_; have mx_ := (fun W => (by rw [hcx_]; exact ((fun W => mkA_is (by decide) HA.out HK.out W)) W : IsMsg W cn (mkA 15 addr count))); have n0_ := Aside0.mk ((H.out).add (sta_msg _ _) (mx_ _)); clear H; have H := n0_; clear n0_; clear hcx_ mx_) | (go_at_call 17; (with_reducible refine (WriteC.n HW2.out (n := 0) rfl H.out.f.2).mono ?_); rintro en wd ⟨Ad, cd, rfl, hz_, hr_, hb_⟩; have n0_ := Aside0.mk ((H.out.on hb_).add (sta_C _ _ _ _) (hr_)); clear H; have H := n0_; clear n0_; have Zd := Aside0.mk hz_; clear hb_ hr_ hz_))
  go_wp2
  go_ret
  exact ⟨by first | rfl | (simp [same_refl]; done), H.out.b⟩
set_option maxHeartbeats 16000000 in
set_option maxRecDepth 100000 in
theorem CoilsCounts_1111 {addr count : Int} {w : World} (ha : 0 ≤ addr ∧ addr < 65536) (hk : 0 ≤ count ∧ count < 65536) (h1 : 1 ≤ count) (h2 : count ≤ 2000) (h3 : count ≤ 1968) (h4 : addr + count ≤ 65536) :
    Calls Try.prog 6 #[.int .u16 addr, .int .u16 count] w fun en w' => en = .returned (.bool true) ∧ Below w.heap.size w w' := by
  have H := Aside0.mk (Hd.start w)
  have HA := Aside0.mk ha
  have HK := Aside0.mk hk
  have HW1 := Aside0.mk (show WriteC 17 0 (mkA 2 addr count) (putL [addr, count], 0) from mkA_c (by decide) ha hk (by rw [ask_w (.inr rfl) ha hk, if_pos (by unfold inB; omega)]))
  have HW2 := Aside0.mk (show WriteC 17 1 (mkA 15 addr count) (putL [addr, count], 0) from mkA_c (by decide) ha hk (by rw [did_w ha hk, if_pos (by unfold inB; omega)]))
  have d1 : decide (count ≥ 1) = true := decide_eq_true (by omega)
  have d1' : decide ((1 : Int) ≤ count) = true := decide_eq_true (by omega)
  have d2 : decide (count ≤ 2000) = true := decide_eq_true (by omega)
  have d3 : decide (count ≤ 1968) = true := decide_eq_true (by omega)
  have d4 : decide (addr + count ≤ 65536) = true := decide_eq_true (by omega)
  have w1 : IntKind.i64.wrap addr = addr := by rw [i64_w]; exact wrap64_id (by omega) (by omega)
  have w2 : IntKind.i64.wrap count = count := by rw [i64_w]; exact wrap64_id (by omega) (by omega)
  have w3 : wrap64 (addr + count) = addr + count := wrap64_id (by omega) (by omega)
  clear ha hk h1 h2 h3 h4
  go_enter Try.func6, Try.ntmps6
  go_upto_region 3 with (first | (go_at_call 12; (with_reducible refine (awake_any _).mono ?_); rintro en wa ⟨rfl, hb_⟩; have n0_ := Aside0.mk (H.out.on hb_); clear H; have H := n0_; clear n0_; clear hb_))
  go_upto_region 4 with (first | ((with_reducible refine gate_dst (N := 21) rfl ?_); (try (refine gate_guard (by rfl) ?_; dsimp only)); refine ev_build (((zeroC.setIfInBounds 0 (.int .u8 2)).setIfInBounds 2 (.int .u16 addr)).setIfInBounds 3 (.int .u16 count)) rfl (by first | (go_simp; done) | (go_simp; rfl)) ?_; intro cm hcx_; have mx_ := (fun W => (by rw [hcx_]; exact ((fun W => mkA_is (by decide) HA.out HK.out W)) W : IsMsg W cm (mkA 2 addr count))); have n0_ := Aside0.mk ((H.out).add (sta_msg _ _) (mx_ _)); clear H; have H := n0_; clear n0_; clear hcx_ mx_) | (go_at_call 17; (with_reducible refine (WriteC.n HW1.out (n := 4) rfl H.out.f.2).mono ?_); rintro en wb ⟨Ab, cb, rfl, hz_, hr_, hb_⟩; have n0_ := Aside0.mk ((H.out.on hb_).add (sta_C _ _ _ _) (hr_)); clear H; have H := n0_; clear n0_; have Zb := Aside0.mk hz_; clear hb_ hr_ hz_))
  go_upto_region 5 with (first | ((with_reducible refine gate_dst (N := 28) rfl ?_); (try (refine gate_guard (by rfl) ?_; dsimp only)); refine ev_build (((zeroC.setIfInBounds 0 (.int .u8 15)).setIfInBounds 2 (.int .u16 addr)).setIfInBounds 3 (.int .u16 count)) rfl (by first | (go_simp; done) | (go_simp; rfl)) ?_; intro cn hcx_; have mx_ := (fun W => (by rw [hcx_]; exact ((fun W => mkA_is (by decide) HA.out HK.out W)) W : IsMsg W cn (mkA 15 addr count))); have n0_ := Aside0.mk ((H.out).add (sta_msg _ _) (mx_ _)); clear H; have H := n0_; clear n0_; clear hcx_ mx_) | (go_at_call 17; (with_reducible refine (WriteC.n HW2.out (n := 4) rfl H.out.f.2).mono ?_); rintro en wd ⟨Ad, cd, rfl, hz_, hr_, hb_⟩; have n0_ := Aside0.mk ((H.out.on hb_).add (sta_C _ _ _ _) (hr_)); clear H; have H := n0_; clear n0_; have Zd := Aside0.mk hz_; clear hb_ hr_ hz_))
  go_wp2
  go_ret
  exact ⟨by first | rfl | (simp [same_refl]; done), H.out.b⟩
set_option maxHeartbeats 16000000 in
set_option maxRecDepth 100000 in
theorem CoilsCounts_1110 {addr count : Int} {w : World} (ha : 0 ≤ addr ∧ addr < 65536) (hk : 0 ≤ count ∧ count < 65536) (h1 : 1 ≤ count) (h2 : count ≤ 2000) (h3 : count ≤ 1968) (h4 : ¬ (addr + count ≤ 65536)) :
    Calls Try.prog 6 #[.int .u16 addr, .int .u16 count] w fun en w' => en = .returned (.bool true) ∧ Below w.heap.size w w' := by
  have H := Aside0.mk (Hd.start w)
  have HA := Aside0.mk ha
  have HK := Aside0.mk hk
  have HW1 := Aside0.mk (show WriteC 17 0 (mkA 2 addr count) (([] : List Int), 1) from mkA_c (by decide) ha hk (by rw [ask_w (.inr rfl) ha hk, if_neg (by unfold inB; omega)]))
  have HW2 := Aside0.mk (show WriteC 17 1 (mkA 15 addr count) (([] : List Int), 1) from mkA_c (by decide) ha hk (by rw [did_w ha hk, if_neg (by unfold inB; omega)]))
  have d1 : decide (count ≥ 1) = true := decide_eq_true (by omega)
  have d1' : decide ((1 : Int) ≤ count) = true := decide_eq_true (by omega)
  have d2 : decide (count ≤ 2000) = true := decide_eq_true (by omega)
  have d3 : decide (count ≤ 1968) = true := decide_eq_true (by omega)
  have d4 : decide (addr + count ≤ 65536) = false := decide_eq_false (by omega)
  have w1 : IntKind.i64.wrap addr = addr := by rw [i64_w]; exact wrap64_id (by omega) (by omega)
  have w2 : IntKind.i64.wrap count = count := by rw [i64_w]; exact wrap64_id (by omega) (by omega)
  have w3 : wrap64 (addr + count) = addr + count := wrap64_id (by omega) (by omega)
  clear ha hk h1 h2 h3 h4
  go_enter Try.func6, Try.ntmps6
  go_upto_region 3 with (first | (go_at_call 12; (with_reducible refine (awake_any _).mono ?_); rintro en wa ⟨rfl, hb_⟩; have n0_ := Aside0.mk (H.out.on hb_); clear H; have H := n0_; clear n0_; clear hb_))
  go_upto_region 4 with (first | ((with_reducible refine gate_dst (N := 21) rfl ?_); (try (refine gate_guard (by rfl) ?_; dsimp only)); refine ev_build (((zeroC.setIfInBounds 0 (.int .u8 2)).setIfInBounds 2 (.int .u16 addr)).setIfInBounds 3 (.int .u16 count)) rfl (by first | (go_simp; done) | (go_simp; rfl)) ?_; intro cm hcx_; have mx_ := (fun W => (by rw [hcx_]; exact ((fun W => mkA_is (by decide) HA.out HK.out W)) W : IsMsg W cm (mkA 2 addr count))); have n0_ := Aside0.mk ((H.out).add (sta_msg _ _) (mx_ _)); clear H; have H := n0_; clear n0_; clear hcx_ mx_) | (go_at_call 17; (with_reducible refine (WriteC.n HW1.out (n := 0) rfl H.out.f.2).mono ?_); rintro en wb ⟨Ab, cb, rfl, hz_, hr_, hb_⟩; have n0_ := Aside0.mk ((H.out.on hb_).add (sta_C _ _ _ _) (hr_)); clear H; have H := n0_; clear n0_; have Zb := Aside0.mk hz_; clear hb_ hr_ hz_))
  go_upto_region 5 with (first | ((with_reducible refine gate_dst (N := 28) rfl ?_); (try (refine gate_guard (by rfl) ?_; dsimp only)); refine ev_build (((zeroC.setIfInBounds 0 (.int .u8 15)).setIfInBounds 2 (.int .u16 addr)).setIfInBounds 3 (.int .u16 count)) rfl (by first | (go_simp; done) | (go_simp; rfl)) ?_; intro cn hcx_; have mx_ := (fun W => (by rw [hcx_]; exact ((fun W => mkA_is (by decide) HA.out HK.out W)) W : IsMsg W cn (mkA 15 addr count))); have n0_ := Aside0.mk ((H.out).add (sta_msg _ _) (mx_ _)); clear H; have H := n0_; clear n0_; clear hcx_ mx_) | (go_at_call 17; (with_reducible refine (WriteC.n HW2.out (n := 0) rfl H.out.f.2).mono ?_); rintro en wd ⟨Ad, cd, rfl, hz_, hr_, hb_⟩; have n0_ := Aside0.mk ((H.out.on hb_).add (sta_C _ _ _ _) (hr_)); clear H; have H := n0_; clear n0_; have Zd := Aside0.mk hz_; clear hb_ hr_ hz_))
  go_wp2
  go_ret
  exact ⟨by first | rfl | (simp [same_refl]; done), H.out.b⟩
theorem busbarlaw08_CoilsCounts (addr count : Int) (w : World) (ha : (Lit.int .u16 addr).wf = true) (hk : (Lit.int .u16 count).wf = true) :
    Calls Try.prog 6 #[.int .u16 addr, .int .u16 count] w fun en w' => en = .returned (.bool true) ∧ Below w.heap.size w w' := by
  have ha := u16_wf ha
  have hk := u16_wf hk
  by_cases h1 : 1 ≤ count
  · by_cases h2 : count ≤ 2000
    · by_cases h3 : count ≤ 1968
      · by_cases h4 : addr + count ≤ 65536
        · exact CoilsCounts_1111 ha hk h1 h2 h3 h4
        · exact CoilsCounts_1110 ha hk h1 h2 h3 h4
      · by_cases h4 : addr + count ≤ 65536
        · exact CoilsCounts_1101 ha hk h1 h2 h3 h4
        · exact CoilsCounts_1100 ha hk h1 h2 h3 h4
    · exact CoilsCounts_100x ha hk h1 h2 (by omega) trivial
  · exact CoilsCounts_0xxx ha hk h1 trivial trivial trivial
end Go.Proofs.Ytggiobdjepgkfaa.Laws
end
