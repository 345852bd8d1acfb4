/- The law MeiAsks: its walk, and the plain law. Conditions: what each theorem states. -/
import Derived.Test.YtimclbhlgblifaaMD
set_option linter.unusedVariables false
set_option linter.unusedSimpArgs false
section
namespace Go.Proofs.Ytimclbhlgblifaa.Laws
open Go.RowKit Go.Proofs.Ytimclbhlgblifaa.P Go.Proofs.Ytimclbhlgblifaa.E Go.Proofs.Ytimclbhlgblifaa.Cur Go.Proofs.Ytimclbhlgblifaa.Cu Go.Proofs.Ytimclbhlgblifaa.Same Go.Proofs.Ytimclbhlgblifaa.Code Go.Proofs.Ytimclbhlgblifaa.Com Go.Proofs.Ytimclbhlgblifaa.Mei Go.Proofs.YtimclbhlgblifaaW.PrintWords Go.Proofs.YtimclbhlgblifaaW.PrintLast Go.Proofs.YtimclbhlgblifaaW.PrintMore
theorem ask_lay {kd nx : Int} : lay 0 (mk kd 0 0 nx []) = [14, kd, nx] := by
  unfold lay mk
  rw [if_neg (show ¬ (14 : Int) = 13 by decide), if_pos rfl]
set_option maxHeartbeats 16000000 in
set_option maxRecDepth 100000 in
theorem MeiAsks_1 {kind next : Int} {w : World} (hk : 0 ≤ kind ∧ kind < 256) (hn : 0 ≤ next ∧ next < 256) (hok : 1 ≤ kind ∧ kind ≤ 4) :
    Calls Try.prog 9 #[.int .u8 kind, .int .u8 next] w fun en w' => en = .returned (.bool true) ∧ Below w.heap.size w w' := by
  have H := Aside0.mk (Hd.start w)
  have HK := Aside0.mk hk
  have HN := Aside0.mk hn
  have d1 : decide (kind < 1) = false := decide_eq_false (by omega)
  have d2 : decide (kind > 4) = false := decide_eq_false (by omega)
  have d3 : decide ((4 : Int) < kind) = false := decide_eq_false (by omega)
  have HW := Aside0.mk (show WriteC 16 0 (mk kind 0 0 next []) ([14, kind, next], 0) from by have h := write_c (dir := 0) (m := mk kind 0 0 next []) (by rw [ask_lay]; simp) (mk_good HK.out (by decide) (by decide) HN.out); rw [ask_w, if_pos (by omega)] at h; exact h)
  clear hk hn
  have HB := Aside0.mk (show isBytes [14, kind, next] from fun x hx => by simp only [List.mem_cons, List.not_mem_nil, or_false] at hx; rcases hx with rfl | rfl | rfl; (constructor <;> omega); exact HK.out; exact HN.out)
  have es : ([14, kind, next] == [14, kind, next]) = true := beq_self_eq_true _
  go_enter Try.func9, Try.ntmps9
  go_upto_region 2 with (first | (go_at_call 11; (with_reducible refine (awake_any _).mono ?_); rintro en wa ⟨rfl, hb_⟩; have n0_ := Aside0.mk (H.out.on hb_); clear H; have H := n0_; clear n0_; clear hb_))
  go_upto_region 3 with (first | ((with_reducible refine gate_dst (N := 12) rfl ?_); (try (refine gate_guard (by rfl) ?_; dsimp only)); refine ev_build ((((((zeroC.setIfInBounds 0 (.int .u8 43)).setIfInBounds 16 (.int .u8 14)).setIfInBounds 17 (.int .u8 kind)).setIfInBounds 18 (.int .u8 0)).setIfInBounds 19 (.int .u8 0)).setIfInBounds 20 (.int .u8 next)) rfl (by first | (go_simp; done) | (go_simp; rfl)) ?_; intro cm hcx_; have mx_ := (fun W => (by rw [hcx_]; exact ((fun W => mk_is HK.out (by decide) (by decide) HN.out W)) W : IsMsg W cm (mk kind 0 0 next []))); have n0_ := Aside0.mk ((H.out).add (sta_msg _ _) (mx_ _)); clear H; have H := n0_; clear n0_; clear hcx_ mx_) | (go_at_call 16; (with_reducible refine (WriteC.n HW.out (n := 3) rfl H.out.f.2).mono ?_); rintro en wb ⟨Ab, cb, rfl, hz_, hr_, hb_⟩; have n0_ := Aside0.mk ((H.out.on hb_).add (sta_C _ _ _ _) (hr_)); clear H; have H := n0_; clear n0_; have Zb := Aside0.mk hz_; clear hb_ hr_ hz_))
  go_wp2_with (first | ((with_reducible refine gate_dst (N := 36) rfl ?_); (try (refine gate_guard (by rfl) ?_; dsimp only)); refine ev_lit .u8 [14, kind, next] 5 rfl (by first | (go_simp; done) | (go_simp; rfl)) (by simp) ?_; intro Al cl wl bl he_ hr_ hz_ hb_; have Zl := Aside0.mk hz_; have El := Aside0.mk he_; have n0_ := Aside0.mk ((H.out.on hb_).add (sta_C _ _ _ _) (hr_)); clear H; have H := n0_; clear n0_; clear hr_ hz_ hb_ he_) | (go_at_call 18; (with_reducible refine (same_e HB.out El.out (n := 3) rfl rfl H.out.f.1.2 Zb.out H.out.f.2 Zl.out).mono ?_); rintro en we ⟨rfl, hb_⟩; have n0_ := Aside0.mk (H.out.on hb_); clear H; have H := n0_; clear n0_; clear hb_))
  go_ret
  exact ⟨by first | rfl | (simp [same_refl]; done), H.out.b⟩
set_option maxHeartbeats 16000000 in
set_option maxRecDepth 100000 in
theorem MeiAsks_0 {kind next : Int} {w : World} (hk : 0 ≤ kind ∧ kind < 256) (hn : 0 ≤ next ∧ next < 256) (hok : ¬ (1 ≤ kind ∧ kind ≤ 4)) :
    Calls Try.prog 9 #[.int .u8 kind, .int .u8 next] w fun en w' => en = .returned (.bool true) ∧ Below w.heap.size w w' := by
  have H := Aside0.mk (Hd.start w)
  have HK := Aside0.mk hk
  have HN := Aside0.mk hn
  have dd : (decide (kind < 1) || decide ((4 : Int) < kind)) = true := by simp; omega
  have HW := Aside0.mk (show WriteC 16 0 (mk kind 0 0 next []) (([] : List Int), 1) from by have h := write_c (dir := 0) (m := mk kind 0 0 next []) (by rw [ask_lay]; simp) (mk_good HK.out (by decide) (by decide) HN.out); rw [ask_w, if_neg (by omega)] at h; exact h)
  clear hk hn
  go_enter Try.func9, Try.ntmps9
  go_upto_region 2 with (first | (go_at_call 11; (with_reducible refine (awake_any _).mono ?_); rintro en wa ⟨rfl, hb_⟩; have n0_ := Aside0.mk (H.out.on hb_); clear H; have H := n0_; clear n0_; clear hb_))
  go_upto_region 3 with (first | ((with_reducible refine gate_dst (N := 12) rfl ?_); (try (refine gate_guard (by rfl) ?_; dsimp only)); refine ev_build ((((((zeroC.setIfInBounds 0 (.int .u8 43)).setIfInBounds 16 (.int .u8 14)).setIfInBounds 17 (.int .u8 kind)).setIfInBounds 18 (.int .u8 0)).setIfInBounds 19 (.int .u8 0)).setIfInBounds 20 (.int .u8 next)) rfl (by first | (go_simp; done) | (go_simp; rfl)) ?_; intro cm hcx_; have mx_ := (fun W => (by rw [hcx_]; exact ((fun W => mk_is HK.out (by decide) (by decide) HN.out W)) W : IsMsg W cm (mk kind 0 0 next []))); have n0_ := Aside0.mk ((H.out).add (sta_msg _ _) (mx_ _)); clear H; have H := n0_; clear n0_; clear hcx_ mx_) | (go_at_call 16; (with_reducible refine (WriteC.n HW.out (n := 0) rfl H.out.f.2).mono ?_); rintro en wb ⟨Ab, cb, rfl, hz_, hr_, hb_⟩; have n0_ := Aside0.mk ((H.out.on hb_).add (sta_C _ _ _ _) (hr_)); clear H; have H := n0_; clear n0_; have Zb := Aside0.mk hz_; clear hb_ hr_ hz_))
  cases hlo : decide (kind < 1) with
  | true =>
    go_wp2
    go_ret
    exact ⟨by first | rfl | (simp [same_refl]; done), H.out.b⟩
  | false =>
    have d3 : decide ((4 : Int) < kind) = true := by rw [hlo] at dd; simpa using dd
    have d2 : decide (kind > 4) = true := d3
    go_wp2
    go_ret
    exact ⟨by first | rfl | (simp [same_refl]; done), H.out.b⟩
set_option maxHeartbeats 16000000 in
set_option maxRecDepth 100000 in
theorem MeiOther_0 {A : Option Addr} {c : Nat} {l : List Int} {w : World} (hr : Kd.C (Kd.int .u8) w A l.length l) (hc : l.length ≤ c) (hb : isBytes l) (hl : 400 < l.length) :
    Calls Try.prog 8 #[.slice A l.length c] w fun en w' => en = .returned (.bool true) ∧ Below w.heap.size w w' := by
  have H := Aside0.mk (Hd.start w)
  have n0_ := Aside0.mk ((H.out).add (sta_C _ _ _ _) (hr))
  clear H
  have H := n0_
  clear n0_
  have d1 : decide ((l.length : Int) > 400) = true := decide_eq_true (by omega)
  have d2 : decide ((400 : Int) < (l.length : Int)) = true := decide_eq_true (by omega)
  have HB := Aside0.mk hb
  clear hr
  go_enter Try.func8, Try.ntmps8
  go_wp2_with (first | (go_at_call 11; (with_reducible refine (awake_any _).mono ?_); rintro en wa ⟨rfl, hb_⟩; have n0_ := Aside0.mk (H.out.on hb_); clear H; have H := n0_; clear n0_; clear hb_))
  go_ret
  exact ⟨rfl, H.out.b⟩
set_option maxHeartbeats 16000000 in
set_option maxRecDepth 100000 in
theorem MeiOther_1 {A : Option Addr} {c : Nat} {l : List Int} {w : World} (hr : Kd.C (Kd.int .u8) w A l.length l) (hc : l.length ≤ c) (hb : isBytes l) (hl : l.length ≤ 400) (h2 : 251 < l.length) :
    Calls Try.prog 8 #[.slice A l.length c] w fun en w' => en = .returned (.bool true) ∧ Below w.heap.size w w' := by
  have H := Aside0.mk (Hd.start w)
  have n0_ := Aside0.mk ((H.out).add (sta_C _ _ _ _) (hr))
  clear H
  have H := n0_
  clear n0_
  have d1 : decide ((l.length : Int) > 400) = false := decide_eq_false (by omega)
  have d2 : decide ((400 : Int) < (l.length : Int)) = false := decide_eq_false (by omega)
  have HB := Aside0.mk hb
  clear hr
  have hl13 : ∀ dir, (lay dir (mk13 l)).length ≤ 1000000 := fun dir => by unfold lay mk13; rw [if_pos rfl]; simp; omega
  have hg13 : goodM (mk13 l) := (good_data (good_mei (good_code zero_good (v := 43) (by decide)) (v := 13) (by decide)) hb)
  have HW0 := Aside0.mk (show WriteC 16 0 (mk13 l) (([] : List Int), 1) from by have h := write_c (hl13 0) hg13; rw [other_w (.inl rfl) hb, if_neg (by omega)] at h; exact h)
  have HW1 := Aside0.mk (show WriteC 16 1 (mk13 l) (([] : List Int), 1) from by have h := write_c (hl13 1) hg13; rw [other_w (.inr rfl) hb, if_neg (by omega)] at h; exact h)
  have d3 : decide ((l.length : Int) > 251) = true := decide_eq_true (by omega)
  have d4 : decide ((251 : Int) < (l.length : Int)) = true := decide_eq_true (by omega)
  clear hb hl13 hg13
  go_enter Try.func8, Try.ntmps8
  go_upto_region 4 with (first | (go_at_call 11; (with_reducible refine (awake_any _).mono ?_); rintro en wa ⟨rfl, hb_⟩; have n0_ := Aside0.mk (H.out.on hb_); clear H; have H := n0_; clear n0_; clear hb_))
  go_upto_region 5 with (first | ((with_reducible refine gate_dst (N := 15) rfl ?_); (try (refine gate_guard (by rfl) ?_; dsimp only)); refine ev_build (((zeroC.setIfInBounds 0 (.int .u8 43)).setIfInBounds 16 (.int .u8 13)).setIfInBounds 14 (.slice A l.length c)) rfl (by first | (go_simp; done) | (go_simp; rfl)) ?_; intro cm hcx_; have mx_ := (mk13_is HB.out H.out.f.2 hc); rw [← hcx_] at mx_; have n0_ := Aside0.mk ((H.out).add (sta_msg _ _) (mx_)); clear H; have H := n0_; clear n0_; clear hcx_ mx_) | ((with_reducible refine gate_dst (N := 4) rfl ?_); refine ev_var (y := .tmp 15) rfl rfl rfl rfl rfl H.out.f.2 rfl rfl ?_; intro gm wm hg_ h1_ hb_; have n0_ := Aside0.mk ((H.out.on hb_).add (sta_blk _ _) (h1_)); clear H; have H := n0_; clear n0_; clear h1_ hb_ hg_))
  go_upto_region 6 with (first | ((with_reducible refine gate_dst (N := 17) rfl ?_); (try (refine gate_guard (by rfl) ?_; dsimp only)); refine ev_get (x := .tmp 4) rfl rfl rfl H.out.f.2 H.out.f.1.2 ?_) | (go_at_call 16; (with_reducible refine (WriteC.n HW0.out (n := 0) rfl H.out.f.1.2).mono ?_); rintro en wb ⟨Ab, cb, rfl, hz_, hr_, hb_⟩; have n0_ := Aside0.mk ((H.out.on hb_).add (sta_C _ _ _ _) (hr_)); clear H; have H := n0_; clear n0_; have Zb := Aside0.mk hz_; clear hb_ hr_ hz_))
  go_upto_region 7 with (first | ((with_reducible refine gate_dst (N := 22) rfl ?_); (try (refine gate_guard (by rfl) ?_; dsimp only)); refine ev_get (x := .tmp 4) rfl rfl rfl H.out.f.1.2 H.out.f.1.1.2 ?_) | (go_at_call 16; (with_reducible refine (WriteC.n HW1.out (n := 0) rfl H.out.f.1.1.2).mono ?_); rintro en wd ⟨Ad, cd, rfl, hz_, hr_, hb_⟩; have n0_ := Aside0.mk ((H.out.on hb_).add (sta_C _ _ _ _) (hr_)); clear H; have H := n0_; clear n0_; have Zd := Aside0.mk hz_; clear hb_ hr_ hz_))
  go_wp2
  go_ret
  exact ⟨by first | rfl | (simp [same_refl]; done), H.out.b⟩
set_option maxHeartbeats 16000000 in
set_option maxRecDepth 100000 in
theorem MeiOther_2 {A : Option Addr} {c : Nat} {l : List Int} {w : World} (hr : Kd.C (Kd.int .u8) w A l.length l) (hc : l.length ≤ c) (hb : isBytes l) (hl : l.length ≤ 251) :
    Calls Try.prog 8 #[.slice A l.length c] w fun en w' => en = .returned (.bool true) ∧ Below w.heap.size w w' := by
  have H := Aside0.mk (Hd.start w)
  have n0_ := Aside0.mk ((H.out).add (sta_C _ _ _ _) (hr))
  clear H
  have H := n0_
  clear n0_
  have d1 : decide ((l.length : Int) > 400) = false := decide_eq_false (by omega)
  have d2 : decide ((400 : Int) < (l.length : Int)) = false := decide_eq_false (by omega)
  have HB := Aside0.mk hb
  clear hr
  have hl13 : ∀ dir, (lay dir (mk13 l)).length ≤ 1000000 := fun dir => by unfold lay mk13; rw [if_pos rfl]; simp; omega
  have hg13 : goodM (mk13 l) := (good_data (good_mei (good_code zero_good (v := 43) (by decide)) (v := 13) (by decide)) hb)
  have HW0 := Aside0.mk (show WriteC 16 0 (mk13 l) (13 :: l, 0) from by have h := write_c (hl13 0) hg13; rw [other_w (.inl rfl) hb, if_pos (by omega)] at h; exact h)
  have HW1 := Aside0.mk (show WriteC 16 1 (mk13 l) (13 :: l, 0) from by have h := write_c (hl13 1) hg13; rw [other_w (.inr rfl) hb, if_pos (by omega)] at h; exact h)
  have d3 : decide ((l.length : Int) > 251) = false := decide_eq_false (by omega)
  have d4 : decide ((251 : Int) < (l.length : Int)) = false := decide_eq_false (by omega)
  clear hb hl13 hg13
  have HBC := Aside0.mk (show isBytes (13 :: l) from fun x hx => by rcases List.mem_cons.1 hx with rfl | hx; (constructor <;> decide); exact HB.out x hx)
  have es : (13 :: l == 13 :: l) = true := beq_self_eq_true _
  have hlen : l.length ≤ 400 := by omega
  go_enter Try.func8, Try.ntmps8
  go_upto_region 4 with (first | (go_at_call 11; (with_reducible refine (awake_any _).mono ?_); rintro en wa ⟨rfl, hb_⟩; have n0_ := Aside0.mk (H.out.on hb_); clear H; have H := n0_; clear n0_; clear hb_))
  go_upto_region 5 with (first | ((with_reducible refine gate_dst (N := 15) rfl ?_); (try (refine gate_guard (by rfl) ?_; dsimp only)); refine ev_build (((zeroC.setIfInBounds 0 (.int .u8 43)).setIfInBounds 16 (.int .u8 13)).setIfInBounds 14 (.slice A l.length c)) rfl (by first | (go_simp; done) | (go_simp; rfl)) ?_; intro cm hcx_; have mx_ := (mk13_is HB.out H.out.f.2 hc); rw [← hcx_] at mx_; have n0_ := Aside0.mk ((H.out).add (sta_msg _ _) (mx_)); clear H; have H := n0_; clear n0_; clear hcx_ mx_) | ((with_reducible refine gate_dst (N := 4) rfl ?_); refine ev_var (y := .tmp 15) rfl rfl rfl rfl rfl H.out.f.2 rfl rfl ?_; intro gm wm hg_ h1_ hb_; have n0_ := Aside0.mk ((H.out.on hb_).add (sta_blk _ _) (h1_)); clear H; have H := n0_; clear n0_; clear h1_ hb_ hg_))
  go_upto_region 6 with (first | ((with_reducible refine gate_dst (N := 17) rfl ?_); (try (refine gate_guard (by rfl) ?_; dsimp only)); refine ev_get (x := .tmp 4) rfl rfl rfl H.out.f.2 H.out.f.1.2 ?_) | (go_at_call 16; (with_reducible refine (WriteC.n HW0.out (n := l.length + 1) rfl H.out.f.1.2).mono ?_); rintro en wb ⟨Ab, cb, rfl, hz_, hr_, hb_⟩; have n0_ := Aside0.mk ((H.out.on hb_).add (sta_C _ _ _ _) (hr_)); clear H; have H := n0_; clear n0_; have Zb := Aside0.mk hz_; clear hb_ hr_ hz_))
  go_upto_region 7 with (first | ((with_reducible refine gate_dst (N := 22) rfl ?_); (try (refine gate_guard (by rfl) ?_; dsimp only)); refine ev_get (x := .tmp 4) rfl rfl rfl H.out.f.1.2 H.out.f.1.1.2 ?_) | (go_at_call 16; (with_reducible refine (WriteC.n HW1.out (n := l.length + 1) rfl H.out.f.1.1.2).mono ?_); rintro en wd ⟨Ad, cd, rfl, hz_, hr_, hb_⟩; have n0_ := Aside0.mk ((H.out.on hb_).add (sta_C _ _ _ _) (hr_)); clear H; have H := n0_; clear n0_; have Zd := Aside0.mk hz_; clear hb_ hr_ hz_))
  go_wp2_with (first | (go_at_call 18; (with_reducible refine (same_e HBC.out rfl (n := l.length + 1) (m := l.length + 1) rfl rfl H.out.f.1.2 Zb.out H.out.f.2 Zd.out).mono ?_); rintro en we ⟨rfl, hb_⟩; have n0_ := Aside0.mk (H.out.on hb_); clear H; have H := n0_; clear n0_; clear hb_) | ((with_reducible refine gate_dst (N := 54) rfl ?_); (try (refine gate_guard (by rfl) ?_; dsimp only)); refine Com.ev_rlit .u8 [13] 5 rfl rfl (by first | (go_simp; done) | (go_simp; rfl)) (by simp) ?_; intro vl wr hr_ hb_; have Rvl := Aside0.mk hr_; have Bvl := Aside0.mk hb_; clear hr_ hb_) | ((with_reducible refine gate_builtin (b := .append) (xs := #[.tmp 54, .tmp 55]) rfl ?_); at_builtin; (try (refine gate_guard (by rfl) ?_; dsimp only)); refine Com.ev_app .u8 5 (.tmp 54) (.tmp 55) 22 1 rfl rfl Try.underlying22 (by kernel_rfl) (by decide) (by decide) rfl rfl Rvl.out (Kd.C_below (H.out.f.1.1.1.1.2) Bvl.out) Bvl.out (by first | omega | (simp; omega)) (zs := 13 :: l) (n := l.length + 1) (by first | rfl | simp) (by first | rfl | simp) ?_; intro v1_ Ap cp wap e1_ hR_ hC_ hz_ hb_; have Zp := Aside0.mk hz_; have n0_ := Aside0.mk ((H.out.on hb_).add (sta_C _ _ _ _) (hC_)); clear H; have H := n0_; clear n0_; clear e1_ hR_ hC_ hz_ hb_ Rvl Bvl) | (go_at_call 18; (with_reducible refine (same_e HBC.out rfl (n := l.length + 1) (m := l.length + 1) rfl rfl H.out.f.1.1.2 Zb.out H.out.f.2 Zp.out).mono ?_); rintro en we2 ⟨rfl, hb_⟩; have n0_ := Aside0.mk (H.out.on hb_); clear H; have H := n0_; clear n0_; clear hb_))
  go_ret
  exact ⟨by first | rfl | (simp [same_refl]; done), H.out.b⟩
theorem busbarlaw12_MeiAsks (kind next : Int) (w : World) (hk : (Lit.int .u8 kind).wf = true) (hn : (Lit.int .u8 next).wf = true) :
    Calls Try.prog 9 #[.int .u8 kind, .int .u8 next] w fun en w' => en = .returned (.bool true) ∧ Below w.heap.size w w' := by
  by_cases h : 1 ≤ kind ∧ kind ≤ 4
  · exact MeiAsks_1 (u8_wf hk) (u8_wf hn) h
  · exact MeiAsks_0 (u8_wf hk) (u8_wf hn) h
theorem busbarlaw12_MeiOther (A : Option Addr) (c : Nat) (l : List Int) (w : World) (hr : Kd.C (Kd.int .u8) w A l.length l) (hc : l.length ≤ c) {p1 : Prop} (_ : p1) (hw : ∀ x ∈ l, (Lit.int .u8 x).wf = true) :
    Calls Try.prog 8 #[.slice A l.length c] w fun en w' => en = .returned (.bool true) ∧ Below w.heap.size w w' := by
  have hb : isBytes l := fun x hx => u8_wf (hw x hx)
  by_cases h1 : 400 < l.length
  · exact MeiOther_0 hr hc hb h1
  by_cases h2 : 251 < l.length
  · exact MeiOther_1 hr hc hb (by omega) h2
  · exact MeiOther_2 hr hc hb (by omega)
end Go.Proofs.Ytimclbhlgblifaa.Laws
end
