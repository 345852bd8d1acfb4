/- The law CoilsTold: its walk, and the plain law. Conditions: what each theorem states. -/
import Derived.Test.YtggiobdjepgkfaaOC
set_option linter.unusedVariables false
set_option linter.unusedSimpArgs false
section
namespace Go.Proofs.Ytggiobdjepgkfaa.Laws
open Go.RowKit Go.Proofs.Ytggiobdjepgkfaa.P Go.Proofs.Ytggiobdjepgkfaa.E Go.Proofs.Ytggiobdjepgkfaa.Cur Go.Proofs.Ytggiobdjepgkfaa.Cu Go.Proofs.Ytggiobdjepgkfaa.Same Go.Proofs.Ytggiobdjepgkfaa.Bits Go.Proofs.Ytggiobdjepgkfaa.Put Go.Proofs.Ytggiobdjepgkfaa.Com Go.Proofs.Ytggiobdjepgkfaa.Coil Go.Proofs.YtggiobdjepgkfaaW.PrintWords Go.Proofs.YtggiobdjepgkfaaW.PrintLast Go.Proofs.YtggiobdjepgkfaaW.PrintMore
set_option maxHeartbeats 16000000 in
set_option maxRecDepth 100000 in
theorem CoilsTold_0 {A : Option Addr} {c : Nat} {l : List Int} {w : World} (hr : Kd.C (Kd.int .u8) w A l.length l) (hc : l.length ≤ c) (hb : isBytes l) (hl : 400 < l.length) :
    Calls Try.prog 9 #[.slice A l.length c] w fun en w' => en = .returned (.bool true) ∧ Below w.heap.size w w' := by
  have H := Aside0.mk (Hd.start w)
  have n0_ := Aside0.mk ((H.out).add (sta_C _ _ _ _) (hr))
  clear H
  have H := n0_
  clear n0_
  have d1 : decide ((l.length : Int) > 400) = true := decide_eq_true (by omega)
  have d2 : decide ((400 : Int) < (l.length : Int)) = true := decide_eq_true (by omega)
  have HB := Aside0.mk hb
  clear hr hb
  go_enter Try.func9, Try.ntmps9
  go_wp2_with (first | (go_at_call 12; (with_reducible refine (awake_any _).mono ?_); rintro en wa ⟨rfl, hb_⟩; have n0_ := Aside0.mk (H.out.on hb_); clear H; have H := n0_; clear n0_; clear hb_))
  go_ret
  exact ⟨rfl, H.out.b⟩
set_option maxHeartbeats 16000000 in
set_option maxRecDepth 100000 in
theorem CoilsTold_1 {A : Option Addr} {c : Nat} {l : List Int} {w : World} (hr : Kd.C (Kd.int .u8) w A l.length l) (hc : l.length ≤ c) (hb : isBytes l) (hl : l.length ≤ 400) (h2 : l.length < 1) :
    Calls Try.prog 9 #[.slice A l.length c] w fun en w' => en = .returned (.bool true) ∧ Below w.heap.size w w' := by
  have H := Aside0.mk (Hd.start w)
  have n0_ := Aside0.mk ((H.out).add (sta_C _ _ _ _) (hr))
  clear H
  have H := n0_
  clear n0_
  have d1 : decide ((l.length : Int) > 400) = false := decide_eq_false (by omega)
  have d2 : decide ((400 : Int) < (l.length : Int)) = false := decide_eq_false (by omega)
  have HB := Aside0.mk hb
  have HW := Aside0.mk (show WriteC 17 1 (mkD 2 l) (([] : List Int), 1) from mkD_c (by decide) hb (by omega) (by rw [tell_w (.inr rfl) hb (by omega), if_neg (by omega)]))
  have d3 : decide ((l.length : Int) < 1) = true := decide_eq_true (by omega)
  clear hb hr
  have HL1 := Aside0.mk hl
  have HL2 := Aside0.mk h2
  clear hl h2
  go_enter Try.func9, Try.ntmps9
  go_upto_region 4 with (first | (go_at_call 12; (with_reducible refine (awake_any _).mono ?_); rintro en wa ⟨rfl, hb_⟩; have n0_ := Aside0.mk (H.out.on hb_); clear H; have H := n0_; clear n0_; clear hb_))
  go_upto_region 5 with (first | ((with_reducible refine gate_dst (N := 13) rfl ?_); (try (refine gate_guard (by rfl) ?_; dsimp only)); refine ev_build ((zeroC.setIfInBounds 0 (.int .u8 2)).setIfInBounds 14 (.slice A l.length c)) rfl (by first | (go_simp; done) | (go_simp; rfl)) ?_; intro cm hcx_; have mx_ := (show IsMsg _ ((zeroC.setIfInBounds 0 (.int .u8 2)).setIfInBounds 14 (.slice A l.length c)) (mkD 2 l) from mkD_is (by decide) HB.out H.out.f.2 hc); rw [← hcx_] at mx_; have n0_ := Aside0.mk ((H.out).add (sta_msg _ _) (mx_)); clear H; have H := n0_; clear n0_; clear hcx_ mx_) | (go_at_call 17; (with_reducible refine (WriteC.n HW.out (n := 0) rfl H.out.f.2).mono ?_); rintro en wb ⟨Ab, cb, rfl, hz_, hr_, hb_⟩; have n0_ := Aside0.mk ((H.out.on hb_).add (sta_C _ _ _ _) (hr_)); clear H; have H := n0_; clear n0_; have Zb := Aside0.mk hz_; clear hb_ hr_ hz_))
  go_wp2
  go_ret
  exact ⟨by first | rfl | (simp [same_refl]; done), H.out.b⟩
set_option maxHeartbeats 16000000 in
set_option maxRecDepth 100000 in
theorem CoilsTold_2 {A : Option Addr} {c : Nat} {l : List Int} {w : World} (hr : Kd.C (Kd.int .u8) w A l.length l) (hc : l.length ≤ c) (hb : isBytes l) (hl : l.length ≤ 400) (h2 : 250 < l.length) :
    Calls Try.prog 9 #[.slice A l.length c] w fun en w' => en = .returned (.bool true) ∧ Below w.heap.size w w' := by
  have H := Aside0.mk (Hd.start w)
  have n0_ := Aside0.mk ((H.out).add (sta_C _ _ _ _) (hr))
  clear H
  have H := n0_
  clear n0_
  have d1 : decide ((l.length : Int) > 400) = false := decide_eq_false (by omega)
  have d2 : decide ((400 : Int) < (l.length : Int)) = false := decide_eq_false (by omega)
  have HB := Aside0.mk hb
  have HW := Aside0.mk (show WriteC 17 1 (mkD 2 l) (([] : List Int), 1) from mkD_c (by decide) hb (by omega) (by rw [tell_w (.inr rfl) hb (by omega), if_neg (by omega)]))
  have d3 : decide ((l.length : Int) < 1) = false := decide_eq_false (by omega)
  have d4 : decide ((l.length : Int) > 250) = true := decide_eq_true (by omega)
  have d5 : decide ((250 : Int) < (l.length : Int)) = true := decide_eq_true (by omega)
  clear hb hr
  have HL1 := Aside0.mk hl
  have HL2 := Aside0.mk h2
  clear hl h2
  go_enter Try.func9, Try.ntmps9
  go_upto_region 4 with (first | (go_at_call 12; (with_reducible refine (awake_any _).mono ?_); rintro en wa ⟨rfl, hb_⟩; have n0_ := Aside0.mk (H.out.on hb_); clear H; have H := n0_; clear n0_; clear hb_))
  go_upto_region 5 with (first | ((with_reducible refine gate_dst (N := 13) rfl ?_); (try (refine gate_guard (by rfl) ?_; dsimp only)); refine ev_build ((zeroC.setIfInBounds 0 (.int .u8 2)).setIfInBounds 14 (.slice A l.length c)) rfl (by first | (go_simp; done) | (go_simp; rfl)) ?_; intro cm hcx_; have mx_ := (show IsMsg _ ((zeroC.setIfInBounds 0 (.int .u8 2)).setIfInBounds 14 (.slice A l.length c)) (mkD 2 l) from mkD_is (by decide) HB.out H.out.f.2 hc); rw [← hcx_] at mx_; have n0_ := Aside0.mk ((H.out).add (sta_msg _ _) (mx_)); clear H; have H := n0_; clear n0_; clear hcx_ mx_) | (go_at_call 17; (with_reducible refine (WriteC.n HW.out (n := 0) rfl H.out.f.2).mono ?_); rintro en wb ⟨Ab, cb, rfl, hz_, hr_, hb_⟩; have n0_ := Aside0.mk ((H.out.on hb_).add (sta_C _ _ _ _) (hr_)); clear H; have H := n0_; clear n0_; have Zb := Aside0.mk hz_; clear hb_ hr_ hz_))
  go_wp2
  go_ret
  exact ⟨by first | rfl | (simp [same_refl]; done), H.out.b⟩
set_option maxHeartbeats 16000000 in
set_option maxRecDepth 100000 in
theorem CoilsTold_3 {A : Option Addr} {c : Nat} {l : List Int} {w : World} (hr : Kd.C (Kd.int .u8) w A l.length l) (hc : l.length ≤ c) (hb : isBytes l) (hl : l.length ≤ 250) (h2 : 1 ≤ l.length) :
    Calls Try.prog 9 #[.slice A l.length c] w fun en w' => en = .returned (.bool true) ∧ Below w.heap.size w w' := by
  have H := Aside0.mk (Hd.start w)
  have n0_ := Aside0.mk ((H.out).add (sta_C _ _ _ _) (hr))
  clear H
  have H := n0_
  clear n0_
  have d1 : decide ((l.length : Int) > 400) = false := decide_eq_false (by omega)
  have d2 : decide ((400 : Int) < (l.length : Int)) = false := decide_eq_false (by omega)
  have HB := Aside0.mk hb
  have HW := Aside0.mk (show WriteC 17 1 (mkD 2 l) (counted l, 0) from mkD_c (by decide) hb (by omega) (by rw [tell_w (.inr rfl) hb (by omega), if_pos (by omega)]))
  have d3 : decide ((l.length : Int) < 1) = false := decide_eq_false (by omega)
  have d4 : decide ((l.length : Int) > 250) = false := decide_eq_false (by omega)
  have d5 : decide ((250 : Int) < (l.length : Int)) = false := decide_eq_false (by omega)
  have HBC := Aside0.mk (counted_bytes hb)
  have HCN := Aside0.mk (show (l.length : Int) :: l = counted l from by unfold counted; rw [show (l.length : Int) % 256 = l.length by omega])
  have hlen : l.length ≤ 400 := by omega
  clear hb hr
  go_enter Try.func9, Try.ntmps9
  go_upto_region 4 with (first | (go_at_call 12; (with_reducible refine (awake_any _).mono ?_); rintro en wa ⟨rfl, hb_⟩; have n0_ := Aside0.mk (H.out.on hb_); clear H; have H := n0_; clear n0_; clear hb_))
  go_upto_region 5 with (first | ((with_reducible refine gate_dst (N := 13) rfl ?_); (try (refine gate_guard (by rfl) ?_; dsimp only)); refine ev_build ((zeroC.setIfInBounds 0 (.int .u8 2)).setIfInBounds 14 (.slice A l.length c)) rfl (by first | (go_simp; done) | (go_simp; rfl)) ?_; intro cm hcx_; have mx_ := (show IsMsg _ ((zeroC.setIfInBounds 0 (.int .u8 2)).setIfInBounds 14 (.slice A l.length c)) (mkD 2 l) from mkD_is (by decide) HB.out H.out.f.2 hc); rw [← hcx_] at mx_; have n0_ := Aside0.mk ((H.out).add (sta_msg _ _) (mx_)); clear H; have H := n0_; clear n0_; clear hcx_ mx_) | (go_at_call 17; (with_reducible refine (WriteC.n HW.out (n := l.length + 1) rfl H.out.f.2).mono ?_); rintro en wb ⟨Ab, cb, rfl, hz_, hr_, hb_⟩; have n0_ := Aside0.mk ((H.out.on hb_).add (sta_C _ _ _ _) (hr_)); clear H; have H := n0_; clear n0_; have Zb := Aside0.mk hz_; clear hb_ hr_ hz_))
  go_wp2_with (first | ((with_reducible refine gate_dst (N := 40) rfl ?_); (try (refine gate_guard (by rfl) ?_; dsimp only)); refine Com.ev_rlit .u8 [(l.length : Int)] 5 rfl rfl (by first | (go_simp; done) | (go_simp; rfl)) (by simp) ?_; intro vl wr hr_ hb_; have Rvl := Aside0.mk hr_; have Bvl := Aside0.mk hb_; clear hr_ hb_) | ((with_reducible refine gate_builtin (b := .append) (xs := #[.tmp 40, .tmp 41]) rfl ?_); at_builtin; (try (refine gate_guard (by rfl) ?_; dsimp only)); refine Com.ev_app .u8 5 (.tmp 40) (.tmp 41) 22 1 rfl rfl Try.underlying22 (by kernel_rfl) (by decide) (by decide) rfl rfl Rvl.out (Kd.C_below (H.out.f.1.1.2) Bvl.out) Bvl.out (by first | omega | (simp; omega)) (zs := (l.length : Int) :: l) (n := l.length + 1) (by first | rfl | simp) (by first | rfl | simp) ?_; intro v1_ Ap cp wap e1_ hR_ hC_ hz_ hb_; have Zp := Aside0.mk hz_; have n0_ := Aside0.mk ((H.out.on hb_).add (sta_C _ _ _ _) (hC_)); clear H; have H := n0_; clear n0_; clear e1_ hR_ hC_ hz_ hb_ Rvl Bvl) | (go_at_call 19; (with_reducible refine (same_e HBC.out HCN.out (n := l.length + 1) (m := l.length + 1) rfl rfl H.out.f.1.2 Zb.out H.out.f.2 Zp.out).mono ?_); rintro en we2 ⟨rfl, hb_⟩; have n0_ := Aside0.mk (H.out.on hb_); clear H; have H := n0_; clear n0_; clear hb_))
  go_ret
  exact ⟨by first | rfl | (simp [same_refl]; done), H.out.b⟩
theorem busbarlaw08_CoilsTold (A : Option Addr) (c : Nat) (l : List Int) (w : World) (hr : Kd.C (Kd.int .u8) w A l.length l) (hc : l.length ≤ c) {p1 : Prop} (_ : p1) (hw : ∀ x ∈ l, (Lit.int .u8 x).wf = true) :
    Calls Try.prog 9 #[.slice A l.length c] w fun en w' => en = .returned (.bool true) ∧ Below w.heap.size w w' := by
  have hb : isBytes l := fun x hx => u8_wf (hw x hx)
  by_cases h1 : 400 < l.length
  · exact CoilsTold_0 hr hc hb h1
  by_cases h2 : l.length < 1
  · exact CoilsTold_1 hr hc hb (by omega) h2
  by_cases h3 : 250 < l.length
  · exact CoilsTold_2 hr hc hb (by omega) h3
  · exact CoilsTold_3 hr hc hb (by omega) (by omega)
end Go.Proofs.Ytggiobdjepgkfaa.Laws
end
