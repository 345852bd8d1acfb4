/- The law DiagTells: its walk, and the plain law. Conditions: what each theorem states. -/
import Derived.Test.YtalaochocmcbcaaMD
set_option linter.unusedVariables false
set_option linter.unusedSimpArgs false
set_option maxHeartbeats 16000000
set_option maxRecDepth 100000
section
namespace Go.Proofs.Ytalaochocmcbcaa.Laws
open Go.RowKit Go.Proofs.Ytalaochocmcbcaa.P Go.Proofs.Ytalaochocmcbcaa.E Go.Proofs.Ytalaochocmcbcaa.Cur Go.Proofs.Ytalaochocmcbcaa.Cu Go.Proofs.Ytalaochocmcbcaa.Same Go.Proofs.Ytalaochocmcbcaa.Code Go.Proofs.Ytalaochocmcbcaa.Put Go.Proofs.Ytalaochocmcbcaa.Com Go.Proofs.Ytalaochocmcbcaa.Diag Go.Proofs.YtalaochocmcbcaaW.PrintWords Go.Proofs.YtalaochocmcbcaaW.PrintLast Go.Proofs.YtalaochocmcbcaaW.PrintMore
theorem Tells_long {s x y : Int} {l : List Int} {A : Option Addr} {c : Nat} {w : World} (hr : Kd.C (Kd.int .u8) w A l.length l) (hc : l.length ≤ c) (hl : 400 < l.length) :
    Calls Try.prog 8 #[.int .u16 s, .int .u16 x, .int .u16 y, .slice A l.length c] w fun en w' => en = .returned (.bool true) ∧ Below w.heap.size w w' := by
  have H := Aside0.mk (Hd.start w)
  have d1 : decide ((l.length : Int) > 400) = true := decide_eq_true (by omega)
  have d2 : decide ((400 : Int) < (l.length : Int)) = true := decide_eq_true (by omega)
  clear hr
  go_enter Try.func8, Try.ntmps8
  go_wp2_with (first | (go_at_call 11; (with_reducible refine (awake_any _).mono ?_); rintro en wa ⟨rfl, hb_⟩; have n0_ := Aside0.mk (H.out.on hb_); clear H; have H := n0_; clear n0_; clear hb_))
  go_ret
  exact ⟨by first | rfl | (simp [same_refl]; done), H.out.b⟩
theorem logged_len {s e g : Int} {l : List Int} : (logged s e g l).length = 7 + l.length := by
  unfold logged
  rw [List.length_cons, List.length_append, putL_length]
  simp only [List.length_cons, List.length_nil]
  omega
theorem counted_len {l : List Int} : (counted l).length = 1 + l.length := by
  unfold counted
  rw [List.length_cons]
  omega
theorem cut_some {W : World} {A : Option Addr} {n : Nat} {xs : List Int} (h : Kd.C (Kd.int .u8) W A (7 + n) xs) : ∃ ad, A = some ad := by
  obtain ⟨ad, e, _⟩ := Kd.at_int h (0 : Int) (by omega) (by omega)
  exact ⟨ad, e⟩
theorem cut_row {W : World} {ad : Addr} {s x y : Int} {l : List Int} (h : Kd.C (Kd.int .u8) W (some ad) (7 + l.length) (logged s x y l)) : Kd.C (Kd.int .u8) W (some ⟨ad.block, ad.off + 1, none⟩) 4 (putL [s, x]) := by
  have hl := logged_len (s := s) (e := x) (g := y) (l := l)
  rw [← hl] at h
  have h1 := Kd.C_drop (m := 1) (c := (logged s x y l).length) h (by omega) (Nat.le_refl _)
  rw [if_neg (by omega)] at h1
  have h2 := Kd.C_take (m := 4) h1 (by rw [List.length_drop]; omega)
  exact h2
theorem Tells_0_0 {x y : Int} {l : List Int} {A : Option Addr} {c : Nat} {w : World} (hr : Kd.C (Kd.int .u8) w A l.length l) (hc : l.length ≤ c) (hl : ¬ 400 < l.length) (hb : isBytes l) (hk : l.length = 0) (hs : 0 ≤ (0 : Int) ∧ (0 : Int) < 65536) (hx : 0 ≤ x ∧ x < 65536) (hy : 0 ≤ y ∧ y < 65536) :
    Calls Try.prog 8 #[.int .u16 0, .int .u16 x, .int .u16 y, .slice A l.length c] w fun en w' => en = .returned (.bool true) ∧ Below w.heap.size w w' := by
  have H := Aside0.mk (Hd.start w)
  have n0_ := Aside0.mk ((H.out).add (sta_C _ _ _ _) (hr))
  clear H
  have H := n0_
  clear n0_
  have d1 : decide ((l.length : Int) > 400) = false := decide_eq_false (by omega)
  have d2 : decide ((400 : Int) < (l.length : Int)) = false := decide_eq_false (by omega)
  have d3 : decide ((l.length : Int) ≤ 64) = true := decide_eq_true (by omega)
  have d4 : decide ((l.length : Int) ≥ 1) = false := decide_eq_false (by omega)
  have d5 : decide ((1 : Int) ≤ (l.length : Int)) = false := decide_eq_false (by omega)
  have d6 : decide ((l.length : Int) ≤ 251) = true := decide_eq_true (by omega)
  have d7 : decide (l.length ≤ 64) = true := decide_eq_true (by omega)
  have d8 : decide (1 ≤ l.length) = false := decide_eq_false (by omega)
  have d9 : decide (l.length ≤ 251) = true := decide_eq_true (by omega)
  have d10 : decide (0 < l.length) = false := decide_eq_false (by omega)
  have HWE := Aside0.mk (show WriteC 16 1 (mkE 0 x) (putL [0, x], 0) from mkE_c hs hx (by rw [writeE hx, if_pos (by omega)]))
  have HWG := Aside0.mk (show WriteC 16 1 (mkG 0 x y l) (logged 0 x y l, 0) from mkG_c hs hx hy hb (by omega) (by rw [writeG hx hy hb, if_pos (by omega)]))
  have HWN := Aside0.mk (show WriteC 16 1 (mkN l) (([] : List Int), 1) from mkN_c hb (by omega) (by rw [writeN hb, if_neg (by omega)]))
  have wl7 : wrap64 (7 + (l.length : Int)) = 7 + (l.length : Int) := wrap64_id (by omega) (by omega)
  have wl1 : wrap64 (1 + (l.length : Int)) = 1 + (l.length : Int) := wrap64_id (by omega) (by omega)
  have HS := Aside0.mk hs
  have HX := Aside0.mk hx
  have HY := Aside0.mk hy
  have HBB := Aside0.mk hb
  have HC := Aside0.mk hc
  clear hr hs hx hy hb hc hl hk
  go_enter Try.func8, Try.ntmps8
  go_upto_region 5 with (first | (go_at_call 11; (with_reducible refine (awake_any _).mono ?_); rintro en wa ⟨rfl, hb_⟩; have n0_ := Aside0.mk (H.out.on hb_); clear H; have H := n0_; clear n0_; clear hb_))
  go_upto_region 6 with (first | ((with_reducible refine gate_dst (N := 31) rfl ?_); (try (refine gate_guard (by rfl) ?_; dsimp only)); refine ev_build (((zeroC.setIfInBounds 0 (.int .u8 11)).setIfInBounds 9 (.int .u16 0)).setIfInBounds 10 (.int .u16 x)) rfl (by first | (go_simp; done) | (go_simp; rfl)) ?_; intro ce hcx_; have mx_ := (fun W => (by rw [hcx_]; exact ((fun W => mkE_is HS.out HX.out W)) W : IsMsg W ce (mkE 0 x))); have n0_ := Aside0.mk ((H.out).add (sta_msg _ _) (mx_ _)); clear H; have H := n0_; clear n0_; clear hcx_ mx_) | (go_at_call 16; (with_reducible refine (WriteC.n HWE.out (n := 4) rfl H.out.f.2).mono ?_); rintro en wa1 ⟨Aa, ca, rfl, hz_, hr_, hb_⟩; have n0_ := Aside0.mk ((H.out.on hb_).add (sta_C _ _ _ _) (hr_)); clear H; have H := n0_; clear n0_; have Za := Aside0.mk hz_; clear hb_ hr_ hz_))
  go_upto_region 7 with (first | ((with_reducible refine gate_dst (N := 40) rfl ?_); (try (refine gate_guard (by rfl) ?_; dsimp only)); refine ev_build (((((zeroC.setIfInBounds 0 (.int .u8 12)).setIfInBounds 9 (.int .u16 0)).setIfInBounds 10 (.int .u16 x)).setIfInBounds 11 (.int .u16 y)).setIfInBounds 14 (.slice A l.length c)) rfl (by first | (go_simp; done) | (go_simp; rfl)) ?_; intro cg hcx_; have mx_ := (show IsMsg _ (((((zeroC.setIfInBounds 0 (.int .u8 12)).setIfInBounds 9 (.int .u16 0)).setIfInBounds 10 (.int .u16 x)).setIfInBounds 11 (.int .u16 y)).setIfInBounds 14 (.slice A l.length c)) (mkG 0 x y l) from mkG_is HS.out HX.out HY.out HBB.out H.out.f.1.1.2 HC.out); rw [← hcx_] at mx_; have n0_ := Aside0.mk ((H.out).add (sta_msg _ _) (mx_)); clear H; have H := n0_; clear n0_; clear hcx_ mx_) | (go_at_call 16; (with_reducible refine (WriteC.n HWG.out (n := 7 + l.length) logged_len H.out.f.2).mono ?_); rintro en wb1 ⟨Ab, cb, rfl, hz_, hr_, hb_⟩; have n0_ := Aside0.mk ((H.out.on hb_).add (sta_C _ _ _ _) (hr_)); clear H; have H := n0_; clear n0_; have Zb := Aside0.mk hz_; clear hb_ hr_ hz_))
  go_upto_region 8 with (first | ((with_reducible refine gate_dst (N := 46) rfl ?_); (try (refine gate_guard (by rfl) ?_; dsimp only)); refine ev_build ((zeroC.setIfInBounds 0 (.int .u8 17)).setIfInBounds 14 (.slice A l.length c)) rfl (by first | (go_simp; done) | (go_simp; rfl)) ?_; intro cn hcx_; have mx_ := (show IsMsg _ ((zeroC.setIfInBounds 0 (.int .u8 17)).setIfInBounds 14 (.slice A l.length c)) (mkN l) from mkN_is HBB.out H.out.f.1.1.1.1.2 HC.out); rw [← hcx_] at mx_; have n0_ := Aside0.mk ((H.out).add (sta_msg _ _) (mx_)); clear H; have H := n0_; clear n0_; clear hcx_ mx_) | (go_at_call 16; (with_reducible refine (WriteC.n HWN.out (n := 0) rfl H.out.f.2).mono ?_); rintro en wd1 ⟨Ad, cd, rfl, hz_, hr_, hb_⟩; have n0_ := Aside0.mk ((H.out.on hb_).add (sta_C _ _ _ _) (hr_)); clear H; have H := n0_; clear n0_; have Zd := Aside0.mk hz_; clear hb_ hr_ hz_))
  obtain ⟨ab, rfl⟩ := cut_some H.out.f.1.1.2
  have hq5 : (5 : Nat) ≤ cb := by have := Zb.out; omega
  have hqc : ¬ cb = 1 := by omega
  have hq1 : (5 : Int) ≤ (cb : Int) := by omega
  have hge5 : decide ((7 + (l.length : Int)) ≥ 5) = true := decide_eq_true (by omega)
  have hge5b : decide ((5 : Int) ≤ 7 + (l.length : Int)) = true := hge5
  have RCUT := Aside0.mk (cut_row H.out.f.1.1.2)
  have HQ5 := Aside0.mk hq5
  go_wp2_with (first | (go_at_call 18; (with_reducible refine (same_n (putL_bytes [0, x]) (putL_bytes [0, x]) (n := 4) (m := 4) (c := cb - 1) rfl rfl RCUT.out (by have := HQ5.out; omega) H.out.f.1.1.1.1.2 Za.out).mono ?_); rintro en we ⟨rfl, hb_⟩; have n0_ := Aside0.mk (H.out.on hb_); clear H; have H := n0_; clear n0_; clear hb_))
  go_ret
  exact ⟨by first | rfl | (simp [same_refl]; done), H.out.b⟩
theorem Tells_0_1 {x y : Int} {l : List Int} {A : Option Addr} {c : Nat} {w : World} (hr : Kd.C (Kd.int .u8) w A l.length l) (hc : l.length ≤ c) (hl : ¬ 400 < l.length) (hb : isBytes l) (hk : 1 ≤ l.length ∧ l.length ≤ 64) (hs : 0 ≤ (0 : Int) ∧ (0 : Int) < 65536) (hx : 0 ≤ x ∧ x < 65536) (hy : 0 ≤ y ∧ y < 65536) :
    Calls Try.prog 8 #[.int .u16 0, .int .u16 x, .int .u16 y, .slice A l.length c] w fun en w' => en = .returned (.bool true) ∧ Below w.heap.size w w' := by
  have H := Aside0.mk (Hd.start w)
  have n0_ := Aside0.mk ((H.out).add (sta_C _ _ _ _) (hr))
  clear H
  have H := n0_
  clear n0_
  have d1 : decide ((l.length : Int) > 400) = false := decide_eq_false (by omega)
  have d2 : decide ((400 : Int) < (l.length : Int)) = false := decide_eq_false (by omega)
  have d3 : decide ((l.length : Int) ≤ 64) = true := decide_eq_true (by omega)
  have d4 : decide ((l.length : Int) ≥ 1) = true := decide_eq_true (by omega)
  have d5 : decide ((1 : Int) ≤ (l.length : Int)) = true := decide_eq_true (by omega)
  have d6 : decide ((l.length : Int) ≤ 251) = true := decide_eq_true (by omega)
  have d7 : decide (l.length ≤ 64) = true := decide_eq_true (by omega)
  have d8 : decide (1 ≤ l.length) = true := decide_eq_true (by omega)
  have d9 : decide (l.length ≤ 251) = true := decide_eq_true (by omega)
  have d10 : decide (0 < l.length) = true := decide_eq_true (by omega)
  have HWE := Aside0.mk (show WriteC 16 1 (mkE 0 x) (putL [0, x], 0) from mkE_c hs hx (by rw [writeE hx, if_pos (by omega)]))
  have HWG := Aside0.mk (show WriteC 16 1 (mkG 0 x y l) (logged 0 x y l, 0) from mkG_c hs hx hy hb (by omega) (by rw [writeG hx hy hb, if_pos (by omega)]))
  have HWN := Aside0.mk (show WriteC 16 1 (mkN l) (counted l, 0) from mkN_c hb (by omega) (by rw [writeN hb, if_pos (by omega)]))
  have wl7 : wrap64 (7 + (l.length : Int)) = 7 + (l.length : Int) := wrap64_id (by omega) (by omega)
  have wl1 : wrap64 (1 + (l.length : Int)) = 1 + (l.length : Int) := wrap64_id (by omega) (by omega)
  have HS := Aside0.mk hs
  have HX := Aside0.mk hx
  have HY := Aside0.mk hy
  have HBB := Aside0.mk hb
  have HC := Aside0.mk hc
  clear hr hs hx hy hb hc hl hk
  go_enter Try.func8, Try.ntmps8
  go_upto_region 5 with (first | (go_at_call 11; (with_reducible refine (awake_any _).mono ?_); rintro en wa ⟨rfl, hb_⟩; have n0_ := Aside0.mk (H.out.on hb_); clear H; have H := n0_; clear n0_; clear hb_))
  go_upto_region 6 with (first | ((with_reducible refine gate_dst (N := 31) rfl ?_); (try (refine gate_guard (by rfl) ?_; dsimp only)); refine ev_build (((zeroC.setIfInBounds 0 (.int .u8 11)).setIfInBounds 9 (.int .u16 0)).setIfInBounds 10 (.int .u16 x)) rfl (by first | (go_simp; done) | (go_simp; rfl)) ?_; intro ce hcx_; have mx_ := (fun W => (by rw [hcx_]; exact ((fun W => mkE_is HS.out HX.out W)) W : IsMsg W ce (mkE 0 x))); have n0_ := Aside0.mk ((H.out).add (sta_msg _ _) (mx_ _)); clear H; have H := n0_; clear n0_; clear hcx_ mx_) | (go_at_call 16; (with_reducible refine (WriteC.n HWE.out (n := 4) rfl H.out.f.2).mono ?_); rintro en wa1 ⟨Aa, ca, rfl, hz_, hr_, hb_⟩; have n0_ := Aside0.mk ((H.out.on hb_).add (sta_C _ _ _ _) (hr_)); clear H; have H := n0_; clear n0_; have Za := Aside0.mk hz_; clear hb_ hr_ hz_))
  go_upto_region 7 with (first | ((with_reducible refine gate_dst (N := 40) rfl ?_); (try (refine gate_guard (by rfl) ?_; dsimp only)); refine ev_build (((((zeroC.setIfInBounds 0 (.int .u8 12)).setIfInBounds 9 (.int .u16 0)).setIfInBounds 10 (.int .u16 x)).setIfInBounds 11 (.int .u16 y)).setIfInBounds 14 (.slice A l.length c)) rfl (by first | (go_simp; done) | (go_simp; rfl)) ?_; intro cg hcx_; have mx_ := (show IsMsg _ (((((zeroC.setIfInBounds 0 (.int .u8 12)).setIfInBounds 9 (.int .u16 0)).setIfInBounds 10 (.int .u16 x)).setIfInBounds 11 (.int .u16 y)).setIfInBounds 14 (.slice A l.length c)) (mkG 0 x y l) from mkG_is HS.out HX.out HY.out HBB.out H.out.f.1.1.2 HC.out); rw [← hcx_] at mx_; have n0_ := Aside0.mk ((H.out).add (sta_msg _ _) (mx_)); clear H; have H := n0_; clear n0_; clear hcx_ mx_) | (go_at_call 16; (with_reducible refine (WriteC.n HWG.out (n := 7 + l.length) logged_len H.out.f.2).mono ?_); rintro en wb1 ⟨Ab, cb, rfl, hz_, hr_, hb_⟩; have n0_ := Aside0.mk ((H.out.on hb_).add (sta_C _ _ _ _) (hr_)); clear H; have H := n0_; clear n0_; have Zb := Aside0.mk hz_; clear hb_ hr_ hz_))
  go_upto_region 8 with (first | ((with_reducible refine gate_dst (N := 46) rfl ?_); (try (refine gate_guard (by rfl) ?_; dsimp only)); refine ev_build ((zeroC.setIfInBounds 0 (.int .u8 17)).setIfInBounds 14 (.slice A l.length c)) rfl (by first | (go_simp; done) | (go_simp; rfl)) ?_; intro cn hcx_; have mx_ := (show IsMsg _ ((zeroC.setIfInBounds 0 (.int .u8 17)).setIfInBounds 14 (.slice A l.length c)) (mkN l) from mkN_is HBB.out H.out.f.1.1.1.1.2 HC.out); rw [← hcx_] at mx_; have n0_ := Aside0.mk ((H.out).add (sta_msg _ _) (mx_)); clear H; have H := n0_; clear n0_; clear hcx_ mx_) | (go_at_call 16; (with_reducible refine (WriteC.n HWN.out (n := 1 + l.length) counted_len H.out.f.2).mono ?_); rintro en wd1 ⟨Ad, cd, rfl, hz_, hr_, hb_⟩; have n0_ := Aside0.mk ((H.out.on hb_).add (sta_C _ _ _ _) (hr_)); clear H; have H := n0_; clear n0_; have Zd := Aside0.mk hz_; clear hb_ hr_ hz_))
  obtain ⟨ab, rfl⟩ := cut_some H.out.f.1.1.2
  have hq5 : (5 : Nat) ≤ cb := by have := Zb.out; omega
  have hqc : ¬ cb = 1 := by omega
  have hq1 : (5 : Int) ≤ (cb : Int) := by omega
  have hge5 : decide ((7 + (l.length : Int)) ≥ 5) = true := decide_eq_true (by omega)
  have hge5b : decide ((5 : Int) ≤ 7 + (l.length : Int)) = true := hge5
  have RCUT := Aside0.mk (cut_row H.out.f.1.1.2)
  have HQ5 := Aside0.mk hq5
  go_wp2_with (first | (go_at_call 18; (with_reducible refine (same_n (putL_bytes [0, x]) (putL_bytes [0, x]) (n := 4) (m := 4) (c := cb - 1) rfl rfl RCUT.out (by have := HQ5.out; omega) H.out.f.1.1.1.1.2 Za.out).mono ?_); rintro en we ⟨rfl, hb_⟩; have n0_ := Aside0.mk (H.out.on hb_); clear H; have H := n0_; clear n0_; clear hb_))
  go_ret
  exact ⟨by first | rfl | (simp [same_refl]; done), H.out.b⟩
theorem Tells_0_2 {x y : Int} {l : List Int} {A : Option Addr} {c : Nat} {w : World} (hr : Kd.C (Kd.int .u8) w A l.length l) (hc : l.length ≤ c) (hl : ¬ 400 < l.length) (hb : isBytes l) (hk : 65 ≤ l.length ∧ l.length ≤ 251) (hs : 0 ≤ (0 : Int) ∧ (0 : Int) < 65536) (hx : 0 ≤ x ∧ x < 65536) (hy : 0 ≤ y ∧ y < 65536) :
    Calls Try.prog 8 #[.int .u16 0, .int .u16 x, .int .u16 y, .slice A l.length c] w fun en w' => en = .returned (.bool true) ∧ Below w.heap.size w w' := by
  have H := Aside0.mk (Hd.start w)
  have n0_ := Aside0.mk ((H.out).add (sta_C _ _ _ _) (hr))
  clear H
  have H := n0_
  clear n0_
  have d1 : decide ((l.length : Int) > 400) = false := decide_eq_false (by omega)
  have d2 : decide ((400 : Int) < (l.length : Int)) = false := decide_eq_false (by omega)
  have d3 : decide ((l.length : Int) ≤ 64) = false := decide_eq_false (by omega)
  have d4 : decide ((l.length : Int) ≥ 1) = true := decide_eq_true (by omega)
  have d5 : decide ((1 : Int) ≤ (l.length : Int)) = true := decide_eq_true (by omega)
  have d6 : decide ((l.length : Int) ≤ 251) = true := decide_eq_true (by omega)
  have d7 : decide (l.length ≤ 64) = false := decide_eq_false (by omega)
  have d8 : decide (1 ≤ l.length) = true := decide_eq_true (by omega)
  have d9 : decide (l.length ≤ 251) = true := decide_eq_true (by omega)
  have d10 : decide (0 < l.length) = true := decide_eq_true (by omega)
  have HWE := Aside0.mk (show WriteC 16 1 (mkE 0 x) (putL [0, x], 0) from mkE_c hs hx (by rw [writeE hx, if_pos (by omega)]))
  have HWG := Aside0.mk (show WriteC 16 1 (mkG 0 x y l) (([] : List Int), 1) from mkG_c hs hx hy hb (by omega) (by rw [writeG hx hy hb, if_neg (by omega)]))
  have HWN := Aside0.mk (show WriteC 16 1 (mkN l) (counted l, 0) from mkN_c hb (by omega) (by rw [writeN hb, if_pos (by omega)]))
  have wl7 : wrap64 (7 + (l.length : Int)) = 7 + (l.length : Int) := wrap64_id (by omega) (by omega)
  have wl1 : wrap64 (1 + (l.length : Int)) = 1 + (l.length : Int) := wrap64_id (by omega) (by omega)
  have HS := Aside0.mk hs
  have HX := Aside0.mk hx
  have HY := Aside0.mk hy
  have HBB := Aside0.mk hb
  have HC := Aside0.mk hc
  clear hr hs hx hy hb hc hl hk
  go_enter Try.func8, Try.ntmps8
  go_upto_region 5 with (first | (go_at_call 11; (with_reducible refine (awake_any _).mono ?_); rintro en wa ⟨rfl, hb_⟩; have n0_ := Aside0.mk (H.out.on hb_); clear H; have H := n0_; clear n0_; clear hb_))
  go_upto_region 6 with (first | ((with_reducible refine gate_dst (N := 31) rfl ?_); (try (refine gate_guard (by rfl) ?_; dsimp only)); refine ev_build (((zeroC.setIfInBounds 0 (.int .u8 11)).setIfInBounds 9 (.int .u16 0)).setIfInBounds 10 (.int .u16 x)) rfl (by first | (go_simp; done) | (go_simp; rfl)) ?_; intro ce hcx_; have mx_ := (fun W => (by rw [hcx_]; exact ((fun W => mkE_is HS.out HX.out W)) W : IsMsg W ce (mkE 0 x))); have n0_ := Aside0.mk ((H.out).add (sta_msg _ _) (mx_ _)); clear H; have H := n0_; clear n0_; clear hcx_ mx_) | (go_at_call 16; (with_reducible refine (WriteC.n HWE.out (n := 4) rfl H.out.f.2).mono ?_); rintro en wa1 ⟨Aa, ca, rfl, hz_, hr_, hb_⟩; have n0_ := Aside0.mk ((H.out.on hb_).add (sta_C _ _ _ _) (hr_)); clear H; have H := n0_; clear n0_; have Za := Aside0.mk hz_; clear hb_ hr_ hz_))
  go_upto_region 7 with (first | ((with_reducible refine gate_dst (N := 40) rfl ?_); (try (refine gate_guard (by rfl) ?_; dsimp only)); refine ev_build (((((zeroC.setIfInBounds 0 (.int .u8 12)).setIfInBounds 9 (.int .u16 0)).setIfInBounds 10 (.int .u16 x)).setIfInBounds 11 (.int .u16 y)).setIfInBounds 14 (.slice A l.length c)) rfl (by first | (go_simp; done) | (go_simp; rfl)) ?_; intro cg hcx_; have mx_ := (show IsMsg _ (((((zeroC.setIfInBounds 0 (.int .u8 12)).setIfInBounds 9 (.int .u16 0)).setIfInBounds 10 (.int .u16 x)).setIfInBounds 11 (.int .u16 y)).setIfInBounds 14 (.slice A l.length c)) (mkG 0 x y l) from mkG_is HS.out HX.out HY.out HBB.out H.out.f.1.1.2 HC.out); rw [← hcx_] at mx_; have n0_ := Aside0.mk ((H.out).add (sta_msg _ _) (mx_)); clear H; have H := n0_; clear n0_; clear hcx_ mx_) | (go_at_call 16; (with_reducible refine (WriteC.n HWG.out (n := 0) rfl H.out.f.2).mono ?_); rintro en wb1 ⟨Ab, cb, rfl, hz_, hr_, hb_⟩; have n0_ := Aside0.mk ((H.out.on hb_).add (sta_C _ _ _ _) (hr_)); clear H; have H := n0_; clear n0_; have Zb := Aside0.mk hz_; clear hb_ hr_ hz_))
  go_upto_region 8 with (first | ((with_reducible refine gate_dst (N := 46) rfl ?_); (try (refine gate_guard (by rfl) ?_; dsimp only)); refine ev_build ((zeroC.setIfInBounds 0 (.int .u8 17)).setIfInBounds 14 (.slice A l.length c)) rfl (by first | (go_simp; done) | (go_simp; rfl)) ?_; intro cn hcx_; have mx_ := (show IsMsg _ ((zeroC.setIfInBounds 0 (.int .u8 17)).setIfInBounds 14 (.slice A l.length c)) (mkN l) from mkN_is HBB.out H.out.f.1.1.1.1.2 HC.out); rw [← hcx_] at mx_; have n0_ := Aside0.mk ((H.out).add (sta_msg _ _) (mx_)); clear H; have H := n0_; clear n0_; clear hcx_ mx_) | (go_at_call 16; (with_reducible refine (WriteC.n HWN.out (n := 1 + l.length) counted_len H.out.f.2).mono ?_); rintro en wd1 ⟨Ad, cd, rfl, hz_, hr_, hb_⟩; have n0_ := Aside0.mk ((H.out.on hb_).add (sta_C _ _ _ _) (hr_)); clear H; have H := n0_; clear n0_; have Zd := Aside0.mk hz_; clear hb_ hr_ hz_))
  go_wp2
  go_ret
  exact ⟨by first | rfl | (simp [same_refl]; done), H.out.b⟩
theorem Tells_0_3 {x y : Int} {l : List Int} {A : Option Addr} {c : Nat} {w : World} (hr : Kd.C (Kd.int .u8) w A l.length l) (hc : l.length ≤ c) (hl : ¬ 400 < l.length) (hb : isBytes l) (hk : 252 ≤ l.length) (hs : 0 ≤ (0 : Int) ∧ (0 : Int) < 65536) (hx : 0 ≤ x ∧ x < 65536) (hy : 0 ≤ y ∧ y < 65536) :
    Calls Try.prog 8 #[.int .u16 0, .int .u16 x, .int .u16 y, .slice A l.length c] w fun en w' => en = .returned (.bool true) ∧ Below w.heap.size w w' := by
  have H := Aside0.mk (Hd.start w)
  have n0_ := Aside0.mk ((H.out).add (sta_C _ _ _ _) (hr))
  clear H
  have H := n0_
  clear n0_
  have d1 : decide ((l.length : Int) > 400) = false := decide_eq_false (by omega)
  have d2 : decide ((400 : Int) < (l.length : Int)) = false := decide_eq_false (by omega)
  have d3 : decide ((l.length : Int) ≤ 64) = false := decide_eq_false (by omega)
  have d4 : decide ((l.length : Int) ≥ 1) = true := decide_eq_true (by omega)
  have d5 : decide ((1 : Int) ≤ (l.length : Int)) = true := decide_eq_true (by omega)
  have d6 : decide ((l.length : Int) ≤ 251) = false := decide_eq_false (by omega)
  have d7 : decide (l.length ≤ 64) = false := decide_eq_false (by omega)
  have d8 : decide (1 ≤ l.length) = true := decide_eq_true (by omega)
  have d9 : decide (l.length ≤ 251) = false := decide_eq_false (by omega)
  have d10 : decide (0 < l.length) = true := decide_eq_true (by omega)
  have HWE := Aside0.mk (show WriteC 16 1 (mkE 0 x) (putL [0, x], 0) from mkE_c hs hx (by rw [writeE hx, if_pos (by omega)]))
  have HWG := Aside0.mk (show WriteC 16 1 (mkG 0 x y l) (([] : List Int), 1) from mkG_c hs hx hy hb (by omega) (by rw [writeG hx hy hb, if_neg (by omega)]))
  have HWN := Aside0.mk (show WriteC 16 1 (mkN l) (([] : List Int), 1) from mkN_c hb (by omega) (by rw [writeN hb, if_neg (by omega)]))
  have wl7 : wrap64 (7 + (l.length : Int)) = 7 + (l.length : Int) := wrap64_id (by omega) (by omega)
  have wl1 : wrap64 (1 + (l.length : Int)) = 1 + (l.length : Int) := wrap64_id (by omega) (by omega)
  have HS := Aside0.mk hs
  have HX := Aside0.mk hx
  have HY := Aside0.mk hy
  have HBB := Aside0.mk hb
  have HC := Aside0.mk hc
  clear hr hs hx hy hb hc hl hk
  go_enter Try.func8, Try.ntmps8
  go_upto_region 5 with (first | (go_at_call 11; (with_reducible refine (awake_any _).mono ?_); rintro en wa ⟨rfl, hb_⟩; have n0_ := Aside0.mk (H.out.on hb_); clear H; have H := n0_; clear n0_; clear hb_))
  go_upto_region 6 with (first | ((with_reducible refine gate_dst (N := 31) rfl ?_); (try (refine gate_guard (by rfl) ?_; dsimp only)); refine ev_build (((zeroC.setIfInBounds 0 (.int .u8 11)).setIfInBounds 9 (.int .u16 0)).setIfInBounds 10 (.int .u16 x)) rfl (by first | (go_simp; done) | (go_simp; rfl)) ?_; intro ce hcx_; have mx_ := (fun W => (by rw [hcx_]; exact ((fun W => mkE_is HS.out HX.out W)) W : IsMsg W ce (mkE 0 x))); have n0_ := Aside0.mk ((H.out).add (sta_msg _ _) (mx_ _)); clear H; have H := n0_; clear n0_; clear hcx_ mx_) | (go_at_call 16; (with_reducible refine (WriteC.n HWE.out (n := 4) rfl H.out.f.2).mono ?_); rintro en wa1 ⟨Aa, ca, rfl, hz_, hr_, hb_⟩; have n0_ := Aside0.mk ((H.out.on hb_).add (sta_C _ _ _ _) (hr_)); clear H; have H := n0_; clear n0_; have Za := Aside0.mk hz_; clear hb_ hr_ hz_))
  go_upto_region 7 with (first | ((with_reducible refine gate_dst (N := 40) rfl ?_); (try (refine gate_guard (by rfl) ?_; dsimp only)); refine ev_build (((((zeroC.setIfInBounds 0 (.int .u8 12)).setIfInBounds 9 (.int .u16 0)).setIfInBounds 10 (.int .u16 x)).setIfInBounds 11 (.int .u16 y)).setIfInBounds 14 (.slice A l.length c)) rfl (by first | (go_simp; done) | (go_simp; rfl)) ?_; intro cg hcx_; have mx_ := (show IsMsg _ (((((zeroC.setIfInBounds 0 (.int .u8 12)).setIfInBounds 9 (.int .u16 0)).setIfInBounds 10 (.int .u16 x)).setIfInBounds 11 (.int .u16 y)).setIfInBounds 14 (.slice A l.length c)) (mkG 0 x y l) from mkG_is HS.out HX.out HY.out HBB.out H.out.f.1.1.2 HC.out); rw [← hcx_] at mx_; have n0_ := Aside0.mk ((H.out).add (sta_msg _ _) (mx_)); clear H; have H := n0_; clear n0_; clear hcx_ mx_) | (go_at_call 16; (with_reducible refine (WriteC.n HWG.out (n := 0) rfl H.out.f.2).mono ?_); rintro en wb1 ⟨Ab, cb, rfl, hz_, hr_, hb_⟩; have n0_ := Aside0.mk ((H.out.on hb_).add (sta_C _ _ _ _) (hr_)); clear H; have H := n0_; clear n0_; have Zb := Aside0.mk hz_; clear hb_ hr_ hz_))
  go_upto_region 8 with (first | ((with_reducible refine gate_dst (N := 46) rfl ?_); (try (refine gate_guard (by rfl) ?_; dsimp only)); refine ev_build ((zeroC.setIfInBounds 0 (.int .u8 17)).setIfInBounds 14 (.slice A l.length c)) rfl (by first | (go_simp; done) | (go_simp; rfl)) ?_; intro cn hcx_; have mx_ := (show IsMsg _ ((zeroC.setIfInBounds 0 (.int .u8 17)).setIfInBounds 14 (.slice A l.length c)) (mkN l) from mkN_is HBB.out H.out.f.1.1.1.1.2 HC.out); rw [← hcx_] at mx_; have n0_ := Aside0.mk ((H.out).add (sta_msg _ _) (mx_)); clear H; have H := n0_; clear n0_; clear hcx_ mx_) | (go_at_call 16; (with_reducible refine (WriteC.n HWN.out (n := 0) rfl H.out.f.2).mono ?_); rintro en wd1 ⟨Ad, cd, rfl, hz_, hr_, hb_⟩; have n0_ := Aside0.mk ((H.out.on hb_).add (sta_C _ _ _ _) (hr_)); clear H; have H := n0_; clear n0_; have Zd := Aside0.mk hz_; clear hb_ hr_ hz_))
  go_wp2
  go_ret
  exact ⟨by first | rfl | (simp [same_refl]; done), H.out.b⟩
theorem Tells_65535_0 {x y : Int} {l : List Int} {A : Option Addr} {c : Nat} {w : World} (hr : Kd.C (Kd.int .u8) w A l.length l) (hc : l.length ≤ c) (hl : ¬ 400 < l.length) (hb : isBytes l) (hk : l.length = 0) (hs : 0 ≤ (65535 : Int) ∧ (65535 : Int) < 65536) (hx : 0 ≤ x ∧ x < 65536) (hy : 0 ≤ y ∧ y < 65536) :
    Calls Try.prog 8 #[.int .u16 65535, .int .u16 x, .int .u16 y, .slice A l.length c] w fun en w' => en = .returned (.bool true) ∧ Below w.heap.size w w' := by
  have H := Aside0.mk (Hd.start w)
  have n0_ := Aside0.mk ((H.out).add (sta_C _ _ _ _) (hr))
  clear H
  have H := n0_
  clear n0_
  have d1 : decide ((l.length : Int) > 400) = false := decide_eq_false (by omega)
  have d2 : decide ((400 : Int) < (l.length : Int)) = false := decide_eq_false (by omega)
  have d3 : decide ((l.length : Int) ≤ 64) = true := decide_eq_true (by omega)
  have d4 : decide ((l.length : Int) ≥ 1) = false := decide_eq_false (by omega)
  have d5 : decide ((1 : Int) ≤ (l.length : Int)) = false := decide_eq_false (by omega)
  have d6 : decide ((l.length : Int) ≤ 251) = true := decide_eq_true (by omega)
  have d7 : decide (l.length ≤ 64) = true := decide_eq_true (by omega)
  have d8 : decide (1 ≤ l.length) = false := decide_eq_false (by omega)
  have d9 : decide (l.length ≤ 251) = true := decide_eq_true (by omega)
  have d10 : decide (0 < l.length) = false := decide_eq_false (by omega)
  have HWE := Aside0.mk (show WriteC 16 1 (mkE 65535 x) (putL [65535, x], 0) from mkE_c hs hx (by rw [writeE hx, if_pos (by omega)]))
  have HWG := Aside0.mk (show WriteC 16 1 (mkG 65535 x y l) (logged 65535 x y l, 0) from mkG_c hs hx hy hb (by omega) (by rw [writeG hx hy hb, if_pos (by omega)]))
  have HWN := Aside0.mk (show WriteC 16 1 (mkN l) (([] : List Int), 1) from mkN_c hb (by omega) (by rw [writeN hb, if_neg (by omega)]))
  have wl7 : wrap64 (7 + (l.length : Int)) = 7 + (l.length : Int) := wrap64_id (by omega) (by omega)
  have wl1 : wrap64 (1 + (l.length : Int)) = 1 + (l.length : Int) := wrap64_id (by omega) (by omega)
  have HS := Aside0.mk hs
  have HX := Aside0.mk hx
  have HY := Aside0.mk hy
  have HBB := Aside0.mk hb
  have HC := Aside0.mk hc
  clear hr hs hx hy hb hc hl hk
  go_enter Try.func8, Try.ntmps8
  go_upto_region 5 with (first | (go_at_call 11; (with_reducible refine (awake_any _).mono ?_); rintro en wa ⟨rfl, hb_⟩; have n0_ := Aside0.mk (H.out.on hb_); clear H; have H := n0_; clear n0_; clear hb_))
  go_upto_region 6 with (first | ((with_reducible refine gate_dst (N := 31) rfl ?_); (try (refine gate_guard (by rfl) ?_; dsimp only)); refine ev_build (((zeroC.setIfInBounds 0 (.int .u8 11)).setIfInBounds 9 (.int .u16 65535)).setIfInBounds 10 (.int .u16 x)) rfl (by first | (go_simp; done) | (go_simp; rfl)) ?_; intro ce hcx_; have mx_ := (fun W => (by rw [hcx_]; exact ((fun W => mkE_is HS.out HX.out W)) W : IsMsg W ce (mkE 65535 x))); have n0_ := Aside0.mk ((H.out).add (sta_msg _ _) (mx_ _)); clear H; have H := n0_; clear n0_; clear hcx_ mx_) | (go_at_call 16; (with_reducible refine (WriteC.n HWE.out (n := 4) rfl H.out.f.2).mono ?_); rintro en wa1 ⟨Aa, ca, rfl, hz_, hr_, hb_⟩; have n0_ := Aside0.mk ((H.out.on hb_).add (sta_C _ _ _ _) (hr_)); clear H; have H := n0_; clear n0_; have Za := Aside0.mk hz_; clear hb_ hr_ hz_))
  go_upto_region 7 with (first | ((with_reducible refine gate_dst (N := 40) rfl ?_); (try (refine gate_guard (by rfl) ?_; dsimp only)); refine ev_build (((((zeroC.setIfInBounds 0 (.int .u8 12)).setIfInBounds 9 (.int .u16 65535)).setIfInBounds 10 (.int .u16 x)).setIfInBounds 11 (.int .u16 y)).setIfInBounds 14 (.slice A l.length c)) rfl (by first | (go_simp; done) | (go_simp; rfl)) ?_; intro cg hcx_; have mx_ := (show IsMsg _ (((((zeroC.setIfInBounds 0 (.int .u8 12)).setIfInBounds 9 (.int .u16 65535)).setIfInBounds 10 (.int .u16 x)).setIfInBounds 11 (.int .u16 y)).setIfInBounds 14 (.slice A l.length c)) (mkG 65535 x y l) from mkG_is HS.out HX.out HY.out HBB.out H.out.f.1.1.2 HC.out); rw [← hcx_] at mx_; have n0_ := Aside0.mk ((H.out).add (sta_msg _ _) (mx_)); clear H; have H := n0_; clear n0_; clear hcx_ mx_) | (go_at_call 16; (with_reducible refine (WriteC.n HWG.out (n := 7 + l.length) logged_len H.out.f.2).mono ?_); rintro en wb1 ⟨Ab, cb, rfl, hz_, hr_, hb_⟩; have n0_ := Aside0.mk ((H.out.on hb_).add (sta_C _ _ _ _) (hr_)); clear H; have H := n0_; clear n0_; have Zb := Aside0.mk hz_; clear hb_ hr_ hz_))
  go_upto_region 8 with (first | ((with_reducible refine gate_dst (N := 46) rfl ?_); (try (refine gate_guard (by rfl) ?_; dsimp only)); refine ev_build ((zeroC.setIfInBounds 0 (.int .u8 17)).setIfInBounds 14 (.slice A l.length c)) rfl (by first | (go_simp; done) | (go_simp; rfl)) ?_; intro cn hcx_; have mx_ := (show IsMsg _ ((zeroC.setIfInBounds 0 (.int .u8 17)).setIfInBounds 14 (.slice A l.length c)) (mkN l) from mkN_is HBB.out H.out.f.1.1.1.1.2 HC.out); rw [← hcx_] at mx_; have n0_ := Aside0.mk ((H.out).add (sta_msg _ _) (mx_)); clear H; have H := n0_; clear n0_; clear hcx_ mx_) | (go_at_call 16; (with_reducible refine (WriteC.n HWN.out (n := 0) rfl H.out.f.2).mono ?_); rintro en wd1 ⟨Ad, cd, rfl, hz_, hr_, hb_⟩; have n0_ := Aside0.mk ((H.out.on hb_).add (sta_C _ _ _ _) (hr_)); clear H; have H := n0_; clear n0_; have Zd := Aside0.mk hz_; clear hb_ hr_ hz_))
  obtain ⟨ab, rfl⟩ := cut_some H.out.f.1.1.2
  have hq5 : (5 : Nat) ≤ cb := by have := Zb.out; omega
  have hqc : ¬ cb = 1 := by omega
  have hq1 : (5 : Int) ≤ (cb : Int) := by omega
  have hge5 : decide ((7 + (l.length : Int)) ≥ 5) = true := decide_eq_true (by omega)
  have hge5b : decide ((5 : Int) ≤ 7 + (l.length : Int)) = true := hge5
  have RCUT := Aside0.mk (cut_row H.out.f.1.1.2)
  have HQ5 := Aside0.mk hq5
  go_wp2_with (first | (go_at_call 18; (with_reducible refine (same_n (putL_bytes [65535, x]) (putL_bytes [65535, x]) (n := 4) (m := 4) (c := cb - 1) rfl rfl RCUT.out (by have := HQ5.out; omega) H.out.f.1.1.1.1.2 Za.out).mono ?_); rintro en we ⟨rfl, hb_⟩; have n0_ := Aside0.mk (H.out.on hb_); clear H; have H := n0_; clear n0_; clear hb_))
  go_ret
  exact ⟨by first | rfl | (simp [same_refl]; done), H.out.b⟩
theorem Tells_65535_1 {x y : Int} {l : List Int} {A : Option Addr} {c : Nat} {w : World} (hr : Kd.C (Kd.int .u8) w A l.length l) (hc : l.length ≤ c) (hl : ¬ 400 < l.length) (hb : isBytes l) (hk : 1 ≤ l.length ∧ l.length ≤ 64) (hs : 0 ≤ (65535 : Int) ∧ (65535 : Int) < 65536) (hx : 0 ≤ x ∧ x < 65536) (hy : 0 ≤ y ∧ y < 65536) :
    Calls Try.prog 8 #[.int .u16 65535, .int .u16 x, .int .u16 y, .slice A l.length c] w fun en w' => en = .returned (.bool true) ∧ Below w.heap.size w w' := by
  have H := Aside0.mk (Hd.start w)
  have n0_ := Aside0.mk ((H.out).add (sta_C _ _ _ _) (hr))
  clear H
  have H := n0_
  clear n0_
  have d1 : decide ((l.length : Int) > 400) = false := decide_eq_false (by omega)
  have d2 : decide ((400 : Int) < (l.length : Int)) = false := decide_eq_false (by omega)
  have d3 : decide ((l.length : Int) ≤ 64) = true := decide_eq_true (by omega)
  have d4 : decide ((l.length : Int) ≥ 1) = true := decide_eq_true (by omega)
  have d5 : decide ((1 : Int) ≤ (l.length : Int)) = true := decide_eq_true (by omega)
  have d6 : decide ((l.length : Int) ≤ 251) = true := decide_eq_true (by omega)
  have d7 : decide (l.length ≤ 64) = true := decide_eq_true (by omega)
  have d8 : decide (1 ≤ l.length) = true := decide_eq_true (by omega)
  have d9 : decide (l.length ≤ 251) = true := decide_eq_true (by omega)
  have d10 : decide (0 < l.length) = true := decide_eq_true (by omega)
  have HWE := Aside0.mk (show WriteC 16 1 (mkE 65535 x) (putL [65535, x], 0) from mkE_c hs hx (by rw [writeE hx, if_pos (by omega)]))
  have HWG := Aside0.mk (show WriteC 16 1 (mkG 65535 x y l) (logged 65535 x y l, 0) from mkG_c hs hx hy hb (by omega) (by rw [writeG hx hy hb, if_pos (by omega)]))
  have HWN := Aside0.mk (show WriteC 16 1 (mkN l) (counted l, 0) from mkN_c hb (by omega) (by rw [writeN hb, if_pos (by omega)]))
  have wl7 : wrap64 (7 + (l.length : Int)) = 7 + (l.length : Int) := wrap64_id (by omega) (by omega)
  have wl1 : wrap64 (1 + (l.length : Int)) = 1 + (l.length : Int) := wrap64_id (by omega) (by omega)
  have HS := Aside0.mk hs
  have HX := Aside0.mk hx
  have HY := Aside0.mk hy
  have HBB := Aside0.mk hb
  have HC := Aside0.mk hc
  clear hr hs hx hy hb hc hl hk
  go_enter Try.func8, Try.ntmps8
  go_upto_region 5 with (first | (go_at_call 11; (with_reducible refine (awake_any _).mono ?_); rintro en wa ⟨rfl, hb_⟩; have n0_ := Aside0.mk (H.out.on hb_); clear H; have H := n0_; clear n0_; clear hb_))
  go_upto_region 6 with (first | ((with_reducible refine gate_dst (N := 31) rfl ?_); (try (refine gate_guard (by rfl) ?_; dsimp only)); refine ev_build (((zeroC.setIfInBounds 0 (.int .u8 11)).setIfInBounds 9 (.int .u16 65535)).setIfInBounds 10 (.int .u16 x)) rfl (by first | (go_simp; done) | (go_simp; rfl)) ?_; intro ce hcx_; have mx_ := (fun W => (by rw [hcx_]; exact ((fun W => mkE_is HS.out HX.out W)) W : IsMsg W ce (mkE 65535 x))); have n0_ := Aside0.mk ((H.out).add (sta_msg _ _) (mx_ _)); clear H; have H := n0_; clear n0_; clear hcx_ mx_) | (go_at_call 16; (with_reducible refine (WriteC.n HWE.out (n := 4) rfl H.out.f.2).mono ?_); rintro en wa1 ⟨Aa, ca, rfl, hz_, hr_, hb_⟩; have n0_ := Aside0.mk ((H.out.on hb_).add (sta_C _ _ _ _) (hr_)); clear H; have H := n0_; clear n0_; have Za := Aside0.mk hz_; clear hb_ hr_ hz_))
  go_upto_region 7 with (first | ((with_reducible refine gate_dst (N := 40) rfl ?_); (try (refine gate_guard (by rfl) ?_; dsimp only)); refine ev_build (((((zeroC.setIfInBounds 0 (.int .u8 12)).setIfInBounds 9 (.int .u16 65535)).setIfInBounds 10 (.int .u16 x)).setIfInBounds 11 (.int .u16 y)).setIfInBounds 14 (.slice A l.length c)) rfl (by first | (go_simp; done) | (go_simp; rfl)) ?_; intro cg hcx_; have mx_ := (show IsMsg _ (((((zeroC.setIfInBounds 0 (.int .u8 12)).setIfInBounds 9 (.int .u16 65535)).setIfInBounds 10 (.int .u16 x)).setIfInBounds 11 (.int .u16 y)).setIfInBounds 14 (.slice A l.length c)) (mkG 65535 x y l) from mkG_is HS.out HX.out HY.out HBB.out H.out.f.1.1.2 HC.out); rw [← hcx_] at mx_; have n0_ := Aside0.mk ((H.out).add (sta_msg _ _) (mx_)); clear H; have H := n0_; clear n0_; clear hcx_ mx_) | (go_at_call 16; (with_reducible refine (WriteC.n HWG.out (n := 7 + l.length) logged_len H.out.f.2).mono ?_); rintro en wb1 ⟨Ab, cb, rfl, hz_, hr_, hb_⟩; have n0_ := Aside0.mk ((H.out.on hb_).add (sta_C _ _ _ _) (hr_)); clear H; have H := n0_; clear n0_; have Zb := Aside0.mk hz_; clear hb_ hr_ hz_))
  go_upto_region 8 with (first | ((with_reducible refine gate_dst (N := 46) rfl ?_); (try (refine gate_guard (by rfl) ?_; dsimp only)); refine ev_build ((zeroC.setIfInBounds 0 (.int .u8 17)).setIfInBounds 14 (.slice A l.length c)) rfl (by first | (go_simp; done) | (go_simp; rfl)) ?_; intro cn hcx_; have mx_ := (show IsMsg _ ((zeroC.setIfInBounds 0 (.int .u8 17)).setIfInBounds 14 (.slice A l.length c)) (mkN l) from mkN_is HBB.out H.out.f.1.1.1.1.2 HC.out); rw [← hcx_] at mx_; have n0_ := Aside0.mk ((H.out).add (sta_msg _ _) (mx_)); clear H; have H := n0_; clear n0_; clear hcx_ mx_) | (go_at_call 16; (with_reducible refine (WriteC.n HWN.out (n := 1 + l.length) counted_len H.out.f.2).mono ?_); rintro en wd1 ⟨Ad, cd, rfl, hz_, hr_, hb_⟩; have n0_ := Aside0.mk ((H.out.on hb_).add (sta_C _ _ _ _) (hr_)); clear H; have H := n0_; clear n0_; have Zd := Aside0.mk hz_; clear hb_ hr_ hz_))
  obtain ⟨ab, rfl⟩ := cut_some H.out.f.1.1.2
  have hq5 : (5 : Nat) ≤ cb := by have := Zb.out; omega
  have hqc : ¬ cb = 1 := by omega
  have hq1 : (5 : Int) ≤ (cb : Int) := by omega
  have hge5 : decide ((7 + (l.length : Int)) ≥ 5) = true := decide_eq_true (by omega)
  have hge5b : decide ((5 : Int) ≤ 7 + (l.length : Int)) = true := hge5
  have RCUT := Aside0.mk (cut_row H.out.f.1.1.2)
  have HQ5 := Aside0.mk hq5
  go_wp2_with (first | (go_at_call 18; (with_reducible refine (same_n (putL_bytes [65535, x]) (putL_bytes [65535, x]) (n := 4) (m := 4) (c := cb - 1) rfl rfl RCUT.out (by have := HQ5.out; omega) H.out.f.1.1.1.1.2 Za.out).mono ?_); rintro en we ⟨rfl, hb_⟩; have n0_ := Aside0.mk (H.out.on hb_); clear H; have H := n0_; clear n0_; clear hb_))
  go_ret
  exact ⟨by first | rfl | (simp [same_refl]; done), H.out.b⟩
theorem Tells_65535_2 {x y : Int} {l : List Int} {A : Option Addr} {c : Nat} {w : World} (hr : Kd.C (Kd.int .u8) w A l.length l) (hc : l.length ≤ c) (hl : ¬ 400 < l.length) (hb : isBytes l) (hk : 65 ≤ l.length ∧ l.length ≤ 251) (hs : 0 ≤ (65535 : Int) ∧ (65535 : Int) < 65536) (hx : 0 ≤ x ∧ x < 65536) (hy : 0 ≤ y ∧ y < 65536) :
    Calls Try.prog 8 #[.int .u16 65535, .int .u16 x, .int .u16 y, .slice A l.length c] w fun en w' => en = .returned (.bool true) ∧ Below w.heap.size w w' := by
  have H := Aside0.mk (Hd.start w)
  have n0_ := Aside0.mk ((H.out).add (sta_C _ _ _ _) (hr))
  clear H
  have H := n0_
  clear n0_
  have d1 : decide ((l.length : Int) > 400) = false := decide_eq_false (by omega)
  have d2 : decide ((400 : Int) < (l.length : Int)) = false := decide_eq_false (by omega)
  have d3 : decide ((l.length : Int) ≤ 64) = false := decide_eq_false (by omega)
  have d4 : decide ((l.length : Int) ≥ 1) = true := decide_eq_true (by omega)
  have d5 : decide ((1 : Int) ≤ (l.length : Int)) = true := decide_eq_true (by omega)
  have d6 : decide ((l.length : Int) ≤ 251) = true := decide_eq_true (by omega)
  have d7 : decide (l.length ≤ 64) = false := decide_eq_false (by omega)
  have d8 : decide (1 ≤ l.length) = true := decide_eq_true (by omega)
  have d9 : decide (l.length ≤ 251) = true := decide_eq_true (by omega)
  have d10 : decide (0 < l.length) = true := decide_eq_true (by omega)
  have HWE := Aside0.mk (show WriteC 16 1 (mkE 65535 x) (putL [65535, x], 0) from mkE_c hs hx (by rw [writeE hx, if_pos (by omega)]))
  have HWG := Aside0.mk (show WriteC 16 1 (mkG 65535 x y l) (([] : List Int), 1) from mkG_c hs hx hy hb (by omega) (by rw [writeG hx hy hb, if_neg (by omega)]))
  have HWN := Aside0.mk (show WriteC 16 1 (mkN l) (counted l, 0) from mkN_c hb (by omega) (by rw [writeN hb, if_pos (by omega)]))
  have wl7 : wrap64 (7 + (l.length : Int)) = 7 + (l.length : Int) := wrap64_id (by omega) (by omega)
  have wl1 : wrap64 (1 + (l.length : Int)) = 1 + (l.length : Int) := wrap64_id (by omega) (by omega)
  have HS := Aside0.mk hs
  have HX := Aside0.mk hx
  have HY := Aside0.mk hy
  have HBB := Aside0.mk hb
  have HC := Aside0.mk hc
  clear hr hs hx hy hb hc hl hk
  go_enter Try.func8, Try.ntmps8
  go_upto_region 5 with (first | (go_at_call 11; (with_reducible refine (awake_any _).mono ?_); rintro en wa ⟨rfl, hb_⟩; have n0_ := Aside0.mk (H.out.on hb_); clear H; have H := n0_; clear n0_; clear hb_))
  go_upto_region 6 with (first | ((with_reducible refine gate_dst (N := 31) rfl ?_); (try (refine gate_guard (by rfl) ?_; dsimp only)); refine ev_build (((zeroC.setIfInBounds 0 (.int .u8 11)).setIfInBounds 9 (.int .u16 65535)).setIfInBounds 10 (.int .u16 x)) rfl (by first | (go_simp; done) | (go_simp; rfl)) ?_; intro ce hcx_; have mx_ := (fun W => (by rw [hcx_]; exact ((fun W => mkE_is HS.out HX.out W)) W : IsMsg W ce (mkE 65535 x))); have n0_ := Aside0.mk ((H.out).add (sta_msg _ _) (mx_ _)); clear H; have H := n0_; clear n0_; clear hcx_ mx_) | (go_at_call 16; (with_reducible refine (WriteC.n HWE.out (n := 4) rfl H.out.f.2).mono ?_); rintro en wa1 ⟨Aa, ca, rfl, hz_, hr_, hb_⟩; have n0_ := Aside0.mk ((H.out.on hb_).add (sta_C _ _ _ _) (hr_)); clear H; have H := n0_; clear n0_; have Za := Aside0.mk hz_; clear hb_ hr_ hz_))
  go_upto_region 7 with (first | ((with_reducible refine gate_dst (N := 40) rfl ?_); (try (refine gate_guard (by rfl) ?_; dsimp only)); refine ev_build (((((zeroC.setIfInBounds 0 (.int .u8 12)).setIfInBounds 9 (.int .u16 65535)).setIfInBounds 10 (.int .u16 x)).setIfInBounds 11 (.int .u16 y)).setIfInBounds 14 (.slice A l.length c)) rfl (by first | (go_simp; done) | (go_simp; rfl)) ?_; intro cg hcx_; have mx_ := (show IsMsg _ (((((zeroC.setIfInBounds 0 (.int .u8 12)).setIfInBounds 9 (.int .u16 65535)).setIfInBounds 10 (.int .u16 x)).setIfInBounds 11 (.int .u16 y)).setIfInBounds 14 (.slice A l.length c)) (mkG 65535 x y l) from mkG_is HS.out HX.out HY.out HBB.out H.out.f.1.1.2 HC.out); rw [← hcx_] at mx_; have n0_ := Aside0.mk ((H.out).add (sta_msg _ _) (mx_)); clear H; have H := n0_; clear n0_; clear hcx_ mx_) | (go_at_call 16; (with_reducible refine (WriteC.n HWG.out (n := 0) rfl H.out.f.2).mono ?_); rintro en wb1 ⟨Ab, cb, rfl, hz_, hr_, hb_⟩; have n0_ := Aside0.mk ((H.out.on hb_).add (sta_C _ _ _ _) (hr_)); clear H; have H := n0_; clear n0_; have Zb := Aside0.mk hz_; clear hb_ hr_ hz_))
  go_upto_region 8 with (first | ((with_reducible refine gate_dst (N := 46) rfl ?_); (try (refine gate_guard (by rfl) ?_; dsimp only)); refine ev_build ((zeroC.setIfInBounds 0 (.int .u8 17)).setIfInBounds 14 (.slice A l.length c)) rfl (by first | (go_simp; done) | (go_simp; rfl)) ?_; intro cn hcx_; have mx_ := (show IsMsg _ ((zeroC.setIfInBounds 0 (.int .u8 17)).setIfInBounds 14 (.slice A l.length c)) (mkN l) from mkN_is HBB.out H.out.f.1.1.1.1.2 HC.out); rw [← hcx_] at mx_; have n0_ := Aside0.mk ((H.out).add (sta_msg _ _) (mx_)); clear H; have H := n0_; clear n0_; clear hcx_ mx_) | (go_at_call 16; (with_reducible refine (WriteC.n HWN.out (n := 1 + l.length) counted_len H.out.f.2).mono ?_); rintro en wd1 ⟨Ad, cd, rfl, hz_, hr_, hb_⟩; have n0_ := Aside0.mk ((H.out.on hb_).add (sta_C _ _ _ _) (hr_)); clear H; have H := n0_; clear n0_; have Zd := Aside0.mk hz_; clear hb_ hr_ hz_))
  go_wp2
  go_ret
  exact ⟨by first | rfl | (simp [same_refl]; done), H.out.b⟩
theorem Tells_65535_3 {x y : Int} {l : List Int} {A : Option Addr} {c : Nat} {w : World} (hr : Kd.C (Kd.int .u8) w A l.length l) (hc : l.length ≤ c) (hl : ¬ 400 < l.length) (hb : isBytes l) (hk : 252 ≤ l.length) (hs : 0 ≤ (65535 : Int) ∧ (65535 : Int) < 65536) (hx : 0 ≤ x ∧ x < 65536) (hy : 0 ≤ y ∧ y < 65536) :
    Calls Try.prog 8 #[.int .u16 65535, .int .u16 x, .int .u16 y, .slice A l.length c] w fun en w' => en = .returned (.bool true) ∧ Below w.heap.size w w' := by
  have H := Aside0.mk (Hd.start w)
  have n0_ := Aside0.mk ((H.out).add (sta_C _ _ _ _) (hr))
  clear H
  have H := n0_
  clear n0_
  have d1 : decide ((l.length : Int) > 400) = false := decide_eq_false (by omega)
  have d2 : decide ((400 : Int) < (l.length : Int)) = false := decide_eq_false (by omega)
  have d3 : decide ((l.length : Int) ≤ 64) = false := decide_eq_false (by omega)
  have d4 : decide ((l.length : Int) ≥ 1) = true := decide_eq_true (by omega)
  have d5 : decide ((1 : Int) ≤ (l.length : Int)) = true := decide_eq_true (by omega)
  have d6 : decide ((l.length : Int) ≤ 251) = false := decide_eq_false (by omega)
  have d7 : decide (l.length ≤ 64) = false := decide_eq_false (by omega)
  have d8 : decide (1 ≤ l.length) = true := decide_eq_true (by omega)
  have d9 : decide (l.length ≤ 251) = false := decide_eq_false (by omega)
  have d10 : decide (0 < l.length) = true := decide_eq_true (by omega)
  have HWE := Aside0.mk (show WriteC 16 1 (mkE 65535 x) (putL [65535, x], 0) from mkE_c hs hx (by rw [writeE hx, if_pos (by omega)]))
  have HWG := Aside0.mk (show WriteC 16 1 (mkG 65535 x y l) (([] : List Int), 1) from mkG_c hs hx hy hb (by omega) (by rw [writeG hx hy hb, if_neg (by omega)]))
  have HWN := Aside0.mk (show WriteC 16 1 (mkN l) (([] : List Int), 1) from mkN_c hb (by omega) (by rw [writeN hb, if_neg (by omega)]))
  have wl7 : wrap64 (7 + (l.length : Int)) = 7 + (l.length : Int) := wrap64_id (by omega) (by omega)
  have wl1 : wrap64 (1 + (l.length : Int)) = 1 + (l.length : Int) := wrap64_id (by omega) (by omega)
  have HS := Aside0.mk hs
  have HX := Aside0.mk hx
  have HY := Aside0.mk hy
  have HBB := Aside0.mk hb
  have HC := Aside0.mk hc
  clear hr hs hx hy hb hc hl hk
  go_enter Try.func8, Try.ntmps8
  go_upto_region 5 with (first | (go_at_call 11; (with_reducible refine (awake_any _).mono ?_); rintro en wa ⟨rfl, hb_⟩; have n0_ := Aside0.mk (H.out.on hb_); clear H; have H := n0_; clear n0_; clear hb_))
  go_upto_region 6 with (first | ((with_reducible refine gate_dst (N := 31) rfl ?_); (try (refine gate_guard (by rfl) ?_; dsimp only)); refine ev_build (((zeroC.setIfInBounds 0 (.int .u8 11)).setIfInBounds 9 (.int .u16 65535)).setIfInBounds 10 (.int .u16 x)) rfl (by first | (go_simp; done) | (go_simp; rfl)) ?_; intro ce hcx_; have mx_ := (fun W => (by rw [hcx_]; exact ((fun W => mkE_is HS.out HX.out W)) W : IsMsg W ce (mkE 65535 x))); have n0_ := Aside0.mk ((H.out).add (sta_msg _ _) (mx_ _)); clear H; have H := n0_; clear n0_; clear hcx_ mx_) | (go_at_call 16; (with_reducible refine (WriteC.n HWE.out (n := 4) rfl H.out.f.2).mono ?_); rintro en wa1 ⟨Aa, ca, rfl, hz_, hr_, hb_⟩; have n0_ := Aside0.mk ((H.out.on hb_).add (sta_C _ _ _ _) (hr_)); clear H; have H := n0_; clear n0_; have Za := Aside0.mk hz_; clear hb_ hr_ hz_))
  go_upto_region 7 with (first | ((with_reducible refine gate_dst (N := 40) rfl ?_); (try (refine gate_guard (by rfl) ?_; dsimp only)); refine ev_build (((((zeroC.setIfInBounds 0 (.int .u8 12)).setIfInBounds 9 (.int .u16 65535)).setIfInBounds 10 (.int .u16 x)).setIfInBounds 11 (.int .u16 y)).setIfInBounds 14 (.slice A l.length c)) rfl (by first | (go_simp; done) | (go_simp; rfl)) ?_; intro cg hcx_; have mx_ := (show IsMsg _ (((((zeroC.setIfInBounds 0 (.int .u8 12)).setIfInBounds 9 (.int .u16 65535)).setIfInBounds 10 (.int .u16 x)).setIfInBounds 11 (.int .u16 y)).setIfInBounds 14 (.slice A l.length c)) (mkG 65535 x y l) from mkG_is HS.out HX.out HY.out HBB.out H.out.f.1.1.2 HC.out); rw [← hcx_] at mx_; have n0_ := Aside0.mk ((H.out).add (sta_msg _ _) (mx_)); clear H; have H := n0_; clear n0_; clear hcx_ mx_) | (go_at_call 16; (with_reducible refine (WriteC.n HWG.out (n := 0) rfl H.out.f.2).mono ?_); rintro en wb1 ⟨Ab, cb, rfl, hz_, hr_, hb_⟩; have n0_ := Aside0.mk ((H.out.on hb_).add (sta_C _ _ _ _) (hr_)); clear H; have H := n0_; clear n0_; have Zb := Aside0.mk hz_; clear hb_ hr_ hz_))
  go_upto_region 8 with (first | ((with_reducible refine gate_dst (N := 46) rfl ?_); (try (refine gate_guard (by rfl) ?_; dsimp only)); refine ev_build ((zeroC.setIfInBounds 0 (.int .u8 17)).setIfInBounds 14 (.slice A l.length c)) rfl (by first | (go_simp; done) | (go_simp; rfl)) ?_; intro cn hcx_; have mx_ := (show IsMsg _ ((zeroC.setIfInBounds 0 (.int .u8 17)).setIfInBounds 14 (.slice A l.length c)) (mkN l) from mkN_is HBB.out H.out.f.1.1.1.1.2 HC.out); rw [← hcx_] at mx_; have n0_ := Aside0.mk ((H.out).add (sta_msg _ _) (mx_)); clear H; have H := n0_; clear n0_; clear hcx_ mx_) | (go_at_call 16; (with_reducible refine (WriteC.n HWN.out (n := 0) rfl H.out.f.2).mono ?_); rintro en wd1 ⟨Ad, cd, rfl, hz_, hr_, hb_⟩; have n0_ := Aside0.mk ((H.out.on hb_).add (sta_C _ _ _ _) (hr_)); clear H; have H := n0_; clear n0_; have Zd := Aside0.mk hz_; clear hb_ hr_ hz_))
  go_wp2
  go_ret
  exact ⟨by first | rfl | (simp [same_refl]; done), H.out.b⟩
theorem Tells_s_0 {x y : Int} {l : List Int} {A : Option Addr} {c : Nat} {w : World} (hr : Kd.C (Kd.int .u8) w A l.length l) (hc : l.length ≤ c) {s : Int} (hl : ¬ 400 < l.length) (hb : isBytes l) (hk : l.length = 0) (hs : 0 ≤ (s : Int) ∧ (s : Int) < 65536) (hx : 0 ≤ x ∧ x < 65536) (hy : 0 ≤ y ∧ y < 65536) (hn : s ≠ 0 ∧ s ≠ 65535) :
    Calls Try.prog 8 #[.int .u16 s, .int .u16 x, .int .u16 y, .slice A l.length c] w fun en w' => en = .returned (.bool true) ∧ Below w.heap.size w w' := by
  have H := Aside0.mk (Hd.start w)
  have n0_ := Aside0.mk ((H.out).add (sta_C _ _ _ _) (hr))
  clear H
  have H := n0_
  clear n0_
  have d1 : decide ((l.length : Int) > 400) = false := decide_eq_false (by omega)
  have d2 : decide ((400 : Int) < (l.length : Int)) = false := decide_eq_false (by omega)
  have d3 : decide ((l.length : Int) ≤ 64) = true := decide_eq_true (by omega)
  have d4 : decide ((l.length : Int) ≥ 1) = false := decide_eq_false (by omega)
  have d5 : decide ((1 : Int) ≤ (l.length : Int)) = false := decide_eq_false (by omega)
  have d6 : decide ((l.length : Int) ≤ 251) = true := decide_eq_true (by omega)
  have d7 : decide (l.length ≤ 64) = true := decide_eq_true (by omega)
  have d8 : decide (1 ≤ l.length) = false := decide_eq_false (by omega)
  have d9 : decide (l.length ≤ 251) = true := decide_eq_true (by omega)
  have d10 : decide (0 < l.length) = false := decide_eq_false (by omega)
  have e0 : (s == 0) = false := beq_eq_false_iff_ne.2 (by omega)
  have e1 : (s == 65535) = false := beq_eq_false_iff_ne.2 (by omega)
  have HWE := Aside0.mk (show WriteC 16 1 (mkE s x) (([] : List Int), 1) from mkE_c hs hx (by rw [writeE hx, if_neg (by omega)]))
  have HWG := Aside0.mk (show WriteC 16 1 (mkG s x y l) (([] : List Int), 1) from mkG_c hs hx hy hb (by omega) (by rw [writeG hx hy hb, if_neg (by omega)]))
  have HWN := Aside0.mk (show WriteC 16 1 (mkN l) (([] : List Int), 1) from mkN_c hb (by omega) (by rw [writeN hb, if_neg (by omega)]))
  have wl7 : wrap64 (7 + (l.length : Int)) = 7 + (l.length : Int) := wrap64_id (by omega) (by omega)
  have wl1 : wrap64 (1 + (l.length : Int)) = 1 + (l.length : Int) := wrap64_id (by omega) (by omega)
  have HS := Aside0.mk hs
  have HX := Aside0.mk hx
  have HY := Aside0.mk hy
  have HBB := Aside0.mk hb
  have HC := Aside0.mk hc
  clear hr hs hx hy hb hc hl hk hn
  go_enter Try.func8, Try.ntmps8
  go_upto_region 5 with (first | (go_at_call 11; (with_reducible refine (awake_any _).mono ?_); rintro en wa ⟨rfl, hb_⟩; have n0_ := Aside0.mk (H.out.on hb_); clear H; have H := n0_; clear n0_; clear hb_))
  go_upto_region 6 with (first | ((with_reducible refine gate_dst (N := 31) rfl ?_); (try (refine gate_guard (by rfl) ?_; dsimp only)); refine ev_build (((zeroC.setIfInBounds 0 (.int .u8 11)).setIfInBounds 9 (.int .u16 s)).setIfInBounds 10 (.int .u16 x)) rfl (by first | (go_simp; done) | (go_simp; rfl)) ?_; intro ce hcx_; have mx_ := (fun W => (by rw [hcx_]; exact ((fun W => mkE_is HS.out HX.out W)) W : IsMsg W ce (mkE s x))); have n0_ := Aside0.mk ((H.out).add (sta_msg _ _) (mx_ _)); clear H; have H := n0_; clear n0_; clear hcx_ mx_) | (go_at_call 16; (with_reducible refine (WriteC.n HWE.out (n := 0) rfl H.out.f.2).mono ?_); rintro en wa1 ⟨Aa, ca, rfl, hz_, hr_, hb_⟩; have n0_ := Aside0.mk ((H.out.on hb_).add (sta_C _ _ _ _) (hr_)); clear H; have H := n0_; clear n0_; have Za := Aside0.mk hz_; clear hb_ hr_ hz_))
  go_upto_region 7 with (first | ((with_reducible refine gate_dst (N := 40) rfl ?_); (try (refine gate_guard (by rfl) ?_; dsimp only)); refine ev_build (((((zeroC.setIfInBounds 0 (.int .u8 12)).setIfInBounds 9 (.int .u16 s)).setIfInBounds 10 (.int .u16 x)).setIfInBounds 11 (.int .u16 y)).setIfInBounds 14 (.slice A l.length c)) rfl (by first | (go_simp; done) | (go_simp; rfl)) ?_; intro cg hcx_; have mx_ := (show IsMsg _ (((((zeroC.setIfInBounds 0 (.int .u8 12)).setIfInBounds 9 (.int .u16 s)).setIfInBounds 10 (.int .u16 x)).setIfInBounds 11 (.int .u16 y)).setIfInBounds 14 (.slice A l.length c)) (mkG s x y l) from mkG_is HS.out HX.out HY.out HBB.out H.out.f.1.1.2 HC.out); rw [← hcx_] at mx_; have n0_ := Aside0.mk ((H.out).add (sta_msg _ _) (mx_)); clear H; have H := n0_; clear n0_; clear hcx_ mx_) | (go_at_call 16; (with_reducible refine (WriteC.n HWG.out (n := 0) rfl H.out.f.2).mono ?_); rintro en wb1 ⟨Ab, cb, rfl, hz_, hr_, hb_⟩; have n0_ := Aside0.mk ((H.out.on hb_).add (sta_C _ _ _ _) (hr_)); clear H; have H := n0_; clear n0_; have Zb := Aside0.mk hz_; clear hb_ hr_ hz_))
  go_upto_region 8 with (first | ((with_reducible refine gate_dst (N := 46) rfl ?_); (try (refine gate_guard (by rfl) ?_; dsimp only)); refine ev_build ((zeroC.setIfInBounds 0 (.int .u8 17)).setIfInBounds 14 (.slice A l.length c)) rfl (by first | (go_simp; done) | (go_simp; rfl)) ?_; intro cn hcx_; have mx_ := (show IsMsg _ ((zeroC.setIfInBounds 0 (.int .u8 17)).setIfInBounds 14 (.slice A l.length c)) (mkN l) from mkN_is HBB.out H.out.f.1.1.1.1.2 HC.out); rw [← hcx_] at mx_; have n0_ := Aside0.mk ((H.out).add (sta_msg _ _) (mx_)); clear H; have H := n0_; clear n0_; clear hcx_ mx_) | (go_at_call 16; (with_reducible refine (WriteC.n HWN.out (n := 0) rfl H.out.f.2).mono ?_); rintro en wd1 ⟨Ad, cd, rfl, hz_, hr_, hb_⟩; have n0_ := Aside0.mk ((H.out.on hb_).add (sta_C _ _ _ _) (hr_)); clear H; have H := n0_; clear n0_; have Zd := Aside0.mk hz_; clear hb_ hr_ hz_))
  go_wp2
  go_ret
  exact ⟨by first | rfl | (simp [same_refl]; done), H.out.b⟩
theorem Tells_s_1 {x y : Int} {l : List Int} {A : Option Addr} {c : Nat} {w : World} (hr : Kd.C (Kd.int .u8) w A l.length l) (hc : l.length ≤ c) {s : Int} (hl : ¬ 400 < l.length) (hb : isBytes l) (hk : 1 ≤ l.length ∧ l.length ≤ 64) (hs : 0 ≤ (s : Int) ∧ (s : Int) < 65536) (hx : 0 ≤ x ∧ x < 65536) (hy : 0 ≤ y ∧ y < 65536) (hn : s ≠ 0 ∧ s ≠ 65535) :
    Calls Try.prog 8 #[.int .u16 s, .int .u16 x, .int .u16 y, .slice A l.length c] w fun en w' => en = .returned (.bool true) ∧ Below w.heap.size w w' := by
  have H := Aside0.mk (Hd.start w)
  have n0_ := Aside0.mk ((H.out).add (sta_C _ _ _ _) (hr))
  clear H
  have H := n0_
  clear n0_
  have d1 : decide ((l.length : Int) > 400) = false := decide_eq_false (by omega)
  have d2 : decide ((400 : Int) < (l.length : Int)) = false := decide_eq_false (by omega)
  have d3 : decide ((l.length : Int) ≤ 64) = true := decide_eq_true (by omega)
  have d4 : decide ((l.length : Int) ≥ 1) = true := decide_eq_true (by omega)
  have d5 : decide ((1 : Int) ≤ (l.length : Int)) = true := decide_eq_true (by omega)
  have d6 : decide ((l.length : Int) ≤ 251) = true := decide_eq_true (by omega)
  have d7 : decide (l.length ≤ 64) = true := decide_eq_true (by omega)
  have d8 : decide (1 ≤ l.length) = true := decide_eq_true (by omega)
  have d9 : decide (l.length ≤ 251) = true := decide_eq_true (by omega)
  have d10 : decide (0 < l.length) = true := decide_eq_true (by omega)
  have e0 : (s == 0) = false := beq_eq_false_iff_ne.2 (by omega)
  have e1 : (s == 65535) = false := beq_eq_false_iff_ne.2 (by omega)
  have HWE := Aside0.mk (show WriteC 16 1 (mkE s x) (([] : List Int), 1) from mkE_c hs hx (by rw [writeE hx, if_neg (by omega)]))
  have HWG := Aside0.mk (show WriteC 16 1 (mkG s x y l) (([] : List Int), 1) from mkG_c hs hx hy hb (by omega) (by rw [writeG hx hy hb, if_neg (by omega)]))
  have HWN := Aside0.mk (show WriteC 16 1 (mkN l) (counted l, 0) from mkN_c hb (by omega) (by rw [writeN hb, if_pos (by omega)]))
  have wl7 : wrap64 (7 + (l.length : Int)) = 7 + (l.length : Int) := wrap64_id (by omega) (by omega)
  have wl1 : wrap64 (1 + (l.length : Int)) = 1 + (l.length : Int) := wrap64_id (by omega) (by omega)
  have HS := Aside0.mk hs
  have HX := Aside0.mk hx
  have HY := Aside0.mk hy
  have HBB := Aside0.mk hb
  have HC := Aside0.mk hc
  clear hr hs hx hy hb hc hl hk hn
  go_enter Try.func8, Try.ntmps8
  go_upto_region 5 with (first | (go_at_call 11; (with_reducible refine (awake_any _).mono ?_); rintro en wa ⟨rfl, hb_⟩; have n0_ := Aside0.mk (H.out.on hb_); clear H; have H := n0_; clear n0_; clear hb_))
  go_upto_region 6 with (first | ((with_reducible refine gate_dst (N := 31) rfl ?_); (try (refine gate_guard (by rfl) ?_; dsimp only)); refine ev_build (((zeroC.setIfInBounds 0 (.int .u8 11)).setIfInBounds 9 (.int .u16 s)).setIfInBounds 10 (.int .u16 x)) rfl (by first | (go_simp; done) | (go_simp; rfl)) ?_; intro ce hcx_; have mx_ := (fun W => (by rw [hcx_]; exact ((fun W => mkE_is HS.out HX.out W)) W : IsMsg W ce (mkE s x))); have n0_ := Aside0.mk ((H.out).add (sta_msg _ _) (mx_ _)); clear H; have H := n0_; clear n0_; clear hcx_ mx_) | (go_at_call 16; (with_reducible refine (WriteC.n HWE.out (n := 0) rfl H.out.f.2).mono ?_); rintro en wa1 ⟨Aa, ca, rfl, hz_, hr_, hb_⟩; have n0_ := Aside0.mk ((H.out.on hb_).add (sta_C _ _ _ _) (hr_)); clear H; have H := n0_; clear n0_; have Za := Aside0.mk hz_; clear hb_ hr_ hz_))
  go_upto_region 7 with (first | ((with_reducible refine gate_dst (N := 40) rfl ?_); (try (refine gate_guard (by rfl) ?_; dsimp only)); refine ev_build (((((zeroC.setIfInBounds 0 (.int .u8 12)).setIfInBounds 9 (.int .u16 s)).setIfInBounds 10 (.int .u16 x)).setIfInBounds 11 (.int .u16 y)).setIfInBounds 14 (.slice A l.length c)) rfl (by first | (go_simp; done) | (go_simp; rfl)) ?_; intro cg hcx_; have mx_ := (show IsMsg _ (((((zeroC.setIfInBounds 0 (.int .u8 12)).setIfInBounds 9 (.int .u16 s)).setIfInBounds 10 (.int .u16 x)).setIfInBounds 11 (.int .u16 y)).setIfInBounds 14 (.slice A l.length c)) (mkG s x y l) from mkG_is HS.out HX.out HY.out HBB.out H.out.f.1.1.2 HC.out); rw [← hcx_] at mx_; have n0_ := Aside0.mk ((H.out).add (sta_msg _ _) (mx_)); clear H; have H := n0_; clear n0_; clear hcx_ mx_) | (go_at_call 16; (with_reducible refine (WriteC.n HWG.out (n := 0) rfl H.out.f.2).mono ?_); rintro en wb1 ⟨Ab, cb, rfl, hz_, hr_, hb_⟩; have n0_ := Aside0.mk ((H.out.on hb_).add (sta_C _ _ _ _) (hr_)); clear H; have H := n0_; clear n0_; have Zb := Aside0.mk hz_; clear hb_ hr_ hz_))
  go_upto_region 8 with (first | ((with_reducible refine gate_dst (N := 46) rfl ?_); (try (refine gate_guard (by rfl) ?_; dsimp only)); refine ev_build ((zeroC.setIfInBounds 0 (.int .u8 17)).setIfInBounds 14 (.slice A l.length c)) rfl (by first | (go_simp; done) | (go_simp; rfl)) ?_; intro cn hcx_; have mx_ := (show IsMsg _ ((zeroC.setIfInBounds 0 (.int .u8 17)).setIfInBounds 14 (.slice A l.length c)) (mkN l) from mkN_is HBB.out H.out.f.1.1.1.1.2 HC.out); rw [← hcx_] at mx_; have n0_ := Aside0.mk ((H.out).add (sta_msg _ _) (mx_)); clear H; have H := n0_; clear n0_; clear hcx_ mx_) | (go_at_call 16; (with_reducible refine (WriteC.n HWN.out (n := 1 + l.length) counted_len H.out.f.2).mono ?_); rintro en wd1 ⟨Ad, cd, rfl, hz_, hr_, hb_⟩; have n0_ := Aside0.mk ((H.out.on hb_).add (sta_C _ _ _ _) (hr_)); clear H; have H := n0_; clear n0_; have Zd := Aside0.mk hz_; clear hb_ hr_ hz_))
  go_wp2
  go_ret
  exact ⟨by first | rfl | (simp [same_refl]; done), H.out.b⟩
theorem Tells_s_2 {x y : Int} {l : List Int} {A : Option Addr} {c : Nat} {w : World} (hr : Kd.C (Kd.int .u8) w A l.length l) (hc : l.length ≤ c) {s : Int} (hl : ¬ 400 < l.length) (hb : isBytes l) (hk : 65 ≤ l.length ∧ l.length ≤ 251) (hs : 0 ≤ (s : Int) ∧ (s : Int) < 65536) (hx : 0 ≤ x ∧ x < 65536) (hy : 0 ≤ y ∧ y < 65536) (hn : s ≠ 0 ∧ s ≠ 65535) :
    Calls Try.prog 8 #[.int .u16 s, .int .u16 x, .int .u16 y, .slice A l.length c] w fun en w' => en = .returned (.bool true) ∧ Below w.heap.size w w' := by
  have H := Aside0.mk (Hd.start w)
  have n0_ := Aside0.mk ((H.out).add (sta_C _ _ _ _) (hr))
  clear H
  have H := n0_
  clear n0_
  have d1 : decide ((l.length : Int) > 400) = false := decide_eq_false (by omega)
  have d2 : decide ((400 : Int) < (l.length : Int)) = false := decide_eq_false (by omega)
  have d3 : decide ((l.length : Int) ≤ 64) = false := decide_eq_false (by omega)
  have d4 : decide ((l.length : Int) ≥ 1) = true := decide_eq_true (by omega)
  have d5 : decide ((1 : Int) ≤ (l.length : Int)) = true := decide_eq_true (by omega)
  have d6 : decide ((l.length : Int) ≤ 251) = true := decide_eq_true (by omega)
  have d7 : decide (l.length ≤ 64) = false := decide_eq_false (by omega)
  have d8 : decide (1 ≤ l.length) = true := decide_eq_true (by omega)
  have d9 : decide (l.length ≤ 251) = true := decide_eq_true (by omega)
  have d10 : decide (0 < l.length) = true := decide_eq_true (by omega)
  have e0 : (s == 0) = false := beq_eq_false_iff_ne.2 (by omega)
  have e1 : (s == 65535) = false := beq_eq_false_iff_ne.2 (by omega)
  have HWE := Aside0.mk (show WriteC 16 1 (mkE s x) (([] : List Int), 1) from mkE_c hs hx (by rw [writeE hx, if_neg (by omega)]))
  have HWG := Aside0.mk (show WriteC 16 1 (mkG s x y l) (([] : List Int), 1) from mkG_c hs hx hy hb (by omega) (by rw [writeG hx hy hb, if_neg (by omega)]))
  have HWN := Aside0.mk (show WriteC 16 1 (mkN l) (counted l, 0) from mkN_c hb (by omega) (by rw [writeN hb, if_pos (by omega)]))
  have wl7 : wrap64 (7 + (l.length : Int)) = 7 + (l.length : Int) := wrap64_id (by omega) (by omega)
  have wl1 : wrap64 (1 + (l.length : Int)) = 1 + (l.length : Int) := wrap64_id (by omega) (by omega)
  have HS := Aside0.mk hs
  have HX := Aside0.mk hx
  have HY := Aside0.mk hy
  have HBB := Aside0.mk hb
  have HC := Aside0.mk hc
  clear hr hs hx hy hb hc hl hk hn
  go_enter Try.func8, Try.ntmps8
  go_upto_region 5 with (first | (go_at_call 11; (with_reducible refine (awake_any _).mono ?_); rintro en wa ⟨rfl, hb_⟩; have n0_ := Aside0.mk (H.out.on hb_); clear H; have H := n0_; clear n0_; clear hb_))
  go_upto_region 6 with (first | ((with_reducible refine gate_dst (N := 31) rfl ?_); (try (refine gate_guard (by rfl) ?_; dsimp only)); refine ev_build (((zeroC.setIfInBounds 0 (.int .u8 11)).setIfInBounds 9 (.int .u16 s)).setIfInBounds 10 (.int .u16 x)) rfl (by first | (go_simp; done) | (go_simp; rfl)) ?_; intro ce hcx_; have mx_ := (fun W => (by rw [hcx_]; exact ((fun W => mkE_is HS.out HX.out W)) W : IsMsg W ce (mkE s x))); have n0_ := Aside0.mk ((H.out).add (sta_msg _ _) (mx_ _)); clear H; have H := n0_; clear n0_; clear hcx_ mx_) | (go_at_call 16; (with_reducible refine (WriteC.n HWE.out (n := 0) rfl H.out.f.2).mono ?_); rintro en wa1 ⟨Aa, ca, rfl, hz_, hr_, hb_⟩; have n0_ := Aside0.mk ((H.out.on hb_).add (sta_C _ _ _ _) (hr_)); clear H; have H := n0_; clear n0_; have Za := Aside0.mk hz_; clear hb_ hr_ hz_))
  go_upto_region 7 with (first | ((with_reducible refine gate_dst (N := 40) rfl ?_); (try (refine gate_guard (by rfl) ?_; dsimp only)); refine ev_build (((((zeroC.setIfInBounds 0 (.int .u8 12)).setIfInBounds 9 (.int .u16 s)).setIfInBounds 10 (.int .u16 x)).setIfInBounds 11 (.int .u16 y)).setIfInBounds 14 (.slice A l.length c)) rfl (by first | (go_simp; done) | (go_simp; rfl)) ?_; intro cg hcx_; have mx_ := (show IsMsg _ (((((zeroC.setIfInBounds 0 (.int .u8 12)).setIfInBounds 9 (.int .u16 s)).setIfInBounds 10 (.int .u16 x)).setIfInBounds 11 (.int .u16 y)).setIfInBounds 14 (.slice A l.length c)) (mkG s x y l) from mkG_is HS.out HX.out HY.out HBB.out H.out.f.1.1.2 HC.out); rw [← hcx_] at mx_; have n0_ := Aside0.mk ((H.out).add (sta_msg _ _) (mx_)); clear H; have H := n0_; clear n0_; clear hcx_ mx_) | (go_at_call 16; (with_reducible refine (WriteC.n HWG.out (n := 0) rfl H.out.f.2).mono ?_); rintro en wb1 ⟨Ab, cb, rfl, hz_, hr_, hb_⟩; have n0_ := Aside0.mk ((H.out.on hb_).add (sta_C _ _ _ _) (hr_)); clear H; have H := n0_; clear n0_; have Zb := Aside0.mk hz_; clear hb_ hr_ hz_))
  go_upto_region 8 with (first | ((with_reducible refine gate_dst (N := 46) rfl ?_); (try (refine gate_guard (by rfl) ?_; dsimp only)); refine ev_build ((zeroC.setIfInBounds 0 (.int .u8 17)).setIfInBounds 14 (.slice A l.length c)) rfl (by first | (go_simp; done) | (go_simp; rfl)) ?_; intro cn hcx_; have mx_ := (show IsMsg _ ((zeroC.setIfInBounds 0 (.int .u8 17)).setIfInBounds 14 (.slice A l.length c)) (mkN l) from mkN_is HBB.out H.out.f.1.1.1.1.2 HC.out); rw [← hcx_] at mx_; have n0_ := Aside0.mk ((H.out).add (sta_msg _ _) (mx_)); clear H; have H := n0_; clear n0_; clear hcx_ mx_) | (go_at_call 16; (with_reducible refine (WriteC.n HWN.out (n := 1 + l.length) counted_len H.out.f.2).mono ?_); rintro en wd1 ⟨Ad, cd, rfl, hz_, hr_, hb_⟩; have n0_ := Aside0.mk ((H.out.on hb_).add (sta_C _ _ _ _) (hr_)); clear H; have H := n0_; clear n0_; have Zd := Aside0.mk hz_; clear hb_ hr_ hz_))
  go_wp2
  go_ret
  exact ⟨by first | rfl | (simp [same_refl]; done), H.out.b⟩
theorem Tells_s_3 {x y : Int} {l : List Int} {A : Option Addr} {c : Nat} {w : World} (hr : Kd.C (Kd.int .u8) w A l.length l) (hc : l.length ≤ c) {s : Int} (hl : ¬ 400 < l.length) (hb : isBytes l) (hk : 252 ≤ l.length) (hs : 0 ≤ (s : Int) ∧ (s : Int) < 65536) (hx : 0 ≤ x ∧ x < 65536) (hy : 0 ≤ y ∧ y < 65536) (hn : s ≠ 0 ∧ s ≠ 65535) :
    Calls Try.prog 8 #[.int .u16 s, .int .u16 x, .int .u16 y, .slice A l.length c] w fun en w' => en = .returned (.bool true) ∧ Below w.heap.size w w' := by
  have H := Aside0.mk (Hd.start w)
  have n0_ := Aside0.mk ((H.out).add (sta_C _ _ _ _) (hr))
  clear H
  have H := n0_
  clear n0_
  have d1 : decide ((l.length : Int) > 400) = false := decide_eq_false (by omega)
  have d2 : decide ((400 : Int) < (l.length : Int)) = false := decide_eq_false (by omega)
  have d3 : decide ((l.length : Int) ≤ 64) = false := decide_eq_false (by omega)
  have d4 : decide ((l.length : Int) ≥ 1) = true := decide_eq_true (by omega)
  have d5 : decide ((1 : Int) ≤ (l.length : Int)) = true := decide_eq_true (by omega)
  have d6 : decide ((l.length : Int) ≤ 251) = false := decide_eq_false (by omega)
  have d7 : decide (l.length ≤ 64) = false := decide_eq_false (by omega)
  have d8 : decide (1 ≤ l.length) = true := decide_eq_true (by omega)
  have d9 : decide (l.length ≤ 251) = false := decide_eq_false (by omega)
  have d10 : decide (0 < l.length) = true := decide_eq_true (by omega)
  have e0 : (s == 0) = false := beq_eq_false_iff_ne.2 (by omega)
  have e1 : (s == 65535) = false := beq_eq_false_iff_ne.2 (by omega)
  have HWE := Aside0.mk (show WriteC 16 1 (mkE s x) (([] : List Int), 1) from mkE_c hs hx (by rw [writeE hx, if_neg (by omega)]))
  have HWG := Aside0.mk (show WriteC 16 1 (mkG s x y l) (([] : List Int), 1) from mkG_c hs hx hy hb (by omega) (by rw [writeG hx hy hb, if_neg (by omega)]))
  have HWN := Aside0.mk (show WriteC 16 1 (mkN l) (([] : List Int), 1) from mkN_c hb (by omega) (by rw [writeN hb, if_neg (by omega)]))
  have wl7 : wrap64 (7 + (l.length : Int)) = 7 + (l.length : Int) := wrap64_id (by omega) (by omega)
  have wl1 : wrap64 (1 + (l.length : Int)) = 1 + (l.length : Int) := wrap64_id (by omega) (by omega)
  have HS := Aside0.mk hs
  have HX := Aside0.mk hx
  have HY := Aside0.mk hy
  have HBB := Aside0.mk hb
  have HC := Aside0.mk hc
  clear hr hs hx hy hb hc hl hk hn
  go_enter Try.func8, Try.ntmps8
  go_upto_region 5 with (first | (go_at_call 11; (with_reducible refine (awake_any _).mono ?_); rintro en wa ⟨rfl, hb_⟩; have n0_ := Aside0.mk (H.out.on hb_); clear H; have H := n0_; clear n0_; clear hb_))
  go_upto_region 6 with (first | ((with_reducible refine gate_dst (N := 31) rfl ?_); (try (refine gate_guard (by rfl) ?_; dsimp only)); refine ev_build (((zeroC.setIfInBounds 0 (.int .u8 11)).setIfInBounds 9 (.int .u16 s)).setIfInBounds 10 (.int .u16 x)) rfl (by first | (go_simp; done) | (go_simp; rfl)) ?_; intro ce hcx_; have mx_ := (fun W => (by rw [hcx_]; exact ((fun W => mkE_is HS.out HX.out W)) W : IsMsg W ce (mkE s x))); have n0_ := Aside0.mk ((H.out).add (sta_msg _ _) (mx_ _)); clear H; have H := n0_; clear n0_; clear hcx_ mx_) | (go_at_call 16; (with_reducible refine (WriteC.n HWE.out (n := 0) rfl H.out.f.2).mono ?_); rintro en wa1 ⟨Aa, ca, rfl, hz_, hr_, hb_⟩; have n0_ := Aside0.mk ((H.out.on hb_).add (sta_C _ _ _ _) (hr_)); clear H; have H := n0_; clear n0_; have Za := Aside0.mk hz_; clear hb_ hr_ hz_))
  go_upto_region 7 with (first | ((with_reducible refine gate_dst (N := 40) rfl ?_); (try (refine gate_guard (by rfl) ?_; dsimp only)); refine ev_build (((((zeroC.setIfInBounds 0 (.int .u8 12)).setIfInBounds 9 (.int .u16 s)).setIfInBounds 10 (.int .u16 x)).setIfInBounds 11 (.int .u16 y)).setIfInBounds 14 (.slice A l.length c)) rfl (by first | (go_simp; done) | (go_simp; rfl)) ?_; intro cg hcx_; have mx_ := (show IsMsg _ (((((zeroC.setIfInBounds 0 (.int .u8 12)).setIfInBounds 9 (.int .u16 s)).setIfInBounds 10 (.int .u16 x)).setIfInBounds 11 (.int .u16 y)).setIfInBounds 14 (.slice A l.length c)) (mkG s x y l) from mkG_is HS.out HX.out HY.out HBB.out H.out.f.1.1.2 HC.out); rw [← hcx_] at mx_; have n0_ := Aside0.mk ((H.out).add (sta_msg _ _) (mx_)); clear H; have H := n0_; clear n0_; clear hcx_ mx_) | (go_at_call 16; (with_reducible refine (WriteC.n HWG.out (n := 0) rfl H.out.f.2).mono ?_); rintro en wb1 ⟨Ab, cb, rfl, hz_, hr_, hb_⟩; have n0_ := Aside0.mk ((H.out.on hb_).add (sta_C _ _ _ _) (hr_)); clear H; have H := n0_; clear n0_; have Zb := Aside0.mk hz_; clear hb_ hr_ hz_))
  go_upto_region 8 with (first | ((with_reducible refine gate_dst (N := 46) rfl ?_); (try (refine gate_guard (by rfl) ?_; dsimp only)); refine ev_build ((zeroC.setIfInBounds 0 (.int .u8 17)).setIfInBounds 14 (.slice A l.length c)) rfl (by first | (go_simp; done) | (go_simp; rfl)) ?_; intro cn hcx_; have mx_ := (show IsMsg _ ((zeroC.setIfInBounds 0 (.int .u8 17)).setIfInBounds 14 (.slice A l.length c)) (mkN l) from mkN_is HBB.out H.out.f.1.1.1.1.2 HC.out); rw [← hcx_] at mx_; have n0_ := Aside0.mk ((H.out).add (sta_msg _ _) (mx_)); clear H; have H := n0_; clear n0_; clear hcx_ mx_) | (go_at_call 16; (with_reducible refine (WriteC.n HWN.out (n := 0) rfl H.out.f.2).mono ?_); rintro en wd1 ⟨Ad, cd, rfl, hz_, hr_, hb_⟩; have n0_ := Aside0.mk ((H.out.on hb_).add (sta_C _ _ _ _) (hr_)); clear H; have H := n0_; clear n0_; have Zd := Aside0.mk hz_; clear hb_ hr_ hz_))
  go_wp2
  go_ret
  exact ⟨by first | rfl | (simp [same_refl]; done), H.out.b⟩
theorem busbarlaw10_DiagTells (s x y : Int) (A : Option Addr) (c : Nat) (l : List Int) (w : World) (hr : Kd.C (Kd.int .u8) w A l.length l) (hc : l.length ≤ c) (hs : (Lit.int .u16 s).wf = true) (hx : (Lit.int .u16 x).wf = true) (hy : (Lit.int .u16 y).wf = true) {p : Prop} (_ : p) (hw : ∀ x ∈ l, (Lit.int .u8 x).wf = true) :
    Calls Try.prog 8 #[.int .u16 s, .int .u16 x, .int .u16 y, .slice A l.length c] w fun en w' => en = .returned (.bool true) ∧ Below w.heap.size w w' := by
  by_cases hl : 400 < l.length
  · exact Tells_long hr hc hl
  have hb : isBytes l := fun x hx => u8_wf (hw x hx)
  have hs := u16_wf hs
  have hx := u16_wf hx
  have hy := u16_wf hy
  by_cases s0 : s = 0
  · subst s0
    by_cases k0 : l.length = 0
    · exact Tells_0_0 hr hc hl hb k0 hs hx hy
    by_cases k1 : l.length ≤ 64
    · exact Tells_0_1 hr hc hl hb (by omega) hs hx hy
    by_cases k2 : l.length ≤ 251
    · exact Tells_0_2 hr hc hl hb (by omega) hs hx hy
    exact Tells_0_3 hr hc hl hb (by omega) hs hx hy
  by_cases s1 : s = 65535
  · subst s1
    by_cases k0 : l.length = 0
    · exact Tells_65535_0 hr hc hl hb k0 hs hx hy
    by_cases k1 : l.length ≤ 64
    · exact Tells_65535_1 hr hc hl hb (by omega) hs hx hy
    by_cases k2 : l.length ≤ 251
    · exact Tells_65535_2 hr hc hl hb (by omega) hs hx hy
    exact Tells_65535_3 hr hc hl hb (by omega) hs hx hy
  by_cases k0 : l.length = 0
  · exact Tells_s_0 hr hc hl hb k0 hs hx hy ⟨s0, s1⟩
  by_cases k1 : l.length ≤ 64
  · exact Tells_s_1 hr hc hl hb (by omega) hs hx hy ⟨s0, s1⟩
  by_cases k2 : l.length ≤ 251
  · exact Tells_s_2 hr hc hl hb (by omega) hs hx hy ⟨s0, s1⟩
  exact Tells_s_3 hr hc hl hb (by omega) hs hx hy ⟨s0, s1⟩
end Go.Proofs.Ytalaochocmcbcaa.Laws
end
