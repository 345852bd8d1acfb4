/- The law RegsBoth: its walk, and the plain law. Conditions: what each theorem states. -/
import Derived.Test.YtmglilncdffbkaaOD
set_option linter.unusedVariables false
set_option linter.unusedSimpArgs false
set_option maxHeartbeats 16000000
set_option maxRecDepth 100000
section
namespace Go.Proofs.Ytmglilncdffbkaa.Laws
open Go.RowKit Go.Proofs.Ytmglilncdffbkaa.P Go.Proofs.Ytmglilncdffbkaa.E Go.Proofs.Ytmglilncdffbkaa.Cur Go.Proofs.Ytmglilncdffbkaa.Cu Go.Proofs.Ytmglilncdffbkaa.Same Go.Proofs.Ytmglilncdffbkaa.Put Go.Proofs.Ytmglilncdffbkaa.Com Go.Proofs.Ytmglilncdffbkaa.Reg Go.Proofs.YtmglilncdffbkaaW.PrintWords Go.Proofs.YtmglilncdffbkaaW.PrintLast Go.Proofs.YtmglilncdffbkaaW.PrintMore
theorem RegsBoth_long {addr count tt : Int} {l : List Int} {A : Option Addr} {c : Nat} {w : World} (hr : Kd.C (Kd.int .u16) w A l.length l) (hc : l.length ≤ c) (hl : 400 < l.length) :
    Calls Try.prog 10 #[.int .u16 addr, .int .u16 count, .int .u16 tt, .slice A l.length c] w fun en w' => en = .returned (.bool true) ∧ Below w.heap.size w w' := by
  have H := Aside0.mk (Hd.start w)
  have d1 : decide ((l.length : Int) > 400) = true := decide_eq_true (by omega)
  have d2 : decide ((400 : Int) < (l.length : Int)) = true := decide_eq_true (by omega)
  clear hr
  go_enter Try.func10, Try.ntmps10
  go_wp2_with (first | (go_at_call 11; (with_reducible refine (awake_any _).mono ?_); rintro en wa ⟨rfl, hb_⟩; have n0_ := Aside0.mk (H.out.on hb_); clear H; have H := n0_; clear n0_; clear hb_))
  go_ret
  exact ⟨by first | rfl | (simp [same_refl]; done), H.out.b⟩
theorem told_b {l : List Int} : isBytes ((2 * (l.length : Int)) % 256 :: putL l) := fun x hx => by
  rcases List.mem_cons.1 hx with rfl | hx
  · omega
  · exact putL_bytes l x hx
theorem many_len {a b : Int} {l : List Int} : (putL [a, b] ++ ((2 * (l.length : Int)) % 256 :: putL l)).length = 5 + 2 * l.length := by
  simp only [List.length_append, List.length_cons, List.length_nil, putL_length]
  omega
theorem both_len {a b d e : Int} {l : List Int} : (putL [a, b, d, e] ++ ((2 * (l.length : Int)) % 256 :: putL l)).length = 9 + 2 * l.length := by
  simp only [List.length_append, List.length_cons, List.length_nil, putL_length]
  omega
theorem both_eq_ {a b d : Int} {l : List Int} (h : ¬ 400 < l.length) : (([] : List Int) ++ putL [a, b]) ++ (putL [d, (l.length : Int)] ++ ((2 * (l.length : Int)) % 256 :: putL l)) = putL [a, b, d, (l.length : Int) % 65536] ++ ((2 * (l.length : Int)) % 256 :: putL l) := by
  rw [show (l.length : Int) % 65536 = l.length by omega]
  rfl
theorem RegsBoth_2 {addr count tt : Int} {l : List Int} {A : Option Addr} {c : Nat} {w : World} (hr : Kd.C (Kd.int .u16) w A l.length l) (hc : l.length ≤ c) {R0 : List Int × Int} (hl : ¬ 400 < l.length) (ha : 0 ≤ addr ∧ addr < 65536) (hk : 0 ≤ count ∧ count < 65536) (ht : 0 ≤ tt ∧ tt < 65536) (hw : is16 l) (he : ¬ inB 125 addr count) (hf : write 0 (mkM tt (l.length : Int) l) = R0) (hg : ¬ (inB 125 addr count ∧ inB 121 tt (l.length : Int))) :
    Calls Try.prog 10 #[.int .u16 addr, .int .u16 count, .int .u16 tt, .slice A l.length c] w fun en w' => en = .returned (.bool true) ∧ Below w.heap.size w w' := by
  have H := Aside0.mk (Hd.start w)
  have n0_ := Aside0.mk ((H.out).add (sta_C _ _ _ _) (hr))
  clear H
  have H := n0_
  clear n0_
  have d1 : decide ((l.length : Int) > 400) = false := decide_eq_false (by omega)
  have d2 : decide ((400 : Int) < (l.length : Int)) = false := decide_eq_false (by omega)
  have HE := Aside0.mk (show WriteC 16 0 (mkA 3 addr count) (([] : List Int), 1) from mk_c (mkA_good (by decide) ha hk) (Nat.zero_le _) (by rw [writeA (.inl rfl) ha hk, if_neg he]))
  have HF := Aside0.mk (show WriteC 16 0 (mkM tt (l.length : Int) l) R0 from mk_c (mkM_good ht (by omega) hw) (show l.length ≤ 1000 by omega) hf)
  have HG := Aside0.mk (show WriteC 16 0 (mkB addr count tt l) (([] : List Int), 1) from mk_c (mkB_good ha hk ht hw) (show l.length ≤ 1000 by omega) (by rw [writeB ha hk ht hw, if_neg hg]))
  have u1 : IntKind.u16.wrap (l.length : Int) = (l.length : Int) := by rw [IntKind.wrap_u16]; omega
  have HA := Aside0.mk ha
  have HK := Aside0.mk hk
  have HT := Aside0.mk ht
  have HW := Aside0.mk hw
  have HC := Aside0.mk hc
  have HL := Aside0.mk hl
  have HLN := Aside0.mk (show 0 ≤ (l.length : Int) ∧ (l.length : Int) < 65536 by omega)
  clear hr ha hk ht hw hc hl he hf hg
  go_enter Try.func10, Try.ntmps10
  go_upto_region 4 with (first | (go_at_call 11; (with_reducible refine (awake_any _).mono ?_); rintro en wa ⟨rfl, hb_⟩; have n0_ := Aside0.mk (H.out.on hb_); clear H; have H := n0_; clear n0_; clear hb_))
  go_upto_region 5 with (first | ((with_reducible refine gate_dst (N := 25) rfl ?_); (try (refine gate_guard (by rfl) ?_; dsimp only)); refine ev_build (((zeroC.setIfInBounds 0 (.int .u8 3)).setIfInBounds 2 (.int .u16 addr)).setIfInBounds 3 (.int .u16 count)) rfl (by first | (go_simp; done) | (go_simp; rfl)) ?_; intro cm hcx_; have mx_ := (fun W => (by rw [hcx_]; exact ((fun W => mkA_is (by decide) HA.out HK.out W)) W : IsMsg W cm (mkA 3 addr count))); have n0_ := Aside0.mk ((H.out).add (sta_msg _ _) (mx_ _)); clear H; have H := n0_; clear n0_; clear hcx_ mx_) | (go_at_call 16; (with_reducible refine (WriteC.n HE.out (n := 0) rfl H.out.f.2).mono ?_); rintro en wa1 ⟨Aa, ca, rfl, hz_, hr_, hb_⟩; have n0_ := Aside0.mk ((H.out.on hb_).add (sta_C _ _ _ _) (hr_)); clear H; have H := n0_; clear n0_; have Za := Aside0.mk hz_; clear hb_ hr_ hz_))
  go_upto_region 6 with (first | ((with_reducible refine gate_dst (N := 35) rfl ?_); (try (refine gate_guard (by rfl) ?_; dsimp only)); refine ev_build ((((zeroC.setIfInBounds 0 (.int .u8 16)).setIfInBounds 2 (.int .u16 tt)).setIfInBounds 3 (.int .u16 (l.length : Int))).setIfInBounds 12 (.slice A l.length c)) rfl (by first | (go_simp; done) | (go_simp; rfl)) ?_; intro cn hcx_; have mx_ := (show IsMsg _ ((((zeroC.setIfInBounds 0 (.int .u8 16)).setIfInBounds 2 (.int .u16 tt)).setIfInBounds 3 (.int .u16 (l.length : Int))).setIfInBounds 12 (.slice A l.length c)) (mkM tt (l.length : Int) l) from mkM_is HT.out HLN.out HW.out H.out.f.1.1.2 HC.out); rw [← hcx_] at mx_; have n0_ := Aside0.mk ((H.out).add (sta_msg _ _) (mx_)); clear H; have H := n0_; clear n0_; clear hcx_ mx_) | (go_at_call 16; (with_reducible refine (WriteC.c HF.out H.out.f.2).mono ?_); rintro en wb1 ⟨Ab, cb, rfl, hz_, hr_, hb_⟩; have n0_ := Aside0.mk ((H.out.on hb_).add (sta_C _ _ _ _) (hr_)); clear H; have H := n0_; clear n0_; have Zb := Aside0.mk hz_; clear hb_ hr_ hz_))
  go_upto_region 7 with (first | ((with_reducible refine gate_dst (N := 44) rfl ?_); (try (refine gate_guard (by rfl) ?_; dsimp only)); refine ev_build (((((zeroC.setIfInBounds 0 (.int .u8 23)).setIfInBounds 2 (.int .u16 addr)).setIfInBounds 3 (.int .u16 count)).setIfInBounds 7 (.int .u16 tt)).setIfInBounds 12 (.slice A l.length c)) rfl (by first | (go_simp; done) | (go_simp; rfl)) ?_; intro cg hcx_; have mx_ := (show IsMsg _ (((((zeroC.setIfInBounds 0 (.int .u8 23)).setIfInBounds 2 (.int .u16 addr)).setIfInBounds 3 (.int .u16 count)).setIfInBounds 7 (.int .u16 tt)).setIfInBounds 12 (.slice A l.length c)) (mkB addr count tt l) from mkB_is HA.out HK.out HT.out HW.out H.out.f.1.1.1.1.2 HC.out); rw [← hcx_] at mx_; have n0_ := Aside0.mk ((H.out).add (sta_msg _ _) (mx_)); clear H; have H := n0_; clear n0_; clear hcx_ mx_) | (go_at_call 16; (with_reducible refine (WriteC.n HG.out (n := 0) rfl H.out.f.2).mono ?_); rintro en wd1 ⟨Ad, cd, rfl, hz_, hr_, hb_⟩; have n0_ := Aside0.mk ((H.out.on hb_).add (sta_C _ _ _ _) (hr_)); clear H; have H := n0_; clear n0_; have Zd := Aside0.mk hz_; clear hb_ hr_ hz_))
  go_wp2
  go_ret
  exact ⟨by first | rfl | (simp [same_refl]; done), H.out.b⟩
theorem RegsBoth_3 {addr count tt : Int} {l : List Int} {A : Option Addr} {c : Nat} {w : World} (hr : Kd.C (Kd.int .u16) w A l.length l) (hc : l.length ≤ c) (hl : ¬ 400 < l.length) (ha : 0 ≤ addr ∧ addr < 65536) (hk : 0 ≤ count ∧ count < 65536) (ht : 0 ≤ tt ∧ tt < 65536) (hw : is16 l) (he : inB 125 addr count) (hf : ¬ (inB 123 tt (l.length : Int) ∧ (l.length : Int) = (l.length : Int))) (hg : ¬ (inB 125 addr count ∧ inB 121 tt (l.length : Int))) :
    Calls Try.prog 10 #[.int .u16 addr, .int .u16 count, .int .u16 tt, .slice A l.length c] w fun en w' => en = .returned (.bool true) ∧ Below w.heap.size w w' := by
  have H := Aside0.mk (Hd.start w)
  have n0_ := Aside0.mk ((H.out).add (sta_C _ _ _ _) (hr))
  clear H
  have H := n0_
  clear n0_
  have d1 : decide ((l.length : Int) > 400) = false := decide_eq_false (by omega)
  have d2 : decide ((400 : Int) < (l.length : Int)) = false := decide_eq_false (by omega)
  have HE := Aside0.mk (show WriteC 16 0 (mkA 3 addr count) (putL [addr, count], 0) from mk_c (mkA_good (by decide) ha hk) (Nat.zero_le _) (by rw [writeA (.inl rfl) ha hk, if_pos he]))
  have HF := Aside0.mk (show WriteC 16 0 (mkM tt (l.length : Int) l) (([] : List Int), 1) from mk_c (mkM_good ht (by omega) hw) (show l.length ≤ 1000 by omega) (by rw [writeM ht (by omega) hw, if_neg hf]))
  have HG := Aside0.mk (show WriteC 16 0 (mkB addr count tt l) (([] : List Int), 1) from mk_c (mkB_good ha hk ht hw) (show l.length ≤ 1000 by omega) (by rw [writeB ha hk ht hw, if_neg hg]))
  have u1 : IntKind.u16.wrap (l.length : Int) = (l.length : Int) := by rw [IntKind.wrap_u16]; omega
  have HA := Aside0.mk ha
  have HK := Aside0.mk hk
  have HT := Aside0.mk ht
  have HW := Aside0.mk hw
  have HC := Aside0.mk hc
  have HL := Aside0.mk hl
  have HLN := Aside0.mk (show 0 ≤ (l.length : Int) ∧ (l.length : Int) < 65536 by omega)
  clear hr ha hk ht hw hc hl he hf hg
  go_enter Try.func10, Try.ntmps10
  go_upto_region 4 with (first | (go_at_call 11; (with_reducible refine (awake_any _).mono ?_); rintro en wa ⟨rfl, hb_⟩; have n0_ := Aside0.mk (H.out.on hb_); clear H; have H := n0_; clear n0_; clear hb_))
  go_upto_region 5 with (first | ((with_reducible refine gate_dst (N := 25) rfl ?_); (try (refine gate_guard (by rfl) ?_; dsimp only)); refine ev_build (((zeroC.setIfInBounds 0 (.int .u8 3)).setIfInBounds 2 (.int .u16 addr)).setIfInBounds 3 (.int .u16 count)) rfl (by first | (go_simp; done) | (go_simp; rfl)) ?_; intro cm hcx_; have mx_ := (fun W => (by rw [hcx_]; exact ((fun W => mkA_is (by decide) HA.out HK.out W)) W : IsMsg W cm (mkA 3 addr count))); have n0_ := Aside0.mk ((H.out).add (sta_msg _ _) (mx_ _)); clear H; have H := n0_; clear n0_; clear hcx_ mx_) | (go_at_call 16; (with_reducible refine (WriteC.n HE.out (n := 4) rfl H.out.f.2).mono ?_); rintro en wa1 ⟨Aa, ca, rfl, hz_, hr_, hb_⟩; have n0_ := Aside0.mk ((H.out.on hb_).add (sta_C _ _ _ _) (hr_)); clear H; have H := n0_; clear n0_; have Za := Aside0.mk hz_; clear hb_ hr_ hz_))
  go_upto_region 6 with (first | ((with_reducible refine gate_dst (N := 35) rfl ?_); (try (refine gate_guard (by rfl) ?_; dsimp only)); refine ev_build ((((zeroC.setIfInBounds 0 (.int .u8 16)).setIfInBounds 2 (.int .u16 tt)).setIfInBounds 3 (.int .u16 (l.length : Int))).setIfInBounds 12 (.slice A l.length c)) rfl (by first | (go_simp; done) | (go_simp; rfl)) ?_; intro cn hcx_; have mx_ := (show IsMsg _ ((((zeroC.setIfInBounds 0 (.int .u8 16)).setIfInBounds 2 (.int .u16 tt)).setIfInBounds 3 (.int .u16 (l.length : Int))).setIfInBounds 12 (.slice A l.length c)) (mkM tt (l.length : Int) l) from mkM_is HT.out HLN.out HW.out H.out.f.1.1.2 HC.out); rw [← hcx_] at mx_; have n0_ := Aside0.mk ((H.out).add (sta_msg _ _) (mx_)); clear H; have H := n0_; clear n0_; clear hcx_ mx_) | (go_at_call 16; (with_reducible refine (WriteC.n HF.out (n := 0) rfl H.out.f.2).mono ?_); rintro en wb1 ⟨Ab, cb, rfl, hz_, hr_, hb_⟩; have n0_ := Aside0.mk ((H.out.on hb_).add (sta_C _ _ _ _) (hr_)); clear H; have H := n0_; clear n0_; have Zb := Aside0.mk hz_; clear hb_ hr_ hz_))
  go_upto_region 7 with (first | ((with_reducible refine gate_dst (N := 44) rfl ?_); (try (refine gate_guard (by rfl) ?_; dsimp only)); refine ev_build (((((zeroC.setIfInBounds 0 (.int .u8 23)).setIfInBounds 2 (.int .u16 addr)).setIfInBounds 3 (.int .u16 count)).setIfInBounds 7 (.int .u16 tt)).setIfInBounds 12 (.slice A l.length c)) rfl (by first | (go_simp; done) | (go_simp; rfl)) ?_; intro cg hcx_; have mx_ := (show IsMsg _ (((((zeroC.setIfInBounds 0 (.int .u8 23)).setIfInBounds 2 (.int .u16 addr)).setIfInBounds 3 (.int .u16 count)).setIfInBounds 7 (.int .u16 tt)).setIfInBounds 12 (.slice A l.length c)) (mkB addr count tt l) from mkB_is HA.out HK.out HT.out HW.out H.out.f.1.1.1.1.2 HC.out); rw [← hcx_] at mx_; have n0_ := Aside0.mk ((H.out).add (sta_msg _ _) (mx_)); clear H; have H := n0_; clear n0_; clear hcx_ mx_) | (go_at_call 16; (with_reducible refine (WriteC.n HG.out (n := 0) rfl H.out.f.2).mono ?_); rintro en wd1 ⟨Ad, cd, rfl, hz_, hr_, hb_⟩; have n0_ := Aside0.mk ((H.out.on hb_).add (sta_C _ _ _ _) (hr_)); clear H; have H := n0_; clear n0_; have Zd := Aside0.mk hz_; clear hb_ hr_ hz_))
  go_wp2
  go_ret
  exact ⟨by first | rfl | (simp [same_refl]; done), H.out.b⟩
theorem RegsBoth_4 {addr count tt : Int} {l : List Int} {A : Option Addr} {c : Nat} {w : World} (hr : Kd.C (Kd.int .u16) w A l.length l) (hc : l.length ≤ c) (hl : ¬ 400 < l.length) (ha : 0 ≤ addr ∧ addr < 65536) (hk : 0 ≤ count ∧ count < 65536) (ht : 0 ≤ tt ∧ tt < 65536) (hw : is16 l) (he : inB 125 addr count) (hf : (inB 123 tt (l.length : Int) ∧ (l.length : Int) = (l.length : Int))) (hg : ¬ (inB 125 addr count ∧ inB 121 tt (l.length : Int))) (h121 : ¬ (l.length : Int) ≤ 121) :
    Calls Try.prog 10 #[.int .u16 addr, .int .u16 count, .int .u16 tt, .slice A l.length c] w fun en w' => en = .returned (.bool true) ∧ Below w.heap.size w w' := by
  have H := Aside0.mk (Hd.start w)
  have n0_ := Aside0.mk ((H.out).add (sta_C _ _ _ _) (hr))
  clear H
  have H := n0_
  clear n0_
  have d1 : decide ((l.length : Int) > 400) = false := decide_eq_false (by omega)
  have d2 : decide ((400 : Int) < (l.length : Int)) = false := decide_eq_false (by omega)
  have HE := Aside0.mk (show WriteC 16 0 (mkA 3 addr count) (putL [addr, count], 0) from mk_c (mkA_good (by decide) ha hk) (Nat.zero_le _) (by rw [writeA (.inl rfl) ha hk, if_pos he]))
  have HF := Aside0.mk (show WriteC 16 0 (mkM tt (l.length : Int) l) (putL [tt, (l.length : Int)] ++ ((2 * (l.length : Int)) % 256 :: putL l), 0) from mk_c (mkM_good ht (by omega) hw) (show l.length ≤ 1000 by omega) (by rw [writeM ht (by omega) hw, if_pos hf]))
  have HG := Aside0.mk (show WriteC 16 0 (mkB addr count tt l) (([] : List Int), 1) from mk_c (mkB_good ha hk ht hw) (show l.length ≤ 1000 by omega) (by rw [writeB ha hk ht hw, if_neg hg]))
  have d3 : decide ((l.length : Int) ≤ 121) = false := decide_eq_false (by omega)
  have u1 : IntKind.u16.wrap (l.length : Int) = (l.length : Int) := by rw [IntKind.wrap_u16]; omega
  have HA := Aside0.mk ha
  have HK := Aside0.mk hk
  have HT := Aside0.mk ht
  have HW := Aside0.mk hw
  have HC := Aside0.mk hc
  have HL := Aside0.mk hl
  have HLN := Aside0.mk (show 0 ≤ (l.length : Int) ∧ (l.length : Int) < 65536 by omega)
  clear hr ha hk ht hw hc hl he hf hg
  go_enter Try.func10, Try.ntmps10
  go_upto_region 4 with (first | (go_at_call 11; (with_reducible refine (awake_any _).mono ?_); rintro en wa ⟨rfl, hb_⟩; have n0_ := Aside0.mk (H.out.on hb_); clear H; have H := n0_; clear n0_; clear hb_))
  go_upto_region 5 with (first | ((with_reducible refine gate_dst (N := 25) rfl ?_); (try (refine gate_guard (by rfl) ?_; dsimp only)); refine ev_build (((zeroC.setIfInBounds 0 (.int .u8 3)).setIfInBounds 2 (.int .u16 addr)).setIfInBounds 3 (.int .u16 count)) rfl (by first | (go_simp; done) | (go_simp; rfl)) ?_; intro cm hcx_; have mx_ := (fun W => (by rw [hcx_]; exact ((fun W => mkA_is (by decide) HA.out HK.out W)) W : IsMsg W cm (mkA 3 addr count))); have n0_ := Aside0.mk ((H.out).add (sta_msg _ _) (mx_ _)); clear H; have H := n0_; clear n0_; clear hcx_ mx_) | (go_at_call 16; (with_reducible refine (WriteC.n HE.out (n := 4) rfl H.out.f.2).mono ?_); rintro en wa1 ⟨Aa, ca, rfl, hz_, hr_, hb_⟩; have n0_ := Aside0.mk ((H.out.on hb_).add (sta_C _ _ _ _) (hr_)); clear H; have H := n0_; clear n0_; have Za := Aside0.mk hz_; clear hb_ hr_ hz_))
  go_upto_region 6 with (first | ((with_reducible refine gate_dst (N := 35) rfl ?_); (try (refine gate_guard (by rfl) ?_; dsimp only)); refine ev_build ((((zeroC.setIfInBounds 0 (.int .u8 16)).setIfInBounds 2 (.int .u16 tt)).setIfInBounds 3 (.int .u16 (l.length : Int))).setIfInBounds 12 (.slice A l.length c)) rfl (by first | (go_simp; done) | (go_simp; rfl)) ?_; intro cn hcx_; have mx_ := (show IsMsg _ ((((zeroC.setIfInBounds 0 (.int .u8 16)).setIfInBounds 2 (.int .u16 tt)).setIfInBounds 3 (.int .u16 (l.length : Int))).setIfInBounds 12 (.slice A l.length c)) (mkM tt (l.length : Int) l) from mkM_is HT.out HLN.out HW.out H.out.f.1.1.2 HC.out); rw [← hcx_] at mx_; have n0_ := Aside0.mk ((H.out).add (sta_msg _ _) (mx_)); clear H; have H := n0_; clear n0_; clear hcx_ mx_) | (go_at_call 16; (with_reducible refine (WriteC.n HF.out (n := 5 + 2 * l.length) many_len H.out.f.2).mono ?_); rintro en wb1 ⟨Ab, cb, rfl, hz_, hr_, hb_⟩; have n0_ := Aside0.mk ((H.out.on hb_).add (sta_C _ _ _ _) (hr_)); clear H; have H := n0_; clear n0_; have Zb := Aside0.mk hz_; clear hb_ hr_ hz_))
  go_upto_region 7 with (first | ((with_reducible refine gate_dst (N := 44) rfl ?_); (try (refine gate_guard (by rfl) ?_; dsimp only)); refine ev_build (((((zeroC.setIfInBounds 0 (.int .u8 23)).setIfInBounds 2 (.int .u16 addr)).setIfInBounds 3 (.int .u16 count)).setIfInBounds 7 (.int .u16 tt)).setIfInBounds 12 (.slice A l.length c)) rfl (by first | (go_simp; done) | (go_simp; rfl)) ?_; intro cg hcx_; have mx_ := (show IsMsg _ (((((zeroC.setIfInBounds 0 (.int .u8 23)).setIfInBounds 2 (.int .u16 addr)).setIfInBounds 3 (.int .u16 count)).setIfInBounds 7 (.int .u16 tt)).setIfInBounds 12 (.slice A l.length c)) (mkB addr count tt l) from mkB_is HA.out HK.out HT.out HW.out H.out.f.1.1.1.1.2 HC.out); rw [← hcx_] at mx_; have n0_ := Aside0.mk ((H.out).add (sta_msg _ _) (mx_)); clear H; have H := n0_; clear n0_; clear hcx_ mx_) | (go_at_call 16; (with_reducible refine (WriteC.n HG.out (n := 0) rfl H.out.f.2).mono ?_); rintro en wd1 ⟨Ad, cd, rfl, hz_, hr_, hb_⟩; have n0_ := Aside0.mk ((H.out.on hb_).add (sta_C _ _ _ _) (hr_)); clear H; have H := n0_; clear n0_; have Zd := Aside0.mk hz_; clear hb_ hr_ hz_))
  go_wp2
  go_ret
  exact ⟨by first | rfl | (simp [same_refl]; done), H.out.b⟩
theorem RegsBoth_5 {addr count tt : Int} {l : List Int} {A : Option Addr} {c : Nat} {w : World} (hr : Kd.C (Kd.int .u16) w A l.length l) (hc : l.length ≤ c) (hl : ¬ 400 < l.length) (ha : 0 ≤ addr ∧ addr < 65536) (hk : 0 ≤ count ∧ count < 65536) (ht : 0 ≤ tt ∧ tt < 65536) (hw : is16 l) (he : inB 125 addr count) (hf : (inB 123 tt (l.length : Int) ∧ (l.length : Int) = (l.length : Int))) (hg : (inB 125 addr count ∧ inB 121 tt (l.length : Int))) (h121 : (l.length : Int) ≤ 121) :
    Calls Try.prog 10 #[.int .u16 addr, .int .u16 count, .int .u16 tt, .slice A l.length c] w fun en w' => en = .returned (.bool true) ∧ Below w.heap.size w w' := by
  have H := Aside0.mk (Hd.start w)
  have n0_ := Aside0.mk ((H.out).add (sta_C _ _ _ _) (hr))
  clear H
  have H := n0_
  clear n0_
  have d1 : decide ((l.length : Int) > 400) = false := decide_eq_false (by omega)
  have d2 : decide ((400 : Int) < (l.length : Int)) = false := decide_eq_false (by omega)
  have HE := Aside0.mk (show WriteC 16 0 (mkA 3 addr count) (putL [addr, count], 0) from mk_c (mkA_good (by decide) ha hk) (Nat.zero_le _) (by rw [writeA (.inl rfl) ha hk, if_pos he]))
  have HF := Aside0.mk (show WriteC 16 0 (mkM tt (l.length : Int) l) (putL [tt, (l.length : Int)] ++ ((2 * (l.length : Int)) % 256 :: putL l), 0) from mk_c (mkM_good ht (by omega) hw) (show l.length ≤ 1000 by omega) (by rw [writeM ht (by omega) hw, if_pos hf]))
  have HG := Aside0.mk (show WriteC 16 0 (mkB addr count tt l) (putL [addr, count, tt, (l.length : Int) % 65536] ++ ((2 * (l.length : Int)) % 256 :: putL l), 0) from mk_c (mkB_good ha hk ht hw) (show l.length ≤ 1000 by omega) (by rw [writeB ha hk ht hw, if_pos hg]))
  have d3 : decide ((l.length : Int) ≤ 121) = true := decide_eq_true (by omega)
  have u1 : IntKind.u16.wrap (l.length : Int) = (l.length : Int) := by rw [IntKind.wrap_u16]; omega
  have HA := Aside0.mk ha
  have HK := Aside0.mk hk
  have HT := Aside0.mk ht
  have HW := Aside0.mk hw
  have HC := Aside0.mk hc
  have HL := Aside0.mk hl
  have HLN := Aside0.mk (show 0 ≤ (l.length : Int) ∧ (l.length : Int) < 65536 by omega)
  clear hr ha hk ht hw hc hl he hf hg
  go_enter Try.func10, Try.ntmps10
  go_upto_region 4 with (first | (go_at_call 11; (with_reducible refine (awake_any _).mono ?_); rintro en wa ⟨rfl, hb_⟩; have n0_ := Aside0.mk (H.out.on hb_); clear H; have H := n0_; clear n0_; clear hb_))
  go_upto_region 5 with (first | ((with_reducible refine gate_dst (N := 25) rfl ?_); (try (refine gate_guard (by rfl) ?_; dsimp only)); refine ev_build (((zeroC.setIfInBounds 0 (.int .u8 3)).setIfInBounds 2 (.int .u16 addr)).setIfInBounds 3 (.int .u16 count)) rfl (by first | (go_simp; done) | (go_simp; rfl)) ?_; intro cm hcx_; have mx_ := (fun W => (by rw [hcx_]; exact ((fun W => mkA_is (by decide) HA.out HK.out W)) W : IsMsg W cm (mkA 3 addr count))); have n0_ := Aside0.mk ((H.out).add (sta_msg _ _) (mx_ _)); clear H; have H := n0_; clear n0_; clear hcx_ mx_) | (go_at_call 16; (with_reducible refine (WriteC.n HE.out (n := 4) rfl H.out.f.2).mono ?_); rintro en wa1 ⟨Aa, ca, rfl, hz_, hr_, hb_⟩; have n0_ := Aside0.mk ((H.out.on hb_).add (sta_C _ _ _ _) (hr_)); clear H; have H := n0_; clear n0_; have Za := Aside0.mk hz_; clear hb_ hr_ hz_))
  go_upto_region 6 with (first | ((with_reducible refine gate_dst (N := 35) rfl ?_); (try (refine gate_guard (by rfl) ?_; dsimp only)); refine ev_build ((((zeroC.setIfInBounds 0 (.int .u8 16)).setIfInBounds 2 (.int .u16 tt)).setIfInBounds 3 (.int .u16 (l.length : Int))).setIfInBounds 12 (.slice A l.length c)) rfl (by first | (go_simp; done) | (go_simp; rfl)) ?_; intro cn hcx_; have mx_ := (show IsMsg _ ((((zeroC.setIfInBounds 0 (.int .u8 16)).setIfInBounds 2 (.int .u16 tt)).setIfInBounds 3 (.int .u16 (l.length : Int))).setIfInBounds 12 (.slice A l.length c)) (mkM tt (l.length : Int) l) from mkM_is HT.out HLN.out HW.out H.out.f.1.1.2 HC.out); rw [← hcx_] at mx_; have n0_ := Aside0.mk ((H.out).add (sta_msg _ _) (mx_)); clear H; have H := n0_; clear n0_; clear hcx_ mx_) | (go_at_call 16; (with_reducible refine (WriteC.n HF.out (n := 5 + 2 * l.length) many_len H.out.f.2).mono ?_); rintro en wb1 ⟨Ab, cb, rfl, hz_, hr_, hb_⟩; have n0_ := Aside0.mk ((H.out.on hb_).add (sta_C _ _ _ _) (hr_)); clear H; have H := n0_; clear n0_; have Zb := Aside0.mk hz_; clear hb_ hr_ hz_))
  go_upto_region 7 with (first | ((with_reducible refine gate_dst (N := 44) rfl ?_); (try (refine gate_guard (by rfl) ?_; dsimp only)); refine ev_build (((((zeroC.setIfInBounds 0 (.int .u8 23)).setIfInBounds 2 (.int .u16 addr)).setIfInBounds 3 (.int .u16 count)).setIfInBounds 7 (.int .u16 tt)).setIfInBounds 12 (.slice A l.length c)) rfl (by first | (go_simp; done) | (go_simp; rfl)) ?_; intro cg hcx_; have mx_ := (show IsMsg _ (((((zeroC.setIfInBounds 0 (.int .u8 23)).setIfInBounds 2 (.int .u16 addr)).setIfInBounds 3 (.int .u16 count)).setIfInBounds 7 (.int .u16 tt)).setIfInBounds 12 (.slice A l.length c)) (mkB addr count tt l) from mkB_is HA.out HK.out HT.out HW.out H.out.f.1.1.1.1.2 HC.out); rw [← hcx_] at mx_; have n0_ := Aside0.mk ((H.out).add (sta_msg _ _) (mx_)); clear H; have H := n0_; clear n0_; clear hcx_ mx_) | (go_at_call 16; (with_reducible refine (WriteC.n HG.out (n := 9 + 2 * l.length) both_len H.out.f.2).mono ?_); rintro en wd1 ⟨Ad, cd, rfl, hz_, hr_, hb_⟩; have n0_ := Aside0.mk ((H.out.on hb_).add (sta_C _ _ _ _) (hr_)); clear H; have H := n0_; clear n0_; have Zd := Aside0.mk hz_; clear hb_ hr_ hz_))
  go_wp2_with (first | ((with_reducible refine gate_dst (N := 72) rfl ?_); (try (refine gate_guard (by rfl) ?_; dsimp only)); refine Com.ev_rlit .u8 [] 5 rfl rfl (by first | (go_simp; done) | (go_simp; rfl)) (by simp) ?_; intro vv wv hr_ hb_; have HSv := H; have n0_ := Aside0.mk (H.out.on hb_); clear H; have H := n0_; clear n0_; have Rv := Aside0.mk hr_; have Bv := Aside0.mk hb_; obtain ⟨Av, cv, ev_, _, _⟩ := Kd.R_reads hr_; subst ev_; clear hb_ hr_) | ((with_reducible refine gate_builtin (b := .append) (xs := #[.tmp 72, .tmp 73]) rfl ?_); at_builtin; (try (refine gate_guard (by rfl) ?_; dsimp only)); obtain ⟨nx, hnt_⟩ : ∃ z, z = (([] : List Int) ++ putL [addr, count]).length := ⟨_, rfl⟩; have hl_ : ([] : List Int).length + 4 ≤ 1000000 := (by decide); refine Com.ev_app .u8 5 (.tmp 72) (.tmp 73) 22 1 rfl rfl Try.underlying22 (by kernel_rfl) (by decide) (by decide) rfl rfl Rv.out (H.out.f.1.1.1.1.2) Bv.out hl_ (zs := ([] : List Int) ++ putL [addr, count]) (n := nx) (by first | rfl | simp) hnt_.symm ?_; intro v1_ Ax cx wapx e1_ hR_ hC_ hz_ hb_; subst e1_; have n0_ := Aside0.mk (HSv.out.on hb_); clear H; have H := n0_; clear n0_; have HSx := HSv; have Rx := Aside0.mk hR_; have Bx := Aside0.mk hb_; have Zx := Aside0.mk hz_; have Cx := Aside0.mk hC_; have Nx := Aside0.mk hnt_; clear hR_ hC_ hz_ hb_ hl_ hnt_) | ((with_reducible refine gate_builtin (b := .append) (xs := #[.tmp 74, .tmp 75]) rfl ?_); at_builtin; (try (refine gate_guard (by rfl) ?_; dsimp only)); obtain ⟨ny, hnt_⟩ : ∃ z, z = ((([] : List Int) ++ putL [addr, count]) ++ (putL [tt, (l.length : Int)] ++ ((2 * (l.length : Int)) % 256 :: putL l))).length := ⟨_, rfl⟩; have hl_ : (([] : List Int) ++ putL [addr, count]).length + (5 + 2 * l.length) ≤ 1000000 := (by have := HL.out; simp only [List.length_append, List.length_cons, List.length_nil, putL_length]; omega); refine Com.ev_app .u8 5 (.tmp 74) (.tmp 75) 22 1 rfl rfl Try.underlying22 (by kernel_rfl) (by decide) (by decide) rfl rfl Rx.out (H.out.f.1.1.2) Bx.out hl_ (zs := (([] : List Int) ++ putL [addr, count]) ++ (putL [tt, (l.length : Int)] ++ ((2 * (l.length : Int)) % 256 :: putL l))) (n := ny) (by first | rfl | simp) hnt_.symm ?_; intro v1_ Ay cy wapy e1_ hR_ hC_ hz_ hb_; subst e1_; have n0_ := Aside0.mk (HSx.out.on hb_); clear H; have H := n0_; clear n0_; have HSy := HSx; have Ry := Aside0.mk hR_; have By := Aside0.mk hb_; have Zy := Aside0.mk hz_; have Cy := Aside0.mk hC_; have Ny := Aside0.mk hnt_; clear hR_ hC_ hz_ hb_ hl_ hnt_) | (go_at_call 18; (with_reducible refine (same_e (isBytes_append (putL_bytes _) told_b) (both_eq_ HL.out) (n := 9 + 2 * l.length) both_len Ny.out.symm H.out.f.2 Zd.out Cy.out Zy.out).mono ?_); rintro en we ⟨rfl, hb_⟩; have n0_ := Aside0.mk (H.out.on hb_); clear H; have H := n0_; clear n0_; clear hb_))
  go_ret
  exact ⟨by first | rfl | (simp [same_refl]; done), H.out.b⟩
theorem busbarlaw09_RegsBoth (addr count tt : Int) (A : Option Addr) (c : Nat) (l : List Int) (w : World) (hr : Kd.C (Kd.int .u16) w A l.length l) (hc : l.length ≤ c) (ha : (Lit.int .u16 addr).wf = true) (hk : (Lit.int .u16 count).wf = true) (ht : (Lit.int .u16 tt).wf = true) {p : Prop} (_ : p) (hw : ∀ x ∈ l, (Lit.int .u16 x).wf = true) :
    Calls Try.prog 10 #[.int .u16 addr, .int .u16 count, .int .u16 tt, .slice A l.length c] w fun en w' => en = .returned (.bool true) ∧ Below w.heap.size w w' := by
  by_cases hl : 400 < l.length
  · exact RegsBoth_long hr hc hl
  have hw : is16 l := fun x hx => u16_wf (hw x hx)
  have ha := u16_wf ha
  have hk := u16_wf hk
  have ht := u16_wf ht
  by_cases he : inB 125 addr count
  · by_cases hf : inB 123 tt (l.length : Int) ∧ (l.length : Int) = (l.length : Int)
    · by_cases h1 : (l.length : Int) ≤ 121
      · exact RegsBoth_5 hr hc hl ha hk ht hw he hf ⟨he, hf.1.1, h1, hf.1.2.2⟩ h1
      · exact RegsBoth_4 hr hc hl ha hk ht hw he hf (fun h => h1 h.2.2.1) h1
    · exact RegsBoth_3 hr hc hl ha hk ht hw he hf (fun h => hf ⟨⟨h.2.1, by have := h.2.2.1; omega, h.2.2.2⟩, rfl⟩)
  · exact RegsBoth_2 hr hc hl ha hk ht hw he rfl (fun h => he h.1)
end Go.Proofs.Ytmglilncdffbkaa.Laws
end
