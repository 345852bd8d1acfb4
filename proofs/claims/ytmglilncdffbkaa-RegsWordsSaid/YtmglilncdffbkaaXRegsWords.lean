/- The law RegsWords: its walk, and the plain law. Conditions: what each theorem states. -/
import Derived.Test.YtmglilncdffbkaaYD
set_option linter.unusedVariables false
set_option linter.unusedSimpArgs false
set_option maxHeartbeats 16000000
set_option maxRecDepth 100000
section
namespace Go.Proofs.Ytmglilncdffbkaa.Laws
open Go.RowKit Go.Proofs.Ytmglilncdffbkaa.P Go.Proofs.Ytmglilncdffbkaa.E Go.Proofs.Ytmglilncdffbkaa.Cur Go.Proofs.Ytmglilncdffbkaa.Cu Go.Proofs.Ytmglilncdffbkaa.Same Go.Proofs.Ytmglilncdffbkaa.Put Go.Proofs.Ytmglilncdffbkaa.Com Go.Proofs.Ytmglilncdffbkaa.Reg Go.Proofs.YtmglilncdffbkaaW.PrintWords Go.Proofs.YtmglilncdffbkaaW.PrintLast Go.Proofs.YtmglilncdffbkaaW.PrintMore
theorem and255 {v : Int} (hv : 0 ≤ v ∧ v < 65536) : bits .and .u16 v 255 = v % 256 := by
  have h := bits_mask .u16 16 (by decide) (fun n h0 h1 => by rw [IntKind.wrap_u16]; omega) 8 (by decide) v hv.1 (by have := hv.2; omega)
  exact h
theorem getD_app (p q : List Int) (j : Nat) : (p ++ q).getD (p.length + j) 0 = q.getD j 0 := by
  rw [List.getD_eq_getElem?_getD, List.getElem?_append_right (by omega), Nat.add_sub_cancel_left, ← List.getD_eq_getElem?_getD]
theorem rd_app (p l : List Int) (i : Nat) (h : i < l.length) : rd (p ++ putL l) ((p.length : Int) + 2 * (i : Int)) = l.getD i 0 / 256 % 256 ∧ rd (p ++ putL l) ((p.length : Int) + 2 * (i : Int) + 1) = l.getD i 0 % 256 := by
  have key : ∀ (l : List Int) (i : Nat), i < l.length → (putL l).getD (2 * i) 0 = l.getD i 0 / 256 % 256 ∧ (putL l).getD (2 * i + 1) 0 = l.getD i 0 % 256 := by
    intro l
    induction l with
    | nil => intro i h; simp at h
    | cons x t ih =>
      intro i h
      cases i with
      | zero => exact ⟨rfl, rfl⟩
      | succ i =>
        have h := ih i (by simpa using h)
        rw [show 2 * (i + 1) = 2 * i + 1 + 1 by omega]
        exact h
  have h1 := key l i h
  have e1 : ((p.length : Int) + 2 * (i : Int)).toNat = p.length + 2 * i := by omega
  have e2 : ((p.length : Int) + 2 * (i : Int) + 1).toNat = p.length + (2 * i + 1) := by omega
  unfold rd
  rw [e1, e2, getD_app, getD_app]
  exact h1
theorem ends_go {p l : List Int} (hw : is16 l) (hp : p.length ≤ 1000) (hl : l.length ≤ 1000) : ∀ (d i : Nat), i + d = l.length → busbarlaw09_ends.l0 (d + 1) (p ++ putL l) l (p.length : Int) (i : Int) = some true := by
  intro d
  induction d with
  | zero =>
    intro i h
    unfold busbarlaw09_ends.l0
    rw [if_neg (by omega)]
  | succ d ih =>
    intro i h
    have hi : i < l.length := by omega
    have hln : (p ++ putL l).length = p.length + 2 * l.length := by rw [List.length_append, putL_length]
    obtain ⟨r1, r2⟩ := rd_app p l i hi
    have hv : 0 ≤ l.getD i 0 ∧ l.getD i 0 < 65536 := by
      rw [List.getD_eq_getElem?_getD, List.getElem?_eq_getElem hi]
      exact hw _ (List.getElem_mem hi)
    have e0 : rd l (i : Int) = l.getD i 0 := by unfold rd; rw [Int.toNat_natCast]
    have c1 : (i : Int) < (l.length : Int) := by omega
    have c2 : 0 ≤ (p.length : Int) + 2 * (i : Int) := by omega
    have c3 : (p.length : Int) + 2 * (i : Int) < ((p.length + 2 * l.length : Nat) : Int) := by omega
    have c4 : 0 ≤ (i : Int) := by omega
    have c6 : 0 ≤ (p.length : Int) + 2 * (i : Int) + 1 := by omega
    have c7 : (p.length : Int) + 2 * (i : Int) + 1 < ((p.length + 2 * l.length : Nat) : Int) := by omega
    have c8 : l.getD i 0 % 256 = l.getD i 0 % 256 % 256 := by omega
    have n1 := ih (i + 1) (by omega)
    have b1 : -9223372036854775808 ≤ 2 * (i : Int) ∧ 2 * (i : Int) < 9223372036854775808 := by omega
    have b2 : -9223372036854775808 ≤ (p.length : Int) + 2 * (i : Int) ∧ (p.length : Int) + 2 * (i : Int) < 9223372036854775808 := by omega
    have b3 : -9223372036854775808 ≤ (p.length : Int) + 2 * (i : Int) + 1 ∧ (p.length : Int) + 2 * (i : Int) + 1 < 9223372036854775808 := by omega
    have b4 : -9223372036854775808 ≤ (i : Int) + 1 ∧ (i : Int) + 1 < 9223372036854775808 := by omega
    have w1 : wrap64 (2 * (i : Int)) = 2 * (i : Int) := wrap64_id b1.1 b1.2
    have w2 : wrap64 ((p.length : Int) + 2 * (i : Int)) = (p.length : Int) + 2 * (i : Int) := wrap64_id b2.1 b2.2
    have w3 : wrap64 ((p.length : Int) + 2 * (i : Int) + 1) = (p.length : Int) + 2 * (i : Int) + 1 := wrap64_id b3.1 b3.2
    have w4 : wrap64 ((i : Int) + 1) = ((i + 1 : Nat) : Int) := wrap64_id b4.1 b4.2
    unfold busbarlaw09_ends.l0
    rw [w1, w2, w3, w4, e0, and255 hv, r1, r2, hln, if_pos c1, if_pos c2, if_pos c3, if_pos c4, if_pos rfl, if_pos c6, if_pos c7, if_pos c8]
    exact n1
theorem ends_ev {p l : List Int} (hw : is16 l) (hp : p.length ≤ 1000) (hl : l.length ≤ 1000) : busbarlaw09_ends.f (l.length + 1) (p ++ putL l) l = some true := by
  have hln : (p ++ putL l).length = p.length + 2 * l.length := by rw [List.length_append, putL_length]
  have w1 : wrap64 (2 * (l.length : Int)) = 2 * (l.length : Int) := wrap64_id (by omega) (by omega)
  have w2 : wrap64 (((p.length + 2 * l.length : Nat) : Int) - 2 * (l.length : Int)) = (p.length : Int) := by
    rw [show ((p.length + 2 * l.length : Nat) : Int) - 2 * (l.length : Int) = (p.length : Int) by omega]
    exact wrap64_id (by omega) (by omega)
  unfold busbarlaw09_ends.f
  rw [hln, w1, w2, if_neg (by omega)]
  exact ends_go hw hp hl l.length 0 (by omega)
theorem ends_c {p l : List Int} (hw : is16 l) (hp : p.length ≤ 1000) (hl : l.length ≤ 1000) {bs : List Int} (he : bs = p ++ putL l) {n : Nat} (hn : bs.length = n) {A B : Option Addr} {c d : Nat} {W : World} (hr : Kd.C (Kd.int .u8) W A n bs) (hc : n ≤ c) (hr2 : Kd.C (Kd.int .u16) W B l.length l) (hc2 : l.length ≤ d) : Calls Try.prog 19 #[.slice A n c, .slice B l.length d] W fun en w' => en = .returned (.bool true) ∧ Below W.heap.size W w' := by
  subst hn
  subst he
  refine (busbarlaw09_ends.calls (l.length + 1) A c _ B d l true W hr hc hr2 hc2 (ends_ev hw hp hl)).mono ?_
  rintro en w' ⟨rfl, h⟩
  exact ⟨rfl, h.below⟩
theorem RegsWords_long {l : List Int} {A : Option Addr} {c : Nat} {w : World} (hr : Kd.C (Kd.int .u16) w A l.length l) (hc : l.length ≤ c) (hl : 400 < l.length) :
    Calls Try.prog 7 #[.slice A l.length c] w fun en w' => en = .returned (.bool true) ∧ Below w.heap.size w w' := by
  have H := Aside0.mk (Hd.start w)
  have d1 : decide ((l.length : Int) > 400) = true := decide_eq_true (by omega)
  have d2 : decide ((400 : Int) < (l.length : Int)) = true := decide_eq_true (by omega)
  clear hr
  go_enter Try.func7, Try.ntmps7
  go_wp2_with (first | (go_at_call 11; (with_reducible refine (awake_any _).mono ?_); rintro en wa ⟨rfl, hb_⟩; have n0_ := Aside0.mk (H.out.on hb_); clear H; have H := n0_; clear n0_; clear hb_))
  go_ret
  exact ⟨by first | rfl | (simp [same_refl]; done), H.out.b⟩
theorem told_app {l : List Int} : (((2 * (l.length : Int)) % 256 :: putL l)) = [(2 * (l.length : Int)) % 256] ++ putL l := rfl
theorem told_len_ {l : List Int} : (((2 * (l.length : Int)) % 256 :: putL l)).length = 1 + 2 * l.length := by
  rw [List.length_cons, putL_length]
  omega
theorem many_len {a b : Int} {l : List Int} : (putL [a, b] ++ ((2 * (l.length : Int)) % 256 :: putL l)).length = 5 + 2 * l.length := by
  simp only [List.length_append, List.length_cons, List.length_nil, putL_length]
  omega
theorem queue_len {a b : Int} {l : List Int} : (putL [a, b] ++ putL l).length = 4 + 2 * l.length := by
  simp only [List.length_append, List.length_cons, List.length_nil, putL_length]
theorem many_app {a b : Int} {l : List Int} : putL [a, b] ++ ((2 * (l.length : Int)) % 256 :: putL l) = (putL [a, b] ++ [(2 * (l.length : Int)) % 256]) ++ putL l := by
  rw [List.append_assoc]
  rfl
theorem RegsWords_0 {l : List Int} {A : Option Addr} {c : Nat} {w : World} (hr : Kd.C (Kd.int .u16) w A l.length l) (hc : l.length ≤ c) (hl : ¬ 400 < l.length) (hk : l.length = 0) (hw : is16 l) :
    Calls Try.prog 7 #[.slice A l.length c] w fun en w' => en = .returned (.bool true) ∧ Below w.heap.size w w' := by
  have H := Aside0.mk (Hd.start w)
  have n0_ := Aside0.mk ((H.out).add (sta_C _ _ _ _) (hr))
  clear H
  have H := n0_
  clear n0_
  have d1 : decide ((l.length : Int) > 400) = false := decide_eq_false (by omega)
  have d2 : decide ((400 : Int) < (l.length : Int)) = false := decide_eq_false (by omega)
  have HT := Aside0.mk (show WriteC 16 1 (mkT l) (([] : List Int), 1) from mk_c (mkT_good hw) (show l.length ≤ 1000 by omega) (by rw [writeT hw, if_neg (by omega)]))
  have HM := Aside0.mk (show WriteC 16 0 (mkM 0 (l.length : Int) l) (([] : List Int), 1) from mk_c (mkM_good (by decide) (by omega) hw) (show l.length ≤ 1000 by omega) (by rw [writeM (by decide) (by omega) hw, if_neg (by unfold inB; omega)]))
  have HQ := Aside0.mk (show WriteC 16 1 (mkQ l) (putL [(2 + 2 * (l.length : Int)) % 65536, (l.length : Int) % 65536] ++ putL l, 0) from mk_c (mkQ_good hw) (show l.length ≤ 1000 by omega) (by rw [writeQ hw, if_pos (by omega)]))
  have e0 : decide ((l.length : Int) ≥ 1) = false := decide_eq_false (by omega)
  have e1 : decide ((1 : Int) ≤ (l.length : Int)) = false := decide_eq_false (by omega)
  have e2 : decide (1 ≤ l.length) = false := decide_eq_false (by omega)
  have e3 : decide ((l.length : Int) ≤ 125) = true := decide_eq_true (by omega)
  have e4 : decide ((l.length : Int) ≤ 123) = true := decide_eq_true (by omega)
  have e5 : decide ((l.length : Int) ≤ 31) = true := decide_eq_true (by omega)
  have e6 : decide (l.length ≤ 125) = true := decide_eq_true (by omega)
  have e7 : decide (l.length ≤ 123) = true := decide_eq_true (by omega)
  have e8 : decide (l.length ≤ 31) = true := decide_eq_true (by omega)
  have e9 : decide (0 < l.length) = false := decide_eq_false (by omega)
  have u1 : IntKind.u16.wrap (l.length : Int) = (l.length : Int) := by rw [IntKind.wrap_u16]; omega
  have v0 : wrap64 (2 * (l.length : Int)) = 2 * (l.length : Int) := wrap64_id (by omega) (by omega)
  have v1 : wrap64 (1 + 2 * (l.length : Int)) = 1 + 2 * (l.length : Int) := wrap64_id (by omega) (by omega)
  have v2 : wrap64 (5 + 2 * (l.length : Int)) = 5 + 2 * (l.length : Int) := wrap64_id (by omega) (by omega)
  have v3 : wrap64 (4 + 2 * (l.length : Int)) = 4 + 2 * (l.length : Int) := wrap64_id (by omega) (by omega)
  have HW := Aside0.mk hw
  have HC := Aside0.mk hc
  have HLN := Aside0.mk (show 0 ≤ (l.length : Int) ∧ (l.length : Int) < 65536 by omega)
  have HL := Aside0.mk (show l.length ≤ 1000 by omega)
  clear hr hw hc hl hk
  go_enter Try.func7, Try.ntmps7
  go_upto_region 5 with (first | (go_at_call 11; (with_reducible refine (awake_any _).mono ?_); rintro en wa ⟨rfl, hb_⟩; have n0_ := Aside0.mk (H.out.on hb_); clear H; have H := n0_; clear n0_; clear hb_))
  go_upto_region 6 with (first | ((with_reducible refine gate_dst (N := 20) rfl ?_); (try (refine gate_guard (by rfl) ?_; dsimp only)); refine ev_build ((zeroC.setIfInBounds 0 (.int .u8 3)).setIfInBounds 12 (.slice A l.length c)) rfl (by first | (go_simp; done) | (go_simp; rfl)) ?_; intro cm hcx_; have mx_ := (show IsMsg _ ((zeroC.setIfInBounds 0 (.int .u8 3)).setIfInBounds 12 (.slice A l.length c)) (mkT l) from mkT_is HW.out H.out.f.2 HC.out); rw [← hcx_] at mx_; have n0_ := Aside0.mk ((H.out).add (sta_msg _ _) (mx_)); clear H; have H := n0_; clear n0_; clear hcx_ mx_) | (go_at_call 16; (with_reducible refine (WriteC.n HT.out (n := 0) rfl H.out.f.2).mono ?_); rintro en wa1 ⟨Aa, ca, rfl, hz_, hr_, hb_⟩; have n0_ := Aside0.mk ((H.out.on hb_).add (sta_C _ _ _ _) (hr_)); clear H; have H := n0_; clear n0_; have Za := Aside0.mk hz_; clear hb_ hr_ hz_))
  go_upto_region 7 with (first | ((with_reducible refine gate_dst (N := 28) rfl ?_); (try (refine gate_guard (by rfl) ?_; dsimp only)); refine ev_build (((zeroC.setIfInBounds 0 (.int .u8 16)).setIfInBounds 3 (.int .u16 (l.length : Int))).setIfInBounds 12 (.slice A l.length c)) rfl (by first | (go_simp; done) | (go_simp; rfl)) ?_; intro cn hcx_; have mx_ := (show IsMsg _ (((zeroC.setIfInBounds 0 (.int .u8 16)).setIfInBounds 3 (.int .u16 (l.length : Int))).setIfInBounds 12 (.slice A l.length c)) (mkM 0 (l.length : Int) l) from mkN_is HLN.out HW.out H.out.f.1.1.2 HC.out); rw [← hcx_] at mx_; have n0_ := Aside0.mk ((H.out).add (sta_msg _ _) (mx_)); clear H; have H := n0_; clear n0_; clear hcx_ mx_) | (go_at_call 16; (with_reducible refine (WriteC.n HM.out (n := 0) rfl H.out.f.2).mono ?_); rintro en wb1 ⟨Ab, cb, rfl, hz_, hr_, hb_⟩; have n0_ := Aside0.mk ((H.out.on hb_).add (sta_C _ _ _ _) (hr_)); clear H; have H := n0_; clear n0_; have Zb := Aside0.mk hz_; clear hb_ hr_ hz_))
  go_upto_region 8 with (first | ((with_reducible refine gate_dst (N := 34) rfl ?_); (try (refine gate_guard (by rfl) ?_; dsimp only)); refine ev_build ((zeroC.setIfInBounds 0 (.int .u8 24)).setIfInBounds 12 (.slice A l.length c)) rfl (by first | (go_simp; done) | (go_simp; rfl)) ?_; intro cg hcx_; have mx_ := (show IsMsg _ ((zeroC.setIfInBounds 0 (.int .u8 24)).setIfInBounds 12 (.slice A l.length c)) (mkQ l) from mkQ_is HW.out H.out.f.1.1.1.1.2 HC.out); rw [← hcx_] at mx_; have n0_ := Aside0.mk ((H.out).add (sta_msg _ _) (mx_)); clear H; have H := n0_; clear n0_; clear hcx_ mx_) | (go_at_call 16; (with_reducible refine (WriteC.n HQ.out (n := 4 + 2 * l.length) queue_len H.out.f.2).mono ?_); rintro en wd1 ⟨Ad, cd, rfl, hz_, hr_, hb_⟩; have n0_ := Aside0.mk ((H.out.on hb_).add (sta_C _ _ _ _) (hr_)); clear H; have H := n0_; clear n0_; have Zd := Aside0.mk hz_; clear hb_ hr_ hz_))
  go_upto_region 10 with (fail)
  go_wp2_with (first | (go_at_call 19; (with_reducible refine (ends_c HW.out (p := putL [(2 + 2 * (l.length : Int)) % 65536, (l.length : Int) % 65536]) (by simp [putL]) HL.out rfl queue_len H.out.f.2 Zd.out H.out.f.1.1.1.1.1.1.2 HC.out).mono ?_); rintro en we3 ⟨rfl, hb_⟩; have n0_ := Aside0.mk (H.out.on hb_); clear H; have H := n0_; clear n0_; clear hb_))
  go_ret
  exact ⟨by first | rfl | (simp [same_refl]; done), H.out.b⟩
theorem RegsWords_1 {l : List Int} {A : Option Addr} {c : Nat} {w : World} (hr : Kd.C (Kd.int .u16) w A l.length l) (hc : l.length ≤ c) (hl : ¬ 400 < l.length) (hk : 1 ≤ l.length ∧ l.length ≤ 31) (hw : is16 l) :
    Calls Try.prog 7 #[.slice A l.length c] w fun en w' => en = .returned (.bool true) ∧ Below w.heap.size w w' := by
  have H := Aside0.mk (Hd.start w)
  have n0_ := Aside0.mk ((H.out).add (sta_C _ _ _ _) (hr))
  clear H
  have H := n0_
  clear n0_
  have d1 : decide ((l.length : Int) > 400) = false := decide_eq_false (by omega)
  have d2 : decide ((400 : Int) < (l.length : Int)) = false := decide_eq_false (by omega)
  have HT := Aside0.mk (show WriteC 16 1 (mkT l) (((2 * (l.length : Int)) % 256 :: putL l), 0) from mk_c (mkT_good hw) (show l.length ≤ 1000 by omega) (by rw [writeT hw, if_pos (by omega)]))
  have HM := Aside0.mk (show WriteC 16 0 (mkM 0 (l.length : Int) l) (putL [0, (l.length : Int)] ++ ((2 * (l.length : Int)) % 256 :: putL l), 0) from mk_c (mkM_good (by decide) (by omega) hw) (show l.length ≤ 1000 by omega) (by rw [writeM (by decide) (by omega) hw, if_pos (by unfold inB; omega)]))
  have HQ := Aside0.mk (show WriteC 16 1 (mkQ l) (putL [(2 + 2 * (l.length : Int)) % 65536, (l.length : Int) % 65536] ++ putL l, 0) from mk_c (mkQ_good hw) (show l.length ≤ 1000 by omega) (by rw [writeQ hw, if_pos (by omega)]))
  have e0 : decide ((l.length : Int) ≥ 1) = true := decide_eq_true (by omega)
  have e1 : decide ((1 : Int) ≤ (l.length : Int)) = true := decide_eq_true (by omega)
  have e2 : decide (1 ≤ l.length) = true := decide_eq_true (by omega)
  have e3 : decide ((l.length : Int) ≤ 125) = true := decide_eq_true (by omega)
  have e4 : decide ((l.length : Int) ≤ 123) = true := decide_eq_true (by omega)
  have e5 : decide ((l.length : Int) ≤ 31) = true := decide_eq_true (by omega)
  have e6 : decide (l.length ≤ 125) = true := decide_eq_true (by omega)
  have e7 : decide (l.length ≤ 123) = true := decide_eq_true (by omega)
  have e8 : decide (l.length ≤ 31) = true := decide_eq_true (by omega)
  have e9 : decide (0 < l.length) = true := decide_eq_true (by omega)
  have u1 : IntKind.u16.wrap (l.length : Int) = (l.length : Int) := by rw [IntKind.wrap_u16]; omega
  have v0 : wrap64 (2 * (l.length : Int)) = 2 * (l.length : Int) := wrap64_id (by omega) (by omega)
  have v1 : wrap64 (1 + 2 * (l.length : Int)) = 1 + 2 * (l.length : Int) := wrap64_id (by omega) (by omega)
  have v2 : wrap64 (5 + 2 * (l.length : Int)) = 5 + 2 * (l.length : Int) := wrap64_id (by omega) (by omega)
  have v3 : wrap64 (4 + 2 * (l.length : Int)) = 4 + 2 * (l.length : Int) := wrap64_id (by omega) (by omega)
  have HW := Aside0.mk hw
  have HC := Aside0.mk hc
  have HLN := Aside0.mk (show 0 ≤ (l.length : Int) ∧ (l.length : Int) < 65536 by omega)
  have HL := Aside0.mk (show l.length ≤ 1000 by omega)
  clear hr hw hc hl hk
  go_enter Try.func7, Try.ntmps7
  go_upto_region 5 with (first | (go_at_call 11; (with_reducible refine (awake_any _).mono ?_); rintro en wa ⟨rfl, hb_⟩; have n0_ := Aside0.mk (H.out.on hb_); clear H; have H := n0_; clear n0_; clear hb_))
  go_upto_region 6 with (first | ((with_reducible refine gate_dst (N := 20) rfl ?_); (try (refine gate_guard (by rfl) ?_; dsimp only)); refine ev_build ((zeroC.setIfInBounds 0 (.int .u8 3)).setIfInBounds 12 (.slice A l.length c)) rfl (by first | (go_simp; done) | (go_simp; rfl)) ?_; intro cm hcx_; have mx_ := (show IsMsg _ ((zeroC.setIfInBounds 0 (.int .u8 3)).setIfInBounds 12 (.slice A l.length c)) (mkT l) from mkT_is HW.out H.out.f.2 HC.out); rw [← hcx_] at mx_; have n0_ := Aside0.mk ((H.out).add (sta_msg _ _) (mx_)); clear H; have H := n0_; clear n0_; clear hcx_ mx_) | (go_at_call 16; (with_reducible refine (WriteC.n HT.out (n := 1 + 2 * l.length) told_len_ H.out.f.2).mono ?_); rintro en wa1 ⟨Aa, ca, rfl, hz_, hr_, hb_⟩; have n0_ := Aside0.mk ((H.out.on hb_).add (sta_C _ _ _ _) (hr_)); clear H; have H := n0_; clear n0_; have Za := Aside0.mk hz_; clear hb_ hr_ hz_))
  go_upto_region 7 with (first | ((with_reducible refine gate_dst (N := 28) rfl ?_); (try (refine gate_guard (by rfl) ?_; dsimp only)); refine ev_build (((zeroC.setIfInBounds 0 (.int .u8 16)).setIfInBounds 3 (.int .u16 (l.length : Int))).setIfInBounds 12 (.slice A l.length c)) rfl (by first | (go_simp; done) | (go_simp; rfl)) ?_; intro cn hcx_; have mx_ := (show IsMsg _ (((zeroC.setIfInBounds 0 (.int .u8 16)).setIfInBounds 3 (.int .u16 (l.length : Int))).setIfInBounds 12 (.slice A l.length c)) (mkM 0 (l.length : Int) l) from mkN_is HLN.out HW.out H.out.f.1.1.2 HC.out); rw [← hcx_] at mx_; have n0_ := Aside0.mk ((H.out).add (sta_msg _ _) (mx_)); clear H; have H := n0_; clear n0_; clear hcx_ mx_) | (go_at_call 16; (with_reducible refine (WriteC.n HM.out (n := 5 + 2 * l.length) many_len H.out.f.2).mono ?_); rintro en wb1 ⟨Ab, cb, rfl, hz_, hr_, hb_⟩; have n0_ := Aside0.mk ((H.out.on hb_).add (sta_C _ _ _ _) (hr_)); clear H; have H := n0_; clear n0_; have Zb := Aside0.mk hz_; clear hb_ hr_ hz_))
  go_upto_region 8 with (first | ((with_reducible refine gate_dst (N := 34) rfl ?_); (try (refine gate_guard (by rfl) ?_; dsimp only)); refine ev_build ((zeroC.setIfInBounds 0 (.int .u8 24)).setIfInBounds 12 (.slice A l.length c)) rfl (by first | (go_simp; done) | (go_simp; rfl)) ?_; intro cg hcx_; have mx_ := (show IsMsg _ ((zeroC.setIfInBounds 0 (.int .u8 24)).setIfInBounds 12 (.slice A l.length c)) (mkQ l) from mkQ_is HW.out H.out.f.1.1.1.1.2 HC.out); rw [← hcx_] at mx_; have n0_ := Aside0.mk ((H.out).add (sta_msg _ _) (mx_)); clear H; have H := n0_; clear n0_; clear hcx_ mx_) | (go_at_call 16; (with_reducible refine (WriteC.n HQ.out (n := 4 + 2 * l.length) queue_len H.out.f.2).mono ?_); rintro en wd1 ⟨Ad, cd, rfl, hz_, hr_, hb_⟩; have n0_ := Aside0.mk ((H.out.on hb_).add (sta_C _ _ _ _) (hr_)); clear H; have H := n0_; clear n0_; have Zd := Aside0.mk hz_; clear hb_ hr_ hz_))
  go_upto_region 10 with (fail)
  go_wp2_with (first | (go_at_call 19; (with_reducible refine (ends_c HW.out (p := [(2 * (l.length : Int)) % 256]) (by simp) HL.out told_app told_len_ H.out.f.1.1.1.1.2 Za.out H.out.f.1.1.1.1.1.1.2 HC.out).mono ?_); rintro en we1 ⟨rfl, hb_⟩; have n0_ := Aside0.mk (H.out.on hb_); clear H; have H := n0_; clear n0_; clear hb_) | (go_at_call 19; (with_reducible refine (ends_c HW.out (p := putL [0, (l.length : Int)] ++ [(2 * (l.length : Int)) % 256]) (by simp [putL]) HL.out many_app many_len H.out.f.1.1.2 Zb.out H.out.f.1.1.1.1.1.1.2 HC.out).mono ?_); rintro en we2 ⟨rfl, hb_⟩; have n0_ := Aside0.mk (H.out.on hb_); clear H; have H := n0_; clear n0_; clear hb_) | (go_at_call 19; (with_reducible refine (ends_c HW.out (p := putL [(2 + 2 * (l.length : Int)) % 65536, (l.length : Int) % 65536]) (by simp [putL]) HL.out rfl queue_len H.out.f.2 Zd.out H.out.f.1.1.1.1.1.1.2 HC.out).mono ?_); rintro en we3 ⟨rfl, hb_⟩; have n0_ := Aside0.mk (H.out.on hb_); clear H; have H := n0_; clear n0_; clear hb_))
  go_ret
  exact ⟨by first | rfl | (simp [same_refl]; done), H.out.b⟩
theorem RegsWords_2 {l : List Int} {A : Option Addr} {c : Nat} {w : World} (hr : Kd.C (Kd.int .u16) w A l.length l) (hc : l.length ≤ c) (hl : ¬ 400 < l.length) (hk : 32 ≤ l.length ∧ l.length ≤ 123) (hw : is16 l) :
    Calls Try.prog 7 #[.slice A l.length c] w fun en w' => en = .returned (.bool true) ∧ Below w.heap.size w w' := by
  have H := Aside0.mk (Hd.start w)
  have n0_ := Aside0.mk ((H.out).add (sta_C _ _ _ _) (hr))
  clear H
  have H := n0_
  clear n0_
  have d1 : decide ((l.length : Int) > 400) = false := decide_eq_false (by omega)
  have d2 : decide ((400 : Int) < (l.length : Int)) = false := decide_eq_false (by omega)
  have HT := Aside0.mk (show WriteC 16 1 (mkT l) (((2 * (l.length : Int)) % 256 :: putL l), 0) from mk_c (mkT_good hw) (show l.length ≤ 1000 by omega) (by rw [writeT hw, if_pos (by omega)]))
  have HM := Aside0.mk (show WriteC 16 0 (mkM 0 (l.length : Int) l) (putL [0, (l.length : Int)] ++ ((2 * (l.length : Int)) % 256 :: putL l), 0) from mk_c (mkM_good (by decide) (by omega) hw) (show l.length ≤ 1000 by omega) (by rw [writeM (by decide) (by omega) hw, if_pos (by unfold inB; omega)]))
  have HQ := Aside0.mk (show WriteC 16 1 (mkQ l) (([] : List Int), 1) from mk_c (mkQ_good hw) (show l.length ≤ 1000 by omega) (by rw [writeQ hw, if_neg (by omega)]))
  have e0 : decide ((l.length : Int) ≥ 1) = true := decide_eq_true (by omega)
  have e1 : decide ((1 : Int) ≤ (l.length : Int)) = true := decide_eq_true (by omega)
  have e2 : decide (1 ≤ l.length) = true := decide_eq_true (by omega)
  have e3 : decide ((l.length : Int) ≤ 125) = true := decide_eq_true (by omega)
  have e4 : decide ((l.length : Int) ≤ 123) = true := decide_eq_true (by omega)
  have e5 : decide ((l.length : Int) ≤ 31) = false := decide_eq_false (by omega)
  have e6 : decide (l.length ≤ 125) = true := decide_eq_true (by omega)
  have e7 : decide (l.length ≤ 123) = true := decide_eq_true (by omega)
  have e8 : decide (l.length ≤ 31) = false := decide_eq_false (by omega)
  have e9 : decide (0 < l.length) = true := decide_eq_true (by omega)
  have u1 : IntKind.u16.wrap (l.length : Int) = (l.length : Int) := by rw [IntKind.wrap_u16]; omega
  have v0 : wrap64 (2 * (l.length : Int)) = 2 * (l.length : Int) := wrap64_id (by omega) (by omega)
  have v1 : wrap64 (1 + 2 * (l.length : Int)) = 1 + 2 * (l.length : Int) := wrap64_id (by omega) (by omega)
  have v2 : wrap64 (5 + 2 * (l.length : Int)) = 5 + 2 * (l.length : Int) := wrap64_id (by omega) (by omega)
  have v3 : wrap64 (4 + 2 * (l.length : Int)) = 4 + 2 * (l.length : Int) := wrap64_id (by omega) (by omega)
  have HW := Aside0.mk hw
  have HC := Aside0.mk hc
  have HLN := Aside0.mk (show 0 ≤ (l.length : Int) ∧ (l.length : Int) < 65536 by omega)
  have HL := Aside0.mk (show l.length ≤ 1000 by omega)
  clear hr hw hc hl hk
  go_enter Try.func7, Try.ntmps7
  go_upto_region 5 with (first | (go_at_call 11; (with_reducible refine (awake_any _).mono ?_); rintro en wa ⟨rfl, hb_⟩; have n0_ := Aside0.mk (H.out.on hb_); clear H; have H := n0_; clear n0_; clear hb_))
  go_upto_region 6 with (first | ((with_reducible refine gate_dst (N := 20) rfl ?_); (try (refine gate_guard (by rfl) ?_; dsimp only)); refine ev_build ((zeroC.setIfInBounds 0 (.int .u8 3)).setIfInBounds 12 (.slice A l.length c)) rfl (by first | (go_simp; done) | (go_simp; rfl)) ?_; intro cm hcx_; have mx_ := (show IsMsg _ ((zeroC.setIfInBounds 0 (.int .u8 3)).setIfInBounds 12 (.slice A l.length c)) (mkT l) from mkT_is HW.out H.out.f.2 HC.out); rw [← hcx_] at mx_; have n0_ := Aside0.mk ((H.out).add (sta_msg _ _) (mx_)); clear H; have H := n0_; clear n0_; clear hcx_ mx_) | (go_at_call 16; (with_reducible refine (WriteC.n HT.out (n := 1 + 2 * l.length) told_len_ H.out.f.2).mono ?_); rintro en wa1 ⟨Aa, ca, rfl, hz_, hr_, hb_⟩; have n0_ := Aside0.mk ((H.out.on hb_).add (sta_C _ _ _ _) (hr_)); clear H; have H := n0_; clear n0_; have Za := Aside0.mk hz_; clear hb_ hr_ hz_))
  go_upto_region 7 with (first | ((with_reducible refine gate_dst (N := 28) rfl ?_); (try (refine gate_guard (by rfl) ?_; dsimp only)); refine ev_build (((zeroC.setIfInBounds 0 (.int .u8 16)).setIfInBounds 3 (.int .u16 (l.length : Int))).setIfInBounds 12 (.slice A l.length c)) rfl (by first | (go_simp; done) | (go_simp; rfl)) ?_; intro cn hcx_; have mx_ := (show IsMsg _ (((zeroC.setIfInBounds 0 (.int .u8 16)).setIfInBounds 3 (.int .u16 (l.length : Int))).setIfInBounds 12 (.slice A l.length c)) (mkM 0 (l.length : Int) l) from mkN_is HLN.out HW.out H.out.f.1.1.2 HC.out); rw [← hcx_] at mx_; have n0_ := Aside0.mk ((H.out).add (sta_msg _ _) (mx_)); clear H; have H := n0_; clear n0_; clear hcx_ mx_) | (go_at_call 16; (with_reducible refine (WriteC.n HM.out (n := 5 + 2 * l.length) many_len H.out.f.2).mono ?_); rintro en wb1 ⟨Ab, cb, rfl, hz_, hr_, hb_⟩; have n0_ := Aside0.mk ((H.out.on hb_).add (sta_C _ _ _ _) (hr_)); clear H; have H := n0_; clear n0_; have Zb := Aside0.mk hz_; clear hb_ hr_ hz_))
  go_upto_region 8 with (first | ((with_reducible refine gate_dst (N := 34) rfl ?_); (try (refine gate_guard (by rfl) ?_; dsimp only)); refine ev_build ((zeroC.setIfInBounds 0 (.int .u8 24)).setIfInBounds 12 (.slice A l.length c)) rfl (by first | (go_simp; done) | (go_simp; rfl)) ?_; intro cg hcx_; have mx_ := (show IsMsg _ ((zeroC.setIfInBounds 0 (.int .u8 24)).setIfInBounds 12 (.slice A l.length c)) (mkQ l) from mkQ_is HW.out H.out.f.1.1.1.1.2 HC.out); rw [← hcx_] at mx_; have n0_ := Aside0.mk ((H.out).add (sta_msg _ _) (mx_)); clear H; have H := n0_; clear n0_; clear hcx_ mx_) | (go_at_call 16; (with_reducible refine (WriteC.n HQ.out (n := 0) rfl H.out.f.2).mono ?_); rintro en wd1 ⟨Ad, cd, rfl, hz_, hr_, hb_⟩; have n0_ := Aside0.mk ((H.out.on hb_).add (sta_C _ _ _ _) (hr_)); clear H; have H := n0_; clear n0_; have Zd := Aside0.mk hz_; clear hb_ hr_ hz_))
  go_upto_region 10 with (fail)
  go_wp2_with (first | (go_at_call 19; (with_reducible refine (ends_c HW.out (p := [(2 * (l.length : Int)) % 256]) (by simp) HL.out told_app told_len_ H.out.f.1.1.1.1.2 Za.out H.out.f.1.1.1.1.1.1.2 HC.out).mono ?_); rintro en we1 ⟨rfl, hb_⟩; have n0_ := Aside0.mk (H.out.on hb_); clear H; have H := n0_; clear n0_; clear hb_) | (go_at_call 19; (with_reducible refine (ends_c HW.out (p := putL [0, (l.length : Int)] ++ [(2 * (l.length : Int)) % 256]) (by simp [putL]) HL.out many_app many_len H.out.f.1.1.2 Zb.out H.out.f.1.1.1.1.1.1.2 HC.out).mono ?_); rintro en we2 ⟨rfl, hb_⟩; have n0_ := Aside0.mk (H.out.on hb_); clear H; have H := n0_; clear n0_; clear hb_))
  go_ret
  exact ⟨by first | rfl | (simp [same_refl]; done), H.out.b⟩
theorem RegsWords_3 {l : List Int} {A : Option Addr} {c : Nat} {w : World} (hr : Kd.C (Kd.int .u16) w A l.length l) (hc : l.length ≤ c) (hl : ¬ 400 < l.length) (hk : 124 ≤ l.length ∧ l.length ≤ 125) (hw : is16 l) :
    Calls Try.prog 7 #[.slice A l.length c] w fun en w' => en = .returned (.bool true) ∧ Below w.heap.size w w' := by
  have H := Aside0.mk (Hd.start w)
  have n0_ := Aside0.mk ((H.out).add (sta_C _ _ _ _) (hr))
  clear H
  have H := n0_
  clear n0_
  have d1 : decide ((l.length : Int) > 400) = false := decide_eq_false (by omega)
  have d2 : decide ((400 : Int) < (l.length : Int)) = false := decide_eq_false (by omega)
  have HT := Aside0.mk (show WriteC 16 1 (mkT l) (((2 * (l.length : Int)) % 256 :: putL l), 0) from mk_c (mkT_good hw) (show l.length ≤ 1000 by omega) (by rw [writeT hw, if_pos (by omega)]))
  have HM := Aside0.mk (show WriteC 16 0 (mkM 0 (l.length : Int) l) (([] : List Int), 1) from mk_c (mkM_good (by decide) (by omega) hw) (show l.length ≤ 1000 by omega) (by rw [writeM (by decide) (by omega) hw, if_neg (by unfold inB; omega)]))
  have HQ := Aside0.mk (show WriteC 16 1 (mkQ l) (([] : List Int), 1) from mk_c (mkQ_good hw) (show l.length ≤ 1000 by omega) (by rw [writeQ hw, if_neg (by omega)]))
  have e0 : decide ((l.length : Int) ≥ 1) = true := decide_eq_true (by omega)
  have e1 : decide ((1 : Int) ≤ (l.length : Int)) = true := decide_eq_true (by omega)
  have e2 : decide (1 ≤ l.length) = true := decide_eq_true (by omega)
  have e3 : decide ((l.length : Int) ≤ 125) = true := decide_eq_true (by omega)
  have e4 : decide ((l.length : Int) ≤ 123) = false := decide_eq_false (by omega)
  have e5 : decide ((l.length : Int) ≤ 31) = false := decide_eq_false (by omega)
  have e6 : decide (l.length ≤ 125) = true := decide_eq_true (by omega)
  have e7 : decide (l.length ≤ 123) = false := decide_eq_false (by omega)
  have e8 : decide (l.length ≤ 31) = false := decide_eq_false (by omega)
  have e9 : decide (0 < l.length) = true := decide_eq_true (by omega)
  have u1 : IntKind.u16.wrap (l.length : Int) = (l.length : Int) := by rw [IntKind.wrap_u16]; omega
  have v0 : wrap64 (2 * (l.length : Int)) = 2 * (l.length : Int) := wrap64_id (by omega) (by omega)
  have v1 : wrap64 (1 + 2 * (l.length : Int)) = 1 + 2 * (l.length : Int) := wrap64_id (by omega) (by omega)
  have v2 : wrap64 (5 + 2 * (l.length : Int)) = 5 + 2 * (l.length : Int) := wrap64_id (by omega) (by omega)
  have v3 : wrap64 (4 + 2 * (l.length : Int)) = 4 + 2 * (l.length : Int) := wrap64_id (by omega) (by omega)
  have HW := Aside0.mk hw
  have HC := Aside0.mk hc
  have HLN := Aside0.mk (show 0 ≤ (l.length : Int) ∧ (l.length : Int) < 65536 by omega)
  have HL := Aside0.mk (show l.length ≤ 1000 by omega)
  clear hr hw hc hl hk
  go_enter Try.func7, Try.ntmps7
  go_upto_region 5 with (first | (go_at_call 11; (with_reducible refine (awake_any _).mono ?_); rintro en wa ⟨rfl, hb_⟩; have n0_ := Aside0.mk (H.out.on hb_); clear H; have H := n0_; clear n0_; clear hb_))
  go_upto_region 6 with (first | ((with_reducible refine gate_dst (N := 20) rfl ?_); (try (refine gate_guard (by rfl) ?_; dsimp only)); refine ev_build ((zeroC.setIfInBounds 0 (.int .u8 3)).setIfInBounds 12 (.slice A l.length c)) rfl (by first | (go_simp; done) | (go_simp; rfl)) ?_; intro cm hcx_; have mx_ := (show IsMsg _ ((zeroC.setIfInBounds 0 (.int .u8 3)).setIfInBounds 12 (.slice A l.length c)) (mkT l) from mkT_is HW.out H.out.f.2 HC.out); rw [← hcx_] at mx_; have n0_ := Aside0.mk ((H.out).add (sta_msg _ _) (mx_)); clear H; have H := n0_; clear n0_; clear hcx_ mx_) | (go_at_call 16; (with_reducible refine (WriteC.n HT.out (n := 1 + 2 * l.length) told_len_ H.out.f.2).mono ?_); rintro en wa1 ⟨Aa, ca, rfl, hz_, hr_, hb_⟩; have n0_ := Aside0.mk ((H.out.on hb_).add (sta_C _ _ _ _) (hr_)); clear H; have H := n0_; clear n0_; have Za := Aside0.mk hz_; clear hb_ hr_ hz_))
  go_upto_region 7 with (first | ((with_reducible refine gate_dst (N := 28) rfl ?_); (try (refine gate_guard (by rfl) ?_; dsimp only)); refine ev_build (((zeroC.setIfInBounds 0 (.int .u8 16)).setIfInBounds 3 (.int .u16 (l.length : Int))).setIfInBounds 12 (.slice A l.length c)) rfl (by first | (go_simp; done) | (go_simp; rfl)) ?_; intro cn hcx_; have mx_ := (show IsMsg _ (((zeroC.setIfInBounds 0 (.int .u8 16)).setIfInBounds 3 (.int .u16 (l.length : Int))).setIfInBounds 12 (.slice A l.length c)) (mkM 0 (l.length : Int) l) from mkN_is HLN.out HW.out H.out.f.1.1.2 HC.out); rw [← hcx_] at mx_; have n0_ := Aside0.mk ((H.out).add (sta_msg _ _) (mx_)); clear H; have H := n0_; clear n0_; clear hcx_ mx_) | (go_at_call 16; (with_reducible refine (WriteC.n HM.out (n := 0) rfl H.out.f.2).mono ?_); rintro en wb1 ⟨Ab, cb, rfl, hz_, hr_, hb_⟩; have n0_ := Aside0.mk ((H.out.on hb_).add (sta_C _ _ _ _) (hr_)); clear H; have H := n0_; clear n0_; have Zb := Aside0.mk hz_; clear hb_ hr_ hz_))
  go_upto_region 8 with (first | ((with_reducible refine gate_dst (N := 34) rfl ?_); (try (refine gate_guard (by rfl) ?_; dsimp only)); refine ev_build ((zeroC.setIfInBounds 0 (.int .u8 24)).setIfInBounds 12 (.slice A l.length c)) rfl (by first | (go_simp; done) | (go_simp; rfl)) ?_; intro cg hcx_; have mx_ := (show IsMsg _ ((zeroC.setIfInBounds 0 (.int .u8 24)).setIfInBounds 12 (.slice A l.length c)) (mkQ l) from mkQ_is HW.out H.out.f.1.1.1.1.2 HC.out); rw [← hcx_] at mx_; have n0_ := Aside0.mk ((H.out).add (sta_msg _ _) (mx_)); clear H; have H := n0_; clear n0_; clear hcx_ mx_) | (go_at_call 16; (with_reducible refine (WriteC.n HQ.out (n := 0) rfl H.out.f.2).mono ?_); rintro en wd1 ⟨Ad, cd, rfl, hz_, hr_, hb_⟩; have n0_ := Aside0.mk ((H.out.on hb_).add (sta_C _ _ _ _) (hr_)); clear H; have H := n0_; clear n0_; have Zd := Aside0.mk hz_; clear hb_ hr_ hz_))
  go_upto_region 10 with (fail)
  go_wp2_with (first | (go_at_call 19; (with_reducible refine (ends_c HW.out (p := [(2 * (l.length : Int)) % 256]) (by simp) HL.out told_app told_len_ H.out.f.1.1.1.1.2 Za.out H.out.f.1.1.1.1.1.1.2 HC.out).mono ?_); rintro en we1 ⟨rfl, hb_⟩; have n0_ := Aside0.mk (H.out.on hb_); clear H; have H := n0_; clear n0_; clear hb_))
  go_ret
  exact ⟨by first | rfl | (simp [same_refl]; done), H.out.b⟩
theorem RegsWords_4 {l : List Int} {A : Option Addr} {c : Nat} {w : World} (hr : Kd.C (Kd.int .u16) w A l.length l) (hc : l.length ≤ c) (hl : ¬ 400 < l.length) (hk : 126 ≤ l.length) (hw : is16 l) :
    Calls Try.prog 7 #[.slice A l.length c] w fun en w' => en = .returned (.bool true) ∧ Below w.heap.size w w' := by
  have H := Aside0.mk (Hd.start w)
  have n0_ := Aside0.mk ((H.out).add (sta_C _ _ _ _) (hr))
  clear H
  have H := n0_
  clear n0_
  have d1 : decide ((l.length : Int) > 400) = false := decide_eq_false (by omega)
  have d2 : decide ((400 : Int) < (l.length : Int)) = false := decide_eq_false (by omega)
  have HT := Aside0.mk (show WriteC 16 1 (mkT l) (([] : List Int), 1) from mk_c (mkT_good hw) (show l.length ≤ 1000 by omega) (by rw [writeT hw, if_neg (by omega)]))
  have HM := Aside0.mk (show WriteC 16 0 (mkM 0 (l.length : Int) l) (([] : List Int), 1) from mk_c (mkM_good (by decide) (by omega) hw) (show l.length ≤ 1000 by omega) (by rw [writeM (by decide) (by omega) hw, if_neg (by unfold inB; omega)]))
  have HQ := Aside0.mk (show WriteC 16 1 (mkQ l) (([] : List Int), 1) from mk_c (mkQ_good hw) (show l.length ≤ 1000 by omega) (by rw [writeQ hw, if_neg (by omega)]))
  have e0 : decide ((l.length : Int) ≥ 1) = true := decide_eq_true (by omega)
  have e1 : decide ((1 : Int) ≤ (l.length : Int)) = true := decide_eq_true (by omega)
  have e2 : decide (1 ≤ l.length) = true := decide_eq_true (by omega)
  have e3 : decide ((l.length : Int) ≤ 125) = false := decide_eq_false (by omega)
  have e4 : decide ((l.length : Int) ≤ 123) = false := decide_eq_false (by omega)
  have e5 : decide ((l.length : Int) ≤ 31) = false := decide_eq_false (by omega)
  have e6 : decide (l.length ≤ 125) = false := decide_eq_false (by omega)
  have e7 : decide (l.length ≤ 123) = false := decide_eq_false (by omega)
  have e8 : decide (l.length ≤ 31) = false := decide_eq_false (by omega)
  have e9 : decide (0 < l.length) = true := decide_eq_true (by omega)
  have u1 : IntKind.u16.wrap (l.length : Int) = (l.length : Int) := by rw [IntKind.wrap_u16]; omega
  have v0 : wrap64 (2 * (l.length : Int)) = 2 * (l.length : Int) := wrap64_id (by omega) (by omega)
  have v1 : wrap64 (1 + 2 * (l.length : Int)) = 1 + 2 * (l.length : Int) := wrap64_id (by omega) (by omega)
  have v2 : wrap64 (5 + 2 * (l.length : Int)) = 5 + 2 * (l.length : Int) := wrap64_id (by omega) (by omega)
  have v3 : wrap64 (4 + 2 * (l.length : Int)) = 4 + 2 * (l.length : Int) := wrap64_id (by omega) (by omega)
  have HW := Aside0.mk hw
  have HC := Aside0.mk hc
  have HLN := Aside0.mk (show 0 ≤ (l.length : Int) ∧ (l.length : Int) < 65536 by omega)
  have HL := Aside0.mk (show l.length ≤ 1000 by omega)
  clear hr hw hc hl hk
  go_enter Try.func7, Try.ntmps7
  go_upto_region 5 with (first | (go_at_call 11; (with_reducible refine (awake_any _).mono ?_); rintro en wa ⟨rfl, hb_⟩; have n0_ := Aside0.mk (H.out.on hb_); clear H; have H := n0_; clear n0_; clear hb_))
  go_upto_region 6 with (first | ((with_reducible refine gate_dst (N := 20) rfl ?_); (try (refine gate_guard (by rfl) ?_; dsimp only)); refine ev_build ((zeroC.setIfInBounds 0 (.int .u8 3)).setIfInBounds 12 (.slice A l.length c)) rfl (by first | (go_simp; done) | (go_simp; rfl)) ?_; intro cm hcx_; have mx_ := (show IsMsg _ ((zeroC.setIfInBounds 0 (.int .u8 3)).setIfInBounds 12 (.slice A l.length c)) (mkT l) from mkT_is HW.out H.out.f.2 HC.out); rw [← hcx_] at mx_; have n0_ := Aside0.mk ((H.out).add (sta_msg _ _) (mx_)); clear H; have H := n0_; clear n0_; clear hcx_ mx_) | (go_at_call 16; (with_reducible refine (WriteC.n HT.out (n := 0) rfl H.out.f.2).mono ?_); rintro en wa1 ⟨Aa, ca, rfl, hz_, hr_, hb_⟩; have n0_ := Aside0.mk ((H.out.on hb_).add (sta_C _ _ _ _) (hr_)); clear H; have H := n0_; clear n0_; have Za := Aside0.mk hz_; clear hb_ hr_ hz_))
  go_upto_region 7 with (first | ((with_reducible refine gate_dst (N := 28) rfl ?_); (try (refine gate_guard (by rfl) ?_; dsimp only)); refine ev_build (((zeroC.setIfInBounds 0 (.int .u8 16)).setIfInBounds 3 (.int .u16 (l.length : Int))).setIfInBounds 12 (.slice A l.length c)) rfl (by first | (go_simp; done) | (go_simp; rfl)) ?_; intro cn hcx_; have mx_ := (show IsMsg _ (((zeroC.setIfInBounds 0 (.int .u8 16)).setIfInBounds 3 (.int .u16 (l.length : Int))).setIfInBounds 12 (.slice A l.length c)) (mkM 0 (l.length : Int) l) from mkN_is HLN.out HW.out H.out.f.1.1.2 HC.out); rw [← hcx_] at mx_; have n0_ := Aside0.mk ((H.out).add (sta_msg _ _) (mx_)); clear H; have H := n0_; clear n0_; clear hcx_ mx_) | (go_at_call 16; (with_reducible refine (WriteC.n HM.out (n := 0) rfl H.out.f.2).mono ?_); rintro en wb1 ⟨Ab, cb, rfl, hz_, hr_, hb_⟩; have n0_ := Aside0.mk ((H.out.on hb_).add (sta_C _ _ _ _) (hr_)); clear H; have H := n0_; clear n0_; have Zb := Aside0.mk hz_; clear hb_ hr_ hz_))
  go_upto_region 8 with (first | ((with_reducible refine gate_dst (N := 34) rfl ?_); (try (refine gate_guard (by rfl) ?_; dsimp only)); refine ev_build ((zeroC.setIfInBounds 0 (.int .u8 24)).setIfInBounds 12 (.slice A l.length c)) rfl (by first | (go_simp; done) | (go_simp; rfl)) ?_; intro cg hcx_; have mx_ := (show IsMsg _ ((zeroC.setIfInBounds 0 (.int .u8 24)).setIfInBounds 12 (.slice A l.length c)) (mkQ l) from mkQ_is HW.out H.out.f.1.1.1.1.2 HC.out); rw [← hcx_] at mx_; have n0_ := Aside0.mk ((H.out).add (sta_msg _ _) (mx_)); clear H; have H := n0_; clear n0_; clear hcx_ mx_) | (go_at_call 16; (with_reducible refine (WriteC.n HQ.out (n := 0) rfl H.out.f.2).mono ?_); rintro en wd1 ⟨Ad, cd, rfl, hz_, hr_, hb_⟩; have n0_ := Aside0.mk ((H.out.on hb_).add (sta_C _ _ _ _) (hr_)); clear H; have H := n0_; clear n0_; have Zd := Aside0.mk hz_; clear hb_ hr_ hz_))
  go_upto_region 10 with (fail)
  go_wp2
  go_ret
  exact ⟨by first | rfl | (simp [same_refl]; done), H.out.b⟩
theorem busbarlaw09_RegsWords (A : Option Addr) (c : Nat) (l : List Int) (w : World) (hr : Kd.C (Kd.int .u16) w A l.length l) (hc : l.length ≤ c) {p : Prop} (_ : p) (hw : ∀ x ∈ l, (Lit.int .u16 x).wf = true) :
    Calls Try.prog 7 #[.slice A l.length c] w fun en w' => en = .returned (.bool true) ∧ Below w.heap.size w w' := by
  by_cases hl : 400 < l.length
  · exact RegsWords_long hr hc hl
  have hw : is16 l := fun x hx => u16_wf (hw x hx)
  by_cases h0 : l.length = 0
  · exact RegsWords_0 hr hc hl h0 hw
  by_cases h1 : l.length ≤ 31
  · exact RegsWords_1 hr hc hl (by omega) hw
  by_cases h2 : l.length ≤ 123
  · exact RegsWords_2 hr hc hl (by omega) hw
  by_cases h3 : l.length ≤ 125
  · exact RegsWords_3 hr hc hl (by omega) hw
  · exact RegsWords_4 hr hc hl (by omega) hw
end Go.Proofs.Ytmglilncdffbkaa.Laws
end
