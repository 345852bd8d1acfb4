/- The law RegsOne: its walk, and the plain law. Conditions: what each theorem states. -/
import Derived.Test.YtmglilncdffbkaaME
set_option linter.unusedVariables false
set_option linter.unusedSimpArgs false
set_option maxHeartbeats 16000000
set_option maxRecDepth 100000
section
namespace Go.Proofs.Ytmglilncdffbkaa.Laws
open Go.RowKit Go.Proofs.Ytmglilncdffbkaa.P Go.Proofs.Ytmglilncdffbkaa.E Go.Proofs.Ytmglilncdffbkaa.Cur Go.Proofs.Ytmglilncdffbkaa.Cu Go.Proofs.Ytmglilncdffbkaa.Same Go.Proofs.Ytmglilncdffbkaa.Put Go.Proofs.Ytmglilncdffbkaa.Com Go.Proofs.Ytmglilncdffbkaa.Reg Go.Proofs.YtmglilncdffbkaaW.PrintWords Go.Proofs.YtmglilncdffbkaaW.PrintLast Go.Proofs.YtmglilncdffbkaaW.PrintMore
theorem at_nat {q : IntKind} {xs : List Int} {w : World} {A : Option Addr} {n : Nat} (h : (Kd.int q).C w A n xs) (i : Nat) (h1 : i < n) : ∃ ad, A = some ad ∧ w.cell? (ad.add i) = some (.int q (xs.getD i 0)) := by
  obtain ⟨ad, e, h2⟩ := Kd.at_int h (i : Int) (by omega) (by omega)
  rw [Int.toNat_natCast] at h2
  exact ⟨ad, e, h2.trans (by simp [rd])⟩
theorem some_of {W : World} {A : Option Addr} {xs : List Int} (h : Kd.C (Kd.int .u8) W A 6 xs) : ∃ ad, A = some ad := by
  obtain ⟨ad, e, _⟩ := at_nat h 0 (by decide)
  exact ⟨ad, e⟩
theorem cut4 {W : World} {A : Option Addr} {a k z : Int} (h : Kd.C (Kd.int .u8) W A 6 (putL [a, k, z])) : Kd.C (Kd.int .u8) W A 4 (putL [a, k]) := Kd.C_take (m := 4) h (show (4 : Nat) ≤ 6 by decide)
theorem at45 {W : World} {ac : Addr} {a k z : Int} (h : Kd.C (Kd.int .u8) W (some ac) 6 (putL [a, k, z])) : W.cell? ⟨ac.block, ac.off + 4, none⟩ = some (.int .u8 (z / 256 % 256)) ∧ W.cell? ⟨ac.block, ac.off + 5, none⟩ = some (.int .u8 (z % 256)) := by
  obtain ⟨ad, e, h4⟩ := at_nat h 4 (by decide)
  obtain ⟨ad2, e2, h5⟩ := at_nat h 5 (by decide)
  obtain rfl := Option.some.inj e
  obtain rfl := Option.some.inj e2
  exact ⟨h4, h5⟩
theorem RegsOne_any {addr x y : Int} {w : World} (ha : 0 ≤ addr ∧ addr < 65536) (hx : 0 ≤ x ∧ x < 65536) (hy : 0 ≤ y ∧ y < 65536) :
    Calls Try.prog 9 #[.int .u16 addr, .int .u16 x, .int .u16 y] w fun en w' => en = .returned (.bool true) ∧ Below w.heap.size w w' := by
  have H := Aside0.mk (Hd.start w)
  have HA := Aside0.mk ha
  have HX := Aside0.mk hx
  have HY := Aside0.mk hy
  have HO0 := Aside0.mk (show WriteC 16 0 (mkO addr x) (putL [addr, x], 0) from mk_c (mkO_good ha hx) (Nat.zero_le _) (writeO ha hx (.inl rfl)))
  have HK0 := Aside0.mk (show WriteC 16 0 (mkK addr x y) (putL [addr, x, y], 0) from mk_c (mkK_good ha hx hy) (Nat.zero_le _) (writeK ha hx hy (.inl rfl)))
  have HO1 := Aside0.mk (show WriteC 16 1 (mkO addr x) (putL [addr, x], 0) from mk_c (mkO_good ha hx) (Nat.zero_le _) (writeO ha hx (.inr rfl)))
  have HK1 := Aside0.mk (show WriteC 16 1 (mkK addr x y) (putL [addr, x, y], 0) from mk_c (mkK_good ha hx hy) (Nat.zero_le _) (writeK ha hx hy (.inr rfl)))
  have q1 : Int.tdiv y 256 = y / 256 := tdiv_id (by omega)
  have q2 : Int.tmod y 256 = y % 256 := tmod_id (by omega)
  have q3 : IntKind.u16.wrap (y / 256) = y / 256 := by rw [IntKind.wrap_u16]; omega
  have q5 : IntKind.u8.wrap (y / 256) = y / 256 % 256 := by rw [IntKind.wrap_u8]
  have q6 : IntKind.u8.wrap (y % 256) = y % 256 := by rw [IntKind.wrap_u8]; omega
  have q7 : IntKind.u16.wrap (y % 256) = y % 256 := by rw [IntKind.wrap_u16]; omega
  clear ha hx hy
  go_enter Try.func9, Try.ntmps9
  go_upto_region 2 with (first | (go_at_call 11; (with_reducible refine (awake_any _).mono ?_); rintro en wa ⟨rfl, hb_⟩; have n0_ := Aside0.mk (H.out.on hb_); clear H; have H := n0_; clear n0_; clear hb_))
  go_upto_region 3 with (first | ((with_reducible refine gate_dst (N := 20) rfl ?_); (try (refine gate_guard (by rfl) ?_; dsimp only)); refine ev_build (((zeroC.setIfInBounds 0 (.int .u8 6)).setIfInBounds 2 (.int .u16 addr)).setIfInBounds 4 (.int .u16 x)) rfl (by first | (go_simp; done) | (go_simp; rfl)) ?_; intro cma hcx_; have mx_ := (fun W => (by rw [hcx_]; exact ((fun W => mkO_is HA.out HX.out W)) W : IsMsg W cma (mkO addr x))); have n0_ := Aside0.mk ((H.out).add (sta_msg _ _) (mx_ _)); clear H; have H := n0_; clear n0_; clear hcx_ mx_) | (go_at_call 16; (with_reducible refine (WriteC.n HO0.out (n := 4) rfl H.out.f.2).mono ?_); rintro en wa ⟨Aa, ca, rfl, hz_, hr_, hb_⟩; have n0_ := Aside0.mk ((H.out.on hb_).add (sta_C _ _ _ _) (hr_)); clear H; have H := n0_; clear n0_; have Za := Aside0.mk hz_; clear hb_ hr_ hz_))
  go_upto_region 4 with (first | ((with_reducible refine gate_dst (N := 27) rfl ?_); (try (refine gate_guard (by rfl) ?_; dsimp only)); refine ev_build (((zeroC.setIfInBounds 0 (.int .u8 6)).setIfInBounds 2 (.int .u16 addr)).setIfInBounds 4 (.int .u16 x)) rfl (by first | (go_simp; done) | (go_simp; rfl)) ?_; intro cmb hcx_; have mx_ := (fun W => (by rw [hcx_]; exact ((fun W => mkO_is HA.out HX.out W)) W : IsMsg W cmb (mkO addr x))); have n0_ := Aside0.mk ((H.out).add (sta_msg _ _) (mx_ _)); clear H; have H := n0_; clear n0_; clear hcx_ mx_) | (go_at_call 16; (with_reducible refine (WriteC.n HO1.out (n := 4) rfl H.out.f.2).mono ?_); rintro en wb ⟨Ab, cb, rfl, hz_, hr_, hb_⟩; have n0_ := Aside0.mk ((H.out.on hb_).add (sta_C _ _ _ _) (hr_)); clear H; have H := n0_; clear n0_; have Zb := Aside0.mk hz_; clear hb_ hr_ hz_))
  go_upto_region 5 with (first | ((with_reducible refine gate_dst (N := 35) rfl ?_); (try (refine gate_guard (by rfl) ?_; dsimp only)); refine ev_build ((((zeroC.setIfInBounds 0 (.int .u8 22)).setIfInBounds 2 (.int .u16 addr)).setIfInBounds 5 (.int .u16 x)).setIfInBounds 6 (.int .u16 y)) rfl (by first | (go_simp; done) | (go_simp; rfl)) ?_; intro cmc hcx_; have mx_ := (fun W => (by rw [hcx_]; exact ((fun W => mkK_is HA.out HX.out HY.out W)) W : IsMsg W cmc (mkK addr x y))); have n0_ := Aside0.mk ((H.out).add (sta_msg _ _) (mx_ _)); clear H; have H := n0_; clear n0_; clear hcx_ mx_) | (go_at_call 16; (with_reducible refine (WriteC.n HK0.out (n := 6) rfl H.out.f.2).mono ?_); rintro en wc ⟨Ac, cc, rfl, hz_, hr_, hb_⟩; have n0_ := Aside0.mk ((H.out.on hb_).add (sta_C _ _ _ _) (hr_)); clear H; have H := n0_; clear n0_; have Zc := Aside0.mk hz_; clear hb_ hr_ hz_))
  go_upto_region 6 with (first | ((with_reducible refine gate_dst (N := 43) rfl ?_); (try (refine gate_guard (by rfl) ?_; dsimp only)); refine ev_build ((((zeroC.setIfInBounds 0 (.int .u8 22)).setIfInBounds 2 (.int .u16 addr)).setIfInBounds 5 (.int .u16 x)).setIfInBounds 6 (.int .u16 y)) rfl (by first | (go_simp; done) | (go_simp; rfl)) ?_; intro cmd hcx_; have mx_ := (fun W => (by rw [hcx_]; exact ((fun W => mkK_is HA.out HX.out HY.out W)) W : IsMsg W cmd (mkK addr x y))); have n0_ := Aside0.mk ((H.out).add (sta_msg _ _) (mx_ _)); clear H; have H := n0_; clear n0_; clear hcx_ mx_) | (go_at_call 16; (with_reducible refine (WriteC.n HK1.out (n := 6) rfl H.out.f.2).mono ?_); rintro en wd ⟨Ad, cd, rfl, hz_, hr_, hb_⟩; have n0_ := Aside0.mk ((H.out.on hb_).add (sta_C _ _ _ _) (hr_)); clear H; have H := n0_; clear n0_; have Zd := Aside0.mk hz_; clear hb_ hr_ hz_))
  obtain ⟨ac, rfl⟩ := some_of H.out.f.1.1.2
  go_upto_region 8 with (fail)
  have hq5 : (6 : Nat) ≤ cc := by have := Zc.out; omega
  have hq4 : (4 : Int) ≤ (cc : Int) := by omega
  have HQ := Aside0.mk hq5
  go_wp2_with (first | (go_at_call 18; (with_reducible refine (same_n (putL_bytes [addr, x]) (putL_bytes [addr, x]) (n := 4) (m := 4) rfl rfl H.out.f.1.1.1.1.1.1.2 Za.out H.out.f.1.1.1.1.2 Zb.out).mono ?_); rintro en we1 ⟨rfl, hb_⟩; have n0_ := Aside0.mk (H.out.on hb_); clear H; have H := n0_; clear n0_; clear hb_) | (go_at_call 18; (with_reducible refine (same_n (putL_bytes [addr, x, y]) (putL_bytes [addr, x, y]) (n := 6) (m := 6) rfl rfl H.out.f.1.1.2 Zc.out H.out.f.2 Zd.out).mono ?_); rintro en we2 ⟨rfl, hb_⟩; have n0_ := Aside0.mk (H.out.on hb_); clear H; have H := n0_; clear n0_; clear hb_) | (go_at_call 18; (with_reducible refine (same_n (putL_bytes [addr, x]) (putL_bytes [addr, x]) (n := 4) (m := 4) rfl rfl (cut4 H.out.f.1.1.2) (by have := HQ.out; omega) H.out.f.1.1.1.1.1.1.2 Za.out).mono ?_); rintro en we3 ⟨rfl, hb_⟩; have n0_ := Aside0.mk (H.out.on hb_); clear H; have H := n0_; clear n0_; clear hb_; obtain ⟨k4_, k5_⟩ := at45 H.out.f.1.1.2))
  go_ret
  exact ⟨by first | rfl | (simp [same_refl]; done), H.out.b⟩
theorem busbarlaw09_RegsOne (addr x y : Int) (w : World) (ha : (Lit.int .u16 addr).wf = true) (hx : (Lit.int .u16 x).wf = true) (hy : (Lit.int .u16 y).wf = true) :
    Calls Try.prog 9 #[.int .u16 addr, .int .u16 x, .int .u16 y] w fun en w' => en = .returned (.bool true) ∧ Below w.heap.size w w' := RegsOne_any (u16_wf ha) (u16_wf hx) (u16_wf hy)
end Go.Proofs.Ytmglilncdffbkaa.Laws
end
