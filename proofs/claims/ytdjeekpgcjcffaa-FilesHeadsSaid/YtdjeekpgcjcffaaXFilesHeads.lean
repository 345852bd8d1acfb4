/- The law FilesHeads: its walk, and the plain law. Conditions: what each theorem states. -/
import Derived.Test.YtdjeekpgcjcffaaMD
set_option linter.unusedVariables false
set_option linter.unusedSimpArgs false
set_option maxHeartbeats 16000000
set_option maxRecDepth 100000
section
namespace Go.Proofs.Ytdjeekpgcjcffaa.Laws
open Go.RowKit Go.Proofs.Ytdjeekpgcjcffaa.P Go.Proofs.Ytdjeekpgcjcffaa.E Go.Proofs.Ytdjeekpgcjcffaa.Cur Go.Proofs.Ytdjeekpgcjcffaa.Cu Go.Proofs.Ytdjeekpgcjcffaa.Same Go.Proofs.Ytdjeekpgcjcffaa.Put Go.Proofs.Ytdjeekpgcjcffaa.Com Go.Proofs.Ytdjeekpgcjcffaa.Fil Go.Proofs.YtdjeekpgcjcffaaW.PrintWords Go.Proofs.YtdjeekpgcjcffaaW.PrintLast Go.Proofs.YtdjeekpgcjcffaaW.PrintMore
theorem heads_yes {f r c : Int} (hf : 0 ≤ f ∧ f < 65536) (hr : 0 ≤ r ∧ r < 65536) (hc : 0 ≤ c ∧ c < 65536) (hk : f ≠ 0 ∧ r ≤ 9999 ∧ c ≠ 0 ∧ c ≤ 121) : write 0 (mkF 20 [⟨f, r, c, []⟩]) = ([7, 6, f / 256 % 256, f % 256, r / 256 % 256, r % 256, 0, c], 0) := by
  rw [write_yes (mkF_good (by decide) (good1 (good_h hf hr hc))) (heads_may.2 hk)]
  have e : lay 0 (mkF 20 [⟨f, r, c, []⟩]) = [7, 6, f / 256 % 256, f % 256, r / 256 % 256, r % 256, c / 256 % 256, c % 256] := rfl
  rw [e, show c / 256 % 256 = 0 by omega, show c % 256 = c by omega]
theorem heads_no {f r c : Int} (hf : 0 ≤ f ∧ f < 65536) (hr : 0 ≤ r ∧ r < 65536) (hc : 0 ≤ c ∧ c < 65536) (hk : ¬ (f ≠ 0 ∧ r ≤ 9999 ∧ c ≠ 0 ∧ c ≤ 121)) : write 0 (mkF 20 [⟨f, r, c, []⟩]) = ([], 1) := by
  by_cases h : (write 0 (mkF 20 [⟨f, r, c, []⟩])).2 = 0
  · exact absurd (heads_may.1 (write_ok (mkF_good (by decide) (good1 (good_h hf hr hc))) h)) hk
  · exact writeR_no h
theorem Heads_0 {file record count : Int} {w : World} (hf : 0 ≤ file ∧ file < 65536) (hr : 0 ≤ record ∧ record < 65536) (hc : 0 ≤ count ∧ count < 65536) (hk : ¬ (file ≠ 0 ∧ record ≤ 9999 ∧ count ≠ 0 ∧ count ≤ 121)) :
    Calls Try.prog 8 #[.int .u16 file, .int .u16 record, .int .u16 count] w fun en w' => en = .returned (.bool true) ∧ Below w.heap.size w w' := by
  have H := Aside0.mk (Hd.start w)
  have HF := Aside0.mk hf
  have HR := Aside0.mk hr
  have HC := Aside0.mk hc
  have GX := Aside0.mk (good_h hf hr hc)
  have hf' := hf; have hr' := hr; have hc' := hc
  obtain ⟨f0, f1⟩ := id hf
  obtain ⟨r0, r1⟩ := id hr
  obtain ⟨c0, c1⟩ := id hc
  have HK := Aside0.mk hk
  have HW := Aside0.mk (show WriteC 16 0 (mkF 20 [⟨file, record, count, []⟩]) ([], 1) from mk_c (R := _) (by simp [lay, flat, partL, mkF, isTold, putL]) (by simp [mkF]) (heads_no hf' hr' hc' hk))
  clear hk
  clear hf hr hc hf' hr' hc'
  go_enter Try.func8, Try.ntmps8
  go_upto_region 2 with (first | (go_at_call 11; (with_reducible refine (AwakeC.c awake_c _).mono ?_); rintro en wa ⟨rfl, hb_⟩; have n0_ := Aside0.mk (H.out.on hb_); clear H; have H := n0_; clear n0_; clear hb_))
  go_upto_region 3 with (first | ((with_reducible refine gate_dst (N := 16) rfl ?_); (try (refine gate_guard (by rfl) ?_; dsimp only)); refine ev_rec1 (⟨file, record, count, []⟩) none 0 rfl (by first | (go_simp; done) | (go_simp; rfl)) (Nat.le_refl _) (Kd.C_nil _ _) ?_; intro Ar cr wr hr_ hz_ hb_; have Zr := Aside0.mk hz_; have n0_ := Aside0.mk ((H.out.on hb_).add (sta_R _ _ _) (hr_)); clear H; have H := n0_; clear n0_; clear hr_ hz_ hb_) | ((with_reducible refine gate_dst (N := 17) rfl ?_); (try (refine gate_guard (by rfl) ?_; dsimp only)); refine ev_build ((codeC 20).setIfInBounds 15 (.slice Ar 1 cr)) rfl (by first | (go_simp; done) | (go_simp; rfl)) ?_; intro cz hcx_; have mx_ := (show IsMsg _ ((codeC 20).setIfInBounds 15 (.slice Ar 1 cr)) (mkF 20 [⟨file, record, count, []⟩]) from (mkF_is (code := 20) (l := [⟨file, record, count, []⟩]) (by decide) (n := cr) Zr.out (good1 GX.out) (H.out.f.2))); rw [← hcx_] at mx_; have n0_ := Aside0.mk ((H.out).add (sta_msg _ _) (mx_)); clear H; have H := n0_; clear n0_; clear hcx_ mx_) | (go_at_call 16; (with_reducible refine (WriteC.n HW.out (n := 0) rfl H.out.f.2).mono ?_); rintro en wb ⟨Ab, cb, rfl, hz_, hr_, hb_⟩; have n0_ := Aside0.mk ((H.out.on hb_).add (sta_C _ _ _ _) (hr_)); clear H; have H := n0_; clear n0_; have Zb := Aside0.mk hz_; clear hb_ hr_ hz_))
  go_wp2
  all_goals go_ret
  all_goals (refine ⟨?_, H.out.b⟩; first | rfl | (congr 2; have := HK.out; simp; omega))
theorem Heads_1 {file record count : Int} {w : World} (hf : 0 ≤ file ∧ file < 65536) (hr : 0 ≤ record ∧ record < 65536) (hc : 0 ≤ count ∧ count < 65536) (hk : (file ≠ 0 ∧ record ≤ 9999 ∧ count ≠ 0 ∧ count ≤ 121)) :
    Calls Try.prog 8 #[.int .u16 file, .int .u16 record, .int .u16 count] w fun en w' => en = .returned (.bool true) ∧ Below w.heap.size w w' := by
  have H := Aside0.mk (Hd.start w)
  have HF := Aside0.mk hf
  have HR := Aside0.mk hr
  have HC := Aside0.mk hc
  have GX := Aside0.mk (good_h hf hr hc)
  have hf' := hf; have hr' := hr; have hc' := hc
  obtain ⟨f0, f1⟩ := id hf
  obtain ⟨r0, r1⟩ := id hr
  obtain ⟨c0, c1⟩ := id hc
  obtain ⟨k0, k1, k2, k3⟩ := hk
  have HW := Aside0.mk (show WriteC 16 0 (mkF 20 [⟨file, record, count, []⟩]) ([7, 6, file / 256 % 256, file % 256, record / 256 % 256, record % 256, 0, count], 0) from mk_c (R := _) (by simp [lay, flat, partL, mkF, isTold, putL]) (by simp [mkF]) (heads_yes hf' hr' hc' ⟨k0, k1, k2, k3⟩))
  clear hf hr hc hf' hr' hc'
  go_enter Try.func8, Try.ntmps8
  go_upto_region 2 with (first | (go_at_call 11; (with_reducible refine (AwakeC.c awake_c _).mono ?_); rintro en wa ⟨rfl, hb_⟩; have n0_ := Aside0.mk (H.out.on hb_); clear H; have H := n0_; clear n0_; clear hb_))
  go_upto_region 3 with (first | ((with_reducible refine gate_dst (N := 16) rfl ?_); (try (refine gate_guard (by rfl) ?_; dsimp only)); refine ev_rec1 (⟨file, record, count, []⟩) none 0 rfl (by first | (go_simp; done) | (go_simp; rfl)) (Nat.le_refl _) (Kd.C_nil _ _) ?_; intro Ar cr wr hr_ hz_ hb_; have Zr := Aside0.mk hz_; have n0_ := Aside0.mk ((H.out.on hb_).add (sta_R _ _ _) (hr_)); clear H; have H := n0_; clear n0_; clear hr_ hz_ hb_) | ((with_reducible refine gate_dst (N := 17) rfl ?_); (try (refine gate_guard (by rfl) ?_; dsimp only)); refine ev_build ((codeC 20).setIfInBounds 15 (.slice Ar 1 cr)) rfl (by first | (go_simp; done) | (go_simp; rfl)) ?_; intro cz hcx_; have mx_ := (show IsMsg _ ((codeC 20).setIfInBounds 15 (.slice Ar 1 cr)) (mkF 20 [⟨file, record, count, []⟩]) from (mkF_is (code := 20) (l := [⟨file, record, count, []⟩]) (by decide) (n := cr) Zr.out (good1 GX.out) (H.out.f.2))); rw [← hcx_] at mx_; have n0_ := Aside0.mk ((H.out).add (sta_msg _ _) (mx_)); clear H; have H := n0_; clear n0_; clear hcx_ mx_) | (go_at_call 16; (with_reducible refine (WriteC.n HW.out (n := 8) rfl H.out.f.2).mono ?_); rintro en wb ⟨Ab, cb, rfl, hz_, hr_, hb_⟩; have n0_ := Aside0.mk ((H.out.on hb_).add (sta_C _ _ _ _) (hr_)); clear H; have H := n0_; clear n0_; have Zb := Aside0.mk hz_; clear hb_ hr_ hz_))
  go_upto_region 5 with (fail)
  have g0 : (0 : Int) < file := by omega
  have g2 : (1 : Int) ≤ count := by omega
  have q1file : Int.tdiv file 256 = file / 256 := tdiv_id (by omega)
  have q2file : Int.tmod file 256 = file % 256 := tmod_id (by omega)
  have q3file : IntKind.u16.wrap (file / 256) = file / 256 := by rw [IntKind.wrap_u16]; omega
  have q5file : IntKind.u8.wrap (file / 256) = file / 256 % 256 := by rw [IntKind.wrap_u8]
  have q6file : IntKind.u8.wrap (file % 256) = file % 256 := by rw [IntKind.wrap_u8]; omega
  have q7file : IntKind.u16.wrap (file % 256) = file % 256 := by rw [IntKind.wrap_u16]; omega
  have q1record : Int.tdiv record 256 = record / 256 := tdiv_id (by omega)
  have q2record : Int.tmod record 256 = record % 256 := tmod_id (by omega)
  have q3record : IntKind.u16.wrap (record / 256) = record / 256 := by rw [IntKind.wrap_u16]; omega
  have q5record : IntKind.u8.wrap (record / 256) = record / 256 % 256 := by rw [IntKind.wrap_u8]
  have q6record : IntKind.u8.wrap (record % 256) = record % 256 := by rw [IntKind.wrap_u8]; omega
  have q7record : IntKind.u16.wrap (record % 256) = record % 256 := by rw [IntKind.wrap_u16]; omega
  have q8 : IntKind.u8.wrap count = count := by rw [IntKind.wrap_u8]; omega
  have HBY := Aside0.mk (show isBytes [7, 6, file / 256 % 256, file % 256, record / 256 % 256, record % 256, 0, count] from by intro x hx; simp only [List.mem_cons, List.not_mem_nil, or_false] at hx; rcases hx with rfl | rfl | rfl | rfl | rfl | rfl | rfl | rfl <;> omega)
  go_wp2_with (first | ((with_reducible refine gate_dst (N := 73) rfl ?_); (try (refine gate_guard (by rfl) ?_; dsimp only)); refine ev_lit .u8 [7, 6, file / 256 % 256, file % 256, record / 256 % 256, record % 256, 0, count] 5 rfl (by first | (go_simp; done) | (go_simp; rfl)) (by simp) ?_; intro Ae ce wle be he_ hr_ hz_ hb_; have Ze := Aside0.mk hz_; have Ee := Aside0.mk he_; have n0_ := Aside0.mk ((H.out.on hb_).add (sta_C _ _ _ _) (hr_)); clear H; have H := n0_; clear n0_; clear hr_ hz_ hb_ he_) | (go_at_call 18; (with_reducible refine (same_e HBY.out Ee.out (n := 8) rfl rfl H.out.f.1.2 Zb.out H.out.f.2 Ze.out).mono ?_); rintro en we1 ⟨rfl, hb_⟩; have n0_ := Aside0.mk (H.out.on hb_); clear H; have H := n0_; clear n0_; clear hb_))
  go_ret
  exact ⟨by first | rfl | (simp; done), H.out.b⟩
theorem busbarlaw11_FilesHeads (file record count : Int) (w : World) (hf : (Lit.int .u16 file).wf = true) (hr : (Lit.int .u16 record).wf = true) (hc : (Lit.int .u16 count).wf = true) :
    Calls Try.prog 8 #[.int .u16 file, .int .u16 record, .int .u16 count] w fun en w' => en = .returned (.bool true) ∧ Below w.heap.size w w' := by
  by_cases hk : file ≠ 0 ∧ record ≤ 9999 ∧ count ≠ 0 ∧ count ≤ 121
  · exact Heads_1 (u16_wf hf) (u16_wf hr) (u16_wf hc) hk
  · exact Heads_0 (u16_wf hf) (u16_wf hr) (u16_wf hc) hk
end Go.Proofs.Ytdjeekpgcjcffaa.Laws
end
