/- The law MeiObjects: its walk, and the plain law. Conditions: what each theorem states. -/
import Derived.Test.YtimclbhlgblifaaMD
set_option linter.unusedVariables false
set_option linter.unusedSimpArgs false
section
namespace Go.Proofs.Ytimclbhlgblifaa.Laws
open Go.RowKit Go.Proofs.Ytimclbhlgblifaa.P Go.Proofs.Ytimclbhlgblifaa.E Go.Proofs.Ytimclbhlgblifaa.Cur Go.Proofs.Ytimclbhlgblifaa.Cu Go.Proofs.Ytimclbhlgblifaa.Same Go.Proofs.Ytimclbhlgblifaa.Code Go.Proofs.Ytimclbhlgblifaa.Com Go.Proofs.Ytimclbhlgblifaa.Mei Go.Proofs.YtimclbhlgblifaaW.PrintWords Go.Proofs.YtimclbhlgblifaaW.PrintLast Go.Proofs.YtimclbhlgblifaaW.PrintMore
theorem last_lay {kd mo nx : Int} : lay 1 (mk kd 1 mo nx []) = [14, kd, 1, mo, nx, 0] := by
  unfold lay mk
  rw [if_neg (show ¬ (14 : Int) = 13 by decide), if_neg (by decide)]
  rfl
set_option maxHeartbeats 16000000 in
set_option maxRecDepth 100000 in
theorem MeiLast_255 {next kind : Int} {w : World} (hk : 0 ≤ kind ∧ kind < 256) (hm : 0 ≤ (255 : Int) ∧ (255 : Int) < 256) (hn : 0 ≤ next ∧ next < 256) :
    Calls Try.prog 7 #[.int .u8 (255), .int .u8 next, .int .u8 kind] w fun en w' => en = .returned (.bool true) ∧ Below w.heap.size w w' := by
  have H := Aside0.mk (Hd.start w)
  obtain ⟨kd, hkd⟩ : ∃ z, z = 1 + kind % 3 := ⟨_, rfl⟩
  have KD : 1 ≤ kd ∧ kd ≤ 3 := by omega
  have ekd : 1 + kind % 3 = kd := hkd.symm
  clear hkd
  have HKD := Aside0.mk KD
  have HN := Aside0.mk hn
  have HMO := Aside0.mk hm
  have HW0 := write_c (dir := 1) (m := mk kd 1 255 next []) (by rw [last_lay]; simp) (mk_good (by omega) (by decide) hm hn)
  have hw_ : write 1 (mk kd 1 255 next []) = (lay 1 (mk kd 1 255 next []), 0) := resp_w (by omega) (by decide) (.inr rfl) (.inl (by decide)) (.inl (by omega)) (by decide) (fun o h => by cases h)
  rw [hw_] at HW0
  have HW := Aside0.mk HW0
  clear HW0 hw_ hm hn KD
  have hkb := hk.1
  clear hk
  go_enter Try.func7, Try.ntmps7
  go_upto_region 2 with (first | (go_at_call 11; (with_reducible refine (awake_any _).mono ?_); rintro en wa ⟨rfl, hb_⟩; have n0_ := Aside0.mk (H.out.on hb_); clear H; have H := n0_; clear n0_; clear hb_))
  go_upto_region 3 with (first | ((with_reducible refine gate_dst (N := 17) rfl ?_); (try (refine gate_guard (by rfl) ?_; dsimp only)); refine ev_build (((((((zeroC.setIfInBounds 0 (.int .u8 43)).setIfInBounds 16 (.int .u8 14)).setIfInBounds 17 (.int .u8 kd)).setIfInBounds 18 (.int .u8 1)).setIfInBounds 19 (.int .u8 (255))).setIfInBounds 20 (.int .u8 next))) rfl (by first | (go_simp; done) | (go_simp; rfl)) ?_; intro cm hcx_; have mx_ := (fun W => (by rw [hcx_]; exact ((fun W => mk_is (by have := HKD.out; omega) (by decide) HMO.out HN.out W)) W : IsMsg W cm (mk kd 1 255 next []))); have n0_ := Aside0.mk ((H.out).add (sta_msg _ _) (mx_ _)); clear H; have H := n0_; clear n0_; clear hcx_ mx_) | (go_at_call 16; (with_reducible refine (WriteC.n HW.out (n := 6) (by simp [last_lay]) H.out.f.2).mono ?_); rintro en wb ⟨Ab, cb, rfl, hz_, hr_, hb_⟩; have n0_ := Aside0.mk ((H.out.on hb_).add (sta_C _ _ _ _) (hr_)); clear H; have H := n0_; clear n0_; have Zb := Aside0.mk hz_; clear hb_ hr_ hz_))
  go_wp2
  go_ret
  exact ⟨by first | rfl | (simp [same_refl]; done), H.out.b⟩
set_option maxHeartbeats 16000000 in
set_option maxRecDepth 100000 in
theorem MeiLast_0z {next kind : Int} {w : World} (hk : 0 ≤ kind ∧ kind < 256) (hm : 0 ≤ (0 : Int) ∧ (0 : Int) < 256) (hn : 0 ≤ next ∧ next < 256) (hz : next = 0) :
    Calls Try.prog 7 #[.int .u8 (0), .int .u8 next, .int .u8 kind] w fun en w' => en = .returned (.bool true) ∧ Below w.heap.size w w' := by
  have H := Aside0.mk (Hd.start w)
  obtain ⟨kd, hkd⟩ : ∃ z, z = 1 + kind % 3 := ⟨_, rfl⟩
  have KD : 1 ≤ kd ∧ kd ≤ 3 := by omega
  have ekd : 1 + kind % 3 = kd := hkd.symm
  clear hkd
  have HKD := Aside0.mk KD
  have HN := Aside0.mk hn
  have HMO := Aside0.mk hm
  have HW0 := write_c (dir := 1) (m := mk kd 1 0 next []) (by rw [last_lay]; simp) (mk_good (by omega) (by decide) hm hn)
  have hw_ : write 1 (mk kd 1 0 next []) = (lay 1 (mk kd 1 0 next []), 0) := resp_w (by omega) (by decide) (.inl rfl) (.inr hz) (.inl (by omega)) (by decide) (fun o h => by cases h)
  rw [hw_] at HW0
  have HW := Aside0.mk HW0
  clear HW0 hw_ hm hn KD
  have z1 : (next == 0) = true := beq_iff_eq.2 hz
  have z1n : (next != 0) = false := by rw [bne, z1]; rfl
  have hkb := hk.1
  clear hk
  clear hz
  go_enter Try.func7, Try.ntmps7
  go_upto_region 2 with (first | (go_at_call 11; (with_reducible refine (awake_any _).mono ?_); rintro en wa ⟨rfl, hb_⟩; have n0_ := Aside0.mk (H.out.on hb_); clear H; have H := n0_; clear n0_; clear hb_))
  go_upto_region 3 with (first | ((with_reducible refine gate_dst (N := 17) rfl ?_); (try (refine gate_guard (by rfl) ?_; dsimp only)); refine ev_build (((((((zeroC.setIfInBounds 0 (.int .u8 43)).setIfInBounds 16 (.int .u8 14)).setIfInBounds 17 (.int .u8 kd)).setIfInBounds 18 (.int .u8 1)).setIfInBounds 19 (.int .u8 (0))).setIfInBounds 20 (.int .u8 next))) rfl (by first | (go_simp; done) | (go_simp; rfl)) ?_; intro cm hcx_; have mx_ := (fun W => (by rw [hcx_]; exact ((fun W => mk_is (by have := HKD.out; omega) (by decide) HMO.out HN.out W)) W : IsMsg W cm (mk kd 1 0 next []))); have n0_ := Aside0.mk ((H.out).add (sta_msg _ _) (mx_ _)); clear H; have H := n0_; clear n0_; clear hcx_ mx_) | (go_at_call 16; (with_reducible refine (WriteC.n HW.out (n := 6) (by simp [last_lay]) H.out.f.2).mono ?_); rintro en wb ⟨Ab, cb, rfl, hz_, hr_, hb_⟩; have n0_ := Aside0.mk ((H.out.on hb_).add (sta_C _ _ _ _) (hr_)); clear H; have H := n0_; clear n0_; have Zb := Aside0.mk hz_; clear hb_ hr_ hz_))
  go_wp2
  go_ret
  exact ⟨by first | rfl | (simp [same_refl]; done), H.out.b⟩
set_option maxHeartbeats 16000000 in
set_option maxRecDepth 100000 in
theorem MeiLast_0n {next kind : Int} {w : World} (hk : 0 ≤ kind ∧ kind < 256) (hm : 0 ≤ (0 : Int) ∧ (0 : Int) < 256) (hn : 0 ≤ next ∧ next < 256) (hz : next ≠ 0) :
    Calls Try.prog 7 #[.int .u8 (0), .int .u8 next, .int .u8 kind] w fun en w' => en = .returned (.bool true) ∧ Below w.heap.size w w' := by
  have H := Aside0.mk (Hd.start w)
  obtain ⟨kd, hkd⟩ : ∃ z, z = 1 + kind % 3 := ⟨_, rfl⟩
  have KD : 1 ≤ kd ∧ kd ≤ 3 := by omega
  have ekd : 1 + kind % 3 = kd := hkd.symm
  clear hkd
  have HKD := Aside0.mk KD
  have HN := Aside0.mk hn
  have HMO := Aside0.mk hm
  have HW0 := write_c (dir := 1) (m := mk kd 1 0 next []) (by rw [last_lay]; simp) (mk_good (by omega) (by decide) hm hn)
  have hw_ : write 1 (mk kd 1 0 next []) = ([], 1) := writeR_no fun h => by have := resp_bad (by decide) (lay_bytes (mk_good (by omega) (by decide) hm hn)) h; omega
  rw [hw_] at HW0
  have HW := Aside0.mk HW0
  clear HW0 hw_ hm hn KD
  have z1 : (next == 0) = false := beq_eq_false_iff_ne.2 hz
  have z1n : (next != 0) = true := by rw [bne, z1]; rfl
  have hkb := hk.1
  clear hk
  clear hz
  go_enter Try.func7, Try.ntmps7
  go_upto_region 2 with (first | (go_at_call 11; (with_reducible refine (awake_any _).mono ?_); rintro en wa ⟨rfl, hb_⟩; have n0_ := Aside0.mk (H.out.on hb_); clear H; have H := n0_; clear n0_; clear hb_))
  go_upto_region 3 with (first | ((with_reducible refine gate_dst (N := 17) rfl ?_); (try (refine gate_guard (by rfl) ?_; dsimp only)); refine ev_build (((((((zeroC.setIfInBounds 0 (.int .u8 43)).setIfInBounds 16 (.int .u8 14)).setIfInBounds 17 (.int .u8 kd)).setIfInBounds 18 (.int .u8 1)).setIfInBounds 19 (.int .u8 (0))).setIfInBounds 20 (.int .u8 next))) rfl (by first | (go_simp; done) | (go_simp; rfl)) ?_; intro cm hcx_; have mx_ := (fun W => (by rw [hcx_]; exact ((fun W => mk_is (by have := HKD.out; omega) (by decide) HMO.out HN.out W)) W : IsMsg W cm (mk kd 1 0 next []))); have n0_ := Aside0.mk ((H.out).add (sta_msg _ _) (mx_ _)); clear H; have H := n0_; clear n0_; clear hcx_ mx_) | (go_at_call 16; (with_reducible refine (WriteC.n HW.out (n := 0) rfl H.out.f.2).mono ?_); rintro en wb ⟨Ab, cb, rfl, hz_, hr_, hb_⟩; have n0_ := Aside0.mk ((H.out.on hb_).add (sta_C _ _ _ _) (hr_)); clear H; have H := n0_; clear n0_; have Zb := Aside0.mk hz_; clear hb_ hr_ hz_))
  go_wp2
  go_ret
  exact ⟨by first | rfl | (simp [same_refl]; done), H.out.b⟩
set_option maxHeartbeats 16000000 in
set_option maxRecDepth 100000 in
theorem MeiLast_more {more next kind : Int} {w : World} (hk : 0 ≤ kind ∧ kind < 256) (hm : 0 ≤ (more : Int) ∧ (more : Int) < 256) (hn : 0 ≤ next ∧ next < 256) (ho : more ≠ 0 ∧ more ≠ 255) :
    Calls Try.prog 7 #[.int .u8 (more), .int .u8 next, .int .u8 kind] w fun en w' => en = .returned (.bool true) ∧ Below w.heap.size w w' := by
  have H := Aside0.mk (Hd.start w)
  obtain ⟨kd, hkd⟩ : ∃ z, z = 1 + kind % 3 := ⟨_, rfl⟩
  have KD : 1 ≤ kd ∧ kd ≤ 3 := by omega
  have ekd : 1 + kind % 3 = kd := hkd.symm
  clear hkd
  have HKD := Aside0.mk KD
  have HN := Aside0.mk hn
  have HMO := Aside0.mk hm
  have HW0 := write_c (dir := 1) (m := mk kd 1 more next []) (by rw [last_lay]; simp) (mk_good (by omega) (by decide) hm hn)
  have hw_ : write 1 (mk kd 1 more next []) = ([], 1) := writeR_no fun h => by have := resp_bad (by decide) (lay_bytes (mk_good (by omega) (by decide) hm hn)) h; omega
  rw [hw_] at HW0
  have HW := Aside0.mk HW0
  clear HW0 hw_ hm hn KD
  have m1 : (more == 255) = false := beq_eq_false_iff_ne.2 (by omega)
  have m1n : (more != 255) = true := by rw [bne, m1]; rfl
  have m2 : (more == 0) = false := beq_eq_false_iff_ne.2 (by omega)
  have m2n : (more != 0) = true := by rw [bne, m2]; rfl
  have hkb := hk.1
  clear hk
  clear ho
  go_enter Try.func7, Try.ntmps7
  go_upto_region 2 with (first | (go_at_call 11; (with_reducible refine (awake_any _).mono ?_); rintro en wa ⟨rfl, hb_⟩; have n0_ := Aside0.mk (H.out.on hb_); clear H; have H := n0_; clear n0_; clear hb_))
  go_upto_region 3 with (first | ((with_reducible refine gate_dst (N := 17) rfl ?_); (try (refine gate_guard (by rfl) ?_; dsimp only)); refine ev_build (((((((zeroC.setIfInBounds 0 (.int .u8 43)).setIfInBounds 16 (.int .u8 14)).setIfInBounds 17 (.int .u8 kd)).setIfInBounds 18 (.int .u8 1)).setIfInBounds 19 (.int .u8 (more))).setIfInBounds 20 (.int .u8 next))) rfl (by first | (go_simp; done) | (go_simp; rfl)) ?_; intro cm hcx_; have mx_ := (fun W => (by rw [hcx_]; exact ((fun W => mk_is (by have := HKD.out; omega) (by decide) HMO.out HN.out W)) W : IsMsg W cm (mk kd 1 more next []))); have n0_ := Aside0.mk ((H.out).add (sta_msg _ _) (mx_ _)); clear H; have H := n0_; clear n0_; clear hcx_ mx_) | (go_at_call 16; (with_reducible refine (WriteC.n HW.out (n := 0) rfl H.out.f.2).mono ?_); rintro en wb ⟨Ab, cb, rfl, hz_, hr_, hb_⟩; have n0_ := Aside0.mk ((H.out.on hb_).add (sta_C _ _ _ _) (hr_)); clear H; have H := n0_; clear n0_; have Zb := Aside0.mk hz_; clear hb_ hr_ hz_))
  go_wp2
  go_ret
  exact ⟨by first | rfl | (simp [same_refl]; done), H.out.b⟩
theorem busbarlaw12_MeiLast (more next kind : Int) (w : World) (hm : (Lit.int .u8 more).wf = true) (hn : (Lit.int .u8 next).wf = true) (hk : (Lit.int .u8 kind).wf = true) :
    Calls Try.prog 7 #[.int .u8 more, .int .u8 next, .int .u8 kind] w fun en w' => en = .returned (.bool true) ∧ Below w.heap.size w w' := by
  have hk := u8_wf hk
  have hm := u8_wf hm
  have hn := u8_wf hn
  by_cases h1 : more = 255
  · subst h1; exact MeiLast_255 hk hm hn
  by_cases h2 : more = 0
  · subst h2
    by_cases h3 : next = 0
    · exact MeiLast_0z hk hm hn h3
    · exact MeiLast_0n hk hm hn h3
  · exact MeiLast_more hk hm hn ⟨h2, h1⟩
def fitsB (kd : Int) (l : List S43) : Bool := decide (kd ≠ 4 ∨ l.length = 1) && l.all fun o => decide (o.f1.length ≤ 255)
theorem objs_w {kd : Int} {l : List S43} (hk : 1 ≤ kd ∧ kd ≤ 4) (hl : l.length ≤ 100) (hb : isBytes (lay 1 (mk kd 130 0 0 l))) : write 1 (mk kd 130 0 0 l) = if fitsB kd l = true then (lay 1 (mk kd 130 0 0 l), 0) else ([], 1) := by
  split
  · rename_i h
    unfold fitsB at h
    rw [Bool.and_eq_true, List.all_eq_true] at h
    exact resp_w hk (by decide) (.inl rfl) (.inr rfl) (of_decide_eq_true h.1) (by omega) (fun o ho => by have := of_decide_eq_true (h.2 o ho); omega)
  · rename_i h
    refine writeR_no fun h0 => h ?_
    obtain ⟨_, _, h1, h2⟩ := resp_bad (by omega) hb h0
    unfold fitsB
    rw [Bool.and_eq_true, List.all_eq_true]
    exact ⟨decide_eq_true h1, fun o ho => decide_eq_true (by have := h2 o ho; omega)⟩
theorem objs_len (kd : Int) (l : List S43) : (lay 1 (mk kd 130 0 0 l)).length = 6 + (objsB l).length := by
  unfold lay mk
  rw [if_neg (show ¬ (14 : Int) = 13 by decide), if_neg (by decide), List.length_append]
  rfl
theorem objs_next {l : List S43} {j : Nat} (h : j < l.length) : (objsB (l.take (j + 1))).length = (objsB (l.take j)).length + 2 + (rd_T43 l (j : Int)).f1.length := by
  have e : l.take (j + 1) = l.take j ++ [rd_T43 l (j : Int)] := by
    unfold rd_T43
    rw [Int.toNat_natCast, List.getD_eq_getElem?_getD, List.getElem?_eq_getElem h, List.take_add_one, List.getElem?_eq_getElem h]
    rfl
  rw [e]
  generalize rd_T43 l (j : Int) = o
  induction l.take j with
  | nil => simp only [objsB, List.nil_append, List.length_cons, List.length_append, List.length_nil]; omega
  | cons x xs ih => simp only [objsB, List.cons_append, List.length_cons, List.length_append] at ih ⊢; omega
theorem all_next {l : List S43} {j : Nat} (h : j < l.length) (p : S43 → Bool) : (l.take (j + 1)).all p = ((l.take j).all p && p (rd_T43 l (j : Int))) := by
  have e : l.take (j + 1) = l.take j ++ [rd_T43 l (j : Int)] := by
    unfold rd_T43
    rw [Int.toNat_natCast, List.getD_eq_getElem?_getD, List.getElem?_eq_getElem h, List.take_add_one, List.getElem?_eq_getElem h]
    rfl
  rw [e, List.all_append]
  simp
theorem mko_is {kd : Int} {l : List S43} {A : Option Addr} {n : Nat} {W : World} (hk : 0 ≤ kd ∧ kd < 256) (hg : ∀ o ∈ l, (0 ≤ o.f0 ∧ o.f0 < 256) ∧ isBytes o.f1) (hr : Kd.C k43 W A l.length l) (hn : l.length ≤ n) : IsMsg W ((((((zeroC.setIfInBounds 0 (.int .u8 43)).setIfInBounds 16 (.int .u8 14)).setIfInBounds 17 (.int .u8 kd)).setIfInBounds 18 (.int .u8 130))).setIfInBounds 21 (.slice A l.length n)) (mk kd 130 0 0 l) := by
  obtain ⟨A12, c12, A13, c13, A14, c14, A15, c15, A21, c21, e, ok, h12, h13, h14, h15, h21⟩ := set_level (set_kind (set_mei (set_code (zero_is W) (v := 43) (by decide)) (v := 14) (by decide)) hk) (v := 130) (by decide)
  refine ⟨A12, c12, A13, c13, A14, c14, A15, c15, A, n, by rw [e]; rfl, ⟨?_, ok.2.1, ok.2.2.1, fun o ho => (hg o ho).1⟩, h12, h13, h14, h15, ⟨hr, hn⟩⟩
  have h1 := ok.1
  simp only [okM, u8B, u16B, Bool.and_eq_true, decide_eq_true_eq, List.all_eq_true] at h1 ⊢
  exact ⟨h1.1, fun o ho x hx => (hg o ho).2 x hx⟩
theorem objsB_take_le (l : List S43) (j : Nat) : (objsB (l.take j)).length ≤ (objsB l).length := by
  induction l generalizing j with
  | nil => simp
  | cons o r ih =>
    cases j with
    | zero => simp [objsB]
    | succ j =>
      have := ih j
      simp only [List.take_succ_cons, objsB, List.length_cons, List.length_append]
      omega
set_option maxHeartbeats 16000000 in
set_option maxRecDepth 100000 in
theorem MeiObjects_0 {A : Option Addr} {c : Nat} {l : List S43} {kind : Int} {w : World} (hr : Kd.C k43 w A l.length l) (hc : l.length ≤ c) (hg : ∀ o ∈ l, (0 ≤ o.f0 ∧ o.f0 < 256) ∧ isBytes o.f1) (hk : 0 ≤ kind ∧ kind < 256) (hf : fewB (mk (1 + kind % 4) 130 0 0 l) = false) :
    Calls Try.prog 6 #[.slice A l.length c, .int .u8 kind] w fun en w' => en = .returned (.bool true) ∧ Below w.heap.size w w' := by
  obtain ⟨kd, hkd⟩ : ∃ z, z = 1 + kind % 4 := ⟨_, rfl⟩
  have KD : 1 ≤ kd ∧ kd ≤ 4 := by omega
  have ekd : 1 + kind % 4 = kd := hkd.symm
  clear hkd
  have HKD := Aside0.mk KD
  have hkb := hk.1
  clear hk
  have HG := Aside0.mk hg
  have HR := Aside0.mk hr
  rw [show fewB (mk (1 + kind % 4) 130 0 0 l) = fewB (mk kd 130 0 0 l) from by rw [ekd]] at hf
  have H := Aside0.mk (Hd.start w)
  have n0_ := Aside0.mk ((H.out).add (sta_C _ _ _ _) (hr))
  clear H
  have H := n0_
  clear n0_
  clear hg hr KD
  go_enter Try.func6, Try.ntmps6
  go_upto_region 2 with (first | (go_at_call 11; (with_reducible refine (awake_any _).mono ?_); rintro en wa ⟨rfl, hb_⟩; have n0_ := Aside0.mk (H.out.on hb_); clear H; have H := n0_; clear n0_; clear hb_))
  go_upto_region 3 with (first | ((with_reducible refine gate_dst (N := 18) rfl ?_); (try (refine gate_guard (by rfl) ?_; dsimp only)); refine ev_build ((((((zeroC.setIfInBounds 0 (.int .u8 43)).setIfInBounds 16 (.int .u8 14)).setIfInBounds 17 (.int .u8 kd)).setIfInBounds 18 (.int .u8 130))).setIfInBounds 21 (.slice A l.length c)) rfl (by first | (go_simp; done) | (go_simp; rfl)) ?_; intro cm hcx_; have mx_ := (show IsMsg _ ((((((zeroC.setIfInBounds 0 (.int .u8 43)).setIfInBounds 16 (.int .u8 14)).setIfInBounds 17 (.int .u8 kd)).setIfInBounds 18 (.int .u8 130))).setIfInBounds 21 (.slice A l.length c)) (mk kd 130 0 0 l) from mko_is (by have := HKD.out; omega) HG.out H.out.f.2 hc); rw [← hcx_] at mx_; have n0_ := Aside0.mk ((H.out).add (sta_msg _ _) (mx_)); clear H; have H := n0_; clear n0_; clear hcx_ mx_) | ((with_reducible refine gate_dst (N := 6) rfl ?_); refine ev_var (y := .tmp 18) rfl rfl rfl rfl rfl H.out.f.2 rfl rfl ?_; intro gm wm hg_ h1_ hb_; have n0_ := Aside0.mk ((H.out.on hb_).add (sta_blk _ _) (h1_)); clear H; have H := n0_; clear n0_; clear h1_ hb_ hg_))
  go_upto_region 4 with (first | ((with_reducible refine gate_dst (N := 19) rfl ?_); (try (refine gate_guard (by rfl) ?_; dsimp only)); refine ev_get (x := .tmp 6) rfl rfl rfl H.out.f.2 H.out.f.1.2 ?_) | (go_at_call 15; (with_reducible refine (few_msg H.out.f.1.2).mono ?_); rintro en ws ⟨rfl, hb_⟩; have n0_ := Aside0.mk (H.out.on hb_); clear H; have H := n0_; clear n0_; clear hb_))
  go_wp2
  go_ret
  exact ⟨rfl, H.out.b⟩
set_option maxHeartbeats 16000000 in
set_option maxRecDepth 100000 in
theorem MeiObjects_1 {A : Option Addr} {c : Nat} {l : List S43} {kind : Int} {w : World} (hr : Kd.C k43 w A l.length l) (hc : l.length ≤ c) (hg : ∀ o ∈ l, (0 ≤ o.f0 ∧ o.f0 < 256) ∧ isBytes o.f1) (hk : 0 ≤ kind ∧ kind < 256) (hf : fewB (mk (1 + kind % 4) 130 0 0 l) = true) :
    Calls Try.prog 6 #[.slice A l.length c, .int .u8 kind] w fun en w' => en = .returned (.bool true) ∧ Below w.heap.size w w' := by
  obtain ⟨kd, hkd⟩ : ∃ z, z = 1 + kind % 4 := ⟨_, rfl⟩
  have KD : 1 ≤ kd ∧ kd ≤ 4 := by omega
  have ekd : 1 + kind % 4 = kd := hkd.symm
  clear hkd
  have HKD := Aside0.mk KD
  have hkb := hk.1
  clear hk
  have HG := Aside0.mk hg
  have HR := Aside0.mk hr
  rw [show fewB (mk (1 + kind % 4) 130 0 0 l) = fewB (mk kd 130 0 0 l) from by rw [ekd]] at hf
  have H := Aside0.mk (Hd.start w)
  have n0_ := Aside0.mk ((H.out).add (sta_C _ _ _ _) (hr))
  clear H
  have H := n0_
  clear n0_
  have hsm := few_small (dir := 1) hf
  have HL := Aside0.mk hsm
  have HMG := Aside0.mk (mko_is (kd := kd) (n := l.length) (by omega) hg hr (Nat.le_refl _)).good
  have HW0 := write_c (dir := 1) (by omega) HMG.out
  rw [objs_w (l := l) KD hsm.2.1 (lay_bytes HMG.out)] at HW0
  obtain ⟨FB, hFB⟩ : ∃ z, z = fitsB kd l := ⟨_, rfl⟩
  have HFB := Aside0.mk hFB
  rw [← hFB] at HW0
  obtain ⟨WL, hWL⟩ : ∃ z, z = if FB = true then lay 1 (mk kd 130 0 0 l) else [] := ⟨_, rfl⟩
  obtain ⟨WE, hWE⟩ : ∃ z : Int, z = if FB = true then 0 else 1 := ⟨_, rfl⟩
  have HW := Aside0.mk (show WriteC 16 1 (mk kd 130 0 0 l) (WL, WE) from by rw [hWL, hWE]; cases FB; exact HW0; exact HW0)
  obtain ⟨LN, hLN⟩ : ∃ z, z = WL.length := ⟨_, rfl⟩
  have HLN := Aside0.mk hLN
  have HWL := Aside0.mk hWL
  have HWE := Aside0.mk hWE
  clear HW0 hFB hsm hWL hWE hLN
  clear hg hr KD
  go_enter Try.func6, Try.ntmps6
  go_upto_region 2 with (first | (go_at_call 11; (with_reducible refine (awake_any _).mono ?_); rintro en wa ⟨rfl, hb_⟩; have n0_ := Aside0.mk (H.out.on hb_); clear H; have H := n0_; clear n0_; clear hb_))
  go_upto_region 3 with (first | ((with_reducible refine gate_dst (N := 18) rfl ?_); (try (refine gate_guard (by rfl) ?_; dsimp only)); refine ev_build ((((((zeroC.setIfInBounds 0 (.int .u8 43)).setIfInBounds 16 (.int .u8 14)).setIfInBounds 17 (.int .u8 kd)).setIfInBounds 18 (.int .u8 130))).setIfInBounds 21 (.slice A l.length c)) rfl (by first | (go_simp; done) | (go_simp; rfl)) ?_; intro cm hcx_; have mx_ := (show IsMsg _ ((((((zeroC.setIfInBounds 0 (.int .u8 43)).setIfInBounds 16 (.int .u8 14)).setIfInBounds 17 (.int .u8 kd)).setIfInBounds 18 (.int .u8 130))).setIfInBounds 21 (.slice A l.length c)) (mk kd 130 0 0 l) from mko_is (by have := HKD.out; omega) HG.out H.out.f.2 hc); rw [← hcx_] at mx_; have n0_ := Aside0.mk ((H.out).add (sta_msg _ _) (mx_)); clear H; have H := n0_; clear n0_; clear hcx_ mx_) | ((with_reducible refine gate_dst (N := 6) rfl ?_); refine ev_var (y := .tmp 18) rfl rfl rfl rfl rfl H.out.f.2 rfl rfl ?_; intro gm wm hg_ h1_ hb_; have n0_ := Aside0.mk ((H.out.on hb_).add (sta_blk _ _) (h1_)); clear H; have H := n0_; clear n0_; clear h1_ hb_ hg_))
  go_upto_region 4 with (first | ((with_reducible refine gate_dst (N := 19) rfl ?_); (try (refine gate_guard (by rfl) ?_; dsimp only)); refine ev_get (x := .tmp 6) rfl rfl rfl H.out.f.2 H.out.f.1.2 ?_) | (go_at_call 15; (with_reducible refine (few_msg H.out.f.1.2).mono ?_); rintro en ws ⟨rfl, hb_⟩; have n0_ := Aside0.mk (H.out.on hb_); clear H; have H := n0_; clear n0_; clear hb_))
  go_upto_region 6 with (fail)
  go_upto_region 7 with (first | ((with_reducible refine gate_dst (N := 25) rfl ?_); (try (refine gate_guard (by rfl) ?_; dsimp only)); refine ev_get (x := .tmp 6) rfl rfl rfl H.out.f.2 H.out.f.1.2 ?_) | (go_at_call 16; (with_reducible refine (WriteC.n HW.out (n := LN) HLN.out.symm H.out.f.1.2).mono ?_); rintro en wb ⟨Ab, cb, rfl, hz_, hr_, hb_⟩; have n0_ := Aside0.mk ((H.out.on hb_).add (sta_C _ _ _ _) (hr_)); clear H; have H := n0_; clear n0_; have Zb := Aside0.mk hz_; clear hb_ hr_ hz_))
  have kk := bx_kind H.out.f.1.2 H.out.f.1.1.2
  replace kk : wb.cell? ⟨gm, 17, none⟩ = some (.int .u8 kd) := kk
  by_cases h4k : kd ≠ 4
  · have h4 : (kd != 4) = true := bne_iff_ne.2 h4k
    have h4' : (kd == 4) = false := by have := h4; rw [bne] at this; simpa using this
    have HF := Aside0.mk (show FB = (true && l.all (fun o => decide (o.f1.length ≤ 255))) from by rw [HFB.out]; unfold fitsB; rw [decide_eq_true (.inl h4k)])
    clear h4k
    go_upto_region 9 with (fail)
    clear kk h4 h4'
    go_wp2
    go_loop [10, 11, 12] (fun f s i => ∃ j : Nat, j ≤ l.length ∧ i = .int .i64 j ∧ s = .int .i64 (6 + ((objsB (l.take j)).length : Int)) ∧ f = .bool (true && (l.take j).all (fun o => decide (o.f1.length ≤ 255)))) (fun _ _ i => l.length - (intOf i).toNat)
    case atStart => exact ⟨0, Nat.zero_le _, rfl, rfl, rfl⟩
    case round =>
      obtain ⟨j, hj, rfl, rfl, rfl⟩ := hrel
      by_cases hlt : j < l.length
      · have hd1 : decide ((j : Int) < (l.length : Int)) = true := decide_eq_true (by omega)
        obtain ⟨ad, A1, cA1, rfl, x0, x1, gA, qA⟩ := at_T43 H.out.f.1.1.1.2 (j : Int) (by omega) (by omega)
        rw [Int.toNat_natCast] at x1
        have e1 := objs_next hlt
        have e2 := all_next hlt (fun o => decide (o.f1.length ≤ 255))
        have hle := (HL.out).2.2 _ (show rd_T43 l (j : Int) ∈ l from by unfold rd_T43; rw [Int.toNat_natCast, List.getD_eq_getElem?_getD, List.getElem?_eq_getElem hlt]; exact List.getElem_mem hlt)
        have hbd := (objsB_take_le l j)
        have hbl := objsB_len l HL.out.2.2
        have hll : l.length ≤ 100 := HL.out.2.1
        generalize rd_T43 l (j : Int) = ob at e1 e2 x0 x1 gA qA hle
        clear x0 gA qA
        have E1 := Aside0.mk e1
        have E2 := Aside0.mk e2
        clear e1 e2
        have hso : (objsB (l.take j)).length ≤ 30200 := by omega
        clear hbd hbl
        by_cases hf : ob.f1.length ≤ 255
        · have d1 : decide ((ob.f1.length : Int) > 255) = false := decide_eq_false (by omega)
          have d2 : decide ((255 : Int) < (ob.f1.length : Int)) = false := decide_eq_false (by omega)
          have E3 := Aside0.mk (show (true && (l.take (j + 1)).all (fun o => decide (o.f1.length ≤ 255))) = (true && (l.take j).all (fun o => decide (o.f1.length ≤ 255))) from by rw [E2.out]; rw [show decide (ob.f1.length ≤ 255) = true from decide_eq_true hf, Bool.and_true])
          clear hf
          go_wp2
          go_round
          case rel => exact ⟨j + 1, by omega, by go_num, by rw [E1.out]; go_num, by rw [E3.out]⟩
          case measure => simp [intOf]; omega
        · have d1 : decide ((ob.f1.length : Int) > 255) = true := decide_eq_true (by omega)
          have d2 : decide ((255 : Int) < (ob.f1.length : Int)) = true := decide_eq_true (by omega)
          have E3 := Aside0.mk (show (true && (l.take (j + 1)).all (fun o => decide (o.f1.length ≤ 255))) = false from by rw [E2.out]; rw [show decide (ob.f1.length ≤ 255) = false from decide_eq_false hf, Bool.and_false, Bool.and_false])
          clear hf
          go_wp2
          go_round
          case rel => exact ⟨j + 1, by omega, by go_num, by rw [E1.out]; go_num, by rw [E3.out]⟩
          case measure => simp [intOf]; omega
      · have hd1 : decide ((j : Int) < (l.length : Int)) = false := decide_eq_false (by omega)
        have ej : l.take j = l := List.take_of_length_le (by omega)
        rw [ej]
        obtain ⟨bf, hbf⟩ : ∃ z, z = (true && l.all (fun o => decide (o.f1.length ≤ 255))) := ⟨_, rfl⟩
        rw [← hbf]
        have HF2 := Aside0.mk (HF.out.trans hbf.symm)
        clear hbf ej
        have hob := objs_len kd l
        cases bf with
        | false =>
          have hwe : WE = 1 := by rw [HWE.out, HF2.out]; rfl
          have HWEq := Aside0.mk hwe
          have e0 : (WE == 0) = false := by rw [hwe]; rfl
          have e0n : (WE != 0) = true := by rw [hwe]; rfl
          clear hwe hob
          go_wp2
          go_ret
          exact ⟨by first | rfl | (simp; done), H.out.b⟩
        | true =>
          have hwe : WE = 0 := by rw [HWE.out, HF2.out]; rfl
          have HWEq := Aside0.mk hwe
          have hln : LN = 6 + (objsB l).length := by rw [HLN.out, HWL.out, HF2.out, if_pos rfl]; exact hob
          have HLQ := Aside0.mk hln
          have e0 : (WE == 0) = true := by rw [hwe]; rfl
          have e0n : (WE != 0) = false := by rw [hwe]; rfl
          have el : ((LN : Int) == 6 + ((objsB l).length : Int)) = true := beq_iff_eq.2 (by omega)
          clear hwe hln hob
          go_wp2
          go_ret
          exact ⟨by first | rfl | (simp; done), H.out.b⟩
  · replace h4k : kd = 4 := by omega
    by_cases h1k : l.length = 1
    · have h4 : (kd != 4) = false := by rw [h4k]; rfl
      have h4' : (kd == 4) = true := by have := h4; rw [bne] at this; simpa using this
      have hone : ((l.length : Int) == 1) = true := beq_iff_eq.2 (by omega)
      have hone2 : (l.length == 1) = true := beq_iff_eq.2 h1k
      have HF := Aside0.mk (show FB = (true && l.all (fun o => decide (o.f1.length ≤ 255))) from by rw [HFB.out]; unfold fitsB; rw [decide_eq_true (.inr h1k)])
      clear h4k h1k
      go_upto_region 9 with (fail)
      clear kk h4 h4' hone hone2
      go_wp2
      go_loop [10, 11, 12] (fun f s i => ∃ j : Nat, j ≤ l.length ∧ i = .int .i64 j ∧ s = .int .i64 (6 + ((objsB (l.take j)).length : Int)) ∧ f = .bool (true && (l.take j).all (fun o => decide (o.f1.length ≤ 255)))) (fun _ _ i => l.length - (intOf i).toNat)
      case atStart => exact ⟨0, Nat.zero_le _, rfl, rfl, rfl⟩
      case round =>
        obtain ⟨j, hj, rfl, rfl, rfl⟩ := hrel
        by_cases hlt : j < l.length
        · have hd1 : decide ((j : Int) < (l.length : Int)) = true := decide_eq_true (by omega)
          obtain ⟨ad, A1, cA1, rfl, x0, x1, gA, qA⟩ := at_T43 H.out.f.1.1.1.2 (j : Int) (by omega) (by omega)
          rw [Int.toNat_natCast] at x1
          have e1 := objs_next hlt
          have e2 := all_next hlt (fun o => decide (o.f1.length ≤ 255))
          have hle := (HL.out).2.2 _ (show rd_T43 l (j : Int) ∈ l from by unfold rd_T43; rw [Int.toNat_natCast, List.getD_eq_getElem?_getD, List.getElem?_eq_getElem hlt]; exact List.getElem_mem hlt)
          have hbd := (objsB_take_le l j)
          have hbl := objsB_len l HL.out.2.2
          have hll : l.length ≤ 100 := HL.out.2.1
          generalize rd_T43 l (j : Int) = ob at e1 e2 x0 x1 gA qA hle
          clear x0 gA qA
          have E1 := Aside0.mk e1
          have E2 := Aside0.mk e2
          clear e1 e2
          have hso : (objsB (l.take j)).length ≤ 30200 := by omega
          clear hbd hbl
          by_cases hf : ob.f1.length ≤ 255
          · have d1 : decide ((ob.f1.length : Int) > 255) = false := decide_eq_false (by omega)
            have d2 : decide ((255 : Int) < (ob.f1.length : Int)) = false := decide_eq_false (by omega)
            have E3 := Aside0.mk (show (true && (l.take (j + 1)).all (fun o => decide (o.f1.length ≤ 255))) = (true && (l.take j).all (fun o => decide (o.f1.length ≤ 255))) from by rw [E2.out]; rw [show decide (ob.f1.length ≤ 255) = true from decide_eq_true hf, Bool.and_true])
            clear hf
            go_wp2
            go_round
            case rel => exact ⟨j + 1, by omega, by go_num, by rw [E1.out]; go_num, by rw [E3.out]⟩
            case measure => simp [intOf]; omega
          · have d1 : decide ((ob.f1.length : Int) > 255) = true := decide_eq_true (by omega)
            have d2 : decide ((255 : Int) < (ob.f1.length : Int)) = true := decide_eq_true (by omega)
            have E3 := Aside0.mk (show (true && (l.take (j + 1)).all (fun o => decide (o.f1.length ≤ 255))) = false from by rw [E2.out]; rw [show decide (ob.f1.length ≤ 255) = false from decide_eq_false hf, Bool.and_false, Bool.and_false])
            clear hf
            go_wp2
            go_round
            case rel => exact ⟨j + 1, by omega, by go_num, by rw [E1.out]; go_num, by rw [E3.out]⟩
            case measure => simp [intOf]; omega
        · have hd1 : decide ((j : Int) < (l.length : Int)) = false := decide_eq_false (by omega)
          have ej : l.take j = l := List.take_of_length_le (by omega)
          rw [ej]
          obtain ⟨bf, hbf⟩ : ∃ z, z = (true && l.all (fun o => decide (o.f1.length ≤ 255))) := ⟨_, rfl⟩
          rw [← hbf]
          have HF2 := Aside0.mk (HF.out.trans hbf.symm)
          clear hbf ej
          have hob := objs_len kd l
          cases bf with
          | false =>
            have hwe : WE = 1 := by rw [HWE.out, HF2.out]; rfl
            have HWEq := Aside0.mk hwe
            have e0 : (WE == 0) = false := by rw [hwe]; rfl
            have e0n : (WE != 0) = true := by rw [hwe]; rfl
            clear hwe hob
            go_wp2
            go_ret
            exact ⟨by first | rfl | (simp; done), H.out.b⟩
          | true =>
            have hwe : WE = 0 := by rw [HWE.out, HF2.out]; rfl
            have HWEq := Aside0.mk hwe
            have hln : LN = 6 + (objsB l).length := by rw [HLN.out, HWL.out, HF2.out, if_pos rfl]; exact hob
            have HLQ := Aside0.mk hln
            have e0 : (WE == 0) = true := by rw [hwe]; rfl
            have e0n : (WE != 0) = false := by rw [hwe]; rfl
            have el : ((LN : Int) == 6 + ((objsB l).length : Int)) = true := beq_iff_eq.2 (by omega)
            clear hwe hln hob
            go_wp2
            go_ret
            exact ⟨by first | rfl | (simp; done), H.out.b⟩
    · have h4 : (kd != 4) = false := by rw [h4k]; rfl
      have h4' : (kd == 4) = true := by have := h4; rw [bne] at this; simpa using this
      have hone : ((l.length : Int) == 1) = false := beq_eq_false_iff_ne.2 (by omega)
      have hone2 : (l.length == 1) = false := beq_eq_false_iff_ne.2 h1k
      have HF := Aside0.mk (show FB = (false && l.all (fun o => decide (o.f1.length ≤ 255))) from by rw [HFB.out]; unfold fitsB; rw [decide_eq_false (fun h => h.elim (fun h => h h4k) (fun h => h1k h))])
      clear h4k h1k
      go_upto_region 9 with (fail)
      clear kk h4 h4' hone hone2
      go_wp2
      go_loop [10, 11, 12] (fun f s i => ∃ j : Nat, j ≤ l.length ∧ i = .int .i64 j ∧ s = .int .i64 (6 + ((objsB (l.take j)).length : Int)) ∧ f = .bool (false && (l.take j).all (fun o => decide (o.f1.length ≤ 255)))) (fun _ _ i => l.length - (intOf i).toNat)
      case atStart => exact ⟨0, Nat.zero_le _, rfl, rfl, rfl⟩
      case round =>
        obtain ⟨j, hj, rfl, rfl, rfl⟩ := hrel
        by_cases hlt : j < l.length
        · have hd1 : decide ((j : Int) < (l.length : Int)) = true := decide_eq_true (by omega)
          obtain ⟨ad, A1, cA1, rfl, x0, x1, gA, qA⟩ := at_T43 H.out.f.1.1.1.2 (j : Int) (by omega) (by omega)
          rw [Int.toNat_natCast] at x1
          have e1 := objs_next hlt
          have e2 := all_next hlt (fun o => decide (o.f1.length ≤ 255))
          have hle := (HL.out).2.2 _ (show rd_T43 l (j : Int) ∈ l from by unfold rd_T43; rw [Int.toNat_natCast, List.getD_eq_getElem?_getD, List.getElem?_eq_getElem hlt]; exact List.getElem_mem hlt)
          have hbd := (objsB_take_le l j)
          have hbl := objsB_len l HL.out.2.2
          have hll : l.length ≤ 100 := HL.out.2.1
          generalize rd_T43 l (j : Int) = ob at e1 e2 x0 x1 gA qA hle
          clear x0 gA qA
          have E1 := Aside0.mk e1
          have E2 := Aside0.mk e2
          clear e1 e2
          have hso : (objsB (l.take j)).length ≤ 30200 := by omega
          clear hbd hbl
          by_cases hf : ob.f1.length ≤ 255
          · have d1 : decide ((ob.f1.length : Int) > 255) = false := decide_eq_false (by omega)
            have d2 : decide ((255 : Int) < (ob.f1.length : Int)) = false := decide_eq_false (by omega)
            have E3 := Aside0.mk (show (false && (l.take (j + 1)).all (fun o => decide (o.f1.length ≤ 255))) = (false && (l.take j).all (fun o => decide (o.f1.length ≤ 255))) from by rw [E2.out]; rw [show decide (ob.f1.length ≤ 255) = true from decide_eq_true hf, Bool.and_true])
            clear hf
            go_wp2
            go_round
            case rel => exact ⟨j + 1, by omega, by go_num, by rw [E1.out]; go_num, by rw [E3.out]⟩
            case measure => simp [intOf]; omega
          · have d1 : decide ((ob.f1.length : Int) > 255) = true := decide_eq_true (by omega)
            have d2 : decide ((255 : Int) < (ob.f1.length : Int)) = true := decide_eq_true (by omega)
            have E3 := Aside0.mk (show (false && (l.take (j + 1)).all (fun o => decide (o.f1.length ≤ 255))) = false from by rw [E2.out]; rw [show decide (ob.f1.length ≤ 255) = false from decide_eq_false hf, Bool.and_false, Bool.and_false])
            clear hf
            go_wp2
            go_round
            case rel => exact ⟨j + 1, by omega, by go_num, by rw [E1.out]; go_num, by rw [E3.out]⟩
            case measure => simp [intOf]; omega
        · have hd1 : decide ((j : Int) < (l.length : Int)) = false := decide_eq_false (by omega)
          have ej : l.take j = l := List.take_of_length_le (by omega)
          rw [ej]
          obtain ⟨bf, hbf⟩ : ∃ z, z = (false && l.all (fun o => decide (o.f1.length ≤ 255))) := ⟨_, rfl⟩
          rw [← hbf]
          have HF2 := Aside0.mk (HF.out.trans hbf.symm)
          clear hbf ej
          have hob := objs_len kd l
          cases bf with
          | false =>
            have hwe : WE = 1 := by rw [HWE.out, HF2.out]; rfl
            have HWEq := Aside0.mk hwe
            have e0 : (WE == 0) = false := by rw [hwe]; rfl
            have e0n : (WE != 0) = true := by rw [hwe]; rfl
            clear hwe hob
            go_wp2
            go_ret
            exact ⟨by first | rfl | (simp; done), H.out.b⟩
          | true =>
            have hwe : WE = 0 := by rw [HWE.out, HF2.out]; rfl
            have HWEq := Aside0.mk hwe
            have hln : LN = 6 + (objsB l).length := by rw [HLN.out, HWL.out, HF2.out, if_pos rfl]; exact hob
            have HLQ := Aside0.mk hln
            have e0 : (WE == 0) = true := by rw [hwe]; rfl
            have e0n : (WE != 0) = false := by rw [hwe]; rfl
            have el : ((LN : Int) == 6 + ((objsB l).length : Int)) = true := beq_iff_eq.2 (by omega)
            clear hwe hln hob
            go_wp2
            go_ret
            exact ⟨by first | rfl | (simp; done), H.out.b⟩
theorem busbarlaw12_MeiObjects (A : Option Addr) (c : Nat) (l : List S43) (kind : Int) (w : World) (hr : Kd.C k43 w A l.length l) (hc : l.length ≤ c) {p1 : Prop} (_ : p1) (hw : ∀ x ∈ l, (Lit.int .u8 x.f0).wf = true ∧ (x.f1.length ≤ maxLen ∧ ∀ y ∈ x.f1, (Lit.int .u8 y).wf = true)) (hk : (Lit.int .u8 kind).wf = true) :
    Calls Try.prog 6 #[.slice A l.length c, .int .u8 kind] w fun en w' => en = .returned (.bool true) ∧ Below w.heap.size w w' := by
  have hg : ∀ o ∈ l, (0 ≤ o.f0 ∧ o.f0 < 256) ∧ isBytes o.f1 := fun o ho => ⟨u8_wf (hw o ho).1, fun y hy => u8_wf ((hw o ho).2.2 y hy)⟩
  cases hf : fewB (mk (1 + kind % 4) 130 0 0 l) with
  | false => exact MeiObjects_0 hr hc hg (u8_wf hk) hf
  | true => exact MeiObjects_1 hr hc hg (u8_wf hk) hf
end Go.Proofs.Ytimclbhlgblifaa.Laws
end
