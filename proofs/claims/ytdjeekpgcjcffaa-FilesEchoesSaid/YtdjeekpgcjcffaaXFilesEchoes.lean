/- The law FilesEchoes: its walk, and the plain law. Conditions: what each theorem states. -/
import Derived.Test.YtdjeekpgcjcffaaND
set_option linter.unusedVariables false
set_option linter.unusedSimpArgs false
set_option maxHeartbeats 16000000
set_option maxRecDepth 100000
section
namespace Go.Proofs.Ytdjeekpgcjcffaa.Laws
open Go.RowKit Go.Proofs.Ytdjeekpgcjcffaa.P Go.Proofs.Ytdjeekpgcjcffaa.E Go.Proofs.Ytdjeekpgcjcffaa.Cur Go.Proofs.Ytdjeekpgcjcffaa.Cu Go.Proofs.Ytdjeekpgcjcffaa.Same Go.Proofs.Ytdjeekpgcjcffaa.Put Go.Proofs.Ytdjeekpgcjcffaa.Com Go.Proofs.Ytdjeekpgcjcffaa.Fil Go.Proofs.YtdjeekpgcjcffaaW.PrintWords Go.Proofs.YtdjeekpgcjcffaaW.PrintLast Go.Proofs.YtdjeekpgcjcffaaW.PrintMore
def okB (x : S43) : Bool := (x.f2 == (x.f3.length : Int)) && !(x.f2 == 0) && !(x.f0 == 0) && decide (x.f1 ≤ 9999)
def wantB (l : List S43) (j : Nat) : Bool := decide (0 < l.length) && (l.take j).all okB
theorem okB_iff (x : S43) : okB x = true ↔ okPart 2 x := by
  unfold okB okPart
  rw [if_neg (by decide), if_neg (by decide)]
  simp only [Bool.and_eq_true, Bool.not_eq_true', beq_iff_eq, beq_eq_false_iff_ne, decide_eq_true_eq]
  constructor
  · rintro ⟨⟨⟨a, b⟩, c⟩, d⟩; exact ⟨⟨c, d, b⟩, a.symm⟩
  · rintro ⟨⟨c, d, b⟩, a⟩; exact ⟨⟨⟨a.symm, b⟩, c⟩, d⟩
theorem okAll2 : ∀ (s : Int) (l : List S43), okAll 2 s l ↔ l.all okB = true
  | s, [] => by simp [okAll]
  | s, x :: r => by
    have := okAll2 s r
    simp only [okAll, List.all_cons, Bool.and_eq_true]
    rw [← this, okB_iff]
    constructor
    · rintro ⟨a, _, b⟩; exact ⟨a, b⟩
    · rintro ⟨a, b⟩; exact ⟨a, fun h => absurd h (by decide), b⟩
theorem flat_one (t : Bool) (l : List S43) (j : Nat) (hj : j < l.length) : flat t (l.take (j + 1)) = flat t (l.take j) ++ partL t l[j] := by
  rw [List.take_succ_eq_append_getElem hj, flat_append]
  simp [flat]
theorem want_one (l : List S43) (j : Nat) (hj : j < l.length) : wantB l (j + 1) = (wantB l j && okB l[j]) := by
  unfold wantB
  rw [List.take_succ_eq_append_getElem hj, List.all_append, Bool.and_assoc]
  simp
theorem flat_pos {l : List S43} (h0 : 0 < l.length) (h : l.all okB = true) : 9 ≤ (flat false l).length := by
  cases l with
  | nil => simp at h0
  | cons x r =>
    simp only [List.all_cons, Bool.and_eq_true] at h
    have h1 := h.1
    unfold okB at h1
    simp only [Bool.and_eq_true, Bool.not_eq_true', beq_iff_eq, beq_eq_false_iff_ne, decide_eq_true_eq] at h1
    have e : (partL false x).length = 7 + 2 * x.f3.length := by unfold partL; simp [putL_length]; omega
    simp only [flat, List.length_append]
    omega
theorem echo_may {dir : Int} (hd : dir = 0 ∨ dir = 1) (l : List S43) : mayW dir (mkF 21 l) ↔ wantB l l.length = true ∧ (flat false l).length ≤ 251 := by
  unfold mayW wantB
  have e1 : kOf dir (mkF 21 l).code = 2 := rfl
  have e2 : isTold dir (mkF 21 l).code = false := rfl
  rw [e1, e2, List.take_length]
  have e3 : mayK 2 ((flat false l).length : Int) = true ↔ 9 ≤ (flat false l).length ∧ (flat false l).length ≤ 251 := by
    show may2 _ = true ↔ _
    unfold may2
    simp only [Bool.and_eq_true, decide_eq_true_eq]
    omega
  simp only [Bool.and_eq_true, decide_eq_true_eq]
  show (_ ∧ _ ∧ mayK 2 ((flat false l).length : Int) = true ∧ okAll 2 0 l) ↔ _
  rw [e3, okAll2]
  constructor
  · rintro ⟨_, _, ⟨a, b⟩, c⟩
    refine ⟨⟨?_, c⟩, b⟩
    rcases Nat.eq_zero_or_pos l.length with h | h
    · rw [List.eq_nil_of_length_eq_zero h] at a; simp [flat] at a
    · exact h
  · rintro ⟨⟨a, c⟩, b⟩
    exact ⟨⟨hd, .inr rfl⟩, rfl, ⟨flat_pos a c, b⟩, c⟩
theorem echo_len {l : List S43} (hf : fewB (mkF 21 l) = true) : l.length ≤ 50 ∧ ∀ x ∈ l, x.f3.length ≤ 200 := by
  unfold fewB at hf
  simp only [Bool.and_eq_true, decide_eq_true_eq, List.all_eq_true] at hf
  exact ⟨hf.1.2.2.2.1, hf.2.1⟩
theorem flat_le (t : Bool) (l : List S43) (j : Nat) (h : ∀ x ∈ l, x.f3.length ≤ 200) (hl : l.length ≤ 50) : (flat t (l.take j)).length ≤ 20350 := by
  have h1 := flat_few t (l.take j) (fun x hx => h x (List.mem_of_mem_take hx))
  have h2 : (l.take j).length ≤ l.length := by rw [List.length_take]; omega
  omega
theorem echo_lay (l : List S43) : lay 1 (mkF 21 l) = lay 0 (mkF 21 l) := rfl
theorem echo_same (l : List S43) : write 1 (mkF 21 l) = write 0 (mkF 21 l) := by
  unfold write
  rw [echo_lay]
  rfl
theorem echo_bytes (l : List S43) : isBytes (write 0 (mkF 21 l)).1 := by
  by_cases h : (write 0 (mkF 21 l)).2 = 0
  · rw [show write 0 (mkF 21 l) = _ from (writeR_ok h).2.2]; exact lay_bytes
  · rw [show write 0 (mkF 21 l) = _ from writeR_no h]; exact fun x hx => by cases hx
theorem echo_res {l : List S43} {R : List Int × Int} (hg : ∀ x ∈ l, goodRec x) (hR : R = write 0 (mkF 21 l)) : (R.2 = 0 ∧ wantB l l.length = true ∧ (flat false l).length ≤ 251) ∨ (R.2 = 1 ∧ ¬ (wantB l l.length = true ∧ (flat false l).length ≤ 251)) := by
  have hgm := mkF_good (code := 21) (by decide) hg
  by_cases h : (write 0 (mkF 21 l)).2 = 0
  · exact .inl ⟨by rw [hR]; exact h, (echo_may (.inl rfl) l).1 (write_ok hgm h)⟩
  · refine .inr ⟨by rw [hR, show write 0 (mkF 21 l) = _ from writeR_no h], fun hk => h ?_⟩
    rw [write_yes hgm ((echo_may (.inl rfl) l).2 hk)]
theorem ok_facts {x : S43} (h : okB x = true) : (x.f2 != (x.f3.length : Int)) = false ∧ (x.f2 == 0) = false ∧ (x.f0 == 0) = false ∧ x.f1 ≤ 9999 := by
  unfold okB at h
  simp only [Bool.and_eq_true, Bool.not_eq_true', decide_eq_true_eq] at h
  obtain ⟨⟨⟨a, b⟩, c⟩, d⟩ := h
  exact ⟨by rw [bne, a]; rfl, b, c, d⟩
theorem echo_big {l : List S43} {j : Nat} {s : Int} (hs : s = ((flat false (l.take j)).length : Int)) (hj : j = l.length) (h : ¬ (flat false l).length ≤ 251) : 251 < s := by
  rw [hs, hj, List.take_length]
  omega
theorem bad_facts {x : S43} (h : ¬ okB x = true) : (x.f2 != (x.f3.length : Int)) = true ∨ ((x.f2 != (x.f3.length : Int)) = false ∧ (x.f2 == 0) = true) ∨ ((x.f2 != (x.f3.length : Int)) = false ∧ (x.f2 == 0) = false ∧ (x.f0 == 0) = true) ∨ ((x.f2 != (x.f3.length : Int)) = false ∧ (x.f2 == 0) = false ∧ (x.f0 == 0) = false ∧ 9999 < x.f1) := by
  unfold okB at h
  cases a : (x.f2 != (x.f3.length : Int)) with
  | true => exact .inl rfl
  | false =>
  cases b : (x.f2 == 0) with
  | true => exact .inr (.inl ⟨rfl, rfl⟩)
  | false =>
  cases c : (x.f0 == 0) with
  | true => exact .inr (.inr (.inl ⟨rfl, rfl, rfl⟩))
  | false =>
  refine .inr (.inr (.inr ⟨rfl, rfl, rfl, ?_⟩))
  have a' : (x.f2 == (x.f3.length : Int)) = true := by simpa [bne] using a
  rw [a', b, c] at h
  simpa using h
theorem echo_sum {l : List S43} {j : Nat} {s : Int} {x : S43} (hs : s = ((flat false (l.take j)).length : Int)) {hlt : j < l.length} (hx : l[j] = x) (_ : j < l.length) : Value.int .i64 (s + 7 + 2 * (x.f3.length : Int)) = .int .i64 ((flat false (l.take (j + 1))).length : Int) := by
  rw [flat_one false l j hlt, hx, List.length_append, hs]
  have e : (partL false x).length = 7 + 2 * x.f3.length := by unfold partL; simp [putL_length]; omega
  rw [e]
  congr 1
  omega
theorem Echoes_many {A : Option Addr} {c : Nat} {l : List S43} {w : World} (hr : Kd.C k43 w A l.length l) (hc : l.length ≤ c) (hg : ∀ x ∈ l, goodRec x) (hf : fewB (mkF 21 l) = false) :
    Calls Try.prog 7 #[.slice A l.length c] w fun en w' => en = .returned (.bool true) ∧ Below w.heap.size w w' := by
  have GX := Aside0.mk hg
  have HC := Aside0.mk hc
  have H := Aside0.mk (Hd.start w)
  have n0_ := Aside0.mk ((H.out).add (sta_R _ _ _) (hr))
  clear H
  have H := n0_
  clear n0_
  clear hr hc hg
  have HFW := Aside0.mk hf
  clear hf
  go_enter Try.func7, Try.ntmps7
  go_upto_region 2 with (first | (go_at_call 11; (with_reducible refine (AwakeC.c awake_c _).mono ?_); rintro en wa ⟨rfl, hb_⟩; have n0_ := Aside0.mk (H.out.on hb_); clear H; have H := n0_; clear n0_; clear hb_))
  go_upto_region 3 with (first | ((with_reducible refine gate_dst (N := 16) rfl ?_); (try (refine gate_guard (by rfl) ?_; dsimp only)); refine ev_build ((codeC 21).setIfInBounds 15 (.slice A l.length c)) rfl (by first | (go_simp; done) | (go_simp; rfl)) ?_; intro cz hcx_; have mx_ := (show IsMsg _ ((codeC 21).setIfInBounds 15 (.slice A l.length c)) (mkF 21 l) from (mkF_is (code := 21) (l := l) (by decide) (n := c) HC.out (fun o ho => GX.out o ho) (H.out.f.2))); rw [← hcx_] at mx_; have n0_ := Aside0.mk ((H.out).add (sta_msg _ _) (mx_)); clear H; have H := n0_; clear n0_; clear hcx_ mx_) | ((with_reducible refine gate_dst (N := 4) rfl ?_); refine ev_var (y := .tmp 16) rfl rfl rfl rfl rfl H.out.f.2 rfl rfl ?_; intro gm wv hg_ h1_ hb_; have n0_ := Aside0.mk ((H.out.on hb_).add (sta_blk _ _) (h1_)); clear H; have H := n0_; clear n0_; clear h1_ hb_ hg_))
  go_upto_region 4 with (first | ((with_reducible refine gate_dst (N := 17) rfl ?_); (try (refine gate_guard (by rfl) ?_; dsimp only)); refine ev_get (x := .tmp 4) rfl rfl rfl H.out.f.2 H.out.f.1.2 ?_) | (go_at_call 15; (with_reducible refine ((show Calls Try.prog 15 #[.agg cz] _ _ from by have := few_msg (H.out.f.1.2); rw [HFW.out] at this; exact this)).mono ?_); rintro en wf ⟨rfl, hb_⟩; have n0_ := Aside0.mk (H.out.on hb_); clear H; have H := n0_; clear n0_; clear hb_))
  go_wp2
  go_ret
  exact ⟨rfl, H.out.b⟩
theorem Echoes_few {A : Option Addr} {c : Nat} {l : List S43} {w : World} (hr : Kd.C k43 w A l.length l) (hc : l.length ≤ c) (hg : ∀ x ∈ l, goodRec x) (hf : fewB (mkF 21 l) = true) :
    Calls Try.prog 7 #[.slice A l.length c] w fun en w' => en = .returned (.bool true) ∧ Below w.heap.size w w' := by
  have GX := Aside0.mk hg
  have HC := Aside0.mk hc
  have H := Aside0.mk (Hd.start w)
  have n0_ := Aside0.mk ((H.out).add (sta_R _ _ _) (hr))
  clear H
  have H := n0_
  clear n0_
  clear hr hc hg
  have HFW := Aside0.mk hf
  obtain ⟨R, hR⟩ : ∃ z, z = write 0 (mkF 21 l) := ⟨_, rfl⟩
  have e01 := echo_same l
  have hs_ := few_small hf 0
  have hs1_ := few_small hf 1
  have HW0 := Aside0.mk (show WriteC 16 0 (mkF 21 l) R from by rw [hR]; exact write_c hs_.1 hs_.2.1)
  have HW1 := Aside0.mk (show WriteC 16 1 (mkF 21 l) R from by rw [hR, ← e01]; exact write_c hs1_.1 hs1_.2.1)
  have HRE := Aside0.mk (echo_res (l := l) GX.out hR)
  have HRB := Aside0.mk (show isBytes R.1 from by rw [hR]; exact echo_bytes l)
  have EL := Aside0.mk (echo_len hf)
  clear hR e01 hs_ hs1_ hf
  go_enter Try.func7, Try.ntmps7
  go_upto_region 2 with (first | (go_at_call 11; (with_reducible refine (AwakeC.c awake_c _).mono ?_); rintro en wa ⟨rfl, hb_⟩; have n0_ := Aside0.mk (H.out.on hb_); clear H; have H := n0_; clear n0_; clear hb_))
  go_upto_region 3 with (first | ((with_reducible refine gate_dst (N := 16) rfl ?_); (try (refine gate_guard (by rfl) ?_; dsimp only)); refine ev_build ((codeC 21).setIfInBounds 15 (.slice A l.length c)) rfl (by first | (go_simp; done) | (go_simp; rfl)) ?_; intro cz hcx_; have mx_ := (show IsMsg _ ((codeC 21).setIfInBounds 15 (.slice A l.length c)) (mkF 21 l) from (mkF_is (code := 21) (l := l) (by decide) (n := c) HC.out (fun o ho => GX.out o ho) (H.out.f.2))); rw [← hcx_] at mx_; have n0_ := Aside0.mk ((H.out).add (sta_msg _ _) (mx_)); clear H; have H := n0_; clear n0_; clear hcx_ mx_) | ((with_reducible refine gate_dst (N := 4) rfl ?_); refine ev_var (y := .tmp 16) rfl rfl rfl rfl rfl H.out.f.2 rfl rfl ?_; intro gm wv hg_ h1_ hb_; have n0_ := Aside0.mk ((H.out.on hb_).add (sta_blk _ _) (h1_)); clear H; have H := n0_; clear n0_; clear h1_ hb_ hg_))
  go_upto_region 4 with (first | ((with_reducible refine gate_dst (N := 17) rfl ?_); (try (refine gate_guard (by rfl) ?_; dsimp only)); refine ev_get (x := .tmp 4) rfl rfl rfl H.out.f.2 H.out.f.1.2 ?_) | (go_at_call 15; (with_reducible refine ((show Calls Try.prog 15 #[.agg cz] _ _ from by have := few_msg (H.out.f.1.2); rw [HFW.out] at this; exact this)).mono ?_); rintro en wf ⟨rfl, hb_⟩; have n0_ := Aside0.mk (H.out.on hb_); clear H; have H := n0_; clear n0_; clear hb_))
  go_upto_region 7 with (first | ((with_reducible refine gate_dst (N := 23) rfl ?_); (try (refine gate_guard (by rfl) ?_; dsimp only)); refine ev_get (x := .tmp 4) rfl rfl rfl H.out.f.2 H.out.f.1.2 ?_) | (go_at_call 16; (with_reducible refine (WriteC.c HW0.out H.out.f.1.2).mono ?_); rintro en wwa ⟨Aa, ca, rfl, hz_, hr_, hb_⟩; have n0_ := Aside0.mk ((H.out.on hb_).add (sta_C _ _ _ _) (hr_)); clear H; have H := n0_; clear n0_; have Za := Aside0.mk hz_; clear hb_ hr_ hz_))
  go_upto_region 8 with (first | ((with_reducible refine gate_dst (N := 28) rfl ?_); (try (refine gate_guard (by rfl) ?_; dsimp only)); refine ev_get (x := .tmp 4) rfl rfl rfl H.out.f.1.2 H.out.f.1.1.2 ?_) | (go_at_call 16; (with_reducible refine (WriteC.c HW1.out H.out.f.1.1.2).mono ?_); rintro en wwb ⟨Ab, cb, rfl, hz_, hr_, hb_⟩; have n0_ := Aside0.mk ((H.out.on hb_).add (sta_C _ _ _ _) (hr_)); clear H; have H := n0_; clear n0_; have Zb := Aside0.mk hz_; clear hb_ hr_ hz_))
  have HB := Aside0.mk H.out.b
  have RA := Aside0.mk (H.out.f.1.2)
  have RB := Aside0.mk (H.out.f.2)
  have RL := Aside0.mk (H.out.f.1.1.1.1.2)
  clear H
  go_wp2
  go_loopw [10, 11, 12] (fun v10 v11 v12 wr => ∃ j : Nat, j ≤ l.length ∧ v10 = .bool (wantB l j) ∧ v11 = .int .i64 ((flat false (l.take j)).length : Int) ∧ v12 = .int .i64 (j : Int) ∧ Aside0 (Below w.heap.size w wr) ∧ Aside0 (Kd.C (Kd.int .u8) wr Aa R.1.length R.1) ∧ Aside0 (Kd.C (Kd.int .u8) wr Ab R.1.length R.1) ∧ Aside0 (Kd.C k43 wr A l.length l)) (fun _ _ i _ => l.length - (intOf i).toNat)
  case atStart => exact ⟨0, Nat.zero_le _, by simp [wantB], by simp [flat], rfl, HB, RA, RB, RL⟩
  case round =>
    clear HB RA RB RL
    obtain ⟨j, hj, rfl, rfl, rfl, HB, RA, RB, RL⟩ := hrel
    obtain ⟨s, es_⟩ : ∃ z : Int, z = ((flat false (l.take j)).length : Int) := ⟨_, rfl⟩
    have hsb := flat_le false l j EL.out.2 EL.out.1
    have s0 : 0 ≤ s := by omega
    have s1 : s ≤ 20350 := by omega
    rw [← es_]
    have ES := Aside0.mk es_
    clear es_ hsb
    obtain ⟨wb, ew_⟩ : ∃ z, z = wantB l j := ⟨_, rfl⟩
    rw [← ew_]
    have EW := Aside0.mk ew_
    clear ew_
    by_cases hlt : j < l.length
    · have p1 : (0 : Int) ≤ (j : Int) := by omega
      have p2 : (j : Int) < (l.length : Int) := by omega
      have hj1 : j + 1 ≤ l.length := by omega
      have hj5 : j + 1 ≤ 50 := by have := EL.out.1; omega
      obtain ⟨ad, A3, c3, ea, x0, x1, x2, x3, g1, q1⟩ := at_T43 RL.out (j : Int) p1 p2
      cases ea
      obtain ⟨x, ex⟩ : ∃ z, z = rd_T43 l (j : Int) := ⟨_, rfl⟩
      rw [← ex] at x0 x1 x2 x3 g1 q1
      simp only [Int.toNat_natCast] at x0 x1 x2 x3
      have hxl : l[j] = x := by rw [ex]; exact (rd_at l j (List.drop_eq_getElem_cons hlt)).1.symm
      have GXX := Aside0.mk (GX.out x (by rw [← hxl]; exact List.getElem_mem hlt))
      obtain ⟨f2l, f2h⟩ := GXX.out.2.2.1
      have hx2 := EL.out.2 x (by rw [← hxl]; exact List.getElem_mem hlt)
      have HXL := Aside0.mk hxl
      have EX := Aside0.mk ex
      have Q1 := Aside0.mk q1
      have G1 := Aside0.mk g1
      have hw1 : wrap64 (2 * (x.f3.length : Int)) = 2 * (x.f3.length : Int) := wrap64_id (by omega) (by omega)
      have hw2 : wrap64 (s + 7) = s + 7 := wrap64_id (by omega) (by omega)
      have hw3 : wrap64 (s + 7 + 2 * (x.f3.length : Int)) = s + 7 + 2 * (x.f3.length : Int) := wrap64_id (by omega) (by omega)
      clear ex hxl q1 g1
      go_upto_region 15 with (fail)
      by_cases hk : okB x = true
      · have HK := Aside0.mk hk
        obtain ⟨c1_, c2_, c3_, c4_⟩ := ok_facts hk
        clear hk
        go_wp2
        clear hw1 hw2 hw3
        go_roundw
        case rel => exact ⟨j + 1, hj1, (by rw [want_one l j hlt, HXL.out, HK.out, ← EW.out, Bool.and_true]), echo_sum ES.out HXL.out hlt, by go_num, ⟨HB.out.trans ((below_alloc (Below.refl _ _) _).mono HB.out.size)⟩, ⟨Kd.C_below RA.out (below_alloc (Below.refl _ _) _)⟩, ⟨Kd.C_below RB.out (below_alloc (Below.refl _ _) _)⟩, ⟨Kd.C_below RL.out (below_alloc (Below.refl _ _) _)⟩⟩
        case measure => simp [intOf]; omega
      · have HK := Aside0.mk hk
        rcases bad_facts hk with c1_ | ⟨c1_, c2_⟩ | ⟨c1_, c2_, c3_⟩ | ⟨c1_, c2_, c3_, c4_⟩ <;> clear hk
        · go_wp2
          clear hw1 hw2 hw3
          go_roundw
          case rel => exact ⟨j + 1, hj1, (by rw [want_one l j hlt, HXL.out, Bool.eq_false_iff.2 HK.out, Bool.and_false]), echo_sum ES.out HXL.out hlt, by go_num, ⟨HB.out.trans ((below_alloc (Below.refl _ _) _).mono HB.out.size)⟩, ⟨Kd.C_below RA.out (below_alloc (Below.refl _ _) _)⟩, ⟨Kd.C_below RB.out (below_alloc (Below.refl _ _) _)⟩, ⟨Kd.C_below RL.out (below_alloc (Below.refl _ _) _)⟩⟩
          case measure => simp [intOf]; omega
        · go_wp2
          clear hw1 hw2 hw3
          go_roundw
          case rel => exact ⟨j + 1, hj1, (by rw [want_one l j hlt, HXL.out, Bool.eq_false_iff.2 HK.out, Bool.and_false]), echo_sum ES.out HXL.out hlt, by go_num, ⟨HB.out.trans ((below_alloc (Below.refl _ _) _).mono HB.out.size)⟩, ⟨Kd.C_below RA.out (below_alloc (Below.refl _ _) _)⟩, ⟨Kd.C_below RB.out (below_alloc (Below.refl _ _) _)⟩, ⟨Kd.C_below RL.out (below_alloc (Below.refl _ _) _)⟩⟩
          case measure => simp [intOf]; omega
        · go_wp2
          clear hw1 hw2 hw3
          go_roundw
          case rel => exact ⟨j + 1, hj1, (by rw [want_one l j hlt, HXL.out, Bool.eq_false_iff.2 HK.out, Bool.and_false]), echo_sum ES.out HXL.out hlt, by go_num, ⟨HB.out.trans ((below_alloc (Below.refl _ _) _).mono HB.out.size)⟩, ⟨Kd.C_below RA.out (below_alloc (Below.refl _ _) _)⟩, ⟨Kd.C_below RB.out (below_alloc (Below.refl _ _) _)⟩, ⟨Kd.C_below RL.out (below_alloc (Below.refl _ _) _)⟩⟩
          case measure => simp [intOf]; omega
        · go_wp2
          clear hw1 hw2 hw3
          go_roundw
          case rel => exact ⟨j + 1, hj1, (by rw [want_one l j hlt, HXL.out, Bool.eq_false_iff.2 HK.out, Bool.and_false]), echo_sum ES.out HXL.out hlt, by go_num, ⟨HB.out.trans ((below_alloc (Below.refl _ _) _).mono HB.out.size)⟩, ⟨Kd.C_below RA.out (below_alloc (Below.refl _ _) _)⟩, ⟨Kd.C_below RB.out (below_alloc (Below.refl _ _) _)⟩, ⟨Kd.C_below RL.out (below_alloc (Below.refl _ _) _)⟩⟩
          case measure => simp [intOf]; omega
    · have p2 : ¬ (j : Int) < (l.length : Int) := by omega
      have EJ := Aside0.mk (show j = l.length by omega)
      clear hlt hj
      rcases HRE.out with ⟨r1, r2, r3⟩ | ⟨r1, r2⟩
      · have hw : wb = true := by rw [EW.out, EJ.out]; exact r2
        subst hw
        have hs3 : s ≤ 251 := by rw [ES.out, EJ.out, List.take_length]; omega
        have e0 : (R.2 == 0) = true := beq_iff_eq.2 r1
        clear r1 r2 r3
        go_wp2_with (first | (go_at_call 18; (with_reducible refine (same_e HRB.out rfl (n := R.1.length) (m := R.1.length) rfl rfl RA.out Za.out RB.out Zb.out).mono ?_); rintro en we1 ⟨rfl, hb_⟩; have n0_ := Aside0.mk (HB.out.trans (hb_.mono HB.out.size)); clear HB hb_; have HB := n0_; clear n0_))
        go_ret
        exact ⟨by first | rfl | (simp; done) | (simp; omega), HB.out⟩
      · have e0 : (R.2 == 0) = false := by rw [r1]; rfl
        cases hwb : wb with
        | false =>
          clear r1 r2
          go_wp2_with (first | (go_at_call 18; (with_reducible refine (same_e HRB.out rfl (n := R.1.length) (m := R.1.length) rfl rfl RA.out Za.out RB.out Zb.out).mono ?_); rintro en we1 ⟨rfl, hb_⟩; have n0_ := Aside0.mk (HB.out.trans (hb_.mono HB.out.size)); clear HB hb_; have HB := n0_; clear n0_))
          go_ret
          exact ⟨by first | rfl | (simp; done) | (simp; omega), HB.out⟩
        | true =>
          have hnw : ¬ (flat false l).length ≤ 251 := fun h => r2 (And.intro (EJ.out ▸ (EW.out.symm.trans hwb)) h)
          have hs3 : 251 < s := echo_big ES.out EJ.out hnw
          clear hnw
          clear r1 r2
          go_wp2_with (first | (go_at_call 18; (with_reducible refine (same_e HRB.out rfl (n := R.1.length) (m := R.1.length) rfl rfl RA.out Za.out RB.out Zb.out).mono ?_); rintro en we1 ⟨rfl, hb_⟩; have n0_ := Aside0.mk (HB.out.trans (hb_.mono HB.out.size)); clear HB hb_; have HB := n0_; clear n0_))
          go_ret
          exact ⟨by first | rfl | (simp; done) | (simp; omega), HB.out⟩
theorem busbarlaw11_FilesEchoes (A : Option Addr) (c : Nat) (l : List S43) (w : World) (hr : Kd.C k43 w A l.length l) (hc : l.length ≤ c) (hm : l.length ≤ maxLen) (hw : ∀ x ∈ l, (Lit.int .u16 x.f0).wf = true ∧ (Lit.int .u16 x.f1).wf = true ∧ (Lit.int .u16 x.f2).wf = true ∧ x.f3.length ≤ maxLen ∧ ∀ y ∈ x.f3, (Lit.int .u16 y).wf = true) :
    Calls Try.prog 7 #[.slice A l.length c] w fun en w' => en = .returned (.bool true) ∧ Below w.heap.size w w' := by
  have hg : ∀ x ∈ l, goodRec x := fun x hx => ⟨u16_wf (hw x hx).1, u16_wf (hw x hx).2.1, u16_wf (hw x hx).2.2.1, fun y hy => u16_wf ((hw x hx).2.2.2.2 y hy)⟩
  cases hf : fewB (mkF 21 l) with
  | false => exact Echoes_many hr hc hg hf
  | true => exact Echoes_few hr hc hg hf
end Go.Proofs.Ytdjeekpgcjcffaa.Laws
end
