/- The law FilesFits: its walk, and the plain law. Conditions: what each theorem states. -/
import Derived.Test.YtdjeekpgcjcffaaUD
set_option linter.unusedVariables false
set_option linter.unusedSimpArgs false
set_option maxHeartbeats 16000000
set_option maxRecDepth 100000
section
namespace Go.Proofs.Ytdjeekpgcjcffaa.Laws
open Go.RowKit Go.Proofs.Ytdjeekpgcjcffaa.P Go.Proofs.Ytdjeekpgcjcffaa.E Go.Proofs.Ytdjeekpgcjcffaa.Cur Go.Proofs.Ytdjeekpgcjcffaa.Cu Go.Proofs.Ytdjeekpgcjcffaa.Same Go.Proofs.Ytdjeekpgcjcffaa.Put Go.Proofs.Ytdjeekpgcjcffaa.Com Go.Proofs.Ytdjeekpgcjcffaa.Fil Go.Proofs.YtdjeekpgcjcffaaW.PrintWords Go.Proofs.YtdjeekpgcjcffaaW.PrintLast Go.Proofs.YtdjeekpgcjcffaaW.PrintMore
def ansL (l : List S43) : List S43 := l.map fun x => ⟨0, 0, 0, List.replicate x.f2.toNat 0⟩
theorem ans_part (x : S43) (h : 0 ≤ x.f2) : ((partL true (⟨0, 0, 0, List.replicate x.f2.toNat 0⟩ : S43)).length : Int) = 2 + 2 * x.f2 := by
  unfold partL
  simp [putL_length]
  omega
theorem fits_all : ∀ (l : List S43) (s : Int), 0 ≤ s → s ≤ 245 → (∀ x ∈ l, goodRec x) → okAll 0 s l → (∀ x ∈ l, 1 ≤ x.f2 ∧ x.f2 ≤ 121) ∧ s + ((flat true (ansL l)).length : Int) ≤ 245 ∧ (∀ t, okAll 1 t (ansL l))
  | [], s, h0, h1, _, _ => ⟨fun x hx => by simp at hx, by simp [ansL, flat]; omega, fun t => trivial⟩
  | x :: r, s, h0, h1, hg, h => by
    obtain ⟨a1, a2, a3⟩ := h
    rw [if_pos rfl] at a3
    have b := a2 rfl
    have gx := hg x List.mem_cons_self
    have c1 : 0 ≤ x.f2 := gx.2.2.1.1
    have c2 : x.f2 ≠ 0 := by
      unfold okPart at a1
      rw [if_neg (by decide)] at a1
      exact a1.1.2.2
    obtain ⟨d1, d2, d3⟩ := fits_all r (s + (2 + 2 * x.f2)) (by omega) b (fun y hy => hg y (List.mem_cons_of_mem _ hy)) a3
    have e := ans_part x c1
    refine ⟨fun y hy => ?_, ?_, fun t => ⟨?_, fun h => absurd h (by decide), ?_⟩⟩
    · rcases List.mem_cons.1 hy with rfl | hy
      · omega
      · exact d1 y hy
    · simp only [ansL, List.map_cons, flat, List.length_append]
      have d2' : s + (2 + 2 * x.f2) + ((flat true (r.map fun x => (⟨0, 0, 0, List.replicate x.f2.toNat 0⟩ : S43))).length : Int) ≤ 245 := d2
      omega
    · unfold okPart
      rw [if_pos rfl]
      refine ⟨rfl, rfl, rfl, ?_, ?_⟩ <;> simp <;> omega
    · rw [if_neg (by decide)]
      exact d3 t
theorem fits_good {l : List S43} : ∀ x ∈ ansL l, goodRec x := fun x hx => by
  obtain ⟨y, _, rfl⟩ := List.mem_map.1 hx
  exact ⟨by simp, by simp, by simp, fun z hz => by rw [List.eq_of_mem_replicate hz]; omega⟩
theorem fits_res {l : List S43} (hg : ∀ x ∈ l, goodRec x) (h : mayW 0 (mkF 20 l)) : write 1 (mkF 20 (ansL l)) = (lay 1 (mkF 20 (ansL l)), 0) ∧ (lay 1 (mkF 20 (ansL l))).length ≤ 246 ∧ ∀ x ∈ l, 1 ≤ x.f2 ∧ x.f2 ≤ 121 := by
  obtain ⟨_, _, h3, h4⟩ := h
  have h3 : may0 ((flat false l).length : Int) = true := h3
  have h4 : okAll 0 0 l := h4
  obtain ⟨d1, d2, d3⟩ := fits_all l 0 (by omega) (by omega) hg h4
  have hl : (lay 1 (mkF 20 (ansL l))).length = (flat true (ansL l)).length + 1 := rfl
  have h7 : 7 ≤ ((flat false l).length : Int) := by
    unfold may0 at h3
    simp only [Bool.and_eq_true, decide_eq_true_eq] at h3
    exact h3.1.1
  have h5 : 4 ≤ (flat true (ansL l)).length := by
    cases l with
    | nil => simp [flat] at h7
    | cons x r =>
      have e := ans_part x (by have := (d1 x List.mem_cons_self).1; omega)
      have := (d1 x List.mem_cons_self).1
      simp only [ansL, List.map_cons, flat, List.length_append]
      omega
  refine ⟨write_yes (mkF_good (by decide) fits_good) ⟨⟨.inr rfl, .inl rfl⟩, rfl, ?_, d3 0⟩, by omega, d1⟩
  show may1 ((flat true (ansL l)).length : Int) = true
  unfold may1
  simp only [Bool.and_eq_true, decide_eq_true_eq]
  omega
theorem ans_take {l : List S43} {j : Nat} {x : S43} (hj : j < l.length) (hx : l[j] = x) : ansL (l.take (j + 1)) = ansL (l.take j) ++ [⟨0, 0, 0, List.replicate x.f2.toNat 0⟩] := by
  rw [List.take_succ_eq_append_getElem hj, hx]
  simp [ansL]
structure FQ (w0 : World) (B gm : Nat) (W : World) (os : List S43) (raws : List RawR) (v : Value) : Prop where
  b : Below w0.heap.size w0 W
  msg : W.heap[gm]? = some (.cells ((codeC 20).setIfInBounds 15 v) 30 (0, 0))
  row : Kd.R kRawR 43 W B (fun k => B ≤ k) v raws
  zip : Zip (fun r o => goodR o ∧ ∀ W', Kept W W' (fun k => k < B ∨ v.ownBlock = some k) → FitsR W' r o) raws os
  g : w0.heap.size ≤ gm ∧ gm < B ∧ B ≤ W.heap.size
section
variable {w0 W W' : World} {B gm : Nat} {os : List S43} {raws : List RawR} {v : Value}
theorem FQ.own (h : FQ w0 B gm W os raws v) (k : Nat) (hk : v.ownBlock = some k) : B ≤ k ∧ k < W.heap.size := by
  have := (Kd.R_bound h.row).1 k hk
  exact ⟨this.1, this.2.2.1⟩
theorem FQ.below (h : FQ w0 B gm W os raws v) (hb : Below W.heap.size W W') : FQ w0 B gm W' os raws v := by
  have hg := h.g
  have hs := hb.size
  have kk : Kept W W' (fun k => k < B ∨ v.ownBlock = some k) := Kept.of_below hb _
  refine ⟨h.b.trans (hb.mono h.b.size), blk_below h.msg hb, ?_, h.zip.imp fun _ _ z => ⟨z.1, fun W2 hk => z.2 W2 (kk.then_ hk fun j hj => .inl hj)⟩, ⟨hg.1, hg.2.1, by omega⟩⟩
  exact Kd.R_mono (Kd.R_move (Kd.R_bound h.row) fun j hj => (Kept.of_below hb (fun _ => False)).2 j hj.2.2.1 (fun e => e)) fun j hj => hj.1
theorem FQ.drew (h : FQ w0 B gm W os raws v) : FQ w0 B gm W.drew os raws v := h.below (below_drew (Below.refl _ _))
theorem FQ.at (h : FQ w0 B gm W os raws v) : W.cell? ⟨gm, 15, none⟩ = some v ∧ W.frozen? ⟨gm, 15, none⟩ = false := ⟨blk_cell h.msg 15, blk_frozen h.msg 15⟩
theorem FQ.at' (h : FQ w0 B gm W os raws v) {w1 : World} (G : W.grownBy w1 v.ownBlock) : w1.cell? ⟨gm, 15, none⟩ = some v ∧ w1.frozen? ⟨gm, 15, none⟩ = false := by
  have hg := h.g
  have a3 := blk_kept h.msg ((Kept.refl W (fun k => v.ownBlock = some k)).of_grown G (fun k hk => .inl hk)) (fun e => by have := (h.own _ e).1; omega)
  exact ⟨blk_cell a3 15, blk_frozen a3 15⟩
theorem FQ.push (h : FQ w0 B gm W os raws v) {r : RawR} {o : S43} (hg : goodR o) (hz : ∀ W', Kept W W' (fun k => k < B ∨ v.ownBlock = some k) → FitsR W' r o) {v1 : Value} {w1 : World} (R1 : Kd.R kRawR 43 w1 B (fun k => B ≤ k) v1 (raws ++ [r])) (B1 : Below B W w1) (G : W.grownBy w1 v.ownBlock) (hv : v1.ownBlock = v.ownBlock ∨ ∃ b, v1.ownBlock = some b ∧ W.heap.size ≤ b) :
    FQ w0 B gm (w1.setCell ⟨gm, 15, none⟩ v1) (os ++ [o]) (raws ++ [r]) v1 := by
  have hgg := h.g
  have k1 : Kept W w1 (fun k => v.ownBlock = some k) := (Kept.refl W _).of_grown G (fun k hk => .inl hk)
  have u2 := up_set w1 gm 15 v1
  have k2 := u2.kept
  have kk : Kept W (w1.setCell ⟨gm, 15, none⟩ v1) (fun k => k < B ∨ v.ownBlock = some k) := (k1.mono fun j hj => .inr hj).then_ k2 (fun j hj => .inl (.inl (by omega)))
  have hs : W.heap.size ≤ w1.heap.size := B1.size |> fun _ => k1.1
  have turn : ∀ W', Kept (w1.setCell ⟨gm, 15, none⟩ v1) W' (fun k => k < B ∨ v1.ownBlock = some k) → Kept W W' (fun k => k < B ∨ v.ownBlock = some k) := fun W' hk => kk.then_ hk (fun j hj => by
    rcases hj with hj | hj
    · exact .inl (.inl hj)
    · rcases hv with e | ⟨b, e, hb⟩
      · exact .inl (.inr (e ▸ hj))
      · rw [e] at hj
        have := Option.some.inj hj
        exact .inr (by omega))
  have m1 := blk_kept h.msg k1 (fun e => by have := (h.own _ e).1; omega)
  have m2 := blk_put m1 15 v1 rfl
  have hc : ((codeC 20).setIfInBounds 15 v).setIfInBounds 15 v1 = (codeC 20).setIfInBounds 15 v1 := by simp [codeC]
  rw [hc] at m2
  refine ⟨(h.b.trans (B1.mono (by omega))).trans (u2.below (by omega) (by have := h.b.size; omega)), m2, ?_, (h.zip.imp fun _ _ z => ⟨z.1, fun W' hk => z.2 W' (turn W' hk)⟩).snoc ⟨hg, fun W' hk => hz W' (turn W' hk)⟩, ⟨hgg.1, hgg.2.1, by have := k2.1; omega⟩⟩
  exact Kd.R_mono (Kd.R_move (Kd.R_bound R1) fun j hj => k2.2 j hj.2.2.1 fun e => by have := hj.1; omega) fun j hj => hj.1
theorem FQ.few (h : FQ w0 B gm W os raws v) : raws.length = os.length := h.zip.1
theorem FQ.is (h : FQ w0 B gm W os raws v) : IsMsg W ((codeC 20).setIfInBounds 15 v) (mkF 20 os) := by
  obtain ⟨A, n, rfl, hn, hC⟩ := Kd.R_reads h.row
  have hl := h.zip.1
  rw [hl] at hn hC ⊢
  exact mkF_is (by decide) hn (fun o ho => (h.zip.mem o ho).elim fun _ z => z.1) (zipR_C hC (h.zip.imp fun _ _ z => z.2 W (Kept.refl _ _)))
theorem FQ.first {w wv : World} {gm : Nat} (hb : Below w.heap.size w wv) (hg : w.heap.size ≤ gm) (h1 : wv.heap[gm]? = some (.cells (codeC 20) 30 (0, 0))) : FQ w wv.heap.size gm wv [] [] (.slice none 0 0) :=
  ⟨hb, h1, Kd.R_nil _ _ _ _ _, Zip.nil _, ⟨hg, blk_lt h1, Nat.le_refl _⟩⟩
end
theorem fits_len {l : List S43} (hf : fewB (mkF 20 l) = true) : l.length ≤ 50 := by
  unfold fewB at hf
  simp only [Bool.and_eq_true, decide_eq_true_eq, List.all_eq_true] at hf
  exact hf.1.2.2.2.1
theorem fits_made {W y2 W' : World} {B n : Nat} {v : Value} {A5 : Option Addr} {n5 : Nat} {bs : Nat} (R5 : Kd.R (Kd.int .u16) 24 y2 bs (fun k => W.heap.size ≤ k) (.slice A5 n n5) (List.replicate n 0)) (hB : B ≤ W.heap.size) (hV : ∀ k, v.ownBlock = some k → k < W.heap.size) (hk : Kept y2 W' (fun k => k < B ∨ v.ownBlock = some k)) : Kd.C (Kd.int .u16) W' A5 (List.replicate n (0 : Int)).length (List.replicate n (0 : Int)) := by
  have R2 : Kd.R (Kd.int .u16) 24 W' bs (fun k => W.heap.size ≤ k) (.slice A5 n n5) (List.replicate n 0) := Kd.R_mono (Kd.R_move (Kd.R_bound R5) fun j hj => hk.2 j hj.2.2.1 fun e => by
    have := hj.1
    rcases e with e | e
    · omega
    · have := hV j e; omega) fun j hj => hj.1
  obtain ⟨A2, n2, e2, _, hC2⟩ := Kd.R_reads R2
  rw [List.length_replicate] at e2
  obtain ⟨rfl, _, _⟩ := Value.slice.inj e2
  exact hC2
theorem Fits_keep {w0 W y2 y3 : World} {B gm : Nat} {os : List S43} {raws : List RawR} {v : Value} {p : Addr} {u : Value} (h : FQ w0 B gm y2 os raws v) (hb : Below W.heap.size W y2) (hx : W.cell? p = some u) (hB : p.block < B) (G : y2.grownBy y3 v.ownBlock) : y3.cell? p = some u := by
  have k1 : Kept y2 y3 (fun k => v.ownBlock = some k) := (Kept.refl y2 _).of_grown G (fun k hk => .inl hk)
  have h2 := (hb.cell (World.block_lt_of_cell? _ _ hx)).trans hx
  exact Go.Proofs.YtdjeekpgcjcffaaW.PrintWords.cell_kept h2 k1 (fun e => by have := (h.own _ e).1; omega)
def fit.T15 : Bool × List (List Nat × List Nat) := (true, [([], []), ([0], [0]), ([], []), ([], []), ([2, 3], [2, 3]), ([4], [4]), ([5], [5]), ([6], [6]), ([7, 7], [7]), ([8], [8]), ([9], [9]), ([1, 10], [1, 10]), ([0, 1, 2, 3, 4, 5, 6, 7, 8, 9, 10, 11], []), ([12, 11, 11, 0, 1, 2, 3, 4, 5, 6, 7, 8, 9, 10, 11], [11, 12])])
def fit.B15 : List Nat := [0, 1, 0, 0, 12, 28, 60, 124, 252, 508, 1020, 2047, 4095, 8191]
theorem fit.tab15 : rtab .any (opsOf Try.f6 15) = fit.T15 := by kernel_rfl
theorem fit.bits15 : waitsOk fit.T15.2 fit.B15 = true := by kernel_rfl
theorem Fits_many {A : Option Addr} {c : Nat} {l : List S43} {w : World} (hr : Kd.C k43 w A l.length l) (hc : l.length ≤ c) (hg : ∀ x ∈ l, goodRec x) (hf : fewB (mkF 20 l) = false) :
    Calls Try.prog 6 #[.slice A l.length c] w fun en w' => en = .returned (.bool true) ∧ Below w.heap.size w w' := by
  have HR := Aside0.mk hr
  have GX := Aside0.mk hg
  have HC := Aside0.mk hc
  have H := Aside0.mk (Hd.start w)
  have n0_ := Aside0.mk ((H.out).add (sta_R _ _ _) (hr))
  clear H
  have H := n0_
  clear n0_
  clear hr hc hg
  have HFW := Aside0.mk hf
  clear hf
  go_enter Try.func6, Try.ntmps6
  go_upto_region 2 with (first | (go_at_call 11; (with_reducible refine (AwakeC.c awake_c _).mono ?_); rintro en wa ⟨rfl, hb_⟩; have n0_ := Aside0.mk (H.out.on hb_); clear H; have H := n0_; clear n0_; clear hb_))
  go_upto_region 3 with (first | ((with_reducible refine gate_dst (N := 14) rfl ?_); (try (refine gate_guard (by rfl) ?_; dsimp only)); refine ev_build ((codeC 20).setIfInBounds 15 (.slice A l.length c)) rfl (by first | (go_simp; done) | (go_simp; rfl)) ?_; intro cz hcx_; have mx_ := (show IsMsg _ ((codeC 20).setIfInBounds 15 (.slice A l.length c)) (mkF 20 l) from (mkF_is (code := 20) (l := l) (by decide) (n := c) HC.out (fun o ho => GX.out o ho) (H.out.f.2))); rw [← hcx_] at mx_; have n0_ := Aside0.mk ((H.out).add (sta_msg _ _) (mx_)); clear H; have H := n0_; clear n0_; clear hcx_ mx_) | ((with_reducible refine gate_dst (N := 4) rfl ?_); refine ev_var (y := .tmp 14) rfl rfl rfl rfl rfl H.out.f.2 rfl rfl ?_; intro gm wv hg_ h1_ hb_; have n0_ := Aside0.mk ((H.out.on hb_).add (sta_blk _ _) (h1_)); clear H; have H := n0_; clear n0_; clear h1_ hb_ hg_))
  go_upto_region 4 with (first | ((with_reducible refine gate_dst (N := 15) rfl ?_); (try (refine gate_guard (by rfl) ?_; dsimp only)); refine ev_get (x := .tmp 4) rfl rfl rfl H.out.f.2 H.out.f.1.2 ?_) | (go_at_call 15; (with_reducible refine ((show Calls Try.prog 15 #[.agg cz] _ _ from by have := few_msg (H.out.f.1.2); rw [HFW.out] at this; exact this)).mono ?_); rintro en wf ⟨rfl, hb_⟩; have n0_ := Aside0.mk (H.out.on hb_); clear H; have H := n0_; clear n0_; clear hb_))
  go_wp2
  go_ret
  exact ⟨rfl, H.out.b⟩
theorem Fits_no {A : Option Addr} {c : Nat} {l : List S43} {w : World} (hr : Kd.C k43 w A l.length l) (hc : l.length ≤ c) (hg : ∀ x ∈ l, goodRec x) (hf : fewB (mkF 20 l) = true) (hk : (write 0 (mkF 20 l)).2 ≠ 0) :
    Calls Try.prog 6 #[.slice A l.length c] w fun en w' => en = .returned (.bool true) ∧ Below w.heap.size w w' := by
  have HR := Aside0.mk hr
  have GX := Aside0.mk hg
  have HC := Aside0.mk hc
  have H := Aside0.mk (Hd.start w)
  have n0_ := Aside0.mk ((H.out).add (sta_R _ _ _) (hr))
  clear H
  have H := n0_
  clear n0_
  clear hr hc hg
  have HFW := Aside0.mk hf
  obtain ⟨R, hR⟩ : ∃ z, z = write 0 (mkF 20 l) := ⟨_, rfl⟩
  have hs_ := few_small hf 0
  have HW0 := Aside0.mk (show WriteC 16 0 (mkF 20 l) R from by rw [hR]; exact write_c hs_.1 hs_.2.1)
  have EL := Aside0.mk (fits_len hf)
  rw [← hR] at hk
  have e0 : (R.2 != 0) = true := by simpa using hk
  clear hR hs_ hf hk
  go_enter Try.func6, Try.ntmps6
  go_upto_region 2 with (first | (go_at_call 11; (with_reducible refine (AwakeC.c awake_c _).mono ?_); rintro en wa ⟨rfl, hb_⟩; have n0_ := Aside0.mk (H.out.on hb_); clear H; have H := n0_; clear n0_; clear hb_))
  go_upto_region 3 with (first | ((with_reducible refine gate_dst (N := 14) rfl ?_); (try (refine gate_guard (by rfl) ?_; dsimp only)); refine ev_build ((codeC 20).setIfInBounds 15 (.slice A l.length c)) rfl (by first | (go_simp; done) | (go_simp; rfl)) ?_; intro cz hcx_; have mx_ := (show IsMsg _ ((codeC 20).setIfInBounds 15 (.slice A l.length c)) (mkF 20 l) from (mkF_is (code := 20) (l := l) (by decide) (n := c) HC.out (fun o ho => GX.out o ho) (H.out.f.2))); rw [← hcx_] at mx_; have n0_ := Aside0.mk ((H.out).add (sta_msg _ _) (mx_)); clear H; have H := n0_; clear n0_; clear hcx_ mx_) | ((with_reducible refine gate_dst (N := 4) rfl ?_); refine ev_var (y := .tmp 14) rfl rfl rfl rfl rfl H.out.f.2 rfl rfl ?_; intro gm wv hg_ h1_ hb_; have n0_ := Aside0.mk ((H.out.on hb_).add (sta_blk _ _) (h1_)); clear H; have H := n0_; clear n0_; clear h1_ hb_ hg_))
  go_upto_region 4 with (first | ((with_reducible refine gate_dst (N := 15) rfl ?_); (try (refine gate_guard (by rfl) ?_; dsimp only)); refine ev_get (x := .tmp 4) rfl rfl rfl H.out.f.2 H.out.f.1.2 ?_) | (go_at_call 15; (with_reducible refine ((show Calls Try.prog 15 #[.agg cz] _ _ from by have := few_msg (H.out.f.1.2); rw [HFW.out] at this; exact this)).mono ?_); rintro en wf ⟨rfl, hb_⟩; have n0_ := Aside0.mk (H.out.on hb_); clear H; have H := n0_; clear n0_; clear hb_))
  go_upto_region 7 with (first | ((with_reducible refine gate_dst (N := 21) rfl ?_); (try (refine gate_guard (by rfl) ?_; dsimp only)); refine ev_get (x := .tmp 4) rfl rfl rfl H.out.f.2 H.out.f.1.2 ?_) | (go_at_call 16; (with_reducible refine (WriteC.c HW0.out H.out.f.1.2).mono ?_); rintro en wwa ⟨Aa, ca, rfl, hz_, hr_, hb_⟩; have n0_ := Aside0.mk ((H.out.on hb_).add (sta_C _ _ _ _) (hr_)); clear H; have H := n0_; clear n0_; have Za := Aside0.mk hz_; clear hb_ hr_ hz_))
  go_wp2
  go_ret
  exact ⟨rfl, H.out.b⟩
theorem Fits_yes {A : Option Addr} {c : Nat} {l : List S43} {w : World} (hr : Kd.C k43 w A l.length l) (hc : l.length ≤ c) (hg : ∀ x ∈ l, goodRec x) (hf : fewB (mkF 20 l) = true) (hk : (write 0 (mkF 20 l)).2 = 0) :
    Calls Try.prog 6 #[.slice A l.length c] w fun en w' => en = .returned (.bool true) ∧ Below w.heap.size w w' := by
  have HR := Aside0.mk hr
  have GX := Aside0.mk hg
  have HC := Aside0.mk hc
  have H := Aside0.mk (Hd.start w)
  have n0_ := Aside0.mk ((H.out).add (sta_R _ _ _) (hr))
  clear H
  have H := n0_
  clear n0_
  clear hr hc hg
  have HFW := Aside0.mk hf
  obtain ⟨R, hR⟩ : ∃ z, z = write 0 (mkF 20 l) := ⟨_, rfl⟩
  have hs_ := few_small hf 0
  have HW0 := Aside0.mk (show WriteC 16 0 (mkF 20 l) R from by rw [hR]; exact write_c hs_.1 hs_.2.1)
  have EL := Aside0.mk (fits_len hf)
  rw [← hR] at hk
  have e0 : (R.2 != 0) = false := by rw [hk]; rfl
  have hmay := write_ok (mkF_good (code := 20) (by decide) GX.out) (by rw [← hR]; exact hk)
  obtain ⟨f1_, f2_, f3_⟩ := fits_res GX.out hmay
  obtain ⟨L, eL_⟩ : ∃ z, z = lay 1 (mkF 20 (ansL l)) := ⟨_, rfl⟩
  have HW1 := Aside0.mk (show WriteC 16 1 (mkF 20 (ansL l)) (L, 0) from mk_c (by omega) (by simp [mkF, ansL]; have := EL.out; omega) (by rw [eL_]; exact f1_))
  rw [← eL_] at f2_
  have F3 := Aside0.mk f3_
  obtain ⟨nL, enL⟩ : ∃ z, z = L.length := ⟨_, rfl⟩
  have NL := Aside0.mk enL
  rw [← enL] at f2_
  have d246 : decide ((nL : Int) ≤ 246) = true := decide_eq_true (by omega)
  clear hR hs_ hf hk hmay f1_ f2_ f3_ eL_ enL
  go_enter Try.func6, Try.ntmps6
  go_upto_region 2 with (first | (go_at_call 11; (with_reducible refine (AwakeC.c awake_c _).mono ?_); rintro en wa ⟨rfl, hb_⟩; have n0_ := Aside0.mk (H.out.on hb_); clear H; have H := n0_; clear n0_; clear hb_))
  go_upto_region 3 with (first | ((with_reducible refine gate_dst (N := 14) rfl ?_); (try (refine gate_guard (by rfl) ?_; dsimp only)); refine ev_build ((codeC 20).setIfInBounds 15 (.slice A l.length c)) rfl (by first | (go_simp; done) | (go_simp; rfl)) ?_; intro cz hcx_; have mx_ := (show IsMsg _ ((codeC 20).setIfInBounds 15 (.slice A l.length c)) (mkF 20 l) from (mkF_is (code := 20) (l := l) (by decide) (n := c) HC.out (fun o ho => GX.out o ho) (H.out.f.2))); rw [← hcx_] at mx_; have n0_ := Aside0.mk ((H.out).add (sta_msg _ _) (mx_)); clear H; have H := n0_; clear n0_; clear hcx_ mx_) | ((with_reducible refine gate_dst (N := 4) rfl ?_); refine ev_var (y := .tmp 14) rfl rfl rfl rfl rfl H.out.f.2 rfl rfl ?_; intro gm wv hg_ h1_ hb_; have n0_ := Aside0.mk ((H.out.on hb_).add (sta_blk _ _) (h1_)); clear H; have H := n0_; clear n0_; clear h1_ hb_ hg_))
  go_upto_region 4 with (first | ((with_reducible refine gate_dst (N := 15) rfl ?_); (try (refine gate_guard (by rfl) ?_; dsimp only)); refine ev_get (x := .tmp 4) rfl rfl rfl H.out.f.2 H.out.f.1.2 ?_) | (go_at_call 15; (with_reducible refine ((show Calls Try.prog 15 #[.agg cz] _ _ from by have := few_msg (H.out.f.1.2); rw [HFW.out] at this; exact this)).mono ?_); rintro en wf ⟨rfl, hb_⟩; have n0_ := Aside0.mk (H.out.on hb_); clear H; have H := n0_; clear n0_; clear hb_))
  go_upto_region 7 with (first | ((with_reducible refine gate_dst (N := 21) rfl ?_); (try (refine gate_guard (by rfl) ?_; dsimp only)); refine ev_get (x := .tmp 4) rfl rfl rfl H.out.f.2 H.out.f.1.2 ?_) | (go_at_call 16; (with_reducible refine (WriteC.c HW0.out H.out.f.1.2).mono ?_); rintro en wwa ⟨Aa, ca, rfl, hz_, hr_, hb_⟩; have n0_ := Aside0.mk ((H.out.on hb_).add (sta_C _ _ _ _) (hr_)); clear H; have H := n0_; clear n0_; have Za := Aside0.mk hz_; clear hb_ hr_ hz_))
  have HB := Aside0.mk H.out.b
  have RL := Aside0.mk (H.out.f.1.1.1.2)
  clear H
  go_upto_region 10 with (first | ((with_reducible refine gate_dst (N := 28) rfl ?_); refine ev_build (codeC 20) rfl (by go_simp; first | rfl | done) ?_; intro cx hcx_; subst hcx_) | ((with_reducible refine gate_dst (N := 8) rfl ?_); refine ev_var (y := .tmp 28) rfl rfl rfl rfl rfl (codeC_is (code := 20) (by decide) w) rfl rfl ?_; intro g8 w8 hg_ h1_ hb_; have n1_ := Aside0.mk (Kd.C_below RL.out hb_); have HQ := Aside0.mk (FQ.first (HB.out.trans (hb_.mono HB.out.size)) (by rw [hg_]; exact HB.out.size) h1_); clear HB RL hg_ h1_ hb_; have RL := n1_; clear n1_))
  obtain ⟨B, eB_⟩ : ∃ z, z = w8.heap.size := ⟨_, rfl⟩
  rw [← eB_] at HQ
  clear eB_
  go_wp2
  go_loopw [9] (fun v9 wr => ∃ (j : Nat) (raws : List RawR) (v : Value), j ≤ l.length ∧ v9 = .int .i64 (j : Int) ∧ Aside0 (FQ w B g8 wr (ansL (l.take j)) raws v) ∧ Aside0 (Kd.C k43 wr A l.length l)) (fun i _ => l.length - (intOf i).toNat)
  case atStart => exact ⟨0, [], _, Nat.zero_le _, rfl, HQ, RL⟩
  case round =>
    clear HQ RL
    obtain ⟨j, raws, v, hj, rfl, HQ, RL⟩ := hrel
    by_cases hlt : j < l.length
    · have p1 : (0 : Int) ≤ (j : Int) := by omega
      have p2 : (j : Int) < (l.length : Int) := by omega
      have hj1 : j + 1 ≤ l.length := by omega
      have hj5 : j + 1 ≤ 50 := by have := EL.out; omega
      have HR0 := Aside0.mk RL.out
      obtain ⟨ad, A3, c3, ea, x0, x1, x2, x3, g1, q1⟩ := at_T43 RL.out (j : Int) p1 p2
      cases ea
      obtain ⟨x, ex⟩ : ∃ z, z = rd_T43 l (j : Int) := ⟨_, rfl⟩
      rw [← ex] at x0 x1 x2 x3 g1 q1
      simp only [Int.toNat_natCast] at x0 x1 x2 x3
      have hAB : (ad.add (j * 4)).block < B := by
        obtain ⟨ad2, A4, c4, ea2, y0, _⟩ := at_T43 HR.out (j : Int) p1 p2
        cases ea2
        rw [Int.toNat_natCast] at y0
        have := World.block_lt_of_cell? _ _ y0
        have := HQ.out.g
        omega
      have HAB := Aside0.mk hAB
      clear hAB
      have hxl : l[j] = x := by rw [ex]; exact (rd_at l j (List.drop_eq_getElem_cons hlt)).1.symm
      obtain ⟨z1, z2⟩ := F3.out x (by rw [← hxl]; exact List.getElem_mem hlt)
      have HXL := Aside0.mk hxl
      have d200 : decide (x.f2 > 200) = false := decide_eq_false (by omega)
      have d200b : decide (200 < x.f2) = false := d200
      have wx : IntKind.i64.wrap x.f2 = x.f2 := by rw [IntKind.wrap_i64]; omega
      have wx2 : wrap64 x.f2 = x.f2 := wrap64_id (by omega) (by omega)
      clear ex hxl q1 g1 x0 x1 x3
      go_upto_region 15 with (fail)
      have HQd := Aside0.mk HQ.out.drew
      have hv := (FQ.at HQd.out).1
      have hBs := HQd.out.g.2.2
      have xd : World.cell? _ _ = some (Value.int .u16 x.f2) := ((below_drew (Below.refl _ _)).cell (World.block_lt_of_cell? _ _ x2)).trans x2
      clear x2
      refine start_ (n := 14) (S := fun w' => w'.cell? ⟨g8, 15, none⟩ = some v ∧ w'.cell? ⟨(ad.add (j * 4)).block, (ad.add (j * 4)).off + 2, none⟩ = some (.int .u16 x.f2)) (ds := [13]) (bm 14 0) (by as_aux_lemma => kernel_rfl) rfl (by as_aux_lemma => kernel_rfl) ⟨hv, xd⟩ (fun hHeld => ?_)
      refine with_tabW fit.tab15 fit.bits15 (fun HT_ HW_ => ?_)
      refine pure_ (i := 0) (N := some 41) (v := ?_) (a' := ?_) (bm 14 1) rfl rfl (any_of HT_.out (by as_aux_lemma => kernel_rfl)) (fun _ _ _ h => h) (Or.inl ⟨by rfl, ?_⟩) ?_ ?_
      rotate_left
      · intro w'
        go_simp
        with_reducible rfl
      rotate_left
      · simp only [Act.put, List.setIfInBounds_toArray, List.set_cons_zero, List.set_cons_succ, i64_w, i32_w]
        rfl
      refine pure_ (i := 2) (N := some 43) (v := ?_) (a' := ?_) (bm 14 5) rfl rfl (any_of HT_.out (by as_aux_lemma => kernel_rfl)) (fun _ _ _ h => h) (Or.inl ⟨by rfl, ?_⟩) ?_ ?_
      rotate_left
      · intro w'
        go_simp
        with_reducible rfl
      rotate_left
      · simp only [Act.put, List.setIfInBounds_toArray, List.set_cons_zero, List.set_cons_succ, i64_w, i32_w]
        rfl
      refine pure_ (i := 3) (N := some 44) (v := ?_) (a' := ?_) (bm 14 13) rfl rfl (any_of HT_.out (by as_aux_lemma => kernel_rfl)) (fun _ _ _ h => h) (Or.inl ⟨by rfl, ?_⟩) ?_ ?_
      rotate_left
      · intro w'
        go_simp
        with_reducible rfl
      rotate_left
      · simp only [Act.put, List.setIfInBounds_toArray, List.set_cons_zero, List.set_cons_succ, i64_w, i32_w]
        rfl
      refine pure_ (i := 4) (N := some 45) (v := ?_) (a' := ?_) (bm 14 29) rfl rfl (any_of HT_.out (by as_aux_lemma => kernel_rfl)) (fun _ _ _ h => h) (Or.inl ⟨by rfl, ?_⟩) ?_ ?_
      rotate_left
      · intro w'
        go_simp
        with_reducible rfl
      rotate_left
      · simp only [Act.put, List.setIfInBounds_toArray, List.set_cons_zero, List.set_cons_succ, i64_w, i32_w]
        rfl
      refine pure_ (i := 5) (N := some 46) (v := ?_) (a' := ?_) (bm 14 61) rfl rfl (any_of HT_.out (by as_aux_lemma => kernel_rfl)) (fun _ _ _ h => h) (Or.inl ⟨by rfl, ?_⟩) ?_ ?_
      rotate_left
      · intro w'
        go_simp
        with_reducible rfl
      rotate_left
      · simp only [Act.put, List.setIfInBounds_toArray, List.set_cons_zero, List.set_cons_succ, i64_w, i32_w]
        rfl
      refine take_ (i := 1) (N := some 42) (v := ?_) (a' := ?_) (bm 14 63) rfl rfl (take_ofW HT_.out HW_.out (by as_aux_lemma => kernel_rfl)) (fun _ _ _ h => h) (Or.inl ⟨by rfl, ?_⟩) hHeld ?_ ?_
      rotate_left
      · rintro w' ⟨s0, s1⟩
        go_simp
        with_reducible rfl
      rotate_left
      · simp only [Act.put, List.setIfInBounds_toArray, List.set_cons_zero, List.set_cons_succ, i64_w, i32_w]
        rfl
      refine take_ (i := 6) (N := some 47) (v := ?_) (a' := ?_) (bm 14 127) rfl rfl (take_ofW HT_.out HW_.out (by as_aux_lemma => kernel_rfl)) (fun _ _ _ h => h) (Or.inl ⟨by rfl, ?_⟩) hHeld ?_ ?_
      rotate_left
      · rintro w' ⟨s0, s1⟩
        go_simp
        with_reducible rfl
      rotate_left
      · simp only [Act.put, List.setIfInBounds_toArray, List.set_cons_zero, List.set_cons_succ, i64_w, i32_w]
        rfl
      refine pure_ (i := 7) (N := some 48) (v := ?_) (a' := ?_) (bm 14 255) rfl rfl (any_of HT_.out (by as_aux_lemma => kernel_rfl)) (fun _ _ _ h => h) (Or.inl ⟨by rfl, ?_⟩) ?_ ?_
      rotate_left
      · intro w'
        go_simp
        with_reducible rfl
      rotate_left
      · simp only [Act.put, List.setIfInBounds_toArray, List.set_cons_zero, List.set_cons_succ, i64_w, i32_w]
        rfl
      refine one_ (i := 8) (N := some 49) (bm 14 511) rfl rfl (one_of HT_.out (by as_aux_lemma => kernel_rfl)) (by as_aux_lemma => decide) (fun K hK => ?_)
      refine Kd.R_make_step (Kd.int .u16) _ 24 (by rfl) (N := 49) rfl 25 (.tmp 48) (.tmp 48) rfl x.f2 (by rfl) (by rfl) Try.underlying25 (.int .u16 0) 2 (by as_aux_lemma => kernel_rfl) rfl (by as_aux_lemma => decide) (by as_aux_lemma => decide) (0 : Int) (ok := fun k => wr.drew.heap.size ≤ k) (okp := fun _ => False) rfl (fun _ h => h.elim) (Nat.le_refl _) (by omega) (by omega) (Below.refl _ _) (Nat.le_refl _) ?_
      intro v5 y2 R5 hb5 G5 hv5
      have HQ2 := Aside0.mk (HQd.out.below hb5)
      have hB2 := HQ2.out.g.2.2
      obtain ⟨A5, n5, e5, hn5, hC5⟩ := Kd.R_reads R5
      rw [List.length_replicate] at e5 hn5 hC5
      subst e5
      refine hK.out _ _ ⟨(FQ.at HQ2.out).1, ((hb5.cell (World.block_lt_of_cell? _ _ xd)).trans xd)⟩ (fun hHeld => ?_)
      clear hK K
      refine norm_ (a' := ?_) ?_ ?_
      rotate_left
      · show Act.put _ (some 49) _ = _
        simp only [Act.put, List.setIfInBounds_toArray, List.set_cons_zero, List.set_cons_succ, i64_w, i32_w]
        rfl
      refine pure_ (i := 9) (N := some 50) (v := ?_) (a' := ?_) (bm 14 1023) rfl rfl (any_of HT_.out (by as_aux_lemma => kernel_rfl)) (fun _ _ _ h => h) (Or.inl ⟨by rfl, ?_⟩) ?_ ?_
      rotate_left
      · intro w'
        go_simp
        with_reducible rfl
      rotate_left
      · simp only [Act.put, List.setIfInBounds_toArray, List.set_cons_zero, List.set_cons_succ, i64_w, i32_w]
        rfl
      refine one_ (i := 10) (N := some 51) (bm 14 2047) rfl rfl (one_of HT_.out (by as_aux_lemma => kernel_rfl)) (by as_aux_lemma => decide) (fun K hK => ?_)
      refine value_ (w1 := ?_) (v := ?_) (by rfl) rfl ?_ ?_
      rotate_left 2
      · go_simp
        constructor
        · rfl
        · rfl
      refine hK.out _ _ ⟨((below_alloc (Below.refl y2.heap.size y2) _).cell (World.block_lt_of_cell? y2 _ (FQ.at HQ2.out).1)).trans (FQ.at HQ2.out).1, ((below_alloc (Below.refl y2.heap.size y2) _).cell (World.block_lt_of_cell? y2 _ ((hb5.cell (World.block_lt_of_cell? _ _ xd)).trans xd))).trans ((hb5.cell (World.block_lt_of_cell? _ _ xd)).trans xd)⟩ (fun hHeld => ?_)
      clear hK K
      refine norm_ (a' := ?_) ?_ ?_
      rotate_left
      · show Act.put _ (some 51) _ = _
        simp only [Act.put, List.setIfInBounds_toArray, List.set_cons_zero, List.set_cons_succ, i64_w, i32_w]
        rfl
      refine one_ (i := 11) (N := some 52) (bm 14 4095) rfl rfl (one_of HT_.out (by as_aux_lemma => kernel_rfl)) (by as_aux_lemma => decide) (fun K hK => ?_)
      refine Kd.R_append_step kRawR (w0 := y2) (W := y2) B (by rfl) (.tmp 42) (.tmp 51) 27 43 (.agg recZ) 32 rfl Try.underlying27 (by as_aux_lemma => kernel_rfl) rfl (by as_aux_lemma => decide) (by as_aux_lemma => decide) v raws ⟨0, 0, 0, A5, x.f2.toNat, n5⟩ [Value.int IntKind.u16 0, Value.int IntKind.u16 0, Value.int IntKind.u16 0, Value.slice A5 x.f2.toNat n5] (fun k => B ≤ k) (fun _ => False) (by rfl) (by rfl) rfl (fun _ h => h.elim) (fun k hk => by omega) HQ2.out.row (Below.refl _ _) hB2 (by have := HQ2.out.few; have := List.length_take_le j l; simp only [ansL, List.length_map] at *; omega) ?_
      intro v1 y3 R1 hb1 G1 hv1
      obtain ⟨A9, n9, e9, _, _⟩ := Kd.R_reads R1
      obtain ⟨N9, hN9⟩ : ∃ z, z = (raws ++ [(⟨0, 0, 0, A5, x.f2.toNat, n5⟩ : RawR)]).length := ⟨_, rfl⟩
      rw [← hN9] at e9
      subst e9
      clear hN9
      obtain ⟨kl, fl⟩ := FQ.at' HQ2.out G1
      refine hK.out _ _ ⟨kl, (Fits_keep HQ2.out hb5 xd HAB.out G1)⟩ (fun hHeld => ?_)
      clear hK K
      refine norm_ (a' := ?_) ?_ ?_
      rotate_left
      · show Act.put _ (some 52) _ = _
        simp only [Act.put, List.setIfInBounds_toArray, List.set_cons_zero, List.set_cons_succ, i64_w, i32_w]
        rfl
      refine pure_ (i := 12) (N := some 53) (v := ?_) (a' := ?_) (bm 14 8191) rfl rfl (any_of HT_.out (by as_aux_lemma => kernel_rfl)) (fun _ _ _ h => h) (Or.inl ⟨by rfl, ?_⟩) ?_ ?_
      rotate_left
      · intro w'
        go_simp
        with_reducible rfl
      rotate_left
      · simp only [Act.put, List.setIfInBounds_toArray, List.set_cons_zero, List.set_cons_succ, i64_w, i32_w]
        rfl
      refine last_ (i := 13) (N := none) (bm 14 16383) rfl rfl (one_of HT_.out (by as_aux_lemma => kernel_rfl)) (by as_aux_lemma => decide) (fun K hK => ?_)
      refine skip_ (w1 := ?_) (by rfl) rfl ?_ ?_
      rotate_left
      · go_simp
        rfl
      refine hK.out _ _ ?_
      clear hK K
      refine done_ (done_of HT_.out (by as_aux_lemma => kernel_rfl)) ?_
      have HN := Aside0.mk (FQ.push HQ2.out (r := ⟨0, 0, 0, A5, x.f2.toNat, n5⟩) (o := ⟨0, 0, 0, List.replicate x.f2.toNat 0⟩) (fits_good (l := [x]) _ (by simp [ansL])) (fun W' hk => ⟨rfl, rfl, rfl, by simp, by simpa using hn5, fits_made (v := v) R5 hBs (fun k e => (HQd.out.own k e).2) hk⟩) R1 hb1 G1 hv1)
      rw [← ans_take hlt HXL.out] at HN
      have RLN := Aside0.mk (Kd.C_below HR.out HN.out.b)
      clear HQ HQd HQ2 R1 hb1 G1 hv1 R5 hb5 G5 hv5
      go_wp2
      go_roundw
      case rel => exact ⟨j + 1, _, _, hj1, by go_num, HN, RLN⟩
      case measure => simp [intOf]; omega
    · have EJ := Aside0.mk (show j = l.length by omega)
      have p2 : ¬ (j : Int) < (l.length : Int) := by omega
      clear hlt hj
      obtain ⟨cz8, ecz_⟩ : ∃ z, z = (codeC 20).setIfInBounds 15 v := ⟨_, rfl⟩
      have HM8 := HQ.out.msg
      have HI8 := Aside0.mk HQ.out.is
      rw [← ecz_] at HM8
      have hsz8 : cz8.size = 22 := by rw [ecz_]; rfl
      have HI := Aside0.mk (show IsMsg _ cz8 (mkF 20 (ansL l)) from by have := HI8.out; rw [← ecz_, EJ.out, List.take_length] at this; exact this)
      have HMM := Aside0.mk HM8
      have HS8 := Aside0.mk hsz8
      have HBB := Aside0.mk HQ.out.b
      clear HM8 HI8 ecz_ HQ hsz8
      go_wp2_with (first | ((with_reducible refine gate_dst (N := 55) rfl ?_); refine wpList_load_row rfl 30 (.tmp 8) rfl g8 rfl 30 _ (0, 0) _ HMM.out Try.underlying30 rfl (msg_info HS8.out) ?_) | (go_at_call 16; (with_reducible refine (WriteC.n HW1.out NL.out.symm HI.out).mono ?_); rintro en w9 ⟨A9, c9, rfl, hz_, hr_, hb_⟩; have n0_ := Aside0.mk (HBB.out.trans (hb_.mono HBB.out.size)); clear HBB hz_ hr_ hb_; have HBB := n0_; clear n0_))
      go_ret
      exact ⟨by first | rfl | (simp; done), HBB.out⟩
theorem busbarlaw11_FilesFits (A : Option Addr) (c : Nat) (l : List S43) (w : World) (hr : Kd.C k43 w A l.length l) (hc : l.length ≤ c) (hm : l.length ≤ maxLen) (hw : ∀ x ∈ l, (Lit.int .u16 x.f0).wf = true ∧ (Lit.int .u16 x.f1).wf = true ∧ (Lit.int .u16 x.f2).wf = true ∧ x.f3.length ≤ maxLen ∧ ∀ y ∈ x.f3, (Lit.int .u16 y).wf = true) :
    Calls Try.prog 6 #[.slice A l.length c] w fun en w' => en = .returned (.bool true) ∧ Below w.heap.size w w' := by
  have hg : ∀ x ∈ l, goodRec x := fun x hx => ⟨u16_wf (hw x hx).1, u16_wf (hw x hx).2.1, u16_wf (hw x hx).2.2.1, fun y hy => u16_wf ((hw x hx).2.2.2.2 y hy)⟩
  cases hf : fewB (mkF 20 l) with
  | false => exact Fits_many hr hc hg hf
  | true =>
    by_cases hk : (write 0 (mkF 20 l)).2 = 0
    · exact Fits_yes hr hc hg hf hk
    · exact Fits_no hr hc hg hf hk
end Go.Proofs.Ytdjeekpgcjcffaa.Laws
end
