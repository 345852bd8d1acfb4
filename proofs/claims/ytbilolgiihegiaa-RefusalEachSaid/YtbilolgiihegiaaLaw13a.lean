/- What the reference's Write comes to; the chapter's example. Conditions: what each theorem states. -/
import Derived.Test.YtbilolgiihegiaaRefusal
import Derived.Test.YtbilolgiihegiaaRef01
set_option linter.unusedVariables false
set_option linter.unusedSimpArgs false
namespace Go.Proofs.Ytbilolgiihegiaa.Refu
open Go.RowKit Go.Proofs.Ytbilolgiihegiaa.P Go.Proofs.Ytbilolgiihegiaa.E Go.Proofs.Ytbilolgiihegiaa.Same Go.Proofs.Ytbilolgiihegiaa.Refu Go.Proofs.YtbilolgiihegiaaW.PrintWords Go.Proofs.YtbilolgiihegiaaW.PrintLast Go.Proofs.YtbilolgiihegiaaW.PrintMore

theorem parse_two {c f : Int} (h : c < 128) (h0 : 0 ≤ c) : parse [c + 128, f] = if pubB c = false then (zeroM, 4) else if faiB f = false then (zeroM, 6) else (msg2 c f, 0) := by
  unfold parse
  rw [if_neg (by simp)]
  have e1 : [c + 128, f].getD 0 0 = c + 128 := rfl
  have e2 : [c + 128, f].getD 1 0 = f := rfl
  have e3 : c + 128 - 128 = c := by omega
  rw [e1, e2, if_neg (show ¬ c + 128 < 128 by omega), e3]
  cases pubB c <;> cases faiB f <;> simp
theorem rwrite_any {cx : Array Value} {m : Msg} {w : World} (hm : IsMsg w cx m) :
    Calls Try.prog 13 #[.agg cx] w fun en w' => ∃ A c, en = .returned (.tuple #[.slice A (write m).1.length c, .int .i64 (write m).2]) ∧ (write m).1.length ≤ c ∧ Kd.C (Kd.int .u8) w' A (write m).1.length (write m).1 ∧ Below w.heap.size w w' := by
  have G := (goodM_num hm.good).1
  have hc := G.1
  unfold write
  by_cases hb : 128 ≤ m.code
  · have hr : ¬ (rightB m.code m.fail = true) := fun h => by have := right_lt hc h; omega
    rw [if_neg (fun h => hr h.1)]
    exact rwrite_big hm hb
  have hp := parse_two (c := m.code) (f := m.fail) (by omega) hc.1
  cases h1 : pubB m.code with
  | false =>
    rw [h1, if_pos rfl] at hp
    rw [if_neg (fun h => by have := h.1; unfold rightB at this; rw [h1] at this; cases this)]
    exact rwrite_err hm hb (by rw [hp]; decide)
  | true =>
  rw [h1, if_neg (by simp)] at hp
  cases h2 : faiB m.fail with
  | false =>
    rw [h2, if_pos rfl] at hp
    rw [if_neg (fun h => by have := h.1; unfold rightB at this; rw [h1, h2] at this; cases this)]
    exact rwrite_err hm hb (by rw [hp]; decide)
  | true =>
  rw [h2, if_neg (by simp)] at hp
  have hr : rightB m.code m.fail = true := by unfold rightB; rw [h1, h2]; rfl
  cases hs : sameB m (msg2 m.code m.fail) with
  | false =>
    rw [if_neg (fun h => by cases h.2)]
    exact rwrite_not hm hb (by rw [hp]) (by rw [hp, same_comm]; exact hs)
  | true =>
    rw [if_pos ⟨hr, rfl⟩]
    exact rwrite_yes hm hb (by rw [hp]) (by rw [hp, same_comm]; exact hs)
theorem parse_ex (A : Option Addr) (c : Nat) (bs : List Int) (W : World) (he : bs = [131, 2]) (hr : Kd.C (Kd.int .u8) W A bs.length bs) :
    Calls Try.prog 8 #[.slice A bs.length c] W fun en w' => ∃ cx, en = .returned (.tuple #[.agg cx, .int .i64 0]) ∧ IsMsg w' cx (msg2 3 2) ∧ Below W.heap.size W w' := by
  have h := parse_any A c bs W hr (by rw [he]; intro x hx; rcases List.mem_cons.1 hx with rfl | hx; (constructor <;> omega); rcases List.mem_cons.1 hx with rfl | hx; (constructor <;> omega); cases hx)
  have e : parse bs = (msg2 3 2, 0) := by rw [he, show ([131, 2] : List Int) = [3 + 128, 2] from rfl, parse_two (by omega) (by omega)]; rfl
  rw [e] at h
  exact h
theorem write_ex {cx : Array Value} {w : World} (hm : IsMsg w cx (msg2 3 2)) :
    Calls Try.prog 12 #[.agg cx] w fun en w' => ∃ A c, en = .returned (.tuple #[.slice A 2 c, .int .i64 0]) ∧ 2 ≤ c ∧ Kd.C (Kd.int .u8) w' A 2 [131, 2] ∧ Below w.heap.size w w' := by
  have h := write_any hm
  have e : write (msg2 3 2) = ([131, 2], 0) := by
    unfold write
    rw [if_pos ⟨by decide, by exact same_refl _⟩]
    rfl
  rw [e] at h
  exact h
set_option maxHeartbeats 16000000 in
set_option maxRecDepth 100000 in
theorem awake_any (w : World) :
    Calls Try.prog 7 #[] w fun e w' => e = .returned (.bool true) ∧ Below w.heap.size w w' := by
  have H := Aside0.mk (Hd.start w)
  go_enter Try.func7, Try.ntmps7
  go_upto_region 2 with (first | ((with_reducible refine gate_dst (N := 6) rfl ?_); (try (refine gate_guard (by rfl) ?_; dsimp only)); refine ev_lit .u8 [131, 2] 5 rfl (by first | (go_simp; done) | (go_simp; rfl)) (by simp) ?_; intro Aa ca wl ba he_ hr_ hz_ hb_; have Za := Aside0.mk hz_; have Ea := Aside0.mk he_; have n0_ := Aside0.mk ((H.out.on hb_).add (sta_C _ _ _ _) (hr_)); clear H; have H := n0_; clear n0_; clear hr_ hz_ hb_ he_) | (go_at_call 8; with_reducible refine (parse_ex Aa ca ba _ Ea.out H.out.f.2).mono ?_; rintro en wm ⟨cm, rfl, hm_, hb_⟩; have n0_ := Aside0.mk ((H.out.on hb_).add (sta_msg _ _) (hm_)); clear H; have H := n0_; clear n0_; clear hb_ hm_) | ((with_reducible refine gate_dst (N := 1) rfl ?_); refine ev_var (y := .tmp 8) rfl rfl rfl rfl rfl H.out.f.2 rfl rfl ?_; intro gm wv hg_ h1_ hb_; have n0_ := Aside0.mk ((H.out.on hb_).add (sta_blk _ _) (h1_)); clear H; have H := n0_; clear n0_; clear h1_ hb_ hg_))
  go_upto_region 3 with (first | ((with_reducible refine gate_dst (N := 11) rfl ?_); (try (refine gate_guard (by rfl) ?_; dsimp only)); refine ev_build (msg2C 3 2) rfl (by first | (go_simp; done) | (go_simp; rfl)) ?_; intro cx hcx_; have mx_ := (fun W => (by rw [hcx_]; exact (msg2_is (by decide) (by decide)) W : IsMsg W cx (msg2 3 2))); have n0_ := Aside0.mk ((H.out).add (sta_msg _ _) (mx_ _)); clear H; have H := n0_; clear n0_; clear hcx_ mx_) | (go_at_call 12; with_reducible refine (write_ex H.out.f.2).mono ?_; rintro en wb ⟨Ab, cb, rfl, hz_, hr_, hb_⟩; have n0_ := Aside0.mk ((H.out.on hb_).add (sta_C _ _ _ _) (hr_)); clear H; have H := n0_; clear n0_; have Zb := Aside0.mk hz_; clear hb_ hr_ hz_))
  have k0 : wb.cell? ⟨gm, 0, none⟩ = some (.int .u8 3) := bx_code H.out.f.1.1.2 H.out.f.1.1.1.2
  have k1 : wb.cell? ⟨gm, 1, none⟩ = some (.int .u8 2) := bx_fail H.out.f.1.1.2 H.out.f.1.1.1.2
  have hcv := Kd.C_string (P := Try.prog) (A := Ab) (c := cb) Try.underlying22 Try.underlying5 Try.underlying9 H.out.f.2
  have hs : ((strOfNums [131, 2]).toList == [131, 2]) = true := by rw [str_list]; rfl
  go_wp2
  go_ret
  exact ⟨by first | rfl | (simp; done) | decide, H.out.b⟩
end Go.Proofs.Ytbilolgiihegiaa.Refu
