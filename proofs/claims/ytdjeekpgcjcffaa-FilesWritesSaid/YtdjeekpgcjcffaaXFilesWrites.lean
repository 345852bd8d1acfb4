/- The law FilesWrites: its walk, and the plain law. Conditions: what each theorem states. -/
import Derived.Test.YtdjeekpgcjcffaaOF
set_option linter.unusedVariables false
set_option linter.unusedSimpArgs false
set_option maxHeartbeats 16000000
set_option maxRecDepth 100000
section
namespace Go.Proofs.Ytdjeekpgcjcffaa.Com
open Go.RowKit Go.Proofs.Ytdjeekpgcjcffaa.P Go.Proofs.Ytdjeekpgcjcffaa.E Go.Proofs.Ytdjeekpgcjcffaa.Same Go.Proofs.YtdjeekpgcjcffaaW.PrintWords Go.Proofs.YtdjeekpgcjcffaaW.PrintLast Go.Proofs.YtdjeekpgcjcffaaW.PrintMore
theorem Writes_many {dir : Int} {m : Msg} {cx : Array Value} {w : World} (hm : IsMsg w cx m) (ha : AwakeC 11) (hf : fewB m = false) :
    Calls Try.prog 4 #[.int .i64 dir, .agg cx] w fun en w' => en = .returned (.bool true) ∧ Below w.heap.size w w' := by
  have H := Aside0.mk (Hd.start w)
  have hsz := hm.size
  have hix := msg_info hsz
  have n0_ := Aside0.mk ((((H.out.on (below_alloc (Below.refl _ _) (Obj.cells cx 30)))).add (sta_blk _ _) (blk_new _ _)).add (sta_msg _ _) (hm.on (below_alloc (Below.refl _ _) _)))
  clear H
  have H := n0_
  clear n0_
  have HA := Aside0.mk ha
  clear hm ha
  go_enter Try.func4, Try.ntmps4
  go_upto_region 2 with (first | (go_at_call 11; (with_reducible refine (AwakeC.c HA.out _).mono ?_); rintro en wa ⟨rfl, hb_⟩; have n0_ := Aside0.mk (H.out.on hb_); clear H; have H := n0_; clear n0_; clear hb_))
  go_upto_region 3 with (first | ((with_reducible refine gate_dst (N := 12) rfl ?_); (try (refine gate_guard (by rfl) ?_; dsimp only)); refine ev_get (x := .tmp 3) rfl rfl rfl H.out.f.1.2 H.out.f.2 ?_) | (go_at_call 15; (with_reducible refine (few_msg H.out.f.2).mono ?_); rintro en ws ⟨rfl, hb_⟩; have n0_ := Aside0.mk (H.out.on hb_); clear H; have H := n0_; clear n0_; clear hb_))
  go_wp2
  go_ret
  exact ⟨rfl, H.out.b⟩
theorem Writes_go {dir : Int} {m : Msg} {cx : Array Value} {w : World} (hm : IsMsg w cx m) (ha : AwakeC 11) {R : List Int × Int} (hp : WriteC 16 dir m R) (hq : WriteC 17 dir m R) (hb : isBytes R.1) (hf : fewB m = true) :
    Calls Try.prog 4 #[.int .i64 dir, .agg cx] w fun en w' => en = .returned (.bool true) ∧ Below w.heap.size w w' := by
  have H := Aside0.mk (Hd.start w)
  have hsz := hm.size
  have hix := msg_info hsz
  have n0_ := Aside0.mk ((((H.out.on (below_alloc (Below.refl _ _) (Obj.cells cx 30)))).add (sta_blk _ _) (blk_new _ _)).add (sta_msg _ _) (hm.on (below_alloc (Below.refl _ _) _)))
  clear H
  have H := n0_
  clear n0_
  have HA := Aside0.mk ha
  have HP := Aside0.mk hp
  have HQ := Aside0.mk hq
  have HB := Aside0.mk hb
  clear hm ha hp hq hb
  have e1 : (R.2 == R.2) = true := beq_self_eq_true _
  have e2 : (R.1 == R.1) = true := beq_self_eq_true _
  go_enter Try.func4, Try.ntmps4
  go_upto_region 2 with (first | (go_at_call 11; (with_reducible refine (AwakeC.c HA.out _).mono ?_); rintro en wa ⟨rfl, hb_⟩; have n0_ := Aside0.mk (H.out.on hb_); clear H; have H := n0_; clear n0_; clear hb_))
  go_upto_region 3 with (first | ((with_reducible refine gate_dst (N := 12) rfl ?_); (try (refine gate_guard (by rfl) ?_; dsimp only)); refine ev_get (x := .tmp 3) rfl rfl rfl H.out.f.1.2 H.out.f.2 ?_) | (go_at_call 15; (with_reducible refine (few_msg H.out.f.2).mono ?_); rintro en ws ⟨rfl, hb_⟩; have n0_ := Aside0.mk (H.out.on hb_); clear H; have H := n0_; clear n0_; clear hb_))
  go_upto_region 5 with (fail)
  go_upto_region 6 with (first | ((with_reducible refine gate_dst (N := 19) rfl ?_); (try (refine gate_guard (by rfl) ?_; dsimp only)); refine ev_get (x := .tmp 3) rfl rfl rfl H.out.f.1.2 H.out.f.2 ?_) | (go_at_call 16; (with_reducible refine (WriteC.c HP.out H.out.f.2).mono ?_); rintro en wb ⟨Ab, cb, rfl, hz_, hr_, hb_⟩; have n0_ := Aside0.mk ((H.out.on hb_).add (sta_C _ _ _ _) (hr_)); clear H; have H := n0_; clear n0_; have Zb := Aside0.mk hz_; clear hb_ hr_ hz_))
  go_upto_region 7 with (first | ((with_reducible refine gate_dst (N := 25) rfl ?_); (try (refine gate_guard (by rfl) ?_; dsimp only)); refine ev_get (x := .tmp 3) rfl rfl rfl H.out.f.1.1.2 H.out.f.1.2 ?_) | (go_at_call 17; (with_reducible refine (WriteC.c HQ.out H.out.f.1.2).mono ?_); rintro en wd ⟨Ad, cd, rfl, hz_, hr_, hb_⟩; have n0_ := Aside0.mk ((H.out.on hb_).add (sta_C _ _ _ _) (hr_)); clear H; have H := n0_; clear n0_; have Zd := Aside0.mk hz_; clear hb_ hr_ hz_))
  go_wp2_with (first | (go_at_call 18; (with_reducible refine (R01.same_c HB.out HB.out H.out.f.1.2 Zb.out H.out.f.2 Zd.out).mono ?_); rintro en we ⟨rfl, hb_⟩; have n0_ := Aside0.mk (H.out.on hb_); clear H; have H := n0_; clear n0_; clear hb_))
  go_ret
  exact ⟨by first | rfl | (simp [same_refl]; done), H.out.b⟩
end Go.Proofs.Ytdjeekpgcjcffaa.Com
end
section
namespace Go.Proofs.Ytdjeekpgcjcffaa.Laws
open Go.RowKit Go.Proofs.Ytdjeekpgcjcffaa.P Go.Proofs.Ytdjeekpgcjcffaa.E Go.Proofs.Ytdjeekpgcjcffaa.Cur Go.Proofs.Ytdjeekpgcjcffaa.Cu Go.Proofs.Ytdjeekpgcjcffaa.Same Go.Proofs.Ytdjeekpgcjcffaa.Put Go.Proofs.Ytdjeekpgcjcffaa.Com Go.Proofs.Ytdjeekpgcjcffaa.Fil Go.Proofs.YtdjeekpgcjcffaaW.PrintWords Go.Proofs.YtdjeekpgcjcffaaW.PrintLast Go.Proofs.YtdjeekpgcjcffaaW.PrintMore
theorem busbarlaw11_FilesWrites (dir : Int) (m : Msg) (cx : Array Value) (w : World) (hm : IsMsg w cx m) {p1 : Prop} (_ : p1) :
    Calls Try.prog 4 #[.int .i64 dir, .agg cx] w fun en w' => en = .returned (.bool true) ∧ Below w.heap.size w w' := by
  cases hf : fewB m with
  | false => exact Writes_many hm awake_c hf
  | true =>
    obtain ⟨h1, h2, _⟩ := few_small hf dir
    refine Writes_go hm awake_c (write_c (dir := dir) (m := m) h1 h2) (rwrite_c h1 h2) ?_ hf
    by_cases h0 : (write dir m).2 = 0
    · rw [show write dir m = _ from (writeR_ok h0).2.2]; exact lay_bytes
    · rw [show write dir m = _ from writeR_no h0]; exact fun x hx => by cases hx
end Go.Proofs.Ytdjeekpgcjcffaa.Laws
end
