/- The law FilesParses: its walk, and the plain law. Conditions: what each theorem states. -/
import Derived.Test.YtdjeekpgcjcffaaOF
set_option linter.unusedVariables false
set_option linter.unusedSimpArgs false
set_option maxHeartbeats 16000000
set_option maxRecDepth 100000
section
namespace Go.Proofs.Ytdjeekpgcjcffaa.Com
open Go.RowKit Go.Proofs.Ytdjeekpgcjcffaa.P Go.Proofs.Ytdjeekpgcjcffaa.E Go.Proofs.Ytdjeekpgcjcffaa.Same Go.Proofs.YtdjeekpgcjcffaaW.PrintWords Go.Proofs.YtdjeekpgcjcffaaW.PrintLast Go.Proofs.YtdjeekpgcjcffaaW.PrintMore
theorem Parses_long {dir code : Int} {A : Option Addr} {c : Nat} {l : List Int} {w : World} (hr : Kd.C (Kd.int .u8) w A l.length l) (hc : l.length ≤ c) (ha : AwakeC 11) (hl : 400 < l.length) :
    Calls Try.prog 3 #[.int .i64 dir, .int .u8 code, .slice A l.length c] w fun en w' => en = .returned (.bool true) ∧ Below w.heap.size w w' := by
  have H := Aside0.mk (Hd.start w)
  have d1 : decide ((l.length : Int) > 400) = true := decide_eq_true (by omega)
  have d2 : decide ((400 : Int) < (l.length : Int)) = true := decide_eq_true (by omega)
  have HA := Aside0.mk ha
  clear ha hr
  go_enter Try.func3, Try.ntmps3
  go_wp2_with (first | (go_at_call 11; (with_reducible refine (AwakeC.c HA.out _).mono ?_); rintro en wa ⟨rfl, hb_⟩; have n0_ := Aside0.mk (H.out.on hb_); clear H; have H := n0_; clear n0_; clear hb_))
  go_ret
  exact ⟨rfl, H.out.b⟩
theorem Parses_go {dir code : Int} {A : Option Addr} {c : Nat} {l : List Int} {w : World} (hr : Kd.C (Kd.int .u8) w A l.length l) (hc : l.length ≤ c) (ha : AwakeC 11) {P : Msg × Int} (hp : ParseC 12 dir code l P) (hq : ParseC 13 dir code l P) (hl : ¬ 400 < l.length) :
    Calls Try.prog 3 #[.int .i64 dir, .int .u8 code, .slice A l.length c] w fun en w' => en = .returned (.bool true) ∧ Below w.heap.size w w' := by
  have H := Aside0.mk (Hd.start w)
  have n0_ := Aside0.mk ((H.out).add (sta_C _ _ _ _) (hr))
  clear H
  have H := n0_
  clear n0_
  have d1 : decide ((l.length : Int) > 400) = false := decide_eq_false (by omega)
  have d2 : decide ((400 : Int) < (l.length : Int)) = false := decide_eq_false (by omega)
  have HA := Aside0.mk ha
  have HP := Aside0.mk hp
  have HQ := Aside0.mk hq
  clear hr ha hp hq
  have e1 : (P.2 == P.2) = true := beq_self_eq_true _
  have e2 := same_refl P.1
  go_enter Try.func3, Try.ntmps3
  go_upto_region 4 with (first | (go_at_call 11; (with_reducible refine (AwakeC.c HA.out _).mono ?_); rintro en wa ⟨rfl, hb_⟩; have n0_ := Aside0.mk (H.out.on hb_); clear H; have H := n0_; clear n0_; clear hb_))
  go_upto_region 5 with (first | (go_at_call 12; (with_reducible refine (ParseC.c HP.out H.out.f.2 hc).mono ?_); rintro en wm ⟨cm, rfl, hm_, hb_⟩; have n0_ := Aside0.mk ((H.out.on hb_).add (sta_msg _ _) (hm_)); clear H; have H := n0_; clear n0_; clear hb_ hm_) | ((with_reducible refine gate_dst (N := 8) rfl ?_); refine ev_var (y := .tmp 22) rfl rfl rfl rfl rfl H.out.f.2 rfl rfl ?_; intro gm wv hg_ h1_ hb_; have n0_ := Aside0.mk ((H.out.on hb_).add (sta_blk _ _) (h1_)); clear H; have H := n0_; clear n0_; clear h1_ hb_ hg_))
  go_upto_region 6 with (first | (go_at_call 13; (with_reducible refine (ParseC.c HQ.out H.out.f.1.1.2 hc).mono ?_); rintro en wn ⟨cn, rfl, hm_, hb_⟩; have n0_ := Aside0.mk ((H.out.on hb_).add (sta_msg _ _) (hm_)); clear H; have H := n0_; clear n0_; clear hb_ hm_) | ((with_reducible refine gate_dst (N := 10) rfl ?_); refine ev_var (y := .tmp 29) rfl rfl rfl rfl rfl H.out.f.2 rfl rfl ?_; intro gn wo hg_ h1_ hb_; have n0_ := Aside0.mk ((H.out.on hb_).add (sta_blk _ _) (h1_)); clear H; have H := n0_; clear n0_; clear h1_ hb_ hg_))
  go_wp2_with (first | ((with_reducible refine gate_dst (N := 38) rfl ?_); (try (refine gate_guard (by rfl) ?_; dsimp only)); refine ev_get (x := .tmp 8) rfl rfl rfl H.out.f.1.1.2 H.out.f.1.1.1.2 ?_) | ((with_reducible refine gate_dst (N := 39) rfl ?_); (try (refine gate_guard (by rfl) ?_; dsimp only)); refine ev_get (x := .tmp 10) rfl rfl rfl H.out.f.2 H.out.f.1.2 ?_) | (go_at_call 14; (with_reducible refine (refsame_msg H.out.f.1.1.1.2 H.out.f.1.2).mono ?_); rintro en ws ⟨rfl, hb_⟩; have n0_ := Aside0.mk (H.out.on hb_); clear H; have H := n0_; clear n0_; clear hb_))
  go_ret
  exact ⟨by first | rfl | (simp [same_refl]; done), H.out.b⟩
end Go.Proofs.Ytdjeekpgcjcffaa.Com
end
section
namespace Go.Proofs.Ytdjeekpgcjcffaa.Laws
open Go.RowKit Go.Proofs.Ytdjeekpgcjcffaa.P Go.Proofs.Ytdjeekpgcjcffaa.E Go.Proofs.Ytdjeekpgcjcffaa.Cur Go.Proofs.Ytdjeekpgcjcffaa.Cu Go.Proofs.Ytdjeekpgcjcffaa.Same Go.Proofs.Ytdjeekpgcjcffaa.Put Go.Proofs.Ytdjeekpgcjcffaa.Com Go.Proofs.Ytdjeekpgcjcffaa.Fil Go.Proofs.YtdjeekpgcjcffaaW.PrintWords Go.Proofs.YtdjeekpgcjcffaaW.PrintLast Go.Proofs.YtdjeekpgcjcffaaW.PrintMore
theorem rparse_c {dir code : Int} {l : List Int} (hs : l.length ≤ 1000000) (hb : isBytes l) : ParseC 13 dir code l (parse dir code l) := fun A c W hr hc2 => rparse_any hr hc2 hs hb
theorem busbarlaw11_FilesParses (dir code : Int) (A : Option Addr) (c : Nat) (l : List Int) (w : World) (hr : Kd.C (Kd.int .u8) w A l.length l) (hc : l.length ≤ c) {p1 p3 : Prop} (_ : p1) (hcd : (Lit.int .u8 code).wf = true) (_ : p3) (hw : ∀ x ∈ l, (Lit.int .u8 x).wf = true) :
    Calls Try.prog 3 #[.int .i64 dir, .int .u8 code, .slice A l.length c] w fun en w' => en = .returned (.bool true) ∧ Below w.heap.size w w' := by
  by_cases hl : 400 < l.length
  · exact Parses_long hr hc awake_c hl
  · have hb : isBytes l := fun x hx => u8_wf (hw x hx)
    exact Parses_go hr hc awake_c (parse_c (by omega) hb) (rparse_c (by omega) hb) hl
end Go.Proofs.Ytdjeekpgcjcffaa.Laws
end
