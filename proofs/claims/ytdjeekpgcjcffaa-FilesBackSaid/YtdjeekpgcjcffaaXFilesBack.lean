/- The law FilesBack: its walk, and the plain law. Conditions: what each theorem states. -/
import Derived.Test.YtdjeekpgcjcffaaMD
set_option linter.unusedVariables false
set_option linter.unusedSimpArgs false
set_option maxHeartbeats 16000000
set_option maxRecDepth 100000
section
namespace Go.Proofs.Ytdjeekpgcjcffaa.Com
open Go.RowKit Go.Proofs.Ytdjeekpgcjcffaa.P Go.Proofs.Ytdjeekpgcjcffaa.E Go.Proofs.Ytdjeekpgcjcffaa.Same Go.Proofs.YtdjeekpgcjcffaaW.PrintWords Go.Proofs.YtdjeekpgcjcffaaW.PrintLast Go.Proofs.YtdjeekpgcjcffaaW.PrintMore
theorem Back_long {response : Bool} {code : Int} {A : Option Addr} {c : Nat} {l : List Int} {m : Msg} {cx : Array Value} {w : World} (hr : Kd.C (Kd.int .u8) w A l.length l) (hc : l.length ≤ c) (hm : IsMsg w cx m) (ha : AwakeC 11) (hl : 400 < l.length) :
    Calls Try.prog 5 #[.bool response, .int .u8 code, .slice A l.length c, .agg cx] w fun en w' => en = .returned (.bool true) ∧ Below w.heap.size w w' := by
  have H := Aside0.mk (Hd.start w)
  have hsz := hm.size
  have hix := msg_info hsz
  have n0_ := Aside0.mk ((((H.out.on (below_alloc (Below.refl _ _) (Obj.cells cx 30)))).add (sta_blk _ _) (blk_new _ _)).add (sta_msg _ _) (hm.on (below_alloc (Below.refl _ _) _)))
  clear H
  have H := n0_
  clear n0_
  have d1 : decide ((l.length : Int) > 400) = true := decide_eq_true (by omega)
  have d2 : decide ((400 : Int) < (l.length : Int)) = true := decide_eq_true (by omega)
  have HA := Aside0.mk ha
  clear hr hm ha
  go_enter Try.func5, Try.ntmps5
  go_upto_region 2 with (first | (go_at_call 11; (with_reducible refine (AwakeC.c HA.out _).mono ?_); rintro en wa ⟨rfl, hb_⟩; have n0_ := Aside0.mk (H.out.on hb_); clear H; have H := n0_; clear n0_; clear hb_))
  go_upto_region 3 with (first | ((with_reducible refine gate_dst (N := 21) rfl ?_); (try (refine gate_guard (by rfl) ?_; dsimp only)); refine ev_get (x := .tmp 7) rfl rfl rfl H.out.f.1.2 H.out.f.2 ?_) | (go_at_call 15; (with_reducible refine (few_msg H.out.f.2).mono ?_); rintro en ws ⟨rfl, hb_⟩; have n0_ := Aside0.mk (H.out.on hb_); clear H; have H := n0_; clear n0_; clear hb_))
  go_wp2
  go_ret
  exact ⟨rfl, H.out.b⟩
theorem Back_many {response : Bool} {code : Int} {A : Option Addr} {c : Nat} {l : List Int} {m : Msg} {cx : Array Value} {w : World} (hr : Kd.C (Kd.int .u8) w A l.length l) (hc : l.length ≤ c) (hm : IsMsg w cx m) (ha : AwakeC 11) (hl : ¬ 400 < l.length) (hf : fewB m = false) :
    Calls Try.prog 5 #[.bool response, .int .u8 code, .slice A l.length c, .agg cx] w fun en w' => en = .returned (.bool true) ∧ Below w.heap.size w w' := by
  have H := Aside0.mk (Hd.start w)
  have hsz := hm.size
  have hix := msg_info hsz
  have n0_ := Aside0.mk ((((H.out.on (below_alloc (Below.refl _ _) (Obj.cells cx 30)))).add (sta_blk _ _) (blk_new _ _)).add (sta_msg _ _) (hm.on (below_alloc (Below.refl _ _) _)))
  clear H
  have H := n0_
  clear n0_
  have d1 : decide ((l.length : Int) > 400) = false := decide_eq_false (by omega)
  have d2 : decide ((400 : Int) < (l.length : Int)) = false := decide_eq_false (by omega)
  have HA := Aside0.mk ha
  clear hr hm ha
  go_enter Try.func5, Try.ntmps5
  go_upto_region 2 with (first | (go_at_call 11; (with_reducible refine (AwakeC.c HA.out _).mono ?_); rintro en wa ⟨rfl, hb_⟩; have n0_ := Aside0.mk (H.out.on hb_); clear H; have H := n0_; clear n0_; clear hb_))
  go_upto_region 3 with (first | ((with_reducible refine gate_dst (N := 21) rfl ?_); (try (refine gate_guard (by rfl) ?_; dsimp only)); refine ev_get (x := .tmp 7) rfl rfl rfl H.out.f.1.2 H.out.f.2 ?_) | (go_at_call 15; (with_reducible refine (few_msg H.out.f.2).mono ?_); rintro en ws ⟨rfl, hb_⟩; have n0_ := Aside0.mk (H.out.on hb_); clear H; have H := n0_; clear n0_; clear hb_))
  go_wp2
  go_ret
  exact ⟨rfl, H.out.b⟩
theorem Back_011 {code : Int} {A : Option Addr} {c : Nat} {l : List Int} {m : Msg} {cx : Array Value} {w : World} (hr : Kd.C (Kd.int .u8) w A l.length l) (hc : l.length ≤ c) (hm : IsMsg w cx m) (ha : AwakeC 11) (hl : ¬ 400 < l.length) (hf : fewB m = true) {X N : Msg × Int} {Y : List Int × Int} (hx : ParseC 12 0 code l X) (hx0 : X.2 = 0) (hy : WriteC 16 0 m Y) (hy0 : Y.2 = 0) (hw : WriteC 16 0 X.1 (l, 0)) (hbl : isBytes l) (hxc : X.1.code = code) (hn : ParseC 12 0 m.code Y.1 N) (hn0 : N.2 = 0) (hs : sameB N.1 m = true) :
    Calls Try.prog 5 #[.bool false, .int .u8 code, .slice A l.length c, .agg cx] w fun en w' => en = .returned (.bool true) ∧ Below w.heap.size w w' := by
  have H := Aside0.mk (Hd.start w)
  have n0_ := Aside0.mk ((H.out).add (sta_C _ _ _ _) (hr))
  clear H
  have H := n0_
  clear n0_
  have hsz := hm.size
  have hix := msg_info hsz
  have n0_ := Aside0.mk ((((H.out.on (below_alloc (Below.refl _ _) (Obj.cells cx 30)))).add (sta_blk _ _) (blk_new _ _)).add (sta_msg _ _) (hm.on (below_alloc (Below.refl _ _) _)))
  clear H
  have H := n0_
  clear n0_
  have d1 : decide ((l.length : Int) > 400) = false := decide_eq_false (by omega)
  have d2 : decide ((400 : Int) < (l.length : Int)) = false := decide_eq_false (by omega)
  have HA := Aside0.mk ha
  have HX := Aside0.mk hx
  have HY := Aside0.mk hy
  clear hr hm ha hx hy hl
  have ex : (X.2 == 0) = true := beq_iff_eq.2 hx0
  have ey : (Y.2 == 0) = true := beq_iff_eq.2 hy0
  clear hx0 hy0
  have HW := Aside0.mk hw
  have HBL := Aside0.mk hbl
  have ell : (l == l) = true := beq_self_eq_true _
  have ec : (X.1.code == code) = true := beq_iff_eq.2 hxc
  have ecn : (X.1.code != code) = false := by rw [bne, ec]; rfl
  clear hw hbl hxc
  have HN := Aside0.mk hn
  have en : (N.2 == 0) = true := beq_iff_eq.2 hn0
  have enn : (N.2 != 0) = false := by rw [bne, en]; rfl
  clear hn hn0
  go_enter Try.func5, Try.ntmps5
  go_upto_region 2 with (first | (go_at_call 11; (with_reducible refine (AwakeC.c HA.out _).mono ?_); rintro en wa ⟨rfl, hb_⟩; have n0_ := Aside0.mk (H.out.on hb_); clear H; have H := n0_; clear n0_; clear hb_))
  go_upto_region 3 with (first | ((with_reducible refine gate_dst (N := 21) rfl ?_); (try (refine gate_guard (by rfl) ?_; dsimp only)); refine ev_get (x := .tmp 7) rfl rfl rfl H.out.f.1.2 H.out.f.2 ?_) | (go_at_call 15; (with_reducible refine (few_msg H.out.f.2).mono ?_); rintro en ws ⟨rfl, hb_⟩; have n0_ := Aside0.mk (H.out.on hb_); clear H; have H := n0_; clear n0_; clear hb_))
  go_upto_region 8 with (fail)
  go_upto_region 9 with (first | (go_at_call 12; (with_reducible refine (ParseC.c HX.out H.out.f.1.1.2 hc).mono ?_); rintro en wx ⟨cxx, rfl, hm_, hb_⟩; have n0_ := Aside0.mk ((H.out.on hb_).add (sta_msg _ _) (hm_)); clear H; have H := n0_; clear n0_; clear hb_ hm_) | ((with_reducible refine gate_dst (N := 12) rfl ?_); refine ev_var (y := .tmp 37) rfl rfl rfl rfl rfl H.out.f.2 rfl rfl ?_; intro gx wxx hg_ h1_ hb_; have n0_ := Aside0.mk ((H.out.on hb_).add (sta_blk _ _) (h1_)); clear H; have H := n0_; clear n0_; clear h1_ hb_ hg_))
  go_upto_region 11 with (first | ((with_reducible refine gate_dst (N := 43) rfl ?_); (try (refine gate_guard (by rfl) ?_; dsimp only)); refine ev_get (x := .tmp 12) rfl rfl rfl H.out.f.2 H.out.f.1.2 ?_) | (go_at_call 16; (with_reducible refine (WriteC.c HW.out H.out.f.1.2).mono ?_); rintro en wb ⟨Ab, cb, rfl, hz_, hr_, hb_⟩; have n0_ := Aside0.mk ((H.out.on hb_).add (sta_C _ _ _ _) (hr_)); clear H; have H := n0_; clear n0_; have Zb := Aside0.mk hz_; clear hb_ hr_ hz_))
  go_upto_region 13 with (first | (go_at_call 18; (with_reducible refine (R01.same_c HBL.out HBL.out H.out.f.2 Zb.out H.out.f.1.1.1.1.1.2 hc).mono ?_); rintro en we ⟨rfl, hb_⟩; have n0_ := Aside0.mk (H.out.on hb_); clear H; have H := n0_; clear n0_; clear hb_; have kx := bx_code H.out.f.1.2 H.out.f.1.1.2))
  clear kx
  go_upto_region 14 with (first | ((with_reducible refine gate_dst (N := 63) rfl ?_); (try (refine gate_guard (by rfl) ?_; dsimp only)); refine ev_get (x := .tmp 7) rfl rfl rfl H.out.f.1.1.1.1.2 H.out.f.1.1.1.2 ?_) | (go_at_call 16; (with_reducible refine (WriteC.c HY.out H.out.f.1.1.1.2).mono ?_); rintro en wy ⟨Ay, cy, rfl, hz_, hr_, hb_⟩; have n0_ := Aside0.mk ((H.out.on hb_).add (sta_C _ _ _ _) (hr_)); clear H; have H := n0_; clear n0_; have Zy := Aside0.mk hz_; clear hb_ hr_ hz_))
  have km := bx_code H.out.f.1.1.1.1.1.2 H.out.f.1.1.1.1.2
  go_upto_region 16 with (first | (go_at_call 12; (with_reducible refine (ParseC.c HN.out H.out.f.2 Zy.out).mono ?_); rintro en wn ⟨cn, rfl, hm_, hb_⟩; have n0_ := Aside0.mk ((H.out.on hb_).add (sta_msg _ _) (hm_)); clear H; have H := n0_; clear n0_; clear hb_ hm_) | ((with_reducible refine gate_dst (N := 18) rfl ?_); refine ev_var (y := .tmp 75) rfl rfl rfl rfl rfl H.out.f.2 rfl rfl ?_; intro gn wnn hg_ h1_ hb_; have n0_ := Aside0.mk ((H.out.on hb_).add (sta_blk _ _) (h1_)); clear H; have H := n0_; clear n0_; clear h1_ hb_ hg_))
  clear km
  go_upto_region 18 with (first | ((with_reducible refine gate_dst (N := 80) rfl ?_); (try (refine gate_guard (by rfl) ?_; dsimp only)); refine ev_get (x := .tmp 18) rfl rfl rfl H.out.f.2 H.out.f.1.2 ?_) | ((with_reducible refine gate_dst (N := 81) rfl ?_); (try (refine gate_guard (by rfl) ?_; dsimp only)); refine ev_get (x := .tmp 7) rfl rfl rfl H.out.f.1.1.1.1.1.1.1.2 H.out.f.1.1.1.1.1.1.2 ?_) | (go_at_call 14; (with_reducible refine (refsame_msg H.out.f.1.2 H.out.f.1.1.1.1.1.1.2).mono ?_); rintro en wsn ⟨rfl, hb_⟩; have n0_ := Aside0.mk (H.out.on hb_); clear H; have H := n0_; clear n0_; clear hb_))
  go_wp2
  go_ret
  exact ⟨by first | rfl | (simp [same_refl]; done), H.out.b⟩
theorem Back_010 {code : Int} {A : Option Addr} {c : Nat} {l : List Int} {m : Msg} {cx : Array Value} {w : World} (hr : Kd.C (Kd.int .u8) w A l.length l) (hc : l.length ≤ c) (hm : IsMsg w cx m) (ha : AwakeC 11) (hl : ¬ 400 < l.length) (hf : fewB m = true) {X N : Msg × Int} {Y : List Int × Int} (hx : ParseC 12 0 code l X) (hx0 : X.2 = 0) (hy : WriteC 16 0 m Y) (hy0 : Y.2 ≠ 0) (hw : WriteC 16 0 X.1 (l, 0)) (hbl : isBytes l) (hxc : X.1.code = code) (hyl : Y.1.length = 0) :
    Calls Try.prog 5 #[.bool false, .int .u8 code, .slice A l.length c, .agg cx] w fun en w' => en = .returned (.bool true) ∧ Below w.heap.size w w' := by
  have H := Aside0.mk (Hd.start w)
  have n0_ := Aside0.mk ((H.out).add (sta_C _ _ _ _) (hr))
  clear H
  have H := n0_
  clear n0_
  have hsz := hm.size
  have hix := msg_info hsz
  have n0_ := Aside0.mk ((((H.out.on (below_alloc (Below.refl _ _) (Obj.cells cx 30)))).add (sta_blk _ _) (blk_new _ _)).add (sta_msg _ _) (hm.on (below_alloc (Below.refl _ _) _)))
  clear H
  have H := n0_
  clear n0_
  have d1 : decide ((l.length : Int) > 400) = false := decide_eq_false (by omega)
  have d2 : decide ((400 : Int) < (l.length : Int)) = false := decide_eq_false (by omega)
  have HA := Aside0.mk ha
  have HX := Aside0.mk hx
  have HY := Aside0.mk hy
  clear hr hm ha hx hy hl
  have ex : (X.2 == 0) = true := beq_iff_eq.2 hx0
  have ey : (Y.2 == 0) = false := beq_eq_false_iff_ne.2 hy0
  clear hx0 hy0
  have HW := Aside0.mk hw
  have HBL := Aside0.mk hbl
  have ell : (l == l) = true := beq_self_eq_true _
  have ec : (X.1.code == code) = true := beq_iff_eq.2 hxc
  have ecn : (X.1.code != code) = false := by rw [bne, ec]; rfl
  clear hw hbl hxc
  have eyl : ((Y.1.length : Int) == 0) = true := beq_iff_eq.2 (by omega)
  have eyl2 : (Y.1.length == 0) = true := beq_iff_eq.2 hyl
  clear hyl
  go_enter Try.func5, Try.ntmps5
  go_upto_region 2 with (first | (go_at_call 11; (with_reducible refine (AwakeC.c HA.out _).mono ?_); rintro en wa ⟨rfl, hb_⟩; have n0_ := Aside0.mk (H.out.on hb_); clear H; have H := n0_; clear n0_; clear hb_))
  go_upto_region 3 with (first | ((with_reducible refine gate_dst (N := 21) rfl ?_); (try (refine gate_guard (by rfl) ?_; dsimp only)); refine ev_get (x := .tmp 7) rfl rfl rfl H.out.f.1.2 H.out.f.2 ?_) | (go_at_call 15; (with_reducible refine (few_msg H.out.f.2).mono ?_); rintro en ws ⟨rfl, hb_⟩; have n0_ := Aside0.mk (H.out.on hb_); clear H; have H := n0_; clear n0_; clear hb_))
  go_upto_region 8 with (fail)
  go_upto_region 9 with (first | (go_at_call 12; (with_reducible refine (ParseC.c HX.out H.out.f.1.1.2 hc).mono ?_); rintro en wx ⟨cxx, rfl, hm_, hb_⟩; have n0_ := Aside0.mk ((H.out.on hb_).add (sta_msg _ _) (hm_)); clear H; have H := n0_; clear n0_; clear hb_ hm_) | ((with_reducible refine gate_dst (N := 12) rfl ?_); refine ev_var (y := .tmp 37) rfl rfl rfl rfl rfl H.out.f.2 rfl rfl ?_; intro gx wxx hg_ h1_ hb_; have n0_ := Aside0.mk ((H.out.on hb_).add (sta_blk _ _) (h1_)); clear H; have H := n0_; clear n0_; clear h1_ hb_ hg_))
  go_upto_region 11 with (first | ((with_reducible refine gate_dst (N := 43) rfl ?_); (try (refine gate_guard (by rfl) ?_; dsimp only)); refine ev_get (x := .tmp 12) rfl rfl rfl H.out.f.2 H.out.f.1.2 ?_) | (go_at_call 16; (with_reducible refine (WriteC.c HW.out H.out.f.1.2).mono ?_); rintro en wb ⟨Ab, cb, rfl, hz_, hr_, hb_⟩; have n0_ := Aside0.mk ((H.out.on hb_).add (sta_C _ _ _ _) (hr_)); clear H; have H := n0_; clear n0_; have Zb := Aside0.mk hz_; clear hb_ hr_ hz_))
  go_upto_region 13 with (first | (go_at_call 18; (with_reducible refine (R01.same_c HBL.out HBL.out H.out.f.2 Zb.out H.out.f.1.1.1.1.1.2 hc).mono ?_); rintro en we ⟨rfl, hb_⟩; have n0_ := Aside0.mk (H.out.on hb_); clear H; have H := n0_; clear n0_; clear hb_; have kx := bx_code H.out.f.1.2 H.out.f.1.1.2))
  clear kx
  go_upto_region 14 with (first | ((with_reducible refine gate_dst (N := 63) rfl ?_); (try (refine gate_guard (by rfl) ?_; dsimp only)); refine ev_get (x := .tmp 7) rfl rfl rfl H.out.f.1.1.1.1.2 H.out.f.1.1.1.2 ?_) | (go_at_call 16; (with_reducible refine (WriteC.c HY.out H.out.f.1.1.1.2).mono ?_); rintro en wy ⟨Ay, cy, rfl, hz_, hr_, hb_⟩; have n0_ := Aside0.mk ((H.out.on hb_).add (sta_C _ _ _ _) (hr_)); clear H; have H := n0_; clear n0_; have Zy := Aside0.mk hz_; clear hb_ hr_ hz_))
  go_upto_region 18 with (fail)
  go_wp2
  go_ret
  exact ⟨by first | rfl | (simp [same_refl]; done), H.out.b⟩
theorem Back_001 {code : Int} {A : Option Addr} {c : Nat} {l : List Int} {m : Msg} {cx : Array Value} {w : World} (hr : Kd.C (Kd.int .u8) w A l.length l) (hc : l.length ≤ c) (hm : IsMsg w cx m) (ha : AwakeC 11) (hl : ¬ 400 < l.length) (hf : fewB m = true) {X N : Msg × Int} {Y : List Int × Int} (hx : ParseC 12 0 code l X) (hx0 : X.2 ≠ 0) (hy : WriteC 16 0 m Y) (hy0 : Y.2 = 0) (hxz : sameB X.1 zeroM = true) (hn : ParseC 12 0 m.code Y.1 N) (hn0 : N.2 = 0) (hs : sameB N.1 m = true) :
    Calls Try.prog 5 #[.bool false, .int .u8 code, .slice A l.length c, .agg cx] w fun en w' => en = .returned (.bool true) ∧ Below w.heap.size w w' := by
  have H := Aside0.mk (Hd.start w)
  have n0_ := Aside0.mk ((H.out).add (sta_C _ _ _ _) (hr))
  clear H
  have H := n0_
  clear n0_
  have hsz := hm.size
  have hix := msg_info hsz
  have n0_ := Aside0.mk ((((H.out.on (below_alloc (Below.refl _ _) (Obj.cells cx 30)))).add (sta_blk _ _) (blk_new _ _)).add (sta_msg _ _) (hm.on (below_alloc (Below.refl _ _) _)))
  clear H
  have H := n0_
  clear n0_
  have d1 : decide ((l.length : Int) > 400) = false := decide_eq_false (by omega)
  have d2 : decide ((400 : Int) < (l.length : Int)) = false := decide_eq_false (by omega)
  have HA := Aside0.mk ha
  have HX := Aside0.mk hx
  have HY := Aside0.mk hy
  clear hr hm ha hx hy hl
  have ex : (X.2 == 0) = false := beq_eq_false_iff_ne.2 hx0
  have ey : (Y.2 == 0) = true := beq_iff_eq.2 hy0
  clear hx0 hy0
  have HXZ := Aside0.mk hxz
  clear hxz
  have HN := Aside0.mk hn
  have en : (N.2 == 0) = true := beq_iff_eq.2 hn0
  have enn : (N.2 != 0) = false := by rw [bne, en]; rfl
  clear hn hn0
  go_enter Try.func5, Try.ntmps5
  go_upto_region 2 with (first | (go_at_call 11; (with_reducible refine (AwakeC.c HA.out _).mono ?_); rintro en wa ⟨rfl, hb_⟩; have n0_ := Aside0.mk (H.out.on hb_); clear H; have H := n0_; clear n0_; clear hb_))
  go_upto_region 3 with (first | ((with_reducible refine gate_dst (N := 21) rfl ?_); (try (refine gate_guard (by rfl) ?_; dsimp only)); refine ev_get (x := .tmp 7) rfl rfl rfl H.out.f.1.2 H.out.f.2 ?_) | (go_at_call 15; (with_reducible refine (few_msg H.out.f.2).mono ?_); rintro en ws ⟨rfl, hb_⟩; have n0_ := Aside0.mk (H.out.on hb_); clear H; have H := n0_; clear n0_; clear hb_))
  go_upto_region 8 with (fail)
  go_upto_region 9 with (first | (go_at_call 12; (with_reducible refine (ParseC.c HX.out H.out.f.1.1.2 hc).mono ?_); rintro en wx ⟨cxx, rfl, hm_, hb_⟩; have n0_ := Aside0.mk ((H.out.on hb_).add (sta_msg _ _) (hm_)); clear H; have H := n0_; clear n0_; clear hb_ hm_) | ((with_reducible refine gate_dst (N := 12) rfl ?_); refine ev_var (y := .tmp 37) rfl rfl rfl rfl rfl H.out.f.2 rfl rfl ?_; intro gx wxx hg_ h1_ hb_; have n0_ := Aside0.mk ((H.out.on hb_).add (sta_blk _ _) (h1_)); clear H; have H := n0_; clear n0_; clear h1_ hb_ hg_))
  go_upto_region 13 with (fail)
  go_upto_region 14 with (first | ((with_reducible refine gate_dst (N := 63) rfl ?_); (try (refine gate_guard (by rfl) ?_; dsimp only)); refine ev_get (x := .tmp 7) rfl rfl rfl H.out.f.1.1.1.2 H.out.f.1.1.2 ?_) | (go_at_call 16; (with_reducible refine (WriteC.c HY.out H.out.f.1.1.2).mono ?_); rintro en wy ⟨Ay, cy, rfl, hz_, hr_, hb_⟩; have n0_ := Aside0.mk ((H.out.on hb_).add (sta_C _ _ _ _) (hr_)); clear H; have H := n0_; clear n0_; have Zy := Aside0.mk hz_; clear hb_ hr_ hz_))
  have km := bx_code H.out.f.1.1.1.1.2 H.out.f.1.1.1.2
  go_upto_region 16 with (first | (go_at_call 12; (with_reducible refine (ParseC.c HN.out H.out.f.2 Zy.out).mono ?_); rintro en wn ⟨cn, rfl, hm_, hb_⟩; have n0_ := Aside0.mk ((H.out.on hb_).add (sta_msg _ _) (hm_)); clear H; have H := n0_; clear n0_; clear hb_ hm_) | ((with_reducible refine gate_dst (N := 18) rfl ?_); refine ev_var (y := .tmp 75) rfl rfl rfl rfl rfl H.out.f.2 rfl rfl ?_; intro gn wnn hg_ h1_ hb_; have n0_ := Aside0.mk ((H.out.on hb_).add (sta_blk _ _) (h1_)); clear H; have H := n0_; clear n0_; clear h1_ hb_ hg_))
  clear km
  go_upto_region 18 with (first | ((with_reducible refine gate_dst (N := 80) rfl ?_); (try (refine gate_guard (by rfl) ?_; dsimp only)); refine ev_get (x := .tmp 18) rfl rfl rfl H.out.f.2 H.out.f.1.2 ?_) | ((with_reducible refine gate_dst (N := 81) rfl ?_); (try (refine gate_guard (by rfl) ?_; dsimp only)); refine ev_get (x := .tmp 7) rfl rfl rfl H.out.f.1.1.1.1.1.1.2 H.out.f.1.1.1.1.1.2 ?_) | (go_at_call 14; (with_reducible refine (refsame_msg H.out.f.1.2 H.out.f.1.1.1.1.1.2).mono ?_); rintro en wsn ⟨rfl, hb_⟩; have n0_ := Aside0.mk (H.out.on hb_); clear H; have H := n0_; clear n0_; clear hb_))
  go_wp2_with (first | ((with_reducible refine gate_dst (N := 90) rfl ?_); (try (refine gate_guard (by rfl) ?_; dsimp only)); refine ev_get (x := .tmp 12) rfl rfl rfl H.out.f.1.1.1.2 H.out.f.1.1.1.1.2 ?_) | ((with_reducible refine gate_dst (N := 91) rfl ?_); (try (refine gate_guard (by rfl) ?_; dsimp only)); refine ev_build (zeroC) rfl (by first | (go_simp; done) | (go_simp; rfl)) ?_; intro cz hcx_; have mx_ := (fun W => (by rw [hcx_]; exact (zero_is) W : IsMsg W cz (zeroM))); have n0_ := Aside0.mk ((H.out).add (sta_msg _ _) (mx_ _)); clear H; have H := n0_; clear n0_; clear hcx_ mx_) | (go_at_call 14; (with_reducible refine (refsame_msg H.out.f.1.1.1.1.1.2 H.out.f.2).mono ?_); rintro en wsz ⟨rfl, hb_⟩; have n0_ := Aside0.mk (H.out.on hb_); clear H; have H := n0_; clear n0_; clear hb_; rw [HXZ.out]))
  go_ret
  exact ⟨by first | rfl | (simp [same_refl]; done), H.out.b⟩
theorem Back_000 {code : Int} {A : Option Addr} {c : Nat} {l : List Int} {m : Msg} {cx : Array Value} {w : World} (hr : Kd.C (Kd.int .u8) w A l.length l) (hc : l.length ≤ c) (hm : IsMsg w cx m) (ha : AwakeC 11) (hl : ¬ 400 < l.length) (hf : fewB m = true) {X N : Msg × Int} {Y : List Int × Int} (hx : ParseC 12 0 code l X) (hx0 : X.2 ≠ 0) (hy : WriteC 16 0 m Y) (hy0 : Y.2 ≠ 0) (hxz : sameB X.1 zeroM = true) (hyl : Y.1.length = 0) :
    Calls Try.prog 5 #[.bool false, .int .u8 code, .slice A l.length c, .agg cx] w fun en w' => en = .returned (.bool true) ∧ Below w.heap.size w w' := by
  have H := Aside0.mk (Hd.start w)
  have n0_ := Aside0.mk ((H.out).add (sta_C _ _ _ _) (hr))
  clear H
  have H := n0_
  clear n0_
  have hsz := hm.size
  have hix := msg_info hsz
  have n0_ := Aside0.mk ((((H.out.on (below_alloc (Below.refl _ _) (Obj.cells cx 30)))).add (sta_blk _ _) (blk_new _ _)).add (sta_msg _ _) (hm.on (below_alloc (Below.refl _ _) _)))
  clear H
  have H := n0_
  clear n0_
  have d1 : decide ((l.length : Int) > 400) = false := decide_eq_false (by omega)
  have d2 : decide ((400 : Int) < (l.length : Int)) = false := decide_eq_false (by omega)
  have HA := Aside0.mk ha
  have HX := Aside0.mk hx
  have HY := Aside0.mk hy
  clear hr hm ha hx hy hl
  have ex : (X.2 == 0) = false := beq_eq_false_iff_ne.2 hx0
  have ey : (Y.2 == 0) = false := beq_eq_false_iff_ne.2 hy0
  clear hx0 hy0
  have HXZ := Aside0.mk hxz
  clear hxz
  have eyl : ((Y.1.length : Int) == 0) = true := beq_iff_eq.2 (by omega)
  have eyl2 : (Y.1.length == 0) = true := beq_iff_eq.2 hyl
  clear hyl
  go_enter Try.func5, Try.ntmps5
  go_upto_region 2 with (first | (go_at_call 11; (with_reducible refine (AwakeC.c HA.out _).mono ?_); rintro en wa ⟨rfl, hb_⟩; have n0_ := Aside0.mk (H.out.on hb_); clear H; have H := n0_; clear n0_; clear hb_))
  go_upto_region 3 with (first | ((with_reducible refine gate_dst (N := 21) rfl ?_); (try (refine gate_guard (by rfl) ?_; dsimp only)); refine ev_get (x := .tmp 7) rfl rfl rfl H.out.f.1.2 H.out.f.2 ?_) | (go_at_call 15; (with_reducible refine (few_msg H.out.f.2).mono ?_); rintro en ws ⟨rfl, hb_⟩; have n0_ := Aside0.mk (H.out.on hb_); clear H; have H := n0_; clear n0_; clear hb_))
  go_upto_region 8 with (fail)
  go_upto_region 9 with (first | (go_at_call 12; (with_reducible refine (ParseC.c HX.out H.out.f.1.1.2 hc).mono ?_); rintro en wx ⟨cxx, rfl, hm_, hb_⟩; have n0_ := Aside0.mk ((H.out.on hb_).add (sta_msg _ _) (hm_)); clear H; have H := n0_; clear n0_; clear hb_ hm_) | ((with_reducible refine gate_dst (N := 12) rfl ?_); refine ev_var (y := .tmp 37) rfl rfl rfl rfl rfl H.out.f.2 rfl rfl ?_; intro gx wxx hg_ h1_ hb_; have n0_ := Aside0.mk ((H.out.on hb_).add (sta_blk _ _) (h1_)); clear H; have H := n0_; clear n0_; clear h1_ hb_ hg_))
  go_upto_region 13 with (fail)
  go_upto_region 14 with (first | ((with_reducible refine gate_dst (N := 63) rfl ?_); (try (refine gate_guard (by rfl) ?_; dsimp only)); refine ev_get (x := .tmp 7) rfl rfl rfl H.out.f.1.1.1.2 H.out.f.1.1.2 ?_) | (go_at_call 16; (with_reducible refine (WriteC.c HY.out H.out.f.1.1.2).mono ?_); rintro en wy ⟨Ay, cy, rfl, hz_, hr_, hb_⟩; have n0_ := Aside0.mk ((H.out.on hb_).add (sta_C _ _ _ _) (hr_)); clear H; have H := n0_; clear n0_; have Zy := Aside0.mk hz_; clear hb_ hr_ hz_))
  go_upto_region 18 with (fail)
  go_wp2_with (first | ((with_reducible refine gate_dst (N := 90) rfl ?_); (try (refine gate_guard (by rfl) ?_; dsimp only)); refine ev_get (x := .tmp 12) rfl rfl rfl H.out.f.1.2 H.out.f.1.1.2 ?_) | ((with_reducible refine gate_dst (N := 91) rfl ?_); (try (refine gate_guard (by rfl) ?_; dsimp only)); refine ev_build (zeroC) rfl (by first | (go_simp; done) | (go_simp; rfl)) ?_; intro cz hcx_; have mx_ := (fun W => (by rw [hcx_]; exact (zero_is) W : IsMsg W cz (zeroM))); have n0_ := Aside0.mk ((H.out).add (sta_msg _ _) (mx_ _)); clear H; have H := n0_; clear n0_; clear hcx_ mx_) | (go_at_call 14; (with_reducible refine (refsame_msg H.out.f.1.1.1.2 H.out.f.2).mono ?_); rintro en wsz ⟨rfl, hb_⟩; have n0_ := Aside0.mk (H.out.on hb_); clear H; have H := n0_; clear n0_; clear hb_; rw [HXZ.out]))
  go_ret
  exact ⟨by first | rfl | (simp [same_refl]; done), H.out.b⟩
theorem Back_111 {code : Int} {A : Option Addr} {c : Nat} {l : List Int} {m : Msg} {cx : Array Value} {w : World} (hr : Kd.C (Kd.int .u8) w A l.length l) (hc : l.length ≤ c) (hm : IsMsg w cx m) (ha : AwakeC 11) (hl : ¬ 400 < l.length) (hf : fewB m = true) {X N : Msg × Int} {Y : List Int × Int} (hx : ParseC 12 1 code l X) (hx0 : X.2 = 0) (hy : WriteC 16 1 m Y) (hy0 : Y.2 = 0) (hw : WriteC 16 1 X.1 (l, 0)) (hbl : isBytes l) (hxc : X.1.code = code) (hn : ParseC 12 1 m.code Y.1 N) (hn0 : N.2 = 0) (hs : sameB N.1 m = true) :
    Calls Try.prog 5 #[.bool true, .int .u8 code, .slice A l.length c, .agg cx] w fun en w' => en = .returned (.bool true) ∧ Below w.heap.size w w' := by
  have H := Aside0.mk (Hd.start w)
  have n0_ := Aside0.mk ((H.out).add (sta_C _ _ _ _) (hr))
  clear H
  have H := n0_
  clear n0_
  have hsz := hm.size
  have hix := msg_info hsz
  have n0_ := Aside0.mk ((((H.out.on (below_alloc (Below.refl _ _) (Obj.cells cx 30)))).add (sta_blk _ _) (blk_new _ _)).add (sta_msg _ _) (hm.on (below_alloc (Below.refl _ _) _)))
  clear H
  have H := n0_
  clear n0_
  have d1 : decide ((l.length : Int) > 400) = false := decide_eq_false (by omega)
  have d2 : decide ((400 : Int) < (l.length : Int)) = false := decide_eq_false (by omega)
  have HA := Aside0.mk ha
  have HX := Aside0.mk hx
  have HY := Aside0.mk hy
  clear hr hm ha hx hy hl
  have ex : (X.2 == 0) = true := beq_iff_eq.2 hx0
  have ey : (Y.2 == 0) = true := beq_iff_eq.2 hy0
  clear hx0 hy0
  have HW := Aside0.mk hw
  have HBL := Aside0.mk hbl
  have ell : (l == l) = true := beq_self_eq_true _
  have ec : (X.1.code == code) = true := beq_iff_eq.2 hxc
  have ecn : (X.1.code != code) = false := by rw [bne, ec]; rfl
  clear hw hbl hxc
  have HN := Aside0.mk hn
  have en : (N.2 == 0) = true := beq_iff_eq.2 hn0
  have enn : (N.2 != 0) = false := by rw [bne, en]; rfl
  clear hn hn0
  go_enter Try.func5, Try.ntmps5
  go_upto_region 2 with (first | (go_at_call 11; (with_reducible refine (AwakeC.c HA.out _).mono ?_); rintro en wa ⟨rfl, hb_⟩; have n0_ := Aside0.mk (H.out.on hb_); clear H; have H := n0_; clear n0_; clear hb_))
  go_upto_region 3 with (first | ((with_reducible refine gate_dst (N := 21) rfl ?_); (try (refine gate_guard (by rfl) ?_; dsimp only)); refine ev_get (x := .tmp 7) rfl rfl rfl H.out.f.1.2 H.out.f.2 ?_) | (go_at_call 15; (with_reducible refine (few_msg H.out.f.2).mono ?_); rintro en ws ⟨rfl, hb_⟩; have n0_ := Aside0.mk (H.out.on hb_); clear H; have H := n0_; clear n0_; clear hb_))
  go_upto_region 8 with (fail)
  go_upto_region 9 with (first | (go_at_call 12; (with_reducible refine (ParseC.c HX.out H.out.f.1.1.2 hc).mono ?_); rintro en wx ⟨cxx, rfl, hm_, hb_⟩; have n0_ := Aside0.mk ((H.out.on hb_).add (sta_msg _ _) (hm_)); clear H; have H := n0_; clear n0_; clear hb_ hm_) | ((with_reducible refine gate_dst (N := 12) rfl ?_); refine ev_var (y := .tmp 37) rfl rfl rfl rfl rfl H.out.f.2 rfl rfl ?_; intro gx wxx hg_ h1_ hb_; have n0_ := Aside0.mk ((H.out.on hb_).add (sta_blk _ _) (h1_)); clear H; have H := n0_; clear n0_; clear h1_ hb_ hg_))
  go_upto_region 11 with (first | ((with_reducible refine gate_dst (N := 43) rfl ?_); (try (refine gate_guard (by rfl) ?_; dsimp only)); refine ev_get (x := .tmp 12) rfl rfl rfl H.out.f.2 H.out.f.1.2 ?_) | (go_at_call 16; (with_reducible refine (WriteC.c HW.out H.out.f.1.2).mono ?_); rintro en wb ⟨Ab, cb, rfl, hz_, hr_, hb_⟩; have n0_ := Aside0.mk ((H.out.on hb_).add (sta_C _ _ _ _) (hr_)); clear H; have H := n0_; clear n0_; have Zb := Aside0.mk hz_; clear hb_ hr_ hz_))
  go_upto_region 13 with (first | (go_at_call 18; (with_reducible refine (R01.same_c HBL.out HBL.out H.out.f.2 Zb.out H.out.f.1.1.1.1.1.2 hc).mono ?_); rintro en we ⟨rfl, hb_⟩; have n0_ := Aside0.mk (H.out.on hb_); clear H; have H := n0_; clear n0_; clear hb_; have kx := bx_code H.out.f.1.2 H.out.f.1.1.2))
  clear kx
  go_upto_region 14 with (first | ((with_reducible refine gate_dst (N := 63) rfl ?_); (try (refine gate_guard (by rfl) ?_; dsimp only)); refine ev_get (x := .tmp 7) rfl rfl rfl H.out.f.1.1.1.1.2 H.out.f.1.1.1.2 ?_) | (go_at_call 16; (with_reducible refine (WriteC.c HY.out H.out.f.1.1.1.2).mono ?_); rintro en wy ⟨Ay, cy, rfl, hz_, hr_, hb_⟩; have n0_ := Aside0.mk ((H.out.on hb_).add (sta_C _ _ _ _) (hr_)); clear H; have H := n0_; clear n0_; have Zy := Aside0.mk hz_; clear hb_ hr_ hz_))
  have km := bx_code H.out.f.1.1.1.1.1.2 H.out.f.1.1.1.1.2
  go_upto_region 16 with (first | (go_at_call 12; (with_reducible refine (ParseC.c HN.out H.out.f.2 Zy.out).mono ?_); rintro en wn ⟨cn, rfl, hm_, hb_⟩; have n0_ := Aside0.mk ((H.out.on hb_).add (sta_msg _ _) (hm_)); clear H; have H := n0_; clear n0_; clear hb_ hm_) | ((with_reducible refine gate_dst (N := 18) rfl ?_); refine ev_var (y := .tmp 75) rfl rfl rfl rfl rfl H.out.f.2 rfl rfl ?_; intro gn wnn hg_ h1_ hb_; have n0_ := Aside0.mk ((H.out.on hb_).add (sta_blk _ _) (h1_)); clear H; have H := n0_; clear n0_; clear h1_ hb_ hg_))
  clear km
  go_upto_region 18 with (first | ((with_reducible refine gate_dst (N := 80) rfl ?_); (try (refine gate_guard (by rfl) ?_; dsimp only)); refine ev_get (x := .tmp 18) rfl rfl rfl H.out.f.2 H.out.f.1.2 ?_) | ((with_reducible refine gate_dst (N := 81) rfl ?_); (try (refine gate_guard (by rfl) ?_; dsimp only)); refine ev_get (x := .tmp 7) rfl rfl rfl H.out.f.1.1.1.1.1.1.1.2 H.out.f.1.1.1.1.1.1.2 ?_) | (go_at_call 14; (with_reducible refine (refsame_msg H.out.f.1.2 H.out.f.1.1.1.1.1.1.2).mono ?_); rintro en wsn ⟨rfl, hb_⟩; have n0_ := Aside0.mk (H.out.on hb_); clear H; have H := n0_; clear n0_; clear hb_))
  go_wp2
  go_ret
  exact ⟨by first | rfl | (simp [same_refl]; done), H.out.b⟩
theorem Back_110 {code : Int} {A : Option Addr} {c : Nat} {l : List Int} {m : Msg} {cx : Array Value} {w : World} (hr : Kd.C (Kd.int .u8) w A l.length l) (hc : l.length ≤ c) (hm : IsMsg w cx m) (ha : AwakeC 11) (hl : ¬ 400 < l.length) (hf : fewB m = true) {X N : Msg × Int} {Y : List Int × Int} (hx : ParseC 12 1 code l X) (hx0 : X.2 = 0) (hy : WriteC 16 1 m Y) (hy0 : Y.2 ≠ 0) (hw : WriteC 16 1 X.1 (l, 0)) (hbl : isBytes l) (hxc : X.1.code = code) (hyl : Y.1.length = 0) :
    Calls Try.prog 5 #[.bool true, .int .u8 code, .slice A l.length c, .agg cx] w fun en w' => en = .returned (.bool true) ∧ Below w.heap.size w w' := by
  have H := Aside0.mk (Hd.start w)
  have n0_ := Aside0.mk ((H.out).add (sta_C _ _ _ _) (hr))
  clear H
  have H := n0_
  clear n0_
  have hsz := hm.size
  have hix := msg_info hsz
  have n0_ := Aside0.mk ((((H.out.on (below_alloc (Below.refl _ _) (Obj.cells cx 30)))).add (sta_blk _ _) (blk_new _ _)).add (sta_msg _ _) (hm.on (below_alloc (Below.refl _ _) _)))
  clear H
  have H := n0_
  clear n0_
  have d1 : decide ((l.length : Int) > 400) = false := decide_eq_false (by omega)
  have d2 : decide ((400 : Int) < (l.length : Int)) = false := decide_eq_false (by omega)
  have HA := Aside0.mk ha
  have HX := Aside0.mk hx
  have HY := Aside0.mk hy
  clear hr hm ha hx hy hl
  have ex : (X.2 == 0) = true := beq_iff_eq.2 hx0
  have ey : (Y.2 == 0) = false := beq_eq_false_iff_ne.2 hy0
  clear hx0 hy0
  have HW := Aside0.mk hw
  have HBL := Aside0.mk hbl
  have ell : (l == l) = true := beq_self_eq_true _
  have ec : (X.1.code == code) = true := beq_iff_eq.2 hxc
  have ecn : (X.1.code != code) = false := by rw [bne, ec]; rfl
  clear hw hbl hxc
  have eyl : ((Y.1.length : Int) == 0) = true := beq_iff_eq.2 (by omega)
  have eyl2 : (Y.1.length == 0) = true := beq_iff_eq.2 hyl
  clear hyl
  go_enter Try.func5, Try.ntmps5
  go_upto_region 2 with (first | (go_at_call 11; (with_reducible refine (AwakeC.c HA.out _).mono ?_); rintro en wa ⟨rfl, hb_⟩; have n0_ := Aside0.mk (H.out.on hb_); clear H; have H := n0_; clear n0_; clear hb_))
  go_upto_region 3 with (first | ((with_reducible refine gate_dst (N := 21) rfl ?_); (try (refine gate_guard (by rfl) ?_; dsimp only)); refine ev_get (x := .tmp 7) rfl rfl rfl H.out.f.1.2 H.out.f.2 ?_) | (go_at_call 15; (with_reducible refine (few_msg H.out.f.2).mono ?_); rintro en ws ⟨rfl, hb_⟩; have n0_ := Aside0.mk (H.out.on hb_); clear H; have H := n0_; clear n0_; clear hb_))
  go_upto_region 8 with (fail)
  go_upto_region 9 with (first | (go_at_call 12; (with_reducible refine (ParseC.c HX.out H.out.f.1.1.2 hc).mono ?_); rintro en wx ⟨cxx, rfl, hm_, hb_⟩; have n0_ := Aside0.mk ((H.out.on hb_).add (sta_msg _ _) (hm_)); clear H; have H := n0_; clear n0_; clear hb_ hm_) | ((with_reducible refine gate_dst (N := 12) rfl ?_); refine ev_var (y := .tmp 37) rfl rfl rfl rfl rfl H.out.f.2 rfl rfl ?_; intro gx wxx hg_ h1_ hb_; have n0_ := Aside0.mk ((H.out.on hb_).add (sta_blk _ _) (h1_)); clear H; have H := n0_; clear n0_; clear h1_ hb_ hg_))
  go_upto_region 11 with (first | ((with_reducible refine gate_dst (N := 43) rfl ?_); (try (refine gate_guard (by rfl) ?_; dsimp only)); refine ev_get (x := .tmp 12) rfl rfl rfl H.out.f.2 H.out.f.1.2 ?_) | (go_at_call 16; (with_reducible refine (WriteC.c HW.out H.out.f.1.2).mono ?_); rintro en wb ⟨Ab, cb, rfl, hz_, hr_, hb_⟩; have n0_ := Aside0.mk ((H.out.on hb_).add (sta_C _ _ _ _) (hr_)); clear H; have H := n0_; clear n0_; have Zb := Aside0.mk hz_; clear hb_ hr_ hz_))
  go_upto_region 13 with (first | (go_at_call 18; (with_reducible refine (R01.same_c HBL.out HBL.out H.out.f.2 Zb.out H.out.f.1.1.1.1.1.2 hc).mono ?_); rintro en we ⟨rfl, hb_⟩; have n0_ := Aside0.mk (H.out.on hb_); clear H; have H := n0_; clear n0_; clear hb_; have kx := bx_code H.out.f.1.2 H.out.f.1.1.2))
  clear kx
  go_upto_region 14 with (first | ((with_reducible refine gate_dst (N := 63) rfl ?_); (try (refine gate_guard (by rfl) ?_; dsimp only)); refine ev_get (x := .tmp 7) rfl rfl rfl H.out.f.1.1.1.1.2 H.out.f.1.1.1.2 ?_) | (go_at_call 16; (with_reducible refine (WriteC.c HY.out H.out.f.1.1.1.2).mono ?_); rintro en wy ⟨Ay, cy, rfl, hz_, hr_, hb_⟩; have n0_ := Aside0.mk ((H.out.on hb_).add (sta_C _ _ _ _) (hr_)); clear H; have H := n0_; clear n0_; have Zy := Aside0.mk hz_; clear hb_ hr_ hz_))
  go_upto_region 18 with (fail)
  go_wp2
  go_ret
  exact ⟨by first | rfl | (simp [same_refl]; done), H.out.b⟩
theorem Back_101 {code : Int} {A : Option Addr} {c : Nat} {l : List Int} {m : Msg} {cx : Array Value} {w : World} (hr : Kd.C (Kd.int .u8) w A l.length l) (hc : l.length ≤ c) (hm : IsMsg w cx m) (ha : AwakeC 11) (hl : ¬ 400 < l.length) (hf : fewB m = true) {X N : Msg × Int} {Y : List Int × Int} (hx : ParseC 12 1 code l X) (hx0 : X.2 ≠ 0) (hy : WriteC 16 1 m Y) (hy0 : Y.2 = 0) (hxz : sameB X.1 zeroM = true) (hn : ParseC 12 1 m.code Y.1 N) (hn0 : N.2 = 0) (hs : sameB N.1 m = true) :
    Calls Try.prog 5 #[.bool true, .int .u8 code, .slice A l.length c, .agg cx] w fun en w' => en = .returned (.bool true) ∧ Below w.heap.size w w' := by
  have H := Aside0.mk (Hd.start w)
  have n0_ := Aside0.mk ((H.out).add (sta_C _ _ _ _) (hr))
  clear H
  have H := n0_
  clear n0_
  have hsz := hm.size
  have hix := msg_info hsz
  have n0_ := Aside0.mk ((((H.out.on (below_alloc (Below.refl _ _) (Obj.cells cx 30)))).add (sta_blk _ _) (blk_new _ _)).add (sta_msg _ _) (hm.on (below_alloc (Below.refl _ _) _)))
  clear H
  have H := n0_
  clear n0_
  have d1 : decide ((l.length : Int) > 400) = false := decide_eq_false (by omega)
  have d2 : decide ((400 : Int) < (l.length : Int)) = false := decide_eq_false (by omega)
  have HA := Aside0.mk ha
  have HX := Aside0.mk hx
  have HY := Aside0.mk hy
  clear hr hm ha hx hy hl
  have ex : (X.2 == 0) = false := beq_eq_false_iff_ne.2 hx0
  have ey : (Y.2 == 0) = true := beq_iff_eq.2 hy0
  clear hx0 hy0
  have HXZ := Aside0.mk hxz
  clear hxz
  have HN := Aside0.mk hn
  have en : (N.2 == 0) = true := beq_iff_eq.2 hn0
  have enn : (N.2 != 0) = false := by rw [bne, en]; rfl
  clear hn hn0
  go_enter Try.func5, Try.ntmps5
  go_upto_region 2 with (first | (go_at_call 11; (with_reducible refine (AwakeC.c HA.out _).mono ?_); rintro en wa ⟨rfl, hb_⟩; have n0_ := Aside0.mk (H.out.on hb_); clear H; have H := n0_; clear n0_; clear hb_))
  go_upto_region 3 with (first | ((with_reducible refine gate_dst (N := 21) rfl ?_); (try (refine gate_guard (by rfl) ?_; dsimp only)); refine ev_get (x := .tmp 7) rfl rfl rfl H.out.f.1.2 H.out.f.2 ?_) | (go_at_call 15; (with_reducible refine (few_msg H.out.f.2).mono ?_); rintro en ws ⟨rfl, hb_⟩; have n0_ := Aside0.mk (H.out.on hb_); clear H; have H := n0_; clear n0_; clear hb_))
  go_upto_region 8 with (fail)
  go_upto_region 9 with (first | (go_at_call 12; (with_reducible refine (ParseC.c HX.out H.out.f.1.1.2 hc).mono ?_); rintro en wx ⟨cxx, rfl, hm_, hb_⟩; have n0_ := Aside0.mk ((H.out.on hb_).add (sta_msg _ _) (hm_)); clear H; have H := n0_; clear n0_; clear hb_ hm_) | ((with_reducible refine gate_dst (N := 12) rfl ?_); refine ev_var (y := .tmp 37) rfl rfl rfl rfl rfl H.out.f.2 rfl rfl ?_; intro gx wxx hg_ h1_ hb_; have n0_ := Aside0.mk ((H.out.on hb_).add (sta_blk _ _) (h1_)); clear H; have H := n0_; clear n0_; clear h1_ hb_ hg_))
  go_upto_region 13 with (fail)
  go_upto_region 14 with (first | ((with_reducible refine gate_dst (N := 63) rfl ?_); (try (refine gate_guard (by rfl) ?_; dsimp only)); refine ev_get (x := .tmp 7) rfl rfl rfl H.out.f.1.1.1.2 H.out.f.1.1.2 ?_) | (go_at_call 16; (with_reducible refine (WriteC.c HY.out H.out.f.1.1.2).mono ?_); rintro en wy ⟨Ay, cy, rfl, hz_, hr_, hb_⟩; have n0_ := Aside0.mk ((H.out.on hb_).add (sta_C _ _ _ _) (hr_)); clear H; have H := n0_; clear n0_; have Zy := Aside0.mk hz_; clear hb_ hr_ hz_))
  have km := bx_code H.out.f.1.1.1.1.2 H.out.f.1.1.1.2
  go_upto_region 16 with (first | (go_at_call 12; (with_reducible refine (ParseC.c HN.out H.out.f.2 Zy.out).mono ?_); rintro en wn ⟨cn, rfl, hm_, hb_⟩; have n0_ := Aside0.mk ((H.out.on hb_).add (sta_msg _ _) (hm_)); clear H; have H := n0_; clear n0_; clear hb_ hm_) | ((with_reducible refine gate_dst (N := 18) rfl ?_); refine ev_var (y := .tmp 75) rfl rfl rfl rfl rfl H.out.f.2 rfl rfl ?_; intro gn wnn hg_ h1_ hb_; have n0_ := Aside0.mk ((H.out.on hb_).add (sta_blk _ _) (h1_)); clear H; have H := n0_; clear n0_; clear h1_ hb_ hg_))
  clear km
  go_upto_region 18 with (first | ((with_reducible refine gate_dst (N := 80) rfl ?_); (try (refine gate_guard (by rfl) ?_; dsimp only)); refine ev_get (x := .tmp 18) rfl rfl rfl H.out.f.2 H.out.f.1.2 ?_) | ((with_reducible refine gate_dst (N := 81) rfl ?_); (try (refine gate_guard (by rfl) ?_; dsimp only)); refine ev_get (x := .tmp 7) rfl rfl rfl H.out.f.1.1.1.1.1.1.2 H.out.f.1.1.1.1.1.2 ?_) | (go_at_call 14; (with_reducible refine (refsame_msg H.out.f.1.2 H.out.f.1.1.1.1.1.2).mono ?_); rintro en wsn ⟨rfl, hb_⟩; have n0_ := Aside0.mk (H.out.on hb_); clear H; have H := n0_; clear n0_; clear hb_))
  go_wp2_with (first | ((with_reducible refine gate_dst (N := 90) rfl ?_); (try (refine gate_guard (by rfl) ?_; dsimp only)); refine ev_get (x := .tmp 12) rfl rfl rfl H.out.f.1.1.1.2 H.out.f.1.1.1.1.2 ?_) | ((with_reducible refine gate_dst (N := 91) rfl ?_); (try (refine gate_guard (by rfl) ?_; dsimp only)); refine ev_build (zeroC) rfl (by first | (go_simp; done) | (go_simp; rfl)) ?_; intro cz hcx_; have mx_ := (fun W => (by rw [hcx_]; exact (zero_is) W : IsMsg W cz (zeroM))); have n0_ := Aside0.mk ((H.out).add (sta_msg _ _) (mx_ _)); clear H; have H := n0_; clear n0_; clear hcx_ mx_) | (go_at_call 14; (with_reducible refine (refsame_msg H.out.f.1.1.1.1.1.2 H.out.f.2).mono ?_); rintro en wsz ⟨rfl, hb_⟩; have n0_ := Aside0.mk (H.out.on hb_); clear H; have H := n0_; clear n0_; clear hb_; rw [HXZ.out]))
  go_ret
  exact ⟨by first | rfl | (simp [same_refl]; done), H.out.b⟩
theorem Back_100 {code : Int} {A : Option Addr} {c : Nat} {l : List Int} {m : Msg} {cx : Array Value} {w : World} (hr : Kd.C (Kd.int .u8) w A l.length l) (hc : l.length ≤ c) (hm : IsMsg w cx m) (ha : AwakeC 11) (hl : ¬ 400 < l.length) (hf : fewB m = true) {X N : Msg × Int} {Y : List Int × Int} (hx : ParseC 12 1 code l X) (hx0 : X.2 ≠ 0) (hy : WriteC 16 1 m Y) (hy0 : Y.2 ≠ 0) (hxz : sameB X.1 zeroM = true) (hyl : Y.1.length = 0) :
    Calls Try.prog 5 #[.bool true, .int .u8 code, .slice A l.length c, .agg cx] w fun en w' => en = .returned (.bool true) ∧ Below w.heap.size w w' := by
  have H := Aside0.mk (Hd.start w)
  have n0_ := Aside0.mk ((H.out).add (sta_C _ _ _ _) (hr))
  clear H
  have H := n0_
  clear n0_
  have hsz := hm.size
  have hix := msg_info hsz
  have n0_ := Aside0.mk ((((H.out.on (below_alloc (Below.refl _ _) (Obj.cells cx 30)))).add (sta_blk _ _) (blk_new _ _)).add (sta_msg _ _) (hm.on (below_alloc (Below.refl _ _) _)))
  clear H
  have H := n0_
  clear n0_
  have d1 : decide ((l.length : Int) > 400) = false := decide_eq_false (by omega)
  have d2 : decide ((400 : Int) < (l.length : Int)) = false := decide_eq_false (by omega)
  have HA := Aside0.mk ha
  have HX := Aside0.mk hx
  have HY := Aside0.mk hy
  clear hr hm ha hx hy hl
  have ex : (X.2 == 0) = false := beq_eq_false_iff_ne.2 hx0
  have ey : (Y.2 == 0) = false := beq_eq_false_iff_ne.2 hy0
  clear hx0 hy0
  have HXZ := Aside0.mk hxz
  clear hxz
  have eyl : ((Y.1.length : Int) == 0) = true := beq_iff_eq.2 (by omega)
  have eyl2 : (Y.1.length == 0) = true := beq_iff_eq.2 hyl
  clear hyl
  go_enter Try.func5, Try.ntmps5
  go_upto_region 2 with (first | (go_at_call 11; (with_reducible refine (AwakeC.c HA.out _).mono ?_); rintro en wa ⟨rfl, hb_⟩; have n0_ := Aside0.mk (H.out.on hb_); clear H; have H := n0_; clear n0_; clear hb_))
  go_upto_region 3 with (first | ((with_reducible refine gate_dst (N := 21) rfl ?_); (try (refine gate_guard (by rfl) ?_; dsimp only)); refine ev_get (x := .tmp 7) rfl rfl rfl H.out.f.1.2 H.out.f.2 ?_) | (go_at_call 15; (with_reducible refine (few_msg H.out.f.2).mono ?_); rintro en ws ⟨rfl, hb_⟩; have n0_ := Aside0.mk (H.out.on hb_); clear H; have H := n0_; clear n0_; clear hb_))
  go_upto_region 8 with (fail)
  go_upto_region 9 with (first | (go_at_call 12; (with_reducible refine (ParseC.c HX.out H.out.f.1.1.2 hc).mono ?_); rintro en wx ⟨cxx, rfl, hm_, hb_⟩; have n0_ := Aside0.mk ((H.out.on hb_).add (sta_msg _ _) (hm_)); clear H; have H := n0_; clear n0_; clear hb_ hm_) | ((with_reducible refine gate_dst (N := 12) rfl ?_); refine ev_var (y := .tmp 37) rfl rfl rfl rfl rfl H.out.f.2 rfl rfl ?_; intro gx wxx hg_ h1_ hb_; have n0_ := Aside0.mk ((H.out.on hb_).add (sta_blk _ _) (h1_)); clear H; have H := n0_; clear n0_; clear h1_ hb_ hg_))
  go_upto_region 13 with (fail)
  go_upto_region 14 with (first | ((with_reducible refine gate_dst (N := 63) rfl ?_); (try (refine gate_guard (by rfl) ?_; dsimp only)); refine ev_get (x := .tmp 7) rfl rfl rfl H.out.f.1.1.1.2 H.out.f.1.1.2 ?_) | (go_at_call 16; (with_reducible refine (WriteC.c HY.out H.out.f.1.1.2).mono ?_); rintro en wy ⟨Ay, cy, rfl, hz_, hr_, hb_⟩; have n0_ := Aside0.mk ((H.out.on hb_).add (sta_C _ _ _ _) (hr_)); clear H; have H := n0_; clear n0_; have Zy := Aside0.mk hz_; clear hb_ hr_ hz_))
  go_upto_region 18 with (fail)
  go_wp2_with (first | ((with_reducible refine gate_dst (N := 90) rfl ?_); (try (refine gate_guard (by rfl) ?_; dsimp only)); refine ev_get (x := .tmp 12) rfl rfl rfl H.out.f.1.2 H.out.f.1.1.2 ?_) | ((with_reducible refine gate_dst (N := 91) rfl ?_); (try (refine gate_guard (by rfl) ?_; dsimp only)); refine ev_build (zeroC) rfl (by first | (go_simp; done) | (go_simp; rfl)) ?_; intro cz hcx_; have mx_ := (fun W => (by rw [hcx_]; exact (zero_is) W : IsMsg W cz (zeroM))); have n0_ := Aside0.mk ((H.out).add (sta_msg _ _) (mx_ _)); clear H; have H := n0_; clear n0_; clear hcx_ mx_) | (go_at_call 14; (with_reducible refine (refsame_msg H.out.f.1.1.1.2 H.out.f.2).mono ?_); rintro en wsz ⟨rfl, hb_⟩; have n0_ := Aside0.mk (H.out.on hb_); clear H; have H := n0_; clear n0_; clear hb_; rw [HXZ.out]))
  go_ret
  exact ⟨by first | rfl | (simp [same_refl]; done), H.out.b⟩
theorem Back_any {response : Bool} {code : Int} {A : Option Addr} {c : Nat} {l : List Int} {m : Msg} {cx : Array Value} {w : World} (hr : Kd.C (Kd.int .u8) w A l.length l) (hc : l.length ≤ c) (hm : IsMsg w cx m) (ha : AwakeC 11) (hf : fewB m = true → l.length ≤ 400 → ∀ dir, dir = 0 ∨ dir = 1 → ∃ X N Y, ParseC 12 dir code l X ∧ WriteC 16 dir m Y ∧ (X.2 = 0 → WriteC 16 dir X.1 (l, 0) ∧ X.1.code = code) ∧ (X.2 ≠ 0 → sameB X.1 zeroM = true) ∧ (Y.2 = 0 → ParseC 12 dir m.code Y.1 N ∧ N.2 = 0 ∧ sameB N.1 m = true) ∧ (Y.2 ≠ 0 → Y.1.length = 0)) (hbl : isBytes l) :
    Calls Try.prog 5 #[.bool response, .int .u8 code, .slice A l.length c, .agg cx] w fun en w' => en = .returned (.bool true) ∧ Below w.heap.size w w' := by
  by_cases hl : 400 < l.length
  · exact Back_long hr hc hm ha hl
  cases hw : fewB m with
  | false => exact Back_many hr hc hm ha hl hw
  | true =>
  have G := hf hw (by omega)
  cases response with
  | false =>
    obtain ⟨X, N, Y, p1, p2, p3, p4, p5, p6⟩ := G 0 (by simp)
    by_cases hx : X.2 = 0 <;> by_cases hy : Y.2 = 0
    · exact Back_011 (N := N) hr hc hm ha hl hw p1 hx p2 hy (p3 hx).1 hbl (p3 hx).2 (p5 hy).1 (p5 hy).2.1 (p5 hy).2.2
    · exact Back_010 (N := N) hr hc hm ha hl hw p1 hx p2 hy (p3 hx).1 hbl (p3 hx).2 (p6 hy)
    · exact Back_001 (N := N) hr hc hm ha hl hw p1 hx p2 hy (p4 hx) (p5 hy).1 (p5 hy).2.1 (p5 hy).2.2
    · exact Back_000 (N := N) hr hc hm ha hl hw p1 hx p2 hy (p4 hx) (p6 hy)
  | true =>
    obtain ⟨X, N, Y, p1, p2, p3, p4, p5, p6⟩ := G 1 (by simp)
    by_cases hx : X.2 = 0 <;> by_cases hy : Y.2 = 0
    · exact Back_111 (N := N) hr hc hm ha hl hw p1 hx p2 hy (p3 hx).1 hbl (p3 hx).2 (p5 hy).1 (p5 hy).2.1 (p5 hy).2.2
    · exact Back_110 (N := N) hr hc hm ha hl hw p1 hx p2 hy (p3 hx).1 hbl (p3 hx).2 (p6 hy)
    · exact Back_101 (N := N) hr hc hm ha hl hw p1 hx p2 hy (p4 hx) (p5 hy).1 (p5 hy).2.1 (p5 hy).2.2
    · exact Back_100 (N := N) hr hc hm ha hl hw p1 hx p2 hy (p4 hx) (p6 hy)
end Go.Proofs.Ytdjeekpgcjcffaa.Com
end
section
namespace Go.Proofs.Ytdjeekpgcjcffaa.Laws
open Go.RowKit Go.Proofs.Ytdjeekpgcjcffaa.P Go.Proofs.Ytdjeekpgcjcffaa.E Go.Proofs.Ytdjeekpgcjcffaa.Cur Go.Proofs.Ytdjeekpgcjcffaa.Cu Go.Proofs.Ytdjeekpgcjcffaa.Same Go.Proofs.Ytdjeekpgcjcffaa.Put Go.Proofs.Ytdjeekpgcjcffaa.Com Go.Proofs.Ytdjeekpgcjcffaa.Fil Go.Proofs.YtdjeekpgcjcffaaW.PrintWords Go.Proofs.YtdjeekpgcjcffaaW.PrintLast Go.Proofs.YtdjeekpgcjcffaaW.PrintMore
theorem busbarlaw11_FilesBack (response : Bool) (code : Int) (A : Option Addr) (c : Nat) (l : List Int) (m : Msg) (cx : Array Value) (w : World) (hr : Kd.C (Kd.int .u8) w A l.length l) (hc : l.length ≤ c) (hm : IsMsg w cx m) {p2 : Prop} (hcd : (Lit.int .u8 code).wf = true) (_ : p2) (hw : ∀ x ∈ l, (Lit.int .u8 x).wf = true) :
    Calls Try.prog 5 #[.bool response, .int .u8 code, .slice A l.length c, .agg cx] w fun en w' => en = .returned (.bool true) ∧ Below w.heap.size w w' := by
  have hb : isBytes l := fun x hx => u8_wf (hw x hx)
  refine Back_any hr hc hm awake_c (fun hf hl dir hd => ?_) hb
  have hs := few_small hf dir
  have hlb := lay_bytes (dir := dir) (m := m)
  refine ⟨parse dir code l, parse dir m.code (lay dir m), write dir m, parse_c (by omega) hb, write_c hs.1 hs.2.1, fun hx => ?_, fun hx => ?_, fun hy => ?_, fun hy => ?_⟩
  · obtain ⟨e1, e2⟩ := parse_rt hb hx
    have e4 := parse_small hb hx
    refine ⟨?_, e2⟩
    have e3 : write dir (parse dir code l).1 = (l, 0) := by
      unfold write
      rw [e1, e2]
      exact writeR_eq (by rw [← hx])
    rw [← e3]
    exact write_of (fun cx W hm => lay_c hm (by rw [e1]; omega) (by omega)) (parse_c (by rw [e1]; omega) (by rw [e1]; exact hb))
  · rw [parse_err hx]; exact same_refl _
  · obtain ⟨e1, e2, e3⟩ := writeR_ok hy
    refine ⟨?_, e1, by rw [e2]; exact same_refl m⟩
    rw [show write dir m = _ from e3]
    show ParseC _ dir m.code (lay dir m) _
    exact parse_c (by omega) hlb
  · rw [show write dir m = _ from writeR_no hy]; rfl
end Go.Proofs.Ytdjeekpgcjcffaa.Laws
end
