/- Go functions of this seat as Lean functions, each with a proof that the call answers just what its Lean function says; written by a program of this session (wip/tools/pr.py) over the kit's print. Conditions: what each theorem states. -/
import Derived.Test.YtpjapdkefjbimaaPx0
import Derived.Test.YtpjapdkefjbimaaPx1
import Derived.Test.YtpjapdkefjbimaaPx2
import Derived.Test.YtpjapdkefjbimaaPx3
import Derived.Test.YtpjapdkefjbimaaPx4
import Derived.Test.YtpjapdkefjbimaaPx5
namespace Go.Proofs.Ytpjapdkefjbimaa.P
open Go.RowKit Go.Proofs.YtpjapdkefjbimaaW.PrintWords Go.Proofs.YtpjapdkefjbimaaW.PrintLast Go.Proofs.YtpjapdkefjbimaaW.PrintMore
attribute [local go_sem] max2_int min2_int max_two min_two max_three min_three max_four min_four   -- for this text's walks alone
set_option linter.unusedVariables false
set_option linter.unusedSimpArgs false

/-! ### busbarlaw05_BitsBack: function 4 -/
def busbarlaw05_BitsBack.j0 : Nat → List Bool → Bool → List Int → List Bool → Bool → Bool → Option (Bool)
  | 0, _, _, _, _, _, _ => none
  | k + 1, x0, x5, x6, x7, x8, x47 => if x47 = true then (some false) else (if x5 = true then (if x8 = true then ((busbarref01_Bools.f k x7 x0).bind fun t184 => (if t184 = true then ((bits_Many.f (x0.length : Int)).bind fun t185 => (some ((x6.length : Int) == t185))) else (some false))) else (some false)) else (some false))
def busbarlaw05_BitsBack.f (k : Nat) (l0 : List Bool) (a1 : Int) : Option (Bool) := (busbarlaw05_awake.f k).bind fun t171 => (if (l0.length : Int) > 300 then (some t171) else ((bits_Pack.f k l0).bind fun t172 => ((bits_Unpack.f k t172 (l0.length : Int)).bind fun bt175 => ((bits_Unpack.f k t172 (wrap64 (a1))).bind fun bt179 => (if bt179.2 = true then (if (bt179.1.length : Int) = (wrap64 (a1)) then ((bits_Many.f (wrap64 (a1))).bind fun t183 => (busbarlaw05_BitsBack.j0 k l0 t171 t172 bt175.1 bt175.2 (t183 != (t172.length : Int)))) else (busbarlaw05_BitsBack.j0 k l0 t171 t172 bt175.1 bt175.2 true)) else (busbarlaw05_BitsBack.j0 k l0 t171 t172 bt175.1 bt175.2 false))))))
theorem busbarlaw05_BitsBack.mono_l : ∀ k, (∀ y0 y1 y2 y3 y4 y5, LeO (busbarlaw05_BitsBack.j0 k y0 y1 y2 y3 y4 y5) (busbarlaw05_BitsBack.j0 (k + 1) y0 y1 y2 y3 y4 y5))
  | 0 => fun _ _ _ _ _ _ r h => by simp [busbarlaw05_BitsBack.j0] at h
  | k + 1 => by
    have ih0 := busbarlaw05_BitsBack.mono_l k
    · intro y0 y1 y2 y3 y4 y5
      unfold busbarlaw05_BitsBack.j0
      repeat' first
      | (with_reducible exact ih0 _ _ _ _ _ _)
      | (with_reducible exact bits_Pack.mono _ _)
      | (with_reducible exact bits_Unpack.mono _ _ _)
      | (with_reducible exact busbarlaw05_awake.mono _)
      | (with_reducible exact busbarref01_Bools.mono _ _ _)
      | (with_reducible exact LeO.refl _)
      | (with_reducible exact LeO.none _)
      | (with_reducible refine LeO.ite ?_ ?_)
      | (with_reducible refine LeO.bind ?_ (fun _ => ?_))
      | exact ih0 _ _ _ _ _ _
      | exact bits_Pack.mono _ _
      | exact bits_Unpack.mono _ _ _
      | exact busbarlaw05_awake.mono _
      | exact busbarref01_Bools.mono _ _ _
      | exact LeO.none _
      | refine LeO.ite ?_ ?_
      | refine LeO.bind ?_ (fun _ => ?_)
theorem busbarlaw05_BitsBack.mono : ∀ a0 a1 k, LeO (busbarlaw05_BitsBack.f k a0 a1) (busbarlaw05_BitsBack.f (k + 1) a0 a1) := by
  intro a0 a1 k
  have ih0 := busbarlaw05_BitsBack.mono_l k
  unfold busbarlaw05_BitsBack.f
  repeat' first
      | (with_reducible exact ih0 _ _ _ _ _ _)
      | (with_reducible exact bits_Pack.mono _ _)
      | (with_reducible exact bits_Unpack.mono _ _ _)
      | (with_reducible exact busbarlaw05_awake.mono _)
      | (with_reducible exact busbarref01_Bools.mono _ _ _)
      | (with_reducible exact LeO.refl _)
      | (with_reducible exact LeO.none _)
      | (with_reducible refine LeO.ite ?_ ?_)
      | (with_reducible refine LeO.bind ?_ (fun _ => ?_))
      | exact ih0 _ _ _ _ _ _
      | exact bits_Pack.mono _ _
      | exact bits_Unpack.mono _ _ _
      | exact busbarlaw05_awake.mono _
      | exact busbarref01_Bools.mono _ _ _
      | exact LeO.none _
      | refine LeO.ite ?_ ?_
      | refine LeO.bind ?_ (fun _ => ?_)
set_option maxHeartbeats 8000000 in
set_option maxRecDepth 100000 in
theorem busbarlaw05_BitsBack.calls (k : Nat) (A0 : Option Addr) (c0 : Nat) (l0 : List Bool) (a1 : Int) (r : Bool) (w : World) (hr0 : Kd.C Kd.bool w A0 l0.length l0) (hc0 : l0.length ≤ c0) (h : busbarlaw05_BitsBack.f k l0 a1 = some r) :
    Calls Try.prog 4 #[.slice A0 l0.length c0, .int .u16 a1] w fun e w' => e = .returned (.bool r) ∧ Below w.heap.size w w' := by
  have HR0 := Aside0.mk hr0
  have HC0 := Aside0.mk hc0
  clear hr0 hc0
  have HB := Aside0.mk (Below.refl w.heap.size w)
  have H : ((busbarlaw05_awake.f k).bind fun t171 => (if (l0.length : Int) > 300 then (some t171) else ((bits_Pack.f k l0).bind fun t172 => ((bits_Unpack.f k t172 (l0.length : Int)).bind fun bt175 => ((bits_Unpack.f k t172 (wrap64 (a1))).bind fun bt179 => (if bt179.2 = true then (if (bt179.1.length : Int) = (wrap64 (a1)) then ((bits_Many.f (wrap64 (a1))).bind fun t183 => (busbarlaw05_BitsBack.j0 k l0 t171 t172 bt175.1 bt175.2 (t183 != (t172.length : Int)))) else (busbarlaw05_BitsBack.j0 k l0 t171 t172 bt175.1 bt175.2 true)) else (busbarlaw05_BitsBack.j0 k l0 t171 t172 bt175.1 bt175.2 false))))))) = some r := h
  clear h
  replace H := Option.bind_eq_some_iff.mp H
  obtain ⟨t171, A30, H⟩ := H
  replace H : (if (l0.length : Int) > 300 then (some t171) else ((bits_Pack.f k l0).bind fun t172 => ((bits_Unpack.f k t172 (l0.length : Int)).bind fun bt175 => ((bits_Unpack.f k t172 (wrap64 (a1))).bind fun bt179 => (if bt179.2 = true then (if (bt179.1.length : Int) = (wrap64 (a1)) then ((bits_Many.f (wrap64 (a1))).bind fun t183 => (busbarlaw05_BitsBack.j0 k l0 t171 t172 bt175.1 bt175.2 (t183 != (t172.length : Int)))) else (busbarlaw05_BitsBack.j0 k l0 t171 t172 bt175.1 bt175.2 true)) else (busbarlaw05_BitsBack.j0 k l0 t171 t172 bt175.1 bt175.2 false)))))) = some r := H
  have A3 := Aside0.mk A30
  clear A30
  by_cases c4 : (l0.length : Int) > 300
  · rw [if_pos c4] at H
    have c4b0 : decide (300 < (l0.length : Int)) = true := decide_eq_true c4
    have c4b1 : decide (300 < l0.length) = true := decide_eq_true (by omega)
    clear c4
    obtain rfl := Option.some.inj H
    go_enter Try.func4, Try.ntmps4
    go_wp2_with (first | ((with_reducible refine gate_callee (f := 7) rfl ?_); refine goesL_ (some 11) rfl rfl Try.func7 (by kernel_rfl) rfl #[] rfl (by (try simp only [List.map_toArray, List.map_cons, List.map_nil]); first | done | rfl | (simp only [List.length_drop, List.length_take]; rfl)) ?_; (with_reducible refine (busbarlaw05_awake.calls k  t171 _ A3.out).mono ?_); rintro e w5 ⟨rfl, hb⟩; refine ⟨_, rfl, ?_⟩; have n0_ := Aside0.mk (below_step (by repeat (first | (with_reducible first | exact HB.out | apply below_alloc | apply pw_below_drewN | apply below_drew1) | exact HB.out)) hb); clear HB; have HB := n0_; clear n0_; (try clear hb); (try clear hb2); (try clear hk); (try clear hi)))
    go_ret
    exact ⟨by first | rfl | (simp [errW_none, errW_some] <;> rfl) | (simp [*, errW_none, errW_some] <;> rfl), by repeat (first | (with_reducible first | exact HB.out | apply below_alloc | apply pw_below_drewN | apply below_drew1) | exact HB.out)⟩
  · rw [if_neg c4] at H
    have c4b0 : decide (300 < (l0.length : Int)) = false := decide_eq_false c4
    have c4b1 : decide (300 < l0.length) = false := decide_eq_false (by omega)
    clear c4
    replace H := Option.bind_eq_some_iff.mp H
    obtain ⟨t172, A60, H⟩ := H
    replace H : ((bits_Unpack.f k t172 (l0.length : Int)).bind fun bt175 => ((bits_Unpack.f k t172 (wrap64 (a1))).bind fun bt179 => (if bt179.2 = true then (if (bt179.1.length : Int) = (wrap64 (a1)) then ((bits_Many.f (wrap64 (a1))).bind fun t183 => (busbarlaw05_BitsBack.j0 k l0 t171 t172 bt175.1 bt175.2 (t183 != (t172.length : Int)))) else (busbarlaw05_BitsBack.j0 k l0 t171 t172 bt175.1 bt175.2 true)) else (busbarlaw05_BitsBack.j0 k l0 t171 t172 bt175.1 bt175.2 false)))) = some r := H
    have A6 := Aside0.mk A60
    clear A60
    replace H := Option.bind_eq_some_iff.mp H
    obtain ⟨⟨t175, t176⟩, A70, H⟩ := H
    replace H : ((bits_Unpack.f k t172 (wrap64 (a1))).bind fun bt179 => (if bt179.2 = true then (if (bt179.1.length : Int) = (wrap64 (a1)) then ((bits_Many.f (wrap64 (a1))).bind fun t183 => (busbarlaw05_BitsBack.j0 k l0 t171 t172 t175 t176 (t183 != (t172.length : Int)))) else (busbarlaw05_BitsBack.j0 k l0 t171 t172 t175 t176 true)) else (busbarlaw05_BitsBack.j0 k l0 t171 t172 t175 t176 false))) = some r := H
    have A7 := Aside0.mk A70
    clear A70
    replace H := Option.bind_eq_some_iff.mp H
    obtain ⟨⟨t179, t180⟩, A80, H⟩ := H
    replace H : (if t180 = true then (if (t179.length : Int) = (wrap64 (a1)) then ((bits_Many.f (wrap64 (a1))).bind fun t183 => (busbarlaw05_BitsBack.j0 k l0 t171 t172 t175 t176 (t183 != (t172.length : Int)))) else (busbarlaw05_BitsBack.j0 k l0 t171 t172 t175 t176 true)) else (busbarlaw05_BitsBack.j0 k l0 t171 t172 t175 t176 false)) = some r := H
    have A8 := Aside0.mk A80
    clear A80
    have HC9 := Aside0.mk H
    clear H
    go_enter Try.func4, Try.ntmps4
    go_upto_region 7 with (first | ((with_reducible refine gate_callee (f := 7) rfl ?_); refine goesL_ (some 11) rfl rfl Try.func7 (by kernel_rfl) rfl #[] rfl (by (try simp only [List.map_toArray, List.map_cons, List.map_nil]); first | done | rfl | (simp only [List.length_drop, List.length_take]; rfl)) ?_; (with_reducible refine (busbarlaw05_awake.calls k  t171 _ A3.out).mono ?_); rintro e w10 ⟨rfl, hb⟩; refine ⟨_, rfl, ?_⟩; have n0_ := Aside0.mk (below_step (by repeat (first | (with_reducible first | exact HB.out | apply below_alloc | apply pw_below_drewN | apply below_drew1) | exact HB.out)) hb); clear HB; have HB := n0_; clear n0_; (try clear hb); (try clear hb2); (try clear hk); (try clear hi)) | ((with_reducible refine gate_callee (f := 13) rfl ?_); refine goesL_ (some 17) rfl rfl Try.func13 (by kernel_rfl) rfl #[.slice A0 l0.length c0] rfl (by (try simp only [List.map_toArray, List.map_cons, List.map_nil]); first | done | rfl | (simp only [List.length_drop, List.length_take]; rfl)) ?_; (with_reducible refine (bits_Pack.calls k _ _ l0 t172 _ ?side1 ?side2 A6.out).mono ?_); (case side1 => repeat (first | exact (Kd.C_below HR0.out HB.out) | (with_reducible refine Kd.C_alloc ?_ _) | (with_reducible refine Kd.C_drewN ?_ _) | (with_reducible refine Kd.C_drew ?_))); (case side2 => exact HC0.out); rintro e w11 ⟨v173, rfl, ho0, hb⟩; refine ⟨_, rfl, ?_⟩; have n0_ := Aside0.mk (Kd.R_lower ho0 (below_size (by repeat (first | (with_reducible first | exact HB.out | apply below_alloc | apply pw_below_drewN | apply below_drew1) | exact HB.out)))); have n1_ := Aside0.mk (below_step (by repeat (first | (with_reducible first | exact HB.out | apply below_alloc | apply pw_below_drewN | apply below_drew1) | exact HB.out)) hb); clear HB; have HO174 := n0_; have HB := n1_; clear n0_ n1_; (try clear hb); (try clear hb2); (try clear hk); (try clear hi); (try clear ho0); obtain ⟨Ao12, co12, eo12⟩ := Kd.R_slice HO174.out; subst eo12) | ((with_reducible refine gate_callee (f := 8) rfl ?_); refine goesL_ (some 22) rfl rfl Try.func8 (by kernel_rfl) rfl #[.slice Ao12 t172.length co12, .int .i64 (l0.length : Int)] rfl (by (try simp only [List.map_toArray, List.map_cons, List.map_nil]); first | done | rfl | (simp only [List.length_drop, List.length_take]; rfl)) ?_; (with_reducible refine (bits_Unpack.calls k _ _ t172 (l0.length : Int) t175 t176 _ ?side1 ?side2 A7.out).mono ?_); (case side1 => repeat (first | exact (Kd.R_reads' HO174.out).2.2 | (with_reducible refine Kd.C_alloc ?_ _) | (with_reducible refine Kd.C_drewN ?_ _) | (with_reducible refine Kd.C_drew ?_))); (case side2 => exact (Kd.R_reads' HO174.out).2.1); rintro e w13 ⟨v177, rfl, ho0, hb⟩; refine ⟨_, rfl, ?_⟩; have n0_ := Aside0.mk (Kd.R_below (by (with_reducible repeat (first | apply Kd.R_alloc | apply Kd.R_drewN | apply Kd.R_drew)); exact HO174.out) hb); have n1_ := Aside0.mk (Kd.R_lower ho0 (below_size (by repeat (first | (with_reducible first | exact HB.out | apply below_alloc | apply pw_below_drewN | apply below_drew1) | exact HB.out)))); have n2_ := Aside0.mk (below_step (by repeat (first | (with_reducible first | exact HB.out | apply below_alloc | apply pw_below_drewN | apply below_drew1) | exact HB.out)) hb); clear HO174; clear HB; have HO174 := n0_; have HO178 := n1_; have HB := n2_; clear n0_ n1_ n2_; (try clear hb); (try clear hb2); (try clear hk); (try clear hi); (try clear ho0)) | ((with_reducible refine gate_callee (f := 8) rfl ?_); refine goesL_ (some 29) rfl rfl Try.func8 (by kernel_rfl) rfl #[.slice Ao12 t172.length co12, .int .i64 (wrap64 (a1))] rfl (by (try simp only [List.map_toArray, List.map_cons, List.map_nil]); first | done | rfl | (simp only [List.length_drop, List.length_take]; rfl)) ?_; (with_reducible refine (bits_Unpack.calls k _ _ t172 (wrap64 (a1)) t179 t180 _ ?side1 ?side2 A8.out).mono ?_); (case side1 => repeat (first | exact (Kd.R_reads' HO174.out).2.2 | (with_reducible refine Kd.C_alloc ?_ _) | (with_reducible refine Kd.C_drewN ?_ _) | (with_reducible refine Kd.C_drew ?_))); (case side2 => exact (Kd.R_reads' HO174.out).2.1); rintro e w14 ⟨v181, rfl, ho0, hb⟩; refine ⟨_, rfl, ?_⟩; have n0_ := Aside0.mk (Kd.R_below (by (with_reducible repeat (first | apply Kd.R_alloc | apply Kd.R_drewN | apply Kd.R_drew)); exact HO174.out) hb); have n1_ := Aside0.mk (Kd.R_elder' (by (with_reducible repeat (first | apply Kd.R_alloc | apply Kd.R_drewN | apply Kd.R_drew)); exact HO178.out) (Kd.R_base ho0) hb); have n2_ := Aside0.mk (Kd.R_lower (Kd.R_new' ho0 (Kd.R_lt (by (with_reducible repeat (first | apply Kd.R_alloc | apply Kd.R_drewN | apply Kd.R_drew)); exact HO178.out))) (below_size (by repeat (first | (with_reducible first | exact HB.out | apply below_alloc | apply pw_below_drewN | apply below_drew1) | exact HB.out)))); have n3_ := Aside0.mk (below_step (by repeat (first | (with_reducible first | exact HB.out | apply below_alloc | apply pw_below_drewN | apply below_drew1) | exact HB.out)) hb); clear HO174; clear HO178; clear HB; have HO174 := n0_; have HO178 := n1_; have HO182 := n2_; have HB := n3_; clear n0_ n1_ n2_ n3_; (try clear hb); (try clear hb2); (try clear hk); (try clear hi); (try clear ho0)))
    (try simp only [Act.put, List.setIfInBounds_toArray, List.set_cons_zero, List.set_cons_succ])
    go_cut [47] (fun v47 wc => ∃ (kq : Nat) (x47_8 : Bool), v47 = .bool x47_8 ∧ Aside0 (busbarlaw05_BitsBack.j0 kq l0 t171 t172 t175 t176 x47_8 = some r) ∧ Aside0 (kq ≤ k) ∧ Aside0 (Kd.R (Kd.int .u8) 5 wc w.heap.size (fun _ => True) (.slice Ao12 t172.length co12) t172) ∧ Aside0 (Kd.R Kd.bool 4 wc w.heap.size (fun _ => True) v177 t175) ∧ Aside0 (Below w.heap.size w wc))
    case first =>
      have H := HC9.out
      clear HC9
      by_cases c15 : t180 = true
      · subst c15
        have H1 : (if (t179.length : Int) = (wrap64 (a1)) then ((bits_Many.f (wrap64 (a1))).bind fun t183 => (busbarlaw05_BitsBack.j0 k l0 t171 t172 t175 t176 (t183 != (t172.length : Int)))) else (busbarlaw05_BitsBack.j0 k l0 t171 t172 t175 t176 true)) = some r := by rw [if_pos rfl] at H; exact H
        clear H
        have H := H1
        clear H1
        by_cases c16 : (t179.length : Int) = (wrap64 (a1))
        · rw [if_pos c16] at H
          have c16b0 : ((t179.length : Int) == (wrap64 (a1))) = true := beq_iff_eq.mpr c16
          have c16b1 : ((t179.length : Int) != (wrap64 (a1))) = false := bne_eq_false_iff_eq.mpr c16
          clear c16
          (first | rw [c16b0] | (simp only [i64_w, i32_w]; rw [c16b0]) | skip)
          replace H := Option.bind_eq_some_iff.mp H
          obtain ⟨t183, A170, H⟩ := H
          replace H : (busbarlaw05_BitsBack.j0 k l0 t171 t172 t175 t176 (t183 != (t172.length : Int))) = some r := H
          have A17 := Aside0.mk A170
          clear A170
          have H' := Aside0.mk H
          clear H
          obtain ⟨Ao18, co18, eo18⟩ := Kd.R_slice HO182.out
          subst eo18
          go_wp2_with (first | (go_at_call 10; (with_reducible refine (bits_Many.calls (wrap64 (a1)) t183 _ A17.out).mono ?_); rintro e w' ⟨rfl, ⟨nd, rfl⟩⟩))
          go_meet
          case rel => exact ⟨_, ((t183 != (t172.length : Int))), (by first | rfl | (simp; done) | (simp [*]; done)), H', ⟨by first | omega | exact Nat.le_refl _⟩, ⟨by (with_reducible repeat (first | apply Kd.R_alloc | apply Kd.R_drewN | apply Kd.R_drew)); exact HO174.out⟩, ⟨by (with_reducible repeat (first | apply Kd.R_alloc | apply Kd.R_drewN | apply Kd.R_drew)); exact Kd.R_mono HO178.out (fun _ hk => trivial)⟩, ⟨by repeat (first | (with_reducible first | exact HB.out | apply below_alloc | apply pw_below_drewN | apply below_drew1) | exact HB.out)⟩⟩
        · rw [if_neg c16] at H
          have c16b0 : ((t179.length : Int) == (wrap64 (a1))) = false := beq_eq_false_iff_ne.mpr c16
          have c16b1 : ((t179.length : Int) != (wrap64 (a1))) = true := bne_iff_ne.mpr c16
          (first | rw [c16b0] | (simp only [i64_w, i32_w]; rw [c16b0]) | skip)
          have H' := Aside0.mk H
          clear H
          obtain ⟨Ao19, co19, eo19⟩ := Kd.R_slice HO182.out
          subst eo19
          go_wp2
          go_meet
          case rel => exact ⟨_, (true), (by first | rfl | (simp; done) | (simp [*]; done)), H', ⟨by first | omega | exact Nat.le_refl _⟩, ⟨by (with_reducible repeat (first | apply Kd.R_alloc | apply Kd.R_drewN | apply Kd.R_drew)); exact HO174.out⟩, ⟨by (with_reducible repeat (first | apply Kd.R_alloc | apply Kd.R_drewN | apply Kd.R_drew)); exact Kd.R_mono HO178.out (fun _ hk => trivial)⟩, ⟨by repeat (first | (with_reducible first | exact HB.out | apply below_alloc | apply pw_below_drewN | apply below_drew1) | exact HB.out)⟩⟩
      · replace c15 := Bool.eq_false_iff.mpr c15
        subst c15
        have H1 : (busbarlaw05_BitsBack.j0 k l0 t171 t172 t175 t176 false) = some r := by rw [if_neg (show ¬ (false = true) by decide)] at H; exact H
        clear H
        have H := H1
        clear H1
        have H' := Aside0.mk H
        clear H
        go_wp2
        go_meet
        case rel => exact ⟨_, (false), (by first | rfl | (simp; done) | (simp [*]; done)), H', ⟨by first | omega | exact Nat.le_refl _⟩, ⟨by (with_reducible repeat (first | apply Kd.R_alloc | apply Kd.R_drewN | apply Kd.R_drew)); exact HO174.out⟩, ⟨by (with_reducible repeat (first | apply Kd.R_alloc | apply Kd.R_drewN | apply Kd.R_drew)); exact Kd.R_mono HO178.out (fun _ hk => trivial)⟩, ⟨by repeat (first | (with_reducible first | exact HB.out | apply below_alloc | apply pw_below_drewN | apply below_drew1) | exact HB.out)⟩⟩
    case rest =>
      clear HC9
      try clear c1
      try clear p2
      try clear c4
      try clear c4b0
      try clear c4b1
      try clear p6
      try clear c7
      try clear c8
      try clear c13
      try clear c15
      try clear c16
      try clear c16b0
      try clear c16b1
      obtain ⟨kq, x47_8, rfl, HA, HJ8, HO_6, HO_7, HB⟩ := hcut
      cases kq with
      | zero => exact absurd HA.out (by simp [busbarlaw05_BitsBack.j0])
      | succ kj8 =>
        have H := HA.out
        clear HA
        simp only [busbarlaw05_BitsBack.j0] at H
        by_cases c20 : x47_8 = true
        · subst c20
          have H1 : (some false) = some r := by rw [if_pos rfl] at H; exact H
          clear H
          have H := H1
          clear H1
          obtain rfl := Option.some.inj H
          go_wp2
          go_ret
          exact ⟨by first | rfl | (simp [errW_none, errW_some] <;> rfl) | (simp [*, errW_none, errW_some] <;> rfl), by repeat (first | (with_reducible first | exact HB.out | apply below_alloc | apply pw_below_drewN | apply below_drew1) | exact HB.out)⟩
        · replace c20 := Bool.eq_false_iff.mpr c20
          subst c20
          have H1 : (if t171 = true then (if t176 = true then ((busbarref01_Bools.f kj8 t175 l0).bind fun t184 => (if t184 = true then ((bits_Many.f (l0.length : Int)).bind fun t185 => (some ((t172.length : Int) == t185))) else (some false))) else (some false)) else (some false)) = some r := by rw [if_neg (show ¬ (false = true) by decide)] at H; exact H
          clear H
          have H := H1
          clear H1
          by_cases c21 : t171 = true
          · subst c21
            have H1 : (if t176 = true then ((busbarref01_Bools.f kj8 t175 l0).bind fun t184 => (if t184 = true then ((bits_Many.f (l0.length : Int)).bind fun t185 => (some ((t172.length : Int) == t185))) else (some false))) else (some false)) = some r := by rw [if_pos rfl] at H; exact H
            clear H
            have H := H1
            clear H1
            by_cases c22 : t176 = true
            · subst c22
              have H1 : ((busbarref01_Bools.f kj8 t175 l0).bind fun t184 => (if t184 = true then ((bits_Many.f (l0.length : Int)).bind fun t185 => (some ((t172.length : Int) == t185))) else (some false))) = some r := by rw [if_pos rfl] at H; exact H
              clear H
              have H := H1
              clear H1
              replace H := Option.bind_eq_some_iff.mp H
              obtain ⟨t184, A230, H⟩ := H
              replace H : (if t184 = true then ((bits_Many.f (l0.length : Int)).bind fun t185 => (some ((t172.length : Int) == t185))) else (some false)) = some r := H
              have A23 := Aside0.mk A230
              clear A230
              by_cases c24 : t184 = true
              · subst c24
                have H1 : ((bits_Many.f (l0.length : Int)).bind fun t185 => (some ((t172.length : Int) == t185))) = some r := by rw [if_pos rfl] at H; exact H
                clear H
                have H := H1
                clear H1
                replace H := Option.bind_eq_some_iff.mp H
                obtain ⟨t185, A250, H⟩ := H
                replace H : (some ((t172.length : Int) == t185)) = some r := H
                have A25 := Aside0.mk A250
                clear A250
                obtain rfl := Option.some.inj H
                obtain ⟨Ao26, co26, eo26⟩ := Kd.R_slice HO_7.out
                subst eo26
                go_wp2_with (first | (go_at_call 15; (with_reducible refine (busbarref01_Bools.calls kj8 _ _ t175 _ _ l0 true _ ?side1 ?side2 ?side3 ?side4 A23.out).mono ?_); (case side1 => repeat (first | exact (Kd.R_reads' HO_7.out).2.2 | (with_reducible refine Kd.C_alloc ?_ _) | (with_reducible refine Kd.C_drewN ?_ _) | (with_reducible refine Kd.C_drew ?_))); (case side2 => exact (Kd.R_reads' HO_7.out).2.1); (case side3 => repeat (first | exact (Kd.C_below HR0.out HB.out) | (with_reducible refine Kd.C_alloc ?_ _) | (with_reducible refine Kd.C_drewN ?_ _) | (with_reducible refine Kd.C_drew ?_))); (case side4 => exact HC0.out); rintro e w' ⟨rfl, ⟨nd, rfl⟩⟩) | (go_at_call 10; (with_reducible refine (bits_Many.calls (l0.length : Int) t185 _ A25.out).mono ?_); rintro e w' ⟨rfl, ⟨nd, rfl⟩⟩))
                go_ret
                exact ⟨by first | rfl | (simp [errW_none, errW_some] <;> rfl) | (simp [*, errW_none, errW_some] <;> rfl), by repeat (first | (with_reducible first | exact HB.out | apply below_alloc | apply pw_below_drewN | apply below_drew1) | exact HB.out)⟩
              · replace c24 := Bool.eq_false_iff.mpr c24
                subst c24
                have H1 : (some false) = some r := by rw [if_neg (show ¬ (false = true) by decide)] at H; exact H
                clear H
                have H := H1
                clear H1
                obtain rfl := Option.some.inj H
                obtain ⟨Ao27, co27, eo27⟩ := Kd.R_slice HO_7.out
                subst eo27
                go_wp2_with (first | (go_at_call 15; (with_reducible refine (busbarref01_Bools.calls kj8 _ _ t175 _ _ l0 false _ ?side1 ?side2 ?side3 ?side4 A23.out).mono ?_); (case side1 => repeat (first | exact (Kd.R_reads' HO_7.out).2.2 | (with_reducible refine Kd.C_alloc ?_ _) | (with_reducible refine Kd.C_drewN ?_ _) | (with_reducible refine Kd.C_drew ?_))); (case side2 => exact (Kd.R_reads' HO_7.out).2.1); (case side3 => repeat (first | exact (Kd.C_below HR0.out HB.out) | (with_reducible refine Kd.C_alloc ?_ _) | (with_reducible refine Kd.C_drewN ?_ _) | (with_reducible refine Kd.C_drew ?_))); (case side4 => exact HC0.out); rintro e w' ⟨rfl, ⟨nd, rfl⟩⟩))
                go_ret
                exact ⟨by first | rfl | (simp [errW_none, errW_some] <;> rfl) | (simp [*, errW_none, errW_some] <;> rfl), by repeat (first | (with_reducible first | exact HB.out | apply below_alloc | apply pw_below_drewN | apply below_drew1) | exact HB.out)⟩
            · replace c22 := Bool.eq_false_iff.mpr c22
              subst c22
              have H1 : (some false) = some r := by rw [if_neg (show ¬ (false = true) by decide)] at H; exact H
              clear H
              have H := H1
              clear H1
              obtain rfl := Option.some.inj H
              go_wp2
              go_ret
              exact ⟨by first | rfl | (simp [errW_none, errW_some] <;> rfl) | (simp [*, errW_none, errW_some] <;> rfl), by repeat (first | (with_reducible first | exact HB.out | apply below_alloc | apply pw_below_drewN | apply below_drew1) | exact HB.out)⟩
          · replace c21 := Bool.eq_false_iff.mpr c21
            subst c21
            have H1 : (some false) = some r := by rw [if_neg (show ¬ (false = true) by decide)] at H; exact H
            clear H
            have H := H1
            clear H1
            obtain rfl := Option.some.inj H
            go_wp2
            go_ret
            exact ⟨by first | rfl | (simp [errW_none, errW_some] <;> rfl) | (simp [*, errW_none, errW_some] <;> rfl), by repeat (first | (with_reducible first | exact HB.out | apply below_alloc | apply pw_below_drewN | apply below_drew1) | exact HB.out)⟩

end Go.Proofs.Ytpjapdkefjbimaa.P
