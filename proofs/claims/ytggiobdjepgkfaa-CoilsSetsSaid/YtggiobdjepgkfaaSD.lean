/- What the laws of this chapter rest on, part 4: what the functions that they reach answer, each shown once. Conditions: what each theorem states. (Merged by a program of this session, wip/tools/merge.py, out of its own texts and of the words that the kit's print wrote for this seat, cut to those that are used.) -/
import Derived.Deep.Slices
import Derived.Deep.Fields
import Derived.ChangeArms
import Derived.Test.YtggiobdjepgkfaaSC
set_option linter.unusedVariables false
set_option linter.unusedSimpArgs false
set_option maxHeartbeats 16000000
set_option maxRecDepth 100000
section
namespace Go.Proofs.Ytggiobdjepgkfaa.P
open Go.RowKit Go.Proofs.YtggiobdjepgkfaaW.PrintWords Go.Proofs.YtggiobdjepgkfaaW.PrintLast Go.Proofs.YtggiobdjepgkfaaW.PrintMore
attribute [local go_sem] max2_int min2_int max_two min_two max_three min_three max_four min_four   -- for this text's walks alone
def word_Put.l0 : Nat → List Int → List Int → Int → Int → Option (List Int)
  | 0, _, _, _, _ => none
  | k + 1, x3, x6, x7, x8 => if x8 < x7 then (if 0 ≤ x8 then (if x8 < (x6.length : Int) then ((some (([((rd x6 x8) / 256) % 256, (rd x6 x8) % 256] : List Int) : List Int)).bind fun y117 => (if x3.length + y117.length < 140737488355328 then (word_Put.l0 k (x3 ++ y117) x6 x7 (wrap64 (x8 + 1))) else (none))) else (none)) else (none)) else (some x3)
def word_Put.f (k : Nat) (l0 : List Int) : Option (List Int) := word_Put.l0 k ([] : List Int) l0 (l0.length : Int) 0
theorem word_Put.mono_l : ∀ k, (∀ y0 y1 y2 y3, LeO (word_Put.l0 k y0 y1 y2 y3) (word_Put.l0 (k + 1) y0 y1 y2 y3))
  | 0 => fun _ _ _ _ r h => by simp [word_Put.l0] at h
  | k + 1 => by
    have ih0 := word_Put.mono_l k
    · intro y0 y1 y2 y3
      unfold word_Put.l0
      repeat' first
      | (with_reducible exact ih0 _ _ _ _)
      | (with_reducible exact LeO.refl _)
      | (with_reducible exact LeO.none _)
      | (with_reducible refine LeO.ite ?_ ?_)
      | (with_reducible refine LeO.bind ?_ (fun _ => ?_))
      | exact ih0 _ _ _ _
      | exact LeO.none _
      | refine LeO.ite ?_ ?_
      | refine LeO.bind ?_ (fun _ => ?_)
theorem word_Put.mono : ∀ a0 k, LeO (word_Put.f k a0) (word_Put.f (k + 1) a0) := by
  intro a0 k
  have ih0 := word_Put.mono_l k
  unfold word_Put.f
  repeat' first
      | (with_reducible exact ih0 _ _ _ _)
      | (with_reducible exact LeO.refl _)
      | (with_reducible exact LeO.none _)
      | (with_reducible refine LeO.ite ?_ ?_)
      | (with_reducible refine LeO.bind ?_ (fun _ => ?_))
      | exact ih0 _ _ _ _
      | exact LeO.none _
      | refine LeO.ite ?_ ?_
      | refine LeO.bind ?_ (fun _ => ?_)
theorem word_Put.calls (k : Nat) (A0 : Option Addr) (c0 : Nat) (l0 : List Int) (r : List Int) (w : World) (hr0 : Kd.C (Kd.int .u16) w A0 l0.length l0) (hc0 : l0.length ≤ c0) (h : word_Put.f k l0 = some r) :
    Calls Try.prog 53 #[.slice A0 l0.length c0] w fun e w' => ∃ v0_ : Value, e = .returned (v0_) ∧ Kd.R (Kd.int .u8) 5 w' w.heap.size (fun _ => True) v0_ r ∧ Below w.heap.size w w' := by
  have HR0 := Aside0.mk hr0
  have HC0 := Aside0.mk hc0
  clear hr0 hc0
  have HB := Aside0.mk (Below.refl w.heap.size w)
  have H : (word_Put.l0 k ([] : List Int) l0 (l0.length : Int) 0) = some r := h
  clear h
  have H' := Aside0.mk H
  clear H
  go_enter Try.func53, Try.ntmps53
  go_wp2
  go_loopg [3, 8] k (fun kq v3 v8 w' => ∃ (x3_1 : List Int) (x8_1 : Int), v8 = .int .i64 x8_1 ∧ Aside0 (word_Put.l0 kq x3_1 l0 (l0.length : Int) x8_1 = some r) ∧ Aside0 (kq ≤ k) ∧ Aside0 (Kd.R (Kd.int .u8) 5 w' w.heap.size (fun _ => True) v3 x3_1) ∧ Aside0 (Below w.heap.size w w'))
  case atStart => exact ⟨(([] : List Int)), (0), (by first | rfl | (simp; done) | (simp [*]; done)), H', ⟨Nat.le_refl _⟩, ⟨by first | exact Kd.R_nil _ _ _ _ _ | exact Kd.N_nil _ _ _ _ _ | exact Kd.V_nil _ _ _ _ _ | exact Kd.Q_nil _ _ _ _ _ | exact Kd.S_nil _ _ _ _ _⟩, ⟨by repeat (first | (with_reducible first | exact HB.out | apply below_alloc | apply pw_below_drewN | apply below_drew1) | exact HB.out)⟩⟩
  case round =>
    clear H'
    obtain ⟨x3_1, x8_1, rfl, HA, HK1, HO_3, HB⟩ := hrel
    cases gk with
    | zero => exact absurd HA.out (by simp [word_Put.l0])
    | succ k1 =>
      have H := HA.out
      clear HA
      simp only [word_Put.l0] at H
      by_cases c2 : x8_1 < (l0.length : Int)
      · rw [if_pos c2] at H
        have c2b0 : decide (x8_1 < (l0.length : Int)) = true := decide_eq_true c2
        clear c2
        by_cases c3 : 0 ≤ x8_1
        · rw [if_pos c3] at H
          have c3b0 : decide (0 ≤ x8_1) = true := decide_eq_true c3
          clear c3
          by_cases c4 : x8_1 < (l0.length : Int)
          · rw [if_pos c4] at H
            have c4b0 : decide (x8_1 < (l0.length : Int)) = true := decide_eq_true c4
            clear c4
            obtain ⟨y117, hy117⟩ : ∃ y_ : List Int, y_ = (([((rd l0 x8_1) / 256) % 256, (rd l0 x8_1) % 256] : List Int)) := ⟨_, rfl⟩
            replace H : (if x3_1.length + y117.length < 140737488355328 then (word_Put.l0 k1 (x3_1 ++ y117) l0 (l0.length : Int) (wrap64 (x8_1 + 1))) else (none)) = some r := by first | (rw [hy117]; with_reducible exact H) | (have H2_ := (Option.bind_some _ _).symm.trans H; rw [hy117]; with_reducible exact H2_) | (have H2_ := (Option.bind_some _ _).symm.trans H; with_reducible exact H2_) | with_reducible exact H | (rw [hy117]; exact H) | exact H
            have Ny117 := Aside0.mk hy117
            clear hy117
            by_cases c5 : x3_1.length + y117.length < 140737488355328
            · rw [if_pos c5] at H
              have LMc5 := Aside0.mk c5
              clear c5
              obtain ⟨y120, hy120⟩ : ∃ y_ : List Int, y_ = (x3_1 ++ y117) := ⟨_, rfl⟩
              replace H : (word_Put.l0 k1 y120 l0 (l0.length : Int) (wrap64 (x8_1 + 1))) = some r := by first | (rw [hy120]; with_reducible exact H) | (have H2_ := (Option.bind_some _ _).symm.trans H; rw [hy120]; with_reducible exact H2_) | (have H2_ := (Option.bind_some _ _).symm.trans H; with_reducible exact H2_) | with_reducible exact H | (rw [hy120]; exact H) | exact H
              have Ny120 := Aside0.mk hy120
              clear hy120
              have H' := Aside0.mk H
              clear H
              have p116 : 0 ≤ (x8_1 : Int) := of_decide_eq_true (by first | (with_reducible assumption) | assumption)
              have q116 : x8_1 < (l0.length : Int) := of_decide_eq_true (by first | (with_reducible assumption) | assumption)
              obtain ⟨ad116, e116, hx116_0⟩ := Kd.at_int HR0.out x8_1 p116 q116
              cases e116
              replace hx116_0 := (HB.out.cell (World.block_lt_of_cell? w _ hx116_0)).trans hx116_0
              replace p116 := eq_true p116
              replace q116 := eq_true q116
              go_wp2_with (first | ((with_reducible refine gate_dst (N := 18) rfl ?_); refine Kd.R_lit (Kd.int .u8) _ 5 ?hg (N := 18) ?hd (xs := ([((rd l0 x8_1) / 256) % 256, (rd l0 x8_1) % 256] : List Int)) (inner := [.int .u8 (((rd l0 x8_1) / 256) % 256), .int .u8 ((rd l0 x8_1) % 256)]) (ok := fun _ => True) (okp := fun _ => True) ?hr ?hp (fun _ hk => hk) trivial (Below.refl _ _) (Nat.le_refl _) (by simp) ?_; (case hd => rfl); (case hg => rfl); (case hr => first | (go_simp; done) | (go_simp; rfl)); (case hp => exact (Reps.one (show Kd.M (Kd.int .u8) _ _ _ (((rd l0 x8_1) / 256) % 256) [.int .u8 (((rd l0 x8_1) / 256) % 256)] from rfl) (Reps.one (show Kd.M (Kd.int .u8) _ _ _ ((rd l0 x8_1) % 256) [.int .u8 ((rd l0 x8_1) % 256)] from rfl) (Reps.none _ _)))); intro v118 w6 ho7 hb hg_ hnew_; clear hg_ hnew_; (first | rw [← Ny117.out] at ho7 | (simp only [Int.reduceToNat] at ho7; rw [← Ny117.out] at ho7)); have n0_ := Aside0.mk (Kd.R_elder' (by (with_reducible repeat (first | apply Kd.R_alloc | apply Kd.R_drewN | apply Kd.R_drew)); exact HO_3.out) (Kd.R_base ho7) hb); have n1_ := Aside0.mk (Kd.R_lower (Kd.R_new' ho7 (Kd.R_lt (by (with_reducible repeat (first | apply Kd.R_alloc | apply Kd.R_drewN | apply Kd.R_drew)); exact HO_3.out))) (below_size (by repeat (first | (with_reducible first | exact HB.out | apply below_alloc | apply pw_below_drewN | apply below_drew1) | exact HB.out)))); have n2_ := Aside0.mk (below_step (by repeat (first | (with_reducible first | exact HB.out | apply below_alloc | apply pw_below_drewN | apply below_drew1) | exact HB.out)) hb); clear HO_3; clear HB; have HO_3 := n0_; have HO119 := n1_; have HB := n2_; clear n0_ n1_ n2_; clear hb ho7; obtain ⟨Ao9, co9, eo9⟩ := Kd.R_slice HO119.out; subst eo9) | ((with_reducible refine gate_builtin (b := .append) (xs := #[.tmp 12, .tmp 18]) rfl ?_); at_builtin; refine Kd.R_append_rows (Kd.int .u8) (w0 := w) w.heap.size rfl (.tmp 12) (.tmp 18) 22 5 (.int .u8 0) 1 rfl Try.underlying22 info5 rfl (by decide) (by omega) u3 x3_1 y117 _ _ _ (fun k_ => some k_ ≠ (.slice Ao9 y117.length co9 : Value).ownBlock) (fun _ => False) rfl rfl ?aO ?aR (fun _ _ h => h) (fun _ h => h.elim) ?aF ?aB ?aS ?aL ?_; (case aR => repeat (first | exact (Kd.R_reads' HO119.out).2.2 | (with_reducible refine Kd.C_alloc ?_ _) | (with_reducible refine Kd.C_drewN ?_ _) | (with_reducible refine Kd.C_drew ?_))); (case aB => exact (by repeat (first | (with_reducible first | exact HB.out | apply below_alloc | apply pw_below_drewN | apply below_drew1) | exact HB.out))); (case aF => exact (fun k_ hk => Kd.fresh' (Kd.R_lt (by (with_reducible repeat (first | apply Kd.R_alloc | apply Kd.R_drewN | apply Kd.R_drew)); exact HO119.out)) k_ hk)); (case aO => exact (by (with_reducible repeat (first | apply Kd.R_alloc | apply Kd.R_drewN | apply Kd.R_drew)); exact Kd.R_mono HO_3.out (fun _ hk => hk.2))); (case aS => exact (below_size (by repeat (first | (with_reducible first | exact HB.out | apply below_alloc | apply pw_below_drewN | apply below_drew1) | exact HB.out)))); (case aL => have := LMc5.out; omega); intro v121 w8 ho hb hg hat; rw [← Ny120.out] at ho; have n0_ := Aside0.mk (Kd.R_after (ok := (fun _ => True)) (by (with_reducible repeat (first | apply Kd.R_alloc | apply Kd.R_drewN | apply Kd.R_drew)); exact HO119.out) hg hat); have n1_ := Aside0.mk (hb); have n2_ := Aside0.mk (ho); clear HO119; clear HB; clear HO_3; have HO119 := n0_; have HB := n1_; have HO122 := n2_; clear n0_ n1_ n2_; clear ho hb hg hat))
              go_roundg k1
              case measure => have := HK1.out; omega
              case rel => exact ⟨(y120), (wrap64 (x8_1 + 1)), (by first | rfl | (simp; done) | (simp [*]; done)), H', ⟨by have := HK1.out; omega⟩, ⟨by (with_reducible repeat (first | apply Kd.R_alloc | apply Kd.R_drewN | apply Kd.R_drew)); exact Kd.R_mono HO122.out (fun _ hk => trivial)⟩, ⟨by repeat (first | (with_reducible first | exact HB.out | apply below_alloc | apply pw_below_drewN | apply below_drew1) | exact HB.out)⟩⟩
            · rw [if_neg c5] at H
              exact absurd H (by simp)
          · rw [if_neg c4] at H
            exact absurd H (by simp)
        · rw [if_neg c3] at H
          exact absurd H (by simp)
      · rw [if_neg c2] at H
        have c2b0 : decide (x8_1 < (l0.length : Int)) = false := decide_eq_false c2
        clear c2
        obtain rfl := Option.some.inj H
        go_wp2
        go_ret
        exact ⟨_, by first | rfl | (simp [errW_none, errW_some] <;> rfl) | (simp [*, errW_none, errW_some] <;> rfl), by (with_reducible repeat (first | apply Kd.R_alloc | apply Kd.R_drewN | apply Kd.R_drew)); exact HO_3.out, by repeat (first | (with_reducible first | exact HB.out | apply below_alloc | apply pw_below_drewN | apply below_drew1) | exact HB.out)⟩
end Go.Proofs.Ytggiobdjepgkfaa.P
end
section
namespace Go.Proofs.Ytggiobdjepgkfaa.P
open Go.RowKit Go.Proofs.YtggiobdjepgkfaaW.PrintWords Go.Proofs.YtggiobdjepgkfaaW.PrintLast Go.Proofs.YtggiobdjepgkfaaW.PrintMore
attribute [local go_sem] max2_int min2_int max_two min_two max_three min_three max_four min_four   -- for this text's walks alone
end Go.Proofs.Ytggiobdjepgkfaa.P
end
section
namespace Go.Proofs.Ytggiobdjepgkfaa.Put
open Go.RowKit Go.Proofs.Ytggiobdjepgkfaa.P Go.Proofs.Ytggiobdjepgkfaa.E Go.Proofs.Ytggiobdjepgkfaa.Take Go.Proofs.YtggiobdjepgkfaaW.PrintWords Go.Proofs.YtggiobdjepgkfaaW.PrintLast Go.Proofs.YtggiobdjepgkfaaW.PrintMore
def is16 (ws : List Int) : Prop := ∀ w ∈ ws, 0 ≤ w ∧ w < 65536
def putL : List Int → List Int
  | [] => []
  | w :: r => (w / 256) % 256 :: w % 256 :: putL r
theorem putL_length : ∀ ws : List Int, (putL ws).length = 2 * ws.length
  | [] => rfl
  | w :: r => by simp only [putL, List.length_cons, putL_length r]; omega
theorem putL_append : ∀ a b : List Int, putL (a ++ b) = putL a ++ putL b
  | [], b => rfl
  | w :: r, b => by simp only [List.cons_append, putL, putL_append r b]
theorem putL_bytes : ∀ ws : List Int, isBytes (putL ws)
  | [] => fun x h => by cases h
  | w :: r => fun x hx => by
    rcases List.mem_cons.1 hx with rfl | hx
    · omega
    rcases List.mem_cons.1 hx with rfl | hx
    · omega
    · exact putL_bytes r x hx
theorem put_l0 (ws : List Int) (h : is16 ws) (hl : ws.length ≤ 1000000) : ∀ (d i : Nat), d = ws.length - i → i ≤ ws.length → word_Put.l0 (d + 1) (putL (ws.take i)) ws (ws.length : Int) (i : Int) = some (putL ws) := by
  intro d
  induction d with
  | zero =>
    intro i hd hi
    have e : i = ws.length := by omega
    subst e
    unfold word_Put.l0
    rw [if_neg (by omega), List.take_length]
  | succ d ih =>
    intro i hd hi
    have hlt : i < ws.length := by omega
    have e1 : rd ws (i : Int) = ws.getD i 0 := by simp [rd]
    have e2 : wrap64 ((i : Int) + 1) = ((i + 1 : Nat) : Int) := by rw [wrap64_id (by omega) (by omega)]; omega
    have e3 : ws.take (i + 1) = ws.take i ++ [ws.getD i 0] := by
      rw [List.take_add_one, List.getD_eq_getElem?_getD, List.getElem?_eq_getElem hlt]; rfl
    have h2 := ih (i + 1) (by omega) (by omega)
    rw [e3, putL_append] at h2
    unfold word_Put.l0
    rw [if_pos (show (i : Int) < (ws.length : Int) by omega), if_pos (show (0 : Int) ≤ (i : Int) by omega), if_pos (show (i : Int) < (ws.length : Int) by omega), e1, e2]
    simp only [Option.bind_some]
    rw [if_pos (show (putL (ws.take i)).length + [ws.getD i 0 / 256 % 256, ws.getD i 0 % 256].length < 140737488355328 by rw [putL_length, List.length_take]; simp only [List.length_cons, List.length_nil]; omega)]
    exact h2
theorem put_ev (ws : List Int) (h : is16 ws) (hl : ws.length ≤ 1000000) : Ev (fun k => word_Put.f k ws) (putL ws) := Ev.of (word_Put.mono ws) (k := ws.length + 1) (put_l0 ws h hl ws.length 0 (by omega) (by omega))
theorem is16_2 {a b : Int} (ha : 0 ≤ a ∧ a < 65536) (hb : 0 ≤ b ∧ b < 65536) : is16 [a, b] := fun x hx => by
  rcases List.mem_cons.1 hx with rfl | hx
  · exact ha
  · obtain rfl := List.mem_singleton.1 hx; exact hb
end Go.Proofs.Ytggiobdjepgkfaa.Put
end
section
namespace Go.Proofs.Ytggiobdjepgkfaa.P
open Go.RowKit Go.Proofs.YtggiobdjepgkfaaW.PrintWords Go.Proofs.YtggiobdjepgkfaaW.PrintLast Go.Proofs.YtggiobdjepgkfaaW.PrintMore
attribute [local go_sem] max2_int min2_int max_two min_two max_three min_three max_four min_four   -- for this text's walks alone
def coils_lay.j0 : Nat → Int → Bool → Int → Int → Int → Int → Int → Int → Int → Int → Int → Int → Int → Int → List Int → List Bool → List Int → List (S69) → Int → Int → Int → Int → Int → List (S71) → Option (List Int)
  | 0, _, _, _, _, _, _, _, _, _, _, _, _, _, _, _, _, _, _, _, _, _, _, _, _ => none
  | k + 1, x0, x16, x131000, x131001, x131002, x131003, x131004, x131005, x131006, x131007, x131008, x131009, x131010, x131011, x131012, x131013, x131014, x131015, x131016, x131017, x131018, x131019, x131020, x131021 => if x16 = true then ((bits_Pack.f k x131013).bind fun t137 => ((word_Put.f k (([x131002, x131003] : List Int))).bind fun t143 => (if t143.length < 140737488355328 then ((some (t143 ++ [((t137.length : Int)) % 256] : List Int)).bind fun y146 => (if y146.length + t137.length < 140737488355328 then (some (y146 ++ t137)) else (none))) else (none)))) else (if x0 = 1 then (if x131000 = 15 then ((word_Put.f k (([x131002, x131003] : List Int))).bind fun t155 => (some t155)) else ((some (([((x131014.length : Int)) % 256] : List Int) : List Int)).bind fun y158 => (if y158.length + x131014.length < 140737488355328 then (some (y158 ++ x131014)) else (none)))) else ((word_Put.f k (([x131002, x131003] : List Int))).bind fun t167 => (some t167)))
def coils_lay.f (k : Nat) (a0 : Int) (a1_0 : Int) (a1_1 : Int) (a1_2 : Int) (a1_3 : Int) (a1_4 : Int) (a1_5 : Int) (a1_6 : Int) (a1_7 : Int) (a1_8 : Int) (a1_9 : Int) (a1_10 : Int) (a1_11 : Int) (l1_12 : List Int) (l1_13 : List Bool) (l1_14 : List Int) (l1_15 : List (S69)) (a1_16 : Int) (a1_17 : Int) (a1_18 : Int) (a1_19 : Int) (a1_20 : Int) (l1_21 : List (S71)) : Option (List Int) := if a1_0 = 5 then ((word_Put.f k (([a1_2, a1_4] : List Int))).bind fun t134 => (some t134)) else (if a1_0 = 15 then (coils_lay.j0 k a0 (a0 == 0) a1_0 a1_1 a1_2 a1_3 a1_4 a1_5 a1_6 a1_7 a1_8 a1_9 a1_10 a1_11 l1_12 l1_13 l1_14 l1_15 a1_16 a1_17 a1_18 a1_19 a1_20 l1_21) else (coils_lay.j0 k a0 false a1_0 a1_1 a1_2 a1_3 a1_4 a1_5 a1_6 a1_7 a1_8 a1_9 a1_10 a1_11 l1_12 l1_13 l1_14 l1_15 a1_16 a1_17 a1_18 a1_19 a1_20 l1_21))
theorem coils_lay.calls (k : Nat) (a0 : Int) (a1_0 : Int) (a1_1 : Int) (a1_2 : Int) (a1_3 : Int) (a1_4 : Int) (a1_5 : Int) (a1_6 : Int) (a1_7 : Int) (a1_8 : Int) (a1_9 : Int) (a1_10 : Int) (a1_11 : Int) (A1_12 : Option Addr) (c1_12 : Nat) (l1_12 : List Int) (A1_13 : Option Addr) (c1_13 : Nat) (l1_13 : List Bool) (A1_14 : Option Addr) (c1_14 : Nat) (l1_14 : List Int) (A1_15 : Option Addr) (c1_15 : Nat) (l1_15 : List (S69)) (a1_16 : Int) (a1_17 : Int) (a1_18 : Int) (a1_19 : Int) (a1_20 : Int) (A1_21 : Option Addr) (c1_21 : Nat) (l1_21 : List (S71)) (r : List Int) (w : World) (hr1_12 : Kd.C (Kd.int .u16) w A1_12 l1_12.length l1_12) (hc1_12 : l1_12.length ≤ c1_12) (hr1_13 : Kd.C Kd.bool w A1_13 l1_13.length l1_13) (hc1_13 : l1_13.length ≤ c1_13) (hr1_14 : Kd.C (Kd.int .u8) w A1_14 l1_14.length l1_14) (hc1_14 : l1_14.length ≤ c1_14) (hr1_15 : Kd.C k69 w A1_15 l1_15.length l1_15) (hc1_15 : l1_15.length ≤ c1_15) (hr1_21 : Kd.C k71 w A1_21 l1_21.length l1_21) (hc1_21 : l1_21.length ≤ c1_21) (h : coils_lay.f k a0 a1_0 a1_1 a1_2 a1_3 a1_4 a1_5 a1_6 a1_7 a1_8 a1_9 a1_10 a1_11 l1_12 l1_13 l1_14 l1_15 a1_16 a1_17 a1_18 a1_19 a1_20 l1_21 = some r) :
    Calls Try.prog 38 #[.int .i64 a0, .agg #[.int .u8 a1_0, .int .u8 a1_1, .int .u16 a1_2, .int .u16 a1_3, .int .u16 a1_4, .int .u16 a1_5, .int .u16 a1_6, .int .u16 a1_7, .int .u16 a1_8, .int .u16 a1_9, .int .u16 a1_10, .int .u16 a1_11, .slice A1_12 l1_12.length c1_12, .slice A1_13 l1_13.length c1_13, .slice A1_14 l1_14.length c1_14, .slice A1_15 l1_15.length c1_15, .int .u8 a1_16, .int .u8 a1_17, .int .u8 a1_18, .int .u8 a1_19, .int .u8 a1_20, .slice A1_21 l1_21.length c1_21]] w fun e w' => ∃ v0_ : Value, e = .returned (v0_) ∧ Kd.R (Kd.int .u8) 5 w' w.heap.size (fun _ => True) v0_ r ∧ Below w.heap.size w w' := by
  have hu30 := Try.underlying30
  have HR1_12 := Aside0.mk hr1_12
  have HC1_12 := Aside0.mk hc1_12
  clear hr1_12 hc1_12
  have HR1_13 := Aside0.mk hr1_13
  have HC1_13 := Aside0.mk hc1_13
  clear hr1_13 hc1_13
  have HR1_14 := Aside0.mk hr1_14
  have HC1_14 := Aside0.mk hc1_14
  clear hr1_14 hc1_14
  have HR1_15 := Aside0.mk hr1_15
  have HC1_15 := Aside0.mk hc1_15
  clear hr1_15 hc1_15
  have HR1_21 := Aside0.mk hr1_21
  have HC1_21 := Aside0.mk hc1_21
  clear hr1_21 hc1_21
  have HB := Aside0.mk (Below.refl w.heap.size w)
  have H : (if a1_0 = 5 then ((word_Put.f k (([a1_2, a1_4] : List Int))).bind fun t134 => (some t134)) else (if a1_0 = 15 then (coils_lay.j0 k a0 (a0 == 0) a1_0 a1_1 a1_2 a1_3 a1_4 a1_5 a1_6 a1_7 a1_8 a1_9 a1_10 a1_11 l1_12 l1_13 l1_14 l1_15 a1_16 a1_17 a1_18 a1_19 a1_20 l1_21) else (coils_lay.j0 k a0 false a1_0 a1_1 a1_2 a1_3 a1_4 a1_5 a1_6 a1_7 a1_8 a1_9 a1_10 a1_11 l1_12 l1_13 l1_14 l1_15 a1_16 a1_17 a1_18 a1_19 a1_20 l1_21))) = some r := h
  clear h
  by_cases c3 : a1_0 = 5
  · rw [if_pos c3] at H
    have c3b0 : (a1_0 == 5) = true := beq_iff_eq.mpr c3
    have c3b1 : (a1_0 != 5) = false := bne_eq_false_iff_eq.mpr c3
    clear c3
    obtain ⟨y131, hy131⟩ : ∃ y_ : List Int, y_ = (([a1_2, a1_4] : List Int)) := ⟨_, rfl⟩
    replace H : ((word_Put.f k y131).bind fun t134 => (some t134)) = some r := by first | (rw [hy131]; with_reducible exact H) | (have H2_ := (Option.bind_some _ _).symm.trans H; rw [hy131]; with_reducible exact H2_) | (have H2_ := (Option.bind_some _ _).symm.trans H; with_reducible exact H2_) | with_reducible exact H | (rw [hy131]; exact H) | exact H
    have Ny131 := Aside0.mk hy131
    clear hy131
    replace H := Option.bind_eq_some_iff.mp H
    obtain ⟨t134, A40, H⟩ := H
    replace H : (some t134) = some r := H
    have A4 := Aside0.mk A40
    clear A40
    obtain rfl := Option.some.inj H
    go_enter Try.func38, Try.ntmps38
    go_wp2_with (first | ((with_reducible refine gate_dst (N := 3) rfl ?_); refine box_event ?hg (N := 3) ?hd (cs := #[.int .u8 a1_0, .int .u8 a1_1, .int .u16 a1_2, .int .u16 a1_3, .int .u16 a1_4, .int .u16 a1_5, .int .u16 a1_6, .int .u16 a1_7, .int .u16 a1_8, .int .u16 a1_9, .int .u16 a1_10, .int .u16 a1_11, .slice A1_12 l1_12.length c1_12, .slice A1_13 l1_13.length c1_13, .slice A1_14 l1_14.length c1_14, .slice A1_15 l1_15.length c1_15, .int .u8 a1_16, .int .u8 a1_17, .int .u8 a1_18, .int .u8 a1_19, .int .u8 a1_20, .slice A1_21 l1_21.length c1_21]) (t := 30) ?hr ?_; (case hd => rfl); (case hg => rfl); (case hr => first | (go_simp; done) | (go_simp; rfl)); intro gb130 hg w5 hbox hb; have n0_ := Aside0.mk (below_step (by repeat (first | (with_reducible first | exact HB.out | apply below_alloc | apply pw_below_drewN | apply below_drew1) | exact HB.out)) hb); have n1_ := Aside0.mk (hbox); have n2_ := Aside0.mk ((by rw [hg]; exact (below_size (by repeat (first | (with_reducible first | exact HB.out | apply below_alloc | apply pw_below_drewN | apply below_drew1) | exact HB.out))) : w.heap.size ≤ gb130)); have n3_ := Aside0.mk ((by rw [hg]; exact (below_size (by repeat (first | (with_reducible first | exact HB.out | apply below_alloc | apply pw_below_drewN | apply below_drew1) | exact HB.out))) : w.heap.size ≤ gb130)); clear HB; have HB := n0_; have BK130 := n1_; have GW130 := n2_; have GE130 := n3_; clear n0_ n1_ n2_ n3_; clear hb hbox hg; have hcz6_0 : w5.cell? ⟨gb130, 0, none⟩ = some (.int .u8 a1_0) := (blk_cell BK130.out 0).trans rfl; have hcz6_1 : w5.cell? ⟨gb130, 1, none⟩ = some (.int .u8 a1_1) := (blk_cell BK130.out 1).trans rfl; have hcz6_2 : w5.cell? ⟨gb130, 2, none⟩ = some (.int .u16 a1_2) := (blk_cell BK130.out 2).trans rfl; have hcz6_3 : w5.cell? ⟨gb130, 3, none⟩ = some (.int .u16 a1_3) := (blk_cell BK130.out 3).trans rfl; have hcz6_4 : w5.cell? ⟨gb130, 4, none⟩ = some (.int .u16 a1_4) := (blk_cell BK130.out 4).trans rfl; have hcz6_5 : w5.cell? ⟨gb130, 5, none⟩ = some (.int .u16 a1_5) := (blk_cell BK130.out 5).trans rfl; have hcz6_6 : w5.cell? ⟨gb130, 6, none⟩ = some (.int .u16 a1_6) := (blk_cell BK130.out 6).trans rfl; have hcz6_7 : w5.cell? ⟨gb130, 7, none⟩ = some (.int .u16 a1_7) := (blk_cell BK130.out 7).trans rfl; have hcz6_8 : w5.cell? ⟨gb130, 8, none⟩ = some (.int .u16 a1_8) := (blk_cell BK130.out 8).trans rfl; have hcz6_9 : w5.cell? ⟨gb130, 9, none⟩ = some (.int .u16 a1_9) := (blk_cell BK130.out 9).trans rfl; have hcz6_10 : w5.cell? ⟨gb130, 10, none⟩ = some (.int .u16 a1_10) := (blk_cell BK130.out 10).trans rfl; have hcz6_11 : w5.cell? ⟨gb130, 11, none⟩ = some (.int .u16 a1_11) := (blk_cell BK130.out 11).trans rfl; have hcz6_12 : w5.cell? ⟨gb130, 12, none⟩ = some (.slice A1_12 l1_12.length c1_12) := (blk_cell BK130.out 12).trans rfl; have hcz6_13 : w5.cell? ⟨gb130, 13, none⟩ = some (.slice A1_13 l1_13.length c1_13) := (blk_cell BK130.out 13).trans rfl; have hcz6_14 : w5.cell? ⟨gb130, 14, none⟩ = some (.slice A1_14 l1_14.length c1_14) := (blk_cell BK130.out 14).trans rfl; have hcz6_15 : w5.cell? ⟨gb130, 15, none⟩ = some (.slice A1_15 l1_15.length c1_15) := (blk_cell BK130.out 15).trans rfl; have hcz6_16 : w5.cell? ⟨gb130, 16, none⟩ = some (.int .u8 a1_16) := (blk_cell BK130.out 16).trans rfl; have hcz6_17 : w5.cell? ⟨gb130, 17, none⟩ = some (.int .u8 a1_17) := (blk_cell BK130.out 17).trans rfl; have hcz6_18 : w5.cell? ⟨gb130, 18, none⟩ = some (.int .u8 a1_18) := (blk_cell BK130.out 18).trans rfl; have hcz6_19 : w5.cell? ⟨gb130, 19, none⟩ = some (.int .u8 a1_19) := (blk_cell BK130.out 19).trans rfl; have hcz6_20 : w5.cell? ⟨gb130, 20, none⟩ = some (.int .u8 a1_20) := (blk_cell BK130.out 20).trans rfl; have hcz6_21 : w5.cell? ⟨gb130, 21, none⟩ = some (.slice A1_21 l1_21.length c1_21) := (blk_cell BK130.out 21).trans rfl; have hfz6_0 := blk_frozen BK130.out 0; have hfz6_1 := blk_frozen BK130.out 1; have hfz6_2 := blk_frozen BK130.out 2; have hfz6_3 := blk_frozen BK130.out 3; have hfz6_4 := blk_frozen BK130.out 4; have hfz6_5 := blk_frozen BK130.out 5; have hfz6_6 := blk_frozen BK130.out 6; have hfz6_7 := blk_frozen BK130.out 7; have hfz6_8 := blk_frozen BK130.out 8; have hfz6_9 := blk_frozen BK130.out 9; have hfz6_10 := blk_frozen BK130.out 10; have hfz6_11 := blk_frozen BK130.out 11; have hfz6_12 := blk_frozen BK130.out 12; have hfz6_13 := blk_frozen BK130.out 13; have hfz6_14 := blk_frozen BK130.out 14; have hfz6_15 := blk_frozen BK130.out 15; have hfz6_16 := blk_frozen BK130.out 16; have hfz6_17 := blk_frozen BK130.out 17; have hfz6_18 := blk_frozen BK130.out 18; have hfz6_19 := blk_frozen BK130.out 19; have hfz6_20 := blk_frozen BK130.out 20; have hfz6_21 := blk_frozen BK130.out 21) | ((with_reducible refine gate_dst (N := 14) rfl ?_); refine Kd.R_lit (Kd.int .u16) _ 24 ?hg (N := 14) ?hd (xs := ([a1_2, a1_4] : List Int)) (inner := [.int .u16 a1_2, .int .u16 a1_4]) (ok := fun _ => True) (okp := fun _ => True) ?hr ?hp (fun _ hk => hk) trivial (Below.refl _ _) (Nat.le_refl _) (by simp) ?_; (case hd => rfl); (case hg => rfl); (case hr => first | (go_simp; done) | (go_simp; rfl)); (case hp => exact (Reps.one (show Kd.M (Kd.int .u16) _ _ _ a1_2 [.int .u16 a1_2] from rfl) (Reps.one (show Kd.M (Kd.int .u16) _ _ _ a1_4 [.int .u16 a1_4] from rfl) (Reps.none _ _)))); intro v132 w7 ho8 hb hg_ hnew_; clear hg_ hnew_; (first | rw [← Ny131.out] at ho8 | (simp only [Int.reduceToNat] at ho8; rw [← Ny131.out] at ho8)); have n0_ := Aside0.mk (Kd.R_lower ho8 (below_size (by repeat (first | (with_reducible first | exact HB.out | apply below_alloc | apply pw_below_drewN | apply below_drew1 | refine below_set ?_ GE130.out) | exact HB.out)))); have n1_ := Aside0.mk (blk_below (g := gb130) (o := .cells #[.int .u8 a1_0, .int .u8 a1_1, .int .u16 a1_2, .int .u16 a1_3, .int .u16 a1_4, .int .u16 a1_5, .int .u16 a1_6, .int .u16 a1_7, .int .u16 a1_8, .int .u16 a1_9, .int .u16 a1_10, .int .u16 a1_11, .slice A1_12 l1_12.length c1_12, .slice A1_13 l1_13.length c1_13, .slice A1_14 l1_14.length c1_14, .slice A1_15 l1_15.length c1_15, .int .u8 a1_16, .int .u8 a1_17, .int .u8 a1_18, .int .u8 a1_19, .int .u8 a1_20, .slice A1_21 l1_21.length c1_21] 30 (0, 0)) (by (with_reducible repeat (first | refine blk_drewN ?_ _ | refine blk_drew ?_ | refine blk_alloc ?_ _)); exact BK130.out) hb); have n2_ := Aside0.mk (below_step (by repeat (first | (with_reducible first | exact HB.out | apply below_alloc | apply pw_below_drewN | apply below_drew1 | refine below_set ?_ GE130.out) | exact HB.out)) hb); clear BK130; clear HB; have HO133 := n0_; have BK130 := n1_; have HB := n2_; clear n0_ n1_ n2_; clear hb ho8; obtain ⟨Ao9, co9, eo9⟩ := Kd.R_slice HO133.out; subst eo9) | ((with_reducible refine gate_callee (f := 53) rfl ?_); refine goesL_ (some 15) rfl rfl Try.func53 (by kernel_rfl) rfl #[.slice Ao9 y131.length co9] rfl (by (try simp only [List.map_toArray, List.map_cons, List.map_nil]); first | done | rfl | (simp only [List.length_drop, List.length_take]; rfl)) ?_; (with_reducible refine (word_Put.calls k _ _ y131 t134 _ ?side1 ?side2 A4.out).mono ?_); (case side1 => repeat (first | exact (Kd.R_reads' HO133.out).2.2 | (with_reducible refine Kd.C_alloc ?_ _) | (with_reducible refine Kd.C_drewN ?_ _) | (with_reducible refine Kd.C_drew ?_))); (case side2 => exact (Kd.R_reads' HO133.out).2.1); rintro e w10 ⟨v135, rfl, ho0, hb⟩; refine ⟨_, rfl, ?_⟩; have n0_ := Aside0.mk (Kd.R_below (by (with_reducible repeat (first | apply Kd.R_alloc | apply Kd.R_drewN | apply Kd.R_drew)); exact HO133.out) hb); have n1_ := Aside0.mk (Kd.R_lower ho0 (below_size (by repeat (first | (with_reducible first | exact HB.out | apply below_alloc | apply pw_below_drewN | apply below_drew1 | refine below_set ?_ GE130.out) | exact HB.out)))); have n2_ := Aside0.mk (blk_below (g := gb130) (o := .cells #[.int .u8 a1_0, .int .u8 a1_1, .int .u16 a1_2, .int .u16 a1_3, .int .u16 a1_4, .int .u16 a1_5, .int .u16 a1_6, .int .u16 a1_7, .int .u16 a1_8, .int .u16 a1_9, .int .u16 a1_10, .int .u16 a1_11, .slice A1_12 l1_12.length c1_12, .slice A1_13 l1_13.length c1_13, .slice A1_14 l1_14.length c1_14, .slice A1_15 l1_15.length c1_15, .int .u8 a1_16, .int .u8 a1_17, .int .u8 a1_18, .int .u8 a1_19, .int .u8 a1_20, .slice A1_21 l1_21.length c1_21] 30 (0, 0)) (by (with_reducible repeat (first | refine blk_drewN ?_ _ | refine blk_drew ?_ | refine blk_alloc ?_ _)); exact BK130.out) hb); have n3_ := Aside0.mk (below_step (by repeat (first | (with_reducible first | exact HB.out | apply below_alloc | apply pw_below_drewN | apply below_drew1 | refine below_set ?_ GE130.out) | exact HB.out)) hb); clear HO133; clear BK130; clear HB; have HO133 := n0_; have HO136 := n1_; have BK130 := n2_; have HB := n3_; clear n0_ n1_ n2_ n3_; (try clear hb); (try clear hb2); (try clear hk); (try clear hi); (try clear ho0)))
    go_ret
    exact ⟨_, by first | rfl | (simp [errW_none, errW_some] <;> rfl) | (simp [*, errW_none, errW_some] <;> rfl), by (with_reducible repeat (first | apply Kd.R_alloc | apply Kd.R_drewN | apply Kd.R_drew)); exact HO136.out, by repeat (first | (with_reducible first | exact HB.out | apply below_alloc | apply pw_below_drewN | apply below_drew1 | refine below_set ?_ GE130.out) | exact HB.out)⟩
  · rw [if_neg c3] at H
    have c3b0 : (a1_0 == 5) = false := beq_eq_false_iff_ne.mpr c3
    have c3b1 : (a1_0 != 5) = true := bne_iff_ne.mpr c3
    have HC11 := Aside0.mk H
    clear H
    go_enter Try.func38, Try.ntmps38
    go_upto_region 3 with (first | ((with_reducible refine gate_dst (N := 3) rfl ?_); refine box_event ?hg (N := 3) ?hd (cs := #[.int .u8 a1_0, .int .u8 a1_1, .int .u16 a1_2, .int .u16 a1_3, .int .u16 a1_4, .int .u16 a1_5, .int .u16 a1_6, .int .u16 a1_7, .int .u16 a1_8, .int .u16 a1_9, .int .u16 a1_10, .int .u16 a1_11, .slice A1_12 l1_12.length c1_12, .slice A1_13 l1_13.length c1_13, .slice A1_14 l1_14.length c1_14, .slice A1_15 l1_15.length c1_15, .int .u8 a1_16, .int .u8 a1_17, .int .u8 a1_18, .int .u8 a1_19, .int .u8 a1_20, .slice A1_21 l1_21.length c1_21]) (t := 30) ?hr ?_; (case hd => rfl); (case hg => rfl); (case hr => first | (go_simp; done) | (go_simp; rfl)); intro gb130 hg w12 hbox hb; have n0_ := Aside0.mk (below_step (by repeat (first | (with_reducible first | exact HB.out | apply below_alloc | apply pw_below_drewN | apply below_drew1) | exact HB.out)) hb); have n1_ := Aside0.mk (hbox); have n2_ := Aside0.mk ((by rw [hg]; exact (below_size (by repeat (first | (with_reducible first | exact HB.out | apply below_alloc | apply pw_below_drewN | apply below_drew1) | exact HB.out))) : w.heap.size ≤ gb130)); have n3_ := Aside0.mk ((by rw [hg]; exact (below_size (by repeat (first | (with_reducible first | exact HB.out | apply below_alloc | apply pw_below_drewN | apply below_drew1) | exact HB.out))) : w.heap.size ≤ gb130)); clear HB; have HB := n0_; have BK130 := n1_; have GW130 := n2_; have GE130 := n3_; clear n0_ n1_ n2_ n3_; clear hb hbox hg; have hcz13_0 : w12.cell? ⟨gb130, 0, none⟩ = some (.int .u8 a1_0) := (blk_cell BK130.out 0).trans rfl; have hcz13_1 : w12.cell? ⟨gb130, 1, none⟩ = some (.int .u8 a1_1) := (blk_cell BK130.out 1).trans rfl; have hcz13_2 : w12.cell? ⟨gb130, 2, none⟩ = some (.int .u16 a1_2) := (blk_cell BK130.out 2).trans rfl; have hcz13_3 : w12.cell? ⟨gb130, 3, none⟩ = some (.int .u16 a1_3) := (blk_cell BK130.out 3).trans rfl; have hcz13_4 : w12.cell? ⟨gb130, 4, none⟩ = some (.int .u16 a1_4) := (blk_cell BK130.out 4).trans rfl; have hcz13_5 : w12.cell? ⟨gb130, 5, none⟩ = some (.int .u16 a1_5) := (blk_cell BK130.out 5).trans rfl; have hcz13_6 : w12.cell? ⟨gb130, 6, none⟩ = some (.int .u16 a1_6) := (blk_cell BK130.out 6).trans rfl; have hcz13_7 : w12.cell? ⟨gb130, 7, none⟩ = some (.int .u16 a1_7) := (blk_cell BK130.out 7).trans rfl; have hcz13_8 : w12.cell? ⟨gb130, 8, none⟩ = some (.int .u16 a1_8) := (blk_cell BK130.out 8).trans rfl; have hcz13_9 : w12.cell? ⟨gb130, 9, none⟩ = some (.int .u16 a1_9) := (blk_cell BK130.out 9).trans rfl; have hcz13_10 : w12.cell? ⟨gb130, 10, none⟩ = some (.int .u16 a1_10) := (blk_cell BK130.out 10).trans rfl; have hcz13_11 : w12.cell? ⟨gb130, 11, none⟩ = some (.int .u16 a1_11) := (blk_cell BK130.out 11).trans rfl; have hcz13_12 : w12.cell? ⟨gb130, 12, none⟩ = some (.slice A1_12 l1_12.length c1_12) := (blk_cell BK130.out 12).trans rfl; have hcz13_13 : w12.cell? ⟨gb130, 13, none⟩ = some (.slice A1_13 l1_13.length c1_13) := (blk_cell BK130.out 13).trans rfl; have hcz13_14 : w12.cell? ⟨gb130, 14, none⟩ = some (.slice A1_14 l1_14.length c1_14) := (blk_cell BK130.out 14).trans rfl; have hcz13_15 : w12.cell? ⟨gb130, 15, none⟩ = some (.slice A1_15 l1_15.length c1_15) := (blk_cell BK130.out 15).trans rfl; have hcz13_16 : w12.cell? ⟨gb130, 16, none⟩ = some (.int .u8 a1_16) := (blk_cell BK130.out 16).trans rfl; have hcz13_17 : w12.cell? ⟨gb130, 17, none⟩ = some (.int .u8 a1_17) := (blk_cell BK130.out 17).trans rfl; have hcz13_18 : w12.cell? ⟨gb130, 18, none⟩ = some (.int .u8 a1_18) := (blk_cell BK130.out 18).trans rfl; have hcz13_19 : w12.cell? ⟨gb130, 19, none⟩ = some (.int .u8 a1_19) := (blk_cell BK130.out 19).trans rfl; have hcz13_20 : w12.cell? ⟨gb130, 20, none⟩ = some (.int .u8 a1_20) := (blk_cell BK130.out 20).trans rfl; have hcz13_21 : w12.cell? ⟨gb130, 21, none⟩ = some (.slice A1_21 l1_21.length c1_21) := (blk_cell BK130.out 21).trans rfl; have hfz13_0 := blk_frozen BK130.out 0; have hfz13_1 := blk_frozen BK130.out 1; have hfz13_2 := blk_frozen BK130.out 2; have hfz13_3 := blk_frozen BK130.out 3; have hfz13_4 := blk_frozen BK130.out 4; have hfz13_5 := blk_frozen BK130.out 5; have hfz13_6 := blk_frozen BK130.out 6; have hfz13_7 := blk_frozen BK130.out 7; have hfz13_8 := blk_frozen BK130.out 8; have hfz13_9 := blk_frozen BK130.out 9; have hfz13_10 := blk_frozen BK130.out 10; have hfz13_11 := blk_frozen BK130.out 11; have hfz13_12 := blk_frozen BK130.out 12; have hfz13_13 := blk_frozen BK130.out 13; have hfz13_14 := blk_frozen BK130.out 14; have hfz13_15 := blk_frozen BK130.out 15; have hfz13_16 := blk_frozen BK130.out 16; have hfz13_17 := blk_frozen BK130.out 17; have hfz13_18 := blk_frozen BK130.out 18; have hfz13_19 := blk_frozen BK130.out 19; have hfz13_20 := blk_frozen BK130.out 20; have hfz13_21 := blk_frozen BK130.out 21))
    (try simp only [Act.put, List.setIfInBounds_toArray, List.set_cons_zero, List.set_cons_succ])
    go_cut [16] (fun v16 wc => ∃ (kq : Nat) (x16_10 : Bool), v16 = .bool x16_10 ∧ Aside0 (coils_lay.j0 kq a0 x16_10 a1_0 a1_1 a1_2 a1_3 a1_4 a1_5 a1_6 a1_7 a1_8 a1_9 a1_10 a1_11 l1_12 l1_13 l1_14 l1_15 a1_16 a1_17 a1_18 a1_19 a1_20 l1_21 = some r) ∧ Aside0 (kq ≤ k) ∧ Aside0 (wc.heap[gb130]? = some (.cells #[.int .u8 a1_0, .int .u8 a1_1, .int .u16 a1_2, .int .u16 a1_3, .int .u16 a1_4, .int .u16 a1_5, .int .u16 a1_6, .int .u16 a1_7, .int .u16 a1_8, .int .u16 a1_9, .int .u16 a1_10, .int .u16 a1_11, (.slice A1_12 l1_12.length c1_12), (.slice A1_13 l1_13.length c1_13), (.slice A1_14 l1_14.length c1_14), (.slice A1_15 l1_15.length c1_15), .int .u8 a1_16, .int .u8 a1_17, .int .u8 a1_18, .int .u8 a1_19, .int .u8 a1_20, (.slice A1_21 l1_21.length c1_21)] 30 (0, 0))) ∧ Aside0 (Below w.heap.size w wc))
    case first =>
      have H := HC11.out
      clear HC11
      by_cases c14 : a1_0 = 15
      · rw [if_pos c14] at H
        have c14b0 : (a1_0 == 15) = true := beq_iff_eq.mpr c14
        have c14b1 : (a1_0 != 15) = false := bne_eq_false_iff_eq.mpr c14
        clear c14
        (first | rw [c14b0] | (simp only [i64_w, i32_w]; rw [c14b0]) | skip)
        have H' := Aside0.mk H
        clear H
        have hcz15_0 : w12.cell? ⟨gb130, 0, none⟩ = some (.int .u8 a1_0) := (blk_cell BK130.out 0).trans rfl
        have hcz15_1 : w12.cell? ⟨gb130, 1, none⟩ = some (.int .u8 a1_1) := (blk_cell BK130.out 1).trans rfl
        have hcz15_2 : w12.cell? ⟨gb130, 2, none⟩ = some (.int .u16 a1_2) := (blk_cell BK130.out 2).trans rfl
        have hcz15_3 : w12.cell? ⟨gb130, 3, none⟩ = some (.int .u16 a1_3) := (blk_cell BK130.out 3).trans rfl
        have hcz15_4 : w12.cell? ⟨gb130, 4, none⟩ = some (.int .u16 a1_4) := (blk_cell BK130.out 4).trans rfl
        have hcz15_5 : w12.cell? ⟨gb130, 5, none⟩ = some (.int .u16 a1_5) := (blk_cell BK130.out 5).trans rfl
        have hcz15_6 : w12.cell? ⟨gb130, 6, none⟩ = some (.int .u16 a1_6) := (blk_cell BK130.out 6).trans rfl
        have hcz15_7 : w12.cell? ⟨gb130, 7, none⟩ = some (.int .u16 a1_7) := (blk_cell BK130.out 7).trans rfl
        have hcz15_8 : w12.cell? ⟨gb130, 8, none⟩ = some (.int .u16 a1_8) := (blk_cell BK130.out 8).trans rfl
        have hcz15_9 : w12.cell? ⟨gb130, 9, none⟩ = some (.int .u16 a1_9) := (blk_cell BK130.out 9).trans rfl
        have hcz15_10 : w12.cell? ⟨gb130, 10, none⟩ = some (.int .u16 a1_10) := (blk_cell BK130.out 10).trans rfl
        have hcz15_11 : w12.cell? ⟨gb130, 11, none⟩ = some (.int .u16 a1_11) := (blk_cell BK130.out 11).trans rfl
        have hcz15_12 : w12.cell? ⟨gb130, 12, none⟩ = some (.slice A1_12 l1_12.length c1_12) := (blk_cell BK130.out 12).trans rfl
        have hcz15_13 : w12.cell? ⟨gb130, 13, none⟩ = some (.slice A1_13 l1_13.length c1_13) := (blk_cell BK130.out 13).trans rfl
        have hcz15_14 : w12.cell? ⟨gb130, 14, none⟩ = some (.slice A1_14 l1_14.length c1_14) := (blk_cell BK130.out 14).trans rfl
        have hcz15_15 : w12.cell? ⟨gb130, 15, none⟩ = some (.slice A1_15 l1_15.length c1_15) := (blk_cell BK130.out 15).trans rfl
        have hcz15_16 : w12.cell? ⟨gb130, 16, none⟩ = some (.int .u8 a1_16) := (blk_cell BK130.out 16).trans rfl
        have hcz15_17 : w12.cell? ⟨gb130, 17, none⟩ = some (.int .u8 a1_17) := (blk_cell BK130.out 17).trans rfl
        have hcz15_18 : w12.cell? ⟨gb130, 18, none⟩ = some (.int .u8 a1_18) := (blk_cell BK130.out 18).trans rfl
        have hcz15_19 : w12.cell? ⟨gb130, 19, none⟩ = some (.int .u8 a1_19) := (blk_cell BK130.out 19).trans rfl
        have hcz15_20 : w12.cell? ⟨gb130, 20, none⟩ = some (.int .u8 a1_20) := (blk_cell BK130.out 20).trans rfl
        have hcz15_21 : w12.cell? ⟨gb130, 21, none⟩ = some (.slice A1_21 l1_21.length c1_21) := (blk_cell BK130.out 21).trans rfl
        have hfz15_0 := blk_frozen BK130.out 0
        have hfz15_1 := blk_frozen BK130.out 1
        have hfz15_2 := blk_frozen BK130.out 2
        have hfz15_3 := blk_frozen BK130.out 3
        have hfz15_4 := blk_frozen BK130.out 4
        have hfz15_5 := blk_frozen BK130.out 5
        have hfz15_6 := blk_frozen BK130.out 6
        have hfz15_7 := blk_frozen BK130.out 7
        have hfz15_8 := blk_frozen BK130.out 8
        have hfz15_9 := blk_frozen BK130.out 9
        have hfz15_10 := blk_frozen BK130.out 10
        have hfz15_11 := blk_frozen BK130.out 11
        have hfz15_12 := blk_frozen BK130.out 12
        have hfz15_13 := blk_frozen BK130.out 13
        have hfz15_14 := blk_frozen BK130.out 14
        have hfz15_15 := blk_frozen BK130.out 15
        have hfz15_16 := blk_frozen BK130.out 16
        have hfz15_17 := blk_frozen BK130.out 17
        have hfz15_18 := blk_frozen BK130.out 18
        have hfz15_19 := blk_frozen BK130.out 19
        have hfz15_20 := blk_frozen BK130.out 20
        have hfz15_21 := blk_frozen BK130.out 21
        go_wp2
        go_meet
        case rel => exact ⟨_, ((a0 == 0)), (by first | rfl | (simp; done) | (simp [*]; done)), H', ⟨by first | omega | exact Nat.le_refl _⟩, ⟨by (with_reducible repeat (first | refine blk_drewN ?_ _ | refine blk_drew ?_ | refine blk_alloc ?_ _)); exact BK130.out⟩, ⟨by repeat (first | (with_reducible first | exact HB.out | apply below_alloc | apply pw_below_drewN | apply below_drew1 | refine below_set ?_ GE130.out) | exact HB.out)⟩⟩
      · rw [if_neg c14] at H
        have c14b0 : (a1_0 == 15) = false := beq_eq_false_iff_ne.mpr c14
        have c14b1 : (a1_0 != 15) = true := bne_iff_ne.mpr c14
        (first | rw [c14b0] | (simp only [i64_w, i32_w]; rw [c14b0]) | skip)
        have H' := Aside0.mk H
        clear H
        have hcz16_0 : w12.cell? ⟨gb130, 0, none⟩ = some (.int .u8 a1_0) := (blk_cell BK130.out 0).trans rfl
        have hcz16_1 : w12.cell? ⟨gb130, 1, none⟩ = some (.int .u8 a1_1) := (blk_cell BK130.out 1).trans rfl
        have hcz16_2 : w12.cell? ⟨gb130, 2, none⟩ = some (.int .u16 a1_2) := (blk_cell BK130.out 2).trans rfl
        have hcz16_3 : w12.cell? ⟨gb130, 3, none⟩ = some (.int .u16 a1_3) := (blk_cell BK130.out 3).trans rfl
        have hcz16_4 : w12.cell? ⟨gb130, 4, none⟩ = some (.int .u16 a1_4) := (blk_cell BK130.out 4).trans rfl
        have hcz16_5 : w12.cell? ⟨gb130, 5, none⟩ = some (.int .u16 a1_5) := (blk_cell BK130.out 5).trans rfl
        have hcz16_6 : w12.cell? ⟨gb130, 6, none⟩ = some (.int .u16 a1_6) := (blk_cell BK130.out 6).trans rfl
        have hcz16_7 : w12.cell? ⟨gb130, 7, none⟩ = some (.int .u16 a1_7) := (blk_cell BK130.out 7).trans rfl
        have hcz16_8 : w12.cell? ⟨gb130, 8, none⟩ = some (.int .u16 a1_8) := (blk_cell BK130.out 8).trans rfl
        have hcz16_9 : w12.cell? ⟨gb130, 9, none⟩ = some (.int .u16 a1_9) := (blk_cell BK130.out 9).trans rfl
        have hcz16_10 : w12.cell? ⟨gb130, 10, none⟩ = some (.int .u16 a1_10) := (blk_cell BK130.out 10).trans rfl
        have hcz16_11 : w12.cell? ⟨gb130, 11, none⟩ = some (.int .u16 a1_11) := (blk_cell BK130.out 11).trans rfl
        have hcz16_12 : w12.cell? ⟨gb130, 12, none⟩ = some (.slice A1_12 l1_12.length c1_12) := (blk_cell BK130.out 12).trans rfl
        have hcz16_13 : w12.cell? ⟨gb130, 13, none⟩ = some (.slice A1_13 l1_13.length c1_13) := (blk_cell BK130.out 13).trans rfl
        have hcz16_14 : w12.cell? ⟨gb130, 14, none⟩ = some (.slice A1_14 l1_14.length c1_14) := (blk_cell BK130.out 14).trans rfl
        have hcz16_15 : w12.cell? ⟨gb130, 15, none⟩ = some (.slice A1_15 l1_15.length c1_15) := (blk_cell BK130.out 15).trans rfl
        have hcz16_16 : w12.cell? ⟨gb130, 16, none⟩ = some (.int .u8 a1_16) := (blk_cell BK130.out 16).trans rfl
        have hcz16_17 : w12.cell? ⟨gb130, 17, none⟩ = some (.int .u8 a1_17) := (blk_cell BK130.out 17).trans rfl
        have hcz16_18 : w12.cell? ⟨gb130, 18, none⟩ = some (.int .u8 a1_18) := (blk_cell BK130.out 18).trans rfl
        have hcz16_19 : w12.cell? ⟨gb130, 19, none⟩ = some (.int .u8 a1_19) := (blk_cell BK130.out 19).trans rfl
        have hcz16_20 : w12.cell? ⟨gb130, 20, none⟩ = some (.int .u8 a1_20) := (blk_cell BK130.out 20).trans rfl
        have hcz16_21 : w12.cell? ⟨gb130, 21, none⟩ = some (.slice A1_21 l1_21.length c1_21) := (blk_cell BK130.out 21).trans rfl
        have hfz16_0 := blk_frozen BK130.out 0
        have hfz16_1 := blk_frozen BK130.out 1
        have hfz16_2 := blk_frozen BK130.out 2
        have hfz16_3 := blk_frozen BK130.out 3
        have hfz16_4 := blk_frozen BK130.out 4
        have hfz16_5 := blk_frozen BK130.out 5
        have hfz16_6 := blk_frozen BK130.out 6
        have hfz16_7 := blk_frozen BK130.out 7
        have hfz16_8 := blk_frozen BK130.out 8
        have hfz16_9 := blk_frozen BK130.out 9
        have hfz16_10 := blk_frozen BK130.out 10
        have hfz16_11 := blk_frozen BK130.out 11
        have hfz16_12 := blk_frozen BK130.out 12
        have hfz16_13 := blk_frozen BK130.out 13
        have hfz16_14 := blk_frozen BK130.out 14
        have hfz16_15 := blk_frozen BK130.out 15
        have hfz16_16 := blk_frozen BK130.out 16
        have hfz16_17 := blk_frozen BK130.out 17
        have hfz16_18 := blk_frozen BK130.out 18
        have hfz16_19 := blk_frozen BK130.out 19
        have hfz16_20 := blk_frozen BK130.out 20
        have hfz16_21 := blk_frozen BK130.out 21
        go_wp2
        go_meet
        case rel => exact ⟨_, (false), (by first | rfl | (simp; done) | (simp [*]; done)), H', ⟨by first | omega | exact Nat.le_refl _⟩, ⟨by (with_reducible repeat (first | refine blk_drewN ?_ _ | refine blk_drew ?_ | refine blk_alloc ?_ _)); exact BK130.out⟩, ⟨by repeat (first | (with_reducible first | exact HB.out | apply below_alloc | apply pw_below_drewN | apply below_drew1 | refine below_set ?_ GE130.out) | exact HB.out)⟩⟩
    case rest =>
      clear HC11
      try clear c1
      try clear p2
      try clear c3
      try clear c3b0
      try clear c3b1
      try clear c5
      try clear c14
      try clear c14b0
      try clear c14b1
      try clear hcz13_0
      try clear hcz13_1
      try clear hcz13_10
      try clear hcz13_11
      try clear hcz13_12
      try clear hcz13_13
      try clear hcz13_14
      try clear hcz13_15
      try clear hcz13_16
      try clear hcz13_17
      try clear hcz13_18
      try clear hcz13_19
      try clear hcz13_2
      try clear hcz13_20
      try clear hcz13_21
      try clear hcz13_3
      try clear hcz13_4
      try clear hcz13_5
      try clear hcz13_6
      try clear hcz13_7
      try clear hcz13_8
      try clear hcz13_9
      try clear hcz15_0
      try clear hcz15_1
      try clear hcz15_10
      try clear hcz15_11
      try clear hcz15_12
      try clear hcz15_13
      try clear hcz15_14
      try clear hcz15_15
      try clear hcz15_16
      try clear hcz15_17
      try clear hcz15_18
      try clear hcz15_19
      try clear hcz15_2
      try clear hcz15_20
      try clear hcz15_21
      try clear hcz15_3
      try clear hcz15_4
      try clear hcz15_5
      try clear hcz15_6
      try clear hcz15_7
      try clear hcz15_8
      try clear hcz15_9
      try clear hcz16_0
      try clear hcz16_1
      try clear hcz16_10
      try clear hcz16_11
      try clear hcz16_12
      try clear hcz16_13
      try clear hcz16_14
      try clear hcz16_15
      try clear hcz16_16
      try clear hcz16_17
      try clear hcz16_18
      try clear hcz16_19
      try clear hcz16_2
      try clear hcz16_20
      try clear hcz16_21
      try clear hcz16_3
      try clear hcz16_4
      try clear hcz16_5
      try clear hcz16_6
      try clear hcz16_7
      try clear hcz16_8
      try clear hcz16_9
      try clear hcz6_0
      try clear hcz6_1
      try clear hcz6_10
      try clear hcz6_11
      try clear hcz6_12
      try clear hcz6_13
      try clear hcz6_14
      try clear hcz6_15
      try clear hcz6_16
      try clear hcz6_17
      try clear hcz6_18
      try clear hcz6_19
      try clear hcz6_2
      try clear hcz6_20
      try clear hcz6_21
      try clear hcz6_3
      try clear hcz6_4
      try clear hcz6_5
      try clear hcz6_6
      try clear hcz6_7
      try clear hcz6_8
      try clear hcz6_9
      try clear hfz13_0
      try clear hfz13_1
      try clear hfz13_10
      try clear hfz13_11
      try clear hfz13_12
      try clear hfz13_13
      try clear hfz13_14
      try clear hfz13_15
      try clear hfz13_16
      try clear hfz13_17
      try clear hfz13_18
      try clear hfz13_19
      try clear hfz13_2
      try clear hfz13_20
      try clear hfz13_21
      try clear hfz13_3
      try clear hfz13_4
      try clear hfz13_5
      try clear hfz13_6
      try clear hfz13_7
      try clear hfz13_8
      try clear hfz13_9
      try clear hfz15_0
      try clear hfz15_1
      try clear hfz15_10
      try clear hfz15_11
      try clear hfz15_12
      try clear hfz15_13
      try clear hfz15_14
      try clear hfz15_15
      try clear hfz15_16
      try clear hfz15_17
      try clear hfz15_18
      try clear hfz15_19
      try clear hfz15_2
      try clear hfz15_20
      try clear hfz15_21
      try clear hfz15_3
      try clear hfz15_4
      try clear hfz15_5
      try clear hfz15_6
      try clear hfz15_7
      try clear hfz15_8
      try clear hfz15_9
      try clear hfz16_0
      try clear hfz16_1
      try clear hfz16_10
      try clear hfz16_11
      try clear hfz16_12
      try clear hfz16_13
      try clear hfz16_14
      try clear hfz16_15
      try clear hfz16_16
      try clear hfz16_17
      try clear hfz16_18
      try clear hfz16_19
      try clear hfz16_2
      try clear hfz16_20
      try clear hfz16_21
      try clear hfz16_3
      try clear hfz16_4
      try clear hfz16_5
      try clear hfz16_6
      try clear hfz16_7
      try clear hfz16_8
      try clear hfz16_9
      try clear hfz6_0
      try clear hfz6_1
      try clear hfz6_10
      try clear hfz6_11
      try clear hfz6_12
      try clear hfz6_13
      try clear hfz6_14
      try clear hfz6_15
      try clear hfz6_16
      try clear hfz6_17
      try clear hfz6_18
      try clear hfz6_19
      try clear hfz6_2
      try clear hfz6_20
      try clear hfz6_21
      try clear hfz6_3
      try clear hfz6_4
      try clear hfz6_5
      try clear hfz6_6
      try clear hfz6_7
      try clear hfz6_8
      try clear hfz6_9
      obtain ⟨kq, x16_10, rfl, HA, HJ10, BK130, HB⟩ := hcut
      cases kq with
      | zero => exact absurd HA.out (by simp [coils_lay.j0])
      | succ kj10 =>
        have H := HA.out
        clear HA
        simp only [coils_lay.j0] at H
        by_cases c17 : x16_10 = true
        · subst c17
          have H1 : ((bits_Pack.f kj10 l1_13).bind fun t137 => ((word_Put.f kj10 (([a1_2, a1_3] : List Int))).bind fun t143 => (if t143.length < 140737488355328 then ((some (t143 ++ [((t137.length : Int)) % 256] : List Int)).bind fun y146 => (if y146.length + t137.length < 140737488355328 then (some (y146 ++ t137)) else (none))) else (none)))) = some r := by rw [if_pos rfl] at H; exact H
          clear H
          have H := H1
          clear H1
          replace H := Option.bind_eq_some_iff.mp H
          obtain ⟨t137, A180, H⟩ := H
          replace H : ((word_Put.f kj10 (([a1_2, a1_3] : List Int))).bind fun t143 => (if t143.length < 140737488355328 then ((some (t143 ++ [((t137.length : Int)) % 256] : List Int)).bind fun y146 => (if y146.length + t137.length < 140737488355328 then (some (y146 ++ t137)) else (none))) else (none))) = some r := H
          have A18 := Aside0.mk A180
          clear A180
          obtain ⟨y140, hy140⟩ : ∃ y_ : List Int, y_ = (([a1_2, a1_3] : List Int)) := ⟨_, rfl⟩
          replace H : ((word_Put.f kj10 y140).bind fun t143 => (if t143.length < 140737488355328 then ((some (t143 ++ [((t137.length : Int)) % 256] : List Int)).bind fun y146 => (if y146.length + t137.length < 140737488355328 then (some (y146 ++ t137)) else (none))) else (none))) = some r := by first | (rw [hy140]; with_reducible exact H) | (have H2_ := (Option.bind_some _ _).symm.trans H; rw [hy140]; with_reducible exact H2_) | (have H2_ := (Option.bind_some _ _).symm.trans H; with_reducible exact H2_) | with_reducible exact H | (rw [hy140]; exact H) | exact H
          have Ny140 := Aside0.mk hy140
          clear hy140
          replace H := Option.bind_eq_some_iff.mp H
          obtain ⟨t143, A190, H⟩ := H
          replace H : (if t143.length < 140737488355328 then ((some (t143 ++ [((t137.length : Int)) % 256] : List Int)).bind fun y146 => (if y146.length + t137.length < 140737488355328 then (some (y146 ++ t137)) else (none))) else (none)) = some r := H
          have A19 := Aside0.mk A190
          clear A190
          by_cases c20 : t143.length < 140737488355328
          · rw [if_pos c20] at H
            have LMc20 := Aside0.mk c20
            clear c20
            obtain ⟨y146, hy146⟩ : ∃ y_ : List Int, y_ = (t143 ++ [((t137.length : Int)) % 256]) := ⟨_, rfl⟩
            replace H : (if y146.length + t137.length < 140737488355328 then (some (y146 ++ t137)) else (none)) = some r := by first | (rw [hy146]; with_reducible exact H) | (have H2_ := (Option.bind_some _ _).symm.trans H; rw [hy146]; with_reducible exact H2_) | (have H2_ := (Option.bind_some _ _).symm.trans H; with_reducible exact H2_) | with_reducible exact H | (rw [hy146]; exact H) | exact H
            have Ny146 := Aside0.mk hy146
            clear hy146
            by_cases c21 : y146.length + t137.length < 140737488355328
            · rw [if_pos c21] at H
              have LMc21 := Aside0.mk c21
              clear c21
              obtain ⟨y149, hy149⟩ : ∃ y_ : List Int, y_ = (y146 ++ t137) := ⟨_, rfl⟩
              replace H : (some y149) = some r := by first | (rw [hy149]; with_reducible exact H) | (have H2_ := (Option.bind_some _ _).symm.trans H; rw [hy149]; with_reducible exact H2_) | (have H2_ := (Option.bind_some _ _).symm.trans H; with_reducible exact H2_) | with_reducible exact H | (rw [hy149]; exact H) | exact H
              have Ny149 := Aside0.mk hy149
              clear hy149
              obtain rfl := Option.some.inj H
              have hcz22_0 : wc.cell? ⟨gb130, 0, none⟩ = some (.int .u8 a1_0) := (blk_cell BK130.out 0).trans rfl
              have hcz22_1 : wc.cell? ⟨gb130, 1, none⟩ = some (.int .u8 a1_1) := (blk_cell BK130.out 1).trans rfl
              have hcz22_2 : wc.cell? ⟨gb130, 2, none⟩ = some (.int .u16 a1_2) := (blk_cell BK130.out 2).trans rfl
              have hcz22_3 : wc.cell? ⟨gb130, 3, none⟩ = some (.int .u16 a1_3) := (blk_cell BK130.out 3).trans rfl
              have hcz22_4 : wc.cell? ⟨gb130, 4, none⟩ = some (.int .u16 a1_4) := (blk_cell BK130.out 4).trans rfl
              have hcz22_5 : wc.cell? ⟨gb130, 5, none⟩ = some (.int .u16 a1_5) := (blk_cell BK130.out 5).trans rfl
              have hcz22_6 : wc.cell? ⟨gb130, 6, none⟩ = some (.int .u16 a1_6) := (blk_cell BK130.out 6).trans rfl
              have hcz22_7 : wc.cell? ⟨gb130, 7, none⟩ = some (.int .u16 a1_7) := (blk_cell BK130.out 7).trans rfl
              have hcz22_8 : wc.cell? ⟨gb130, 8, none⟩ = some (.int .u16 a1_8) := (blk_cell BK130.out 8).trans rfl
              have hcz22_9 : wc.cell? ⟨gb130, 9, none⟩ = some (.int .u16 a1_9) := (blk_cell BK130.out 9).trans rfl
              have hcz22_10 : wc.cell? ⟨gb130, 10, none⟩ = some (.int .u16 a1_10) := (blk_cell BK130.out 10).trans rfl
              have hcz22_11 : wc.cell? ⟨gb130, 11, none⟩ = some (.int .u16 a1_11) := (blk_cell BK130.out 11).trans rfl
              have hcz22_12 : wc.cell? ⟨gb130, 12, none⟩ = some (.slice A1_12 l1_12.length c1_12) := (blk_cell BK130.out 12).trans rfl
              have hcz22_13 : wc.cell? ⟨gb130, 13, none⟩ = some (.slice A1_13 l1_13.length c1_13) := (blk_cell BK130.out 13).trans rfl
              have hcz22_14 : wc.cell? ⟨gb130, 14, none⟩ = some (.slice A1_14 l1_14.length c1_14) := (blk_cell BK130.out 14).trans rfl
              have hcz22_15 : wc.cell? ⟨gb130, 15, none⟩ = some (.slice A1_15 l1_15.length c1_15) := (blk_cell BK130.out 15).trans rfl
              have hcz22_16 : wc.cell? ⟨gb130, 16, none⟩ = some (.int .u8 a1_16) := (blk_cell BK130.out 16).trans rfl
              have hcz22_17 : wc.cell? ⟨gb130, 17, none⟩ = some (.int .u8 a1_17) := (blk_cell BK130.out 17).trans rfl
              have hcz22_18 : wc.cell? ⟨gb130, 18, none⟩ = some (.int .u8 a1_18) := (blk_cell BK130.out 18).trans rfl
              have hcz22_19 : wc.cell? ⟨gb130, 19, none⟩ = some (.int .u8 a1_19) := (blk_cell BK130.out 19).trans rfl
              have hcz22_20 : wc.cell? ⟨gb130, 20, none⟩ = some (.int .u8 a1_20) := (blk_cell BK130.out 20).trans rfl
              have hcz22_21 : wc.cell? ⟨gb130, 21, none⟩ = some (.slice A1_21 l1_21.length c1_21) := (blk_cell BK130.out 21).trans rfl
              have hfz22_0 := blk_frozen BK130.out 0
              have hfz22_1 := blk_frozen BK130.out 1
              have hfz22_2 := blk_frozen BK130.out 2
              have hfz22_3 := blk_frozen BK130.out 3
              have hfz22_4 := blk_frozen BK130.out 4
              have hfz22_5 := blk_frozen BK130.out 5
              have hfz22_6 := blk_frozen BK130.out 6
              have hfz22_7 := blk_frozen BK130.out 7
              have hfz22_8 := blk_frozen BK130.out 8
              have hfz22_9 := blk_frozen BK130.out 9
              have hfz22_10 := blk_frozen BK130.out 10
              have hfz22_11 := blk_frozen BK130.out 11
              have hfz22_12 := blk_frozen BK130.out 12
              have hfz22_13 := blk_frozen BK130.out 13
              have hfz22_14 := blk_frozen BK130.out 14
              have hfz22_15 := blk_frozen BK130.out 15
              have hfz22_16 := blk_frozen BK130.out 16
              have hfz22_17 := blk_frozen BK130.out 17
              have hfz22_18 := blk_frozen BK130.out 18
              have hfz22_19 := blk_frozen BK130.out 19
              have hfz22_20 := blk_frozen BK130.out 20
              have hfz22_21 := blk_frozen BK130.out 21
              go_wp2_with (first | ((with_reducible refine gate_callee (f := 54) rfl ?_); refine goesL_ (some 26) rfl rfl Try.func54 (by kernel_rfl) rfl #[.slice A1_13 l1_13.length c1_13] rfl (by (try simp only [List.map_toArray, List.map_cons, List.map_nil]); first | done | rfl | (simp only [List.length_drop, List.length_take]; rfl)) ?_; (with_reducible refine (bits_Pack.calls kj10 _ _ l1_13 t137 _ ?side1 ?side2 A18.out).mono ?_); (case side1 => repeat (first | exact (Kd.C_below HR1_13.out HB.out) | (with_reducible refine Kd.C_alloc ?_ _) | (with_reducible refine Kd.C_drewN ?_ _) | (with_reducible refine Kd.C_drew ?_))); (case side2 => exact HC1_13.out); rintro e w23 ⟨v138, rfl, ho0, hb⟩; refine ⟨_, rfl, ?_⟩; have n0_ := Aside0.mk (Kd.R_lower ho0 (below_size (by repeat (first | (with_reducible first | exact HB.out | apply below_alloc | apply pw_below_drewN | apply below_drew1 | refine below_set ?_ GE130.out) | exact HB.out)))); have n1_ := Aside0.mk (blk_below (g := gb130) (o := .cells #[.int .u8 a1_0, .int .u8 a1_1, .int .u16 a1_2, .int .u16 a1_3, .int .u16 a1_4, .int .u16 a1_5, .int .u16 a1_6, .int .u16 a1_7, .int .u16 a1_8, .int .u16 a1_9, .int .u16 a1_10, .int .u16 a1_11, .slice A1_12 l1_12.length c1_12, .slice A1_13 l1_13.length c1_13, .slice A1_14 l1_14.length c1_14, .slice A1_15 l1_15.length c1_15, .int .u8 a1_16, .int .u8 a1_17, .int .u8 a1_18, .int .u8 a1_19, .int .u8 a1_20, .slice A1_21 l1_21.length c1_21] 30 (0, 0)) (by (with_reducible repeat (first | refine blk_drewN ?_ _ | refine blk_drew ?_ | refine blk_alloc ?_ _)); exact BK130.out) hb); have n2_ := Aside0.mk (below_step (by repeat (first | (with_reducible first | exact HB.out | apply below_alloc | apply pw_below_drewN | apply below_drew1 | refine below_set ?_ GE130.out) | exact HB.out)) hb); clear BK130; clear HB; have HO139 := n0_; have BK130 := n1_; have HB := n2_; clear n0_ n1_ n2_; (try clear hb); (try clear hb2); (try clear hk); (try clear hi); (try clear ho0); have hcz24_0 : w23.cell? ⟨gb130, 0, none⟩ = some (.int .u8 a1_0) := (blk_cell BK130.out 0).trans rfl; have hcz24_1 : w23.cell? ⟨gb130, 1, none⟩ = some (.int .u8 a1_1) := (blk_cell BK130.out 1).trans rfl; have hcz24_2 : w23.cell? ⟨gb130, 2, none⟩ = some (.int .u16 a1_2) := (blk_cell BK130.out 2).trans rfl; have hcz24_3 : w23.cell? ⟨gb130, 3, none⟩ = some (.int .u16 a1_3) := (blk_cell BK130.out 3).trans rfl; have hcz24_4 : w23.cell? ⟨gb130, 4, none⟩ = some (.int .u16 a1_4) := (blk_cell BK130.out 4).trans rfl; have hcz24_5 : w23.cell? ⟨gb130, 5, none⟩ = some (.int .u16 a1_5) := (blk_cell BK130.out 5).trans rfl; have hcz24_6 : w23.cell? ⟨gb130, 6, none⟩ = some (.int .u16 a1_6) := (blk_cell BK130.out 6).trans rfl; have hcz24_7 : w23.cell? ⟨gb130, 7, none⟩ = some (.int .u16 a1_7) := (blk_cell BK130.out 7).trans rfl; have hcz24_8 : w23.cell? ⟨gb130, 8, none⟩ = some (.int .u16 a1_8) := (blk_cell BK130.out 8).trans rfl; have hcz24_9 : w23.cell? ⟨gb130, 9, none⟩ = some (.int .u16 a1_9) := (blk_cell BK130.out 9).trans rfl; have hcz24_10 : w23.cell? ⟨gb130, 10, none⟩ = some (.int .u16 a1_10) := (blk_cell BK130.out 10).trans rfl; have hcz24_11 : w23.cell? ⟨gb130, 11, none⟩ = some (.int .u16 a1_11) := (blk_cell BK130.out 11).trans rfl; have hcz24_12 : w23.cell? ⟨gb130, 12, none⟩ = some (.slice A1_12 l1_12.length c1_12) := (blk_cell BK130.out 12).trans rfl; have hcz24_13 : w23.cell? ⟨gb130, 13, none⟩ = some (.slice A1_13 l1_13.length c1_13) := (blk_cell BK130.out 13).trans rfl; have hcz24_14 : w23.cell? ⟨gb130, 14, none⟩ = some (.slice A1_14 l1_14.length c1_14) := (blk_cell BK130.out 14).trans rfl; have hcz24_15 : w23.cell? ⟨gb130, 15, none⟩ = some (.slice A1_15 l1_15.length c1_15) := (blk_cell BK130.out 15).trans rfl; have hcz24_16 : w23.cell? ⟨gb130, 16, none⟩ = some (.int .u8 a1_16) := (blk_cell BK130.out 16).trans rfl; have hcz24_17 : w23.cell? ⟨gb130, 17, none⟩ = some (.int .u8 a1_17) := (blk_cell BK130.out 17).trans rfl; have hcz24_18 : w23.cell? ⟨gb130, 18, none⟩ = some (.int .u8 a1_18) := (blk_cell BK130.out 18).trans rfl; have hcz24_19 : w23.cell? ⟨gb130, 19, none⟩ = some (.int .u8 a1_19) := (blk_cell BK130.out 19).trans rfl; have hcz24_20 : w23.cell? ⟨gb130, 20, none⟩ = some (.int .u8 a1_20) := (blk_cell BK130.out 20).trans rfl; have hcz24_21 : w23.cell? ⟨gb130, 21, none⟩ = some (.slice A1_21 l1_21.length c1_21) := (blk_cell BK130.out 21).trans rfl; have hfz24_0 := blk_frozen BK130.out 0; have hfz24_1 := blk_frozen BK130.out 1; have hfz24_2 := blk_frozen BK130.out 2; have hfz24_3 := blk_frozen BK130.out 3; have hfz24_4 := blk_frozen BK130.out 4; have hfz24_5 := blk_frozen BK130.out 5; have hfz24_6 := blk_frozen BK130.out 6; have hfz24_7 := blk_frozen BK130.out 7; have hfz24_8 := blk_frozen BK130.out 8; have hfz24_9 := blk_frozen BK130.out 9; have hfz24_10 := blk_frozen BK130.out 10; have hfz24_11 := blk_frozen BK130.out 11; have hfz24_12 := blk_frozen BK130.out 12; have hfz24_13 := blk_frozen BK130.out 13; have hfz24_14 := blk_frozen BK130.out 14; have hfz24_15 := blk_frozen BK130.out 15; have hfz24_16 := blk_frozen BK130.out 16; have hfz24_17 := blk_frozen BK130.out 17; have hfz24_18 := blk_frozen BK130.out 18; have hfz24_19 := blk_frozen BK130.out 19; have hfz24_20 := blk_frozen BK130.out 20; have hfz24_21 := blk_frozen BK130.out 21) | ((with_reducible refine gate_dst (N := 31) rfl ?_); refine Kd.R_lit (Kd.int .u16) _ 24 ?hg (N := 31) ?hd (xs := ([a1_2, a1_3] : List Int)) (inner := [.int .u16 a1_2, .int .u16 a1_3]) (ok := fun _ => True) (okp := fun _ => True) ?hr ?hp (fun _ hk => hk) trivial (Below.refl _ _) (Nat.le_refl _) (by simp) ?_; (case hd => rfl); (case hg => rfl); (case hr => first | (go_simp; done) | (go_simp; rfl)); (case hp => exact (Reps.one (show Kd.M (Kd.int .u16) _ _ _ a1_2 [.int .u16 a1_2] from rfl) (Reps.one (show Kd.M (Kd.int .u16) _ _ _ a1_3 [.int .u16 a1_3] from rfl) (Reps.none _ _)))); intro v141 w25 ho26 hb hg_ hnew_; clear hg_ hnew_; (first | rw [← Ny140.out] at ho26 | (simp only [Int.reduceToNat] at ho26; rw [← Ny140.out] at ho26)); have n0_ := Aside0.mk (Kd.R_below (by (with_reducible repeat (first | apply Kd.R_alloc | apply Kd.R_drewN | apply Kd.R_drew)); exact HO139.out) hb); have n1_ := Aside0.mk (Kd.R_lower ho26 (below_size (by repeat (first | (with_reducible first | exact HB.out | apply below_alloc | apply pw_below_drewN | apply below_drew1 | refine below_set ?_ GE130.out) | exact HB.out)))); have n2_ := Aside0.mk (blk_below (g := gb130) (o := .cells #[.int .u8 a1_0, .int .u8 a1_1, .int .u16 a1_2, .int .u16 a1_3, .int .u16 a1_4, .int .u16 a1_5, .int .u16 a1_6, .int .u16 a1_7, .int .u16 a1_8, .int .u16 a1_9, .int .u16 a1_10, .int .u16 a1_11, .slice A1_12 l1_12.length c1_12, .slice A1_13 l1_13.length c1_13, .slice A1_14 l1_14.length c1_14, .slice A1_15 l1_15.length c1_15, .int .u8 a1_16, .int .u8 a1_17, .int .u8 a1_18, .int .u8 a1_19, .int .u8 a1_20, .slice A1_21 l1_21.length c1_21] 30 (0, 0)) (by (with_reducible repeat (first | refine blk_drewN ?_ _ | refine blk_drew ?_ | refine blk_alloc ?_ _)); exact BK130.out) hb); have n3_ := Aside0.mk (below_step (by repeat (first | (with_reducible first | exact HB.out | apply below_alloc | apply pw_below_drewN | apply below_drew1 | refine below_set ?_ GE130.out) | exact HB.out)) hb); clear HO139; clear BK130; clear HB; have HO139 := n0_; have HO142 := n1_; have BK130 := n2_; have HB := n3_; clear n0_ n1_ n2_ n3_; clear hb ho26; obtain ⟨Ao27, co27, eo27⟩ := Kd.R_slice HO142.out; subst eo27) | ((with_reducible refine gate_callee (f := 53) rfl ?_); refine goesL_ (some 32) rfl rfl Try.func53 (by kernel_rfl) rfl #[.slice Ao27 y140.length co27] rfl (by (try simp only [List.map_toArray, List.map_cons, List.map_nil]); first | done | rfl | (simp only [List.length_drop, List.length_take]; rfl)) ?_; (with_reducible refine (word_Put.calls kj10 _ _ y140 t143 _ ?side1 ?side2 A19.out).mono ?_); (case side1 => repeat (first | exact (Kd.R_reads' HO142.out).2.2 | (with_reducible refine Kd.C_alloc ?_ _) | (with_reducible refine Kd.C_drewN ?_ _) | (with_reducible refine Kd.C_drew ?_))); (case side2 => exact (Kd.R_reads' HO142.out).2.1); rintro e w28 ⟨v144, rfl, ho0, hb⟩; refine ⟨_, rfl, ?_⟩; have n0_ := Aside0.mk (Kd.R_elder' (by (with_reducible repeat (first | apply Kd.R_alloc | apply Kd.R_drewN | apply Kd.R_drew)); exact HO139.out) (Kd.R_base ho0) hb); have n1_ := Aside0.mk (Kd.R_below (by (with_reducible repeat (first | apply Kd.R_alloc | apply Kd.R_drewN | apply Kd.R_drew)); exact HO142.out) hb); have n2_ := Aside0.mk (Kd.R_lower (Kd.R_new' ho0 (Kd.R_lt (by (with_reducible repeat (first | apply Kd.R_alloc | apply Kd.R_drewN | apply Kd.R_drew)); exact HO139.out))) (below_size (by repeat (first | (with_reducible first | exact HB.out | apply below_alloc | apply pw_below_drewN | apply below_drew1 | refine below_set ?_ GE130.out) | exact HB.out)))); have n3_ := Aside0.mk (blk_below (g := gb130) (o := .cells #[.int .u8 a1_0, .int .u8 a1_1, .int .u16 a1_2, .int .u16 a1_3, .int .u16 a1_4, .int .u16 a1_5, .int .u16 a1_6, .int .u16 a1_7, .int .u16 a1_8, .int .u16 a1_9, .int .u16 a1_10, .int .u16 a1_11, .slice A1_12 l1_12.length c1_12, .slice A1_13 l1_13.length c1_13, .slice A1_14 l1_14.length c1_14, .slice A1_15 l1_15.length c1_15, .int .u8 a1_16, .int .u8 a1_17, .int .u8 a1_18, .int .u8 a1_19, .int .u8 a1_20, .slice A1_21 l1_21.length c1_21] 30 (0, 0)) (by (with_reducible repeat (first | refine blk_drewN ?_ _ | refine blk_drew ?_ | refine blk_alloc ?_ _)); exact BK130.out) hb); have n4_ := Aside0.mk (below_step (by repeat (first | (with_reducible first | exact HB.out | apply below_alloc | apply pw_below_drewN | apply below_drew1 | refine below_set ?_ GE130.out) | exact HB.out)) hb); clear HO139; clear HO142; clear BK130; clear HB; have HO139 := n0_; have HO142 := n1_; have HO145 := n2_; have BK130 := n3_; have HB := n4_; clear n0_ n1_ n2_ n3_ n4_; (try clear hb); (try clear hb2); (try clear hk); (try clear hi); (try clear ho0); obtain ⟨Ao29, co29, eo29⟩ := Kd.R_slice HO139.out; subst eo29) | ((with_reducible refine gate_builtin (b := .append) (xs := #[.tmp 32, .tmp 36]) rfl ?_); at_builtin; refine Kd.R_append (Kd.int .u8) (w0 := w) w.heap.size rfl (.tmp 32) (.tmp 36) 22 5 (.int .u8 0) 1 rfl Try.underlying22 info5 rfl (by decide) (by omega) v144 t143 (((t137.length : Int)) % 256) [.int .u8 (((t137.length : Int)) % 256)] (fun k_ => some k_ ≠ (.slice Ao29 t137.length co29 : Value).ownBlock) (fun _ => False) rfl rfl ?aP (fun _ hk => hk.elim) ?aF ?aO ?aB ?aS ?aL ?_; (case aP => exact rfl); (case aB => exact (by repeat (first | (with_reducible first | exact HB.out | apply below_alloc | apply pw_below_drewN | apply below_drew1 | refine below_set ?_ GE130.out) | exact HB.out))); (case aF => exact (fun k_ hk => Kd.fresh' (Kd.R_lt (by (with_reducible repeat (first | apply Kd.R_alloc | apply Kd.R_drewN | apply Kd.R_drew)); exact HO139.out)) k_ hk)); (case aO => exact (by (with_reducible repeat (first | apply Kd.R_alloc | apply Kd.R_drewN | apply Kd.R_drew)); exact Kd.R_mono HO145.out (fun _ hk => hk.2))); (case aS => exact (below_size (by repeat (first | (with_reducible first | exact HB.out | apply below_alloc | apply pw_below_drewN | apply below_drew1 | refine below_set ?_ GE130.out) | exact HB.out)))); (case aL => have := LMc20.out; omega); intro v147 w30 ho hb hg hat; rw [← Ny146.out] at ho; have n0_ := Aside0.mk (blk_grown (g := gb130) (o := .cells #[.int .u8 a1_0, .int .u8 a1_1, .int .u16 a1_2, .int .u16 a1_3, .int .u16 a1_4, .int .u16 a1_5, .int .u16 a1_6, .int .u16 a1_7, .int .u16 a1_8, .int .u16 a1_9, .int .u16 a1_10, .int .u16 a1_11, .slice A1_12 l1_12.length c1_12, .slice A1_13 l1_13.length c1_13, .slice A1_14 l1_14.length c1_14, .slice A1_15 l1_15.length c1_15, .int .u8 a1_16, .int .u8 a1_17, .int .u8 a1_18, .int .u8 a1_19, .int .u8 a1_20, .slice A1_21 l1_21.length c1_21] 30 (0, 0)) (by (with_reducible repeat (first | refine blk_drewN ?_ _ | refine blk_drew ?_ | refine blk_alloc ?_ _)); exact BK130.out) hg (Kd.R_ne HO145.out BK130.out (by decide))); have n1_ := Aside0.mk (Kd.R_after (ok := (fun _ => True)) (by (with_reducible repeat (first | apply Kd.R_alloc | apply Kd.R_drewN | apply Kd.R_drew)); exact HO139.out) hg hat); have n2_ := Aside0.mk (Kd.R_over' (by (with_reducible repeat (first | apply Kd.R_alloc | apply Kd.R_drewN | apply Kd.R_drew)); exact HO142.out) (Kd.R_typed (by (with_reducible repeat (first | apply Kd.R_alloc | apply Kd.R_drewN | apply Kd.R_drew)); exact HO145.out)) (by decide) hg); have n3_ := Aside0.mk (hb); have n4_ := Aside0.mk (ho); clear BK130; clear HO139; clear HO142; clear HB; clear HO145; have BK130 := n0_; have HO139 := n1_; have HO142 := n2_; have HB := n3_; have HO148 := n4_; clear n0_ n1_ n2_ n3_ n4_; clear ho hb hg hat) | ((with_reducible refine gate_builtin (b := .append) (xs := #[.tmp 37, .tmp 38]) rfl ?_); at_builtin; refine Kd.R_append_rows (Kd.int .u8) (w0 := w) w.heap.size rfl (.tmp 37) (.tmp 38) 22 5 (.int .u8 0) 1 rfl Try.underlying22 info5 rfl (by decide) (by omega) v147 y146 t137 _ _ _ (fun k_ => some k_ ≠ (.slice Ao29 t137.length co29 : Value).ownBlock) (fun _ => False) rfl rfl ?aO ?aR (fun _ _ h => h) (fun _ h => h.elim) ?aF ?aB ?aS ?aL ?_; (case aR => repeat (first | exact (Kd.R_reads' HO139.out).2.2 | (with_reducible refine Kd.C_alloc ?_ _) | (with_reducible refine Kd.C_drewN ?_ _) | (with_reducible refine Kd.C_drew ?_))); (case aB => exact (by repeat (first | (with_reducible first | exact HB.out | apply below_alloc | apply pw_below_drewN | apply below_drew1 | refine below_set ?_ GE130.out) | exact HB.out))); (case aF => exact (fun k_ hk => Kd.fresh' (Kd.R_lt (by (with_reducible repeat (first | apply Kd.R_alloc | apply Kd.R_drewN | apply Kd.R_drew)); exact HO139.out)) k_ hk)); (case aO => exact (by (with_reducible repeat (first | apply Kd.R_alloc | apply Kd.R_drewN | apply Kd.R_drew)); exact HO148.out)); (case aS => exact (below_size (by repeat (first | (with_reducible first | exact HB.out | apply below_alloc | apply pw_below_drewN | apply below_drew1 | refine below_set ?_ GE130.out) | exact HB.out)))); (case aL => have := LMc21.out; omega); intro v150 w31 ho hb hg hat; rw [← Ny149.out] at ho; have n0_ := Aside0.mk (blk_grown (g := gb130) (o := .cells #[.int .u8 a1_0, .int .u8 a1_1, .int .u16 a1_2, .int .u16 a1_3, .int .u16 a1_4, .int .u16 a1_5, .int .u16 a1_6, .int .u16 a1_7, .int .u16 a1_8, .int .u16 a1_9, .int .u16 a1_10, .int .u16 a1_11, .slice A1_12 l1_12.length c1_12, .slice A1_13 l1_13.length c1_13, .slice A1_14 l1_14.length c1_14, .slice A1_15 l1_15.length c1_15, .int .u8 a1_16, .int .u8 a1_17, .int .u8 a1_18, .int .u8 a1_19, .int .u8 a1_20, .slice A1_21 l1_21.length c1_21] 30 (0, 0)) (by (with_reducible repeat (first | refine blk_drewN ?_ _ | refine blk_drew ?_ | refine blk_alloc ?_ _)); exact BK130.out) hg (Kd.R_ne HO148.out BK130.out (by decide))); have n1_ := Aside0.mk (Kd.R_after (ok := (fun _ => True)) (by (with_reducible repeat (first | apply Kd.R_alloc | apply Kd.R_drewN | apply Kd.R_drew)); exact HO139.out) hg hat); have n2_ := Aside0.mk (Kd.R_over' (by (with_reducible repeat (first | apply Kd.R_alloc | apply Kd.R_drewN | apply Kd.R_drew)); exact HO142.out) (Kd.R_typed (by (with_reducible repeat (first | apply Kd.R_alloc | apply Kd.R_drewN | apply Kd.R_drew)); exact HO148.out)) (by decide) hg); have n3_ := Aside0.mk (hb); have n4_ := Aside0.mk (ho); clear BK130; clear HO139; clear HO142; clear HB; clear HO148; have BK130 := n0_; have HO139 := n1_; have HO142 := n2_; have HB := n3_; have HO151 := n4_; clear n0_ n1_ n2_ n3_ n4_; clear ho hb hg hat))
              go_ret
              exact ⟨_, by first | rfl | (simp [errW_none, errW_some] <;> rfl) | (simp [*, errW_none, errW_some] <;> rfl), by (with_reducible repeat (first | apply Kd.R_alloc | apply Kd.R_drewN | apply Kd.R_drew)); exact Kd.R_mono HO151.out (fun _ hk => trivial), by repeat (first | (with_reducible first | exact HB.out | apply below_alloc | apply pw_below_drewN | apply below_drew1 | refine below_set ?_ GE130.out) | exact HB.out)⟩
            · rw [if_neg c21] at H
              exact absurd H (by simp)
          · rw [if_neg c20] at H
            exact absurd H (by simp)
        · replace c17 := Bool.eq_false_iff.mpr c17
          subst c17
          have H1 : (if a0 = 1 then (if a1_0 = 15 then ((word_Put.f kj10 (([a1_2, a1_3] : List Int))).bind fun t155 => (some t155)) else ((some (([((l1_14.length : Int)) % 256] : List Int) : List Int)).bind fun y158 => (if y158.length + l1_14.length < 140737488355328 then (some (y158 ++ l1_14)) else (none)))) else ((word_Put.f kj10 (([a1_2, a1_3] : List Int))).bind fun t167 => (some t167))) = some r := by rw [if_neg (show ¬ (false = true) by decide)] at H; exact H
          clear H
          have H := H1
          clear H1
          by_cases c32 : a0 = 1
          · rw [if_pos c32] at H
            have c32b0 : (a0 == 1) = true := beq_iff_eq.mpr c32
            have c32b1 : (a0 != 1) = false := bne_eq_false_iff_eq.mpr c32
            clear c32
            by_cases c33 : a1_0 = 15
            · rw [if_pos c33] at H
              have c33b0 : (a1_0 == 15) = true := beq_iff_eq.mpr c33
              have c33b1 : (a1_0 != 15) = false := bne_eq_false_iff_eq.mpr c33
              clear c33
              obtain ⟨y152, hy152⟩ : ∃ y_ : List Int, y_ = (([a1_2, a1_3] : List Int)) := ⟨_, rfl⟩
              replace H : ((word_Put.f kj10 y152).bind fun t155 => (some t155)) = some r := by first | (rw [hy152]; with_reducible exact H) | (have H2_ := (Option.bind_some _ _).symm.trans H; rw [hy152]; with_reducible exact H2_) | (have H2_ := (Option.bind_some _ _).symm.trans H; with_reducible exact H2_) | with_reducible exact H | (rw [hy152]; exact H) | exact H
              have Ny152 := Aside0.mk hy152
              clear hy152
              replace H := Option.bind_eq_some_iff.mp H
              obtain ⟨t155, A340, H⟩ := H
              replace H : (some t155) = some r := H
              have A34 := Aside0.mk A340
              clear A340
              obtain rfl := Option.some.inj H
              have hcz35_0 : wc.cell? ⟨gb130, 0, none⟩ = some (.int .u8 a1_0) := (blk_cell BK130.out 0).trans rfl
              have hcz35_1 : wc.cell? ⟨gb130, 1, none⟩ = some (.int .u8 a1_1) := (blk_cell BK130.out 1).trans rfl
              have hcz35_2 : wc.cell? ⟨gb130, 2, none⟩ = some (.int .u16 a1_2) := (blk_cell BK130.out 2).trans rfl
              have hcz35_3 : wc.cell? ⟨gb130, 3, none⟩ = some (.int .u16 a1_3) := (blk_cell BK130.out 3).trans rfl
              have hcz35_4 : wc.cell? ⟨gb130, 4, none⟩ = some (.int .u16 a1_4) := (blk_cell BK130.out 4).trans rfl
              have hcz35_5 : wc.cell? ⟨gb130, 5, none⟩ = some (.int .u16 a1_5) := (blk_cell BK130.out 5).trans rfl
              have hcz35_6 : wc.cell? ⟨gb130, 6, none⟩ = some (.int .u16 a1_6) := (blk_cell BK130.out 6).trans rfl
              have hcz35_7 : wc.cell? ⟨gb130, 7, none⟩ = some (.int .u16 a1_7) := (blk_cell BK130.out 7).trans rfl
              have hcz35_8 : wc.cell? ⟨gb130, 8, none⟩ = some (.int .u16 a1_8) := (blk_cell BK130.out 8).trans rfl
              have hcz35_9 : wc.cell? ⟨gb130, 9, none⟩ = some (.int .u16 a1_9) := (blk_cell BK130.out 9).trans rfl
              have hcz35_10 : wc.cell? ⟨gb130, 10, none⟩ = some (.int .u16 a1_10) := (blk_cell BK130.out 10).trans rfl
              have hcz35_11 : wc.cell? ⟨gb130, 11, none⟩ = some (.int .u16 a1_11) := (blk_cell BK130.out 11).trans rfl
              have hcz35_12 : wc.cell? ⟨gb130, 12, none⟩ = some (.slice A1_12 l1_12.length c1_12) := (blk_cell BK130.out 12).trans rfl
              have hcz35_13 : wc.cell? ⟨gb130, 13, none⟩ = some (.slice A1_13 l1_13.length c1_13) := (blk_cell BK130.out 13).trans rfl
              have hcz35_14 : wc.cell? ⟨gb130, 14, none⟩ = some (.slice A1_14 l1_14.length c1_14) := (blk_cell BK130.out 14).trans rfl
              have hcz35_15 : wc.cell? ⟨gb130, 15, none⟩ = some (.slice A1_15 l1_15.length c1_15) := (blk_cell BK130.out 15).trans rfl
              have hcz35_16 : wc.cell? ⟨gb130, 16, none⟩ = some (.int .u8 a1_16) := (blk_cell BK130.out 16).trans rfl
              have hcz35_17 : wc.cell? ⟨gb130, 17, none⟩ = some (.int .u8 a1_17) := (blk_cell BK130.out 17).trans rfl
              have hcz35_18 : wc.cell? ⟨gb130, 18, none⟩ = some (.int .u8 a1_18) := (blk_cell BK130.out 18).trans rfl
              have hcz35_19 : wc.cell? ⟨gb130, 19, none⟩ = some (.int .u8 a1_19) := (blk_cell BK130.out 19).trans rfl
              have hcz35_20 : wc.cell? ⟨gb130, 20, none⟩ = some (.int .u8 a1_20) := (blk_cell BK130.out 20).trans rfl
              have hcz35_21 : wc.cell? ⟨gb130, 21, none⟩ = some (.slice A1_21 l1_21.length c1_21) := (blk_cell BK130.out 21).trans rfl
              have hfz35_0 := blk_frozen BK130.out 0
              have hfz35_1 := blk_frozen BK130.out 1
              have hfz35_2 := blk_frozen BK130.out 2
              have hfz35_3 := blk_frozen BK130.out 3
              have hfz35_4 := blk_frozen BK130.out 4
              have hfz35_5 := blk_frozen BK130.out 5
              have hfz35_6 := blk_frozen BK130.out 6
              have hfz35_7 := blk_frozen BK130.out 7
              have hfz35_8 := blk_frozen BK130.out 8
              have hfz35_9 := blk_frozen BK130.out 9
              have hfz35_10 := blk_frozen BK130.out 10
              have hfz35_11 := blk_frozen BK130.out 11
              have hfz35_12 := blk_frozen BK130.out 12
              have hfz35_13 := blk_frozen BK130.out 13
              have hfz35_14 := blk_frozen BK130.out 14
              have hfz35_15 := blk_frozen BK130.out 15
              have hfz35_16 := blk_frozen BK130.out 16
              have hfz35_17 := blk_frozen BK130.out 17
              have hfz35_18 := blk_frozen BK130.out 18
              have hfz35_19 := blk_frozen BK130.out 19
              have hfz35_20 := blk_frozen BK130.out 20
              have hfz35_21 := blk_frozen BK130.out 21
              go_wp2_with (first | ((with_reducible refine gate_dst (N := 60) rfl ?_); refine Kd.R_lit (Kd.int .u16) _ 24 ?hg (N := 60) ?hd (xs := ([a1_2, a1_3] : List Int)) (inner := [.int .u16 a1_2, .int .u16 a1_3]) (ok := fun _ => True) (okp := fun _ => True) ?hr ?hp (fun _ hk => hk) trivial (Below.refl _ _) (Nat.le_refl _) (by simp) ?_; (case hd => rfl); (case hg => rfl); (case hr => first | (go_simp; done) | (go_simp; rfl)); (case hp => exact (Reps.one (show Kd.M (Kd.int .u16) _ _ _ a1_2 [.int .u16 a1_2] from rfl) (Reps.one (show Kd.M (Kd.int .u16) _ _ _ a1_3 [.int .u16 a1_3] from rfl) (Reps.none _ _)))); intro v153 w36 ho37 hb hg_ hnew_; clear hg_ hnew_; (first | rw [← Ny152.out] at ho37 | (simp only [Int.reduceToNat] at ho37; rw [← Ny152.out] at ho37)); have n0_ := Aside0.mk (Kd.R_lower ho37 (below_size (by repeat (first | (with_reducible first | exact HB.out | apply below_alloc | apply pw_below_drewN | apply below_drew1 | refine below_set ?_ GE130.out) | exact HB.out)))); have n1_ := Aside0.mk (blk_below (g := gb130) (o := .cells #[.int .u8 a1_0, .int .u8 a1_1, .int .u16 a1_2, .int .u16 a1_3, .int .u16 a1_4, .int .u16 a1_5, .int .u16 a1_6, .int .u16 a1_7, .int .u16 a1_8, .int .u16 a1_9, .int .u16 a1_10, .int .u16 a1_11, .slice A1_12 l1_12.length c1_12, .slice A1_13 l1_13.length c1_13, .slice A1_14 l1_14.length c1_14, .slice A1_15 l1_15.length c1_15, .int .u8 a1_16, .int .u8 a1_17, .int .u8 a1_18, .int .u8 a1_19, .int .u8 a1_20, .slice A1_21 l1_21.length c1_21] 30 (0, 0)) (by (with_reducible repeat (first | refine blk_drewN ?_ _ | refine blk_drew ?_ | refine blk_alloc ?_ _)); exact BK130.out) hb); have n2_ := Aside0.mk (below_step (by repeat (first | (with_reducible first | exact HB.out | apply below_alloc | apply pw_below_drewN | apply below_drew1 | refine below_set ?_ GE130.out) | exact HB.out)) hb); clear BK130; clear HB; have HO154 := n0_; have BK130 := n1_; have HB := n2_; clear n0_ n1_ n2_; clear hb ho37; obtain ⟨Ao38, co38, eo38⟩ := Kd.R_slice HO154.out; subst eo38) | ((with_reducible refine gate_callee (f := 53) rfl ?_); refine goesL_ (some 61) rfl rfl Try.func53 (by kernel_rfl) rfl #[.slice Ao38 y152.length co38] rfl (by (try simp only [List.map_toArray, List.map_cons, List.map_nil]); first | done | rfl | (simp only [List.length_drop, List.length_take]; rfl)) ?_; (with_reducible refine (word_Put.calls kj10 _ _ y152 t155 _ ?side1 ?side2 A34.out).mono ?_); (case side1 => repeat (first | exact (Kd.R_reads' HO154.out).2.2 | (with_reducible refine Kd.C_alloc ?_ _) | (with_reducible refine Kd.C_drewN ?_ _) | (with_reducible refine Kd.C_drew ?_))); (case side2 => exact (Kd.R_reads' HO154.out).2.1); rintro e w39 ⟨v156, rfl, ho0, hb⟩; refine ⟨_, rfl, ?_⟩; have n0_ := Aside0.mk (Kd.R_below (by (with_reducible repeat (first | apply Kd.R_alloc | apply Kd.R_drewN | apply Kd.R_drew)); exact HO154.out) hb); have n1_ := Aside0.mk (Kd.R_lower ho0 (below_size (by repeat (first | (with_reducible first | exact HB.out | apply below_alloc | apply pw_below_drewN | apply below_drew1 | refine below_set ?_ GE130.out) | exact HB.out)))); have n2_ := Aside0.mk (blk_below (g := gb130) (o := .cells #[.int .u8 a1_0, .int .u8 a1_1, .int .u16 a1_2, .int .u16 a1_3, .int .u16 a1_4, .int .u16 a1_5, .int .u16 a1_6, .int .u16 a1_7, .int .u16 a1_8, .int .u16 a1_9, .int .u16 a1_10, .int .u16 a1_11, .slice A1_12 l1_12.length c1_12, .slice A1_13 l1_13.length c1_13, .slice A1_14 l1_14.length c1_14, .slice A1_15 l1_15.length c1_15, .int .u8 a1_16, .int .u8 a1_17, .int .u8 a1_18, .int .u8 a1_19, .int .u8 a1_20, .slice A1_21 l1_21.length c1_21] 30 (0, 0)) (by (with_reducible repeat (first | refine blk_drewN ?_ _ | refine blk_drew ?_ | refine blk_alloc ?_ _)); exact BK130.out) hb); have n3_ := Aside0.mk (below_step (by repeat (first | (with_reducible first | exact HB.out | apply below_alloc | apply pw_below_drewN | apply below_drew1 | refine below_set ?_ GE130.out) | exact HB.out)) hb); clear HO154; clear BK130; clear HB; have HO154 := n0_; have HO157 := n1_; have BK130 := n2_; have HB := n3_; clear n0_ n1_ n2_ n3_; (try clear hb); (try clear hb2); (try clear hk); (try clear hi); (try clear ho0)))
              go_ret
              exact ⟨_, by first | rfl | (simp [errW_none, errW_some] <;> rfl) | (simp [*, errW_none, errW_some] <;> rfl), by (with_reducible repeat (first | apply Kd.R_alloc | apply Kd.R_drewN | apply Kd.R_drew)); exact HO157.out, by repeat (first | (with_reducible first | exact HB.out | apply below_alloc | apply pw_below_drewN | apply below_drew1 | refine below_set ?_ GE130.out) | exact HB.out)⟩
            · rw [if_neg c33] at H
              have c33b0 : (a1_0 == 15) = false := beq_eq_false_iff_ne.mpr c33
              have c33b1 : (a1_0 != 15) = true := bne_iff_ne.mpr c33
              obtain ⟨y158, hy158⟩ : ∃ y_ : List Int, y_ = (([((l1_14.length : Int)) % 256] : List Int)) := ⟨_, rfl⟩
              replace H : (if y158.length + l1_14.length < 140737488355328 then (some (y158 ++ l1_14)) else (none)) = some r := by first | (rw [hy158]; with_reducible exact H) | (have H2_ := (Option.bind_some _ _).symm.trans H; rw [hy158]; with_reducible exact H2_) | (have H2_ := (Option.bind_some _ _).symm.trans H; with_reducible exact H2_) | with_reducible exact H | (rw [hy158]; exact H) | exact H
              have Ny158 := Aside0.mk hy158
              clear hy158
              by_cases c40 : y158.length + l1_14.length < 140737488355328
              · rw [if_pos c40] at H
                have LMc40 := Aside0.mk c40
                clear c40
                obtain ⟨y161, hy161⟩ : ∃ y_ : List Int, y_ = (y158 ++ l1_14) := ⟨_, rfl⟩
                replace H : (some y161) = some r := by first | (rw [hy161]; with_reducible exact H) | (have H2_ := (Option.bind_some _ _).symm.trans H; rw [hy161]; with_reducible exact H2_) | (have H2_ := (Option.bind_some _ _).symm.trans H; with_reducible exact H2_) | with_reducible exact H | (rw [hy161]; exact H) | exact H
                have Ny161 := Aside0.mk hy161
                clear hy161
                obtain rfl := Option.some.inj H
                have hcz41_0 : wc.cell? ⟨gb130, 0, none⟩ = some (.int .u8 a1_0) := (blk_cell BK130.out 0).trans rfl
                have hcz41_1 : wc.cell? ⟨gb130, 1, none⟩ = some (.int .u8 a1_1) := (blk_cell BK130.out 1).trans rfl
                have hcz41_2 : wc.cell? ⟨gb130, 2, none⟩ = some (.int .u16 a1_2) := (blk_cell BK130.out 2).trans rfl
                have hcz41_3 : wc.cell? ⟨gb130, 3, none⟩ = some (.int .u16 a1_3) := (blk_cell BK130.out 3).trans rfl
                have hcz41_4 : wc.cell? ⟨gb130, 4, none⟩ = some (.int .u16 a1_4) := (blk_cell BK130.out 4).trans rfl
                have hcz41_5 : wc.cell? ⟨gb130, 5, none⟩ = some (.int .u16 a1_5) := (blk_cell BK130.out 5).trans rfl
                have hcz41_6 : wc.cell? ⟨gb130, 6, none⟩ = some (.int .u16 a1_6) := (blk_cell BK130.out 6).trans rfl
                have hcz41_7 : wc.cell? ⟨gb130, 7, none⟩ = some (.int .u16 a1_7) := (blk_cell BK130.out 7).trans rfl
                have hcz41_8 : wc.cell? ⟨gb130, 8, none⟩ = some (.int .u16 a1_8) := (blk_cell BK130.out 8).trans rfl
                have hcz41_9 : wc.cell? ⟨gb130, 9, none⟩ = some (.int .u16 a1_9) := (blk_cell BK130.out 9).trans rfl
                have hcz41_10 : wc.cell? ⟨gb130, 10, none⟩ = some (.int .u16 a1_10) := (blk_cell BK130.out 10).trans rfl
                have hcz41_11 : wc.cell? ⟨gb130, 11, none⟩ = some (.int .u16 a1_11) := (blk_cell BK130.out 11).trans rfl
                have hcz41_12 : wc.cell? ⟨gb130, 12, none⟩ = some (.slice A1_12 l1_12.length c1_12) := (blk_cell BK130.out 12).trans rfl
                have hcz41_13 : wc.cell? ⟨gb130, 13, none⟩ = some (.slice A1_13 l1_13.length c1_13) := (blk_cell BK130.out 13).trans rfl
                have hcz41_14 : wc.cell? ⟨gb130, 14, none⟩ = some (.slice A1_14 l1_14.length c1_14) := (blk_cell BK130.out 14).trans rfl
                have hcz41_15 : wc.cell? ⟨gb130, 15, none⟩ = some (.slice A1_15 l1_15.length c1_15) := (blk_cell BK130.out 15).trans rfl
                have hcz41_16 : wc.cell? ⟨gb130, 16, none⟩ = some (.int .u8 a1_16) := (blk_cell BK130.out 16).trans rfl
                have hcz41_17 : wc.cell? ⟨gb130, 17, none⟩ = some (.int .u8 a1_17) := (blk_cell BK130.out 17).trans rfl
                have hcz41_18 : wc.cell? ⟨gb130, 18, none⟩ = some (.int .u8 a1_18) := (blk_cell BK130.out 18).trans rfl
                have hcz41_19 : wc.cell? ⟨gb130, 19, none⟩ = some (.int .u8 a1_19) := (blk_cell BK130.out 19).trans rfl
                have hcz41_20 : wc.cell? ⟨gb130, 20, none⟩ = some (.int .u8 a1_20) := (blk_cell BK130.out 20).trans rfl
                have hcz41_21 : wc.cell? ⟨gb130, 21, none⟩ = some (.slice A1_21 l1_21.length c1_21) := (blk_cell BK130.out 21).trans rfl
                have hfz41_0 := blk_frozen BK130.out 0
                have hfz41_1 := blk_frozen BK130.out 1
                have hfz41_2 := blk_frozen BK130.out 2
                have hfz41_3 := blk_frozen BK130.out 3
                have hfz41_4 := blk_frozen BK130.out 4
                have hfz41_5 := blk_frozen BK130.out 5
                have hfz41_6 := blk_frozen BK130.out 6
                have hfz41_7 := blk_frozen BK130.out 7
                have hfz41_8 := blk_frozen BK130.out 8
                have hfz41_9 := blk_frozen BK130.out 9
                have hfz41_10 := blk_frozen BK130.out 10
                have hfz41_11 := blk_frozen BK130.out 11
                have hfz41_12 := blk_frozen BK130.out 12
                have hfz41_13 := blk_frozen BK130.out 13
                have hfz41_14 := blk_frozen BK130.out 14
                have hfz41_15 := blk_frozen BK130.out 15
                have hfz41_16 := blk_frozen BK130.out 16
                have hfz41_17 := blk_frozen BK130.out 17
                have hfz41_18 := blk_frozen BK130.out 18
                have hfz41_19 := blk_frozen BK130.out 19
                have hfz41_20 := blk_frozen BK130.out 20
                have hfz41_21 := blk_frozen BK130.out 21
                go_wp2_with (first | ((with_reducible refine gate_dst (N := 52) rfl ?_); refine Kd.R_lit (Kd.int .u8) _ 5 ?hg (N := 52) ?hd (xs := ([((l1_14.length : Int)) % 256] : List Int)) (inner := [.int .u8 (((l1_14.length : Int)) % 256)]) (ok := fun _ => True) (okp := fun _ => True) ?hr ?hp (fun _ hk => hk) trivial (Below.refl _ _) (Nat.le_refl _) (by simp) ?_; (case hd => rfl); (case hg => rfl); (case hr => first | (go_simp; done) | (go_simp; rfl)); (case hp => exact (Reps.one (show Kd.M (Kd.int .u8) _ _ _ (((l1_14.length : Int)) % 256) [.int .u8 (((l1_14.length : Int)) % 256)] from rfl) (Reps.none _ _))); intro v159 w42 ho43 hb hg_ hnew_; clear hg_ hnew_; (first | rw [← Ny158.out] at ho43 | (simp only [Int.reduceToNat] at ho43; rw [← Ny158.out] at ho43)); have n0_ := Aside0.mk (Kd.R_lower ho43 (below_size (by repeat (first | (with_reducible first | exact HB.out | apply below_alloc | apply pw_below_drewN | apply below_drew1 | refine below_set ?_ GE130.out) | exact HB.out)))); have n1_ := Aside0.mk (blk_below (g := gb130) (o := .cells #[.int .u8 a1_0, .int .u8 a1_1, .int .u16 a1_2, .int .u16 a1_3, .int .u16 a1_4, .int .u16 a1_5, .int .u16 a1_6, .int .u16 a1_7, .int .u16 a1_8, .int .u16 a1_9, .int .u16 a1_10, .int .u16 a1_11, .slice A1_12 l1_12.length c1_12, .slice A1_13 l1_13.length c1_13, .slice A1_14 l1_14.length c1_14, .slice A1_15 l1_15.length c1_15, .int .u8 a1_16, .int .u8 a1_17, .int .u8 a1_18, .int .u8 a1_19, .int .u8 a1_20, .slice A1_21 l1_21.length c1_21] 30 (0, 0)) (by (with_reducible repeat (first | refine blk_drewN ?_ _ | refine blk_drew ?_ | refine blk_alloc ?_ _)); exact BK130.out) hb); have n2_ := Aside0.mk (below_step (by repeat (first | (with_reducible first | exact HB.out | apply below_alloc | apply pw_below_drewN | apply below_drew1 | refine below_set ?_ GE130.out) | exact HB.out)) hb); clear BK130; clear HB; have HO160 := n0_; have BK130 := n1_; have HB := n2_; clear n0_ n1_ n2_; clear hb ho43; have hcz44_0 : w42.cell? ⟨gb130, 0, none⟩ = some (.int .u8 a1_0) := (blk_cell BK130.out 0).trans rfl; have hcz44_1 : w42.cell? ⟨gb130, 1, none⟩ = some (.int .u8 a1_1) := (blk_cell BK130.out 1).trans rfl; have hcz44_2 : w42.cell? ⟨gb130, 2, none⟩ = some (.int .u16 a1_2) := (blk_cell BK130.out 2).trans rfl; have hcz44_3 : w42.cell? ⟨gb130, 3, none⟩ = some (.int .u16 a1_3) := (blk_cell BK130.out 3).trans rfl; have hcz44_4 : w42.cell? ⟨gb130, 4, none⟩ = some (.int .u16 a1_4) := (blk_cell BK130.out 4).trans rfl; have hcz44_5 : w42.cell? ⟨gb130, 5, none⟩ = some (.int .u16 a1_5) := (blk_cell BK130.out 5).trans rfl; have hcz44_6 : w42.cell? ⟨gb130, 6, none⟩ = some (.int .u16 a1_6) := (blk_cell BK130.out 6).trans rfl; have hcz44_7 : w42.cell? ⟨gb130, 7, none⟩ = some (.int .u16 a1_7) := (blk_cell BK130.out 7).trans rfl; have hcz44_8 : w42.cell? ⟨gb130, 8, none⟩ = some (.int .u16 a1_8) := (blk_cell BK130.out 8).trans rfl; have hcz44_9 : w42.cell? ⟨gb130, 9, none⟩ = some (.int .u16 a1_9) := (blk_cell BK130.out 9).trans rfl; have hcz44_10 : w42.cell? ⟨gb130, 10, none⟩ = some (.int .u16 a1_10) := (blk_cell BK130.out 10).trans rfl; have hcz44_11 : w42.cell? ⟨gb130, 11, none⟩ = some (.int .u16 a1_11) := (blk_cell BK130.out 11).trans rfl; have hcz44_12 : w42.cell? ⟨gb130, 12, none⟩ = some (.slice A1_12 l1_12.length c1_12) := (blk_cell BK130.out 12).trans rfl; have hcz44_13 : w42.cell? ⟨gb130, 13, none⟩ = some (.slice A1_13 l1_13.length c1_13) := (blk_cell BK130.out 13).trans rfl; have hcz44_14 : w42.cell? ⟨gb130, 14, none⟩ = some (.slice A1_14 l1_14.length c1_14) := (blk_cell BK130.out 14).trans rfl; have hcz44_15 : w42.cell? ⟨gb130, 15, none⟩ = some (.slice A1_15 l1_15.length c1_15) := (blk_cell BK130.out 15).trans rfl; have hcz44_16 : w42.cell? ⟨gb130, 16, none⟩ = some (.int .u8 a1_16) := (blk_cell BK130.out 16).trans rfl; have hcz44_17 : w42.cell? ⟨gb130, 17, none⟩ = some (.int .u8 a1_17) := (blk_cell BK130.out 17).trans rfl; have hcz44_18 : w42.cell? ⟨gb130, 18, none⟩ = some (.int .u8 a1_18) := (blk_cell BK130.out 18).trans rfl; have hcz44_19 : w42.cell? ⟨gb130, 19, none⟩ = some (.int .u8 a1_19) := (blk_cell BK130.out 19).trans rfl; have hcz44_20 : w42.cell? ⟨gb130, 20, none⟩ = some (.int .u8 a1_20) := (blk_cell BK130.out 20).trans rfl; have hcz44_21 : w42.cell? ⟨gb130, 21, none⟩ = some (.slice A1_21 l1_21.length c1_21) := (blk_cell BK130.out 21).trans rfl; have hfz44_0 := blk_frozen BK130.out 0; have hfz44_1 := blk_frozen BK130.out 1; have hfz44_2 := blk_frozen BK130.out 2; have hfz44_3 := blk_frozen BK130.out 3; have hfz44_4 := blk_frozen BK130.out 4; have hfz44_5 := blk_frozen BK130.out 5; have hfz44_6 := blk_frozen BK130.out 6; have hfz44_7 := blk_frozen BK130.out 7; have hfz44_8 := blk_frozen BK130.out 8; have hfz44_9 := blk_frozen BK130.out 9; have hfz44_10 := blk_frozen BK130.out 10; have hfz44_11 := blk_frozen BK130.out 11; have hfz44_12 := blk_frozen BK130.out 12; have hfz44_13 := blk_frozen BK130.out 13; have hfz44_14 := blk_frozen BK130.out 14; have hfz44_15 := blk_frozen BK130.out 15; have hfz44_16 := blk_frozen BK130.out 16; have hfz44_17 := blk_frozen BK130.out 17; have hfz44_18 := blk_frozen BK130.out 18; have hfz44_19 := blk_frozen BK130.out 19; have hfz44_20 := blk_frozen BK130.out 20; have hfz44_21 := blk_frozen BK130.out 21) | ((with_reducible refine gate_builtin (b := .append) (xs := #[.tmp 52, .tmp 54]) rfl ?_); at_builtin; refine Kd.R_append_rows (Kd.int .u8) (w0 := w) w.heap.size rfl (.tmp 52) (.tmp 54) 22 5 (.int .u8 0) 1 rfl Try.underlying22 info5 rfl (by decide) (by omega) v159 y158 l1_14 _ _ _ (fun _ => True) (fun _ => False) rfl rfl ?aO ?aR (fun _ _ h => h) (fun _ h => h.elim) ?aF ?aB ?aS ?aL ?_; (case aR => repeat (first | exact (Kd.C_below HR1_14.out HB.out) | (with_reducible refine Kd.C_alloc ?_ _) | (with_reducible refine Kd.C_drewN ?_ _) | (with_reducible refine Kd.C_drew ?_))); (case aB => exact (by repeat (first | (with_reducible first | exact HB.out | apply below_alloc | apply pw_below_drewN | apply below_drew1 | refine below_set ?_ GE130.out) | exact HB.out))); (case aF => exact (fun _ _ => trivial)); (case aO => exact (by (with_reducible repeat (first | apply Kd.R_alloc | apply Kd.R_drewN | apply Kd.R_drew)); exact HO160.out)); (case aS => exact (below_size (by repeat (first | (with_reducible first | exact HB.out | apply below_alloc | apply pw_below_drewN | apply below_drew1 | refine below_set ?_ GE130.out) | exact HB.out)))); (case aL => have := LMc40.out; omega); intro v162 w45 ho hb hg hat; rw [← Ny161.out] at ho; have n0_ := Aside0.mk (blk_grown (g := gb130) (o := .cells #[.int .u8 a1_0, .int .u8 a1_1, .int .u16 a1_2, .int .u16 a1_3, .int .u16 a1_4, .int .u16 a1_5, .int .u16 a1_6, .int .u16 a1_7, .int .u16 a1_8, .int .u16 a1_9, .int .u16 a1_10, .int .u16 a1_11, .slice A1_12 l1_12.length c1_12, .slice A1_13 l1_13.length c1_13, .slice A1_14 l1_14.length c1_14, .slice A1_15 l1_15.length c1_15, .int .u8 a1_16, .int .u8 a1_17, .int .u8 a1_18, .int .u8 a1_19, .int .u8 a1_20, .slice A1_21 l1_21.length c1_21] 30 (0, 0)) (by (with_reducible repeat (first | refine blk_drewN ?_ _ | refine blk_drew ?_ | refine blk_alloc ?_ _)); exact BK130.out) hg (Kd.R_ne HO160.out BK130.out (by decide))); have n1_ := Aside0.mk (hb); have n2_ := Aside0.mk (ho); clear BK130; clear HB; clear HO160; have BK130 := n0_; have HB := n1_; have HO163 := n2_; clear n0_ n1_ n2_; clear ho hb hg hat))
                go_ret
                exact ⟨_, by first | rfl | (simp [errW_none, errW_some] <;> rfl) | (simp [*, errW_none, errW_some] <;> rfl), by (with_reducible repeat (first | apply Kd.R_alloc | apply Kd.R_drewN | apply Kd.R_drew)); exact HO163.out, by repeat (first | (with_reducible first | exact HB.out | apply below_alloc | apply pw_below_drewN | apply below_drew1 | refine below_set ?_ GE130.out) | exact HB.out)⟩
              · rw [if_neg c40] at H
                exact absurd H (by simp)
          · rw [if_neg c32] at H
            have c32b0 : (a0 == 1) = false := beq_eq_false_iff_ne.mpr c32
            have c32b1 : (a0 != 1) = true := bne_iff_ne.mpr c32
            obtain ⟨y164, hy164⟩ : ∃ y_ : List Int, y_ = (([a1_2, a1_3] : List Int)) := ⟨_, rfl⟩
            replace H : ((word_Put.f kj10 y164).bind fun t167 => (some t167)) = some r := by first | (rw [hy164]; with_reducible exact H) | (have H2_ := (Option.bind_some _ _).symm.trans H; rw [hy164]; with_reducible exact H2_) | (have H2_ := (Option.bind_some _ _).symm.trans H; with_reducible exact H2_) | with_reducible exact H | (rw [hy164]; exact H) | exact H
            have Ny164 := Aside0.mk hy164
            clear hy164
            replace H := Option.bind_eq_some_iff.mp H
            obtain ⟨t167, A460, H⟩ := H
            replace H : (some t167) = some r := H
            have A46 := Aside0.mk A460
            clear A460
            obtain rfl := Option.some.inj H
            have hcz47_0 : wc.cell? ⟨gb130, 0, none⟩ = some (.int .u8 a1_0) := (blk_cell BK130.out 0).trans rfl
            have hcz47_1 : wc.cell? ⟨gb130, 1, none⟩ = some (.int .u8 a1_1) := (blk_cell BK130.out 1).trans rfl
            have hcz47_2 : wc.cell? ⟨gb130, 2, none⟩ = some (.int .u16 a1_2) := (blk_cell BK130.out 2).trans rfl
            have hcz47_3 : wc.cell? ⟨gb130, 3, none⟩ = some (.int .u16 a1_3) := (blk_cell BK130.out 3).trans rfl
            have hcz47_4 : wc.cell? ⟨gb130, 4, none⟩ = some (.int .u16 a1_4) := (blk_cell BK130.out 4).trans rfl
            have hcz47_5 : wc.cell? ⟨gb130, 5, none⟩ = some (.int .u16 a1_5) := (blk_cell BK130.out 5).trans rfl
            have hcz47_6 : wc.cell? ⟨gb130, 6, none⟩ = some (.int .u16 a1_6) := (blk_cell BK130.out 6).trans rfl
            have hcz47_7 : wc.cell? ⟨gb130, 7, none⟩ = some (.int .u16 a1_7) := (blk_cell BK130.out 7).trans rfl
            have hcz47_8 : wc.cell? ⟨gb130, 8, none⟩ = some (.int .u16 a1_8) := (blk_cell BK130.out 8).trans rfl
            have hcz47_9 : wc.cell? ⟨gb130, 9, none⟩ = some (.int .u16 a1_9) := (blk_cell BK130.out 9).trans rfl
            have hcz47_10 : wc.cell? ⟨gb130, 10, none⟩ = some (.int .u16 a1_10) := (blk_cell BK130.out 10).trans rfl
            have hcz47_11 : wc.cell? ⟨gb130, 11, none⟩ = some (.int .u16 a1_11) := (blk_cell BK130.out 11).trans rfl
            have hcz47_12 : wc.cell? ⟨gb130, 12, none⟩ = some (.slice A1_12 l1_12.length c1_12) := (blk_cell BK130.out 12).trans rfl
            have hcz47_13 : wc.cell? ⟨gb130, 13, none⟩ = some (.slice A1_13 l1_13.length c1_13) := (blk_cell BK130.out 13).trans rfl
            have hcz47_14 : wc.cell? ⟨gb130, 14, none⟩ = some (.slice A1_14 l1_14.length c1_14) := (blk_cell BK130.out 14).trans rfl
            have hcz47_15 : wc.cell? ⟨gb130, 15, none⟩ = some (.slice A1_15 l1_15.length c1_15) := (blk_cell BK130.out 15).trans rfl
            have hcz47_16 : wc.cell? ⟨gb130, 16, none⟩ = some (.int .u8 a1_16) := (blk_cell BK130.out 16).trans rfl
            have hcz47_17 : wc.cell? ⟨gb130, 17, none⟩ = some (.int .u8 a1_17) := (blk_cell BK130.out 17).trans rfl
            have hcz47_18 : wc.cell? ⟨gb130, 18, none⟩ = some (.int .u8 a1_18) := (blk_cell BK130.out 18).trans rfl
            have hcz47_19 : wc.cell? ⟨gb130, 19, none⟩ = some (.int .u8 a1_19) := (blk_cell BK130.out 19).trans rfl
            have hcz47_20 : wc.cell? ⟨gb130, 20, none⟩ = some (.int .u8 a1_20) := (blk_cell BK130.out 20).trans rfl
            have hcz47_21 : wc.cell? ⟨gb130, 21, none⟩ = some (.slice A1_21 l1_21.length c1_21) := (blk_cell BK130.out 21).trans rfl
            have hfz47_0 := blk_frozen BK130.out 0
            have hfz47_1 := blk_frozen BK130.out 1
            have hfz47_2 := blk_frozen BK130.out 2
            have hfz47_3 := blk_frozen BK130.out 3
            have hfz47_4 := blk_frozen BK130.out 4
            have hfz47_5 := blk_frozen BK130.out 5
            have hfz47_6 := blk_frozen BK130.out 6
            have hfz47_7 := blk_frozen BK130.out 7
            have hfz47_8 := blk_frozen BK130.out 8
            have hfz47_9 := blk_frozen BK130.out 9
            have hfz47_10 := blk_frozen BK130.out 10
            have hfz47_11 := blk_frozen BK130.out 11
            have hfz47_12 := blk_frozen BK130.out 12
            have hfz47_13 := blk_frozen BK130.out 13
            have hfz47_14 := blk_frozen BK130.out 14
            have hfz47_15 := blk_frozen BK130.out 15
            have hfz47_16 := blk_frozen BK130.out 16
            have hfz47_17 := blk_frozen BK130.out 17
            have hfz47_18 := blk_frozen BK130.out 18
            have hfz47_19 := blk_frozen BK130.out 19
            have hfz47_20 := blk_frozen BK130.out 20
            have hfz47_21 := blk_frozen BK130.out 21
            go_wp2_with (first | ((with_reducible refine gate_dst (N := 60) rfl ?_); refine Kd.R_lit (Kd.int .u16) _ 24 ?hg (N := 60) ?hd (xs := ([a1_2, a1_3] : List Int)) (inner := [.int .u16 a1_2, .int .u16 a1_3]) (ok := fun _ => True) (okp := fun _ => True) ?hr ?hp (fun _ hk => hk) trivial (Below.refl _ _) (Nat.le_refl _) (by simp) ?_; (case hd => rfl); (case hg => rfl); (case hr => first | (go_simp; done) | (go_simp; rfl)); (case hp => exact (Reps.one (show Kd.M (Kd.int .u16) _ _ _ a1_2 [.int .u16 a1_2] from rfl) (Reps.one (show Kd.M (Kd.int .u16) _ _ _ a1_3 [.int .u16 a1_3] from rfl) (Reps.none _ _)))); intro v165 w48 ho49 hb hg_ hnew_; clear hg_ hnew_; (first | rw [← Ny164.out] at ho49 | (simp only [Int.reduceToNat] at ho49; rw [← Ny164.out] at ho49)); have n0_ := Aside0.mk (Kd.R_lower ho49 (below_size (by repeat (first | (with_reducible first | exact HB.out | apply below_alloc | apply pw_below_drewN | apply below_drew1 | refine below_set ?_ GE130.out) | exact HB.out)))); have n1_ := Aside0.mk (blk_below (g := gb130) (o := .cells #[.int .u8 a1_0, .int .u8 a1_1, .int .u16 a1_2, .int .u16 a1_3, .int .u16 a1_4, .int .u16 a1_5, .int .u16 a1_6, .int .u16 a1_7, .int .u16 a1_8, .int .u16 a1_9, .int .u16 a1_10, .int .u16 a1_11, .slice A1_12 l1_12.length c1_12, .slice A1_13 l1_13.length c1_13, .slice A1_14 l1_14.length c1_14, .slice A1_15 l1_15.length c1_15, .int .u8 a1_16, .int .u8 a1_17, .int .u8 a1_18, .int .u8 a1_19, .int .u8 a1_20, .slice A1_21 l1_21.length c1_21] 30 (0, 0)) (by (with_reducible repeat (first | refine blk_drewN ?_ _ | refine blk_drew ?_ | refine blk_alloc ?_ _)); exact BK130.out) hb); have n2_ := Aside0.mk (below_step (by repeat (first | (with_reducible first | exact HB.out | apply below_alloc | apply pw_below_drewN | apply below_drew1 | refine below_set ?_ GE130.out) | exact HB.out)) hb); clear BK130; clear HB; have HO166 := n0_; have BK130 := n1_; have HB := n2_; clear n0_ n1_ n2_; clear hb ho49; obtain ⟨Ao50, co50, eo50⟩ := Kd.R_slice HO166.out; subst eo50) | ((with_reducible refine gate_callee (f := 53) rfl ?_); refine goesL_ (some 61) rfl rfl Try.func53 (by kernel_rfl) rfl #[.slice Ao50 y164.length co50] rfl (by (try simp only [List.map_toArray, List.map_cons, List.map_nil]); first | done | rfl | (simp only [List.length_drop, List.length_take]; rfl)) ?_; (with_reducible refine (word_Put.calls kj10 _ _ y164 t167 _ ?side1 ?side2 A46.out).mono ?_); (case side1 => repeat (first | exact (Kd.R_reads' HO166.out).2.2 | (with_reducible refine Kd.C_alloc ?_ _) | (with_reducible refine Kd.C_drewN ?_ _) | (with_reducible refine Kd.C_drew ?_))); (case side2 => exact (Kd.R_reads' HO166.out).2.1); rintro e w51 ⟨v168, rfl, ho0, hb⟩; refine ⟨_, rfl, ?_⟩; have n0_ := Aside0.mk (Kd.R_below (by (with_reducible repeat (first | apply Kd.R_alloc | apply Kd.R_drewN | apply Kd.R_drew)); exact HO166.out) hb); have n1_ := Aside0.mk (Kd.R_lower ho0 (below_size (by repeat (first | (with_reducible first | exact HB.out | apply below_alloc | apply pw_below_drewN | apply below_drew1 | refine below_set ?_ GE130.out) | exact HB.out)))); have n2_ := Aside0.mk (blk_below (g := gb130) (o := .cells #[.int .u8 a1_0, .int .u8 a1_1, .int .u16 a1_2, .int .u16 a1_3, .int .u16 a1_4, .int .u16 a1_5, .int .u16 a1_6, .int .u16 a1_7, .int .u16 a1_8, .int .u16 a1_9, .int .u16 a1_10, .int .u16 a1_11, .slice A1_12 l1_12.length c1_12, .slice A1_13 l1_13.length c1_13, .slice A1_14 l1_14.length c1_14, .slice A1_15 l1_15.length c1_15, .int .u8 a1_16, .int .u8 a1_17, .int .u8 a1_18, .int .u8 a1_19, .int .u8 a1_20, .slice A1_21 l1_21.length c1_21] 30 (0, 0)) (by (with_reducible repeat (first | refine blk_drewN ?_ _ | refine blk_drew ?_ | refine blk_alloc ?_ _)); exact BK130.out) hb); have n3_ := Aside0.mk (below_step (by repeat (first | (with_reducible first | exact HB.out | apply below_alloc | apply pw_below_drewN | apply below_drew1 | refine below_set ?_ GE130.out) | exact HB.out)) hb); clear HO166; clear BK130; clear HB; have HO166 := n0_; have HO169 := n1_; have BK130 := n2_; have HB := n3_; clear n0_ n1_ n2_ n3_; (try clear hb); (try clear hb2); (try clear hk); (try clear hi); (try clear ho0)))
            go_ret
            exact ⟨_, by first | rfl | (simp [errW_none, errW_some] <;> rfl) | (simp [*, errW_none, errW_some] <;> rfl), by (with_reducible repeat (first | apply Kd.R_alloc | apply Kd.R_drewN | apply Kd.R_drew)); exact HO169.out, by repeat (first | (with_reducible first | exact HB.out | apply below_alloc | apply pw_below_drewN | apply below_drew1 | refine below_set ?_ GE130.out) | exact HB.out)⟩
end Go.Proofs.Ytggiobdjepgkfaa.P
end
section
namespace Go.Proofs.Ytggiobdjepgkfaa.P
open Go.RowKit Go.Proofs.YtggiobdjepgkfaaW.PrintWords Go.Proofs.YtggiobdjepgkfaaW.PrintLast Go.Proofs.YtggiobdjepgkfaaW.PrintMore
attribute [local go_sem] max2_int min2_int max_two min_two max_three min_three max_four min_four   -- for this text's walks alone
end Go.Proofs.Ytggiobdjepgkfaa.P
end
section
namespace Go.Proofs.Ytggiobdjepgkfaa.Coil
open Go.RowKit Go.Proofs.Ytggiobdjepgkfaa.P Go.Proofs.Ytggiobdjepgkfaa.E Go.Proofs.Ytggiobdjepgkfaa.Cur Go.Proofs.Ytggiobdjepgkfaa.Cu Go.Proofs.Ytggiobdjepgkfaa.Same Go.Proofs.Ytggiobdjepgkfaa.Bits Go.Proofs.Ytggiobdjepgkfaa.Put Go.Proofs.Ytggiobdjepgkfaa.Com Go.Proofs.YtggiobdjepgkfaaW.PrintWords Go.Proofs.YtggiobdjepgkfaaW.PrintLast Go.Proofs.YtggiobdjepgkfaaW.PrintMore
def counted (l : List Int) : List Int := ((l.length : Int) % 256) :: l
def lay (dir : Int) (m : Msg) : List Int :=
  if m.code = 5 then putL [m.addr, m.value] else if m.code = 15 ∧ dir = 0 then putL [m.addr, m.count] ++ counted (packS m.bits) else if dir = 1 ∧ m.code ≠ 15 then counted m.data else putL [m.addr, m.count]
def rlay (dir : Int) (m : Msg) : List Int :=
  if m.code = 1 ∨ m.code = 2 then (if dir = 1 then counted m.data else putL [m.addr, m.count]) else if m.code = 5 then putL [m.addr, m.value] else if m.code = 15 ∧ dir = 0 then putL [m.addr, m.count] ++ counted (packS m.bits) else putL [m.addr, m.count]
theorem lay_ev {dir : Int} {m : Msg} (hg : goodM m) (hd : m.data.length ≤ 1000000) (hb : m.bits.length ≤ 1000000) : Ev (fun k => coils_lay.f k dir m.code m.fail m.addr m.count m.value m.and_ m.or_ m.addr2 m.sub m.status m.events m.messages m.words m.bits m.data m.recs m.mei m.kind m.level m.more m.next m.objects) (lay dir m) := by
  obtain ⟨⟨a0, a1, a2, a3, a4, _⟩, _⟩ := goodM_num hg
  have p1 := put_ev [m.addr, m.count] (is16_2 a2 a3) (by simp)
  have p2 := put_ev [m.addr, m.value] (is16_2 a2 a4) (by simp)
  have p3 := pack_ev m.bits (by omega)
  have hpl := packS_length m.bits
  have hpb : bytesN m.bits.length ≤ 200000 := by unfold bytesN; omega
  unfold lay coils_lay.f
  by_cases h5 : m.code = 5
  · rw [if_pos h5]
    exact pos h5 (p2.bind (Ev.now _))
  rw [if_neg h5]
  refine neg h5 ?_
  have J : ∀ b : Bool, Ev (fun k => coils_lay.j0 k dir b m.code m.fail m.addr m.count m.value m.and_ m.or_ m.addr2 m.sub m.status m.events m.messages m.words m.bits m.data m.recs m.mei m.kind m.level m.more m.next m.objects) (if b = true then putL [m.addr, m.count] ++ counted (packS m.bits) else if dir = 1 ∧ m.code ≠ 15 then counted m.data else putL [m.addr, m.count]) := by
    intro b
    refine Ev.step (fun k => by rw [coils_lay.j0]) ?_
    cases b with
    | true =>
      refine pos rfl (p3.bind (p1.bind ?_))
      rw [if_pos rfl]
      refine pos (by rw [putL_length]; simp) (bind0 rfl (pos (by simp only [List.length_append, List.length_cons, List.length_nil, putL_length]; omega) (ret ?_)))
      simp [counted]
    | false =>
      refine neg (by decide) ?_
      rw [if_neg (by decide)]
      by_cases hd1 : dir = 1
      · refine pos hd1 ?_
        by_cases h15 : m.code = 15
        · rw [if_neg (fun h => h.2 h15)]
          exact pos h15 (p1.bind (Ev.now _))
        · rw [if_pos ⟨hd1, h15⟩]
          exact neg h15 (bind0 rfl (pos (by simp only [List.length_cons, List.length_nil]; omega) (ret rfl)))
      · rw [if_neg (fun h => hd1 h.1)]
        exact neg hd1 (p1.bind (Ev.now _))
  by_cases h15 : m.code = 15
  · refine pos h15 ?_
    have := J (dir == 0)
    by_cases h0 : dir = 0
    · rw [if_pos ⟨h15, h0⟩]
      rw [if_pos (beq_iff_eq.2 h0)] at this
      exact this
    · rw [if_neg (fun h => h0 h.2)]
      rw [if_neg (fun h => h0 (beq_iff_eq.1 h))] at this
      exact this
  · refine neg h15 ?_
    rw [if_neg (fun h => h15 h.1)]
    have := J false
    rw [if_neg (by decide)] at this
    exact this
theorem lay_any {dir : Int} {m : Msg} (hd : m.data.length ≤ 1000000) (hb : m.bits.length ≤ 1000000) : LayC 38 dir m (lay dir m) := by
  intro cx W hm
  have hg := hm.good
  obtain ⟨A12, c12, A13, c13, A14, c14, A15, c15, A21, c21, rfl, ok, ⟨hr12, hc12⟩, ⟨hr13, hc13⟩, ⟨hr14, hc14⟩, ⟨hr15, hc15⟩, ⟨hr21, hc21⟩⟩ := hm
  obtain ⟨k, hk⟩ := (lay_ev (dir := dir) hg hd hb).rounds
  refine (coils_lay.calls k _ _ _ _ _ _ _ _ _ _ _ _ _ A12 c12 m.words A13 c13 m.bits A14 c14 m.data A15 c15 m.recs _ _ _ _ _ A21 c21 m.objects _ W hr12 hc12 hr13 hc13 hr14 hc14 hr15 hc15 hr21 hc21 hk).mono ?_
  rintro en w' ⟨v, rfl, R, B⟩
  obtain ⟨A, c, rfl, hz, hr⟩ := Kd.R_reads R
  exact ⟨A, c, rfl, hz, hr, B⟩
theorem counted_bytes {l : List Int} (h : isBytes l) : isBytes (counted l) := fun x hx => by
  rcases List.mem_cons.1 hx with rfl | hx
  · omega
  · exact h x hx
theorem lay_bytes {dir : Int} {m : Msg} (hg : goodM m) : isBytes (lay dir m) := by
  have G := (goodM_num hg).2.1
  unfold lay
  split
  · exact putL_bytes _
  split
  · exact isBytes_append (putL_bytes _) (counted_bytes (packS_bytes _))
  split
  · exact counted_bytes G
  · exact putL_bytes _
theorem lay_len {dir : Int} {m : Msg} (hd : m.data.length ≤ 1000) (hb : m.bits.length ≤ 4000) : (lay dir m).length ≤ 2000 ∧ (rlay dir m).length ≤ 2000 := by
  have hpl := packS_length m.bits
  have hpb : bytesN m.bits.length ≤ 600 := by unfold bytesN; omega
  unfold lay rlay counted
  refine ⟨?_, ?_⟩
  all_goals (repeat' split) <;> simp only [putL_length, List.length_append, List.length_cons, List.length_nil] <;> omega
theorem parse_c {dir code : Int} {l : List Int} (hs : l.length ≤ 1000000) (hb : isBytes l) (hc : 0 ≤ code ∧ code < 256) : ParseC 13 dir code l (parse dir code l) := fun A c W hr hc2 => parse_any hr hc2 hs hb hc
def write (dir : Int) (m : Msg) : List Int × Int := writeR m (lay dir m) (parse dir m.code (lay dir m))
theorem write_c {dir : Int} {m : Msg} (hd : m.data.length ≤ 1000) (hb : m.bits.length ≤ 4000) (hg : goodM m) : WriteC 17 dir m (write dir m) := write_of (lay_any (by omega) (by omega)) (parse_c (by have := (lay_len (dir := dir) hd hb).1; omega) (lay_bytes hg) (goodM_num hg).1.1)
theorem parse_ok {dir code : Int} {b : List Int} (h : (parse dir code b).2 = 0) : (dir = 0 ∨ dir = 1) ∧ (code = 1 ∨ code = 2 ∨ code = 5 ∨ code = 15) ∧ (bodyR dir code { zeroM with code := code } (cu b)).1.fin.e = 0 ∧ parse dir code b = ((bodyR dir code { zeroM with code := code } (cu b)).2, 0) := by
  unfold parse at h ⊢
  by_cases h1 : dir ≠ 0 ∧ dir ≠ 1
  · rw [if_pos h1] at h; exact absurd h (by decide)
  rw [if_neg h1] at h ⊢
  by_cases h2 : ¬ (code = 1 ∨ code = 2 ∨ code = 5 ∨ code = 15)
  · rw [if_pos h2] at h; exact absurd h (by decide)
  rw [if_neg h2] at h ⊢
  by_cases h3 : (bodyR dir code { zeroM with code := code } (cu b)).1.fin.e ≠ 0
  · rw [if_pos h3] at h; exact absurd h h3
  rw [if_neg h3]
  exact ⟨by omega, by omega, by simpa using h3, rfl⟩
theorem parse_of {dir code : Int} {b : List Int} (hd : dir = 0 ∨ dir = 1) (hc : code = 1 ∨ code = 2 ∨ code = 5 ∨ code = 15) (h : (bodyR dir code { zeroM with code := code } (cu b)).1.fin.e = 0) : parse dir code b = ((bodyR dir code { zeroM with code := code } (cu b)).2, 0) := by
  unfold parse
  rw [if_neg (by omega), if_neg (by omega), if_neg (by simpa using h)]
theorem writeR_ok {m : Msg} {l : List Int} {P : Msg × Int} (h : (writeR m l P).2 = 0) : P.2 = 0 ∧ P.1 = m ∧ writeR m l P = (l, 0) := by
  unfold writeR at h ⊢
  by_cases hc : P.2 = 0 ∧ sameB P.1 m = true
  · rw [if_pos hc]
    exact ⟨hc.1, (same_eq _ _).1 hc.2, rfl⟩
  · rw [if_neg hc] at h
    exact absurd h (by decide)
theorem writeR_no {m : Msg} {l : List Int} {P : Msg × Int} (h : (writeR m l P).2 ≠ 0) : writeR m l P = ([], 1) := by
  unfold writeR at h ⊢
  by_cases hc : P.2 = 0 ∧ sameB P.1 m = true
  · rw [if_pos hc] at h
    exact absurd rfl h
  · rw [if_neg hc]
theorem writeR_eq {m : Msg} {l : List Int} {P : Msg × Int} (h : P = (m, 0)) : writeR m l P = (l, 0) := by
  unfold writeR
  rw [h, if_pos ⟨rfl, same_refl m⟩]
end Go.Proofs.Ytggiobdjepgkfaa.Coil
end
section
namespace Go.Proofs.Ytggiobdjepgkfaa.Coil
open Go.RowKit Go.Proofs.Ytggiobdjepgkfaa.P Go.Proofs.Ytggiobdjepgkfaa.E Go.Proofs.Ytggiobdjepgkfaa.Cur Go.Proofs.Ytggiobdjepgkfaa.Cu Go.Proofs.Ytggiobdjepgkfaa.Same Go.Proofs.Ytggiobdjepgkfaa.Bits Go.Proofs.Ytggiobdjepgkfaa.Put Go.Proofs.Ytggiobdjepgkfaa.Com Go.Proofs.YtggiobdjepgkfaaW.PrintWords Go.Proofs.YtggiobdjepgkfaaW.PrintLast Go.Proofs.YtggiobdjepgkfaaW.PrintMore
def inB (most a k : Int) : Prop := 1 ≤ k ∧ k ≤ most ∧ k ≤ 65536 - a
theorem span_inv {most : Int} {m : Msg} {l : List Int} (hb : isBytes l) (h : (spanR most m (cu l)).1.e = 0) : ∃ a k t, l = putL [a, k] ++ t ∧ (0 ≤ a ∧ a < 65536) ∧ (0 ≤ k ∧ k < 65536) ∧ inB most a k ∧ spanR most m (cu l) = (cu t, { m with addr := a, count := k }) := by
  unfold spanR at h ⊢
  obtain ⟨a, b, t1, rfl, e1⟩ := word_inv (fun _ => (Cl.word.bind fun _ => (Cl.need _ _).bind fun _ => (Cl.need _ _).bind fun _ => Cl.ret _).dead) h
  rw [e1] at h ⊢
  obtain ⟨c, d, t2, rfl, e2⟩ := word_inv (fun _ => ((Cl.need _ _).bind fun _ => (Cl.need _ _).bind fun _ => Cl.ret _).dead) h
  rw [e2] at h ⊢
  obtain ⟨g1, e3⟩ := need_inv (by decide) (fun _ => ((Cl.need _ _).bind fun _ => Cl.ret _).dead) h
  rw [e3] at h ⊢
  obtain ⟨g2, e4⟩ := need_inv (by decide) (fun _ => Dd.ret _) h
  rw [e4] at h ⊢
  have ba := hb a (by simp)
  have bb := hb b (by simp)
  have bc := hb c (by simp)
  have bd := hb d (by simp)
  simp only [withinB, Bool.and_eq_true, decide_eq_true_eq] at g1 g2
  refine ⟨a * 256 + b, c * 256 + d, t2, ?_, by omega, by omega, ⟨g1.1, g1.2, g2.2⟩, rfl⟩
  show _ = _ :: _ :: _ :: _ :: t2
  rw [show (a * 256 + b) / 256 % 256 = a by omega, show (a * 256 + b) % 256 = b by omega, show (c * 256 + d) / 256 % 256 = c by omega, show (c * 256 + d) % 256 = d by omega]
theorem span_run {most a k : Int} {m : Msg} {t : List Int} (ha : 0 ≤ a ∧ a < 65536) (hk : 0 ≤ k ∧ k < 65536) (h : inB most a k) : spanR most m (cu (putL [a, k] ++ t)) = (cu t, { m with addr := a, count := k }) := by
  unfold spanR
  show Rd.bind Rd.word _ (cu (a / 256 % 256 :: a % 256 :: (k / 256 % 256 :: k % 256 :: t))) = _
  obtain ⟨h1, h2, h3⟩ := h
  rw [word_run _ ha, word_run _ hk, need_run _ (by simp [h1, h2]), need_run _ (by simp [withinB, h3]; omega)]
  rfl
theorem told_inv {m : Msg} {l : List Int} (hb : isBytes l) (h : (toldR m (cu l)).1.e = 0) : ∃ d t, l = counted d ++ t ∧ 1 ≤ d.length ∧ d.length ≤ 250 ∧ toldR m (cu l) = (cu t, { m with data := d }) := by
  unfold toldR at h ⊢
  obtain ⟨n, t1, rfl, e1⟩ := byte_inv (fun _ => ((Cl.need _ _).bind fun _ => (Cl.bytes _).bind fun _ => Cl.ret _).dead) h
  rw [e1] at h ⊢
  obtain ⟨g1, e2⟩ := need_inv (by decide) (fun _ => ((Cl.bytes _).bind fun _ => Cl.ret _).dead) h
  rw [e2] at h ⊢
  obtain ⟨h0, h1, e3⟩ := bytes_inv (fun _ => Dd.ret _) h
  rw [e3]
  simp only [Bool.and_eq_true, decide_eq_true_eq] at g1
  have hl : (t1.take n.toNat).length = n.toNat := by rw [List.length_take]; omega
  refine ⟨t1.take n.toNat, t1.drop n.toNat, ?_, by omega, by omega, rfl⟩
  unfold counted
  rw [List.cons_append, List.take_append_drop, hl, show ((n.toNat : Nat) : Int) % 256 = n by omega]
theorem told_run {m : Msg} {d t : List Int} (h1 : 1 ≤ d.length) (h2 : d.length ≤ 250) : toldR m (cu (counted d ++ t)) = (cu t, { m with data := d }) := by
  unfold toldR counted
  rw [List.cons_append, byte_run, need_run _ (by simp; omega), bytes_run _ d t (by omega)]
  rfl
theorem manyK_run {m : Msg} {d : List Bool} {t : List Int} (hm : m.count = (d.length : Int)) (hl : d.length ≤ 1968) : manyK m (cu (counted (packS d) ++ t)) = (cu t, { m with bits := d }) := by
  have hp := packS_length d
  have hc : bytesN d.length ≤ 246 := by unfold bytesN; omega
  unfold manyK counted
  rw [List.cons_append, byte_run, need_run _ ?_, bytes_run _ (packS d) t (by omega), hm, unpackR_packS, need_run _ rfl]
  · rfl
  · rw [hm, Int.toNat_natCast]
    simp only [beq_iff_eq]
    omega
def mkA (code a k : Int) : Msg := { zeroM with code := code, addr := a, count := k }
def mkB (a : Int) (l : List Bool) : Msg := { zeroM with code := 15, addr := a, count := (l.length : Int), bits := l }
def mkD (code : Int) (l : List Int) : Msg := { zeroM with code := code, data := l }
theorem write_run {dir : Int} {m : Msg} (hd : dir = 0 ∨ dir = 1) (hc : m.code = 1 ∨ m.code = 2 ∨ m.code = 5 ∨ m.code = 15) (h : bodyR dir m.code { zeroM with code := m.code } (cu (lay dir m)) = (cu [], m)) : write dir m = (lay dir m, 0) := by
  refine writeR_eq ?_
  rw [parse_of hd hc (by rw [h]; rfl), h]
theorem write_body {dir : Int} {m : Msg} (h : (write dir m).2 = 0) : (bodyR dir m.code { zeroM with code := m.code } (cu (lay dir m))).1.e = 0 ∧ (bodyR dir m.code { zeroM with code := m.code } (cu (lay dir m))).2 = m := by
  obtain ⟨h1, h2, _⟩ := writeR_ok h
  obtain ⟨_, _, h3, h4⟩ := parse_ok h1
  rw [h4] at h2
  exact ⟨(fin_ok h3).1, h2⟩
instance (most a k : Int) : Decidable (inB most a k) := by unfold inB; infer_instance
theorem ask_lay {code a k : Int} (hc : code = 1 ∨ code = 2) : lay 0 (mkA code a k) = putL [a, k] := by
  unfold lay mkA
  rw [if_neg (show ¬ code = 5 by omega), if_neg (show ¬ (code = 15 ∧ (0 : Int) = 0) by omega), if_neg (by omega)]
theorem put_inj {a k a' k' : Int} {t : List Int} (ha : 0 ≤ a ∧ a < 65536) (hk : 0 ≤ k ∧ k < 65536) (ha' : 0 ≤ a' ∧ a' < 65536) (hk' : 0 ≤ k' ∧ k' < 65536) (h : putL [a, k] ++ t = putL [a', k']) : a = a' ∧ k = k' ∧ t = [] := by
  simp only [putL, List.cons_append, List.nil_append, List.cons.injEq] at h
  obtain ⟨h1, h2, h3, h4, h5⟩ := h
  exact ⟨by omega, by omega, h5⟩
theorem ask_w {code a k : Int} (hc : code = 1 ∨ code = 2) (ha : 0 ≤ a ∧ a < 65536) (hk : 0 ≤ k ∧ k < 65536) : write 0 (mkA code a k) = if inB 2000 a k then (putL [a, k], 0) else ([], 1) := by
  split
  · rename_i h
    rw [← ask_lay hc]
    refine write_run (.inl rfl) (show code = 1 ∨ code = 2 ∨ code = 5 ∨ code = 15 by omega) ?_
    rw [ask_lay hc]
    show bodyR 0 code { zeroM with code := code } _ = _
    unfold bodyR
    rw [if_pos hc, if_pos rfl, ← List.append_nil (putL [a, k]), span_run ha hk h]
    rfl
  · rename_i h
    refine writeR_no fun h0 => h ?_
    have h1 := (write_body h0).1
    rw [ask_lay hc] at h1
    have h1 : (bodyR 0 code { zeroM with code := code } (cu (putL [a, k]))).1.e = 0 := h1
    unfold bodyR at h1
    rw [if_pos hc, if_pos rfl] at h1
    obtain ⟨a', k', t, e, q1, q2, q3, _⟩ := span_inv (putL_bytes _) h1
    obtain ⟨rfl, rfl, rfl⟩ := put_inj q1 q2 ha hk e.symm
    exact q3
theorem did_lay {a k : Int} : lay 1 (mkA 15 a k) = putL [a, k] := by
  unfold lay mkA
  rw [if_neg (show ¬ (15 : Int) = 5 by omega), if_neg (show ¬ ((15 : Int) = 15 ∧ (1 : Int) = 0) by omega), if_neg (show ¬ ((1 : Int) = 1 ∧ (15 : Int) ≠ 15) by omega)]
theorem set_lay {a : Int} {l : List Bool} : lay 0 (mkB a l) = putL [a, (l.length : Int)] ++ counted (packS l) := by
  unfold lay mkB
  rw [if_neg (show ¬ (15 : Int) = 5 by omega), if_pos ⟨rfl, rfl⟩]
theorem set_w {a : Int} {l : List Bool} (ha : 0 ≤ a ∧ a < 65536) (h1 : 1 ≤ l.length) (h2 : l.length ≤ 1968) (h3 : a + l.length ≤ 65536) : write 0 (mkB a l) = (putL [a, (l.length : Int)] ++ counted (packS l), 0) := by
  rw [← set_lay]
  refine write_run (.inl rfl) (show (15 : Int) = 1 ∨ (15 : Int) = 2 ∨ (15 : Int) = 5 ∨ (15 : Int) = 15 by omega) ?_
  rw [set_lay]
  show bodyR 0 15 { zeroM with code := 15 } _ = _
  unfold bodyR
  rw [if_neg (by decide), if_neg (by decide), if_pos rfl]
  unfold manyR
  show manyK (spanR 1968 _ _).2 (spanR 1968 _ _).1 = _
  rw [span_run ha (by omega) ⟨by omega, by omega, by omega⟩, ← List.append_nil (counted (packS l)), manyK_run rfl h2]
  rfl
theorem tell_lay {code : Int} {l : List Int} (hc : code = 1 ∨ code = 2) : lay 1 (mkD code l) = counted l := by
  unfold lay mkD
  rw [if_neg (show ¬ code = 5 by omega), if_neg (show ¬ (code = 15 ∧ (1 : Int) = 0) by omega), if_pos (show (1 : Int) = 1 ∧ code ≠ 15 from ⟨rfl, by omega⟩)]
theorem tell_w {code : Int} {l : List Int} (hc : code = 1 ∨ code = 2) (hb : isBytes l) (hl : l.length ≤ 400) : write 1 (mkD code l) = if 1 ≤ l.length ∧ l.length ≤ 250 then (counted l, 0) else ([], 1) := by
  split
  · rename_i h
    rw [← tell_lay hc]
    refine write_run (.inr rfl) (show code = 1 ∨ code = 2 ∨ code = 5 ∨ code = 15 by omega) ?_
    rw [tell_lay hc]
    show bodyR 1 code { zeroM with code := code } _ = _
    unfold bodyR
    rw [if_pos hc, if_neg (by decide), ← List.append_nil (counted l), told_run h.1 h.2]
    rfl
  · rename_i h
    refine writeR_no fun h0 => h ?_
    obtain ⟨h1, h2⟩ := write_body h0
    rw [tell_lay hc] at h1 h2
    have h1 : (bodyR 1 code { zeroM with code := code } (cu (counted l))).1.e = 0 := h1
    have h2 : (bodyR 1 code { zeroM with code := code } (cu (counted l))).2 = mkD code l := h2
    unfold bodyR at h1 h2
    rw [if_pos hc, if_neg (by decide)] at h1 h2
    obtain ⟨d, t, e, q1, q2, q3⟩ := told_inv (counted_bytes hb) h1
    rw [q3] at h2
    have h2 : d = l := congrArg (fun m : Msg => m.data) h2
    subst h2
    exact ⟨q1, q2⟩
end Go.Proofs.Ytggiobdjepgkfaa.Coil
end
section
namespace Go.Proofs.Ytggiobdjepgkfaa.Coil
open Go.RowKit Go.Proofs.Ytggiobdjepgkfaa.P Go.Proofs.Ytggiobdjepgkfaa.E Go.Proofs.Ytggiobdjepgkfaa.Cur Go.Proofs.Ytggiobdjepgkfaa.Cu Go.Proofs.Ytggiobdjepgkfaa.Same Go.Proofs.Ytggiobdjepgkfaa.Bits Go.Proofs.Ytggiobdjepgkfaa.Put Go.Proofs.Ytggiobdjepgkfaa.Com Go.Proofs.Ytggiobdjepgkfaa.Coil Go.Proofs.YtggiobdjepgkfaaW.PrintWords Go.Proofs.YtggiobdjepgkfaaW.PrintLast Go.Proofs.YtggiobdjepgkfaaW.PrintMore
theorem mkD_is {code : Int} {l : List Int} {A : Option Addr} {n : Nat} {W : World} (hc : 0 ≤ code ∧ code < 256) (hb : isBytes l) (hr : Kd.C (Kd.int .u8) W A l.length l) (hn : l.length ≤ n) : IsMsg W ((zeroC.setIfInBounds 0 (.int .u8 code)).setIfInBounds 14 (.slice A l.length n)) (mkD code l) := set_data (set_code (zero_is W) hc) hn hb hr
theorem mkB_is {a : Int} {l : List Bool} {A : Option Addr} {n : Nat} {W : World} (ha : 0 ≤ a ∧ a < 65536) (hl : l.length < 65536) (hr : Kd.C Kd.bool W A l.length l) (hn : l.length ≤ n) : IsMsg W ((((zeroC.setIfInBounds 0 (.int .u8 15)).setIfInBounds 2 (.int .u16 a)).setIfInBounds 3 (.int .u16 (l.length : Int))).setIfInBounds 13 (.slice A l.length n)) (mkB a l) := set_bits (set_count (set_addr (set_code (zero_is W) (v := 15) (by decide)) ha) (v := (l.length : Int)) (by omega)) hn hr
theorem mkD_good {code : Int} {l : List Int} (hc : 0 ≤ code ∧ code < 256) (hb : isBytes l) : goodM (mkD code l) := good_data (good_code zero_good hc) hb
theorem mkD_c {dir code : Int} {l : List Int} (hc : 0 ≤ code ∧ code < 256) (hb : isBytes l) (hl : l.length ≤ 1000) {R : List Int × Int} (h : write dir (mkD code l) = R) : WriteC 17 dir (mkD code l) R := by
  rw [← h]
  exact write_c hl (Nat.zero_le _) (mkD_good hc hb)
theorem mkB_c {dir a : Int} {l : List Bool} (ha : 0 ≤ a ∧ a < 65536) (hl : l.length ≤ 4000) {R : List Int × Int} (h : write dir (mkB a l) = R) : WriteC 17 dir (mkB a l) R := by
  rw [← h]
  exact write_c (Nat.zero_le _) hl (show goodM (mkB a l) from good_count (good_addr (good_code zero_good (v := 15) (by decide)) ha) (v := (l.length : Int)) (by omega))
theorem ex1 : parse 0 1 [0, 19, 0, 19] = (mkA 1 19 19, 0) := by
  have h := ask_w (code := 1) (a := 19) (k := 19) (.inl rfl) (by decide) (by decide)
  rw [if_pos (by unfold inB; decide)] at h
  obtain ⟨h1, h2, _⟩ := writeR_ok (show (write 0 (mkA 1 19 19)).2 = 0 by rw [h])
  rw [ask_lay (.inl rfl)] at h1 h2
  exact Prod.ext h2 h1
def b10 : List Bool := [true, false, true, true, false, false, true, true, true, false]
theorem ex2 : parse 0 15 [0, 19, 0, 10, 2, 205, 1] = (mkB 19 b10, 0) := by
  have h := set_w (a := 19) (l := b10) (by decide) (by decide) (by decide) (by decide)
  obtain ⟨h1, h2, _⟩ := writeR_ok (show (write 0 (mkB 19 b10)).2 = 0 by rw [h])
  rw [set_lay] at h1 h2
  exact Prod.ext h2 h1
theorem bytes_dec (l : List Int) (h : l.all (fun x => decide (0 ≤ x) && decide (x < 256)) = true) : isBytes l := fun x hx => by
  have := List.all_eq_true.1 h x hx
  simpa using this
theorem ex3 : write 1 (mkD 1 [205, 107, 5]) = ([3, 205, 107, 5], 0) := by
  have h := tell_w (code := 1) (l := [205, 107, 5]) (.inl rfl) (bytes_dec _ (by decide)) (by decide)
  rw [if_pos (by decide)] at h
  exact h
end Go.Proofs.Ytggiobdjepgkfaa.Coil
end
section
namespace Go.Proofs.Ytggiobdjepgkfaa.Laws
open Go.RowKit Go.Proofs.Ytggiobdjepgkfaa.P Go.Proofs.Ytggiobdjepgkfaa.E Go.Proofs.Ytggiobdjepgkfaa.Cur Go.Proofs.Ytggiobdjepgkfaa.Cu Go.Proofs.Ytggiobdjepgkfaa.Same Go.Proofs.Ytggiobdjepgkfaa.Bits Go.Proofs.Ytggiobdjepgkfaa.Put Go.Proofs.Ytggiobdjepgkfaa.Com Go.Proofs.Ytggiobdjepgkfaa.Coil Go.Proofs.YtggiobdjepgkfaaW.PrintWords Go.Proofs.YtggiobdjepgkfaaW.PrintLast Go.Proofs.YtggiobdjepgkfaaW.PrintMore
theorem awake_any (w : World) :
    Calls Try.prog 12 #[] w fun e w' => e = .returned (.bool true) ∧ Below w.heap.size w w' := by
  have H1 := Aside0.mk (show ParseC 13 0 1 [0, 19, 0, 19] (mkA 1 19 19, 0) from by rw [← ex1]; exact parse_c (by decide) (bytes_dec _ (by decide)) (by decide))
  have H2 := Aside0.mk (show ParseC 13 0 15 [0, 19, 0, 10, 2, 205, 1] (mkB 19 b10, 0) from by rw [← ex2]; exact parse_c (by decide) (bytes_dec _ (by decide)) (by decide))
  have H3 := Aside0.mk (show WriteC 17 1 (mkD 1 [205, 107, 5]) ([3, 205, 107, 5], 0) from mkD_c (by decide) (bytes_dec _ (by decide)) (by decide) ex3)
  have HB3 := Aside0.mk (bytes_dec [205, 107, 5] (by decide))
  have H := Aside0.mk (Hd.start w)
  go_enter Try.func12, Try.ntmps12
  go_upto_region 2 with (first | ((with_reducible refine gate_dst (N := 8) rfl ?_); (try (refine gate_guard (by rfl) ?_; dsimp only)); refine ev_lit .u8 [0, 19, 0, 19] 5 rfl (by first | (go_simp; done) | (go_simp; rfl)) (by simp) ?_; intro Aa ca wl ba he_ hr_ hz_ hb_; have Za := Aside0.mk hz_; have Ea := Aside0.mk he_; have n0_ := Aside0.mk ((H.out.on hb_).add (sta_C _ _ _ _) (hr_)); clear H; have H := n0_; clear n0_; clear hr_ hz_ hb_ he_) | (go_at_call 13; (with_reducible refine (ParseC.c (ParseC.ex H1.out Ea.out) H.out.f.2 Za.out).mono ?_); rintro en wm ⟨cm, rfl, hm_, hb_⟩; have n0_ := Aside0.mk ((H.out.on hb_).add (sta_msg _ _) (hm_)); clear H; have H := n0_; clear n0_; clear hb_ hm_) | ((with_reducible refine gate_dst (N := 1) rfl ?_); refine ev_var (y := .tmp 10) rfl rfl rfl rfl rfl H.out.f.2 rfl rfl ?_; intro gm wv hg_ h1_ hb_; have n0_ := Aside0.mk ((H.out.on hb_).add (sta_blk _ _) (h1_)); clear H; have H := n0_; clear n0_; clear h1_ hb_ hg_))
  go_upto_region 3 with (first | ((with_reducible refine gate_dst (N := 13) rfl ?_); (try (refine gate_guard (by rfl) ?_; dsimp only)); refine ev_lit .u8 [0, 19, 0, 10, 2, 205, 1] 5 rfl (by first | (go_simp; done) | (go_simp; rfl)) (by simp) ?_; intro Ab cb wlb bb he_ hr_ hz_ hb_; have Zb := Aside0.mk hz_; have Eb := Aside0.mk he_; have n0_ := Aside0.mk ((H.out.on hb_).add (sta_C _ _ _ _) (hr_)); clear H; have H := n0_; clear n0_; clear hr_ hz_ hb_ he_) | (go_at_call 13; (with_reducible refine (ParseC.c (ParseC.ex H2.out Eb.out) H.out.f.2 Zb.out).mono ?_); rintro en wx ⟨cx, rfl, hm_, hb_⟩; have n0_ := Aside0.mk ((H.out.on hb_).add (sta_msg _ _) (hm_)); clear H; have H := n0_; clear n0_; clear hb_ hm_) | ((with_reducible refine gate_dst (N := 3) rfl ?_); refine ev_var (y := .tmp 15) rfl rfl rfl rfl rfl H.out.f.2 rfl rfl ?_; intro gx wxx hg_ h1_ hb_; have n0_ := Aside0.mk ((H.out.on hb_).add (sta_blk _ _) (h1_)); clear H; have H := n0_; clear n0_; clear h1_ hb_ hg_))
  go_upto_region 4 with (first | ((with_reducible refine gate_dst (N := 18) rfl ?_); (try (refine gate_guard (by rfl) ?_; dsimp only)); refine ev_lit .u8 [205, 107, 5] 5 rfl (by first | (go_simp; done) | (go_simp; rfl)) (by simp) ?_; intro Ad cd wld bd he_ hr_ hz_ hb_; have Zd := Aside0.mk hz_; have Ed := Aside0.mk he_; have n0_ := Aside0.mk ((H.out.on hb_).add (sta_C _ _ _ _) (hr_)); clear H; have H := n0_; clear n0_; clear hr_ hz_ hb_ he_) | ((with_reducible refine gate_dst (N := 19) rfl ?_); (try (refine gate_guard (by rfl) ?_; dsimp only)); refine ev_build ((zeroC.setIfInBounds 0 (.int .u8 1)).setIfInBounds 14 (.slice Ad bd.length cd)) rfl (by first | (go_simp; done) | (go_simp; rfl)) ?_; intro cz hcx_; have mx_ := (show IsMsg _ ((zeroC.setIfInBounds 0 (.int .u8 1)).setIfInBounds 14 (.slice Ad bd.length cd)) (mkD 1 bd) from mkD_is (by decide) (by rw [Ed.out]; exact HB3.out) H.out.f.2 Zd.out); rw [← hcx_] at mx_; have n0_ := Aside0.mk ((H.out).add (sta_msg _ _) (mx_)); clear H; have H := n0_; clear n0_; clear hcx_ mx_) | (go_at_call 17; (with_reducible refine (WriteC.n (show WriteC 17 1 (mkD 1 bd) ([3, 205, 107, 5], 0) from by rw [Ed.out]; exact H3.out) (n := 4) rfl H.out.f.2).mono ?_); rintro en ww ⟨Aw, cw, rfl, hz_, hr_, hb_⟩; have n0_ := Aside0.mk ((H.out.on hb_).add (sta_C _ _ _ _) (hr_)); clear H; have H := n0_; clear n0_; have Zw := Aside0.mk hz_; clear hb_ hr_ hz_))
  obtain ⟨A12, c12, A13, c13, A14, c14, A15, c15, A21, c21, ⟨_, l13, _, _, _⟩, _, _, _, _, _⟩ := IsMsg.lists H.out.f.1.1.1.1.2
  have k13 : ww.cell? ⟨gx, 13, none⟩ = some (.slice A13 10 c13) := (blk_cell H.out.f.1.1.1.2 13).trans l13
  have kaddr : ww.cell? ⟨gm, 2, none⟩ = some (.int .u16 19) := bx_addr H.out.f.1.1.1.1.1.1.2 H.out.f.1.1.1.1.1.1.1.2
  have kcount : ww.cell? ⟨gm, 3, none⟩ = some (.int .u16 19) := bx_count H.out.f.1.1.1.1.1.1.2 H.out.f.1.1.1.1.1.1.1.2
  have hcv := Kd.C_string (P := Try.prog) (A := Aw) (c := cw) Try.underlying22 Try.underlying5 Try.underlying9 H.out.f.2
  have hs : ((strOfNums [3, 205, 107, 5]).toList == [3, 205, 107, 5]) = true := by rw [str_list]; rfl
  clear l13
  go_wp2
  go_ret
  exact ⟨by first | rfl | (simp; done) | decide, H.out.b⟩
theorem u16_wf {n : Int} (h : (Lit.int .u16 n).wf = true) : 0 ≤ n ∧ n < 65536 := by
  simp only [Lit.wf, IntKind.min, IntKind.max, IntKind.signed, IntKind.bits, Bool.and_eq_true, decide_eq_true_eq] at h
  simp at h
  omega
end Go.Proofs.Ytggiobdjepgkfaa.Laws
end
section
namespace Go.Proofs.Ytggiobdjepgkfaa.Open
open Go.RowKit Go.ChangeShapes Go.WideShapes Go.Deep Go.Proofs.YtggiobdjepgkfaaW.PrintWords
def Opens {H : Type} (enc : TypeId × Value → H) (P : Program) (w : World) (base : Nat) (held : Bool) (t : TypeId) {α : Type} (d : Kd α) (good : α → Prop) : Prop :=
  ∀ fuel cs x, DataW.trod enc P w base (fun _ => true) held fuel t cs = some x → ∃ y, d.K w y cs ∧ good y
section
variable {H : Type} {enc : TypeId × Value → H} {P : Program} {w : World} {base : Nat} {held : Bool} {α : Type}
theorem opens_int {t : TypeId} {k : IntKind} (ht : P.underlying t = some (.int k)) : Opens enc P w base held t (Kd.int k) (fun n => (Lit.int k n).wf = true) := by
  intro fuel cs x h
  obtain ⟨n, rfl, _, hw⟩ := DataW.trod_int ht h
  exact ⟨n, rfl, hw⟩
theorem opens_bool {t : TypeId} (ht : P.underlying t = some .bool) : Opens enc P w base held t Kd.bool (fun _ => True) := by
  intro fuel cs x h
  obtain ⟨b, rfl, _⟩ := DataW.trod_bool ht h
  exact ⟨b, rfl, trivial⟩
theorem opens_slice {t e : TypeId} {d : Kd α} {g : α → Prop} (ht : P.underlying t = some (.slice e)) (hc : P.cellsOf e = d.sz) (h : Opens enc P w base held e d g) :
    Opens enc P w base held t (Kd.slice e d) (fun l => l.length ≤ maxLen ∧ ∀ x ∈ l, g x) := by
  intro fuel cs x hx
  rcases open_slice ht hx with ⟨rfl, _⟩ | ⟨a, len, cap, m, n, D, Pl, rfl, _, hl, hm, hmm, _, hel⟩
  · exact ⟨[], ⟨none, 0, rfl, Nat.le_refl _, Kd.C_nil d w⟩, Nat.zero_le _, fun x hx => by cases hx⟩
  · simp only [if_true] at hmm
    subst hmm
    have hone : ∀ i : Fin len, ∃ y, (∃ c, c.length = d.sz ∧ d.K w y c ∧ ∀ j u, c[j]? = some u → w.cell? (a.add (i.val * d.sz + j)) = some u) ∧ g y := by
      intro i
      obtain ⟨cs', h1, h2⟩ := hel i.val (Nat.lt_of_lt_of_le i.isLt hl)
      obtain ⟨y, hk, hg⟩ := h n cs' _ h2
      rw [hc] at h1
      obtain ⟨_, h4, h5⟩ := World.cells?_some h1
      refine ⟨y, ⟨cs', h4, hk, fun j u hu => ?_⟩, hg⟩
      have hj : j < d.sz := by rw [← h4]; exact (List.getElem?_eq_some_iff.1 hu).1
      have := h5 j hj
      rw [hu] at this
      rw [← Addr.add_add]
      exact this
    let ys := List.ofFn fun i => Classical.choose (hone i)
    have hy : ys.length = len := by simp [ys]
    refine ⟨ys, ⟨some a, m, by rw [hy], by rw [hy]; exact hl, ?_⟩, by rw [hy]; exact Nat.le_trans hl hm, ?_⟩
    · refine ⟨rfl, by rw [hy]; exact Nat.le_trans hl hm, fun _ => ⟨a, rfl, fun j p hp => ?_⟩⟩
      have hj : j < len := by rw [← hy]; exact (List.getElem?_eq_some_iff.1 hp).1
      have : p = Classical.choose (hone ⟨j, hj⟩) := by
        simp only [ys, List.getElem?_ofFn, hj, dite_true] at hp
        exact (Option.some.inj hp).symm
      subst this
      exact (Classical.choose_spec (hone ⟨j, hj⟩)).1
    · intro x hx
      simp only [ys, List.mem_ofFn] at hx
      obtain ⟨i, rfl⟩ := hx
      exact (Classical.choose_spec (hone i)).2
theorem opens_at {fs : Array Field} {cs : List Value} {xs : List (DataW H × List MemPlace)} {n : Nat} {d : Kd α} {g : α → Prop}
    (hf : ∀ (i : Nat) (f : Field), fs[i]? = some f → DataW.trod enc P w base (fun _ => true) held n f.type ((cs.drop f.offset).take (P.cellsOf f.type)) = xs[i]?) (hlen : xs.length = fs.size)
    (hone : oneCellFields P fs = true) (i : Nat) (f : Field) (hi : fs[i]? = some f) (c : Value) (hc : cs[i]? = some c) (H1 : Opens enc P w base held f.type d g) : ∃ y, d.K w y [c] ∧ g y := by
  obtain ⟨o1, k1⟩ := hone_of hone i f hi
  have h := hf i f hi
  have hlt : i < xs.length := by rw [hlen]; exact (Array.getElem?_eq_some_iff.1 hi).1
  rw [o1, k1, List.getElem?_eq_getElem hlt] at h
  have hci := (List.getElem?_eq_some_iff.1 hc).1
  have hs : (cs.drop i).take 1 = [c] := by
    rw [List.drop_eq_getElem_cons hci, List.take_succ_cons, List.take_zero, (List.getElem?_eq_some_iff.1 hc).2]
  rw [hs] at h
  exact H1 n [c] _ h
theorem open_slice_arg {t e : TypeId} {d : Kd α} {g : α → Prop} {a : Option Addr} {len cap : Nat} {x : DataW H} {p : List MemPlace} (h : DataW.Trod enc P w base (fun _ => true) held t (.slice a len cap) x p)
    (H1 : Opens enc P w base held t (Kd.slice e d) (fun l => l.length ≤ maxLen ∧ ∀ x ∈ l, g x)) : ∃ l, len = l.length ∧ d.C w a l.length l ∧ l.length ≤ cap ∧ l.length ≤ maxLen ∧ ∀ x ∈ l, g x := by
  obtain ⟨fuel, hf⟩ := h
  obtain ⟨l, ⟨A, c, he, hl, hC⟩, h1, h2⟩ := H1 fuel _ _ hf
  simp [Value.cells] at he
  obtain ⟨rfl, rfl, rfl⟩ := he
  exact ⟨l, rfl, hC, hl, h1, h2⟩
end
end Go.Proofs.Ytggiobdjepgkfaa.Open
end
