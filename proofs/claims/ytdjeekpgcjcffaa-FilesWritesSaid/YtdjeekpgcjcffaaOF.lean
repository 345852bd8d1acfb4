/- What the laws of this chapter rest on, part 6: what the functions that they reach answer, each shown once. Conditions: what each theorem states. (Merged by a program of this session, wip/tools/merge.py, out of its own texts and of the words that the kit's print wrote for this seat, cut to those that are used.) -/
import Derived.Deep.Slices
import Derived.Deep.Fields
import Derived.ChangeArms
import Derived.Test.YtdjeekpgcjcffaaOE
set_option linter.unusedVariables false
set_option linter.unusedSimpArgs false
set_option maxHeartbeats 16000000
set_option maxRecDepth 100000
section
namespace Go.Proofs.Ytdjeekpgcjcffaa.P
open Go.RowKit Go.Proofs.YtdjeekpgcjcffaaW.PrintWords Go.Proofs.YtdjeekpgcjcffaaW.PrintLast Go.Proofs.YtdjeekpgcjcffaaW.PrintMore
attribute [local go_sem] max2_int min2_int max_two min_two max_three min_three max_four min_four   -- for this text's walks alone
mutual
def busbarref11_bytes.l0 : Nat → Int → List Int → Int → Int → Int → Int → Int → Int → Int → Int → Int → Int → Int → Int → Int → List Int → List Bool → List Int → List (S43) → Int → Int → Int → Int → Int → List (S69) → Option (List Int)
  | 0, _, _, _, _, _, _, _, _, _, _, _, _, _, _, _, _, _, _, _, _, _, _, _, _, _ => none
  | k + 1, x0, x5, x6, x232000, x232001, x232002, x232003, x232004, x232005, x232006, x232007, x232008, x232009, x232010, x232011, x232012, x232013, x232014, x232015, x232016, x232017, x232018, x232019, x232020, x232021 => if x6 < (x232015.length : Int) then (if 0 ≤ x6 then (if x232000 = 20 then (busbarref11_bytes.j1 k x0 x5 x6 (x0 == 1) x232000 x232001 x232002 x232003 x232004 x232005 x232006 x232007 x232008 x232009 x232010 x232011 x232012 x232013 x232014 x232015 x232016 x232017 x232018 x232019 x232020 x232021 ((rd_T43 x232015 x6).f0) ((rd_T43 x232015 x6).f1) ((rd_T43 x232015 x6).f2) ((rd_T43 x232015 x6).f3)) else (busbarref11_bytes.j1 k x0 x5 x6 false x232000 x232001 x232002 x232003 x232004 x232005 x232006 x232007 x232008 x232009 x232010 x232011 x232012 x232013 x232014 x232015 x232016 x232017 x232018 x232019 x232020 x232021 ((rd_T43 x232015 x6).f0) ((rd_T43 x232015 x6).f1) ((rd_T43 x232015 x6).f2) ((rd_T43 x232015 x6).f3))) else (none)) else ((some (([((x5.length : Int)) % 256] : List Int) : List Int)).bind fun y232 => (if y232.length + x5.length < 140737488355328 then (some (y232 ++ x5)) else (none)))
def busbarref11_bytes.j1 : Nat → Int → List Int → Int → Bool → Int → Int → Int → Int → Int → Int → Int → Int → Int → Int → Int → Int → List Int → List Bool → List Int → List (S43) → Int → Int → Int → Int → Int → List (S69) → Int → Int → Int → List Int → Option (List Int)
  | 0, _, _, _, _, _, _, _, _, _, _, _, _, _, _, _, _, _, _, _, _, _, _, _, _, _, _, _, _, _, _ => none
  | k + 1, x0, x5, x6, x26, x232000, x232001, x232002, x232003, x232004, x232005, x232006, x232007, x232008, x232009, x232010, x232011, x232012, x232013, x232014, x232015, x232016, x232017, x232018, x232019, x232020, x232021, x240000, x240001, x240002, x240003 => if x26 = true then ((some (([(wrap64 ((wrap64 (2 * (x240003.length : Int))) + 1)) % 256, 6] : List Int) : List Int)).bind fun y240 => (if x5.length + y240.length < 140737488355328 then ((some (x5 ++ y240 : List Int)).bind fun y243 => ((busbarref04_Put.f k x240003).bind fun t246 => (if y243.length + t246.length < 140737488355328 then (busbarref11_bytes.l0 k x0 (y243 ++ t246) (wrap64 (x6 + 1)) x232000 x232001 x232002 x232003 x232004 x232005 x232006 x232007 x232008 x232009 x232010 x232011 x232012 x232013 x232014 x232015 x232016 x232017 x232018 x232019 x232020 x232021) else (none)))) else (none))) else (if x5.length < 140737488355328 then ((some (x5 ++ [6] : List Int)).bind fun y252 => ((busbarref04_Put.f k (([x240000, x240001, x240002] : List Int))).bind fun t258 => (if y252.length + t258.length < 140737488355328 then ((some (y252 ++ t258 : List Int)).bind fun y261 => ((busbarref04_Put.f k x240003).bind fun t264 => (if y261.length + t264.length < 140737488355328 then (busbarref11_bytes.l0 k x0 (y261 ++ t264) (wrap64 (x6 + 1)) x232000 x232001 x232002 x232003 x232004 x232005 x232006 x232007 x232008 x232009 x232010 x232011 x232012 x232013 x232014 x232015 x232016 x232017 x232018 x232019 x232020 x232021) else (none)))) else (none)))) else (none))
end
def busbarref11_bytes.f (k : Nat) (a0 : Int) (a1_0 : Int) (a1_1 : Int) (a1_2 : Int) (a1_3 : Int) (a1_4 : Int) (a1_5 : Int) (a1_6 : Int) (a1_7 : Int) (a1_8 : Int) (a1_9 : Int) (a1_10 : Int) (a1_11 : Int) (l1_12 : List Int) (l1_13 : List Bool) (l1_14 : List Int) (l1_15 : List (S43)) (a1_16 : Int) (a1_17 : Int) (a1_18 : Int) (a1_19 : Int) (a1_20 : Int) (l1_21 : List (S69)) : Option (List Int) := busbarref11_bytes.l0 k a0 ([] : List Int) 0 a1_0 a1_1 a1_2 a1_3 a1_4 a1_5 a1_6 a1_7 a1_8 a1_9 a1_10 a1_11 l1_12 l1_13 l1_14 l1_15 a1_16 a1_17 a1_18 a1_19 a1_20 l1_21
theorem busbarref11_bytes.calls (k : Nat) (a0 : Int) (a1_0 : Int) (a1_1 : Int) (a1_2 : Int) (a1_3 : Int) (a1_4 : Int) (a1_5 : Int) (a1_6 : Int) (a1_7 : Int) (a1_8 : Int) (a1_9 : Int) (a1_10 : Int) (a1_11 : Int) (A1_12 : Option Addr) (c1_12 : Nat) (l1_12 : List Int) (A1_13 : Option Addr) (c1_13 : Nat) (l1_13 : List Bool) (A1_14 : Option Addr) (c1_14 : Nat) (l1_14 : List Int) (A1_15 : Option Addr) (c1_15 : Nat) (l1_15 : List (S43)) (a1_16 : Int) (a1_17 : Int) (a1_18 : Int) (a1_19 : Int) (a1_20 : Int) (A1_21 : Option Addr) (c1_21 : Nat) (l1_21 : List (S69)) (r : List Int) (w : World) (hr1_12 : Kd.C (Kd.int .u16) w A1_12 l1_12.length l1_12) (hc1_12 : l1_12.length ≤ c1_12) (hr1_13 : Kd.C Kd.bool w A1_13 l1_13.length l1_13) (hc1_13 : l1_13.length ≤ c1_13) (hr1_14 : Kd.C (Kd.int .u8) w A1_14 l1_14.length l1_14) (hc1_14 : l1_14.length ≤ c1_14) (hr1_15 : Kd.C k43 w A1_15 l1_15.length l1_15) (hc1_15 : l1_15.length ≤ c1_15) (hr1_21 : Kd.C k69 w A1_21 l1_21.length l1_21) (hc1_21 : l1_21.length ≤ c1_21) (h : busbarref11_bytes.f k a0 a1_0 a1_1 a1_2 a1_3 a1_4 a1_5 a1_6 a1_7 a1_8 a1_9 a1_10 a1_11 l1_12 l1_13 l1_14 l1_15 a1_16 a1_17 a1_18 a1_19 a1_20 l1_21 = some r) :
    Calls Try.prog 33 #[.int .i64 a0, .agg #[.int .u8 a1_0, .int .u8 a1_1, .int .u16 a1_2, .int .u16 a1_3, .int .u16 a1_4, .int .u16 a1_5, .int .u16 a1_6, .int .u16 a1_7, .int .u16 a1_8, .int .u16 a1_9, .int .u16 a1_10, .int .u16 a1_11, .slice A1_12 l1_12.length c1_12, .slice A1_13 l1_13.length c1_13, .slice A1_14 l1_14.length c1_14, .slice A1_15 l1_15.length c1_15, .int .u8 a1_16, .int .u8 a1_17, .int .u8 a1_18, .int .u8 a1_19, .int .u8 a1_20, .slice A1_21 l1_21.length c1_21]] w fun e w' => ∃ v0_ : Value, e = .returned (v0_) ∧ Kd.R (Kd.int .u8) 5 w' w.heap.size (fun _ => True) v0_ r ∧ Below w.heap.size w w' := by
  have hu30 := Try.underlying30
  have hu43 := Try.underlying43
  have HR1_12 := Aside0.mk hr1_12
  have HC1_12 := Aside0.mk hc1_12
  clear hr1_12 hc1_12
  have HR1_13 := Aside0.mk hr1_13
  have HC1_13 := Aside0.mk hc1_13
  clear hr1_13 hc1_13
  have HR1_14 := Aside0.mk hr1_14
  have HC1_14 := Aside0.mk hc1_14
  clear hr1_14 hc1_14
  have HR1_15 := Aside0.mk hr1_15
  have HC1_15 := Aside0.mk hc1_15
  clear hr1_15 hc1_15
  have HR1_21 := Aside0.mk hr1_21
  have HC1_21 := Aside0.mk hc1_21
  clear hr1_21 hc1_21
  have HB := Aside0.mk (Below.refl w.heap.size w)
  have H : (busbarref11_bytes.l0 k a0 ([] : List Int) 0 a1_0 a1_1 a1_2 a1_3 a1_4 a1_5 a1_6 a1_7 a1_8 a1_9 a1_10 a1_11 l1_12 l1_13 l1_14 l1_15 a1_16 a1_17 a1_18 a1_19 a1_20 l1_21) = some r := h
  clear h
  have H' := Aside0.mk H
  clear H
  go_enter Try.func33, Try.ntmps33
  go_wp2_with (first | ((with_reducible refine gate_dst (N := 3) rfl ?_); refine box_event ?hg (N := 3) ?hd (cs := #[.int .u8 a1_0, .int .u8 a1_1, .int .u16 a1_2, .int .u16 a1_3, .int .u16 a1_4, .int .u16 a1_5, .int .u16 a1_6, .int .u16 a1_7, .int .u16 a1_8, .int .u16 a1_9, .int .u16 a1_10, .int .u16 a1_11, .slice A1_12 l1_12.length c1_12, .slice A1_13 l1_13.length c1_13, .slice A1_14 l1_14.length c1_14, .slice A1_15 l1_15.length c1_15, .int .u8 a1_16, .int .u8 a1_17, .int .u8 a1_18, .int .u8 a1_19, .int .u8 a1_20, .slice A1_21 l1_21.length c1_21]) (t := 30) ?hr ?_; (case hd => rfl); (case hg => rfl); (case hr => first | (go_simp; done) | (go_simp; rfl)); intro gb231 hg w3 hbox hb; have n0_ := Aside0.mk (below_step (by repeat (first | (with_reducible first | exact HB.out | apply below_alloc | apply pw_below_drewN | apply below_drew1) | exact HB.out)) hb); have n1_ := Aside0.mk (hbox); have n2_ := Aside0.mk ((by rw [hg]; exact (below_size (by repeat (first | (with_reducible first | exact HB.out | apply below_alloc | apply pw_below_drewN | apply below_drew1) | exact HB.out))) : w.heap.size ≤ gb231)); have n3_ := Aside0.mk ((by rw [hg]; exact (below_size (by repeat (first | (with_reducible first | exact HB.out | apply below_alloc | apply pw_below_drewN | apply below_drew1) | exact HB.out))) : w.heap.size ≤ gb231)); clear HB; have HB := n0_; have BK231 := n1_; have GW231 := n2_; have GE231 := n3_; clear n0_ n1_ n2_ n3_; clear hb hbox hg))
  go_loopg [5, 6] k (fun kq v5 v6 w' => ∃ (x5_1 : List Int) (x6_1 : Int), v6 = .int .i64 x6_1 ∧ Aside0 (busbarref11_bytes.l0 kq a0 x5_1 x6_1 a1_0 a1_1 a1_2 a1_3 a1_4 a1_5 a1_6 a1_7 a1_8 a1_9 a1_10 a1_11 l1_12 l1_13 l1_14 l1_15 a1_16 a1_17 a1_18 a1_19 a1_20 l1_21 = some r) ∧ Aside0 (kq ≤ k) ∧ Aside0 (Kd.R (Kd.int .u8) 5 w' w.heap.size (fun _ => True) v5 x5_1) ∧ Aside0 (w'.heap[gb231]? = some (.cells #[.int .u8 a1_0, .int .u8 a1_1, .int .u16 a1_2, .int .u16 a1_3, .int .u16 a1_4, .int .u16 a1_5, .int .u16 a1_6, .int .u16 a1_7, .int .u16 a1_8, .int .u16 a1_9, .int .u16 a1_10, .int .u16 a1_11, (.slice A1_12 l1_12.length c1_12), (.slice A1_13 l1_13.length c1_13), (.slice A1_14 l1_14.length c1_14), (.slice A1_15 l1_15.length c1_15), .int .u8 a1_16, .int .u8 a1_17, .int .u8 a1_18, .int .u8 a1_19, .int .u8 a1_20, (.slice A1_21 l1_21.length c1_21)] 30 (0, 0))) ∧ Aside0 (Below w.heap.size w w'))
  case atStart => exact ⟨(([] : List Int)), (0), (by first | rfl | (simp; done) | (simp [*]; done)), H', ⟨Nat.le_refl _⟩, ⟨by first | exact Kd.R_nil _ _ _ _ _ | exact Kd.N_nil _ _ _ _ _ | exact Kd.V_nil _ _ _ _ _ | exact Kd.Q_nil _ _ _ _ _ | exact Kd.S_nil _ _ _ _ _⟩, ⟨by (with_reducible repeat (first | refine blk_drewN ?_ _ | refine blk_drew ?_ | refine blk_alloc ?_ _)); exact BK231.out⟩, ⟨by repeat (first | (with_reducible first | exact HB.out | apply below_alloc | apply pw_below_drewN | apply below_drew1 | refine below_set ?_ GE231.out) | exact HB.out)⟩⟩
  case round =>
    clear H'
    try clear c1
    try clear p2
    try clear c3
    obtain ⟨x5_1, x6_1, rfl, HA, HK1, HO_5, BK231, HB⟩ := hrel
    cases gk with
    | zero => exact absurd HA.out (by simp [busbarref11_bytes.l0])
    | succ k1 =>
      have H := HA.out
      clear HA
      simp only [busbarref11_bytes.l0] at H
      by_cases c4 : x6_1 < (l1_15.length : Int)
      · rw [if_pos c4] at H
        have c4b0 : decide (x6_1 < (l1_15.length : Int)) = true := decide_eq_true c4
        clear c4
        by_cases c5 : 0 ≤ x6_1
        · rw [if_pos c5] at H
          have c5b0 : decide (0 ≤ x6_1) = true := decide_eq_true c5
          clear c5
          have HC6 := Aside0.mk H
          clear H
          have hcz7_0 : wr.cell? ⟨gb231, 0, none⟩ = some (.int .u8 a1_0) := (blk_cell BK231.out 0).trans rfl
          have hcz7_1 : wr.cell? ⟨gb231, 1, none⟩ = some (.int .u8 a1_1) := (blk_cell BK231.out 1).trans rfl
          have hcz7_2 : wr.cell? ⟨gb231, 2, none⟩ = some (.int .u16 a1_2) := (blk_cell BK231.out 2).trans rfl
          have hcz7_3 : wr.cell? ⟨gb231, 3, none⟩ = some (.int .u16 a1_3) := (blk_cell BK231.out 3).trans rfl
          have hcz7_4 : wr.cell? ⟨gb231, 4, none⟩ = some (.int .u16 a1_4) := (blk_cell BK231.out 4).trans rfl
          have hcz7_5 : wr.cell? ⟨gb231, 5, none⟩ = some (.int .u16 a1_5) := (blk_cell BK231.out 5).trans rfl
          have hcz7_6 : wr.cell? ⟨gb231, 6, none⟩ = some (.int .u16 a1_6) := (blk_cell BK231.out 6).trans rfl
          have hcz7_7 : wr.cell? ⟨gb231, 7, none⟩ = some (.int .u16 a1_7) := (blk_cell BK231.out 7).trans rfl
          have hcz7_8 : wr.cell? ⟨gb231, 8, none⟩ = some (.int .u16 a1_8) := (blk_cell BK231.out 8).trans rfl
          have hcz7_9 : wr.cell? ⟨gb231, 9, none⟩ = some (.int .u16 a1_9) := (blk_cell BK231.out 9).trans rfl
          have hcz7_10 : wr.cell? ⟨gb231, 10, none⟩ = some (.int .u16 a1_10) := (blk_cell BK231.out 10).trans rfl
          have hcz7_11 : wr.cell? ⟨gb231, 11, none⟩ = some (.int .u16 a1_11) := (blk_cell BK231.out 11).trans rfl
          have hcz7_12 : wr.cell? ⟨gb231, 12, none⟩ = some (.slice A1_12 l1_12.length c1_12) := (blk_cell BK231.out 12).trans rfl
          have hcz7_13 : wr.cell? ⟨gb231, 13, none⟩ = some (.slice A1_13 l1_13.length c1_13) := (blk_cell BK231.out 13).trans rfl
          have hcz7_14 : wr.cell? ⟨gb231, 14, none⟩ = some (.slice A1_14 l1_14.length c1_14) := (blk_cell BK231.out 14).trans rfl
          have hcz7_15 : wr.cell? ⟨gb231, 15, none⟩ = some (.slice A1_15 l1_15.length c1_15) := (blk_cell BK231.out 15).trans rfl
          have hcz7_16 : wr.cell? ⟨gb231, 16, none⟩ = some (.int .u8 a1_16) := (blk_cell BK231.out 16).trans rfl
          have hcz7_17 : wr.cell? ⟨gb231, 17, none⟩ = some (.int .u8 a1_17) := (blk_cell BK231.out 17).trans rfl
          have hcz7_18 : wr.cell? ⟨gb231, 18, none⟩ = some (.int .u8 a1_18) := (blk_cell BK231.out 18).trans rfl
          have hcz7_19 : wr.cell? ⟨gb231, 19, none⟩ = some (.int .u8 a1_19) := (blk_cell BK231.out 19).trans rfl
          have hcz7_20 : wr.cell? ⟨gb231, 20, none⟩ = some (.int .u8 a1_20) := (blk_cell BK231.out 20).trans rfl
          have hcz7_21 : wr.cell? ⟨gb231, 21, none⟩ = some (.slice A1_21 l1_21.length c1_21) := (blk_cell BK231.out 21).trans rfl
          have hfz7_0 := blk_frozen BK231.out 0
          have hfz7_1 := blk_frozen BK231.out 1
          have hfz7_2 := blk_frozen BK231.out 2
          have hfz7_3 := blk_frozen BK231.out 3
          have hfz7_4 := blk_frozen BK231.out 4
          have hfz7_5 := blk_frozen BK231.out 5
          have hfz7_6 := blk_frozen BK231.out 6
          have hfz7_7 := blk_frozen BK231.out 7
          have hfz7_8 := blk_frozen BK231.out 8
          have hfz7_9 := blk_frozen BK231.out 9
          have hfz7_10 := blk_frozen BK231.out 10
          have hfz7_11 := blk_frozen BK231.out 11
          have hfz7_12 := blk_frozen BK231.out 12
          have hfz7_13 := blk_frozen BK231.out 13
          have hfz7_14 := blk_frozen BK231.out 14
          have hfz7_15 := blk_frozen BK231.out 15
          have hfz7_16 := blk_frozen BK231.out 16
          have hfz7_17 := blk_frozen BK231.out 17
          have hfz7_18 := blk_frozen BK231.out 18
          have hfz7_19 := blk_frozen BK231.out 19
          have hfz7_20 := blk_frozen BK231.out 20
          have hfz7_21 := blk_frozen BK231.out 21
          have p238 : 0 ≤ (x6_1 : Int) := of_decide_eq_true (by first | (with_reducible assumption) | assumption)
          have q238 : x6_1 < (l1_15.length : Int) := of_decide_eq_true (by first | (with_reducible assumption) | assumption)
          obtain ⟨ad238, A238_3, c238_3, e238, hx238_0, hx238_1, hx238_2, hx238_3, hl238_3, hi238_3⟩ := at_T43 HR1_15.out x6_1 p238 q238
          cases e238
          replace hx238_0 := (HB.out.cell (World.block_lt_of_cell? w _ hx238_0)).trans hx238_0
          replace hx238_1 := (HB.out.cell (World.block_lt_of_cell? w _ hx238_1)).trans hx238_1
          replace hx238_2 := (HB.out.cell (World.block_lt_of_cell? w _ hx238_2)).trans hx238_2
          replace hx238_3 := (HB.out.cell (World.block_lt_of_cell? w _ hx238_3)).trans hx238_3
          have HR238_3 := Aside0.mk hi238_3
          have HC238_3 := Aside0.mk hl238_3
          clear hi238_3 hl238_3
          replace p238 := eq_true p238
          replace q238 := eq_true q238
          go_upto_region 6 with (first | ((with_reducible refine gate_dst (N := 7) rfl ?_); refine box_event ?hg (N := 7) ?hd (cs := #[.int .u16 0, .int .u16 0, .int .u16 0, .slice none 0 0]) (t := 43) ?hr ?_; (case hd => rfl); (case hg => rfl); (case hr => first | (go_simp; done) | (go_simp; rfl)); intro gb239 hg w8 hbox hb; have n0_ := Aside0.mk (Kd.R_below (by (with_reducible repeat (first | apply Kd.R_alloc | apply Kd.R_drewN | apply Kd.R_drew)); exact HO_5.out) hb); have n1_ := Aside0.mk (blk_below (g := gb231) (o := .cells #[.int .u8 a1_0, .int .u8 a1_1, .int .u16 a1_2, .int .u16 a1_3, .int .u16 a1_4, .int .u16 a1_5, .int .u16 a1_6, .int .u16 a1_7, .int .u16 a1_8, .int .u16 a1_9, .int .u16 a1_10, .int .u16 a1_11, .slice A1_12 l1_12.length c1_12, .slice A1_13 l1_13.length c1_13, .slice A1_14 l1_14.length c1_14, .slice (some ad238) l1_15.length c1_15, .int .u8 a1_16, .int .u8 a1_17, .int .u8 a1_18, .int .u8 a1_19, .int .u8 a1_20, .slice A1_21 l1_21.length c1_21] 30 (0, 0)) (by (with_reducible repeat (first | refine blk_drewN ?_ _ | refine blk_drew ?_ | refine blk_alloc ?_ _)); exact BK231.out) hb); have n2_ := Aside0.mk (below_step (by repeat (first | (with_reducible first | exact HB.out | apply below_alloc | apply pw_below_drewN | apply below_drew1 | refine below_set ?_ GE231.out) | exact HB.out)) hb); have n3_ := Aside0.mk (hbox); have n4_ := Aside0.mk ((by rw [hg]; exact (below_size (by repeat (first | (with_reducible first | exact HB.out | apply below_alloc | apply pw_below_drewN | apply below_drew1 | refine below_set ?_ GE231.out) | exact HB.out))) : w.heap.size ≤ gb239)); have n5_ := Aside0.mk ((by rw [hg]; exact (below_size (by repeat (first | (with_reducible first | exact HB.out | apply below_alloc | apply pw_below_drewN | apply below_drew1 | refine below_set ?_ GE231.out) | exact HB.out))) : w.heap.size ≤ gb239)); have n6_ := Aside0.mk ((by rw [hg]; exact Nat.ne_of_lt (blk_lt (g := gb231) (o := .cells #[.int .u8 a1_0, .int .u8 a1_1, .int .u16 a1_2, .int .u16 a1_3, .int .u16 a1_4, .int .u16 a1_5, .int .u16 a1_6, .int .u16 a1_7, .int .u16 a1_8, .int .u16 a1_9, .int .u16 a1_10, .int .u16 a1_11, .slice A1_12 l1_12.length c1_12, .slice A1_13 l1_13.length c1_13, .slice A1_14 l1_14.length c1_14, .slice (some ad238) l1_15.length c1_15, .int .u8 a1_16, .int .u8 a1_17, .int .u8 a1_18, .int .u8 a1_19, .int .u8 a1_20, .slice A1_21 l1_21.length c1_21] 30 (0, 0)) (by (with_reducible repeat (first | refine blk_drewN ?_ _ | refine blk_drew ?_ | refine blk_alloc ?_ _)); exact BK231.out)) : gb231 ≠ gb239)); have n7_ := Aside0.mk ((by rw [hg]; exact Nat.ne_of_gt (blk_lt (g := gb231) (o := .cells #[.int .u8 a1_0, .int .u8 a1_1, .int .u16 a1_2, .int .u16 a1_3, .int .u16 a1_4, .int .u16 a1_5, .int .u16 a1_6, .int .u16 a1_7, .int .u16 a1_8, .int .u16 a1_9, .int .u16 a1_10, .int .u16 a1_11, .slice A1_12 l1_12.length c1_12, .slice A1_13 l1_13.length c1_13, .slice A1_14 l1_14.length c1_14, .slice (some ad238) l1_15.length c1_15, .int .u8 a1_16, .int .u8 a1_17, .int .u8 a1_18, .int .u8 a1_19, .int .u8 a1_20, .slice A1_21 l1_21.length c1_21] 30 (0, 0)) (by (with_reducible repeat (first | refine blk_drewN ?_ _ | refine blk_drew ?_ | refine blk_alloc ?_ _)); exact BK231.out)) : gb239 ≠ gb231)); clear HO_5; clear BK231; clear HB; have HO_5 := n0_; have BK231 := n1_; have HB := n2_; have BK239 := n3_; have GW239 := n4_; have GE239 := n5_; have NB231_239 := n6_; have NB239_231 := n7_; clear n0_ n1_ n2_ n3_ n4_ n5_ n6_ n7_; clear hb hbox hg; have hnb9 := NB239_231.out; have hnc9 := NB231_239.out; have hcz10_0 : w8.cell? ⟨gb239, 0, none⟩ = some (.int .u16 0) := (blk_cell BK239.out 0).trans rfl; have hcz10_1 : w8.cell? ⟨gb239, 1, none⟩ = some (.int .u16 0) := (blk_cell BK239.out 1).trans rfl; have hcz10_2 : w8.cell? ⟨gb239, 2, none⟩ = some (.int .u16 0) := (blk_cell BK239.out 2).trans rfl; have hcz10_3 : w8.cell? ⟨gb239, 3, none⟩ = some (.slice none 0 0) := (blk_cell BK239.out 3).trans rfl; have hfz10_0 := blk_frozen BK239.out 0; have hfz10_1 := blk_frozen BK239.out 1; have hfz10_2 := blk_frozen BK239.out 2; have hfz10_3 := blk_frozen BK239.out 3))
          (try simp only [Act.put, List.setIfInBounds_toArray, List.set_cons_zero, List.set_cons_succ])
          go_cut [26] (fun v26 wc => ∃ (kq : Nat) (x26_5 : Bool), v26 = .bool x26_5 ∧ Aside0 (busbarref11_bytes.j1 kq a0 x5_1 x6_1 x26_5 a1_0 a1_1 a1_2 a1_3 a1_4 a1_5 a1_6 a1_7 a1_8 a1_9 a1_10 a1_11 l1_12 l1_13 l1_14 l1_15 a1_16 a1_17 a1_18 a1_19 a1_20 l1_21 ((rd_T43 l1_15 x6_1).f0) ((rd_T43 l1_15 x6_1).f1) ((rd_T43 l1_15 x6_1).f2) ((rd_T43 l1_15 x6_1).f3) = some r) ∧ Aside0 (kq ≤ k1) ∧ Aside0 (Kd.R (Kd.int .u8) 5 wc w.heap.size (fun _ => True) u5 x5_1) ∧ Aside0 (wc.heap[gb231]? = some (.cells #[.int .u8 a1_0, .int .u8 a1_1, .int .u16 a1_2, .int .u16 a1_3, .int .u16 a1_4, .int .u16 a1_5, .int .u16 a1_6, .int .u16 a1_7, .int .u16 a1_8, .int .u16 a1_9, .int .u16 a1_10, .int .u16 a1_11, (.slice A1_12 l1_12.length c1_12), (.slice A1_13 l1_13.length c1_13), (.slice A1_14 l1_14.length c1_14), (.slice (some ad238) l1_15.length c1_15), .int .u8 a1_16, .int .u8 a1_17, .int .u8 a1_18, .int .u8 a1_19, .int .u8 a1_20, (.slice A1_21 l1_21.length c1_21)] 30 (0, 0))) ∧ Aside0 (wc.heap[gb239]? = some (.cells #[.int .u16 ((rd_T43 l1_15 x6_1).f0), .int .u16 ((rd_T43 l1_15 x6_1).f1), .int .u16 ((rd_T43 l1_15 x6_1).f2), (.slice A238_3 ((rd_T43 l1_15 x6_1).f3).length c238_3)] 43 (0, 0))) ∧ Aside0 (Below w.heap.size w wc))
          case first =>
            have H := HC6.out
            clear HC6
            by_cases c11 : a1_0 = 20
            · rw [if_pos c11] at H
              have c11b0 : (a1_0 == 20) = true := beq_iff_eq.mpr c11
              have c11b1 : (a1_0 != 20) = false := bne_eq_false_iff_eq.mpr c11
              clear c11
              (first | rw [c11b0] | (simp only [i64_w, i32_w]; rw [c11b0]) | skip)
              have H' := Aside0.mk H
              clear H
              have hnb12 := NB231_239.out
              have hnc12 := NB239_231.out
              have hcz13_0 : w8.cell? ⟨gb231, 0, none⟩ = some (.int .u8 a1_0) := (blk_cell BK231.out 0).trans rfl
              have hcz13_1 : w8.cell? ⟨gb231, 1, none⟩ = some (.int .u8 a1_1) := (blk_cell BK231.out 1).trans rfl
              have hcz13_2 : w8.cell? ⟨gb231, 2, none⟩ = some (.int .u16 a1_2) := (blk_cell BK231.out 2).trans rfl
              have hcz13_3 : w8.cell? ⟨gb231, 3, none⟩ = some (.int .u16 a1_3) := (blk_cell BK231.out 3).trans rfl
              have hcz13_4 : w8.cell? ⟨gb231, 4, none⟩ = some (.int .u16 a1_4) := (blk_cell BK231.out 4).trans rfl
              have hcz13_5 : w8.cell? ⟨gb231, 5, none⟩ = some (.int .u16 a1_5) := (blk_cell BK231.out 5).trans rfl
              have hcz13_6 : w8.cell? ⟨gb231, 6, none⟩ = some (.int .u16 a1_6) := (blk_cell BK231.out 6).trans rfl
              have hcz13_7 : w8.cell? ⟨gb231, 7, none⟩ = some (.int .u16 a1_7) := (blk_cell BK231.out 7).trans rfl
              have hcz13_8 : w8.cell? ⟨gb231, 8, none⟩ = some (.int .u16 a1_8) := (blk_cell BK231.out 8).trans rfl
              have hcz13_9 : w8.cell? ⟨gb231, 9, none⟩ = some (.int .u16 a1_9) := (blk_cell BK231.out 9).trans rfl
              have hcz13_10 : w8.cell? ⟨gb231, 10, none⟩ = some (.int .u16 a1_10) := (blk_cell BK231.out 10).trans rfl
              have hcz13_11 : w8.cell? ⟨gb231, 11, none⟩ = some (.int .u16 a1_11) := (blk_cell BK231.out 11).trans rfl
              have hcz13_12 : w8.cell? ⟨gb231, 12, none⟩ = some (.slice A1_12 l1_12.length c1_12) := (blk_cell BK231.out 12).trans rfl
              have hcz13_13 : w8.cell? ⟨gb231, 13, none⟩ = some (.slice A1_13 l1_13.length c1_13) := (blk_cell BK231.out 13).trans rfl
              have hcz13_14 : w8.cell? ⟨gb231, 14, none⟩ = some (.slice A1_14 l1_14.length c1_14) := (blk_cell BK231.out 14).trans rfl
              have hcz13_15 : w8.cell? ⟨gb231, 15, none⟩ = some (.slice (some ad238) l1_15.length c1_15) := (blk_cell BK231.out 15).trans rfl
              have hcz13_16 : w8.cell? ⟨gb231, 16, none⟩ = some (.int .u8 a1_16) := (blk_cell BK231.out 16).trans rfl
              have hcz13_17 : w8.cell? ⟨gb231, 17, none⟩ = some (.int .u8 a1_17) := (blk_cell BK231.out 17).trans rfl
              have hcz13_18 : w8.cell? ⟨gb231, 18, none⟩ = some (.int .u8 a1_18) := (blk_cell BK231.out 18).trans rfl
              have hcz13_19 : w8.cell? ⟨gb231, 19, none⟩ = some (.int .u8 a1_19) := (blk_cell BK231.out 19).trans rfl
              have hcz13_20 : w8.cell? ⟨gb231, 20, none⟩ = some (.int .u8 a1_20) := (blk_cell BK231.out 20).trans rfl
              have hcz13_21 : w8.cell? ⟨gb231, 21, none⟩ = some (.slice A1_21 l1_21.length c1_21) := (blk_cell BK231.out 21).trans rfl
              have hfz13_0 := blk_frozen BK231.out 0
              have hfz13_1 := blk_frozen BK231.out 1
              have hfz13_2 := blk_frozen BK231.out 2
              have hfz13_3 := blk_frozen BK231.out 3
              have hfz13_4 := blk_frozen BK231.out 4
              have hfz13_5 := blk_frozen BK231.out 5
              have hfz13_6 := blk_frozen BK231.out 6
              have hfz13_7 := blk_frozen BK231.out 7
              have hfz13_8 := blk_frozen BK231.out 8
              have hfz13_9 := blk_frozen BK231.out 9
              have hfz13_10 := blk_frozen BK231.out 10
              have hfz13_11 := blk_frozen BK231.out 11
              have hfz13_12 := blk_frozen BK231.out 12
              have hfz13_13 := blk_frozen BK231.out 13
              have hfz13_14 := blk_frozen BK231.out 14
              have hfz13_15 := blk_frozen BK231.out 15
              have hfz13_16 := blk_frozen BK231.out 16
              have hfz13_17 := blk_frozen BK231.out 17
              have hfz13_18 := blk_frozen BK231.out 18
              have hfz13_19 := blk_frozen BK231.out 19
              have hfz13_20 := blk_frozen BK231.out 20
              have hfz13_21 := blk_frozen BK231.out 21
              go_wp2
              go_meet
              case rel => exact ⟨_, ((a0 == 1)), (by first | rfl | (simp; done) | (simp [*]; done)), H', ⟨by have := HK1.out; first | omega | exact Nat.le_refl _⟩, ⟨by (with_reducible repeat (first | apply Kd.R_alloc | apply Kd.R_drewN | apply Kd.R_drew)); exact Kd.R_mono (Kd.R_far (p := ⟨gb239, 3, none⟩) (Kd.R_far (p := ⟨gb239, 2, none⟩) (Kd.R_far (p := ⟨gb239, 1, none⟩) (Kd.R_far (p := ⟨gb239, 0, none⟩) (Kd.R_types HO_5.out BK239.out (by decide)) (fun _ hk => hk.2) (.int .u16 ((rd_T43 l1_15 x6_1).f0))) (fun _ hk => hk.2) (.int .u16 ((rd_T43 l1_15 x6_1).f1))) (fun _ hk => hk.2) (.int .u16 ((rd_T43 l1_15 x6_1).f2))) (fun _ hk => hk.2) (.slice A238_3 ((rd_T43 l1_15 x6_1).f3).length c238_3)) (fun _ hk => trivial)⟩, ⟨by (with_reducible repeat (first | refine blk_drewN ?_ _ | refine blk_drew ?_ | refine blk_alloc ?_ _)); refine blk_far ?_ NB231_239.out _; (with_reducible repeat (first | refine blk_drewN ?_ _ | refine blk_drew ?_ | refine blk_alloc ?_ _)); refine blk_far ?_ NB231_239.out _; (with_reducible repeat (first | refine blk_drewN ?_ _ | refine blk_drew ?_ | refine blk_alloc ?_ _)); refine blk_far ?_ NB231_239.out _; (with_reducible repeat (first | refine blk_drewN ?_ _ | refine blk_drew ?_ | refine blk_alloc ?_ _)); refine blk_far ?_ NB231_239.out _; (with_reducible repeat (first | refine blk_drewN ?_ _ | refine blk_drew ?_ | refine blk_alloc ?_ _)); exact BK231.out⟩, ⟨by (with_reducible repeat (first | refine blk_drewN ?_ _ | refine blk_drew ?_ | refine blk_alloc ?_ _)); refine blk_put (cs := #[.int .u16 ((rd_T43 l1_15 x6_1).f0), .int .u16 ((rd_T43 l1_15 x6_1).f1), .int .u16 ((rd_T43 l1_15 x6_1).f2), .slice none 0 0]) ?_ 3 _ rfl; (with_reducible repeat (first | refine blk_drewN ?_ _ | refine blk_drew ?_ | refine blk_alloc ?_ _)); refine blk_put (cs := #[.int .u16 ((rd_T43 l1_15 x6_1).f0), .int .u16 ((rd_T43 l1_15 x6_1).f1), .int .u16 0, .slice none 0 0]) ?_ 2 _ rfl; (with_reducible repeat (first | refine blk_drewN ?_ _ | refine blk_drew ?_ | refine blk_alloc ?_ _)); refine blk_put (cs := #[.int .u16 ((rd_T43 l1_15 x6_1).f0), .int .u16 0, .int .u16 0, .slice none 0 0]) ?_ 1 _ rfl; (with_reducible repeat (first | refine blk_drewN ?_ _ | refine blk_drew ?_ | refine blk_alloc ?_ _)); refine blk_put (cs := #[.int .u16 0, .int .u16 0, .int .u16 0, .slice none 0 0]) ?_ 0 _ rfl; (with_reducible repeat (first | refine blk_drewN ?_ _ | refine blk_drew ?_ | refine blk_alloc ?_ _)); exact BK239.out⟩, ⟨by repeat (first | (with_reducible first | exact HB.out | apply below_alloc | apply pw_below_drewN | apply below_drew1 | refine below_set ?_ GE231.out | refine below_set ?_ GE239.out) | exact HB.out)⟩⟩
            · rw [if_neg c11] at H
              have c11b0 : (a1_0 == 20) = false := beq_eq_false_iff_ne.mpr c11
              have c11b1 : (a1_0 != 20) = true := bne_iff_ne.mpr c11
              (first | rw [c11b0] | (simp only [i64_w, i32_w]; rw [c11b0]) | skip)
              have H' := Aside0.mk H
              clear H
              have hnb14 := NB231_239.out
              have hnc14 := NB239_231.out
              have hcz15_0 : w8.cell? ⟨gb231, 0, none⟩ = some (.int .u8 a1_0) := (blk_cell BK231.out 0).trans rfl
              have hcz15_1 : w8.cell? ⟨gb231, 1, none⟩ = some (.int .u8 a1_1) := (blk_cell BK231.out 1).trans rfl
              have hcz15_2 : w8.cell? ⟨gb231, 2, none⟩ = some (.int .u16 a1_2) := (blk_cell BK231.out 2).trans rfl
              have hcz15_3 : w8.cell? ⟨gb231, 3, none⟩ = some (.int .u16 a1_3) := (blk_cell BK231.out 3).trans rfl
              have hcz15_4 : w8.cell? ⟨gb231, 4, none⟩ = some (.int .u16 a1_4) := (blk_cell BK231.out 4).trans rfl
              have hcz15_5 : w8.cell? ⟨gb231, 5, none⟩ = some (.int .u16 a1_5) := (blk_cell BK231.out 5).trans rfl
              have hcz15_6 : w8.cell? ⟨gb231, 6, none⟩ = some (.int .u16 a1_6) := (blk_cell BK231.out 6).trans rfl
              have hcz15_7 : w8.cell? ⟨gb231, 7, none⟩ = some (.int .u16 a1_7) := (blk_cell BK231.out 7).trans rfl
              have hcz15_8 : w8.cell? ⟨gb231, 8, none⟩ = some (.int .u16 a1_8) := (blk_cell BK231.out 8).trans rfl
              have hcz15_9 : w8.cell? ⟨gb231, 9, none⟩ = some (.int .u16 a1_9) := (blk_cell BK231.out 9).trans rfl
              have hcz15_10 : w8.cell? ⟨gb231, 10, none⟩ = some (.int .u16 a1_10) := (blk_cell BK231.out 10).trans rfl
              have hcz15_11 : w8.cell? ⟨gb231, 11, none⟩ = some (.int .u16 a1_11) := (blk_cell BK231.out 11).trans rfl
              have hcz15_12 : w8.cell? ⟨gb231, 12, none⟩ = some (.slice A1_12 l1_12.length c1_12) := (blk_cell BK231.out 12).trans rfl
              have hcz15_13 : w8.cell? ⟨gb231, 13, none⟩ = some (.slice A1_13 l1_13.length c1_13) := (blk_cell BK231.out 13).trans rfl
              have hcz15_14 : w8.cell? ⟨gb231, 14, none⟩ = some (.slice A1_14 l1_14.length c1_14) := (blk_cell BK231.out 14).trans rfl
              have hcz15_15 : w8.cell? ⟨gb231, 15, none⟩ = some (.slice (some ad238) l1_15.length c1_15) := (blk_cell BK231.out 15).trans rfl
              have hcz15_16 : w8.cell? ⟨gb231, 16, none⟩ = some (.int .u8 a1_16) := (blk_cell BK231.out 16).trans rfl
              have hcz15_17 : w8.cell? ⟨gb231, 17, none⟩ = some (.int .u8 a1_17) := (blk_cell BK231.out 17).trans rfl
              have hcz15_18 : w8.cell? ⟨gb231, 18, none⟩ = some (.int .u8 a1_18) := (blk_cell BK231.out 18).trans rfl
              have hcz15_19 : w8.cell? ⟨gb231, 19, none⟩ = some (.int .u8 a1_19) := (blk_cell BK231.out 19).trans rfl
              have hcz15_20 : w8.cell? ⟨gb231, 20, none⟩ = some (.int .u8 a1_20) := (blk_cell BK231.out 20).trans rfl
              have hcz15_21 : w8.cell? ⟨gb231, 21, none⟩ = some (.slice A1_21 l1_21.length c1_21) := (blk_cell BK231.out 21).trans rfl
              have hfz15_0 := blk_frozen BK231.out 0
              have hfz15_1 := blk_frozen BK231.out 1
              have hfz15_2 := blk_frozen BK231.out 2
              have hfz15_3 := blk_frozen BK231.out 3
              have hfz15_4 := blk_frozen BK231.out 4
              have hfz15_5 := blk_frozen BK231.out 5
              have hfz15_6 := blk_frozen BK231.out 6
              have hfz15_7 := blk_frozen BK231.out 7
              have hfz15_8 := blk_frozen BK231.out 8
              have hfz15_9 := blk_frozen BK231.out 9
              have hfz15_10 := blk_frozen BK231.out 10
              have hfz15_11 := blk_frozen BK231.out 11
              have hfz15_12 := blk_frozen BK231.out 12
              have hfz15_13 := blk_frozen BK231.out 13
              have hfz15_14 := blk_frozen BK231.out 14
              have hfz15_15 := blk_frozen BK231.out 15
              have hfz15_16 := blk_frozen BK231.out 16
              have hfz15_17 := blk_frozen BK231.out 17
              have hfz15_18 := blk_frozen BK231.out 18
              have hfz15_19 := blk_frozen BK231.out 19
              have hfz15_20 := blk_frozen BK231.out 20
              have hfz15_21 := blk_frozen BK231.out 21
              go_wp2
              go_meet
              case rel => exact ⟨_, (false), (by first | rfl | (simp; done) | (simp [*]; done)), H', ⟨by have := HK1.out; first | omega | exact Nat.le_refl _⟩, ⟨by (with_reducible repeat (first | apply Kd.R_alloc | apply Kd.R_drewN | apply Kd.R_drew)); exact Kd.R_mono (Kd.R_far (p := ⟨gb239, 3, none⟩) (Kd.R_far (p := ⟨gb239, 2, none⟩) (Kd.R_far (p := ⟨gb239, 1, none⟩) (Kd.R_far (p := ⟨gb239, 0, none⟩) (Kd.R_types HO_5.out BK239.out (by decide)) (fun _ hk => hk.2) (.int .u16 ((rd_T43 l1_15 x6_1).f0))) (fun _ hk => hk.2) (.int .u16 ((rd_T43 l1_15 x6_1).f1))) (fun _ hk => hk.2) (.int .u16 ((rd_T43 l1_15 x6_1).f2))) (fun _ hk => hk.2) (.slice A238_3 ((rd_T43 l1_15 x6_1).f3).length c238_3)) (fun _ hk => trivial)⟩, ⟨by (with_reducible repeat (first | refine blk_drewN ?_ _ | refine blk_drew ?_ | refine blk_alloc ?_ _)); refine blk_far ?_ NB231_239.out _; (with_reducible repeat (first | refine blk_drewN ?_ _ | refine blk_drew ?_ | refine blk_alloc ?_ _)); refine blk_far ?_ NB231_239.out _; (with_reducible repeat (first | refine blk_drewN ?_ _ | refine blk_drew ?_ | refine blk_alloc ?_ _)); refine blk_far ?_ NB231_239.out _; (with_reducible repeat (first | refine blk_drewN ?_ _ | refine blk_drew ?_ | refine blk_alloc ?_ _)); refine blk_far ?_ NB231_239.out _; (with_reducible repeat (first | refine blk_drewN ?_ _ | refine blk_drew ?_ | refine blk_alloc ?_ _)); exact BK231.out⟩, ⟨by (with_reducible repeat (first | refine blk_drewN ?_ _ | refine blk_drew ?_ | refine blk_alloc ?_ _)); refine blk_put (cs := #[.int .u16 ((rd_T43 l1_15 x6_1).f0), .int .u16 ((rd_T43 l1_15 x6_1).f1), .int .u16 ((rd_T43 l1_15 x6_1).f2), .slice none 0 0]) ?_ 3 _ rfl; (with_reducible repeat (first | refine blk_drewN ?_ _ | refine blk_drew ?_ | refine blk_alloc ?_ _)); refine blk_put (cs := #[.int .u16 ((rd_T43 l1_15 x6_1).f0), .int .u16 ((rd_T43 l1_15 x6_1).f1), .int .u16 0, .slice none 0 0]) ?_ 2 _ rfl; (with_reducible repeat (first | refine blk_drewN ?_ _ | refine blk_drew ?_ | refine blk_alloc ?_ _)); refine blk_put (cs := #[.int .u16 ((rd_T43 l1_15 x6_1).f0), .int .u16 0, .int .u16 0, .slice none 0 0]) ?_ 1 _ rfl; (with_reducible repeat (first | refine blk_drewN ?_ _ | refine blk_drew ?_ | refine blk_alloc ?_ _)); refine blk_put (cs := #[.int .u16 0, .int .u16 0, .int .u16 0, .slice none 0 0]) ?_ 0 _ rfl; (with_reducible repeat (first | refine blk_drewN ?_ _ | refine blk_drew ?_ | refine blk_alloc ?_ _)); exact BK239.out⟩, ⟨by repeat (first | (with_reducible first | exact HB.out | apply below_alloc | apply pw_below_drewN | apply below_drew1 | refine below_set ?_ GE231.out | refine below_set ?_ GE239.out) | exact HB.out)⟩⟩
          case rest =>
            clear HC6
            try clear c1
            try clear c2
            try clear p2
            try clear q2
            try clear hx2
            try clear c3
            try clear c4
            try clear c4b0
            try clear c5
            try clear c5b0
            try clear c9
            try clear c11
            try clear c11b0
            try clear c11b1
            try clear c12
            try clear c14
            try clear hcz10_0
            try clear hcz10_1
            try clear hcz10_2
            try clear hcz10_3
            try clear hcz13_0
            try clear hcz13_1
            try clear hcz13_10
            try clear hcz13_11
            try clear hcz13_12
            try clear hcz13_13
            try clear hcz13_14
            try clear hcz13_15
            try clear hcz13_16
            try clear hcz13_17
            try clear hcz13_18
            try clear hcz13_19
            try clear hcz13_2
            try clear hcz13_20
            try clear hcz13_21
            try clear hcz13_3
            try clear hcz13_4
            try clear hcz13_5
            try clear hcz13_6
            try clear hcz13_7
            try clear hcz13_8
            try clear hcz13_9
            try clear hcz15_0
            try clear hcz15_1
            try clear hcz15_10
            try clear hcz15_11
            try clear hcz15_12
            try clear hcz15_13
            try clear hcz15_14
            try clear hcz15_15
            try clear hcz15_16
            try clear hcz15_17
            try clear hcz15_18
            try clear hcz15_19
            try clear hcz15_2
            try clear hcz15_20
            try clear hcz15_21
            try clear hcz15_3
            try clear hcz15_4
            try clear hcz15_5
            try clear hcz15_6
            try clear hcz15_7
            try clear hcz15_8
            try clear hcz15_9
            try clear hcz7_0
            try clear hcz7_1
            try clear hcz7_10
            try clear hcz7_11
            try clear hcz7_12
            try clear hcz7_13
            try clear hcz7_14
            try clear hcz7_15
            try clear hcz7_16
            try clear hcz7_17
            try clear hcz7_18
            try clear hcz7_19
            try clear hcz7_2
            try clear hcz7_20
            try clear hcz7_21
            try clear hcz7_3
            try clear hcz7_4
            try clear hcz7_5
            try clear hcz7_6
            try clear hcz7_7
            try clear hcz7_8
            try clear hcz7_9
            try clear hfz10_0
            try clear hfz10_1
            try clear hfz10_2
            try clear hfz10_3
            try clear hfz13_0
            try clear hfz13_1
            try clear hfz13_10
            try clear hfz13_11
            try clear hfz13_12
            try clear hfz13_13
            try clear hfz13_14
            try clear hfz13_15
            try clear hfz13_16
            try clear hfz13_17
            try clear hfz13_18
            try clear hfz13_19
            try clear hfz13_2
            try clear hfz13_20
            try clear hfz13_21
            try clear hfz13_3
            try clear hfz13_4
            try clear hfz13_5
            try clear hfz13_6
            try clear hfz13_7
            try clear hfz13_8
            try clear hfz13_9
            try clear hfz15_0
            try clear hfz15_1
            try clear hfz15_10
            try clear hfz15_11
            try clear hfz15_12
            try clear hfz15_13
            try clear hfz15_14
            try clear hfz15_15
            try clear hfz15_16
            try clear hfz15_17
            try clear hfz15_18
            try clear hfz15_19
            try clear hfz15_2
            try clear hfz15_20
            try clear hfz15_21
            try clear hfz15_3
            try clear hfz15_4
            try clear hfz15_5
            try clear hfz15_6
            try clear hfz15_7
            try clear hfz15_8
            try clear hfz15_9
            try clear hfz7_0
            try clear hfz7_1
            try clear hfz7_10
            try clear hfz7_11
            try clear hfz7_12
            try clear hfz7_13
            try clear hfz7_14
            try clear hfz7_15
            try clear hfz7_16
            try clear hfz7_17
            try clear hfz7_18
            try clear hfz7_19
            try clear hfz7_2
            try clear hfz7_20
            try clear hfz7_21
            try clear hfz7_3
            try clear hfz7_4
            try clear hfz7_5
            try clear hfz7_6
            try clear hfz7_7
            try clear hfz7_8
            try clear hfz7_9
            try clear hx238_0
            try clear hx238_1
            try clear hx238_2
            try clear hx238_3
            try clear p2
            try clear p238
            try clear q238
            obtain ⟨kq, x26_5, rfl, HA, HJ5, HO_5, BK231, BK239, HB⟩ := hcut
            cases kq with
            | zero => exact absurd HA.out (by simp [busbarref11_bytes.j1])
            | succ kj5 =>
              have H := HA.out
              clear HA
              simp only [busbarref11_bytes.j1] at H
              by_cases c16 : x26_5 = true
              · subst c16
                have H1 : ((some (([(wrap64 ((wrap64 (2 * (((rd_T43 l1_15 x6_1).f3).length : Int))) + 1)) % 256, 6] : List Int) : List Int)).bind fun y240 => (if x5_1.length + y240.length < 140737488355328 then ((some (x5_1 ++ y240 : List Int)).bind fun y243 => ((busbarref04_Put.f kj5 ((rd_T43 l1_15 x6_1).f3)).bind fun t246 => (if y243.length + t246.length < 140737488355328 then (busbarref11_bytes.l0 kj5 a0 (y243 ++ t246) (wrap64 (x6_1 + 1)) a1_0 a1_1 a1_2 a1_3 a1_4 a1_5 a1_6 a1_7 a1_8 a1_9 a1_10 a1_11 l1_12 l1_13 l1_14 l1_15 a1_16 a1_17 a1_18 a1_19 a1_20 l1_21) else (none)))) else (none))) = some r := by rw [if_pos rfl] at H; exact H
                clear H
                have H := H1
                clear H1
                obtain ⟨y240, hy240⟩ : ∃ y_ : List Int, y_ = (([(wrap64 ((wrap64 (2 * (((rd_T43 l1_15 x6_1).f3).length : Int))) + 1)) % 256, 6] : List Int)) := ⟨_, rfl⟩
                replace H : (if x5_1.length + y240.length < 140737488355328 then ((some (x5_1 ++ y240 : List Int)).bind fun y243 => ((busbarref04_Put.f kj5 ((rd_T43 l1_15 x6_1).f3)).bind fun t246 => (if y243.length + t246.length < 140737488355328 then (busbarref11_bytes.l0 kj5 a0 (y243 ++ t246) (wrap64 (x6_1 + 1)) a1_0 a1_1 a1_2 a1_3 a1_4 a1_5 a1_6 a1_7 a1_8 a1_9 a1_10 a1_11 l1_12 l1_13 l1_14 l1_15 a1_16 a1_17 a1_18 a1_19 a1_20 l1_21) else (none)))) else (none)) = some r := by first | (rw [hy240]; with_reducible exact H) | (have H2_ := (Option.bind_some _ _).symm.trans H; rw [hy240]; with_reducible exact H2_) | (have H2_ := (Option.bind_some _ _).symm.trans H; with_reducible exact H2_) | with_reducible exact H | (rw [hy240]; exact H) | exact H
                have Ny240 := Aside0.mk hy240
                clear hy240
                by_cases c17 : x5_1.length + y240.length < 140737488355328
                · rw [if_pos c17] at H
                  have LMc17 := Aside0.mk c17
                  clear c17
                  obtain ⟨y243, hy243⟩ : ∃ y_ : List Int, y_ = (x5_1 ++ y240) := ⟨_, rfl⟩
                  replace H : ((busbarref04_Put.f kj5 ((rd_T43 l1_15 x6_1).f3)).bind fun t246 => (if y243.length + t246.length < 140737488355328 then (busbarref11_bytes.l0 kj5 a0 (y243 ++ t246) (wrap64 (x6_1 + 1)) a1_0 a1_1 a1_2 a1_3 a1_4 a1_5 a1_6 a1_7 a1_8 a1_9 a1_10 a1_11 l1_12 l1_13 l1_14 l1_15 a1_16 a1_17 a1_18 a1_19 a1_20 l1_21) else (none))) = some r := by first | (rw [hy243]; with_reducible exact H) | (have H2_ := (Option.bind_some _ _).symm.trans H; rw [hy243]; with_reducible exact H2_) | (have H2_ := (Option.bind_some _ _).symm.trans H; with_reducible exact H2_) | with_reducible exact H | (rw [hy243]; exact H) | exact H
                  have Ny243 := Aside0.mk hy243
                  clear hy243
                  replace H := Option.bind_eq_some_iff.mp H
                  obtain ⟨t246, A180, H⟩ := H
                  replace H : (if y243.length + t246.length < 140737488355328 then (busbarref11_bytes.l0 kj5 a0 (y243 ++ t246) (wrap64 (x6_1 + 1)) a1_0 a1_1 a1_2 a1_3 a1_4 a1_5 a1_6 a1_7 a1_8 a1_9 a1_10 a1_11 l1_12 l1_13 l1_14 l1_15 a1_16 a1_17 a1_18 a1_19 a1_20 l1_21) else (none)) = some r := H
                  have A18 := Aside0.mk A180
                  clear A180
                  by_cases c19 : y243.length + t246.length < 140737488355328
                  · rw [if_pos c19] at H
                    have LMc19 := Aside0.mk c19
                    clear c19
                    obtain ⟨y249, hy249⟩ : ∃ y_ : List Int, y_ = (y243 ++ t246) := ⟨_, rfl⟩
                    replace H : (busbarref11_bytes.l0 kj5 a0 y249 (wrap64 (x6_1 + 1)) a1_0 a1_1 a1_2 a1_3 a1_4 a1_5 a1_6 a1_7 a1_8 a1_9 a1_10 a1_11 l1_12 l1_13 l1_14 l1_15 a1_16 a1_17 a1_18 a1_19 a1_20 l1_21) = some r := by first | (rw [hy249]; with_reducible exact H) | (have H2_ := (Option.bind_some _ _).symm.trans H; rw [hy249]; with_reducible exact H2_) | (have H2_ := (Option.bind_some _ _).symm.trans H; with_reducible exact H2_) | with_reducible exact H | (rw [hy249]; exact H) | exact H
                    have Ny249 := Aside0.mk hy249
                    clear hy249
                    have H' := Aside0.mk H
                    clear H
                    have hnb20 := NB239_231.out
                    have hnc20 := NB231_239.out
                    have hcz21_0 : wc.cell? ⟨gb239, 0, none⟩ = some (.int .u16 ((rd_T43 l1_15 x6_1).f0)) := (blk_cell BK239.out 0).trans rfl
                    have hcz21_1 : wc.cell? ⟨gb239, 1, none⟩ = some (.int .u16 ((rd_T43 l1_15 x6_1).f1)) := (blk_cell BK239.out 1).trans rfl
                    have hcz21_2 : wc.cell? ⟨gb239, 2, none⟩ = some (.int .u16 ((rd_T43 l1_15 x6_1).f2)) := (blk_cell BK239.out 2).trans rfl
                    have hcz21_3 : wc.cell? ⟨gb239, 3, none⟩ = some (.slice A238_3 ((rd_T43 l1_15 x6_1).f3).length c238_3) := (blk_cell BK239.out 3).trans rfl
                    have hfz21_0 := blk_frozen BK239.out 0
                    have hfz21_1 := blk_frozen BK239.out 1
                    have hfz21_2 := blk_frozen BK239.out 2
                    have hfz21_3 := blk_frozen BK239.out 3
                    go_wp2_with (first | ((with_reducible refine gate_dst (N := 34) rfl ?_); refine Kd.R_lit (Kd.int .u8) _ 5 ?hg (N := 34) ?hd (xs := ([(wrap64 ((wrap64 (2 * (((rd_T43 l1_15 x6_1).f3).length : Int))) + 1)) % 256, 6] : List Int)) (inner := [.int .u8 ((wrap64 ((wrap64 (2 * (((rd_T43 l1_15 x6_1).f3).length : Int))) + 1)) % 256), .int .u8 6]) (ok := fun _ => True) (okp := fun _ => True) ?hr ?hp (fun _ hk => hk) trivial (Below.refl _ _) (Nat.le_refl _) (by simp) ?_; (case hd => rfl); (case hg => rfl); (case hr => first | (go_simp; done) | (go_simp; rfl)); (case hp => exact (Reps.one (show Kd.M (Kd.int .u8) _ _ _ ((wrap64 ((wrap64 (2 * (((rd_T43 l1_15 x6_1).f3).length : Int))) + 1)) % 256) [.int .u8 ((wrap64 ((wrap64 (2 * (((rd_T43 l1_15 x6_1).f3).length : Int))) + 1)) % 256)] from rfl) (Reps.one (show Kd.M (Kd.int .u8) _ _ _ 6 [.int .u8 6] from rfl) (Reps.none _ _)))); intro v241 w22 ho23 hb hg_ hnew_; clear hg_ hnew_; (first | rw [← Ny240.out] at ho23 | (simp only [Int.reduceToNat] at ho23; rw [← Ny240.out] at ho23)); have n0_ := Aside0.mk (Kd.R_elder' (by (with_reducible repeat (first | apply Kd.R_alloc | apply Kd.R_drewN | apply Kd.R_drew)); exact HO_5.out) (Kd.R_base ho23) hb); have n1_ := Aside0.mk (Kd.R_lower (Kd.R_new' ho23 (Kd.R_lt (by (with_reducible repeat (first | apply Kd.R_alloc | apply Kd.R_drewN | apply Kd.R_drew)); exact HO_5.out))) (below_size (by repeat (first | (with_reducible first | exact HB.out | apply below_alloc | apply pw_below_drewN | apply below_drew1 | refine below_set ?_ GE231.out | refine below_set ?_ GE239.out) | exact HB.out)))); have n2_ := Aside0.mk (blk_below (g := gb231) (o := .cells #[.int .u8 a1_0, .int .u8 a1_1, .int .u16 a1_2, .int .u16 a1_3, .int .u16 a1_4, .int .u16 a1_5, .int .u16 a1_6, .int .u16 a1_7, .int .u16 a1_8, .int .u16 a1_9, .int .u16 a1_10, .int .u16 a1_11, .slice A1_12 l1_12.length c1_12, .slice A1_13 l1_13.length c1_13, .slice A1_14 l1_14.length c1_14, .slice (some ad238) l1_15.length c1_15, .int .u8 a1_16, .int .u8 a1_17, .int .u8 a1_18, .int .u8 a1_19, .int .u8 a1_20, .slice A1_21 l1_21.length c1_21] 30 (0, 0)) (by (with_reducible repeat (first | refine blk_drewN ?_ _ | refine blk_drew ?_ | refine blk_alloc ?_ _)); exact BK231.out) hb); have n3_ := Aside0.mk (blk_below (g := gb239) (o := .cells #[.int .u16 ((rd_T43 l1_15 x6_1).f0), .int .u16 ((rd_T43 l1_15 x6_1).f1), .int .u16 ((rd_T43 l1_15 x6_1).f2), .slice A238_3 ((rd_T43 l1_15 x6_1).f3).length c238_3] 43 (0, 0)) (by (with_reducible repeat (first | refine blk_drewN ?_ _ | refine blk_drew ?_ | refine blk_alloc ?_ _)); exact BK239.out) hb); have n4_ := Aside0.mk (below_step (by repeat (first | (with_reducible first | exact HB.out | apply below_alloc | apply pw_below_drewN | apply below_drew1 | refine below_set ?_ GE231.out | refine below_set ?_ GE239.out) | exact HB.out)) hb); clear HO_5; clear BK231; clear BK239; clear HB; have HO_5 := n0_; have HO242 := n1_; have BK231 := n2_; have BK239 := n3_; have HB := n4_; clear n0_ n1_ n2_ n3_ n4_; clear hb ho23; obtain ⟨Ao25, co25, eo25⟩ := Kd.R_slice HO242.out; subst eo25) | ((with_reducible refine gate_builtin (b := .append) (xs := #[.tmp 27, .tmp 34]) rfl ?_); at_builtin; refine Kd.R_append_rows (Kd.int .u8) (w0 := w) w.heap.size rfl (.tmp 27) (.tmp 34) 22 5 (.int .u8 0) 1 rfl Try.underlying22 info5 rfl (by decide) (by omega) u5 x5_1 y240 _ _ _ (fun k_ => some k_ ≠ (.slice Ao25 y240.length co25 : Value).ownBlock) (fun _ => False) rfl rfl ?aO ?aR (fun _ _ h => h) (fun _ h => h.elim) ?aF ?aB ?aS ?aL ?_; (case aR => repeat (first | exact (Kd.R_reads' HO242.out).2.2 | (with_reducible refine Kd.C_alloc ?_ _) | (with_reducible refine Kd.C_drewN ?_ _) | (with_reducible refine Kd.C_drew ?_))); (case aB => exact (by repeat (first | (with_reducible first | exact HB.out | apply below_alloc | apply pw_below_drewN | apply below_drew1 | refine below_set ?_ GE231.out | refine below_set ?_ GE239.out) | exact HB.out))); (case aF => exact (fun k_ hk => Kd.fresh' (Kd.R_lt (by (with_reducible repeat (first | apply Kd.R_alloc | apply Kd.R_drewN | apply Kd.R_drew)); exact HO242.out)) k_ hk)); (case aO => exact (by (with_reducible repeat (first | apply Kd.R_alloc | apply Kd.R_drewN | apply Kd.R_drew)); exact Kd.R_mono HO_5.out (fun _ hk => hk.2))); (case aS => exact (below_size (by repeat (first | (with_reducible first | exact HB.out | apply below_alloc | apply pw_below_drewN | apply below_drew1 | refine below_set ?_ GE231.out | refine below_set ?_ GE239.out) | exact HB.out)))); (case aL => have := LMc17.out; omega); intro v244 w24 ho hb hg hat; rw [← Ny243.out] at ho; have n0_ := Aside0.mk (blk_grown (g := gb231) (o := .cells #[.int .u8 a1_0, .int .u8 a1_1, .int .u16 a1_2, .int .u16 a1_3, .int .u16 a1_4, .int .u16 a1_5, .int .u16 a1_6, .int .u16 a1_7, .int .u16 a1_8, .int .u16 a1_9, .int .u16 a1_10, .int .u16 a1_11, .slice A1_12 l1_12.length c1_12, .slice A1_13 l1_13.length c1_13, .slice A1_14 l1_14.length c1_14, .slice (some ad238) l1_15.length c1_15, .int .u8 a1_16, .int .u8 a1_17, .int .u8 a1_18, .int .u8 a1_19, .int .u8 a1_20, .slice A1_21 l1_21.length c1_21] 30 (0, 0)) (by (with_reducible repeat (first | refine blk_drewN ?_ _ | refine blk_drew ?_ | refine blk_alloc ?_ _)); exact BK231.out) hg (Kd.R_ne HO_5.out BK231.out (by decide))); have n1_ := Aside0.mk (blk_grown (g := gb239) (o := .cells #[.int .u16 ((rd_T43 l1_15 x6_1).f0), .int .u16 ((rd_T43 l1_15 x6_1).f1), .int .u16 ((rd_T43 l1_15 x6_1).f2), .slice A238_3 ((rd_T43 l1_15 x6_1).f3).length c238_3] 43 (0, 0)) (by (with_reducible repeat (first | refine blk_drewN ?_ _ | refine blk_drew ?_ | refine blk_alloc ?_ _)); exact BK239.out) hg (Kd.R_ne HO_5.out BK239.out (by decide))); have n2_ := Aside0.mk (Kd.R_after (ok := (fun _ => True)) (by (with_reducible repeat (first | apply Kd.R_alloc | apply Kd.R_drewN | apply Kd.R_drew)); exact HO242.out) hg hat); have n3_ := Aside0.mk (hb); have n4_ := Aside0.mk (ho); clear BK231; clear BK239; clear HO242; clear HB; clear HO_5; have BK231 := n0_; have BK239 := n1_; have HO242 := n2_; have HB := n3_; have HO245 := n4_; clear n0_ n1_ n2_ n3_ n4_; clear ho hb hg hat; have hcz26_0 : w24.cell? ⟨gb239, 0, none⟩ = some (.int .u16 ((rd_T43 l1_15 x6_1).f0)) := (blk_cell BK239.out 0).trans rfl; have hcz26_1 : w24.cell? ⟨gb239, 1, none⟩ = some (.int .u16 ((rd_T43 l1_15 x6_1).f1)) := (blk_cell BK239.out 1).trans rfl; have hcz26_2 : w24.cell? ⟨gb239, 2, none⟩ = some (.int .u16 ((rd_T43 l1_15 x6_1).f2)) := (blk_cell BK239.out 2).trans rfl; have hcz26_3 : w24.cell? ⟨gb239, 3, none⟩ = some (.slice A238_3 ((rd_T43 l1_15 x6_1).f3).length c238_3) := (blk_cell BK239.out 3).trans rfl; have hfz26_0 := blk_frozen BK239.out 0; have hfz26_1 := blk_frozen BK239.out 1; have hfz26_2 := blk_frozen BK239.out 2; have hfz26_3 := blk_frozen BK239.out 3) | ((with_reducible refine gate_callee (f := 57) rfl ?_); refine goesL_ (some 52) rfl rfl Try.func57 (by kernel_rfl) rfl #[.slice A238_3 ((rd_T43 l1_15 x6_1).f3).length c238_3] rfl (by (try simp only [List.map_toArray, List.map_cons, List.map_nil]); first | done | rfl | (simp only [List.length_drop, List.length_take]; rfl)) ?_; (with_reducible refine (busbarref04_Put.calls kj5 _ _ ((rd_T43 l1_15 x6_1).f3) t246 _ ?side1 ?side2 A18.out).mono ?_); (case side1 => repeat (first | exact (Kd.C_below HR238_3.out HB.out) | (with_reducible refine Kd.C_alloc ?_ _) | (with_reducible refine Kd.C_drewN ?_ _) | (with_reducible refine Kd.C_drew ?_))); (case side2 => exact HC238_3.out); rintro e w27 ⟨v247, rfl, ho0, hb⟩; refine ⟨_, rfl, ?_⟩; have n0_ := Aside0.mk (Kd.R_elder' (by (with_reducible repeat (first | apply Kd.R_alloc | apply Kd.R_drewN | apply Kd.R_drew)); exact HO242.out) (Kd.R_base ho0) hb); have n1_ := Aside0.mk (Kd.R_elder' (by (with_reducible repeat (first | apply Kd.R_alloc | apply Kd.R_drewN | apply Kd.R_drew)); exact HO245.out) (Kd.R_base ho0) hb); have n2_ := Aside0.mk (Kd.R_lower (Kd.R_new' (Kd.R_new' ho0 (Kd.R_lt (by (with_reducible repeat (first | apply Kd.R_alloc | apply Kd.R_drewN | apply Kd.R_drew)); exact HO242.out))) (Kd.R_lt (by (with_reducible repeat (first | apply Kd.R_alloc | apply Kd.R_drewN | apply Kd.R_drew)); exact HO245.out))) (below_size (by repeat (first | (with_reducible first | exact HB.out | apply below_alloc | apply pw_below_drewN | apply below_drew1 | refine below_set ?_ GE231.out | refine below_set ?_ GE239.out) | exact HB.out)))); have n3_ := Aside0.mk (blk_below (g := gb231) (o := .cells #[.int .u8 a1_0, .int .u8 a1_1, .int .u16 a1_2, .int .u16 a1_3, .int .u16 a1_4, .int .u16 a1_5, .int .u16 a1_6, .int .u16 a1_7, .int .u16 a1_8, .int .u16 a1_9, .int .u16 a1_10, .int .u16 a1_11, .slice A1_12 l1_12.length c1_12, .slice A1_13 l1_13.length c1_13, .slice A1_14 l1_14.length c1_14, .slice (some ad238) l1_15.length c1_15, .int .u8 a1_16, .int .u8 a1_17, .int .u8 a1_18, .int .u8 a1_19, .int .u8 a1_20, .slice A1_21 l1_21.length c1_21] 30 (0, 0)) (by (with_reducible repeat (first | refine blk_drewN ?_ _ | refine blk_drew ?_ | refine blk_alloc ?_ _)); exact BK231.out) hb); have n4_ := Aside0.mk (blk_below (g := gb239) (o := .cells #[.int .u16 ((rd_T43 l1_15 x6_1).f0), .int .u16 ((rd_T43 l1_15 x6_1).f1), .int .u16 ((rd_T43 l1_15 x6_1).f2), .slice A238_3 ((rd_T43 l1_15 x6_1).f3).length c238_3] 43 (0, 0)) (by (with_reducible repeat (first | refine blk_drewN ?_ _ | refine blk_drew ?_ | refine blk_alloc ?_ _)); exact BK239.out) hb); have n5_ := Aside0.mk (below_step (by repeat (first | (with_reducible first | exact HB.out | apply below_alloc | apply pw_below_drewN | apply below_drew1 | refine below_set ?_ GE231.out | refine below_set ?_ GE239.out) | exact HB.out)) hb); clear HO242; clear HO245; clear BK231; clear BK239; clear HB; have HO242 := n0_; have HO245 := n1_; have HO248 := n2_; have BK231 := n3_; have BK239 := n4_; have HB := n5_; clear n0_ n1_ n2_ n3_ n4_ n5_; (try clear hb); (try clear hb2); (try clear hk); (try clear hi); (try clear ho0); obtain ⟨Ao29, co29, eo29⟩ := Kd.R_slice HO248.out; subst eo29) | ((with_reducible refine gate_builtin (b := .append) (xs := #[.tmp 49, .tmp 52]) rfl ?_); at_builtin; refine Kd.R_append_rows (Kd.int .u8) (w0 := w) w.heap.size rfl (.tmp 49) (.tmp 52) 22 5 (.int .u8 0) 1 rfl Try.underlying22 info5 rfl (by decide) (by omega) v244 y243 t246 _ _ _ (fun k_ => some k_ ≠ (.slice Ao25 y240.length co25 : Value).ownBlock ∧ some k_ ≠ (.slice Ao29 t246.length co29 : Value).ownBlock) (fun _ => False) rfl rfl ?aO ?aR (fun _ _ h => h) (fun _ h => h.elim) ?aF ?aB ?aS ?aL ?_; (case aR => repeat (first | exact (Kd.R_reads' HO248.out).2.2 | (with_reducible refine Kd.C_alloc ?_ _) | (with_reducible refine Kd.C_drewN ?_ _) | (with_reducible refine Kd.C_drew ?_))); (case aB => exact (by repeat (first | (with_reducible first | exact HB.out | apply below_alloc | apply pw_below_drewN | apply below_drew1 | refine below_set ?_ GE231.out | refine below_set ?_ GE239.out) | exact HB.out))); (case aF => exact (fun k_ hk => ⟨Kd.fresh' (Kd.R_lt (by (with_reducible repeat (first | apply Kd.R_alloc | apply Kd.R_drewN | apply Kd.R_drew)); exact HO242.out)) k_ hk, Kd.fresh' (Kd.R_lt (by (with_reducible repeat (first | apply Kd.R_alloc | apply Kd.R_drewN | apply Kd.R_drew)); exact HO248.out)) k_ hk⟩)); (case aO => exact (by (with_reducible repeat (first | apply Kd.R_alloc | apply Kd.R_drewN | apply Kd.R_drew)); exact HO245.out)); (case aS => exact (below_size (by repeat (first | (with_reducible first | exact HB.out | apply below_alloc | apply pw_below_drewN | apply below_drew1 | refine below_set ?_ GE231.out | refine below_set ?_ GE239.out) | exact HB.out)))); (case aL => have := LMc19.out; omega); intro v250 w28 ho hb hg hat; rw [← Ny249.out] at ho; have n0_ := Aside0.mk (blk_grown (g := gb231) (o := .cells #[.int .u8 a1_0, .int .u8 a1_1, .int .u16 a1_2, .int .u16 a1_3, .int .u16 a1_4, .int .u16 a1_5, .int .u16 a1_6, .int .u16 a1_7, .int .u16 a1_8, .int .u16 a1_9, .int .u16 a1_10, .int .u16 a1_11, .slice A1_12 l1_12.length c1_12, .slice A1_13 l1_13.length c1_13, .slice A1_14 l1_14.length c1_14, .slice (some ad238) l1_15.length c1_15, .int .u8 a1_16, .int .u8 a1_17, .int .u8 a1_18, .int .u8 a1_19, .int .u8 a1_20, .slice A1_21 l1_21.length c1_21] 30 (0, 0)) (by (with_reducible repeat (first | refine blk_drewN ?_ _ | refine blk_drew ?_ | refine blk_alloc ?_ _)); exact BK231.out) hg (Kd.R_ne HO245.out BK231.out (by decide))); have n1_ := Aside0.mk (blk_grown (g := gb239) (o := .cells #[.int .u16 ((rd_T43 l1_15 x6_1).f0), .int .u16 ((rd_T43 l1_15 x6_1).f1), .int .u16 ((rd_T43 l1_15 x6_1).f2), .slice A238_3 ((rd_T43 l1_15 x6_1).f3).length c238_3] 43 (0, 0)) (by (with_reducible repeat (first | refine blk_drewN ?_ _ | refine blk_drew ?_ | refine blk_alloc ?_ _)); exact BK239.out) hg (Kd.R_ne HO245.out BK239.out (by decide))); have n2_ := Aside0.mk (Kd.R_after (ok := (fun k_ => some k_ ≠ (.slice Ao29 t246.length co29 : Value).ownBlock)) (by (with_reducible repeat (first | apply Kd.R_alloc | apply Kd.R_drewN | apply Kd.R_drew)); exact Kd.R_mono HO242.out (fun _ hk => ⟨hk.2, hk.1.2⟩)) hg hat); have n3_ := Aside0.mk (Kd.R_after (ok := (fun k_ => some k_ ≠ (.slice Ao25 y240.length co25 : Value).ownBlock)) (by (with_reducible repeat (first | apply Kd.R_alloc | apply Kd.R_drewN | apply Kd.R_drew)); exact Kd.R_mono HO248.out (fun _ hk => ⟨hk.1.2, hk.2⟩)) hg hat); have n4_ := Aside0.mk (hb); have n5_ := Aside0.mk (ho); clear BK231; clear BK239; clear HO242; clear HO248; clear HB; clear HO245; have BK231 := n0_; have BK239 := n1_; have HO242 := n2_; have HO248 := n3_; have HB := n4_; have HO251 := n5_; clear n0_ n1_ n2_ n3_ n4_ n5_; clear ho hb hg hat))
                    go_roundg kj5
                    case measure => have := HK1.out; have := HJ5.out; omega
                    case rel => exact ⟨(y249), (wrap64 (x6_1 + 1)), (by first | rfl | (simp; done) | (simp [*]; done)), H', ⟨by have := HK1.out; have := HJ5.out; omega⟩, ⟨by (with_reducible repeat (first | apply Kd.R_alloc | apply Kd.R_drewN | apply Kd.R_drew)); exact Kd.R_mono HO251.out (fun _ hk => trivial)⟩, ⟨by (with_reducible repeat (first | refine blk_drewN ?_ _ | refine blk_drew ?_ | refine blk_alloc ?_ _)); exact BK231.out⟩, ⟨by repeat (first | (with_reducible first | exact HB.out | apply below_alloc | apply pw_below_drewN | apply below_drew1 | refine below_set ?_ GE231.out | refine below_set ?_ GE239.out) | exact HB.out)⟩⟩
                  · rw [if_neg c19] at H
                    exact absurd H (by simp)
                · rw [if_neg c17] at H
                  exact absurd H (by simp)
              · replace c16 := Bool.eq_false_iff.mpr c16
                subst c16
                have H1 : (if x5_1.length < 140737488355328 then ((some (x5_1 ++ [6] : List Int)).bind fun y252 => ((busbarref04_Put.f kj5 (([((rd_T43 l1_15 x6_1).f0), ((rd_T43 l1_15 x6_1).f1), ((rd_T43 l1_15 x6_1).f2)] : List Int))).bind fun t258 => (if y252.length + t258.length < 140737488355328 then ((some (y252 ++ t258 : List Int)).bind fun y261 => ((busbarref04_Put.f kj5 ((rd_T43 l1_15 x6_1).f3)).bind fun t264 => (if y261.length + t264.length < 140737488355328 then (busbarref11_bytes.l0 kj5 a0 (y261 ++ t264) (wrap64 (x6_1 + 1)) a1_0 a1_1 a1_2 a1_3 a1_4 a1_5 a1_6 a1_7 a1_8 a1_9 a1_10 a1_11 l1_12 l1_13 l1_14 l1_15 a1_16 a1_17 a1_18 a1_19 a1_20 l1_21) else (none)))) else (none)))) else (none)) = some r := by rw [if_neg (show ¬ (false = true) by decide)] at H; exact H
                clear H
                have H := H1
                clear H1
                by_cases c30 : x5_1.length < 140737488355328
                · rw [if_pos c30] at H
                  have LMc30 := Aside0.mk c30
                  clear c30
                  obtain ⟨y252, hy252⟩ : ∃ y_ : List Int, y_ = (x5_1 ++ [6]) := ⟨_, rfl⟩
                  replace H : ((busbarref04_Put.f kj5 (([((rd_T43 l1_15 x6_1).f0), ((rd_T43 l1_15 x6_1).f1), ((rd_T43 l1_15 x6_1).f2)] : List Int))).bind fun t258 => (if y252.length + t258.length < 140737488355328 then ((some (y252 ++ t258 : List Int)).bind fun y261 => ((busbarref04_Put.f kj5 ((rd_T43 l1_15 x6_1).f3)).bind fun t264 => (if y261.length + t264.length < 140737488355328 then (busbarref11_bytes.l0 kj5 a0 (y261 ++ t264) (wrap64 (x6_1 + 1)) a1_0 a1_1 a1_2 a1_3 a1_4 a1_5 a1_6 a1_7 a1_8 a1_9 a1_10 a1_11 l1_12 l1_13 l1_14 l1_15 a1_16 a1_17 a1_18 a1_19 a1_20 l1_21) else (none)))) else (none))) = some r := by first | (rw [hy252]; with_reducible exact H) | (have H2_ := (Option.bind_some _ _).symm.trans H; rw [hy252]; with_reducible exact H2_) | (have H2_ := (Option.bind_some _ _).symm.trans H; with_reducible exact H2_) | with_reducible exact H | (rw [hy252]; exact H) | exact H
                  have Ny252 := Aside0.mk hy252
                  clear hy252
                  obtain ⟨y255, hy255⟩ : ∃ y_ : List Int, y_ = (([((rd_T43 l1_15 x6_1).f0), ((rd_T43 l1_15 x6_1).f1), ((rd_T43 l1_15 x6_1).f2)] : List Int)) := ⟨_, rfl⟩
                  replace H : ((busbarref04_Put.f kj5 y255).bind fun t258 => (if y252.length + t258.length < 140737488355328 then ((some (y252 ++ t258 : List Int)).bind fun y261 => ((busbarref04_Put.f kj5 ((rd_T43 l1_15 x6_1).f3)).bind fun t264 => (if y261.length + t264.length < 140737488355328 then (busbarref11_bytes.l0 kj5 a0 (y261 ++ t264) (wrap64 (x6_1 + 1)) a1_0 a1_1 a1_2 a1_3 a1_4 a1_5 a1_6 a1_7 a1_8 a1_9 a1_10 a1_11 l1_12 l1_13 l1_14 l1_15 a1_16 a1_17 a1_18 a1_19 a1_20 l1_21) else (none)))) else (none))) = some r := by first | (rw [hy255]; with_reducible exact H) | (have H2_ := (Option.bind_some _ _).symm.trans H; rw [hy255]; with_reducible exact H2_) | (have H2_ := (Option.bind_some _ _).symm.trans H; with_reducible exact H2_) | with_reducible exact H | (rw [hy255]; exact H) | exact H
                  have Ny255 := Aside0.mk hy255
                  clear hy255
                  replace H := Option.bind_eq_some_iff.mp H
                  obtain ⟨t258, A310, H⟩ := H
                  replace H : (if y252.length + t258.length < 140737488355328 then ((some (y252 ++ t258 : List Int)).bind fun y261 => ((busbarref04_Put.f kj5 ((rd_T43 l1_15 x6_1).f3)).bind fun t264 => (if y261.length + t264.length < 140737488355328 then (busbarref11_bytes.l0 kj5 a0 (y261 ++ t264) (wrap64 (x6_1 + 1)) a1_0 a1_1 a1_2 a1_3 a1_4 a1_5 a1_6 a1_7 a1_8 a1_9 a1_10 a1_11 l1_12 l1_13 l1_14 l1_15 a1_16 a1_17 a1_18 a1_19 a1_20 l1_21) else (none)))) else (none)) = some r := H
                  have A31 := Aside0.mk A310
                  clear A310
                  by_cases c32 : y252.length + t258.length < 140737488355328
                  · rw [if_pos c32] at H
                    have LMc32 := Aside0.mk c32
                    clear c32
                    obtain ⟨y261, hy261⟩ : ∃ y_ : List Int, y_ = (y252 ++ t258) := ⟨_, rfl⟩
                    replace H : ((busbarref04_Put.f kj5 ((rd_T43 l1_15 x6_1).f3)).bind fun t264 => (if y261.length + t264.length < 140737488355328 then (busbarref11_bytes.l0 kj5 a0 (y261 ++ t264) (wrap64 (x6_1 + 1)) a1_0 a1_1 a1_2 a1_3 a1_4 a1_5 a1_6 a1_7 a1_8 a1_9 a1_10 a1_11 l1_12 l1_13 l1_14 l1_15 a1_16 a1_17 a1_18 a1_19 a1_20 l1_21) else (none))) = some r := by first | (rw [hy261]; with_reducible exact H) | (have H2_ := (Option.bind_some _ _).symm.trans H; rw [hy261]; with_reducible exact H2_) | (have H2_ := (Option.bind_some _ _).symm.trans H; with_reducible exact H2_) | with_reducible exact H | (rw [hy261]; exact H) | exact H
                    have Ny261 := Aside0.mk hy261
                    clear hy261
                    replace H := Option.bind_eq_some_iff.mp H
                    obtain ⟨t264, A330, H⟩ := H
                    replace H : (if y261.length + t264.length < 140737488355328 then (busbarref11_bytes.l0 kj5 a0 (y261 ++ t264) (wrap64 (x6_1 + 1)) a1_0 a1_1 a1_2 a1_3 a1_4 a1_5 a1_6 a1_7 a1_8 a1_9 a1_10 a1_11 l1_12 l1_13 l1_14 l1_15 a1_16 a1_17 a1_18 a1_19 a1_20 l1_21) else (none)) = some r := H
                    have A33 := Aside0.mk A330
                    clear A330
                    by_cases c34 : y261.length + t264.length < 140737488355328
                    · rw [if_pos c34] at H
                      have LMc34 := Aside0.mk c34
                      clear c34
                      obtain ⟨y267, hy267⟩ : ∃ y_ : List Int, y_ = (y261 ++ t264) := ⟨_, rfl⟩
                      replace H : (busbarref11_bytes.l0 kj5 a0 y267 (wrap64 (x6_1 + 1)) a1_0 a1_1 a1_2 a1_3 a1_4 a1_5 a1_6 a1_7 a1_8 a1_9 a1_10 a1_11 l1_12 l1_13 l1_14 l1_15 a1_16 a1_17 a1_18 a1_19 a1_20 l1_21) = some r := by first | (rw [hy267]; with_reducible exact H) | (have H2_ := (Option.bind_some _ _).symm.trans H; rw [hy267]; with_reducible exact H2_) | (have H2_ := (Option.bind_some _ _).symm.trans H; with_reducible exact H2_) | with_reducible exact H | (rw [hy267]; exact H) | exact H
                      have Ny267 := Aside0.mk hy267
                      clear hy267
                      have H' := Aside0.mk H
                      clear H
                      go_wp2_with (first | ((with_reducible refine gate_builtin (b := .append) (xs := #[.tmp 36, .tmp 37]) rfl ?_); at_builtin; refine Kd.R_append (Kd.int .u8) (w0 := w) w.heap.size rfl (.tmp 36) (.tmp 37) 22 5 (.int .u8 0) 1 rfl Try.underlying22 info5 rfl (by decide) (by omega) u5 x5_1 6 [.int .u8 6] (fun _ => True) (fun _ => False) rfl rfl ?aP (fun _ hk => hk.elim) ?aF ?aO ?aB ?aS ?aL ?_; (case aP => exact rfl); (case aB => exact (by repeat (first | (with_reducible first | exact HB.out | apply below_alloc | apply pw_below_drewN | apply below_drew1 | refine below_set ?_ GE231.out | refine below_set ?_ GE239.out) | exact HB.out))); (case aF => exact (fun _ _ => trivial)); (case aO => exact (by (with_reducible repeat (first | apply Kd.R_alloc | apply Kd.R_drewN | apply Kd.R_drew)); exact HO_5.out)); (case aS => exact (below_size (by repeat (first | (with_reducible first | exact HB.out | apply below_alloc | apply pw_below_drewN | apply below_drew1 | refine below_set ?_ GE231.out | refine below_set ?_ GE239.out) | exact HB.out)))); (case aL => have := LMc30.out; omega); intro v253 w35 ho hb hg hat; rw [← Ny252.out] at ho; have n0_ := Aside0.mk (blk_grown (g := gb231) (o := .cells #[.int .u8 a1_0, .int .u8 a1_1, .int .u16 a1_2, .int .u16 a1_3, .int .u16 a1_4, .int .u16 a1_5, .int .u16 a1_6, .int .u16 a1_7, .int .u16 a1_8, .int .u16 a1_9, .int .u16 a1_10, .int .u16 a1_11, .slice A1_12 l1_12.length c1_12, .slice A1_13 l1_13.length c1_13, .slice A1_14 l1_14.length c1_14, .slice (some ad238) l1_15.length c1_15, .int .u8 a1_16, .int .u8 a1_17, .int .u8 a1_18, .int .u8 a1_19, .int .u8 a1_20, .slice A1_21 l1_21.length c1_21] 30 (0, 0)) (by (with_reducible repeat (first | refine blk_drewN ?_ _ | refine blk_drew ?_ | refine blk_alloc ?_ _)); exact BK231.out) hg (Kd.R_ne HO_5.out BK231.out (by decide))); have n1_ := Aside0.mk (blk_grown (g := gb239) (o := .cells #[.int .u16 ((rd_T43 l1_15 x6_1).f0), .int .u16 ((rd_T43 l1_15 x6_1).f1), .int .u16 ((rd_T43 l1_15 x6_1).f2), .slice A238_3 ((rd_T43 l1_15 x6_1).f3).length c238_3] 43 (0, 0)) (by (with_reducible repeat (first | refine blk_drewN ?_ _ | refine blk_drew ?_ | refine blk_alloc ?_ _)); exact BK239.out) hg (Kd.R_ne HO_5.out BK239.out (by decide))); have n2_ := Aside0.mk (hb); have n3_ := Aside0.mk (ho); clear BK231; clear BK239; clear HB; clear HO_5; have BK231 := n0_; have BK239 := n1_; have HB := n2_; have HO254 := n3_; clear n0_ n1_ n2_ n3_; clear ho hb hg hat; have hnb36 := NB239_231.out; have hnc36 := NB231_239.out; have hcz37_0 : w35.cell? ⟨gb239, 0, none⟩ = some (.int .u16 ((rd_T43 l1_15 x6_1).f0)) := (blk_cell BK239.out 0).trans rfl; have hcz37_1 : w35.cell? ⟨gb239, 1, none⟩ = some (.int .u16 ((rd_T43 l1_15 x6_1).f1)) := (blk_cell BK239.out 1).trans rfl; have hcz37_2 : w35.cell? ⟨gb239, 2, none⟩ = some (.int .u16 ((rd_T43 l1_15 x6_1).f2)) := (blk_cell BK239.out 2).trans rfl; have hcz37_3 : w35.cell? ⟨gb239, 3, none⟩ = some (.slice A238_3 ((rd_T43 l1_15 x6_1).f3).length c238_3) := (blk_cell BK239.out 3).trans rfl; have hfz37_0 := blk_frozen BK239.out 0; have hfz37_1 := blk_frozen BK239.out 1; have hfz37_2 := blk_frozen BK239.out 2; have hfz37_3 := blk_frozen BK239.out 3) | ((with_reducible refine gate_dst (N := 46) rfl ?_); refine Kd.R_lit (Kd.int .u16) _ 24 ?hg (N := 46) ?hd (xs := ([((rd_T43 l1_15 x6_1).f0), ((rd_T43 l1_15 x6_1).f1), ((rd_T43 l1_15 x6_1).f2)] : List Int)) (inner := [.int .u16 ((rd_T43 l1_15 x6_1).f0), .int .u16 ((rd_T43 l1_15 x6_1).f1), .int .u16 ((rd_T43 l1_15 x6_1).f2)]) (ok := fun _ => True) (okp := fun _ => True) ?hr ?hp (fun _ hk => hk) trivial (Below.refl _ _) (Nat.le_refl _) (by simp) ?_; (case hd => rfl); (case hg => rfl); (case hr => first | (go_simp; done) | (go_simp; rfl)); (case hp => exact (Reps.one (show Kd.M (Kd.int .u16) _ _ _ ((rd_T43 l1_15 x6_1).f0) [.int .u16 ((rd_T43 l1_15 x6_1).f0)] from rfl) (Reps.one (show Kd.M (Kd.int .u16) _ _ _ ((rd_T43 l1_15 x6_1).f1) [.int .u16 ((rd_T43 l1_15 x6_1).f1)] from rfl) (Reps.one (show Kd.M (Kd.int .u16) _ _ _ ((rd_T43 l1_15 x6_1).f2) [.int .u16 ((rd_T43 l1_15 x6_1).f2)] from rfl) (Reps.none _ _))))); intro v256 w38 ho39 hb hg_ hnew_; clear hg_ hnew_; (first | rw [← Ny255.out] at ho39 | (simp only [Int.reduceToNat] at ho39; rw [← Ny255.out] at ho39)); have n0_ := Aside0.mk (Kd.R_below (by (with_reducible repeat (first | apply Kd.R_alloc | apply Kd.R_drewN | apply Kd.R_drew)); exact HO254.out) hb); have n1_ := Aside0.mk (Kd.R_lower ho39 (below_size (by repeat (first | (with_reducible first | exact HB.out | apply below_alloc | apply pw_below_drewN | apply below_drew1 | refine below_set ?_ GE231.out | refine below_set ?_ GE239.out) | exact HB.out)))); have n2_ := Aside0.mk (blk_below (g := gb231) (o := .cells #[.int .u8 a1_0, .int .u8 a1_1, .int .u16 a1_2, .int .u16 a1_3, .int .u16 a1_4, .int .u16 a1_5, .int .u16 a1_6, .int .u16 a1_7, .int .u16 a1_8, .int .u16 a1_9, .int .u16 a1_10, .int .u16 a1_11, .slice A1_12 l1_12.length c1_12, .slice A1_13 l1_13.length c1_13, .slice A1_14 l1_14.length c1_14, .slice (some ad238) l1_15.length c1_15, .int .u8 a1_16, .int .u8 a1_17, .int .u8 a1_18, .int .u8 a1_19, .int .u8 a1_20, .slice A1_21 l1_21.length c1_21] 30 (0, 0)) (by (with_reducible repeat (first | refine blk_drewN ?_ _ | refine blk_drew ?_ | refine blk_alloc ?_ _)); exact BK231.out) hb); have n3_ := Aside0.mk (blk_below (g := gb239) (o := .cells #[.int .u16 ((rd_T43 l1_15 x6_1).f0), .int .u16 ((rd_T43 l1_15 x6_1).f1), .int .u16 ((rd_T43 l1_15 x6_1).f2), .slice A238_3 ((rd_T43 l1_15 x6_1).f3).length c238_3] 43 (0, 0)) (by (with_reducible repeat (first | refine blk_drewN ?_ _ | refine blk_drew ?_ | refine blk_alloc ?_ _)); exact BK239.out) hb); have n4_ := Aside0.mk (below_step (by repeat (first | (with_reducible first | exact HB.out | apply below_alloc | apply pw_below_drewN | apply below_drew1 | refine below_set ?_ GE231.out | refine below_set ?_ GE239.out) | exact HB.out)) hb); clear HO254; clear BK231; clear BK239; clear HB; have HO254 := n0_; have HO257 := n1_; have BK231 := n2_; have BK239 := n3_; have HB := n4_; clear n0_ n1_ n2_ n3_ n4_; clear hb ho39; obtain ⟨Ao40, co40, eo40⟩ := Kd.R_slice HO257.out; subst eo40) | ((with_reducible refine gate_callee (f := 57) rfl ?_); refine goesL_ (some 47) rfl rfl Try.func57 (by kernel_rfl) rfl #[.slice Ao40 y255.length co40] rfl (by (try simp only [List.map_toArray, List.map_cons, List.map_nil]); first | done | rfl | (simp only [List.length_drop, List.length_take]; rfl)) ?_; (with_reducible refine (busbarref04_Put.calls kj5 _ _ y255 t258 _ ?side1 ?side2 A31.out).mono ?_); (case side1 => repeat (first | exact (Kd.R_reads' HO257.out).2.2 | (with_reducible refine Kd.C_alloc ?_ _) | (with_reducible refine Kd.C_drewN ?_ _) | (with_reducible refine Kd.C_drew ?_))); (case side2 => exact (Kd.R_reads' HO257.out).2.1); rintro e w41 ⟨v259, rfl, ho0, hb⟩; refine ⟨_, rfl, ?_⟩; have n0_ := Aside0.mk (Kd.R_elder' (by (with_reducible repeat (first | apply Kd.R_alloc | apply Kd.R_drewN | apply Kd.R_drew)); exact HO254.out) (Kd.R_base ho0) hb); have n1_ := Aside0.mk (Kd.R_below (by (with_reducible repeat (first | apply Kd.R_alloc | apply Kd.R_drewN | apply Kd.R_drew)); exact HO257.out) hb); have n2_ := Aside0.mk (Kd.R_lower (Kd.R_new' ho0 (Kd.R_lt (by (with_reducible repeat (first | apply Kd.R_alloc | apply Kd.R_drewN | apply Kd.R_drew)); exact HO254.out))) (below_size (by repeat (first | (with_reducible first | exact HB.out | apply below_alloc | apply pw_below_drewN | apply below_drew1 | refine below_set ?_ GE231.out | refine below_set ?_ GE239.out) | exact HB.out)))); have n3_ := Aside0.mk (blk_below (g := gb231) (o := .cells #[.int .u8 a1_0, .int .u8 a1_1, .int .u16 a1_2, .int .u16 a1_3, .int .u16 a1_4, .int .u16 a1_5, .int .u16 a1_6, .int .u16 a1_7, .int .u16 a1_8, .int .u16 a1_9, .int .u16 a1_10, .int .u16 a1_11, .slice A1_12 l1_12.length c1_12, .slice A1_13 l1_13.length c1_13, .slice A1_14 l1_14.length c1_14, .slice (some ad238) l1_15.length c1_15, .int .u8 a1_16, .int .u8 a1_17, .int .u8 a1_18, .int .u8 a1_19, .int .u8 a1_20, .slice A1_21 l1_21.length c1_21] 30 (0, 0)) (by (with_reducible repeat (first | refine blk_drewN ?_ _ | refine blk_drew ?_ | refine blk_alloc ?_ _)); exact BK231.out) hb); have n4_ := Aside0.mk (blk_below (g := gb239) (o := .cells #[.int .u16 ((rd_T43 l1_15 x6_1).f0), .int .u16 ((rd_T43 l1_15 x6_1).f1), .int .u16 ((rd_T43 l1_15 x6_1).f2), .slice A238_3 ((rd_T43 l1_15 x6_1).f3).length c238_3] 43 (0, 0)) (by (with_reducible repeat (first | refine blk_drewN ?_ _ | refine blk_drew ?_ | refine blk_alloc ?_ _)); exact BK239.out) hb); have n5_ := Aside0.mk (below_step (by repeat (first | (with_reducible first | exact HB.out | apply below_alloc | apply pw_below_drewN | apply below_drew1 | refine below_set ?_ GE231.out | refine below_set ?_ GE239.out) | exact HB.out)) hb); clear HO254; clear HO257; clear BK231; clear BK239; clear HB; have HO254 := n0_; have HO257 := n1_; have HO260 := n2_; have BK231 := n3_; have BK239 := n4_; have HB := n5_; clear n0_ n1_ n2_ n3_ n4_ n5_; (try clear hb); (try clear hb2); (try clear hk); (try clear hi); (try clear ho0); obtain ⟨Ao43, co43, eo43⟩ := Kd.R_slice HO260.out; subst eo43) | ((with_reducible refine gate_builtin (b := .append) (xs := #[.tmp 39, .tmp 47]) rfl ?_); at_builtin; refine Kd.R_append_rows (Kd.int .u8) (w0 := w) w.heap.size rfl (.tmp 39) (.tmp 47) 22 5 (.int .u8 0) 1 rfl Try.underlying22 info5 rfl (by decide) (by omega) v253 y252 t258 _ _ _ (fun k_ => some k_ ≠ (.slice Ao43 t258.length co43 : Value).ownBlock) (fun _ => False) rfl rfl ?aO ?aR (fun _ _ h => h) (fun _ h => h.elim) ?aF ?aB ?aS ?aL ?_; (case aR => repeat (first | exact (Kd.R_reads' HO260.out).2.2 | (with_reducible refine Kd.C_alloc ?_ _) | (with_reducible refine Kd.C_drewN ?_ _) | (with_reducible refine Kd.C_drew ?_))); (case aB => exact (by repeat (first | (with_reducible first | exact HB.out | apply below_alloc | apply pw_below_drewN | apply below_drew1 | refine below_set ?_ GE231.out | refine below_set ?_ GE239.out) | exact HB.out))); (case aF => exact (fun k_ hk => Kd.fresh' (Kd.R_lt (by (with_reducible repeat (first | apply Kd.R_alloc | apply Kd.R_drewN | apply Kd.R_drew)); exact HO260.out)) k_ hk)); (case aO => exact (by (with_reducible repeat (first | apply Kd.R_alloc | apply Kd.R_drewN | apply Kd.R_drew)); exact Kd.R_mono HO254.out (fun _ hk => hk.2))); (case aS => exact (below_size (by repeat (first | (with_reducible first | exact HB.out | apply below_alloc | apply pw_below_drewN | apply below_drew1 | refine below_set ?_ GE231.out | refine below_set ?_ GE239.out) | exact HB.out)))); (case aL => have := LMc32.out; omega); intro v262 w42 ho hb hg hat; rw [← Ny261.out] at ho; have n0_ := Aside0.mk (blk_grown (g := gb231) (o := .cells #[.int .u8 a1_0, .int .u8 a1_1, .int .u16 a1_2, .int .u16 a1_3, .int .u16 a1_4, .int .u16 a1_5, .int .u16 a1_6, .int .u16 a1_7, .int .u16 a1_8, .int .u16 a1_9, .int .u16 a1_10, .int .u16 a1_11, .slice A1_12 l1_12.length c1_12, .slice A1_13 l1_13.length c1_13, .slice A1_14 l1_14.length c1_14, .slice (some ad238) l1_15.length c1_15, .int .u8 a1_16, .int .u8 a1_17, .int .u8 a1_18, .int .u8 a1_19, .int .u8 a1_20, .slice A1_21 l1_21.length c1_21] 30 (0, 0)) (by (with_reducible repeat (first | refine blk_drewN ?_ _ | refine blk_drew ?_ | refine blk_alloc ?_ _)); exact BK231.out) hg (Kd.R_ne HO254.out BK231.out (by decide))); have n1_ := Aside0.mk (blk_grown (g := gb239) (o := .cells #[.int .u16 ((rd_T43 l1_15 x6_1).f0), .int .u16 ((rd_T43 l1_15 x6_1).f1), .int .u16 ((rd_T43 l1_15 x6_1).f2), .slice A238_3 ((rd_T43 l1_15 x6_1).f3).length c238_3] 43 (0, 0)) (by (with_reducible repeat (first | refine blk_drewN ?_ _ | refine blk_drew ?_ | refine blk_alloc ?_ _)); exact BK239.out) hg (Kd.R_ne HO254.out BK239.out (by decide))); have n2_ := Aside0.mk (Kd.R_over' (by (with_reducible repeat (first | apply Kd.R_alloc | apply Kd.R_drewN | apply Kd.R_drew)); exact HO257.out) (Kd.R_typed (by (with_reducible repeat (first | apply Kd.R_alloc | apply Kd.R_drewN | apply Kd.R_drew)); exact HO254.out)) (by decide) hg); have n3_ := Aside0.mk (Kd.R_after (ok := (fun _ => True)) (by (with_reducible repeat (first | apply Kd.R_alloc | apply Kd.R_drewN | apply Kd.R_drew)); exact HO260.out) hg hat); have n4_ := Aside0.mk (hb); have n5_ := Aside0.mk (ho); clear BK231; clear BK239; clear HO257; clear HO260; clear HB; clear HO254; have BK231 := n0_; have BK239 := n1_; have HO257 := n2_; have HO260 := n3_; have HB := n4_; have HO263 := n5_; clear n0_ n1_ n2_ n3_ n4_ n5_; clear ho hb hg hat; have hcz44_0 : w42.cell? ⟨gb239, 0, none⟩ = some (.int .u16 ((rd_T43 l1_15 x6_1).f0)) := (blk_cell BK239.out 0).trans rfl; have hcz44_1 : w42.cell? ⟨gb239, 1, none⟩ = some (.int .u16 ((rd_T43 l1_15 x6_1).f1)) := (blk_cell BK239.out 1).trans rfl; have hcz44_2 : w42.cell? ⟨gb239, 2, none⟩ = some (.int .u16 ((rd_T43 l1_15 x6_1).f2)) := (blk_cell BK239.out 2).trans rfl; have hcz44_3 : w42.cell? ⟨gb239, 3, none⟩ = some (.slice A238_3 ((rd_T43 l1_15 x6_1).f3).length c238_3) := (blk_cell BK239.out 3).trans rfl; have hfz44_0 := blk_frozen BK239.out 0; have hfz44_1 := blk_frozen BK239.out 1; have hfz44_2 := blk_frozen BK239.out 2; have hfz44_3 := blk_frozen BK239.out 3) | ((with_reducible refine gate_callee (f := 57) rfl ?_); refine goesL_ (some 52) rfl rfl Try.func57 (by kernel_rfl) rfl #[.slice A238_3 ((rd_T43 l1_15 x6_1).f3).length c238_3] rfl (by (try simp only [List.map_toArray, List.map_cons, List.map_nil]); first | done | rfl | (simp only [List.length_drop, List.length_take]; rfl)) ?_; (with_reducible refine (busbarref04_Put.calls kj5 _ _ ((rd_T43 l1_15 x6_1).f3) t264 _ ?side1 ?side2 A33.out).mono ?_); (case side1 => repeat (first | exact (Kd.C_below HR238_3.out HB.out) | (with_reducible refine Kd.C_alloc ?_ _) | (with_reducible refine Kd.C_drewN ?_ _) | (with_reducible refine Kd.C_drew ?_))); (case side2 => exact HC238_3.out); rintro e w45 ⟨v265, rfl, ho0, hb⟩; refine ⟨_, rfl, ?_⟩; have n0_ := Aside0.mk (Kd.R_below (by (with_reducible repeat (first | apply Kd.R_alloc | apply Kd.R_drewN | apply Kd.R_drew)); exact HO257.out) hb); have n1_ := Aside0.mk (Kd.R_elder' (by (with_reducible repeat (first | apply Kd.R_alloc | apply Kd.R_drewN | apply Kd.R_drew)); exact HO260.out) (Kd.R_base ho0) hb); have n2_ := Aside0.mk (Kd.R_elder' (by (with_reducible repeat (first | apply Kd.R_alloc | apply Kd.R_drewN | apply Kd.R_drew)); exact HO263.out) (Kd.R_base ho0) hb); have n3_ := Aside0.mk (Kd.R_lower (Kd.R_new' (Kd.R_new' ho0 (Kd.R_lt (by (with_reducible repeat (first | apply Kd.R_alloc | apply Kd.R_drewN | apply Kd.R_drew)); exact HO260.out))) (Kd.R_lt (by (with_reducible repeat (first | apply Kd.R_alloc | apply Kd.R_drewN | apply Kd.R_drew)); exact HO263.out))) (below_size (by repeat (first | (with_reducible first | exact HB.out | apply below_alloc | apply pw_below_drewN | apply below_drew1 | refine below_set ?_ GE231.out | refine below_set ?_ GE239.out) | exact HB.out)))); have n4_ := Aside0.mk (blk_below (g := gb231) (o := .cells #[.int .u8 a1_0, .int .u8 a1_1, .int .u16 a1_2, .int .u16 a1_3, .int .u16 a1_4, .int .u16 a1_5, .int .u16 a1_6, .int .u16 a1_7, .int .u16 a1_8, .int .u16 a1_9, .int .u16 a1_10, .int .u16 a1_11, .slice A1_12 l1_12.length c1_12, .slice A1_13 l1_13.length c1_13, .slice A1_14 l1_14.length c1_14, .slice (some ad238) l1_15.length c1_15, .int .u8 a1_16, .int .u8 a1_17, .int .u8 a1_18, .int .u8 a1_19, .int .u8 a1_20, .slice A1_21 l1_21.length c1_21] 30 (0, 0)) (by (with_reducible repeat (first | refine blk_drewN ?_ _ | refine blk_drew ?_ | refine blk_alloc ?_ _)); exact BK231.out) hb); have n5_ := Aside0.mk (blk_below (g := gb239) (o := .cells #[.int .u16 ((rd_T43 l1_15 x6_1).f0), .int .u16 ((rd_T43 l1_15 x6_1).f1), .int .u16 ((rd_T43 l1_15 x6_1).f2), .slice A238_3 ((rd_T43 l1_15 x6_1).f3).length c238_3] 43 (0, 0)) (by (with_reducible repeat (first | refine blk_drewN ?_ _ | refine blk_drew ?_ | refine blk_alloc ?_ _)); exact BK239.out) hb); have n6_ := Aside0.mk (below_step (by repeat (first | (with_reducible first | exact HB.out | apply below_alloc | apply pw_below_drewN | apply below_drew1 | refine below_set ?_ GE231.out | refine below_set ?_ GE239.out) | exact HB.out)) hb); clear HO257; clear HO260; clear HO263; clear BK231; clear BK239; clear HB; have HO257 := n0_; have HO260 := n1_; have HO263 := n2_; have HO266 := n3_; have BK231 := n4_; have BK239 := n5_; have HB := n6_; clear n0_ n1_ n2_ n3_ n4_ n5_ n6_; (try clear hb); (try clear hb2); (try clear hk); (try clear hi); (try clear ho0); obtain ⟨Ao47, co47, eo47⟩ := Kd.R_slice HO266.out; subst eo47) | ((with_reducible refine gate_builtin (b := .append) (xs := #[.tmp 49, .tmp 52]) rfl ?_); at_builtin; refine Kd.R_append_rows (Kd.int .u8) (w0 := w) w.heap.size rfl (.tmp 49) (.tmp 52) 22 5 (.int .u8 0) 1 rfl Try.underlying22 info5 rfl (by decide) (by omega) v262 y261 t264 _ _ _ (fun k_ => some k_ ≠ (.slice Ao43 t258.length co43 : Value).ownBlock ∧ some k_ ≠ (.slice Ao47 t264.length co47 : Value).ownBlock) (fun _ => False) rfl rfl ?aO ?aR (fun _ _ h => h) (fun _ h => h.elim) ?aF ?aB ?aS ?aL ?_; (case aR => repeat (first | exact (Kd.R_reads' HO266.out).2.2 | (with_reducible refine Kd.C_alloc ?_ _) | (with_reducible refine Kd.C_drewN ?_ _) | (with_reducible refine Kd.C_drew ?_))); (case aB => exact (by repeat (first | (with_reducible first | exact HB.out | apply below_alloc | apply pw_below_drewN | apply below_drew1 | refine below_set ?_ GE231.out | refine below_set ?_ GE239.out) | exact HB.out))); (case aF => exact (fun k_ hk => ⟨Kd.fresh' (Kd.R_lt (by (with_reducible repeat (first | apply Kd.R_alloc | apply Kd.R_drewN | apply Kd.R_drew)); exact HO260.out)) k_ hk, Kd.fresh' (Kd.R_lt (by (with_reducible repeat (first | apply Kd.R_alloc | apply Kd.R_drewN | apply Kd.R_drew)); exact HO266.out)) k_ hk⟩)); (case aO => exact (by (with_reducible repeat (first | apply Kd.R_alloc | apply Kd.R_drewN | apply Kd.R_drew)); exact HO263.out)); (case aS => exact (below_size (by repeat (first | (with_reducible first | exact HB.out | apply below_alloc | apply pw_below_drewN | apply below_drew1 | refine below_set ?_ GE231.out | refine below_set ?_ GE239.out) | exact HB.out)))); (case aL => have := LMc34.out; omega); intro v268 w46 ho hb hg hat; rw [← Ny267.out] at ho; have n0_ := Aside0.mk (blk_grown (g := gb231) (o := .cells #[.int .u8 a1_0, .int .u8 a1_1, .int .u16 a1_2, .int .u16 a1_3, .int .u16 a1_4, .int .u16 a1_5, .int .u16 a1_6, .int .u16 a1_7, .int .u16 a1_8, .int .u16 a1_9, .int .u16 a1_10, .int .u16 a1_11, .slice A1_12 l1_12.length c1_12, .slice A1_13 l1_13.length c1_13, .slice A1_14 l1_14.length c1_14, .slice (some ad238) l1_15.length c1_15, .int .u8 a1_16, .int .u8 a1_17, .int .u8 a1_18, .int .u8 a1_19, .int .u8 a1_20, .slice A1_21 l1_21.length c1_21] 30 (0, 0)) (by (with_reducible repeat (first | refine blk_drewN ?_ _ | refine blk_drew ?_ | refine blk_alloc ?_ _)); exact BK231.out) hg (Kd.R_ne HO263.out BK231.out (by decide))); have n1_ := Aside0.mk (blk_grown (g := gb239) (o := .cells #[.int .u16 ((rd_T43 l1_15 x6_1).f0), .int .u16 ((rd_T43 l1_15 x6_1).f1), .int .u16 ((rd_T43 l1_15 x6_1).f2), .slice A238_3 ((rd_T43 l1_15 x6_1).f3).length c238_3] 43 (0, 0)) (by (with_reducible repeat (first | refine blk_drewN ?_ _ | refine blk_drew ?_ | refine blk_alloc ?_ _)); exact BK239.out) hg (Kd.R_ne HO263.out BK239.out (by decide))); have n2_ := Aside0.mk (Kd.R_over' (by (with_reducible repeat (first | apply Kd.R_alloc | apply Kd.R_drewN | apply Kd.R_drew)); exact HO257.out) (Kd.R_typed (by (with_reducible repeat (first | apply Kd.R_alloc | apply Kd.R_drewN | apply Kd.R_drew)); exact HO263.out)) (by decide) hg); have n3_ := Aside0.mk (Kd.R_after (ok := (fun k_ => some k_ ≠ (.slice Ao47 t264.length co47 : Value).ownBlock)) (by (with_reducible repeat (first | apply Kd.R_alloc | apply Kd.R_drewN | apply Kd.R_drew)); exact Kd.R_mono HO260.out (fun _ hk => ⟨hk.2, hk.1.2⟩)) hg hat); have n4_ := Aside0.mk (Kd.R_after (ok := (fun k_ => some k_ ≠ (.slice Ao43 t258.length co43 : Value).ownBlock)) (by (with_reducible repeat (first | apply Kd.R_alloc | apply Kd.R_drewN | apply Kd.R_drew)); exact Kd.R_mono HO266.out (fun _ hk => ⟨hk.1.2, hk.2⟩)) hg hat); have n5_ := Aside0.mk (hb); have n6_ := Aside0.mk (ho); clear BK231; clear BK239; clear HO257; clear HO260; clear HO266; clear HB; clear HO263; have BK231 := n0_; have BK239 := n1_; have HO257 := n2_; have HO260 := n3_; have HO266 := n4_; have HB := n5_; have HO269 := n6_; clear n0_ n1_ n2_ n3_ n4_ n5_ n6_; clear ho hb hg hat))
                      go_roundg kj5
                      case measure => have := HK1.out; have := HJ5.out; omega
                      case rel => exact ⟨(y267), (wrap64 (x6_1 + 1)), (by first | rfl | (simp; done) | (simp [*]; done)), H', ⟨by have := HK1.out; have := HJ5.out; omega⟩, ⟨by (with_reducible repeat (first | apply Kd.R_alloc | apply Kd.R_drewN | apply Kd.R_drew)); exact Kd.R_mono HO269.out (fun _ hk => trivial)⟩, ⟨by (with_reducible repeat (first | refine blk_drewN ?_ _ | refine blk_drew ?_ | refine blk_alloc ?_ _)); exact BK231.out⟩, ⟨by repeat (first | (with_reducible first | exact HB.out | apply below_alloc | apply pw_below_drewN | apply below_drew1 | refine below_set ?_ GE231.out | refine below_set ?_ GE239.out) | exact HB.out)⟩⟩
                    · rw [if_neg c34] at H
                      exact absurd H (by simp)
                  · rw [if_neg c32] at H
                    exact absurd H (by simp)
                · rw [if_neg c30] at H
                  exact absurd H (by simp)
        · rw [if_neg c5] at H
          exact absurd H (by simp)
      · rw [if_neg c4] at H
        have c4b0 : decide (x6_1 < (l1_15.length : Int)) = false := decide_eq_false c4
        clear c4
        obtain ⟨y232, hy232⟩ : ∃ y_ : List Int, y_ = (([((x5_1.length : Int)) % 256] : List Int)) := ⟨_, rfl⟩
        replace H : (if y232.length + x5_1.length < 140737488355328 then (some (y232 ++ x5_1)) else (none)) = some r := by first | (rw [hy232]; with_reducible exact H) | (have H2_ := (Option.bind_some _ _).symm.trans H; rw [hy232]; with_reducible exact H2_) | (have H2_ := (Option.bind_some _ _).symm.trans H; with_reducible exact H2_) | with_reducible exact H | (rw [hy232]; exact H) | exact H
        have Ny232 := Aside0.mk hy232
        clear hy232
        by_cases c48 : y232.length + x5_1.length < 140737488355328
        · rw [if_pos c48] at H
          have LMc48 := Aside0.mk c48
          clear c48
          obtain ⟨y235, hy235⟩ : ∃ y_ : List Int, y_ = (y232 ++ x5_1) := ⟨_, rfl⟩
          replace H : (some y235) = some r := by first | (rw [hy235]; with_reducible exact H) | (have H2_ := (Option.bind_some _ _).symm.trans H; rw [hy235]; with_reducible exact H2_) | (have H2_ := (Option.bind_some _ _).symm.trans H; with_reducible exact H2_) | with_reducible exact H | (rw [hy235]; exact H) | exact H
          have Ny235 := Aside0.mk hy235
          clear hy235
          obtain rfl := Option.some.inj H
          have hcz49_0 : wr.cell? ⟨gb231, 0, none⟩ = some (.int .u8 a1_0) := (blk_cell BK231.out 0).trans rfl
          have hcz49_1 : wr.cell? ⟨gb231, 1, none⟩ = some (.int .u8 a1_1) := (blk_cell BK231.out 1).trans rfl
          have hcz49_2 : wr.cell? ⟨gb231, 2, none⟩ = some (.int .u16 a1_2) := (blk_cell BK231.out 2).trans rfl
          have hcz49_3 : wr.cell? ⟨gb231, 3, none⟩ = some (.int .u16 a1_3) := (blk_cell BK231.out 3).trans rfl
          have hcz49_4 : wr.cell? ⟨gb231, 4, none⟩ = some (.int .u16 a1_4) := (blk_cell BK231.out 4).trans rfl
          have hcz49_5 : wr.cell? ⟨gb231, 5, none⟩ = some (.int .u16 a1_5) := (blk_cell BK231.out 5).trans rfl
          have hcz49_6 : wr.cell? ⟨gb231, 6, none⟩ = some (.int .u16 a1_6) := (blk_cell BK231.out 6).trans rfl
          have hcz49_7 : wr.cell? ⟨gb231, 7, none⟩ = some (.int .u16 a1_7) := (blk_cell BK231.out 7).trans rfl
          have hcz49_8 : wr.cell? ⟨gb231, 8, none⟩ = some (.int .u16 a1_8) := (blk_cell BK231.out 8).trans rfl
          have hcz49_9 : wr.cell? ⟨gb231, 9, none⟩ = some (.int .u16 a1_9) := (blk_cell BK231.out 9).trans rfl
          have hcz49_10 : wr.cell? ⟨gb231, 10, none⟩ = some (.int .u16 a1_10) := (blk_cell BK231.out 10).trans rfl
          have hcz49_11 : wr.cell? ⟨gb231, 11, none⟩ = some (.int .u16 a1_11) := (blk_cell BK231.out 11).trans rfl
          have hcz49_12 : wr.cell? ⟨gb231, 12, none⟩ = some (.slice A1_12 l1_12.length c1_12) := (blk_cell BK231.out 12).trans rfl
          have hcz49_13 : wr.cell? ⟨gb231, 13, none⟩ = some (.slice A1_13 l1_13.length c1_13) := (blk_cell BK231.out 13).trans rfl
          have hcz49_14 : wr.cell? ⟨gb231, 14, none⟩ = some (.slice A1_14 l1_14.length c1_14) := (blk_cell BK231.out 14).trans rfl
          have hcz49_15 : wr.cell? ⟨gb231, 15, none⟩ = some (.slice A1_15 l1_15.length c1_15) := (blk_cell BK231.out 15).trans rfl
          have hcz49_16 : wr.cell? ⟨gb231, 16, none⟩ = some (.int .u8 a1_16) := (blk_cell BK231.out 16).trans rfl
          have hcz49_17 : wr.cell? ⟨gb231, 17, none⟩ = some (.int .u8 a1_17) := (blk_cell BK231.out 17).trans rfl
          have hcz49_18 : wr.cell? ⟨gb231, 18, none⟩ = some (.int .u8 a1_18) := (blk_cell BK231.out 18).trans rfl
          have hcz49_19 : wr.cell? ⟨gb231, 19, none⟩ = some (.int .u8 a1_19) := (blk_cell BK231.out 19).trans rfl
          have hcz49_20 : wr.cell? ⟨gb231, 20, none⟩ = some (.int .u8 a1_20) := (blk_cell BK231.out 20).trans rfl
          have hcz49_21 : wr.cell? ⟨gb231, 21, none⟩ = some (.slice A1_21 l1_21.length c1_21) := (blk_cell BK231.out 21).trans rfl
          have hfz49_0 := blk_frozen BK231.out 0
          have hfz49_1 := blk_frozen BK231.out 1
          have hfz49_2 := blk_frozen BK231.out 2
          have hfz49_3 := blk_frozen BK231.out 3
          have hfz49_4 := blk_frozen BK231.out 4
          have hfz49_5 := blk_frozen BK231.out 5
          have hfz49_6 := blk_frozen BK231.out 6
          have hfz49_7 := blk_frozen BK231.out 7
          have hfz49_8 := blk_frozen BK231.out 8
          have hfz49_9 := blk_frozen BK231.out 9
          have hfz49_10 := blk_frozen BK231.out 10
          have hfz49_11 := blk_frozen BK231.out 11
          have hfz49_12 := blk_frozen BK231.out 12
          have hfz49_13 := blk_frozen BK231.out 13
          have hfz49_14 := blk_frozen BK231.out 14
          have hfz49_15 := blk_frozen BK231.out 15
          have hfz49_16 := blk_frozen BK231.out 16
          have hfz49_17 := blk_frozen BK231.out 17
          have hfz49_18 := blk_frozen BK231.out 18
          have hfz49_19 := blk_frozen BK231.out 19
          have hfz49_20 := blk_frozen BK231.out 20
          have hfz49_21 := blk_frozen BK231.out 21
          obtain ⟨Ao50, co50, eo50⟩ := Kd.R_slice HO_5.out
          subst eo50
          go_wp2_with (first | ((with_reducible refine gate_dst (N := 57) rfl ?_); refine Kd.R_lit (Kd.int .u8) _ 5 ?hg (N := 57) ?hd (xs := ([((x5_1.length : Int)) % 256] : List Int)) (inner := [.int .u8 (((x5_1.length : Int)) % 256)]) (ok := fun _ => True) (okp := fun _ => True) ?hr ?hp (fun _ hk => hk) trivial (Below.refl _ _) (Nat.le_refl _) (by simp) ?_; (case hd => rfl); (case hg => rfl); (case hr => first | (go_simp; done) | (go_simp; rfl)); (case hp => exact (Reps.one (show Kd.M (Kd.int .u8) _ _ _ (((x5_1.length : Int)) % 256) [.int .u8 (((x5_1.length : Int)) % 256)] from rfl) (Reps.none _ _))); intro v233 w51 ho52 hb hg_ hnew_; clear hg_ hnew_; (first | rw [← Ny232.out] at ho52 | (simp only [Int.reduceToNat] at ho52; rw [← Ny232.out] at ho52)); have n0_ := Aside0.mk (Kd.R_elder' (by (with_reducible repeat (first | apply Kd.R_alloc | apply Kd.R_drewN | apply Kd.R_drew)); exact HO_5.out) (Kd.R_base ho52) hb); have n1_ := Aside0.mk (Kd.R_lower (Kd.R_new' ho52 (Kd.R_lt (by (with_reducible repeat (first | apply Kd.R_alloc | apply Kd.R_drewN | apply Kd.R_drew)); exact HO_5.out))) (below_size (by repeat (first | (with_reducible first | exact HB.out | apply below_alloc | apply pw_below_drewN | apply below_drew1 | refine below_set ?_ GE231.out) | exact HB.out)))); have n2_ := Aside0.mk (blk_below (g := gb231) (o := .cells #[.int .u8 a1_0, .int .u8 a1_1, .int .u16 a1_2, .int .u16 a1_3, .int .u16 a1_4, .int .u16 a1_5, .int .u16 a1_6, .int .u16 a1_7, .int .u16 a1_8, .int .u16 a1_9, .int .u16 a1_10, .int .u16 a1_11, .slice A1_12 l1_12.length c1_12, .slice A1_13 l1_13.length c1_13, .slice A1_14 l1_14.length c1_14, .slice A1_15 l1_15.length c1_15, .int .u8 a1_16, .int .u8 a1_17, .int .u8 a1_18, .int .u8 a1_19, .int .u8 a1_20, .slice A1_21 l1_21.length c1_21] 30 (0, 0)) (by (with_reducible repeat (first | refine blk_drewN ?_ _ | refine blk_drew ?_ | refine blk_alloc ?_ _)); exact BK231.out) hb); have n3_ := Aside0.mk (below_step (by repeat (first | (with_reducible first | exact HB.out | apply below_alloc | apply pw_below_drewN | apply below_drew1 | refine below_set ?_ GE231.out) | exact HB.out)) hb); clear HO_5; clear BK231; clear HB; have HO_5 := n0_; have HO234 := n1_; have BK231 := n2_; have HB := n3_; clear n0_ n1_ n2_ n3_; clear hb ho52) | ((with_reducible refine gate_builtin (b := .append) (xs := #[.tmp 57, .tmp 58]) rfl ?_); at_builtin; refine Kd.R_append_rows (Kd.int .u8) (w0 := w) w.heap.size rfl (.tmp 57) (.tmp 58) 22 5 (.int .u8 0) 1 rfl Try.underlying22 info5 rfl (by decide) (by omega) v233 y232 x5_1 _ _ _ (fun k_ => some k_ ≠ (.slice Ao50 x5_1.length co50 : Value).ownBlock) (fun _ => False) rfl rfl ?aO ?aR (fun _ _ h => h) (fun _ h => h.elim) ?aF ?aB ?aS ?aL ?_; (case aR => repeat (first | exact (Kd.R_reads' HO_5.out).2.2 | (with_reducible refine Kd.C_alloc ?_ _) | (with_reducible refine Kd.C_drewN ?_ _) | (with_reducible refine Kd.C_drew ?_))); (case aB => exact (by repeat (first | (with_reducible first | exact HB.out | apply below_alloc | apply pw_below_drewN | apply below_drew1 | refine below_set ?_ GE231.out) | exact HB.out))); (case aF => exact (fun k_ hk => Kd.fresh' (Kd.R_lt (by (with_reducible repeat (first | apply Kd.R_alloc | apply Kd.R_drewN | apply Kd.R_drew)); exact HO_5.out)) k_ hk)); (case aO => exact (by (with_reducible repeat (first | apply Kd.R_alloc | apply Kd.R_drewN | apply Kd.R_drew)); exact Kd.R_mono HO234.out (fun _ hk => hk.2))); (case aS => exact (below_size (by repeat (first | (with_reducible first | exact HB.out | apply below_alloc | apply pw_below_drewN | apply below_drew1 | refine below_set ?_ GE231.out) | exact HB.out)))); (case aL => have := LMc48.out; omega); intro v236 w53 ho hb hg hat; rw [← Ny235.out] at ho; have n0_ := Aside0.mk (Kd.R_after (ok := (fun _ => True)) (by (with_reducible repeat (first | apply Kd.R_alloc | apply Kd.R_drewN | apply Kd.R_drew)); exact HO_5.out) hg hat); have n1_ := Aside0.mk (blk_grown (g := gb231) (o := .cells #[.int .u8 a1_0, .int .u8 a1_1, .int .u16 a1_2, .int .u16 a1_3, .int .u16 a1_4, .int .u16 a1_5, .int .u16 a1_6, .int .u16 a1_7, .int .u16 a1_8, .int .u16 a1_9, .int .u16 a1_10, .int .u16 a1_11, .slice A1_12 l1_12.length c1_12, .slice A1_13 l1_13.length c1_13, .slice A1_14 l1_14.length c1_14, .slice A1_15 l1_15.length c1_15, .int .u8 a1_16, .int .u8 a1_17, .int .u8 a1_18, .int .u8 a1_19, .int .u8 a1_20, .slice A1_21 l1_21.length c1_21] 30 (0, 0)) (by (with_reducible repeat (first | refine blk_drewN ?_ _ | refine blk_drew ?_ | refine blk_alloc ?_ _)); exact BK231.out) hg (Kd.R_ne HO234.out BK231.out (by decide))); have n2_ := Aside0.mk (hb); have n3_ := Aside0.mk (ho); clear HO_5; clear BK231; clear HB; clear HO234; have HO_5 := n0_; have BK231 := n1_; have HB := n2_; have HO237 := n3_; clear n0_ n1_ n2_ n3_; clear ho hb hg hat))
          go_ret
          exact ⟨_, by first | rfl | (simp [errW_none, errW_some] <;> rfl) | (simp [*, errW_none, errW_some] <;> rfl), by (with_reducible repeat (first | apply Kd.R_alloc | apply Kd.R_drewN | apply Kd.R_drew)); exact Kd.R_mono HO237.out (fun _ hk => trivial), by repeat (first | (with_reducible first | exact HB.out | apply below_alloc | apply pw_below_drewN | apply below_drew1 | refine below_set ?_ GE231.out) | exact HB.out)⟩
        · rw [if_neg c48] at H
          exact absurd H (by simp)
end Go.Proofs.Ytdjeekpgcjcffaa.P
end
section
namespace Go.Proofs.Ytdjeekpgcjcffaa.Fil
open Go.RowKit Go.Proofs.Ytdjeekpgcjcffaa.P Go.Proofs.Ytdjeekpgcjcffaa.E Go.Proofs.Ytdjeekpgcjcffaa.Cur Go.Proofs.Ytdjeekpgcjcffaa.Cu Go.Proofs.Ytdjeekpgcjcffaa.Same Go.Proofs.Ytdjeekpgcjcffaa.Put Go.Proofs.Ytdjeekpgcjcffaa.Com Go.Proofs.YtdjeekpgcjcffaaW.PrintWords Go.Proofs.YtdjeekpgcjcffaaW.PrintLast Go.Proofs.YtdjeekpgcjcffaaW.PrintMore
theorem rlay_loop {dir : Int} {m : Msg} : ∀ (rest : List S43) (j : Nat) (acc : List Int), (∀ r ∈ rest, goodRec r) → m.recs.drop j = rest → j ≤ acc.length → acc.length + (flat (isTold dir m.code) rest).length ≤ 1000000 →
    Ev (fun k => busbarref11_bytes.l0 k dir acc (j : Int) m.code m.fail m.addr m.count m.value m.and_ m.or_ m.addr2 m.sub m.status m.events m.messages m.words m.bits m.data m.recs m.mei m.kind m.level m.more m.next m.objects) (((acc ++ flat (isTold dir m.code) rest).length : Int) % 256 :: (acc ++ flat (isTold dir m.code) rest))
  | [], j, acc, hg, hd, hj, hl => by
    refine Ev.step (fun k => by rw [busbarref11_bytes.l0]) ?_
    have hj : m.recs.length ≤ j := by
      rcases Nat.lt_or_ge j m.recs.length with h1 | h1
      · rw [List.drop_eq_getElem_cons h1] at hd; cases hd
      · exact h1
    have hl' : acc.length ≤ 1000000 := by simp only [flat] at hl; simpa using hl
    refine neg (by omega) (bind0 rfl (pos (by simp; omega) (ret ?_)))
    simp only [flat, List.append_nil]
    rfl
  | x :: r, j, acc, hg, hd, hj, hl => by
    obtain ⟨e1, e2, e3⟩ := rd_at _ j hd
    obtain ⟨g0, g1, g2, g3⟩ := hg x List.mem_cons_self
    have hp := partL_len (isTold dir m.code) x
    simp only [flat, List.length_append] at hl
    have ih := rlay_loop (dir := dir) (m := m) r (j + 1) (acc ++ partL (isTold dir m.code) x) (fun y hy => hg y (List.mem_cons_of_mem _ hy)) e2 (by rw [List.length_append]; omega) (by rw [List.length_append]; omega)
    have q3 := rput_ev x.f3 (fun y hy => g3 y hy) (by omega)
    have q1 := rput_ev [x.f0, x.f1, x.f2] (is16_3 g0 g1 g2) (by simp)
    have ew : wrap64 ((j : Int) + 1) = ((j + 1 : Nat) : Int) := by rw [wrap64_id (by omega) (by omega)]; omega
    have ef : acc ++ flat (isTold dir m.code) (x :: r) = (acc ++ partL (isTold dir m.code) x) ++ flat (isTold dir m.code) r := by simp [flat]
    rw [ef]
    refine Ev.step (fun k => by rw [busbarref11_bytes.l0, e1]) ?_
    refine pos (by omega) (pos (by omega) ?_)
    have J : ∀ b : Bool, b = isTold dir m.code → Ev (fun k => busbarref11_bytes.j1 k dir acc (j : Int) b m.code m.fail m.addr m.count m.value m.and_ m.or_ m.addr2 m.sub m.status m.events m.messages m.words m.bits m.data m.recs m.mei m.kind m.level m.more m.next m.objects x.f0 x.f1 x.f2 x.f3) ((((acc ++ partL (isTold dir m.code) x) ++ flat (isTold dir m.code) r).length : Int) % 256 :: ((acc ++ partL (isTold dir m.code) x) ++ flat (isTold dir m.code) r)) := by
      intro b hb
      refine Ev.step (fun k => by rw [busbarref11_bytes.j1]) ?_
      cases b with
      | true =>
        refine pos rfl (bind0 rfl (pos (by simp; omega) (bind0 rfl (q3.bind (pos (by rw [putL_length]; simp; omega) ?_)))))
        have es : acc ++ [wrap64 (wrap64 (2 * (x.f3.length : Int)) + 1) % 256, 6] ++ putL x.f3 = acc ++ partL (isTold dir m.code) x := by
          unfold partL
          rw [← hb, if_pos rfl, wrap64_id (x := 2 * (x.f3.length : Int)) (by omega) (by omega), wrap64_id (by omega) (by omega)]
          simp
        rw [es, ew]
        exact ih
      | false =>
        refine neg (by decide) (pos (by omega) (bind0 rfl (q1.bind (pos (by rw [putL_length]; simp; omega) (bind0 rfl (q3.bind (pos (by rw [putL_length]; simp [putL_length]; omega) ?_)))))))
        have es : acc ++ [6] ++ putL [x.f0, x.f1, x.f2] ++ putL x.f3 = acc ++ partL (isTold dir m.code) x := by
          unfold partL
          rw [← hb, if_neg (by decide)]
          simp
        rw [es, ew]
        exact ih
    by_cases hc : m.code = 20
    · refine pos hc (J _ ?_)
      unfold isTold
      by_cases h1 : dir = 1 <;> simp [hc, h1]
    · refine neg hc (J false ?_)
      unfold isTold
      simp [hc]
theorem rlay_ev {dir : Int} {m : Msg} (hg : goodM m) (hb : (lay dir m).length ≤ 900000) (hr : m.recs.length ≤ 900000) : Ev (fun k => busbarref11_bytes.f k dir m.code m.fail m.addr m.count m.value m.and_ m.or_ m.addr2 m.sub m.status m.events m.messages m.words m.bits m.data m.recs m.mei m.kind m.level m.more m.next m.objects) (lay dir m) := by
  rw [lay_len] at hb
  have := rlay_loop (dir := dir) (m := m) m.recs 0 [] hg.2.2.1 (by simp) (by simp) (by simp; omega)
  rw [List.nil_append] at this
  exact this
theorem rlay_c {dir : Int} {m : Msg} {cx : Array Value} {w : World} (hm : IsMsg w cx m) (hb : (lay dir m).length ≤ 900000) (hr : m.recs.length ≤ 900000) : Calls Try.prog 33 #[.int .i64 dir, .agg cx] w fun en w' => ∃ A c, en = .returned (.slice A (lay dir m).length c) ∧ (lay dir m).length ≤ c ∧ Kd.C (Kd.int .u8) w' A (lay dir m).length (lay dir m) ∧ Below w.heap.size w w' := by
  obtain ⟨k, hk⟩ := (rlay_ev (dir := dir) hm.good hb hr).rounds
  obtain ⟨A12, c12, A13, c13, A14, c14, A15, c15, A21, c21, rfl, ok, ⟨hr12, hc12⟩, ⟨hr13, hc13⟩, ⟨hr14, hc14⟩, ⟨hr15, hc15⟩, ⟨hr21, hc21⟩⟩ := hm
  refine (busbarref11_bytes.calls k dir _ _ _ _ _ _ _ _ _ _ _ _ A12 c12 m.words A13 c13 m.bits A14 c14 m.data A15 c15 m.recs _ _ _ _ _ A21 c21 m.objects _ w hr12 hc12 hr13 hc13 hr14 hc14 hr15 hc15 hr21 hc21 hk).mono ?_
  rintro en w' ⟨v, rfl, R, B⟩
  obtain ⟨A2, c2, rfl, h2, h3⟩ := Kd.R_reads R
  exact ⟨A2, c2, rfl, h2, h3, B⟩
theorem rparse_c2 {dir code : Int} {l : List Int} (hs : l.length ≤ 1000000) (hb : isBytes l) : ParseC 13 dir code l (parse dir code l) := fun A c W hr hc2 => rparse_any hr hc2 hs hb
theorem rwrite_c {dir : Int} {m : Msg} (hb : (lay dir m).length ≤ 900000) (hr : m.recs.length ≤ 900000) : WriteC 17 dir m (write dir m) :=
  rwrite_of (fun cx W hm => rlay_c hm hb hr) (rparse_c2 (by omega) lay_bytes)
end Go.Proofs.Ytdjeekpgcjcffaa.Fil
end
section
namespace Go.Proofs.Ytdjeekpgcjcffaa.Open
open Go.RowKit Go.ChangeShapes Go.WideShapes Go.Deep Go.Proofs.YtdjeekpgcjcffaaW.PrintWords
def Opens {H : Type} (enc : TypeId × Value → H) (P : Program) (w : World) (base : Nat) (held : Bool) (t : TypeId) {α : Type} (d : Kd α) (good : α → Prop) : Prop :=
  ∀ fuel cs x, DataW.trod enc P w base (fun _ => true) held fuel t cs = some x → ∃ y, d.K w y cs ∧ good y
section
variable {H : Type} {enc : TypeId × Value → H} {P : Program} {w : World} {base : Nat} {held : Bool} {α : Type}
theorem opens_int {t : TypeId} {k : IntKind} (ht : P.underlying t = some (.int k)) : Opens enc P w base held t (Kd.int k) (fun n => (Lit.int k n).wf = true) := by
  intro fuel cs x h
  obtain ⟨n, rfl, _, hw⟩ := DataW.trod_int ht h
  exact ⟨n, rfl, hw⟩
theorem opens_bool {t : TypeId} (ht : P.underlying t = some .bool) : Opens enc P w base held t Kd.bool (fun _ => True) := by
  intro fuel cs x h
  obtain ⟨b, rfl, _⟩ := DataW.trod_bool ht h
  exact ⟨b, rfl, trivial⟩
theorem opens_slice {t e : TypeId} {d : Kd α} {g : α → Prop} (ht : P.underlying t = some (.slice e)) (hc : P.cellsOf e = d.sz) (h : Opens enc P w base held e d g) :
    Opens enc P w base held t (Kd.slice e d) (fun l => l.length ≤ maxLen ∧ ∀ x ∈ l, g x) := by
  intro fuel cs x hx
  rcases open_slice ht hx with ⟨rfl, _⟩ | ⟨a, len, cap, m, n, D, Pl, rfl, _, hl, hm, hmm, _, hel⟩
  · exact ⟨[], ⟨none, 0, rfl, Nat.le_refl _, Kd.C_nil d w⟩, Nat.zero_le _, fun x hx => by cases hx⟩
  · simp only [if_true] at hmm
    subst hmm
    have hone : ∀ i : Fin len, ∃ y, (∃ c, c.length = d.sz ∧ d.K w y c ∧ ∀ j u, c[j]? = some u → w.cell? (a.add (i.val * d.sz + j)) = some u) ∧ g y := by
      intro i
      obtain ⟨cs', h1, h2⟩ := hel i.val (Nat.lt_of_lt_of_le i.isLt hl)
      obtain ⟨y, hk, hg⟩ := h n cs' _ h2
      rw [hc] at h1
      obtain ⟨_, h4, h5⟩ := World.cells?_some h1
      refine ⟨y, ⟨cs', h4, hk, fun j u hu => ?_⟩, hg⟩
      have hj : j < d.sz := by rw [← h4]; exact (List.getElem?_eq_some_iff.1 hu).1
      have := h5 j hj
      rw [hu] at this
      rw [← Addr.add_add]
      exact this
    let ys := List.ofFn fun i => Classical.choose (hone i)
    have hy : ys.length = len := by simp [ys]
    refine ⟨ys, ⟨some a, m, by rw [hy], by rw [hy]; exact hl, ?_⟩, by rw [hy]; exact Nat.le_trans hl hm, ?_⟩
    · refine ⟨rfl, by rw [hy]; exact Nat.le_trans hl hm, fun _ => ⟨a, rfl, fun j p hp => ?_⟩⟩
      have hj : j < len := by rw [← hy]; exact (List.getElem?_eq_some_iff.1 hp).1
      have : p = Classical.choose (hone ⟨j, hj⟩) := by
        simp only [ys, List.getElem?_ofFn, hj, dite_true] at hp
        exact (Option.some.inj hp).symm
      subst this
      exact (Classical.choose_spec (hone ⟨j, hj⟩)).1
    · intro x hx
      simp only [ys, List.mem_ofFn] at hx
      obtain ⟨i, rfl⟩ := hx
      exact (Classical.choose_spec (hone i)).2
theorem opens_at {fs : Array Field} {cs : List Value} {xs : List (DataW H × List MemPlace)} {n : Nat} {d : Kd α} {g : α → Prop}
    (hf : ∀ (i : Nat) (f : Field), fs[i]? = some f → DataW.trod enc P w base (fun _ => true) held n f.type ((cs.drop f.offset).take (P.cellsOf f.type)) = xs[i]?) (hlen : xs.length = fs.size)
    (hone : oneCellFields P fs = true) (i : Nat) (f : Field) (hi : fs[i]? = some f) (c : Value) (hc : cs[i]? = some c) (H1 : Opens enc P w base held f.type d g) : ∃ y, d.K w y [c] ∧ g y := by
  obtain ⟨o1, k1⟩ := hone_of hone i f hi
  have h := hf i f hi
  have hlt : i < xs.length := by rw [hlen]; exact (Array.getElem?_eq_some_iff.1 hi).1
  rw [o1, k1, List.getElem?_eq_getElem hlt] at h
  have hci := (List.getElem?_eq_some_iff.1 hc).1
  have hs : (cs.drop i).take 1 = [c] := by
    rw [List.drop_eq_getElem_cons hci, List.take_succ_cons, List.take_zero, (List.getElem?_eq_some_iff.1 hc).2]
  rw [hs] at h
  exact H1 n [c] _ h
theorem open_slice_arg {t e : TypeId} {d : Kd α} {g : α → Prop} {a : Option Addr} {len cap : Nat} {x : DataW H} {p : List MemPlace} (h : DataW.Trod enc P w base (fun _ => true) held t (.slice a len cap) x p)
    (H1 : Opens enc P w base held t (Kd.slice e d) (fun l => l.length ≤ maxLen ∧ ∀ x ∈ l, g x)) : ∃ l, len = l.length ∧ d.C w a l.length l ∧ l.length ≤ cap ∧ l.length ≤ maxLen ∧ ∀ x ∈ l, g x := by
  obtain ⟨fuel, hf⟩ := h
  obtain ⟨l, ⟨A, c, he, hl, hC⟩, h1, h2⟩ := H1 fuel _ _ hf
  simp [Value.cells] at he
  obtain ⟨rfl, rfl, rfl⟩ := he
  exact ⟨l, rfl, hC, hl, h1, h2⟩
end
end Go.Proofs.Ytdjeekpgcjcffaa.Open
end
