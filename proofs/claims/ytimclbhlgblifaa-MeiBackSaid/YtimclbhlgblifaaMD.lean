/- What the laws of this chapter rest on, part 4: what the functions that they reach answer, each shown once. Conditions: what each theorem states. (Merged by a program of this session, wip/tools/merge.py, out of its own texts.) -/
import Derived.Test.YtimclbhlgblifaaMC
set_option linter.unusedVariables false
set_option linter.unusedSimpArgs false
section
namespace Go.Proofs.Ytimclbhlgblifaa.P
open Go.RowKit Go.Proofs.YtimclbhlgblifaaW.PrintWords Go.Proofs.YtimclbhlgblifaaW.PrintLast Go.Proofs.YtimclbhlgblifaaW.PrintMore
attribute [local go_sem] max2_int min2_int max_two min_two max_three min_three max_four min_four   -- for this text's walks alone
def busbarref12_bytes.l0 : Nat → List Int → Int → Int → Int → Int → Int → Int → Int → Int → Int → Int → Int → Int → Int → List Int → List Bool → List Int → List (S64) → Int → Int → Int → Int → Int → List (S43) → Option (List Int)
  | 0, _, _, _, _, _, _, _, _, _, _, _, _, _, _, _, _, _, _, _, _, _, _, _, _ => none
  | k + 1, x5, x6, x188000, x188001, x188002, x188003, x188004, x188005, x188006, x188007, x188008, x188009, x188010, x188011, x188012, x188013, x188014, x188015, x188016, x188017, x188018, x188019, x188020, x188021 => if x6 < (x188021.length : Int) then (if 0 ≤ x6 then ((some (([(rd_T43 x188021 x6).f0, ((((rd_T43 x188021 x6).f1).length : Int)) % 256] : List Int) : List Int)).bind fun y202 => (if x5.length + y202.length < 140737488355328 then ((some (x5 ++ y202 : List Int)).bind fun y205 => (if y205.length + ((rd_T43 x188021 x6).f1).length < 140737488355328 then (busbarref12_bytes.l0 k (y205 ++ ((rd_T43 x188021 x6).f1)) (wrap64 (x6 + 1)) x188000 x188001 x188002 x188003 x188004 x188005 x188006 x188007 x188008 x188009 x188010 x188011 x188012 x188013 x188014 x188015 x188016 x188017 x188018 x188019 x188020 x188021) else (none))) else (none))) else (none)) else (some x5)
def busbarref12_bytes.f (k : Nat) (a0 : Int) (a1_0 : Int) (a1_1 : Int) (a1_2 : Int) (a1_3 : Int) (a1_4 : Int) (a1_5 : Int) (a1_6 : Int) (a1_7 : Int) (a1_8 : Int) (a1_9 : Int) (a1_10 : Int) (a1_11 : Int) (l1_12 : List Int) (l1_13 : List Bool) (l1_14 : List Int) (l1_15 : List (S64)) (a1_16 : Int) (a1_17 : Int) (a1_18 : Int) (a1_19 : Int) (a1_20 : Int) (l1_21 : List (S43)) : Option (List Int) := if a1_16 = 13 then ((some (([13] : List Int) : List Int)).bind fun y188 => (if y188.length + l1_14.length < 140737488355328 then (some (y188 ++ l1_14)) else (none))) else (if a0 = 0 then (some (([a1_16, a1_17, a1_20] : List Int))) else (busbarref12_bytes.l0 k (([a1_16, a1_17, a1_18, a1_19, a1_20, ((l1_21.length : Int)) % 256] : List Int)) 0 a1_0 a1_1 a1_2 a1_3 a1_4 a1_5 a1_6 a1_7 a1_8 a1_9 a1_10 a1_11 l1_12 l1_13 l1_14 l1_15 a1_16 a1_17 a1_18 a1_19 a1_20 l1_21))
theorem busbarref12_bytes.mono_l : ∀ k, (∀ y0 y1 y2 y3 y4 y5 y6 y7 y8 y9 y10 y11 y12 y13 y14 y15 y16 y17 y18 y19 y20 y21 y22 y23, LeO (busbarref12_bytes.l0 k y0 y1 y2 y3 y4 y5 y6 y7 y8 y9 y10 y11 y12 y13 y14 y15 y16 y17 y18 y19 y20 y21 y22 y23) (busbarref12_bytes.l0 (k + 1) y0 y1 y2 y3 y4 y5 y6 y7 y8 y9 y10 y11 y12 y13 y14 y15 y16 y17 y18 y19 y20 y21 y22 y23))
  | 0 => fun _ _ _ _ _ _ _ _ _ _ _ _ _ _ _ _ _ _ _ _ _ _ _ _ r h => by simp [busbarref12_bytes.l0] at h
  | k + 1 => by
    have ih0 := busbarref12_bytes.mono_l k
    · intro y0 y1 y2 y3 y4 y5 y6 y7 y8 y9 y10 y11 y12 y13 y14 y15 y16 y17 y18 y19 y20 y21 y22 y23
      unfold busbarref12_bytes.l0
      repeat' first
      | (with_reducible exact ih0 _ _ _ _ _ _ _ _ _ _ _ _ _ _ _ _ _ _ _ _ _ _ _ _)
      | (with_reducible exact LeO.refl _)
      | (with_reducible exact LeO.none _)
      | (with_reducible refine LeO.ite ?_ ?_)
      | (with_reducible refine LeO.bind ?_ (fun _ => ?_))
      | exact ih0 _ _ _ _ _ _ _ _ _ _ _ _ _ _ _ _ _ _ _ _ _ _ _ _
      | exact LeO.none _
      | refine LeO.ite ?_ ?_
      | refine LeO.bind ?_ (fun _ => ?_)
theorem busbarref12_bytes.mono : ∀ a0 a1 a2 a3 a4 a5 a6 a7 a8 a9 a10 a11 a12 a13 a14 a15 a16 a17 a18 a19 a20 a21 a22 k, LeO (busbarref12_bytes.f k a0 a1 a2 a3 a4 a5 a6 a7 a8 a9 a10 a11 a12 a13 a14 a15 a16 a17 a18 a19 a20 a21 a22) (busbarref12_bytes.f (k + 1) a0 a1 a2 a3 a4 a5 a6 a7 a8 a9 a10 a11 a12 a13 a14 a15 a16 a17 a18 a19 a20 a21 a22) := by
  intro a0 a1 a2 a3 a4 a5 a6 a7 a8 a9 a10 a11 a12 a13 a14 a15 a16 a17 a18 a19 a20 a21 a22 k
  have ih0 := busbarref12_bytes.mono_l k
  unfold busbarref12_bytes.f
  repeat' first
      | (with_reducible exact ih0 _ _ _ _ _ _ _ _ _ _ _ _ _ _ _ _ _ _ _ _ _ _ _ _)
      | (with_reducible exact LeO.refl _)
      | (with_reducible exact LeO.none _)
      | (with_reducible refine LeO.ite ?_ ?_)
      | (with_reducible refine LeO.bind ?_ (fun _ => ?_))
      | exact ih0 _ _ _ _ _ _ _ _ _ _ _ _ _ _ _ _ _ _ _ _ _ _ _ _
      | exact LeO.none _
      | refine LeO.ite ?_ ?_
      | refine LeO.bind ?_ (fun _ => ?_)
def busbarref12_bytes.T9 : Bool × List (List Nat × List Nat) := (true, [([], []), ([], []), ([1], [1]), ([], []), ([2, 3], [2, 3]), ([4], [4]), ([5], [5]), ([], []), ([7], [7]), ([], []), ([8, 9], [8, 9]), ([10], [10]), ([11], [11]), ([12], [12]), ([13], [13]), ([6, 14], [6, 14]), ([0, 15], [0, 15]), ([16, 16, 0, 1, 2, 3, 4, 5, 6, 7, 8, 9, 10, 11, 12, 13, 14, 15, 16], [0, 16])])
def busbarref12_bytes.B9 : List Nat := [0, 0, 2, 0, 14, 30, 62, 0, 128, 0, 896, 1920, 3968, 8064, 16256, 32766, 65535, 131071]
theorem busbarref12_bytes.tab9 : rtab .any (opsOf Try.f36 9) = busbarref12_bytes.T9 := by kernel_rfl
theorem busbarref12_bytes.bits9 : waitsOk busbarref12_bytes.T9.2 busbarref12_bytes.B9 = true := by kernel_rfl
set_option maxHeartbeats 8000000 in
set_option maxRecDepth 100000 in
theorem busbarref12_bytes.calls (k : Nat) (a0 : Int) (a1_0 : Int) (a1_1 : Int) (a1_2 : Int) (a1_3 : Int) (a1_4 : Int) (a1_5 : Int) (a1_6 : Int) (a1_7 : Int) (a1_8 : Int) (a1_9 : Int) (a1_10 : Int) (a1_11 : Int) (A1_12 : Option Addr) (c1_12 : Nat) (l1_12 : List Int) (A1_13 : Option Addr) (c1_13 : Nat) (l1_13 : List Bool) (A1_14 : Option Addr) (c1_14 : Nat) (l1_14 : List Int) (A1_15 : Option Addr) (c1_15 : Nat) (l1_15 : List (S64)) (a1_16 : Int) (a1_17 : Int) (a1_18 : Int) (a1_19 : Int) (a1_20 : Int) (A1_21 : Option Addr) (c1_21 : Nat) (l1_21 : List (S43)) (r : List Int) (w : World) (hr1_12 : Kd.C (Kd.int .u16) w A1_12 l1_12.length l1_12) (hc1_12 : l1_12.length ≤ c1_12) (hr1_13 : Kd.C Kd.bool w A1_13 l1_13.length l1_13) (hc1_13 : l1_13.length ≤ c1_13) (hr1_14 : Kd.C (Kd.int .u8) w A1_14 l1_14.length l1_14) (hc1_14 : l1_14.length ≤ c1_14) (hr1_15 : Kd.C k64 w A1_15 l1_15.length l1_15) (hc1_15 : l1_15.length ≤ c1_15) (hr1_21 : Kd.C k43 w A1_21 l1_21.length l1_21) (hc1_21 : l1_21.length ≤ c1_21) (h : busbarref12_bytes.f k a0 a1_0 a1_1 a1_2 a1_3 a1_4 a1_5 a1_6 a1_7 a1_8 a1_9 a1_10 a1_11 l1_12 l1_13 l1_14 l1_15 a1_16 a1_17 a1_18 a1_19 a1_20 l1_21 = some r) :
    Calls Try.prog 36 #[.int .i64 a0, .agg #[.int .u8 a1_0, .int .u8 a1_1, .int .u16 a1_2, .int .u16 a1_3, .int .u16 a1_4, .int .u16 a1_5, .int .u16 a1_6, .int .u16 a1_7, .int .u16 a1_8, .int .u16 a1_9, .int .u16 a1_10, .int .u16 a1_11, .slice A1_12 l1_12.length c1_12, .slice A1_13 l1_13.length c1_13, .slice A1_14 l1_14.length c1_14, .slice A1_15 l1_15.length c1_15, .int .u8 a1_16, .int .u8 a1_17, .int .u8 a1_18, .int .u8 a1_19, .int .u8 a1_20, .slice A1_21 l1_21.length c1_21]] w fun e w' => ∃ v0_ : Value, e = .returned (v0_) ∧ Kd.R (Kd.int .u8) 5 w' w.heap.size (fun _ => True) v0_ r ∧ Below w.heap.size w w' := by
  have hu30 := Try.underlying30
  have HR1_12 := Aside0.mk hr1_12
  have HC1_12 := Aside0.mk hc1_12
  clear hr1_12 hc1_12
  have HR1_13 := Aside0.mk hr1_13
  have HC1_13 := Aside0.mk hc1_13
  clear hr1_13 hc1_13
  have HR1_14 := Aside0.mk hr1_14
  have HC1_14 := Aside0.mk hc1_14
  clear hr1_14 hc1_14
  have HR1_15 := Aside0.mk hr1_15
  have HC1_15 := Aside0.mk hc1_15
  clear hr1_15 hc1_15
  have HR1_21 := Aside0.mk hr1_21
  have HC1_21 := Aside0.mk hc1_21
  clear hr1_21 hc1_21
  have HB := Aside0.mk (Below.refl w.heap.size w)
  have H : (if a1_16 = 13 then ((some (([13] : List Int) : List Int)).bind fun y188 => (if y188.length + l1_14.length < 140737488355328 then (some (y188 ++ l1_14)) else (none))) else (if a0 = 0 then (some (([a1_16, a1_17, a1_20] : List Int))) else (busbarref12_bytes.l0 k (([a1_16, a1_17, a1_18, a1_19, a1_20, ((l1_21.length : Int)) % 256] : List Int)) 0 a1_0 a1_1 a1_2 a1_3 a1_4 a1_5 a1_6 a1_7 a1_8 a1_9 a1_10 a1_11 l1_12 l1_13 l1_14 l1_15 a1_16 a1_17 a1_18 a1_19 a1_20 l1_21))) = some r := h
  clear h
  by_cases c3 : a1_16 = 13
  · rw [if_pos c3] at H
    have c3b0 : (a1_16 == 13) = true := beq_iff_eq.mpr c3
    have c3b1 : (a1_16 != 13) = false := bne_eq_false_iff_eq.mpr c3
    clear c3
    obtain ⟨y188, hy188⟩ : ∃ y_ : List Int, y_ = (([13] : List Int)) := ⟨_, rfl⟩
    replace H : (if y188.length + l1_14.length < 140737488355328 then (some (y188 ++ l1_14)) else (none)) = some r := by first | (rw [hy188]; with_reducible exact H) | (have H2_ := (Option.bind_some _ _).symm.trans H; rw [hy188]; with_reducible exact H2_) | (have H2_ := (Option.bind_some _ _).symm.trans H; with_reducible exact H2_) | with_reducible exact H | (rw [hy188]; exact H) | exact H
    have Ny188 := Aside0.mk hy188
    clear hy188
    by_cases c4 : y188.length + l1_14.length < 140737488355328
    · rw [if_pos c4] at H
      have LMc4 := Aside0.mk c4
      clear c4
      obtain ⟨y191, hy191⟩ : ∃ y_ : List Int, y_ = (y188 ++ l1_14) := ⟨_, rfl⟩
      replace H : (some y191) = some r := by first | (rw [hy191]; with_reducible exact H) | (have H2_ := (Option.bind_some _ _).symm.trans H; rw [hy191]; with_reducible exact H2_) | (have H2_ := (Option.bind_some _ _).symm.trans H; with_reducible exact H2_) | with_reducible exact H | (rw [hy191]; exact H) | exact H
      have Ny191 := Aside0.mk hy191
      clear hy191
      obtain rfl := Option.some.inj H
      go_enter Try.func36, Try.ntmps36
      go_wp2_with (first | ((with_reducible refine gate_dst (N := 3) rfl ?_); refine box_event ?hg (N := 3) ?hd (cs := #[.int .u8 a1_0, .int .u8 a1_1, .int .u16 a1_2, .int .u16 a1_3, .int .u16 a1_4, .int .u16 a1_5, .int .u16 a1_6, .int .u16 a1_7, .int .u16 a1_8, .int .u16 a1_9, .int .u16 a1_10, .int .u16 a1_11, .slice A1_12 l1_12.length c1_12, .slice A1_13 l1_13.length c1_13, .slice A1_14 l1_14.length c1_14, .slice A1_15 l1_15.length c1_15, .int .u8 a1_16, .int .u8 a1_17, .int .u8 a1_18, .int .u8 a1_19, .int .u8 a1_20, .slice A1_21 l1_21.length c1_21]) (t := 30) ?hr ?_; (case hd => rfl); (case hg => rfl); (case hr => first | (go_simp; done) | (go_simp; rfl)); intro gb187 hg w5 hbox hb; have n0_ := Aside0.mk (below_step (by repeat (first | (with_reducible first | exact HB.out | apply below_alloc | apply pw_below_drewN | apply below_drew1) | exact HB.out)) hb); have n1_ := Aside0.mk (hbox); have n2_ := Aside0.mk ((by rw [hg]; exact (below_size (by repeat (first | (with_reducible first | exact HB.out | apply below_alloc | apply pw_below_drewN | apply below_drew1) | exact HB.out))) : w.heap.size ≤ gb187)); have n3_ := Aside0.mk ((by rw [hg]; exact (below_size (by repeat (first | (with_reducible first | exact HB.out | apply below_alloc | apply pw_below_drewN | apply below_drew1) | exact HB.out))) : w.heap.size ≤ gb187)); clear HB; have HB := n0_; have BK187 := n1_; have GW187 := n2_; have GE187 := n3_; clear n0_ n1_ n2_ n3_; clear hb hbox hg; have hcz6_0 : w5.cell? ⟨gb187, 0, none⟩ = some (.int .u8 a1_0) := (blk_cell BK187.out 0).trans rfl; have hcz6_1 : w5.cell? ⟨gb187, 1, none⟩ = some (.int .u8 a1_1) := (blk_cell BK187.out 1).trans rfl; have hcz6_2 : w5.cell? ⟨gb187, 2, none⟩ = some (.int .u16 a1_2) := (blk_cell BK187.out 2).trans rfl; have hcz6_3 : w5.cell? ⟨gb187, 3, none⟩ = some (.int .u16 a1_3) := (blk_cell BK187.out 3).trans rfl; have hcz6_4 : w5.cell? ⟨gb187, 4, none⟩ = some (.int .u16 a1_4) := (blk_cell BK187.out 4).trans rfl; have hcz6_5 : w5.cell? ⟨gb187, 5, none⟩ = some (.int .u16 a1_5) := (blk_cell BK187.out 5).trans rfl; have hcz6_6 : w5.cell? ⟨gb187, 6, none⟩ = some (.int .u16 a1_6) := (blk_cell BK187.out 6).trans rfl; have hcz6_7 : w5.cell? ⟨gb187, 7, none⟩ = some (.int .u16 a1_7) := (blk_cell BK187.out 7).trans rfl; have hcz6_8 : w5.cell? ⟨gb187, 8, none⟩ = some (.int .u16 a1_8) := (blk_cell BK187.out 8).trans rfl; have hcz6_9 : w5.cell? ⟨gb187, 9, none⟩ = some (.int .u16 a1_9) := (blk_cell BK187.out 9).trans rfl; have hcz6_10 : w5.cell? ⟨gb187, 10, none⟩ = some (.int .u16 a1_10) := (blk_cell BK187.out 10).trans rfl; have hcz6_11 : w5.cell? ⟨gb187, 11, none⟩ = some (.int .u16 a1_11) := (blk_cell BK187.out 11).trans rfl; have hcz6_12 : w5.cell? ⟨gb187, 12, none⟩ = some (.slice A1_12 l1_12.length c1_12) := (blk_cell BK187.out 12).trans rfl; have hcz6_13 : w5.cell? ⟨gb187, 13, none⟩ = some (.slice A1_13 l1_13.length c1_13) := (blk_cell BK187.out 13).trans rfl; have hcz6_14 : w5.cell? ⟨gb187, 14, none⟩ = some (.slice A1_14 l1_14.length c1_14) := (blk_cell BK187.out 14).trans rfl; have hcz6_15 : w5.cell? ⟨gb187, 15, none⟩ = some (.slice A1_15 l1_15.length c1_15) := (blk_cell BK187.out 15).trans rfl; have hcz6_16 : w5.cell? ⟨gb187, 16, none⟩ = some (.int .u8 a1_16) := (blk_cell BK187.out 16).trans rfl; have hcz6_17 : w5.cell? ⟨gb187, 17, none⟩ = some (.int .u8 a1_17) := (blk_cell BK187.out 17).trans rfl; have hcz6_18 : w5.cell? ⟨gb187, 18, none⟩ = some (.int .u8 a1_18) := (blk_cell BK187.out 18).trans rfl; have hcz6_19 : w5.cell? ⟨gb187, 19, none⟩ = some (.int .u8 a1_19) := (blk_cell BK187.out 19).trans rfl; have hcz6_20 : w5.cell? ⟨gb187, 20, none⟩ = some (.int .u8 a1_20) := (blk_cell BK187.out 20).trans rfl; have hcz6_21 : w5.cell? ⟨gb187, 21, none⟩ = some (.slice A1_21 l1_21.length c1_21) := (blk_cell BK187.out 21).trans rfl; have hfz6_0 := blk_frozen BK187.out 0; have hfz6_1 := blk_frozen BK187.out 1; have hfz6_2 := blk_frozen BK187.out 2; have hfz6_3 := blk_frozen BK187.out 3; have hfz6_4 := blk_frozen BK187.out 4; have hfz6_5 := blk_frozen BK187.out 5; have hfz6_6 := blk_frozen BK187.out 6; have hfz6_7 := blk_frozen BK187.out 7; have hfz6_8 := blk_frozen BK187.out 8; have hfz6_9 := blk_frozen BK187.out 9; have hfz6_10 := blk_frozen BK187.out 10; have hfz6_11 := blk_frozen BK187.out 11; have hfz6_12 := blk_frozen BK187.out 12; have hfz6_13 := blk_frozen BK187.out 13; have hfz6_14 := blk_frozen BK187.out 14; have hfz6_15 := blk_frozen BK187.out 15; have hfz6_16 := blk_frozen BK187.out 16; have hfz6_17 := blk_frozen BK187.out 17; have hfz6_18 := blk_frozen BK187.out 18; have hfz6_19 := blk_frozen BK187.out 19; have hfz6_20 := blk_frozen BK187.out 20; have hfz6_21 := blk_frozen BK187.out 21) | ((with_reducible refine gate_dst (N := 10) rfl ?_); refine Kd.R_lit (Kd.int .u8) _ 5 ?hg (N := 10) ?hd (xs := ([13] : List Int)) (inner := [.int .u8 13]) (ok := fun _ => True) (okp := fun _ => True) ?hr ?hp (fun _ hk => hk) trivial (Below.refl _ _) (Nat.le_refl _) (by simp) ?_; (case hd => rfl); (case hg => rfl); (case hr => first | (go_simp; done) | (go_simp; rfl)); (case hp => exact (Reps.one (show Kd.M (Kd.int .u8) _ _ _ 13 [.int .u8 13] from rfl) (Reps.none _ _))); intro v189 w7 ho8 hb hg_ hnew_; clear hg_ hnew_; (first | rw [← Ny188.out] at ho8 | (simp only [Int.reduceToNat] at ho8; rw [← Ny188.out] at ho8)); have n0_ := Aside0.mk (Kd.R_lower ho8 (below_size (by repeat (first | (with_reducible first | exact HB.out | apply below_alloc | apply pw_below_drewN | apply below_drew1 | refine below_set ?_ GE187.out) | exact HB.out)))); have n1_ := Aside0.mk (blk_below (g := gb187) (o := .cells #[.int .u8 a1_0, .int .u8 a1_1, .int .u16 a1_2, .int .u16 a1_3, .int .u16 a1_4, .int .u16 a1_5, .int .u16 a1_6, .int .u16 a1_7, .int .u16 a1_8, .int .u16 a1_9, .int .u16 a1_10, .int .u16 a1_11, .slice A1_12 l1_12.length c1_12, .slice A1_13 l1_13.length c1_13, .slice A1_14 l1_14.length c1_14, .slice A1_15 l1_15.length c1_15, .int .u8 a1_16, .int .u8 a1_17, .int .u8 a1_18, .int .u8 a1_19, .int .u8 a1_20, .slice A1_21 l1_21.length c1_21] 30 (0, 0)) (by (with_reducible repeat (first | refine blk_drewN ?_ _ | refine blk_drew ?_ | refine blk_alloc ?_ _)); exact BK187.out) hb); have n2_ := Aside0.mk (below_step (by repeat (first | (with_reducible first | exact HB.out | apply below_alloc | apply pw_below_drewN | apply below_drew1 | refine below_set ?_ GE187.out) | exact HB.out)) hb); clear BK187; clear HB; have HO190 := n0_; have BK187 := n1_; have HB := n2_; clear n0_ n1_ n2_; clear hb ho8; have hcz9_0 : w7.cell? ⟨gb187, 0, none⟩ = some (.int .u8 a1_0) := (blk_cell BK187.out 0).trans rfl; have hcz9_1 : w7.cell? ⟨gb187, 1, none⟩ = some (.int .u8 a1_1) := (blk_cell BK187.out 1).trans rfl; have hcz9_2 : w7.cell? ⟨gb187, 2, none⟩ = some (.int .u16 a1_2) := (blk_cell BK187.out 2).trans rfl; have hcz9_3 : w7.cell? ⟨gb187, 3, none⟩ = some (.int .u16 a1_3) := (blk_cell BK187.out 3).trans rfl; have hcz9_4 : w7.cell? ⟨gb187, 4, none⟩ = some (.int .u16 a1_4) := (blk_cell BK187.out 4).trans rfl; have hcz9_5 : w7.cell? ⟨gb187, 5, none⟩ = some (.int .u16 a1_5) := (blk_cell BK187.out 5).trans rfl; have hcz9_6 : w7.cell? ⟨gb187, 6, none⟩ = some (.int .u16 a1_6) := (blk_cell BK187.out 6).trans rfl; have hcz9_7 : w7.cell? ⟨gb187, 7, none⟩ = some (.int .u16 a1_7) := (blk_cell BK187.out 7).trans rfl; have hcz9_8 : w7.cell? ⟨gb187, 8, none⟩ = some (.int .u16 a1_8) := (blk_cell BK187.out 8).trans rfl; have hcz9_9 : w7.cell? ⟨gb187, 9, none⟩ = some (.int .u16 a1_9) := (blk_cell BK187.out 9).trans rfl; have hcz9_10 : w7.cell? ⟨gb187, 10, none⟩ = some (.int .u16 a1_10) := (blk_cell BK187.out 10).trans rfl; have hcz9_11 : w7.cell? ⟨gb187, 11, none⟩ = some (.int .u16 a1_11) := (blk_cell BK187.out 11).trans rfl; have hcz9_12 : w7.cell? ⟨gb187, 12, none⟩ = some (.slice A1_12 l1_12.length c1_12) := (blk_cell BK187.out 12).trans rfl; have hcz9_13 : w7.cell? ⟨gb187, 13, none⟩ = some (.slice A1_13 l1_13.length c1_13) := (blk_cell BK187.out 13).trans rfl; have hcz9_14 : w7.cell? ⟨gb187, 14, none⟩ = some (.slice A1_14 l1_14.length c1_14) := (blk_cell BK187.out 14).trans rfl; have hcz9_15 : w7.cell? ⟨gb187, 15, none⟩ = some (.slice A1_15 l1_15.length c1_15) := (blk_cell BK187.out 15).trans rfl; have hcz9_16 : w7.cell? ⟨gb187, 16, none⟩ = some (.int .u8 a1_16) := (blk_cell BK187.out 16).trans rfl; have hcz9_17 : w7.cell? ⟨gb187, 17, none⟩ = some (.int .u8 a1_17) := (blk_cell BK187.out 17).trans rfl; have hcz9_18 : w7.cell? ⟨gb187, 18, none⟩ = some (.int .u8 a1_18) := (blk_cell BK187.out 18).trans rfl; have hcz9_19 : w7.cell? ⟨gb187, 19, none⟩ = some (.int .u8 a1_19) := (blk_cell BK187.out 19).trans rfl; have hcz9_20 : w7.cell? ⟨gb187, 20, none⟩ = some (.int .u8 a1_20) := (blk_cell BK187.out 20).trans rfl; have hcz9_21 : w7.cell? ⟨gb187, 21, none⟩ = some (.slice A1_21 l1_21.length c1_21) := (blk_cell BK187.out 21).trans rfl; have hfz9_0 := blk_frozen BK187.out 0; have hfz9_1 := blk_frozen BK187.out 1; have hfz9_2 := blk_frozen BK187.out 2; have hfz9_3 := blk_frozen BK187.out 3; have hfz9_4 := blk_frozen BK187.out 4; have hfz9_5 := blk_frozen BK187.out 5; have hfz9_6 := blk_frozen BK187.out 6; have hfz9_7 := blk_frozen BK187.out 7; have hfz9_8 := blk_frozen BK187.out 8; have hfz9_9 := blk_frozen BK187.out 9; have hfz9_10 := blk_frozen BK187.out 10; have hfz9_11 := blk_frozen BK187.out 11; have hfz9_12 := blk_frozen BK187.out 12; have hfz9_13 := blk_frozen BK187.out 13; have hfz9_14 := blk_frozen BK187.out 14; have hfz9_15 := blk_frozen BK187.out 15; have hfz9_16 := blk_frozen BK187.out 16; have hfz9_17 := blk_frozen BK187.out 17; have hfz9_18 := blk_frozen BK187.out 18; have hfz9_19 := blk_frozen BK187.out 19; have hfz9_20 := blk_frozen BK187.out 20; have hfz9_21 := blk_frozen BK187.out 21) | ((with_reducible refine gate_builtin (b := .append) (xs := #[.tmp 10, .tmp 12]) rfl ?_); at_builtin; refine Kd.R_append_rows (Kd.int .u8) (w0 := w) w.heap.size rfl (.tmp 10) (.tmp 12) 22 5 (.int .u8 0) 1 rfl Try.underlying22 info5 rfl (by decide) (by omega) v189 y188 l1_14 _ _ _ (fun _ => True) (fun _ => False) rfl rfl ?aO ?aR (fun _ _ h => h) (fun _ h => h.elim) ?aF ?aB ?aS ?aL ?_; (case aR => repeat (first | exact (Kd.C_below HR1_14.out HB.out) | (with_reducible refine Kd.C_alloc ?_ _) | (with_reducible refine Kd.C_drewN ?_ _) | (with_reducible refine Kd.C_drew ?_))); (case aB => exact (by repeat (first | (with_reducible first | exact HB.out | apply below_alloc | apply pw_below_drewN | apply below_drew1 | refine below_set ?_ GE187.out) | exact HB.out))); (case aF => exact (fun _ _ => trivial)); (case aO => exact (by (with_reducible repeat (first | apply Kd.R_alloc | apply Kd.R_drewN | apply Kd.R_drew)); exact HO190.out)); (case aS => exact (below_size (by repeat (first | (with_reducible first | exact HB.out | apply below_alloc | apply pw_below_drewN | apply below_drew1 | refine below_set ?_ GE187.out) | exact HB.out)))); (case aL => have := LMc4.out; omega); intro v192 w10 ho hb hg hat; rw [← Ny191.out] at ho; have n0_ := Aside0.mk (blk_grown (g := gb187) (o := .cells #[.int .u8 a1_0, .int .u8 a1_1, .int .u16 a1_2, .int .u16 a1_3, .int .u16 a1_4, .int .u16 a1_5, .int .u16 a1_6, .int .u16 a1_7, .int .u16 a1_8, .int .u16 a1_9, .int .u16 a1_10, .int .u16 a1_11, .slice A1_12 l1_12.length c1_12, .slice A1_13 l1_13.length c1_13, .slice A1_14 l1_14.length c1_14, .slice A1_15 l1_15.length c1_15, .int .u8 a1_16, .int .u8 a1_17, .int .u8 a1_18, .int .u8 a1_19, .int .u8 a1_20, .slice A1_21 l1_21.length c1_21] 30 (0, 0)) (by (with_reducible repeat (first | refine blk_drewN ?_ _ | refine blk_drew ?_ | refine blk_alloc ?_ _)); exact BK187.out) hg (Kd.R_ne HO190.out BK187.out (by decide))); have n1_ := Aside0.mk (hb); have n2_ := Aside0.mk (ho); clear BK187; clear HB; clear HO190; have BK187 := n0_; have HB := n1_; have HO193 := n2_; clear n0_ n1_ n2_; clear ho hb hg hat))
      go_ret
      exact ⟨_, by first | rfl | (simp [errW_none, errW_some] <;> rfl) | (simp [*, errW_none, errW_some] <;> rfl), by (with_reducible repeat (first | apply Kd.R_alloc | apply Kd.R_drewN | apply Kd.R_drew)); exact HO193.out, by repeat (first | (with_reducible first | exact HB.out | apply below_alloc | apply pw_below_drewN | apply below_drew1 | refine below_set ?_ GE187.out) | exact HB.out)⟩
    · rw [if_neg c4] at H
      exact absurd H (by simp)
  · rw [if_neg c3] at H
    have c3b0 : (a1_16 == 13) = false := beq_eq_false_iff_ne.mpr c3
    have c3b1 : (a1_16 != 13) = true := bne_iff_ne.mpr c3
    by_cases c11 : a0 = 0
    · rw [if_pos c11] at H
      have c11b0 : (a0 == 0) = true := beq_iff_eq.mpr c11
      have c11b1 : (a0 != 0) = false := bne_eq_false_iff_eq.mpr c11
      clear c11
      obtain ⟨y194, hy194⟩ : ∃ y_ : List Int, y_ = (([a1_16, a1_17, a1_20] : List Int)) := ⟨_, rfl⟩
      replace H : (some y194) = some r := by first | (rw [hy194]; with_reducible exact H) | (have H2_ := (Option.bind_some _ _).symm.trans H; rw [hy194]; with_reducible exact H2_) | (have H2_ := (Option.bind_some _ _).symm.trans H; with_reducible exact H2_) | with_reducible exact H | (rw [hy194]; exact H) | exact H
      have Ny194 := Aside0.mk hy194
      clear hy194
      obtain rfl := Option.some.inj H
      go_enter Try.func36, Try.ntmps36
      go_wp2_with (first | ((with_reducible refine gate_dst (N := 3) rfl ?_); refine box_event ?hg (N := 3) ?hd (cs := #[.int .u8 a1_0, .int .u8 a1_1, .int .u16 a1_2, .int .u16 a1_3, .int .u16 a1_4, .int .u16 a1_5, .int .u16 a1_6, .int .u16 a1_7, .int .u16 a1_8, .int .u16 a1_9, .int .u16 a1_10, .int .u16 a1_11, .slice A1_12 l1_12.length c1_12, .slice A1_13 l1_13.length c1_13, .slice A1_14 l1_14.length c1_14, .slice A1_15 l1_15.length c1_15, .int .u8 a1_16, .int .u8 a1_17, .int .u8 a1_18, .int .u8 a1_19, .int .u8 a1_20, .slice A1_21 l1_21.length c1_21]) (t := 30) ?hr ?_; (case hd => rfl); (case hg => rfl); (case hr => first | (go_simp; done) | (go_simp; rfl)); intro gb187 hg w12 hbox hb; have n0_ := Aside0.mk (below_step (by repeat (first | (with_reducible first | exact HB.out | apply below_alloc | apply pw_below_drewN | apply below_drew1) | exact HB.out)) hb); have n1_ := Aside0.mk (hbox); have n2_ := Aside0.mk ((by rw [hg]; exact (below_size (by repeat (first | (with_reducible first | exact HB.out | apply below_alloc | apply pw_below_drewN | apply below_drew1) | exact HB.out))) : w.heap.size ≤ gb187)); have n3_ := Aside0.mk ((by rw [hg]; exact (below_size (by repeat (first | (with_reducible first | exact HB.out | apply below_alloc | apply pw_below_drewN | apply below_drew1) | exact HB.out))) : w.heap.size ≤ gb187)); clear HB; have HB := n0_; have BK187 := n1_; have GW187 := n2_; have GE187 := n3_; clear n0_ n1_ n2_ n3_; clear hb hbox hg; have hcz13_0 : w12.cell? ⟨gb187, 0, none⟩ = some (.int .u8 a1_0) := (blk_cell BK187.out 0).trans rfl; have hcz13_1 : w12.cell? ⟨gb187, 1, none⟩ = some (.int .u8 a1_1) := (blk_cell BK187.out 1).trans rfl; have hcz13_2 : w12.cell? ⟨gb187, 2, none⟩ = some (.int .u16 a1_2) := (blk_cell BK187.out 2).trans rfl; have hcz13_3 : w12.cell? ⟨gb187, 3, none⟩ = some (.int .u16 a1_3) := (blk_cell BK187.out 3).trans rfl; have hcz13_4 : w12.cell? ⟨gb187, 4, none⟩ = some (.int .u16 a1_4) := (blk_cell BK187.out 4).trans rfl; have hcz13_5 : w12.cell? ⟨gb187, 5, none⟩ = some (.int .u16 a1_5) := (blk_cell BK187.out 5).trans rfl; have hcz13_6 : w12.cell? ⟨gb187, 6, none⟩ = some (.int .u16 a1_6) := (blk_cell BK187.out 6).trans rfl; have hcz13_7 : w12.cell? ⟨gb187, 7, none⟩ = some (.int .u16 a1_7) := (blk_cell BK187.out 7).trans rfl; have hcz13_8 : w12.cell? ⟨gb187, 8, none⟩ = some (.int .u16 a1_8) := (blk_cell BK187.out 8).trans rfl; have hcz13_9 : w12.cell? ⟨gb187, 9, none⟩ = some (.int .u16 a1_9) := (blk_cell BK187.out 9).trans rfl; have hcz13_10 : w12.cell? ⟨gb187, 10, none⟩ = some (.int .u16 a1_10) := (blk_cell BK187.out 10).trans rfl; have hcz13_11 : w12.cell? ⟨gb187, 11, none⟩ = some (.int .u16 a1_11) := (blk_cell BK187.out 11).trans rfl; have hcz13_12 : w12.cell? ⟨gb187, 12, none⟩ = some (.slice A1_12 l1_12.length c1_12) := (blk_cell BK187.out 12).trans rfl; have hcz13_13 : w12.cell? ⟨gb187, 13, none⟩ = some (.slice A1_13 l1_13.length c1_13) := (blk_cell BK187.out 13).trans rfl; have hcz13_14 : w12.cell? ⟨gb187, 14, none⟩ = some (.slice A1_14 l1_14.length c1_14) := (blk_cell BK187.out 14).trans rfl; have hcz13_15 : w12.cell? ⟨gb187, 15, none⟩ = some (.slice A1_15 l1_15.length c1_15) := (blk_cell BK187.out 15).trans rfl; have hcz13_16 : w12.cell? ⟨gb187, 16, none⟩ = some (.int .u8 a1_16) := (blk_cell BK187.out 16).trans rfl; have hcz13_17 : w12.cell? ⟨gb187, 17, none⟩ = some (.int .u8 a1_17) := (blk_cell BK187.out 17).trans rfl; have hcz13_18 : w12.cell? ⟨gb187, 18, none⟩ = some (.int .u8 a1_18) := (blk_cell BK187.out 18).trans rfl; have hcz13_19 : w12.cell? ⟨gb187, 19, none⟩ = some (.int .u8 a1_19) := (blk_cell BK187.out 19).trans rfl; have hcz13_20 : w12.cell? ⟨gb187, 20, none⟩ = some (.int .u8 a1_20) := (blk_cell BK187.out 20).trans rfl; have hcz13_21 : w12.cell? ⟨gb187, 21, none⟩ = some (.slice A1_21 l1_21.length c1_21) := (blk_cell BK187.out 21).trans rfl; have hfz13_0 := blk_frozen BK187.out 0; have hfz13_1 := blk_frozen BK187.out 1; have hfz13_2 := blk_frozen BK187.out 2; have hfz13_3 := blk_frozen BK187.out 3; have hfz13_4 := blk_frozen BK187.out 4; have hfz13_5 := blk_frozen BK187.out 5; have hfz13_6 := blk_frozen BK187.out 6; have hfz13_7 := blk_frozen BK187.out 7; have hfz13_8 := blk_frozen BK187.out 8; have hfz13_9 := blk_frozen BK187.out 9; have hfz13_10 := blk_frozen BK187.out 10; have hfz13_11 := blk_frozen BK187.out 11; have hfz13_12 := blk_frozen BK187.out 12; have hfz13_13 := blk_frozen BK187.out 13; have hfz13_14 := blk_frozen BK187.out 14; have hfz13_15 := blk_frozen BK187.out 15; have hfz13_16 := blk_frozen BK187.out 16; have hfz13_17 := blk_frozen BK187.out 17; have hfz13_18 := blk_frozen BK187.out 18; have hfz13_19 := blk_frozen BK187.out 19; have hfz13_20 := blk_frozen BK187.out 20; have hfz13_21 := blk_frozen BK187.out 21) | ((with_reducible refine gate_dst (N := 22) rfl ?_); refine Kd.R_lit (Kd.int .u8) _ 5 ?hg (N := 22) ?hd (xs := ([a1_16, a1_17, a1_20] : List Int)) (inner := [.int .u8 a1_16, .int .u8 a1_17, .int .u8 a1_20]) (ok := fun _ => True) (okp := fun _ => True) ?hr ?hp (fun _ hk => hk) trivial (Below.refl _ _) (Nat.le_refl _) (by simp) ?_; (case hd => rfl); (case hg => rfl); (case hr => first | (go_simp; done) | (go_simp; rfl)); (case hp => exact (Reps.one (show Kd.M (Kd.int .u8) _ _ _ a1_16 [.int .u8 a1_16] from rfl) (Reps.one (show Kd.M (Kd.int .u8) _ _ _ a1_17 [.int .u8 a1_17] from rfl) (Reps.one (show Kd.M (Kd.int .u8) _ _ _ a1_20 [.int .u8 a1_20] from rfl) (Reps.none _ _))))); intro v195 w14 ho15 hb hg_ hnew_; clear hg_ hnew_; (first | rw [← Ny194.out] at ho15 | (simp only [Int.reduceToNat] at ho15; rw [← Ny194.out] at ho15)); have n0_ := Aside0.mk (Kd.R_lower ho15 (below_size (by repeat (first | (with_reducible first | exact HB.out | apply below_alloc | apply pw_below_drewN | apply below_drew1 | refine below_set ?_ GE187.out) | exact HB.out)))); have n1_ := Aside0.mk (blk_below (g := gb187) (o := .cells #[.int .u8 a1_0, .int .u8 a1_1, .int .u16 a1_2, .int .u16 a1_3, .int .u16 a1_4, .int .u16 a1_5, .int .u16 a1_6, .int .u16 a1_7, .int .u16 a1_8, .int .u16 a1_9, .int .u16 a1_10, .int .u16 a1_11, .slice A1_12 l1_12.length c1_12, .slice A1_13 l1_13.length c1_13, .slice A1_14 l1_14.length c1_14, .slice A1_15 l1_15.length c1_15, .int .u8 a1_16, .int .u8 a1_17, .int .u8 a1_18, .int .u8 a1_19, .int .u8 a1_20, .slice A1_21 l1_21.length c1_21] 30 (0, 0)) (by (with_reducible repeat (first | refine blk_drewN ?_ _ | refine blk_drew ?_ | refine blk_alloc ?_ _)); exact BK187.out) hb); have n2_ := Aside0.mk (below_step (by repeat (first | (with_reducible first | exact HB.out | apply below_alloc | apply pw_below_drewN | apply below_drew1 | refine below_set ?_ GE187.out) | exact HB.out)) hb); clear BK187; clear HB; have HO196 := n0_; have BK187 := n1_; have HB := n2_; clear n0_ n1_ n2_; clear hb ho15))
      go_ret
      exact ⟨_, by first | rfl | (simp [errW_none, errW_some] <;> rfl) | (simp [*, errW_none, errW_some] <;> rfl), by (with_reducible repeat (first | apply Kd.R_alloc | apply Kd.R_drewN | apply Kd.R_drew)); exact HO196.out, by repeat (first | (with_reducible first | exact HB.out | apply below_alloc | apply pw_below_drewN | apply below_drew1 | refine below_set ?_ GE187.out) | exact HB.out)⟩
    · rw [if_neg c11] at H
      have c11b0 : (a0 == 0) = false := beq_eq_false_iff_ne.mpr c11
      have c11b1 : (a0 != 0) = true := bne_iff_ne.mpr c11
      obtain ⟨y197, hy197⟩ : ∃ y_ : List Int, y_ = (([a1_16, a1_17, a1_18, a1_19, a1_20, ((l1_21.length : Int)) % 256] : List Int)) := ⟨_, rfl⟩
      replace H : (busbarref12_bytes.l0 k y197 0 a1_0 a1_1 a1_2 a1_3 a1_4 a1_5 a1_6 a1_7 a1_8 a1_9 a1_10 a1_11 l1_12 l1_13 l1_14 l1_15 a1_16 a1_17 a1_18 a1_19 a1_20 l1_21) = some r := by first | (rw [hy197]; with_reducible exact H) | (have H2_ := (Option.bind_some _ _).symm.trans H; rw [hy197]; with_reducible exact H2_) | (have H2_ := (Option.bind_some _ _).symm.trans H; with_reducible exact H2_) | with_reducible exact H | (rw [hy197]; exact H) | exact H
      have Ny197 := Aside0.mk hy197
      clear hy197
      have H' := Aside0.mk H
      clear H
      go_enter Try.func36, Try.ntmps36
      go_wp2_with (first | ((with_reducible refine gate_dst (N := 3) rfl ?_); refine box_event ?hg (N := 3) ?hd (cs := #[.int .u8 a1_0, .int .u8 a1_1, .int .u16 a1_2, .int .u16 a1_3, .int .u16 a1_4, .int .u16 a1_5, .int .u16 a1_6, .int .u16 a1_7, .int .u16 a1_8, .int .u16 a1_9, .int .u16 a1_10, .int .u16 a1_11, .slice A1_12 l1_12.length c1_12, .slice A1_13 l1_13.length c1_13, .slice A1_14 l1_14.length c1_14, .slice A1_15 l1_15.length c1_15, .int .u8 a1_16, .int .u8 a1_17, .int .u8 a1_18, .int .u8 a1_19, .int .u8 a1_20, .slice A1_21 l1_21.length c1_21]) (t := 30) ?hr ?_; (case hd => rfl); (case hg => rfl); (case hr => first | (go_simp; done) | (go_simp; rfl)); intro gb187 hg w16 hbox hb; have n0_ := Aside0.mk (below_step (by repeat (first | (with_reducible first | exact HB.out | apply below_alloc | apply pw_below_drewN | apply below_drew1) | exact HB.out)) hb); have n1_ := Aside0.mk (hbox); have n2_ := Aside0.mk ((by rw [hg]; exact (below_size (by repeat (first | (with_reducible first | exact HB.out | apply below_alloc | apply pw_below_drewN | apply below_drew1) | exact HB.out))) : w.heap.size ≤ gb187)); have n3_ := Aside0.mk ((by rw [hg]; exact (below_size (by repeat (first | (with_reducible first | exact HB.out | apply below_alloc | apply pw_below_drewN | apply below_drew1) | exact HB.out))) : w.heap.size ≤ gb187)); clear HB; have HB := n0_; have BK187 := n1_; have GW187 := n2_; have GE187 := n3_; clear n0_ n1_ n2_ n3_; clear hb hbox hg; have hcz17_0 : w16.cell? ⟨gb187, 0, none⟩ = some (.int .u8 a1_0) := (blk_cell BK187.out 0).trans rfl; have hcz17_1 : w16.cell? ⟨gb187, 1, none⟩ = some (.int .u8 a1_1) := (blk_cell BK187.out 1).trans rfl; have hcz17_2 : w16.cell? ⟨gb187, 2, none⟩ = some (.int .u16 a1_2) := (blk_cell BK187.out 2).trans rfl; have hcz17_3 : w16.cell? ⟨gb187, 3, none⟩ = some (.int .u16 a1_3) := (blk_cell BK187.out 3).trans rfl; have hcz17_4 : w16.cell? ⟨gb187, 4, none⟩ = some (.int .u16 a1_4) := (blk_cell BK187.out 4).trans rfl; have hcz17_5 : w16.cell? ⟨gb187, 5, none⟩ = some (.int .u16 a1_5) := (blk_cell BK187.out 5).trans rfl; have hcz17_6 : w16.cell? ⟨gb187, 6, none⟩ = some (.int .u16 a1_6) := (blk_cell BK187.out 6).trans rfl; have hcz17_7 : w16.cell? ⟨gb187, 7, none⟩ = some (.int .u16 a1_7) := (blk_cell BK187.out 7).trans rfl; have hcz17_8 : w16.cell? ⟨gb187, 8, none⟩ = some (.int .u16 a1_8) := (blk_cell BK187.out 8).trans rfl; have hcz17_9 : w16.cell? ⟨gb187, 9, none⟩ = some (.int .u16 a1_9) := (blk_cell BK187.out 9).trans rfl; have hcz17_10 : w16.cell? ⟨gb187, 10, none⟩ = some (.int .u16 a1_10) := (blk_cell BK187.out 10).trans rfl; have hcz17_11 : w16.cell? ⟨gb187, 11, none⟩ = some (.int .u16 a1_11) := (blk_cell BK187.out 11).trans rfl; have hcz17_12 : w16.cell? ⟨gb187, 12, none⟩ = some (.slice A1_12 l1_12.length c1_12) := (blk_cell BK187.out 12).trans rfl; have hcz17_13 : w16.cell? ⟨gb187, 13, none⟩ = some (.slice A1_13 l1_13.length c1_13) := (blk_cell BK187.out 13).trans rfl; have hcz17_14 : w16.cell? ⟨gb187, 14, none⟩ = some (.slice A1_14 l1_14.length c1_14) := (blk_cell BK187.out 14).trans rfl; have hcz17_15 : w16.cell? ⟨gb187, 15, none⟩ = some (.slice A1_15 l1_15.length c1_15) := (blk_cell BK187.out 15).trans rfl; have hcz17_16 : w16.cell? ⟨gb187, 16, none⟩ = some (.int .u8 a1_16) := (blk_cell BK187.out 16).trans rfl; have hcz17_17 : w16.cell? ⟨gb187, 17, none⟩ = some (.int .u8 a1_17) := (blk_cell BK187.out 17).trans rfl; have hcz17_18 : w16.cell? ⟨gb187, 18, none⟩ = some (.int .u8 a1_18) := (blk_cell BK187.out 18).trans rfl; have hcz17_19 : w16.cell? ⟨gb187, 19, none⟩ = some (.int .u8 a1_19) := (blk_cell BK187.out 19).trans rfl; have hcz17_20 : w16.cell? ⟨gb187, 20, none⟩ = some (.int .u8 a1_20) := (blk_cell BK187.out 20).trans rfl; have hcz17_21 : w16.cell? ⟨gb187, 21, none⟩ = some (.slice A1_21 l1_21.length c1_21) := (blk_cell BK187.out 21).trans rfl; have hfz17_0 := blk_frozen BK187.out 0; have hfz17_1 := blk_frozen BK187.out 1; have hfz17_2 := blk_frozen BK187.out 2; have hfz17_3 := blk_frozen BK187.out 3; have hfz17_4 := blk_frozen BK187.out 4; have hfz17_5 := blk_frozen BK187.out 5; have hfz17_6 := blk_frozen BK187.out 6; have hfz17_7 := blk_frozen BK187.out 7; have hfz17_8 := blk_frozen BK187.out 8; have hfz17_9 := blk_frozen BK187.out 9; have hfz17_10 := blk_frozen BK187.out 10; have hfz17_11 := blk_frozen BK187.out 11; have hfz17_12 := blk_frozen BK187.out 12; have hfz17_13 := blk_frozen BK187.out 13; have hfz17_14 := blk_frozen BK187.out 14; have hfz17_15 := blk_frozen BK187.out 15; have hfz17_16 := blk_frozen BK187.out 16; have hfz17_17 := blk_frozen BK187.out 17; have hfz17_18 := blk_frozen BK187.out 18; have hfz17_19 := blk_frozen BK187.out 19; have hfz17_20 := blk_frozen BK187.out 20; have hfz17_21 := blk_frozen BK187.out 21) | ((with_reducible refine gate_dst (N := 37) rfl ?_); refine Kd.R_lit (Kd.int .u8) _ 5 ?hg (N := 37) ?hd (xs := ([a1_16, a1_17, a1_18, a1_19, a1_20, ((l1_21.length : Int)) % 256] : List Int)) (inner := [.int .u8 a1_16, .int .u8 a1_17, .int .u8 a1_18, .int .u8 a1_19, .int .u8 a1_20, .int .u8 (((l1_21.length : Int)) % 256)]) (ok := fun _ => True) (okp := fun _ => True) ?hr ?hp (fun _ hk => hk) trivial (Below.refl _ _) (Nat.le_refl _) (by simp) ?_; (case hd => rfl); (case hg => rfl); (case hr => first | (go_simp; done) | (go_simp; rfl)); (case hp => exact (Reps.one (show Kd.M (Kd.int .u8) _ _ _ a1_16 [.int .u8 a1_16] from rfl) (Reps.one (show Kd.M (Kd.int .u8) _ _ _ a1_17 [.int .u8 a1_17] from rfl) (Reps.one (show Kd.M (Kd.int .u8) _ _ _ a1_18 [.int .u8 a1_18] from rfl) (Reps.one (show Kd.M (Kd.int .u8) _ _ _ a1_19 [.int .u8 a1_19] from rfl) (Reps.one (show Kd.M (Kd.int .u8) _ _ _ a1_20 [.int .u8 a1_20] from rfl) (Reps.one (show Kd.M (Kd.int .u8) _ _ _ (((l1_21.length : Int)) % 256) [.int .u8 (((l1_21.length : Int)) % 256)] from rfl) (Reps.none _ _)))))))); intro v198 w18 ho19 hb hg_ hnew_; clear hg_ hnew_; (first | rw [← Ny197.out] at ho19 | (simp only [Int.reduceToNat] at ho19; rw [← Ny197.out] at ho19)); have n0_ := Aside0.mk (Kd.R_lower ho19 (below_size (by repeat (first | (with_reducible first | exact HB.out | apply below_alloc | apply pw_below_drewN | apply below_drew1 | refine below_set ?_ GE187.out) | exact HB.out)))); have n1_ := Aside0.mk (blk_below (g := gb187) (o := .cells #[.int .u8 a1_0, .int .u8 a1_1, .int .u16 a1_2, .int .u16 a1_3, .int .u16 a1_4, .int .u16 a1_5, .int .u16 a1_6, .int .u16 a1_7, .int .u16 a1_8, .int .u16 a1_9, .int .u16 a1_10, .int .u16 a1_11, .slice A1_12 l1_12.length c1_12, .slice A1_13 l1_13.length c1_13, .slice A1_14 l1_14.length c1_14, .slice A1_15 l1_15.length c1_15, .int .u8 a1_16, .int .u8 a1_17, .int .u8 a1_18, .int .u8 a1_19, .int .u8 a1_20, .slice A1_21 l1_21.length c1_21] 30 (0, 0)) (by (with_reducible repeat (first | refine blk_drewN ?_ _ | refine blk_drew ?_ | refine blk_alloc ?_ _)); exact BK187.out) hb); have n2_ := Aside0.mk (below_step (by repeat (first | (with_reducible first | exact HB.out | apply below_alloc | apply pw_below_drewN | apply below_drew1 | refine below_set ?_ GE187.out) | exact HB.out)) hb); clear BK187; clear HB; have HO199 := n0_; have BK187 := n1_; have HB := n2_; clear n0_ n1_ n2_; clear hb ho19))
      go_loopg [5, 6] k (fun kq v5 v6 w' => ∃ (x5_1 : List Int) (x6_1 : Int), v6 = .int .i64 x6_1 ∧ Aside0 (busbarref12_bytes.l0 kq x5_1 x6_1 a1_0 a1_1 a1_2 a1_3 a1_4 a1_5 a1_6 a1_7 a1_8 a1_9 a1_10 a1_11 l1_12 l1_13 l1_14 l1_15 a1_16 a1_17 a1_18 a1_19 a1_20 l1_21 = some r) ∧ Aside0 (kq ≤ k) ∧ Aside0 (Kd.R (Kd.int .u8) 5 w' w.heap.size (fun _ => True) v5 x5_1) ∧ Aside0 (w'.heap[gb187]? = some (.cells #[.int .u8 a1_0, .int .u8 a1_1, .int .u16 a1_2, .int .u16 a1_3, .int .u16 a1_4, .int .u16 a1_5, .int .u16 a1_6, .int .u16 a1_7, .int .u16 a1_8, .int .u16 a1_9, .int .u16 a1_10, .int .u16 a1_11, (.slice A1_12 l1_12.length c1_12), (.slice A1_13 l1_13.length c1_13), (.slice A1_14 l1_14.length c1_14), (.slice A1_15 l1_15.length c1_15), .int .u8 a1_16, .int .u8 a1_17, .int .u8 a1_18, .int .u8 a1_19, .int .u8 a1_20, (.slice A1_21 l1_21.length c1_21)] 30 (0, 0))) ∧ Aside0 (Below w.heap.size w w'))
      case atStart => exact ⟨(y197), (0), (by first | rfl | (simp; done) | (simp [*]; done)), H', ⟨Nat.le_refl _⟩, ⟨by (with_reducible repeat (first | apply Kd.R_alloc | apply Kd.R_drewN | apply Kd.R_drew)); exact HO199.out⟩, ⟨by (with_reducible repeat (first | refine blk_drewN ?_ _ | refine blk_drew ?_ | refine blk_alloc ?_ _)); exact BK187.out⟩, ⟨by repeat (first | (with_reducible first | exact HB.out | apply below_alloc | apply pw_below_drewN | apply below_drew1 | refine below_set ?_ GE187.out) | exact HB.out)⟩⟩
      case round =>
        clear H'
        try clear c1
        try clear p2
        try clear c3
        try clear c3b0
        try clear c3b1
        try clear c4
        try clear c11
        try clear c11b0
        try clear c11b1
        try clear hcz13_0
        try clear hcz13_1
        try clear hcz13_10
        try clear hcz13_11
        try clear hcz13_12
        try clear hcz13_13
        try clear hcz13_14
        try clear hcz13_15
        try clear hcz13_16
        try clear hcz13_17
        try clear hcz13_18
        try clear hcz13_19
        try clear hcz13_2
        try clear hcz13_20
        try clear hcz13_21
        try clear hcz13_3
        try clear hcz13_4
        try clear hcz13_5
        try clear hcz13_6
        try clear hcz13_7
        try clear hcz13_8
        try clear hcz13_9
        try clear hcz17_0
        try clear hcz17_1
        try clear hcz17_10
        try clear hcz17_11
        try clear hcz17_12
        try clear hcz17_13
        try clear hcz17_14
        try clear hcz17_15
        try clear hcz17_16
        try clear hcz17_17
        try clear hcz17_18
        try clear hcz17_19
        try clear hcz17_2
        try clear hcz17_20
        try clear hcz17_21
        try clear hcz17_3
        try clear hcz17_4
        try clear hcz17_5
        try clear hcz17_6
        try clear hcz17_7
        try clear hcz17_8
        try clear hcz17_9
        try clear hcz6_0
        try clear hcz6_1
        try clear hcz6_10
        try clear hcz6_11
        try clear hcz6_12
        try clear hcz6_13
        try clear hcz6_14
        try clear hcz6_15
        try clear hcz6_16
        try clear hcz6_17
        try clear hcz6_18
        try clear hcz6_19
        try clear hcz6_2
        try clear hcz6_20
        try clear hcz6_21
        try clear hcz6_3
        try clear hcz6_4
        try clear hcz6_5
        try clear hcz6_6
        try clear hcz6_7
        try clear hcz6_8
        try clear hcz6_9
        try clear hcz9_0
        try clear hcz9_1
        try clear hcz9_10
        try clear hcz9_11
        try clear hcz9_12
        try clear hcz9_13
        try clear hcz9_14
        try clear hcz9_15
        try clear hcz9_16
        try clear hcz9_17
        try clear hcz9_18
        try clear hcz9_19
        try clear hcz9_2
        try clear hcz9_20
        try clear hcz9_21
        try clear hcz9_3
        try clear hcz9_4
        try clear hcz9_5
        try clear hcz9_6
        try clear hcz9_7
        try clear hcz9_8
        try clear hcz9_9
        try clear hfz13_0
        try clear hfz13_1
        try clear hfz13_10
        try clear hfz13_11
        try clear hfz13_12
        try clear hfz13_13
        try clear hfz13_14
        try clear hfz13_15
        try clear hfz13_16
        try clear hfz13_17
        try clear hfz13_18
        try clear hfz13_19
        try clear hfz13_2
        try clear hfz13_20
        try clear hfz13_21
        try clear hfz13_3
        try clear hfz13_4
        try clear hfz13_5
        try clear hfz13_6
        try clear hfz13_7
        try clear hfz13_8
        try clear hfz13_9
        try clear hfz17_0
        try clear hfz17_1
        try clear hfz17_10
        try clear hfz17_11
        try clear hfz17_12
        try clear hfz17_13
        try clear hfz17_14
        try clear hfz17_15
        try clear hfz17_16
        try clear hfz17_17
        try clear hfz17_18
        try clear hfz17_19
        try clear hfz17_2
        try clear hfz17_20
        try clear hfz17_21
        try clear hfz17_3
        try clear hfz17_4
        try clear hfz17_5
        try clear hfz17_6
        try clear hfz17_7
        try clear hfz17_8
        try clear hfz17_9
        try clear hfz6_0
        try clear hfz6_1
        try clear hfz6_10
        try clear hfz6_11
        try clear hfz6_12
        try clear hfz6_13
        try clear hfz6_14
        try clear hfz6_15
        try clear hfz6_16
        try clear hfz6_17
        try clear hfz6_18
        try clear hfz6_19
        try clear hfz6_2
        try clear hfz6_20
        try clear hfz6_21
        try clear hfz6_3
        try clear hfz6_4
        try clear hfz6_5
        try clear hfz6_6
        try clear hfz6_7
        try clear hfz6_8
        try clear hfz6_9
        try clear hfz9_0
        try clear hfz9_1
        try clear hfz9_10
        try clear hfz9_11
        try clear hfz9_12
        try clear hfz9_13
        try clear hfz9_14
        try clear hfz9_15
        try clear hfz9_16
        try clear hfz9_17
        try clear hfz9_18
        try clear hfz9_19
        try clear hfz9_2
        try clear hfz9_20
        try clear hfz9_21
        try clear hfz9_3
        try clear hfz9_4
        try clear hfz9_5
        try clear hfz9_6
        try clear hfz9_7
        try clear hfz9_8
        try clear hfz9_9
        obtain ⟨x5_1, x6_1, rfl, HA, HK1, HO_5, BK187, HB⟩ := hrel
        cases gk with
        | zero => exact absurd HA.out (by simp [busbarref12_bytes.l0])
        | succ k1 =>
          have H := HA.out
          clear HA
          simp only [busbarref12_bytes.l0] at H
          by_cases c20 : x6_1 < (l1_21.length : Int)
          · rw [if_pos c20] at H
            have c20b0 : decide (x6_1 < (l1_21.length : Int)) = true := decide_eq_true c20
            clear c20
            by_cases c21 : 0 ≤ x6_1
            · rw [if_pos c21] at H
              have c21b0 : decide (0 ≤ x6_1) = true := decide_eq_true c21
              clear c21
              obtain ⟨y202, hy202⟩ : ∃ y_ : List Int, y_ = (([(rd_T43 l1_21 x6_1).f0, ((((rd_T43 l1_21 x6_1).f1).length : Int)) % 256] : List Int)) := ⟨_, rfl⟩
              replace H : (if x5_1.length + y202.length < 140737488355328 then ((some (x5_1 ++ y202 : List Int)).bind fun y205 => (if y205.length + ((rd_T43 l1_21 x6_1).f1).length < 140737488355328 then (busbarref12_bytes.l0 k1 (y205 ++ ((rd_T43 l1_21 x6_1).f1)) (wrap64 (x6_1 + 1)) a1_0 a1_1 a1_2 a1_3 a1_4 a1_5 a1_6 a1_7 a1_8 a1_9 a1_10 a1_11 l1_12 l1_13 l1_14 l1_15 a1_16 a1_17 a1_18 a1_19 a1_20 l1_21) else (none))) else (none)) = some r := by first | (rw [hy202]; with_reducible exact H) | (have H2_ := (Option.bind_some _ _).symm.trans H; rw [hy202]; with_reducible exact H2_) | (have H2_ := (Option.bind_some _ _).symm.trans H; with_reducible exact H2_) | with_reducible exact H | (rw [hy202]; exact H) | exact H
              have Ny202 := Aside0.mk hy202
              clear hy202
              by_cases c22 : x5_1.length + y202.length < 140737488355328
              · rw [if_pos c22] at H
                have LMc22 := Aside0.mk c22
                clear c22
                obtain ⟨y205, hy205⟩ : ∃ y_ : List Int, y_ = (x5_1 ++ y202) := ⟨_, rfl⟩
                replace H : (if y205.length + ((rd_T43 l1_21 x6_1).f1).length < 140737488355328 then (busbarref12_bytes.l0 k1 (y205 ++ ((rd_T43 l1_21 x6_1).f1)) (wrap64 (x6_1 + 1)) a1_0 a1_1 a1_2 a1_3 a1_4 a1_5 a1_6 a1_7 a1_8 a1_9 a1_10 a1_11 l1_12 l1_13 l1_14 l1_15 a1_16 a1_17 a1_18 a1_19 a1_20 l1_21) else (none)) = some r := by first | (rw [hy205]; with_reducible exact H) | (have H2_ := (Option.bind_some _ _).symm.trans H; rw [hy205]; with_reducible exact H2_) | (have H2_ := (Option.bind_some _ _).symm.trans H; with_reducible exact H2_) | with_reducible exact H | (rw [hy205]; exact H) | exact H
                have Ny205 := Aside0.mk hy205
                clear hy205
                by_cases c23 : y205.length + ((rd_T43 l1_21 x6_1).f1).length < 140737488355328
                · rw [if_pos c23] at H
                  have LMc23 := Aside0.mk c23
                  clear c23
                  obtain ⟨y209, hy209⟩ : ∃ y_ : List Int, y_ = (y205 ++ ((rd_T43 l1_21 x6_1).f1)) := ⟨_, rfl⟩
                  replace H : (busbarref12_bytes.l0 k1 y209 (wrap64 (x6_1 + 1)) a1_0 a1_1 a1_2 a1_3 a1_4 a1_5 a1_6 a1_7 a1_8 a1_9 a1_10 a1_11 l1_12 l1_13 l1_14 l1_15 a1_16 a1_17 a1_18 a1_19 a1_20 l1_21) = some r := by first | (rw [hy209]; with_reducible exact H) | (have H2_ := (Option.bind_some _ _).symm.trans H; rw [hy209]; with_reducible exact H2_) | (have H2_ := (Option.bind_some _ _).symm.trans H; with_reducible exact H2_) | with_reducible exact H | (rw [hy209]; exact H) | exact H
                  have Ny209 := Aside0.mk hy209
                  clear hy209
                  have H' := Aside0.mk H
                  clear H
                  have hcz24_0 : wr.cell? ⟨gb187, 0, none⟩ = some (.int .u8 a1_0) := (blk_cell BK187.out 0).trans rfl
                  have hcz24_1 : wr.cell? ⟨gb187, 1, none⟩ = some (.int .u8 a1_1) := (blk_cell BK187.out 1).trans rfl
                  have hcz24_2 : wr.cell? ⟨gb187, 2, none⟩ = some (.int .u16 a1_2) := (blk_cell BK187.out 2).trans rfl
                  have hcz24_3 : wr.cell? ⟨gb187, 3, none⟩ = some (.int .u16 a1_3) := (blk_cell BK187.out 3).trans rfl
                  have hcz24_4 : wr.cell? ⟨gb187, 4, none⟩ = some (.int .u16 a1_4) := (blk_cell BK187.out 4).trans rfl
                  have hcz24_5 : wr.cell? ⟨gb187, 5, none⟩ = some (.int .u16 a1_5) := (blk_cell BK187.out 5).trans rfl
                  have hcz24_6 : wr.cell? ⟨gb187, 6, none⟩ = some (.int .u16 a1_6) := (blk_cell BK187.out 6).trans rfl
                  have hcz24_7 : wr.cell? ⟨gb187, 7, none⟩ = some (.int .u16 a1_7) := (blk_cell BK187.out 7).trans rfl
                  have hcz24_8 : wr.cell? ⟨gb187, 8, none⟩ = some (.int .u16 a1_8) := (blk_cell BK187.out 8).trans rfl
                  have hcz24_9 : wr.cell? ⟨gb187, 9, none⟩ = some (.int .u16 a1_9) := (blk_cell BK187.out 9).trans rfl
                  have hcz24_10 : wr.cell? ⟨gb187, 10, none⟩ = some (.int .u16 a1_10) := (blk_cell BK187.out 10).trans rfl
                  have hcz24_11 : wr.cell? ⟨gb187, 11, none⟩ = some (.int .u16 a1_11) := (blk_cell BK187.out 11).trans rfl
                  have hcz24_12 : wr.cell? ⟨gb187, 12, none⟩ = some (.slice A1_12 l1_12.length c1_12) := (blk_cell BK187.out 12).trans rfl
                  have hcz24_13 : wr.cell? ⟨gb187, 13, none⟩ = some (.slice A1_13 l1_13.length c1_13) := (blk_cell BK187.out 13).trans rfl
                  have hcz24_14 : wr.cell? ⟨gb187, 14, none⟩ = some (.slice A1_14 l1_14.length c1_14) := (blk_cell BK187.out 14).trans rfl
                  have hcz24_15 : wr.cell? ⟨gb187, 15, none⟩ = some (.slice A1_15 l1_15.length c1_15) := (blk_cell BK187.out 15).trans rfl
                  have hcz24_16 : wr.cell? ⟨gb187, 16, none⟩ = some (.int .u8 a1_16) := (blk_cell BK187.out 16).trans rfl
                  have hcz24_17 : wr.cell? ⟨gb187, 17, none⟩ = some (.int .u8 a1_17) := (blk_cell BK187.out 17).trans rfl
                  have hcz24_18 : wr.cell? ⟨gb187, 18, none⟩ = some (.int .u8 a1_18) := (blk_cell BK187.out 18).trans rfl
                  have hcz24_19 : wr.cell? ⟨gb187, 19, none⟩ = some (.int .u8 a1_19) := (blk_cell BK187.out 19).trans rfl
                  have hcz24_20 : wr.cell? ⟨gb187, 20, none⟩ = some (.int .u8 a1_20) := (blk_cell BK187.out 20).trans rfl
                  have hcz24_21 : wr.cell? ⟨gb187, 21, none⟩ = some (.slice A1_21 l1_21.length c1_21) := (blk_cell BK187.out 21).trans rfl
                  have hfz24_0 := blk_frozen BK187.out 0
                  have hfz24_1 := blk_frozen BK187.out 1
                  have hfz24_2 := blk_frozen BK187.out 2
                  have hfz24_3 := blk_frozen BK187.out 3
                  have hfz24_4 := blk_frozen BK187.out 4
                  have hfz24_5 := blk_frozen BK187.out 5
                  have hfz24_6 := blk_frozen BK187.out 6
                  have hfz24_7 := blk_frozen BK187.out 7
                  have hfz24_8 := blk_frozen BK187.out 8
                  have hfz24_9 := blk_frozen BK187.out 9
                  have hfz24_10 := blk_frozen BK187.out 10
                  have hfz24_11 := blk_frozen BK187.out 11
                  have hfz24_12 := blk_frozen BK187.out 12
                  have hfz24_13 := blk_frozen BK187.out 13
                  have hfz24_14 := blk_frozen BK187.out 14
                  have hfz24_15 := blk_frozen BK187.out 15
                  have hfz24_16 := blk_frozen BK187.out 16
                  have hfz24_17 := blk_frozen BK187.out 17
                  have hfz24_18 := blk_frozen BK187.out 18
                  have hfz24_19 := blk_frozen BK187.out 19
                  have hfz24_20 := blk_frozen BK187.out 20
                  have hfz24_21 := blk_frozen BK187.out 21
                  try go_wp2
                  have n0_ := Aside0.mk (Kd.R_drew HO_5.out)
                  have n1_ := Aside0.mk (blk_drew BK187.out)
                  have n2_ := Aside0.mk (below_drew1 HB.out)
                  clear HO_5
                  clear BK187
                  clear HB
                  have HO_5 := n0_
                  have BK187 := n1_
                  have HB := n2_
                  clear n0_ n1_ n2_
                  have p200 : 0 ≤ (x6_1 : Int) := of_decide_eq_true (by first | (with_reducible assumption) | assumption)
                  have q200 : x6_1 < (l1_21.length : Int) := of_decide_eq_true (by first | (with_reducible assumption) | assumption)
                  obtain ⟨ad200, A200_1, c200_1, e200, hx200_0, hx200_1, hl200_1, hi200_1⟩ := at_T43 HR1_21.out x6_1 p200 q200
                  have hw200_1 := hx200_1
                  have hw200_0 := hx200_0
                  cases e200
                  replace hx200_0 := (HB.out.cell (World.block_lt_of_cell? w _ hx200_0)).trans hx200_0
                  replace hx200_1 := (HB.out.cell (World.block_lt_of_cell? w _ hx200_1)).trans hx200_1
                  have HR200_1 := Aside0.mk hi200_1
                  have HC200_1 := Aside0.mk hl200_1
                  clear hi200_1 hl200_1
                  replace p200 := eq_true p200
                  replace q200 := eq_true q200
                  have p201 : 0 ≤ (x6_1 : Int) := of_decide_eq_true (by first | (with_reducible assumption) | assumption)
                  have q201 : x6_1 < (l1_21.length : Int) := of_decide_eq_true (by first | (with_reducible assumption) | assumption)
                  obtain ⟨ad201, A201_1, c201_1, e201, hx201_0, hx201_1, hl201_1, hi201_1⟩ := at_T43 HR1_21.out x6_1 p201 q201
                  have hw201_1 := hx201_1
                  have hw201_0 := hx201_0
                  obtain rfl : ad200 = ad201 := (by injection e201)
                  replace hx201_0 := (HB.out.cell (World.block_lt_of_cell? w _ hx201_0)).trans hx201_0
                  replace hx201_1 := (HB.out.cell (World.block_lt_of_cell? w _ hx201_1)).trans hx201_1
                  have HR201_1 := Aside0.mk hi201_1
                  have HC201_1 := Aside0.mk hl201_1
                  clear hi201_1 hl201_1
                  replace p201 := eq_true p201
                  replace q201 := eq_true q201
                  have ea_ := Option.some.inj (hx200_1.symm.trans hx201_1)
                  injection ea_ with ea_ en_ ec_
                  subst ea_
                  subst ec_
                  clear en_
                  refine start_ (n := 18) (S := fun w' => w'.cell? ⟨gb187, 0, none⟩ = some (.int .u8 a1_0) ∧ w'.cell? ⟨gb187, 1, none⟩ = some (.int .u8 a1_1) ∧ w'.cell? ⟨gb187, 2, none⟩ = some (.int .u16 a1_2) ∧ w'.cell? ⟨gb187, 3, none⟩ = some (.int .u16 a1_3) ∧ w'.cell? ⟨gb187, 4, none⟩ = some (.int .u16 a1_4) ∧ w'.cell? ⟨gb187, 5, none⟩ = some (.int .u16 a1_5) ∧ w'.cell? ⟨gb187, 6, none⟩ = some (.int .u16 a1_6) ∧ w'.cell? ⟨gb187, 7, none⟩ = some (.int .u16 a1_7) ∧ w'.cell? ⟨gb187, 8, none⟩ = some (.int .u16 a1_8) ∧ w'.cell? ⟨gb187, 9, none⟩ = some (.int .u16 a1_9) ∧ w'.cell? ⟨gb187, 10, none⟩ = some (.int .u16 a1_10) ∧ w'.cell? ⟨gb187, 11, none⟩ = some (.int .u16 a1_11) ∧ w'.cell? ⟨gb187, 12, none⟩ = some (.slice A1_12 l1_12.length c1_12) ∧ w'.cell? ⟨gb187, 13, none⟩ = some (.slice A1_13 l1_13.length c1_13) ∧ w'.cell? ⟨gb187, 14, none⟩ = some (.slice A1_14 l1_14.length c1_14) ∧ w'.cell? ⟨gb187, 15, none⟩ = some (.slice A1_15 l1_15.length c1_15) ∧ w'.cell? ⟨gb187, 16, none⟩ = some (.int .u8 a1_16) ∧ w'.cell? ⟨gb187, 17, none⟩ = some (.int .u8 a1_17) ∧ w'.cell? ⟨gb187, 18, none⟩ = some (.int .u8 a1_18) ∧ w'.cell? ⟨gb187, 19, none⟩ = some (.int .u8 a1_19) ∧ w'.cell? ⟨gb187, 20, none⟩ = some (.int .u8 a1_20) ∧ w'.cell? ⟨gb187, 21, none⟩ = some (.slice (some ad200) l1_21.length c1_21) ∧ w'.cell? (ad200.add ((x6_1).toNat * 2)) = some (.int .u8 ((rd_T43 l1_21 x6_1).f0)) ∧ w'.cell? ⟨(ad200.add ((x6_1).toNat * 2)).block, (ad200.add ((x6_1).toNat * 2)).off + 1, none⟩ = some (.slice A200_1 ((rd_T43 l1_21 x6_1).f1).length c200_1) ∧ w'.cell? (ad200.add ((x6_1).toNat * 2)) = some (.int .u8 ((rd_T43 l1_21 x6_1).f0)) ∧ w'.cell? ⟨(ad200.add ((x6_1).toNat * 2)).block, (ad200.add ((x6_1).toNat * 2)).off + 1, none⟩ = some (.slice A200_1 ((rd_T43 l1_21 x6_1).f1).length c200_1)) (ds := []) #[false, false, false, false, false, false, false, false, false, false, false, false, false, false, false, false, false, false] (by kernel_rfl) rfl rfl ⟨(blk_cell BK187.out 0).trans rfl, (blk_cell BK187.out 1).trans rfl, (blk_cell BK187.out 2).trans rfl, (blk_cell BK187.out 3).trans rfl, (blk_cell BK187.out 4).trans rfl, (blk_cell BK187.out 5).trans rfl, (blk_cell BK187.out 6).trans rfl, (blk_cell BK187.out 7).trans rfl, (blk_cell BK187.out 8).trans rfl, (blk_cell BK187.out 9).trans rfl, (blk_cell BK187.out 10).trans rfl, (blk_cell BK187.out 11).trans rfl, (blk_cell BK187.out 12).trans rfl, (blk_cell BK187.out 13).trans rfl, (blk_cell BK187.out 14).trans rfl, (blk_cell BK187.out 15).trans rfl, (blk_cell BK187.out 16).trans rfl, (blk_cell BK187.out 17).trans rfl, (blk_cell BK187.out 18).trans rfl, (blk_cell BK187.out 19).trans rfl, (blk_cell BK187.out 20).trans rfl, (blk_cell BK187.out 21).trans rfl, ((HB.out.cell (World.block_lt_of_cell? w _ hw200_0)).trans hw200_0), ((HB.out.cell (World.block_lt_of_cell? w _ hw200_1)).trans hw200_1), ((HB.out.cell (World.block_lt_of_cell? w _ hw201_0)).trans hw201_0), ((HB.out.cell (World.block_lt_of_cell? w _ hw201_1)).trans hw201_1)⟩ (fun hHeld => ?_); refine with_tabW busbarref12_bytes.tab9 busbarref12_bytes.bits9 (fun HT_ HW_ => ?_)
                  generalize wr.drew = w25 at HO_5 BK187 HB HR200_1 HR201_1 hx200_0 hx200_1 hx201_0 hx201_1 hHeld ⊢
                  refine pure_ (i := 0) (N := some 45) (v := ?_) (a' := ?_) #[true, false, false, false, false, false, false, false, false, false, false, false, false, false, false, false, false, false] rfl rfl (any_of HT_.out (by kernel_rfl)) (fun _ _ _ h => h) (Or.inl ⟨by rfl, ?_⟩) ?_ ?_
                  rotate_left
                  · intro w'
                    go_simp
                    with_reducible rfl
                  rotate_left
                  · simp only [Act.put, List.setIfInBounds_toArray, List.set_cons_zero, List.set_cons_succ, i64_w, i32_w]
                    rfl
                  refine pure_ (i := 1) (N := some 46) (v := ?_) (a' := ?_) #[true, true, false, false, false, false, false, false, false, false, false, false, false, false, false, false, false, false] rfl rfl (any_of HT_.out (by kernel_rfl)) (fun _ _ _ h => h) (Or.inl ⟨by rfl, ?_⟩) ?_ ?_
                  rotate_left
                  · intro w'
                    go_simp
                    with_reducible rfl
                  rotate_left
                  · simp only [Act.put, List.setIfInBounds_toArray, List.set_cons_zero, List.set_cons_succ, i64_w, i32_w]
                    rfl
                  refine pure_ (i := 3) (N := some 48) (v := ?_) (a' := ?_) #[true, true, false, true, false, false, false, false, false, false, false, false, false, false, false, false, false, false] rfl rfl (any_of HT_.out (by kernel_rfl)) (fun _ _ _ h => h) (Or.inl ⟨by rfl, ?_⟩) ?_ ?_
                  rotate_left
                  · intro w'
                    go_simp
                    with_reducible rfl
                  rotate_left
                  · simp only [Act.put, List.setIfInBounds_toArray, List.set_cons_zero, List.set_cons_succ, i64_w, i32_w]
                    rfl
                  refine pure_ (i := 7) (N := some 52) (v := ?_) (a' := ?_) #[true, true, false, true, false, false, false, true, false, false, false, false, false, false, false, false, false, false] rfl rfl (any_of HT_.out (by kernel_rfl)) (fun _ _ _ h => h) (Or.inl ⟨by rfl, ?_⟩) ?_ ?_
                  rotate_left
                  · intro w'
                    go_simp
                    with_reducible rfl
                  rotate_left
                  · simp only [Act.put, List.setIfInBounds_toArray, List.set_cons_zero, List.set_cons_succ, i64_w, i32_w]
                    rfl
                  refine pure_ (i := 9) (N := some 54) (v := ?_) (a' := ?_) #[true, true, false, true, false, false, false, true, false, true, false, false, false, false, false, false, false, false] rfl rfl (any_of HT_.out (by kernel_rfl)) (fun _ _ _ h => h) (Or.inl ⟨by rfl, ?_⟩) ?_ ?_
                  rotate_left
                  · intro w'
                    go_simp
                    with_reducible rfl
                  rotate_left
                  · simp only [Act.put, List.setIfInBounds_toArray, List.set_cons_zero, List.set_cons_succ, i64_w, i32_w]
                    rfl
                  refine take_ (i := 2) (N := some 47) (v := ?_) (a' := ?_) #[true, true, true, true, false, false, false, true, false, true, false, false, false, false, false, false, false, false] rfl rfl (take_ofW HT_.out HW_.out (by kernel_rfl)) (fun _ _ _ h => h) (Or.inl ⟨by rfl, ?_⟩) hHeld ?_ ?_
                  rotate_left
                  · rintro w' ⟨s0, s1, s2, s3, s4, s5, s6, s7, s8, s9, s10, s11, s12, s13, s14, s15, s16, s17, s18, s19, s20, s21, s22, s23, s24, s25⟩
                    go_simp
                    with_reducible rfl
                  rotate_left
                  · simp only [Act.put, List.setIfInBounds_toArray, List.set_cons_zero, List.set_cons_succ, i64_w, i32_w]
                    rfl
                  refine pure_ (i := 4) (N := some 49) (v := ?_) (a' := ?_) #[true, true, true, true, true, false, false, true, false, true, false, false, false, false, false, false, false, false] rfl rfl (any_of HT_.out (by kernel_rfl)) (fun _ _ _ h => h) (Or.inl ⟨by rfl, ?_⟩) ?_ ?_
                  rotate_left
                  · intro w'
                    go_simp
                    with_reducible rfl
                  rotate_left
                  · simp only [Act.put, List.setIfInBounds_toArray, List.set_cons_zero, List.set_cons_succ, i64_w, i32_w]
                    rfl
                  refine pure_ (i := 5) (N := some 50) (v := ?_) (a' := ?_) #[true, true, true, true, true, true, false, true, false, true, false, false, false, false, false, false, false, false] rfl rfl (any_of HT_.out (by kernel_rfl)) (fun _ _ _ h => h) (Or.inl ⟨by rfl, ?_⟩) ?_ ?_
                  rotate_left
                  · intro w'
                    go_simp
                    with_reducible rfl
                  rotate_left
                  · simp only [Act.put, List.setIfInBounds_toArray, List.set_cons_zero, List.set_cons_succ, i64_w, i32_w]
                    rfl
                  refine take_ (i := 6) (N := some 51) (v := ?_) (a' := ?_) #[true, true, true, true, true, true, true, true, false, true, false, false, false, false, false, false, false, false] rfl rfl (take_ofW HT_.out HW_.out (by kernel_rfl)) (fun _ _ _ h => h) (Or.inl ⟨by rfl, ?_⟩) hHeld ?_ ?_
                  rotate_left
                  · rintro w' ⟨s0, s1, s2, s3, s4, s5, s6, s7, s8, s9, s10, s11, s12, s13, s14, s15, s16, s17, s18, s19, s20, s21, s22, s23, s24, s25⟩
                    go_simp
                    with_reducible rfl
                  rotate_left
                  · simp only [Act.put, List.setIfInBounds_toArray, List.set_cons_zero, List.set_cons_succ, i64_w, i32_w]
                    rfl
                  refine take_ (i := 8) (N := some 53) (v := ?_) (a' := ?_) #[true, true, true, true, true, true, true, true, true, true, false, false, false, false, false, false, false, false] rfl rfl (take_ofW HT_.out HW_.out (by kernel_rfl)) (fun _ _ _ h => h) (Or.inl ⟨by rfl, ?_⟩) hHeld ?_ ?_
                  rotate_left
                  · rintro w' ⟨s0, s1, s2, s3, s4, s5, s6, s7, s8, s9, s10, s11, s12, s13, s14, s15, s16, s17, s18, s19, s20, s21, s22, s23, s24, s25⟩
                    go_simp
                    with_reducible rfl
                  rotate_left
                  · simp only [Act.put, List.setIfInBounds_toArray, List.set_cons_zero, List.set_cons_succ, i64_w, i32_w]
                    rfl
                  refine pure_ (i := 10) (N := some 55) (v := ?_) (a' := ?_) #[true, true, true, true, true, true, true, true, true, true, true, false, false, false, false, false, false, false] rfl rfl (any_of HT_.out (by kernel_rfl)) (fun _ _ _ h => h) (Or.inl ⟨by rfl, ?_⟩) ?_ ?_
                  rotate_left
                  · intro w'
                    go_simp
                    with_reducible rfl
                  rotate_left
                  · simp only [Act.put, List.setIfInBounds_toArray, List.set_cons_zero, List.set_cons_succ, i64_w, i32_w]
                    rfl
                  refine pure_ (i := 11) (N := some 56) (v := ?_) (a' := ?_) #[true, true, true, true, true, true, true, true, true, true, true, true, false, false, false, false, false, false] rfl rfl (any_of HT_.out (by kernel_rfl)) (fun _ _ _ h => h) (Or.inl ⟨by rfl, ?_⟩) ?_ ?_
                  rotate_left
                  · intro w'
                    go_simp
                    with_reducible rfl
                  rotate_left
                  · simp only [Act.put, List.setIfInBounds_toArray, List.set_cons_zero, List.set_cons_succ, i64_w, i32_w]
                    rfl
                  refine take_ (i := 12) (N := some 57) (v := ?_) (a' := ?_) #[true, true, true, true, true, true, true, true, true, true, true, true, true, false, false, false, false, false] rfl rfl (take_ofW HT_.out HW_.out (by kernel_rfl)) (fun _ _ _ h => h) (Or.inl ⟨by rfl, ?_⟩) hHeld ?_ ?_
                  rotate_left
                  · rintro w' ⟨s0, s1, s2, s3, s4, s5, s6, s7, s8, s9, s10, s11, s12, s13, s14, s15, s16, s17, s18, s19, s20, s21, s22, s23, s24, s25⟩
                    go_simp
                    with_reducible rfl
                  rotate_left
                  · simp only [Act.put, List.setIfInBounds_toArray, List.set_cons_zero, List.set_cons_succ, i64_w, i32_w]
                    rfl
                  refine pure_ (i := 13) (N := some 58) (v := ?_) (a' := ?_) #[true, true, true, true, true, true, true, true, true, true, true, true, true, true, false, false, false, false] rfl rfl (any_of HT_.out (by kernel_rfl)) (fun _ _ _ h => h) (Or.inl ⟨by rfl, ?_⟩) ?_ ?_
                  rotate_left
                  · intro w'
                    go_simp
                    with_reducible rfl
                  rotate_left
                  · simp only [Act.put, List.setIfInBounds_toArray, List.set_cons_zero, List.set_cons_succ, i64_w, i32_w]
                    rfl
                  refine pure_ (i := 14) (N := some 59) (v := ?_) (a' := ?_) #[true, true, true, true, true, true, true, true, true, true, true, true, true, true, true, false, false, false] rfl rfl (any_of HT_.out (by kernel_rfl)) (fun _ _ _ h => h) (Or.inl ⟨by rfl, ?_⟩) ?_ ?_
                  rotate_left
                  · intro w'
                    go_simp
                    with_reducible rfl
                  rotate_left
                  · simp only [Act.put, List.setIfInBounds_toArray, List.set_cons_zero, List.set_cons_succ, i64_w, i32_w]
                    rfl
                  refine one_ (i := 15) (N := some 60) #[true, true, true, true, true, true, true, true, true, true, true, true, true, true, true, true, false, false] rfl rfl (one_of HT_.out (by kernel_rfl)) (by decide) (fun K hK => ?_)
                  refine Kd.R_lit_step (Kd.int .u8) _ 5 ?hg (N := 60) ?hd (xs := ([(rd_T43 l1_21 x6_1).f0, ((((rd_T43 l1_21 x6_1).f1).length : Int)) % 256] : List Int)) (inner := [.int .u8 ((rd_T43 l1_21 x6_1).f0), .int .u8 (((((rd_T43 l1_21 x6_1).f1).length : Int)) % 256)]) (ok := fun _ => True) (okp := fun _ => True) ?hr ?hp (fun _ hk => hk) trivial (Below.refl _ _) (Nat.le_refl _) (by simp) ?_; (case hd => rfl); (case hg => rfl); (case hr => first | (go_simp; done) | (go_simp; rfl)); (case hp => exact (Reps.one (show Kd.M (Kd.int .u8) _ _ _ ((rd_T43 l1_21 x6_1).f0) [.int .u8 ((rd_T43 l1_21 x6_1).f0)] from rfl) (Reps.one (show Kd.M (Kd.int .u8) _ _ _ (((((rd_T43 l1_21 x6_1).f1).length : Int)) % 256) [.int .u8 (((((rd_T43 l1_21 x6_1).f1).length : Int)) % 256)] from rfl) (Reps.none _ _))))
                  intro v203 w26 ho27 hb hg_ hnew_
                  clear hg_ hnew_
                  (first | rw [← Ny202.out] at ho27 | (simp only [Int.reduceToNat] at ho27; rw [← Ny202.out] at ho27))
                  have n0_ := Aside0.mk (Kd.R_elder' (by (with_reducible repeat (first | apply Kd.R_alloc | apply Kd.R_drewN | apply Kd.R_drew)); exact HO_5.out) (Kd.R_base ho27) hb)
                  have n1_ := Aside0.mk (Kd.R_lower (Kd.R_new' ho27 (Kd.R_lt (by (with_reducible repeat (first | apply Kd.R_alloc | apply Kd.R_drewN | apply Kd.R_drew)); exact HO_5.out))) (below_size (by repeat (first | (with_reducible first | exact HB.out | apply below_alloc | apply pw_below_drewN | apply below_drew1 | refine below_set ?_ GE187.out) | exact HB.out))))
                  have n2_ := Aside0.mk (blk_below (g := gb187) (o := .cells #[.int .u8 a1_0, .int .u8 a1_1, .int .u16 a1_2, .int .u16 a1_3, .int .u16 a1_4, .int .u16 a1_5, .int .u16 a1_6, .int .u16 a1_7, .int .u16 a1_8, .int .u16 a1_9, .int .u16 a1_10, .int .u16 a1_11, .slice A1_12 l1_12.length c1_12, .slice A1_13 l1_13.length c1_13, .slice A1_14 l1_14.length c1_14, .slice A1_15 l1_15.length c1_15, .int .u8 a1_16, .int .u8 a1_17, .int .u8 a1_18, .int .u8 a1_19, .int .u8 a1_20, .slice (some ad200) l1_21.length c1_21] 30 (0, 0)) (by (with_reducible repeat (first | refine blk_drewN ?_ _ | refine blk_drew ?_ | refine blk_alloc ?_ _)); exact BK187.out) hb)
                  have n3_ := Aside0.mk (below_step (by repeat (first | (with_reducible first | exact HB.out | apply below_alloc | apply pw_below_drewN | apply below_drew1 | refine below_set ?_ GE187.out) | exact HB.out)) hb)
                  clear HO_5
                  clear BK187
                  clear HB
                  have HO_5 := n0_
                  have HO204 := n1_
                  have BK187 := n2_
                  have HB := n3_
                  clear n0_ n1_ n2_ n3_
                  clear hb ho27
                  obtain ⟨Ao29, co29, eo29⟩ := Kd.R_slice HO204.out
                  (first | subst eo29 | (injection eo29 with f1_ f2_ f3_; have f4_ := f1_.symm; have f5_ := f3_.symm; clear f1_ f2_ f3_; subst f4_; subst f5_))
                  refine hK.out _ _ ⟨(blk_cell BK187.out 0).trans rfl, (blk_cell BK187.out 1).trans rfl, (blk_cell BK187.out 2).trans rfl, (blk_cell BK187.out 3).trans rfl, (blk_cell BK187.out 4).trans rfl, (blk_cell BK187.out 5).trans rfl, (blk_cell BK187.out 6).trans rfl, (blk_cell BK187.out 7).trans rfl, (blk_cell BK187.out 8).trans rfl, (blk_cell BK187.out 9).trans rfl, (blk_cell BK187.out 10).trans rfl, (blk_cell BK187.out 11).trans rfl, (blk_cell BK187.out 12).trans rfl, (blk_cell BK187.out 13).trans rfl, (blk_cell BK187.out 14).trans rfl, (blk_cell BK187.out 15).trans rfl, (blk_cell BK187.out 16).trans rfl, (blk_cell BK187.out 17).trans rfl, (blk_cell BK187.out 18).trans rfl, (blk_cell BK187.out 19).trans rfl, (blk_cell BK187.out 20).trans rfl, (blk_cell BK187.out 21).trans rfl, ((HB.out.cell (World.block_lt_of_cell? w _ hw200_0)).trans hw200_0), ((HB.out.cell (World.block_lt_of_cell? w _ hw200_1)).trans hw200_1), ((HB.out.cell (World.block_lt_of_cell? w _ hw201_0)).trans hw201_0), ((HB.out.cell (World.block_lt_of_cell? w _ hw201_1)).trans hw201_1)⟩ (fun hHeld => ?_)
                  clear hK K
                  refine norm_ (a' := ?_) ?_ ?_
                  rotate_left
                  · show Act.put _ (some 60) _ = _
                    simp only [Act.put, List.setIfInBounds_toArray, List.set_cons_zero, List.set_cons_succ, i64_w, i32_w]
                    rfl
                  refine one_ (i := 16) (N := some 61) #[true, true, true, true, true, true, true, true, true, true, true, true, true, true, true, true, true, false] rfl rfl (one_of HT_.out (by kernel_rfl)) (by decide) (fun K hK => ?_)
                  refine Kd.R_append_rows_step (Kd.int .u8) (w0 := w) w.heap.size (by rfl) (.tmp 45) (.tmp 60) 22 5 (.int .u8 0) 1 rfl Try.underlying22 info5 rfl (by decide) (by omega) u5 x5_1 y202 _ _ _ (fun k_ => some k_ ≠ (.slice Ao29 y202.length co29 : Value).ownBlock) (fun _ => False) rfl rfl ?aO ?aR (fun _ _ h => h) (fun _ h => h.elim) ?aF ?aB ?aS ?aL ?_
                  (case aR => repeat (first | exact (Kd.R_reads' HO204.out).2.2 | (with_reducible refine Kd.C_alloc ?_ _) | (with_reducible refine Kd.C_drewN ?_ _) | (with_reducible refine Kd.C_drew ?_)))
                  (case aB => exact (by repeat (first | (with_reducible first | exact HB.out | apply below_alloc | apply pw_below_drewN | apply below_drew1 | refine below_set ?_ GE187.out) | exact HB.out)))
                  (case aF => exact (fun k_ hk => Kd.fresh' (Kd.R_lt (by (with_reducible repeat (first | apply Kd.R_alloc | apply Kd.R_drewN | apply Kd.R_drew)); exact HO204.out)) k_ hk))
                  (case aO => exact (by (with_reducible repeat (first | apply Kd.R_alloc | apply Kd.R_drewN | apply Kd.R_drew)); exact Kd.R_mono HO_5.out (fun _ hk => hk.2)))
                  (case aS => exact (below_size (by repeat (first | (with_reducible first | exact HB.out | apply below_alloc | apply pw_below_drewN | apply below_drew1 | refine below_set ?_ GE187.out) | exact HB.out))))
                  (case aL => have := LMc22.out; omega)
                  intro v206 w28 ho hb hg hat
                  rw [← Ny205.out] at ho
                  have n0_ := Aside0.mk (blk_grown (g := gb187) (o := .cells #[.int .u8 a1_0, .int .u8 a1_1, .int .u16 a1_2, .int .u16 a1_3, .int .u16 a1_4, .int .u16 a1_5, .int .u16 a1_6, .int .u16 a1_7, .int .u16 a1_8, .int .u16 a1_9, .int .u16 a1_10, .int .u16 a1_11, .slice A1_12 l1_12.length c1_12, .slice A1_13 l1_13.length c1_13, .slice A1_14 l1_14.length c1_14, .slice A1_15 l1_15.length c1_15, .int .u8 a1_16, .int .u8 a1_17, .int .u8 a1_18, .int .u8 a1_19, .int .u8 a1_20, .slice (some ad200) l1_21.length c1_21] 30 (0, 0)) (by (with_reducible repeat (first | refine blk_drewN ?_ _ | refine blk_drew ?_ | refine blk_alloc ?_ _)); exact BK187.out) hg (Kd.R_ne HO_5.out BK187.out (by decide)))
                  have n1_ := Aside0.mk (Kd.R_after (ok := (fun _ => True)) (by (with_reducible repeat (first | apply Kd.R_alloc | apply Kd.R_drewN | apply Kd.R_drew)); exact HO204.out) hg hat)
                  have n2_ := Aside0.mk (hb)
                  have n3_ := Aside0.mk (ho)
                  clear BK187
                  clear HO204
                  clear HB
                  clear HO_5
                  have BK187 := n0_
                  have HO204 := n1_
                  have HB := n2_
                  have HO207 := n3_
                  clear n0_ n1_ n2_ n3_
                  clear ho hb hg hat
                  refine hK.out _ _ ⟨(blk_cell BK187.out 0).trans rfl, (blk_cell BK187.out 1).trans rfl, (blk_cell BK187.out 2).trans rfl, (blk_cell BK187.out 3).trans rfl, (blk_cell BK187.out 4).trans rfl, (blk_cell BK187.out 5).trans rfl, (blk_cell BK187.out 6).trans rfl, (blk_cell BK187.out 7).trans rfl, (blk_cell BK187.out 8).trans rfl, (blk_cell BK187.out 9).trans rfl, (blk_cell BK187.out 10).trans rfl, (blk_cell BK187.out 11).trans rfl, (blk_cell BK187.out 12).trans rfl, (blk_cell BK187.out 13).trans rfl, (blk_cell BK187.out 14).trans rfl, (blk_cell BK187.out 15).trans rfl, (blk_cell BK187.out 16).trans rfl, (blk_cell BK187.out 17).trans rfl, (blk_cell BK187.out 18).trans rfl, (blk_cell BK187.out 19).trans rfl, (blk_cell BK187.out 20).trans rfl, (blk_cell BK187.out 21).trans rfl, ((HB.out.cell (World.block_lt_of_cell? w _ hw200_0)).trans hw200_0), ((HB.out.cell (World.block_lt_of_cell? w _ hw200_1)).trans hw200_1), ((HB.out.cell (World.block_lt_of_cell? w _ hw201_0)).trans hw201_0), ((HB.out.cell (World.block_lt_of_cell? w _ hw201_1)).trans hw201_1)⟩ (fun hHeld => ?_)
                  clear hK K
                  refine norm_ (a' := ?_) ?_ ?_
                  rotate_left
                  · show Act.put _ (some 61) _ = _
                    simp only [Act.put, List.setIfInBounds_toArray, List.set_cons_zero, List.set_cons_succ, i64_w, i32_w]
                    rfl
                  refine pure_ (i := 17) (N := some 5) (v := ?_) (a' := ?_) #[true, true, true, true, true, true, true, true, true, true, true, true, true, true, true, true, true, true] rfl rfl (any_of HT_.out (by kernel_rfl)) (fun _ _ _ h => h) (Or.inl ⟨by rfl, ?_⟩) ?_ ?_
                  rotate_left
                  · intro w'
                    go_simp
                    with_reducible rfl
                  rotate_left
                  · simp only [Act.put, List.setIfInBounds_toArray, List.set_cons_zero, List.set_cons_succ, i64_w, i32_w]
                    rfl
                  refine done_ (done_of HT_.out (by kernel_rfl)) ?_
                  have hcz30_0 : w28.cell? ⟨gb187, 0, none⟩ = some (.int .u8 a1_0) := (blk_cell BK187.out 0).trans rfl
                  have hcz30_1 : w28.cell? ⟨gb187, 1, none⟩ = some (.int .u8 a1_1) := (blk_cell BK187.out 1).trans rfl
                  have hcz30_2 : w28.cell? ⟨gb187, 2, none⟩ = some (.int .u16 a1_2) := (blk_cell BK187.out 2).trans rfl
                  have hcz30_3 : w28.cell? ⟨gb187, 3, none⟩ = some (.int .u16 a1_3) := (blk_cell BK187.out 3).trans rfl
                  have hcz30_4 : w28.cell? ⟨gb187, 4, none⟩ = some (.int .u16 a1_4) := (blk_cell BK187.out 4).trans rfl
                  have hcz30_5 : w28.cell? ⟨gb187, 5, none⟩ = some (.int .u16 a1_5) := (blk_cell BK187.out 5).trans rfl
                  have hcz30_6 : w28.cell? ⟨gb187, 6, none⟩ = some (.int .u16 a1_6) := (blk_cell BK187.out 6).trans rfl
                  have hcz30_7 : w28.cell? ⟨gb187, 7, none⟩ = some (.int .u16 a1_7) := (blk_cell BK187.out 7).trans rfl
                  have hcz30_8 : w28.cell? ⟨gb187, 8, none⟩ = some (.int .u16 a1_8) := (blk_cell BK187.out 8).trans rfl
                  have hcz30_9 : w28.cell? ⟨gb187, 9, none⟩ = some (.int .u16 a1_9) := (blk_cell BK187.out 9).trans rfl
                  have hcz30_10 : w28.cell? ⟨gb187, 10, none⟩ = some (.int .u16 a1_10) := (blk_cell BK187.out 10).trans rfl
                  have hcz30_11 : w28.cell? ⟨gb187, 11, none⟩ = some (.int .u16 a1_11) := (blk_cell BK187.out 11).trans rfl
                  have hcz30_12 : w28.cell? ⟨gb187, 12, none⟩ = some (.slice A1_12 l1_12.length c1_12) := (blk_cell BK187.out 12).trans rfl
                  have hcz30_13 : w28.cell? ⟨gb187, 13, none⟩ = some (.slice A1_13 l1_13.length c1_13) := (blk_cell BK187.out 13).trans rfl
                  have hcz30_14 : w28.cell? ⟨gb187, 14, none⟩ = some (.slice A1_14 l1_14.length c1_14) := (blk_cell BK187.out 14).trans rfl
                  have hcz30_15 : w28.cell? ⟨gb187, 15, none⟩ = some (.slice A1_15 l1_15.length c1_15) := (blk_cell BK187.out 15).trans rfl
                  have hcz30_16 : w28.cell? ⟨gb187, 16, none⟩ = some (.int .u8 a1_16) := (blk_cell BK187.out 16).trans rfl
                  have hcz30_17 : w28.cell? ⟨gb187, 17, none⟩ = some (.int .u8 a1_17) := (blk_cell BK187.out 17).trans rfl
                  have hcz30_18 : w28.cell? ⟨gb187, 18, none⟩ = some (.int .u8 a1_18) := (blk_cell BK187.out 18).trans rfl
                  have hcz30_19 : w28.cell? ⟨gb187, 19, none⟩ = some (.int .u8 a1_19) := (blk_cell BK187.out 19).trans rfl
                  have hcz30_20 : w28.cell? ⟨gb187, 20, none⟩ = some (.int .u8 a1_20) := (blk_cell BK187.out 20).trans rfl
                  have hcz30_21 : w28.cell? ⟨gb187, 21, none⟩ = some (.slice (some ad200) l1_21.length c1_21) := (blk_cell BK187.out 21).trans rfl
                  have hfz30_0 := blk_frozen BK187.out 0
                  have hfz30_1 := blk_frozen BK187.out 1
                  have hfz30_2 := blk_frozen BK187.out 2
                  have hfz30_3 := blk_frozen BK187.out 3
                  have hfz30_4 := blk_frozen BK187.out 4
                  have hfz30_5 := blk_frozen BK187.out 5
                  have hfz30_6 := blk_frozen BK187.out 6
                  have hfz30_7 := blk_frozen BK187.out 7
                  have hfz30_8 := blk_frozen BK187.out 8
                  have hfz30_9 := blk_frozen BK187.out 9
                  have hfz30_10 := blk_frozen BK187.out 10
                  have hfz30_11 := blk_frozen BK187.out 11
                  have hfz30_12 := blk_frozen BK187.out 12
                  have hfz30_13 := blk_frozen BK187.out 13
                  have hfz30_14 := blk_frozen BK187.out 14
                  have hfz30_15 := blk_frozen BK187.out 15
                  have hfz30_16 := blk_frozen BK187.out 16
                  have hfz30_17 := blk_frozen BK187.out 17
                  have hfz30_18 := blk_frozen BK187.out 18
                  have hfz30_19 := blk_frozen BK187.out 19
                  have hfz30_20 := blk_frozen BK187.out 20
                  have hfz30_21 := blk_frozen BK187.out 21
                  have p208 : 0 ≤ (x6_1 : Int) := of_decide_eq_true (by first | (with_reducible assumption) | assumption)
                  have q208 : x6_1 < (l1_21.length : Int) := of_decide_eq_true (by first | (with_reducible assumption) | assumption)
                  obtain ⟨ad208, A208_1, c208_1, e208, hx208_0, hx208_1, hl208_1, hi208_1⟩ := at_T43 HR1_21.out x6_1 p208 q208
                  obtain rfl : ad200 = ad208 := (by injection e208)
                  replace hx208_0 := (HB.out.cell (World.block_lt_of_cell? w _ hx208_0)).trans hx208_0
                  replace hx208_1 := (HB.out.cell (World.block_lt_of_cell? w _ hx208_1)).trans hx208_1
                  have HR208_1 := Aside0.mk hi208_1
                  have HC208_1 := Aside0.mk hl208_1
                  clear hi208_1 hl208_1
                  replace p208 := eq_true p208
                  replace q208 := eq_true q208
                  try go_wp2_with (first | ((with_reducible refine gate_builtin (b := .append) (xs := #[.tmp 62, .tmp 68]) rfl ?_); at_builtin; refine Kd.R_append_rows (Kd.int .u8) (w0 := w) w.heap.size rfl (.tmp 62) (.tmp 68) 22 5 (.int .u8 0) 1 rfl Try.underlying22 info5 rfl (by decide) (by omega) v206 y205 ((rd_T43 l1_21 x6_1).f1) _ _ _ (fun k_ => some k_ ≠ (.slice Ao29 y202.length co29 : Value).ownBlock) (fun _ => False) rfl rfl ?aO ?aR (fun _ _ h => h) (fun _ h => h.elim) ?aF ?aB ?aS ?aL ?_; (case aR => repeat (first | exact (Kd.C_below HR208_1.out HB.out) | exact (Kd.C_below HR200_1.out HB.out) | exact (Kd.C_below HR201_1.out HB.out) | (with_reducible refine Kd.C_alloc ?_ _) | (with_reducible refine Kd.C_drewN ?_ _) | (with_reducible refine Kd.C_drew ?_))); (case aB => exact (by repeat (first | (with_reducible first | exact HB.out | apply below_alloc | apply pw_below_drewN | apply below_drew1 | refine below_set ?_ GE187.out) | exact HB.out))); (case aF => exact (fun k_ hk => Kd.fresh' (Kd.R_lt (by (with_reducible repeat (first | apply Kd.R_alloc | apply Kd.R_drewN | apply Kd.R_drew)); exact HO204.out)) k_ hk)); (case aO => exact (by (with_reducible repeat (first | apply Kd.R_alloc | apply Kd.R_drewN | apply Kd.R_drew)); exact HO207.out)); (case aS => exact (below_size (by repeat (first | (with_reducible first | exact HB.out | apply below_alloc | apply pw_below_drewN | apply below_drew1 | refine below_set ?_ GE187.out) | exact HB.out)))); (case aL => have := LMc23.out; omega); intro v210 w31 ho hb hg hat; rw [← Ny209.out] at ho; have n0_ := Aside0.mk (blk_grown (g := gb187) (o := .cells #[.int .u8 a1_0, .int .u8 a1_1, .int .u16 a1_2, .int .u16 a1_3, .int .u16 a1_4, .int .u16 a1_5, .int .u16 a1_6, .int .u16 a1_7, .int .u16 a1_8, .int .u16 a1_9, .int .u16 a1_10, .int .u16 a1_11, .slice A1_12 l1_12.length c1_12, .slice A1_13 l1_13.length c1_13, .slice A1_14 l1_14.length c1_14, .slice A1_15 l1_15.length c1_15, .int .u8 a1_16, .int .u8 a1_17, .int .u8 a1_18, .int .u8 a1_19, .int .u8 a1_20, .slice (some ad200) l1_21.length c1_21] 30 (0, 0)) (by (with_reducible repeat (first | refine blk_drewN ?_ _ | refine blk_drew ?_ | refine blk_alloc ?_ _)); exact BK187.out) hg (Kd.R_ne HO207.out BK187.out (by decide))); have n1_ := Aside0.mk (Kd.R_after (ok := (fun _ => True)) (by (with_reducible repeat (first | apply Kd.R_alloc | apply Kd.R_drewN | apply Kd.R_drew)); exact HO204.out) hg hat); have n2_ := Aside0.mk (hb); have n3_ := Aside0.mk (ho); clear BK187; clear HO204; clear HB; clear HO207; have BK187 := n0_; have HO204 := n1_; have HB := n2_; have HO211 := n3_; clear n0_ n1_ n2_ n3_; clear ho hb hg hat))
                  go_roundg k1
                  case measure => have := HK1.out; omega
                  case rel => exact ⟨(y209), (wrap64 (x6_1 + 1)), (by first | rfl | (simp; done) | (simp [*]; done)), H', ⟨by have := HK1.out; omega⟩, ⟨by (with_reducible repeat (first | apply Kd.R_alloc | apply Kd.R_drewN | apply Kd.R_drew)); exact Kd.R_mono HO211.out (fun _ hk => trivial)⟩, ⟨by (with_reducible repeat (first | refine blk_drewN ?_ _ | refine blk_drew ?_ | refine blk_alloc ?_ _)); exact BK187.out⟩, ⟨by repeat (first | (with_reducible first | exact HB.out | apply below_alloc | apply pw_below_drewN | apply below_drew1 | refine below_set ?_ GE187.out) | exact HB.out)⟩⟩
                · rw [if_neg c23] at H
                  exact absurd H (by simp)
              · rw [if_neg c22] at H
                exact absurd H (by simp)
            · rw [if_neg c21] at H
              exact absurd H (by simp)
          · rw [if_neg c20] at H
            have c20b0 : decide (x6_1 < (l1_21.length : Int)) = false := decide_eq_false c20
            clear c20
            obtain rfl := Option.some.inj H
            have hcz32_0 : wr.cell? ⟨gb187, 0, none⟩ = some (.int .u8 a1_0) := (blk_cell BK187.out 0).trans rfl
            have hcz32_1 : wr.cell? ⟨gb187, 1, none⟩ = some (.int .u8 a1_1) := (blk_cell BK187.out 1).trans rfl
            have hcz32_2 : wr.cell? ⟨gb187, 2, none⟩ = some (.int .u16 a1_2) := (blk_cell BK187.out 2).trans rfl
            have hcz32_3 : wr.cell? ⟨gb187, 3, none⟩ = some (.int .u16 a1_3) := (blk_cell BK187.out 3).trans rfl
            have hcz32_4 : wr.cell? ⟨gb187, 4, none⟩ = some (.int .u16 a1_4) := (blk_cell BK187.out 4).trans rfl
            have hcz32_5 : wr.cell? ⟨gb187, 5, none⟩ = some (.int .u16 a1_5) := (blk_cell BK187.out 5).trans rfl
            have hcz32_6 : wr.cell? ⟨gb187, 6, none⟩ = some (.int .u16 a1_6) := (blk_cell BK187.out 6).trans rfl
            have hcz32_7 : wr.cell? ⟨gb187, 7, none⟩ = some (.int .u16 a1_7) := (blk_cell BK187.out 7).trans rfl
            have hcz32_8 : wr.cell? ⟨gb187, 8, none⟩ = some (.int .u16 a1_8) := (blk_cell BK187.out 8).trans rfl
            have hcz32_9 : wr.cell? ⟨gb187, 9, none⟩ = some (.int .u16 a1_9) := (blk_cell BK187.out 9).trans rfl
            have hcz32_10 : wr.cell? ⟨gb187, 10, none⟩ = some (.int .u16 a1_10) := (blk_cell BK187.out 10).trans rfl
            have hcz32_11 : wr.cell? ⟨gb187, 11, none⟩ = some (.int .u16 a1_11) := (blk_cell BK187.out 11).trans rfl
            have hcz32_12 : wr.cell? ⟨gb187, 12, none⟩ = some (.slice A1_12 l1_12.length c1_12) := (blk_cell BK187.out 12).trans rfl
            have hcz32_13 : wr.cell? ⟨gb187, 13, none⟩ = some (.slice A1_13 l1_13.length c1_13) := (blk_cell BK187.out 13).trans rfl
            have hcz32_14 : wr.cell? ⟨gb187, 14, none⟩ = some (.slice A1_14 l1_14.length c1_14) := (blk_cell BK187.out 14).trans rfl
            have hcz32_15 : wr.cell? ⟨gb187, 15, none⟩ = some (.slice A1_15 l1_15.length c1_15) := (blk_cell BK187.out 15).trans rfl
            have hcz32_16 : wr.cell? ⟨gb187, 16, none⟩ = some (.int .u8 a1_16) := (blk_cell BK187.out 16).trans rfl
            have hcz32_17 : wr.cell? ⟨gb187, 17, none⟩ = some (.int .u8 a1_17) := (blk_cell BK187.out 17).trans rfl
            have hcz32_18 : wr.cell? ⟨gb187, 18, none⟩ = some (.int .u8 a1_18) := (blk_cell BK187.out 18).trans rfl
            have hcz32_19 : wr.cell? ⟨gb187, 19, none⟩ = some (.int .u8 a1_19) := (blk_cell BK187.out 19).trans rfl
            have hcz32_20 : wr.cell? ⟨gb187, 20, none⟩ = some (.int .u8 a1_20) := (blk_cell BK187.out 20).trans rfl
            have hcz32_21 : wr.cell? ⟨gb187, 21, none⟩ = some (.slice A1_21 l1_21.length c1_21) := (blk_cell BK187.out 21).trans rfl
            have hfz32_0 := blk_frozen BK187.out 0
            have hfz32_1 := blk_frozen BK187.out 1
            have hfz32_2 := blk_frozen BK187.out 2
            have hfz32_3 := blk_frozen BK187.out 3
            have hfz32_4 := blk_frozen BK187.out 4
            have hfz32_5 := blk_frozen BK187.out 5
            have hfz32_6 := blk_frozen BK187.out 6
            have hfz32_7 := blk_frozen BK187.out 7
            have hfz32_8 := blk_frozen BK187.out 8
            have hfz32_9 := blk_frozen BK187.out 9
            have hfz32_10 := blk_frozen BK187.out 10
            have hfz32_11 := blk_frozen BK187.out 11
            have hfz32_12 := blk_frozen BK187.out 12
            have hfz32_13 := blk_frozen BK187.out 13
            have hfz32_14 := blk_frozen BK187.out 14
            have hfz32_15 := blk_frozen BK187.out 15
            have hfz32_16 := blk_frozen BK187.out 16
            have hfz32_17 := blk_frozen BK187.out 17
            have hfz32_18 := blk_frozen BK187.out 18
            have hfz32_19 := blk_frozen BK187.out 19
            have hfz32_20 := blk_frozen BK187.out 20
            have hfz32_21 := blk_frozen BK187.out 21
            go_wp2
            go_ret
            exact ⟨_, by first | rfl | (simp [errW_none, errW_some] <;> rfl) | (simp [*, errW_none, errW_some] <;> rfl), by (with_reducible repeat (first | apply Kd.R_alloc | apply Kd.R_drewN | apply Kd.R_drew)); exact HO_5.out, by repeat (first | (with_reducible first | exact HB.out | apply below_alloc | apply pw_below_drewN | apply below_drew1 | refine below_set ?_ GE187.out) | exact HB.out)⟩
end Go.Proofs.Ytimclbhlgblifaa.P
end
section
namespace Go.Proofs.Ytimclbhlgblifaa.Mei
open Go.RowKit Go.Proofs.Ytimclbhlgblifaa.P Go.Proofs.Ytimclbhlgblifaa.E Go.Proofs.Ytimclbhlgblifaa.Cur Go.Proofs.Ytimclbhlgblifaa.Cu Go.Proofs.Ytimclbhlgblifaa.Same Go.Proofs.Ytimclbhlgblifaa.Com Go.Proofs.YtimclbhlgblifaaW.PrintWords Go.Proofs.YtimclbhlgblifaaW.PrintLast Go.Proofs.YtimclbhlgblifaaW.PrintMore
def objsB : List S43 → List Int
  | [] => []
  | o :: r => o.f0 :: ((o.f1.length : Int) % 256) :: (o.f1 ++ objsB r)
theorem objsB_ge : ∀ os : List S43, os.length ≤ (objsB os).length
  | [] => Nat.le_refl _
  | o :: r => by
    have := objsB_ge r
    simp only [objsB, List.length_cons, List.length_append]
    omega
def lay (dir : Int) (m : Msg) : List Int :=
  if m.mei = 13 then m.mei :: m.data else if dir = 0 then [m.mei, m.kind, m.next] else [m.mei, m.kind, m.level, m.more, m.next, (m.objects.length : Int) % 256] ++ objsB m.objects
theorem rd_obj (os : List S43) (i : Nat) (h : i < os.length) : os.drop i = rd_T43 os (i : Int) :: os.drop (i + 1) := by
  unfold rd_T43
  rw [Int.toNat_natCast]
  exact drop_cons h _
theorem lay_l0 (os : List S43) (ho : os.length ≤ 1000000) : ∀ (d i : Nat) (acc : List Int), d = os.length - i → i ≤ os.length → acc.length + (objsB (os.drop i)).length ≤ 1000000 → mei_lay.l0 (d + 1) acc os (os.length : Int) (i : Int) = some (acc ++ objsB (os.drop i)) := by
  intro d
  induction d with
  | zero =>
    intro i acc hd hi hb
    have e : i = os.length := by omega
    subst e
    unfold mei_lay.l0
    rw [if_neg (by omega), List.drop_length]
    simp [objsB]
  | succ d ih =>
    intro i acc hd hi hb
    have hlt : i < os.length := by omega
    have hr := rd_obj os i hlt
    rw [hr] at hb ⊢
    generalize rd_T43 os (i : Int) = o at hb hr ⊢
    have hb2 : acc.length + (2 + (o.f1.length + (objsB (os.drop (i + 1))).length)) ≤ 1000000 := by
      have := hb
      simp only [objsB, List.length_cons, List.length_append] at this
      omega
    have h2 := ih (i + 1) (acc ++ [o.f0, (o.f1.length : Int) % 256] ++ o.f1) (by omega) (by omega) (by simp only [List.length_append, List.length_cons, List.length_nil]; omega)
    unfold mei_lay.l0
    have e1 : rd_T43 os (i : Int) = o := by
      have := rd_obj os i hlt
      rw [hr] at this
      exact (List.cons.inj this).1.symm
    have e2 : wrap64 ((i : Int) + 1) = ((i + 1 : Nat) : Int) := by rw [wrap64_id (by omega) (by omega)]; omega
    rw [if_pos (show (i : Int) < (os.length : Int) by omega), if_pos (show (0 : Int) ≤ (i : Int) by omega), if_pos (show (i : Int) < (os.length : Int) by omega), e1, e2]
    simp only [Option.bind_some]
    rw [if_pos (show acc.length + [o.f0, (o.f1.length : Int) % 256].length < 140737488355328 by simp only [List.length_cons, List.length_nil]; omega)]
    rw [if_pos (show (acc ++ [o.f0, (o.f1.length : Int) % 256]).length + o.f1.length < 140737488355328 by simp only [List.length_append, List.length_cons, List.length_nil]; omega), h2]
    simp [objsB]
theorem lay_ev {dir : Int} {m : Msg} (h : (lay dir m).length ≤ 1000000) : ∃ k, mei_lay.f k dir m.code m.fail m.addr m.count m.value m.and_ m.or_ m.addr2 m.sub m.status m.events m.messages m.words m.bits m.data m.recs m.mei m.kind m.level m.more m.next m.objects = some (lay dir m) := by
  unfold lay at h ⊢
  unfold mei_lay.f
  by_cases h1 : m.mei = 13
  · refine ⟨0, ?_⟩
    rw [if_pos h1] at h ⊢
    rw [if_pos h1]
    simp only [Option.bind_some]
    rw [if_pos (by simp only [List.length_cons, List.length_nil] at h ⊢; omega)]
    rfl
  · rw [if_neg h1] at h ⊢
    by_cases h2 : dir = 0
    · refine ⟨0, ?_⟩
      rw [if_neg h1, if_pos h2, if_pos h2]
    · rw [if_neg h2] at h ⊢
      have ho : m.objects.length ≤ 1000000 := by
        have := objsB_ge m.objects
        simp only [List.length_append, List.length_cons, List.length_nil] at h
        omega
      refine ⟨m.objects.length + 1, ?_⟩
      rw [if_neg h1, if_neg h2]
      have := lay_l0 m.objects ho m.objects.length 0 [m.mei, m.kind, m.level, m.more, m.next, (m.objects.length : Int) % 256] (by omega) (by omega) (by simp only [List.length_append, List.drop_zero] at h ⊢; exact h)
      rw [List.drop_zero] at this
      exact this
theorem lay_any {dir : Int} {m : Msg} (h : (lay dir m).length ≤ 1000000) : LayC 34 dir m (lay dir m) := by
  intro cx W hm
  obtain ⟨A12, c12, A13, c13, A14, c14, A15, c15, A21, c21, rfl, ok, ⟨hr12, hc12⟩, ⟨hr13, hc13⟩, ⟨hr14, hc14⟩, ⟨hr15, hc15⟩, ⟨hr21, hc21⟩⟩ := hm
  obtain ⟨k, hk⟩ := lay_ev h
  refine (mei_lay.calls k _ _ _ _ _ _ _ _ _ _ _ _ _ A12 c12 m.words A13 c13 m.bits A14 c14 m.data A15 c15 m.recs _ _ _ _ _ A21 c21 m.objects _ W hr12 hc12 hr13 hc13 hr14 hc14 hr15 hc15 hr21 hc21 hk).mono ?_
  rintro en w' ⟨v, rfl, R, B⟩
  obtain ⟨A, c, rfl, hz, hr⟩ := Kd.R_reads R
  exact ⟨A, c, rfl, hz, hr, B⟩
theorem rlay_l0 (m : Msg) (ho : m.objects.length ≤ 1000000) : ∀ (d i : Nat) (acc : List Int), d = m.objects.length - i → i ≤ m.objects.length → acc.length + (objsB (m.objects.drop i)).length ≤ 1000000 → busbarref12_bytes.l0 (d + 1) acc (i : Int) m.code m.fail m.addr m.count m.value m.and_ m.or_ m.addr2 m.sub m.status m.events m.messages m.words m.bits m.data m.recs m.mei m.kind m.level m.more m.next m.objects = some (acc ++ objsB (m.objects.drop i)) := by
  generalize hos : m.objects = os at ho ⊢
  intro d
  induction d with
  | zero =>
    intro i acc hd hi hb
    have e : i = os.length := by omega
    subst e
    unfold busbarref12_bytes.l0
    rw [if_neg (by omega), List.drop_length]
    simp [objsB]
  | succ d ih =>
    intro i acc hd hi hb
    have hlt : i < os.length := by omega
    have hr := rd_obj os i hlt
    rw [hr] at hb ⊢
    generalize rd_T43 os (i : Int) = o at hb hr ⊢
    have hb2 : acc.length + (2 + (o.f1.length + (objsB (os.drop (i + 1))).length)) ≤ 1000000 := by
      have := hb
      simp only [objsB, List.length_cons, List.length_append] at this
      omega
    have h2 := ih (i + 1) (acc ++ [o.f0, (o.f1.length : Int) % 256] ++ o.f1) (by omega) (by omega) (by simp only [List.length_append, List.length_cons, List.length_nil]; omega)
    unfold busbarref12_bytes.l0
    have e1 : rd_T43 os (i : Int) = o := by
      have := rd_obj os i hlt
      rw [hr] at this
      exact (List.cons.inj this).1.symm
    have e2 : wrap64 ((i : Int) + 1) = ((i + 1 : Nat) : Int) := by rw [wrap64_id (by omega) (by omega)]; omega
    rw [if_pos (show (i : Int) < (os.length : Int) by omega), if_pos (show (0 : Int) ≤ (i : Int) by omega), e1, e2]
    simp only [Option.bind_some]
    rw [if_pos (show acc.length + [o.f0, (o.f1.length : Int) % 256].length < 140737488355328 by simp only [List.length_cons, List.length_nil]; omega)]
    rw [if_pos (show (acc ++ [o.f0, (o.f1.length : Int) % 256]).length + o.f1.length < 140737488355328 by simp only [List.length_append, List.length_cons, List.length_nil]; omega), h2]
    simp [objsB]
theorem rlay_ev {dir : Int} {m : Msg} (h : (lay dir m).length ≤ 1000000) : ∃ k, busbarref12_bytes.f k dir m.code m.fail m.addr m.count m.value m.and_ m.or_ m.addr2 m.sub m.status m.events m.messages m.words m.bits m.data m.recs m.mei m.kind m.level m.more m.next m.objects = some (lay dir m) := by
  unfold lay at h ⊢
  unfold busbarref12_bytes.f
  by_cases h1 : m.mei = 13
  · refine ⟨0, ?_⟩
    rw [if_pos h1] at h ⊢
    rw [if_pos h1]
    simp only [Option.bind_some]
    rw [if_pos (by simp only [List.length_cons, List.length_nil] at h ⊢; omega), h1]
    rfl
  · rw [if_neg h1] at h ⊢
    by_cases h2 : dir = 0
    · refine ⟨0, ?_⟩
      rw [if_neg h1, if_pos h2, if_pos h2]
    · rw [if_neg h2] at h ⊢
      have ho : m.objects.length ≤ 1000000 := by
        have := objsB_ge m.objects
        simp only [List.length_append, List.length_cons, List.length_nil] at h
        omega
      refine ⟨m.objects.length + 1, ?_⟩
      rw [if_neg h1, if_neg h2]
      have := rlay_l0 m ho m.objects.length 0 [m.mei, m.kind, m.level, m.more, m.next, (m.objects.length : Int) % 256] (by omega) (by omega) (by simp only [List.length_append, List.drop_zero] at h ⊢; exact h)
      rw [List.drop_zero] at this
      exact this
theorem rlay_any {dir : Int} {m : Msg} (h : (lay dir m).length ≤ 1000000) : LayC 36 dir m (lay dir m) := by
  intro cx W hm
  obtain ⟨A12, c12, A13, c13, A14, c14, A15, c15, A21, c21, rfl, ok, ⟨hr12, hc12⟩, ⟨hr13, hc13⟩, ⟨hr14, hc14⟩, ⟨hr15, hc15⟩, ⟨hr21, hc21⟩⟩ := hm
  obtain ⟨k, hk⟩ := rlay_ev h
  refine (busbarref12_bytes.calls k _ _ _ _ _ _ _ _ _ _ _ _ _ A12 c12 m.words A13 c13 m.bits A14 c14 m.data A15 c15 m.recs _ _ _ _ _ A21 c21 m.objects _ W hr12 hc12 hr13 hc13 hr14 hc14 hr15 hc15 hr21 hc21 hk).mono ?_
  rintro en w' ⟨v, rfl, R, B⟩
  obtain ⟨A, c, rfl, hz, hr⟩ := Kd.R_reads R
  exact ⟨A, c, rfl, hz, hr, B⟩
theorem parse_c {dir code : Int} {l : List Int} (hs : l.length ≤ 1000000) (hb : isBytes l) : ParseC 12 dir code l (parse dir code l) := fun A c W hr hc => parse_any hr hc hs hb
theorem rparse_c {dir code : Int} {l : List Int} (hs : l.length ≤ 1000000) (hb : isBytes l) : ParseC 13 dir code l (parse dir code l) := fun A c W hr hc => MeiR.parse_any hr hc hs hb
theorem objsB_bytes : ∀ {os : List S43}, (∀ o ∈ os, (0 ≤ o.f0 ∧ o.f0 < 256) ∧ isBytes o.f1) → isBytes (objsB os)
  | [], _ => fun x h => by cases h
  | o :: r, h => by
    have h1 := h o List.mem_cons_self
    have h2 := objsB_bytes (fun o ho => h o (List.mem_cons_of_mem _ ho))
    intro x hx
    rcases List.mem_cons.1 hx with rfl | hx
    · exact h1.1
    rcases List.mem_cons.1 hx with rfl | hx
    · omega
    rcases List.mem_append.1 hx with hx | hx
    · exact h1.2 x hx
    · exact h2 x hx
theorem lay_bytes {dir : Int} {m : Msg} (h : goodM m) : isBytes (lay dir m) := by
  have G := goodM_num h
  obtain ⟨⟨a0, a1, a2, a3, a4, a5, a6, a7, a8, a9, a10, a11, a16, a17, a18, a19, a20⟩, a14, a21⟩ := G
  unfold lay
  split
  · intro x hx
    rcases List.mem_cons.1 hx with rfl | hx
    · exact a16
    · exact a14 x hx
  split
  · intro x hx
    simp only [List.mem_cons, List.not_mem_nil, or_false] at hx
    rcases hx with rfl | rfl | rfl
    · exact a16
    · exact a17
    · exact a20
  · refine isBytes_append (fun x hx => ?_) (objsB_bytes fun o ho => ⟨h.2.2.2 o ho, a21 o ho⟩)
    simp only [List.mem_cons, List.not_mem_nil, or_false] at hx
    rcases hx with rfl | rfl | rfl | rfl | rfl | rfl
    · exact a16
    · exact a17
    · exact a18
    · exact a19
    · exact a20
    · omega
def write (dir : Int) (m : Msg) : List Int × Int := writeR m (lay dir m) (parse dir m.code (lay dir m))
theorem write_c {dir : Int} {m : Msg} (h : (lay dir m).length ≤ 1000000) (hg : goodM m) : WriteC 16 dir m (write dir m) := write_of (lay_any h) (parse_c h (lay_bytes hg))
theorem rwrite_c {dir : Int} {m : Msg} (h : (lay dir m).length ≤ 1000000) (hg : goodM m) : WriteC 17 dir m (write dir m) := rwrite_of (rlay_any h) (rparse_c h (lay_bytes hg))
end Go.Proofs.Ytimclbhlgblifaa.Mei
end
section
namespace Go.Proofs.Ytimclbhlgblifaa.Mei
open Go.RowKit Go.Proofs.Ytimclbhlgblifaa.P Go.Proofs.Ytimclbhlgblifaa.E Go.Proofs.Ytimclbhlgblifaa.Cur Go.Proofs.Ytimclbhlgblifaa.Cu Go.Proofs.Ytimclbhlgblifaa.Same Go.Proofs.Ytimclbhlgblifaa.Code Go.Proofs.Ytimclbhlgblifaa.Com Go.Proofs.YtimclbhlgblifaaW.PrintWords Go.Proofs.YtimclbhlgblifaaW.PrintLast Go.Proofs.YtimclbhlgblifaaW.PrintMore
def objsR : Nat → (Cu → Cu × (List S43))
  | 0 => Rd.ret []
  | k + 1 => Rd.bind Rd.byte fun id => Rd.bind Rd.byte fun n => Rd.bind (Rd.bytes n) fun v => Rd.bind (objsR k) fun r => Rd.ret (⟨id, v⟩ :: r)
def ansR (m : Msg) : (Cu → Cu × Msg) := Rd.bind Rd.byte fun lv => Rd.bind (Rd.need (levB lv) 6) fun _ => Rd.bind Rd.byte fun mo => Rd.bind (Rd.need (mo == 0 || mo == 255) 6) fun _ => Rd.bind Rd.byte fun nx => Rd.bind (Rd.need (mo != 0 || nx == 0) 6) fun _ => Rd.bind Rd.byte fun k => Rd.bind (Rd.need (m.kind != 4 || k == 1) 5) fun _ => Rd.bind (objsR k.toNat) fun os => Rd.ret { m with level := lv, more := mo, next := nx, objects := os }
def tailR (dir : Int) (m : Msg) : (Cu → Cu × Msg) := Rd.bind Rd.byte fun kd => Rd.bind (Rd.need (decide (1 ≤ kd) && decide (kd ≤ 4)) 6) fun _ => if dir = 1 then ansR { m with kind := kd } else Rd.bind Rd.byte fun nx => Rd.ret { m with kind := kd, next := nx }
def otherR (m : Msg) : (Cu → Cu × Msg) := fun c => ((c.need (decide ((c.xs.length : Int) ≤ 251)) 5).bytesS (c.need (decide ((c.xs.length : Int) ≤ 251)) 5).xs.length, { m with data := (c.need (decide ((c.xs.length : Int) ≤ 251)) 5).bytesV (c.need (decide ((c.xs.length : Int) ≤ 251)) 5).xs.length })
def bodyR (dir code : Int) : (Cu → Cu × Msg) := Rd.bind Rd.byte fun x => Rd.bind (Rd.need (x == 13 || x == 14) 8) fun _ => if x = 13 then otherR { zeroM with code := code, mei := x } else tailR dir { zeroM with code := code, mei := x }
theorem objs_eq : ∀ (k : Nat) (c : Cu), objs k c = objsR k c
  | 0, _ => rfl
  | k + 1, c => by
    have h := objs_eq k (c.byteS.byteS.bytesS c.byteS.byteV)
    simp only [objs, objsR, Rd.bind, Rd.byte, Rd.bytes, Rd.ret, h]
theorem body_eq (dir code : Int) (bs : List Int) : body dir code bs = bodyR dir code (cu bs) := by
  have hc : (⟨bs, false, 0⟩ : Cu) = cu bs := rfl
  unfold body bodyR Rd.bind Rd.byte Rd.need
  rw [hc]
  dsimp only
  by_cases h : (cu bs).byteV = 13
  · rw [if_pos h]
    simp only [h]
    rfl
  · rw [if_neg h]
    simp only [if_neg h]
    unfold tailR Rd.bind Rd.byte Rd.need
    dsimp only
    by_cases hd : dir = 1
    · rw [if_pos hd]
      simp only [if_pos hd]
      unfold ans ansR Rd.bind Rd.byte Rd.need Rd.ret
      simp only [objs_eq]
    · rw [if_neg hd]
      simp only [if_neg hd]
      rfl
theorem objsR_cl : ∀ k, Cl (objsR k)
  | 0 => Cl.ret _
  | k + 1 => Cl.byte.bind fun _ => Cl.byte.bind fun _ => (Cl.bytes _).bind fun _ => (objsR_cl k).bind fun _ => Cl.ret _
theorem ansR_cl (m : Msg) : Cl (ansR m) := Cl.byte.bind fun _ => (Cl.need _ _).bind fun _ => Cl.byte.bind fun _ => (Cl.need _ _).bind fun _ => Cl.byte.bind fun _ => (Cl.need _ _).bind fun _ => Cl.byte.bind fun _ => (Cl.need _ _).bind fun _ => (objsR_cl _).bind fun _ => Cl.ret _
theorem tailR_cl (dir : Int) (m : Msg) : Cl (tailR dir m) := Cl.byte.bind fun _ => (Cl.need _ _).bind fun _ => Cl.ite (ansR_cl _) (Cl.byte.bind fun _ => Cl.ret _)
theorem otherR_dd (m : Msg) : Dd (otherR m) := fun c h => by
  show ((c.need _ 5).bytesS _).e = c.e
  rw [need_dead h, bytesS_dead h]
theorem tail_dd (dir : Int) (m : Msg) : Dd (tailR dir m) := (tailR_cl dir m).dead
theorem first_dd (dir code x : Int) : ∀ a : Unit, Dd (if x = 13 then otherR { zeroM with code := code, mei := x } else tailR dir { zeroM with code := code, mei := x }) := fun _ => Dd.ite (otherR_dd _) (tail_dd _ _)
theorem objsR_rt : ∀ (k : Nat) (l : List Int), isBytes l → (objsR k (cu l)).1.e = 0 → ∃ os t, objsR k (cu l) = (cu t, os) ∧ l = objsB os ++ t ∧ os.length = k ∧ ∀ o ∈ os, o.f1.length < 256
  | 0, l, _, _ => ⟨[], l, rfl, rfl, rfl, fun o h => by cases h⟩
  | k + 1, l, hb, h => by
    obtain ⟨id, t1, rfl, e1⟩ := byte_inv (fun _ => Dd.bind Dd.byte fun _ => Dd.bind (Dd.bytes _) fun _ => Dd.bind (objsR_cl k).dead fun _ => Dd.ret _) h
    rw [show objsR (k + 1) (cu (id :: t1)) = _ from e1] at h ⊢
    obtain ⟨n, t2, rfl, e2⟩ := byte_inv (fun _ => Dd.bind (Dd.bytes _) fun _ => Dd.bind (objsR_cl k).dead fun _ => Dd.ret _) h
    rw [e2] at h ⊢
    obtain ⟨h0, h1, e3⟩ := bytes_inv (fun _ => Dd.bind (objsR_cl k).dead fun _ => Dd.ret _) h
    rw [e3] at h ⊢
    have hn := hb n (List.mem_cons_of_mem _ List.mem_cons_self)
    have hb2 : isBytes t2 := fun x hx => hb x (List.mem_cons_of_mem _ (List.mem_cons_of_mem _ hx))
    have h3 : (objsR k (cu (t2.drop n.toNat))).1.e = 0 := h
    obtain ⟨os, t, e4, e5, e6, e7⟩ := objsR_rt k _ (isBytes_drop hb2 _) h3
    have hl : (t2.take n.toNat).length = n.toNat := by rw [List.length_take]; omega
    refine ⟨⟨id, t2.take n.toNat⟩ :: os, t, ?_, ?_, by simp [e6], fun o ho => ?_⟩
    · show ((objsR k (cu (t2.drop n.toNat))).1, _ :: (objsR k (cu (t2.drop n.toNat))).2) = _
      rw [e4]
    · show id :: n :: t2 = id :: (((t2.take n.toNat).length : Int) % 256) :: (t2.take n.toNat ++ objsB os ++ t)
      rw [hl, List.append_assoc, ← e5, List.take_append_drop]
      congr 2
      omega
    · rcases List.mem_cons.1 ho with rfl | ho
      · show (t2.take n.toNat).length < 256
        omega
      · exact e7 o ho
theorem objsR_run : ∀ (os : List S43) (t : List Int), (∀ o ∈ os, o.f1.length < 256) → objsR os.length (cu (objsB os ++ t)) = (cu t, os)
  | [], t, _ => rfl
  | o :: r, t, h => by
    have h1 := h o List.mem_cons_self
    have h2 := objsR_run r t (fun o ho => h o (List.mem_cons_of_mem _ ho))
    show Rd.bind Rd.byte _ (cu (o.f0 :: ((o.f1.length : Int) % 256) :: (o.f1 ++ objsB r ++ t))) = _
    rw [byte_run, byte_run, List.append_assoc, bytes_run _ o.f1 (objsB r ++ t) (by omega)]
    show ((objsR r.length (cu (objsB r ++ t))).1, _ :: (objsR r.length (cu (objsB r ++ t))).2) = _
    rw [h2]
theorem ans_rt {m : Msg} {l : List Int} (hb : isBytes l) (h : (ansR m (cu l)).1.e = 0) : ∃ lv mo nx os t, ansR m (cu l) = (cu t, { m with level := lv, more := mo, next := nx, objects := os }) ∧ l = lv :: mo :: nx :: ((os.length : Int) % 256) :: (objsB os ++ t) ∧ (∀ o ∈ os, o.f1.length < 256) ∧ (mo = 0 ∨ mo = 255) ∧ (mo ≠ 0 ∨ nx = 0) ∧ (m.kind ≠ 4 ∨ os.length = 1) := by
  unfold ansR at h ⊢
  obtain ⟨lv, t1, rfl, e1⟩ := byte_inv (fun _ => (Cl.bind (Cl.need _ _) fun _ => Cl.byte.bind fun _ => (Cl.need _ _).bind fun _ => Cl.byte.bind fun _ => (Cl.need _ _).bind fun _ => Cl.byte.bind fun _ => (Cl.need _ _).bind fun _ => (objsR_cl _).bind fun _ => Cl.ret _).dead) h
  rw [e1] at h ⊢
  obtain ⟨g1, e2⟩ := need_inv (by decide) (fun _ => (Cl.byte.bind fun _ => (Cl.need _ _).bind fun _ => Cl.byte.bind fun _ => (Cl.need _ _).bind fun _ => Cl.byte.bind fun _ => (Cl.need _ _).bind fun _ => (objsR_cl _).bind fun _ => Cl.ret _).dead) h
  rw [e2] at h ⊢
  obtain ⟨mo, t2, rfl, e3⟩ := byte_inv (fun _ => ((Cl.need _ _).bind fun _ => Cl.byte.bind fun _ => (Cl.need _ _).bind fun _ => Cl.byte.bind fun _ => (Cl.need _ _).bind fun _ => (objsR_cl _).bind fun _ => Cl.ret _).dead) h
  rw [e3] at h ⊢
  obtain ⟨g2, e4⟩ := need_inv (by decide) (fun _ => (Cl.byte.bind fun _ => (Cl.need _ _).bind fun _ => Cl.byte.bind fun _ => (Cl.need _ _).bind fun _ => (objsR_cl _).bind fun _ => Cl.ret _).dead) h
  rw [e4] at h ⊢
  obtain ⟨nx, t3, rfl, e5⟩ := byte_inv (fun _ => ((Cl.need _ _).bind fun _ => Cl.byte.bind fun _ => (Cl.need _ _).bind fun _ => (objsR_cl _).bind fun _ => Cl.ret _).dead) h
  rw [e5] at h ⊢
  obtain ⟨g3, e6⟩ := need_inv (by decide) (fun _ => (Cl.byte.bind fun _ => (Cl.need _ _).bind fun _ => (objsR_cl _).bind fun _ => Cl.ret _).dead) h
  rw [e6] at h ⊢
  obtain ⟨k, t4, rfl, e7⟩ := byte_inv (fun _ => ((Cl.need _ _).bind fun _ => (objsR_cl _).bind fun _ => Cl.ret _).dead) h
  rw [e7] at h ⊢
  obtain ⟨g4, e8⟩ := need_inv (by decide) (fun _ => ((objsR_cl _).bind fun _ => Cl.ret _).dead) h
  rw [e8] at h ⊢
  have hk := hb k (by simp)
  have hb4 : isBytes t4 := fun x hx => hb x (by simp [hx])
  obtain ⟨os, t, f1, f2, f3, f4⟩ := objsR_rt _ t4 hb4 (show (objsR k.toNat (cu t4)).1.e = 0 from h)
  refine ⟨lv, mo, nx, os, t, ?_, ?_, f4, ?_, ?_, ?_⟩
  · show ((objsR k.toNat (cu t4)).1, { m with level := lv, more := mo, next := nx, objects := (objsR k.toNat (cu t4)).2 }) = _
    rw [f1]
  · rw [f3, ← f2, show ((k.toNat : Nat) : Int) % 256 = k by omega]
  · simpa using g2
  · simp only [Bool.or_eq_true, bne_iff_ne, beq_iff_eq] at g3
    exact g3
  · simp only [Bool.or_eq_true, bne_iff_ne, beq_iff_eq] at g4
    rcases g4 with g | g
    · exact .inl g
    · exact .inr (by omega)
theorem tail_rt {dir : Int} {m : Msg} {l : List Int} (h13 : m.mei ≠ 13) (hd : dir = 0 ∨ dir = 1) (hb : isBytes l) (h : (tailR dir m (cu l)).1.fin.e = 0) : lay dir (tailR dir m (cu l)).2 = m.mei :: l ∧ (tailR dir m (cu l)).2.code = m.code ∧ (∀ o ∈ (tailR dir m (cu l)).2.objects, o.f1.length < 256) ∨ m.objects ≠ [] := by
  by_cases ho : m.objects = []
  rotate_left
  · exact .inr ho
  left
  obtain ⟨h, hx⟩ := fin_ok h
  unfold tailR at h hx ⊢
  obtain ⟨kd, t1, rfl, e1⟩ := byte_inv (fun _ => ((Cl.need _ _).bind fun _ => Cl.ite (ansR_cl _) (Cl.byte.bind fun _ => Cl.ret _)).dead) h
  rw [e1] at h hx ⊢
  obtain ⟨g1, e2⟩ := need_inv (by decide) (fun _ => (Cl.ite (ansR_cl _) (Cl.byte.bind fun _ => Cl.ret _)).dead) h
  rw [e2] at h hx ⊢
  have hb1 : isBytes t1 := fun x hx => hb x (by simp [hx])
  rcases hd with rfl | rfl
  · rw [if_neg (by decide)] at h hx ⊢
    obtain ⟨nx, t2, rfl, e3⟩ := byte_inv (fun _ => Dd.ret _) h
    rw [e3] at hx ⊢
    have hx : t2 = [] := hx
    subst hx
    refine ⟨?_, rfl, ?_⟩
    · unfold lay Rd.ret
      rw [if_neg h13, if_pos rfl]
    · intro o h
      have h : o ∈ m.objects := h
      rw [ho] at h
      cases h
  · rw [if_pos rfl] at h hx ⊢
    obtain ⟨lv, mo, nx, os, t, f1, f2, f3, f4, f5, f6⟩ := ans_rt hb1 h
    rw [f1] at hx ⊢
    have hx : t = [] := hx
    subst hx
    rw [List.append_nil] at f2
    refine ⟨?_, rfl, f3⟩
    unfold lay
    rw [if_neg h13, if_neg (by decide), f2]
    rfl
theorem other_rt {M : Msg} {t : List Int} (h : (otherR M (cu t)).1.e = 0) : t.length ≤ 251 ∧ otherR M (cu t) = (cu [], { M with data := t }) := by
  have h1 : ((cu t).need (decide (((cu t).xs.length : Int) ≤ 251)) 5).e = 0 := (bytes_ok (show (((cu t).need (decide (((cu t).xs.length : Int) ≤ 251)) 5).bytesS _).e = 0 from h)).1
  obtain ⟨_, g2, g3⟩ := need_ok (by decide) h1
  have g2 : ((cu t).xs.length : Int) ≤ 251 := of_decide_eq_true g2
  refine ⟨by have g2 : (t.length : Int) ≤ 251 := g2; omega, ?_⟩
  unfold otherR
  rw [g3, show ((cu t).xs.length : Int) = (t.length : Int) from rfl, bytesV_all t rfl, bytesS_all t rfl]
theorem other_run {M : Msg} {t : List Int} (h : t.length ≤ 251) : otherR M (cu t) = (cu [], { M with data := t }) := by
  unfold otherR
  have e : decide (((cu t).xs.length : Int) ≤ 251) = true := decide_eq_true (by show (t.length : Int) ≤ 251; omega)
  rw [e, need_true, show ((cu t).xs.length : Int) = (t.length : Int) from rfl, bytesV_all t rfl, bytesS_all t rfl]
theorem body_rt {dir code : Int} {b : List Int} (hd : dir = 0 ∨ dir = 1) (hb : isBytes b) (h : (body dir code b).1.fin.e = 0) : lay dir (body dir code b).2 = b ∧ (body dir code b).2.code = code ∧ ((body dir code b).2.mei ≠ 13 → b.headD 0 ≠ 13) ∧ ((body dir code b).2.mei = 13 → (body dir code b).2.data.length ≤ 251) ∧ ∀ o ∈ (body dir code b).2.objects, o.f1.length < 256 := by
  rw [body_eq] at h ⊢
  have h0 := (fin_ok h).1
  unfold bodyR at h h0 ⊢
  obtain ⟨x, t, rfl, e1⟩ := byte_inv (fun x => Dd.bind (Dd.need _ _) (first_dd dir code x)) h0
  rw [e1] at h h0 ⊢
  obtain ⟨g1, e2⟩ := need_inv (by decide) (first_dd dir code x) h0
  rw [e2] at h h0 ⊢
  have hbt : isBytes t := fun y hy => hb y (List.mem_cons_of_mem _ hy)
  by_cases h13 : x = 13
  · rw [if_pos h13] at h h0 ⊢
    obtain ⟨g2, g3⟩ := other_rt h0
    rw [g3]
    refine ⟨?_, rfl, fun hm => absurd h13 hm, fun _ => ?_, fun o h => by cases h⟩
    · unfold lay
      rw [if_pos h13]
    · exact g2
  · rw [if_neg h13] at h h0 ⊢
    rcases tail_rt (m := { zeroM with code := code, mei := x }) h13 hd hbt h with k | k
    · refine ⟨k.1, k.2.1, fun _ => h13, fun hm => ?_, k.2.2⟩
      exfalso
      have h1 := (fin_ok h).1
      unfold tailR at h1 hm
      obtain ⟨kd, t1, rfl, e3⟩ := byte_inv (fun _ => ((Cl.need _ _).bind fun _ => Cl.ite (ansR_cl _) (Cl.byte.bind fun _ => Cl.ret _)).dead) h1
      rw [e3] at h1 hm
      obtain ⟨_, e4⟩ := need_inv (by decide) (fun _ => (Cl.ite (ansR_cl _) (Cl.byte.bind fun _ => Cl.ret _)).dead) h1
      rw [e4] at h1 hm
      by_cases hd1 : dir = 1
      · rw [if_pos hd1] at h1 hm
        obtain ⟨lv, mo, nx, os, t, f1, _⟩ := ans_rt (fun y hy => hbt y (List.mem_cons_of_mem _ hy)) h1
        rw [f1] at hm
        exact h13 hm
      · rw [if_neg hd1] at h1 hm
        obtain ⟨nx, t2, rfl, e5⟩ := byte_inv (fun _ => Dd.ret _) h1
        rw [e5] at hm
        exact h13 hm
    · exact absurd rfl k
theorem parse_err {dir code : Int} {l : List Int} (h : (parse dir code l).2 ≠ 0) : (parse dir code l).1 = zeroM := by
  unfold parse at h ⊢
  split
  · rfl
  split
  · rfl
  split
  · rfl
  · rename_i h1 h2 h3
    rw [if_neg h1, if_neg h2, if_neg h3] at h
    exact absurd rfl h
theorem parse_ok {dir code : Int} {b : List Int} (h : (parse dir code b).2 = 0) : (dir = 0 ∨ dir = 1) ∧ code = 43 ∧ (body dir code b).1.fin.e = 0 ∧ parse dir code b = ((body dir code b).2, 0) := by
  unfold parse at h ⊢
  by_cases h1 : dir ≠ 0 ∧ dir ≠ 1
  · rw [if_pos h1] at h; exact absurd h (by decide)
  rw [if_neg h1] at h ⊢
  by_cases h2 : code ≠ 43
  · rw [if_pos h2] at h; exact absurd h (by decide)
  rw [if_neg h2] at h ⊢
  by_cases h3 : (body dir code b).1.fin.e ≠ 0
  · rw [if_pos h3] at h; exact absurd h h3
  rw [if_neg h3]
  exact ⟨by omega, by omega, by simpa using h3, rfl⟩
theorem parse_of {dir code : Int} {b : List Int} (hd : dir = 0 ∨ dir = 1) (hc : code = 43) (h : (body dir code b).1.fin.e = 0) : parse dir code b = ((body dir code b).2, 0) := by
  unfold parse
  rw [if_neg (by omega), if_neg (by omega), if_neg (by simpa using h)]
theorem parse_rt {dir code : Int} {b : List Int} (hb : isBytes b) (h : (parse dir code b).2 = 0) : lay dir (parse dir code b).1 = b ∧ (parse dir code b).1.code = code := by
  obtain ⟨hd, hc, hf, e⟩ := parse_ok h
  rw [e]
  obtain ⟨h1, h2, _⟩ := body_rt hd hb hf
  exact ⟨h1, h2⟩
theorem objsB_len : ∀ os : List S43, (∀ o ∈ os, o.f1.length ≤ 300) → (objsB os).length ≤ 302 * os.length
  | [], _ => Nat.le_refl _
  | o :: r, h => by
    have h1 := h o List.mem_cons_self
    have h2 := objsB_len r (fun o ho => h o (List.mem_cons_of_mem _ ho))
    simp only [objsB, List.length_cons, List.length_append]
    omega
theorem few_small {dir : Int} {m : Msg} (h : fewB m = true) : (lay dir m).length ≤ 40000 ∧ m.objects.length ≤ 100 ∧ ∀ o ∈ m.objects, o.f1.length ≤ 300 := by
  unfold fewB at h
  simp only [Bool.and_eq_true, decide_eq_true_eq, List.all_eq_true] at h
  obtain ⟨⟨h1, h2, h3, h4, h5⟩, h6, h7⟩ := h
  refine ⟨?_, h5, h7⟩
  have := objsB_len m.objects h7
  unfold lay
  split
  · simp only [List.length_cons]; omega
  split
  · simp only [List.length_cons, List.length_nil]; omega
  · simp only [List.length_append, List.length_cons, List.length_nil]; omega
theorem writeR_ok {m : Msg} {l : List Int} {P : Msg × Int} (h : (writeR m l P).2 = 0) : P.2 = 0 ∧ P.1 = m ∧ writeR m l P = (l, 0) := by
  unfold writeR at h ⊢
  by_cases hc : P.2 = 0 ∧ sameB P.1 m = true
  · rw [if_pos hc]
    exact ⟨hc.1, (same_eq _ _).1 hc.2, rfl⟩
  · rw [if_neg hc] at h
    exact absurd h (by decide)
theorem writeR_no {m : Msg} {l : List Int} {P : Msg × Int} (h : (writeR m l P).2 ≠ 0) : writeR m l P = ([], 1) := by
  unfold writeR at h ⊢
  by_cases hc : P.2 = 0 ∧ sameB P.1 m = true
  · rw [if_pos hc] at h
    exact absurd rfl h
  · rw [if_neg hc]
theorem writeR_eq {m : Msg} {l : List Int} {P : Msg × Int} (h : P = (m, 0)) : writeR m l P = (l, 0) := by
  unfold writeR
  rw [h, if_pos ⟨rfl, same_refl m⟩]
end Go.Proofs.Ytimclbhlgblifaa.Mei
end
section
namespace Go.Proofs.Ytimclbhlgblifaa.Mei
open Go.RowKit Go.Proofs.Ytimclbhlgblifaa.P Go.Proofs.Ytimclbhlgblifaa.E Go.Proofs.Ytimclbhlgblifaa.Cur Go.Proofs.Ytimclbhlgblifaa.Cu Go.Proofs.Ytimclbhlgblifaa.Same Go.Proofs.Ytimclbhlgblifaa.Code Go.Proofs.Ytimclbhlgblifaa.Com Go.Proofs.Ytimclbhlgblifaa.Mei Go.Proofs.YtimclbhlgblifaaW.PrintWords Go.Proofs.YtimclbhlgblifaaW.PrintLast Go.Proofs.YtimclbhlgblifaaW.PrintMore
def mk (kd lv mo nx : Int) (os : List S43) : Msg := { zeroM with code := 43, mei := 14, kind := kd, level := lv, more := mo, next := nx, objects := os }
def mk13 (l : List Int) : Msg := { zeroM with code := 43, mei := 13, data := l }
theorem resp_run {kd lv mo nx : Int} {os : List S43} (h1 : 1 ≤ kd ∧ kd ≤ 4) (h2 : levB lv = true) (h3 : mo = 0 ∨ mo = 255) (h4 : mo ≠ 0 ∨ nx = 0) (h5 : kd ≠ 4 ∨ os.length = 1) (h6 : os.length < 256) (h7 : ∀ o ∈ os, o.f1.length < 256) :
    body 1 43 (lay 1 (mk kd lv mo nx os)) = (cu [], mk kd lv mo nx os) := by
  have e : lay 1 (mk kd lv mo nx os) = 14 :: kd :: lv :: mo :: nx :: ((os.length : Int) % 256) :: (objsB os ++ []) := by
    unfold lay mk
    rw [if_neg (show ¬ (14 : Int) = 13 by decide), if_neg (by decide), List.append_nil]
    rfl
  rw [body_eq, e]
  unfold bodyR
  rw [byte_run, need_run _ (by decide), if_neg (by decide)]
  unfold tailR
  rw [byte_run, need_run _ (by simp [h1]), if_pos rfl]
  unfold ansR
  rw [byte_run, need_run _ h2, byte_run, need_run _ (by simpa using h3), byte_run, need_run _ (by simpa using h4), byte_run, need_run _ ?_]
  · have e6 : ((os.length : Int) % 256).toNat = os.length := by omega
    have e5 := objsR_run os [] h7
    unfold Rd.bind Rd.ret
    dsimp only
    rw [e6, e5]
    rfl
  · show (kd != 4 || (os.length : Int) % 256 == 1) = true
    simp only [Bool.or_eq_true, bne_iff_ne, beq_iff_eq]
    omega
theorem resp_w {kd lv mo nx : Int} {os : List S43} (h1 : 1 ≤ kd ∧ kd ≤ 4) (h2 : levB lv = true) (h3 : mo = 0 ∨ mo = 255) (h4 : mo ≠ 0 ∨ nx = 0) (h5 : kd ≠ 4 ∨ os.length = 1) (h6 : os.length < 256) (h7 : ∀ o ∈ os, o.f1.length < 256) :
    write 1 (mk kd lv mo nx os) = (lay 1 (mk kd lv mo nx os), 0) := by
  have e := resp_run h1 h2 h3 h4 h5 h6 h7
  refine writeR_eq ?_
  show parse 1 43 _ = _
  rw [parse_of (.inr rfl) rfl (by rw [e]; rfl), e]
theorem resp_bad {kd lv mo nx : Int} {os : List S43} (h6 : os.length < 256) (hg : isBytes (lay 1 (mk kd lv mo nx os))) (h : (write 1 (mk kd lv mo nx os)).2 = 0) : (mo = 0 ∨ mo = 255) ∧ (mo ≠ 0 ∨ nx = 0) ∧ (kd ≠ 4 ∨ os.length = 1) ∧ ∀ o ∈ os, o.f1.length < 256 := by
  obtain ⟨h1, h2, _⟩ := writeR_ok h
  have h1 : (parse 1 43 (lay 1 (mk kd lv mo nx os))).2 = 0 := h1
  have h2 : (parse 1 43 (lay 1 (mk kd lv mo nx os))).1 = mk kd lv mo nx os := h2
  obtain ⟨_, _, h3, h4⟩ := parse_ok h1
  have h5 := body_rt (.inr rfl) hg h3
  rw [h4] at h2
  have h2 : (body 1 43 (lay 1 (mk kd lv mo nx os))).2 = mk kd lv mo nx os := h2
  have h8 := h5.2.2.2.2
  rw [h2] at h8
  have e : lay 1 (mk kd lv mo nx os) = 14 :: kd :: lv :: mo :: nx :: ((os.length : Int) % 256) :: (objsB os ++ []) := by
    unfold lay mk
    rw [if_neg (show ¬ (14 : Int) = 13 by decide), if_neg (by decide), List.append_nil]
    rfl
  rw [body_eq, e] at h3
  rw [e] at hg
  have h9 := (fin_ok h3).1
  unfold bodyR at h9
  rw [byte_run, need_run _ (by decide), if_neg (by decide)] at h9
  unfold tailR at h9
  rw [byte_run] at h9
  obtain ⟨_, e2⟩ := need_inv (by decide) (fun _ => (Cl.ite (ansR_cl _) (Cl.byte.bind fun _ => Cl.ret _)).dead) h9
  rw [e2, if_pos rfl] at h9
  obtain ⟨lv', mo', nx', os', t, f1, f2, f3, f4, f5, f6⟩ := ans_rt (fun x hx => hg x (by simp only [List.mem_cons] at hx ⊢; exact .inr (.inr hx))) h9
  simp only [List.cons.injEq] at f2
  obtain ⟨rfl, rfl, rfl, f7, _⟩ := f2
  refine ⟨f4, f5, ?_, fun o ho => h8 o ho⟩
  have e3 : (body 1 43 (lay 1 (mk kd lv mo nx os))).2.objects = os := by rw [h2]; rfl
  rw [body_eq, e] at e3
  unfold bodyR at e3
  rw [byte_run, need_run _ (by decide), if_neg (by decide)] at e3
  unfold tailR at e3
  rw [byte_run, e2, if_pos rfl, f1] at e3
  have e3 : os' = os := e3
  rw [e3] at f6
  exact f6
theorem other_w {dir : Int} (hd : dir = 0 ∨ dir = 1) {l : List Int} (hb : isBytes l) : write dir (mk13 l) = if l.length ≤ 251 then (13 :: l, 0) else ([], 1) := by
  have e : lay dir (mk13 l) = 13 :: l := by
    unfold lay mk13
    rw [if_pos rfl]
  split
  · rename_i hl
    have e2 : body dir 43 (13 :: l) = (cu [], mk13 l) := by
      rw [body_eq]
      unfold bodyR
      rw [byte_run, need_run _ (by decide), if_pos rfl, other_run hl]
      rfl
    unfold write
    rw [e]
    refine writeR_eq ?_
    show parse dir 43 _ = _
    rw [parse_of hd rfl (by rw [e2]; rfl), e2]
  · rename_i hl
    refine writeR_no fun h => hl ?_
    obtain ⟨h1, h2, _⟩ := writeR_ok h
    rw [e] at h1
    have h1 : (parse dir 43 (13 :: l)).2 = 0 := h1
    obtain ⟨_, _, h3, h4⟩ := parse_ok h1
    have hg : isBytes (13 :: l) := fun x hx => by
      rcases List.mem_cons.1 hx with rfl | hx
      · decide
      · exact hb x hx
    rw [body_eq] at h3
    have h9 := (fin_ok h3).1
    unfold bodyR at h9
    rw [byte_run, need_run _ (by decide), if_pos rfl] at h9
    exact (other_rt h9).1
theorem ask_w {kd nx : Int} : write 0 (mk kd 0 0 nx []) = if 1 ≤ kd ∧ kd ≤ 4 then ([14, kd, nx], 0) else ([], 1) := by
  have e : lay 0 (mk kd 0 0 nx []) = [14, kd, nx] := by
    unfold lay mk
    rw [if_neg (show ¬ (14 : Int) = 13 by decide), if_pos rfl]
  unfold write
  rw [e]
  split
  · rename_i hk
    have e2 : body 0 43 [14, kd, nx] = (cu [], mk kd 0 0 nx []) := by
      rw [body_eq]
      unfold bodyR
      rw [byte_run, need_run _ (by decide), if_neg (by decide)]
      unfold tailR
      rw [byte_run, need_run _ (by simp [hk]), if_neg (by decide), byte_run]
      rfl
    refine writeR_eq ?_
    show parse 0 43 _ = _
    rw [parse_of (.inl rfl) rfl (by rw [e2]; rfl), e2]
  · rename_i hk
    refine writeR_no fun h => hk ?_
    obtain ⟨h1, h2, _⟩ := writeR_ok h
    have h1 : (parse 0 43 [14, kd, nx]).2 = 0 := h1
    obtain ⟨_, _, h3, h4⟩ := parse_ok h1
    rw [body_eq] at h3
    have h9 := (fin_ok h3).1
    unfold bodyR at h9
    rw [byte_run, need_run _ (by decide), if_neg (by decide)] at h9
    unfold tailR at h9
    rw [byte_run] at h9
    obtain ⟨g, _⟩ := need_inv (by decide) (fun _ => (Cl.ite (ansR_cl _) (Cl.byte.bind fun _ => Cl.ret _)).dead) h9
    simpa using g
theorem mk_is {kd lv mo nx : Int} (h1 : 0 ≤ kd ∧ kd < 256) (h2 : 0 ≤ lv ∧ lv < 256) (h3 : 0 ≤ mo ∧ mo < 256) (h4 : 0 ≤ nx ∧ nx < 256) (W : World) : IsMsg W (((((((zeroC.setIfInBounds 0 (.int .u8 43)).setIfInBounds 16 (.int .u8 14)).setIfInBounds 17 (.int .u8 kd)).setIfInBounds 18 (.int .u8 lv)).setIfInBounds 19 (.int .u8 mo)).setIfInBounds 20 (.int .u8 nx))) (mk kd lv mo nx []) :=
  set_next (set_more (set_level (set_kind (set_mei (set_code (zero_is W) (v := 43) (by decide)) (v := 14) (by decide)) h1) h2) h3) h4
theorem mk13_is {l : List Int} {A : Option Addr} {n : Nat} {W : World} (hb : isBytes l) (hr : Kd.C (Kd.int .u8) W A l.length l) (hn : l.length ≤ n) : IsMsg W (((zeroC.setIfInBounds 0 (.int .u8 43)).setIfInBounds 16 (.int .u8 13)).setIfInBounds 14 (.slice A l.length n)) (mk13 l) :=
  set_data (set_mei (set_code (zero_is W) (v := 43) (by decide)) (v := 13) (by decide)) hn hb hr
theorem mk_good {kd lv mo nx : Int} (h1 : 0 ≤ kd ∧ kd < 256) (h2 : 0 ≤ lv ∧ lv < 256) (h3 : 0 ≤ mo ∧ mo < 256) (h4 : 0 ≤ nx ∧ nx < 256) : goodM (mk kd lv mo nx []) := (mk_is h1 h2 h3 h4 (default : World)).good
end Go.Proofs.Ytimclbhlgblifaa.Mei
end
section
namespace Go.Proofs.Ytimclbhlgblifaa.Laws
open Go.RowKit Go.Proofs.Ytimclbhlgblifaa.P Go.Proofs.Ytimclbhlgblifaa.E Go.Proofs.Ytimclbhlgblifaa.Cur Go.Proofs.Ytimclbhlgblifaa.Cu Go.Proofs.Ytimclbhlgblifaa.Same Go.Proofs.Ytimclbhlgblifaa.Code Go.Proofs.Ytimclbhlgblifaa.Com Go.Proofs.Ytimclbhlgblifaa.Mei Go.Proofs.YtimclbhlgblifaaW.PrintWords Go.Proofs.YtimclbhlgblifaaW.PrintLast Go.Proofs.YtimclbhlgblifaaW.PrintMore
theorem ex1 : parse 0 43 [14, 1, 0] = (mk 1 0 0 0 [], 0) := by
  have e2 : body 0 43 [14, 1, 0] = (cu [], mk 1 0 0 0 []) := by
    rw [body_eq]
    unfold bodyR
    rw [byte_run, need_run _ (by decide), if_neg (by decide)]
    unfold tailR
    rw [byte_run, need_run _ (by decide), if_neg (by decide), byte_run]
    rfl
  rw [parse_of (.inl rfl) rfl (by rw [e2]; rfl), e2]
theorem ex2 : parse 1 43 [14, 1, 1, 0, 0, 1, 0, 2, 65, 66] = (mk 1 1 0 0 [⟨0, [65, 66]⟩], 0) := by
  have e2 := resp_run (kd := 1) (lv := 1) (mo := 0) (nx := 0) (os := [⟨0, [65, 66]⟩]) (by decide) (by decide) (.inl rfl) (.inr rfl) (.inl (by decide)) (by decide) (by simp)
  have e3 : lay 1 (mk 1 1 0 0 [⟨0, [65, 66]⟩]) = [14, 1, 1, 0, 0, 1, 0, 2, 65, 66] := by
    unfold lay mk
    rw [if_neg (show ¬ (14 : Int) = 13 by decide), if_neg (by decide)]
    rfl
  rw [e3] at e2
  rw [parse_of (.inr rfl) rfl (by rw [e2]; rfl), e2]
theorem bytes_dec (l : List Int) (h : l.all (fun x => decide (0 ≤ x) && decide (x < 256)) = true) : isBytes l := fun x hx => by
  have := List.all_eq_true.1 h x hx
  simpa using this
set_option maxHeartbeats 16000000 in
set_option maxRecDepth 100000 in
theorem awake_any (w : World) :
    Calls Try.prog 11 #[] w fun e w' => e = .returned (.bool true) ∧ Below w.heap.size w w' := by
  have H1 := Aside0.mk (show ParseC 12 0 43 [14, 1, 0] (mk 1 0 0 0 [], 0) from by rw [← ex1]; exact parse_c (by decide) (bytes_dec _ (by decide)))
  have H2 := Aside0.mk (show ParseC 12 1 43 [14, 1, 1, 0, 0, 1, 0, 2, 65, 66] (mk 1 1 0 0 [⟨0, [65, 66]⟩], 0) from by rw [← ex2]; exact parse_c (by decide) (bytes_dec _ (by decide)))
  have H := Aside0.mk (Hd.start w)
  go_enter Try.func11, Try.ntmps11
  go_upto_region 2 with (first | ((with_reducible refine gate_dst (N := 6) rfl ?_); (try (refine gate_guard (by rfl) ?_; dsimp only)); refine ev_lit .u8 [14, 1, 0] 5 rfl (by first | (go_simp; done) | (go_simp; rfl)) (by simp) ?_; intro Aa ca wl ba he_ hr_ hz_ hb_; have Za := Aside0.mk hz_; have Ea := Aside0.mk he_; have n0_ := Aside0.mk ((H.out.on hb_).add (sta_C _ _ _ _) (hr_)); clear H; have H := n0_; clear n0_; clear hr_ hz_ hb_ he_) | (go_at_call 12; (with_reducible refine (ParseC.c (ParseC.ex H1.out Ea.out) H.out.f.2 Za.out).mono ?_); rintro en wm ⟨cm, rfl, hm_, hb_⟩; have n0_ := Aside0.mk ((H.out.on hb_).add (sta_msg _ _) (hm_)); clear H; have H := n0_; clear n0_; clear hb_ hm_) | ((with_reducible refine gate_dst (N := 1) rfl ?_); refine ev_var (y := .tmp 8) rfl rfl rfl rfl rfl H.out.f.2 rfl rfl ?_; intro gm wv hg_ h1_ hb_; have n0_ := Aside0.mk ((H.out.on hb_).add (sta_blk _ _) (h1_)); clear H; have H := n0_; clear n0_; clear h1_ hb_ hg_))
  go_upto_region 3 with (first | ((with_reducible refine gate_dst (N := 11) rfl ?_); (try (refine gate_guard (by rfl) ?_; dsimp only)); refine ev_lit .u8 [14, 1, 1, 0, 0, 1, 0, 2, 65, 66] 5 rfl (by first | (go_simp; done) | (go_simp; rfl)) (by simp) ?_; intro Ab cb wlb bb he_ hr_ hz_ hb_; have Zb := Aside0.mk hz_; have Eb := Aside0.mk he_; have n0_ := Aside0.mk ((H.out.on hb_).add (sta_C _ _ _ _) (hr_)); clear H; have H := n0_; clear n0_; clear hr_ hz_ hb_ he_) | (go_at_call 12; (with_reducible refine (ParseC.c (ParseC.ex H2.out Eb.out) H.out.f.2 Zb.out).mono ?_); rintro en wx ⟨cx, rfl, hm_, hb_⟩; have n0_ := Aside0.mk ((H.out.on hb_).add (sta_msg _ _) (hm_)); clear H; have H := n0_; clear n0_; clear hb_ hm_) | ((with_reducible refine gate_dst (N := 3) rfl ?_); refine ev_var (y := .tmp 13) rfl rfl rfl rfl rfl H.out.f.2 rfl rfl ?_; intro gx wxx hg_ h1_ hb_; have n0_ := Aside0.mk ((H.out.on hb_).add (sta_blk _ _) (h1_)); clear H; have H := n0_; clear n0_; clear h1_ hb_ hg_))
  obtain ⟨A12, c12, A13, c13, A14, c14, A15, c15, A21, c21, ⟨_, _, _, _, l21⟩, _, _, _, _, R21⟩ := IsMsg.lists H.out.f.1.2
  have k21 : wxx.cell? ⟨gx, 21, none⟩ = some (.slice A21 1 c21) := (blk_cell H.out.f.2 21).trans l21
  obtain ⟨ad, A1, c1, rfl, x0, x1, g1, q1⟩ := at_T43 R21.1 (0 : Int) (by decide) (by decide)
  have e0_ : rd_T43 (mk 1 1 0 0 [⟨0, [65, 66]⟩]).objects (0 : Int) = ⟨0, [65, 66]⟩ := rfl
  rw [e0_] at x0 x1 g1 q1
  rw [show ((0 : Int).toNat * 2) = 0 from rfl, Addr.add_zero'] at x0 x1
  replace x1 : wxx.cell? ⟨ad.block, ad.off + 1, none⟩ = some (.slice A1 2 c1) := x1
  have kmei : wxx.cell? ⟨gm, 16, none⟩ = some (.int .u8 14) := bx_mei H.out.f.1.1.1.2 H.out.f.1.1.1.1.2
  have kkind : wxx.cell? ⟨gm, 17, none⟩ = some (.int .u8 1) := bx_kind H.out.f.1.1.1.2 H.out.f.1.1.1.1.2
  have klev : wxx.cell? ⟨gx, 18, none⟩ = some (.int .u8 1) := bx_level H.out.f.2 H.out.f.1.2
  replace q1 : Kd.C (Kd.int .u8) wxx A1 2 [65, 66] := q1
  have hcv := Kd.C_string (P := Try.prog) (A := A1) (c := c1) Try.underlying22 Try.underlying5 Try.underlying9 q1
  have hs : ((strOfNums [65, 66]).toList == [65, 66]) = true := by rw [str_list]; rfl
  clear x0 g1 q1 l21 R21
  go_wp2
  go_ret
  exact ⟨by first | rfl | (simp; done) | decide, H.out.b⟩
theorem awake_c : AwakeC 11 := fun W => awake_any W
theorem u8_wf {n : Int} (h : (Lit.int .u8 n).wf = true) : 0 ≤ n ∧ n < 256 := by
  simp only [Lit.wf, IntKind.min, IntKind.max, IntKind.signed, IntKind.bits, Bool.and_eq_true, decide_eq_true_eq] at h
  simp at h
  omega
end Go.Proofs.Ytimclbhlgblifaa.Laws
end
