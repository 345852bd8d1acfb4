/- What the laws of this chapter rest on, part 4: what the functions that they reach answer, each shown once. Conditions: what each theorem states. (Merged by a program of this session, wip/tools/merge.py, out of its own texts and of the words that the kit's print wrote for this seat, cut to those that are used.) -/
import Derived.Deep.Slices
import Derived.Deep.Fields
import Derived.ChangeArms
import Derived.Test.YtdjeekpgcjcffaaUC
set_option linter.unusedVariables false
set_option linter.unusedSimpArgs false
set_option maxHeartbeats 16000000
set_option maxRecDepth 100000
section
namespace Go.Proofs.Ytdjeekpgcjcffaa.P
open Go.RowKit Go.Proofs.YtdjeekpgcjcffaaW.PrintWords Go.Proofs.YtdjeekpgcjcffaaW.PrintLast Go.Proofs.YtdjeekpgcjcffaaW.PrintMore
attribute [local go_sem] max2_int min2_int max_two min_two max_three min_three max_four min_four   -- for this text's walks alone
mutual
def files_lay.l0 : Nat → Int → List Int → List (S43) → Int → Int → Int → Int → Int → Int → Int → Int → Int → Int → Int → Int → Int → Int → List Int → List Bool → List Int → List (S43) → Int → Int → Int → Int → Int → List (S69) → Option (List Int)
  | 0, _, _, _, _, _, _, _, _, _, _, _, _, _, _, _, _, _, _, _, _, _, _, _, _, _, _, _ => none
  | k + 1, x0, x5, x10, x11, x12, x120000, x120001, x120002, x120003, x120004, x120005, x120006, x120007, x120008, x120009, x120010, x120011, x120012, x120013, x120014, x120015, x120016, x120017, x120018, x120019, x120020, x120021 => if x12 < x11 then (if 0 ≤ x12 then (if x12 < (x10.length : Int) then (if x120000 = 20 then (files_lay.j1 k x0 x5 x10 x11 x12 (x0 == 1) x120000 x120001 x120002 x120003 x120004 x120005 x120006 x120007 x120008 x120009 x120010 x120011 x120012 x120013 x120014 x120015 x120016 x120017 x120018 x120019 x120020 x120021 ((rd_T43 x10 x12).f0) ((rd_T43 x10 x12).f1) ((rd_T43 x10 x12).f2) ((rd_T43 x10 x12).f3)) else (files_lay.j1 k x0 x5 x10 x11 x12 false x120000 x120001 x120002 x120003 x120004 x120005 x120006 x120007 x120008 x120009 x120010 x120011 x120012 x120013 x120014 x120015 x120016 x120017 x120018 x120019 x120020 x120021 ((rd_T43 x10 x12).f0) ((rd_T43 x10 x12).f1) ((rd_T43 x10 x12).f2) ((rd_T43 x10 x12).f3))) else (none)) else (none)) else (if 0 < (x5.length : Int) then (some (x5.set (0 : Int).toNat ((wrap64 ((x5.length : Int) - 1)) % 256))) else (none))
def files_lay.j1 : Nat → Int → List Int → List (S43) → Int → Int → Bool → Int → Int → Int → Int → Int → Int → Int → Int → Int → Int → Int → Int → List Int → List Bool → List Int → List (S43) → Int → Int → Int → Int → Int → List (S69) → Int → Int → Int → List Int → Option (List Int)
  | 0, _, _, _, _, _, _, _, _, _, _, _, _, _, _, _, _, _, _, _, _, _, _, _, _, _, _, _, _, _, _, _, _ => none
  | k + 1, x0, x5, x10, x11, x12, x28, x120000, x120001, x120002, x120003, x120004, x120005, x120006, x120007, x120008, x120009, x120010, x120011, x120012, x120013, x120014, x120015, x120016, x120017, x120018, x120019, x120020, x120021, x126000, x126001, x126002, x126003 => if x28 = true then ((some (([(wrap64 (1 + (wrap64 (2 * (x126003.length : Int))))) % 256, 6] : List Int) : List Int)).bind fun y126 => (if x5.length + y126.length < 140737488355328 then ((some (x5 ++ y126 : List Int)).bind fun y129 => ((word_Put.f k x126003).bind fun t132 => (if y129.length + t132.length < 140737488355328 then (files_lay.l0 k x0 (y129 ++ t132) x10 x11 (wrap64 (x12 + 1)) x120000 x120001 x120002 x120003 x120004 x120005 x120006 x120007 x120008 x120009 x120010 x120011 x120012 x120013 x120014 x120015 x120016 x120017 x120018 x120019 x120020 x120021) else (none)))) else (none))) else ((some (([6] : List Int) : List Int)).bind fun y138 => (if x5.length + y138.length < 140737488355328 then ((some (x5 ++ y138 : List Int)).bind fun y141 => ((word_Put.f k (([x126000, x126001, x126002] : List Int))).bind fun t147 => (if y141.length + t147.length < 140737488355328 then ((some (y141 ++ t147 : List Int)).bind fun y150 => ((word_Put.f k x126003).bind fun t153 => (if y150.length + t153.length < 140737488355328 then (files_lay.l0 k x0 (y150 ++ t153) x10 x11 (wrap64 (x12 + 1)) x120000 x120001 x120002 x120003 x120004 x120005 x120006 x120007 x120008 x120009 x120010 x120011 x120012 x120013 x120014 x120015 x120016 x120017 x120018 x120019 x120020 x120021) else (none)))) else (none)))) else (none)))
end
def files_lay.f (k : Nat) (a0 : Int) (a1_0 : Int) (a1_1 : Int) (a1_2 : Int) (a1_3 : Int) (a1_4 : Int) (a1_5 : Int) (a1_6 : Int) (a1_7 : Int) (a1_8 : Int) (a1_9 : Int) (a1_10 : Int) (a1_11 : Int) (l1_12 : List Int) (l1_13 : List Bool) (l1_14 : List Int) (l1_15 : List (S43)) (a1_16 : Int) (a1_17 : Int) (a1_18 : Int) (a1_19 : Int) (a1_20 : Int) (l1_21 : List (S69)) : Option (List Int) := files_lay.l0 k a0 (([0] : List Int)) l1_15 (l1_15.length : Int) 0 a1_0 a1_1 a1_2 a1_3 a1_4 a1_5 a1_6 a1_7 a1_8 a1_9 a1_10 a1_11 l1_12 l1_13 l1_14 l1_15 a1_16 a1_17 a1_18 a1_19 a1_20 l1_21
def files_lay.T5 : Bool × List (List Nat × List Nat) := (true, [([], []), ([], []), ([0, 1], [0, 1]), ([], []), ([3], [3]), ([], []), ([5], [5]), ([], []), ([7], [7]), ([4, 6, 8], [4, 6, 8]), ([9, 2], [9]), ([2, 10, 10], [2, 10]), ([11, 11, 0, 1, 2, 3, 4, 5, 6, 7, 8, 9, 10, 11], [0, 11])])
def files_lay.B5 : List Nat := [0, 0, 3, 0, 8, 0, 32, 0, 128, 504, 1023, 2047, 4095]
theorem files_lay.tab5 : rtab .any (opsOf Try.f31 5) = files_lay.T5 := by kernel_rfl
theorem files_lay.bits5 : waitsOk files_lay.T5.2 files_lay.B5 = true := by kernel_rfl
theorem files_lay.calls (k : Nat) (a0 : Int) (a1_0 : Int) (a1_1 : Int) (a1_2 : Int) (a1_3 : Int) (a1_4 : Int) (a1_5 : Int) (a1_6 : Int) (a1_7 : Int) (a1_8 : Int) (a1_9 : Int) (a1_10 : Int) (a1_11 : Int) (A1_12 : Option Addr) (c1_12 : Nat) (l1_12 : List Int) (A1_13 : Option Addr) (c1_13 : Nat) (l1_13 : List Bool) (A1_14 : Option Addr) (c1_14 : Nat) (l1_14 : List Int) (A1_15 : Option Addr) (c1_15 : Nat) (l1_15 : List (S43)) (a1_16 : Int) (a1_17 : Int) (a1_18 : Int) (a1_19 : Int) (a1_20 : Int) (A1_21 : Option Addr) (c1_21 : Nat) (l1_21 : List (S69)) (r : List Int) (w : World) (hr1_12 : Kd.C (Kd.int .u16) w A1_12 l1_12.length l1_12) (hc1_12 : l1_12.length ≤ c1_12) (hr1_13 : Kd.C Kd.bool w A1_13 l1_13.length l1_13) (hc1_13 : l1_13.length ≤ c1_13) (hr1_14 : Kd.C (Kd.int .u8) w A1_14 l1_14.length l1_14) (hc1_14 : l1_14.length ≤ c1_14) (hr1_15 : Kd.C k43 w A1_15 l1_15.length l1_15) (hc1_15 : l1_15.length ≤ c1_15) (hr1_21 : Kd.C k69 w A1_21 l1_21.length l1_21) (hc1_21 : l1_21.length ≤ c1_21) (h : files_lay.f k a0 a1_0 a1_1 a1_2 a1_3 a1_4 a1_5 a1_6 a1_7 a1_8 a1_9 a1_10 a1_11 l1_12 l1_13 l1_14 l1_15 a1_16 a1_17 a1_18 a1_19 a1_20 l1_21 = some r) :
    Calls Try.prog 31 #[.int .i64 a0, .agg #[.int .u8 a1_0, .int .u8 a1_1, .int .u16 a1_2, .int .u16 a1_3, .int .u16 a1_4, .int .u16 a1_5, .int .u16 a1_6, .int .u16 a1_7, .int .u16 a1_8, .int .u16 a1_9, .int .u16 a1_10, .int .u16 a1_11, .slice A1_12 l1_12.length c1_12, .slice A1_13 l1_13.length c1_13, .slice A1_14 l1_14.length c1_14, .slice A1_15 l1_15.length c1_15, .int .u8 a1_16, .int .u8 a1_17, .int .u8 a1_18, .int .u8 a1_19, .int .u8 a1_20, .slice A1_21 l1_21.length c1_21]] w fun e w' => ∃ v0_ : Value, e = .returned (v0_) ∧ Kd.R (Kd.int .u8) 5 w' w.heap.size (fun _ => True) v0_ r ∧ Below w.heap.size w w' := by
  have hu30 := Try.underlying30
  have hu43 := Try.underlying43
  have HR1_12 := Aside0.mk hr1_12
  have HC1_12 := Aside0.mk hc1_12
  clear hr1_12 hc1_12
  have HR1_13 := Aside0.mk hr1_13
  have HC1_13 := Aside0.mk hc1_13
  clear hr1_13 hc1_13
  have HR1_14 := Aside0.mk hr1_14
  have HC1_14 := Aside0.mk hc1_14
  clear hr1_14 hc1_14
  have HR1_15 := Aside0.mk hr1_15
  have HC1_15 := Aside0.mk hc1_15
  clear hr1_15 hc1_15
  have HR1_21 := Aside0.mk hr1_21
  have HC1_21 := Aside0.mk hc1_21
  clear hr1_21 hc1_21
  have HB := Aside0.mk (Below.refl w.heap.size w)
  have H : (files_lay.l0 k a0 (([0] : List Int)) l1_15 (l1_15.length : Int) 0 a1_0 a1_1 a1_2 a1_3 a1_4 a1_5 a1_6 a1_7 a1_8 a1_9 a1_10 a1_11 l1_12 l1_13 l1_14 l1_15 a1_16 a1_17 a1_18 a1_19 a1_20 l1_21) = some r := h
  clear h
  obtain ⟨y120, hy120⟩ : ∃ y_ : List Int, y_ = (([0] : List Int)) := ⟨_, rfl⟩
  replace H : (files_lay.l0 k a0 y120 l1_15 (l1_15.length : Int) 0 a1_0 a1_1 a1_2 a1_3 a1_4 a1_5 a1_6 a1_7 a1_8 a1_9 a1_10 a1_11 l1_12 l1_13 l1_14 l1_15 a1_16 a1_17 a1_18 a1_19 a1_20 l1_21) = some r := by first | (rw [hy120]; with_reducible exact H) | (have H2_ := (Option.bind_some _ _).symm.trans H; rw [hy120]; with_reducible exact H2_) | (have H2_ := (Option.bind_some _ _).symm.trans H; with_reducible exact H2_) | with_reducible exact H | (rw [hy120]; exact H) | exact H
  have Ny120 := Aside0.mk hy120
  clear hy120
  have H' := Aside0.mk H
  clear H
  go_enter Try.func31, Try.ntmps31
  go_wp2_with (first | ((with_reducible refine gate_dst (N := 3) rfl ?_); refine box_event ?hg (N := 3) ?hd (cs := #[.int .u8 a1_0, .int .u8 a1_1, .int .u16 a1_2, .int .u16 a1_3, .int .u16 a1_4, .int .u16 a1_5, .int .u16 a1_6, .int .u16 a1_7, .int .u16 a1_8, .int .u16 a1_9, .int .u16 a1_10, .int .u16 a1_11, .slice A1_12 l1_12.length c1_12, .slice A1_13 l1_13.length c1_13, .slice A1_14 l1_14.length c1_14, .slice A1_15 l1_15.length c1_15, .int .u8 a1_16, .int .u8 a1_17, .int .u8 a1_18, .int .u8 a1_19, .int .u8 a1_20, .slice A1_21 l1_21.length c1_21]) (t := 30) ?hr ?_; (case hd => rfl); (case hg => rfl); (case hr => first | (go_simp; done) | (go_simp; rfl)); intro gb119 hg w3 hbox hb; have n0_ := Aside0.mk (below_step (by repeat (first | (with_reducible first | exact HB.out | apply below_alloc | apply pw_below_drewN | apply below_drew1) | exact HB.out)) hb); have n1_ := Aside0.mk (hbox); have n2_ := Aside0.mk ((by rw [hg]; exact (below_size (by repeat (first | (with_reducible first | exact HB.out | apply below_alloc | apply pw_below_drewN | apply below_drew1) | exact HB.out))) : w.heap.size ≤ gb119)); have n3_ := Aside0.mk ((by rw [hg]; exact (below_size (by repeat (first | (with_reducible first | exact HB.out | apply below_alloc | apply pw_below_drewN | apply below_drew1) | exact HB.out))) : w.heap.size ≤ gb119)); clear HB; have HB := n0_; have BK119 := n1_; have GW119 := n2_; have GE119 := n3_; clear n0_ n1_ n2_ n3_; clear hb hbox hg) | ((with_reducible refine gate_dst (N := 8) rfl ?_); refine Kd.R_lit (Kd.int .u8) _ 5 ?hg (N := 8) ?hd (xs := ([0] : List Int)) (inner := [.int .u8 0]) (ok := fun _ => True) (okp := fun _ => True) ?hr ?hp (fun _ hk => hk) trivial (Below.refl _ _) (Nat.le_refl _) (by simp) ?_; (case hd => rfl); (case hg => rfl); (case hr => first | (go_simp; done) | (go_simp; rfl)); (case hp => exact (Reps.one (show Kd.M (Kd.int .u8) _ _ _ 0 [.int .u8 0] from rfl) (Reps.none _ _))); intro v121 w4 ho5 hb hg_ hnew_; clear hg_ hnew_; (first | rw [← Ny120.out] at ho5 | (simp only [Int.reduceToNat] at ho5; rw [← Ny120.out] at ho5)); have n0_ := Aside0.mk (Kd.R_lower ho5 (below_size (by repeat (first | (with_reducible first | exact HB.out | apply below_alloc | apply pw_below_drewN | apply below_drew1 | refine below_set ?_ GE119.out) | exact HB.out)))); have n1_ := Aside0.mk (blk_below (g := gb119) (o := .cells #[.int .u8 a1_0, .int .u8 a1_1, .int .u16 a1_2, .int .u16 a1_3, .int .u16 a1_4, .int .u16 a1_5, .int .u16 a1_6, .int .u16 a1_7, .int .u16 a1_8, .int .u16 a1_9, .int .u16 a1_10, .int .u16 a1_11, .slice A1_12 l1_12.length c1_12, .slice A1_13 l1_13.length c1_13, .slice A1_14 l1_14.length c1_14, .slice A1_15 l1_15.length c1_15, .int .u8 a1_16, .int .u8 a1_17, .int .u8 a1_18, .int .u8 a1_19, .int .u8 a1_20, .slice A1_21 l1_21.length c1_21] 30 (0, 0)) (by (with_reducible repeat (first | refine blk_drewN ?_ _ | refine blk_drew ?_ | refine blk_alloc ?_ _)); exact BK119.out) hb); have n2_ := Aside0.mk (below_step (by repeat (first | (with_reducible first | exact HB.out | apply below_alloc | apply pw_below_drewN | apply below_drew1 | refine below_set ?_ GE119.out) | exact HB.out)) hb); clear BK119; clear HB; have HO122 := n0_; have BK119 := n1_; have HB := n2_; clear n0_ n1_ n2_; clear hb ho5; have hcz6_0 : w4.cell? ⟨gb119, 0, none⟩ = some (.int .u8 a1_0) := (blk_cell BK119.out 0).trans rfl; have hcz6_1 : w4.cell? ⟨gb119, 1, none⟩ = some (.int .u8 a1_1) := (blk_cell BK119.out 1).trans rfl; have hcz6_2 : w4.cell? ⟨gb119, 2, none⟩ = some (.int .u16 a1_2) := (blk_cell BK119.out 2).trans rfl; have hcz6_3 : w4.cell? ⟨gb119, 3, none⟩ = some (.int .u16 a1_3) := (blk_cell BK119.out 3).trans rfl; have hcz6_4 : w4.cell? ⟨gb119, 4, none⟩ = some (.int .u16 a1_4) := (blk_cell BK119.out 4).trans rfl; have hcz6_5 : w4.cell? ⟨gb119, 5, none⟩ = some (.int .u16 a1_5) := (blk_cell BK119.out 5).trans rfl; have hcz6_6 : w4.cell? ⟨gb119, 6, none⟩ = some (.int .u16 a1_6) := (blk_cell BK119.out 6).trans rfl; have hcz6_7 : w4.cell? ⟨gb119, 7, none⟩ = some (.int .u16 a1_7) := (blk_cell BK119.out 7).trans rfl; have hcz6_8 : w4.cell? ⟨gb119, 8, none⟩ = some (.int .u16 a1_8) := (blk_cell BK119.out 8).trans rfl; have hcz6_9 : w4.cell? ⟨gb119, 9, none⟩ = some (.int .u16 a1_9) := (blk_cell BK119.out 9).trans rfl; have hcz6_10 : w4.cell? ⟨gb119, 10, none⟩ = some (.int .u16 a1_10) := (blk_cell BK119.out 10).trans rfl; have hcz6_11 : w4.cell? ⟨gb119, 11, none⟩ = some (.int .u16 a1_11) := (blk_cell BK119.out 11).trans rfl; have hcz6_12 : w4.cell? ⟨gb119, 12, none⟩ = some (.slice A1_12 l1_12.length c1_12) := (blk_cell BK119.out 12).trans rfl; have hcz6_13 : w4.cell? ⟨gb119, 13, none⟩ = some (.slice A1_13 l1_13.length c1_13) := (blk_cell BK119.out 13).trans rfl; have hcz6_14 : w4.cell? ⟨gb119, 14, none⟩ = some (.slice A1_14 l1_14.length c1_14) := (blk_cell BK119.out 14).trans rfl; have hcz6_15 : w4.cell? ⟨gb119, 15, none⟩ = some (.slice A1_15 l1_15.length c1_15) := (blk_cell BK119.out 15).trans rfl; have hcz6_16 : w4.cell? ⟨gb119, 16, none⟩ = some (.int .u8 a1_16) := (blk_cell BK119.out 16).trans rfl; have hcz6_17 : w4.cell? ⟨gb119, 17, none⟩ = some (.int .u8 a1_17) := (blk_cell BK119.out 17).trans rfl; have hcz6_18 : w4.cell? ⟨gb119, 18, none⟩ = some (.int .u8 a1_18) := (blk_cell BK119.out 18).trans rfl; have hcz6_19 : w4.cell? ⟨gb119, 19, none⟩ = some (.int .u8 a1_19) := (blk_cell BK119.out 19).trans rfl; have hcz6_20 : w4.cell? ⟨gb119, 20, none⟩ = some (.int .u8 a1_20) := (blk_cell BK119.out 20).trans rfl; have hcz6_21 : w4.cell? ⟨gb119, 21, none⟩ = some (.slice A1_21 l1_21.length c1_21) := (blk_cell BK119.out 21).trans rfl; have hfz6_0 := blk_frozen BK119.out 0; have hfz6_1 := blk_frozen BK119.out 1; have hfz6_2 := blk_frozen BK119.out 2; have hfz6_3 := blk_frozen BK119.out 3; have hfz6_4 := blk_frozen BK119.out 4; have hfz6_5 := blk_frozen BK119.out 5; have hfz6_6 := blk_frozen BK119.out 6; have hfz6_7 := blk_frozen BK119.out 7; have hfz6_8 := blk_frozen BK119.out 8; have hfz6_9 := blk_frozen BK119.out 9; have hfz6_10 := blk_frozen BK119.out 10; have hfz6_11 := blk_frozen BK119.out 11; have hfz6_12 := blk_frozen BK119.out 12; have hfz6_13 := blk_frozen BK119.out 13; have hfz6_14 := blk_frozen BK119.out 14; have hfz6_15 := blk_frozen BK119.out 15; have hfz6_16 := blk_frozen BK119.out 16; have hfz6_17 := blk_frozen BK119.out 17; have hfz6_18 := blk_frozen BK119.out 18; have hfz6_19 := blk_frozen BK119.out 19; have hfz6_20 := blk_frozen BK119.out 20; have hfz6_21 := blk_frozen BK119.out 21))
  go_loopg [5, 12] k (fun kq v5 v12 w' => ∃ (x5_1 : List Int) (x12_1 : Int), v12 = .int .i64 x12_1 ∧ Aside0 (files_lay.l0 kq a0 x5_1 l1_15 (l1_15.length : Int) x12_1 a1_0 a1_1 a1_2 a1_3 a1_4 a1_5 a1_6 a1_7 a1_8 a1_9 a1_10 a1_11 l1_12 l1_13 l1_14 l1_15 a1_16 a1_17 a1_18 a1_19 a1_20 l1_21 = some r) ∧ Aside0 (kq ≤ k) ∧ Aside0 (Kd.R (Kd.int .u8) 5 w' w.heap.size (fun _ => True) v5 x5_1) ∧ Aside0 (w'.heap[gb119]? = some (.cells #[.int .u8 a1_0, .int .u8 a1_1, .int .u16 a1_2, .int .u16 a1_3, .int .u16 a1_4, .int .u16 a1_5, .int .u16 a1_6, .int .u16 a1_7, .int .u16 a1_8, .int .u16 a1_9, .int .u16 a1_10, .int .u16 a1_11, (.slice A1_12 l1_12.length c1_12), (.slice A1_13 l1_13.length c1_13), (.slice A1_14 l1_14.length c1_14), (.slice A1_15 l1_15.length c1_15), .int .u8 a1_16, .int .u8 a1_17, .int .u8 a1_18, .int .u8 a1_19, .int .u8 a1_20, (.slice A1_21 l1_21.length c1_21)] 30 (0, 0))) ∧ Aside0 (Below w.heap.size w w'))
  case atStart => exact ⟨(y120), (0), (by first | rfl | (simp; done) | (simp [*]; done)), H', ⟨Nat.le_refl _⟩, ⟨by (with_reducible repeat (first | apply Kd.R_alloc | apply Kd.R_drewN | apply Kd.R_drew)); exact HO122.out⟩, ⟨by (with_reducible repeat (first | refine blk_drewN ?_ _ | refine blk_drew ?_ | refine blk_alloc ?_ _)); exact BK119.out⟩, ⟨by repeat (first | (with_reducible first | exact HB.out | apply below_alloc | apply pw_below_drewN | apply below_drew1 | refine below_set ?_ GE119.out) | exact HB.out)⟩⟩
  case round =>
    clear H'
    try clear c1
    try clear p2
    try clear c3
    try clear hcz6_0
    try clear hcz6_1
    try clear hcz6_10
    try clear hcz6_11
    try clear hcz6_12
    try clear hcz6_13
    try clear hcz6_14
    try clear hcz6_15
    try clear hcz6_16
    try clear hcz6_17
    try clear hcz6_18
    try clear hcz6_19
    try clear hcz6_2
    try clear hcz6_20
    try clear hcz6_21
    try clear hcz6_3
    try clear hcz6_4
    try clear hcz6_5
    try clear hcz6_6
    try clear hcz6_7
    try clear hcz6_8
    try clear hcz6_9
    try clear hfz6_0
    try clear hfz6_1
    try clear hfz6_10
    try clear hfz6_11
    try clear hfz6_12
    try clear hfz6_13
    try clear hfz6_14
    try clear hfz6_15
    try clear hfz6_16
    try clear hfz6_17
    try clear hfz6_18
    try clear hfz6_19
    try clear hfz6_2
    try clear hfz6_20
    try clear hfz6_21
    try clear hfz6_3
    try clear hfz6_4
    try clear hfz6_5
    try clear hfz6_6
    try clear hfz6_7
    try clear hfz6_8
    try clear hfz6_9
    obtain ⟨x5_1, x12_1, rfl, HA, HK1, HO_5, BK119, HB⟩ := hrel
    cases gk with
    | zero => exact absurd HA.out (by simp [files_lay.l0])
    | succ k1 =>
      have H := HA.out
      clear HA
      simp only [files_lay.l0] at H
      by_cases c7 : x12_1 < (l1_15.length : Int)
      · rw [if_pos c7] at H
        have c7b0 : decide (x12_1 < (l1_15.length : Int)) = true := decide_eq_true c7
        clear c7
        by_cases c8 : 0 ≤ x12_1
        · rw [if_pos c8] at H
          have c8b0 : decide (0 ≤ x12_1) = true := decide_eq_true c8
          clear c8
          by_cases c9 : x12_1 < (l1_15.length : Int)
          · rw [if_pos c9] at H
            have c9b0 : decide (x12_1 < (l1_15.length : Int)) = true := decide_eq_true c9
            clear c9
            have HC10 := Aside0.mk H
            clear H
            have p124 : 0 ≤ (x12_1 : Int) := of_decide_eq_true (by first | (with_reducible assumption) | assumption)
            have q124 : x12_1 < (l1_15.length : Int) := of_decide_eq_true (by first | (with_reducible assumption) | assumption)
            obtain ⟨ad124, A124_3, c124_3, e124, hx124_0, hx124_1, hx124_2, hx124_3, hl124_3, hi124_3⟩ := at_T43 HR1_15.out x12_1 p124 q124
            cases e124
            replace hx124_0 := (HB.out.cell (World.block_lt_of_cell? w _ hx124_0)).trans hx124_0
            replace hx124_1 := (HB.out.cell (World.block_lt_of_cell? w _ hx124_1)).trans hx124_1
            replace hx124_2 := (HB.out.cell (World.block_lt_of_cell? w _ hx124_2)).trans hx124_2
            replace hx124_3 := (HB.out.cell (World.block_lt_of_cell? w _ hx124_3)).trans hx124_3
            have HR124_3 := Aside0.mk hi124_3
            have HC124_3 := Aside0.mk hl124_3
            clear hi124_3 hl124_3
            replace p124 := eq_true p124
            replace q124 := eq_true q124
            go_upto_region 6 with (first | ((with_reducible refine gate_dst (N := 7) rfl ?_); refine box_event ?hg (N := 7) ?hd (cs := #[.int .u16 0, .int .u16 0, .int .u16 0, .slice none 0 0]) (t := 43) ?hr ?_; (case hd => rfl); (case hg => rfl); (case hr => first | (go_simp; done) | (go_simp; rfl)); intro gb125 hg w11 hbox hb; have n0_ := Aside0.mk (Kd.R_below (by (with_reducible repeat (first | apply Kd.R_alloc | apply Kd.R_drewN | apply Kd.R_drew)); exact HO_5.out) hb); have n1_ := Aside0.mk (blk_below (g := gb119) (o := .cells #[.int .u8 a1_0, .int .u8 a1_1, .int .u16 a1_2, .int .u16 a1_3, .int .u16 a1_4, .int .u16 a1_5, .int .u16 a1_6, .int .u16 a1_7, .int .u16 a1_8, .int .u16 a1_9, .int .u16 a1_10, .int .u16 a1_11, .slice A1_12 l1_12.length c1_12, .slice A1_13 l1_13.length c1_13, .slice A1_14 l1_14.length c1_14, .slice (some ad124) l1_15.length c1_15, .int .u8 a1_16, .int .u8 a1_17, .int .u8 a1_18, .int .u8 a1_19, .int .u8 a1_20, .slice A1_21 l1_21.length c1_21] 30 (0, 0)) (by (with_reducible repeat (first | refine blk_drewN ?_ _ | refine blk_drew ?_ | refine blk_alloc ?_ _)); exact BK119.out) hb); have n2_ := Aside0.mk (below_step (by repeat (first | (with_reducible first | exact HB.out | apply below_alloc | apply pw_below_drewN | apply below_drew1 | refine below_set ?_ GE119.out) | exact HB.out)) hb); have n3_ := Aside0.mk (hbox); have n4_ := Aside0.mk ((by rw [hg]; exact (below_size (by repeat (first | (with_reducible first | exact HB.out | apply below_alloc | apply pw_below_drewN | apply below_drew1 | refine below_set ?_ GE119.out) | exact HB.out))) : w.heap.size ≤ gb125)); have n5_ := Aside0.mk ((by rw [hg]; exact (below_size (by repeat (first | (with_reducible first | exact HB.out | apply below_alloc | apply pw_below_drewN | apply below_drew1 | refine below_set ?_ GE119.out) | exact HB.out))) : w.heap.size ≤ gb125)); have n6_ := Aside0.mk ((by rw [hg]; exact Nat.ne_of_lt (blk_lt (g := gb119) (o := .cells #[.int .u8 a1_0, .int .u8 a1_1, .int .u16 a1_2, .int .u16 a1_3, .int .u16 a1_4, .int .u16 a1_5, .int .u16 a1_6, .int .u16 a1_7, .int .u16 a1_8, .int .u16 a1_9, .int .u16 a1_10, .int .u16 a1_11, .slice A1_12 l1_12.length c1_12, .slice A1_13 l1_13.length c1_13, .slice A1_14 l1_14.length c1_14, .slice (some ad124) l1_15.length c1_15, .int .u8 a1_16, .int .u8 a1_17, .int .u8 a1_18, .int .u8 a1_19, .int .u8 a1_20, .slice A1_21 l1_21.length c1_21] 30 (0, 0)) (by (with_reducible repeat (first | refine blk_drewN ?_ _ | refine blk_drew ?_ | refine blk_alloc ?_ _)); exact BK119.out)) : gb119 ≠ gb125)); have n7_ := Aside0.mk ((by rw [hg]; exact Nat.ne_of_gt (blk_lt (g := gb119) (o := .cells #[.int .u8 a1_0, .int .u8 a1_1, .int .u16 a1_2, .int .u16 a1_3, .int .u16 a1_4, .int .u16 a1_5, .int .u16 a1_6, .int .u16 a1_7, .int .u16 a1_8, .int .u16 a1_9, .int .u16 a1_10, .int .u16 a1_11, .slice A1_12 l1_12.length c1_12, .slice A1_13 l1_13.length c1_13, .slice A1_14 l1_14.length c1_14, .slice (some ad124) l1_15.length c1_15, .int .u8 a1_16, .int .u8 a1_17, .int .u8 a1_18, .int .u8 a1_19, .int .u8 a1_20, .slice A1_21 l1_21.length c1_21] 30 (0, 0)) (by (with_reducible repeat (first | refine blk_drewN ?_ _ | refine blk_drew ?_ | refine blk_alloc ?_ _)); exact BK119.out)) : gb125 ≠ gb119)); clear HO_5; clear BK119; clear HB; have HO_5 := n0_; have BK119 := n1_; have HB := n2_; have BK125 := n3_; have GW125 := n4_; have GE125 := n5_; have NB119_125 := n6_; have NB125_119 := n7_; clear n0_ n1_ n2_ n3_ n4_ n5_ n6_ n7_; clear hb hbox hg; have hnb12 := NB125_119.out; have hnc12 := NB119_125.out; have hcz13_0 : w11.cell? ⟨gb125, 0, none⟩ = some (.int .u16 0) := (blk_cell BK125.out 0).trans rfl; have hcz13_1 : w11.cell? ⟨gb125, 1, none⟩ = some (.int .u16 0) := (blk_cell BK125.out 1).trans rfl; have hcz13_2 : w11.cell? ⟨gb125, 2, none⟩ = some (.int .u16 0) := (blk_cell BK125.out 2).trans rfl; have hcz13_3 : w11.cell? ⟨gb125, 3, none⟩ = some (.slice none 0 0) := (blk_cell BK125.out 3).trans rfl; have hfz13_0 := blk_frozen BK125.out 0; have hfz13_1 := blk_frozen BK125.out 1; have hfz13_2 := blk_frozen BK125.out 2; have hfz13_3 := blk_frozen BK125.out 3))
            (try simp only [Act.put, List.setIfInBounds_toArray, List.set_cons_zero, List.set_cons_succ])
            go_cut [28] (fun v28 wc => ∃ (kq : Nat) (x28_9 : Bool), v28 = .bool x28_9 ∧ Aside0 (files_lay.j1 kq a0 x5_1 l1_15 (l1_15.length : Int) x12_1 x28_9 a1_0 a1_1 a1_2 a1_3 a1_4 a1_5 a1_6 a1_7 a1_8 a1_9 a1_10 a1_11 l1_12 l1_13 l1_14 l1_15 a1_16 a1_17 a1_18 a1_19 a1_20 l1_21 ((rd_T43 l1_15 x12_1).f0) ((rd_T43 l1_15 x12_1).f1) ((rd_T43 l1_15 x12_1).f2) ((rd_T43 l1_15 x12_1).f3) = some r) ∧ Aside0 (kq ≤ k1) ∧ Aside0 (Kd.R (Kd.int .u8) 5 wc w.heap.size (fun _ => True) u5 x5_1) ∧ Aside0 (wc.heap[gb119]? = some (.cells #[.int .u8 a1_0, .int .u8 a1_1, .int .u16 a1_2, .int .u16 a1_3, .int .u16 a1_4, .int .u16 a1_5, .int .u16 a1_6, .int .u16 a1_7, .int .u16 a1_8, .int .u16 a1_9, .int .u16 a1_10, .int .u16 a1_11, (.slice A1_12 l1_12.length c1_12), (.slice A1_13 l1_13.length c1_13), (.slice A1_14 l1_14.length c1_14), (.slice (some ad124) l1_15.length c1_15), .int .u8 a1_16, .int .u8 a1_17, .int .u8 a1_18, .int .u8 a1_19, .int .u8 a1_20, (.slice A1_21 l1_21.length c1_21)] 30 (0, 0))) ∧ Aside0 (wc.heap[gb125]? = some (.cells #[.int .u16 ((rd_T43 l1_15 x12_1).f0), .int .u16 ((rd_T43 l1_15 x12_1).f1), .int .u16 ((rd_T43 l1_15 x12_1).f2), (.slice A124_3 ((rd_T43 l1_15 x12_1).f3).length c124_3)] 43 (0, 0))) ∧ Aside0 (Below w.heap.size w wc))
            case first =>
              have H := HC10.out
              clear HC10
              by_cases c14 : a1_0 = 20
              · rw [if_pos c14] at H
                have c14b0 : (a1_0 == 20) = true := beq_iff_eq.mpr c14
                have c14b1 : (a1_0 != 20) = false := bne_eq_false_iff_eq.mpr c14
                clear c14
                (first | rw [c14b0] | (simp only [i64_w, i32_w]; rw [c14b0]) | skip)
                have H' := Aside0.mk H
                clear H
                have hnb15 := NB119_125.out
                have hnc15 := NB125_119.out
                have hcz16_0 : w11.cell? ⟨gb119, 0, none⟩ = some (.int .u8 a1_0) := (blk_cell BK119.out 0).trans rfl
                have hcz16_1 : w11.cell? ⟨gb119, 1, none⟩ = some (.int .u8 a1_1) := (blk_cell BK119.out 1).trans rfl
                have hcz16_2 : w11.cell? ⟨gb119, 2, none⟩ = some (.int .u16 a1_2) := (blk_cell BK119.out 2).trans rfl
                have hcz16_3 : w11.cell? ⟨gb119, 3, none⟩ = some (.int .u16 a1_3) := (blk_cell BK119.out 3).trans rfl
                have hcz16_4 : w11.cell? ⟨gb119, 4, none⟩ = some (.int .u16 a1_4) := (blk_cell BK119.out 4).trans rfl
                have hcz16_5 : w11.cell? ⟨gb119, 5, none⟩ = some (.int .u16 a1_5) := (blk_cell BK119.out 5).trans rfl
                have hcz16_6 : w11.cell? ⟨gb119, 6, none⟩ = some (.int .u16 a1_6) := (blk_cell BK119.out 6).trans rfl
                have hcz16_7 : w11.cell? ⟨gb119, 7, none⟩ = some (.int .u16 a1_7) := (blk_cell BK119.out 7).trans rfl
                have hcz16_8 : w11.cell? ⟨gb119, 8, none⟩ = some (.int .u16 a1_8) := (blk_cell BK119.out 8).trans rfl
                have hcz16_9 : w11.cell? ⟨gb119, 9, none⟩ = some (.int .u16 a1_9) := (blk_cell BK119.out 9).trans rfl
                have hcz16_10 : w11.cell? ⟨gb119, 10, none⟩ = some (.int .u16 a1_10) := (blk_cell BK119.out 10).trans rfl
                have hcz16_11 : w11.cell? ⟨gb119, 11, none⟩ = some (.int .u16 a1_11) := (blk_cell BK119.out 11).trans rfl
                have hcz16_12 : w11.cell? ⟨gb119, 12, none⟩ = some (.slice A1_12 l1_12.length c1_12) := (blk_cell BK119.out 12).trans rfl
                have hcz16_13 : w11.cell? ⟨gb119, 13, none⟩ = some (.slice A1_13 l1_13.length c1_13) := (blk_cell BK119.out 13).trans rfl
                have hcz16_14 : w11.cell? ⟨gb119, 14, none⟩ = some (.slice A1_14 l1_14.length c1_14) := (blk_cell BK119.out 14).trans rfl
                have hcz16_15 : w11.cell? ⟨gb119, 15, none⟩ = some (.slice (some ad124) l1_15.length c1_15) := (blk_cell BK119.out 15).trans rfl
                have hcz16_16 : w11.cell? ⟨gb119, 16, none⟩ = some (.int .u8 a1_16) := (blk_cell BK119.out 16).trans rfl
                have hcz16_17 : w11.cell? ⟨gb119, 17, none⟩ = some (.int .u8 a1_17) := (blk_cell BK119.out 17).trans rfl
                have hcz16_18 : w11.cell? ⟨gb119, 18, none⟩ = some (.int .u8 a1_18) := (blk_cell BK119.out 18).trans rfl
                have hcz16_19 : w11.cell? ⟨gb119, 19, none⟩ = some (.int .u8 a1_19) := (blk_cell BK119.out 19).trans rfl
                have hcz16_20 : w11.cell? ⟨gb119, 20, none⟩ = some (.int .u8 a1_20) := (blk_cell BK119.out 20).trans rfl
                have hcz16_21 : w11.cell? ⟨gb119, 21, none⟩ = some (.slice A1_21 l1_21.length c1_21) := (blk_cell BK119.out 21).trans rfl
                have hfz16_0 := blk_frozen BK119.out 0
                have hfz16_1 := blk_frozen BK119.out 1
                have hfz16_2 := blk_frozen BK119.out 2
                have hfz16_3 := blk_frozen BK119.out 3
                have hfz16_4 := blk_frozen BK119.out 4
                have hfz16_5 := blk_frozen BK119.out 5
                have hfz16_6 := blk_frozen BK119.out 6
                have hfz16_7 := blk_frozen BK119.out 7
                have hfz16_8 := blk_frozen BK119.out 8
                have hfz16_9 := blk_frozen BK119.out 9
                have hfz16_10 := blk_frozen BK119.out 10
                have hfz16_11 := blk_frozen BK119.out 11
                have hfz16_12 := blk_frozen BK119.out 12
                have hfz16_13 := blk_frozen BK119.out 13
                have hfz16_14 := blk_frozen BK119.out 14
                have hfz16_15 := blk_frozen BK119.out 15
                have hfz16_16 := blk_frozen BK119.out 16
                have hfz16_17 := blk_frozen BK119.out 17
                have hfz16_18 := blk_frozen BK119.out 18
                have hfz16_19 := blk_frozen BK119.out 19
                have hfz16_20 := blk_frozen BK119.out 20
                have hfz16_21 := blk_frozen BK119.out 21
                go_wp2
                go_meet
                case rel => exact ⟨_, ((a0 == 1)), (by first | rfl | (simp; done) | (simp [*]; done)), H', ⟨by have := HK1.out; first | omega | exact Nat.le_refl _⟩, ⟨by (with_reducible repeat (first | apply Kd.R_alloc | apply Kd.R_drewN | apply Kd.R_drew)); exact Kd.R_mono (Kd.R_far (p := ⟨gb125, 3, none⟩) (Kd.R_far (p := ⟨gb125, 2, none⟩) (Kd.R_far (p := ⟨gb125, 1, none⟩) (Kd.R_far (p := ⟨gb125, 0, none⟩) (Kd.R_types HO_5.out BK125.out (by decide)) (fun _ hk => hk.2) (.int .u16 ((rd_T43 l1_15 x12_1).f0))) (fun _ hk => hk.2) (.int .u16 ((rd_T43 l1_15 x12_1).f1))) (fun _ hk => hk.2) (.int .u16 ((rd_T43 l1_15 x12_1).f2))) (fun _ hk => hk.2) (.slice A124_3 ((rd_T43 l1_15 x12_1).f3).length c124_3)) (fun _ hk => trivial)⟩, ⟨by (with_reducible repeat (first | refine blk_drewN ?_ _ | refine blk_drew ?_ | refine blk_alloc ?_ _)); refine blk_far ?_ NB119_125.out _; (with_reducible repeat (first | refine blk_drewN ?_ _ | refine blk_drew ?_ | refine blk_alloc ?_ _)); refine blk_far ?_ NB119_125.out _; (with_reducible repeat (first | refine blk_drewN ?_ _ | refine blk_drew ?_ | refine blk_alloc ?_ _)); refine blk_far ?_ NB119_125.out _; (with_reducible repeat (first | refine blk_drewN ?_ _ | refine blk_drew ?_ | refine blk_alloc ?_ _)); refine blk_far ?_ NB119_125.out _; (with_reducible repeat (first | refine blk_drewN ?_ _ | refine blk_drew ?_ | refine blk_alloc ?_ _)); exact BK119.out⟩, ⟨by (with_reducible repeat (first | refine blk_drewN ?_ _ | refine blk_drew ?_ | refine blk_alloc ?_ _)); refine blk_put (cs := #[.int .u16 ((rd_T43 l1_15 x12_1).f0), .int .u16 ((rd_T43 l1_15 x12_1).f1), .int .u16 ((rd_T43 l1_15 x12_1).f2), .slice none 0 0]) ?_ 3 _ rfl; (with_reducible repeat (first | refine blk_drewN ?_ _ | refine blk_drew ?_ | refine blk_alloc ?_ _)); refine blk_put (cs := #[.int .u16 ((rd_T43 l1_15 x12_1).f0), .int .u16 ((rd_T43 l1_15 x12_1).f1), .int .u16 0, .slice none 0 0]) ?_ 2 _ rfl; (with_reducible repeat (first | refine blk_drewN ?_ _ | refine blk_drew ?_ | refine blk_alloc ?_ _)); refine blk_put (cs := #[.int .u16 ((rd_T43 l1_15 x12_1).f0), .int .u16 0, .int .u16 0, .slice none 0 0]) ?_ 1 _ rfl; (with_reducible repeat (first | refine blk_drewN ?_ _ | refine blk_drew ?_ | refine blk_alloc ?_ _)); refine blk_put (cs := #[.int .u16 0, .int .u16 0, .int .u16 0, .slice none 0 0]) ?_ 0 _ rfl; (with_reducible repeat (first | refine blk_drewN ?_ _ | refine blk_drew ?_ | refine blk_alloc ?_ _)); exact BK125.out⟩, ⟨by repeat (first | (with_reducible first | exact HB.out | apply below_alloc | apply pw_below_drewN | apply below_drew1 | refine below_set ?_ GE119.out | refine below_set ?_ GE125.out) | exact HB.out)⟩⟩
              · rw [if_neg c14] at H
                have c14b0 : (a1_0 == 20) = false := beq_eq_false_iff_ne.mpr c14
                have c14b1 : (a1_0 != 20) = true := bne_iff_ne.mpr c14
                (first | rw [c14b0] | (simp only [i64_w, i32_w]; rw [c14b0]) | skip)
                have H' := Aside0.mk H
                clear H
                have hnb17 := NB119_125.out
                have hnc17 := NB125_119.out
                have hcz18_0 : w11.cell? ⟨gb119, 0, none⟩ = some (.int .u8 a1_0) := (blk_cell BK119.out 0).trans rfl
                have hcz18_1 : w11.cell? ⟨gb119, 1, none⟩ = some (.int .u8 a1_1) := (blk_cell BK119.out 1).trans rfl
                have hcz18_2 : w11.cell? ⟨gb119, 2, none⟩ = some (.int .u16 a1_2) := (blk_cell BK119.out 2).trans rfl
                have hcz18_3 : w11.cell? ⟨gb119, 3, none⟩ = some (.int .u16 a1_3) := (blk_cell BK119.out 3).trans rfl
                have hcz18_4 : w11.cell? ⟨gb119, 4, none⟩ = some (.int .u16 a1_4) := (blk_cell BK119.out 4).trans rfl
                have hcz18_5 : w11.cell? ⟨gb119, 5, none⟩ = some (.int .u16 a1_5) := (blk_cell BK119.out 5).trans rfl
                have hcz18_6 : w11.cell? ⟨gb119, 6, none⟩ = some (.int .u16 a1_6) := (blk_cell BK119.out 6).trans rfl
                have hcz18_7 : w11.cell? ⟨gb119, 7, none⟩ = some (.int .u16 a1_7) := (blk_cell BK119.out 7).trans rfl
                have hcz18_8 : w11.cell? ⟨gb119, 8, none⟩ = some (.int .u16 a1_8) := (blk_cell BK119.out 8).trans rfl
                have hcz18_9 : w11.cell? ⟨gb119, 9, none⟩ = some (.int .u16 a1_9) := (blk_cell BK119.out 9).trans rfl
                have hcz18_10 : w11.cell? ⟨gb119, 10, none⟩ = some (.int .u16 a1_10) := (blk_cell BK119.out 10).trans rfl
                have hcz18_11 : w11.cell? ⟨gb119, 11, none⟩ = some (.int .u16 a1_11) := (blk_cell BK119.out 11).trans rfl
                have hcz18_12 : w11.cell? ⟨gb119, 12, none⟩ = some (.slice A1_12 l1_12.length c1_12) := (blk_cell BK119.out 12).trans rfl
                have hcz18_13 : w11.cell? ⟨gb119, 13, none⟩ = some (.slice A1_13 l1_13.length c1_13) := (blk_cell BK119.out 13).trans rfl
                have hcz18_14 : w11.cell? ⟨gb119, 14, none⟩ = some (.slice A1_14 l1_14.length c1_14) := (blk_cell BK119.out 14).trans rfl
                have hcz18_15 : w11.cell? ⟨gb119, 15, none⟩ = some (.slice (some ad124) l1_15.length c1_15) := (blk_cell BK119.out 15).trans rfl
                have hcz18_16 : w11.cell? ⟨gb119, 16, none⟩ = some (.int .u8 a1_16) := (blk_cell BK119.out 16).trans rfl
                have hcz18_17 : w11.cell? ⟨gb119, 17, none⟩ = some (.int .u8 a1_17) := (blk_cell BK119.out 17).trans rfl
                have hcz18_18 : w11.cell? ⟨gb119, 18, none⟩ = some (.int .u8 a1_18) := (blk_cell BK119.out 18).trans rfl
                have hcz18_19 : w11.cell? ⟨gb119, 19, none⟩ = some (.int .u8 a1_19) := (blk_cell BK119.out 19).trans rfl
                have hcz18_20 : w11.cell? ⟨gb119, 20, none⟩ = some (.int .u8 a1_20) := (blk_cell BK119.out 20).trans rfl
                have hcz18_21 : w11.cell? ⟨gb119, 21, none⟩ = some (.slice A1_21 l1_21.length c1_21) := (blk_cell BK119.out 21).trans rfl
                have hfz18_0 := blk_frozen BK119.out 0
                have hfz18_1 := blk_frozen BK119.out 1
                have hfz18_2 := blk_frozen BK119.out 2
                have hfz18_3 := blk_frozen BK119.out 3
                have hfz18_4 := blk_frozen BK119.out 4
                have hfz18_5 := blk_frozen BK119.out 5
                have hfz18_6 := blk_frozen BK119.out 6
                have hfz18_7 := blk_frozen BK119.out 7
                have hfz18_8 := blk_frozen BK119.out 8
                have hfz18_9 := blk_frozen BK119.out 9
                have hfz18_10 := blk_frozen BK119.out 10
                have hfz18_11 := blk_frozen BK119.out 11
                have hfz18_12 := blk_frozen BK119.out 12
                have hfz18_13 := blk_frozen BK119.out 13
                have hfz18_14 := blk_frozen BK119.out 14
                have hfz18_15 := blk_frozen BK119.out 15
                have hfz18_16 := blk_frozen BK119.out 16
                have hfz18_17 := blk_frozen BK119.out 17
                have hfz18_18 := blk_frozen BK119.out 18
                have hfz18_19 := blk_frozen BK119.out 19
                have hfz18_20 := blk_frozen BK119.out 20
                have hfz18_21 := blk_frozen BK119.out 21
                go_wp2
                go_meet
                case rel => exact ⟨_, (false), (by first | rfl | (simp; done) | (simp [*]; done)), H', ⟨by have := HK1.out; first | omega | exact Nat.le_refl _⟩, ⟨by (with_reducible repeat (first | apply Kd.R_alloc | apply Kd.R_drewN | apply Kd.R_drew)); exact Kd.R_mono (Kd.R_far (p := ⟨gb125, 3, none⟩) (Kd.R_far (p := ⟨gb125, 2, none⟩) (Kd.R_far (p := ⟨gb125, 1, none⟩) (Kd.R_far (p := ⟨gb125, 0, none⟩) (Kd.R_types HO_5.out BK125.out (by decide)) (fun _ hk => hk.2) (.int .u16 ((rd_T43 l1_15 x12_1).f0))) (fun _ hk => hk.2) (.int .u16 ((rd_T43 l1_15 x12_1).f1))) (fun _ hk => hk.2) (.int .u16 ((rd_T43 l1_15 x12_1).f2))) (fun _ hk => hk.2) (.slice A124_3 ((rd_T43 l1_15 x12_1).f3).length c124_3)) (fun _ hk => trivial)⟩, ⟨by (with_reducible repeat (first | refine blk_drewN ?_ _ | refine blk_drew ?_ | refine blk_alloc ?_ _)); refine blk_far ?_ NB119_125.out _; (with_reducible repeat (first | refine blk_drewN ?_ _ | refine blk_drew ?_ | refine blk_alloc ?_ _)); refine blk_far ?_ NB119_125.out _; (with_reducible repeat (first | refine blk_drewN ?_ _ | refine blk_drew ?_ | refine blk_alloc ?_ _)); refine blk_far ?_ NB119_125.out _; (with_reducible repeat (first | refine blk_drewN ?_ _ | refine blk_drew ?_ | refine blk_alloc ?_ _)); refine blk_far ?_ NB119_125.out _; (with_reducible repeat (first | refine blk_drewN ?_ _ | refine blk_drew ?_ | refine blk_alloc ?_ _)); exact BK119.out⟩, ⟨by (with_reducible repeat (first | refine blk_drewN ?_ _ | refine blk_drew ?_ | refine blk_alloc ?_ _)); refine blk_put (cs := #[.int .u16 ((rd_T43 l1_15 x12_1).f0), .int .u16 ((rd_T43 l1_15 x12_1).f1), .int .u16 ((rd_T43 l1_15 x12_1).f2), .slice none 0 0]) ?_ 3 _ rfl; (with_reducible repeat (first | refine blk_drewN ?_ _ | refine blk_drew ?_ | refine blk_alloc ?_ _)); refine blk_put (cs := #[.int .u16 ((rd_T43 l1_15 x12_1).f0), .int .u16 ((rd_T43 l1_15 x12_1).f1), .int .u16 0, .slice none 0 0]) ?_ 2 _ rfl; (with_reducible repeat (first | refine blk_drewN ?_ _ | refine blk_drew ?_ | refine blk_alloc ?_ _)); refine blk_put (cs := #[.int .u16 ((rd_T43 l1_15 x12_1).f0), .int .u16 0, .int .u16 0, .slice none 0 0]) ?_ 1 _ rfl; (with_reducible repeat (first | refine blk_drewN ?_ _ | refine blk_drew ?_ | refine blk_alloc ?_ _)); refine blk_put (cs := #[.int .u16 0, .int .u16 0, .int .u16 0, .slice none 0 0]) ?_ 0 _ rfl; (with_reducible repeat (first | refine blk_drewN ?_ _ | refine blk_drew ?_ | refine blk_alloc ?_ _)); exact BK125.out⟩, ⟨by repeat (first | (with_reducible first | exact HB.out | apply below_alloc | apply pw_below_drewN | apply below_drew1 | refine below_set ?_ GE119.out | refine below_set ?_ GE125.out) | exact HB.out)⟩⟩
            case rest =>
              clear HC10
              try clear c1
              try clear p1
              try clear q1
              try clear hx1
              try clear p2
              try clear c3
              try clear c7
              try clear c7b0
              try clear c8
              try clear c8b0
              try clear c9
              try clear c9b0
              try clear c12
              try clear p12
              try clear q12
              try clear hx12
              try clear c14
              try clear c14b0
              try clear c14b1
              try clear c15
              try clear c17
              try clear hcz13_0
              try clear hcz13_1
              try clear hcz13_2
              try clear hcz13_3
              try clear hcz16_0
              try clear hcz16_1
              try clear hcz16_10
              try clear hcz16_11
              try clear hcz16_12
              try clear hcz16_13
              try clear hcz16_14
              try clear hcz16_15
              try clear hcz16_16
              try clear hcz16_17
              try clear hcz16_18
              try clear hcz16_19
              try clear hcz16_2
              try clear hcz16_20
              try clear hcz16_21
              try clear hcz16_3
              try clear hcz16_4
              try clear hcz16_5
              try clear hcz16_6
              try clear hcz16_7
              try clear hcz16_8
              try clear hcz16_9
              try clear hcz18_0
              try clear hcz18_1
              try clear hcz18_10
              try clear hcz18_11
              try clear hcz18_12
              try clear hcz18_13
              try clear hcz18_14
              try clear hcz18_15
              try clear hcz18_16
              try clear hcz18_17
              try clear hcz18_18
              try clear hcz18_19
              try clear hcz18_2
              try clear hcz18_20
              try clear hcz18_21
              try clear hcz18_3
              try clear hcz18_4
              try clear hcz18_5
              try clear hcz18_6
              try clear hcz18_7
              try clear hcz18_8
              try clear hcz18_9
              try clear hcz6_0
              try clear hcz6_1
              try clear hcz6_10
              try clear hcz6_11
              try clear hcz6_12
              try clear hcz6_13
              try clear hcz6_14
              try clear hcz6_15
              try clear hcz6_16
              try clear hcz6_17
              try clear hcz6_18
              try clear hcz6_19
              try clear hcz6_2
              try clear hcz6_20
              try clear hcz6_21
              try clear hcz6_3
              try clear hcz6_4
              try clear hcz6_5
              try clear hcz6_6
              try clear hcz6_7
              try clear hcz6_8
              try clear hcz6_9
              try clear hfz13_0
              try clear hfz13_1
              try clear hfz13_2
              try clear hfz13_3
              try clear hfz16_0
              try clear hfz16_1
              try clear hfz16_10
              try clear hfz16_11
              try clear hfz16_12
              try clear hfz16_13
              try clear hfz16_14
              try clear hfz16_15
              try clear hfz16_16
              try clear hfz16_17
              try clear hfz16_18
              try clear hfz16_19
              try clear hfz16_2
              try clear hfz16_20
              try clear hfz16_21
              try clear hfz16_3
              try clear hfz16_4
              try clear hfz16_5
              try clear hfz16_6
              try clear hfz16_7
              try clear hfz16_8
              try clear hfz16_9
              try clear hfz18_0
              try clear hfz18_1
              try clear hfz18_10
              try clear hfz18_11
              try clear hfz18_12
              try clear hfz18_13
              try clear hfz18_14
              try clear hfz18_15
              try clear hfz18_16
              try clear hfz18_17
              try clear hfz18_18
              try clear hfz18_19
              try clear hfz18_2
              try clear hfz18_20
              try clear hfz18_21
              try clear hfz18_3
              try clear hfz18_4
              try clear hfz18_5
              try clear hfz18_6
              try clear hfz18_7
              try clear hfz18_8
              try clear hfz18_9
              try clear hfz6_0
              try clear hfz6_1
              try clear hfz6_10
              try clear hfz6_11
              try clear hfz6_12
              try clear hfz6_13
              try clear hfz6_14
              try clear hfz6_15
              try clear hfz6_16
              try clear hfz6_17
              try clear hfz6_18
              try clear hfz6_19
              try clear hfz6_2
              try clear hfz6_20
              try clear hfz6_21
              try clear hfz6_3
              try clear hfz6_4
              try clear hfz6_5
              try clear hfz6_6
              try clear hfz6_7
              try clear hfz6_8
              try clear hfz6_9
              try clear hx124_0
              try clear hx124_1
              try clear hx124_2
              try clear hx124_3
              try clear p124
              try clear p2
              try clear q124
              obtain ⟨kq, x28_9, rfl, HA, HJ9, HO_5, BK119, BK125, HB⟩ := hcut
              cases kq with
              | zero => exact absurd HA.out (by simp [files_lay.j1])
              | succ kj9 =>
                have H := HA.out
                clear HA
                simp only [files_lay.j1] at H
                by_cases c19 : x28_9 = true
                · subst c19
                  have H1 : ((some (([(wrap64 (1 + (wrap64 (2 * (((rd_T43 l1_15 x12_1).f3).length : Int))))) % 256, 6] : List Int) : List Int)).bind fun y126 => (if x5_1.length + y126.length < 140737488355328 then ((some (x5_1 ++ y126 : List Int)).bind fun y129 => ((word_Put.f kj9 ((rd_T43 l1_15 x12_1).f3)).bind fun t132 => (if y129.length + t132.length < 140737488355328 then (files_lay.l0 kj9 a0 (y129 ++ t132) l1_15 (l1_15.length : Int) (wrap64 (x12_1 + 1)) a1_0 a1_1 a1_2 a1_3 a1_4 a1_5 a1_6 a1_7 a1_8 a1_9 a1_10 a1_11 l1_12 l1_13 l1_14 l1_15 a1_16 a1_17 a1_18 a1_19 a1_20 l1_21) else (none)))) else (none))) = some r := by rw [if_pos rfl] at H; exact H
                  clear H
                  have H := H1
                  clear H1
                  obtain ⟨y126, hy126⟩ : ∃ y_ : List Int, y_ = (([(wrap64 (1 + (wrap64 (2 * (((rd_T43 l1_15 x12_1).f3).length : Int))))) % 256, 6] : List Int)) := ⟨_, rfl⟩
                  replace H : (if x5_1.length + y126.length < 140737488355328 then ((some (x5_1 ++ y126 : List Int)).bind fun y129 => ((word_Put.f kj9 ((rd_T43 l1_15 x12_1).f3)).bind fun t132 => (if y129.length + t132.length < 140737488355328 then (files_lay.l0 kj9 a0 (y129 ++ t132) l1_15 (l1_15.length : Int) (wrap64 (x12_1 + 1)) a1_0 a1_1 a1_2 a1_3 a1_4 a1_5 a1_6 a1_7 a1_8 a1_9 a1_10 a1_11 l1_12 l1_13 l1_14 l1_15 a1_16 a1_17 a1_18 a1_19 a1_20 l1_21) else (none)))) else (none)) = some r := by first | (rw [hy126]; with_reducible exact H) | (have H2_ := (Option.bind_some _ _).symm.trans H; rw [hy126]; with_reducible exact H2_) | (have H2_ := (Option.bind_some _ _).symm.trans H; with_reducible exact H2_) | with_reducible exact H | (rw [hy126]; exact H) | exact H
                  have Ny126 := Aside0.mk hy126
                  clear hy126
                  by_cases c20 : x5_1.length + y126.length < 140737488355328
                  · rw [if_pos c20] at H
                    have LMc20 := Aside0.mk c20
                    clear c20
                    obtain ⟨y129, hy129⟩ : ∃ y_ : List Int, y_ = (x5_1 ++ y126) := ⟨_, rfl⟩
                    replace H : ((word_Put.f kj9 ((rd_T43 l1_15 x12_1).f3)).bind fun t132 => (if y129.length + t132.length < 140737488355328 then (files_lay.l0 kj9 a0 (y129 ++ t132) l1_15 (l1_15.length : Int) (wrap64 (x12_1 + 1)) a1_0 a1_1 a1_2 a1_3 a1_4 a1_5 a1_6 a1_7 a1_8 a1_9 a1_10 a1_11 l1_12 l1_13 l1_14 l1_15 a1_16 a1_17 a1_18 a1_19 a1_20 l1_21) else (none))) = some r := by first | (rw [hy129]; with_reducible exact H) | (have H2_ := (Option.bind_some _ _).symm.trans H; rw [hy129]; with_reducible exact H2_) | (have H2_ := (Option.bind_some _ _).symm.trans H; with_reducible exact H2_) | with_reducible exact H | (rw [hy129]; exact H) | exact H
                    have Ny129 := Aside0.mk hy129
                    clear hy129
                    replace H := Option.bind_eq_some_iff.mp H
                    obtain ⟨t132, A210, H⟩ := H
                    replace H : (if y129.length + t132.length < 140737488355328 then (files_lay.l0 kj9 a0 (y129 ++ t132) l1_15 (l1_15.length : Int) (wrap64 (x12_1 + 1)) a1_0 a1_1 a1_2 a1_3 a1_4 a1_5 a1_6 a1_7 a1_8 a1_9 a1_10 a1_11 l1_12 l1_13 l1_14 l1_15 a1_16 a1_17 a1_18 a1_19 a1_20 l1_21) else (none)) = some r := H
                    have A21 := Aside0.mk A210
                    clear A210
                    by_cases c22 : y129.length + t132.length < 140737488355328
                    · rw [if_pos c22] at H
                      have LMc22 := Aside0.mk c22
                      clear c22
                      obtain ⟨y135, hy135⟩ : ∃ y_ : List Int, y_ = (y129 ++ t132) := ⟨_, rfl⟩
                      replace H : (files_lay.l0 kj9 a0 y135 l1_15 (l1_15.length : Int) (wrap64 (x12_1 + 1)) a1_0 a1_1 a1_2 a1_3 a1_4 a1_5 a1_6 a1_7 a1_8 a1_9 a1_10 a1_11 l1_12 l1_13 l1_14 l1_15 a1_16 a1_17 a1_18 a1_19 a1_20 l1_21) = some r := by first | (rw [hy135]; with_reducible exact H) | (have H2_ := (Option.bind_some _ _).symm.trans H; rw [hy135]; with_reducible exact H2_) | (have H2_ := (Option.bind_some _ _).symm.trans H; with_reducible exact H2_) | with_reducible exact H | (rw [hy135]; exact H) | exact H
                      have Ny135 := Aside0.mk hy135
                      clear hy135
                      have H' := Aside0.mk H
                      clear H
                      have hnb23 := NB125_119.out
                      have hnc23 := NB119_125.out
                      have hcz24_0 : wc.cell? ⟨gb125, 0, none⟩ = some (.int .u16 ((rd_T43 l1_15 x12_1).f0)) := (blk_cell BK125.out 0).trans rfl
                      have hcz24_1 : wc.cell? ⟨gb125, 1, none⟩ = some (.int .u16 ((rd_T43 l1_15 x12_1).f1)) := (blk_cell BK125.out 1).trans rfl
                      have hcz24_2 : wc.cell? ⟨gb125, 2, none⟩ = some (.int .u16 ((rd_T43 l1_15 x12_1).f2)) := (blk_cell BK125.out 2).trans rfl
                      have hcz24_3 : wc.cell? ⟨gb125, 3, none⟩ = some (.slice A124_3 ((rd_T43 l1_15 x12_1).f3).length c124_3) := (blk_cell BK125.out 3).trans rfl
                      have hfz24_0 := blk_frozen BK125.out 0
                      have hfz24_1 := blk_frozen BK125.out 1
                      have hfz24_2 := blk_frozen BK125.out 2
                      have hfz24_3 := blk_frozen BK125.out 3
                      go_wp2_with (first | ((with_reducible refine gate_dst (N := 43) rfl ?_); refine Kd.R_lit (Kd.int .u8) _ 5 ?hg (N := 43) ?hd (xs := ([(wrap64 (1 + (wrap64 (2 * (((rd_T43 l1_15 x12_1).f3).length : Int))))) % 256, 6] : List Int)) (inner := [.int .u8 ((wrap64 (1 + (wrap64 (2 * (((rd_T43 l1_15 x12_1).f3).length : Int))))) % 256), .int .u8 6]) (ok := fun _ => True) (okp := fun _ => True) ?hr ?hp (fun _ hk => hk) trivial (Below.refl _ _) (Nat.le_refl _) (by simp) ?_; (case hd => rfl); (case hg => rfl); (case hr => first | (go_simp; done) | (go_simp; rfl)); (case hp => exact (Reps.one (show Kd.M (Kd.int .u8) _ _ _ ((wrap64 (1 + (wrap64 (2 * (((rd_T43 l1_15 x12_1).f3).length : Int))))) % 256) [.int .u8 ((wrap64 (1 + (wrap64 (2 * (((rd_T43 l1_15 x12_1).f3).length : Int))))) % 256)] from rfl) (Reps.one (show Kd.M (Kd.int .u8) _ _ _ 6 [.int .u8 6] from rfl) (Reps.none _ _)))); intro v127 w25 ho26 hb hg_ hnew_; clear hg_ hnew_; (first | rw [← Ny126.out] at ho26 | (simp only [Int.reduceToNat] at ho26; rw [← Ny126.out] at ho26)); have n0_ := Aside0.mk (Kd.R_elder' (by (with_reducible repeat (first | apply Kd.R_alloc | apply Kd.R_drewN | apply Kd.R_drew)); exact HO_5.out) (Kd.R_base ho26) hb); have n1_ := Aside0.mk (Kd.R_lower (Kd.R_new' ho26 (Kd.R_lt (by (with_reducible repeat (first | apply Kd.R_alloc | apply Kd.R_drewN | apply Kd.R_drew)); exact HO_5.out))) (below_size (by repeat (first | (with_reducible first | exact HB.out | apply below_alloc | apply pw_below_drewN | apply below_drew1 | refine below_set ?_ GE119.out | refine below_set ?_ GE125.out) | exact HB.out)))); have n2_ := Aside0.mk (blk_below (g := gb119) (o := .cells #[.int .u8 a1_0, .int .u8 a1_1, .int .u16 a1_2, .int .u16 a1_3, .int .u16 a1_4, .int .u16 a1_5, .int .u16 a1_6, .int .u16 a1_7, .int .u16 a1_8, .int .u16 a1_9, .int .u16 a1_10, .int .u16 a1_11, .slice A1_12 l1_12.length c1_12, .slice A1_13 l1_13.length c1_13, .slice A1_14 l1_14.length c1_14, .slice (some ad124) l1_15.length c1_15, .int .u8 a1_16, .int .u8 a1_17, .int .u8 a1_18, .int .u8 a1_19, .int .u8 a1_20, .slice A1_21 l1_21.length c1_21] 30 (0, 0)) (by (with_reducible repeat (first | refine blk_drewN ?_ _ | refine blk_drew ?_ | refine blk_alloc ?_ _)); exact BK119.out) hb); have n3_ := Aside0.mk (blk_below (g := gb125) (o := .cells #[.int .u16 ((rd_T43 l1_15 x12_1).f0), .int .u16 ((rd_T43 l1_15 x12_1).f1), .int .u16 ((rd_T43 l1_15 x12_1).f2), .slice A124_3 ((rd_T43 l1_15 x12_1).f3).length c124_3] 43 (0, 0)) (by (with_reducible repeat (first | refine blk_drewN ?_ _ | refine blk_drew ?_ | refine blk_alloc ?_ _)); exact BK125.out) hb); have n4_ := Aside0.mk (below_step (by repeat (first | (with_reducible first | exact HB.out | apply below_alloc | apply pw_below_drewN | apply below_drew1 | refine below_set ?_ GE119.out | refine below_set ?_ GE125.out) | exact HB.out)) hb); clear HO_5; clear BK119; clear BK125; clear HB; have HO_5 := n0_; have HO128 := n1_; have BK119 := n2_; have BK125 := n3_; have HB := n4_; clear n0_ n1_ n2_ n3_ n4_; clear hb ho26; obtain ⟨Ao28, co28, eo28⟩ := Kd.R_slice HO128.out; subst eo28) | ((with_reducible refine gate_builtin (b := .append) (xs := #[.tmp 36, .tmp 43]) rfl ?_); at_builtin; refine Kd.R_append_rows (Kd.int .u8) (w0 := w) w.heap.size rfl (.tmp 36) (.tmp 43) 22 5 (.int .u8 0) 1 rfl Try.underlying22 info5 rfl (by decide) (by omega) u5 x5_1 y126 _ _ _ (fun k_ => some k_ ≠ (.slice Ao28 y126.length co28 : Value).ownBlock) (fun _ => False) rfl rfl ?aO ?aR (fun _ _ h => h) (fun _ h => h.elim) ?aF ?aB ?aS ?aL ?_; (case aR => repeat (first | exact (Kd.R_reads' HO128.out).2.2 | (with_reducible refine Kd.C_alloc ?_ _) | (with_reducible refine Kd.C_drewN ?_ _) | (with_reducible refine Kd.C_drew ?_))); (case aB => exact (by repeat (first | (with_reducible first | exact HB.out | apply below_alloc | apply pw_below_drewN | apply below_drew1 | refine below_set ?_ GE119.out | refine below_set ?_ GE125.out) | exact HB.out))); (case aF => exact (fun k_ hk => Kd.fresh' (Kd.R_lt (by (with_reducible repeat (first | apply Kd.R_alloc | apply Kd.R_drewN | apply Kd.R_drew)); exact HO128.out)) k_ hk)); (case aO => exact (by (with_reducible repeat (first | apply Kd.R_alloc | apply Kd.R_drewN | apply Kd.R_drew)); exact Kd.R_mono HO_5.out (fun _ hk => hk.2))); (case aS => exact (below_size (by repeat (first | (with_reducible first | exact HB.out | apply below_alloc | apply pw_below_drewN | apply below_drew1 | refine below_set ?_ GE119.out | refine below_set ?_ GE125.out) | exact HB.out)))); (case aL => have := LMc20.out; omega); intro v130 w27 ho hb hg hat; rw [← Ny129.out] at ho; have n0_ := Aside0.mk (blk_grown (g := gb119) (o := .cells #[.int .u8 a1_0, .int .u8 a1_1, .int .u16 a1_2, .int .u16 a1_3, .int .u16 a1_4, .int .u16 a1_5, .int .u16 a1_6, .int .u16 a1_7, .int .u16 a1_8, .int .u16 a1_9, .int .u16 a1_10, .int .u16 a1_11, .slice A1_12 l1_12.length c1_12, .slice A1_13 l1_13.length c1_13, .slice A1_14 l1_14.length c1_14, .slice (some ad124) l1_15.length c1_15, .int .u8 a1_16, .int .u8 a1_17, .int .u8 a1_18, .int .u8 a1_19, .int .u8 a1_20, .slice A1_21 l1_21.length c1_21] 30 (0, 0)) (by (with_reducible repeat (first | refine blk_drewN ?_ _ | refine blk_drew ?_ | refine blk_alloc ?_ _)); exact BK119.out) hg (Kd.R_ne HO_5.out BK119.out (by decide))); have n1_ := Aside0.mk (blk_grown (g := gb125) (o := .cells #[.int .u16 ((rd_T43 l1_15 x12_1).f0), .int .u16 ((rd_T43 l1_15 x12_1).f1), .int .u16 ((rd_T43 l1_15 x12_1).f2), .slice A124_3 ((rd_T43 l1_15 x12_1).f3).length c124_3] 43 (0, 0)) (by (with_reducible repeat (first | refine blk_drewN ?_ _ | refine blk_drew ?_ | refine blk_alloc ?_ _)); exact BK125.out) hg (Kd.R_ne HO_5.out BK125.out (by decide))); have n2_ := Aside0.mk (Kd.R_after (ok := (fun _ => True)) (by (with_reducible repeat (first | apply Kd.R_alloc | apply Kd.R_drewN | apply Kd.R_drew)); exact HO128.out) hg hat); have n3_ := Aside0.mk (hb); have n4_ := Aside0.mk (ho); clear BK119; clear BK125; clear HO128; clear HB; clear HO_5; have BK119 := n0_; have BK125 := n1_; have HO128 := n2_; have HB := n3_; have HO131 := n4_; clear n0_ n1_ n2_ n3_ n4_; clear ho hb hg hat; have hcz29_0 : w27.cell? ⟨gb125, 0, none⟩ = some (.int .u16 ((rd_T43 l1_15 x12_1).f0)) := (blk_cell BK125.out 0).trans rfl; have hcz29_1 : w27.cell? ⟨gb125, 1, none⟩ = some (.int .u16 ((rd_T43 l1_15 x12_1).f1)) := (blk_cell BK125.out 1).trans rfl; have hcz29_2 : w27.cell? ⟨gb125, 2, none⟩ = some (.int .u16 ((rd_T43 l1_15 x12_1).f2)) := (blk_cell BK125.out 2).trans rfl; have hcz29_3 : w27.cell? ⟨gb125, 3, none⟩ = some (.slice A124_3 ((rd_T43 l1_15 x12_1).f3).length c124_3) := (blk_cell BK125.out 3).trans rfl; have hfz29_0 := blk_frozen BK125.out 0; have hfz29_1 := blk_frozen BK125.out 1; have hfz29_2 := blk_frozen BK125.out 2; have hfz29_3 := blk_frozen BK125.out 3) | ((with_reducible refine gate_callee (f := 49) rfl ?_); refine goesL_ (some 48) rfl rfl Try.func49 (by kernel_rfl) rfl #[.slice A124_3 ((rd_T43 l1_15 x12_1).f3).length c124_3] rfl (by (try simp only [List.map_toArray, List.map_cons, List.map_nil]); first | done | rfl | (simp only [List.length_drop, List.length_take]; rfl)) ?_; (with_reducible refine (word_Put.calls kj9 _ _ ((rd_T43 l1_15 x12_1).f3) t132 _ ?side1 ?side2 A21.out).mono ?_); (case side1 => repeat (first | exact (Kd.C_below HR124_3.out HB.out) | (with_reducible refine Kd.C_alloc ?_ _) | (with_reducible refine Kd.C_drewN ?_ _) | (with_reducible refine Kd.C_drew ?_))); (case side2 => exact HC124_3.out); rintro e w30 ⟨v133, rfl, ho0, hb⟩; refine ⟨_, rfl, ?_⟩; have n0_ := Aside0.mk (Kd.R_elder' (by (with_reducible repeat (first | apply Kd.R_alloc | apply Kd.R_drewN | apply Kd.R_drew)); exact HO128.out) (Kd.R_base ho0) hb); have n1_ := Aside0.mk (Kd.R_elder' (by (with_reducible repeat (first | apply Kd.R_alloc | apply Kd.R_drewN | apply Kd.R_drew)); exact HO131.out) (Kd.R_base ho0) hb); have n2_ := Aside0.mk (Kd.R_lower (Kd.R_new' (Kd.R_new' ho0 (Kd.R_lt (by (with_reducible repeat (first | apply Kd.R_alloc | apply Kd.R_drewN | apply Kd.R_drew)); exact HO128.out))) (Kd.R_lt (by (with_reducible repeat (first | apply Kd.R_alloc | apply Kd.R_drewN | apply Kd.R_drew)); exact HO131.out))) (below_size (by repeat (first | (with_reducible first | exact HB.out | apply below_alloc | apply pw_below_drewN | apply below_drew1 | refine below_set ?_ GE119.out | refine below_set ?_ GE125.out) | exact HB.out)))); have n3_ := Aside0.mk (blk_below (g := gb119) (o := .cells #[.int .u8 a1_0, .int .u8 a1_1, .int .u16 a1_2, .int .u16 a1_3, .int .u16 a1_4, .int .u16 a1_5, .int .u16 a1_6, .int .u16 a1_7, .int .u16 a1_8, .int .u16 a1_9, .int .u16 a1_10, .int .u16 a1_11, .slice A1_12 l1_12.length c1_12, .slice A1_13 l1_13.length c1_13, .slice A1_14 l1_14.length c1_14, .slice (some ad124) l1_15.length c1_15, .int .u8 a1_16, .int .u8 a1_17, .int .u8 a1_18, .int .u8 a1_19, .int .u8 a1_20, .slice A1_21 l1_21.length c1_21] 30 (0, 0)) (by (with_reducible repeat (first | refine blk_drewN ?_ _ | refine blk_drew ?_ | refine blk_alloc ?_ _)); exact BK119.out) hb); have n4_ := Aside0.mk (blk_below (g := gb125) (o := .cells #[.int .u16 ((rd_T43 l1_15 x12_1).f0), .int .u16 ((rd_T43 l1_15 x12_1).f1), .int .u16 ((rd_T43 l1_15 x12_1).f2), .slice A124_3 ((rd_T43 l1_15 x12_1).f3).length c124_3] 43 (0, 0)) (by (with_reducible repeat (first | refine blk_drewN ?_ _ | refine blk_drew ?_ | refine blk_alloc ?_ _)); exact BK125.out) hb); have n5_ := Aside0.mk (below_step (by repeat (first | (with_reducible first | exact HB.out | apply below_alloc | apply pw_below_drewN | apply below_drew1 | refine below_set ?_ GE119.out | refine below_set ?_ GE125.out) | exact HB.out)) hb); clear HO128; clear HO131; clear BK119; clear BK125; clear HB; have HO128 := n0_; have HO131 := n1_; have HO134 := n2_; have BK119 := n3_; have BK125 := n4_; have HB := n5_; clear n0_ n1_ n2_ n3_ n4_ n5_; (try clear hb); (try clear hb2); (try clear hk); (try clear hi); (try clear ho0); obtain ⟨Ao32, co32, eo32⟩ := Kd.R_slice HO134.out; subst eo32) | ((with_reducible refine gate_builtin (b := .append) (xs := #[.tmp 45, .tmp 48]) rfl ?_); at_builtin; refine Kd.R_append_rows (Kd.int .u8) (w0 := w) w.heap.size rfl (.tmp 45) (.tmp 48) 22 5 (.int .u8 0) 1 rfl Try.underlying22 info5 rfl (by decide) (by omega) v130 y129 t132 _ _ _ (fun k_ => some k_ ≠ (.slice Ao28 y126.length co28 : Value).ownBlock ∧ some k_ ≠ (.slice Ao32 t132.length co32 : Value).ownBlock) (fun _ => False) rfl rfl ?aO ?aR (fun _ _ h => h) (fun _ h => h.elim) ?aF ?aB ?aS ?aL ?_; (case aR => repeat (first | exact (Kd.R_reads' HO134.out).2.2 | (with_reducible refine Kd.C_alloc ?_ _) | (with_reducible refine Kd.C_drewN ?_ _) | (with_reducible refine Kd.C_drew ?_))); (case aB => exact (by repeat (first | (with_reducible first | exact HB.out | apply below_alloc | apply pw_below_drewN | apply below_drew1 | refine below_set ?_ GE119.out | refine below_set ?_ GE125.out) | exact HB.out))); (case aF => exact (fun k_ hk => ⟨Kd.fresh' (Kd.R_lt (by (with_reducible repeat (first | apply Kd.R_alloc | apply Kd.R_drewN | apply Kd.R_drew)); exact HO128.out)) k_ hk, Kd.fresh' (Kd.R_lt (by (with_reducible repeat (first | apply Kd.R_alloc | apply Kd.R_drewN | apply Kd.R_drew)); exact HO134.out)) k_ hk⟩)); (case aO => exact (by (with_reducible repeat (first | apply Kd.R_alloc | apply Kd.R_drewN | apply Kd.R_drew)); exact HO131.out)); (case aS => exact (below_size (by repeat (first | (with_reducible first | exact HB.out | apply below_alloc | apply pw_below_drewN | apply below_drew1 | refine below_set ?_ GE119.out | refine below_set ?_ GE125.out) | exact HB.out)))); (case aL => have := LMc22.out; omega); intro v136 w31 ho hb hg hat; rw [← Ny135.out] at ho; have n0_ := Aside0.mk (blk_grown (g := gb119) (o := .cells #[.int .u8 a1_0, .int .u8 a1_1, .int .u16 a1_2, .int .u16 a1_3, .int .u16 a1_4, .int .u16 a1_5, .int .u16 a1_6, .int .u16 a1_7, .int .u16 a1_8, .int .u16 a1_9, .int .u16 a1_10, .int .u16 a1_11, .slice A1_12 l1_12.length c1_12, .slice A1_13 l1_13.length c1_13, .slice A1_14 l1_14.length c1_14, .slice (some ad124) l1_15.length c1_15, .int .u8 a1_16, .int .u8 a1_17, .int .u8 a1_18, .int .u8 a1_19, .int .u8 a1_20, .slice A1_21 l1_21.length c1_21] 30 (0, 0)) (by (with_reducible repeat (first | refine blk_drewN ?_ _ | refine blk_drew ?_ | refine blk_alloc ?_ _)); exact BK119.out) hg (Kd.R_ne HO131.out BK119.out (by decide))); have n1_ := Aside0.mk (blk_grown (g := gb125) (o := .cells #[.int .u16 ((rd_T43 l1_15 x12_1).f0), .int .u16 ((rd_T43 l1_15 x12_1).f1), .int .u16 ((rd_T43 l1_15 x12_1).f2), .slice A124_3 ((rd_T43 l1_15 x12_1).f3).length c124_3] 43 (0, 0)) (by (with_reducible repeat (first | refine blk_drewN ?_ _ | refine blk_drew ?_ | refine blk_alloc ?_ _)); exact BK125.out) hg (Kd.R_ne HO131.out BK125.out (by decide))); have n2_ := Aside0.mk (Kd.R_after (ok := (fun k_ => some k_ ≠ (.slice Ao32 t132.length co32 : Value).ownBlock)) (by (with_reducible repeat (first | apply Kd.R_alloc | apply Kd.R_drewN | apply Kd.R_drew)); exact Kd.R_mono HO128.out (fun _ hk => ⟨hk.2, hk.1.2⟩)) hg hat); have n3_ := Aside0.mk (Kd.R_after (ok := (fun k_ => some k_ ≠ (.slice Ao28 y126.length co28 : Value).ownBlock)) (by (with_reducible repeat (first | apply Kd.R_alloc | apply Kd.R_drewN | apply Kd.R_drew)); exact Kd.R_mono HO134.out (fun _ hk => ⟨hk.1.2, hk.2⟩)) hg hat); have n4_ := Aside0.mk (hb); have n5_ := Aside0.mk (ho); clear BK119; clear BK125; clear HO128; clear HO134; clear HB; clear HO131; have BK119 := n0_; have BK125 := n1_; have HO128 := n2_; have HO134 := n3_; have HB := n4_; have HO137 := n5_; clear n0_ n1_ n2_ n3_ n4_ n5_; clear ho hb hg hat))
                      go_roundg kj9
                      case measure => have := HK1.out; have := HJ9.out; omega
                      case rel => exact ⟨(y135), (wrap64 (x12_1 + 1)), (by first | rfl | (simp; done) | (simp [*]; done)), H', ⟨by have := HK1.out; have := HJ9.out; omega⟩, ⟨by (with_reducible repeat (first | apply Kd.R_alloc | apply Kd.R_drewN | apply Kd.R_drew)); exact Kd.R_mono HO137.out (fun _ hk => trivial)⟩, ⟨by (with_reducible repeat (first | refine blk_drewN ?_ _ | refine blk_drew ?_ | refine blk_alloc ?_ _)); exact BK119.out⟩, ⟨by repeat (first | (with_reducible first | exact HB.out | apply below_alloc | apply pw_below_drewN | apply below_drew1 | refine below_set ?_ GE119.out | refine below_set ?_ GE125.out) | exact HB.out)⟩⟩
                    · rw [if_neg c22] at H
                      exact absurd H (by simp)
                  · rw [if_neg c20] at H
                    exact absurd H (by simp)
                · replace c19 := Bool.eq_false_iff.mpr c19
                  subst c19
                  have H1 : ((some (([6] : List Int) : List Int)).bind fun y138 => (if x5_1.length + y138.length < 140737488355328 then ((some (x5_1 ++ y138 : List Int)).bind fun y141 => ((word_Put.f kj9 (([((rd_T43 l1_15 x12_1).f0), ((rd_T43 l1_15 x12_1).f1), ((rd_T43 l1_15 x12_1).f2)] : List Int))).bind fun t147 => (if y141.length + t147.length < 140737488355328 then ((some (y141 ++ t147 : List Int)).bind fun y150 => ((word_Put.f kj9 ((rd_T43 l1_15 x12_1).f3)).bind fun t153 => (if y150.length + t153.length < 140737488355328 then (files_lay.l0 kj9 a0 (y150 ++ t153) l1_15 (l1_15.length : Int) (wrap64 (x12_1 + 1)) a1_0 a1_1 a1_2 a1_3 a1_4 a1_5 a1_6 a1_7 a1_8 a1_9 a1_10 a1_11 l1_12 l1_13 l1_14 l1_15 a1_16 a1_17 a1_18 a1_19 a1_20 l1_21) else (none)))) else (none)))) else (none))) = some r := by rw [if_neg (show ¬ (false = true) by decide)] at H; exact H
                  clear H
                  have H := H1
                  clear H1
                  obtain ⟨y138, hy138⟩ : ∃ y_ : List Int, y_ = (([6] : List Int)) := ⟨_, rfl⟩
                  replace H : (if x5_1.length + y138.length < 140737488355328 then ((some (x5_1 ++ y138 : List Int)).bind fun y141 => ((word_Put.f kj9 (([((rd_T43 l1_15 x12_1).f0), ((rd_T43 l1_15 x12_1).f1), ((rd_T43 l1_15 x12_1).f2)] : List Int))).bind fun t147 => (if y141.length + t147.length < 140737488355328 then ((some (y141 ++ t147 : List Int)).bind fun y150 => ((word_Put.f kj9 ((rd_T43 l1_15 x12_1).f3)).bind fun t153 => (if y150.length + t153.length < 140737488355328 then (files_lay.l0 kj9 a0 (y150 ++ t153) l1_15 (l1_15.length : Int) (wrap64 (x12_1 + 1)) a1_0 a1_1 a1_2 a1_3 a1_4 a1_5 a1_6 a1_7 a1_8 a1_9 a1_10 a1_11 l1_12 l1_13 l1_14 l1_15 a1_16 a1_17 a1_18 a1_19 a1_20 l1_21) else (none)))) else (none)))) else (none)) = some r := by first | (rw [hy138]; with_reducible exact H) | (have H2_ := (Option.bind_some _ _).symm.trans H; rw [hy138]; with_reducible exact H2_) | (have H2_ := (Option.bind_some _ _).symm.trans H; with_reducible exact H2_) | with_reducible exact H | (rw [hy138]; exact H) | exact H
                  have Ny138 := Aside0.mk hy138
                  clear hy138
                  by_cases c33 : x5_1.length + y138.length < 140737488355328
                  · rw [if_pos c33] at H
                    have LMc33 := Aside0.mk c33
                    clear c33
                    obtain ⟨y141, hy141⟩ : ∃ y_ : List Int, y_ = (x5_1 ++ y138) := ⟨_, rfl⟩
                    replace H : ((word_Put.f kj9 (([((rd_T43 l1_15 x12_1).f0), ((rd_T43 l1_15 x12_1).f1), ((rd_T43 l1_15 x12_1).f2)] : List Int))).bind fun t147 => (if y141.length + t147.length < 140737488355328 then ((some (y141 ++ t147 : List Int)).bind fun y150 => ((word_Put.f kj9 ((rd_T43 l1_15 x12_1).f3)).bind fun t153 => (if y150.length + t153.length < 140737488355328 then (files_lay.l0 kj9 a0 (y150 ++ t153) l1_15 (l1_15.length : Int) (wrap64 (x12_1 + 1)) a1_0 a1_1 a1_2 a1_3 a1_4 a1_5 a1_6 a1_7 a1_8 a1_9 a1_10 a1_11 l1_12 l1_13 l1_14 l1_15 a1_16 a1_17 a1_18 a1_19 a1_20 l1_21) else (none)))) else (none))) = some r := by first | (rw [hy141]; with_reducible exact H) | (have H2_ := (Option.bind_some _ _).symm.trans H; rw [hy141]; with_reducible exact H2_) | (have H2_ := (Option.bind_some _ _).symm.trans H; with_reducible exact H2_) | with_reducible exact H | (rw [hy141]; exact H) | exact H
                    have Ny141 := Aside0.mk hy141
                    clear hy141
                    obtain ⟨y144, hy144⟩ : ∃ y_ : List Int, y_ = (([((rd_T43 l1_15 x12_1).f0), ((rd_T43 l1_15 x12_1).f1), ((rd_T43 l1_15 x12_1).f2)] : List Int)) := ⟨_, rfl⟩
                    replace H : ((word_Put.f kj9 y144).bind fun t147 => (if y141.length + t147.length < 140737488355328 then ((some (y141 ++ t147 : List Int)).bind fun y150 => ((word_Put.f kj9 ((rd_T43 l1_15 x12_1).f3)).bind fun t153 => (if y150.length + t153.length < 140737488355328 then (files_lay.l0 kj9 a0 (y150 ++ t153) l1_15 (l1_15.length : Int) (wrap64 (x12_1 + 1)) a1_0 a1_1 a1_2 a1_3 a1_4 a1_5 a1_6 a1_7 a1_8 a1_9 a1_10 a1_11 l1_12 l1_13 l1_14 l1_15 a1_16 a1_17 a1_18 a1_19 a1_20 l1_21) else (none)))) else (none))) = some r := by first | (rw [hy144]; with_reducible exact H) | (have H2_ := (Option.bind_some _ _).symm.trans H; rw [hy144]; with_reducible exact H2_) | (have H2_ := (Option.bind_some _ _).symm.trans H; with_reducible exact H2_) | with_reducible exact H | (rw [hy144]; exact H) | exact H
                    have Ny144 := Aside0.mk hy144
                    clear hy144
                    replace H := Option.bind_eq_some_iff.mp H
                    obtain ⟨t147, A340, H⟩ := H
                    replace H : (if y141.length + t147.length < 140737488355328 then ((some (y141 ++ t147 : List Int)).bind fun y150 => ((word_Put.f kj9 ((rd_T43 l1_15 x12_1).f3)).bind fun t153 => (if y150.length + t153.length < 140737488355328 then (files_lay.l0 kj9 a0 (y150 ++ t153) l1_15 (l1_15.length : Int) (wrap64 (x12_1 + 1)) a1_0 a1_1 a1_2 a1_3 a1_4 a1_5 a1_6 a1_7 a1_8 a1_9 a1_10 a1_11 l1_12 l1_13 l1_14 l1_15 a1_16 a1_17 a1_18 a1_19 a1_20 l1_21) else (none)))) else (none)) = some r := H
                    have A34 := Aside0.mk A340
                    clear A340
                    by_cases c35 : y141.length + t147.length < 140737488355328
                    · rw [if_pos c35] at H
                      have LMc35 := Aside0.mk c35
                      clear c35
                      obtain ⟨y150, hy150⟩ : ∃ y_ : List Int, y_ = (y141 ++ t147) := ⟨_, rfl⟩
                      replace H : ((word_Put.f kj9 ((rd_T43 l1_15 x12_1).f3)).bind fun t153 => (if y150.length + t153.length < 140737488355328 then (files_lay.l0 kj9 a0 (y150 ++ t153) l1_15 (l1_15.length : Int) (wrap64 (x12_1 + 1)) a1_0 a1_1 a1_2 a1_3 a1_4 a1_5 a1_6 a1_7 a1_8 a1_9 a1_10 a1_11 l1_12 l1_13 l1_14 l1_15 a1_16 a1_17 a1_18 a1_19 a1_20 l1_21) else (none))) = some r := by first | (rw [hy150]; with_reducible exact H) | (have H2_ := (Option.bind_some _ _).symm.trans H; rw [hy150]; with_reducible exact H2_) | (have H2_ := (Option.bind_some _ _).symm.trans H; with_reducible exact H2_) | with_reducible exact H | (rw [hy150]; exact H) | exact H
                      have Ny150 := Aside0.mk hy150
                      clear hy150
                      replace H := Option.bind_eq_some_iff.mp H
                      obtain ⟨t153, A360, H⟩ := H
                      replace H : (if y150.length + t153.length < 140737488355328 then (files_lay.l0 kj9 a0 (y150 ++ t153) l1_15 (l1_15.length : Int) (wrap64 (x12_1 + 1)) a1_0 a1_1 a1_2 a1_3 a1_4 a1_5 a1_6 a1_7 a1_8 a1_9 a1_10 a1_11 l1_12 l1_13 l1_14 l1_15 a1_16 a1_17 a1_18 a1_19 a1_20 l1_21) else (none)) = some r := H
                      have A36 := Aside0.mk A360
                      clear A360
                      by_cases c37 : y150.length + t153.length < 140737488355328
                      · rw [if_pos c37] at H
                        have LMc37 := Aside0.mk c37
                        clear c37
                        obtain ⟨y156, hy156⟩ : ∃ y_ : List Int, y_ = (y150 ++ t153) := ⟨_, rfl⟩
                        replace H : (files_lay.l0 kj9 a0 y156 l1_15 (l1_15.length : Int) (wrap64 (x12_1 + 1)) a1_0 a1_1 a1_2 a1_3 a1_4 a1_5 a1_6 a1_7 a1_8 a1_9 a1_10 a1_11 l1_12 l1_13 l1_14 l1_15 a1_16 a1_17 a1_18 a1_19 a1_20 l1_21) = some r := by first | (rw [hy156]; with_reducible exact H) | (have H2_ := (Option.bind_some _ _).symm.trans H; rw [hy156]; with_reducible exact H2_) | (have H2_ := (Option.bind_some _ _).symm.trans H; with_reducible exact H2_) | with_reducible exact H | (rw [hy156]; exact H) | exact H
                        have Ny156 := Aside0.mk hy156
                        clear hy156
                        have H' := Aside0.mk H
                        clear H
                        obtain ⟨Ao38, co38, eo38⟩ := Kd.R_slice HO_5.out
                        subst eo38
                        try go_wp2
                        have n0_ := Aside0.mk (Kd.R_drew HO_5.out)
                        have n1_ := Aside0.mk (blk_drew BK119.out)
                        have n2_ := Aside0.mk (blk_drew BK125.out)
                        have n3_ := Aside0.mk (below_drew1 HB.out)
                        clear HO_5
                        clear BK119
                        clear BK125
                        clear HB
                        have HO_5 := n0_
                        have BK119 := n1_
                        have BK125 := n2_
                        have HB := n3_
                        clear n0_ n1_ n2_ n3_
                        refine start_ (n := 13) (S := fun w' => w'.cell? ⟨gb125, 0, none⟩ = some (.int .u16 ((rd_T43 l1_15 x12_1).f0)) ∧ w'.cell? ⟨gb125, 1, none⟩ = some (.int .u16 ((rd_T43 l1_15 x12_1).f1)) ∧ w'.cell? ⟨gb125, 2, none⟩ = some (.int .u16 ((rd_T43 l1_15 x12_1).f2)) ∧ w'.cell? ⟨gb125, 3, none⟩ = some (.slice A124_3 ((rd_T43 l1_15 x12_1).f3).length c124_3)) (ds := []) #[false, false, false, false, false, false, false, false, false, false, false, false, false] (by kernel_rfl) rfl rfl ⟨(blk_cell BK125.out 0).trans rfl, (blk_cell BK125.out 1).trans rfl, (blk_cell BK125.out 2).trans rfl, (blk_cell BK125.out 3).trans rfl⟩ (fun hHeld => ?_); refine with_tabW files_lay.tab5 files_lay.bits5 (fun HT_ HW_ => ?_)
                        generalize wc.drew = w39 at HO_5 BK119 BK125 HB hHeld ⊢
                        refine pure_ (i := 0) (N := some 16) (v := ?_) (a' := ?_) #[true, false, false, false, false, false, false, false, false, false, false, false, false] rfl rfl (any_of HT_.out (by kernel_rfl)) (fun _ _ _ h => h) (Or.inl ⟨by rfl, ?_⟩) ?_ ?_
                        rotate_left
                        · intro w'
                          go_simp
                          with_reducible rfl
                        rotate_left
                        · simp only [Act.put, List.setIfInBounds_toArray, List.set_cons_zero, List.set_cons_succ, i64_w, i32_w]
                          rfl
                        refine pure_ (i := 3) (N := some 19) (v := ?_) (a' := ?_) #[true, false, false, true, false, false, false, false, false, false, false, false, false] rfl rfl (any_of HT_.out (by kernel_rfl)) (fun _ _ _ h => h) (Or.inl ⟨by rfl, ?_⟩) ?_ ?_
                        rotate_left
                        · intro w'
                          go_simp
                          with_reducible rfl
                        rotate_left
                        · simp only [Act.put, List.setIfInBounds_toArray, List.set_cons_zero, List.set_cons_succ, i64_w, i32_w]
                          rfl
                        refine pure_ (i := 5) (N := some 21) (v := ?_) (a' := ?_) #[true, false, false, true, false, true, false, false, false, false, false, false, false] rfl rfl (any_of HT_.out (by kernel_rfl)) (fun _ _ _ h => h) (Or.inl ⟨by rfl, ?_⟩) ?_ ?_
                        rotate_left
                        · intro w'
                          go_simp
                          with_reducible rfl
                        rotate_left
                        · simp only [Act.put, List.setIfInBounds_toArray, List.set_cons_zero, List.set_cons_succ, i64_w, i32_w]
                          rfl
                        refine pure_ (i := 7) (N := some 23) (v := ?_) (a' := ?_) #[true, false, false, true, false, true, false, true, false, false, false, false, false] rfl rfl (any_of HT_.out (by kernel_rfl)) (fun _ _ _ h => h) (Or.inl ⟨by rfl, ?_⟩) ?_ ?_
                        rotate_left
                        · intro w'
                          go_simp
                          with_reducible rfl
                        rotate_left
                        · simp only [Act.put, List.setIfInBounds_toArray, List.set_cons_zero, List.set_cons_succ, i64_w, i32_w]
                          rfl
                        refine take_ (i := 4) (N := some 20) (v := ?_) (a' := ?_) #[true, false, false, true, true, true, false, true, false, false, false, false, false] rfl rfl (take_ofW HT_.out HW_.out (by kernel_rfl)) (fun _ _ _ h => h) (Or.inl ⟨by rfl, ?_⟩) hHeld ?_ ?_
                        rotate_left
                        · rintro w' ⟨s0, s1, s2, s3⟩
                          go_simp
                          with_reducible rfl
                        rotate_left
                        · simp only [Act.put, List.setIfInBounds_toArray, List.set_cons_zero, List.set_cons_succ, i64_w, i32_w]
                          rfl
                        refine take_ (i := 6) (N := some 22) (v := ?_) (a' := ?_) #[true, false, false, true, true, true, true, true, false, false, false, false, false] rfl rfl (take_ofW HT_.out HW_.out (by kernel_rfl)) (fun _ _ _ h => h) (Or.inl ⟨by rfl, ?_⟩) hHeld ?_ ?_
                        rotate_left
                        · rintro w' ⟨s0, s1, s2, s3⟩
                          go_simp
                          with_reducible rfl
                        rotate_left
                        · simp only [Act.put, List.setIfInBounds_toArray, List.set_cons_zero, List.set_cons_succ, i64_w, i32_w]
                          rfl
                        refine take_ (i := 8) (N := some 24) (v := ?_) (a' := ?_) #[true, false, false, true, true, true, true, true, true, false, false, false, false] rfl rfl (take_ofW HT_.out HW_.out (by kernel_rfl)) (fun _ _ _ h => h) (Or.inl ⟨by rfl, ?_⟩) hHeld ?_ ?_
                        rotate_left
                        · rintro w' ⟨s0, s1, s2, s3⟩
                          go_simp
                          with_reducible rfl
                        rotate_left
                        · simp only [Act.put, List.setIfInBounds_toArray, List.set_cons_zero, List.set_cons_succ, i64_w, i32_w]
                          rfl
                        refine join_ (σ := Value × Value × Value) 3 #[true, true, true, true, true, true, true, true, true, true, false, false, false] (fun s_ => [(17, s_.1), (18, s_.2.1), (25, s_.2.2)]) (fun s_ w' => (w'.cell? ⟨gb125, 0, none⟩ = some (.int .u16 ((rd_T43 l1_15 x12_1).f0)) ∧ w'.cell? ⟨gb125, 1, none⟩ = some (.int .u16 ((rd_T43 l1_15 x12_1).f1)) ∧ w'.cell? ⟨gb125, 2, none⟩ = some (.int .u16 ((rd_T43 l1_15 x12_1).f2)) ∧ w'.cell? ⟨gb125, 3, none⟩ = some (.slice A124_3 ((rd_T43 l1_15 x12_1).f3).length c124_3)) ∧ (Kd.R (Kd.int .u8) 5 w' w.heap.size (fun k_ => some k_ ≠ (s_.2.1 : Value).ownBlock) s_.1 y138) ∧ (Kd.R (Kd.int .u8) 5 w' w.heap.size (fun k_ => some k_ ≠ (s_.1 : Value).ownBlock) s_.2.1 y141) ∧ (Kd.R (Kd.int .u16) 24 w' w.heap.size (fun _ => True) s_.2.2 y144) ∧ (w'.heap[gb119]? = some (.cells #[.int .u8 a1_0, .int .u8 a1_1, .int .u16 a1_2, .int .u16 a1_3, .int .u16 a1_4, .int .u16 a1_5, .int .u16 a1_6, .int .u16 a1_7, .int .u16 a1_8, .int .u16 a1_9, .int .u16 a1_10, .int .u16 a1_11, .slice A1_12 l1_12.length c1_12, .slice A1_13 l1_13.length c1_13, .slice A1_14 l1_14.length c1_14, .slice (some ad124) l1_15.length c1_15, .int .u8 a1_16, .int .u8 a1_17, .int .u8 a1_18, .int .u8 a1_19, .int .u8 a1_20, .slice A1_21 l1_21.length c1_21] 30 (0, 0))) ∧ (w'.heap[gb125]? = some (.cells #[.int .u16 ((rd_T43 l1_15 x12_1).f0), .int .u16 ((rd_T43 l1_15 x12_1).f1), .int .u16 ((rd_T43 l1_15 x12_1).f2), .slice A124_3 ((rd_T43 l1_15 x12_1).f3).length c124_3] 43 (0, 0))) ∧ (Below w.heap.size w w')) ?_ ?_
                        rotate_left
                        · intro hCont
                          refine two_ (i := 1) (j := 9) (Ni := some 17) (Nj := some 25) #[true, true, false, true, true, true, true, true, true, false, false, false, false] #[true, false, false, true, true, true, true, true, true, true, false, false, false] rfl rfl rfl rfl (two_of HT_.out (by kernel_rfl)) (by decide) (by decide) (fun K hK => ?_) (fun K hK => ?_)
                          · skip
                            refine Kd.R_lit_step (Kd.int .u8) _ 5 ?hg (N := 17) ?hd (xs := ([6] : List Int)) (inner := [.int .u8 6]) (ok := fun _ => True) (okp := fun _ => True) ?hr ?hp (fun _ hk => hk) trivial (Below.refl _ _) (Nat.le_refl _) (by simp) ?_; (case hd => rfl); (case hg => rfl); (case hr => first | (go_simp; done) | (go_simp; rfl)); (case hp => exact (Reps.one (show Kd.M (Kd.int .u8) _ _ _ 6 [.int .u8 6] from rfl) (Reps.none _ _)))
                            intro v139 w40 ho41 hb hg_ hnew_
                            clear hg_ hnew_
                            (first | rw [← Ny138.out] at ho41 | (simp only [Int.reduceToNat] at ho41; rw [← Ny138.out] at ho41))
                            have n0_ := Aside0.mk (Kd.R_elder' (by (with_reducible repeat (first | apply Kd.R_alloc | apply Kd.R_drewN | apply Kd.R_drew)); exact HO_5.out) (Kd.R_base ho41) hb)
                            have n1_ := Aside0.mk (Kd.R_lower (Kd.R_new' ho41 (Kd.R_lt (by (with_reducible repeat (first | apply Kd.R_alloc | apply Kd.R_drewN | apply Kd.R_drew)); exact HO_5.out))) (below_size (by repeat (first | (with_reducible first | exact HB.out | apply below_alloc | apply pw_below_drewN | apply below_drew1 | refine below_set ?_ GE119.out | refine below_set ?_ GE125.out) | exact HB.out))))
                            have n2_ := Aside0.mk (blk_below (g := gb119) (o := .cells #[.int .u8 a1_0, .int .u8 a1_1, .int .u16 a1_2, .int .u16 a1_3, .int .u16 a1_4, .int .u16 a1_5, .int .u16 a1_6, .int .u16 a1_7, .int .u16 a1_8, .int .u16 a1_9, .int .u16 a1_10, .int .u16 a1_11, .slice A1_12 l1_12.length c1_12, .slice A1_13 l1_13.length c1_13, .slice A1_14 l1_14.length c1_14, .slice (some ad124) l1_15.length c1_15, .int .u8 a1_16, .int .u8 a1_17, .int .u8 a1_18, .int .u8 a1_19, .int .u8 a1_20, .slice A1_21 l1_21.length c1_21] 30 (0, 0)) (by (with_reducible repeat (first | refine blk_drewN ?_ _ | refine blk_drew ?_ | refine blk_alloc ?_ _)); exact BK119.out) hb)
                            have n3_ := Aside0.mk (blk_below (g := gb125) (o := .cells #[.int .u16 ((rd_T43 l1_15 x12_1).f0), .int .u16 ((rd_T43 l1_15 x12_1).f1), .int .u16 ((rd_T43 l1_15 x12_1).f2), .slice A124_3 ((rd_T43 l1_15 x12_1).f3).length c124_3] 43 (0, 0)) (by (with_reducible repeat (first | refine blk_drewN ?_ _ | refine blk_drew ?_ | refine blk_alloc ?_ _)); exact BK125.out) hb)
                            have n4_ := Aside0.mk (below_step (by repeat (first | (with_reducible first | exact HB.out | apply below_alloc | apply pw_below_drewN | apply below_drew1 | refine below_set ?_ GE119.out | refine below_set ?_ GE125.out) | exact HB.out)) hb)
                            clear HO_5
                            clear BK119
                            clear BK125
                            clear HB
                            have HO_5 := n0_
                            have HO140 := n1_
                            have BK119 := n2_
                            have BK125 := n3_
                            have HB := n4_
                            clear n0_ n1_ n2_ n3_ n4_
                            clear hb ho41
                            obtain ⟨Ao43, co43, eo43⟩ := Kd.R_slice HO140.out
                            (first | subst eo43 | (injection eo43 with f1_ f2_ f3_; have f4_ := f1_.symm; have f5_ := f3_.symm; clear f1_ f2_ f3_; subst f4_; subst f5_))
                            refine hK.out _ _ ⟨(blk_cell BK125.out 0).trans rfl, (blk_cell BK125.out 1).trans rfl, (blk_cell BK125.out 2).trans rfl, (blk_cell BK125.out 3).trans rfl⟩ (fun hHeld => ?_)
                            clear hK K
                            refine norm_ (a' := ?_) ?_ ?_
                            rotate_left
                            · show Act.put _ (some 17) _ = _
                              simp only [Act.put, List.setIfInBounds_toArray, List.set_cons_zero, List.set_cons_succ, i64_w, i32_w]
                              rfl
                            refine two_ (i := 2) (j := 9) (Ni := some 18) (Nj := some 25) #[true, true, true, true, true, true, true, true, true, false, false, false, false] #[true, true, false, true, true, true, true, true, true, true, false, false, false] rfl rfl rfl rfl (two_of HT_.out (by kernel_rfl)) (by decide) (by decide) (fun K hK => ?_) (fun K hK => ?_)
                            · skip
                              refine Kd.R_append_rows_step (Kd.int .u8) (w0 := w) w.heap.size (by rfl) (.tmp 16) (.tmp 17) 22 5 (.int .u8 0) 1 rfl Try.underlying22 info5 rfl (by decide) (by omega) (.slice Ao38 x5_1.length co38) x5_1 y138 _ _ _ (fun k_ => some k_ ≠ (.slice Ao43 y138.length co43 : Value).ownBlock) (fun _ => False) rfl rfl ?aO ?aR (fun _ _ h => h) (fun _ h => h.elim) ?aF ?aB ?aS ?aL ?_
                              (case aR => repeat (first | exact (Kd.R_reads' HO140.out).2.2 | (with_reducible refine Kd.C_alloc ?_ _) | (with_reducible refine Kd.C_drewN ?_ _) | (with_reducible refine Kd.C_drew ?_)))
                              (case aB => exact (by repeat (first | (with_reducible first | exact HB.out | apply below_alloc | apply pw_below_drewN | apply below_drew1 | refine below_set ?_ GE119.out | refine below_set ?_ GE125.out) | exact HB.out)))
                              (case aF => exact (fun k_ hk => Kd.fresh' (Kd.R_lt (by (with_reducible repeat (first | apply Kd.R_alloc | apply Kd.R_drewN | apply Kd.R_drew)); exact HO140.out)) k_ hk))
                              (case aO => exact (by (with_reducible repeat (first | apply Kd.R_alloc | apply Kd.R_drewN | apply Kd.R_drew)); exact Kd.R_mono HO_5.out (fun _ hk => hk.2)))
                              (case aS => exact (below_size (by repeat (first | (with_reducible first | exact HB.out | apply below_alloc | apply pw_below_drewN | apply below_drew1 | refine below_set ?_ GE119.out | refine below_set ?_ GE125.out) | exact HB.out))))
                              (case aL => have := LMc33.out; omega)
                              intro v142 w42 ho hb hg hat
                              rw [← Ny141.out] at ho
                              have n0_ := Aside0.mk (blk_grown (g := gb119) (o := .cells #[.int .u8 a1_0, .int .u8 a1_1, .int .u16 a1_2, .int .u16 a1_3, .int .u16 a1_4, .int .u16 a1_5, .int .u16 a1_6, .int .u16 a1_7, .int .u16 a1_8, .int .u16 a1_9, .int .u16 a1_10, .int .u16 a1_11, .slice A1_12 l1_12.length c1_12, .slice A1_13 l1_13.length c1_13, .slice A1_14 l1_14.length c1_14, .slice (some ad124) l1_15.length c1_15, .int .u8 a1_16, .int .u8 a1_17, .int .u8 a1_18, .int .u8 a1_19, .int .u8 a1_20, .slice A1_21 l1_21.length c1_21] 30 (0, 0)) (by (with_reducible repeat (first | refine blk_drewN ?_ _ | refine blk_drew ?_ | refine blk_alloc ?_ _)); exact BK119.out) hg (Kd.R_ne HO_5.out BK119.out (by decide)))
                              have n1_ := Aside0.mk (blk_grown (g := gb125) (o := .cells #[.int .u16 ((rd_T43 l1_15 x12_1).f0), .int .u16 ((rd_T43 l1_15 x12_1).f1), .int .u16 ((rd_T43 l1_15 x12_1).f2), .slice A124_3 ((rd_T43 l1_15 x12_1).f3).length c124_3] 43 (0, 0)) (by (with_reducible repeat (first | refine blk_drewN ?_ _ | refine blk_drew ?_ | refine blk_alloc ?_ _)); exact BK125.out) hg (Kd.R_ne HO_5.out BK125.out (by decide)))
                              have n2_ := Aside0.mk (Kd.R_after (ok := (fun _ => True)) (by (with_reducible repeat (first | apply Kd.R_alloc | apply Kd.R_drewN | apply Kd.R_drew)); exact HO140.out) hg hat)
                              have n3_ := Aside0.mk (hb)
                              have n4_ := Aside0.mk (ho)
                              clear BK119
                              clear BK125
                              clear HO140
                              clear HB
                              clear HO_5
                              have BK119 := n0_
                              have BK125 := n1_
                              have HO140 := n2_
                              have HB := n3_
                              have HO143 := n4_
                              clear n0_ n1_ n2_ n3_ n4_
                              clear ho hb hg hat
                              refine hK.out _ _ ⟨(blk_cell BK125.out 0).trans rfl, (blk_cell BK125.out 1).trans rfl, (blk_cell BK125.out 2).trans rfl, (blk_cell BK125.out 3).trans rfl⟩ (fun hHeld => ?_)
                              clear hK K
                              refine norm_ (a' := ?_) ?_ ?_
                              rotate_left
                              · show Act.put _ (some 18) _ = _
                                simp only [Act.put, List.setIfInBounds_toArray, List.set_cons_zero, List.set_cons_succ, i64_w, i32_w]
                                rfl
                              refine one_ (i := 9) (N := some 25) #[true, true, true, true, true, true, true, true, true, true, false, false, false] rfl rfl (one_of HT_.out (by kernel_rfl)) (by decide) (fun K hK => ?_)
                              refine Kd.R_lit_step (Kd.int .u16) _ 24 ?hg (N := 25) ?hd (xs := ([((rd_T43 l1_15 x12_1).f0), ((rd_T43 l1_15 x12_1).f1), ((rd_T43 l1_15 x12_1).f2)] : List Int)) (inner := [.int .u16 ((rd_T43 l1_15 x12_1).f0), .int .u16 ((rd_T43 l1_15 x12_1).f1), .int .u16 ((rd_T43 l1_15 x12_1).f2)]) (ok := fun _ => True) (okp := fun _ => True) ?hr ?hp (fun _ hk => hk) trivial (Below.refl _ _) (Nat.le_refl _) (by simp) ?_; (case hd => rfl); (case hg => rfl); (case hr => first | (go_simp; done) | (go_simp; rfl)); (case hp => exact (Reps.one (show Kd.M (Kd.int .u16) _ _ _ ((rd_T43 l1_15 x12_1).f0) [.int .u16 ((rd_T43 l1_15 x12_1).f0)] from rfl) (Reps.one (show Kd.M (Kd.int .u16) _ _ _ ((rd_T43 l1_15 x12_1).f1) [.int .u16 ((rd_T43 l1_15 x12_1).f1)] from rfl) (Reps.one (show Kd.M (Kd.int .u16) _ _ _ ((rd_T43 l1_15 x12_1).f2) [.int .u16 ((rd_T43 l1_15 x12_1).f2)] from rfl) (Reps.none _ _)))))
                              intro v145 w44 ho45 hb hg_ hnew_
                              clear hg_ hnew_
                              (first | rw [← Ny144.out] at ho45 | (simp only [Int.reduceToNat] at ho45; rw [← Ny144.out] at ho45))
                              have n0_ := Aside0.mk (Kd.R_below (by (with_reducible repeat (first | apply Kd.R_alloc | apply Kd.R_drewN | apply Kd.R_drew)); exact HO140.out) hb)
                              have n1_ := Aside0.mk (Kd.R_below (by (with_reducible repeat (first | apply Kd.R_alloc | apply Kd.R_drewN | apply Kd.R_drew)); exact HO143.out) hb)
                              have n2_ := Aside0.mk (Kd.R_lower ho45 (below_size (by repeat (first | (with_reducible first | exact HB.out | apply below_alloc | apply pw_below_drewN | apply below_drew1 | refine below_set ?_ GE119.out | refine below_set ?_ GE125.out) | exact HB.out))))
                              have n3_ := Aside0.mk (blk_below (g := gb119) (o := .cells #[.int .u8 a1_0, .int .u8 a1_1, .int .u16 a1_2, .int .u16 a1_3, .int .u16 a1_4, .int .u16 a1_5, .int .u16 a1_6, .int .u16 a1_7, .int .u16 a1_8, .int .u16 a1_9, .int .u16 a1_10, .int .u16 a1_11, .slice A1_12 l1_12.length c1_12, .slice A1_13 l1_13.length c1_13, .slice A1_14 l1_14.length c1_14, .slice (some ad124) l1_15.length c1_15, .int .u8 a1_16, .int .u8 a1_17, .int .u8 a1_18, .int .u8 a1_19, .int .u8 a1_20, .slice A1_21 l1_21.length c1_21] 30 (0, 0)) (by (with_reducible repeat (first | refine blk_drewN ?_ _ | refine blk_drew ?_ | refine blk_alloc ?_ _)); exact BK119.out) hb)
                              have n4_ := Aside0.mk (blk_below (g := gb125) (o := .cells #[.int .u16 ((rd_T43 l1_15 x12_1).f0), .int .u16 ((rd_T43 l1_15 x12_1).f1), .int .u16 ((rd_T43 l1_15 x12_1).f2), .slice A124_3 ((rd_T43 l1_15 x12_1).f3).length c124_3] 43 (0, 0)) (by (with_reducible repeat (first | refine blk_drewN ?_ _ | refine blk_drew ?_ | refine blk_alloc ?_ _)); exact BK125.out) hb)
                              have n5_ := Aside0.mk (below_step (by repeat (first | (with_reducible first | exact HB.out | apply below_alloc | apply pw_below_drewN | apply below_drew1 | refine below_set ?_ GE119.out | refine below_set ?_ GE125.out) | exact HB.out)) hb)
                              clear HO140
                              clear HO143
                              clear BK119
                              clear BK125
                              clear HB
                              have HO140 := n0_
                              have HO143 := n1_
                              have HO146 := n2_
                              have BK119 := n3_
                              have BK125 := n4_
                              have HB := n5_
                              clear n0_ n1_ n2_ n3_ n4_ n5_
                              clear hb ho45
                              refine hK.out _ _ ⟨(blk_cell BK125.out 0).trans rfl, (blk_cell BK125.out 1).trans rfl, (blk_cell BK125.out 2).trans rfl, (blk_cell BK125.out 3).trans rfl⟩ (fun hHeld => ?_)
                              clear hK K
                              refine norm_ (a' := ?_) ?_ ?_
                              rotate_left
                              · show Act.put _ (some 25) _ = _
                                simp only [Act.put, List.setIfInBounds_toArray, List.set_cons_zero, List.set_cons_succ, i64_w, i32_w]
                                rfl
                              exact norm_ (by simp only [putAll, Act.put, List.setIfInBounds_toArray, List.set_cons_zero, List.set_cons_succ]) (hCont (.slice Ao43 y138.length co43, v142, v145) _ ⟨hHeld, (by (with_reducible repeat (first | apply Kd.R_alloc | apply Kd.R_drewN | apply Kd.R_drew)); exact Kd.R_mono HO140.out (fun _ hk => hk.2)), (by (with_reducible repeat (first | apply Kd.R_alloc | apply Kd.R_drewN | apply Kd.R_drew)); exact HO143.out), (by (with_reducible repeat (first | apply Kd.R_alloc | apply Kd.R_drewN | apply Kd.R_drew)); exact HO146.out), (by (with_reducible repeat (first | refine blk_drewN ?_ _ | refine blk_drew ?_ | refine blk_alloc ?_ _)); exact BK119.out), (by (with_reducible repeat (first | refine blk_drewN ?_ _ | refine blk_drew ?_ | refine blk_alloc ?_ _)); exact BK125.out), (by repeat (first | (with_reducible first | exact HB.out | apply below_alloc | apply pw_below_drewN | apply below_drew1 | refine below_set ?_ GE119.out | refine below_set ?_ GE125.out) | exact HB.out))⟩)
                            · skip
                              refine Kd.R_lit_step (Kd.int .u16) _ 24 ?hg (N := 25) ?hd (xs := ([((rd_T43 l1_15 x12_1).f0), ((rd_T43 l1_15 x12_1).f1), ((rd_T43 l1_15 x12_1).f2)] : List Int)) (inner := [.int .u16 ((rd_T43 l1_15 x12_1).f0), .int .u16 ((rd_T43 l1_15 x12_1).f1), .int .u16 ((rd_T43 l1_15 x12_1).f2)]) (ok := fun _ => True) (okp := fun _ => True) ?hr ?hp (fun _ hk => hk) trivial (Below.refl _ _) (Nat.le_refl _) (by simp) ?_; (case hd => rfl); (case hg => rfl); (case hr => first | (go_simp; done) | (go_simp; rfl)); (case hp => exact (Reps.one (show Kd.M (Kd.int .u16) _ _ _ ((rd_T43 l1_15 x12_1).f0) [.int .u16 ((rd_T43 l1_15 x12_1).f0)] from rfl) (Reps.one (show Kd.M (Kd.int .u16) _ _ _ ((rd_T43 l1_15 x12_1).f1) [.int .u16 ((rd_T43 l1_15 x12_1).f1)] from rfl) (Reps.one (show Kd.M (Kd.int .u16) _ _ _ ((rd_T43 l1_15 x12_1).f2) [.int .u16 ((rd_T43 l1_15 x12_1).f2)] from rfl) (Reps.none _ _)))))
                              intro v145 w42 ho43 hb hg_ hnew_
                              clear hg_ hnew_
                              (first | rw [← Ny144.out] at ho43 | (simp only [Int.reduceToNat] at ho43; rw [← Ny144.out] at ho43))
                              have n0_ := Aside0.mk (Kd.R_below (by (with_reducible repeat (first | apply Kd.R_alloc | apply Kd.R_drewN | apply Kd.R_drew)); exact HO_5.out) hb)
                              have n1_ := Aside0.mk (Kd.R_below (by (with_reducible repeat (first | apply Kd.R_alloc | apply Kd.R_drewN | apply Kd.R_drew)); exact HO140.out) hb)
                              have n2_ := Aside0.mk (Kd.R_lower ho43 (below_size (by repeat (first | (with_reducible first | exact HB.out | apply below_alloc | apply pw_below_drewN | apply below_drew1 | refine below_set ?_ GE119.out | refine below_set ?_ GE125.out) | exact HB.out))))
                              have n3_ := Aside0.mk (blk_below (g := gb119) (o := .cells #[.int .u8 a1_0, .int .u8 a1_1, .int .u16 a1_2, .int .u16 a1_3, .int .u16 a1_4, .int .u16 a1_5, .int .u16 a1_6, .int .u16 a1_7, .int .u16 a1_8, .int .u16 a1_9, .int .u16 a1_10, .int .u16 a1_11, .slice A1_12 l1_12.length c1_12, .slice A1_13 l1_13.length c1_13, .slice A1_14 l1_14.length c1_14, .slice (some ad124) l1_15.length c1_15, .int .u8 a1_16, .int .u8 a1_17, .int .u8 a1_18, .int .u8 a1_19, .int .u8 a1_20, .slice A1_21 l1_21.length c1_21] 30 (0, 0)) (by (with_reducible repeat (first | refine blk_drewN ?_ _ | refine blk_drew ?_ | refine blk_alloc ?_ _)); exact BK119.out) hb)
                              have n4_ := Aside0.mk (blk_below (g := gb125) (o := .cells #[.int .u16 ((rd_T43 l1_15 x12_1).f0), .int .u16 ((rd_T43 l1_15 x12_1).f1), .int .u16 ((rd_T43 l1_15 x12_1).f2), .slice A124_3 ((rd_T43 l1_15 x12_1).f3).length c124_3] 43 (0, 0)) (by (with_reducible repeat (first | refine blk_drewN ?_ _ | refine blk_drew ?_ | refine blk_alloc ?_ _)); exact BK125.out) hb)
                              have n5_ := Aside0.mk (below_step (by repeat (first | (with_reducible first | exact HB.out | apply below_alloc | apply pw_below_drewN | apply below_drew1 | refine below_set ?_ GE119.out | refine below_set ?_ GE125.out) | exact HB.out)) hb)
                              clear HO_5
                              clear HO140
                              clear BK119
                              clear BK125
                              clear HB
                              have HO_5 := n0_
                              have HO140 := n1_
                              have HO146 := n2_
                              have BK119 := n3_
                              have BK125 := n4_
                              have HB := n5_
                              clear n0_ n1_ n2_ n3_ n4_ n5_
                              clear hb ho43
                              obtain ⟨Ao45, co45, eo45⟩ := Kd.R_slice HO140.out
                              (first | subst eo45 | (injection eo45 with f1_ f2_ f3_; have f4_ := f1_.symm; have f5_ := f3_.symm; clear f1_ f2_ f3_; subst f4_; subst f5_))
                              refine hK.out _ _ ⟨(blk_cell BK125.out 0).trans rfl, (blk_cell BK125.out 1).trans rfl, (blk_cell BK125.out 2).trans rfl, (blk_cell BK125.out 3).trans rfl⟩ (fun hHeld => ?_)
                              clear hK K
                              refine norm_ (a' := ?_) ?_ ?_
                              rotate_left
                              · show Act.put _ (some 25) _ = _
                                simp only [Act.put, List.setIfInBounds_toArray, List.set_cons_zero, List.set_cons_succ, i64_w, i32_w]
                                rfl
                              refine one_ (i := 2) (N := some 18) #[true, true, true, true, true, true, true, true, true, true, false, false, false] rfl rfl (one_of HT_.out (by kernel_rfl)) (by decide) (fun K hK => ?_)
                              refine Kd.R_append_rows_step (Kd.int .u8) (w0 := w) w.heap.size (by rfl) (.tmp 16) (.tmp 17) 22 5 (.int .u8 0) 1 rfl Try.underlying22 info5 rfl (by decide) (by omega) (.slice Ao38 x5_1.length co38) x5_1 y138 _ _ _ (fun k_ => some k_ ≠ (.slice Ao45 y138.length co45 : Value).ownBlock) (fun _ => False) rfl rfl ?aO ?aR (fun _ _ h => h) (fun _ h => h.elim) ?aF ?aB ?aS ?aL ?_
                              (case aR => repeat (first | exact (Kd.R_reads' HO140.out).2.2 | (with_reducible refine Kd.C_alloc ?_ _) | (with_reducible refine Kd.C_drewN ?_ _) | (with_reducible refine Kd.C_drew ?_)))
                              (case aB => exact (by repeat (first | (with_reducible first | exact HB.out | apply below_alloc | apply pw_below_drewN | apply below_drew1 | refine below_set ?_ GE119.out | refine below_set ?_ GE125.out) | exact HB.out)))
                              (case aF => exact (fun k_ hk => Kd.fresh' (Kd.R_lt (by (with_reducible repeat (first | apply Kd.R_alloc | apply Kd.R_drewN | apply Kd.R_drew)); exact HO140.out)) k_ hk))
                              (case aO => exact (by (with_reducible repeat (first | apply Kd.R_alloc | apply Kd.R_drewN | apply Kd.R_drew)); exact Kd.R_mono HO_5.out (fun _ hk => hk.2)))
                              (case aS => exact (below_size (by repeat (first | (with_reducible first | exact HB.out | apply below_alloc | apply pw_below_drewN | apply below_drew1 | refine below_set ?_ GE119.out | refine below_set ?_ GE125.out) | exact HB.out))))
                              (case aL => have := LMc33.out; omega)
                              intro v142 w44 ho hb hg hat
                              rw [← Ny141.out] at ho
                              have n0_ := Aside0.mk (blk_grown (g := gb119) (o := .cells #[.int .u8 a1_0, .int .u8 a1_1, .int .u16 a1_2, .int .u16 a1_3, .int .u16 a1_4, .int .u16 a1_5, .int .u16 a1_6, .int .u16 a1_7, .int .u16 a1_8, .int .u16 a1_9, .int .u16 a1_10, .int .u16 a1_11, .slice A1_12 l1_12.length c1_12, .slice A1_13 l1_13.length c1_13, .slice A1_14 l1_14.length c1_14, .slice (some ad124) l1_15.length c1_15, .int .u8 a1_16, .int .u8 a1_17, .int .u8 a1_18, .int .u8 a1_19, .int .u8 a1_20, .slice A1_21 l1_21.length c1_21] 30 (0, 0)) (by (with_reducible repeat (first | refine blk_drewN ?_ _ | refine blk_drew ?_ | refine blk_alloc ?_ _)); exact BK119.out) hg (Kd.R_ne HO_5.out BK119.out (by decide)))
                              have n1_ := Aside0.mk (blk_grown (g := gb125) (o := .cells #[.int .u16 ((rd_T43 l1_15 x12_1).f0), .int .u16 ((rd_T43 l1_15 x12_1).f1), .int .u16 ((rd_T43 l1_15 x12_1).f2), .slice A124_3 ((rd_T43 l1_15 x12_1).f3).length c124_3] 43 (0, 0)) (by (with_reducible repeat (first | refine blk_drewN ?_ _ | refine blk_drew ?_ | refine blk_alloc ?_ _)); exact BK125.out) hg (Kd.R_ne HO_5.out BK125.out (by decide)))
                              have n2_ := Aside0.mk (Kd.R_after (ok := (fun _ => True)) (by (with_reducible repeat (first | apply Kd.R_alloc | apply Kd.R_drewN | apply Kd.R_drew)); exact HO140.out) hg hat)
                              have n3_ := Aside0.mk (Kd.R_over' (by (with_reducible repeat (first | apply Kd.R_alloc | apply Kd.R_drewN | apply Kd.R_drew)); exact HO146.out) (Kd.R_typed (by (with_reducible repeat (first | apply Kd.R_alloc | apply Kd.R_drewN | apply Kd.R_drew)); exact HO_5.out)) (by decide) hg)
                              have n4_ := Aside0.mk (hb)
                              have n5_ := Aside0.mk (ho)
                              clear BK119
                              clear BK125
                              clear HO140
                              clear HO146
                              clear HB
                              clear HO_5
                              have BK119 := n0_
                              have BK125 := n1_
                              have HO140 := n2_
                              have HO146 := n3_
                              have HB := n4_
                              have HO143 := n5_
                              clear n0_ n1_ n2_ n3_ n4_ n5_
                              clear ho hb hg hat
                              refine hK.out _ _ ⟨(blk_cell BK125.out 0).trans rfl, (blk_cell BK125.out 1).trans rfl, (blk_cell BK125.out 2).trans rfl, (blk_cell BK125.out 3).trans rfl⟩ (fun hHeld => ?_)
                              clear hK K
                              refine norm_ (a' := ?_) ?_ ?_
                              rotate_left
                              · show Act.put _ (some 18) _ = _
                                simp only [Act.put, List.setIfInBounds_toArray, List.set_cons_zero, List.set_cons_succ, i64_w, i32_w]
                                rfl
                              exact norm_ (by simp only [putAll, Act.put, List.setIfInBounds_toArray, List.set_cons_zero, List.set_cons_succ]) (hCont (.slice Ao45 y138.length co45, v142, v145) _ ⟨hHeld, (by (with_reducible repeat (first | apply Kd.R_alloc | apply Kd.R_drewN | apply Kd.R_drew)); exact Kd.R_mono HO140.out (fun _ hk => hk.2)), (by (with_reducible repeat (first | apply Kd.R_alloc | apply Kd.R_drewN | apply Kd.R_drew)); exact HO143.out), (by (with_reducible repeat (first | apply Kd.R_alloc | apply Kd.R_drewN | apply Kd.R_drew)); exact HO146.out), (by (with_reducible repeat (first | refine blk_drewN ?_ _ | refine blk_drew ?_ | refine blk_alloc ?_ _)); exact BK119.out), (by (with_reducible repeat (first | refine blk_drewN ?_ _ | refine blk_drew ?_ | refine blk_alloc ?_ _)); exact BK125.out), (by repeat (first | (with_reducible first | exact HB.out | apply below_alloc | apply pw_below_drewN | apply below_drew1 | refine below_set ?_ GE119.out | refine below_set ?_ GE125.out) | exact HB.out))⟩)
                          · skip
                            refine Kd.R_lit_step (Kd.int .u16) _ 24 ?hg (N := 25) ?hd (xs := ([((rd_T43 l1_15 x12_1).f0), ((rd_T43 l1_15 x12_1).f1), ((rd_T43 l1_15 x12_1).f2)] : List Int)) (inner := [.int .u16 ((rd_T43 l1_15 x12_1).f0), .int .u16 ((rd_T43 l1_15 x12_1).f1), .int .u16 ((rd_T43 l1_15 x12_1).f2)]) (ok := fun _ => True) (okp := fun _ => True) ?hr ?hp (fun _ hk => hk) trivial (Below.refl _ _) (Nat.le_refl _) (by simp) ?_; (case hd => rfl); (case hg => rfl); (case hr => first | (go_simp; done) | (go_simp; rfl)); (case hp => exact (Reps.one (show Kd.M (Kd.int .u16) _ _ _ ((rd_T43 l1_15 x12_1).f0) [.int .u16 ((rd_T43 l1_15 x12_1).f0)] from rfl) (Reps.one (show Kd.M (Kd.int .u16) _ _ _ ((rd_T43 l1_15 x12_1).f1) [.int .u16 ((rd_T43 l1_15 x12_1).f1)] from rfl) (Reps.one (show Kd.M (Kd.int .u16) _ _ _ ((rd_T43 l1_15 x12_1).f2) [.int .u16 ((rd_T43 l1_15 x12_1).f2)] from rfl) (Reps.none _ _)))))
                            intro v145 w40 ho41 hb hg_ hnew_
                            clear hg_ hnew_
                            (first | rw [← Ny144.out] at ho41 | (simp only [Int.reduceToNat] at ho41; rw [← Ny144.out] at ho41))
                            have n0_ := Aside0.mk (Kd.R_below (by (with_reducible repeat (first | apply Kd.R_alloc | apply Kd.R_drewN | apply Kd.R_drew)); exact HO_5.out) hb)
                            have n1_ := Aside0.mk (Kd.R_lower ho41 (below_size (by repeat (first | (with_reducible first | exact HB.out | apply below_alloc | apply pw_below_drewN | apply below_drew1 | refine below_set ?_ GE119.out | refine below_set ?_ GE125.out) | exact HB.out))))
                            have n2_ := Aside0.mk (blk_below (g := gb119) (o := .cells #[.int .u8 a1_0, .int .u8 a1_1, .int .u16 a1_2, .int .u16 a1_3, .int .u16 a1_4, .int .u16 a1_5, .int .u16 a1_6, .int .u16 a1_7, .int .u16 a1_8, .int .u16 a1_9, .int .u16 a1_10, .int .u16 a1_11, .slice A1_12 l1_12.length c1_12, .slice A1_13 l1_13.length c1_13, .slice A1_14 l1_14.length c1_14, .slice (some ad124) l1_15.length c1_15, .int .u8 a1_16, .int .u8 a1_17, .int .u8 a1_18, .int .u8 a1_19, .int .u8 a1_20, .slice A1_21 l1_21.length c1_21] 30 (0, 0)) (by (with_reducible repeat (first | refine blk_drewN ?_ _ | refine blk_drew ?_ | refine blk_alloc ?_ _)); exact BK119.out) hb)
                            have n3_ := Aside0.mk (blk_below (g := gb125) (o := .cells #[.int .u16 ((rd_T43 l1_15 x12_1).f0), .int .u16 ((rd_T43 l1_15 x12_1).f1), .int .u16 ((rd_T43 l1_15 x12_1).f2), .slice A124_3 ((rd_T43 l1_15 x12_1).f3).length c124_3] 43 (0, 0)) (by (with_reducible repeat (first | refine blk_drewN ?_ _ | refine blk_drew ?_ | refine blk_alloc ?_ _)); exact BK125.out) hb)
                            have n4_ := Aside0.mk (below_step (by repeat (first | (with_reducible first | exact HB.out | apply below_alloc | apply pw_below_drewN | apply below_drew1 | refine below_set ?_ GE119.out | refine below_set ?_ GE125.out) | exact HB.out)) hb)
                            clear HO_5
                            clear BK119
                            clear BK125
                            clear HB
                            have HO_5 := n0_
                            have HO146 := n1_
                            have BK119 := n2_
                            have BK125 := n3_
                            have HB := n4_
                            clear n0_ n1_ n2_ n3_ n4_
                            clear hb ho41
                            refine hK.out _ _ ⟨(blk_cell BK125.out 0).trans rfl, (blk_cell BK125.out 1).trans rfl, (blk_cell BK125.out 2).trans rfl, (blk_cell BK125.out 3).trans rfl⟩ (fun hHeld => ?_)
                            clear hK K
                            refine norm_ (a' := ?_) ?_ ?_
                            rotate_left
                            · show Act.put _ (some 25) _ = _
                              simp only [Act.put, List.setIfInBounds_toArray, List.set_cons_zero, List.set_cons_succ, i64_w, i32_w]
                              rfl
                            refine one_ (i := 1) (N := some 17) #[true, true, false, true, true, true, true, true, true, true, false, false, false] rfl rfl (one_of HT_.out (by kernel_rfl)) (by decide) (fun K hK => ?_)
                            refine Kd.R_lit_step (Kd.int .u8) _ 5 ?hg (N := 17) ?hd (xs := ([6] : List Int)) (inner := [.int .u8 6]) (ok := fun _ => True) (okp := fun _ => True) ?hr ?hp (fun _ hk => hk) trivial (Below.refl _ _) (Nat.le_refl _) (by simp) ?_; (case hd => rfl); (case hg => rfl); (case hr => first | (go_simp; done) | (go_simp; rfl)); (case hp => exact (Reps.one (show Kd.M (Kd.int .u8) _ _ _ 6 [.int .u8 6] from rfl) (Reps.none _ _)))
                            intro v139 w42 ho43 hb hg_ hnew_
                            clear hg_ hnew_
                            (first | rw [← Ny138.out] at ho43 | (simp only [Int.reduceToNat] at ho43; rw [← Ny138.out] at ho43))
                            have n0_ := Aside0.mk (Kd.R_elder' (by (with_reducible repeat (first | apply Kd.R_alloc | apply Kd.R_drewN | apply Kd.R_drew)); exact HO_5.out) (Kd.R_base ho43) hb)
                            have n1_ := Aside0.mk (Kd.R_below (by (with_reducible repeat (first | apply Kd.R_alloc | apply Kd.R_drewN | apply Kd.R_drew)); exact HO146.out) hb)
                            have n2_ := Aside0.mk (Kd.R_lower (Kd.R_new' ho43 (Kd.R_lt (by (with_reducible repeat (first | apply Kd.R_alloc | apply Kd.R_drewN | apply Kd.R_drew)); exact HO_5.out))) (below_size (by repeat (first | (with_reducible first | exact HB.out | apply below_alloc | apply pw_below_drewN | apply below_drew1 | refine below_set ?_ GE119.out | refine below_set ?_ GE125.out) | exact HB.out))))
                            have n3_ := Aside0.mk (blk_below (g := gb119) (o := .cells #[.int .u8 a1_0, .int .u8 a1_1, .int .u16 a1_2, .int .u16 a1_3, .int .u16 a1_4, .int .u16 a1_5, .int .u16 a1_6, .int .u16 a1_7, .int .u16 a1_8, .int .u16 a1_9, .int .u16 a1_10, .int .u16 a1_11, .slice A1_12 l1_12.length c1_12, .slice A1_13 l1_13.length c1_13, .slice A1_14 l1_14.length c1_14, .slice (some ad124) l1_15.length c1_15, .int .u8 a1_16, .int .u8 a1_17, .int .u8 a1_18, .int .u8 a1_19, .int .u8 a1_20, .slice A1_21 l1_21.length c1_21] 30 (0, 0)) (by (with_reducible repeat (first | refine blk_drewN ?_ _ | refine blk_drew ?_ | refine blk_alloc ?_ _)); exact BK119.out) hb)
                            have n4_ := Aside0.mk (blk_below (g := gb125) (o := .cells #[.int .u16 ((rd_T43 l1_15 x12_1).f0), .int .u16 ((rd_T43 l1_15 x12_1).f1), .int .u16 ((rd_T43 l1_15 x12_1).f2), .slice A124_3 ((rd_T43 l1_15 x12_1).f3).length c124_3] 43 (0, 0)) (by (with_reducible repeat (first | refine blk_drewN ?_ _ | refine blk_drew ?_ | refine blk_alloc ?_ _)); exact BK125.out) hb)
                            have n5_ := Aside0.mk (below_step (by repeat (first | (with_reducible first | exact HB.out | apply below_alloc | apply pw_below_drewN | apply below_drew1 | refine below_set ?_ GE119.out | refine below_set ?_ GE125.out) | exact HB.out)) hb)
                            clear HO_5
                            clear HO146
                            clear BK119
                            clear BK125
                            clear HB
                            have HO_5 := n0_
                            have HO146 := n1_
                            have HO140 := n2_
                            have BK119 := n3_
                            have BK125 := n4_
                            have HB := n5_
                            clear n0_ n1_ n2_ n3_ n4_ n5_
                            clear hb ho43
                            obtain ⟨Ao45, co45, eo45⟩ := Kd.R_slice HO140.out
                            (first | subst eo45 | (injection eo45 with f1_ f2_ f3_; have f4_ := f1_.symm; have f5_ := f3_.symm; clear f1_ f2_ f3_; subst f4_; subst f5_))
                            refine hK.out _ _ ⟨(blk_cell BK125.out 0).trans rfl, (blk_cell BK125.out 1).trans rfl, (blk_cell BK125.out 2).trans rfl, (blk_cell BK125.out 3).trans rfl⟩ (fun hHeld => ?_)
                            clear hK K
                            refine norm_ (a' := ?_) ?_ ?_
                            rotate_left
                            · show Act.put _ (some 17) _ = _
                              simp only [Act.put, List.setIfInBounds_toArray, List.set_cons_zero, List.set_cons_succ, i64_w, i32_w]
                              rfl
                            refine one_ (i := 2) (N := some 18) #[true, true, true, true, true, true, true, true, true, true, false, false, false] rfl rfl (one_of HT_.out (by kernel_rfl)) (by decide) (fun K hK => ?_)
                            refine Kd.R_append_rows_step (Kd.int .u8) (w0 := w) w.heap.size (by rfl) (.tmp 16) (.tmp 17) 22 5 (.int .u8 0) 1 rfl Try.underlying22 info5 rfl (by decide) (by omega) (.slice Ao38 x5_1.length co38) x5_1 y138 _ _ _ (fun k_ => some k_ ≠ (.slice Ao45 y138.length co45 : Value).ownBlock) (fun _ => False) rfl rfl ?aO ?aR (fun _ _ h => h) (fun _ h => h.elim) ?aF ?aB ?aS ?aL ?_
                            (case aR => repeat (first | exact (Kd.R_reads' HO140.out).2.2 | (with_reducible refine Kd.C_alloc ?_ _) | (with_reducible refine Kd.C_drewN ?_ _) | (with_reducible refine Kd.C_drew ?_)))
                            (case aB => exact (by repeat (first | (with_reducible first | exact HB.out | apply below_alloc | apply pw_below_drewN | apply below_drew1 | refine below_set ?_ GE119.out | refine below_set ?_ GE125.out) | exact HB.out)))
                            (case aF => exact (fun k_ hk => Kd.fresh' (Kd.R_lt (by (with_reducible repeat (first | apply Kd.R_alloc | apply Kd.R_drewN | apply Kd.R_drew)); exact HO140.out)) k_ hk))
                            (case aO => exact (by (with_reducible repeat (first | apply Kd.R_alloc | apply Kd.R_drewN | apply Kd.R_drew)); exact Kd.R_mono HO_5.out (fun _ hk => hk.2)))
                            (case aS => exact (below_size (by repeat (first | (with_reducible first | exact HB.out | apply below_alloc | apply pw_below_drewN | apply below_drew1 | refine below_set ?_ GE119.out | refine below_set ?_ GE125.out) | exact HB.out))))
                            (case aL => have := LMc33.out; omega)
                            intro v142 w44 ho hb hg hat
                            rw [← Ny141.out] at ho
                            have n0_ := Aside0.mk (blk_grown (g := gb119) (o := .cells #[.int .u8 a1_0, .int .u8 a1_1, .int .u16 a1_2, .int .u16 a1_3, .int .u16 a1_4, .int .u16 a1_5, .int .u16 a1_6, .int .u16 a1_7, .int .u16 a1_8, .int .u16 a1_9, .int .u16 a1_10, .int .u16 a1_11, .slice A1_12 l1_12.length c1_12, .slice A1_13 l1_13.length c1_13, .slice A1_14 l1_14.length c1_14, .slice (some ad124) l1_15.length c1_15, .int .u8 a1_16, .int .u8 a1_17, .int .u8 a1_18, .int .u8 a1_19, .int .u8 a1_20, .slice A1_21 l1_21.length c1_21] 30 (0, 0)) (by (with_reducible repeat (first | refine blk_drewN ?_ _ | refine blk_drew ?_ | refine blk_alloc ?_ _)); exact BK119.out) hg (Kd.R_ne HO_5.out BK119.out (by decide)))
                            have n1_ := Aside0.mk (blk_grown (g := gb125) (o := .cells #[.int .u16 ((rd_T43 l1_15 x12_1).f0), .int .u16 ((rd_T43 l1_15 x12_1).f1), .int .u16 ((rd_T43 l1_15 x12_1).f2), .slice A124_3 ((rd_T43 l1_15 x12_1).f3).length c124_3] 43 (0, 0)) (by (with_reducible repeat (first | refine blk_drewN ?_ _ | refine blk_drew ?_ | refine blk_alloc ?_ _)); exact BK125.out) hg (Kd.R_ne HO_5.out BK125.out (by decide)))
                            have n2_ := Aside0.mk (Kd.R_over' (by (with_reducible repeat (first | apply Kd.R_alloc | apply Kd.R_drewN | apply Kd.R_drew)); exact HO146.out) (Kd.R_typed (by (with_reducible repeat (first | apply Kd.R_alloc | apply Kd.R_drewN | apply Kd.R_drew)); exact HO_5.out)) (by decide) hg)
                            have n3_ := Aside0.mk (Kd.R_after (ok := (fun _ => True)) (by (with_reducible repeat (first | apply Kd.R_alloc | apply Kd.R_drewN | apply Kd.R_drew)); exact HO140.out) hg hat)
                            have n4_ := Aside0.mk (hb)
                            have n5_ := Aside0.mk (ho)
                            clear BK119
                            clear BK125
                            clear HO146
                            clear HO140
                            clear HB
                            clear HO_5
                            have BK119 := n0_
                            have BK125 := n1_
                            have HO146 := n2_
                            have HO140 := n3_
                            have HB := n4_
                            have HO143 := n5_
                            clear n0_ n1_ n2_ n3_ n4_ n5_
                            clear ho hb hg hat
                            refine hK.out _ _ ⟨(blk_cell BK125.out 0).trans rfl, (blk_cell BK125.out 1).trans rfl, (blk_cell BK125.out 2).trans rfl, (blk_cell BK125.out 3).trans rfl⟩ (fun hHeld => ?_)
                            clear hK K
                            refine norm_ (a' := ?_) ?_ ?_
                            rotate_left
                            · show Act.put _ (some 18) _ = _
                              simp only [Act.put, List.setIfInBounds_toArray, List.set_cons_zero, List.set_cons_succ, i64_w, i32_w]
                              rfl
                            exact norm_ (by simp only [putAll, Act.put, List.setIfInBounds_toArray, List.set_cons_zero, List.set_cons_succ]) (hCont (.slice Ao45 y138.length co45, v142, v145) _ ⟨hHeld, (by (with_reducible repeat (first | apply Kd.R_alloc | apply Kd.R_drewN | apply Kd.R_drew)); exact Kd.R_mono HO140.out (fun _ hk => hk.2)), (by (with_reducible repeat (first | apply Kd.R_alloc | apply Kd.R_drewN | apply Kd.R_drew)); exact HO143.out), (by (with_reducible repeat (first | apply Kd.R_alloc | apply Kd.R_drewN | apply Kd.R_drew)); exact HO146.out), (by (with_reducible repeat (first | refine blk_drewN ?_ _ | refine blk_drew ?_ | refine blk_alloc ?_ _)); exact BK119.out), (by (with_reducible repeat (first | refine blk_drewN ?_ _ | refine blk_drew ?_ | refine blk_alloc ?_ _)); exact BK125.out), (by repeat (first | (with_reducible first | exact HB.out | apply below_alloc | apply pw_below_drewN | apply below_drew1 | refine below_set ?_ GE119.out | refine below_set ?_ GE125.out) | exact HB.out))⟩)
                        rintro ⟨v139, v142, v145⟩ w46 ⟨hS_, h0_, h1_, h2_, h3_, h4_, h5_⟩
                        have n0_ : Aside0 (Kd.R (Kd.int .u8) 5 w46 w.heap.size (fun k_ => some k_ ≠ (v142 : Value).ownBlock) v139 y138) := ⟨h0_⟩
                        have n1_ : Aside0 (Kd.R (Kd.int .u8) 5 w46 w.heap.size (fun k_ => some k_ ≠ (v139 : Value).ownBlock) v142 y141) := ⟨h1_⟩
                        have n2_ : Aside0 (Kd.R (Kd.int .u16) 24 w46 w.heap.size (fun _ => True) v145 y144) := ⟨h2_⟩
                        have n3_ : Aside0 (w46.heap[gb119]? = some (.cells #[.int .u8 a1_0, .int .u8 a1_1, .int .u16 a1_2, .int .u16 a1_3, .int .u16 a1_4, .int .u16 a1_5, .int .u16 a1_6, .int .u16 a1_7, .int .u16 a1_8, .int .u16 a1_9, .int .u16 a1_10, .int .u16 a1_11, .slice A1_12 l1_12.length c1_12, .slice A1_13 l1_13.length c1_13, .slice A1_14 l1_14.length c1_14, .slice (some ad124) l1_15.length c1_15, .int .u8 a1_16, .int .u8 a1_17, .int .u8 a1_18, .int .u8 a1_19, .int .u8 a1_20, .slice A1_21 l1_21.length c1_21] 30 (0, 0))) := ⟨h3_⟩
                        have n4_ : Aside0 (w46.heap[gb125]? = some (.cells #[.int .u16 ((rd_T43 l1_15 x12_1).f0), .int .u16 ((rd_T43 l1_15 x12_1).f1), .int .u16 ((rd_T43 l1_15 x12_1).f2), .slice A124_3 ((rd_T43 l1_15 x12_1).f3).length c124_3] 43 (0, 0))) := ⟨h4_⟩
                        have n5_ : Aside0 (Below w.heap.size w w46) := ⟨h5_⟩
                        clear HO_5
                        clear BK119
                        clear BK125
                        clear HB
                        clear h0_ h1_ h2_ h3_ h4_ h5_
                        have HO140 := n0_
                        have HO143 := n1_
                        have HO146 := n2_
                        have BK119 := n3_
                        have BK125 := n4_
                        have HB := n5_
                        clear n0_ n1_ n2_ n3_ n4_ n5_
                        have hHeld : w46.cell? ⟨gb125, 0, none⟩ = some (.int .u16 ((rd_T43 l1_15 x12_1).f0)) ∧ w46.cell? ⟨gb125, 1, none⟩ = some (.int .u16 ((rd_T43 l1_15 x12_1).f1)) ∧ w46.cell? ⟨gb125, 2, none⟩ = some (.int .u16 ((rd_T43 l1_15 x12_1).f2)) ∧ w46.cell? ⟨gb125, 3, none⟩ = some (.slice A124_3 ((rd_T43 l1_15 x12_1).f3).length c124_3) := hS_
                        obtain ⟨Ao47, co47, eo47⟩ := Kd.R_slice HO146.out
                        (first | subst eo47 | (injection eo47 with f1_ f2_ f3_; have f4_ := f1_.symm; have f5_ := f3_.symm; clear f1_ f2_ f3_; subst f4_; subst f5_))
                        refine norm_ (a' := ?_) ?_ ?_
                        rotate_left
                        · simp only [putAll, Act.put, List.setIfInBounds_toArray, List.set_cons_zero, List.set_cons_succ]
                          rfl
                        refine one_ (i := 10) (N := some 26) #[true, true, true, true, true, true, true, true, true, true, true, false, false] rfl rfl (one_of HT_.out (by kernel_rfl)) (by decide) (fun K hK => ?_)
                        refine goes_ Try.func49 (by kernel_rfl) rfl #[.slice Ao47 y144.length co47] (by rfl) rfl rfl (by (try simp only [List.map_toArray, List.map_cons, List.map_nil]); first | done | rfl | (simp only [List.length_drop, List.length_take]; rfl)) ?_
                        with_reducible refine (word_Put.calls kj9 _ _ y144 t147 _ ?side1 ?side2 A34.out).mono ?_
                        (case side1 => repeat (first | exact (Kd.R_reads' HO146.out).2.2 | (with_reducible refine Kd.C_alloc ?_ _) | (with_reducible refine Kd.C_drewN ?_ _) | (with_reducible refine Kd.C_drew ?_)))
                        (case side2 => exact (Kd.R_reads' HO146.out).2.1)
                        rintro e w48 ⟨v148, rfl, ho0, hb⟩
                        refine ⟨_, rfl, ?_⟩
                        have n0_ := Aside0.mk (Kd.R_elder' (by (with_reducible repeat (first | apply Kd.R_alloc | apply Kd.R_drewN | apply Kd.R_drew)); exact HO140.out) (Kd.R_base ho0) hb)
                        have n1_ := Aside0.mk (Kd.R_elder' (by (with_reducible repeat (first | apply Kd.R_alloc | apply Kd.R_drewN | apply Kd.R_drew)); exact HO143.out) (Kd.R_base ho0) hb)
                        have n2_ := Aside0.mk (Kd.R_below (by (with_reducible repeat (first | apply Kd.R_alloc | apply Kd.R_drewN | apply Kd.R_drew)); exact HO146.out) hb)
                        have n3_ := Aside0.mk (Kd.R_lower (Kd.R_new' (Kd.R_new' ho0 (Kd.R_lt (by (with_reducible repeat (first | apply Kd.R_alloc | apply Kd.R_drewN | apply Kd.R_drew)); exact HO140.out))) (Kd.R_lt (by (with_reducible repeat (first | apply Kd.R_alloc | apply Kd.R_drewN | apply Kd.R_drew)); exact HO143.out))) (below_size (by repeat (first | (with_reducible first | exact HB.out | apply below_alloc | apply pw_below_drewN | apply below_drew1 | refine below_set ?_ GE119.out | refine below_set ?_ GE125.out) | exact HB.out))))
                        have n4_ := Aside0.mk (blk_below (g := gb119) (o := .cells #[.int .u8 a1_0, .int .u8 a1_1, .int .u16 a1_2, .int .u16 a1_3, .int .u16 a1_4, .int .u16 a1_5, .int .u16 a1_6, .int .u16 a1_7, .int .u16 a1_8, .int .u16 a1_9, .int .u16 a1_10, .int .u16 a1_11, .slice A1_12 l1_12.length c1_12, .slice A1_13 l1_13.length c1_13, .slice A1_14 l1_14.length c1_14, .slice (some ad124) l1_15.length c1_15, .int .u8 a1_16, .int .u8 a1_17, .int .u8 a1_18, .int .u8 a1_19, .int .u8 a1_20, .slice A1_21 l1_21.length c1_21] 30 (0, 0)) (by (with_reducible repeat (first | refine blk_drewN ?_ _ | refine blk_drew ?_ | refine blk_alloc ?_ _)); exact BK119.out) hb)
                        have n5_ := Aside0.mk (blk_below (g := gb125) (o := .cells #[.int .u16 ((rd_T43 l1_15 x12_1).f0), .int .u16 ((rd_T43 l1_15 x12_1).f1), .int .u16 ((rd_T43 l1_15 x12_1).f2), .slice A124_3 ((rd_T43 l1_15 x12_1).f3).length c124_3] 43 (0, 0)) (by (with_reducible repeat (first | refine blk_drewN ?_ _ | refine blk_drew ?_ | refine blk_alloc ?_ _)); exact BK125.out) hb)
                        have n6_ := Aside0.mk (below_step (by repeat (first | (with_reducible first | exact HB.out | apply below_alloc | apply pw_below_drewN | apply below_drew1 | refine below_set ?_ GE119.out | refine below_set ?_ GE125.out) | exact HB.out)) hb)
                        clear HO140
                        clear HO143
                        clear HO146
                        clear BK119
                        clear BK125
                        clear HB
                        have HO140 := n0_
                        have HO143 := n1_
                        have HO146 := n2_
                        have HO149 := n3_
                        have BK119 := n4_
                        have BK125 := n5_
                        have HB := n6_
                        clear n0_ n1_ n2_ n3_ n4_ n5_ n6_
                        (try clear hb)
                        (try clear hb2)
                        (try clear hk)
                        (try clear hi)
                        (try clear ho0)
                        obtain ⟨Ao50, co50, eo50⟩ := Kd.R_slice HO149.out
                        (first | subst eo50 | (injection eo50 with f1_ f2_ f3_; have f4_ := f1_.symm; have f5_ := f3_.symm; clear f1_ f2_ f3_; subst f4_; subst f5_))
                        refine hK.out _ _ ⟨(blk_cell BK125.out 0).trans rfl, (blk_cell BK125.out 1).trans rfl, (blk_cell BK125.out 2).trans rfl, (blk_cell BK125.out 3).trans rfl⟩ (fun hHeld => ?_)
                        clear hK K
                        refine norm_ (a' := ?_) ?_ ?_
                        rotate_left
                        · show Act.put _ (some 26) _ = _
                          simp only [Act.put, List.setIfInBounds_toArray, List.set_cons_zero, List.set_cons_succ, i64_w, i32_w]
                          rfl
                        refine one_ (i := 11) (N := some 27) #[true, true, true, true, true, true, true, true, true, true, true, true, false] rfl rfl (one_of HT_.out (by kernel_rfl)) (by decide) (fun K hK => ?_)
                        refine Kd.R_append_rows_step (Kd.int .u8) (w0 := w) w.heap.size (by rfl) (.tmp 18) (.tmp 26) 22 5 (.int .u8 0) 1 rfl Try.underlying22 info5 rfl (by decide) (by omega) v142 y141 t147 _ _ _ (fun k_ => some k_ ≠ (v139 : Value).ownBlock ∧ some k_ ≠ (.slice Ao50 t147.length co50 : Value).ownBlock) (fun _ => False) rfl rfl ?aO ?aR (fun _ _ h => h) (fun _ h => h.elim) ?aF ?aB ?aS ?aL ?_
                        (case aR => repeat (first | exact (Kd.R_reads' HO149.out).2.2 | (with_reducible refine Kd.C_alloc ?_ _) | (with_reducible refine Kd.C_drewN ?_ _) | (with_reducible refine Kd.C_drew ?_)))
                        (case aB => exact (by repeat (first | (with_reducible first | exact HB.out | apply below_alloc | apply pw_below_drewN | apply below_drew1 | refine below_set ?_ GE119.out | refine below_set ?_ GE125.out) | exact HB.out)))
                        (case aF => exact (fun k_ hk => ⟨Kd.fresh' (Kd.R_lt (by (with_reducible repeat (first | apply Kd.R_alloc | apply Kd.R_drewN | apply Kd.R_drew)); exact HO140.out)) k_ hk, Kd.fresh' (Kd.R_lt (by (with_reducible repeat (first | apply Kd.R_alloc | apply Kd.R_drewN | apply Kd.R_drew)); exact HO149.out)) k_ hk⟩))
                        (case aO => exact (by (with_reducible repeat (first | apply Kd.R_alloc | apply Kd.R_drewN | apply Kd.R_drew)); exact HO143.out))
                        (case aS => exact (below_size (by repeat (first | (with_reducible first | exact HB.out | apply below_alloc | apply pw_below_drewN | apply below_drew1 | refine below_set ?_ GE119.out | refine below_set ?_ GE125.out) | exact HB.out))))
                        (case aL => have := LMc35.out; omega)
                        intro v151 w49 ho hb hg hat
                        rw [← Ny150.out] at ho
                        have n0_ := Aside0.mk (blk_grown (g := gb119) (o := .cells #[.int .u8 a1_0, .int .u8 a1_1, .int .u16 a1_2, .int .u16 a1_3, .int .u16 a1_4, .int .u16 a1_5, .int .u16 a1_6, .int .u16 a1_7, .int .u16 a1_8, .int .u16 a1_9, .int .u16 a1_10, .int .u16 a1_11, .slice A1_12 l1_12.length c1_12, .slice A1_13 l1_13.length c1_13, .slice A1_14 l1_14.length c1_14, .slice (some ad124) l1_15.length c1_15, .int .u8 a1_16, .int .u8 a1_17, .int .u8 a1_18, .int .u8 a1_19, .int .u8 a1_20, .slice A1_21 l1_21.length c1_21] 30 (0, 0)) (by (with_reducible repeat (first | refine blk_drewN ?_ _ | refine blk_drew ?_ | refine blk_alloc ?_ _)); exact BK119.out) hg (Kd.R_ne HO143.out BK119.out (by decide)))
                        have n1_ := Aside0.mk (blk_grown (g := gb125) (o := .cells #[.int .u16 ((rd_T43 l1_15 x12_1).f0), .int .u16 ((rd_T43 l1_15 x12_1).f1), .int .u16 ((rd_T43 l1_15 x12_1).f2), .slice A124_3 ((rd_T43 l1_15 x12_1).f3).length c124_3] 43 (0, 0)) (by (with_reducible repeat (first | refine blk_drewN ?_ _ | refine blk_drew ?_ | refine blk_alloc ?_ _)); exact BK125.out) hg (Kd.R_ne HO143.out BK125.out (by decide)))
                        have n2_ := Aside0.mk (Kd.R_after (ok := (fun k_ => some k_ ≠ (.slice Ao50 t147.length co50 : Value).ownBlock)) (by (with_reducible repeat (first | apply Kd.R_alloc | apply Kd.R_drewN | apply Kd.R_drew)); exact Kd.R_mono HO140.out (fun _ hk => ⟨hk.2, hk.1⟩)) hg hat)
                        have n3_ := Aside0.mk (Kd.R_over' (by (with_reducible repeat (first | apply Kd.R_alloc | apply Kd.R_drewN | apply Kd.R_drew)); exact HO146.out) (Kd.R_typed (by (with_reducible repeat (first | apply Kd.R_alloc | apply Kd.R_drewN | apply Kd.R_drew)); exact HO143.out)) (by decide) hg)
                        have n4_ := Aside0.mk (Kd.R_after (ok := (fun k_ => some k_ ≠ (v139 : Value).ownBlock)) (by (with_reducible repeat (first | apply Kd.R_alloc | apply Kd.R_drewN | apply Kd.R_drew)); exact Kd.R_mono HO149.out (fun _ hk => ⟨hk.1.2, hk.2⟩)) hg hat)
                        have n5_ := Aside0.mk (hb)
                        have n6_ := Aside0.mk (ho)
                        clear BK119
                        clear BK125
                        clear HO140
                        clear HO146
                        clear HO149
                        clear HB
                        clear HO143
                        have BK119 := n0_
                        have BK125 := n1_
                        have HO140 := n2_
                        have HO146 := n3_
                        have HO149 := n4_
                        have HB := n5_
                        have HO152 := n6_
                        clear n0_ n1_ n2_ n3_ n4_ n5_ n6_
                        clear ho hb hg hat
                        refine hK.out _ _ ⟨(blk_cell BK125.out 0).trans rfl, (blk_cell BK125.out 1).trans rfl, (blk_cell BK125.out 2).trans rfl, (blk_cell BK125.out 3).trans rfl⟩ (fun hHeld => ?_)
                        clear hK K
                        refine norm_ (a' := ?_) ?_ ?_
                        rotate_left
                        · show Act.put _ (some 27) _ = _
                          simp only [Act.put, List.setIfInBounds_toArray, List.set_cons_zero, List.set_cons_succ, i64_w, i32_w]
                          rfl
                        refine pure_ (i := 12) (N := some 5) (v := ?_) (a' := ?_) #[true, true, true, true, true, true, true, true, true, true, true, true, true] rfl rfl (any_of HT_.out (by kernel_rfl)) (fun _ _ _ h => h) (Or.inl ⟨by rfl, ?_⟩) ?_ ?_
                        rotate_left
                        · intro w'
                          go_simp
                          with_reducible rfl
                        rotate_left
                        · simp only [Act.put, List.setIfInBounds_toArray, List.set_cons_zero, List.set_cons_succ, i64_w, i32_w]
                          rfl
                        refine done_ (done_of HT_.out (by kernel_rfl)) ?_
                        have hnb51 := NB125_119.out
                        have hnc51 := NB119_125.out
                        have hcz52_0 : w49.cell? ⟨gb125, 0, none⟩ = some (.int .u16 ((rd_T43 l1_15 x12_1).f0)) := (blk_cell BK125.out 0).trans rfl
                        have hcz52_1 : w49.cell? ⟨gb125, 1, none⟩ = some (.int .u16 ((rd_T43 l1_15 x12_1).f1)) := (blk_cell BK125.out 1).trans rfl
                        have hcz52_2 : w49.cell? ⟨gb125, 2, none⟩ = some (.int .u16 ((rd_T43 l1_15 x12_1).f2)) := (blk_cell BK125.out 2).trans rfl
                        have hcz52_3 : w49.cell? ⟨gb125, 3, none⟩ = some (.slice A124_3 ((rd_T43 l1_15 x12_1).f3).length c124_3) := (blk_cell BK125.out 3).trans rfl
                        have hfz52_0 := blk_frozen BK125.out 0
                        have hfz52_1 := blk_frozen BK125.out 1
                        have hfz52_2 := blk_frozen BK125.out 2
                        have hfz52_3 := blk_frozen BK125.out 3
                        try go_wp2_with (first | ((with_reducible refine gate_callee (f := 49) rfl ?_); refine goesL_ (some 48) rfl rfl Try.func49 (by kernel_rfl) rfl #[.slice A124_3 ((rd_T43 l1_15 x12_1).f3).length c124_3] rfl (by (try simp only [List.map_toArray, List.map_cons, List.map_nil]); first | done | rfl | (simp only [List.length_drop, List.length_take]; rfl)) ?_; (with_reducible refine (word_Put.calls kj9 _ _ ((rd_T43 l1_15 x12_1).f3) t153 _ ?side1 ?side2 A36.out).mono ?_); (case side1 => repeat (first | exact (Kd.C_below HR124_3.out HB.out) | (with_reducible refine Kd.C_alloc ?_ _) | (with_reducible refine Kd.C_drewN ?_ _) | (with_reducible refine Kd.C_drew ?_))); (case side2 => exact HC124_3.out); rintro e w53 ⟨v154, rfl, ho0, hb⟩; refine ⟨_, rfl, ?_⟩; have n0_ := Aside0.mk (Kd.R_elder' (by (with_reducible repeat (first | apply Kd.R_alloc | apply Kd.R_drewN | apply Kd.R_drew)); exact HO140.out) (Kd.R_base ho0) hb); have n1_ := Aside0.mk (Kd.R_below (by (with_reducible repeat (first | apply Kd.R_alloc | apply Kd.R_drewN | apply Kd.R_drew)); exact HO146.out) hb); have n2_ := Aside0.mk (Kd.R_elder' (by (with_reducible repeat (first | apply Kd.R_alloc | apply Kd.R_drewN | apply Kd.R_drew)); exact HO149.out) (Kd.R_base ho0) hb); have n3_ := Aside0.mk (Kd.R_elder' (by (with_reducible repeat (first | apply Kd.R_alloc | apply Kd.R_drewN | apply Kd.R_drew)); exact HO152.out) (Kd.R_base ho0) hb); have n4_ := Aside0.mk (Kd.R_lower (Kd.R_new' (Kd.R_new' (Kd.R_new' ho0 (Kd.R_lt (by (with_reducible repeat (first | apply Kd.R_alloc | apply Kd.R_drewN | apply Kd.R_drew)); exact HO140.out))) (Kd.R_lt (by (with_reducible repeat (first | apply Kd.R_alloc | apply Kd.R_drewN | apply Kd.R_drew)); exact HO149.out))) (Kd.R_lt (by (with_reducible repeat (first | apply Kd.R_alloc | apply Kd.R_drewN | apply Kd.R_drew)); exact HO152.out))) (below_size (by repeat (first | (with_reducible first | exact HB.out | apply below_alloc | apply pw_below_drewN | apply below_drew1 | refine below_set ?_ GE119.out | refine below_set ?_ GE125.out) | exact HB.out)))); have n5_ := Aside0.mk (blk_below (g := gb119) (o := .cells #[.int .u8 a1_0, .int .u8 a1_1, .int .u16 a1_2, .int .u16 a1_3, .int .u16 a1_4, .int .u16 a1_5, .int .u16 a1_6, .int .u16 a1_7, .int .u16 a1_8, .int .u16 a1_9, .int .u16 a1_10, .int .u16 a1_11, .slice A1_12 l1_12.length c1_12, .slice A1_13 l1_13.length c1_13, .slice A1_14 l1_14.length c1_14, .slice (some ad124) l1_15.length c1_15, .int .u8 a1_16, .int .u8 a1_17, .int .u8 a1_18, .int .u8 a1_19, .int .u8 a1_20, .slice A1_21 l1_21.length c1_21] 30 (0, 0)) (by (with_reducible repeat (first | refine blk_drewN ?_ _ | refine blk_drew ?_ | refine blk_alloc ?_ _)); exact BK119.out) hb); have n6_ := Aside0.mk (blk_below (g := gb125) (o := .cells #[.int .u16 ((rd_T43 l1_15 x12_1).f0), .int .u16 ((rd_T43 l1_15 x12_1).f1), .int .u16 ((rd_T43 l1_15 x12_1).f2), .slice A124_3 ((rd_T43 l1_15 x12_1).f3).length c124_3] 43 (0, 0)) (by (with_reducible repeat (first | refine blk_drewN ?_ _ | refine blk_drew ?_ | refine blk_alloc ?_ _)); exact BK125.out) hb); have n7_ := Aside0.mk (below_step (by repeat (first | (with_reducible first | exact HB.out | apply below_alloc | apply pw_below_drewN | apply below_drew1 | refine below_set ?_ GE119.out | refine below_set ?_ GE125.out) | exact HB.out)) hb); clear HO140; clear HO146; clear HO149; clear HO152; clear BK119; clear BK125; clear HB; have HO140 := n0_; have HO146 := n1_; have HO149 := n2_; have HO152 := n3_; have HO155 := n4_; have BK119 := n5_; have BK125 := n6_; have HB := n7_; clear n0_ n1_ n2_ n3_ n4_ n5_ n6_ n7_; (try clear hb); (try clear hb2); (try clear hk); (try clear hi); (try clear ho0); obtain ⟨Ao55, co55, eo55⟩ := Kd.R_slice HO155.out; subst eo55) | ((with_reducible refine gate_builtin (b := .append) (xs := #[.tmp 45, .tmp 48]) rfl ?_); at_builtin; refine Kd.R_append_rows (Kd.int .u8) (w0 := w) w.heap.size rfl (.tmp 45) (.tmp 48) 22 5 (.int .u8 0) 1 rfl Try.underlying22 info5 rfl (by decide) (by omega) v151 y150 t153 _ _ _ (fun k_ => some k_ ≠ (v139 : Value).ownBlock ∧ some k_ ≠ (.slice Ao50 t147.length co50 : Value).ownBlock ∧ some k_ ≠ (.slice Ao55 t153.length co55 : Value).ownBlock) (fun _ => False) rfl rfl ?aO ?aR (fun _ _ h => h) (fun _ h => h.elim) ?aF ?aB ?aS ?aL ?_; (case aR => repeat (first | exact (Kd.R_reads' HO155.out).2.2 | (with_reducible refine Kd.C_alloc ?_ _) | (with_reducible refine Kd.C_drewN ?_ _) | (with_reducible refine Kd.C_drew ?_))); (case aB => exact (by repeat (first | (with_reducible first | exact HB.out | apply below_alloc | apply pw_below_drewN | apply below_drew1 | refine below_set ?_ GE119.out | refine below_set ?_ GE125.out) | exact HB.out))); (case aF => exact (fun k_ hk => ⟨Kd.fresh' (Kd.R_lt (by (with_reducible repeat (first | apply Kd.R_alloc | apply Kd.R_drewN | apply Kd.R_drew)); exact HO140.out)) k_ hk, Kd.fresh' (Kd.R_lt (by (with_reducible repeat (first | apply Kd.R_alloc | apply Kd.R_drewN | apply Kd.R_drew)); exact HO149.out)) k_ hk, Kd.fresh' (Kd.R_lt (by (with_reducible repeat (first | apply Kd.R_alloc | apply Kd.R_drewN | apply Kd.R_drew)); exact HO155.out)) k_ hk⟩)); (case aO => exact (by (with_reducible repeat (first | apply Kd.R_alloc | apply Kd.R_drewN | apply Kd.R_drew)); exact Kd.R_mono HO152.out (fun _ hk => ⟨hk.1.1, ⟨hk.1.2, hk.2⟩⟩))); (case aS => exact (below_size (by repeat (first | (with_reducible first | exact HB.out | apply below_alloc | apply pw_below_drewN | apply below_drew1 | refine below_set ?_ GE119.out | refine below_set ?_ GE125.out) | exact HB.out)))); (case aL => have := LMc37.out; omega); intro v157 w54 ho hb hg hat; rw [← Ny156.out] at ho; have n0_ := Aside0.mk (blk_grown (g := gb119) (o := .cells #[.int .u8 a1_0, .int .u8 a1_1, .int .u16 a1_2, .int .u16 a1_3, .int .u16 a1_4, .int .u16 a1_5, .int .u16 a1_6, .int .u16 a1_7, .int .u16 a1_8, .int .u16 a1_9, .int .u16 a1_10, .int .u16 a1_11, .slice A1_12 l1_12.length c1_12, .slice A1_13 l1_13.length c1_13, .slice A1_14 l1_14.length c1_14, .slice (some ad124) l1_15.length c1_15, .int .u8 a1_16, .int .u8 a1_17, .int .u8 a1_18, .int .u8 a1_19, .int .u8 a1_20, .slice A1_21 l1_21.length c1_21] 30 (0, 0)) (by (with_reducible repeat (first | refine blk_drewN ?_ _ | refine blk_drew ?_ | refine blk_alloc ?_ _)); exact BK119.out) hg (Kd.R_ne HO152.out BK119.out (by decide))); have n1_ := Aside0.mk (blk_grown (g := gb125) (o := .cells #[.int .u16 ((rd_T43 l1_15 x12_1).f0), .int .u16 ((rd_T43 l1_15 x12_1).f1), .int .u16 ((rd_T43 l1_15 x12_1).f2), .slice A124_3 ((rd_T43 l1_15 x12_1).f3).length c124_3] 43 (0, 0)) (by (with_reducible repeat (first | refine blk_drewN ?_ _ | refine blk_drew ?_ | refine blk_alloc ?_ _)); exact BK125.out) hg (Kd.R_ne HO152.out BK125.out (by decide))); have n2_ := Aside0.mk (Kd.R_after (ok := (fun k_ => some k_ ≠ (.slice Ao50 t147.length co50 : Value).ownBlock ∧ some k_ ≠ (.slice Ao55 t153.length co55 : Value).ownBlock)) (by (with_reducible repeat (first | apply Kd.R_alloc | apply Kd.R_drewN | apply Kd.R_drew)); exact Kd.R_mono HO140.out (fun _ hk => ⟨⟨hk.1.1, hk.2⟩, hk.1.2⟩)) hg hat); have n3_ := Aside0.mk (Kd.R_over' (by (with_reducible repeat (first | apply Kd.R_alloc | apply Kd.R_drewN | apply Kd.R_drew)); exact HO146.out) (Kd.R_typed (by (with_reducible repeat (first | apply Kd.R_alloc | apply Kd.R_drewN | apply Kd.R_drew)); exact HO152.out)) (by decide) hg); have n4_ := Aside0.mk (Kd.R_after (ok := (fun k_ => some k_ ≠ (v139 : Value).ownBlock ∧ some k_ ≠ (.slice Ao55 t153.length co55 : Value).ownBlock)) (by (with_reducible repeat (first | apply Kd.R_alloc | apply Kd.R_drewN | apply Kd.R_drew)); exact Kd.R_mono HO149.out (fun _ hk => ⟨⟨hk.1.1, hk.2⟩, hk.1.2⟩)) hg hat); have n5_ := Aside0.mk (Kd.R_after (ok := (fun k_ => some k_ ≠ (v139 : Value).ownBlock ∧ some k_ ≠ (.slice Ao50 t147.length co50 : Value).ownBlock)) (by (with_reducible repeat (first | apply Kd.R_alloc | apply Kd.R_drewN | apply Kd.R_drew)); exact Kd.R_mono HO155.out (fun _ hk => ⟨⟨hk.1.1.2, hk.1.2⟩, hk.2⟩)) hg hat); have n6_ := Aside0.mk (hb); have n7_ := Aside0.mk (ho); clear BK119; clear BK125; clear HO140; clear HO146; clear HO149; clear HO155; clear HB; clear HO152; have BK119 := n0_; have BK125 := n1_; have HO140 := n2_; have HO146 := n3_; have HO149 := n4_; have HO155 := n5_; have HB := n6_; have HO158 := n7_; clear n0_ n1_ n2_ n3_ n4_ n5_ n6_ n7_; clear ho hb hg hat))
                        go_roundg kj9
                        case measure => have := HK1.out; have := HJ9.out; omega
                        case rel => exact ⟨(y156), (wrap64 (x12_1 + 1)), (by first | rfl | (simp; done) | (simp [*]; done)), H', ⟨by have := HK1.out; have := HJ9.out; omega⟩, ⟨by (with_reducible repeat (first | apply Kd.R_alloc | apply Kd.R_drewN | apply Kd.R_drew)); exact Kd.R_mono HO158.out (fun _ hk => trivial)⟩, ⟨by (with_reducible repeat (first | refine blk_drewN ?_ _ | refine blk_drew ?_ | refine blk_alloc ?_ _)); exact BK119.out⟩, ⟨by repeat (first | (with_reducible first | exact HB.out | apply below_alloc | apply pw_below_drewN | apply below_drew1 | refine below_set ?_ GE119.out | refine below_set ?_ GE125.out) | exact HB.out)⟩⟩
                      · rw [if_neg c37] at H
                        exact absurd H (by simp)
                    · rw [if_neg c35] at H
                      exact absurd H (by simp)
                  · rw [if_neg c33] at H
                    exact absurd H (by simp)
          · rw [if_neg c9] at H
            exact absurd H (by simp)
        · rw [if_neg c8] at H
          exact absurd H (by simp)
      · rw [if_neg c7] at H
        have c7b0 : decide (x12_1 < (l1_15.length : Int)) = false := decide_eq_false c7
        clear c7
        by_cases c56 : 0 < (x5_1.length : Int)
        · rw [if_pos c56] at H
          have c56b0 : decide (0 < (x5_1.length : Int)) = true := decide_eq_true c56
          have c56b1 : decide (0 < x5_1.length) = true := decide_eq_true (by omega)
          clear c56
          obtain ⟨y123, hy123⟩ : ∃ y_ : List Int, y_ = (x5_1.set (0 : Int).toNat ((wrap64 ((x5_1.length : Int) - 1)) % 256)) := ⟨_, rfl⟩
          replace H : (some y123) = some r := by first | (rw [hy123]; with_reducible exact H) | (have H2_ := (Option.bind_some _ _).symm.trans H; rw [hy123]; with_reducible exact H2_) | (have H2_ := (Option.bind_some _ _).symm.trans H; with_reducible exact H2_) | with_reducible exact H | (rw [hy123]; exact H) | exact H
          have Ny123 := Aside0.mk hy123
          clear hy123
          obtain rfl := Option.some.inj H
          obtain ⟨Ao58, co58, eo58⟩ := Kd.R_slice HO_5.out
          subst eo58
          have p57 : 0 ≤ (0 : Int) := (by omega)
          have q57 : (0 : Int) < ((x5_1.length : Int) : Int) := of_decide_eq_true (by first | (with_reducible assumption) | assumption)
          have qi57 : (0 < x5_1.length) = True := eq_true (by omega)
          obtain ⟨go57, co57, eo57, gb57, gl57, cl57, HG57⟩ := Kd.R_form HO_5.out (by omega)
          (first | cases eo57 | (injection eo57 with ea_ en_ ec_; (first | subst ea_ | (injection ea_ with ea_; subst ea_)); subst ec_; clear en_))
          have GB57 := Aside0.mk gb57
          have GG57 := Aside0.mk HG57
          clear gb57 gl57 HG57
          obtain ⟨hx57_0, hf57_0⟩ := Kd.R_celln 0 HO_5.out (0 : Int) p57 q57
          (try rw [show ((0 : Int)).toNat = 0 from rfl] at hx57_0)
          (try simp only [Nat.reduceMul, Nat.zero_mul, Nat.zero_add, Nat.reduceAdd] at hx57_0)
          (try rw [show ((0 : Int)).toNat = 0 from rfl] at hf57_0)
          (try simp only [Nat.reduceMul, Nat.zero_mul, Nat.zero_add, Nat.reduceAdd] at hf57_0)
          replace p57 := eq_true p57
          replace q57 := eq_true q57
          have HP59 := Kd.R_putg HO_5.out (0 : Int) ((wrap64 ((x5_1.length : Int) - 1)) % 256)
          go_wp2_with (first | ((with_reducible refine gate_store (t := 5) (p := 56) rfl ?_); refine store_event (t := 5) (p := 56) (v := ?vo_w60) (w1 := (wr.setCell ⟨go57, (0 : Int).toNat, none⟩ (.int .u8 ((wrap64 ((x5_1.length : Int) - 1)) % 256)))) ?hg ?ho ?hn ?hr ?_; (case ho => rfl); (case hg => rfl); (case hn => rfl); (case hr => first | (go_simp; done) | (go_simp; rfl)); intro w60 hw; have hg : wr.grownBy w60 (some go57) := (by rw [hw]; exact HP59.2); have hp_ : Kd.R (Kd.int .u8) 5 w60 w.heap.size (fun _ => True) (.slice (some ⟨go57, 0, none⟩) x5_1.length co58) y123 := (by rw [hw, Ny123.out]; exact HP59.1); clear HP59; have n0_ := Aside0.mk (hp_); have n1_ := Aside0.mk (blk_grown (g := gb119) (o := .cells #[.int .u8 a1_0, .int .u8 a1_1, .int .u16 a1_2, .int .u16 a1_3, .int .u16 a1_4, .int .u16 a1_5, .int .u16 a1_6, .int .u16 a1_7, .int .u16 a1_8, .int .u16 a1_9, .int .u16 a1_10, .int .u16 a1_11, .slice A1_12 l1_12.length c1_12, .slice A1_13 l1_13.length c1_13, .slice A1_14 l1_14.length c1_14, .slice A1_15 l1_15.length c1_15, .int .u8 a1_16, .int .u8 a1_17, .int .u8 a1_18, .int .u8 a1_19, .int .u8 a1_20, .slice A1_21 l1_21.length c1_21] 30 (0, 0)) (by (with_reducible repeat (first | refine blk_drewN ?_ _ | refine blk_drew ?_ | refine blk_alloc ?_ _)); exact BK119.out) hg (Kd.R_ne HO_5.out BK119.out (by decide))); have n2_ := Aside0.mk ((by rw [hw]; exact below_set (HB.out) GB57.out : Below w.heap.size w w60)); clear HO_5; clear BK119; clear HB; have HO_5 := n0_; have BK119 := n1_; have HB := n2_; clear n0_ n1_ n2_; clear hg hw hp_))
          go_ret
          exact ⟨_, by first | rfl | (simp [errW_none, errW_some] <;> rfl) | (simp [*, errW_none, errW_some] <;> rfl), by (with_reducible repeat (first | apply Kd.R_alloc | apply Kd.R_drewN | apply Kd.R_drew)); exact HO_5.out, by repeat (first | (with_reducible first | exact HB.out | apply below_alloc | apply pw_below_drewN | apply below_drew1 | refine below_set ?_ GE119.out) | exact HB.out)⟩
        · rw [if_neg c56] at H
          exact absurd H (by simp)
end Go.Proofs.Ytdjeekpgcjcffaa.P
end
section
namespace Go.Proofs.Ytdjeekpgcjcffaa.Fil
open Go.RowKit Go.Proofs.Ytdjeekpgcjcffaa.P Go.Proofs.Ytdjeekpgcjcffaa.E Go.Proofs.Ytdjeekpgcjcffaa.Cur Go.Proofs.Ytdjeekpgcjcffaa.Cu Go.Proofs.Ytdjeekpgcjcffaa.Same Go.Proofs.Ytdjeekpgcjcffaa.Put Go.Proofs.Ytdjeekpgcjcffaa.Com Go.Proofs.YtdjeekpgcjcffaaW.PrintWords Go.Proofs.YtdjeekpgcjcffaaW.PrintLast Go.Proofs.YtdjeekpgcjcffaaW.PrintMore
def partL (told : Bool) (x : S43) : List Int := (if told = true then [(2 * (x.f3.length : Int) + 1) % 256, 6] else 6 :: putL [x.f0, x.f1, x.f2]) ++ putL x.f3
def flat (told : Bool) : List S43 → List Int
  | [] => []
  | x :: r => partL told x ++ flat told r
def isTold (dir code : Int) : Bool := decide (code = 20) && decide (dir = 1)
def lay (dir : Int) (m : Msg) : List Int := ((flat (isTold dir m.code) m.recs).length : Int) % 256 :: flat (isTold dir m.code) m.recs
theorem partL_bytes (t : Bool) (x : S43) : isBytes (partL t x) := by
  unfold partL
  refine isBytes_append ?_ (putL_bytes _)
  cases t with
  | true => rw [if_pos rfl]; intro y hy; simp only [List.mem_cons, List.not_mem_nil, or_false] at hy; rcases hy with rfl | rfl <;> omega
  | false =>
    rw [if_neg (by decide)]
    intro y hy
    rcases List.mem_cons.1 hy with rfl | hy
    · omega
    · exact putL_bytes _ y hy
theorem flat_bytes (t : Bool) : ∀ l, isBytes (flat t l)
  | [] => fun x h => by cases h
  | x :: r => isBytes_append (partL_bytes t x) (flat_bytes t r)
theorem flat_append (t : Bool) : ∀ a b, flat t (a ++ b) = flat t a ++ flat t b
  | [], b => rfl
  | x :: a, b => by simp only [List.cons_append, flat, flat_append t a b, List.append_assoc]
theorem lay_bytes {dir : Int} {m : Msg} : isBytes (lay dir m) := fun x hx => by
  rcases List.mem_cons.1 hx with rfl | hx
  · omega
  · exact flat_bytes _ _ x hx
theorem lay_len (dir : Int) (m : Msg) : (lay dir m).length = (flat (isTold dir m.code) m.recs).length + 1 := rfl
theorem partL_len (t : Bool) (x : S43) : 2 ≤ (partL t x).length ∧ 2 * x.f3.length ≤ (partL t x).length ∧ (partL t x).length ≤ 2 * x.f3.length + 7 := by
  unfold partL
  cases t <;> simp [putL_length] <;> omega
theorem flat_few (t : Bool) : ∀ l : List S43, (∀ r ∈ l, r.f3.length ≤ 200) → (flat t l).length ≤ 407 * l.length
  | [], _ => by simp [flat]
  | x :: r, h => by
    have h1 := flat_few t r (fun y hy => h y (List.mem_cons_of_mem _ hy))
    have h2 := (partL_len t x).2.2
    have h3 := h x List.mem_cons_self
    simp only [flat, List.length_append, List.length_cons]
    omega
theorem is16_3 {a b c : Int} (ha : 0 ≤ a ∧ a < 65536) (hb : 0 ≤ b ∧ b < 65536) (hc : 0 ≤ c ∧ c < 65536) : is16 [a, b, c] := fun x hx => by
  simp only [List.mem_cons, List.not_mem_nil, or_false] at hx
  rcases hx with rfl | rfl | rfl <;> assumption
theorem rd_at (l : List S43) (j : Nat) {x : S43} {r : List S43} (h : l.drop j = x :: r) : rd_T43 l (j : Int) = x ∧ l.drop (j + 1) = r ∧ j < l.length := by
  have hj : j < l.length := by
    rcases Nat.lt_or_ge j l.length with h1 | h1
    · exact h1
    · rw [List.drop_eq_nil_of_le h1] at h; cases h
  rw [List.drop_eq_getElem_cons hj] at h
  injection h with h1 h2
  refine ⟨?_, h2, hj⟩
  unfold rd_T43
  rw [Int.toNat_natCast, List.getD_eq_getElem?_getD, List.getElem?_eq_getElem hj]
  exact h1
theorem lay_loop {dir : Int} {m : Msg} : ∀ (rest : List S43) (j : Nat) (acc : List Int), (∀ r ∈ rest, goodRec r) → m.recs.drop j = rest → j ≤ acc.length → 0 < acc.length → acc.length + (flat (isTold dir m.code) rest).length ≤ 1000000 →
    Ev (fun k => files_lay.l0 k dir acc m.recs (m.recs.length : Int) (j : Int) m.code m.fail m.addr m.count m.value m.and_ m.or_ m.addr2 m.sub m.status m.events m.messages m.words m.bits m.data m.recs m.mei m.kind m.level m.more m.next m.objects) ((acc ++ flat (isTold dir m.code) rest).set 0 ((((acc ++ flat (isTold dir m.code) rest).length : Int) - 1) % 256))
  | [], j, acc, hg, hd, hj, ha, hl => by
    refine Ev.step (fun k => by rw [files_lay.l0]) ?_
    have hj : m.recs.length ≤ j := by
      rcases Nat.lt_or_ge j m.recs.length with h1 | h1
      · rw [List.drop_eq_getElem_cons h1] at hd; cases hd
      · exact h1
    have hl' : acc.length ≤ 1000000 := by simp only [flat] at hl; simpa using hl
    refine neg (by omega) (pos (by omega) (ret ?_))
    rw [wrap64_id (by omega) (by omega)]
    simp only [flat, List.append_nil]
    rfl
  | x :: r, j, acc, hg, hd, hj, ha, hl => by
    obtain ⟨e1, e2, e3⟩ := rd_at _ j hd
    obtain ⟨g0, g1, g2, g3⟩ := hg x List.mem_cons_self
    have hp := partL_len (isTold dir m.code) x
    simp only [flat, List.length_append] at hl
    have ih := lay_loop (dir := dir) (m := m) r (j + 1) (acc ++ partL (isTold dir m.code) x) (fun y hy => hg y (List.mem_cons_of_mem _ hy)) e2 (by rw [List.length_append]; omega) (by rw [List.length_append]; omega) (by rw [List.length_append]; omega)
    have q3 := put_ev x.f3 (fun y hy => g3 y hy) (by omega)
    have q1 := put_ev [x.f0, x.f1, x.f2] (is16_3 g0 g1 g2) (by simp)
    have ew : wrap64 ((j : Int) + 1) = ((j + 1 : Nat) : Int) := by rw [wrap64_id (by omega) (by omega)]; omega
    have ef : acc ++ flat (isTold dir m.code) (x :: r) = (acc ++ partL (isTold dir m.code) x) ++ flat (isTold dir m.code) r := by simp [flat]
    rw [ef]
    refine Ev.step (fun k => by rw [files_lay.l0, e1]) ?_
    refine pos (by omega) (pos (by omega) (pos (by omega) ?_))
    have J : ∀ b : Bool, b = isTold dir m.code → Ev (fun k => files_lay.j1 k dir acc m.recs (m.recs.length : Int) (j : Int) b m.code m.fail m.addr m.count m.value m.and_ m.or_ m.addr2 m.sub m.status m.events m.messages m.words m.bits m.data m.recs m.mei m.kind m.level m.more m.next m.objects x.f0 x.f1 x.f2 x.f3) (((acc ++ partL (isTold dir m.code) x) ++ flat (isTold dir m.code) r).set 0 (((((acc ++ partL (isTold dir m.code) x) ++ flat (isTold dir m.code) r).length : Int) - 1) % 256)) := by
      intro b hb
      refine Ev.step (fun k => by rw [files_lay.j1]) ?_
      cases b with
      | true =>
        refine pos rfl (bind0 rfl (pos (by simp; omega) (bind0 rfl (q3.bind (pos (by rw [putL_length]; simp; omega) ?_)))))
        have es : acc ++ [wrap64 (1 + wrap64 (2 * (x.f3.length : Int))) % 256, 6] ++ putL x.f3 = acc ++ partL (isTold dir m.code) x := by
          unfold partL
          rw [← hb, if_pos rfl, wrap64_id (x := 2 * (x.f3.length : Int)) (by omega) (by omega), wrap64_id (by omega) (by omega), Int.add_comm]
          simp
        rw [es, ew]
        exact ih
      | false =>
        refine neg (by decide) (bind0 rfl (pos (by simp; omega) (bind0 rfl (q1.bind (pos (by rw [putL_length]; simp; omega) (bind0 rfl (q3.bind (pos (by rw [putL_length]; simp [putL_length]; omega) ?_))))))))
        have es : acc ++ [6] ++ putL [x.f0, x.f1, x.f2] ++ putL x.f3 = acc ++ partL (isTold dir m.code) x := by
          unfold partL
          rw [← hb, if_neg (by decide)]
          simp
        rw [es, ew]
        exact ih
    by_cases hc : m.code = 20
    · refine pos hc (J _ ?_)
      unfold isTold
      by_cases h1 : dir = 1 <;> simp [hc, h1]
    · refine neg hc (J false ?_)
      unfold isTold
      simp [hc]
theorem lay_ev {dir : Int} {m : Msg} (hg : goodM m) (hb : (lay dir m).length ≤ 900000) (hr : m.recs.length ≤ 900000) : Ev (fun k => files_lay.f k dir m.code m.fail m.addr m.count m.value m.and_ m.or_ m.addr2 m.sub m.status m.events m.messages m.words m.bits m.data m.recs m.mei m.kind m.level m.more m.next m.objects) (lay dir m) := by
  rw [lay_len] at hb
  have := lay_loop (dir := dir) (m := m) m.recs 0 [0] hg.2.2.1 (by simp) (by simp) (by simp) (by simp; omega)
  have e : (([0] ++ flat (isTold dir m.code) m.recs).set 0 (((([0] ++ flat (isTold dir m.code) m.recs).length : Int) - 1) % 256)) = lay dir m := by
    unfold lay
    simp
  rw [e] at this
  exact this
theorem lay_c {dir : Int} {m : Msg} {cx : Array Value} {w : World} (hm : IsMsg w cx m) (hb : (lay dir m).length ≤ 900000) (hr : m.recs.length ≤ 900000) : Calls Try.prog 31 #[.int .i64 dir, .agg cx] w fun en w' => ∃ A c, en = .returned (.slice A (lay dir m).length c) ∧ (lay dir m).length ≤ c ∧ Kd.C (Kd.int .u8) w' A (lay dir m).length (lay dir m) ∧ Below w.heap.size w w' := by
  obtain ⟨k, hk⟩ := (lay_ev (dir := dir) hm.good hb hr).rounds
  obtain ⟨A12, c12, A13, c13, A14, c14, A15, c15, A21, c21, rfl, ok, ⟨hr12, hc12⟩, ⟨hr13, hc13⟩, ⟨hr14, hc14⟩, ⟨hr15, hc15⟩, ⟨hr21, hc21⟩⟩ := hm
  refine (files_lay.calls k dir _ _ _ _ _ _ _ _ _ _ _ _ A12 c12 m.words A13 c13 m.bits A14 c14 m.data A15 c15 m.recs _ _ _ _ _ A21 c21 m.objects _ w hr12 hc12 hr13 hc13 hr14 hc14 hr15 hc15 hr21 hc21 hk).mono ?_
  rintro en w' ⟨v, rfl, R, B⟩
  obtain ⟨A2, c2, rfl, h2, h3⟩ := Kd.R_reads R
  exact ⟨A2, c2, rfl, h2, h3, B⟩
theorem parse_c {dir code : Int} {l : List Int} (hs : l.length ≤ 1000000) (hb : isBytes l) : ParseC 12 dir code l (parse dir code l) := fun A c W hr hc2 => parse_any hr hc2 hs hb
def write (dir : Int) (m : Msg) : List Int × Int := writeR m (lay dir m) (parse dir m.code (lay dir m))
theorem write_c {dir : Int} {m : Msg} (hb : (lay dir m).length ≤ 900000) (hr : m.recs.length ≤ 900000) : WriteC 16 dir m (write dir m) := write_of (fun cx W hm => lay_c hm hb hr) (parse_c (by omega) lay_bytes)
end Go.Proofs.Ytdjeekpgcjcffaa.Fil
end
section
namespace Go.Proofs.Ytdjeekpgcjcffaa.Fil
open Go.RowKit Go.Proofs.Ytdjeekpgcjcffaa.P Go.Proofs.Ytdjeekpgcjcffaa.E Go.Proofs.Ytdjeekpgcjcffaa.Cur Go.Proofs.Ytdjeekpgcjcffaa.Cu Go.Proofs.Ytdjeekpgcjcffaa.Same Go.Proofs.Ytdjeekpgcjcffaa.Put Go.Proofs.Ytdjeekpgcjcffaa.Com Go.Proofs.YtdjeekpgcjcffaaW.PrintWords Go.Proofs.YtdjeekpgcjcffaaW.PrintLast Go.Proofs.YtdjeekpgcjcffaaW.PrintMore
theorem needS {c : Cu} {ok : Bool} {f : Int} (h : (c.need ok f).e = 0) (hf : f ≠ 0) : c.e = 0 ∧ ok = true ∧ c.need ok f = c := need_ok hf h
theorem writeR_ok {m : Msg} {l : List Int} {P : Msg × Int} (h : (writeR m l P).2 = 0) : P.2 = 0 ∧ P.1 = m ∧ writeR m l P = (l, 0) := by
  unfold writeR at h ⊢
  by_cases hc : P.2 = 0 ∧ sameB P.1 m = true
  · rw [if_pos hc]
    exact ⟨hc.1, (same_eq _ _).1 hc.2, rfl⟩
  · rw [if_neg hc] at h
    exact absurd h (by decide)
theorem writeR_no {m : Msg} {l : List Int} {P : Msg × Int} (h : (writeR m l P).2 ≠ 0) : writeR m l P = ([], 1) := by
  unfold writeR at h ⊢
  by_cases hc : P.2 = 0 ∧ sameB P.1 m = true
  · rw [if_pos hc] at h
    exact absurd rfl h
  · rw [if_neg hc]
theorem writeR_eq {m : Msg} {l : List Int} {P : Msg × Int} (h : P = (m, 0)) : writeR m l P = (l, 0) := by
  unfold writeR
  rw [h, if_pos ⟨rfl, same_refl m⟩]
theorem nd {c : Cu} {ok : Bool} {f : Int} (h : c.e ≠ 0) : (c.need ok f).e ≠ 0 := by rw [need_dead h]; exact h
theorem bd {c : Cu} (h : c.e ≠ 0) : c.byteS.e ≠ 0 := by rw [show c.byteS.e = c.e from bytesS_dead h 1]; exact h
theorem wd {c : Cu} (h : c.e ≠ 0) : c.wordS.e ≠ 0 := by rw [show c.wordS.e = c.e from wordsS_dead h 1]; exact h
theorem wsd {c : Cu} (h : c.e ≠ 0) (n : Int) : (c.wordsS n).e ≠ 0 := by rw [wordsS_dead h n]; exact h
theorem hd_dead {c : Cu} (h : c.e ≠ 0) : (head c).1.e ≠ 0 := nd (wd (nd (wd (nd (wd (nd (bd h)))))))
theorem wordR {t : List Int} (hb : isBytes t) (h : (cu t).wordS.e = 0) : ∃ t', t = putL [(cu t).wordV] ++ t' ∧ (cu t).wordS = cu t' ∧ isBytes t' ∧ 0 ≤ (cu t).wordV ∧ (cu t).wordV < 65536 := by
  obtain ⟨_, _, a, b, t', e1, e2, e3⟩ := word_ok h
  have e1 : t = a :: b :: t' := e1
  have ha := hb a (by rw [e1]; simp)
  have hb' := hb b (by rw [e1]; simp)
  refine ⟨t', ?_, e2, fun x hx => hb x (by rw [e1]; simp [hx]), by rw [e3]; omega, by rw [e3]; omega⟩
  rw [e3]
  simp only [putL, List.cons_append, List.nil_append]
  rw [show (a * 256 + b) / 256 % 256 = a by omega, show (a * 256 + b) % 256 = b by omega]
  exact e1
theorem wordW {v : Int} (hv : 0 ≤ v ∧ v < 65536) (t : List Int) : (cu (putL [v] ++ t)).wordV = v ∧ (cu (putL [v] ++ t)).wordS = cu t := by
  simp only [putL, List.cons_append, List.nil_append]
  exact ⟨by rw [wordV_cons]; omega, wordS_cons _ _ _⟩
theorem head_ok {t : List Int} (hb : isBytes t) (h : (head (cu t)).1.e = 0) : ∃ t', t = (6 :: putL [(head (cu t)).2.1, (head (cu t)).2.2.1, (head (cu t)).2.2.2]) ++ t' ∧ (head (cu t)).1 = cu t' ∧ isBytes t' ∧ (head (cu t)).2.1 ≠ 0 ∧ (head (cu t)).2.2.1 ≤ 9999 ∧ (head (cu t)).2.2.2 ≠ 0 := by
  have key : ∀ (c2 c4 c6 : Cu) (f0 f1 f2 : Int), c2 = (cu t).byteS.need ((cu t).byteV == 6) 9 → f0 = c2.wordV → c4 = c2.wordS.need (f0 != 0) 6 → f1 = c4.wordV → c6 = c4.wordS.need (decide (f1 ≤ 9999)) 7 → f2 = c6.wordV → (c6.wordS.need (f2 != 0) 5).e = 0 →
      ∃ t', t = (6 :: putL [f0, f1, f2]) ++ t' ∧ (c6.wordS.need (f2 != 0) 5) = cu t' ∧ isBytes t' ∧ f0 ≠ 0 ∧ f1 ≤ 9999 ∧ f2 ≠ 0 := by
    intro c2 c4 c6 f0 f1 f2 e2 g0 e4 g1 e6 g2 h
    obtain ⟨h6, k2, e8⟩ := needS h (by decide)
    have h6' : c6.e = 0 := by
      by_cases hz : c6.e = 0
      · exact hz
      · rw [show c6.wordS.e = c6.e from wordsS_dead hz 1] at h6; exact h6
    rw [e6] at h6'
    obtain ⟨h4, k1, e6'⟩ := needS h6' (by decide)
    have h4' : c4.e = 0 := by
      by_cases hz : c4.e = 0
      · exact hz
      · rw [show c4.wordS.e = c4.e from wordsS_dead hz 1] at h4; exact h4
    rw [e4] at h4'
    obtain ⟨h2, k0, e4'⟩ := needS h4' (by decide)
    have h2' : c2.e = 0 := by
      by_cases hz : c2.e = 0
      · exact hz
      · rw [show c2.wordS.e = c2.e from wordsS_dead hz 1] at h2; exact h2
    rw [e2] at h2'
    obtain ⟨h0, kk, e2'⟩ := needS h2' (by decide)
    obtain ⟨_, _, t1, e1, e1'⟩ := byte_ok h0
    have e1 : t = (cu t).byteV :: t1 := e1
    have hb1 : isBytes t1 := fun x hx => hb x (by rw [e1]; exact List.mem_cons_of_mem _ hx)
    have c2e : c2 = cu t1 := by rw [e2, e2', e1']
    subst c2e
    obtain ⟨t2, w0, s0, hb2, _⟩ := wordR hb1 h2
    have c4e : c4 = cu t2 := by rw [e4, e4', s0]
    subst c4e
    obtain ⟨t3, w1, s1, hb3, _⟩ := wordR hb2 h4
    have c6e : c6 = cu t3 := by rw [e6, e6', s1]
    subst c6e
    obtain ⟨t4, w2, s2, hb4, _⟩ := wordR hb3 h6
    refine ⟨t4, ?_, by rw [e8, s2], hb4, by simpa using k0, by simpa using k1, by simpa using k2⟩
    have k6 : (cu t).byteV = 6 := by simpa using kk
    rw [e1, k6, w0, w1, w2, g0, g1, g2]
    simp [putL]
  exact key _ _ _ _ _ _ rfl rfl rfl rfl rfl rfl h
theorem head_run {f0 f1 f2 : Int} (h0 : 0 ≤ f0 ∧ f0 < 65536) (h1 : 0 ≤ f1 ∧ f1 < 65536) (h2 : 0 ≤ f2 ∧ f2 < 65536) (k0 : f0 ≠ 0) (k1 : f1 ≤ 9999) (k2 : f2 ≠ 0) (t : List Int) : head (cu ((6 :: putL [f0, f1, f2]) ++ t)) = (cu t, f0, f1, f2) := by
  have e : (6 :: putL [f0, f1, f2]) ++ t = 6 :: (putL [f0] ++ (putL [f1] ++ (putL [f2] ++ t))) := by simp [putL]
  rw [e]
  simp only [head]
  rw [byteV_cons, byteS_cons, show ((6 : Int) == 6) = true from rfl, need_true, (wordW h0 _).1, (wordW h0 _).2, show (f0 != 0) = true by simpa using k0, need_true, (wordW h1 _).1, (wordW h1 _).2, decide_eq_true k1, need_true, (wordW h2 _).1, (wordW h2 _).2, show (f2 != 0) = true by simpa using k2, need_true]
def okPart (k : Nat) (x : S43) : Prop := if k = 1 then x.f0 = 0 ∧ x.f1 = 0 ∧ x.f2 = 0 ∧ 1 ≤ x.f3.length ∧ 2 * x.f3.length + 1 < 256 else (x.f0 ≠ 0 ∧ x.f1 ≤ 9999 ∧ x.f2 ≠ 0) ∧ (if k = 0 then x.f3 = [] else (x.f3.length : Int) = x.f2)
def okAll (k : Nat) : Int → List S43 → Prop
  | _, [] => True
  | s, x :: r => okPart k x ∧ (k = 0 → s + (2 + 2 * x.f2) ≤ 245) ∧ okAll k (if k = 0 then s + (2 + 2 * x.f2) else s) r
def rdK (k : Nat) : Rdp := if k = 0 then rd0 else if k = 1 then rd1 else rd2
def toldK (k : Nat) : Bool := decide (k = 1)
structure RdS (k : Nat) : Prop where
  dead : ∀ s c, c.e ≠ 0 → (rdK k s c).1.e ≠ 0
  ok : ∀ s t, isBytes t → (rdK k s (cu t)).1.e = 0 → ∃ t', t = partL (toldK k) (rdK k s (cu t)).2.1 ++ t' ∧ (rdK k s (cu t)).1 = cu t' ∧ isBytes t' ∧ okPart k (rdK k s (cu t)).2.1 ∧ (k = 0 → s + (2 + 2 * (rdK k s (cu t)).2.1.f2) ≤ 245) ∧ (rdK k s (cu t)).2.2 = (if k = 0 then s + (2 + 2 * (rdK k s (cu t)).2.1.f2) else s)
  run : ∀ s x t, goodRec x → okPart k x → (k = 0 → s + (2 + 2 * x.f2) ≤ 245) → rdK k s (cu (partL (toldK k) x ++ t)) = (cu t, x, if k = 0 then s + (2 + 2 * x.f2) else s)
theorem rds0 : RdS 0 := by
  refine ⟨fun s c h => nd (hd_dead h), fun s t hb h => ?_, fun s x t hg hk hs => ?_⟩
  · obtain ⟨⟨c1, g0, g1, g2⟩, eh⟩ : ∃ z, z = head (cu t) := ⟨_, rfl⟩
    have H := head_ok hb
    have er : rdK 0 s (cu t) = (c1.need (decide (s + (2 + 2 * g2) ≤ 245)) 5, ⟨g0, g1, g2, []⟩, s + (2 + 2 * g2)) := by
      show asked s (cu t) = _
      simp only [asked]
      rw [← eh]
    rw [← eh] at H
    rw [er] at h ⊢
    dsimp only at h H ⊢
    obtain ⟨h1, h2, h3⟩ := needS h (by decide)
    obtain ⟨t', e1, e2, e3, e4, e5, e6⟩ := H h1
    have h2 := of_decide_eq_true h2
    refine ⟨t', ?_, by rw [h3, e2], e3, ?_, fun _ => h2, rfl⟩
    · unfold partL toldK
      rw [if_neg (by decide)]
      simpa [putL] using e1
    · unfold okPart
      rw [if_neg (by decide)]
      exact ⟨⟨e4, e5, e6⟩, rfl⟩
  · unfold okPart at hk
    rw [if_neg (by decide), if_pos rfl] at hk
    obtain ⟨⟨k0, k1, k2⟩, k3⟩ := hk
    obtain ⟨f0, f1, f2, f3⟩ := x
    dsimp only at k0 k1 k2 k3
    subst k3
    have e : partL (toldK 0) ⟨f0, f1, f2, []⟩ ++ t = (6 :: putL [f0, f1, f2]) ++ t := by
      unfold partL toldK
      rw [if_neg (by decide)]
      simp [putL]
    rw [e]
    show asked s _ = _
    have hs := hs rfl
    simp only [asked]
    rw [head_run hg.1 hg.2.1 hg.2.2.1 k0 k1 k2]
    dsimp only at hs ⊢
    rw [decide_eq_true hs, need_true, if_pos trivial]
theorem rds2 : RdS 2 := by
  refine ⟨fun s c h => wsd (nd (hd_dead h)) _, fun s t hb h => ?_, fun s x t hg hk hs => ?_⟩
  · obtain ⟨⟨c1, g0, g1, g2⟩, eh⟩ : ∃ z, z = head (cu t) := ⟨_, rfl⟩
    have H := head_ok hb
    have er : rdK 2 s (cu t) = ((c1.need (decide (2 * g2 ≤ (c1.xs.length : Int))) 5).wordsS g2, ⟨g0, g1, g2, (c1.need (decide (2 * g2 ≤ (c1.xs.length : Int))) 5).wordsV g2⟩, s) := by
      show ((written (cu t)).1, (written (cu t)).2, s) = _
      simp only [written]
      rw [← eh]
    rw [← eh] at H
    rw [er] at h ⊢
    dsimp only at h H ⊢
    obtain ⟨h1, _, w1, w2, w3, w4⟩ := words_ok h
    obtain ⟨h1, h2, h3⟩ := needS h1 (by decide)
    obtain ⟨t', e1, e2, e3, e4, e5, e6⟩ := H h1
    rw [w3, w4, h3, e2]
    rw [h3, e2] at w2
    have w2 : 2 * g2 ≤ (t'.length : Int) := w2
    have hu : (t'.take (2 * g2.toNat)).length = 2 * g2.toNat := by rw [List.length_take]; omega
    have hub := isBytes_take e3 (2 * g2.toNat)
    show ∃ t'', t = partL (toldK 2) ⟨g0, g1, g2, Take.words (t'.take (2 * g2.toNat))⟩ ++ t'' ∧ cu (t'.drop (2 * g2.toNat)) = cu t'' ∧ isBytes t'' ∧ okPart 2 ⟨g0, g1, g2, Take.words (t'.take (2 * g2.toNat))⟩ ∧ _
    refine ⟨t'.drop (2 * g2.toNat), ?_, rfl, isBytes_drop e3 _, ?_, fun hk => absurd hk (by decide), rfl⟩
    · unfold partL toldK
      rw [if_neg (by decide), putL_words (by omega) hub, List.append_assoc, List.take_append_drop]
      exact e1
    · unfold okPart
      rw [if_neg (by decide), if_neg (by decide)]
      refine ⟨⟨e4, e5, e6⟩, ?_⟩
      show ((Take.words (t'.take (2 * g2.toNat))).length : Int) = g2
      rw [words_length (by omega) hub, hu]
      omega
  · unfold okPart at hk
    rw [if_neg (by decide), if_neg (by decide)] at hk
    obtain ⟨⟨k0, k1, k2⟩, k3⟩ := hk
    obtain ⟨f0, f1, f2, f3⟩ := x
    dsimp only at k0 k1 k2 k3
    have e : partL (toldK 2) ⟨f0, f1, f2, f3⟩ ++ t = (6 :: putL [f0, f1, f2]) ++ (putL f3 ++ t) := by
      unfold partL toldK
      rw [if_neg (by decide)]
      simp
    rw [e]
    show ((written _).1, (written _).2, s) = _
    simp only [written]
    rw [head_run hg.1 hg.2.1 hg.2.2.1 k0 k1 k2]
    dsimp only
    have hl := putL_length f3
    rw [show (decide (2 * f2 ≤ ((cu (putL f3 ++ t)).xs.length : Int))) = true from decide_eq_true (by show 2 * f2 ≤ ((putL f3 ++ t).length : Int); rw [List.length_append]; omega), need_true, wordsS_app _ _ (by omega), wordsV_app _ _ (by omega), words_putL (fun y hy => hg.2.2.2 y hy), if_neg (by decide)]
theorem rds1 : RdS 1 := by
  refine ⟨fun s c h => wsd (nd (bd (nd (bd h)))) _, fun s t hb h => ?_, fun s x t hg hk hs => ?_⟩
  · obtain ⟨k, ek⟩ : ∃ z, z = (cu t).byteV := ⟨_, rfl⟩
    obtain ⟨c1, e1⟩ : ∃ z, z = (cu t).byteS := ⟨_, rfl⟩
    obtain ⟨c2, e2⟩ : ∃ z, z = c1.need (decide (k % 2 = 1) && decide (3 ≤ k) && decide (k ≤ (c1.xs.length : Int))) 5 := ⟨_, rfl⟩
    obtain ⟨c4, e4⟩ : ∃ z, z = c2.byteS.need (c2.byteV == 6) 9 := ⟨_, rfl⟩
    have er : rdK 1 s (cu t) = (c4.wordsS (Int.tdiv (k - 1) 2), ⟨0, 0, 0, c4.wordsV (Int.tdiv (k - 1) 2)⟩, s) := by
      show ((told (cu t)).1, (told (cu t)).2, s) = _
      simp only [told]
      rw [← ek, ← e1, ← e2, ← e4]
    rw [er] at h ⊢
    dsimp only at h ⊢
    obtain ⟨h4, _, w1, w2, w3, w4⟩ := words_ok h
    rw [e4] at h4
    obtain ⟨h3, k6, n4⟩ := needS h4 (by decide)
    obtain ⟨h2, _, t2, b2, s2⟩ := byte_ok h3
    rw [e2] at h2
    obtain ⟨h1, kk, n2⟩ := needS h2 (by decide)
    rw [e1] at h1
    obtain ⟨_, _, t1, b1, s1⟩ := byte_ok h1
    have b1 : t = k :: t1 := by rw [ek]; exact b1
    have c1e : c1 = cu t1 := by rw [e1, s1]
    have c2e : c2 = cu t1 := by rw [e2, n2, c1e]
    have b2 : t1 = c2.byteV :: t2 := by have := b2; rw [c2e] at this ⊢; exact this
    have k6 : c2.byteV = 6 := by simpa using k6
    rw [k6] at b2
    have c4e : c4 = cu t2 := by rw [e4, n4, s2]
    simp only [Bool.and_eq_true, decide_eq_true_eq] at kk
    obtain ⟨⟨k1, k2⟩, k3⟩ := kk
    rw [tdiv_id (show 0 ≤ k - 1 by omega)] at w1 w2 w3 w4 ⊢
    rw [c4e] at w2 w3 w4 ⊢
    have w2 : 2 * ((k - 1) / 2) ≤ (t2.length : Int) := w2
    have hk := hb k (by rw [b1]; simp)
    have hb2 : isBytes t2 := fun y hy => hb y (by rw [b1, b2]; simp [hy])
    obtain ⟨q, eq⟩ : ∃ q : Nat, (k - 1) / 2 = (q : Int) := ⟨((k - 1) / 2).toNat, by omega⟩
    rw [eq] at w2 w3 w4 ⊢
    rw [w3, w4]
    have hu : (t2.take (2 * q)).length = 2 * q := by rw [List.length_take]; omega
    have hub := isBytes_take hb2 (2 * q)
    show ∃ t'', t = partL (toldK 1) ⟨0, 0, 0, Take.words (t2.take (2 * q))⟩ ++ t'' ∧ cu (t2.drop (2 * q)) = cu t'' ∧ isBytes t'' ∧ okPart 1 ⟨0, 0, 0, Take.words (t2.take (2 * q))⟩ ∧ _
    have wl := words_length (l := t2.take (2 * q)) (by omega) hub
    refine ⟨t2.drop (2 * q), ?_, rfl, isBytes_drop hb2 _, ?_, fun hk => absurd hk (by decide), rfl⟩
    · unfold partL toldK
      rw [if_pos (by decide), putL_words (by omega) hub, b1, b2]
      show k :: 6 :: t2 = (2 * ((Take.words (t2.take (2 * q))).length : Int) + 1) % 256 :: 6 :: (t2.take (2 * q) ++ t2.drop (2 * q))
      rw [List.take_append_drop, wl, hu, show (2 * ((2 * q / 2 : Nat) : Int) + 1) % 256 = k by omega]
    · unfold okPart
      rw [if_pos rfl]
      refine ⟨rfl, rfl, rfl, ?_, ?_⟩
      · show 1 ≤ (Take.words (t2.take (2 * q))).length
        omega
      · show 2 * (Take.words (t2.take (2 * q))).length + 1 < 256
        omega
  · unfold okPart at hk
    rw [if_pos rfl] at hk
    obtain ⟨f0, f1, f2, f3⟩ := x
    obtain ⟨k0, k1, k2, k3, k4⟩ := hk
    dsimp only at k0 k1 k2 k3 k4
    subst k0 k1 k2
    have hl := putL_length f3
    have e : partL (toldK 1) ⟨0, 0, 0, f3⟩ ++ t = (2 * (f3.length : Int) + 1) :: 6 :: (putL f3 ++ t) := by
      unfold partL toldK
      rw [if_pos (by decide)]
      show (2 * (f3.length : Int) + 1) % 256 :: 6 :: (putL f3 ++ t) = _
      rw [show (2 * (f3.length : Int) + 1) % 256 = 2 * (f3.length : Int) + 1 by omega]
    rw [e]
    show ((told _).1, (told _).2, s) = _
    simp only [told]
    rw [byteV_cons, byteS_cons]
    have ok : (decide ((2 * (f3.length : Int) + 1) % 2 = 1) && decide (3 ≤ 2 * (f3.length : Int) + 1) && decide (2 * (f3.length : Int) + 1 ≤ ((cu (6 :: (putL f3 ++ t))).xs.length : Int))) = true := by
      simp only [Bool.and_eq_true, decide_eq_true_eq]
      refine ⟨⟨by omega, by omega⟩, ?_⟩
      show 2 * (f3.length : Int) + 1 ≤ ((6 :: (putL f3 ++ t)).length : Int)
      simp only [List.length_cons, List.length_append]
      omega
    rw [ok, need_true, byteV_cons, byteS_cons, show ((6 : Int) == 6) = true from rfl, need_true, tdiv_id (show 0 ≤ 2 * (f3.length : Int) + 1 - 1 by omega), show (2 * (f3.length : Int) + 1 - 1) / 2 = (f3.length : Int) by omega, wordsS_app _ _ (by omega), wordsV_app _ _ (by omega), words_putL (fun y hy => hg.2.2.2 y hy), if_neg (by decide)]
theorem rds (k : Nat) (h : k = 0 ∨ k = 1 ∨ k = 2) : RdS k := by
  rcases h with rfl | rfl | rfl
  · exact rds0
  · exact rds1
  · exact rds2
theorem parts_nil (rd : Rdp) (N : Nat) (s : Int) : partsG rd N s (cu []) = (cu [], []) := by
  cases N with
  | zero => rfl
  | succ N => simp only [partsG]; rw [if_pos (.inl rfl)]
theorem parts_dead (rd : Rdp) (N : Nat) (s : Int) {c : Cu} (h : c.e ≠ 0) : partsG rd N s c = (c, []) := by
  cases N with
  | zero => rfl
  | succ N => simp only [partsG]; rw [if_pos (.inr h)]
theorem parts_ok {k : Nat} (R : RdS k) : ∀ (N : Nat) (s : Int) (t : List Int), isBytes t → t.length ≤ N → (partsG (rdK k) N s (cu t)).1.e = 0 → t = flat (toldK k) (partsG (rdK k) N s (cu t)).2 ∧ okAll k s (partsG (rdK k) N s (cu t)).2 := by
  intro N
  induction N with
  | zero =>
    intro s t hb hl h
    have : t = [] := List.eq_nil_of_length_eq_zero (by omega)
    subst this
    exact ⟨rfl, trivial⟩
  | succ N ih =>
    intro s t hb hl h
    by_cases ht : t = []
    · subst ht
      rw [parts_nil]
      exact ⟨rfl, trivial⟩
    · simp only [partsG] at h ⊢
      rw [if_neg (by rintro (h | h); exact ht h; exact h rfl)] at h ⊢
      by_cases he : (rdK k s (cu t)).1.e = 0
      · obtain ⟨t', e1, e2, e3, e4, e5, e6⟩ := R.ok s t hb he
        dsimp only at h ⊢
        rw [e2] at h ⊢
        have hp := partL_len (toldK k) (rdK k s (cu t)).2.1
        have hl2 : t'.length ≤ N := by
          have := congrArg List.length e1
          rw [List.length_append] at this
          omega
        obtain ⟨i1, i2⟩ := ih _ t' e3 hl2 h
        refine ⟨?_, e4, e5, ?_⟩
        · simp only [flat]
          rw [← i1]
          exact e1
        · rw [e6] at i2 ⊢
          exact i2
      · exfalso
        dsimp only at h
        rw [parts_dead _ _ _ he] at h
        exact he h
theorem parts_run {k : Nat} (R : RdS k) : ∀ (l : List S43) (N : Nat) (s : Int), (∀ r ∈ l, goodRec r) → okAll k s l → l.length ≤ N → partsG (rdK k) N s (cu (flat (toldK k) l)) = (cu [], l) := by
  intro l
  induction l with
  | nil => intro N s _ _ _; exact parts_nil _ _ _
  | cons x r ih =>
    intro N s hg hk hl
    obtain ⟨N, rfl⟩ : ∃ N', N = N' + 1 := ⟨N - 1, by simp at hl; omega⟩
    obtain ⟨k1, k2, k3⟩ := hk
    have hp := partL_len (toldK k) x
    have hne : ¬ ((cu (partL (toldK k) x ++ flat (toldK k) r)).xs = [] ∨ (cu (partL (toldK k) x ++ flat (toldK k) r)).e ≠ 0) := by
      rintro (h | h)
      · have h : partL (toldK k) x ++ flat (toldK k) r = [] := h
        have := congrArg List.length h
        rw [List.length_append, List.length_nil] at this
        omega
      · exact h rfl
    show partsG (rdK k) (N + 1) s (cu (partL (toldK k) x ++ flat (toldK k) r)) = _
    unfold partsG
    rw [if_neg hne, R.run s x _ (hg x List.mem_cons_self) k1 k2]
    dsimp only
    rw [ih N _ (fun y hy => hg y (List.mem_cons_of_mem _ hy)) k3 (by rw [List.length_cons] at hl; omega)]
theorem body_ok {rd : Rdp} {may : Int → Bool} {bs : List Int} (hb : isBytes bs) (h : (body rd may bs).1.fin.e = 0) : ∃ t, bs = (t.length : Int) :: t ∧ may t.length = true ∧ (partsG rd t.length 0 (cu t)).1.e = 0 ∧ (body rd may bs).2 = (partsG rd t.length 0 (cu t)).2 := by
  obtain ⟨h1, h2⟩ := fin_ok h
  obtain ⟨n, en⟩ : ∃ z, z = (cu bs).byteV := ⟨_, rfl⟩
  obtain ⟨c2, e2⟩ : ∃ z, z = (cu bs).byteS.need (may n) 5 := ⟨_, rfl⟩
  obtain ⟨p, ep⟩ : ∃ z, z = partsG rd (c2.bytesV n).length 0 (cu (c2.bytesV n)) := ⟨_, rfl⟩
  have eb : body rd may bs = ((c2.bytesS n).need (p.1.e == 0) (within p.1.e), p.2) := by
    simp only [body]
    rw [← en, ← e2, ← ep]
  rw [eb] at h1 h2 ⊢
  dsimp only at h1 h2 ⊢
  obtain ⟨h3, h4, h5⟩ := need_ok' (fun e_ => by rw [within_ne e_]; rfl) h1
  rw [h5] at h2
  obtain ⟨h6, _, w1, w2, w3, w4⟩ := bytes_ok h3
  rw [e2] at h6
  obtain ⟨h7, k1, n2⟩ := needS h6 (by decide)
  obtain ⟨_, _, t, b1, s1⟩ := byte_ok h7
  have b1 : bs = n :: t := by rw [en]; exact b1
  have c2e : c2 = cu t := by rw [e2, n2, s1]
  rw [c2e] at w2 w3 w4 h2 ep
  rw [w3] at h2
  have h2 : t.drop n.toNat = [] := h2
  have w2 : n ≤ (t.length : Int) := w2
  have hl : t.length ≤ n.toNat := List.drop_eq_nil_iff.1 h2
  have hn : n = (t.length : Int) := by omega
  have w4 : (cu t).bytesV n = t := by rw [w4]; show t.take n.toNat = t; exact List.take_of_length_le hl
  rw [w4] at ep
  refine ⟨t, by rw [← hn]; exact b1, by rw [← hn]; exact k1, ?_, by rw [ep]⟩
  rw [← ep]
  simpa using h4
theorem body_run {rd : Rdp} {may : Int → Bool} {t : List Int} (hm : may t.length = true) (hp : (partsG rd t.length 0 (cu t)).1.e = 0) (x : List Int) : body rd may ((t.length : Int) :: (t ++ x)) = (cu x, (partsG rd t.length 0 (cu t)).2) := by
  simp only [body]
  rw [byteV_cons, byteS_cons, hm, need_true, bytesV_app _ _ rfl, bytesS_app _ _ rfl, hp, show ((0 : Int) == 0) = true from rfl, need_true]
def kOf (dir code : Int) : Nat := if code = 20 then (if dir = 0 then 0 else 1) else 2
def mayK (k : Nat) : Int → Bool := if k = 0 then may0 else if k = 1 then may1 else may2
theorem kOf_3 (dir code : Int) : kOf dir code = 0 ∨ kOf dir code = 1 ∨ kOf dir code = 2 := by
  unfold kOf
  split
  · split
    · exact .inl rfl
    · exact .inr (.inl rfl)
  · exact .inr (.inr rfl)
theorem kOf_told {dir code : Int} (hd : dir = 0 ∨ dir = 1) (hc : code = 20 ∨ code = 21) : toldK (kOf dir code) = isTold dir code := by
  rcases hd with rfl | rfl <;> rcases hc with rfl | rfl <;> rfl
theorem parse_eq {dir code : Int} (hd : dir = 0 ∨ dir = 1) (hc : code = 20 ∨ code = 21) (bs : List Int) : parse dir code bs = outc code (body (rdK (kOf dir code)) (mayK (kOf dir code)) bs) := by
  unfold parse
  rw [if_neg (by omega), if_neg (by omega)]
  rcases hd with rfl | rfl <;> rcases hc with rfl | rfl <;> rfl
theorem parse_ok {dir code : Int} {b : List Int} (h : (parse dir code b).2 = 0) : (dir = 0 ∨ dir = 1) ∧ (code = 20 ∨ code = 21) ∧ (body (rdK (kOf dir code)) (mayK (kOf dir code)) b).1.fin.e = 0 ∧ parse dir code b = ({ zeroM with code := code, recs := (body (rdK (kOf dir code)) (mayK (kOf dir code)) b).2 }, 0) := by
  by_cases h1 : dir ≠ 0 ∧ dir ≠ 1
  · unfold parse at h; rw [if_pos h1] at h; exact absurd h (by decide)
  by_cases h2 : code ≠ 20 ∧ code ≠ 21
  · unfold parse at h; rw [if_neg h1, if_pos h2] at h; exact absurd h (by decide)
  have hd : dir = 0 ∨ dir = 1 := by omega
  have hc : code = 20 ∨ code = 21 := by omega
  rw [parse_eq hd hc] at h ⊢
  unfold outc at h ⊢
  by_cases h3 : (body (rdK (kOf dir code)) (mayK (kOf dir code)) b).1.fin.e ≠ 0
  · rw [if_pos h3] at h; exact absurd h h3
  rw [if_neg h3]
  exact ⟨hd, hc, by simpa using h3, rfl⟩
theorem parse_all {dir code : Int} {b : List Int} (hb : isBytes b) (h : (parse dir code b).2 = 0) : ∃ t l, b = (t.length : Int) :: t ∧ mayK (kOf dir code) t.length = true ∧ t = flat (isTold dir code) l ∧ okAll (kOf dir code) 0 l ∧ (partsG (rdK (kOf dir code)) t.length 0 (cu t)).1.e = 0 ∧ parse dir code b = ({ zeroM with code := code, recs := l }, 0) ∧ (dir = 0 ∨ dir = 1) ∧ (code = 20 ∨ code = 21) := by
  obtain ⟨hd, hc, hf, e⟩ := parse_ok h
  obtain ⟨t, e1, e2, e3, e4⟩ := body_ok hb hf
  have hbt : isBytes t := fun x hx => hb x (by rw [e1]; exact List.mem_cons_of_mem _ hx)
  obtain ⟨i1, i2⟩ := parts_ok (rds _ (kOf_3 dir code)) t.length 0 t hbt (Nat.le_refl _) e3
  rw [kOf_told hd hc] at i1
  exact ⟨t, _, e1, e2, i1, i2, e3, by rw [e, e4], hd, hc⟩
theorem mayK_lt {k : Nat} {n : Nat} (h : mayK k n = true) : n < 256 := by
  unfold mayK may0 may1 may2 at h
  split at h
  · simp only [Bool.and_eq_true, decide_eq_true_eq] at h; omega
  · split at h <;> simp only [Bool.and_eq_true, decide_eq_true_eq] at h <;> omega
theorem flat_recs (t : Bool) : ∀ l : List S43, l.length ≤ (flat t l).length
  | [] => by simp [flat]
  | x :: r => by
    have h1 := flat_recs t r
    have h2 := (partL_len t x).1
    simp only [flat, List.length_append, List.length_cons]
    omega
def mayW (dir : Int) (m : Msg) : Prop := ((dir = 0 ∨ dir = 1) ∧ (m.code = 20 ∨ m.code = 21)) ∧ m = { zeroM with code := m.code, recs := m.recs } ∧ mayK (kOf dir m.code) (flat (isTold dir m.code) m.recs).length = true ∧ okAll (kOf dir m.code) 0 m.recs
theorem write_parse {dir : Int} {m : Msg} (hg : goodM m) (h : mayW dir m) : parse dir m.code (lay dir m) = (m, 0) := by
  obtain ⟨⟨hd, hc⟩, h1, h2, h3⟩ := h
  rw [parse_eq hd hc]
  have hl := mayK_lt h2
  have er := parts_run (rds _ (kOf_3 dir m.code)) m.recs (flat (isTold dir m.code) m.recs).length 0 hg.2.2.1 h3 (flat_recs _ _)
  rw [kOf_told hd hc] at er
  have eb := body_run (rd := rdK (kOf dir m.code)) (may := mayK (kOf dir m.code)) h2 (by rw [er]; rfl) []
  rw [List.append_nil, er] at eb
  unfold lay
  rw [show ((flat (isTold dir m.code) m.recs).length : Int) % 256 = ((flat (isTold dir m.code) m.recs).length : Int) by omega, eb]
  unfold outc
  rw [if_neg (by rw [fin_cu_nil]; simp [cu])]
  dsimp only
  exact Prod.ext h1.symm rfl
theorem write_ok {dir : Int} {m : Msg} (hg : goodM m) (h : (write dir m).2 = 0) : mayW dir m := by
  obtain ⟨h1, h2, _⟩ := writeR_ok h
  obtain ⟨t, l, e1, e2, e3, e4, e5, e6, hd, hc⟩ := parse_all lay_bytes h1
  rw [e6] at h2
  have h2 : { zeroM with code := m.code, recs := l } = m := h2
  have hl : m.recs = l := by rw [← h2]
  have ht : t = flat (isTold dir m.code) m.recs := by
    unfold lay at e1
    injection e1 with _ e1
    exact e1.symm
  rw [← hl] at e4
  rw [ht] at e2
  exact ⟨⟨hd, hc⟩, by rw [hl]; exact h2.symm, e2, e4⟩
theorem write_yes {dir : Int} {m : Msg} (hg : goodM m) (h : mayW dir m) : write dir m = (lay dir m, 0) := by
  unfold write
  exact writeR_eq (write_parse hg h)
theorem few_small {m : Msg} (h : fewB m = true) (dir : Int) : (lay dir m).length ≤ 900000 ∧ m.recs.length ≤ 900000 ∧ (lay dir m).length ≤ 20351 := by
  unfold fewB at h
  simp only [Bool.and_eq_true, decide_eq_true_eq, List.all_eq_true] at h
  obtain ⟨⟨h1, h2, h3, h4, h5⟩, h6, h7⟩ := h
  have := flat_few (isTold dir m.code) m.recs h6
  rw [lay_len]
  omega
end Go.Proofs.Ytdjeekpgcjcffaa.Fil
end
section
namespace Go.Proofs.Ytdjeekpgcjcffaa.Fil
open Go.RowKit Go.Proofs.Ytdjeekpgcjcffaa.P Go.Proofs.Ytdjeekpgcjcffaa.E Go.Proofs.Ytdjeekpgcjcffaa.Cur Go.Proofs.Ytdjeekpgcjcffaa.Cu Go.Proofs.Ytdjeekpgcjcffaa.Same Go.Proofs.Ytdjeekpgcjcffaa.Put Go.Proofs.Ytdjeekpgcjcffaa.Com Go.Proofs.Ytdjeekpgcjcffaa.Fil Go.Proofs.YtdjeekpgcjcffaaW.PrintWords Go.Proofs.YtdjeekpgcjcffaaW.PrintLast Go.Proofs.YtdjeekpgcjcffaaW.PrintMore
def mkF (code : Int) (l : List S43) : Msg := { zeroM with code := code, recs := l }
theorem mkF_is {code : Int} (hc : 0 ≤ code ∧ code < 256) {l : List S43} {A : Option Addr} {n : Nat} {W : World} (hn : l.length ≤ n) (hg : ∀ o ∈ l, goodRec o) (hr : Kd.C k43 W A l.length l) : IsMsg W ((codeC code).setIfInBounds 15 (.slice A l.length n)) (mkF code l) := set_recs (codeC_is hc W) hn hg hr
theorem mkF_good {code : Int} (hc : 0 ≤ code ∧ code < 256) {l : List S43} (hg : ∀ o ∈ l, goodRec o) : goodM (mkF code l) := by
  obtain ⟨h1, h2, h3, h4⟩ := good_code zero_good hc
  exact ⟨h1, h2, fun r hr => hg r hr, h4⟩
theorem C_rec1 (x : S43) {A : Option Addr} {n : Nat} {w : World} {g : Nat} (hb : w.heap[g]? = some (.cells (recC x.f0 x.f1 x.f2 (.slice A x.f3.length n)) 43 (0, 0))) (hz : x.f3.length ≤ n) (hr : Kd.C (Kd.int .u16) w A x.f3.length x.f3) : Kd.C k43 w (some ⟨g, 0, none⟩) 1 [x] := by
  have hC : Kd.C kRawR w (some ⟨g, 0, none⟩) 1 [⟨x.f0, x.f1, x.f2, A, x.f3.length, n⟩] := by
    refine ⟨rfl, by simp [maxLen], fun _ => ⟨_, rfl, fun j p hj => ?_⟩⟩
    obtain ⟨hj1, rfl⟩ := List.getElem?_eq_some_iff.1 hj
    have : j = 0 := by simpa using hj1
    subst this
    refine ⟨_, rfl, rfl, fun i u hu => ?_⟩
    have e : (⟨g, 0, none⟩ : Addr).add (0 * 4 + i) = ⟨g, i, none⟩ := by unfold Addr.add; split <;> simp_all
    show w.cell? ((⟨g, 0, none⟩ : Addr).add (0 * 4 + i)) = some u
    rw [e, blk_cell hb i]
    simpa using hu
  exact zipR_C hC (by
    refine ⟨rfl, fun j a b ha hb => ?_⟩
    obtain ⟨hj1, rfl⟩ := List.getElem?_eq_some_iff.1 ha
    have : j = 0 := by simpa using hj1
    subst this
    obtain rfl : b = x := by simpa using hb.symm
    exact ⟨rfl, rfl, rfl, rfl, hz, hr⟩)
theorem ev_rec1 {ops : Array Oper} {rest : List Oper} {o : Oper} {a : Act} {w : World} {Q : Exit → Act → World → Prop} (x : S43) (A : Option Addr) (n : Nat) (hgd : o.guard = none)
    (hrun : (execOp a.eval o).run Try.prog w = .ok (.value (.slice (some ⟨w.heap.size, 0, none⟩) 1 1)) (w.alloc (.cells (recC x.f0 x.f1 x.f2 (.slice A x.f3.length n)) 43 (0, 0)))) (hz : x.f3.length ≤ n) (hr : Kd.C (Kd.int .u16) w A x.f3.length x.f3)
    (h : ∀ A1 c1 w1, Kd.C k43 w1 A1 1 [x] → 1 ≤ c1 → Below w.heap.size w w1 → wpList Try.prog ops Q rest (a.put o.dst (.slice A1 1 c1)) w1) : wpList Try.prog ops Q (o :: rest) a w := by
  have hB := below_alloc (Below.refl w.heap.size w) (.cells (recC x.f0 x.f1 x.f2 (.slice A x.f3.length n)) 43 (0, 0))
  exact Kd.event_run hgd hrun (h _ _ _ (C_rec1 x (blk_new w _) hz (Kd.C_below hr hB)) (Nat.le_refl _) hB)
theorem sta_R (A : Option Addr) (n : Nat) (l : List S43) : Sta (fun W => Kd.C k43 W A n l) := fun _ _ hb h => Kd.C_below h hb
theorem bytes_dec (l : List Int) (h : l.all (fun x => decide (0 ≤ x) && decide (x < 256)) = true) : isBytes l := fun x hx => by
  have := List.all_eq_true.1 h x hx
  simpa using this
theorem mk_c {dir : Int} {m : Msg} (hl : (lay dir m).length ≤ 900000) (hr : m.recs.length ≤ 900000) {R : List Int × Int} (e : write dir m = R) : WriteC 16 dir m R := by
  rw [← e]
  exact write_c hl hr
theorem good1 {x : S43} (h : goodRec x) : ∀ o ∈ [x], goodRec o := fun o ho => by obtain rfl := List.mem_singleton.1 ho; exact h
theorem good_h {a b c : Int} (ha : 0 ≤ a ∧ a < 65536) (hb : 0 ≤ b ∧ b < 65536) (hc : 0 ≤ c ∧ c < 65536) : goodRec (⟨a, b, c, []⟩ : S43) := ⟨ha, hb, hc, fun x hx => by cases hx⟩
theorem good_w {ws : List Int} (h : ∀ x ∈ ws, 0 ≤ x ∧ x < 65536) : goodRec (⟨0, 0, 0, ws⟩ : S43) := ⟨zero16, zero16, zero16, h⟩
theorem heads_may {f r c : Int} : mayW 0 (mkF 20 [⟨f, r, c, []⟩]) ↔ f ≠ 0 ∧ r ≤ 9999 ∧ c ≠ 0 ∧ c ≤ 121 := by
  unfold mayW
  have e1 : kOf 0 (mkF 20 [⟨f, r, c, []⟩]).code = 0 := rfl
  have e2 : (flat (isTold 0 (mkF 20 [⟨f, r, c, []⟩]).code) (mkF 20 [⟨f, r, c, []⟩]).recs).length = 7 := rfl
  rw [e1, e2]
  constructor
  · rintro ⟨_, _, _, h1, h2, _⟩
    unfold okPart at h1
    rw [if_neg (by decide)] at h1
    have h2 := h2 rfl
    have h2 : 0 + (2 + 2 * c) ≤ 245 := h2
    obtain ⟨⟨a1, a2, a3⟩, _⟩ := h1
    exact ⟨a1, a2, a3, by omega⟩
  · rintro ⟨a1, a2, a3, a4⟩
    refine ⟨⟨.inl rfl, .inl rfl⟩, rfl, by decide, ?_, fun _ => ?_, trivial⟩
    · unfold okPart
      rw [if_neg (by decide)]
      exact ⟨⟨a1, a2, a3⟩, rfl⟩
    · show 0 + (2 + 2 * c) ≤ 245
      omega
theorem ex1 : parse 0 20 [7, 6, 0, 4, 0, 1, 0, 2] = (mkF 20 [⟨4, 1, 2, []⟩], 0) := by
  have h := write_parse (dir := 0) (m := mkF 20 [⟨4, 1, 2, []⟩]) (mkF_good (by decide) (good1 (good_h (by decide) (by decide) (by decide)))) (heads_may.2 (by decide))
  exact h
theorem ex2 : write 1 (mkF 20 [⟨0, 0, 0, [7]⟩]) = ([4, 3, 6, 0, 7], 0) := by
  refine write_yes (mkF_good (by decide) (good1 (good_w (fun x hx => by obtain rfl := List.mem_singleton.1 hx; decide)))) ⟨⟨.inr rfl, .inl rfl⟩, rfl, by decide, ?_, fun h => absurd h (by decide), trivial⟩
  show okPart 1 _
  unfold okPart
  rw [if_pos rfl]
  exact ⟨rfl, rfl, rfl, by decide, by decide⟩
end Go.Proofs.Ytdjeekpgcjcffaa.Fil
end
section
namespace Go.Proofs.Ytdjeekpgcjcffaa.Laws
open Go.RowKit Go.Proofs.Ytdjeekpgcjcffaa.P Go.Proofs.Ytdjeekpgcjcffaa.E Go.Proofs.Ytdjeekpgcjcffaa.Cur Go.Proofs.Ytdjeekpgcjcffaa.Cu Go.Proofs.Ytdjeekpgcjcffaa.Same Go.Proofs.Ytdjeekpgcjcffaa.Put Go.Proofs.Ytdjeekpgcjcffaa.Com Go.Proofs.Ytdjeekpgcjcffaa.Fil Go.Proofs.YtdjeekpgcjcffaaW.PrintWords Go.Proofs.YtdjeekpgcjcffaaW.PrintLast Go.Proofs.YtdjeekpgcjcffaaW.PrintMore
theorem awake_any (w : World) :
    Calls Try.prog 11 #[] w fun e w' => e = .returned (.bool true) ∧ Below w.heap.size w w' := by
  have H1 := Aside0.mk (show ParseC 12 0 20 [7, 6, 0, 4, 0, 1, 0, 2] (mkF 20 [⟨4, 1, 2, []⟩], 0) from by rw [← ex1]; exact parse_c (by decide) (bytes_dec _ (by decide)))
  have H2 := Aside0.mk (show WriteC 16 1 (mkF 20 [⟨0, 0, 0, [7]⟩]) ([4, 3, 6, 0, 7], 0) from mk_c (by decide) (by decide) ex2)
  have H := Aside0.mk (Hd.start w)
  go_enter Try.func11, Try.ntmps11
  go_upto_region 2 with (first | ((with_reducible refine gate_dst (N := 6) rfl ?_); (try (refine gate_guard (by rfl) ?_; dsimp only)); refine ev_lit .u8 [7, 6, 0, 4, 0, 1, 0, 2] 5 rfl (by first | (go_simp; done) | (go_simp; rfl)) (by simp) ?_; intro Aa ca wl ba he_ hr_ hz_ hb_; have Za := Aside0.mk hz_; have Ea := Aside0.mk he_; have n0_ := Aside0.mk ((H.out.on hb_).add (sta_C _ _ _ _) (hr_)); clear H; have H := n0_; clear n0_; clear hr_ hz_ hb_ he_) | (go_at_call 12; (with_reducible refine (ParseC.c (ParseC.ex H1.out Ea.out) H.out.f.2 Za.out).mono ?_); rintro en wm ⟨cm, rfl, hm_, hb_⟩; have n0_ := Aside0.mk ((H.out.on hb_).add (sta_msg _ _) (hm_)); clear H; have H := n0_; clear n0_; clear hb_ hm_) | ((with_reducible refine gate_dst (N := 1) rfl ?_); refine ev_var (y := .tmp 8) rfl rfl rfl rfl rfl H.out.f.2 rfl rfl ?_; intro gm wv hg_ h1_ hb_; have n0_ := Aside0.mk ((H.out.on hb_).add (sta_blk _ _) (h1_)); clear H; have H := n0_; clear n0_; clear h1_ hb_ hg_))
  obtain ⟨A12, c12, A13, c13, A14, c14, A15, c15, A21, c21, ⟨_, _, _, l15, _⟩, _, _, _, R15, _⟩ := IsMsg.lists H.out.f.1.2
  have k15 : wv.cell? ⟨gm, 15, none⟩ = some (.slice A15 1 c15) := (blk_cell H.out.f.2 15).trans l15
  go_upto_region 4 with (fail)
  clear k15
  go_upto_region 5 with (first | ((with_reducible refine gate_dst (N := 15) rfl ?_); (try (refine gate_guard (by rfl) ?_; dsimp only)); refine ev_lit .u16 [7] 24 rfl (by first | (go_simp; done) | (go_simp; rfl)) (by simp) ?_; intro Aw cw wlw bw he_ hr_ hz_ hb_; have Zw := Aside0.mk hz_; have Ew := Aside0.mk he_; have n0_ := Aside0.mk ((H.out.on hb_).add (sta_C _ _ _ _) (hr_)); clear H; have H := n0_; clear n0_; clear hr_ hz_ hb_ he_) | ((with_reducible refine gate_dst (N := 17) rfl ?_); (try (refine gate_guard (by rfl) ?_; dsimp only)); refine ev_rec1 (⟨0, 0, 0, bw⟩) Aw cw rfl (by first | (go_simp; done) | (go_simp; rfl)) (Zw.out) (H.out.f.2) ?_; intro Ar cr wr hr_ hz_ hb_; have Zr := Aside0.mk hz_; have n0_ := Aside0.mk ((H.out.on hb_).add (sta_R _ _ _) (hr_)); clear H; have H := n0_; clear n0_; clear hr_ hz_ hb_) | ((with_reducible refine gate_dst (N := 18) rfl ?_); (try (refine gate_guard (by rfl) ?_; dsimp only)); refine ev_build ((codeC 20).setIfInBounds 15 (.slice Ar 1 cr)) rfl (by first | (go_simp; done) | (go_simp; rfl)) ?_; intro cz hcx_; have mx_ := (show IsMsg _ ((codeC 20).setIfInBounds 15 (.slice Ar 1 cr)) (mkF 20 [⟨0, 0, 0, bw⟩]) from (mkF_is (code := 20) (l := [⟨0, 0, 0, bw⟩]) (by decide) (n := cr) Zr.out (good1 (good_w (by rw [Ew.out]; intro x hx; obtain rfl := List.mem_singleton.1 hx; decide))) (H.out.f.2))); rw [← hcx_] at mx_; have n0_ := Aside0.mk ((H.out).add (sta_msg _ _) (mx_)); clear H; have H := n0_; clear n0_; clear hcx_ mx_) | (go_at_call 16; (with_reducible refine (WriteC.n (show WriteC 16 1 (mkF 20 [⟨0, 0, 0, bw⟩]) ([4, 3, 6, 0, 7], 0) from by rw [Ew.out]; exact H2.out) (n := 5) rfl H.out.f.2).mono ?_); rintro en wb ⟨Ab, cb, rfl, hz_, hr_, hb_⟩; have n0_ := Aside0.mk ((H.out.on hb_).add (sta_C _ _ _ _) (hr_)); clear H; have H := n0_; clear n0_; have Zb := Aside0.mk hz_; clear hb_ hr_ hz_))
  obtain ⟨A12, c12, A13, c13, A14, c14, A15, c15, A21, c21, ⟨_, _, _, l15, _⟩, _, _, _, R15, _⟩ := IsMsg.lists H.out.f.1.1.1.1.1.2
  have k15 : wb.cell? ⟨gm, 15, none⟩ = some (.slice A15 1 c15) := (blk_cell H.out.f.1.1.1.1.2 15).trans l15
  obtain ⟨ad, A1, c1, rfl, x0, x1, x2, x3, g1, q1⟩ := at_T43 R15.1 (0 : Int) (by decide) (by decide)
  have e0_ : rd_T43 (mkF 20 [⟨4, 1, 2, []⟩]).recs (0 : Int) = ⟨4, 1, 2, []⟩ := rfl
  rw [e0_] at x0 x1 x2 x3 g1 q1
  rw [show ((0 : Int).toNat * 4) = 0 from rfl, Addr.add_zero'] at x0 x1 x2 x3
  have hcv := Kd.C_string (P := Try.prog) (A := Ab) (c := cb) Try.underlying22 Try.underlying5 Try.underlying9 H.out.f.2
  have hs : ((strOfNums [4, 3, 6, 0, 7]).toList == [4, 3, 6, 0, 7]) = true := by rw [str_list]; rfl
  clear g1 q1 l15 R15 x3
  go_wp2
  go_ret
  exact ⟨by first | rfl | (simp; done) | decide, H.out.b⟩
theorem awake_c : AwakeC 11 := fun W => awake_any W
theorem u16_wf {n : Int} (h : (Lit.int .u16 n).wf = true) : 0 ≤ n ∧ n < 65536 := by
  simp only [Lit.wf, IntKind.min, IntKind.max, IntKind.signed, IntKind.bits, Bool.and_eq_true, decide_eq_true_eq] at h
  simp at h
  omega
end Go.Proofs.Ytdjeekpgcjcffaa.Laws
end
section
namespace Go.Proofs.Ytdjeekpgcjcffaa.Laws
open Go.RowKit Go.Proofs.Ytdjeekpgcjcffaa.P Go.Proofs.Ytdjeekpgcjcffaa.E Go.Proofs.Ytdjeekpgcjcffaa.Cur Go.Proofs.Ytdjeekpgcjcffaa.Cu Go.Proofs.Ytdjeekpgcjcffaa.Same Go.Proofs.Ytdjeekpgcjcffaa.Put Go.Proofs.Ytdjeekpgcjcffaa.Com Go.Proofs.Ytdjeekpgcjcffaa.Fil Go.Proofs.YtdjeekpgcjcffaaW.PrintWords Go.Proofs.YtdjeekpgcjcffaaW.PrintLast Go.Proofs.YtdjeekpgcjcffaaW.PrintMore
def okB (x : S43) : Bool := (x.f2 == (x.f3.length : Int)) && !(x.f2 == 0) && !(x.f0 == 0) && decide (x.f1 ≤ 9999)
def wantB (l : List S43) (j : Nat) : Bool := decide (0 < l.length) && (l.take j).all okB
theorem okB_iff (x : S43) : okB x = true ↔ okPart 2 x := by
  unfold okB okPart
  rw [if_neg (by decide), if_neg (by decide)]
  simp only [Bool.and_eq_true, Bool.not_eq_true', beq_iff_eq, beq_eq_false_iff_ne, decide_eq_true_eq]
  constructor
  · rintro ⟨⟨⟨a, b⟩, c⟩, d⟩; exact ⟨⟨c, d, b⟩, a.symm⟩
  · rintro ⟨⟨c, d, b⟩, a⟩; exact ⟨⟨⟨a.symm, b⟩, c⟩, d⟩
theorem okAll2 : ∀ (s : Int) (l : List S43), okAll 2 s l ↔ l.all okB = true
  | s, [] => by simp [okAll]
  | s, x :: r => by
    have := okAll2 s r
    simp only [okAll, List.all_cons, Bool.and_eq_true]
    rw [← this, okB_iff]
    constructor
    · rintro ⟨a, _, b⟩; exact ⟨a, b⟩
    · rintro ⟨a, b⟩; exact ⟨a, fun h => absurd h (by decide), b⟩
theorem flat_pos {l : List S43} (h0 : 0 < l.length) (h : l.all okB = true) : 9 ≤ (flat false l).length := by
  cases l with
  | nil => simp at h0
  | cons x r =>
    simp only [List.all_cons, Bool.and_eq_true] at h
    have h1 := h.1
    unfold okB at h1
    simp only [Bool.and_eq_true, Bool.not_eq_true', beq_iff_eq, beq_eq_false_iff_ne, decide_eq_true_eq] at h1
    have e : (partL false x).length = 7 + 2 * x.f3.length := by unfold partL; simp [putL_length]; omega
    simp only [flat, List.length_append]
    omega
theorem echo_may {dir : Int} (hd : dir = 0 ∨ dir = 1) (l : List S43) : mayW dir (mkF 21 l) ↔ wantB l l.length = true ∧ (flat false l).length ≤ 251 := by
  unfold mayW wantB
  have e1 : kOf dir (mkF 21 l).code = 2 := rfl
  have e2 : isTold dir (mkF 21 l).code = false := rfl
  rw [e1, e2, List.take_length]
  have e3 : mayK 2 ((flat false l).length : Int) = true ↔ 9 ≤ (flat false l).length ∧ (flat false l).length ≤ 251 := by
    show may2 _ = true ↔ _
    unfold may2
    simp only [Bool.and_eq_true, decide_eq_true_eq]
    omega
  simp only [Bool.and_eq_true, decide_eq_true_eq]
  show (_ ∧ _ ∧ mayK 2 ((flat false l).length : Int) = true ∧ okAll 2 0 l) ↔ _
  rw [e3, okAll2]
  constructor
  · rintro ⟨_, _, ⟨a, b⟩, c⟩
    refine ⟨⟨?_, c⟩, b⟩
    rcases Nat.eq_zero_or_pos l.length with h | h
    · rw [List.eq_nil_of_length_eq_zero h] at a; simp [flat] at a
    · exact h
  · rintro ⟨⟨a, c⟩, b⟩
    exact ⟨⟨hd, .inr rfl⟩, rfl, ⟨flat_pos a c, b⟩, c⟩
theorem echo_len {l : List S43} (hf : fewB (mkF 21 l) = true) : l.length ≤ 50 ∧ ∀ x ∈ l, x.f3.length ≤ 200 := by
  unfold fewB at hf
  simp only [Bool.and_eq_true, decide_eq_true_eq, List.all_eq_true] at hf
  exact ⟨hf.1.2.2.2.1, hf.2.1⟩
end Go.Proofs.Ytdjeekpgcjcffaa.Laws
end
section
namespace Go.Proofs.Ytdjeekpgcjcffaa.Laws
open Go.RowKit Go.Proofs.Ytdjeekpgcjcffaa.P Go.Proofs.Ytdjeekpgcjcffaa.E Go.Proofs.Ytdjeekpgcjcffaa.Cur Go.Proofs.Ytdjeekpgcjcffaa.Cu Go.Proofs.Ytdjeekpgcjcffaa.Same Go.Proofs.Ytdjeekpgcjcffaa.Put Go.Proofs.Ytdjeekpgcjcffaa.Com Go.Proofs.Ytdjeekpgcjcffaa.Fil Go.Proofs.YtdjeekpgcjcffaaW.PrintWords Go.Proofs.YtdjeekpgcjcffaaW.PrintLast Go.Proofs.YtdjeekpgcjcffaaW.PrintMore
theorem raws_of {W : World} {A : Option Addr} {n : Nat} {os : List S43} (h : Kd.C k43 W A n os) : ∃ raws : List RawR, Kd.C kRawR W A n raws ∧ Zip (FitsR W) raws os := by
  obtain ⟨h1, h2, h3⟩ := h
  by_cases hn : 0 < n
  · obtain ⟨ad, e, hc⟩ := h3 hn
    have hx : ∀ j, ∃ r : RawR, ∀ p, os[j]? = some p → FitsR W r p ∧ ∃ cs, cs.length = k43.sz ∧ cs = [.int .u16 r.f0, .int .u16 r.f1, .int .u16 r.f2, .slice r.A r.n r.c] ∧ ∀ i u, cs[i]? = some u → W.cell? (ad.add (j * k43.sz + i)) = some u := by
      intro j
      cases hp : os[j]? with
      | none => exact ⟨⟨0, 0, 0, none, 0, 0⟩, fun p h => by cases h⟩
      | some p =>
        obtain ⟨cs, c1, c2, c3⟩ := hc j p hp
        obtain ⟨A3, c4, rfl, l3, g3⟩ := k43_open c2
        exact ⟨⟨p.f0, p.f1, p.f2, A3, p.f3.length, c4⟩, fun q hq => by cases hq; exact ⟨⟨rfl, rfl, rfl, rfl, l3, g3⟩, _, c1, rfl, c3⟩⟩
    obtain ⟨f, hf⟩ : ∃ f : Nat → RawR, ∀ j p, os[j]? = some p → FitsR W (f j) p ∧ ∃ cs, cs.length = k43.sz ∧ cs = [.int .u16 (f j).f0, .int .u16 (f j).f1, .int .u16 (f j).f2, .slice (f j).A (f j).n (f j).c] ∧ ∀ i u, cs[i]? = some u → W.cell? (ad.add (j * k43.sz + i)) = some u := ⟨fun j => (hx j).choose, fun j => (hx j).choose_spec⟩
    refine ⟨(List.range n).map f, ⟨by simp, h2, fun _ => ⟨ad, e, fun j p hj => ?_⟩⟩, by simp [h1], fun j a b ha hb => ?_⟩
    · rw [List.getElem?_map] at hj
      obtain ⟨i, hi, rfl⟩ := Option.map_eq_some_iff.1 hj
      obtain ⟨hi1, hi2⟩ := List.getElem?_eq_some_iff.1 hi
      rw [List.getElem_range] at hi2
      subst hi2
      have hjl : j < os.length := by rw [h1]; simpa using hi1
      obtain ⟨_, cs, c1, c2, c3⟩ := hf j os[j] (List.getElem?_eq_getElem hjl)
      exact ⟨cs, c1, c2, c3⟩
    · rw [List.getElem?_map] at ha
      obtain ⟨i, hi, rfl⟩ := Option.map_eq_some_iff.1 ha
      obtain ⟨hi1, hi2⟩ := List.getElem?_eq_some_iff.1 hi
      rw [List.getElem_range] at hi2
      subst hi2
      exact (hf j b hb).1
  · have : n = 0 := by omega
    subst this
    have : os = [] := List.eq_nil_of_length_eq_zero h1
    subst this
    exact ⟨[], ⟨rfl, h2, fun h => absurd h (Nat.lt_irrefl 0)⟩, Zip.nil _⟩
theorem join_write {dir : Int} (hd : dir = 0 ∨ dir = 1) {l : List S43} (hg : ∀ x ∈ l, goodRec x) : (wantB l l.length = true ∧ (flat false l).length ≤ 251 ∧ write dir (mkF 21 l) = (((flat false l).length : Int) :: flat false l, 0)) ∨ (¬ (wantB l l.length = true ∧ (flat false l).length ≤ 251) ∧ write dir (mkF 21 l) = ([], 1)) := by
  have hgm := mkF_good (code := 21) (by decide) hg
  by_cases h : (write dir (mkF 21 l)).2 = 0
  · obtain ⟨h1, h2⟩ := (echo_may hd l).1 (write_ok hgm h)
    refine .inl ⟨h1, h2, ?_⟩
    rw [show write dir (mkF 21 l) = _ from (writeR_ok h).2.2]
    have e : lay dir (mkF 21 l) = ((flat false l).length : Int) % 256 :: flat false l := rfl
    rw [e, Int.emod_eq_of_lt (by omega) (by omega)]
  · refine .inr ⟨fun hk => h ?_, writeR_no h⟩
    rw [write_yes hgm ((echo_may hd l).2 hk)]
theorem want_all (l : List S43) : wantB l l.length = true ↔ 0 < l.length ∧ l.all okB = true := by
  unfold wantB
  rw [List.take_length]
  simp only [Bool.and_eq_true, decide_eq_true_eq]
theorem join_all {dir : Int} (hd : dir = 0 ∨ dir = 1) {a b : List S43} (ha : ∀ x ∈ a, goodRec x) (hb : ∀ x ∈ b, goodRec x) (wa : wantB a a.length = true) (wb : wantB b b.length = true) : write dir (mkF 21 (a ++ b)) = if (flat false a).length + (flat false b).length ≤ 251 then ((((flat false a).length + (flat false b).length : Nat) : Int) :: (flat false a ++ flat false b), 0) else ([], 1) := by
  have hg : ∀ x ∈ a ++ b, goodRec x := fun x hx => (List.mem_append.1 hx).elim (ha x) (hb x)
  obtain ⟨p1, p2⟩ := (want_all a).1 wa
  obtain ⟨q1, q2⟩ := (want_all b).1 wb
  have w : wantB (a ++ b) (a ++ b).length = true := (want_all _).2 ⟨by rw [List.length_append]; omega, by rw [List.all_append, p2, q2]; rfl⟩
  have e : (flat false (a ++ b)).length = (flat false a).length + (flat false b).length := by rw [flat_append, List.length_append]
  rcases join_write hd hg with ⟨_, h2, h3⟩ | ⟨h2, h3⟩
  · rw [if_pos (by omega), h3, e, flat_append]
  · rw [if_neg (fun h => h2 ⟨w, by omega⟩), h3]
theorem ev_none {ops : Array Oper} {rest : List Oper} {o : Oper} {a : Act} {w : World} {Q : Exit → Act → World → Prop} {N : Tmp} (hgd : o.guard = none) (hd : o.dst = some N) (hrun : (execOp a.eval o).run Try.prog w = .ok (.value (.slice (some ⟨w.heap.size, 0, none⟩) 0 0)) (w.alloc (.cells #[] 43)))
    (h : ∀ v1 w1, Kd.R kRawR 43 w1 w.heap.size (fun k => w.heap.size ≤ k) v1 [] → Below w.heap.size w w1 → wpList Try.prog ops Q rest (a.put o.dst v1) w1) : wpList Try.prog ops Q (o :: rest) a w :=
  Kd.R_lit kRawR (w0 := w) w.heap.size 43 hgd hd (xs := []) (inner := []) (ok := fun k => w.heap.size ≤ k) (okp := fun _ => False) hrun ⟨rfl, fun j p h => by simp at h⟩ (fun _ h => h.elim) (Nat.le_refl _) (Below.refl _ _) (Nat.le_refl _) (by simp) (fun v1 w1 r b _ _ => h v1 w1 r b)
theorem ev_rapp {ops : Array Oper} {rest : List Oper} {o : Oper} {a : Act} {w : World} {Q : Exit → Act → World → Prop} {B n c : Nat} {A : Option Addr} {v : Value} {raws ys : List RawR} (s x : Operand) (hgd : o.guard = none) (ho : o.op = .call { callee := .builtin .append, args := #[s, x], argTypes := #[27, 27] }) (hs : a.eval s = v) (hx : a.eval x = .slice A n c) (R : Kd.R kRawR 43 w B (fun k => B ≤ k) v raws) (HB : B ≤ w.heap.size) (hy : Kd.C kRawR w A n ys) (hl : raws.length + n ≤ 1000000)
    (h : ∀ v1 w1, Kd.R kRawR 43 w1 B (fun k => B ≤ k) v1 (raws ++ ys) → Below B w w1 → wpList Try.prog ops Q rest (a.put o.dst v1) w1) : wpList Try.prog ops Q (o :: rest) a w :=
  Kd.R_append_rows kRawR (Rr := kRawR.K w) (w0 := w) B hgd s x 27 43 (.agg recZ) 32 ho Try.underlying27 (by kernel_rfl) rfl (by decide) (by decide) v raws ys A n c (fun k => B ≤ k) (fun _ => False) hs hx R hy (fun _ _ h => h) (fun _ h => h.elim) (fun k hk => Nat.le_trans HB hk) (Below.refl _ _) HB (by omega) (fun v1 w1 r b _ _ => h v1 w1 r b)
theorem fits_below {W W' : World} {raws : List RawR} {os : List S43} (z : Zip (FitsR W) raws os) (hb : Below W.heap.size W W') : Zip (FitsR W') raws os :=
  z.imp fun r o ⟨a1, a2, a3, a4, a5, a6⟩ => ⟨a1, a2, a3, a4, a5, Kd.C_below a6 hb⟩
theorem zip_append {α β : Type} {R : α → β → Prop} {a c : List α} {b d : List β} (h : Zip R a b) (k : Zip R c d) : Zip R (a ++ c) (b ++ d) := by
  refine ⟨by rw [List.length_append, List.length_append, h.1, k.1], fun j x y hx hy => ?_⟩
  rcases Nat.lt_or_ge j a.length with hj | hj
  · rw [List.getElem?_append_left hj] at hx
    rw [List.getElem?_append_left (by rw [← h.1]; exact hj)] at hy
    exact h.2 j x y hx hy
  · rw [List.getElem?_append_right hj] at hx
    rw [List.getElem?_append_right (by rw [← h.1]; exact hj), ← h.1] at hy
    exact k.2 _ x y hx hy
theorem join_is {W : World} {B : Nat} {v : Value} {ra rb : List RawR} {a b : List S43} (R : Kd.R kRawR 43 W B (fun k => B ≤ k) v (ra ++ rb)) (za : Zip (FitsR W) ra a) (zb : Zip (FitsR W) rb b) (ha : ∀ x ∈ a, goodRec x) (hb : ∀ x ∈ b, goodRec x) : IsMsg W ((codeC 21).setIfInBounds 15 v) (mkF 21 (a ++ b)) := by
  obtain ⟨A, n, rfl, hn, hC⟩ := Kd.R_reads R
  have z := zip_append za zb
  rw [z.1] at hn hC ⊢
  exact mkF_is (by decide) hn (fun o ho => (List.mem_append.1 ho).elim (ha o) (hb o)) (zipR_C hC z)
end Go.Proofs.Ytdjeekpgcjcffaa.Laws
end
section
namespace Go.Proofs.Ytdjeekpgcjcffaa.Open
open Go.RowKit Go.ChangeShapes Go.WideShapes Go.Deep Go.Proofs.YtdjeekpgcjcffaaW.PrintWords
def Opens {H : Type} (enc : TypeId × Value → H) (P : Program) (w : World) (base : Nat) (held : Bool) (t : TypeId) {α : Type} (d : Kd α) (good : α → Prop) : Prop :=
  ∀ fuel cs x, DataW.trod enc P w base (fun _ => true) held fuel t cs = some x → ∃ y, d.K w y cs ∧ good y
section
variable {H : Type} {enc : TypeId × Value → H} {P : Program} {w : World} {base : Nat} {held : Bool} {α : Type}
theorem opens_int {t : TypeId} {k : IntKind} (ht : P.underlying t = some (.int k)) : Opens enc P w base held t (Kd.int k) (fun n => (Lit.int k n).wf = true) := by
  intro fuel cs x h
  obtain ⟨n, rfl, _, hw⟩ := DataW.trod_int ht h
  exact ⟨n, rfl, hw⟩
theorem opens_bool {t : TypeId} (ht : P.underlying t = some .bool) : Opens enc P w base held t Kd.bool (fun _ => True) := by
  intro fuel cs x h
  obtain ⟨b, rfl, _⟩ := DataW.trod_bool ht h
  exact ⟨b, rfl, trivial⟩
theorem opens_slice {t e : TypeId} {d : Kd α} {g : α → Prop} (ht : P.underlying t = some (.slice e)) (hc : P.cellsOf e = d.sz) (h : Opens enc P w base held e d g) :
    Opens enc P w base held t (Kd.slice e d) (fun l => l.length ≤ maxLen ∧ ∀ x ∈ l, g x) := by
  intro fuel cs x hx
  rcases open_slice ht hx with ⟨rfl, _⟩ | ⟨a, len, cap, m, n, D, Pl, rfl, _, hl, hm, hmm, _, hel⟩
  · exact ⟨[], ⟨none, 0, rfl, Nat.le_refl _, Kd.C_nil d w⟩, Nat.zero_le _, fun x hx => by cases hx⟩
  · simp only [if_true] at hmm
    subst hmm
    have hone : ∀ i : Fin len, ∃ y, (∃ c, c.length = d.sz ∧ d.K w y c ∧ ∀ j u, c[j]? = some u → w.cell? (a.add (i.val * d.sz + j)) = some u) ∧ g y := by
      intro i
      obtain ⟨cs', h1, h2⟩ := hel i.val (Nat.lt_of_lt_of_le i.isLt hl)
      obtain ⟨y, hk, hg⟩ := h n cs' _ h2
      rw [hc] at h1
      obtain ⟨_, h4, h5⟩ := World.cells?_some h1
      refine ⟨y, ⟨cs', h4, hk, fun j u hu => ?_⟩, hg⟩
      have hj : j < d.sz := by rw [← h4]; exact (List.getElem?_eq_some_iff.1 hu).1
      have := h5 j hj
      rw [hu] at this
      rw [← Addr.add_add]
      exact this
    let ys := List.ofFn fun i => Classical.choose (hone i)
    have hy : ys.length = len := by simp [ys]
    refine ⟨ys, ⟨some a, m, by rw [hy], by rw [hy]; exact hl, ?_⟩, by rw [hy]; exact Nat.le_trans hl hm, ?_⟩
    · refine ⟨rfl, by rw [hy]; exact Nat.le_trans hl hm, fun _ => ⟨a, rfl, fun j p hp => ?_⟩⟩
      have hj : j < len := by rw [← hy]; exact (List.getElem?_eq_some_iff.1 hp).1
      have : p = Classical.choose (hone ⟨j, hj⟩) := by
        simp only [ys, List.getElem?_ofFn, hj, dite_true] at hp
        exact (Option.some.inj hp).symm
      subst this
      exact (Classical.choose_spec (hone ⟨j, hj⟩)).1
    · intro x hx
      simp only [ys, List.mem_ofFn] at hx
      obtain ⟨i, rfl⟩ := hx
      exact (Classical.choose_spec (hone i)).2
theorem opens_at {fs : Array Field} {cs : List Value} {xs : List (DataW H × List MemPlace)} {n : Nat} {d : Kd α} {g : α → Prop}
    (hf : ∀ (i : Nat) (f : Field), fs[i]? = some f → DataW.trod enc P w base (fun _ => true) held n f.type ((cs.drop f.offset).take (P.cellsOf f.type)) = xs[i]?) (hlen : xs.length = fs.size)
    (hone : oneCellFields P fs = true) (i : Nat) (f : Field) (hi : fs[i]? = some f) (c : Value) (hc : cs[i]? = some c) (H1 : Opens enc P w base held f.type d g) : ∃ y, d.K w y [c] ∧ g y := by
  obtain ⟨o1, k1⟩ := hone_of hone i f hi
  have h := hf i f hi
  have hlt : i < xs.length := by rw [hlen]; exact (Array.getElem?_eq_some_iff.1 hi).1
  rw [o1, k1, List.getElem?_eq_getElem hlt] at h
  have hci := (List.getElem?_eq_some_iff.1 hc).1
  have hs : (cs.drop i).take 1 = [c] := by
    rw [List.drop_eq_getElem_cons hci, List.take_succ_cons, List.take_zero, (List.getElem?_eq_some_iff.1 hc).2]
  rw [hs] at h
  exact H1 n [c] _ h
theorem open_slice_arg {t e : TypeId} {d : Kd α} {g : α → Prop} {a : Option Addr} {len cap : Nat} {x : DataW H} {p : List MemPlace} (h : DataW.Trod enc P w base (fun _ => true) held t (.slice a len cap) x p)
    (H1 : Opens enc P w base held t (Kd.slice e d) (fun l => l.length ≤ maxLen ∧ ∀ x ∈ l, g x)) : ∃ l, len = l.length ∧ d.C w a l.length l ∧ l.length ≤ cap ∧ l.length ≤ maxLen ∧ ∀ x ∈ l, g x := by
  obtain ⟨fuel, hf⟩ := h
  obtain ⟨l, ⟨A, c, he, hl, hC⟩, h1, h2⟩ := H1 fuel _ _ hf
  simp [Value.cells] at he
  obtain ⟨rfl, rfl, rfl⟩ := he
  exact ⟨l, rfl, hC, hl, h1, h2⟩
end
end Go.Proofs.Ytdjeekpgcjcffaa.Open
end
