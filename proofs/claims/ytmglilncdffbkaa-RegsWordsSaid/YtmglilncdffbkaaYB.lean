/- What the laws of this chapter rest on, part 2: what the functions that they reach answer, each shown once. Conditions: what each theorem states. (Merged by a program of this session, wip/tools/merge.py, out of its own texts and of the words that the kit's print wrote for this seat, cut to those that are used.) -/
import Derived.ChangeKeysEq
import Derived.Deep.MidRow
import Derived.Deep.CutRange
import Derived.Test.YtmglilncdffbkaaYA
set_option linter.unusedVariables false
set_option linter.unusedSimpArgs false
set_option maxHeartbeats 16000000
set_option maxRecDepth 100000
section
namespace Go.Proofs.Ytmglilncdffbkaa.P
open Go.RowKit Go.Proofs.YtmglilncdffbkaaW.PrintWords Go.Proofs.YtmglilncdffbkaaW.PrintLast Go.Proofs.YtmglilncdffbkaaW.PrintMore
attribute [local go_sem] max2_int min2_int max_two min_two max_three min_three max_four min_four   -- for this text's walks alone
def code_rec.f (k : Nat) (a0_0 : Int) (a0_1 : Int) (a0_2 : Int) (l0_3 : List Int) (a1_0 : Int) (a1_1 : Int) (a1_2 : Int) (l1_3 : List Int) : Option (Bool) := if a0_0 = a1_0 then (if a0_1 = a1_1 then (if a0_2 = a1_2 then ((slices_Equal_uint16_uint16.f k l0_3 l1_3).bind fun t190 => (some t190)) else (some false)) else (some false)) else (some false)
theorem code_rec.calls (k : Nat) (a0_0 : Int) (a0_1 : Int) (a0_2 : Int) (A0_3 : Option Addr) (c0_3 : Nat) (l0_3 : List Int) (a1_0 : Int) (a1_1 : Int) (a1_2 : Int) (A1_3 : Option Addr) (c1_3 : Nat) (l1_3 : List Int) (r : Bool) (w : World) (hr0_3 : Kd.C (Kd.int .u16) w A0_3 l0_3.length l0_3) (hc0_3 : l0_3.length ≤ c0_3) (hr1_3 : Kd.C (Kd.int .u16) w A1_3 l1_3.length l1_3) (hc1_3 : l1_3.length ≤ c1_3) (h : code_rec.f k a0_0 a0_1 a0_2 l0_3 a1_0 a1_1 a1_2 l1_3 = some r) :
    Calls Try.prog 60 #[.agg #[.int .u16 a0_0, .int .u16 a0_1, .int .u16 a0_2, .slice A0_3 l0_3.length c0_3], .agg #[.int .u16 a1_0, .int .u16 a1_1, .int .u16 a1_2, .slice A1_3 l1_3.length c1_3]] w fun e w' => e = .returned (.bool r) ∧ Below w.heap.size w w' := by
  have hu64 := Try.underlying64
  have HR0_3 := Aside0.mk hr0_3
  have HC0_3 := Aside0.mk hc0_3
  clear hr0_3 hc0_3
  have HR1_3 := Aside0.mk hr1_3
  have HC1_3 := Aside0.mk hc1_3
  clear hr1_3 hc1_3
  have HB := Aside0.mk (Below.refl w.heap.size w)
  have H : (if a0_0 = a1_0 then (if a0_1 = a1_1 then (if a0_2 = a1_2 then ((slices_Equal_uint16_uint16.f k l0_3 l1_3).bind fun t190 => (some t190)) else (some false)) else (some false)) else (some false)) = some r := h
  clear h
  by_cases c3 : a0_0 = a1_0
  · rw [if_pos c3] at H
    have c3b0 : (a0_0 == a1_0) = true := beq_iff_eq.mpr c3
    have c3b1 : (a0_0 != a1_0) = false := bne_eq_false_iff_eq.mpr c3
    clear c3
    by_cases c4 : a0_1 = a1_1
    · rw [if_pos c4] at H
      have c4b0 : (a0_1 == a1_1) = true := beq_iff_eq.mpr c4
      have c4b1 : (a0_1 != a1_1) = false := bne_eq_false_iff_eq.mpr c4
      clear c4
      by_cases c5 : a0_2 = a1_2
      · rw [if_pos c5] at H
        have c5b0 : (a0_2 == a1_2) = true := beq_iff_eq.mpr c5
        have c5b1 : (a0_2 != a1_2) = false := bne_eq_false_iff_eq.mpr c5
        clear c5
        replace H := Option.bind_eq_some_iff.mp H
        obtain ⟨t190, A60, H⟩ := H
        replace H : (some t190) = some r := H
        have A6 := Aside0.mk A60
        clear A60
        obtain rfl := Option.some.inj H
        go_enter Try.func60, Try.ntmps60
        go_wp2_with (first | ((with_reducible refine gate_dst (N := 2) rfl ?_); refine box_event ?hg (N := 2) ?hd (cs := #[.int .u16 a0_0, .int .u16 a0_1, .int .u16 a0_2, .slice A0_3 l0_3.length c0_3]) (t := 64) ?hr ?_; (case hd => rfl); (case hg => rfl); (case hr => first | (go_simp; done) | (go_simp; rfl)); intro gb188 hg w7 hbox hb; have n0_ := Aside0.mk (below_step (by repeat (first | (with_reducible first | exact HB.out | apply below_alloc | apply pw_below_drewN | apply below_drew1) | exact HB.out)) hb); have n1_ := Aside0.mk (hbox); have n2_ := Aside0.mk ((by rw [hg]; exact (below_size (by repeat (first | (with_reducible first | exact HB.out | apply below_alloc | apply pw_below_drewN | apply below_drew1) | exact HB.out))) : w.heap.size ≤ gb188)); have n3_ := Aside0.mk ((by rw [hg]; exact (below_size (by repeat (first | (with_reducible first | exact HB.out | apply below_alloc | apply pw_below_drewN | apply below_drew1) | exact HB.out))) : w.heap.size ≤ gb188)); clear HB; have HB := n0_; have BK188 := n1_; have GW188 := n2_; have GE188 := n3_; clear n0_ n1_ n2_ n3_; clear hb hbox hg) | ((with_reducible refine gate_dst (N := 3) rfl ?_); refine box_event ?hg (N := 3) ?hd (cs := #[.int .u16 a1_0, .int .u16 a1_1, .int .u16 a1_2, .slice A1_3 l1_3.length c1_3]) (t := 64) ?hr ?_; (case hd => rfl); (case hg => rfl); (case hr => first | (go_simp; done) | (go_simp; rfl)); intro gb189 hg w8 hbox hb; have n0_ := Aside0.mk (blk_below (g := gb188) (o := .cells #[.int .u16 a0_0, .int .u16 a0_1, .int .u16 a0_2, .slice A0_3 l0_3.length c0_3] 64 (0, 0)) (by (with_reducible repeat (first | refine blk_drewN ?_ _ | refine blk_drew ?_ | refine blk_alloc ?_ _)); exact BK188.out) hb); have n1_ := Aside0.mk (below_step (by repeat (first | (with_reducible first | exact HB.out | apply below_alloc | apply pw_below_drewN | apply below_drew1 | refine below_set ?_ GE188.out) | exact HB.out)) hb); have n2_ := Aside0.mk (hbox); have n3_ := Aside0.mk ((by rw [hg]; exact (below_size (by repeat (first | (with_reducible first | exact HB.out | apply below_alloc | apply pw_below_drewN | apply below_drew1 | refine below_set ?_ GE188.out) | exact HB.out))) : w.heap.size ≤ gb189)); have n4_ := Aside0.mk ((by rw [hg]; exact (below_size (by repeat (first | (with_reducible first | exact HB.out | apply below_alloc | apply pw_below_drewN | apply below_drew1 | refine below_set ?_ GE188.out) | exact HB.out))) : w.heap.size ≤ gb189)); have n5_ := Aside0.mk ((by rw [hg]; exact Nat.ne_of_lt (blk_lt (g := gb188) (o := .cells #[.int .u16 a0_0, .int .u16 a0_1, .int .u16 a0_2, .slice A0_3 l0_3.length c0_3] 64 (0, 0)) (by (with_reducible repeat (first | refine blk_drewN ?_ _ | refine blk_drew ?_ | refine blk_alloc ?_ _)); exact BK188.out)) : gb188 ≠ gb189)); have n6_ := Aside0.mk ((by rw [hg]; exact Nat.ne_of_gt (blk_lt (g := gb188) (o := .cells #[.int .u16 a0_0, .int .u16 a0_1, .int .u16 a0_2, .slice A0_3 l0_3.length c0_3] 64 (0, 0)) (by (with_reducible repeat (first | refine blk_drewN ?_ _ | refine blk_drew ?_ | refine blk_alloc ?_ _)); exact BK188.out)) : gb189 ≠ gb188)); clear BK188; clear HB; have BK188 := n0_; have HB := n1_; have BK189 := n2_; have GW189 := n3_; have GE189 := n4_; have NB188_189 := n5_; have NB189_188 := n6_; clear n0_ n1_ n2_ n3_ n4_ n5_ n6_; clear hb hbox hg; have hnb9 := NB188_189.out; have hnc9 := NB189_188.out; have hcz10_0 : w8.cell? ⟨gb188, 0, none⟩ = some (.int .u16 a0_0) := (blk_cell BK188.out 0).trans rfl; have hcz10_1 : w8.cell? ⟨gb188, 1, none⟩ = some (.int .u16 a0_1) := (blk_cell BK188.out 1).trans rfl; have hcz10_2 : w8.cell? ⟨gb188, 2, none⟩ = some (.int .u16 a0_2) := (blk_cell BK188.out 2).trans rfl; have hcz10_3 : w8.cell? ⟨gb188, 3, none⟩ = some (.slice A0_3 l0_3.length c0_3) := (blk_cell BK188.out 3).trans rfl; have hfz10_0 := blk_frozen BK188.out 0; have hfz10_1 := blk_frozen BK188.out 1; have hfz10_2 := blk_frozen BK188.out 2; have hfz10_3 := blk_frozen BK188.out 3; have hcz11_0 : w8.cell? ⟨gb189, 0, none⟩ = some (.int .u16 a1_0) := (blk_cell BK189.out 0).trans rfl; have hcz11_1 : w8.cell? ⟨gb189, 1, none⟩ = some (.int .u16 a1_1) := (blk_cell BK189.out 1).trans rfl; have hcz11_2 : w8.cell? ⟨gb189, 2, none⟩ = some (.int .u16 a1_2) := (blk_cell BK189.out 2).trans rfl; have hcz11_3 : w8.cell? ⟨gb189, 3, none⟩ = some (.slice A1_3 l1_3.length c1_3) := (blk_cell BK189.out 3).trans rfl; have hfz11_0 := blk_frozen BK189.out 0; have hfz11_1 := blk_frozen BK189.out 1; have hfz11_2 := blk_frozen BK189.out 2; have hfz11_3 := blk_frozen BK189.out 3) | (go_at_call 57; (with_reducible refine (slices_Equal_uint16_uint16.calls k _ _ l0_3 _ _ l1_3 t190 _ ?side1 ?side2 ?side3 ?side4 A6.out).mono ?_); (case side1 => repeat (first | exact (Kd.C_below HR0_3.out HB.out) | (with_reducible refine Kd.C_alloc ?_ _) | (with_reducible refine Kd.C_drewN ?_ _) | (with_reducible refine Kd.C_drew ?_))); (case side2 => exact HC0_3.out); (case side3 => repeat (first | exact (Kd.C_below HR1_3.out HB.out) | (with_reducible refine Kd.C_alloc ?_ _) | (with_reducible refine Kd.C_drewN ?_ _) | (with_reducible refine Kd.C_drew ?_))); (case side4 => exact HC1_3.out); rintro e w' ⟨rfl, ⟨nd, rfl⟩⟩))
        go_ret
        exact ⟨by first | rfl | (simp [errW_none, errW_some] <;> rfl) | (simp [*, errW_none, errW_some] <;> rfl), by repeat (first | (with_reducible first | exact HB.out | apply below_alloc | apply pw_below_drewN | apply below_drew1 | refine below_set ?_ GE188.out | refine below_set ?_ GE189.out) | exact HB.out)⟩
      · rw [if_neg c5] at H
        have c5b0 : (a0_2 == a1_2) = false := beq_eq_false_iff_ne.mpr c5
        have c5b1 : (a0_2 != a1_2) = true := bne_iff_ne.mpr c5
        obtain rfl := Option.some.inj H
        go_enter Try.func60, Try.ntmps60
        go_wp2_with (first | ((with_reducible refine gate_dst (N := 2) rfl ?_); refine box_event ?hg (N := 2) ?hd (cs := #[.int .u16 a0_0, .int .u16 a0_1, .int .u16 a0_2, .slice A0_3 l0_3.length c0_3]) (t := 64) ?hr ?_; (case hd => rfl); (case hg => rfl); (case hr => first | (go_simp; done) | (go_simp; rfl)); intro gb188 hg w12 hbox hb; have n0_ := Aside0.mk (below_step (by repeat (first | (with_reducible first | exact HB.out | apply below_alloc | apply pw_below_drewN | apply below_drew1) | exact HB.out)) hb); have n1_ := Aside0.mk (hbox); have n2_ := Aside0.mk ((by rw [hg]; exact (below_size (by repeat (first | (with_reducible first | exact HB.out | apply below_alloc | apply pw_below_drewN | apply below_drew1) | exact HB.out))) : w.heap.size ≤ gb188)); have n3_ := Aside0.mk ((by rw [hg]; exact (below_size (by repeat (first | (with_reducible first | exact HB.out | apply below_alloc | apply pw_below_drewN | apply below_drew1) | exact HB.out))) : w.heap.size ≤ gb188)); clear HB; have HB := n0_; have BK188 := n1_; have GW188 := n2_; have GE188 := n3_; clear n0_ n1_ n2_ n3_; clear hb hbox hg) | ((with_reducible refine gate_dst (N := 3) rfl ?_); refine box_event ?hg (N := 3) ?hd (cs := #[.int .u16 a1_0, .int .u16 a1_1, .int .u16 a1_2, .slice A1_3 l1_3.length c1_3]) (t := 64) ?hr ?_; (case hd => rfl); (case hg => rfl); (case hr => first | (go_simp; done) | (go_simp; rfl)); intro gb189 hg w13 hbox hb; have n0_ := Aside0.mk (blk_below (g := gb188) (o := .cells #[.int .u16 a0_0, .int .u16 a0_1, .int .u16 a0_2, .slice A0_3 l0_3.length c0_3] 64 (0, 0)) (by (with_reducible repeat (first | refine blk_drewN ?_ _ | refine blk_drew ?_ | refine blk_alloc ?_ _)); exact BK188.out) hb); have n1_ := Aside0.mk (below_step (by repeat (first | (with_reducible first | exact HB.out | apply below_alloc | apply pw_below_drewN | apply below_drew1 | refine below_set ?_ GE188.out) | exact HB.out)) hb); have n2_ := Aside0.mk (hbox); have n3_ := Aside0.mk ((by rw [hg]; exact (below_size (by repeat (first | (with_reducible first | exact HB.out | apply below_alloc | apply pw_below_drewN | apply below_drew1 | refine below_set ?_ GE188.out) | exact HB.out))) : w.heap.size ≤ gb189)); have n4_ := Aside0.mk ((by rw [hg]; exact (below_size (by repeat (first | (with_reducible first | exact HB.out | apply below_alloc | apply pw_below_drewN | apply below_drew1 | refine below_set ?_ GE188.out) | exact HB.out))) : w.heap.size ≤ gb189)); have n5_ := Aside0.mk ((by rw [hg]; exact Nat.ne_of_lt (blk_lt (g := gb188) (o := .cells #[.int .u16 a0_0, .int .u16 a0_1, .int .u16 a0_2, .slice A0_3 l0_3.length c0_3] 64 (0, 0)) (by (with_reducible repeat (first | refine blk_drewN ?_ _ | refine blk_drew ?_ | refine blk_alloc ?_ _)); exact BK188.out)) : gb188 ≠ gb189)); have n6_ := Aside0.mk ((by rw [hg]; exact Nat.ne_of_gt (blk_lt (g := gb188) (o := .cells #[.int .u16 a0_0, .int .u16 a0_1, .int .u16 a0_2, .slice A0_3 l0_3.length c0_3] 64 (0, 0)) (by (with_reducible repeat (first | refine blk_drewN ?_ _ | refine blk_drew ?_ | refine blk_alloc ?_ _)); exact BK188.out)) : gb189 ≠ gb188)); clear BK188; clear HB; have BK188 := n0_; have HB := n1_; have BK189 := n2_; have GW189 := n3_; have GE189 := n4_; have NB188_189 := n5_; have NB189_188 := n6_; clear n0_ n1_ n2_ n3_ n4_ n5_ n6_; clear hb hbox hg; have hnb14 := NB188_189.out; have hnc14 := NB189_188.out; have hcz15_0 : w13.cell? ⟨gb188, 0, none⟩ = some (.int .u16 a0_0) := (blk_cell BK188.out 0).trans rfl; have hcz15_1 : w13.cell? ⟨gb188, 1, none⟩ = some (.int .u16 a0_1) := (blk_cell BK188.out 1).trans rfl; have hcz15_2 : w13.cell? ⟨gb188, 2, none⟩ = some (.int .u16 a0_2) := (blk_cell BK188.out 2).trans rfl; have hcz15_3 : w13.cell? ⟨gb188, 3, none⟩ = some (.slice A0_3 l0_3.length c0_3) := (blk_cell BK188.out 3).trans rfl; have hfz15_0 := blk_frozen BK188.out 0; have hfz15_1 := blk_frozen BK188.out 1; have hfz15_2 := blk_frozen BK188.out 2; have hfz15_3 := blk_frozen BK188.out 3; have hcz16_0 : w13.cell? ⟨gb189, 0, none⟩ = some (.int .u16 a1_0) := (blk_cell BK189.out 0).trans rfl; have hcz16_1 : w13.cell? ⟨gb189, 1, none⟩ = some (.int .u16 a1_1) := (blk_cell BK189.out 1).trans rfl; have hcz16_2 : w13.cell? ⟨gb189, 2, none⟩ = some (.int .u16 a1_2) := (blk_cell BK189.out 2).trans rfl; have hcz16_3 : w13.cell? ⟨gb189, 3, none⟩ = some (.slice A1_3 l1_3.length c1_3) := (blk_cell BK189.out 3).trans rfl; have hfz16_0 := blk_frozen BK189.out 0; have hfz16_1 := blk_frozen BK189.out 1; have hfz16_2 := blk_frozen BK189.out 2; have hfz16_3 := blk_frozen BK189.out 3))
        go_ret
        exact ⟨by first | rfl | (simp [errW_none, errW_some] <;> rfl) | (simp [*, errW_none, errW_some] <;> rfl), by repeat (first | (with_reducible first | exact HB.out | apply below_alloc | apply pw_below_drewN | apply below_drew1 | refine below_set ?_ GE188.out | refine below_set ?_ GE189.out) | exact HB.out)⟩
    · rw [if_neg c4] at H
      have c4b0 : (a0_1 == a1_1) = false := beq_eq_false_iff_ne.mpr c4
      have c4b1 : (a0_1 != a1_1) = true := bne_iff_ne.mpr c4
      obtain rfl := Option.some.inj H
      go_enter Try.func60, Try.ntmps60
      go_wp2_with (first | ((with_reducible refine gate_dst (N := 2) rfl ?_); refine box_event ?hg (N := 2) ?hd (cs := #[.int .u16 a0_0, .int .u16 a0_1, .int .u16 a0_2, .slice A0_3 l0_3.length c0_3]) (t := 64) ?hr ?_; (case hd => rfl); (case hg => rfl); (case hr => first | (go_simp; done) | (go_simp; rfl)); intro gb188 hg w17 hbox hb; have n0_ := Aside0.mk (below_step (by repeat (first | (with_reducible first | exact HB.out | apply below_alloc | apply pw_below_drewN | apply below_drew1) | exact HB.out)) hb); have n1_ := Aside0.mk (hbox); have n2_ := Aside0.mk ((by rw [hg]; exact (below_size (by repeat (first | (with_reducible first | exact HB.out | apply below_alloc | apply pw_below_drewN | apply below_drew1) | exact HB.out))) : w.heap.size ≤ gb188)); have n3_ := Aside0.mk ((by rw [hg]; exact (below_size (by repeat (first | (with_reducible first | exact HB.out | apply below_alloc | apply pw_below_drewN | apply below_drew1) | exact HB.out))) : w.heap.size ≤ gb188)); clear HB; have HB := n0_; have BK188 := n1_; have GW188 := n2_; have GE188 := n3_; clear n0_ n1_ n2_ n3_; clear hb hbox hg) | ((with_reducible refine gate_dst (N := 3) rfl ?_); refine box_event ?hg (N := 3) ?hd (cs := #[.int .u16 a1_0, .int .u16 a1_1, .int .u16 a1_2, .slice A1_3 l1_3.length c1_3]) (t := 64) ?hr ?_; (case hd => rfl); (case hg => rfl); (case hr => first | (go_simp; done) | (go_simp; rfl)); intro gb189 hg w18 hbox hb; have n0_ := Aside0.mk (blk_below (g := gb188) (o := .cells #[.int .u16 a0_0, .int .u16 a0_1, .int .u16 a0_2, .slice A0_3 l0_3.length c0_3] 64 (0, 0)) (by (with_reducible repeat (first | refine blk_drewN ?_ _ | refine blk_drew ?_ | refine blk_alloc ?_ _)); exact BK188.out) hb); have n1_ := Aside0.mk (below_step (by repeat (first | (with_reducible first | exact HB.out | apply below_alloc | apply pw_below_drewN | apply below_drew1 | refine below_set ?_ GE188.out) | exact HB.out)) hb); have n2_ := Aside0.mk (hbox); have n3_ := Aside0.mk ((by rw [hg]; exact (below_size (by repeat (first | (with_reducible first | exact HB.out | apply below_alloc | apply pw_below_drewN | apply below_drew1 | refine below_set ?_ GE188.out) | exact HB.out))) : w.heap.size ≤ gb189)); have n4_ := Aside0.mk ((by rw [hg]; exact (below_size (by repeat (first | (with_reducible first | exact HB.out | apply below_alloc | apply pw_below_drewN | apply below_drew1 | refine below_set ?_ GE188.out) | exact HB.out))) : w.heap.size ≤ gb189)); have n5_ := Aside0.mk ((by rw [hg]; exact Nat.ne_of_lt (blk_lt (g := gb188) (o := .cells #[.int .u16 a0_0, .int .u16 a0_1, .int .u16 a0_2, .slice A0_3 l0_3.length c0_3] 64 (0, 0)) (by (with_reducible repeat (first | refine blk_drewN ?_ _ | refine blk_drew ?_ | refine blk_alloc ?_ _)); exact BK188.out)) : gb188 ≠ gb189)); have n6_ := Aside0.mk ((by rw [hg]; exact Nat.ne_of_gt (blk_lt (g := gb188) (o := .cells #[.int .u16 a0_0, .int .u16 a0_1, .int .u16 a0_2, .slice A0_3 l0_3.length c0_3] 64 (0, 0)) (by (with_reducible repeat (first | refine blk_drewN ?_ _ | refine blk_drew ?_ | refine blk_alloc ?_ _)); exact BK188.out)) : gb189 ≠ gb188)); clear BK188; clear HB; have BK188 := n0_; have HB := n1_; have BK189 := n2_; have GW189 := n3_; have GE189 := n4_; have NB188_189 := n5_; have NB189_188 := n6_; clear n0_ n1_ n2_ n3_ n4_ n5_ n6_; clear hb hbox hg; have hnb19 := NB188_189.out; have hnc19 := NB189_188.out; have hcz20_0 : w18.cell? ⟨gb188, 0, none⟩ = some (.int .u16 a0_0) := (blk_cell BK188.out 0).trans rfl; have hcz20_1 : w18.cell? ⟨gb188, 1, none⟩ = some (.int .u16 a0_1) := (blk_cell BK188.out 1).trans rfl; have hcz20_2 : w18.cell? ⟨gb188, 2, none⟩ = some (.int .u16 a0_2) := (blk_cell BK188.out 2).trans rfl; have hcz20_3 : w18.cell? ⟨gb188, 3, none⟩ = some (.slice A0_3 l0_3.length c0_3) := (blk_cell BK188.out 3).trans rfl; have hfz20_0 := blk_frozen BK188.out 0; have hfz20_1 := blk_frozen BK188.out 1; have hfz20_2 := blk_frozen BK188.out 2; have hfz20_3 := blk_frozen BK188.out 3; have hcz21_0 : w18.cell? ⟨gb189, 0, none⟩ = some (.int .u16 a1_0) := (blk_cell BK189.out 0).trans rfl; have hcz21_1 : w18.cell? ⟨gb189, 1, none⟩ = some (.int .u16 a1_1) := (blk_cell BK189.out 1).trans rfl; have hcz21_2 : w18.cell? ⟨gb189, 2, none⟩ = some (.int .u16 a1_2) := (blk_cell BK189.out 2).trans rfl; have hcz21_3 : w18.cell? ⟨gb189, 3, none⟩ = some (.slice A1_3 l1_3.length c1_3) := (blk_cell BK189.out 3).trans rfl; have hfz21_0 := blk_frozen BK189.out 0; have hfz21_1 := blk_frozen BK189.out 1; have hfz21_2 := blk_frozen BK189.out 2; have hfz21_3 := blk_frozen BK189.out 3))
      go_ret
      exact ⟨by first | rfl | (simp [errW_none, errW_some] <;> rfl) | (simp [*, errW_none, errW_some] <;> rfl), by repeat (first | (with_reducible first | exact HB.out | apply below_alloc | apply pw_below_drewN | apply below_drew1 | refine below_set ?_ GE188.out | refine below_set ?_ GE189.out) | exact HB.out)⟩
  · rw [if_neg c3] at H
    have c3b0 : (a0_0 == a1_0) = false := beq_eq_false_iff_ne.mpr c3
    have c3b1 : (a0_0 != a1_0) = true := bne_iff_ne.mpr c3
    obtain rfl := Option.some.inj H
    go_enter Try.func60, Try.ntmps60
    go_wp2_with (first | ((with_reducible refine gate_dst (N := 2) rfl ?_); refine box_event ?hg (N := 2) ?hd (cs := #[.int .u16 a0_0, .int .u16 a0_1, .int .u16 a0_2, .slice A0_3 l0_3.length c0_3]) (t := 64) ?hr ?_; (case hd => rfl); (case hg => rfl); (case hr => first | (go_simp; done) | (go_simp; rfl)); intro gb188 hg w22 hbox hb; have n0_ := Aside0.mk (below_step (by repeat (first | (with_reducible first | exact HB.out | apply below_alloc | apply pw_below_drewN | apply below_drew1) | exact HB.out)) hb); have n1_ := Aside0.mk (hbox); have n2_ := Aside0.mk ((by rw [hg]; exact (below_size (by repeat (first | (with_reducible first | exact HB.out | apply below_alloc | apply pw_below_drewN | apply below_drew1) | exact HB.out))) : w.heap.size ≤ gb188)); have n3_ := Aside0.mk ((by rw [hg]; exact (below_size (by repeat (first | (with_reducible first | exact HB.out | apply below_alloc | apply pw_below_drewN | apply below_drew1) | exact HB.out))) : w.heap.size ≤ gb188)); clear HB; have HB := n0_; have BK188 := n1_; have GW188 := n2_; have GE188 := n3_; clear n0_ n1_ n2_ n3_; clear hb hbox hg) | ((with_reducible refine gate_dst (N := 3) rfl ?_); refine box_event ?hg (N := 3) ?hd (cs := #[.int .u16 a1_0, .int .u16 a1_1, .int .u16 a1_2, .slice A1_3 l1_3.length c1_3]) (t := 64) ?hr ?_; (case hd => rfl); (case hg => rfl); (case hr => first | (go_simp; done) | (go_simp; rfl)); intro gb189 hg w23 hbox hb; have n0_ := Aside0.mk (blk_below (g := gb188) (o := .cells #[.int .u16 a0_0, .int .u16 a0_1, .int .u16 a0_2, .slice A0_3 l0_3.length c0_3] 64 (0, 0)) (by (with_reducible repeat (first | refine blk_drewN ?_ _ | refine blk_drew ?_ | refine blk_alloc ?_ _)); exact BK188.out) hb); have n1_ := Aside0.mk (below_step (by repeat (first | (with_reducible first | exact HB.out | apply below_alloc | apply pw_below_drewN | apply below_drew1 | refine below_set ?_ GE188.out) | exact HB.out)) hb); have n2_ := Aside0.mk (hbox); have n3_ := Aside0.mk ((by rw [hg]; exact (below_size (by repeat (first | (with_reducible first | exact HB.out | apply below_alloc | apply pw_below_drewN | apply below_drew1 | refine below_set ?_ GE188.out) | exact HB.out))) : w.heap.size ≤ gb189)); have n4_ := Aside0.mk ((by rw [hg]; exact (below_size (by repeat (first | (with_reducible first | exact HB.out | apply below_alloc | apply pw_below_drewN | apply below_drew1 | refine below_set ?_ GE188.out) | exact HB.out))) : w.heap.size ≤ gb189)); have n5_ := Aside0.mk ((by rw [hg]; exact Nat.ne_of_lt (blk_lt (g := gb188) (o := .cells #[.int .u16 a0_0, .int .u16 a0_1, .int .u16 a0_2, .slice A0_3 l0_3.length c0_3] 64 (0, 0)) (by (with_reducible repeat (first | refine blk_drewN ?_ _ | refine blk_drew ?_ | refine blk_alloc ?_ _)); exact BK188.out)) : gb188 ≠ gb189)); have n6_ := Aside0.mk ((by rw [hg]; exact Nat.ne_of_gt (blk_lt (g := gb188) (o := .cells #[.int .u16 a0_0, .int .u16 a0_1, .int .u16 a0_2, .slice A0_3 l0_3.length c0_3] 64 (0, 0)) (by (with_reducible repeat (first | refine blk_drewN ?_ _ | refine blk_drew ?_ | refine blk_alloc ?_ _)); exact BK188.out)) : gb189 ≠ gb188)); clear BK188; clear HB; have BK188 := n0_; have HB := n1_; have BK189 := n2_; have GW189 := n3_; have GE189 := n4_; have NB188_189 := n5_; have NB189_188 := n6_; clear n0_ n1_ n2_ n3_ n4_ n5_ n6_; clear hb hbox hg; have hnb24 := NB188_189.out; have hnc24 := NB189_188.out; have hcz25_0 : w23.cell? ⟨gb188, 0, none⟩ = some (.int .u16 a0_0) := (blk_cell BK188.out 0).trans rfl; have hcz25_1 : w23.cell? ⟨gb188, 1, none⟩ = some (.int .u16 a0_1) := (blk_cell BK188.out 1).trans rfl; have hcz25_2 : w23.cell? ⟨gb188, 2, none⟩ = some (.int .u16 a0_2) := (blk_cell BK188.out 2).trans rfl; have hcz25_3 : w23.cell? ⟨gb188, 3, none⟩ = some (.slice A0_3 l0_3.length c0_3) := (blk_cell BK188.out 3).trans rfl; have hfz25_0 := blk_frozen BK188.out 0; have hfz25_1 := blk_frozen BK188.out 1; have hfz25_2 := blk_frozen BK188.out 2; have hfz25_3 := blk_frozen BK188.out 3; have hcz26_0 : w23.cell? ⟨gb189, 0, none⟩ = some (.int .u16 a1_0) := (blk_cell BK189.out 0).trans rfl; have hcz26_1 : w23.cell? ⟨gb189, 1, none⟩ = some (.int .u16 a1_1) := (blk_cell BK189.out 1).trans rfl; have hcz26_2 : w23.cell? ⟨gb189, 2, none⟩ = some (.int .u16 a1_2) := (blk_cell BK189.out 2).trans rfl; have hcz26_3 : w23.cell? ⟨gb189, 3, none⟩ = some (.slice A1_3 l1_3.length c1_3) := (blk_cell BK189.out 3).trans rfl; have hfz26_0 := blk_frozen BK189.out 0; have hfz26_1 := blk_frozen BK189.out 1; have hfz26_2 := blk_frozen BK189.out 2; have hfz26_3 := blk_frozen BK189.out 3))
    go_ret
    exact ⟨by first | rfl | (simp [errW_none, errW_some] <;> rfl) | (simp [*, errW_none, errW_some] <;> rfl), by repeat (first | (with_reducible first | exact HB.out | apply below_alloc | apply pw_below_drewN | apply below_drew1 | refine below_set ?_ GE188.out | refine below_set ?_ GE189.out) | exact HB.out)⟩
end Go.Proofs.Ytmglilncdffbkaa.P
end
section
namespace Go.Proofs.Ytmglilncdffbkaa.P
open Go.RowKit Go.Proofs.YtmglilncdffbkaaW.PrintWords Go.Proofs.YtmglilncdffbkaaW.PrintLast Go.Proofs.YtmglilncdffbkaaW.PrintMore
attribute [local go_sem] max2_int min2_int max_two min_two max_three min_three max_four min_four   -- for this text's walks alone
def code_object.f (a0_0 : Int) (l0_1 : List Int) (a1_0 : Int) (l1_1 : List Int) : Option (Bool) := if a0_0 = a1_0 then (some ((strOfNums l0_1).toList == (strOfNums l1_1).toList)) else (some false)
theorem code_object.calls (a0_0 : Int) (A0_1 : Option Addr) (c0_1 : Nat) (l0_1 : List Int) (a1_0 : Int) (A1_1 : Option Addr) (c1_1 : Nat) (l1_1 : List Int) (r : Bool) (w : World) (hr0_1 : Kd.C (Kd.int .u8) w A0_1 l0_1.length l0_1) (hc0_1 : l0_1.length ≤ c0_1) (hr1_1 : Kd.C (Kd.int .u8) w A1_1 l1_1.length l1_1) (hc1_1 : l1_1.length ≤ c1_1) (h : code_object.f a0_0 l0_1 a1_0 l1_1 = some r) :
    Calls Try.prog 62 #[.agg #[.int .u8 a0_0, .slice A0_1 l0_1.length c0_1], .agg #[.int .u8 a1_0, .slice A1_1 l1_1.length c1_1]] w fun e w' => e = .returned (.bool r) ∧ Below w.heap.size w w' := by
  have hu66 := Try.underlying66
  have HR0_1 := Aside0.mk hr0_1
  have HC0_1 := Aside0.mk hc0_1
  clear hr0_1 hc0_1
  have HR1_1 := Aside0.mk hr1_1
  have HC1_1 := Aside0.mk hc1_1
  clear hr1_1 hc1_1
  have HB := Aside0.mk (Below.refl w.heap.size w)
  have H : (if a0_0 = a1_0 then (some ((strOfNums l0_1).toList == (strOfNums l1_1).toList)) else (some false)) = some r := h
  clear h
  by_cases c3 : a0_0 = a1_0
  · rw [if_pos c3] at H
    have c3b0 : (a0_0 == a1_0) = true := beq_iff_eq.mpr c3
    have c3b1 : (a0_0 != a1_0) = false := bne_eq_false_iff_eq.mpr c3
    clear c3
    obtain rfl := Option.some.inj H
    go_enter Try.func62, Try.ntmps62
    go_wp2_with (first | ((with_reducible refine gate_dst (N := 2) rfl ?_); refine box_event ?hg (N := 2) ?hd (cs := #[.int .u8 a0_0, .slice A0_1 l0_1.length c0_1]) (t := 66) ?hr ?_; (case hd => rfl); (case hg => rfl); (case hr => first | (go_simp; done) | (go_simp; rfl)); intro gb191 hg w4 hbox hb; have n0_ := Aside0.mk (below_step (by repeat (first | (with_reducible first | exact HB.out | apply below_alloc | apply pw_below_drewN | apply below_drew1) | exact HB.out)) hb); have n1_ := Aside0.mk (hbox); have n2_ := Aside0.mk ((by rw [hg]; exact (below_size (by repeat (first | (with_reducible first | exact HB.out | apply below_alloc | apply pw_below_drewN | apply below_drew1) | exact HB.out))) : w.heap.size ≤ gb191)); have n3_ := Aside0.mk ((by rw [hg]; exact (below_size (by repeat (first | (with_reducible first | exact HB.out | apply below_alloc | apply pw_below_drewN | apply below_drew1) | exact HB.out))) : w.heap.size ≤ gb191)); clear HB; have HB := n0_; have BK191 := n1_; have GW191 := n2_; have GE191 := n3_; clear n0_ n1_ n2_ n3_; clear hb hbox hg) | ((with_reducible refine gate_dst (N := 3) rfl ?_); refine box_event ?hg (N := 3) ?hd (cs := #[.int .u8 a1_0, .slice A1_1 l1_1.length c1_1]) (t := 66) ?hr ?_; (case hd => rfl); (case hg => rfl); (case hr => first | (go_simp; done) | (go_simp; rfl)); intro gb192 hg w5 hbox hb; have n0_ := Aside0.mk (blk_below (g := gb191) (o := .cells #[.int .u8 a0_0, .slice A0_1 l0_1.length c0_1] 66 (0, 0)) (by (with_reducible repeat (first | refine blk_drewN ?_ _ | refine blk_drew ?_ | refine blk_alloc ?_ _)); exact BK191.out) hb); have n1_ := Aside0.mk (below_step (by repeat (first | (with_reducible first | exact HB.out | apply below_alloc | apply pw_below_drewN | apply below_drew1 | refine below_set ?_ GE191.out) | exact HB.out)) hb); have n2_ := Aside0.mk (hbox); have n3_ := Aside0.mk ((by rw [hg]; exact (below_size (by repeat (first | (with_reducible first | exact HB.out | apply below_alloc | apply pw_below_drewN | apply below_drew1 | refine below_set ?_ GE191.out) | exact HB.out))) : w.heap.size ≤ gb192)); have n4_ := Aside0.mk ((by rw [hg]; exact (below_size (by repeat (first | (with_reducible first | exact HB.out | apply below_alloc | apply pw_below_drewN | apply below_drew1 | refine below_set ?_ GE191.out) | exact HB.out))) : w.heap.size ≤ gb192)); have n5_ := Aside0.mk ((by rw [hg]; exact Nat.ne_of_lt (blk_lt (g := gb191) (o := .cells #[.int .u8 a0_0, .slice A0_1 l0_1.length c0_1] 66 (0, 0)) (by (with_reducible repeat (first | refine blk_drewN ?_ _ | refine blk_drew ?_ | refine blk_alloc ?_ _)); exact BK191.out)) : gb191 ≠ gb192)); have n6_ := Aside0.mk ((by rw [hg]; exact Nat.ne_of_gt (blk_lt (g := gb191) (o := .cells #[.int .u8 a0_0, .slice A0_1 l0_1.length c0_1] 66 (0, 0)) (by (with_reducible repeat (first | refine blk_drewN ?_ _ | refine blk_drew ?_ | refine blk_alloc ?_ _)); exact BK191.out)) : gb192 ≠ gb191)); clear BK191; clear HB; have BK191 := n0_; have HB := n1_; have BK192 := n2_; have GW192 := n3_; have GE192 := n4_; have NB191_192 := n5_; have NB192_191 := n6_; clear n0_ n1_ n2_ n3_ n4_ n5_ n6_; clear hb hbox hg; have hnb6 := NB191_192.out; have hnc6 := NB192_191.out; have hcz7_0 : w5.cell? ⟨gb191, 0, none⟩ = some (.int .u8 a0_0) := (blk_cell BK191.out 0).trans rfl; have hcz7_1 : w5.cell? ⟨gb191, 1, none⟩ = some (.slice A0_1 l0_1.length c0_1) := (blk_cell BK191.out 1).trans rfl; have hfz7_0 := blk_frozen BK191.out 0; have hfz7_1 := blk_frozen BK191.out 1; have hcz8_0 : w5.cell? ⟨gb192, 0, none⟩ = some (.int .u8 a1_0) := (blk_cell BK192.out 0).trans rfl; have hcz8_1 : w5.cell? ⟨gb192, 1, none⟩ = some (.slice A1_1 l1_1.length c1_1) := (blk_cell BK192.out 1).trans rfl; have hfz8_0 := blk_frozen BK192.out 0; have hfz8_1 := blk_frozen BK192.out 1; have hcv9 := Kd.C_string (P := Try.prog) (A := A0_1) (c := c0_1) Try.underlying22 Try.underlying5 Try.underlying9 (Kd.C_below HR0_1.out HB.out); have hcv10 := Kd.C_string (P := Try.prog) (A := A1_1) (c := c1_1) Try.underlying22 Try.underlying5 Try.underlying9 (Kd.C_below HR1_1.out HB.out)))
    go_ret
    exact ⟨by first | rfl | (simp [errW_none, errW_some] <;> rfl) | (simp [*, errW_none, errW_some] <;> rfl), by repeat (first | (with_reducible first | exact HB.out | apply below_alloc | apply pw_below_drewN | apply below_drew1 | refine below_set ?_ GE191.out | refine below_set ?_ GE192.out) | exact HB.out)⟩
  · rw [if_neg c3] at H
    have c3b0 : (a0_0 == a1_0) = false := beq_eq_false_iff_ne.mpr c3
    have c3b1 : (a0_0 != a1_0) = true := bne_iff_ne.mpr c3
    obtain rfl := Option.some.inj H
    go_enter Try.func62, Try.ntmps62
    go_wp2_with (first | ((with_reducible refine gate_dst (N := 2) rfl ?_); refine box_event ?hg (N := 2) ?hd (cs := #[.int .u8 a0_0, .slice A0_1 l0_1.length c0_1]) (t := 66) ?hr ?_; (case hd => rfl); (case hg => rfl); (case hr => first | (go_simp; done) | (go_simp; rfl)); intro gb191 hg w11 hbox hb; have n0_ := Aside0.mk (below_step (by repeat (first | (with_reducible first | exact HB.out | apply below_alloc | apply pw_below_drewN | apply below_drew1) | exact HB.out)) hb); have n1_ := Aside0.mk (hbox); have n2_ := Aside0.mk ((by rw [hg]; exact (below_size (by repeat (first | (with_reducible first | exact HB.out | apply below_alloc | apply pw_below_drewN | apply below_drew1) | exact HB.out))) : w.heap.size ≤ gb191)); have n3_ := Aside0.mk ((by rw [hg]; exact (below_size (by repeat (first | (with_reducible first | exact HB.out | apply below_alloc | apply pw_below_drewN | apply below_drew1) | exact HB.out))) : w.heap.size ≤ gb191)); clear HB; have HB := n0_; have BK191 := n1_; have GW191 := n2_; have GE191 := n3_; clear n0_ n1_ n2_ n3_; clear hb hbox hg) | ((with_reducible refine gate_dst (N := 3) rfl ?_); refine box_event ?hg (N := 3) ?hd (cs := #[.int .u8 a1_0, .slice A1_1 l1_1.length c1_1]) (t := 66) ?hr ?_; (case hd => rfl); (case hg => rfl); (case hr => first | (go_simp; done) | (go_simp; rfl)); intro gb192 hg w12 hbox hb; have n0_ := Aside0.mk (blk_below (g := gb191) (o := .cells #[.int .u8 a0_0, .slice A0_1 l0_1.length c0_1] 66 (0, 0)) (by (with_reducible repeat (first | refine blk_drewN ?_ _ | refine blk_drew ?_ | refine blk_alloc ?_ _)); exact BK191.out) hb); have n1_ := Aside0.mk (below_step (by repeat (first | (with_reducible first | exact HB.out | apply below_alloc | apply pw_below_drewN | apply below_drew1 | refine below_set ?_ GE191.out) | exact HB.out)) hb); have n2_ := Aside0.mk (hbox); have n3_ := Aside0.mk ((by rw [hg]; exact (below_size (by repeat (first | (with_reducible first | exact HB.out | apply below_alloc | apply pw_below_drewN | apply below_drew1 | refine below_set ?_ GE191.out) | exact HB.out))) : w.heap.size ≤ gb192)); have n4_ := Aside0.mk ((by rw [hg]; exact (below_size (by repeat (first | (with_reducible first | exact HB.out | apply below_alloc | apply pw_below_drewN | apply below_drew1 | refine below_set ?_ GE191.out) | exact HB.out))) : w.heap.size ≤ gb192)); have n5_ := Aside0.mk ((by rw [hg]; exact Nat.ne_of_lt (blk_lt (g := gb191) (o := .cells #[.int .u8 a0_0, .slice A0_1 l0_1.length c0_1] 66 (0, 0)) (by (with_reducible repeat (first | refine blk_drewN ?_ _ | refine blk_drew ?_ | refine blk_alloc ?_ _)); exact BK191.out)) : gb191 ≠ gb192)); have n6_ := Aside0.mk ((by rw [hg]; exact Nat.ne_of_gt (blk_lt (g := gb191) (o := .cells #[.int .u8 a0_0, .slice A0_1 l0_1.length c0_1] 66 (0, 0)) (by (with_reducible repeat (first | refine blk_drewN ?_ _ | refine blk_drew ?_ | refine blk_alloc ?_ _)); exact BK191.out)) : gb192 ≠ gb191)); clear BK191; clear HB; have BK191 := n0_; have HB := n1_; have BK192 := n2_; have GW192 := n3_; have GE192 := n4_; have NB191_192 := n5_; have NB192_191 := n6_; clear n0_ n1_ n2_ n3_ n4_ n5_ n6_; clear hb hbox hg; have hnb13 := NB191_192.out; have hnc13 := NB192_191.out; have hcz14_0 : w12.cell? ⟨gb191, 0, none⟩ = some (.int .u8 a0_0) := (blk_cell BK191.out 0).trans rfl; have hcz14_1 : w12.cell? ⟨gb191, 1, none⟩ = some (.slice A0_1 l0_1.length c0_1) := (blk_cell BK191.out 1).trans rfl; have hfz14_0 := blk_frozen BK191.out 0; have hfz14_1 := blk_frozen BK191.out 1; have hcz15_0 : w12.cell? ⟨gb192, 0, none⟩ = some (.int .u8 a1_0) := (blk_cell BK192.out 0).trans rfl; have hcz15_1 : w12.cell? ⟨gb192, 1, none⟩ = some (.slice A1_1 l1_1.length c1_1) := (blk_cell BK192.out 1).trans rfl; have hfz15_0 := blk_frozen BK192.out 0; have hfz15_1 := blk_frozen BK192.out 1))
    go_ret
    exact ⟨by first | rfl | (simp [errW_none, errW_some] <;> rfl) | (simp [*, errW_none, errW_some] <;> rfl), by repeat (first | (with_reducible first | exact HB.out | apply below_alloc | apply pw_below_drewN | apply below_drew1 | refine below_set ?_ GE191.out | refine below_set ?_ GE192.out) | exact HB.out)⟩
end Go.Proofs.Ytmglilncdffbkaa.P
end
section
namespace Go.Proofs.Ytmglilncdffbkaa.Same
open Go.RowKit Go.Proofs.Ytmglilncdffbkaa.P Go.Proofs.Ytmglilncdffbkaa.E Go.Proofs.YtmglilncdffbkaaW.PrintWords Go.Proofs.YtmglilncdffbkaaW.PrintLast Go.Proofs.YtmglilncdffbkaaW.PrintMore
structure Msg where
  code : Int
  fail : Int
  addr : Int
  count : Int
  value : Int
  and_ : Int
  or_ : Int
  addr2 : Int
  sub : Int
  status : Int
  events : Int
  messages : Int
  words : List Int
  bits : List Bool
  data : List Int
  recs : List S64
  mei : Int
  kind : Int
  level : Int
  more : Int
  next : Int
  objects : List S66
def u8B (x : Int) : Bool := decide (0 ≤ x) && decide (x < 256)
def u16B (x : Int) : Bool := decide (0 ≤ x) && decide (x < 65536)
def listB {α : Type} (f : α → α → Bool) : List α → List α → Bool
  | [], [] => true
  | x :: xs, y :: ys => f x y && listB f xs ys
  | _, _ => false
def recB (a b : S64) : Bool := a.f0 == b.f0 && a.f1 == b.f1 && a.f2 == b.f2 && a.f3 == b.f3
def objB (a b : S66) : Bool := a.f0 == b.f0 && a.f1 == b.f1
def plainB (x y : Msg) : Bool := x.code == y.code && x.fail == y.fail && x.addr == y.addr && x.count == y.count && x.value == y.value && x.and_ == y.and_ && x.or_ == y.or_ && x.addr2 == y.addr2 && x.sub == y.sub && x.status == y.status && x.events == y.events && x.messages == y.messages && x.mei == y.mei && x.kind == y.kind && x.level == y.level && x.more == y.more && x.next == y.next
def sameB (x y : Msg) : Bool := plainB x y && x.words == y.words && x.bits == y.bits && x.data == y.data && listB recB x.recs y.recs && listB objB x.objects y.objects
def okM (x : Msg) : Bool := u8B x.code && u8B x.fail && u16B x.addr && u16B x.count && u16B x.value && u16B x.and_ && u16B x.or_ && u16B x.addr2 && u16B x.sub && u16B x.status && u16B x.events && u16B x.messages && u8B x.mei && u8B x.kind && u8B x.level && u8B x.more && u8B x.next && x.data.all u8B && x.objects.all fun q => q.f1.all u8B
theorem info46 : (Try.prog.info? 24).map (fun i => (i.zero, i.size, i.bytes)) = some (some (.int .u16 0), 1, 2) := by kernel_rfl
def shB (a b : Int) : Int := Go.bits .or .u16 (a * 256) b
theorem plain_any (m : Msg) (Am12 : Option Addr) (cm12 : Nat) (Am13 : Option Addr) (cm13 : Nat) (Am14 : Option Addr) (cm14 : Nat) (Am15 : Option Addr) (cm15 : Nat) (Am21 : Option Addr) (cm21 : Nat) (w : World) (h00 : 0 ≤ m.code) (h01 : m.code < 256) (h10 : 0 ≤ m.fail) (h11 : m.fail < 256) (h160 : 0 ≤ m.mei) (h161 : m.mei < 256) (h170 : 0 ≤ m.kind) (h171 : m.kind < 256) (h180 : 0 ≤ m.level) (h181 : m.level < 256) (h190 : 0 ≤ m.more) (h191 : m.more < 256) (h200 : 0 ≤ m.next) (h201 : m.next < 256) :
    Calls Try.prog 56 #[.agg #[.int .u8 m.code, .int .u8 m.fail, .int .u16 m.addr, .int .u16 m.count, .int .u16 m.value, .int .u16 m.and_, .int .u16 m.or_, .int .u16 m.addr2, .int .u16 m.sub, .int .u16 m.status, .int .u16 m.events, .int .u16 m.messages, .slice Am12 m.words.length cm12, .slice Am13 m.bits.length cm13, .slice Am14 m.data.length cm14, .slice Am15 m.recs.length cm15, .int .u8 m.mei, .int .u8 m.kind, .int .u8 m.level, .int .u8 m.more, .int .u8 m.next, .slice Am21 m.objects.length cm21]] w fun e w' => e = .returned (.agg #[.int .u16 m.code, .int .u16 m.fail, .int .u16 m.addr, .int .u16 m.count, .int .u16 m.value, .int .u16 m.and_, .int .u16 m.or_, .int .u16 m.addr2, .int .u16 m.sub, .int .u16 m.status, .int .u16 m.events, .int .u16 m.messages, .int .u16 (shB m.mei m.kind), .int .u16 (shB m.level m.more), .int .u16 m.next]) ∧ Below w.heap.size w w' := by
  have hu1 := Try.underlying30
  have hu2 := Try.underlying80
  unfold shB
  go_enter Try.func56, Try.ntmps56
  go_wp2
  exact bodyPost_ret (v := .agg #[.int .u16 m.code, .int .u16 m.fail, .int .u16 m.addr, .int .u16 m.count, .int .u16 m.value, .int .u16 m.and_, .int .u16 m.or_, .int .u16 m.addr2, .int .u16 m.sub, .int .u16 m.status, .int .u16 m.events, .int .u16 m.messages, .int .u16 (Go.bits .or .u16 (m.mei * 256) m.kind), .int .u16 (Go.bits .or .u16 (m.level * 256) m.more), .int .u16 m.next]) (by simp [results, Try.results56, go_sem]) rfl ⟨rfl, ((Below.refl _ _).alloc (Nat.le_refl _) _).alloc (by simp) _⟩
section
variable {P : Program} {w : World} {d c e i : Nat} {xs ys : Array Value} {is : List Nat} {a b : Value} {r s : Bool}
theorem eqi_cons (ha : (part e xs (i * c)).run P w = .ok a w) (hb : (part e ys (i * c)).run P w = .ok b w) (he : (Op.equalIn d e a b).run P w = .ok r w) (hr : (Op.eqItems d e c xs ys is).run P w = .ok s w) : (Op.eqItems d e c xs ys (i :: is)).run P w = .ok (r && s) w := by
  simp only [Op.eqItems, Sem.run_bind, ha, hb, he, Result.andThen_ok]
  cases r
  · simp
  · simpa using hr
theorem eqi_nil : (Op.eqItems d e c xs ys []).run P w = .ok true w := by simp [Op.eqItems]
end
theorem eq15 (d : Nat) (w : World) (x0 x1 x2 x3 x4 x5 x6 x7 x8 x9 x10 x11 x12 x13 x14 y0 y1 y2 y3 y4 y5 y6 y7 y8 y9 y10 y11 y12 y13 y14 : Int) : (Op.equalIn (d + 3) 80 (.agg #[.int .u16 x0, .int .u16 x1, .int .u16 x2, .int .u16 x3, .int .u16 x4, .int .u16 x5, .int .u16 x6, .int .u16 x7, .int .u16 x8, .int .u16 x9, .int .u16 x10, .int .u16 x11, .int .u16 x12, .int .u16 x13, .int .u16 x14]) (.agg #[.int .u16 y0, .int .u16 y1, .int .u16 y2, .int .u16 y3, .int .u16 y4, .int .u16 y5, .int .u16 y6, .int .u16 y7, .int .u16 y8, .int .u16 y9, .int .u16 y10, .int .u16 y11, .int .u16 y12, .int .u16 y13, .int .u16 y14])).run Try.prog w = .ok ([x0, x1, x2, x3, x4, x5, x6, x7, x8, x9, x10, x11, x12, x13, x14] == [y0, y1, y2, y3, y4, y5, y6, y7, y8, y9, y10, y11, y12, y13, y14]) w := by
  obtain ⟨i0, hi, _⟩ := info_parts info46
  rw [run_equalIn_array w (d + 2) _ _ Try.underlying80 hi, show List.range 15 = [0, 1, 2, 3, 4, 5, 6, 7, 8, 9, 10, 11, 12, 13, 14] from rfl, show Try.prog.cellsOf 24 = 1 by kernel_rfl]
  have hc : ([x0, x1, x2, x3, x4, x5, x6, x7, x8, x9, x10, x11, x12, x13, x14] == [y0, y1, y2, y3, y4, y5, y6, y7, y8, y9, y10, y11, y12, y13, y14]) = (x0 == y0 && (x1 == y1 && (x2 == y2 && (x3 == y3 && (x4 == y4 && (x5 == y5 && (x6 == y6 && (x7 == y7 && (x8 == y8 && (x9 == y9 && (x10 == y10 && (x11 == y11 && (x12 == y12 && (x13 == y13 && (x14 == y14 && (true)))))))))))))))) := by simp only [List.cons_beq_cons]; rfl
  rw [hc]
  refine eqi_cons (by go_simp; rfl) (by go_simp; rfl) (by go_simp) ?_
  refine eqi_cons (by go_simp; rfl) (by go_simp; rfl) (by go_simp) ?_
  refine eqi_cons (by go_simp; rfl) (by go_simp; rfl) (by go_simp) ?_
  refine eqi_cons (by go_simp; rfl) (by go_simp; rfl) (by go_simp) ?_
  refine eqi_cons (by go_simp; rfl) (by go_simp; rfl) (by go_simp) ?_
  refine eqi_cons (by go_simp; rfl) (by go_simp; rfl) (by go_simp) ?_
  refine eqi_cons (by go_simp; rfl) (by go_simp; rfl) (by go_simp) ?_
  refine eqi_cons (by go_simp; rfl) (by go_simp; rfl) (by go_simp) ?_
  refine eqi_cons (by go_simp; rfl) (by go_simp; rfl) (by go_simp) ?_
  refine eqi_cons (by go_simp; rfl) (by go_simp; rfl) (by go_simp) ?_
  refine eqi_cons (by go_simp; rfl) (by go_simp; rfl) (by go_simp) ?_
  refine eqi_cons (by go_simp; rfl) (by go_simp; rfl) (by go_simp) ?_
  refine eqi_cons (by go_simp; rfl) (by go_simp; rfl) (by go_simp) ?_
  refine eqi_cons (by go_simp; rfl) (by go_simp; rfl) (by go_simp) ?_
  refine eqi_cons (by go_simp; rfl) (by go_simp; rfl) (by go_simp) ?_
  exact eqi_nil
theorem slices_Equal_uint16_uint16_loop (l m : List Int) (hl : (l.length : Int) ≤ 9223372036854775807) (he : l.length = m.length) (d : Nat) : ∀ k i, i ≤ l.length → l.length - i = d → d < k → slices_Equal_uint16_uint16.l0 k l m l.length i = some (l.drop i == m.drop i) := by
  induction d with
  | zero =>
    intro k i h1 h2 hk
    obtain ⟨k, rfl⟩ : ∃ m, k = m + 1 := ⟨k - 1, by omega⟩
    have c : ¬ (i : Int) < (l.length : Int) := by omega
    simp only [slices_Equal_uint16_uint16.l0]
    rw [if_neg c, List.drop_eq_nil_of_le (by omega), List.drop_eq_nil_of_le (by omega)]; rfl
  | succ d ih =>
    intro k i h1 h2 hk
    obtain ⟨k, rfl⟩ : ∃ m, k = m + 1 := ⟨k - 1, by omega⟩
    have c1 : (i : Int) < (l.length : Int) := by omega
    have c2 : (0 : Int) ≤ (i : Int) := by omega
    have c3 : (i : Int) < (m.length : Int) := by omega
    have d3 : (i : Int) + 1 = ((i + 1 : Nat) : Int) := by omega
    have e3 : ((i + 1 : Nat) : Int) < 9223372036854775808 := by omega
    have e4 : -9223372036854775808 ≤ ((i + 1 : Nat) : Int) := by omega
    have hn := ih k (i + 1) (by omega) (by omega) (by omega)
    rw [drop_cons (show i < l.length by omega) 0, drop_cons (show i < m.length by omega) 0]
    simp only [slices_Equal_uint16_uint16.l0]
    rw [if_pos c1, if_pos c2, if_pos c1, if_pos c3, d3, wrap64_id e4 e3, hn]
    have hr : ∀ x : List Int, rd x (i : Int) = x.getD i 0 := fun x => by simp [rd]
    rw [hr, hr, List.cons_beq_cons]
    generalize l.getD i 0 = x
    generalize m.getD i 0 = y
    by_cases h : x = y
    · subst h; simp
    · simp [h]
theorem slices_Equal_uint16_uint16_ev (l m : List Int) (hl : l.length ≤ 9223372036854775807) : Ev (fun k => slices_Equal_uint16_uint16.f k l m) (l == m) := by
  refine Ev.of (slices_Equal_uint16_uint16.mono l m) (k := l.length + 1) ?_
  unfold slices_Equal_uint16_uint16.f
  by_cases he : l.length = m.length
  · have h := slices_Equal_uint16_uint16_loop l m (by omega) he l.length (l.length + 1) 0 (by omega) (by omega) (by omega)
    rw [Int.natCast_zero] at h
    rw [if_pos (by rw [he]), h]; rfl
  · rw [if_neg (fun h => he (by omega))]
    congr 1
    symm
    rw [beq_eq_false_iff_ne]
    exact fun h => he (by rw [h])
theorem slices_Equal_bool_bool_loop (l m : List Bool) (hl : (l.length : Int) ≤ 9223372036854775807) (he : l.length = m.length) (d : Nat) : ∀ k i, i ≤ l.length → l.length - i = d → d < k → slices_Equal_bool_bool.l0 k l m l.length i = some (l.drop i == m.drop i) := by
  induction d with
  | zero =>
    intro k i h1 h2 hk
    obtain ⟨k, rfl⟩ : ∃ m, k = m + 1 := ⟨k - 1, by omega⟩
    have c : ¬ (i : Int) < (l.length : Int) := by omega
    simp only [slices_Equal_bool_bool.l0]
    rw [if_neg c, List.drop_eq_nil_of_le (by omega), List.drop_eq_nil_of_le (by omega)]; rfl
  | succ d ih =>
    intro k i h1 h2 hk
    obtain ⟨k, rfl⟩ : ∃ m, k = m + 1 := ⟨k - 1, by omega⟩
    have c1 : (i : Int) < (l.length : Int) := by omega
    have c2 : (0 : Int) ≤ (i : Int) := by omega
    have c3 : (i : Int) < (m.length : Int) := by omega
    have d3 : (i : Int) + 1 = ((i + 1 : Nat) : Int) := by omega
    have e3 : ((i + 1 : Nat) : Int) < 9223372036854775808 := by omega
    have e4 : -9223372036854775808 ≤ ((i + 1 : Nat) : Int) := by omega
    have hn := ih k (i + 1) (by omega) (by omega) (by omega)
    rw [drop_cons (show i < l.length by omega) false, drop_cons (show i < m.length by omega) false]
    simp only [slices_Equal_bool_bool.l0]
    rw [if_pos c1, if_pos c2, if_pos c1, if_pos c3, d3, wrap64_id e4 e3, hn]
    have hr : ∀ x : List Bool, rdOf false x (i : Int) = x.getD i false := fun x => by simp [rdOf]
    rw [hr, hr, List.cons_beq_cons]
    generalize l.getD i false = x
    generalize m.getD i false = y
    cases x <;> cases y <;> simp
theorem slices_Equal_bool_bool_ev (l m : List Bool) (hl : l.length ≤ 9223372036854775807) : Ev (fun k => slices_Equal_bool_bool.f k l m) (l == m) := by
  refine Ev.of (slices_Equal_bool_bool.mono l m) (k := l.length + 1) ?_
  unfold slices_Equal_bool_bool.f
  by_cases he : l.length = m.length
  · have h := slices_Equal_bool_bool_loop l m (by omega) he l.length (l.length + 1) 0 (by omega) (by omega) (by omega)
    rw [Int.natCast_zero] at h
    rw [if_pos (by rw [he]), h]; rfl
  · rw [if_neg (fun h => he (by omega))]
    congr 1
    symm
    rw [beq_eq_false_iff_ne]
    exact fun h => he (by rw [h])
theorem rec_ev (a b : S64) (hl : a.f3.length ≤ 9223372036854775807) : Ev (fun k => code_rec.f k a.f0 a.f1 a.f2 a.f3 b.f0 b.f1 b.f2 b.f3) (recB a b) := by
  unfold code_rec.f recB
  by_cases h0 : a.f0 = b.f0
  · refine pos h0 ?_
    by_cases h1 : a.f1 = b.f1
    · refine pos h1 ?_
      by_cases h2 : a.f2 = b.f2
      · refine pos h2 (Ev.bind (slices_Equal_uint16_uint16_ev a.f3 b.f3 hl) (ret ?_))
        simp [h0, h1, h2]
      · exact neg h2 (ret (by simp [h2]))
    · exact neg h1 (ret (by simp [h1]))
  · exact neg h0 (ret (by simp [h0]))
theorem u8_bytes {l : List Int} (h : l.all u8B = true) : isBytes l := by
  intro x hx
  have := List.all_eq_true.1 h x hx
  simp only [u8B, Bool.and_eq_true, decide_eq_true_eq] at this
  exact this
theorem obj_ev (a b : S66) (ha : a.f1.all u8B = true) (hb : b.f1.all u8B = true) : code_object.f a.f0 a.f1 b.f0 b.f1 = some (objB a b) := by
  unfold code_object.f objB
  by_cases h0 : a.f0 = b.f0
  · rw [if_pos h0, str_beq (u8_bytes ha) (u8_bytes hb)]; simp [h0]
  · rw [if_neg h0]; simp [h0]
theorem listB_len {α : Type} {f : α → α → Bool} : ∀ l m : List α, listB f l m = true → l.length = m.length
  | [], [], _ => rfl
  | x :: xs, y :: ys, h => by
    simp only [listB, Bool.and_eq_true] at h
    simp only [List.length_cons]
    rw [listB_len xs ys h.2]
  | [], y :: ys, h => by cases h
  | x :: xs, [], h => by cases h
theorem recs_any (A B : Option Addr) (c d : Nat) (l m : List S64) (w : World) (hA : Kd.C k64 w A l.length l) (hB : Kd.C k64 w B m.length m)  :
    Calls Try.prog 59 #[.slice A l.length c, .slice B m.length d, .func (.func 60) #[] #[]] w fun e w' => e = .returned (.bool (listB recB l m)) ∧ Below w.heap.size w w' := by
  have hll : l.length ≤ 9223372036854775807 := hA.2.1
  have HA := Aside0.mk hA
  have HB := Aside0.mk hB
  clear hA hB
  have hu := Try.underlying64
  by_cases hlen : l.length = m.length
  · have hLM := Aside0.mk hlen
    have t1 : (l.length == m.length) = true := beq_iff_eq.2 hlen
    have t2 : (l.length != m.length) = false := by rw [hlen]; simp
    have t3 : ((l.length : Int) == (m.length : Int)) = true := beq_iff_eq.2 (by omega)
    have t4 : ((l.length : Int) != (m.length : Int)) = false := by rw [hlen]; simp
    clear hlen
    go_enter Try.func59, Try.ntmps59
    go_wp2
    go_loopw [17] (fun i wr => ∃ k : Nat, k ≤ l.length ∧ i = .int .i64 k ∧ Aside0 (listB recB l m = listB recB (l.drop k) (m.drop k)) ∧ Aside0 (Below w.heap.size w wr)) (fun i _ => l.length - (intOf i).toNat)
    case atStart => exact ⟨0, Nat.zero_le _, rfl, ⟨rfl⟩, ⟨Below.refl _ _⟩⟩
    case round =>
      obtain ⟨k, hk, rfl, HL, HW⟩ := hrel
      by_cases hlt : k < l.length
      · have hlt2 : k < m.length := by rw [← hLM.out]; exact hlt
        obtain ⟨adA, A3, cA3, rfl, x0, x1, x2, x3, gA, qA⟩ := at_T64 HA.out (k : Int) (by omega) (by omega)
        obtain ⟨adB, B3, cB3, rfl, y0, y1, y2, y3, gB, qB⟩ := at_T64 HB.out (k : Int) (by omega) (by omega)
        have px0 := (HW.out.cell (World.block_lt_of_cell? w _ x0)).trans x0
        rw [Int.toNat_natCast] at px0
        clear x0
        have px1 := (HW.out.cell (World.block_lt_of_cell? w _ x1)).trans x1
        rw [Int.toNat_natCast] at px1
        clear x1
        have px2 := (HW.out.cell (World.block_lt_of_cell? w _ x2)).trans x2
        rw [Int.toNat_natCast] at px2
        clear x2
        have px3 := (HW.out.cell (World.block_lt_of_cell? w _ x3)).trans x3
        rw [Int.toNat_natCast] at px3
        clear x3
        have py0 := (HW.out.cell (World.block_lt_of_cell? w _ y0)).trans y0
        rw [Int.toNat_natCast] at py0
        clear y0
        have ay0 := fun o : Obj => ((below_alloc (Below.refl _ wr) o).cell (World.block_lt_of_cell? wr _ py0)).trans py0
        clear py0
        have py1 := (HW.out.cell (World.block_lt_of_cell? w _ y1)).trans y1
        rw [Int.toNat_natCast] at py1
        clear y1
        have ay1 := fun o : Obj => ((below_alloc (Below.refl _ wr) o).cell (World.block_lt_of_cell? wr _ py1)).trans py1
        clear py1
        have py2 := (HW.out.cell (World.block_lt_of_cell? w _ y2)).trans y2
        rw [Int.toNat_natCast] at py2
        clear y2
        have ay2 := fun o : Obj => ((below_alloc (Below.refl _ wr) o).cell (World.block_lt_of_cell? wr _ py2)).trans py2
        clear py2
        have py3 := (HW.out.cell (World.block_lt_of_cell? w _ y3)).trans y3
        rw [Int.toNat_natCast] at py3
        clear y3
        have ay3 := fun o : Obj => ((below_alloc (Below.refl _ wr) o).cell (World.block_lt_of_cell? wr _ py3)).trans py3
        clear py3
        have hdrop : listB recB (l.drop k) (m.drop k) = (recB (rd_T64 l k) (rd_T64 m k) && listB recB (l.drop (k + 1)) (m.drop (k + 1))) := by
          rw [drop_cons hlt z64, drop_cons hlt2 z64]; rfl
        have HD := Aside0.mk hdrop
        clear hdrop
        have HX := Aside0.mk qA
        have HY := Aside0.mk qB
        clear qA qB
        obtain ⟨kk, hpure⟩ := (rec_ev (rd_T64 l k) (rd_T64 m k) (HX.out.2.1)).rounds
        cases hcmp : recB (rd_T64 l k) (rd_T64 m k) with
        | true =>
          have HC := Aside0.mk hcmp
          rw [hcmp] at hpure
          have HP := Aside0.mk hpure
          clear hcmp hpure
          go_wp2_with (go_at_call 60; (with_reducible refine (code_rec.calls kk _ _ _ _ _ (rd_T64 l k).f3 _ _ _ _ _ (rd_T64 m k).f3 true _ ?side1 ?side2 ?side3 ?side4 HP.out).mono ?_); (case side1 => repeat (first | exact (Kd.C_below HX.out HW.out) | (with_reducible refine Kd.C_alloc ?_ _) | (with_reducible refine Kd.C_drewN ?_ _) | (with_reducible refine Kd.C_drew ?_))); (case side2 => exact gA); (case side3 => repeat (first | exact (Kd.C_below HY.out HW.out) | (with_reducible refine Kd.C_alloc ?_ _) | (with_reducible refine Kd.C_drewN ?_ _) | (with_reducible refine Kd.C_drew ?_))); (case side4 => exact gB); rintro e w2 ⟨rfl, hb2⟩; have HB2 := Aside0.mk (below_step (by repeat (first | (with_reducible first | exact HW.out | apply below_alloc | apply pw_below_drewN | apply below_drew1) | exact HW.out)) hb2); clear hb2)
          go_roundw
          case rel => exact ⟨k + 1, by omega, by go_num, ⟨by rw [HL.out, HD.out, HC.out]; rfl⟩, ⟨HB2.out⟩⟩
          case measure => simp [intOf]; omega
        | false =>
          have HC := Aside0.mk hcmp
          rw [hcmp] at hpure
          have HP := Aside0.mk hpure
          clear hcmp hpure
          go_wp2_with (go_at_call 60; (with_reducible refine (code_rec.calls kk _ _ _ _ _ (rd_T64 l k).f3 _ _ _ _ _ (rd_T64 m k).f3 false _ ?side1 ?side2 ?side3 ?side4 HP.out).mono ?_); (case side1 => repeat (first | exact (Kd.C_below HX.out HW.out) | (with_reducible refine Kd.C_alloc ?_ _) | (with_reducible refine Kd.C_drewN ?_ _) | (with_reducible refine Kd.C_drew ?_))); (case side2 => exact gA); (case side3 => repeat (first | exact (Kd.C_below HY.out HW.out) | (with_reducible refine Kd.C_alloc ?_ _) | (with_reducible refine Kd.C_drewN ?_ _) | (with_reducible refine Kd.C_drew ?_))); (case side4 => exact gB); rintro e w2 ⟨rfl, hb2⟩; have HB2 := Aside0.mk (below_step (by repeat (first | (with_reducible first | exact HW.out | apply below_alloc | apply pw_below_drewN | apply below_drew1) | exact HW.out)) hb2); clear hb2)
          go_ret
          exact ⟨by rw [HL.out, HD.out, HC.out]; rfl, HB2.out⟩
      · go_wp2
        go_ret
        have e1 : l.drop k = [] := List.drop_eq_nil_of_le (by omega)
        have e2 : m.drop k = [] := List.drop_eq_nil_of_le (by have := hLM.out; omega)
        exact ⟨by rw [HL.out, e1, e2]; rfl, HW.out⟩
  · have t1 : (l.length == m.length) = false := beq_eq_false_iff_ne.2 hlen
    have t2 : (l.length != m.length) = true := bne_iff_ne.2 hlen
    have t3 : ((l.length : Int) == (m.length : Int)) = false := beq_eq_false_iff_ne.2 (by omega)
    have t4 : ((l.length : Int) != (m.length : Int)) = true := bne_iff_ne.2 (by omega)
    have hne : listB recB l m = false := Bool.eq_false_iff.2 fun h => hlen (listB_len _ _ h)
    have HN := Aside0.mk hne
    clear hne hlen
    go_enter Try.func59, Try.ntmps59
    go_wp2
    go_ret
    exact ⟨by rw [HN.out]; rfl, Below.refl _ _⟩
theorem objs_any (A B : Option Addr) (c d : Nat) (l m : List S66) (w : World) (hA : Kd.C k66 w A l.length l) (hB : Kd.C k66 w B m.length m) (hin : ∀ x ∈ l, x.f1.all u8B = true) (hin2 : ∀ x ∈ m, x.f1.all u8B = true) :
    Calls Try.prog 61 #[.slice A l.length c, .slice B m.length d, .func (.func 62) #[] #[]] w fun e w' => e = .returned (.bool (listB objB l m)) ∧ Below w.heap.size w w' := by
  have hll : l.length ≤ 9223372036854775807 := hA.2.1
  have HA := Aside0.mk hA
  have HB := Aside0.mk hB
  clear hA hB
  have hu := Try.underlying66
  by_cases hlen : l.length = m.length
  · have hLM := Aside0.mk hlen
    have t1 : (l.length == m.length) = true := beq_iff_eq.2 hlen
    have t2 : (l.length != m.length) = false := by rw [hlen]; simp
    have t3 : ((l.length : Int) == (m.length : Int)) = true := beq_iff_eq.2 (by omega)
    have t4 : ((l.length : Int) != (m.length : Int)) = false := by rw [hlen]; simp
    clear hlen
    go_enter Try.func61, Try.ntmps61
    go_wp2
    go_loopw [17] (fun i wr => ∃ k : Nat, k ≤ l.length ∧ i = .int .i64 k ∧ Aside0 (listB objB l m = listB objB (l.drop k) (m.drop k)) ∧ Aside0 (Below w.heap.size w wr)) (fun i _ => l.length - (intOf i).toNat)
    case atStart => exact ⟨0, Nat.zero_le _, rfl, ⟨rfl⟩, ⟨Below.refl _ _⟩⟩
    case round =>
      obtain ⟨k, hk, rfl, HL, HW⟩ := hrel
      by_cases hlt : k < l.length
      · have hlt2 : k < m.length := by rw [← hLM.out]; exact hlt
        obtain ⟨adA, A1, cA1, rfl, x0, x1, gA, qA⟩ := at_T66 HA.out (k : Int) (by omega) (by omega)
        obtain ⟨adB, B1, cB1, rfl, y0, y1, gB, qB⟩ := at_T66 HB.out (k : Int) (by omega) (by omega)
        have px0 := (HW.out.cell (World.block_lt_of_cell? w _ x0)).trans x0
        rw [Int.toNat_natCast] at px0
        clear x0
        have px1 := (HW.out.cell (World.block_lt_of_cell? w _ x1)).trans x1
        rw [Int.toNat_natCast] at px1
        clear x1
        have py0 := (HW.out.cell (World.block_lt_of_cell? w _ y0)).trans y0
        rw [Int.toNat_natCast] at py0
        clear y0
        have ay0 := fun o : Obj => ((below_alloc (Below.refl _ wr) o).cell (World.block_lt_of_cell? wr _ py0)).trans py0
        clear py0
        have py1 := (HW.out.cell (World.block_lt_of_cell? w _ y1)).trans y1
        rw [Int.toNat_natCast] at py1
        clear y1
        have ay1 := fun o : Obj => ((below_alloc (Below.refl _ wr) o).cell (World.block_lt_of_cell? wr _ py1)).trans py1
        clear py1
        have hdrop : listB objB (l.drop k) (m.drop k) = (objB (rd_T66 l k) (rd_T66 m k) && listB objB (l.drop (k + 1)) (m.drop (k + 1))) := by
          rw [drop_cons hlt z66, drop_cons hlt2 z66]; rfl
        have HD := Aside0.mk hdrop
        clear hdrop
        have HX := Aside0.mk qA
        have HY := Aside0.mk qB
        clear qA qB
        have hpure := obj_ev (rd_T66 l k) (rd_T66 m k) (by unfold rd_T66; rw [Int.toNat_natCast, List.getD_eq_getElem?_getD, List.getElem?_eq_getElem hlt]; exact hin _ (List.getElem_mem hlt)) (by unfold rd_T66; rw [Int.toNat_natCast, List.getD_eq_getElem?_getD, List.getElem?_eq_getElem hlt2]; exact hin2 _ (List.getElem_mem hlt2))
        cases hcmp : objB (rd_T66 l k) (rd_T66 m k) with
        | true =>
          have HC := Aside0.mk hcmp
          rw [hcmp] at hpure
          have HP := Aside0.mk hpure
          clear hcmp hpure
          go_wp2_with (go_at_call 62; (with_reducible refine (code_object.calls _ _ _ (rd_T66 l k).f1 _ _ _ (rd_T66 m k).f1 true _ ?side1 ?side2 ?side3 ?side4 HP.out).mono ?_); (case side1 => repeat (first | exact (Kd.C_below HX.out HW.out) | (with_reducible refine Kd.C_alloc ?_ _) | (with_reducible refine Kd.C_drewN ?_ _) | (with_reducible refine Kd.C_drew ?_))); (case side2 => exact gA); (case side3 => repeat (first | exact (Kd.C_below HY.out HW.out) | (with_reducible refine Kd.C_alloc ?_ _) | (with_reducible refine Kd.C_drewN ?_ _) | (with_reducible refine Kd.C_drew ?_))); (case side4 => exact gB); rintro e w2 ⟨rfl, hb2⟩; have HB2 := Aside0.mk (below_step (by repeat (first | (with_reducible first | exact HW.out | apply below_alloc | apply pw_below_drewN | apply below_drew1) | exact HW.out)) hb2); clear hb2)
          go_roundw
          case rel => exact ⟨k + 1, by omega, by go_num, ⟨by rw [HL.out, HD.out, HC.out]; rfl⟩, ⟨HB2.out⟩⟩
          case measure => simp [intOf]; omega
        | false =>
          have HC := Aside0.mk hcmp
          rw [hcmp] at hpure
          have HP := Aside0.mk hpure
          clear hcmp hpure
          go_wp2_with (go_at_call 62; (with_reducible refine (code_object.calls _ _ _ (rd_T66 l k).f1 _ _ _ (rd_T66 m k).f1 false _ ?side1 ?side2 ?side3 ?side4 HP.out).mono ?_); (case side1 => repeat (first | exact (Kd.C_below HX.out HW.out) | (with_reducible refine Kd.C_alloc ?_ _) | (with_reducible refine Kd.C_drewN ?_ _) | (with_reducible refine Kd.C_drew ?_))); (case side2 => exact gA); (case side3 => repeat (first | exact (Kd.C_below HY.out HW.out) | (with_reducible refine Kd.C_alloc ?_ _) | (with_reducible refine Kd.C_drewN ?_ _) | (with_reducible refine Kd.C_drew ?_))); (case side4 => exact gB); rintro e w2 ⟨rfl, hb2⟩; have HB2 := Aside0.mk (below_step (by repeat (first | (with_reducible first | exact HW.out | apply below_alloc | apply pw_below_drewN | apply below_drew1) | exact HW.out)) hb2); clear hb2)
          go_ret
          exact ⟨by rw [HL.out, HD.out, HC.out]; rfl, HB2.out⟩
      · go_wp2
        go_ret
        have e1 : l.drop k = [] := List.drop_eq_nil_of_le (by omega)
        have e2 : m.drop k = [] := List.drop_eq_nil_of_le (by have := hLM.out; omega)
        exact ⟨by rw [HL.out, e1, e2]; rfl, HW.out⟩
  · have t1 : (l.length == m.length) = false := beq_eq_false_iff_ne.2 hlen
    have t2 : (l.length != m.length) = true := bne_iff_ne.2 hlen
    have t3 : ((l.length : Int) == (m.length : Int)) = false := beq_eq_false_iff_ne.2 (by omega)
    have t4 : ((l.length : Int) != (m.length : Int)) = true := bne_iff_ne.2 (by omega)
    have hne : listB objB l m = false := Bool.eq_false_iff.2 fun h => hlen (listB_len _ _ h)
    have HN := Aside0.mk hne
    clear hne hlen
    go_enter Try.func61, Try.ntmps61
    go_wp2
    go_ret
    exact ⟨by rw [HN.out]; rfl, Below.refl _ _⟩
def eqL (a b : List Int) : Bool := a == b
theorem eqL15 (d : Nat) (w : World) (x0 x1 x2 x3 x4 x5 x6 x7 x8 x9 x10 x11 x12 x13 x14 y0 y1 y2 y3 y4 y5 y6 y7 y8 y9 y10 y11 y12 y13 y14 : Int) : (Op.equalIn (d + 3) 80 (.agg #[.int .u16 x0, .int .u16 x1, .int .u16 x2, .int .u16 x3, .int .u16 x4, .int .u16 x5, .int .u16 x6, .int .u16 x7, .int .u16 x8, .int .u16 x9, .int .u16 x10, .int .u16 x11, .int .u16 x12, .int .u16 x13, .int .u16 x14]) (.agg #[.int .u16 y0, .int .u16 y1, .int .u16 y2, .int .u16 y3, .int .u16 y4, .int .u16 y5, .int .u16 y6, .int .u16 y7, .int .u16 y8, .int .u16 y9, .int .u16 y10, .int .u16 y11, .int .u16 y12, .int .u16 y13, .int .u16 y14])).run Try.prog w = .ok (eqL [x0, x1, x2, x3, x4, x5, x6, x7, x8, x9, x10, x11, x12, x13, x14] [y0, y1, y2, y3, y4, y5, y6, y7, y8, y9, y10, y11, y12, y13, y14]) w := eq15 d w x0 x1 x2 x3 x4 x5 x6 x7 x8 x9 x10 x11 x12 x13 x14 y0 y1 y2 y3 y4 y5 y6 y7 y8 y9 y10 y11 y12 y13 y14
theorem sh_eq (a b : Int) (ha : 0 ≤ a ∧ a < 256) (hb : 0 ≤ b ∧ b < 256) : shB a b = a * 256 + b := by
  unfold shB
  exact bits_join .u16 16 (by decide) (fun n h0 h1 => by simp [IntKind.wrap, IntKind.bits, IntKind.signed]; omega) 8 (a * 256) b (by omega) (by omega) (by omega) hb.1 (by omega) (by omega)
theorem plain_eq (x y : Msg) (vx0 : 0 ≤ x.code ∧ x.code < 256) (vx1 : 0 ≤ x.fail ∧ x.fail < 256) (vx16 : 0 ≤ x.mei ∧ x.mei < 256) (vx17 : 0 ≤ x.kind ∧ x.kind < 256) (vx18 : 0 ≤ x.level ∧ x.level < 256) (vx19 : 0 ≤ x.more ∧ x.more < 256) (vx20 : 0 ≤ x.next ∧ x.next < 256) (vy0 : 0 ≤ y.code ∧ y.code < 256) (vy1 : 0 ≤ y.fail ∧ y.fail < 256) (vy16 : 0 ≤ y.mei ∧ y.mei < 256) (vy17 : 0 ≤ y.kind ∧ y.kind < 256) (vy18 : 0 ≤ y.level ∧ y.level < 256) (vy19 : 0 ≤ y.more ∧ y.more < 256) (vy20 : 0 ≤ y.next ∧ y.next < 256) : eqL [x.code, x.fail, x.addr, x.count, x.value, x.and_, x.or_, x.addr2, x.sub, x.status, x.events, x.messages, shB x.mei x.kind, shB x.level x.more, x.next] [y.code, y.fail, y.addr, y.count, y.value, y.and_, y.or_, y.addr2, y.sub, y.status, y.events, y.messages, shB y.mei y.kind, shB y.level y.more, y.next] = plainB x y := by
  unfold eqL plainB
  rw [sh_eq x.mei x.kind vx16 vx17, sh_eq x.level x.more vx18 vx19, sh_eq y.mei y.kind vy16 vy17, sh_eq y.level y.more vy18 vy19, Bool.eq_iff_iff]
  simp only [beq_iff_eq, List.cons.injEq, Bool.and_eq_true, and_true]
  constructor
  · intro h
    obtain ⟨a0, a1, a2, a3, a4, a5, a6, a7, a8, a9, a10, a11, a12, a13, a14⟩ := h
    refine ⟨⟨⟨⟨⟨⟨⟨⟨⟨⟨⟨⟨⟨⟨⟨⟨a0, a1⟩, a2⟩, a3⟩, a4⟩, a5⟩, a6⟩, a7⟩, a8⟩, a9⟩, a10⟩, a11⟩, ?_⟩, ?_⟩, ?_⟩, ?_⟩, a14⟩ <;> omega
  · rintro ⟨⟨⟨⟨⟨⟨⟨⟨⟨⟨⟨⟨⟨⟨⟨⟨a0, a1⟩, a2⟩, a3⟩, a4⟩, a5⟩, a6⟩, a7⟩, a8⟩, a9⟩, a10⟩, a11⟩, a12⟩, a13⟩, a14⟩, a15⟩, a16⟩
    refine ⟨a0, a1, a2, a3, a4, a5, a6, a7, a8, a9, a10, a11, ?_, ?_, a16⟩ <;> omega
theorem exec_load_row {P : Program} {ev : Operand → Value} {o : Oper} {w : World} (ty : TypeId) (x : Operand) (ho : o.op = .load ty x) (g : Nat) (hx : ev x = .pointer (some ⟨g, 0, none⟩)) (t : TypeId) (cs : Array Value) (fr : Nat × Nat) (d : TypeDesc)
    (hg : w.heap[g]? = some (.cells cs t fr)) (hu : P.underlying ty = some d) (hd : (match d with | .struct _ | .array _ _ => true | _ => false) = true) (hi : (P.info? ty).map (·.size) = some cs.size) : (execOp ev o).run P w = .ok (.value (.agg cs)) w := by
  unfold execOp
  simp only [ho, hx, Instr.loadAt, Instr.sureAddr, Sem.run_bind, Sem.run_pure, Result.andThen_ok, run_loadVar_row w g t ty cs fr d hg hu hd hi]
theorem heap_x (w : World) (cx cy : Array Value) (t : TypeId) : ((w.alloc (.cells cx t)).alloc (.cells cy t)).drew.heap[w.heap.size]? = some (.cells cx t (0, 0)) := by
  show (w.alloc (.cells cx t)|>.alloc (.cells cy t)).heap[w.heap.size]? = _
  have h := heap_alloc_new w (.cells cx t)
  rw [← h]
  exact (below_alloc (Below.refl _ (w.alloc (.cells cx t))) (.cells cy t)).block _ (by simp)
theorem heap_y (w : World) (cx cy : Array Value) (t : TypeId) : ((w.alloc (.cells cx t)).alloc (.cells cy t)).drew.heap[w.heap.size + 1]? = some (.cells cy t (0, 0)) := by
  show (w.alloc (.cells cx t)|>.alloc (.cells cy t)).heap[w.heap.size + 1]? = _
  have h := heap_alloc_new (w.alloc (.cells cx t)) (.cells cy t)
  rw [show (w.alloc (.cells cx t)).heap.size = w.heap.size + 1 by simp] at h
  exact h
end Go.Proofs.Ytmglilncdffbkaa.Same
end
section
namespace Go.Proofs.Ytmglilncdffbkaa.Same
open Go.RowKit Go.Proofs.Ytmglilncdffbkaa.P Go.Proofs.Ytmglilncdffbkaa.E Go.Proofs.YtmglilncdffbkaaW.PrintWords Go.Proofs.YtmglilncdffbkaaW.PrintLast Go.Proofs.YtmglilncdffbkaaW.PrintMore
def goodRec (r : S64) : Prop := (0 ≤ r.f0 ∧ r.f0 < 65536) ∧ (0 ≤ r.f1 ∧ r.f1 < 65536) ∧ (0 ≤ r.f2 ∧ r.f2 < 65536) ∧ ∀ x ∈ r.f3, 0 ≤ x ∧ x < 65536
def goodM (m : Msg) : Prop := okM m = true ∧ (∀ x ∈ m.words, 0 ≤ x ∧ x < 65536) ∧ (∀ r ∈ m.recs, goodRec r) ∧ ∀ o ∈ m.objects, 0 ≤ o.f0 ∧ o.f0 < 256
def IsMsg (w : World) (cx : Array Value) (m : Msg) : Prop :=
  ∃ (A12 : Option Addr) (c12 : Nat) (A13 : Option Addr) (c13 : Nat) (A14 : Option Addr) (c14 : Nat) (A15 : Option Addr) (c15 : Nat) (A21 : Option Addr) (c21 : Nat), cx = #[.int .u8 m.code, .int .u8 m.fail, .int .u16 m.addr, .int .u16 m.count, .int .u16 m.value, .int .u16 m.and_, .int .u16 m.or_, .int .u16 m.addr2, .int .u16 m.sub, .int .u16 m.status, .int .u16 m.events, .int .u16 m.messages, .slice A12 m.words.length c12, .slice A13 m.bits.length c13, .slice A14 m.data.length c14, .slice A15 m.recs.length c15, .int .u8 m.mei, .int .u8 m.kind, .int .u8 m.level, .int .u8 m.more, .int .u8 m.next, .slice A21 m.objects.length c21] ∧ goodM m ∧ (Kd.C (Kd.int .u16) w A12 m.words.length m.words ∧ m.words.length ≤ c12) ∧ (Kd.C Kd.bool w A13 m.bits.length m.bits ∧ m.bits.length ≤ c13) ∧ (Kd.C (Kd.int .u8) w A14 m.data.length m.data ∧ m.data.length ≤ c14) ∧ (Kd.C k64 w A15 m.recs.length m.recs ∧ m.recs.length ≤ c15) ∧ (Kd.C k66 w A21 m.objects.length m.objects ∧ m.objects.length ≤ c21)
theorem IsMsg.on {w w' : World} {cx : Array Value} {m : Msg} (h : IsMsg w cx m) (hb : Below w.heap.size w w') : IsMsg w' cx m := by
  obtain ⟨A12, c12, A13, c13, A14, c14, A15, c15, A21, c21, rfl, ok, ⟨hr12, hc12⟩, ⟨hr13, hc13⟩, ⟨hr14, hc14⟩, ⟨hr15, hc15⟩, ⟨hr21, hc21⟩⟩ := h
  exact ⟨A12, c12, A13, c13, A14, c14, A15, c15, A21, c21, rfl, ok, ⟨Kd.C_below hr12 hb, hc12⟩, ⟨Kd.C_below hr13 hb, hc13⟩, ⟨Kd.C_below hr14 hb, hc14⟩, ⟨Kd.C_below hr15 hb, hc15⟩, ⟨Kd.C_below hr21 hb, hc21⟩⟩
theorem IsMsg.size {w : World} {cx : Array Value} {m : Msg} (h : IsMsg w cx m) : cx.size = 22 := by
  obtain ⟨A12, c12, A13, c13, A14, c14, A15, c15, A21, c21, rfl, ok, ⟨hr12, hc12⟩, ⟨hr13, hc13⟩, ⟨hr14, hc14⟩, ⟨hr15, hc15⟩, ⟨hr21, hc21⟩⟩ := h
  rfl
theorem IsMsg.one {w : World} {cx : Array Value} {m : Msg} (h : IsMsg w cx m) : cx.all (·.oneCell') = true := by
  obtain ⟨A12, c12, A13, c13, A14, c14, A15, c15, A21, c21, rfl, ok, ⟨hr12, hc12⟩, ⟨hr13, hc13⟩, ⟨hr14, hc14⟩, ⟨hr15, hc15⟩, ⟨hr21, hc21⟩⟩ := h
  simp [Value.oneCell']
theorem IsMsg.good {w : World} {cx : Array Value} {m : Msg} (h : IsMsg w cx m) : goodM m := by
  obtain ⟨A12, c12, A13, c13, A14, c14, A15, c15, A21, c21, rfl, ok, ⟨hr12, hc12⟩, ⟨hr13, hc13⟩, ⟨hr14, hc14⟩, ⟨hr15, hc15⟩, ⟨hr21, hc21⟩⟩ := h
  exact ok
theorem msg_info {cx : Array Value} (h : cx.size = 22) : (Try.prog.info? 30).map (·.size) = some cx.size := by rw [h]; kernel_rfl
def celled (cx : Array Value) (i : Nat) (v : Value) : Prop := cx[i]? = some v
theorem IsMsg.celled {w : World} {cx : Array Value} {m : Msg} (h : IsMsg w cx m) : Same.celled cx 0 (.int .u8 m.code) ∧ Same.celled cx 1 (.int .u8 m.fail) ∧ Same.celled cx 2 (.int .u16 m.addr) ∧ Same.celled cx 3 (.int .u16 m.count) ∧ Same.celled cx 4 (.int .u16 m.value) ∧ Same.celled cx 5 (.int .u16 m.and_) ∧ Same.celled cx 6 (.int .u16 m.or_) ∧ Same.celled cx 7 (.int .u16 m.addr2) ∧ Same.celled cx 8 (.int .u16 m.sub) ∧ Same.celled cx 9 (.int .u16 m.status) ∧ Same.celled cx 10 (.int .u16 m.events) ∧ Same.celled cx 11 (.int .u16 m.messages) ∧ Same.celled cx 16 (.int .u8 m.mei) ∧ Same.celled cx 17 (.int .u8 m.kind) ∧ Same.celled cx 18 (.int .u8 m.level) ∧ Same.celled cx 19 (.int .u8 m.more) ∧ Same.celled cx 20 (.int .u8 m.next) := by
  obtain ⟨A12, c12, A13, c13, A14, c14, A15, c15, A21, c21, rfl, ok, ⟨hr12, hc12⟩, ⟨hr13, hc13⟩, ⟨hr14, hc14⟩, ⟨hr15, hc15⟩, ⟨hr21, hc21⟩⟩ := h
  exact ⟨rfl, rfl, rfl, rfl, rfl, rfl, rfl, rfl, rfl, rfl, rfl, rfl, rfl, rfl, rfl, rfl, rfl⟩
section
variable {w W : World} {g : Nat} {cx : Array Value} {t : TypeId} {m : Msg} (hb : w.heap[g]? = some (.cells cx t (0, 0))) (h : IsMsg W cx m)
include hb h
theorem bx_code : w.cell? ⟨g, 0, none⟩ = some (.int .u8 m.code) := (blk_cell hb 0).trans h.celled.1
theorem bx_addr : w.cell? ⟨g, 2, none⟩ = some (.int .u16 m.addr) := (blk_cell hb 2).trans h.celled.2.2.1
theorem bx_count : w.cell? ⟨g, 3, none⟩ = some (.int .u16 m.count) := (blk_cell hb 3).trans h.celled.2.2.2.1
theorem bx_value : w.cell? ⟨g, 4, none⟩ = some (.int .u16 m.value) := (blk_cell hb 4).trans h.celled.2.2.2.2.1
theorem bx_and : w.cell? ⟨g, 5, none⟩ = some (.int .u16 m.and_) := (blk_cell hb 5).trans h.celled.2.2.2.2.2.1
theorem bx_or : w.cell? ⟨g, 6, none⟩ = some (.int .u16 m.or_) := (blk_cell hb 6).trans h.celled.2.2.2.2.2.2.1
theorem bx_addr2 : w.cell? ⟨g, 7, none⟩ = some (.int .u16 m.addr2) := (blk_cell hb 7).trans h.celled.2.2.2.2.2.2.2.1
end
theorem goodM_num {m : Msg} (h : goodM m) : ((0 ≤ m.code ∧ m.code < 256) ∧ (0 ≤ m.fail ∧ m.fail < 256) ∧ (0 ≤ m.addr ∧ m.addr < 65536) ∧ (0 ≤ m.count ∧ m.count < 65536) ∧ (0 ≤ m.value ∧ m.value < 65536) ∧ (0 ≤ m.and_ ∧ m.and_ < 65536) ∧ (0 ≤ m.or_ ∧ m.or_ < 65536) ∧ (0 ≤ m.addr2 ∧ m.addr2 < 65536) ∧ (0 ≤ m.sub ∧ m.sub < 65536) ∧ (0 ≤ m.status ∧ m.status < 65536) ∧ (0 ≤ m.events ∧ m.events < 65536) ∧ (0 ≤ m.messages ∧ m.messages < 65536) ∧ (0 ≤ m.mei ∧ m.mei < 256) ∧ (0 ≤ m.kind ∧ m.kind < 256) ∧ (0 ≤ m.level ∧ m.level < 256) ∧ (0 ≤ m.more ∧ m.more < 256) ∧ (0 ≤ m.next ∧ m.next < 256)) ∧ isBytes m.data ∧ (∀ o ∈ m.objects, isBytes o.f1) := by
  obtain ⟨h1, _⟩ := h
  simp only [okM, u8B, u16B, Bool.and_eq_true, decide_eq_true_eq, List.all_eq_true] at h1
  obtain ⟨⟨⟨⟨⟨⟨⟨⟨⟨⟨⟨⟨⟨⟨⟨⟨⟨⟨a0, a1⟩, a2⟩, a3⟩, a4⟩, a5⟩, a6⟩, a7⟩, a8⟩, a9⟩, a10⟩, a11⟩, a16⟩, a17⟩, a18⟩, a19⟩, a20⟩, a14⟩, a21⟩ := h1
  exact ⟨⟨a0, a1, a2, a3, a4, a5, a6, a7, a8, a9, a10, a11, a16, a17, a18, a19, a20⟩, a14, fun o ho x hx => a21 o ho x hx⟩
theorem IsMsg.lists {w : World} {cx : Array Value} {m : Msg} (h : IsMsg w cx m) : ∃ (A12 : Option Addr) (c12 : Nat) (A13 : Option Addr) (c13 : Nat) (A14 : Option Addr) (c14 : Nat) (A15 : Option Addr) (c15 : Nat) (A21 : Option Addr) (c21 : Nat),
    (Same.celled cx 12 (.slice A12 m.words.length c12) ∧ Same.celled cx 13 (.slice A13 m.bits.length c13) ∧ Same.celled cx 14 (.slice A14 m.data.length c14) ∧ Same.celled cx 15 (.slice A15 m.recs.length c15) ∧ Same.celled cx 21 (.slice A21 m.objects.length c21)) ∧ (Kd.C (Kd.int .u16) w A12 m.words.length m.words ∧ m.words.length ≤ c12) ∧ (Kd.C Kd.bool w A13 m.bits.length m.bits ∧ m.bits.length ≤ c13) ∧ (Kd.C (Kd.int .u8) w A14 m.data.length m.data ∧ m.data.length ≤ c14) ∧ (Kd.C k64 w A15 m.recs.length m.recs ∧ m.recs.length ≤ c15) ∧ (Kd.C k66 w A21 m.objects.length m.objects ∧ m.objects.length ≤ c21) := by
  obtain ⟨A12, c12, A13, c13, A14, c14, A15, c15, A21, c21, rfl, ok, h12, h13, h14, h15, h21⟩ := h
  exact ⟨A12, c12, A13, c13, A14, c14, A15, c15, A21, c21, ⟨rfl, rfl, rfl, rfl, rfl⟩, h12, h13, h14, h15, h21⟩
end Go.Proofs.Ytmglilncdffbkaa.Same
end
section
namespace Go.Proofs.Ytmglilncdffbkaa.Same
open Go.RowKit Go.Proofs.Ytmglilncdffbkaa.P Go.Proofs.Ytmglilncdffbkaa.E Go.Proofs.YtmglilncdffbkaaW.PrintWords Go.Proofs.YtmglilncdffbkaaW.PrintLast Go.Proofs.YtmglilncdffbkaaW.PrintMore
section
variable {P : Program} {md : Region.Mode} {ops : Array Oper} {Q : Exit → Act → World → Prop} {S : World → Prop} {ds : List Nat}
theorem gtake_ {i : Nat} {N : Option Tmp} {oi : Oper} {V : Value} {B : Bool} {fuel : Nat} {l : Array Bool} {a : Act} {w : World} (l' : Array Bool) (hi : ops[i]? = some oi) (hN : oi.dst = N) (hc : takeB md ops ds l l' i = true)
    (hQ : ∀ v c a w, Q (.panic c) (a.put oi.dst v) w → Q (.panic c) a w) (hS : S w) (hy : ∃ u, (B = true → u = V) ∧ YieldsIf P ops S oi u a)
    (h : ∀ u, (B = true → u = V) → wpAnyLast P md ops Q S ds fuel l' (a.put N u) w) : wpAnyLast P md ops Q S ds (fuel + 1) l a w := by
  obtain ⟨u, hu, hy⟩ := hy
  exact take_ l' hi hN hc (hQ u) hy hS rfl (h u hu)
theorem gpure_ {i : Nat} {N : Option Tmp} {oi : Oper} {V : Value} {B : Bool} {fuel : Nat} {l : Array Bool} {a : Act} {w : World} (l' : Array Bool) (hi : ops[i]? = some oi) (hN : oi.dst = N) (hc : anyB md ops l l' i = true)
    (hQ : ∀ v c a w, Q (.panic c) (a.put oi.dst v) w → Q (.panic c) a w) (hy : ∃ u, (B = true → u = V) ∧ Yields P ops oi u a)
    (h : ∀ u, (B = true → u = V) → wpAnyLast P md ops Q S ds fuel l' (a.put N u) w) : wpAnyLast P md ops Q S ds (fuel + 1) l a w := by
  obtain ⟨u, hu, hy⟩ := hy
  exact pure_ l' hi hN hc (hQ u) hy rfl (h u hu)
theorem gone_ {i : Nat} {N : Option Tmp} {oi : Oper} {V : Value} {B : Bool} {fuel : Nat} {l : Array Bool} {a : Act} {w : World} (l' : Array Bool) (hi : ops[i]? = some oi) (hN : oi.dst = N) (hc : readyB md ops l l' i = true) (hd : i ∉ ds)
    (h1 : ∀ K : Act → World → Prop, (∀ u w', S w' → (B = true → u = V) → K (a.put N u) w') → if Region.wanted oi (yielded ops a.tmps) = true then Oper.wp P oi a w K Q else K (a.put N undef) w)
    (h : ∀ u w', S w' → (B = true → u = V) → wpAnyLast P md ops Q S ds fuel l' (a.put N u) w') : wpAnyLast P md ops Q S ds (fuel + 1) l a w :=
  one_ l' hi hN hc hd fun K hK => h1 K fun u w' hS hT => hK.out _ _ hS fun _ => h u w' hS hT
end
end Go.Proofs.Ytmglilncdffbkaa.Same
end
section
namespace Go.Proofs.Ytmglilncdffbkaa.Same
open Go.RowKit Go.Proofs.Ytmglilncdffbkaa.P Go.Proofs.Ytmglilncdffbkaa.E Go.Proofs.YtmglilncdffbkaaW.PrintWords Go.Proofs.YtmglilncdffbkaaW.PrintLast Go.Proofs.YtmglilncdffbkaaW.PrintMore
def bm (n m : Nat) : Array Bool := ⟨(List.range n).map fun i => m.testBit i⟩
def same.T1 : Bool × List (List Nat × List Nat) := (true, [([], []), ([0], [0]), ([], []), ([2, 1], [2]), ([1, 3], [1, 3]), ([4, 3], [4]), ([5], [5]), ([6, 5], [5, 6]), ([5], [5]), ([8, 5], [5, 8]), ([7, 9, 5, 5], [5, 7, 9]), ([5, 10], [5, 10]), ([11, 10], [11]), ([12], [12]), ([13, 12], [12, 13]), ([12], [12]), ([15, 12], [12, 15]), ([14, 16, 12, 12], [12, 14, 16]), ([12, 17], [12, 17]), ([18, 17], [18]), ([19], [19]), ([20, 19], [19, 20]), ([21, 19], [19, 21]), ([19], [19]), ([23, 19], [19, 23]), ([24, 19], [19, 24]), ([22, 25, 19], [19, 22, 25]), ([19, 26], [19, 26]), ([27, 19], [27]), ([28], [28]), ([29, 28], [28, 29]), ([28], [28]), ([31, 28], [28, 31]), ([30, 32, 28, 28], [28, 30, 32]), ([28, 33], [28, 33]), ([34, 33], [34]), ([35], [35]), ([36, 35], [35, 36]), ([35], [35]), ([38, 35], [35, 38]), ([37, 39, 35, 35], [35, 37, 39]), ([35, 40], [35, 40]), ([41, 40, 0, 1, 2, 3, 4, 5, 6, 7, 8, 9, 10, 11, 12, 13, 14, 15, 16, 17, 18, 19, 20, 21, 22, 23, 24, 25, 26, 27, 28, 29, 30, 31, 32, 33, 34, 35, 36, 37, 38, 39, 40, 41], [41])])
def same.B1 : List Nat := [0, 1, 0, 7, 15, 31, 63, 127, 63, 319, 1023, 2047, 4095, 8191, 16383, 8191, 40959, 131071, 262143, 524287, 1048575, 2097151, 4194303, 1048575, 9437183, 26214399, 67108863, 134217727, 268435455, 536870911, 1073741823, 536870911, 2684354559, 8589934591, 17179869183, 34359738367, 68719476735, 137438953471, 68719476735, 343597383679, 1099511627775, 2199023255551, 4398046511103]
theorem same.tab1 : rtab .any (opsOf Try.f33 1) = same.T1 := by kernel_rfl
theorem same.bits1 : waitsOk same.T1.2 same.B1 = true := by kernel_rfl
def plainC (m : Msg) : Array Value := #[.int .u16 m.code, .int .u16 m.fail, .int .u16 m.addr, .int .u16 m.count, .int .u16 m.value, .int .u16 m.and_, .int .u16 m.or_, .int .u16 m.addr2, .int .u16 m.sub, .int .u16 m.status, .int .u16 m.events, .int .u16 m.messages, .int .u16 (shB m.mei m.kind), .int .u16 (shB m.level m.more), .int .u16 m.next]
theorem plain_msg {cx : Array Value} {m : Msg} {w : World} (hm : IsMsg w cx m) : Calls Try.prog 56 #[.agg cx] w fun e w' => e = .returned (.agg (plainC m)) ∧ Below w.heap.size w w' := by
  obtain ⟨⟨a0, a1, _, _, _, _, _, _, _, _, _, _, a16, a17, a18, a19, a20⟩, _⟩ := goodM_num hm.good
  obtain ⟨A12, c12, A13, c13, A14, c14, A15, c15, A21, c21, rfl, ok, h12, h13, h14, h15, h21⟩ := hm
  exact plain_any m A12 c12 A13 c13 A14 c14 A15 c15 A21 c21 w a0.1 a0.2 a1.1 a1.2 a16.1 a16.2 a17.1 a17.2 a18.1 a18.2 a19.1 a19.2 a20.1 a20.2
theorem plain_eqs {x y : Msg} (gx : goodM x) (gy : goodM y) (d : Nat) (w : World) : (Op.equalIn (d + 3) 80 (.agg (plainC x)) (.agg (plainC y))).run Try.prog w = .ok (plainB x y) w := by
  obtain ⟨⟨a0, a1, _, _, _, _, _, _, _, _, _, _, a16, a17, a18, a19, a20⟩, _⟩ := goodM_num gx
  obtain ⟨⟨b0, b1, _, _, _, _, _, _, _, _, _, _, b16, b17, b18, b19, b20⟩, _⟩ := goodM_num gy
  rw [← plain_eq x y a0 a1 a16 a17 a18 a19 a20 b0 b1 b16 b17 b18 b19 b20]
  exact eqL15 d w _ _ _ _ _ _ _ _ _ _ _ _ _ _ _ _ _ _ _ _ _ _ _ _ _ _ _ _ _ _
theorem eqw_c {l m : List Int} {A B : Option Addr} {c d : Nat} {W : World} (rl : Kd.C (Kd.int .u16) W A l.length l) (zl : l.length ≤ c) (rm : Kd.C (Kd.int .u16) W B m.length m) (zm : m.length ≤ d) :
    Calls Try.prog 57 #[.slice A l.length c, .slice B m.length d] W fun e w' => e = .returned (.bool (l == m)) ∧ Below W.heap.size W w' := by
  obtain ⟨k, hk⟩ := (slices_Equal_uint16_uint16_ev l m rl.2.1).rounds
  refine (slices_Equal_uint16_uint16.calls k A c l B d m _ W rl zl rm zm hk).mono ?_
  rintro e w' ⟨rfl, n, rfl⟩
  exact ⟨rfl, pw_below_drewN (Below.refl _ _) _⟩
theorem eqb_c {l m : List Bool} {A B : Option Addr} {c d : Nat} {W : World} (rl : Kd.C Kd.bool W A l.length l) (zl : l.length ≤ c) (rm : Kd.C Kd.bool W B m.length m) (zm : m.length ≤ d) :
    Calls Try.prog 58 #[.slice A l.length c, .slice B m.length d] W fun e w' => e = .returned (.bool (l == m)) ∧ Below W.heap.size W w' := by
  obtain ⟨k, hk⟩ := (slices_Equal_bool_bool_ev l m rl.2.1).rounds
  refine (slices_Equal_bool_bool.calls k A c l B d m _ W rl zl rm zm hk).mono ?_
  rintro e w' ⟨rfl, n, rfl⟩
  exact ⟨rfl, pw_below_drewN (Below.refl _ _) _⟩
theorem same_msg {cx cy : Array Value} {x y : Msg} {w : World} (hx : IsMsg w cx x) (hy : IsMsg w cy y) : Calls Try.prog 33 #[.agg cx, .agg cy] w fun e w' => e = .returned (.bool (sameB x y)) ∧ Below w.heap.size w w' := by
  obtain ⟨Ax12, cx12, Ax13, cx13, Ax14, cx14, Ax15, cx15, Ax21, cx21, ⟨l12, l13, l14, l15, l21⟩, r12, r13, r14, r15, r21⟩ := hx.lists
  have LX12 := Aside0.mk l12
  have RX12 := Aside0.mk r12
  have LX13 := Aside0.mk l13
  have RX13 := Aside0.mk r13
  have LX14 := Aside0.mk l14
  have RX14 := Aside0.mk r14
  have LX15 := Aside0.mk l15
  have RX15 := Aside0.mk r15
  have LX21 := Aside0.mk l21
  have RX21 := Aside0.mk r21
  clear l12 l13 l14 l15 l21 r12 r13 r14 r15 r21
  have MX := Aside0.mk hx
  have szx := hx.size
  have GX := Aside0.mk hx.good
  have OX := Aside0.mk (fun q hq => List.all_eq_true.2 (fun z hz => by have := (goodM_num hx.good).2.2 q hq z hz; unfold u8B; simp only [Bool.and_eq_true, decide_eq_true_eq]; omega) : ∀ q ∈ x.objects, q.f1.all u8B = true)
  obtain ⟨Ay12, cy12, Ay13, cy13, Ay14, cy14, Ay15, cy15, Ay21, cy21, ⟨l12, l13, l14, l15, l21⟩, r12, r13, r14, r15, r21⟩ := hy.lists
  have LY12 := Aside0.mk l12
  have RY12 := Aside0.mk r12
  have LY13 := Aside0.mk l13
  have RY13 := Aside0.mk r13
  have LY14 := Aside0.mk l14
  have RY14 := Aside0.mk r14
  have LY15 := Aside0.mk l15
  have RY15 := Aside0.mk r15
  have LY21 := Aside0.mk l21
  have RY21 := Aside0.mk r21
  clear l12 l13 l14 l15 l21 r12 r13 r14 r15 r21
  have MY := Aside0.mk hy
  have szy := hy.size
  have GY := Aside0.mk hy.good
  have OY := Aside0.mk (fun q hq => List.all_eq_true.2 (fun z hz => by have := (goodM_num hy.good).2.2 q hq z hz; unfold u8B; simp only [Bool.and_eq_true, decide_eq_true_eq]; omega) : ∀ q ∈ y.objects, q.f1.all u8B = true)
  have HPE := Aside0.mk (fun d W => plain_eqs GX.out GY.out d W)
  have DEQ := Aside0.mk (str_beq (goodM_num GX.out).2.1 (goodM_num GY.out).2.1)
  clear hx hy
  unfold sameB
  generalize plainB x y = b0 at HPE ⊢
  have hu1 := Try.underlying30
  go_enter Try.func33, Try.ntmps33
  go_upto_region 1 with (fail)
  refine start_ (n := 43) (S := fun w' => w'.heap[w.heap.size]? = some (.cells cx 30 (0, 0)) ∧ w'.heap[w.heap.size + 1]? = some (.cells cy 30 (0, 0)) ∧ Aside0 (Below w.heap.size w w')) (ds := []) (bm 43 0) (by as_aux_lemma => kernel_rfl) rfl (by as_aux_lemma => kernel_rfl) ⟨heap_x w cx cy 30, heap_y w cx cy 30, Aside0.mk (((Below.refl _ _).alloc (Nat.le_refl _) _).alloc (by simp) _).drew⟩ (fun hHeld => ?_)
  generalize World.drew _ = wd at hHeld ⊢
  refine with_tabW same.tab1 same.bits1 (fun HT_ HW_ => ?_)
  refine take_ (i := 0) (N := some 5) (v := ?_) (a' := ?_) (bm 43 1) rfl rfl (take_ofW HT_.out HW_.out (by as_aux_lemma => kernel_rfl)) (fun _ _ _ h => h) (Or.inl ⟨by rfl, ?_⟩) hHeld ?_ ?_
  rotate_left
  · rintro w' ⟨s0, s1, s2⟩
    refine exec_load_row 30 (.tmp 2) ?ha_0 (w.heap.size) ?hb_0 _ _ _ _ s0 Try.underlying30 ?hc_0 (msg_info szx)
    case ha_0 => rfl
    case hb_0 => rfl
    exact rfl
  rotate_left
  · simp only [Act.put, List.setIfInBounds_toArray, List.set_cons_zero, List.set_cons_succ, i64_w, i32_w]
    rfl
  refine take_ (i := 2) (N := some 7) (v := ?_) (a' := ?_) (bm 43 5) rfl rfl (take_ofW HT_.out HW_.out (by as_aux_lemma => kernel_rfl)) (fun _ _ _ h => h) (Or.inl ⟨by rfl, ?_⟩) hHeld ?_ ?_
  rotate_left
  · rintro w' ⟨s0, s1, s2⟩
    refine exec_load_row 30 (.tmp 3) ?ha_2 (w.heap.size + 1) ?hb_2 _ _ _ _ s1 Try.underlying30 ?hc_2 (msg_info szy)
    case ha_2 => rfl
    case hb_2 => rfl
    exact rfl
  rotate_left
  · simp only [Act.put, List.setIfInBounds_toArray, List.set_cons_zero, List.set_cons_succ, i64_w, i32_w]
    rfl
  refine one_ (i := 1) (N := some 6) (bm 43 7) rfl rfl (one_of HT_.out (by as_aux_lemma => kernel_rfl)) (by as_aux_lemma => decide) (fun K hK => ?_)
  refine goes_ Try.func56 (by as_aux_lemma => kernel_rfl) rfl #[.agg cx] (by rfl) rfl rfl (by simp only [List.map_toArray, List.map_cons, List.map_nil]; rfl) ?_
  with_reducible refine (plain_msg (MX.out.on hHeld.2.2.out)).mono ?_
  rintro e wq1 ⟨rfl, hb⟩
  refine ⟨_, rfl, ?_⟩
  refine hK.out _ _ ⟨blk_below hHeld.1 hb, blk_below hHeld.2.1 hb, Aside0.mk (below_step hHeld.2.2.out hb)⟩ (fun hHeld => ?_)
  clear hK K hb
  refine norm_ (a' := ?_) ?_ ?_
  rotate_left
  · simp only [Act.put, List.setIfInBounds_toArray, List.set_cons_zero, List.set_cons_succ, i64_w, i32_w]
    rfl
  refine one_ (i := 3) (N := some 8) (bm 43 15) rfl rfl (one_of HT_.out (by as_aux_lemma => kernel_rfl)) (by as_aux_lemma => decide) (fun K hK => ?_)
  refine goes_ Try.func56 (by as_aux_lemma => kernel_rfl) rfl #[.agg cy] (by rfl) rfl rfl (by simp only [List.map_toArray, List.map_cons, List.map_nil]; rfl) ?_
  with_reducible refine (plain_msg (MY.out.on hHeld.2.2.out)).mono ?_
  rintro e wq3 ⟨rfl, hb⟩
  refine ⟨_, rfl, ?_⟩
  refine hK.out _ _ ⟨blk_below hHeld.1 hb, blk_below hHeld.2.1 hb, Aside0.mk (below_step hHeld.2.2.out hb)⟩ (fun hHeld => ?_)
  clear hK K hb
  refine norm_ (a' := ?_) ?_ ?_
  rotate_left
  · simp only [Act.put, List.setIfInBounds_toArray, List.set_cons_zero, List.set_cons_succ, i64_w, i32_w]
    rfl
  refine pure_ (i := 4) (N := some 9) (v := (.bool b0)) (a' := ?_) (bm 43 31) rfl rfl (any_of HT_.out (by as_aux_lemma => kernel_rfl)) (fun _ _ _ h => h) (Or.inl ⟨by rfl, ?_⟩) ?_ ?_
  · intro w'
    have hpe : (Op.equalIn 10000 80 (.agg (plainC x)) (.agg (plainC y))).run Try.prog w' = .ok b0 w' := HPE.out 9997 w'
    go_simp
    first | done | rfl | with_reducible rfl
  rotate_left
  · simp only [Act.put, List.setIfInBounds_toArray, List.set_cons_zero, List.set_cons_succ, i64_w, i32_w]
    rfl
  refine pure_ (i := 5) (N := some 10) (v := ?_) (a' := ?_) (bm 43 63) rfl rfl (any_of HT_.out (by as_aux_lemma => kernel_rfl)) (fun _ _ _ h => h) (Or.inl ⟨by rfl, ?_⟩) ?_ ?_
  rotate_left
  · intro w'
    go_simp
    with_reducible rfl
  rotate_left
  · simp only [Act.put, List.setIfInBounds_toArray, List.set_cons_zero, List.set_cons_succ, i64_w, i32_w]
    rfl
  refine gpure_ (i := 6) (N := some 11) (V := (.pointer (some ⟨w.heap.size, 12, none⟩))) (B := b0) (bm 43 127) rfl rfl (any_of HT_.out (by as_aux_lemma => kernel_rfl)) (fun _ _ _ _ h => h) ?_ ?_
  · cases b0 with
    | false => exact ⟨undef, (fun h => by cases h), Or.inr ⟨by rfl, rfl⟩⟩
    | true =>
      refine ⟨_, fun _ => rfl, Or.inl ⟨by rfl, ?_⟩⟩
      intro w'
      go_simp
      first | done | rfl
  intro u11 hu11_
  refine norm_ (a' := ?_) ?_ ?_
  rotate_left
  · simp only [Act.put, List.setIfInBounds_toArray, List.set_cons_zero, List.set_cons_succ, i64_w, i32_w]
    rfl
  refine gtake_ (i := 7) (N := some 12) (V := (.slice Ax12 x.words.length cx12)) (B := b0) (bm 43 255) rfl rfl (take_ofW HT_.out HW_.out (by as_aux_lemma => kernel_rfl)) (fun _ _ _ _ h => h) hHeld ?_ ?_
  · cases b0 with
    | false => exact ⟨undef, (fun h => by cases h), Or.inr ⟨by rfl, rfl⟩⟩
    | true =>
      obtain rfl := hu11_ rfl
      refine ⟨_, fun _ => rfl, Or.inl ⟨by rfl, ?_⟩⟩
      rintro w' ⟨s0, s1, s2⟩
      have hk_ := (blk_cell s0 12).trans LX12.out
      go_simp
      first | done | rfl
  intro u12 hu12_
  refine norm_ (a' := ?_) ?_ ?_
  rotate_left
  · simp only [Act.put, List.setIfInBounds_toArray, List.set_cons_zero, List.set_cons_succ, i64_w, i32_w]
    rfl
  refine gpure_ (i := 8) (N := some 13) (V := (.pointer (some ⟨w.heap.size + 1, 12, none⟩))) (B := b0) (bm 43 511) rfl rfl (any_of HT_.out (by as_aux_lemma => kernel_rfl)) (fun _ _ _ _ h => h) ?_ ?_
  · cases b0 with
    | false => exact ⟨undef, (fun h => by cases h), Or.inr ⟨by rfl, rfl⟩⟩
    | true =>
      obtain rfl := hu11_ rfl
      obtain rfl := hu12_ rfl
      refine ⟨_, fun _ => rfl, Or.inl ⟨by rfl, ?_⟩⟩
      intro w'
      go_simp
      first | done | rfl
  intro u13 hu13_
  refine norm_ (a' := ?_) ?_ ?_
  rotate_left
  · simp only [Act.put, List.setIfInBounds_toArray, List.set_cons_zero, List.set_cons_succ, i64_w, i32_w]
    rfl
  refine gtake_ (i := 9) (N := some 14) (V := (.slice Ay12 y.words.length cy12)) (B := b0) (bm 43 1023) rfl rfl (take_ofW HT_.out HW_.out (by as_aux_lemma => kernel_rfl)) (fun _ _ _ _ h => h) hHeld ?_ ?_
  · cases b0 with
    | false => exact ⟨undef, (fun h => by cases h), Or.inr ⟨by rfl, rfl⟩⟩
    | true =>
      obtain rfl := hu11_ rfl
      obtain rfl := hu12_ rfl
      obtain rfl := hu13_ rfl
      refine ⟨_, fun _ => rfl, Or.inl ⟨by rfl, ?_⟩⟩
      rintro w' ⟨s0, s1, s2⟩
      have hk_ := (blk_cell s1 12).trans LY12.out
      go_simp
      first | done | rfl
  intro u14 hu14_
  refine norm_ (a' := ?_) ?_ ?_
  rotate_left
  · simp only [Act.put, List.setIfInBounds_toArray, List.set_cons_zero, List.set_cons_succ, i64_w, i32_w]
    rfl
  refine gone_ (i := 10) (N := some 15) (V := (.bool (x.words == y.words))) (B := b0) (bm 43 2047) rfl rfl (one_of HT_.out (by as_aux_lemma => kernel_rfl)) (by as_aux_lemma => decide) (fun K hK => ?_) ?_
  · cases b0 with
    | false => exact off_ (by rfl) (hK _ _ hHeld (fun h => by cases h))
    | true =>
      obtain rfl := hu11_ rfl
      obtain rfl := hu12_ rfl
      obtain rfl := hu13_ rfl
      obtain rfl := hu14_ rfl
      refine goes_ Try.func57 (by as_aux_lemma => kernel_rfl) rfl #[.slice Ax12 x.words.length cx12, .slice Ay12 y.words.length cy12] (by rfl) rfl rfl (by simp only [List.map_toArray, List.map_cons, List.map_nil]; rfl) ?_
      with_reducible refine (eqw_c (Kd.C_below RX12.out.1 hHeld.2.2.out) RX12.out.2 (Kd.C_below RY12.out.1 hHeld.2.2.out) RY12.out.2).mono ?_
      rintro e wq ⟨rfl, hb⟩
      exact ⟨_, rfl, hK _ _ ⟨blk_below hHeld.1 hb, blk_below hHeld.2.1 hb, Aside0.mk (below_step hHeld.2.2.out hb)⟩ (fun _ => rfl)⟩
  clear hHeld
  intro u15 w10 hHeld hu15_
  refine norm_ (a' := ?_) ?_ ?_
  rotate_left
  · simp only [Act.put, List.setIfInBounds_toArray, List.set_cons_zero, List.set_cons_succ, i64_w, i32_w]
    rfl
  obtain ⟨q1, eq1_⟩ : ∃ z, z = (b0 && (x.words == y.words)) := ⟨_, rfl⟩
  have Eq1 := Aside0.mk eq1_
  clear eq1_
  refine pure_ (i := 11) (N := some 16) (v := (.bool q1)) (a' := ?_) (bm 43 4095) rfl rfl (any_of HT_.out (by as_aux_lemma => kernel_rfl)) (fun _ _ _ h => h) (Or.inl ⟨by rfl, ?_⟩) ?_ ?_
  · intro w'
    rw [Eq1.out]
    cases b0 with
    | false => go_simp; first | done | rfl
    | true =>
      obtain rfl := hu15_ rfl
      go_simp
      first | done | rfl
  rotate_left
  · simp only [Act.put, List.setIfInBounds_toArray, List.set_cons_zero, List.set_cons_succ, i64_w, i32_w]
    rfl
  clear hu11_
  clear hu12_
  clear hu13_
  clear hu14_
  clear hu15_
  refine pure_ (i := 12) (N := some 17) (v := ?_) (a' := ?_) (bm 43 8191) rfl rfl (any_of HT_.out (by as_aux_lemma => kernel_rfl)) (fun _ _ _ h => h) (Or.inl ⟨by rfl, ?_⟩) ?_ ?_
  rotate_left
  · intro w'
    go_simp
    with_reducible rfl
  rotate_left
  · simp only [Act.put, List.setIfInBounds_toArray, List.set_cons_zero, List.set_cons_succ, i64_w, i32_w]
    rfl
  refine gpure_ (i := 13) (N := some 18) (V := (.pointer (some ⟨w.heap.size, 13, none⟩))) (B := q1) (bm 43 16383) rfl rfl (any_of HT_.out (by as_aux_lemma => kernel_rfl)) (fun _ _ _ _ h => h) ?_ ?_
  · cases q1 with
    | false => exact ⟨undef, (fun h => by cases h), Or.inr ⟨by rfl, rfl⟩⟩
    | true =>
      refine ⟨_, fun _ => rfl, Or.inl ⟨by rfl, ?_⟩⟩
      intro w'
      go_simp
      first | done | rfl
  intro u18 hu18_
  refine norm_ (a' := ?_) ?_ ?_
  rotate_left
  · simp only [Act.put, List.setIfInBounds_toArray, List.set_cons_zero, List.set_cons_succ, i64_w, i32_w]
    rfl
  refine gtake_ (i := 14) (N := some 19) (V := (.slice Ax13 x.bits.length cx13)) (B := q1) (bm 43 32767) rfl rfl (take_ofW HT_.out HW_.out (by as_aux_lemma => kernel_rfl)) (fun _ _ _ _ h => h) hHeld ?_ ?_
  · cases q1 with
    | false => exact ⟨undef, (fun h => by cases h), Or.inr ⟨by rfl, rfl⟩⟩
    | true =>
      obtain rfl := hu18_ rfl
      refine ⟨_, fun _ => rfl, Or.inl ⟨by rfl, ?_⟩⟩
      rintro w' ⟨s0, s1, s2⟩
      have hk_ := (blk_cell s0 13).trans LX13.out
      go_simp
      first | done | rfl
  intro u19 hu19_
  refine norm_ (a' := ?_) ?_ ?_
  rotate_left
  · simp only [Act.put, List.setIfInBounds_toArray, List.set_cons_zero, List.set_cons_succ, i64_w, i32_w]
    rfl
  refine gpure_ (i := 15) (N := some 20) (V := (.pointer (some ⟨w.heap.size + 1, 13, none⟩))) (B := q1) (bm 43 65535) rfl rfl (any_of HT_.out (by as_aux_lemma => kernel_rfl)) (fun _ _ _ _ h => h) ?_ ?_
  · cases q1 with
    | false => exact ⟨undef, (fun h => by cases h), Or.inr ⟨by rfl, rfl⟩⟩
    | true =>
      obtain rfl := hu18_ rfl
      obtain rfl := hu19_ rfl
      refine ⟨_, fun _ => rfl, Or.inl ⟨by rfl, ?_⟩⟩
      intro w'
      go_simp
      first | done | rfl
  intro u20 hu20_
  refine norm_ (a' := ?_) ?_ ?_
  rotate_left
  · simp only [Act.put, List.setIfInBounds_toArray, List.set_cons_zero, List.set_cons_succ, i64_w, i32_w]
    rfl
  refine gtake_ (i := 16) (N := some 21) (V := (.slice Ay13 y.bits.length cy13)) (B := q1) (bm 43 131071) rfl rfl (take_ofW HT_.out HW_.out (by as_aux_lemma => kernel_rfl)) (fun _ _ _ _ h => h) hHeld ?_ ?_
  · cases q1 with
    | false => exact ⟨undef, (fun h => by cases h), Or.inr ⟨by rfl, rfl⟩⟩
    | true =>
      obtain rfl := hu18_ rfl
      obtain rfl := hu19_ rfl
      obtain rfl := hu20_ rfl
      refine ⟨_, fun _ => rfl, Or.inl ⟨by rfl, ?_⟩⟩
      rintro w' ⟨s0, s1, s2⟩
      have hk_ := (blk_cell s1 13).trans LY13.out
      go_simp
      first | done | rfl
  intro u21 hu21_
  refine norm_ (a' := ?_) ?_ ?_
  rotate_left
  · simp only [Act.put, List.setIfInBounds_toArray, List.set_cons_zero, List.set_cons_succ, i64_w, i32_w]
    rfl
  refine gone_ (i := 17) (N := some 22) (V := (.bool (x.bits == y.bits))) (B := q1) (bm 43 262143) rfl rfl (one_of HT_.out (by as_aux_lemma => kernel_rfl)) (by as_aux_lemma => decide) (fun K hK => ?_) ?_
  · cases q1 with
    | false => exact off_ (by rfl) (hK _ _ hHeld (fun h => by cases h))
    | true =>
      obtain rfl := hu18_ rfl
      obtain rfl := hu19_ rfl
      obtain rfl := hu20_ rfl
      obtain rfl := hu21_ rfl
      refine goes_ Try.func58 (by as_aux_lemma => kernel_rfl) rfl #[.slice Ax13 x.bits.length cx13, .slice Ay13 y.bits.length cy13] (by rfl) rfl rfl (by simp only [List.map_toArray, List.map_cons, List.map_nil]; rfl) ?_
      with_reducible refine (eqb_c (Kd.C_below RX13.out.1 hHeld.2.2.out) RX13.out.2 (Kd.C_below RY13.out.1 hHeld.2.2.out) RY13.out.2).mono ?_
      rintro e wq ⟨rfl, hb⟩
      exact ⟨_, rfl, hK _ _ ⟨blk_below hHeld.1 hb, blk_below hHeld.2.1 hb, Aside0.mk (below_step hHeld.2.2.out hb)⟩ (fun _ => rfl)⟩
  clear hHeld
  intro u22 w17 hHeld hu22_
  refine norm_ (a' := ?_) ?_ ?_
  rotate_left
  · simp only [Act.put, List.setIfInBounds_toArray, List.set_cons_zero, List.set_cons_succ, i64_w, i32_w]
    rfl
  obtain ⟨q2, eq2_⟩ : ∃ z, z = (q1 && (x.bits == y.bits)) := ⟨_, rfl⟩
  have Eq2 := Aside0.mk eq2_
  clear eq2_
  refine pure_ (i := 18) (N := some 23) (v := (.bool q2)) (a' := ?_) (bm 43 524287) rfl rfl (any_of HT_.out (by as_aux_lemma => kernel_rfl)) (fun _ _ _ h => h) (Or.inl ⟨by rfl, ?_⟩) ?_ ?_
  · intro w'
    rw [Eq2.out]
    cases q1 with
    | false => go_simp; first | done | rfl
    | true =>
      obtain rfl := hu22_ rfl
      go_simp
      first | done | rfl
  rotate_left
  · simp only [Act.put, List.setIfInBounds_toArray, List.set_cons_zero, List.set_cons_succ, i64_w, i32_w]
    rfl
  clear hu18_
  clear hu19_
  clear hu20_
  clear hu21_
  clear hu22_
  refine pure_ (i := 19) (N := some 24) (v := ?_) (a' := ?_) (bm 43 1048575) rfl rfl (any_of HT_.out (by as_aux_lemma => kernel_rfl)) (fun _ _ _ h => h) (Or.inl ⟨by rfl, ?_⟩) ?_ ?_
  rotate_left
  · intro w'
    go_simp
    with_reducible rfl
  rotate_left
  · simp only [Act.put, List.setIfInBounds_toArray, List.set_cons_zero, List.set_cons_succ, i64_w, i32_w]
    rfl
  refine gpure_ (i := 20) (N := some 25) (V := (.pointer (some ⟨w.heap.size, 14, none⟩))) (B := q2) (bm 43 2097151) rfl rfl (any_of HT_.out (by as_aux_lemma => kernel_rfl)) (fun _ _ _ _ h => h) ?_ ?_
  · cases q2 with
    | false => exact ⟨undef, (fun h => by cases h), Or.inr ⟨by rfl, rfl⟩⟩
    | true =>
      refine ⟨_, fun _ => rfl, Or.inl ⟨by rfl, ?_⟩⟩
      intro w'
      go_simp
      first | done | rfl
  intro u25 hu25_
  refine norm_ (a' := ?_) ?_ ?_
  rotate_left
  · simp only [Act.put, List.setIfInBounds_toArray, List.set_cons_zero, List.set_cons_succ, i64_w, i32_w]
    rfl
  refine gtake_ (i := 21) (N := some 26) (V := (.slice Ax14 x.data.length cx14)) (B := q2) (bm 43 4194303) rfl rfl (take_ofW HT_.out HW_.out (by as_aux_lemma => kernel_rfl)) (fun _ _ _ _ h => h) hHeld ?_ ?_
  · cases q2 with
    | false => exact ⟨undef, (fun h => by cases h), Or.inr ⟨by rfl, rfl⟩⟩
    | true =>
      obtain rfl := hu25_ rfl
      refine ⟨_, fun _ => rfl, Or.inl ⟨by rfl, ?_⟩⟩
      rintro w' ⟨s0, s1, s2⟩
      have hk_ := (blk_cell s0 14).trans LX14.out
      go_simp
      first | done | rfl
  intro u26 hu26_
  refine norm_ (a' := ?_) ?_ ?_
  rotate_left
  · simp only [Act.put, List.setIfInBounds_toArray, List.set_cons_zero, List.set_cons_succ, i64_w, i32_w]
    rfl
  refine gtake_ (i := 22) (N := some 27) (V := (.string (strOfNums x.data))) (B := q2) (bm 43 8388607) rfl rfl (take_ofW HT_.out HW_.out (by as_aux_lemma => kernel_rfl)) (fun _ _ _ _ h => h) hHeld ?_ ?_
  · cases q2 with
    | false => exact ⟨undef, (fun h => by cases h), Or.inr ⟨by rfl, rfl⟩⟩
    | true =>
      obtain rfl := hu25_ rfl
      obtain rfl := hu26_ rfl
      refine ⟨_, fun _ => rfl, Or.inl ⟨by rfl, ?_⟩⟩
      rintro w' ⟨s0, s1, s2⟩
      have hcv_ := Kd.C_string (P := Try.prog) (A := Ax14) (c := cx14) Try.underlying22 Try.underlying5 Try.underlying9 (Kd.C_below RX14.out.1 s2.out)
      go_simp
      first | done | rfl
  intro u27 hu27_
  refine norm_ (a' := ?_) ?_ ?_
  rotate_left
  · simp only [Act.put, List.setIfInBounds_toArray, List.set_cons_zero, List.set_cons_succ, i64_w, i32_w]
    rfl
  refine gpure_ (i := 23) (N := some 28) (V := (.pointer (some ⟨w.heap.size + 1, 14, none⟩))) (B := q2) (bm 43 16777215) rfl rfl (any_of HT_.out (by as_aux_lemma => kernel_rfl)) (fun _ _ _ _ h => h) ?_ ?_
  · cases q2 with
    | false => exact ⟨undef, (fun h => by cases h), Or.inr ⟨by rfl, rfl⟩⟩
    | true =>
      refine ⟨_, fun _ => rfl, Or.inl ⟨by rfl, ?_⟩⟩
      intro w'
      go_simp
      first | done | rfl
  intro u28 hu28_
  refine norm_ (a' := ?_) ?_ ?_
  rotate_left
  · simp only [Act.put, List.setIfInBounds_toArray, List.set_cons_zero, List.set_cons_succ, i64_w, i32_w]
    rfl
  refine gtake_ (i := 24) (N := some 29) (V := (.slice Ay14 y.data.length cy14)) (B := q2) (bm 43 33554431) rfl rfl (take_ofW HT_.out HW_.out (by as_aux_lemma => kernel_rfl)) (fun _ _ _ _ h => h) hHeld ?_ ?_
  · cases q2 with
    | false => exact ⟨undef, (fun h => by cases h), Or.inr ⟨by rfl, rfl⟩⟩
    | true =>
      obtain rfl := hu28_ rfl
      refine ⟨_, fun _ => rfl, Or.inl ⟨by rfl, ?_⟩⟩
      rintro w' ⟨s0, s1, s2⟩
      have hk_ := (blk_cell s1 14).trans LY14.out
      go_simp
      first | done | rfl
  intro u29 hu29_
  refine norm_ (a' := ?_) ?_ ?_
  rotate_left
  · simp only [Act.put, List.setIfInBounds_toArray, List.set_cons_zero, List.set_cons_succ, i64_w, i32_w]
    rfl
  refine gtake_ (i := 25) (N := some 30) (V := (.string (strOfNums y.data))) (B := q2) (bm 43 67108863) rfl rfl (take_ofW HT_.out HW_.out (by as_aux_lemma => kernel_rfl)) (fun _ _ _ _ h => h) hHeld ?_ ?_
  · cases q2 with
    | false => exact ⟨undef, (fun h => by cases h), Or.inr ⟨by rfl, rfl⟩⟩
    | true =>
      obtain rfl := hu28_ rfl
      obtain rfl := hu29_ rfl
      refine ⟨_, fun _ => rfl, Or.inl ⟨by rfl, ?_⟩⟩
      rintro w' ⟨s0, s1, s2⟩
      have hcv_ := Kd.C_string (P := Try.prog) (A := Ay14) (c := cy14) Try.underlying22 Try.underlying5 Try.underlying9 (Kd.C_below RY14.out.1 s2.out)
      go_simp
      first | done | rfl
  intro u30 hu30_
  refine norm_ (a' := ?_) ?_ ?_
  rotate_left
  · simp only [Act.put, List.setIfInBounds_toArray, List.set_cons_zero, List.set_cons_succ, i64_w, i32_w]
    rfl
  refine gpure_ (i := 26) (N := some 31) (V := (.bool (x.data == y.data))) (B := q2) (bm 43 134217727) rfl rfl (any_of HT_.out (by as_aux_lemma => kernel_rfl)) (fun _ _ _ _ h => h) ?_ ?_
  · cases q2 with
    | false => exact ⟨undef, (fun h => by cases h), Or.inr ⟨by rfl, rfl⟩⟩
    | true =>
      obtain rfl := hu27_ rfl
      obtain rfl := hu30_ rfl
      refine ⟨_, fun _ => rfl, Or.inl ⟨by rfl, ?_⟩⟩
      intro w'
      rw [← DEQ.out]
      go_simp
      first | done | rfl
  intro u31 hu31_
  refine norm_ (a' := ?_) ?_ ?_
  rotate_left
  · simp only [Act.put, List.setIfInBounds_toArray, List.set_cons_zero, List.set_cons_succ, i64_w, i32_w]
    rfl
  obtain ⟨q3, eq3_⟩ : ∃ z, z = (q2 && (x.data == y.data)) := ⟨_, rfl⟩
  have Eq3 := Aside0.mk eq3_
  clear eq3_
  refine pure_ (i := 27) (N := some 32) (v := (.bool q3)) (a' := ?_) (bm 43 268435455) rfl rfl (any_of HT_.out (by as_aux_lemma => kernel_rfl)) (fun _ _ _ h => h) (Or.inl ⟨by rfl, ?_⟩) ?_ ?_
  · intro w'
    rw [Eq3.out]
    cases q2 with
    | false => go_simp; first | done | rfl
    | true =>
      obtain rfl := hu31_ rfl
      go_simp
      first | done | rfl
  rotate_left
  · simp only [Act.put, List.setIfInBounds_toArray, List.set_cons_zero, List.set_cons_succ, i64_w, i32_w]
    rfl
  clear hu25_
  clear hu26_
  clear hu27_
  clear hu28_
  clear hu29_
  clear hu30_
  clear hu31_
  refine pure_ (i := 28) (N := some 33) (v := ?_) (a' := ?_) (bm 43 536870911) rfl rfl (any_of HT_.out (by as_aux_lemma => kernel_rfl)) (fun _ _ _ h => h) (Or.inl ⟨by rfl, ?_⟩) ?_ ?_
  rotate_left
  · intro w'
    go_simp
    with_reducible rfl
  rotate_left
  · simp only [Act.put, List.setIfInBounds_toArray, List.set_cons_zero, List.set_cons_succ, i64_w, i32_w]
    rfl
  refine gpure_ (i := 29) (N := some 34) (V := (.pointer (some ⟨w.heap.size, 15, none⟩))) (B := q3) (bm 43 1073741823) rfl rfl (any_of HT_.out (by as_aux_lemma => kernel_rfl)) (fun _ _ _ _ h => h) ?_ ?_
  · cases q3 with
    | false => exact ⟨undef, (fun h => by cases h), Or.inr ⟨by rfl, rfl⟩⟩
    | true =>
      refine ⟨_, fun _ => rfl, Or.inl ⟨by rfl, ?_⟩⟩
      intro w'
      go_simp
      first | done | rfl
  intro u34 hu34_
  refine norm_ (a' := ?_) ?_ ?_
  rotate_left
  · simp only [Act.put, List.setIfInBounds_toArray, List.set_cons_zero, List.set_cons_succ, i64_w, i32_w]
    rfl
  refine gtake_ (i := 30) (N := some 35) (V := (.slice Ax15 x.recs.length cx15)) (B := q3) (bm 43 2147483647) rfl rfl (take_ofW HT_.out HW_.out (by as_aux_lemma => kernel_rfl)) (fun _ _ _ _ h => h) hHeld ?_ ?_
  · cases q3 with
    | false => exact ⟨undef, (fun h => by cases h), Or.inr ⟨by rfl, rfl⟩⟩
    | true =>
      obtain rfl := hu34_ rfl
      refine ⟨_, fun _ => rfl, Or.inl ⟨by rfl, ?_⟩⟩
      rintro w' ⟨s0, s1, s2⟩
      have hk_ := (blk_cell s0 15).trans LX15.out
      go_simp
      first | done | rfl
  intro u35 hu35_
  refine norm_ (a' := ?_) ?_ ?_
  rotate_left
  · simp only [Act.put, List.setIfInBounds_toArray, List.set_cons_zero, List.set_cons_succ, i64_w, i32_w]
    rfl
  refine gpure_ (i := 31) (N := some 36) (V := (.pointer (some ⟨w.heap.size + 1, 15, none⟩))) (B := q3) (bm 43 4294967295) rfl rfl (any_of HT_.out (by as_aux_lemma => kernel_rfl)) (fun _ _ _ _ h => h) ?_ ?_
  · cases q3 with
    | false => exact ⟨undef, (fun h => by cases h), Or.inr ⟨by rfl, rfl⟩⟩
    | true =>
      obtain rfl := hu34_ rfl
      obtain rfl := hu35_ rfl
      refine ⟨_, fun _ => rfl, Or.inl ⟨by rfl, ?_⟩⟩
      intro w'
      go_simp
      first | done | rfl
  intro u36 hu36_
  refine norm_ (a' := ?_) ?_ ?_
  rotate_left
  · simp only [Act.put, List.setIfInBounds_toArray, List.set_cons_zero, List.set_cons_succ, i64_w, i32_w]
    rfl
  refine gtake_ (i := 32) (N := some 37) (V := (.slice Ay15 y.recs.length cy15)) (B := q3) (bm 43 8589934591) rfl rfl (take_ofW HT_.out HW_.out (by as_aux_lemma => kernel_rfl)) (fun _ _ _ _ h => h) hHeld ?_ ?_
  · cases q3 with
    | false => exact ⟨undef, (fun h => by cases h), Or.inr ⟨by rfl, rfl⟩⟩
    | true =>
      obtain rfl := hu34_ rfl
      obtain rfl := hu35_ rfl
      obtain rfl := hu36_ rfl
      refine ⟨_, fun _ => rfl, Or.inl ⟨by rfl, ?_⟩⟩
      rintro w' ⟨s0, s1, s2⟩
      have hk_ := (blk_cell s1 15).trans LY15.out
      go_simp
      first | done | rfl
  intro u37 hu37_
  refine norm_ (a' := ?_) ?_ ?_
  rotate_left
  · simp only [Act.put, List.setIfInBounds_toArray, List.set_cons_zero, List.set_cons_succ, i64_w, i32_w]
    rfl
  refine gone_ (i := 33) (N := some 38) (V := (.bool (listB recB x.recs y.recs))) (B := q3) (bm 43 17179869183) rfl rfl (one_of HT_.out (by as_aux_lemma => kernel_rfl)) (by as_aux_lemma => decide) (fun K hK => ?_) ?_
  · cases q3 with
    | false => exact off_ (by rfl) (hK _ _ hHeld (fun h => by cases h))
    | true =>
      obtain rfl := hu34_ rfl
      obtain rfl := hu35_ rfl
      obtain rfl := hu36_ rfl
      obtain rfl := hu37_ rfl
      refine goes_ Try.func59 (by as_aux_lemma => kernel_rfl) rfl #[.slice Ax15 x.recs.length cx15, .slice Ay15 y.recs.length cy15, .func (.func 60) #[] #[]] (by rfl) rfl rfl (by simp only [List.map_toArray, List.map_cons, List.map_nil]; rfl) ?_
      with_reducible refine (recs_any Ax15 Ay15 cx15 cy15 x.recs y.recs _ (Kd.C_below RX15.out.1 hHeld.2.2.out) (Kd.C_below RY15.out.1 hHeld.2.2.out)).mono ?_
      rintro e wq ⟨rfl, hb⟩
      exact ⟨_, rfl, hK _ _ ⟨blk_below hHeld.1 hb, blk_below hHeld.2.1 hb, Aside0.mk (below_step hHeld.2.2.out hb)⟩ (fun _ => rfl)⟩
  clear hHeld
  intro u38 w33 hHeld hu38_
  refine norm_ (a' := ?_) ?_ ?_
  rotate_left
  · simp only [Act.put, List.setIfInBounds_toArray, List.set_cons_zero, List.set_cons_succ, i64_w, i32_w]
    rfl
  obtain ⟨q4, eq4_⟩ : ∃ z, z = (q3 && (listB recB x.recs y.recs)) := ⟨_, rfl⟩
  have Eq4 := Aside0.mk eq4_
  clear eq4_
  refine pure_ (i := 34) (N := some 39) (v := (.bool q4)) (a' := ?_) (bm 43 34359738367) rfl rfl (any_of HT_.out (by as_aux_lemma => kernel_rfl)) (fun _ _ _ h => h) (Or.inl ⟨by rfl, ?_⟩) ?_ ?_
  · intro w'
    rw [Eq4.out]
    cases q3 with
    | false => go_simp; first | done | rfl
    | true =>
      obtain rfl := hu38_ rfl
      go_simp
      first | done | rfl
  rotate_left
  · simp only [Act.put, List.setIfInBounds_toArray, List.set_cons_zero, List.set_cons_succ, i64_w, i32_w]
    rfl
  clear hu34_
  clear hu35_
  clear hu36_
  clear hu37_
  clear hu38_
  refine pure_ (i := 35) (N := some 40) (v := ?_) (a' := ?_) (bm 43 68719476735) rfl rfl (any_of HT_.out (by as_aux_lemma => kernel_rfl)) (fun _ _ _ h => h) (Or.inl ⟨by rfl, ?_⟩) ?_ ?_
  rotate_left
  · intro w'
    go_simp
    with_reducible rfl
  rotate_left
  · simp only [Act.put, List.setIfInBounds_toArray, List.set_cons_zero, List.set_cons_succ, i64_w, i32_w]
    rfl
  refine gpure_ (i := 36) (N := some 41) (V := (.pointer (some ⟨w.heap.size, 21, none⟩))) (B := q4) (bm 43 137438953471) rfl rfl (any_of HT_.out (by as_aux_lemma => kernel_rfl)) (fun _ _ _ _ h => h) ?_ ?_
  · cases q4 with
    | false => exact ⟨undef, (fun h => by cases h), Or.inr ⟨by rfl, rfl⟩⟩
    | true =>
      refine ⟨_, fun _ => rfl, Or.inl ⟨by rfl, ?_⟩⟩
      intro w'
      go_simp
      first | done | rfl
  intro u41 hu41_
  refine norm_ (a' := ?_) ?_ ?_
  rotate_left
  · simp only [Act.put, List.setIfInBounds_toArray, List.set_cons_zero, List.set_cons_succ, i64_w, i32_w]
    rfl
  refine gtake_ (i := 37) (N := some 42) (V := (.slice Ax21 x.objects.length cx21)) (B := q4) (bm 43 274877906943) rfl rfl (take_ofW HT_.out HW_.out (by as_aux_lemma => kernel_rfl)) (fun _ _ _ _ h => h) hHeld ?_ ?_
  · cases q4 with
    | false => exact ⟨undef, (fun h => by cases h), Or.inr ⟨by rfl, rfl⟩⟩
    | true =>
      obtain rfl := hu41_ rfl
      refine ⟨_, fun _ => rfl, Or.inl ⟨by rfl, ?_⟩⟩
      rintro w' ⟨s0, s1, s2⟩
      have hk_ := (blk_cell s0 21).trans LX21.out
      go_simp
      first | done | rfl
  intro u42 hu42_
  refine norm_ (a' := ?_) ?_ ?_
  rotate_left
  · simp only [Act.put, List.setIfInBounds_toArray, List.set_cons_zero, List.set_cons_succ, i64_w, i32_w]
    rfl
  refine gpure_ (i := 38) (N := some 43) (V := (.pointer (some ⟨w.heap.size + 1, 21, none⟩))) (B := q4) (bm 43 549755813887) rfl rfl (any_of HT_.out (by as_aux_lemma => kernel_rfl)) (fun _ _ _ _ h => h) ?_ ?_
  · cases q4 with
    | false => exact ⟨undef, (fun h => by cases h), Or.inr ⟨by rfl, rfl⟩⟩
    | true =>
      obtain rfl := hu41_ rfl
      obtain rfl := hu42_ rfl
      refine ⟨_, fun _ => rfl, Or.inl ⟨by rfl, ?_⟩⟩
      intro w'
      go_simp
      first | done | rfl
  intro u43 hu43_
  refine norm_ (a' := ?_) ?_ ?_
  rotate_left
  · simp only [Act.put, List.setIfInBounds_toArray, List.set_cons_zero, List.set_cons_succ, i64_w, i32_w]
    rfl
  refine gtake_ (i := 39) (N := some 44) (V := (.slice Ay21 y.objects.length cy21)) (B := q4) (bm 43 1099511627775) rfl rfl (take_ofW HT_.out HW_.out (by as_aux_lemma => kernel_rfl)) (fun _ _ _ _ h => h) hHeld ?_ ?_
  · cases q4 with
    | false => exact ⟨undef, (fun h => by cases h), Or.inr ⟨by rfl, rfl⟩⟩
    | true =>
      obtain rfl := hu41_ rfl
      obtain rfl := hu42_ rfl
      obtain rfl := hu43_ rfl
      refine ⟨_, fun _ => rfl, Or.inl ⟨by rfl, ?_⟩⟩
      rintro w' ⟨s0, s1, s2⟩
      have hk_ := (blk_cell s1 21).trans LY21.out
      go_simp
      first | done | rfl
  intro u44 hu44_
  refine norm_ (a' := ?_) ?_ ?_
  rotate_left
  · simp only [Act.put, List.setIfInBounds_toArray, List.set_cons_zero, List.set_cons_succ, i64_w, i32_w]
    rfl
  refine gone_ (i := 40) (N := some 45) (V := (.bool (listB objB x.objects y.objects))) (B := q4) (bm 43 2199023255551) rfl rfl (one_of HT_.out (by as_aux_lemma => kernel_rfl)) (by as_aux_lemma => decide) (fun K hK => ?_) ?_
  · cases q4 with
    | false => exact off_ (by rfl) (hK _ _ hHeld (fun h => by cases h))
    | true =>
      obtain rfl := hu41_ rfl
      obtain rfl := hu42_ rfl
      obtain rfl := hu43_ rfl
      obtain rfl := hu44_ rfl
      refine goes_ Try.func61 (by as_aux_lemma => kernel_rfl) rfl #[.slice Ax21 x.objects.length cx21, .slice Ay21 y.objects.length cy21, .func (.func 62) #[] #[]] (by rfl) rfl rfl (by simp only [List.map_toArray, List.map_cons, List.map_nil]; rfl) ?_
      with_reducible refine (objs_any Ax21 Ay21 cx21 cy21 x.objects y.objects _ (Kd.C_below RX21.out.1 hHeld.2.2.out) (Kd.C_below RY21.out.1 hHeld.2.2.out) OX.out OY.out).mono ?_
      rintro e wq ⟨rfl, hb⟩
      exact ⟨_, rfl, hK _ _ ⟨blk_below hHeld.1 hb, blk_below hHeld.2.1 hb, Aside0.mk (below_step hHeld.2.2.out hb)⟩ (fun _ => rfl)⟩
  clear hHeld
  intro u45 w40 hHeld hu45_
  refine norm_ (a' := ?_) ?_ ?_
  rotate_left
  · simp only [Act.put, List.setIfInBounds_toArray, List.set_cons_zero, List.set_cons_succ, i64_w, i32_w]
    rfl
  refine pure_ (i := 41) (N := some 46) (v := (.bool (q4 && (listB objB x.objects y.objects)))) (a' := ?_) (bm 43 4398046511103) rfl rfl (any_of HT_.out (by as_aux_lemma => kernel_rfl)) (fun _ _ _ h => h) (Or.inl ⟨by rfl, ?_⟩) ?_ ?_
  · intro w'
    cases q4 with
    | false => go_simp; first | done | rfl
    | true =>
      obtain rfl := hu45_ rfl
      go_simp
      first | done | rfl
  rotate_left
  · simp only [Act.put, List.setIfInBounds_toArray, List.set_cons_zero, List.set_cons_succ, i64_w, i32_w]
    rfl
  clear hu41_
  clear hu42_
  clear hu43_
  clear hu44_
  clear hu45_
  refine pure_ (i := 42) (N := some 4) (v := ?_) (a' := ?_) (bm 43 8796093022207) rfl rfl (any_of HT_.out (by as_aux_lemma => kernel_rfl)) (fun _ _ _ h => h) (Or.inl ⟨by rfl, ?_⟩) ?_ ?_
  rotate_left
  · intro w'
    go_simp
    with_reducible rfl
  rotate_left
  · simp only [Act.put, List.setIfInBounds_toArray, List.set_cons_zero, List.set_cons_succ, i64_w, i32_w]
    rfl
  refine done_ (done_of HT_.out (by as_aux_lemma => kernel_rfl)) ?_
  go_wp2
  go_ret
  refine ⟨?_, hHeld.2.2.out⟩
  first | (rw [Eq4.out, Eq3.out, Eq2.out, Eq1.out]; rfl) | (rw [Eq4.out, Eq3.out, Eq2.out, Eq1.out])
end Go.Proofs.Ytmglilncdffbkaa.Same
end
section
namespace Go.Proofs.Ytmglilncdffbkaa.Same
open Go.RowKit Go.Proofs.Ytmglilncdffbkaa.P Go.Proofs.Ytmglilncdffbkaa.E Go.Proofs.YtmglilncdffbkaaW.PrintWords Go.Proofs.YtmglilncdffbkaaW.PrintLast Go.Proofs.YtmglilncdffbkaaW.PrintMore
def Sta (F : World → Prop) : Prop := ∀ W W', Below W.heap.size W W' → F W → F W'
theorem sta_C {α : Type} (d : Kd α) (A : Option Addr) (n : Nat) (xs : List α) : Sta fun W => d.C W A n xs := fun _ _ hb h => Kd.C_below h hb
theorem sta_msg (cx : Array Value) (m : Msg) : Sta fun W => IsMsg W cx m := fun _ _ hb h => h.on hb
theorem sta_blk (g : Nat) (o : Obj) : Sta fun W => W.heap[g]? = some o := fun _ _ hb h => blk_below h hb
structure Hd (w0 : World) (F : World → Prop) (W : World) : Prop where
  b : Below w0.heap.size w0 W
  f : F W
  st : Sta F
theorem Hd.start (w : World) : Hd w (fun _ => True) w := ⟨Below.refl _ _, trivial, fun _ _ _ h => h⟩
theorem Hd.on {w0 W W' : World} {F : World → Prop} (h : Hd w0 F W) (hb : Below W.heap.size W W') : Hd w0 F W' := ⟨h.b.trans (hb.mono h.b.size), h.st _ _ hb h.f, h.st⟩
theorem Hd.add {w0 W : World} {F G : World → Prop} (h : Hd w0 F W) (sg : Sta G) (g : G W) : Hd w0 (fun W => F W ∧ G W) W := ⟨h.b, ⟨h.f, g⟩, fun _ _ hb hfg => ⟨h.st _ _ hb hfg.1, sg _ _ hb hfg.2⟩⟩
end Go.Proofs.Ytmglilncdffbkaa.Same
end
section
namespace Go.Proofs.Ytmglilncdffbkaa.P
open Go.RowKit Go.Proofs.YtmglilncdffbkaaW.PrintWords Go.Proofs.YtmglilncdffbkaaW.PrintLast Go.Proofs.YtmglilncdffbkaaW.PrintMore
attribute [local go_sem] max2_int min2_int max_two min_two max_three min_three max_four min_four   -- for this text's walks alone
end Go.Proofs.Ytmglilncdffbkaa.P
end
section
namespace Go.Proofs.Ytmglilncdffbkaa.P
open Go.RowKit Go.Proofs.YtmglilncdffbkaaW.PrintWords Go.Proofs.YtmglilncdffbkaaW.PrintLast Go.Proofs.YtmglilncdffbkaaW.PrintMore
attribute [local go_sem] max2_int min2_int max_two min_two max_three min_three max_four min_four   -- for this text's walks alone
end Go.Proofs.Ytmglilncdffbkaa.P
end
section
namespace Go.Proofs.Ytmglilncdffbkaa.P
open Go.RowKit Go.Proofs.YtmglilncdffbkaaW.PrintWords Go.Proofs.YtmglilncdffbkaaW.PrintLast Go.Proofs.YtmglilncdffbkaaW.PrintMore
attribute [local go_sem] max2_int min2_int max_two min_two max_three min_three max_four min_four   -- for this text's walks alone
end Go.Proofs.Ytmglilncdffbkaa.P
end
section
namespace Go.Proofs.Ytmglilncdffbkaa.R01
open Go.RowKit Go.Proofs.Ytmglilncdffbkaa.P Go.Proofs.Ytmglilncdffbkaa.E Go.Proofs.YtmglilncdffbkaaW.PrintWords Go.Proofs.YtmglilncdffbkaaW.PrintLast Go.Proofs.YtmglilncdffbkaaW.PrintMore
end Go.Proofs.Ytmglilncdffbkaa.R01
end
section
namespace Go.Proofs.Ytmglilncdffbkaa.Same
open Go.RowKit Go.Proofs.Ytmglilncdffbkaa.P Go.Proofs.Ytmglilncdffbkaa.E Go.Proofs.YtmglilncdffbkaaW.PrintWords Go.Proofs.YtmglilncdffbkaaW.PrintLast Go.Proofs.YtmglilncdffbkaaW.PrintMore
structure SD (P : Program) (O : Array Oper) (Q : Exit → Act → World → Prop) (L : List Oper) (a : Act) (W : World) : Prop where
  out : wpList P O Q L a W
section
variable {P : Program} {L : List Oper} {O : Array Oper} {o oj : Oper} {a a' : Act} {Q : Exit → Act → World → Prop} {W : World} {v : Value} {N : Option Tmp}
end
section
variable {P : Program} {L : List Oper} {O : Array Oper} {Q : Exit → Act → World → Prop} {W : World} {a : Act} {o : Oper}
structure Seg (L : List Oper) (n g d : Nat) (o0 o1 o2 o3 o4 o5 og : Oper) : Prop where
  h0 : L[n]? = some o0
  h1 : L[n + 1]? = some o1
  h2 : L[n + 2]? = some o2
  h3 : L[n + 3]? = some o3
  h4 : L[n + 4]? = some o4
  h5 : L[n + 5]? = some o5
  hg : L[g]? = some og
  g0 : o0.guard = some (g, false)
  g1 : o1.guard = some (g, false)
  g2 : o2.guard = some (g, false)
  g3 : o3.guard = some (g, false)
  g4 : o4.guard = some (g, false)
  g5 : o5.guard = none
  d0 : o0.dst = some (d + 1)
  d1 : o1.dst = some (d + 2)
  d2 : o2.dst = some (d + 3)
  d3 : o3.dst = some (d + 4)
  d4 : o4.dst = some (d + 5)
  d5 : o5.dst = some (d + 6)
  dg : og.dst = some d
structure SegRuns (P : Program) (W : World) (d : Nat) (px py : Value) (r : Bool) (o0 o1 o2 o3 o4 o5 : Oper) : Prop where
  e : ∃ v0 v1 v2 v3 : Value, (∀ ev, ev (.tmp 2) = px → (execOp ev { o0 with guard := none }).run P W = .ok (.value v0) W) ∧ (∀ ev, ev (.tmp (d + 1)) = v0 → (execOp ev { o1 with guard := none }).run P W = .ok (.value v1) W) ∧
    (∀ ev, ev (.tmp 3) = py → (execOp ev { o2 with guard := none }).run P W = .ok (.value v2) W) ∧ (∀ ev, ev (.tmp (d + 3)) = v2 → (execOp ev { o3 with guard := none }).run P W = .ok (.value v3) W) ∧
    (∀ ev, ev (.tmp (d + 2)) = v1 → ev (.tmp (d + 4)) = v3 → (execOp ev { o4 with guard := none }).run P W = .ok (.value (.bool r)) W)
  p1 : ∀ ev, ev (.tmp d) = .bool true → ev (.const (.bool true)) = .bool true → (execOp ev o5).run P W = .ok (.value (.bool true)) W
  p2 : ∀ ev c, ev (.tmp d) = .bool false → ev (.tmp (d + 5)) = .bool c → (execOp ev o5).run P W = .ok (.value (.bool c)) W
end
end Go.Proofs.Ytmglilncdffbkaa.Same
end
section
namespace Go.Proofs.Ytmglilncdffbkaa.Same
open Go.RowKit Go.Proofs.Ytmglilncdffbkaa.P Go.Proofs.Ytmglilncdffbkaa.E Go.Proofs.YtmglilncdffbkaaW.PrintWords Go.Proofs.YtmglilncdffbkaaW.PrintLast Go.Proofs.YtmglilncdffbkaaW.PrintMore
end Go.Proofs.Ytmglilncdffbkaa.Same
end
section
namespace Go.Proofs.Ytmglilncdffbkaa.Same
open Go.RowKit Go.Proofs.Ytmglilncdffbkaa.P Go.Proofs.Ytmglilncdffbkaa.E Go.Proofs.YtmglilncdffbkaaW.PrintWords Go.Proofs.YtmglilncdffbkaaW.PrintLast Go.Proofs.YtmglilncdffbkaaW.PrintMore
end Go.Proofs.Ytmglilncdffbkaa.Same
end
section
namespace Go.Proofs.Ytmglilncdffbkaa.Same
open Go.RowKit Go.Proofs.Ytmglilncdffbkaa.P Go.Proofs.Ytmglilncdffbkaa.E Go.Proofs.YtmglilncdffbkaaW.PrintWords Go.Proofs.YtmglilncdffbkaaW.PrintLast Go.Proofs.YtmglilncdffbkaaW.PrintMore
theorem listB_refl {α : Type} {f : α → α → Bool} (h : ∀ x, f x x = true) : ∀ l : List α, listB f l l = true
  | [] => rfl
  | x :: xs => by simp only [listB, h x, listB_refl h xs, Bool.and_self]
theorem listB_eq {α : Type} {f : α → α → Bool} (h : ∀ x y, f x y = true → x = y) : ∀ l m : List α, listB f l m = true → l = m
  | [], [], _ => rfl
  | x :: xs, y :: ys, e => by
    simp only [listB, Bool.and_eq_true] at e
    rw [h x y e.1, listB_eq h xs ys e.2]
  | [], _ :: _, e => by cases e
  | _ :: _, [], e => by cases e
theorem rec_refl (x) : recB x x = true := by simp [recB]
theorem obj_refl (x) : objB x x = true := by simp [objB]
theorem rec_eq (x y) (h : recB x y = true) : x = y := by
  unfold recB at h
  simp only [Bool.and_eq_true, beq_iff_eq] at h
  obtain ⟨⟨⟨h0, h1⟩, h2⟩, h3⟩ := h
  cases x; cases y; simp_all
theorem obj_eq (x y) (h : objB x y = true) : x = y := by
  unfold objB at h
  simp only [Bool.and_eq_true, beq_iff_eq] at h
  cases x; cases y; simp_all
theorem same_refl (x : Msg) : sameB x x = true := by
  unfold sameB plainB
  simp only [beq_self_eq_true, Bool.true_and, listB_refl rec_refl, listB_refl obj_refl]
theorem same_eq (x y : Msg) : sameB x y = true ↔ x = y := by
  constructor
  · intro h
    unfold sameB plainB at h
    simp only [Bool.and_eq_true, beq_iff_eq] at h
    obtain ⟨⟨⟨⟨⟨⟨⟨⟨⟨⟨⟨⟨⟨⟨⟨⟨⟨⟨⟨⟨⟨h0, h1⟩, h2⟩, h3⟩, h4⟩, h5⟩, h6⟩, h7⟩, h8⟩, h9⟩, h10⟩, h11⟩, h12⟩, h13⟩, h14⟩, h15⟩, h16⟩, k0⟩, k1⟩, k2⟩, k3⟩, k4⟩ := h
    have e3 := listB_eq rec_eq _ _ k3
    have e4 := listB_eq obj_eq _ _ k4
    cases x; cases y; simp_all
  · rintro rfl
    exact same_refl x
end Go.Proofs.Ytmglilncdffbkaa.Same
end
section
namespace Go.Proofs.Ytmglilncdffbkaa.Same
open Go.RowKit Go.Proofs.Ytmglilncdffbkaa.P Go.Proofs.Ytmglilncdffbkaa.E Go.Proofs.YtmglilncdffbkaaW.PrintWords Go.Proofs.YtmglilncdffbkaaW.PrintLast Go.Proofs.YtmglilncdffbkaaW.PrintMore
end Go.Proofs.Ytmglilncdffbkaa.Same
end
section
namespace Go.Proofs.Ytmglilncdffbkaa.Same
open Go.RowKit Go.Proofs.Ytmglilncdffbkaa.P Go.Proofs.Ytmglilncdffbkaa.E Go.Proofs.YtmglilncdffbkaaW.PrintWords Go.Proofs.YtmglilncdffbkaaW.PrintLast Go.Proofs.YtmglilncdffbkaaW.PrintMore
structure Two (w : World) (cx cy : Array Value) (t : TypeId) (W : World) : Prop where
  x : W.heap[w.heap.size]? = some (.cells cx t (0, 0))
  y : W.heap[w.heap.size + 1]? = some (.cells cy t (0, 0))
  b : Below w.heap.size w W
end Go.Proofs.Ytmglilncdffbkaa.Same
end
section
namespace Go.Proofs.Ytmglilncdffbkaa.Same
open Go.RowKit Go.Proofs.Ytmglilncdffbkaa.P Go.Proofs.Ytmglilncdffbkaa.E Go.Proofs.YtmglilncdffbkaaW.PrintWords Go.Proofs.YtmglilncdffbkaaW.PrintLast Go.Proofs.YtmglilncdffbkaaW.PrintMore
structure Up1 (g : Nat) (w w' : World) : Prop where
  os : w'.os = w.os
  tape : w'.tape = w.tape
  output : w'.output = w.output
  kept : Kept w w' (fun k => k = g)
theorem Up1.below {g B : Nat} {w w' : World} (h : Up1 g w w') (hB : B ≤ g) (hs : B ≤ w.heap.size) : Below B w w' := ⟨h.os, h.tape, h.output, h.kept.1, fun k hk => h.kept.2 k (by omega) (by omega)⟩
theorem Up1.blk {g k : Nat} {w w' : World} {o : Obj} (h : Up1 g w w') (hk : w.heap[k]? = some o) (hne : k ≠ g) : w'.heap[k]? = some o := blk_kept hk h.kept hne
theorem setCells_blk {w : World} {g : Nat} {cur cx : Array Value} {t : TypeId} (hb : w.heap[g]? = some (.cells cur t (0, 0))) (hs : cur.size = cx.size) : (w.setCells g 0 cx.toList).heap[g]? = some (.cells cx t (0, 0)) ∧ Up1 g w (w.setCells g 0 cx.toList) := by
  obtain ⟨cur', h1, h2, h3⟩ := setCells_row cx.toList 0 w cur hb (by simp [hs])
  have e : cur' = cx := by
    apply Array.ext'
    rw [h3]
    simp [hs]
  rw [e] at h1
  obtain ⟨a1, a2, a3, a4⟩ := setCells_same g cx.toList 0 w
  exact ⟨h1, a1, a2, a3, by rw [a4]; exact Nat.le_refl _, fun k hk hn => setCells_far cx.toList 0 k hn⟩
theorem run_store_row {P : Program} {w : World} {g : Nat} {cur cx : Array Value} {t ty : TypeId} (hb : w.heap[g]? = some (.cells cur t (0, 0))) (hs : cur.size = cx.size) (hi : (P.info? ty).map (·.size) = some cx.size) (h1 : cx.all (·.oneCell') = true) :
    (Instr.storeAt ty (.pointer (some ⟨g, 0, none⟩)) (.agg cx)).run P w = .ok () (w.setCells g 0 cx.toList) := by
  refine run_storeAt_mid w g 0 ty cx (fun j hj => ?_) hi h1
  rw [Nat.zero_add]
  have := blk_cell hb j
  have hj' : j < cur.size := by omega
  exact ⟨by rw [this]; simp [hj'], blk_frozen hb j⟩
theorem wpList_store_row {P : Program} {ops : Array Oper} {rest : List Oper} {op : Oper} {a : Act} {w : World} {Q : Exit → Act → World → Prop} (ty : TypeId) (x y : Operand) {g : Nat} {cur cx : Array Value} {t : TypeId}
    (ho : op.op = .store ty x y) (hgd : op.guard = none) (hx : a.eval x = .pointer (some ⟨g, 0, none⟩)) (hy : a.eval y = .agg cx) (hb : w.heap[g]? = some (.cells cur t (0, 0))) (hs : cur.size = cx.size) (hi : (P.info? ty).map (·.size) = some cx.size) (h1 : cx.all (·.oneCell') = true)
    (h : ∀ w', w'.heap[g]? = some (.cells cx t (0, 0)) → Up1 g w w' → wpList P ops Q rest (a.put op.dst undef) w') : wpList P ops Q (op :: rest) a w := by
  refine wpList_plain hgd fun _ hK => ?_
  unfold Oper.wp execOp
  have hr := run_store_row (P := P) (ty := ty) hb hs hi h1
  simp only [ho, hx, hy, hr, Sem.run_bind, Sem.run_pure, Result.andThen_ok]
  obtain ⟨b1, b2⟩ := setCells_blk hb hs
  exact hK _ _ (h _ b1 b2)
theorem gate_op {P : Program} {ops : Array Oper} {rest : List Oper} {op : Oper} {a : Act} {w : World} {Q : Exit → Act → World → Prop} {u : Op} (_ : op.op = u) (h : wpList P ops Q (op :: rest) a w) : wpList P ops Q (op :: rest) a w := h
def zeroM : Msg := ⟨0, 0, 0, 0, 0, 0, 0, 0, 0, 0, 0, 0, [], [], [], [], 0, 0, 0, 0, 0, []⟩
def zeroC : Array Value := #[.int .u8 0, .int .u8 0, .int .u16 0, .int .u16 0, .int .u16 0, .int .u16 0, .int .u16 0, .int .u16 0, .int .u16 0, .int .u16 0, .int .u16 0, .int .u16 0, .slice none 0 0, .slice none 0 0, .slice none 0 0, .slice none 0 0, .int .u8 0, .int .u8 0, .int .u8 0, .int .u8 0, .int .u8 0, .slice none 0 0]
theorem zero_good : goodM zeroM := by
  refine ⟨by decide, ?_, ?_, ?_⟩
  · intro x h; cases h
  · intro x h; cases h
  · intro x h; cases h
theorem nil_row {α : Type} (d : Kd α) (w : World) : Kd.C d w none ([] : List α).length [] ∧ ([] : List α).length ≤ 0 := ⟨Kd.C_nil d w, Nat.le_refl _⟩
theorem zero_is (w : World) : IsMsg w zeroC zeroM := by
  refine ⟨none, 0, none, 0, none, 0, none, 0, none, 0, ?_, zero_good, ?_⟩
  · rfl
  · exact ⟨nil_row _ w, nil_row _ w, nil_row _ w, nil_row _ w, nil_row _ w⟩
theorem run_alloc_msg (ev : Operand → Value) (o : Oper) (ho : o.op = .alloc 30) (W : World) : (execOp ev o).run Try.prog W = .ok (.value (.pointer (some ⟨W.heap.size, 0, none⟩))) (W.alloc (.cells zeroC 30 (0, 0))) := by
  unfold execOp
  rw [ho]
  kernel_rfl
theorem ev_alloc {ops : Array Oper} {rest : List Oper} {o : Oper} {a : Act} {w : World} {Q : Exit → Act → World → Prop} (ho : o.op = .alloc 30) (hgd : o.guard = none)
    (h : ∀ g w1, g = w.heap.size → w1.heap[g]? = some (.cells zeroC 30 (0, 0)) → Below w.heap.size w w1 → wpList Try.prog ops Q rest (a.put o.dst (.pointer (some ⟨g, 0, none⟩))) w1) : wpList Try.prog ops Q (o :: rest) a w :=
  Kd.event_run hgd (run_alloc_msg a.eval o ho w) (h _ _ rfl (blk_new w _) (below_alloc (Below.refl _ _) _))
theorem ev_build {P : Program} {ops : Array Oper} {rest : List Oper} {o : Oper} {a : Act} {w : World} {Q : Exit → Act → World → Prop} (cs : Array Value) (hgd : o.guard = none) (hrun : (execOp a.eval o).run P w = .ok (.value (.agg cs)) w)
    (h : ∀ cx, cx = cs → wpList P ops Q rest (a.put o.dst (.agg cx)) w) : wpList P ops Q (o :: rest) a w := Kd.event_run hgd hrun (h _ rfl)
theorem C_block (q : IntKind) (xs : List Int) {w : World} {g : Nat} {t : TypeId} (hb : w.heap[g]? = some (.cells (xs.map (Value.int q)).toArray t (0, 0))) (hl : xs.length ≤ 1000000) : Kd.C (Kd.int q) w (some ⟨g, 0, none⟩) xs.length xs := by
  refine Kd.C_of_reads (d := 0) ⟨rfl, by omega, fun _ => ⟨_, rfl, fun j hj => ?_⟩⟩
  have e : (⟨g, 0, none⟩ : Addr).add j = ⟨g, j, none⟩ := by unfold Addr.add; split <;> simp_all
  rw [e, blk_cell hb j]
  simp [hj]
theorem ev_lit {P : Program} {ops : Array Oper} {rest : List Oper} {o : Oper} {a : Act} {w : World} {Q : Exit → Act → World → Prop} (q : IntKind) (xs : List Int) (t : TypeId) (hgd : o.guard = none)
    (hrun : (execOp a.eval o).run P w = .ok (.value (.slice (some ⟨w.heap.size, 0, none⟩) xs.length xs.length)) (w.alloc (.cells (xs.map (Value.int q)).toArray t (0, 0)))) (hl : xs.length ≤ 1000000)
    (h : ∀ A c w1 bs, bs = xs → Kd.C (Kd.int q) w1 A bs.length bs → bs.length ≤ c → Below w.heap.size w w1 → wpList P ops Q rest (a.put o.dst (.slice A bs.length c)) w1) : wpList P ops Q (o :: rest) a w :=
  Kd.event_run hgd hrun (h _ _ _ xs rfl (C_block q xs (blk_new w _) hl) (Nat.le_refl _) (below_alloc (Below.refl _ _) _))
structure Held (w0 : World) (L : List (Nat × Array Value)) (W : World) : Prop where
  b : Below w0.heap.size w0 W
  h : ∀ p ∈ L, w0.heap.size ≤ p.1 ∧ W.heap[p.1]? = some (.cells p.2 30 (0, 0))
  d : L.Pairwise (fun p q => p.1 ≠ q.1)
theorem Held.start (w : World) : Held w [] w := ⟨Below.refl _ _, (fun p h => by cases h), List.Pairwise.nil⟩
theorem Held.on {w0 W W' : World} {L : List (Nat × Array Value)} (h : Held w0 L W) (hb : Below W.heap.size W W') : Held w0 L W' :=
  ⟨h.b.trans (hb.mono h.b.size), fun p hp => ⟨(h.h p hp).1, blk_below (h.h p hp).2 hb⟩, h.d⟩
theorem Held.at {w0 W : World} {L : List (Nat × Array Value)} (h : Held w0 L W) (i : Nat) {g : Nat} {cx : Array Value} (hi : L[i]? = some (g, cx)) : W.heap[g]? = some (.cells cx 30 (0, 0)) := (h.h (g, cx) (List.mem_of_getElem? hi)).2
theorem Held.new {w0 W W' : World} {L : List (Nat × Array Value)} {g : Nat} {cx : Array Value} (h : Held w0 L W) (hg : g = W.heap.size) (hblk : W'.heap[g]? = some (.cells cx 30 (0, 0))) (hb : Below W.heap.size W W') : Held w0 (L ++ [(g, cx)]) W' := by
  have h2 := h.on hb
  refine ⟨h2.b, fun p hp => ?_, List.pairwise_append.2 ⟨h.d, List.pairwise_singleton _ _, fun p hp q hq => ?_⟩⟩
  · rcases List.mem_append.1 hp with hp | hp
    · exact h2.h p hp
    · obtain rfl := List.mem_singleton.1 hp
      exact ⟨by rw [hg]; exact h.b.size, hblk⟩
  · obtain rfl := List.mem_singleton.1 hq
    have := blk_lt (h.h p hp).2
    show p.1 ≠ g
    omega
theorem Held.put {w0 W W' : World} {L : List (Nat × Array Value)} (h : Held w0 L W) (i : Nat) {g : Nat} {cx cy : Array Value} (hi : L[i]? = some (g, cx)) (hblk : W'.heap[g]? = some (.cells cy 30 (0, 0))) (hu : Up1 g W W') : Held w0 (L.set i (g, cy)) W' := by
  have hg := (h.h (g, cx) (List.mem_of_getElem? hi)).1
  obtain ⟨hlt, hval⟩ := List.getElem?_eq_some_iff.1 hi
  refine ⟨h.b.trans (hu.below hg h.b.size), fun p hp => ?_, ?_⟩
  · obtain ⟨j, hj, rfl⟩ := List.mem_iff_getElem.1 hp
    have hj' : j < L.length := by simpa using hj
    rw [List.getElem_set]
    split
    · exact ⟨hg, hblk⟩
    · rename_i hne
      have hmem := h.h L[j] (List.getElem_mem hj')
      refine ⟨hmem.1, hu.blk hmem.2 ?_⟩
      have hpw := List.pairwise_iff_getElem.1 h.d
      rcases Nat.lt_or_gt_of_ne hne with hl | hl
      · have := hpw i j hlt hj' hl
        rw [hval] at this
        exact fun e => this e.symm
      · have := hpw j i hj' hlt hl
        rw [hval] at this
        exact this
  · refine List.pairwise_iff_getElem.2 fun a b ha hb hab => ?_
    have ha' : a < L.length := by simpa using ha
    have hb' : b < L.length := by simpa using hb
    have hpw := List.pairwise_iff_getElem.1 h.d a b ha' hb' hab
    rw [List.getElem_set, List.getElem_set]
    split <;> split
    · rename_i e1 e2; omega
    · rename_i e1 _; subst e1; rw [hval] at hpw; exact hpw
    · rename_i _ e2; subst e2; rw [hval] at hpw; exact hpw
    · exact hpw
theorem ev_store {ops : Array Oper} {rest : List Oper} {op : Oper} {a : Act} {w w0 W0 : World} {Q : Exit → Act → World → Prop} {x y : Operand} {g : Nat} {L : List (Nat × Array Value)} {i : Nat} {cur cx : Array Value} {m : Msg}
    (ho : op.op = .store 30 x y) (hgd : op.guard = none) (hx : a.eval x = .pointer (some ⟨g, 0, none⟩)) (hy : a.eval y = .agg cx) (H : Held w0 L w) (hi : L[i]? = some (g, cur)) (hs : cur.size = 22) (M : IsMsg W0 cx m)
    (h : ∀ w', Held w0 (L.set i (g, cx)) w' → Up1 g w w' → wpList Try.prog ops Q rest (a.put op.dst undef) w') : wpList Try.prog ops Q (op :: rest) a w :=
  wpList_store_row 30 x y ho hgd hx hy (H.at i hi) (hs.trans M.size.symm) (msg_info M.size) M.one (fun w' h1 h2 => h w' (H.put i hi h1 h2) h2)
theorem ev_var {ops : Array Oper} {rest : List Oper} {o1 o2 : Oper} {a : Act} {w W0 : World} {Q : Exit → Act → World → Prop} {x y : Operand} {cx : Array Value} {m : Msg}
    (ho1 : o1.op = .alloc 30) (hg1 : o1.guard = none) (ho2 : o2.op = .store 30 x y) (hg2 : o2.guard = none) (hd2 : o2.dst = none) (M : IsMsg W0 cx m)
    (hx : (a.put o1.dst (.pointer (some ⟨w.heap.size, 0, none⟩))).eval x = .pointer (some ⟨w.heap.size, 0, none⟩)) (hy : (a.put o1.dst (.pointer (some ⟨w.heap.size, 0, none⟩))).eval y = .agg cx)
    (h : ∀ g w', g = w.heap.size → w'.heap[g]? = some (.cells cx 30 (0, 0)) → Below w.heap.size w w' → wpList Try.prog ops Q rest (a.put o1.dst (.pointer (some ⟨g, 0, none⟩))) w') : wpList Try.prog ops Q (o1 :: o2 :: rest) a w := by
  refine Kd.event_run hg1 (run_alloc_msg a.eval o1 ho1 w) ?_
  refine wpList_store_row 30 x y ho2 hg2 hx hy (blk_new w _) (M.size.symm ▸ rfl) (msg_info M.size) M.one (fun w' h1 h2 => ?_)
  rw [hd2]
  exact h _ w' rfl h1 ((below_alloc (Below.refl _ _) _).trans ((h2.below (Nat.le_refl _) (by simp)).mono (by simp)))
theorem ev_load {ops : Array Oper} {rest : List Oper} {op : Oper} {a : Act} {w w0 : World} {Q : Exit → Act → World → Prop} {x : Operand} {g : Nat} {L : List (Nat × Array Value)} {i : Nat} {cx : Array Value}
    (ho : op.op = .load 30 x) (hgd : op.guard = none) (hx : a.eval x = .pointer (some ⟨g, 0, none⟩)) (H : Held w0 L w) (hi : L[i]? = some (g, cx)) (hs : cx.size = 22)
    (h : wpList Try.prog ops Q rest (a.put op.dst (.agg cx)) w) : wpList Try.prog ops Q (op :: rest) a w :=
  wpList_load_row hgd 30 x ho g hx 30 cx (0, 0) _ (H.at i hi) Try.underlying30 rfl (msg_info hs) h
theorem ev_get {ops : Array Oper} {rest : List Oper} {op : Oper} {a : Act} {w : World} {Q : Exit → Act → World → Prop} {x : Operand} {g : Nat} {cx : Array Value} {m : Msg} {W0 : World}
    (ho : op.op = .load 30 x) (hgd : op.guard = none) (hx : a.eval x = .pointer (some ⟨g, 0, none⟩)) (hb : w.heap[g]? = some (.cells cx 30 (0, 0))) (M : IsMsg W0 cx m)
    (h : wpList Try.prog ops Q rest (a.put op.dst (.agg cx)) w) : wpList Try.prog ops Q (op :: rest) a w :=
  wpList_load_row hgd 30 x ho g hx 30 cx (0, 0) _ hb Try.underlying30 rfl (msg_info M.size) h
end Go.Proofs.Ytmglilncdffbkaa.Same
end
section
namespace Go.Proofs.Ytmglilncdffbkaa.Same
open Go.RowKit Go.Proofs.Ytmglilncdffbkaa.P Go.Proofs.Ytmglilncdffbkaa.E Go.Proofs.YtmglilncdffbkaaW.PrintWords Go.Proofs.YtmglilncdffbkaaW.PrintLast Go.Proofs.YtmglilncdffbkaaW.PrintMore
theorem good_code {m : Msg} (h : goodM m) {v : Int} (hv : 0 ≤ v ∧ v < 256) : goodM { m with code := v } := by
  obtain ⟨h1, h2⟩ := h
  refine ⟨?_, h2⟩
  simp only [okM, u8B, u16B, Bool.and_eq_true, decide_eq_true_eq] at h1 ⊢
  simp only [h1, hv, and_self, true_and]
theorem set_code {W : World} {cx : Array Value} {m : Msg} (h : IsMsg W cx m) {v : Int} (hv : 0 ≤ v ∧ v < 256) : IsMsg W (cx.setIfInBounds 0 (.int .u8 v)) { m with code := v } := by
  obtain ⟨A12, c12, A13, c13, A14, c14, A15, c15, A21, c21, rfl, ok, h12, h13, h14, h15, h21⟩ := h
  exact ⟨A12, c12, A13, c13, A14, c14, A15, c15, A21, c21, by simp, good_code ok hv, h12, h13, h14, h15, h21⟩
theorem good_addr {m : Msg} (h : goodM m) {v : Int} (hv : 0 ≤ v ∧ v < 65536) : goodM { m with addr := v } := by
  obtain ⟨h1, h2⟩ := h
  refine ⟨?_, h2⟩
  simp only [okM, u8B, u16B, Bool.and_eq_true, decide_eq_true_eq] at h1 ⊢
  simp only [h1, hv, and_self, true_and]
theorem set_addr {W : World} {cx : Array Value} {m : Msg} (h : IsMsg W cx m) {v : Int} (hv : 0 ≤ v ∧ v < 65536) : IsMsg W (cx.setIfInBounds 2 (.int .u16 v)) { m with addr := v } := by
  obtain ⟨A12, c12, A13, c13, A14, c14, A15, c15, A21, c21, rfl, ok, h12, h13, h14, h15, h21⟩ := h
  exact ⟨A12, c12, A13, c13, A14, c14, A15, c15, A21, c21, by simp, good_addr ok hv, h12, h13, h14, h15, h21⟩
theorem good_count {m : Msg} (h : goodM m) {v : Int} (hv : 0 ≤ v ∧ v < 65536) : goodM { m with count := v } := by
  obtain ⟨h1, h2⟩ := h
  refine ⟨?_, h2⟩
  simp only [okM, u8B, u16B, Bool.and_eq_true, decide_eq_true_eq] at h1 ⊢
  simp only [h1, hv, and_self, true_and]
theorem set_count {W : World} {cx : Array Value} {m : Msg} (h : IsMsg W cx m) {v : Int} (hv : 0 ≤ v ∧ v < 65536) : IsMsg W (cx.setIfInBounds 3 (.int .u16 v)) { m with count := v } := by
  obtain ⟨A12, c12, A13, c13, A14, c14, A15, c15, A21, c21, rfl, ok, h12, h13, h14, h15, h21⟩ := h
  exact ⟨A12, c12, A13, c13, A14, c14, A15, c15, A21, c21, by simp, good_count ok hv, h12, h13, h14, h15, h21⟩
theorem good_value {m : Msg} (h : goodM m) {v : Int} (hv : 0 ≤ v ∧ v < 65536) : goodM { m with value := v } := by
  obtain ⟨h1, h2⟩ := h
  refine ⟨?_, h2⟩
  simp only [okM, u8B, u16B, Bool.and_eq_true, decide_eq_true_eq] at h1 ⊢
  simp only [h1, hv, and_self, true_and]
theorem set_value {W : World} {cx : Array Value} {m : Msg} (h : IsMsg W cx m) {v : Int} (hv : 0 ≤ v ∧ v < 65536) : IsMsg W (cx.setIfInBounds 4 (.int .u16 v)) { m with value := v } := by
  obtain ⟨A12, c12, A13, c13, A14, c14, A15, c15, A21, c21, rfl, ok, h12, h13, h14, h15, h21⟩ := h
  exact ⟨A12, c12, A13, c13, A14, c14, A15, c15, A21, c21, by simp, good_value ok hv, h12, h13, h14, h15, h21⟩
theorem good_and {m : Msg} (h : goodM m) {v : Int} (hv : 0 ≤ v ∧ v < 65536) : goodM { m with and_ := v } := by
  obtain ⟨h1, h2⟩ := h
  refine ⟨?_, h2⟩
  simp only [okM, u8B, u16B, Bool.and_eq_true, decide_eq_true_eq] at h1 ⊢
  simp only [h1, hv, and_self, true_and]
theorem set_and {W : World} {cx : Array Value} {m : Msg} (h : IsMsg W cx m) {v : Int} (hv : 0 ≤ v ∧ v < 65536) : IsMsg W (cx.setIfInBounds 5 (.int .u16 v)) { m with and_ := v } := by
  obtain ⟨A12, c12, A13, c13, A14, c14, A15, c15, A21, c21, rfl, ok, h12, h13, h14, h15, h21⟩ := h
  exact ⟨A12, c12, A13, c13, A14, c14, A15, c15, A21, c21, by simp, good_and ok hv, h12, h13, h14, h15, h21⟩
theorem good_or {m : Msg} (h : goodM m) {v : Int} (hv : 0 ≤ v ∧ v < 65536) : goodM { m with or_ := v } := by
  obtain ⟨h1, h2⟩ := h
  refine ⟨?_, h2⟩
  simp only [okM, u8B, u16B, Bool.and_eq_true, decide_eq_true_eq] at h1 ⊢
  simp only [h1, hv, and_self, true_and]
theorem set_or {W : World} {cx : Array Value} {m : Msg} (h : IsMsg W cx m) {v : Int} (hv : 0 ≤ v ∧ v < 65536) : IsMsg W (cx.setIfInBounds 6 (.int .u16 v)) { m with or_ := v } := by
  obtain ⟨A12, c12, A13, c13, A14, c14, A15, c15, A21, c21, rfl, ok, h12, h13, h14, h15, h21⟩ := h
  exact ⟨A12, c12, A13, c13, A14, c14, A15, c15, A21, c21, by simp, good_or ok hv, h12, h13, h14, h15, h21⟩
theorem good_addr2 {m : Msg} (h : goodM m) {v : Int} (hv : 0 ≤ v ∧ v < 65536) : goodM { m with addr2 := v } := by
  obtain ⟨h1, h2⟩ := h
  refine ⟨?_, h2⟩
  simp only [okM, u8B, u16B, Bool.and_eq_true, decide_eq_true_eq] at h1 ⊢
  simp only [h1, hv, and_self, true_and]
theorem set_addr2 {W : World} {cx : Array Value} {m : Msg} (h : IsMsg W cx m) {v : Int} (hv : 0 ≤ v ∧ v < 65536) : IsMsg W (cx.setIfInBounds 7 (.int .u16 v)) { m with addr2 := v } := by
  obtain ⟨A12, c12, A13, c13, A14, c14, A15, c15, A21, c21, rfl, ok, h12, h13, h14, h15, h21⟩ := h
  exact ⟨A12, c12, A13, c13, A14, c14, A15, c15, A21, c21, by simp, good_addr2 ok hv, h12, h13, h14, h15, h21⟩
theorem set_words {W : World} {cx : Array Value} {m : Msg} (h : IsMsg W cx m) {A : Option Addr} {n : Nat} {l : List Int} (hn : l.length ≤ n) (hg : ∀ x ∈ l, 0 ≤ x ∧ x < 65536) (hr : Kd.C (Kd.int .u16) W A l.length l) : IsMsg W (cx.setIfInBounds 12 (.slice A l.length n)) { m with words := l } := by
  obtain ⟨A12, c12, A13, c13, A14, c14, A15, c15, A21, c21, rfl, ok, h12, h13, h14, h15, h21⟩ := h
  exact ⟨A, n, A13, c13, A14, c14, A15, c15, A21, c21, by simp, ⟨ok.1, hg, ok.2.2⟩, ⟨hr, hn⟩, h13, h14, h15, h21⟩
def NilL (cx : Array Value) : Prop := ∀ (i : Nat) A n, (i = 15 ∨ i = 21) → cx[i]? = some (.slice A 0 n) → A = none ∧ n = 0
theorem NilL.set {cx : Array Value} (h : NilL cx) {i : Nat} (hi : i ≠ 15 ∧ i ≠ 21) {v : Value} : NilL (cx.setIfInBounds i v) := by
  intro j A n hj e
  refine h j A n hj ?_
  rwa [Array.getElem?_setIfInBounds_ne (by omega)] at e
end Go.Proofs.Ytmglilncdffbkaa.Same
end
section
namespace Go.Proofs.Ytmglilncdffbkaa.PS
open Go.RowKit Go.Proofs.Ytmglilncdffbkaa.P Go.Proofs.Ytmglilncdffbkaa.E Go.Proofs.Ytmglilncdffbkaa.Cur Go.Proofs.Ytmglilncdffbkaa.RCur Go.Proofs.Ytmglilncdffbkaa.Cu Go.Proofs.Ytmglilncdffbkaa.Same Go.Proofs.YtmglilncdffbkaaW.PrintWords Go.Proofs.YtmglilncdffbkaaW.PrintLast Go.Proofs.YtmglilncdffbkaaW.PrintMore
structure St (w0 : World) (gr g gm : Nat) (w : World) (c : Cu) (m : Msg) : Prop where
  b : Below w0.heap.size w0 w
  cur : ∃ lo hi, PAt lo hi w g c ∧ (gm < lo ∨ hi ≤ gm) ∧ (gr < lo ∨ hi ≤ gr)
  cx : ∃ cx, w.heap[gm]? = some (.cells cx 30 (0, 0)) ∧ ∀ W', Kept w W' (fun k => k = g ∨ k = gm ∨ k = gr) → IsMsg W' cx m
  res : w.heap[gr]? = some (.cells zeroC 30 (0, 0))
  h1 : w0.heap.size ≤ g ∧ w0.heap.size ≤ gm ∧ w0.heap.size ≤ gr
  h2 : gm ≠ g ∧ gr ≠ g ∧ gr ≠ gm
  nl : ∃ cx, w.heap[gm]? = some (.cells cx 30 (0, 0)) ∧ NilL cx
section
variable {w0 w w' : World} {gr g gm : Nat} {c c' : Cu} {m m' : Msg}
theorem St.upd (h : St w0 gr g gm w c m) (k : Upd g w w') (hc : ∃ lo hi, PAt lo hi w' g c' ∧ (gm < lo ∨ hi ≤ gm) ∧ (gr < lo ∨ hi ≤ gr)) : St w0 gr g gm w' c' m := by
  obtain ⟨cx, a1, a2⟩ := h.cx
  refine ⟨h.b.trans (k.below h.h1.1 h.b.size), hc, ⟨cx, blk_kept a1 k.kept h.h2.1, fun W' hk => a2 W' ((k.kept.mono fun j hj => .inl hj).then_ hk (fun j hj => .inl hj))⟩, blk_kept h.res k.kept h.h2.2.1, h.h1, h.h2, by obtain ⟨cy, n1, n2⟩ := h.nl; exact ⟨cy, blk_kept n1 k.kept h.h2.1, n2⟩⟩
theorem St.good (h : St w0 gr g gm w c m) : c.good := by
  obtain ⟨lo, hi, a, _⟩ := h.cur
  exact a.2
theorem St.msg (h : St w0 gr g gm w c m) : goodM m := by
  obtain ⟨cx, a1, a2⟩ := h.cx
  exact (a2 w (Kept.refl _ _)).good
theorem St.below (h : St w0 gr g gm w c m) (hb : Below w.heap.size w w') : St w0 gr g gm w' c m := by
  obtain ⟨cx, a1, a2⟩ := h.cx
  refine ⟨h.b.trans (hb.mono h.b.size), ?_, ⟨cx, blk_below a1 hb, fun W' hk => a2 W' ((Kept.of_below hb _).then_ hk (fun j hj => .inl hj))⟩, blk_below h.res hb, h.h1, h.h2, by obtain ⟨cy, n1, n2⟩ := h.nl; exact ⟨cy, blk_below n1 hb, n2⟩⟩
  obtain ⟨lo, hi, a, s1, s2⟩ := h.cur
  exact ⟨lo, hi, a.below hb, s1, s2⟩
theorem St.fin (h : St w0 gr g gm w c m) : Calls Try.prog 22 #[.pointer (some ⟨g, 0, none⟩)] w fun en w' => en = .returned (.tuple #[]) ∧ St w0 gr g gm w' c.fin m := by
  obtain ⟨lo, hi, hc, s1, s2⟩ := h.cur
  refine (p_end hc).mono ?_
  rintro en w' ⟨rfl, b1, b2⟩
  exact ⟨rfl, h.upd b2 ⟨lo, hi, b1, s1, s2⟩⟩
theorem St.err (h : St w0 gr g gm w c m) : Calls Try.prog 23 #[.pointer (some ⟨g, 0, none⟩)] w fun en w' => en = .returned (.int .i64 c.e) ∧ St w0 gr g gm w' c m := by
  obtain ⟨lo, hi, hc, s1, s2⟩ := h.cur
  refine (p_err hc).mono ?_
  rintro en w' ⟨rfl, rfl⟩
  exact ⟨rfl, h⟩
theorem St.put (h : St w0 gr g gm w c m) (i : Nat) (v : Value) (hi : i ≠ 15 ∧ i ≠ 21) (hm : ∀ W' cx, Kept w W' (fun k => k = g ∨ k = gm ∨ k = gr) → IsMsg W' cx m → IsMsg W' (cx.setIfInBounds i v) m') : St w0 gr g gm (w.setCell ⟨gm, i, none⟩ v) c m' := by
  obtain ⟨cx, a1, a2⟩ := h.cx
  have hk : Kept w (w.setCell ⟨gm, i, none⟩ v) (fun k => k = gm) := (Kept.refl w (fun k => k = gm)).setCell (p := ⟨gm, i, none⟩) (.inl rfl) v
  refine ⟨below_set h.b h.h1.2.1, ?_, ⟨_, blk_put a1 i v rfl, fun W' k => ?_⟩, blk_kept h.res hk h.h2.2.2, h.h1, h.h2, by obtain ⟨cy, n1, n2⟩ := h.nl; exact ⟨_, blk_put n1 i v rfl, n2.set hi⟩⟩
  · obtain ⟨lo, hi, a, s1, s2⟩ := h.cur
    exact ⟨lo, hi, a.on hk (fun k e => by rw [e]; exact s1) (fun e => h.h2.1 e.symm), s1, s2⟩
  · have k2 : Kept w W' (fun k => k = g ∨ k = gm ∨ k = gr) := (hk.mono fun j hj => .inr (.inl hj)).then_ k (fun j hj => .inl hj)
    exact hm W' cx k2 (a2 W' k2)
theorem St.put_addr (h : St w0 gr g gm w c m) {v : Int} (hv : 0 ≤ v ∧ v < 65536) : St w0 gr g gm (w.setCell ⟨gm, 2, none⟩ (.int .u16 v)) c { m with addr := v } :=
  h.put 2 _ (by decide) fun W' cx _ hm => set_addr hm hv
theorem St.put_count (h : St w0 gr g gm w c m) {v : Int} (hv : 0 ≤ v ∧ v < 65536) : St w0 gr g gm (w.setCell ⟨gm, 3, none⟩ (.int .u16 v)) c { m with count := v } :=
  h.put 3 _ (by decide) fun W' cx _ hm => set_count hm hv
theorem St.put_value (h : St w0 gr g gm w c m) {v : Int} (hv : 0 ≤ v ∧ v < 65536) : St w0 gr g gm (w.setCell ⟨gm, 4, none⟩ (.int .u16 v)) c { m with value := v } :=
  h.put 4 _ (by decide) fun W' cx _ hm => set_value hm hv
theorem St.put_and (h : St w0 gr g gm w c m) {v : Int} (hv : 0 ≤ v ∧ v < 65536) : St w0 gr g gm (w.setCell ⟨gm, 5, none⟩ (.int .u16 v)) c { m with and_ := v } :=
  h.put 5 _ (by decide) fun W' cx _ hm => set_and hm hv
theorem St.put_or (h : St w0 gr g gm w c m) {v : Int} (hv : 0 ≤ v ∧ v < 65536) : St w0 gr g gm (w.setCell ⟨gm, 6, none⟩ (.int .u16 v)) c { m with or_ := v } :=
  h.put 6 _ (by decide) fun W' cx _ hm => set_or hm hv
theorem St.put_addr2 (h : St w0 gr g gm w c m) {v : Int} (hv : 0 ≤ v ∧ v < 65536) : St w0 gr g gm (w.setCell ⟨gm, 7, none⟩ (.int .u16 v)) c { m with addr2 := v } :=
  h.put 7 _ (by decide) fun W' cx _ hm => set_addr2 hm hv
theorem St.put_words (h : St w0 gr g gm w c m) {A : Option Addr} {n : Nat} {l : List Int} (hn : l.length ≤ n) (hg : ∀ x ∈ l, 0 ≤ x ∧ x < 65536) (hr : ∀ W', Kept w W' (fun k => k = g ∨ k = gm ∨ k = gr) → Kd.C (Kd.int .u16) W' A l.length l) : St w0 gr g gm (w.setCell ⟨gm, 12, none⟩ (.slice A l.length n)) c { m with words := l } :=
  h.put 12 _ (by decide) fun W' cx k hm => set_words hm hn hg (hr W' k)
theorem St.at_code (h : St w0 gr g gm w c m) : w.cell? ⟨gm, 0, none⟩ = some (.int .u8 m.code) ∧ w.frozen? ⟨gm, 0, none⟩ = false := by
  obtain ⟨cx, a1, a2⟩ := h.cx
  exact ⟨bx_code a1 (a2 w (Kept.refl _ _)), blk_frozen a1 0⟩
theorem St.at_addr (h : St w0 gr g gm w c m) : w.cell? ⟨gm, 2, none⟩ = some (.int .u16 m.addr) ∧ w.frozen? ⟨gm, 2, none⟩ = false := by
  obtain ⟨cx, a1, a2⟩ := h.cx
  exact ⟨bx_addr a1 (a2 w (Kept.refl _ _)), blk_frozen a1 2⟩
theorem St.at_count (h : St w0 gr g gm w c m) : w.cell? ⟨gm, 3, none⟩ = some (.int .u16 m.count) ∧ w.frozen? ⟨gm, 3, none⟩ = false := by
  obtain ⟨cx, a1, a2⟩ := h.cx
  exact ⟨bx_count a1 (a2 w (Kept.refl _ _)), blk_frozen a1 3⟩
theorem St.at_value (h : St w0 gr g gm w c m) : w.cell? ⟨gm, 4, none⟩ = some (.int .u16 m.value) ∧ w.frozen? ⟨gm, 4, none⟩ = false := by
  obtain ⟨cx, a1, a2⟩ := h.cx
  exact ⟨bx_value a1 (a2 w (Kept.refl _ _)), blk_frozen a1 4⟩
theorem St.at_and (h : St w0 gr g gm w c m) : w.cell? ⟨gm, 5, none⟩ = some (.int .u16 m.and_) ∧ w.frozen? ⟨gm, 5, none⟩ = false := by
  obtain ⟨cx, a1, a2⟩ := h.cx
  exact ⟨bx_and a1 (a2 w (Kept.refl _ _)), blk_frozen a1 5⟩
theorem St.at_or (h : St w0 gr g gm w c m) : w.cell? ⟨gm, 6, none⟩ = some (.int .u16 m.or_) ∧ w.frozen? ⟨gm, 6, none⟩ = false := by
  obtain ⟨cx, a1, a2⟩ := h.cx
  exact ⟨bx_or a1 (a2 w (Kept.refl _ _)), blk_frozen a1 6⟩
theorem St.at_addr2 (h : St w0 gr g gm w c m) : w.cell? ⟨gm, 7, none⟩ = some (.int .u16 m.addr2) ∧ w.frozen? ⟨gm, 7, none⟩ = false := by
  obtain ⟨cx, a1, a2⟩ := h.cx
  exact ⟨bx_addr2 a1 (a2 w (Kept.refl _ _)), blk_frozen a1 7⟩
theorem St.at_words (h : St w0 gr g gm w c m) : ∃ A n, w.cell? ⟨gm, 12, none⟩ = some (.slice A m.words.length n) ∧ w.frozen? ⟨gm, 12, none⟩ = false := by
  obtain ⟨cx, a1, a2⟩ := h.cx
  obtain ⟨A12, c12, A13, c13, A14, c14, A15, c15, A21, c21, l, _⟩ := (a2 w (Kept.refl _ _)).lists
  exact ⟨A12, c12, (blk_cell a1 12).trans l.1, blk_frozen a1 12⟩
theorem St.held (h : St w0 gr g gm w c m) : Held w0 [(gr, zeroC)] w := ⟨h.b, fun p hp => by obtain rfl := List.mem_singleton.1 hp; exact ⟨h.h1.2.2, h.res⟩, List.pairwise_singleton _ _⟩
theorem St.held2 (h : St w0 gr g gm w c m) : ∃ cx, Held w0 [(gr, zeroC), (gm, cx)] w ∧ cx.size = 22 ∧ ∀ w', Up1 gr w w' → IsMsg w' cx m := by
  obtain ⟨cx, a1, a2⟩ := h.cx
  refine ⟨cx, ⟨h.b, fun p hp => ?_, ?_⟩, (a2 w (Kept.refl _ _)).size, fun w' hu => a2 w' (hu.kept.mono fun j hj => .inr (.inr hj))⟩
  · rcases List.mem_cons.1 hp with rfl | hp
    · exact ⟨h.h1.2.2, h.res⟩
    · obtain rfl := List.mem_singleton.1 hp
      exact ⟨h.h1.2.1, a1⟩
  · refine List.pairwise_cons.2 ⟨fun q hq => ?_, List.pairwise_singleton _ _⟩
    obtain rfl := List.mem_singleton.1 hq
    exact h.h2.2.2
end
theorem zero_nil : NilL zeroC := by
  intro i A n hi e
  rcases hi with rfl | rfl <;> exact ⟨(Value.slice.inj (Option.some.inj e)).1.symm, (Value.slice.inj (Option.some.inj e)).2.2.symm⟩
structure Nw (w0 : World) (gr g : Nat) (w : World) (c : Cu) : Prop where
  b : Below w0.heap.size w0 w
  cur : ∃ lo, PAt lo g w g c ∧ gr < lo
  res : w.heap[gr]? = some (.cells zeroC 30 (0, 0))
  h1 : w0.heap.size ≤ g ∧ w0.heap.size ≤ gr
end Go.Proofs.Ytmglilncdffbkaa.PS
end
section
namespace Go.Proofs.Ytmglilncdffbkaa.PS
open Go.RowKit Go.Proofs.Ytmglilncdffbkaa.P Go.Proofs.Ytmglilncdffbkaa.E Go.Proofs.Ytmglilncdffbkaa.Cur Go.Proofs.Ytmglilncdffbkaa.RCur Go.Proofs.Ytmglilncdffbkaa.Cu Go.Proofs.Ytmglilncdffbkaa.Same Go.Proofs.YtmglilncdffbkaaW.PrintWords Go.Proofs.YtmglilncdffbkaaW.PrintLast Go.Proofs.YtmglilncdffbkaaW.PrintMore
structure Sk (wb w0 : World) (gr g gm : Nat) (w : World) (c : Cu) (m : Msg) : Prop where
  st : St w0 gr g gm w c m
  kp : Kept wb w (fun k => k = g ∨ k = gm)
section
variable {wb w0 w w' : World} {gr g gm : Nat} {c c' : Cu} {m m' : Msg}
theorem Sk.upd (h : Sk wb w0 gr g gm w c m) (k : Upd g w w') (hc : ∃ lo hi, PAt lo hi w' g c' ∧ (gm < lo ∨ hi ≤ gm) ∧ (gr < lo ∨ hi ≤ gr)) : Sk wb w0 gr g gm w' c' m := ⟨h.st.upd k hc, h.kp.then_ k.kept (fun _ e => .inl (.inl e))⟩
theorem Sk.below (h : Sk wb w0 gr g gm w c m) (hb : Below w.heap.size w w') : Sk wb w0 gr g gm w' c m := ⟨h.st.below hb, h.kp.below hb⟩
theorem Sk.good (h : Sk wb w0 gr g gm w c m) : c.good := h.st.good
theorem Sk.msg (h : Sk wb w0 gr g gm w c m) : goodM m := h.st.msg
theorem Sk.start (h : St w0 gr g gm w c m) : Sk w w0 gr g gm w c m := ⟨h, Kept.refl _ _⟩
theorem Sk.lt (h : Sk wb w0 gr g gm w c m) : g < w.heap.size ∧ gm < w.heap.size := by
  obtain ⟨lo, hi, hc, _⟩ := h.st.cur
  obtain ⟨cx, a1, _⟩ := h.st.cx
  exact ⟨hc.1.lt, blk_lt a1⟩
theorem Sk.cell (h : Sk wb w0 gr g gm w c m) {a : Addr} {v : Value} (hc : wb.cell? a = some v) (h1 : a.block ≠ g) (h2 : a.block ≠ gm) : w.cell? a = some v := cell_kept hc h.kp (fun e => e.elim h1 h2)
theorem Sk.byte (h : Sk wb w0 gr g gm w c m) : Calls Try.prog 41 #[.pointer (some ⟨g, 0, none⟩)] w fun en w' => en = .returned (.int .u8 c.byteV) ∧ Sk wb w0 gr g gm w' c.byteS m := by
  obtain ⟨lo, hi, hc, s1, s2⟩ := h.st.cur
  refine (p_byte hc).mono ?_
  rintro en w' ⟨rfl, b1, b2⟩
  exact ⟨rfl, h.upd b2 ⟨lo, hi, b1, s1, s2⟩⟩
theorem Sk.words (h : Sk wb w0 gr g gm w c m) (n : Int) : Calls Try.prog 43 #[.pointer (some ⟨g, 0, none⟩), .int .i64 n] w fun en w' => ∃ A' c', en = .returned (.slice A' (c.wordsV n).length c') ∧ (c.wordsV n).length ≤ c' ∧ (∀ W', Kept w' W' (fun k => k = g ∨ k = gm ∨ k = gr) → Kd.C (Kd.int .u16) W' A' (c.wordsV n).length (c.wordsV n)) ∧ Sk wb w0 gr g gm w' (c.wordsS n) m := by
  obtain ⟨cx, a1, a2⟩ := h.st.cx
  have lm := blk_lt a1
  have lr := blk_lt h.st.res
  obtain ⟨lo, hi, hc, s1, s2⟩ := h.st.cur
  refine (p_words hc n).mono ?_
  rintro en w' ⟨A', c', rfl, b1, b2, b3, b4⟩
  refine ⟨A', c', rfl, b1, fun W' hk => (b2.on (hk.mono fun j hj => ?_)).now, h.upd b4 ⟨lo, hi, b3, s1, s2⟩⟩
  have lg := hc.1.lt
  rcases hj with rfl | rfl | rfl <;> exact .inl (by omega)
theorem Sk.word (h : Sk wb w0 gr g gm w c m) : Calls Try.prog 37 #[.pointer (some ⟨g, 0, none⟩)] w fun en w' => en = .returned (.int .u16 c.wordV) ∧ Sk wb w0 gr g gm w' c.wordS m := by
  obtain ⟨lo, hi, hc, s1, s2⟩ := h.st.cur
  refine (p_word hc).mono ?_
  rintro en w' ⟨rfl, b1, b2⟩
  exact ⟨rfl, h.upd b2 ⟨lo, hi, b1, s1, s2⟩⟩
theorem Sk.need (h : Sk wb w0 gr g gm w c m) (ok : Bool) (f : Int) : Calls Try.prog 42 #[.pointer (some ⟨g, 0, none⟩), .bool ok, .int .i64 f] w fun en w' => en = .returned (.tuple #[]) ∧ Sk wb w0 gr g gm w' (c.need ok f) m := by
  obtain ⟨lo, hi, hc, s1, s2⟩ := h.st.cur
  refine (p_need hc ok f).mono ?_
  rintro en w' ⟨rfl, b1, b2⟩
  exact ⟨rfl, h.upd b2 ⟨lo, hi, b1, s1, s2⟩⟩
theorem Sk.putk (h : Sk wb w0 gr g gm w c m) (i : Nat) (v : Value) : Kept wb (w.setCell ⟨gm, i, none⟩ v) (fun k => k = g ∨ k = gm) := h.kp.setCell (p := ⟨gm, i, none⟩) (.inl (.inr rfl)) v
theorem Sk.put_addr (h : Sk wb w0 gr g gm w c m) {v : Int} (hv : 0 ≤ v ∧ v < 65536) : Sk wb w0 gr g gm (w.setCell ⟨gm, 2, none⟩ (.int .u16 v)) c { m with addr := v } := ⟨h.st.put_addr hv, h.putk _ _⟩
theorem Sk.put_count (h : Sk wb w0 gr g gm w c m) {v : Int} (hv : 0 ≤ v ∧ v < 65536) : Sk wb w0 gr g gm (w.setCell ⟨gm, 3, none⟩ (.int .u16 v)) c { m with count := v } := ⟨h.st.put_count hv, h.putk _ _⟩
theorem Sk.put_value (h : Sk wb w0 gr g gm w c m) {v : Int} (hv : 0 ≤ v ∧ v < 65536) : Sk wb w0 gr g gm (w.setCell ⟨gm, 4, none⟩ (.int .u16 v)) c { m with value := v } := ⟨h.st.put_value hv, h.putk _ _⟩
theorem Sk.put_and (h : Sk wb w0 gr g gm w c m) {v : Int} (hv : 0 ≤ v ∧ v < 65536) : Sk wb w0 gr g gm (w.setCell ⟨gm, 5, none⟩ (.int .u16 v)) c { m with and_ := v } := ⟨h.st.put_and hv, h.putk _ _⟩
theorem Sk.put_or (h : Sk wb w0 gr g gm w c m) {v : Int} (hv : 0 ≤ v ∧ v < 65536) : Sk wb w0 gr g gm (w.setCell ⟨gm, 6, none⟩ (.int .u16 v)) c { m with or_ := v } := ⟨h.st.put_or hv, h.putk _ _⟩
theorem Sk.put_addr2 (h : Sk wb w0 gr g gm w c m) {v : Int} (hv : 0 ≤ v ∧ v < 65536) : Sk wb w0 gr g gm (w.setCell ⟨gm, 7, none⟩ (.int .u16 v)) c { m with addr2 := v } := ⟨h.st.put_addr2 hv, h.putk _ _⟩
theorem Sk.put_words (h : Sk wb w0 gr g gm w c m) {A : Option Addr} {n : Nat} {l : List Int} (hn : l.length ≤ n) (hg : ∀ x ∈ l, 0 ≤ x ∧ x < 65536) (hr : ∀ W', Kept w W' (fun k => k = g ∨ k = gm ∨ k = gr) → Kd.C (Kd.int .u16) W' A l.length l) : Sk wb w0 gr g gm (w.setCell ⟨gm, 12, none⟩ (.slice A l.length n)) c { m with words := l } := ⟨h.st.put_words hn hg hr, h.putk _ _⟩
theorem Sk.at_addr (h : Sk wb w0 gr g gm w c m) : w.cell? ⟨gm, 2, none⟩ = some (.int .u16 m.addr) ∧ w.frozen? ⟨gm, 2, none⟩ = false := h.st.at_addr
theorem Sk.at_count (h : Sk wb w0 gr g gm w c m) : w.cell? ⟨gm, 3, none⟩ = some (.int .u16 m.count) ∧ w.frozen? ⟨gm, 3, none⟩ = false := h.st.at_count
theorem Sk.at_value (h : Sk wb w0 gr g gm w c m) : w.cell? ⟨gm, 4, none⟩ = some (.int .u16 m.value) ∧ w.frozen? ⟨gm, 4, none⟩ = false := h.st.at_value
theorem Sk.at_and (h : Sk wb w0 gr g gm w c m) : w.cell? ⟨gm, 5, none⟩ = some (.int .u16 m.and_) ∧ w.frozen? ⟨gm, 5, none⟩ = false := h.st.at_and
theorem Sk.at_or (h : Sk wb w0 gr g gm w c m) : w.cell? ⟨gm, 6, none⟩ = some (.int .u16 m.or_) ∧ w.frozen? ⟨gm, 6, none⟩ = false := h.st.at_or
theorem Sk.at_addr2 (h : Sk wb w0 gr g gm w c m) : w.cell? ⟨gm, 7, none⟩ = some (.int .u16 m.addr2) ∧ w.frozen? ⟨gm, 7, none⟩ = false := h.st.at_addr2
theorem Sk.at_words (h : Sk wb w0 gr g gm w c m) : ∃ A n, w.cell? ⟨gm, 12, none⟩ = some (.slice A m.words.length n) ∧ w.frozen? ⟨gm, 12, none⟩ = false := h.st.at_words
end
end Go.Proofs.Ytmglilncdffbkaa.PS
end
section
namespace Go.Proofs.Ytmglilncdffbkaa.Cu
open Go.RowKit Go.Proofs.Ytmglilncdffbkaa.E Go.Proofs.Ytmglilncdffbkaa.Cur Go.Proofs.YtmglilncdffbkaaW.PrintWords Go.Proofs.YtmglilncdffbkaaW.PrintLast Go.Proofs.YtmglilncdffbkaaW.PrintMore
def cu (l : List Int) : Cu := ⟨l, false, 0⟩
theorem need_true (c : Cu) (f : Int) : c.need true f = c := by unfold Cu.need; simp
theorem need_dead {c : Cu} (h : c.e ≠ 0) (ok : Bool) (f : Int) : c.need ok f = c := by
  unfold Cu.need
  rw [if_neg (fun hh => h hh.1)]
theorem bytesS_dead {c : Cu} (h : c.e ≠ 0) (n : Int) : (c.bytesS n).e = c.e := by
  unfold Cu.bytesS
  split
  · rfl
  · simp only [Cu.fail, fstE]
    rw [if_neg h]
theorem need_ok {c : Cu} {ok : Bool} {f : Int} (hf : f ≠ 0) (h : (c.need ok f).e = 0) : c.e = 0 ∧ ok = true ∧ c.need ok f = c := by
  cases ok with
  | true => rw [need_true] at h ⊢; exact ⟨h, rfl, rfl⟩
  | false =>
    by_cases he : c.e = 0
    · exfalso
      unfold Cu.need at h
      rw [if_pos ⟨he, rfl⟩] at h
      exact hf h
    · rw [need_dead he] at h
      exact absurd h he
theorem need_ok' {xs : List Int} {ok : Bool} {f : Int} (h : ((cu xs).need ok f).e = 0) : (cu xs).need ok f = cu xs := by
  cases ok with
  | true => exact need_true _ _
  | false =>
    unfold Cu.need cu at h ⊢
    simp only [and_self, if_true] at h ⊢
    rw [h]
theorem bytes_ok {c : Cu} {n : Int} (h : (c.bytesS n).e = 0) : c.e = 0 ∧ c.s = false ∧ 0 ≤ n ∧ n ≤ (c.xs.length : Int) ∧ c.bytesS n = cu (c.xs.drop n.toNat) ∧ c.bytesV n = c.xs.take n.toNat := by
  have he : c.e = 0 := by
    by_cases he : c.e = 0
    · exact he
    · rw [bytesS_dead he] at h; exact h
  by_cases hk : c.okB n = true
  · obtain ⟨h1, h2, h3⟩ := (Cu.okB_iff c n).1 hk
    refine ⟨he, h1, h2, h3, ?_, ?_⟩
    · unfold Cu.bytesS cu; rw [if_pos hk, h1, he]
    · unfold Cu.bytesV; rw [if_pos hk]
  · exfalso
    unfold Cu.bytesS at h
    rw [if_neg hk] at h
    simp only [Cu.fail, fstE] at h
    rw [if_pos he] at h
    exact absurd h (by decide)
theorem byte_ok {c : Cu} (h : c.byteS.e = 0) : c.e = 0 ∧ c.s = false ∧ ∃ t, c.xs = c.byteV :: t ∧ c.byteS = cu t := by
  obtain ⟨h1, h2, h3, h4, h5, h6⟩ := bytes_ok (n := 1) h
  cases hx : c.xs with
  | nil => rw [hx] at h4; simp at h4
  | cons x t =>
    refine ⟨h1, h2, t, ?_, ?_⟩
    · unfold Cu.byteV; rw [h6, hx]; rfl
    · show c.bytesS 1 = _
      rw [h5, hx]; rfl
theorem fin_ok {c : Cu} (h : c.fin.e = 0) : c.e = 0 ∧ c.xs = [] := by
  obtain ⟨h1, h2, h3⟩ := need_ok (by decide) h
  exact ⟨h1, by simpa using h2⟩
theorem okB_cu (l : List Int) (n : Nat) (h : n ≤ l.length) : (cu l).okB (n : Int) = true := by
  rw [Cu.okB_iff]
  exact ⟨rfl, by omega, by show (n : Int) ≤ (l.length : Int); omega⟩
theorem bytesV_app (u t : List Int) {n : Int} (hn : n = (u.length : Int)) : (cu (u ++ t)).bytesV n = u := by
  subst hn
  unfold Cu.bytesV
  rw [if_pos (okB_cu _ _ (by simp))]
  show (u ++ t).take (u.length : Int).toNat = u
  simp
theorem bytesS_app (u t : List Int) {n : Int} (hn : n = (u.length : Int)) : (cu (u ++ t)).bytesS n = cu t := by
  subst hn
  unfold Cu.bytesS
  rw [if_pos (okB_cu _ _ (by simp))]
  show (⟨(u ++ t).drop (u.length : Int).toNat, _, _⟩ : Cu) = _
  simp [cu]
theorem bytesS_cut {l : List Int} {n : Int} (h : (l.length : Int) < n ∨ n < 0) : ((cu l).bytesS n).e = 2 := by
  unfold Cu.bytesS
  have hk : ¬ (cu l).okB n = true := fun hk => by
    obtain ⟨_, h2, h3⟩ := (Cu.okB_iff _ _).1 hk
    have h3 : n ≤ (l.length : Int) := h3
    omega
  rw [if_neg hk]
  rfl
theorem byteV_cons (x : Int) (t : List Int) : (cu (x :: t)).byteV = x := by
  show ((cu ([x] ++ t)).bytesV 1).headD 0 = x
  have h := bytesV_app [x] t (n := 1) rfl
  rw [h]
  rfl
theorem byteS_cons (x : Int) (t : List Int) : (cu (x :: t)).byteS = cu t := bytesS_app [x] t rfl
section
variable {α β : Type}
def Rd.ret (a : α) : (Cu → Cu × α) := fun c => (c, a)
def Rd.bind (r : (Cu → Cu × α)) (f : α → (Cu → Cu × β)) : (Cu → Cu × β) := fun c => f (r c).2 (r c).1
def Rd.byte : (Cu → Cu × Int) := fun c => (c.byteS, c.byteV)
def Rd.need (ok : Bool) (f : Int) : (Cu → Cu × Unit) := fun c => (c.need ok f, ())
structure Cl (r : (Cu → Cu × α)) : Prop where
  dead : ∀ c : Cu, c.e ≠ 0 → (r c).1.e = c.e
  ok : ∀ xs : List Int, (r (cu xs)).1.e = 0 → ∃ u t, xs = u ++ t ∧ (∀ t', r (cu (u ++ t')) = (cu t', (r (cu xs)).2)) ∧ ∀ k, k < u.length → (r (cu (u.take k))).1.e = 2
theorem Cl.ret (a : α) : Cl (Rd.ret a) := ⟨fun _ _ => rfl, fun xs _ => ⟨[], xs, rfl, fun _ => rfl, fun k hk => absurd hk (Nat.not_lt_zero k)⟩⟩
theorem Cl.need (ok : Bool) (f : Int) : Cl (Rd.need ok f) := by
  refine ⟨fun c h => by show (c.need ok f).e = c.e; rw [need_dead h], fun xs h => ⟨[], xs, rfl, fun t => ?_, fun k hk => absurd hk (Nat.not_lt_zero k)⟩⟩
  have e := need_ok' (xs := xs) h
  show ((cu t).need ok f, ()) = _
  cases ok with
  | true => rw [need_true]
  | false =>
    have hf : f = 0 := by
      have h : ((cu xs).need false f).e = 0 := h
      unfold Cu.need cu at h
      simpa using h
    subst hf
    first | rfl | done
theorem Cl.byte : Cl Rd.byte := by
  refine ⟨fun c h => bytesS_dead h 1, fun xs h => ?_⟩
  obtain ⟨h1, h2, t, h3, h4⟩ := byte_ok (c := cu xs) h
  have h3 : xs = (cu xs).byteV :: t := h3
  refine ⟨[(cu xs).byteV], t, h3, fun t' => ?_, fun k hk => ?_⟩
  · show ((cu ((cu xs).byteV :: t')).byteS, (cu ((cu xs).byteV :: t')).byteV) = (cu t', (cu xs).byteV)
    rw [byteS_cons, byteV_cons]
  · have : k = 0 := by simpa using hk
    subst this
    exact bytesS_cut (n := 1) (.inl (by simp))
end
def Dd {α : Type} (r : (Cu → Cu × α)) : Prop := ∀ c : Cu, c.e ≠ 0 → (r c).1.e = c.e
section
variable {α β : Type} {f : α → (Cu → Cu × β)}
theorem Dd.bind {r : (Cu → Cu × α)} (hr : Dd r) (hf : ∀ a, Dd (f a)) : Dd (Rd.bind r f) := fun c h => by
  have h1 := hr c h
  show (f (r c).2 (r c).1).1.e = c.e
  rw [hf _ _ (by rw [h1]; exact h), h1]
theorem byte_inv {f : Int → (Cu → Cu × β)} {l : List Int} (hf : ∀ a, Dd (f a)) (h : (Rd.bind Rd.byte f (cu l)).1.e = 0) : ∃ x t, l = x :: t ∧ Rd.bind Rd.byte f (cu l) = f x (cu t) := by
  have h : (f (cu l).byteV (cu l).byteS).1.e = 0 := h
  have h1 : (cu l).byteS.e = 0 := by
    by_cases h1 : (cu l).byteS.e = 0
    · exact h1
    · rw [hf _ _ h1] at h; exact h
  obtain ⟨_, _, t, h2, h3⟩ := byte_ok h1
  refine ⟨_, t, h2, ?_⟩
  show f (cu l).byteV (cu l).byteS = _
  rw [h3]
theorem need_inv {f : Unit → (Cu → Cu × β)} {l : List Int} {ok : Bool} {e : Int} (he : e ≠ 0) (hf : ∀ a, Dd (f a)) (h : (Rd.bind (Rd.need ok e) f (cu l)).1.e = 0) : ok = true ∧ Rd.bind (Rd.need ok e) f (cu l) = f () (cu l) := by
  have h : (f () ((cu l).need ok e)).1.e = 0 := h
  have h1 : ((cu l).need ok e).e = 0 := by
    by_cases h1 : ((cu l).need ok e).e = 0
    · exact h1
    · rw [hf _ _ h1] at h; exact h
  obtain ⟨_, h2, h3⟩ := need_ok he h1
  refine ⟨h2, ?_⟩
  show f () ((cu l).need ok e) = _
  rw [h3]
theorem byte_run (f : Int → (Cu → Cu × β)) (x : Int) (t : List Int) : Rd.bind Rd.byte f (cu (x :: t)) = f x (cu t) := by
  show f (cu (x :: t)).byteV (cu (x :: t)).byteS = _
  rw [byteV_cons, byteS_cons]
theorem need_run (f : Unit → (Cu → Cu × β)) {ok : Bool} (h : ok = true) (e : Int) (c : Cu) : Rd.bind (Rd.need ok e) f c = f () c := by
  show f () (c.need ok e) = _
  rw [h, need_true]
theorem Dd.byte : Dd Rd.byte := Cl.byte.dead
theorem Dd.need (ok : Bool) (e : Int) : Dd (Rd.need ok e) := (Cl.need ok e).dead
theorem Dd.ret (a : α) : Dd (Rd.ret a) := (Cl.ret a).dead
end
def Rd.words (n : Int) : (Cu → Cu × (List Int)) := fun c => (c.wordsS n, c.wordsV n)
theorem wordsS_dead {c : Cu} (h : c.e ≠ 0) (n : Int) : (c.wordsS n).e = c.e := by
  unfold Cu.wordsS
  split
  · rfl
  · simp only [Cu.fail, fstE]
    rw [if_neg h]
theorem words_ok {c : Cu} {n : Int} (h : (c.wordsS n).e = 0) : c.e = 0 ∧ c.s = false ∧ 0 ≤ n ∧ 2 * n ≤ (c.xs.length : Int) ∧ c.wordsS n = cu (c.xs.drop (2 * n.toNat)) ∧ c.wordsV n = Take.words (c.xs.take (2 * n.toNat)) := by
  have he : c.e = 0 := by
    by_cases he : c.e = 0
    · exact he
    · rw [wordsS_dead he] at h; exact h
  by_cases hk : c.okW n = true
  · obtain ⟨h1, h2, h3⟩ := (Cu.okW_iff c n).1 hk
    refine ⟨he, h1, h2, h3, ?_, ?_⟩
    · unfold Cu.wordsS cu; rw [if_pos hk, h1, he]
    · unfold Cu.wordsV; rw [if_pos hk]
  · exfalso
    unfold Cu.wordsS at h
    rw [if_neg hk] at h
    simp only [Cu.fail, fstE] at h
    rw [if_pos he] at h
    exact absurd h (by decide)
theorem okW_cu (l : List Int) (n : Nat) (h : 2 * n ≤ l.length) : (cu l).okW (n : Int) = true := by
  rw [Cu.okW_iff]
  exact ⟨rfl, by omega, by show 2 * (n : Int) ≤ (l.length : Int); omega⟩
theorem wordsV_app (u t : List Int) {n : Int} (hn : 2 * n = (u.length : Int)) : (cu (u ++ t)).wordsV n = Take.words u := by
  obtain ⟨m, rfl⟩ := Int.eq_ofNat_of_zero_le (show 0 ≤ n by omega)
  unfold Cu.wordsV
  rw [if_pos (okW_cu _ _ (by rw [List.length_append]; omega))]
  show Take.words ((u ++ t).take (2 * (m : Int).toNat)) = _
  rw [show 2 * (m : Int).toNat = u.length by omega]
  simp
theorem wordsS_app (u t : List Int) {n : Int} (hn : 2 * n = (u.length : Int)) : (cu (u ++ t)).wordsS n = cu t := by
  obtain ⟨m, rfl⟩ := Int.eq_ofNat_of_zero_le (show 0 ≤ n by omega)
  unfold Cu.wordsS
  rw [if_pos (okW_cu _ _ (by rw [List.length_append]; omega))]
  show (⟨(u ++ t).drop (2 * (m : Int).toNat), _, _⟩ : Cu) = _
  rw [show 2 * (m : Int).toNat = u.length by omega]
  simp [cu]
theorem wordsS_cut {l : List Int} {n : Int} (h : (l.length : Int) < 2 * n ∨ n < 0) : ((cu l).wordsS n).e = 2 := by
  unfold Cu.wordsS
  have hk : ¬ (cu l).okW n = true := fun hk => by
    obtain ⟨_, h2, h3⟩ := (Cu.okW_iff _ _).1 hk
    have h3 : 2 * n ≤ (l.length : Int) := h3
    omega
  rw [if_neg hk]
  rfl
theorem Cl.words (n : Int) : Cl (Rd.words n) := by
  refine ⟨fun c h => wordsS_dead h n, fun xs h => ?_⟩
  obtain ⟨h1, h2, h3, h4, h5, h6⟩ := words_ok (c := cu xs) h
  have h4 : 2 * n ≤ (xs.length : Int) := h4
  have hl : 2 * n = ((xs.take (2 * n.toNat)).length : Int) := by rw [List.length_take]; omega
  refine ⟨xs.take (2 * n.toNat), xs.drop (2 * n.toNat), (List.take_append_drop _ _).symm, fun t => ?_, fun k hk => ?_⟩
  · show ((cu (xs.take (2 * n.toNat) ++ t)).wordsS n, (cu (xs.take (2 * n.toNat) ++ t)).wordsV n) = (cu t, (cu xs).wordsV n)
    rw [wordsS_app _ _ hl, wordsV_app _ _ hl, h6]
    rfl
  · refine wordsS_cut (.inl ?_)
    rw [List.length_take]
    omega
theorem words_inv {β : Type} {f : List Int → (Cu → Cu × β)} {l : List Int} {n : Int} (hf : ∀ a, Dd (f a)) (h : (Rd.bind (Rd.words n) f (cu l)).1.e = 0) : 0 ≤ n ∧ 2 * n ≤ (l.length : Int) ∧ Rd.bind (Rd.words n) f (cu l) = f (Take.words (l.take (2 * n.toNat))) (cu (l.drop (2 * n.toNat))) := by
  have h : (f ((cu l).wordsV n) ((cu l).wordsS n)).1.e = 0 := h
  have h1 : ((cu l).wordsS n).e = 0 := by
    by_cases h1 : ((cu l).wordsS n).e = 0
    · exact h1
    · rw [hf _ _ h1] at h; exact h
  obtain ⟨_, _, h2, h3, h4, h5⟩ := words_ok h1
  refine ⟨h2, h3, ?_⟩
  show f ((cu l).wordsV n) ((cu l).wordsS n) = _
  rw [h4, h5]
  rfl
theorem words_run {β : Type} (f : List Int → (Cu → Cu × β)) (u t : List Int) {n : Int} (hn : 2 * n = (u.length : Int)) : Rd.bind (Rd.words n) f (cu (u ++ t)) = f (Take.words u) (cu t) := by
  show f ((cu (u ++ t)).wordsV n) ((cu (u ++ t)).wordsS n) = _
  rw [wordsV_app _ _ hn, wordsS_app _ _ hn]
theorem Dd.words (n : Int) : Dd (Rd.words n) := (Cl.words n).dead
def Rd.word : (Cu → Cu × Int) := fun c => (c.wordS, c.wordV)
theorem two_words (a b : Int) : (Take.words [a, b]).headD 0 = a * 256 + b := by
  simp [Take.words, Take.pre, Take.wordAt, List.range_succ]
theorem wordV_cons (a b : Int) (t : List Int) : (cu (a :: b :: t)).wordV = a * 256 + b := by
  show ((cu ([a, b] ++ t)).wordsV 1).headD 0 = _
  rw [wordsV_app [a, b] t (n := 1) (by simp)]
  exact two_words a b
theorem wordS_cons (a b : Int) (t : List Int) : (cu (a :: b :: t)).wordS = cu t := wordsS_app [a, b] t (n := 1) (by simp)
theorem word_ok {c : Cu} (h : c.wordS.e = 0) : c.e = 0 ∧ c.s = false ∧ ∃ a b t, c.xs = a :: b :: t ∧ c.wordS = cu t ∧ c.wordV = a * 256 + b := by
  obtain ⟨h1, h2, h3, h4, h5, h6⟩ := words_ok (n := 1) h
  cases hx : c.xs with
  | nil => rw [hx] at h4; simp at h4
  | cons a t =>
  cases ht : t with
  | nil => rw [hx, ht] at h4; simp at h4
  | cons b r =>
    refine ⟨h1, h2, a, b, r, rfl, ?_, ?_⟩
    · show c.wordsS 1 = _
      rw [h5, hx, ht]; rfl
    · show (c.wordsV 1).headD 0 = _
      rw [h6, hx, ht]; exact two_words a b
theorem Cl.word : Cl Rd.word := by
  refine ⟨fun c h => wordsS_dead h 1, fun xs h => ?_⟩
  obtain ⟨h1, h2, a, b, t, h3, h4, h5⟩ := word_ok (c := cu xs) h
  have h3 : xs = a :: b :: t := h3
  refine ⟨[a, b], t, h3, fun t' => ?_, fun k hk => ?_⟩
  · show ((cu (a :: b :: t')).wordS, (cu (a :: b :: t')).wordV) = (cu t', (cu xs).wordV)
    rw [wordS_cons, wordV_cons, h5]
  · refine wordsS_cut (n := 1) (.inl ?_)
    rw [List.length_take]
    simp only [List.length_cons, List.length_nil] at hk ⊢
    omega
theorem Dd.word : Dd Rd.word := Cl.word.dead
theorem word_inv {β : Type} {f : Int → (Cu → Cu × β)} {l : List Int} (hf : ∀ a, Dd (f a)) (h : (Rd.bind Rd.word f (cu l)).1.e = 0) : ∃ a b t, l = a :: b :: t ∧ Rd.bind Rd.word f (cu l) = f (a * 256 + b) (cu t) := by
  have h : (f (cu l).wordV (cu l).wordS).1.e = 0 := h
  have h1 : (cu l).wordS.e = 0 := by
    by_cases h1 : (cu l).wordS.e = 0
    · exact h1
    · rw [hf _ _ h1] at h; exact h
  obtain ⟨_, _, a, b, t, h2, h3, h4⟩ := word_ok h1
  refine ⟨a, b, t, h2, ?_⟩
  show f (cu l).wordV (cu l).wordS = _
  rw [h3, h4]
theorem word_run {β : Type} (f : Int → (Cu → Cu × β)) {v : Int} (hv : 0 ≤ v ∧ v < 65536) (t : List Int) : Rd.bind Rd.word f (cu ((v / 256) % 256 :: v % 256 :: t)) = f v (cu t) := by
  show f (cu ((v / 256) % 256 :: v % 256 :: t)).wordV (cu ((v / 256) % 256 :: v % 256 :: t)).wordS = _
  rw [wordV_cons, wordS_cons, show v / 256 % 256 * 256 + v % 256 = v by omega]
end Go.Proofs.Ytmglilncdffbkaa.Cu
end
section
namespace Go.Proofs.Ytmglilncdffbkaa.P
open Go.RowKit Go.Proofs.YtmglilncdffbkaaW.PrintWords Go.Proofs.YtmglilncdffbkaaW.PrintLast Go.Proofs.YtmglilncdffbkaaW.PrintMore
attribute [local go_sem] max2_int min2_int max_two min_two max_three min_three max_four min_four   -- for this text's walks alone
def word_Within.f (a0 : Int) (a1 : Int) : Option (Bool) := if a1 > 0 then (some (decide (a1 ≤ (wrap64 (65536 - (wrap64 (a0))))))) else (some false)
theorem word_Within.calls (a0 : Int) (a1 : Int) (r : Bool) (w : World) (h : word_Within.f a0 a1 = some r) :
    Calls Try.prog 64 #[.int .u16 a0, .int .i64 a1] w fun e w' => e = .returned (.bool r) ∧ Drawn0 w w' := by
  have H : (if a1 > 0 then (some (decide (a1 ≤ (wrap64 (65536 - (wrap64 (a0))))))) else (some false)) = some r := h
  clear h
  by_cases c3 : a1 > 0
  · rw [if_pos c3] at H
    have c3b0 : decide (0 < a1) = true := decide_eq_true c3
    clear c3
    obtain rfl := Option.some.inj H
    go_enter Try.func64, Try.ntmps64
    go_wp2
    go_ret
    exact ⟨by first | rfl | (simp; done) | (simp [*]; done), by repeat (first | exact Drawn0.refl _ | apply Drawn0.step)⟩
  · rw [if_neg c3] at H
    have c3b0 : decide (0 < a1) = false := decide_eq_false c3
    clear c3
    obtain rfl := Option.some.inj H
    go_enter Try.func64, Try.ntmps64
    go_wp2
    go_ret
    exact ⟨by first | rfl | (simp; done) | (simp [*]; done), by repeat (first | exact Drawn0.refl _ | apply Drawn0.step)⟩
end Go.Proofs.Ytmglilncdffbkaa.P
end
section
namespace Go.Proofs.Ytmglilncdffbkaa.P
open Go.RowKit Go.Proofs.YtmglilncdffbkaaW.PrintWords Go.Proofs.YtmglilncdffbkaaW.PrintLast Go.Proofs.YtmglilncdffbkaaW.PrintMore
attribute [local go_sem] max2_int min2_int max_two min_two max_three min_three max_four min_four   -- for this text's walks alone
end Go.Proofs.Ytmglilncdffbkaa.P
end
section
namespace Go.Proofs.Ytmglilncdffbkaa
open Go.RowKit Go.Proofs.YtmglilncdffbkaaW.PrintWords Go.Proofs.YtmglilncdffbkaaW.PrintLast Go.Proofs.YtmglilncdffbkaaW.PrintMore
section
variable {P : Program} {ops : Array Oper} {Q : Exit → Act → World → Prop} {md : Region.Mode} {S : World → Prop} {ds : List Nat} {T : Bool × List (List Nat × List Nat)} {B : List Nat} {oi : Oper} {v : Value} {fuel : Nat} {l : Array Bool} {a a' : Act} {w : World}
theorem pu_ (i : Nat) (N : Option Tmp) (l' : Array Bool) (hT : Aside0 (rtab md ops = T)) (hc : anyT T l.toList l'.toList i = true) (hi : ops[i]? = some oi) (hN : oi.dst = N) (hQ : ∀ c a w, Q (.panic c) (a.put oi.dst v) w → Q (.panic c) a w) (hg : Region.wanted oi (yielded ops a.tmps) = true) (hy : ∀ w, (execOp a.eval oi).run P w = .ok (.value v) w) (ha : a.put N v = a') (h : wpAnyLast P md ops Q S ds fuel l' a' w) : wpAnyLast P md ops Q S ds (fuel + 1) l a w :=
  pure_ l' hi hN (any_of hT.out hc) hQ (Or.inl ⟨hg, hy⟩) ha h
theorem po_ (i : Nat) (N : Option Tmp) (l' : Array Bool) (hT : Aside0 (rtab md ops = T)) (hc : anyT T l.toList l'.toList i = true) (hi : ops[i]? = some oi) (hN : oi.dst = N) (hQ : ∀ c a w, Q (.panic c) (a.put oi.dst undef) w → Q (.panic c) a w) (hg : Region.wanted oi (yielded ops a.tmps) = false) (ha : a.put N undef = a') (h : wpAnyLast P md ops Q S ds fuel l' a' w) : wpAnyLast P md ops Q S ds (fuel + 1) l a w :=
  pure_ l' hi hN (any_of hT.out hc) hQ (Or.inr ⟨hg, rfl⟩) ha h
theorem tk_ (i : Nat) (N : Option Tmp) (l' : Array Bool) (hT : Aside0 (rtab md ops = T)) (hW : Aside0 (waitsOk T.2 B = true)) (hS : S w) (hc : takeW T B ds l.toList l'.toList i = true) (hi : ops[i]? = some oi) (hN : oi.dst = N) (hQ : ∀ c a w, Q (.panic c) (a.put oi.dst v) w → Q (.panic c) a w) (hg : Region.wanted oi (yielded ops a.tmps) = true) (hy : ∀ w, S w → (execOp a.eval oi).run P w = .ok (.value v) w) (ha : a.put N v = a') (h : wpAnyLast P md ops Q S ds fuel l' a' w) : wpAnyLast P md ops Q S ds (fuel + 1) l a w :=
  take_ l' hi hN (take_ofW hT.out hW.out hc) hQ (Or.inl ⟨hg, hy⟩) hS ha h
end
end Go.Proofs.Ytmglilncdffbkaa
end
section
namespace Go.Proofs.Ytmglilncdffbkaa.Reg
open Go.RowKit Go.Proofs.Ytmglilncdffbkaa.P Go.Proofs.Ytmglilncdffbkaa.E Go.Proofs.Ytmglilncdffbkaa.Cur Go.Proofs.Ytmglilncdffbkaa.Cu Go.Proofs.Ytmglilncdffbkaa.Same Go.Proofs.YtmglilncdffbkaaW.PrintWords Go.Proofs.YtmglilncdffbkaaW.PrintLast Go.Proofs.YtmglilncdffbkaaW.PrintMore
def withinB (a k : Int) : Bool := decide (0 < k) && decide (k ≤ 65536 - a)
def spanR (most a : Int) : (Cu → Cu × Int) := Rd.bind Rd.word fun n => Rd.bind (Rd.need (decide (1 ≤ n) && decide (n ≤ most)) 5) fun _ => Rd.bind (Rd.need (withinB a n) 7) fun _ => Rd.ret n
def countR (n : Int) : (Cu → Cu × (List Int)) := Rd.bind Rd.byte fun b => Rd.bind (Rd.need (b == 2 * n) 5) fun _ => Rd.words n
def whereR (most : Int) (m : Msg) : (Cu → Cu × Msg) := Rd.bind Rd.word fun a => Rd.bind (spanR most a) fun n => Rd.ret { m with addr := a, count := n }
def toldR (m : Msg) : (Cu → Cu × Msg) := Rd.bind Rd.byte fun n => Rd.bind (Rd.need (n % 2 == 0 && (decide (2 ≤ n) && decide (n ≤ 250))) 5) fun _ => Rd.bind (Rd.words (n / 2)) fun l => Rd.ret { m with words := l }
def oneR (m : Msg) : (Cu → Cu × Msg) := Rd.bind Rd.word fun a => Rd.bind Rd.word fun v => Rd.ret { m with addr := a, value := v }
def manyK (m1 : Msg) : (Cu → Cu × Msg) := Rd.bind (countR m1.count) fun l => Rd.ret { m1 with words := l }
def manyR (m : Msg) : (Cu → Cu × Msg) := Rd.bind (whereR 123 m) manyK
def maskR (m : Msg) : (Cu → Cu × Msg) := Rd.bind Rd.word fun a => Rd.bind Rd.word fun x => Rd.bind Rd.word fun y => Rd.ret { m with addr := a, and_ := x, or_ := y }
def bothK (m1 : Msg) : (Cu → Cu × Msg) := Rd.bind Rd.word fun a => Rd.bind (spanR 121 a) fun n => Rd.bind (countR n) fun l => Rd.ret { m1 with addr2 := a, words := l }
def bothR (m : Msg) : (Cu → Cu × Msg) := Rd.bind (whereR 125 m) bothK
def placeR (m : Msg) : (Cu → Cu × Msg) := Rd.bind Rd.word fun a => Rd.ret { m with addr := a }
def queueR (m : Msg) : (Cu → Cu × Msg) := Rd.bind Rd.word fun n => Rd.bind (Rd.need (n % 2 == 0 && (decide (2 ≤ n) && decide (n ≤ 64))) 5) fun _ => Rd.bind Rd.word fun k => Rd.bind (Rd.need (2 + 2 * k == n) 5) fun _ => Rd.bind (Rd.words k) fun l => Rd.ret { m with words := l }
def isCode (code : Int) : Prop := code = 3 ∨ code = 4 ∨ code = 6 ∨ code = 16 ∨ code = 22 ∨ code = 23 ∨ code = 24
instance (code : Int) : Decidable (isCode code) := by unfold isCode; infer_instance
def bodyR (dir : Int) (m : Msg) : (Cu → Cu × Msg) :=
  if m.code = 3 ∨ m.code = 4 then (if dir = 0 then whereR 125 m else toldR m) else if m.code = 6 then oneR m else if m.code = 16 then (if dir = 0 then manyR m else whereR 123 m) else if m.code = 22 then maskR m else
  if m.code = 23 then (if dir = 0 then bothR m else toldR m) else if dir = 0 then placeR m else queueR m
def parse (dir code : Int) (bs : List Int) : Msg × Int :=
  if dir ≠ 0 ∧ dir ≠ 1 then (zeroM, 1) else if ¬ isCode code then (zeroM, 4) else
  if (bodyR dir { zeroM with code := code } (cu bs)).1.fin.e ≠ 0 then (zeroM, (bodyR dir { zeroM with code := code } (cu bs)).1.fin.e) else ((bodyR dir { zeroM with code := code } (cu bs)).2, 0)
theorem within_c {a k : Int} (ha : 0 ≤ a ∧ a < 65536) (w : World) : Calls Try.prog 64 #[.int .u16 a, .int .i64 k] w fun en w' => en = .returned (.bool (withinB a k)) ∧ Below w.heap.size w w' := by
  have e : word_Within.f a k = some (withinB a k) := by
    unfold word_Within.f withinB
    rw [wrap64_id (x := a) (by omega) (by omega), wrap64_id (by omega) (by omega)]
    by_cases h : k > 0
    · rw [if_pos h, decide_eq_true (show (0 : Int) < k from h), Bool.true_and]
    · rw [if_neg h, decide_eq_false (show ¬ (0 : Int) < k from h), Bool.false_and]
  refine (word_Within.calls _ _ _ w e).mono ?_
  rintro e w' ⟨rfl, n, rfl⟩
  exact ⟨rfl, pw_below_drewN (Below.refl _ _) _⟩
theorem span_1 {wb w0 w : World} {gr g gm : Nat} {c0 : Cu} {m : Msg} (h : PS.Sk wb w0 gr g gm w c0 m) {a most : Int} (ha : 0 ≤ a ∧ a < 65536) (hg : 1 ≤ c0.wordV) :
    Calls Try.prog 38 #[.pointer (some ⟨g, 0, none⟩), .int .u16 a, .int .i64 most] w fun en w' => en = .returned (.int .i64 (spanR most a c0).2) ∧ PS.Sk wb w0 gr g gm w' (spanR most a c0).1 m := by
  have HP := Aside0.mk h
  have HG := Aside0.mk hg
  clear h hg
  go_enter Try.func38, Try.ntmps38
  go_upto_region 2 with (first | (go_at_call 37; obtain ⟨l0, h0⟩ := Cu.wordV_bd (PS.Sk.good HP.out); (with_reducible refine (PS.Sk.word HP.out).mono ?_); rintro en x1 ⟨rfl, hp_⟩; obtain ⟨c1, ec_⟩ : ∃ z, z = c0.wordS := ⟨_, rfl⟩; rw [← ec_] at hp_; have Ec1 := Aside0.mk ec_; clear ec_; have n0_ := Aside0.mk hp_; clear HP hp_; have HP := n0_; clear n0_))
  have wk := wrap64_id (x := c0.wordV) (by omega) (by omega)
  have wkb : IntKind.i64.wrap (c0.wordV) = c0.wordV := by rw [i64_w]; exact wk
  have hge : decide (1 ≤ c0.wordV) = true := decide_eq_true (by have := HG.out; omega)
  have hge2 : decide (c0.wordV ≥ 1) = true := hge
  have EB := Aside0.mk (show (decide (1 ≤ c0.wordV) && decide (c0.wordV ≤ most)) = (decide (c0.wordV ≤ most)) from by rw [hge]; rfl)
  go_upto_region 3 with (first | (go_at_call 42; (with_reducible refine (PS.Sk.need HP.out (decide (c0.wordV ≤ most)) 5).mono ?_); rintro en x2 ⟨rfl, hp_⟩; rw [← EB.out] at hp_; obtain ⟨c2, ec_⟩ : ∃ z, z = c1.need (decide (1 ≤ c0.wordV) && decide (c0.wordV ≤ most)) 5 := ⟨_, rfl⟩; rw [← ec_] at hp_; have Ec2 := Aside0.mk ec_; clear ec_; have n0_ := Aside0.mk hp_; clear HP hp_; have HP := n0_; clear n0_))
  clear hge hge2
  go_wp2_with (first | (go_at_call 64; (with_reducible refine (within_c ha _).mono ?_); rintro en x90 ⟨rfl, hb_⟩; have n0_ := Aside0.mk (PS.Sk.below HP.out hb_); clear HP hb_; have HP := n0_; clear n0_) | (go_at_call 42; (with_reducible refine (PS.Sk.need HP.out (withinB a c0.wordV) 7).mono ?_); rintro en x3 ⟨rfl, hp_⟩; obtain ⟨c3, ec_⟩ : ∃ z, z = c2.need (withinB a c0.wordV) 7 := ⟨_, rfl⟩; rw [← ec_] at hp_; have Ec3 := Aside0.mk ec_; clear ec_; have n0_ := Aside0.mk hp_; clear HP hp_; have HP := n0_; clear n0_))
  go_ret
  have eq_ : spanR most a c0 = (c3, c0.wordV) := by
    rw [Ec3.out, Ec2.out, Ec1.out]
    rfl
  rw [eq_]
  exact ⟨rfl, HP.out⟩
theorem span_0 {wb w0 w : World} {gr g gm : Nat} {c0 : Cu} {m : Msg} (h : PS.Sk wb w0 gr g gm w c0 m) {a most : Int} (ha : 0 ≤ a ∧ a < 65536) (hg : ¬ 1 ≤ c0.wordV) :
    Calls Try.prog 38 #[.pointer (some ⟨g, 0, none⟩), .int .u16 a, .int .i64 most] w fun en w' => en = .returned (.int .i64 (spanR most a c0).2) ∧ PS.Sk wb w0 gr g gm w' (spanR most a c0).1 m := by
  have HP := Aside0.mk h
  have HG := Aside0.mk hg
  clear h hg
  go_enter Try.func38, Try.ntmps38
  go_upto_region 2 with (first | (go_at_call 37; obtain ⟨l0, h0⟩ := Cu.wordV_bd (PS.Sk.good HP.out); (with_reducible refine (PS.Sk.word HP.out).mono ?_); rintro en x1 ⟨rfl, hp_⟩; obtain ⟨c1, ec_⟩ : ∃ z, z = c0.wordS := ⟨_, rfl⟩; rw [← ec_] at hp_; have Ec1 := Aside0.mk ec_; clear ec_; have n0_ := Aside0.mk hp_; clear HP hp_; have HP := n0_; clear n0_))
  have wk := wrap64_id (x := c0.wordV) (by omega) (by omega)
  have wkb : IntKind.i64.wrap (c0.wordV) = c0.wordV := by rw [i64_w]; exact wk
  have hge : decide (1 ≤ c0.wordV) = false := decide_eq_false (by have := HG.out; omega)
  have hge2 : decide (c0.wordV ≥ 1) = false := hge
  have EB := Aside0.mk (show (decide (1 ≤ c0.wordV) && decide (c0.wordV ≤ most)) = (false) from by rw [hge]; rfl)
  go_upto_region 3 with (first | (go_at_call 42; (with_reducible refine (PS.Sk.need HP.out (false) 5).mono ?_); rintro en x2 ⟨rfl, hp_⟩; rw [← EB.out] at hp_; obtain ⟨c2, ec_⟩ : ∃ z, z = c1.need (decide (1 ≤ c0.wordV) && decide (c0.wordV ≤ most)) 5 := ⟨_, rfl⟩; rw [← ec_] at hp_; have Ec2 := Aside0.mk ec_; clear ec_; have n0_ := Aside0.mk hp_; clear HP hp_; have HP := n0_; clear n0_))
  clear hge hge2
  go_wp2_with (first | (go_at_call 64; (with_reducible refine (within_c ha _).mono ?_); rintro en x90 ⟨rfl, hb_⟩; have n0_ := Aside0.mk (PS.Sk.below HP.out hb_); clear HP hb_; have HP := n0_; clear n0_) | (go_at_call 42; (with_reducible refine (PS.Sk.need HP.out (withinB a c0.wordV) 7).mono ?_); rintro en x3 ⟨rfl, hp_⟩; obtain ⟨c3, ec_⟩ : ∃ z, z = c2.need (withinB a c0.wordV) 7 := ⟨_, rfl⟩; rw [← ec_] at hp_; have Ec3 := Aside0.mk ec_; clear ec_; have n0_ := Aside0.mk hp_; clear HP hp_; have HP := n0_; clear n0_))
  go_ret
  have eq_ : spanR most a c0 = (c3, c0.wordV) := by
    rw [Ec3.out, Ec2.out, Ec1.out]
    rfl
  rw [eq_]
  exact ⟨rfl, HP.out⟩
theorem span_any {wb w0 w : World} {gr g gm : Nat} {c0 : Cu} {m : Msg} (h : PS.Sk wb w0 gr g gm w c0 m) {a : Int} (ha : 0 ≤ a ∧ a < 65536) (most : Int) : Calls Try.prog 38 #[.pointer (some ⟨g, 0, none⟩), .int .u16 a, .int .i64 most] w fun en w' => en = .returned (.int .i64 (spanR most a c0).2) ∧ PS.Sk wb w0 gr g gm w' (spanR most a c0).1 m := by
  by_cases hg : 1 ≤ c0.wordV
  · exact span_1 h ha hg
  · exact span_0 h ha hg
theorem spanR_bd {c : Cu} (h : c.good) (most a : Int) : 0 ≤ (spanR most a c).2 ∧ (spanR most a c).2 < 65536 := Cu.wordV_bd h
theorem counted_any {wb w0 w : World} {gr g gm : Nat} {c0 : Cu} {m : Msg} (h : PS.Sk wb w0 gr g gm w c0 m) {n : Int} (hn : 0 ≤ n ∧ n < 65536) :
    Calls Try.prog 46 #[.pointer (some ⟨g, 0, none⟩), .int .i64 n] w fun en w' => ∃ A' c', en = .returned (.slice A' (countR n c0).2.length c') ∧ (countR n c0).2.length ≤ c' ∧ (∀ W', Kept w' W' (fun k => k = g ∨ k = gm ∨ k = gr) → Kd.C (Kd.int .u16) W' A' (countR n c0).2.length (countR n c0).2) ∧ PS.Sk wb w0 gr g gm w' (countR n c0).1 m := by
  have HP := Aside0.mk h
  clear h
  go_enter Try.func46, Try.ntmps46
  obtain ⟨lb, hb⟩ := Cu.byteV_bd (PS.Sk.good HP.out)
  have wk := wrap64_id (x := c0.byteV) (by omega) (by omega)
  have wkb : IntKind.i64.wrap (c0.byteV) = c0.byteV := by rw [i64_w]; exact wk
  have w2 := wrap64_id (x := 2 * n) (by omega) (by omega)
  go_upto_region 2 with (first | (go_at_call 41; obtain ⟨l0, h0⟩ := Cu.byteV_bd (PS.Sk.good HP.out); (with_reducible refine (PS.Sk.byte HP.out).mono ?_); rintro en x1 ⟨rfl, hp_⟩; obtain ⟨c1, ec_⟩ : ∃ z, z = c0.byteS := ⟨_, rfl⟩; rw [← ec_] at hp_; have Ec1 := Aside0.mk ec_; clear ec_; have n0_ := Aside0.mk hp_; clear HP hp_; have HP := n0_; clear n0_) | (go_at_call 42; (with_reducible refine (PS.Sk.need HP.out (c0.byteV == 2 * n) 5).mono ?_); rintro en x2 ⟨rfl, hp_⟩; obtain ⟨c2, ec_⟩ : ∃ z, z = c1.need (c0.byteV == 2 * n) 5 := ⟨_, rfl⟩; rw [← ec_] at hp_; have Ec2 := Aside0.mk ec_; clear ec_; have n0_ := Aside0.mk hp_; clear HP hp_; have HP := n0_; clear n0_))
  go_wp2_with (first | (go_at_call 43; (with_reducible refine (PS.Sk.words HP.out (n)).mono ?_); rintro en x3 ⟨A5, n5, rfl, hz_, hr_, hp_⟩; obtain ⟨c3, ec_⟩ : ∃ z, z = c2.wordsS (n) := ⟨_, rfl⟩; rw [← ec_] at hp_; have Ec3 := Aside0.mk ec_; clear ec_; have R5 := Aside0.mk hr_; have R5z := Aside0.mk hz_; clear hr_ hz_; have n0_ := Aside0.mk hp_; clear HP hp_; have HP := n0_; clear n0_))
  go_ret
  have eq_ : countR n c0 = (c3, c2.wordsV n) := by
    rw [Ec3.out, Ec2.out, Ec1.out]
    rfl
  rw [eq_]
  exact ⟨A5, n5, rfl, R5z.out, fun W' hk => R5.out W' hk, HP.out⟩
def where.T0 : Bool × List (List Nat × List Nat) := (true, [([], []), ([], []), ([1], [1]), ([0, 0, 1, 2], [0]), ([3, 0, 1, 2], [3]), ([4, 2, 2, 0, 1, 2], [2, 4])])
def where.B0 : List Nat := [0, 0, 2, 7, 15, 31]
theorem where.tab0 : rtab .any (opsOf Try.f36 0) = where.T0 := by kernel_rfl
theorem where.bits0 : waitsOk where.T0.2 where.B0 = true := by kernel_rfl
def where.T1 : Bool × List (List Nat × List Nat) := (true, [([], []), ([], []), ([], []), ([2], [2]), ([3], [3]), ([4], [4]), ([], []), ([1, 5, 6], [1, 5, 6]), ([7], [7]), ([0, 0, 1, 2, 3, 4, 5, 6, 7, 8], [0]), ([9, 0, 1, 2, 3, 4, 5, 6, 7, 8], [9]), ([10, 8, 7, 0, 1, 2, 3, 4, 5, 6, 7, 8], [8, 10])])
def where.B1 : List Nat := [0, 0, 0, 4, 12, 28, 0, 126, 254, 511, 1023, 2047]
theorem where.tab1 : rtab .any (opsOf Try.f36 1) = where.T1 := by kernel_rfl
theorem where.bits1 : waitsOk where.T1.2 where.B1 = true := by kernel_rfl
theorem where_any {wb w0 w : World} {gr g gm : Nat} {c0 : Cu} {m : Msg} (h : PS.Sk wb w0 gr g gm w c0 m) {a5 : Nat} (f5 : wb.cell? ⟨a5, 0, none⟩ = some (.pointer (some ⟨g, 0, none⟩))) (F5g : a5 ≠ g) (F5m : a5 ≠ gm) {a4 : Nat} (f4 : wb.cell? ⟨a4, 0, none⟩ = some (.pointer (some ⟨gm, 0, none⟩))) (F4g : a4 ≠ g) (F4m : a4 ≠ gm) (most : Int) :
    Calls Try.prog 36 #[.int .i64 most, .pointer (some ⟨a5, 0, none⟩), .pointer (some ⟨a4, 0, none⟩)] w fun en w' => en = .returned (.tuple #[]) ∧ PS.Sk wb w0 gr g gm w' (whereR most m c0).1 (whereR most m c0).2 := by
  have HP := Aside0.mk h
  have F5 := Aside0.mk f5
  have F4 := Aside0.mk f4
  clear h f5 f4
  go_enter Try.func36, Try.ntmps36
  go_upto_region 0 with (fail)
  have n0_ := Aside0.mk (PS.Sk.below HP.out (below_drew (Below.refl _ _)))
  clear HP
  have HP := n0_
  clear n0_
  obtain ⟨l0, h0⟩ := Cu.wordV_bd (PS.Sk.good HP.out)
  refine start_ (n := 6) (S := fun w' => w'.cell? ⟨a5, 0, none⟩ = some (.pointer (some ⟨g, 0, none⟩)) ∧ w'.cell? ⟨a4, 0, none⟩ = some (.pointer (some ⟨gm, 0, none⟩))) (ds := []) (bm 6 0) (by as_aux_lemma => kernel_rfl) rfl (by as_aux_lemma => kernel_rfl) ⟨(PS.Sk.cell HP.out F5.out F5g F5m), (PS.Sk.cell HP.out F4.out F4g F4m)⟩ (fun hHeld => ?_)
  refine with_tabW where.tab0 where.bits0 (fun HT_ HW_ => ?_)
  refine tk_ 0 (some 4) (bm 6 1) HT_ HW_ hHeld (by as_aux_lemma => kernel_rfl) rfl rfl (fun _ _ _ h => h) (by rfl) (by rintro w' ⟨s0, s1⟩; go_simp; with_reducible rfl) (by go_simp; rfl) ?_
  refine tk_ 1 (some 5) (bm 6 3) HT_ HW_ hHeld (by as_aux_lemma => kernel_rfl) rfl rfl (fun _ _ _ h => h) (by rfl) (by rintro w' ⟨s0, s1⟩; go_simp; with_reducible rfl) (by go_simp; rfl) ?_
  refine one_ (i := 2) (N := some 6) (bm 6 7) rfl rfl (one_of HT_.out (by as_aux_lemma => kernel_rfl)) (by as_aux_lemma => decide) (fun K hK => ?_)
  refine goes_ Try.func37 (by as_aux_lemma => kernel_rfl) rfl #[.pointer (some ⟨g, 0, none⟩)] (by rfl) rfl rfl (by simp only [List.map_toArray, List.map_cons, List.map_nil]; rfl) ?_
  with_reducible refine (PS.Sk.word HP.out).mono ?_
  rintro en x1 ⟨rfl, hp_⟩
  obtain ⟨c1, ec_⟩ : ∃ z, z = c0.wordS := ⟨_, rfl⟩
  rw [← ec_] at hp_
  have Ec1 := Aside0.mk ec_
  clear ec_
  obtain ⟨kaddr, faddr⟩ := PS.Sk.at_addr hp_
  have n0_ := Aside0.mk hp_
  clear HP hp_
  have HP := n0_
  clear n0_
  refine ⟨_, rfl, ?_⟩
  refine hK.out _ _ ⟨(PS.Sk.cell HP.out F5.out F5g F5m), (PS.Sk.cell HP.out F4.out F4g F4m)⟩ (fun hHeld => ?_)
  clear hK K
  refine norm_ (a' := ?_) ?_ ?_
  rotate_left
  · show Act.put _ (some 6) _ = _
    simp only [Act.put, List.setIfInBounds_toArray, List.set_cons_zero, List.set_cons_succ, i64_w, i32_w]
    rfl
  refine pu_ 3 (some 7) (bm 6 15) HT_ (by as_aux_lemma => kernel_rfl) rfl rfl (fun _ _ _ h => h) (by rfl) (by intro w'; go_simp; with_reducible rfl) (by go_simp; rfl) ?_
  refine pu_ 4 (some 8) (bm 6 31) HT_ (by as_aux_lemma => kernel_rfl) rfl rfl (fun _ _ _ h => h) (by rfl) (by intro w'; go_simp; with_reducible rfl) (by go_simp; rfl) ?_
  refine one_ (i := 5) (N := none) (bm 6 63) rfl rfl (one_of HT_.out (by as_aux_lemma => kernel_rfl)) (by as_aux_lemma => decide) (fun K hK => ?_)
  refine skip_ (w1 := ?_) (by rfl) rfl ?_ ?_
  rotate_left
  · go_simp
    rfl
  have hp_ := HP.out.put_addr ⟨l0, h0⟩
  have n0_ := Aside0.mk hp_
  clear HP hp_
  have HP := n0_
  clear n0_
  refine hK.out _ _ ⟨(PS.Sk.cell HP.out F5.out F5g F5m), (PS.Sk.cell HP.out F4.out F4g F4m)⟩ (fun hHeld => ?_)
  clear hK K
  refine done_ (done_of HT_.out (by as_aux_lemma => kernel_rfl)) ?_
  clear kaddr faddr
  go_upto_region 1 with (fail)
  have n0_ := Aside0.mk (PS.Sk.below HP.out (below_drew (Below.refl _ _)))
  clear HP
  have HP := n0_
  clear n0_
  obtain ⟨ln, hn⟩ := spanR_bd (PS.Sk.good HP.out) most c0.wordV
  have wu : IntKind.u16.wrap (spanR most c0.wordV c1).2 = (spanR most c0.wordV c1).2 := by rw [IntKind.wrap_u16]; omega
  refine start_ (n := 12) (S := fun w' => w'.cell? ⟨a5, 0, none⟩ = some (.pointer (some ⟨g, 0, none⟩)) ∧ w'.cell? ⟨a4, 0, none⟩ = some (.pointer (some ⟨gm, 0, none⟩)) ∧ w'.cell? ⟨gm, 2, none⟩ = some (.int .u16 c0.wordV)) (ds := []) (bm 12 0) (by as_aux_lemma => kernel_rfl) rfl (by as_aux_lemma => kernel_rfl) ⟨(PS.Sk.cell HP.out F5.out F5g F5m), (PS.Sk.cell HP.out F4.out F4g F4m), (PS.Sk.at_addr HP.out).1⟩ (fun hHeld => ?_)
  refine with_tabW where.tab1 where.bits1 (fun HT_ HW_ => ?_)
  refine pu_ 6 (some 15) (bm 12 64) HT_ (by as_aux_lemma => kernel_rfl) rfl rfl (fun _ _ _ h => h) (by rfl) (by intro w'; go_simp; with_reducible rfl) (by go_simp; rfl) ?_
  refine tk_ 0 (some 9) (bm 12 65) HT_ HW_ hHeld (by as_aux_lemma => kernel_rfl) rfl rfl (fun _ _ _ h => h) (by rfl) (by rintro w' ⟨s0, s1, s2⟩; go_simp; with_reducible rfl) (by go_simp; rfl) ?_
  refine tk_ 1 (some 10) (bm 12 67) HT_ HW_ hHeld (by as_aux_lemma => kernel_rfl) rfl rfl (fun _ _ _ h => h) (by rfl) (by rintro w' ⟨s0, s1, s2⟩; go_simp; with_reducible rfl) (by go_simp; rfl) ?_
  refine tk_ 2 (some 11) (bm 12 71) HT_ HW_ hHeld (by as_aux_lemma => kernel_rfl) rfl rfl (fun _ _ _ h => h) (by rfl) (by rintro w' ⟨s0, s1, s2⟩; go_simp; with_reducible rfl) (by go_simp; rfl) ?_
  refine pu_ 3 (some 12) (bm 12 79) HT_ (by as_aux_lemma => kernel_rfl) rfl rfl (fun _ _ _ h => h) (by rfl) (by intro w'; go_simp; with_reducible rfl) (by go_simp; rfl) ?_
  refine pu_ 4 (some 13) (bm 12 95) HT_ (by as_aux_lemma => kernel_rfl) rfl rfl (fun _ _ _ h => h) (by rfl) (by intro w'; go_simp; with_reducible rfl) (by go_simp; rfl) ?_
  refine tk_ 5 (some 14) (bm 12 127) HT_ HW_ hHeld (by as_aux_lemma => kernel_rfl) rfl rfl (fun _ _ _ h => h) (by rfl) (by rintro w' ⟨s0, s1, s2⟩; go_simp; with_reducible rfl) (by go_simp; rfl) ?_
  refine one_ (i := 7) (N := some 16) (bm 12 255) rfl rfl (one_of HT_.out (by as_aux_lemma => kernel_rfl)) (by as_aux_lemma => decide) (fun K hK => ?_)
  refine goes_ Try.func38 (by as_aux_lemma => kernel_rfl) rfl #[.pointer (some ⟨g, 0, none⟩), .int .u16 c0.wordV, .int .i64 most] (by rfl) rfl rfl (by simp only [List.map_toArray, List.map_cons, List.map_nil]; rfl) ?_
  with_reducible refine (span_any HP.out ⟨l0, h0⟩ most).mono ?_
  rintro en x91 ⟨rfl, hp_⟩
  obtain ⟨c2, e2_⟩ : ∃ z, z = (spanR most c0.wordV c1).1 := ⟨_, rfl⟩
  rw [← e2_] at hp_
  have Ec2 := Aside0.mk e2_
  clear e2_
  obtain ⟨kcount, fcount⟩ := PS.Sk.at_count hp_
  have n0_ := Aside0.mk (hp_)
  clear HP
  have HP := n0_
  clear n0_
  clear hp_
  refine ⟨_, rfl, ?_⟩
  refine hK.out _ _ ⟨(PS.Sk.cell HP.out F5.out F5g F5m), (PS.Sk.cell HP.out F4.out F4g F4m), (PS.Sk.at_addr HP.out).1⟩ (fun hHeld => ?_)
  clear hK K
  refine norm_ (a' := ?_) ?_ ?_
  rotate_left
  · show Act.put _ (some 16) _ = _
    simp only [Act.put, List.setIfInBounds_toArray, List.set_cons_zero, List.set_cons_succ, i64_w, i32_w]
    rfl
  refine pu_ 8 (some 17) (bm 12 511) HT_ (by as_aux_lemma => kernel_rfl) rfl rfl (fun _ _ _ h => h) (by rfl) (by intro w'; go_simp; with_reducible rfl) (by go_simp; rfl) ?_
  refine pu_ 9 (some 18) (bm 12 1023) HT_ (by as_aux_lemma => kernel_rfl) rfl rfl (fun _ _ _ h => h) (by rfl) (by intro w'; go_simp; with_reducible rfl) (by go_simp; rfl) ?_
  refine pu_ 10 (some 19) (bm 12 2047) HT_ (by as_aux_lemma => kernel_rfl) rfl rfl (fun _ _ _ h => h) (by rfl) (by intro w'; go_simp; with_reducible rfl) (by go_simp; rfl) ?_
  refine one_ (i := 11) (N := none) (bm 12 4095) rfl rfl (one_of HT_.out (by as_aux_lemma => kernel_rfl)) (by as_aux_lemma => decide) (fun K hK => ?_)
  refine skip_ (w1 := ?_) (by rfl) rfl ?_ ?_
  rotate_left
  · go_simp
    rfl
  have hp_ := HP.out.put_count ⟨ln, hn⟩
  have n0_ := Aside0.mk hp_
  clear HP hp_
  have HP := n0_
  clear n0_
  refine hK.out _ _ ⟨(PS.Sk.cell HP.out F5.out F5g F5m), (PS.Sk.cell HP.out F4.out F4g F4m), (PS.Sk.at_addr HP.out).1⟩ (fun hHeld => ?_)
  clear hK K
  refine done_ (done_of HT_.out (by as_aux_lemma => kernel_rfl)) ?_
  go_wp2
  have eq_ : whereR most m c0 = (c2, { m with addr := c0.wordV, count := (spanR most c0.wordV c1).2 }) := by
    rw [Ec2.out, Ec1.out]
    rfl
  rw [eq_]
  exact bodyPost_end (results_none rfl _ _ _) rfl (⟨rfl, HP.out⟩)
theorem asks_any {wb w0 w : World} {gr g gm : Nat} {c0 : Cu} {m : Msg} (h : PS.Sk wb w0 gr g gm w c0 m) {a5 : Nat} (f5 : wb.cell? ⟨a5, 0, none⟩ = some (.pointer (some ⟨g, 0, none⟩))) (F5g : a5 ≠ g) (F5m : a5 ≠ gm) {a4 : Nat} (f4 : wb.cell? ⟨a4, 0, none⟩ = some (.pointer (some ⟨gm, 0, none⟩))) (F4g : a4 ≠ g) (F4m : a4 ≠ gm) {a7 : Nat} (f7 : wb.cell? ⟨a7, 0, none⟩ = some (.func (.func 36) #[] #[.pointer (some ⟨a5, 0, none⟩), .pointer (some ⟨a4, 0, none⟩)])) (F7g : a7 ≠ g) (F7m : a7 ≠ gm) :
    Calls Try.prog 39 #[.pointer (some ⟨a7, 0, none⟩)] w fun en w' => en = .returned (.tuple #[]) ∧ PS.Sk wb w0 gr g gm w' (whereR 125 m c0).1 (whereR 125 m c0).2 := by
  have HP := Aside0.mk h
  have F5 := Aside0.mk f5
  have F4 := Aside0.mk f4
  have F7 := Aside0.mk f7
  clear h f5 f4 f7
  go_enter Try.func39, Try.ntmps39
  have wF5 := F5
  have wF4 := F4
  have qF7 := PS.Sk.cell HP.out F7.out F7g F7m
  go_wp2_with (first | (go_at_call 36; (with_reducible refine (where_any HP.out wF5.out F5g F5m wF4.out F4g F4m 125).mono ?_); rintro en x80 ⟨rfl, hp_⟩; obtain ⟨z1, ez_⟩ : ∃ z, z = whereR 125 m c0 := ⟨_, rfl⟩; rw [← ez_] at hp_; obtain ⟨c1, m1⟩ := z1; have EZ := Aside0.mk ez_; clear ez_; have n0_ := Aside0.mk hp_; clear HP hp_; have HP := n0_; clear n0_))
  replace HP : Aside0 (PS.Sk wb w0 gr g gm x80 c1 m1) := HP
  have eq_ : whereR 125 m c0 = (c1, m1) := EZ.out.symm
  rw [eq_]
  exact bodyPost_end (results_none rfl _ _ _) rfl (⟨rfl, HP.out⟩)
def told.T2 : Bool × List (List Nat × List Nat) := (true, [([], []), ([], []), ([], []), ([2], [2]), ([1, 3], [1, 3]), ([0, 0, 1, 2, 3, 4], [0]), ([5, 0, 1, 2, 3, 4], [5]), ([6, 4, 4, 0, 1, 2, 3, 4], [4, 6])])
def told.B2 : List Nat := [0, 0, 0, 4, 14, 31, 63, 127]
theorem told.tab2 : rtab .any (opsOf Try.f40 2) = told.T2 := by kernel_rfl
theorem told.bits2 : waitsOk told.T2.2 told.B2 = true := by kernel_rfl
theorem told_any {wb w0 w : World} {gr g gm : Nat} {c0 : Cu} {m : Msg} (h : PS.Sk wb w0 gr g gm w c0 m) {a5 : Nat} (f5 : wb.cell? ⟨a5, 0, none⟩ = some (.pointer (some ⟨g, 0, none⟩))) (F5g : a5 ≠ g) (F5m : a5 ≠ gm) {a4 : Nat} (f4 : wb.cell? ⟨a4, 0, none⟩ = some (.pointer (some ⟨gm, 0, none⟩))) (F4g : a4 ≠ g) (F4m : a4 ≠ gm) :
    Calls Try.prog 40 #[.pointer (some ⟨a5, 0, none⟩), .pointer (some ⟨a4, 0, none⟩)] w fun en w' => en = .returned (.tuple #[]) ∧ PS.Sk wb w0 gr g gm w' (toldR m c0).1 (toldR m c0).2 := by
  have HP := Aside0.mk h
  have F5 := Aside0.mk f5
  have F4 := Aside0.mk f4
  clear h f5 f4
  go_enter Try.func40, Try.ntmps40
  have qF5 := PS.Sk.cell HP.out F5.out F5g F5m
  go_upto_region 1 with (first | (go_at_call 41; obtain ⟨l0, h0⟩ := Cu.byteV_bd (PS.Sk.good HP.out); (with_reducible refine (PS.Sk.byte HP.out).mono ?_); rintro en x1 ⟨rfl, hp_⟩; obtain ⟨c1, ec_⟩ : ∃ z, z = c0.byteS := ⟨_, rfl⟩; rw [← ec_] at hp_; have Ec1 := Aside0.mk ec_; clear ec_; have n0_ := Aside0.mk hp_; clear HP hp_; have HP := n0_; clear n0_))
  have wk := wrap64_id (x := c0.byteV) (by omega) (by omega)
  have wkb : IntKind.i64.wrap (c0.byteV) = c0.byteV := by rw [i64_w]; exact wk
  have wd : Int.tdiv c0.byteV 2 = c0.byteV / 2 := Int.tdiv_eq_ediv_of_nonneg (by omega)
  have wq := wrap64_id (x := c0.byteV / 2) (by omega) (by omega)
  have wqb : IntKind.i64.wrap (c0.byteV / 2) = c0.byteV / 2 := by rw [i64_w]; exact wq
  clear qF5
  have qF5 := PS.Sk.cell HP.out F5.out F5g F5m
  obtain ⟨c2, e_⟩ : ∃ z, z = c1.need (c0.byteV % 2 == 0 && (decide (2 ≤ c0.byteV) && decide (c0.byteV ≤ 250))) 5 := ⟨_, rfl⟩
  have Ec2 := Aside0.mk e_
  clear e_
  go_cut [] from 6 to 19 (fun wx => Aside0 (PS.Sk wb w0 gr g gm wx c2 (m)))
  case first =>
    cases hs0_ : (c0.byteV % 2 == 0) with
    | true =>
      have hs0a_ : (c0.byteV % 2 != 0) = false := by first | exact hs0_ | (rw [bne, hs0_]; rfl) | (have := hs0_; rw [bne] at this; simpa using this)
      have hs0t_ : (Int.tmod c0.byteV 2 == 0) = true := by rw [Int.tmod_eq_emod_of_nonneg (by omega)]; exact hs0_
      cases hs1_ : (decide (2 ≤ c0.byteV)) with
      | true =>
        have hs1a_ : (decide (c0.byteV ≥ 2)) = true := by first | exact hs1_ | (rw [bne, hs1_]; rfl) | (have := hs1_; rw [bne] at this; simpa using this)
        have eb_ : (c0.byteV % 2 == 0 && (decide (2 ≤ c0.byteV) && decide (c0.byteV ≤ 250))) = (decide (c0.byteV ≤ 250)) := by first | (simp only [hs0_, hs1_]; first | rfl | (simp; done)) | (simp [hs0_, hs1_]; done) | (simp only [bne, hs0_, hs1_]; first | rfl | (simp; done))
        have EB_ := Aside0.mk eb_
        clear eb_
        go_wp2_with (first | (go_at_call 42; (with_reducible refine (PS.Sk.need HP.out (decide (c0.byteV ≤ 250)) 5).mono ?_); rintro en x2 ⟨rfl, hp_⟩; have n0_ := Aside0.mk hp_; clear HP hp_; have HP := n0_; clear n0_))
        go_meet
        rw [Ec2.out, EB_.out]
        exact HP
      | false =>
        have hs1a_ : (decide (c0.byteV ≥ 2)) = false := by first | exact hs1_ | (rw [bne, hs1_]; rfl) | (have := hs1_; rw [bne] at this; simpa using this)
        have eb_ : (c0.byteV % 2 == 0 && (decide (2 ≤ c0.byteV) && decide (c0.byteV ≤ 250))) = (false) := by first | (simp only [hs0_, hs1_]; first | rfl | (simp; done)) | (simp [hs0_, hs1_]; done) | (simp only [bne, hs0_, hs1_]; first | rfl | (simp; done))
        have EB_ := Aside0.mk eb_
        clear eb_
        go_wp2_with (first | (go_at_call 42; (with_reducible refine (PS.Sk.need HP.out (false) 5).mono ?_); rintro en x2 ⟨rfl, hp_⟩; have n0_ := Aside0.mk hp_; clear HP hp_; have HP := n0_; clear n0_))
        go_meet
        rw [Ec2.out, EB_.out]
        exact HP
    | false =>
      have hs0a_ : (c0.byteV % 2 != 0) = true := by first | exact hs0_ | (rw [bne, hs0_]; rfl) | (have := hs0_; rw [bne] at this; simpa using this)
      have hs0t_ : (Int.tmod c0.byteV 2 == 0) = false := by rw [Int.tmod_eq_emod_of_nonneg (by omega)]; exact hs0_
      have eb_ : (c0.byteV % 2 == 0 && (decide (2 ≤ c0.byteV) && decide (c0.byteV ≤ 250))) = (false) := by first | (simp only [hs0_]; first | rfl | (simp; done)) | (simp [hs0_]; done) | (simp only [bne, hs0_]; first | rfl | (simp; done))
      have EB_ := Aside0.mk eb_
      clear eb_
      go_wp2_with (first | (go_at_call 42; (with_reducible refine (PS.Sk.need HP.out (false) 5).mono ?_); rintro en x2 ⟨rfl, hp_⟩; have n0_ := Aside0.mk hp_; clear HP hp_; have HP := n0_; clear n0_))
      go_meet
      rw [Ec2.out, EB_.out]
      exact HP
  case rest =>
  clear HP
  have HP := hcut
  clear hcut
  clear qF5
  go_upto_region 2 with (fail)
  have n0_ := Aside0.mk (PS.Sk.below HP.out (below_drew (Below.refl _ _)))
  clear HP
  have HP := n0_
  clear n0_
  have HBY := Aside0.mk (Cu.wordsV_bd (PS.Sk.good HP.out) (c0.byteV / 2))
  refine start_ (n := 8) (S := fun w' => w'.cell? ⟨a5, 0, none⟩ = some (.pointer (some ⟨g, 0, none⟩)) ∧ w'.cell? ⟨a4, 0, none⟩ = some (.pointer (some ⟨gm, 0, none⟩))) (ds := []) (bm 8 0) (by as_aux_lemma => kernel_rfl) rfl (by as_aux_lemma => kernel_rfl) ⟨(PS.Sk.cell HP.out F5.out F5g F5m), (PS.Sk.cell HP.out F4.out F4g F4m)⟩ (fun hHeld => ?_)
  refine with_tabW told.tab2 told.bits2 (fun HT_ HW_ => ?_)
  refine pu_ 2 (some 21) (bm 8 4) HT_ (by as_aux_lemma => kernel_rfl) rfl rfl (fun _ _ _ h => h) (by rfl) (by intro w'; go_simp; with_reducible rfl) (by go_simp; rfl) ?_
  refine pu_ 3 (some 22) (bm 8 12) HT_ (by as_aux_lemma => kernel_rfl) rfl rfl (fun _ _ _ h => h) (by rfl) (by intro w'; go_simp; with_reducible rfl) (by go_simp; rfl) ?_
  refine tk_ 0 (some 19) (bm 8 13) HT_ HW_ hHeld (by as_aux_lemma => kernel_rfl) rfl rfl (fun _ _ _ h => h) (by rfl) (by rintro w' ⟨s0, s1⟩; go_simp; with_reducible rfl) (by go_simp; rfl) ?_
  refine tk_ 1 (some 20) (bm 8 15) HT_ HW_ hHeld (by as_aux_lemma => kernel_rfl) rfl rfl (fun _ _ _ h => h) (by rfl) (by rintro w' ⟨s0, s1⟩; go_simp; with_reducible rfl) (by go_simp; rfl) ?_
  refine one_ (i := 4) (N := some 23) (bm 8 31) rfl rfl (one_of HT_.out (by as_aux_lemma => kernel_rfl)) (by as_aux_lemma => decide) (fun K hK => ?_)
  refine goes_ Try.func43 (by as_aux_lemma => kernel_rfl) rfl #[.pointer (some ⟨g, 0, none⟩), .int .i64 (c0.byteV / 2)] (by rfl) rfl rfl (by simp only [List.map_toArray, List.map_cons, List.map_nil]; rfl) ?_
  with_reducible refine (PS.Sk.words HP.out (c0.byteV / 2)).mono ?_
  rintro en x3 ⟨A5, n5, rfl, hz_, hr_, hp_⟩
  obtain ⟨c3, ec_⟩ : ∃ z, z = c2.wordsS (c0.byteV / 2) := ⟨_, rfl⟩
  rw [← ec_] at hp_
  have Ec3 := Aside0.mk ec_
  clear ec_
  have R5 := Aside0.mk hr_
  have R5z := Aside0.mk hz_
  clear hr_ hz_
  have n0_ := Aside0.mk hp_
  clear HP hp_
  have HP := n0_
  clear n0_
  obtain ⟨Aw, nw, kw, fw⟩ := PS.Sk.at_words HP.out
  refine ⟨_, rfl, ?_⟩
  refine hK.out _ _ ⟨(PS.Sk.cell HP.out F5.out F5g F5m), (PS.Sk.cell HP.out F4.out F4g F4m)⟩ (fun hHeld => ?_)
  clear hK K
  refine norm_ (a' := ?_) ?_ ?_
  rotate_left
  · show Act.put _ (some 23) _ = _
    simp only [Act.put, List.setIfInBounds_toArray, List.set_cons_zero, List.set_cons_succ, i64_w, i32_w]
    rfl
  refine pu_ 5 (some 24) (bm 8 63) HT_ (by as_aux_lemma => kernel_rfl) rfl rfl (fun _ _ _ h => h) (by rfl) (by intro w'; go_simp; with_reducible rfl) (by go_simp; rfl) ?_
  refine pu_ 6 (some 25) (bm 8 127) HT_ (by as_aux_lemma => kernel_rfl) rfl rfl (fun _ _ _ h => h) (by rfl) (by intro w'; go_simp; with_reducible rfl) (by go_simp; rfl) ?_
  refine one_ (i := 7) (N := none) (bm 8 255) rfl rfl (one_of HT_.out (by as_aux_lemma => kernel_rfl)) (by as_aux_lemma => decide) (fun K hK => ?_)
  refine skip_ (w1 := ?_) (by rfl) rfl ?_ ?_
  rotate_left
  · go_simp
    rfl
  have hp_ := HP.out.put_words R5z.out HBY.out R5.out
  have n0_ := Aside0.mk hp_
  clear HP hp_
  have HP := n0_
  clear n0_
  refine hK.out _ _ ⟨(PS.Sk.cell HP.out F5.out F5g F5m), (PS.Sk.cell HP.out F4.out F4g F4m)⟩ (fun hHeld => ?_)
  clear hK K
  refine done_ (done_of HT_.out (by as_aux_lemma => kernel_rfl)) ?_
  go_wp2
  have eq_ : toldR m c0 = (c3, { m with words := c2.wordsV (c0.byteV / 2) }) := by
    rw [Ec3.out, Ec2.out, Ec1.out]
    rfl
  rw [eq_]
  exact bodyPost_end (results_none rfl _ _ _) rfl (⟨rfl, HP.out⟩)
def one.T0 : Bool × List (List Nat × List Nat) := (true, [([], []), ([], []), ([], []), ([2], [2]), ([], []), ([4, 3], [4]), ([0, 0, 2, 3, 5], [0]), ([6, 0, 2, 3, 5], [6]), ([7, 3, 5, 0, 2, 3, 5], [3, 7]), ([1, 0, 1, 2, 3, 4, 5, 6, 7, 8], [1]), ([9, 0, 1, 2, 3, 4, 5, 6, 7, 8], [9]), ([10, 5, 8, 0, 1, 2, 3, 4, 5, 6, 7, 8], [5, 10])])
def one.B0 : List Nat := [0, 0, 0, 4, 0, 28, 61, 125, 253, 511, 1023, 2047]
theorem one.tab0 : rtab .any (opsOf Try.f44 0) = one.T0 := by kernel_rfl
theorem one.bits0 : waitsOk one.T0.2 one.B0 = true := by kernel_rfl
theorem one_any {wb w0 w : World} {gr g gm : Nat} {c0 : Cu} {m : Msg} (h : PS.Sk wb w0 gr g gm w c0 m) {a5 : Nat} (f5 : wb.cell? ⟨a5, 0, none⟩ = some (.pointer (some ⟨g, 0, none⟩))) (F5g : a5 ≠ g) (F5m : a5 ≠ gm) {a4 : Nat} (f4 : wb.cell? ⟨a4, 0, none⟩ = some (.pointer (some ⟨gm, 0, none⟩))) (F4g : a4 ≠ g) (F4m : a4 ≠ gm) :
    Calls Try.prog 44 #[.pointer (some ⟨a5, 0, none⟩), .pointer (some ⟨a4, 0, none⟩)] w fun en w' => en = .returned (.tuple #[]) ∧ PS.Sk wb w0 gr g gm w' (oneR m c0).1 (oneR m c0).2 := by
  have HP := Aside0.mk h
  have F5 := Aside0.mk f5
  have F4 := Aside0.mk f4
  clear h f5 f4
  go_enter Try.func44, Try.ntmps44
  go_upto_region 0 with (fail)
  have n0_ := Aside0.mk (PS.Sk.below HP.out (below_drew (Below.refl _ _)))
  clear HP
  have HP := n0_
  clear n0_
  refine start_ (n := 12) (S := fun w' => w'.cell? ⟨a5, 0, none⟩ = some (.pointer (some ⟨g, 0, none⟩)) ∧ w'.cell? ⟨a4, 0, none⟩ = some (.pointer (some ⟨gm, 0, none⟩))) (ds := []) (bm 12 0) (by as_aux_lemma => kernel_rfl) rfl (by as_aux_lemma => kernel_rfl) ⟨(PS.Sk.cell HP.out F5.out F5g F5m), (PS.Sk.cell HP.out F4.out F4g F4m)⟩ (fun hHeld => ?_)
  refine with_tabW one.tab0 one.bits0 (fun HT_ HW_ => ?_)
  refine tk_ 0 (some 2) (bm 12 1) HT_ HW_ hHeld (by as_aux_lemma => kernel_rfl) rfl rfl (fun _ _ _ h => h) (by rfl) (by rintro w' ⟨s0, s1⟩; go_simp; with_reducible rfl) (by go_simp; rfl) ?_
  refine tk_ 1 (some 3) (bm 12 3) HT_ HW_ hHeld (by as_aux_lemma => kernel_rfl) rfl rfl (fun _ _ _ h => h) (by rfl) (by rintro w' ⟨s0, s1⟩; go_simp; with_reducible rfl) (by go_simp; rfl) ?_
  refine tk_ 2 (some 4) (bm 12 7) HT_ HW_ hHeld (by as_aux_lemma => kernel_rfl) rfl rfl (fun _ _ _ h => h) (by rfl) (by rintro w' ⟨s0, s1⟩; go_simp; with_reducible rfl) (by go_simp; rfl) ?_
  refine tk_ 4 (some 6) (bm 12 23) HT_ HW_ hHeld (by as_aux_lemma => kernel_rfl) rfl rfl (fun _ _ _ h => h) (by rfl) (by rintro w' ⟨s0, s1⟩; go_simp; with_reducible rfl) (by go_simp; rfl) ?_
  refine one_ (i := 3) (N := some 5) (bm 12 31) rfl rfl (one_of HT_.out (by as_aux_lemma => kernel_rfl)) (by as_aux_lemma => decide) (fun K hK => ?_)
  obtain ⟨l0, h0⟩ := Cu.wordV_bd (PS.Sk.good HP.out)
  refine goes_ Try.func37 (by as_aux_lemma => kernel_rfl) rfl #[.pointer (some ⟨g, 0, none⟩)] (by rfl) rfl rfl (by simp only [List.map_toArray, List.map_cons, List.map_nil]; rfl) ?_
  with_reducible refine (PS.Sk.word HP.out).mono ?_
  rintro en x1 ⟨rfl, hp_⟩
  obtain ⟨c1, ec_⟩ : ∃ z, z = c0.wordS := ⟨_, rfl⟩
  rw [← ec_] at hp_
  have Ec1 := Aside0.mk ec_
  clear ec_
  have n0_ := Aside0.mk hp_
  clear HP hp_
  have HP := n0_
  clear n0_
  refine ⟨_, rfl, ?_⟩
  refine hK.out _ _ ⟨(PS.Sk.cell HP.out F5.out F5g F5m), (PS.Sk.cell HP.out F4.out F4g F4m)⟩ (fun hHeld => ?_)
  clear hK K
  refine norm_ (a' := ?_) ?_ ?_
  rotate_left
  · show Act.put _ (some 5) _ = _
    simp only [Act.put, List.setIfInBounds_toArray, List.set_cons_zero, List.set_cons_succ, i64_w, i32_w]
    rfl
  refine one_ (i := 5) (N := some 7) (bm 12 63) rfl rfl (one_of HT_.out (by as_aux_lemma => kernel_rfl)) (by as_aux_lemma => decide) (fun K hK => ?_)
  obtain ⟨l1, h1⟩ := Cu.wordV_bd (PS.Sk.good HP.out)
  refine goes_ Try.func37 (by as_aux_lemma => kernel_rfl) rfl #[.pointer (some ⟨g, 0, none⟩)] (by rfl) rfl rfl (by simp only [List.map_toArray, List.map_cons, List.map_nil]; rfl) ?_
  with_reducible refine (PS.Sk.word HP.out).mono ?_
  rintro en x2 ⟨rfl, hp_⟩
  obtain ⟨c2, ec_⟩ : ∃ z, z = c1.wordS := ⟨_, rfl⟩
  rw [← ec_] at hp_
  have Ec2 := Aside0.mk ec_
  clear ec_
  obtain ⟨kaddr, faddr⟩ := PS.Sk.at_addr hp_
  obtain ⟨kvalue, fvalue⟩ := PS.Sk.at_value hp_
  have n0_ := Aside0.mk hp_
  clear HP hp_
  have HP := n0_
  clear n0_
  refine ⟨_, rfl, ?_⟩
  refine hK.out _ _ ⟨(PS.Sk.cell HP.out F5.out F5g F5m), (PS.Sk.cell HP.out F4.out F4g F4m)⟩ (fun hHeld => ?_)
  clear hK K
  refine norm_ (a' := ?_) ?_ ?_
  rotate_left
  · show Act.put _ (some 7) _ = _
    simp only [Act.put, List.setIfInBounds_toArray, List.set_cons_zero, List.set_cons_succ, i64_w, i32_w]
    rfl
  refine pu_ 6 (some 8) (bm 12 127) HT_ (by as_aux_lemma => kernel_rfl) rfl rfl (fun _ _ _ h => h) (by rfl) (by intro w'; go_simp; with_reducible rfl) (by go_simp; rfl) ?_
  refine pu_ 7 (some 9) (bm 12 255) HT_ (by as_aux_lemma => kernel_rfl) rfl rfl (fun _ _ _ h => h) (by rfl) (by intro w'; go_simp; with_reducible rfl) (by go_simp; rfl) ?_
  refine one_ (i := 8) (N := none) (bm 12 511) rfl rfl (one_of HT_.out (by as_aux_lemma => kernel_rfl)) (by as_aux_lemma => decide) (fun K hK => ?_)
  refine skip_ (w1 := ?_) (by rfl) rfl ?_ ?_
  rotate_left
  · go_simp
    rfl
  have hp_ := HP.out.put_addr ⟨l0, h0⟩
  have n0_ := Aside0.mk hp_
  clear HP hp_
  have HP := n0_
  clear n0_
  refine hK.out _ _ ⟨(PS.Sk.cell HP.out F5.out F5g F5m), (PS.Sk.cell HP.out F4.out F4g F4m)⟩ (fun hHeld => ?_)
  clear hK K
  refine pu_ 9 (some 10) (bm 12 1023) HT_ (by as_aux_lemma => kernel_rfl) rfl rfl (fun _ _ _ h => h) (by rfl) (by intro w'; go_simp; with_reducible rfl) (by go_simp; rfl) ?_
  refine pu_ 10 (some 11) (bm 12 2047) HT_ (by as_aux_lemma => kernel_rfl) rfl rfl (fun _ _ _ h => h) (by rfl) (by intro w'; go_simp; with_reducible rfl) (by go_simp; rfl) ?_
  refine one_ (i := 11) (N := none) (bm 12 4095) rfl rfl (one_of HT_.out (by as_aux_lemma => kernel_rfl)) (by as_aux_lemma => decide) (fun K hK => ?_)
  refine skip_ (w1 := ?_) (by rfl) rfl ?_ ?_
  rotate_left
  · go_simp
    rfl
  have hp_ := HP.out.put_value ⟨l1, h1⟩
  have n0_ := Aside0.mk hp_
  clear HP hp_
  have HP := n0_
  clear n0_
  refine hK.out _ _ ⟨(PS.Sk.cell HP.out F5.out F5g F5m), (PS.Sk.cell HP.out F4.out F4g F4m)⟩ (fun hHeld => ?_)
  clear hK K
  refine done_ (done_of HT_.out (by as_aux_lemma => kernel_rfl)) ?_
  go_wp2
  have eq_ : oneR m c0 = (c2, { m with addr := c0.wordV, value := c1.wordV }) := by
    rw [Ec2.out, Ec1.out]
    rfl
  rw [eq_]
  exact bodyPost_end (results_none rfl _ _ _) rfl (⟨rfl, HP.out⟩)
def mask.T0 : Bool × List (List Nat × List Nat) := (true, [([], []), ([], []), ([], []), ([], []), ([3], [3]), ([], []), ([5, 4], [5]), ([], []), ([7, 6], [7]), ([0, 0, 3, 4, 6, 8], [0]), ([9, 0, 3, 4, 6, 8], [9]), ([10, 4, 8, 0, 3, 4, 6, 8], [4, 10]), ([1, 0, 1, 3, 4, 5, 6, 8, 9, 10, 11], [1]), ([12, 0, 1, 3, 4, 5, 6, 8, 9, 10, 11], [12]), ([13, 6, 11, 0, 1, 3, 4, 5, 6, 8, 9, 10, 11], [6, 13]), ([2, 0, 1, 2, 3, 4, 5, 6, 7, 8, 9, 10, 11, 12, 13, 14], [2]), ([15, 0, 1, 2, 3, 4, 5, 6, 7, 8, 9, 10, 11, 12, 13, 14], [15]), ([16, 8, 14, 0, 1, 2, 3, 4, 5, 6, 7, 8, 9, 10, 11, 12, 13, 14], [8, 16])])
def mask.B0 : List Nat := [0, 0, 0, 0, 8, 0, 56, 0, 248, 505, 1017, 2041, 4091, 8187, 16379, 32767, 65535, 131071]
theorem mask.tab0 : rtab .any (opsOf Try.f47 0) = mask.T0 := by kernel_rfl
theorem mask.bits0 : waitsOk mask.T0.2 mask.B0 = true := by kernel_rfl
theorem mask_any {wb w0 w : World} {gr g gm : Nat} {c0 : Cu} {m : Msg} (h : PS.Sk wb w0 gr g gm w c0 m) {a5 : Nat} (f5 : wb.cell? ⟨a5, 0, none⟩ = some (.pointer (some ⟨g, 0, none⟩))) (F5g : a5 ≠ g) (F5m : a5 ≠ gm) {a4 : Nat} (f4 : wb.cell? ⟨a4, 0, none⟩ = some (.pointer (some ⟨gm, 0, none⟩))) (F4g : a4 ≠ g) (F4m : a4 ≠ gm) :
    Calls Try.prog 47 #[.pointer (some ⟨a5, 0, none⟩), .pointer (some ⟨a4, 0, none⟩)] w fun en w' => en = .returned (.tuple #[]) ∧ PS.Sk wb w0 gr g gm w' (maskR m c0).1 (maskR m c0).2 := by
  have HP := Aside0.mk h
  have F5 := Aside0.mk f5
  have F4 := Aside0.mk f4
  clear h f5 f4
  go_enter Try.func47, Try.ntmps47
  go_upto_region 0 with (fail)
  have n0_ := Aside0.mk (PS.Sk.below HP.out (below_drew (Below.refl _ _)))
  clear HP
  have HP := n0_
  clear n0_
  refine start_ (n := 18) (S := fun w' => w'.cell? ⟨a5, 0, none⟩ = some (.pointer (some ⟨g, 0, none⟩)) ∧ w'.cell? ⟨a4, 0, none⟩ = some (.pointer (some ⟨gm, 0, none⟩))) (ds := []) (bm 18 0) (by as_aux_lemma => kernel_rfl) rfl (by as_aux_lemma => kernel_rfl) ⟨(PS.Sk.cell HP.out F5.out F5g F5m), (PS.Sk.cell HP.out F4.out F4g F4m)⟩ (fun hHeld => ?_)
  refine with_tabW mask.tab0 mask.bits0 (fun HT_ HW_ => ?_)
  refine tk_ 0 (some 2) (bm 18 1) HT_ HW_ hHeld (by as_aux_lemma => kernel_rfl) rfl rfl (fun _ _ _ h => h) (by rfl) (by rintro w' ⟨s0, s1⟩; go_simp; with_reducible rfl) (by go_simp; rfl) ?_
  refine tk_ 1 (some 3) (bm 18 3) HT_ HW_ hHeld (by as_aux_lemma => kernel_rfl) rfl rfl (fun _ _ _ h => h) (by rfl) (by rintro w' ⟨s0, s1⟩; go_simp; with_reducible rfl) (by go_simp; rfl) ?_
  refine tk_ 2 (some 4) (bm 18 7) HT_ HW_ hHeld (by as_aux_lemma => kernel_rfl) rfl rfl (fun _ _ _ h => h) (by rfl) (by rintro w' ⟨s0, s1⟩; go_simp; with_reducible rfl) (by go_simp; rfl) ?_
  refine tk_ 3 (some 5) (bm 18 15) HT_ HW_ hHeld (by as_aux_lemma => kernel_rfl) rfl rfl (fun _ _ _ h => h) (by rfl) (by rintro w' ⟨s0, s1⟩; go_simp; with_reducible rfl) (by go_simp; rfl) ?_
  refine tk_ 5 (some 7) (bm 18 47) HT_ HW_ hHeld (by as_aux_lemma => kernel_rfl) rfl rfl (fun _ _ _ h => h) (by rfl) (by rintro w' ⟨s0, s1⟩; go_simp; with_reducible rfl) (by go_simp; rfl) ?_
  refine tk_ 7 (some 9) (bm 18 175) HT_ HW_ hHeld (by as_aux_lemma => kernel_rfl) rfl rfl (fun _ _ _ h => h) (by rfl) (by rintro w' ⟨s0, s1⟩; go_simp; with_reducible rfl) (by go_simp; rfl) ?_
  refine one_ (i := 4) (N := some 6) (bm 18 191) rfl rfl (one_of HT_.out (by as_aux_lemma => kernel_rfl)) (by as_aux_lemma => decide) (fun K hK => ?_)
  obtain ⟨l0, h0⟩ := Cu.wordV_bd (PS.Sk.good HP.out)
  refine goes_ Try.func37 (by as_aux_lemma => kernel_rfl) rfl #[.pointer (some ⟨g, 0, none⟩)] (by rfl) rfl rfl (by simp only [List.map_toArray, List.map_cons, List.map_nil]; rfl) ?_
  with_reducible refine (PS.Sk.word HP.out).mono ?_
  rintro en x1 ⟨rfl, hp_⟩
  obtain ⟨c1, ec_⟩ : ∃ z, z = c0.wordS := ⟨_, rfl⟩
  rw [← ec_] at hp_
  have Ec1 := Aside0.mk ec_
  clear ec_
  have n0_ := Aside0.mk hp_
  clear HP hp_
  have HP := n0_
  clear n0_
  refine ⟨_, rfl, ?_⟩
  refine hK.out _ _ ⟨(PS.Sk.cell HP.out F5.out F5g F5m), (PS.Sk.cell HP.out F4.out F4g F4m)⟩ (fun hHeld => ?_)
  clear hK K
  refine norm_ (a' := ?_) ?_ ?_
  rotate_left
  · show Act.put _ (some 6) _ = _
    simp only [Act.put, List.setIfInBounds_toArray, List.set_cons_zero, List.set_cons_succ, i64_w, i32_w]
    rfl
  refine one_ (i := 6) (N := some 8) (bm 18 255) rfl rfl (one_of HT_.out (by as_aux_lemma => kernel_rfl)) (by as_aux_lemma => decide) (fun K hK => ?_)
  obtain ⟨l1, h1⟩ := Cu.wordV_bd (PS.Sk.good HP.out)
  refine goes_ Try.func37 (by as_aux_lemma => kernel_rfl) rfl #[.pointer (some ⟨g, 0, none⟩)] (by rfl) rfl rfl (by simp only [List.map_toArray, List.map_cons, List.map_nil]; rfl) ?_
  with_reducible refine (PS.Sk.word HP.out).mono ?_
  rintro en x2 ⟨rfl, hp_⟩
  obtain ⟨c2, ec_⟩ : ∃ z, z = c1.wordS := ⟨_, rfl⟩
  rw [← ec_] at hp_
  have Ec2 := Aside0.mk ec_
  clear ec_
  have n0_ := Aside0.mk hp_
  clear HP hp_
  have HP := n0_
  clear n0_
  refine ⟨_, rfl, ?_⟩
  refine hK.out _ _ ⟨(PS.Sk.cell HP.out F5.out F5g F5m), (PS.Sk.cell HP.out F4.out F4g F4m)⟩ (fun hHeld => ?_)
  clear hK K
  refine norm_ (a' := ?_) ?_ ?_
  rotate_left
  · show Act.put _ (some 8) _ = _
    simp only [Act.put, List.setIfInBounds_toArray, List.set_cons_zero, List.set_cons_succ, i64_w, i32_w]
    rfl
  refine one_ (i := 8) (N := some 10) (bm 18 511) rfl rfl (one_of HT_.out (by as_aux_lemma => kernel_rfl)) (by as_aux_lemma => decide) (fun K hK => ?_)
  obtain ⟨l2, h2⟩ := Cu.wordV_bd (PS.Sk.good HP.out)
  refine goes_ Try.func37 (by as_aux_lemma => kernel_rfl) rfl #[.pointer (some ⟨g, 0, none⟩)] (by rfl) rfl rfl (by simp only [List.map_toArray, List.map_cons, List.map_nil]; rfl) ?_
  with_reducible refine (PS.Sk.word HP.out).mono ?_
  rintro en x3 ⟨rfl, hp_⟩
  obtain ⟨c3, ec_⟩ : ∃ z, z = c2.wordS := ⟨_, rfl⟩
  rw [← ec_] at hp_
  have Ec3 := Aside0.mk ec_
  clear ec_
  obtain ⟨kaddr, faddr⟩ := PS.Sk.at_addr hp_
  obtain ⟨kand, fand⟩ := PS.Sk.at_and hp_
  obtain ⟨kor, f_or⟩ := PS.Sk.at_or hp_
  have n0_ := Aside0.mk hp_
  clear HP hp_
  have HP := n0_
  clear n0_
  refine ⟨_, rfl, ?_⟩
  refine hK.out _ _ ⟨(PS.Sk.cell HP.out F5.out F5g F5m), (PS.Sk.cell HP.out F4.out F4g F4m)⟩ (fun hHeld => ?_)
  clear hK K
  refine norm_ (a' := ?_) ?_ ?_
  rotate_left
  · show Act.put _ (some 10) _ = _
    simp only [Act.put, List.setIfInBounds_toArray, List.set_cons_zero, List.set_cons_succ, i64_w, i32_w]
    rfl
  refine pu_ 9 (some 11) (bm 18 1023) HT_ (by as_aux_lemma => kernel_rfl) rfl rfl (fun _ _ _ h => h) (by rfl) (by intro w'; go_simp; with_reducible rfl) (by go_simp; rfl) ?_
  refine pu_ 10 (some 12) (bm 18 2047) HT_ (by as_aux_lemma => kernel_rfl) rfl rfl (fun _ _ _ h => h) (by rfl) (by intro w'; go_simp; with_reducible rfl) (by go_simp; rfl) ?_
  refine one_ (i := 11) (N := none) (bm 18 4095) rfl rfl (one_of HT_.out (by as_aux_lemma => kernel_rfl)) (by as_aux_lemma => decide) (fun K hK => ?_)
  refine skip_ (w1 := ?_) (by rfl) rfl ?_ ?_
  rotate_left
  · go_simp
    rfl
  have hp_ := HP.out.put_addr ⟨l0, h0⟩
  have n0_ := Aside0.mk hp_
  clear HP hp_
  have HP := n0_
  clear n0_
  refine hK.out _ _ ⟨(PS.Sk.cell HP.out F5.out F5g F5m), (PS.Sk.cell HP.out F4.out F4g F4m)⟩ (fun hHeld => ?_)
  clear hK K
  refine pu_ 12 (some 13) (bm 18 8191) HT_ (by as_aux_lemma => kernel_rfl) rfl rfl (fun _ _ _ h => h) (by rfl) (by intro w'; go_simp; with_reducible rfl) (by go_simp; rfl) ?_
  refine pu_ 13 (some 14) (bm 18 16383) HT_ (by as_aux_lemma => kernel_rfl) rfl rfl (fun _ _ _ h => h) (by rfl) (by intro w'; go_simp; with_reducible rfl) (by go_simp; rfl) ?_
  refine one_ (i := 14) (N := none) (bm 18 32767) rfl rfl (one_of HT_.out (by as_aux_lemma => kernel_rfl)) (by as_aux_lemma => decide) (fun K hK => ?_)
  refine skip_ (w1 := ?_) (by rfl) rfl ?_ ?_
  rotate_left
  · go_simp
    rfl
  have hp_ := HP.out.put_and ⟨l1, h1⟩
  have n0_ := Aside0.mk hp_
  clear HP hp_
  have HP := n0_
  clear n0_
  refine hK.out _ _ ⟨(PS.Sk.cell HP.out F5.out F5g F5m), (PS.Sk.cell HP.out F4.out F4g F4m)⟩ (fun hHeld => ?_)
  clear hK K
  refine pu_ 15 (some 15) (bm 18 65535) HT_ (by as_aux_lemma => kernel_rfl) rfl rfl (fun _ _ _ h => h) (by rfl) (by intro w'; go_simp; with_reducible rfl) (by go_simp; rfl) ?_
  refine pu_ 16 (some 16) (bm 18 131071) HT_ (by as_aux_lemma => kernel_rfl) rfl rfl (fun _ _ _ h => h) (by rfl) (by intro w'; go_simp; with_reducible rfl) (by go_simp; rfl) ?_
  refine one_ (i := 17) (N := none) (bm 18 262143) rfl rfl (one_of HT_.out (by as_aux_lemma => kernel_rfl)) (by as_aux_lemma => decide) (fun K hK => ?_)
  refine skip_ (w1 := ?_) (by rfl) rfl ?_ ?_
  rotate_left
  · go_simp
    rfl
  have hp_ := HP.out.put_or ⟨l2, h2⟩
  have n0_ := Aside0.mk hp_
  clear HP hp_
  have HP := n0_
  clear n0_
  refine hK.out _ _ ⟨(PS.Sk.cell HP.out F5.out F5g F5m), (PS.Sk.cell HP.out F4.out F4g F4m)⟩ (fun hHeld => ?_)
  clear hK K
  refine done_ (done_of HT_.out (by as_aux_lemma => kernel_rfl)) ?_
  go_wp2
  have eq_ : maskR m c0 = (c3, { m with addr := c0.wordV, and_ := c1.wordV, or_ := c2.wordV }) := by
    rw [Ec3.out, Ec2.out, Ec1.out]
    rfl
  rw [eq_]
  exact bodyPost_end (results_none rfl _ _ _) rfl (⟨rfl, HP.out⟩)
def place.T0 : Bool × List (List Nat × List Nat) := (true, [([], []), ([], []), ([1], [1]), ([0, 0, 1, 2], [0]), ([3, 0, 1, 2], [3]), ([4, 2, 2, 0, 1, 2], [2, 4])])
def place.B0 : List Nat := [0, 0, 2, 7, 15, 31]
theorem place.tab0 : rtab .any (opsOf Try.f49 0) = place.T0 := by kernel_rfl
theorem place.bits0 : waitsOk place.T0.2 place.B0 = true := by kernel_rfl
theorem place_any {wb w0 w : World} {gr g gm : Nat} {c0 : Cu} {m : Msg} (h : PS.Sk wb w0 gr g gm w c0 m) {a5 : Nat} (f5 : wb.cell? ⟨a5, 0, none⟩ = some (.pointer (some ⟨g, 0, none⟩))) (F5g : a5 ≠ g) (F5m : a5 ≠ gm) {a4 : Nat} (f4 : wb.cell? ⟨a4, 0, none⟩ = some (.pointer (some ⟨gm, 0, none⟩))) (F4g : a4 ≠ g) (F4m : a4 ≠ gm) :
    Calls Try.prog 49 #[.pointer (some ⟨a5, 0, none⟩), .pointer (some ⟨a4, 0, none⟩)] w fun en w' => en = .returned (.tuple #[]) ∧ PS.Sk wb w0 gr g gm w' (placeR m c0).1 (placeR m c0).2 := by
  have HP := Aside0.mk h
  have F5 := Aside0.mk f5
  have F4 := Aside0.mk f4
  clear h f5 f4
  go_enter Try.func49, Try.ntmps49
  go_upto_region 0 with (fail)
  have n0_ := Aside0.mk (PS.Sk.below HP.out (below_drew (Below.refl _ _)))
  clear HP
  have HP := n0_
  clear n0_
  refine start_ (n := 6) (S := fun w' => w'.cell? ⟨a5, 0, none⟩ = some (.pointer (some ⟨g, 0, none⟩)) ∧ w'.cell? ⟨a4, 0, none⟩ = some (.pointer (some ⟨gm, 0, none⟩))) (ds := []) (bm 6 0) (by as_aux_lemma => kernel_rfl) rfl (by as_aux_lemma => kernel_rfl) ⟨(PS.Sk.cell HP.out F5.out F5g F5m), (PS.Sk.cell HP.out F4.out F4g F4m)⟩ (fun hHeld => ?_)
  refine with_tabW place.tab0 place.bits0 (fun HT_ HW_ => ?_)
  refine tk_ 0 (some 2) (bm 6 1) HT_ HW_ hHeld (by as_aux_lemma => kernel_rfl) rfl rfl (fun _ _ _ h => h) (by rfl) (by rintro w' ⟨s0, s1⟩; go_simp; with_reducible rfl) (by go_simp; rfl) ?_
  refine tk_ 1 (some 3) (bm 6 3) HT_ HW_ hHeld (by as_aux_lemma => kernel_rfl) rfl rfl (fun _ _ _ h => h) (by rfl) (by rintro w' ⟨s0, s1⟩; go_simp; with_reducible rfl) (by go_simp; rfl) ?_
  refine one_ (i := 2) (N := some 4) (bm 6 7) rfl rfl (one_of HT_.out (by as_aux_lemma => kernel_rfl)) (by as_aux_lemma => decide) (fun K hK => ?_)
  obtain ⟨l0, h0⟩ := Cu.wordV_bd (PS.Sk.good HP.out)
  refine goes_ Try.func37 (by as_aux_lemma => kernel_rfl) rfl #[.pointer (some ⟨g, 0, none⟩)] (by rfl) rfl rfl (by simp only [List.map_toArray, List.map_cons, List.map_nil]; rfl) ?_
  with_reducible refine (PS.Sk.word HP.out).mono ?_
  rintro en x1 ⟨rfl, hp_⟩
  obtain ⟨c1, ec_⟩ : ∃ z, z = c0.wordS := ⟨_, rfl⟩
  rw [← ec_] at hp_
  have Ec1 := Aside0.mk ec_
  clear ec_
  obtain ⟨kaddr, faddr⟩ := PS.Sk.at_addr hp_
  have n0_ := Aside0.mk hp_
  clear HP hp_
  have HP := n0_
  clear n0_
  refine ⟨_, rfl, ?_⟩
  refine hK.out _ _ ⟨(PS.Sk.cell HP.out F5.out F5g F5m), (PS.Sk.cell HP.out F4.out F4g F4m)⟩ (fun hHeld => ?_)
  clear hK K
  refine norm_ (a' := ?_) ?_ ?_
  rotate_left
  · show Act.put _ (some 4) _ = _
    simp only [Act.put, List.setIfInBounds_toArray, List.set_cons_zero, List.set_cons_succ, i64_w, i32_w]
    rfl
  refine pu_ 3 (some 5) (bm 6 15) HT_ (by as_aux_lemma => kernel_rfl) rfl rfl (fun _ _ _ h => h) (by rfl) (by intro w'; go_simp; with_reducible rfl) (by go_simp; rfl) ?_
  refine pu_ 4 (some 6) (bm 6 31) HT_ (by as_aux_lemma => kernel_rfl) rfl rfl (fun _ _ _ h => h) (by rfl) (by intro w'; go_simp; with_reducible rfl) (by go_simp; rfl) ?_
  refine one_ (i := 5) (N := none) (bm 6 63) rfl rfl (one_of HT_.out (by as_aux_lemma => kernel_rfl)) (by as_aux_lemma => decide) (fun K hK => ?_)
  refine skip_ (w1 := ?_) (by rfl) rfl ?_ ?_
  rotate_left
  · go_simp
    rfl
  have hp_ := HP.out.put_addr ⟨l0, h0⟩
  have n0_ := Aside0.mk hp_
  clear HP hp_
  have HP := n0_
  clear n0_
  refine hK.out _ _ ⟨(PS.Sk.cell HP.out F5.out F5g F5m), (PS.Sk.cell HP.out F4.out F4g F4m)⟩ (fun hHeld => ?_)
  clear hK K
  refine done_ (done_of HT_.out (by as_aux_lemma => kernel_rfl)) ?_
  go_wp2
  have eq_ : placeR m c0 = (c1, { m with addr := c0.wordV }) := by
    rw [Ec1.out]
    rfl
  rw [eq_]
  exact bodyPost_end (results_none rfl _ _ _) rfl (⟨rfl, HP.out⟩)
theorem countR_bd {c : Cu} (h : c.good) (n : Int) : ∀ x ∈ (countR n c).2, 0 ≤ x ∧ x < 65536 := Cu.wordsV_bd (c := (c.byteS.need (c.byteV == 2 * n) 5)) (Cu.good_need (Cu.good_byteS h) _ _) n
def many.T2 : Bool × List (List Nat × List Nat) := (true, [([], []), ([], []), ([], []), ([2], [2]), ([3], [3]), ([4], [4]), ([5], [5]), ([1, 6], [1, 6]), ([0, 0, 1, 2, 3, 4, 5, 6, 7], [0]), ([8, 0, 1, 2, 3, 4, 5, 6, 7], [8]), ([9, 7, 7, 0, 1, 2, 3, 4, 5, 6, 7], [7, 9])])
def many.B2 : List Nat := [0, 0, 0, 4, 12, 28, 60, 126, 255, 511, 1023]
theorem many.tab2 : rtab .any (opsOf Try.f45 2) = many.T2 := by kernel_rfl
theorem many.bits2 : waitsOk many.T2.2 many.B2 = true := by kernel_rfl
theorem many_1 {wb w0 w : World} {gr g gm : Nat} {c0 : Cu} {m : Msg} (h : PS.Sk wb w0 gr g gm w c0 m) {a5 : Nat} (f5 : wb.cell? ⟨a5, 0, none⟩ = some (.pointer (some ⟨g, 0, none⟩))) (F5g : a5 ≠ g) (F5m : a5 ≠ gm) {a4 : Nat} (f4 : wb.cell? ⟨a4, 0, none⟩ = some (.pointer (some ⟨gm, 0, none⟩))) (F4g : a4 ≠ g) (F4m : a4 ≠ gm) {a7 : Nat} (f7 : wb.cell? ⟨a7, 0, none⟩ = some (.func (.func 36) #[] #[.pointer (some ⟨a5, 0, none⟩), .pointer (some ⟨a4, 0, none⟩)])) (F7g : a7 ≠ g) (F7m : a7 ≠ gm) {a8 : Nat} (f8 : wb.cell? ⟨a8, 0, none⟩ = some (.bool true)) (F8g : a8 ≠ g) (F8m : a8 ≠ gm) :
    Calls Try.prog 45 #[.pointer (some ⟨a7, 0, none⟩), .pointer (some ⟨a8, 0, none⟩), .pointer (some ⟨a5, 0, none⟩), .pointer (some ⟨a4, 0, none⟩)] w fun en w' => en = .returned (.tuple #[]) ∧ PS.Sk wb w0 gr g gm w' (manyR m c0).1 (manyR m c0).2 := by
  have HP := Aside0.mk h
  have F5 := Aside0.mk f5
  have F4 := Aside0.mk f4
  have F7 := Aside0.mk f7
  have F8 := Aside0.mk f8
  clear h f5 f4 f7 f8
  go_enter Try.func45, Try.ntmps45
  have wF5 := F5
  have wF4 := F4
  have qF7 := PS.Sk.cell HP.out F7.out F7g F7m
  go_upto_region 1 with (first | (go_at_call 36; (with_reducible refine (where_any HP.out wF5.out F5g F5m wF4.out F4g F4m 123).mono ?_); rintro en x80 ⟨rfl, hp_⟩; obtain ⟨z1, ez_⟩ : ∃ z, z = whereR 123 m c0 := ⟨_, rfl⟩; rw [← ez_] at hp_; obtain ⟨c1, m1⟩ := z1; have EZ := Aside0.mk ez_; clear ez_; have n0_ := Aside0.mk hp_; clear HP hp_; have HP := n0_; clear n0_))
  replace HP : Aside0 (PS.Sk wb w0 gr g gm x80 c1 m1) := HP
  clear qF7
  have qF8 := PS.Sk.cell HP.out F8.out F8g F8m
  go_upto_region 2 with (fail)
  clear qF8
  have n0_ := Aside0.mk (PS.Sk.below HP.out (below_drew (Below.refl _ _)))
  clear HP
  have HP := n0_
  clear n0_
  obtain ⟨bc0, bc1⟩ := (goodM_num (PS.Sk.msg HP.out)).1.2.2.2.1
  have wk := wrap64_id (x := m1.count) (by omega) (by omega)
  have wkb : IntKind.i64.wrap (m1.count) = m1.count := by rw [i64_w]; exact wk
  have HBW0 := Aside0.mk (countR_bd (PS.Sk.good HP.out) m1.count)
  refine start_ (n := 11) (S := fun w' => w'.cell? ⟨a5, 0, none⟩ = some (.pointer (some ⟨g, 0, none⟩)) ∧ w'.cell? ⟨a4, 0, none⟩ = some (.pointer (some ⟨gm, 0, none⟩)) ∧ w'.cell? ⟨gm, 3, none⟩ = some (.int .u16 m1.count)) (ds := []) (bm 11 0) (by as_aux_lemma => kernel_rfl) rfl (by as_aux_lemma => kernel_rfl) ⟨(PS.Sk.cell HP.out F5.out F5g F5m), (PS.Sk.cell HP.out F4.out F4g F4m), (PS.Sk.at_count HP.out).1⟩ (fun hHeld => ?_)
  refine with_tabW many.tab2 many.bits2 (fun HT_ HW_ => ?_)
  refine tk_ 0 (some 7) (bm 11 1) HT_ HW_ hHeld (by as_aux_lemma => kernel_rfl) rfl rfl (fun _ _ _ h => h) (by rfl) (by rintro w' ⟨s0, s1, s2⟩; go_simp; with_reducible rfl) (by go_simp; rfl) ?_
  refine tk_ 1 (some 8) (bm 11 3) HT_ HW_ hHeld (by as_aux_lemma => kernel_rfl) rfl rfl (fun _ _ _ h => h) (by rfl) (by rintro w' ⟨s0, s1, s2⟩; go_simp; with_reducible rfl) (by go_simp; rfl) ?_
  refine tk_ 2 (some 9) (bm 11 7) HT_ HW_ hHeld (by as_aux_lemma => kernel_rfl) rfl rfl (fun _ _ _ h => h) (by rfl) (by rintro w' ⟨s0, s1, s2⟩; go_simp; with_reducible rfl) (by go_simp; rfl) ?_
  refine pu_ 3 (some 10) (bm 11 15) HT_ (by as_aux_lemma => kernel_rfl) rfl rfl (fun _ _ _ h => h) (by rfl) (by intro w'; go_simp; with_reducible rfl) (by go_simp; rfl) ?_
  refine pu_ 4 (some 11) (bm 11 31) HT_ (by as_aux_lemma => kernel_rfl) rfl rfl (fun _ _ _ h => h) (by rfl) (by intro w'; go_simp; with_reducible rfl) (by go_simp; rfl) ?_
  refine tk_ 5 (some 12) (bm 11 63) HT_ HW_ hHeld (by as_aux_lemma => kernel_rfl) rfl rfl (fun _ _ _ h => h) (by rfl) (by rintro w' ⟨s0, s1, s2⟩; go_simp; with_reducible rfl) (by go_simp; rfl) ?_
  refine pu_ 6 (some 13) (bm 11 127) HT_ (by as_aux_lemma => kernel_rfl) rfl rfl (fun _ _ _ h => h) (by rfl) (by intro w'; go_simp; with_reducible rfl) (by go_simp; rfl) ?_
  refine one_ (i := 7) (N := some 14) (bm 11 255) rfl rfl (one_of HT_.out (by as_aux_lemma => kernel_rfl)) (by as_aux_lemma => decide) (fun K hK => ?_)
  refine goes_ Try.func46 (by as_aux_lemma => kernel_rfl) rfl #[.pointer (some ⟨g, 0, none⟩), .int .i64 (m1.count)] (by rfl) rfl rfl (by simp only [List.map_toArray, List.map_cons, List.map_nil]; rfl) ?_
  with_reducible refine (counted_any HP.out ⟨bc0, bc1⟩).mono ?_
  rintro en x95 ⟨A5, n5, rfl, hz_, hr_, hp_⟩
  obtain ⟨z1, ez_⟩ : ∃ z, z = countR (m1.count) c1 := ⟨_, rfl⟩
  rw [← ez_] at hp_ hr_ hz_ ⊢
  obtain ⟨c2, lw⟩ := z1
  have HBW := Aside0.mk (show ∀ x ∈ lw, 0 ≤ x ∧ x < 65536 from by have := HBW0.out; rw [← ez_] at this; exact this)
  have EL := Aside0.mk ez_
  clear ez_
  replace hp_ : PS.Sk _ w0 gr g gm _ c2 _ := hp_
  have R5 := Aside0.mk (show ∀ W', Kept _ W' (fun k => k = g ∨ k = gm ∨ k = gr) → Kd.C (Kd.int .u16) W' A5 lw.length lw from hr_)
  have R5z := Aside0.mk (show lw.length ≤ n5 from hz_)
  obtain ⟨Aw, nw, kw, fw⟩ := PS.Sk.at_words hp_
  have n0_ := Aside0.mk (hp_)
  clear HP
  have HP := n0_
  clear n0_
  clear hp_ hr_ hz_
  refine ⟨_, rfl, ?_⟩
  refine hK.out _ _ ⟨(PS.Sk.cell HP.out F5.out F5g F5m), (PS.Sk.cell HP.out F4.out F4g F4m), (PS.Sk.at_count HP.out).1⟩ (fun hHeld => ?_)
  clear hK K
  refine norm_ (a' := ?_) ?_ ?_
  rotate_left
  · show Act.put _ (some 14) _ = _
    simp only [Act.put, List.setIfInBounds_toArray, List.set_cons_zero, List.set_cons_succ, i64_w, i32_w]
    rfl
  refine pu_ 8 (some 15) (bm 11 511) HT_ (by as_aux_lemma => kernel_rfl) rfl rfl (fun _ _ _ h => h) (by rfl) (by intro w'; go_simp; with_reducible rfl) (by go_simp; rfl) ?_
  refine pu_ 9 (some 16) (bm 11 1023) HT_ (by as_aux_lemma => kernel_rfl) rfl rfl (fun _ _ _ h => h) (by rfl) (by intro w'; go_simp; with_reducible rfl) (by go_simp; rfl) ?_
  refine one_ (i := 10) (N := none) (bm 11 2047) rfl rfl (one_of HT_.out (by as_aux_lemma => kernel_rfl)) (by as_aux_lemma => decide) (fun K hK => ?_)
  refine skip_ (w1 := ?_) (by rfl) rfl ?_ ?_
  rotate_left
  · go_simp
    rfl
  have hp_ := HP.out.put_words R5z.out HBW.out R5.out
  have n0_ := Aside0.mk hp_
  clear HP hp_
  have HP := n0_
  clear n0_
  refine hK.out _ _ ⟨(PS.Sk.cell HP.out F5.out F5g F5m), (PS.Sk.cell HP.out F4.out F4g F4m), (PS.Sk.at_count HP.out).1⟩ (fun hHeld => ?_)
  clear hK K
  refine done_ (done_of HT_.out (by as_aux_lemma => kernel_rfl)) ?_
  go_wp2
  have eq_ : manyR m c0 = (c2, { m1 with words := lw }) := by
    have e1 : manyR m c0 = manyK m1 c1 := by
      show manyK (whereR 123 m c0).2 (whereR 123 m c0).1 = _
      rw [← EZ.out]
    rw [e1]
    show ((countR m1.count c1).1, ({ m1 with words := (countR m1.count c1).2 } : Msg)) = _
    rw [← EL.out]
  rw [eq_]
  exact bodyPost_end (results_none rfl _ _ _) rfl (⟨rfl, HP.out⟩)
theorem many_0 {wb w0 w : World} {gr g gm : Nat} {c0 : Cu} {m : Msg} (h : PS.Sk wb w0 gr g gm w c0 m) {a5 : Nat} (f5 : wb.cell? ⟨a5, 0, none⟩ = some (.pointer (some ⟨g, 0, none⟩))) (F5g : a5 ≠ g) (F5m : a5 ≠ gm) {a4 : Nat} (f4 : wb.cell? ⟨a4, 0, none⟩ = some (.pointer (some ⟨gm, 0, none⟩))) (F4g : a4 ≠ g) (F4m : a4 ≠ gm) {a7 : Nat} (f7 : wb.cell? ⟨a7, 0, none⟩ = some (.func (.func 36) #[] #[.pointer (some ⟨a5, 0, none⟩), .pointer (some ⟨a4, 0, none⟩)])) (F7g : a7 ≠ g) (F7m : a7 ≠ gm) {a8 : Nat} (f8 : wb.cell? ⟨a8, 0, none⟩ = some (.bool false)) (F8g : a8 ≠ g) (F8m : a8 ≠ gm) :
    Calls Try.prog 45 #[.pointer (some ⟨a7, 0, none⟩), .pointer (some ⟨a8, 0, none⟩), .pointer (some ⟨a5, 0, none⟩), .pointer (some ⟨a4, 0, none⟩)] w fun en w' => en = .returned (.tuple #[]) ∧ PS.Sk wb w0 gr g gm w' (whereR 123 m c0).1 (whereR 123 m c0).2 := by
  have HP := Aside0.mk h
  have F5 := Aside0.mk f5
  have F4 := Aside0.mk f4
  have F7 := Aside0.mk f7
  have F8 := Aside0.mk f8
  clear h f5 f4 f7 f8
  go_enter Try.func45, Try.ntmps45
  have wF5 := F5
  have wF4 := F4
  have qF7 := PS.Sk.cell HP.out F7.out F7g F7m
  go_upto_region 1 with (first | (go_at_call 36; (with_reducible refine (where_any HP.out wF5.out F5g F5m wF4.out F4g F4m 123).mono ?_); rintro en x80 ⟨rfl, hp_⟩; obtain ⟨z1, ez_⟩ : ∃ z, z = whereR 123 m c0 := ⟨_, rfl⟩; rw [← ez_] at hp_; obtain ⟨c1, m1⟩ := z1; have EZ := Aside0.mk ez_; clear ez_; have n0_ := Aside0.mk hp_; clear HP hp_; have HP := n0_; clear n0_))
  replace HP : Aside0 (PS.Sk wb w0 gr g gm x80 c1 m1) := HP
  clear qF7
  have qF8 := PS.Sk.cell HP.out F8.out F8g F8m
  go_wp2
  have eq_ : whereR 123 m c0 = (c1, m1) := EZ.out.symm
  rw [eq_]
  exact bodyPost_end (results_none rfl _ _ _) rfl (⟨rfl, HP.out⟩)
def both.T1 : Bool × List (List Nat × List Nat) := (true, [([], []), ([], []), ([1], [1]), ([0, 0, 1, 2], [0]), ([3, 0, 1, 2], [3]), ([4, 2, 2, 0, 1, 2], [2, 4])])
def both.B1 : List Nat := [0, 0, 2, 7, 15, 31]
theorem both.tab1 : rtab .any (opsOf Try.f48 1) = both.T1 := by kernel_rfl
theorem both.bits1 : waitsOk both.T1.2 both.B1 = true := by kernel_rfl
def both.T2 : Bool × List (List Nat × List Nat) := (true, [([], []), ([], []), ([], []), ([], []), ([3], [3]), ([4], [4]), ([5], [5]), ([2, 6], [2, 6]), ([1, 7, 7], [1, 7]), ([0, 0, 1, 2, 3, 4, 5, 6, 7, 8], [0]), ([9, 0, 1, 2, 3, 4, 5, 6, 7, 8], [9]), ([10, 8, 8, 0, 1, 2, 3, 4, 5, 6, 7, 8], [8, 10])])
def both.B2 : List Nat := [0, 0, 0, 0, 8, 24, 56, 124, 254, 511, 1023, 2047]
theorem both.tab2 : rtab .any (opsOf Try.f48 2) = both.T2 := by kernel_rfl
theorem both.bits2 : waitsOk both.T2.2 both.B2 = true := by kernel_rfl
theorem both_any {wb w0 w : World} {gr g gm : Nat} {c0 : Cu} {m : Msg} (h : PS.Sk wb w0 gr g gm w c0 m) {a5 : Nat} (f5 : wb.cell? ⟨a5, 0, none⟩ = some (.pointer (some ⟨g, 0, none⟩))) (F5g : a5 ≠ g) (F5m : a5 ≠ gm) {a4 : Nat} (f4 : wb.cell? ⟨a4, 0, none⟩ = some (.pointer (some ⟨gm, 0, none⟩))) (F4g : a4 ≠ g) (F4m : a4 ≠ gm) {a7 : Nat} (f7 : wb.cell? ⟨a7, 0, none⟩ = some (.func (.func 36) #[] #[.pointer (some ⟨a5, 0, none⟩), .pointer (some ⟨a4, 0, none⟩)])) (F7g : a7 ≠ g) (F7m : a7 ≠ gm) :
    Calls Try.prog 48 #[.pointer (some ⟨a7, 0, none⟩), .pointer (some ⟨a5, 0, none⟩), .pointer (some ⟨a4, 0, none⟩)] w fun en w' => en = .returned (.tuple #[]) ∧ PS.Sk wb w0 gr g gm w' (bothR m c0).1 (bothR m c0).2 := by
  have HP := Aside0.mk h
  have F5 := Aside0.mk f5
  have F4 := Aside0.mk f4
  have F7 := Aside0.mk f7
  clear h f5 f4 f7
  go_enter Try.func48, Try.ntmps48
  have wF5 := F5
  have wF4 := F4
  have qF7 := PS.Sk.cell HP.out F7.out F7g F7m
  go_upto_region 1 with (first | (go_at_call 36; (with_reducible refine (where_any HP.out wF5.out F5g F5m wF4.out F4g F4m 125).mono ?_); rintro en x80 ⟨rfl, hp_⟩; obtain ⟨z1, ez_⟩ : ∃ z, z = whereR 125 m c0 := ⟨_, rfl⟩; rw [← ez_] at hp_; obtain ⟨c1, m1⟩ := z1; have EZ := Aside0.mk ez_; clear ez_; have n0_ := Aside0.mk hp_; clear HP hp_; have HP := n0_; clear n0_))
  replace HP : Aside0 (PS.Sk wb w0 gr g gm x80 c1 m1) := HP
  clear qF7
  have n0_ := Aside0.mk (PS.Sk.below HP.out (below_drew (Below.refl _ _)))
  clear HP
  have HP := n0_
  clear n0_
  obtain ⟨l1, h1⟩ := Cu.wordV_bd (PS.Sk.good HP.out)
  refine start_ (n := 6) (S := fun w' => w'.cell? ⟨a5, 0, none⟩ = some (.pointer (some ⟨g, 0, none⟩)) ∧ w'.cell? ⟨a4, 0, none⟩ = some (.pointer (some ⟨gm, 0, none⟩))) (ds := []) (bm 6 0) (by as_aux_lemma => kernel_rfl) rfl (by as_aux_lemma => kernel_rfl) ⟨(PS.Sk.cell HP.out F5.out F5g F5m), (PS.Sk.cell HP.out F4.out F4g F4m)⟩ (fun hHeld => ?_)
  refine with_tabW both.tab1 both.bits1 (fun HT_ HW_ => ?_)
  refine tk_ 0 (some 5) (bm 6 1) HT_ HW_ hHeld (by as_aux_lemma => kernel_rfl) rfl rfl (fun _ _ _ h => h) (by rfl) (by rintro w' ⟨s0, s1⟩; go_simp; with_reducible rfl) (by go_simp; rfl) ?_
  refine tk_ 1 (some 6) (bm 6 3) HT_ HW_ hHeld (by as_aux_lemma => kernel_rfl) rfl rfl (fun _ _ _ h => h) (by rfl) (by rintro w' ⟨s0, s1⟩; go_simp; with_reducible rfl) (by go_simp; rfl) ?_
  refine one_ (i := 2) (N := some 7) (bm 6 7) rfl rfl (one_of HT_.out (by as_aux_lemma => kernel_rfl)) (by as_aux_lemma => decide) (fun K hK => ?_)
  refine goes_ Try.func37 (by as_aux_lemma => kernel_rfl) rfl #[.pointer (some ⟨g, 0, none⟩)] (by rfl) rfl rfl (by simp only [List.map_toArray, List.map_cons, List.map_nil]; rfl) ?_
  with_reducible refine (PS.Sk.word HP.out).mono ?_
  rintro en x1 ⟨rfl, hp_⟩
  obtain ⟨c2, ec_⟩ : ∃ z, z = c1.wordS := ⟨_, rfl⟩
  rw [← ec_] at hp_
  have Ec2 := Aside0.mk ec_
  clear ec_
  obtain ⟨kaddr2, faddr2⟩ := PS.Sk.at_addr2 hp_
  have n0_ := Aside0.mk hp_
  clear HP hp_
  have HP := n0_
  clear n0_
  refine ⟨_, rfl, ?_⟩
  refine hK.out _ _ ⟨(PS.Sk.cell HP.out F5.out F5g F5m), (PS.Sk.cell HP.out F4.out F4g F4m)⟩ (fun hHeld => ?_)
  clear hK K
  refine norm_ (a' := ?_) ?_ ?_
  rotate_left
  · show Act.put _ (some 7) _ = _
    simp only [Act.put, List.setIfInBounds_toArray, List.set_cons_zero, List.set_cons_succ, i64_w, i32_w]
    rfl
  refine pu_ 3 (some 8) (bm 6 15) HT_ (by as_aux_lemma => kernel_rfl) rfl rfl (fun _ _ _ h => h) (by rfl) (by intro w'; go_simp; with_reducible rfl) (by go_simp; rfl) ?_
  refine pu_ 4 (some 9) (bm 6 31) HT_ (by as_aux_lemma => kernel_rfl) rfl rfl (fun _ _ _ h => h) (by rfl) (by intro w'; go_simp; with_reducible rfl) (by go_simp; rfl) ?_
  refine one_ (i := 5) (N := none) (bm 6 63) rfl rfl (one_of HT_.out (by as_aux_lemma => kernel_rfl)) (by as_aux_lemma => decide) (fun K hK => ?_)
  refine skip_ (w1 := ?_) (by rfl) rfl ?_ ?_
  rotate_left
  · go_simp
    rfl
  have hp_ := HP.out.put_addr2 ⟨l1, h1⟩
  have n0_ := Aside0.mk hp_
  clear HP hp_
  have HP := n0_
  clear n0_
  refine hK.out _ _ ⟨(PS.Sk.cell HP.out F5.out F5g F5m), (PS.Sk.cell HP.out F4.out F4g F4m)⟩ (fun hHeld => ?_)
  clear hK K
  refine done_ (done_of HT_.out (by as_aux_lemma => kernel_rfl)) ?_
  clear kaddr2 faddr2
  go_upto_region 2 with (fail)
  have n0_ := Aside0.mk (PS.Sk.below HP.out (below_drew (Below.refl _ _)))
  clear HP
  have HP := n0_
  clear n0_
  obtain ⟨ln, hn⟩ := spanR_bd (PS.Sk.good HP.out) 121 c1.wordV
  refine start_ (n := 12) (S := fun w' => w'.cell? ⟨a5, 0, none⟩ = some (.pointer (some ⟨g, 0, none⟩)) ∧ w'.cell? ⟨a4, 0, none⟩ = some (.pointer (some ⟨gm, 0, none⟩)) ∧ w'.cell? ⟨gm, 7, none⟩ = some (.int .u16 c1.wordV)) (ds := []) (bm 12 0) (by as_aux_lemma => kernel_rfl) rfl (by as_aux_lemma => kernel_rfl) ⟨(PS.Sk.cell HP.out F5.out F5g F5m), (PS.Sk.cell HP.out F4.out F4g F4m), (PS.Sk.at_addr2 HP.out).1⟩ (fun hHeld => ?_)
  refine with_tabW both.tab2 both.bits2 (fun HT_ HW_ => ?_)
  refine tk_ 0 (some 10) (bm 12 1) HT_ HW_ hHeld (by as_aux_lemma => kernel_rfl) rfl rfl (fun _ _ _ h => h) (by rfl) (by rintro w' ⟨s0, s1, s2⟩; go_simp; with_reducible rfl) (by go_simp; rfl) ?_
  refine tk_ 1 (some 11) (bm 12 3) HT_ HW_ hHeld (by as_aux_lemma => kernel_rfl) rfl rfl (fun _ _ _ h => h) (by rfl) (by rintro w' ⟨s0, s1, s2⟩; go_simp; with_reducible rfl) (by go_simp; rfl) ?_
  refine tk_ 2 (some 12) (bm 12 7) HT_ HW_ hHeld (by as_aux_lemma => kernel_rfl) rfl rfl (fun _ _ _ h => h) (by rfl) (by rintro w' ⟨s0, s1, s2⟩; go_simp; with_reducible rfl) (by go_simp; rfl) ?_
  refine tk_ 3 (some 13) (bm 12 15) HT_ HW_ hHeld (by as_aux_lemma => kernel_rfl) rfl rfl (fun _ _ _ h => h) (by rfl) (by rintro w' ⟨s0, s1, s2⟩; go_simp; with_reducible rfl) (by go_simp; rfl) ?_
  refine pu_ 4 (some 14) (bm 12 31) HT_ (by as_aux_lemma => kernel_rfl) rfl rfl (fun _ _ _ h => h) (by rfl) (by intro w'; go_simp; with_reducible rfl) (by go_simp; rfl) ?_
  refine pu_ 5 (some 15) (bm 12 63) HT_ (by as_aux_lemma => kernel_rfl) rfl rfl (fun _ _ _ h => h) (by rfl) (by intro w'; go_simp; with_reducible rfl) (by go_simp; rfl) ?_
  refine tk_ 6 (some 16) (bm 12 127) HT_ HW_ hHeld (by as_aux_lemma => kernel_rfl) rfl rfl (fun _ _ _ h => h) (by rfl) (by rintro w' ⟨s0, s1, s2⟩; go_simp; with_reducible rfl) (by go_simp; rfl) ?_
  refine one_ (i := 7) (N := some 17) (bm 12 255) rfl rfl (one_of HT_.out (by as_aux_lemma => kernel_rfl)) (by as_aux_lemma => decide) (fun K hK => ?_)
  refine goes_ Try.func38 (by as_aux_lemma => kernel_rfl) rfl #[.pointer (some ⟨g, 0, none⟩), .int .u16 c1.wordV, .int .i64 121] (by rfl) rfl rfl (by simp only [List.map_toArray, List.map_cons, List.map_nil]; rfl) ?_
  with_reducible refine (span_any HP.out ⟨l1, h1⟩ 121).mono ?_
  rintro en x91 ⟨rfl, hp_⟩
  obtain ⟨z1, ez_⟩ : ∃ z, z = spanR 121 c1.wordV c2 := ⟨_, rfl⟩
  rw [← ez_] at hp_ ln hn ⊢
  obtain ⟨c3, n3⟩ := z1
  have ES := Aside0.mk ez_
  clear ez_
  replace hp_ : PS.Sk _ w0 gr g gm _ c3 _ := hp_
  replace ln : 0 ≤ n3 := ln
  replace hn : n3 < 65536 := hn
  have n0_ := Aside0.mk (hp_)
  clear HP
  have HP := n0_
  clear n0_
  clear hp_
  have HBW0 := Aside0.mk (countR_bd (PS.Sk.good HP.out) n3)
  refine ⟨_, rfl, ?_⟩
  refine hK.out _ _ ⟨(PS.Sk.cell HP.out F5.out F5g F5m), (PS.Sk.cell HP.out F4.out F4g F4m), (PS.Sk.at_addr2 HP.out).1⟩ (fun hHeld => ?_)
  clear hK K
  refine norm_ (a' := ?_) ?_ ?_
  rotate_left
  · show Act.put _ (some 17) _ = _
    simp only [Act.put, List.setIfInBounds_toArray, List.set_cons_zero, List.set_cons_succ, i64_w, i32_w]
    rfl
  refine one_ (i := 8) (N := some 18) (bm 12 511) rfl rfl (one_of HT_.out (by as_aux_lemma => kernel_rfl)) (by as_aux_lemma => decide) (fun K hK => ?_)
  refine goes_ Try.func46 (by as_aux_lemma => kernel_rfl) rfl #[.pointer (some ⟨g, 0, none⟩), .int .i64 (n3)] (by rfl) rfl rfl (by simp only [List.map_toArray, List.map_cons, List.map_nil]; rfl) ?_
  with_reducible refine (counted_any HP.out ⟨ln, hn⟩).mono ?_
  rintro en x95 ⟨A5, n5, rfl, hz_, hr_, hp_⟩
  obtain ⟨z1, ez_⟩ : ∃ z, z = countR (n3) c3 := ⟨_, rfl⟩
  rw [← ez_] at hp_ hr_ hz_ ⊢
  obtain ⟨c4, lw⟩ := z1
  have HBW := Aside0.mk (show ∀ x ∈ lw, 0 ≤ x ∧ x < 65536 from by have := HBW0.out; rw [← ez_] at this; exact this)
  have EL := Aside0.mk ez_
  clear ez_
  replace hp_ : PS.Sk _ w0 gr g gm _ c4 _ := hp_
  have R5 := Aside0.mk (show ∀ W', Kept _ W' (fun k => k = g ∨ k = gm ∨ k = gr) → Kd.C (Kd.int .u16) W' A5 lw.length lw from hr_)
  have R5z := Aside0.mk (show lw.length ≤ n5 from hz_)
  obtain ⟨Aw, nw, kw, fw⟩ := PS.Sk.at_words hp_
  have n0_ := Aside0.mk (hp_)
  clear HP
  have HP := n0_
  clear n0_
  clear hp_ hr_ hz_
  refine ⟨_, rfl, ?_⟩
  refine hK.out _ _ ⟨(PS.Sk.cell HP.out F5.out F5g F5m), (PS.Sk.cell HP.out F4.out F4g F4m), (PS.Sk.at_addr2 HP.out).1⟩ (fun hHeld => ?_)
  clear hK K
  refine norm_ (a' := ?_) ?_ ?_
  rotate_left
  · show Act.put _ (some 18) _ = _
    simp only [Act.put, List.setIfInBounds_toArray, List.set_cons_zero, List.set_cons_succ, i64_w, i32_w]
    rfl
  refine pu_ 9 (some 19) (bm 12 1023) HT_ (by as_aux_lemma => kernel_rfl) rfl rfl (fun _ _ _ h => h) (by rfl) (by intro w'; go_simp; with_reducible rfl) (by go_simp; rfl) ?_
  refine pu_ 10 (some 20) (bm 12 2047) HT_ (by as_aux_lemma => kernel_rfl) rfl rfl (fun _ _ _ h => h) (by rfl) (by intro w'; go_simp; with_reducible rfl) (by go_simp; rfl) ?_
  refine one_ (i := 11) (N := none) (bm 12 4095) rfl rfl (one_of HT_.out (by as_aux_lemma => kernel_rfl)) (by as_aux_lemma => decide) (fun K hK => ?_)
  refine skip_ (w1 := ?_) (by rfl) rfl ?_ ?_
  rotate_left
  · go_simp
    rfl
  have hp_ := HP.out.put_words R5z.out HBW.out R5.out
  have n0_ := Aside0.mk hp_
  clear HP hp_
  have HP := n0_
  clear n0_
  refine hK.out _ _ ⟨(PS.Sk.cell HP.out F5.out F5g F5m), (PS.Sk.cell HP.out F4.out F4g F4m), (PS.Sk.at_addr2 HP.out).1⟩ (fun hHeld => ?_)
  clear hK K
  refine done_ (done_of HT_.out (by as_aux_lemma => kernel_rfl)) ?_
  go_wp2
  have eq_ : bothR m c0 = (c4, { m1 with addr2 := c1.wordV, words := lw }) := by
    have e1 : bothR m c0 = bothK m1 c1 := by
      show bothK (whereR 125 m c0).2 (whereR 125 m c0).1 = _
      rw [← EZ.out]
    rw [e1]
    show ((countR (spanR 121 c1.wordV c1.wordS).2 (spanR 121 c1.wordV c1.wordS).1).1, ({ m1 with addr2 := c1.wordV, words := (countR (spanR 121 c1.wordV c1.wordS).2 (spanR 121 c1.wordV c1.wordS).1).2 } : Msg)) = _
    rw [← Ec2.out, ← ES.out]
    show ((countR n3 c3).1, ({ m1 with addr2 := c1.wordV, words := (countR n3 c3).2 } : Msg)) = _
    rw [← EL.out]
  rw [eq_]
  exact bodyPost_end (results_none rfl _ _ _) rfl (⟨rfl, HP.out⟩)
def queue.T4 : Bool × List (List Nat × List Nat) := (true, [([], []), ([], []), ([], []), ([1, 2], [1, 2]), ([0, 0, 1, 2, 3], [0]), ([4, 0, 1, 2, 3], [4]), ([5, 3, 3, 0, 1, 2, 3], [3, 5])])
def queue.B4 : List Nat := [0, 0, 0, 6, 15, 31, 63]
theorem queue.tab4 : rtab .any (opsOf Try.f50 4) = queue.T4 := by kernel_rfl
theorem queue.bits4 : waitsOk queue.T4.2 queue.B4 = true := by kernel_rfl
theorem queue_any {wb w0 w : World} {gr g gm : Nat} {c0 : Cu} {m : Msg} (h : PS.Sk wb w0 gr g gm w c0 m) {a5 : Nat} (f5 : wb.cell? ⟨a5, 0, none⟩ = some (.pointer (some ⟨g, 0, none⟩))) (F5g : a5 ≠ g) (F5m : a5 ≠ gm) {a4 : Nat} (f4 : wb.cell? ⟨a4, 0, none⟩ = some (.pointer (some ⟨gm, 0, none⟩))) (F4g : a4 ≠ g) (F4m : a4 ≠ gm) :
    Calls Try.prog 50 #[.pointer (some ⟨a5, 0, none⟩), .pointer (some ⟨a4, 0, none⟩)] w fun en w' => en = .returned (.tuple #[]) ∧ PS.Sk wb w0 gr g gm w' (queueR m c0).1 (queueR m c0).2 := by
  have HP := Aside0.mk h
  have F5 := Aside0.mk f5
  have F4 := Aside0.mk f4
  clear h f5 f4
  go_enter Try.func50, Try.ntmps50
  have qF5 := PS.Sk.cell HP.out F5.out F5g F5m
  go_upto_region 1 with (first | (go_at_call 37; obtain ⟨l0, h0⟩ := Cu.wordV_bd (PS.Sk.good HP.out); (with_reducible refine (PS.Sk.word HP.out).mono ?_); rintro en x1 ⟨rfl, hp_⟩; obtain ⟨c1, ec_⟩ : ∃ z, z = c0.wordS := ⟨_, rfl⟩; rw [← ec_] at hp_; have Ec1 := Aside0.mk ec_; clear ec_; have n0_ := Aside0.mk hp_; clear HP hp_; have HP := n0_; clear n0_))
  have wk := wrap64_id (x := c0.wordV) (by omega) (by omega)
  have wkb : IntKind.i64.wrap (c0.wordV) = c0.wordV := by rw [i64_w]; exact wk
  clear qF5
  have qF5 := PS.Sk.cell HP.out F5.out F5g F5m
  obtain ⟨c2, e_⟩ : ∃ z, z = c1.need (c0.wordV % 2 == 0 && (decide (2 ≤ c0.wordV) && decide (c0.wordV ≤ 64))) 5 := ⟨_, rfl⟩
  have Ec2 := Aside0.mk e_
  clear e_
  go_cut [] from 7 to 20 (fun wx => Aside0 (PS.Sk wb w0 gr g gm wx c2 (m)))
  case first =>
    cases hs0_ : (c0.wordV % 2 == 0) with
    | true =>
      have hs0a_ : (c0.wordV % 2 != 0) = false := by first | exact hs0_ | (rw [bne, hs0_]; rfl) | (have := hs0_; rw [bne] at this; simpa using this)
      have hs0t_ : (Int.tmod c0.wordV 2 == 0) = true := by rw [Int.tmod_eq_emod_of_nonneg (by omega)]; exact hs0_
      cases hs1_ : (decide (2 ≤ c0.wordV)) with
      | true =>
        have hs1a_ : (decide (c0.wordV ≥ 2)) = true := by first | exact hs1_ | (rw [bne, hs1_]; rfl) | (have := hs1_; rw [bne] at this; simpa using this)
        have eb_ : (c0.wordV % 2 == 0 && (decide (2 ≤ c0.wordV) && decide (c0.wordV ≤ 64))) = (decide (c0.wordV ≤ 64)) := by first | (simp only [hs0_, hs1_]; first | rfl | (simp; done)) | (simp [hs0_, hs1_]; done) | (simp only [bne, hs0_, hs1_]; first | rfl | (simp; done))
        have EB_ := Aside0.mk eb_
        clear eb_
        go_wp2_with (first | (go_at_call 42; (with_reducible refine (PS.Sk.need HP.out (decide (c0.wordV ≤ 64)) 5).mono ?_); rintro en x2 ⟨rfl, hp_⟩; have n0_ := Aside0.mk hp_; clear HP hp_; have HP := n0_; clear n0_))
        go_meet
        rw [Ec2.out, EB_.out]
        exact HP
      | false =>
        have hs1a_ : (decide (c0.wordV ≥ 2)) = false := by first | exact hs1_ | (rw [bne, hs1_]; rfl) | (have := hs1_; rw [bne] at this; simpa using this)
        have eb_ : (c0.wordV % 2 == 0 && (decide (2 ≤ c0.wordV) && decide (c0.wordV ≤ 64))) = (false) := by first | (simp only [hs0_, hs1_]; first | rfl | (simp; done)) | (simp [hs0_, hs1_]; done) | (simp only [bne, hs0_, hs1_]; first | rfl | (simp; done))
        have EB_ := Aside0.mk eb_
        clear eb_
        go_wp2_with (first | (go_at_call 42; (with_reducible refine (PS.Sk.need HP.out (false) 5).mono ?_); rintro en x2 ⟨rfl, hp_⟩; have n0_ := Aside0.mk hp_; clear HP hp_; have HP := n0_; clear n0_))
        go_meet
        rw [Ec2.out, EB_.out]
        exact HP
    | false =>
      have hs0a_ : (c0.wordV % 2 != 0) = true := by first | exact hs0_ | (rw [bne, hs0_]; rfl) | (have := hs0_; rw [bne] at this; simpa using this)
      have hs0t_ : (Int.tmod c0.wordV 2 == 0) = false := by rw [Int.tmod_eq_emod_of_nonneg (by omega)]; exact hs0_
      have eb_ : (c0.wordV % 2 == 0 && (decide (2 ≤ c0.wordV) && decide (c0.wordV ≤ 64))) = (false) := by first | (simp only [hs0_]; first | rfl | (simp; done)) | (simp [hs0_]; done) | (simp only [bne, hs0_]; first | rfl | (simp; done))
      have EB_ := Aside0.mk eb_
      clear eb_
      go_wp2_with (first | (go_at_call 42; (with_reducible refine (PS.Sk.need HP.out (false) 5).mono ?_); rintro en x2 ⟨rfl, hp_⟩; have n0_ := Aside0.mk hp_; clear HP hp_; have HP := n0_; clear n0_))
      go_meet
      rw [Ec2.out, EB_.out]
      exact HP
  case rest =>
  clear HP
  have HP := hcut
  clear hcut
  clear qF5
  have qF5 := PS.Sk.cell HP.out F5.out F5g F5m
  go_upto_region 3 with (first | (go_at_call 37; obtain ⟨l2, h2⟩ := Cu.wordV_bd (PS.Sk.good HP.out); (with_reducible refine (PS.Sk.word HP.out).mono ?_); rintro en x3 ⟨rfl, hp_⟩; obtain ⟨c3, ec_⟩ : ∃ z, z = c2.wordS := ⟨_, rfl⟩; rw [← ec_] at hp_; have Ec3 := Aside0.mk ec_; clear ec_; have n0_ := Aside0.mk hp_; clear HP hp_; have HP := n0_; clear n0_))
  have wk2 := wrap64_id (x := c2.wordV) (by omega) (by omega)
  have wk2b : IntKind.i64.wrap (c2.wordV) = c2.wordV := by rw [i64_w]; exact wk2
  have w3 := wrap64_id (x := 2 * c2.wordV) (by omega) (by omega)
  have w4 := wrap64_id (x := 2 + 2 * c2.wordV) (by omega) (by omega)
  clear qF5
  have qF5 := PS.Sk.cell HP.out F5.out F5g F5m
  go_upto_region 4 with (first | (go_at_call 42; (with_reducible refine (PS.Sk.need HP.out (2 + 2 * c2.wordV == c0.wordV) 5).mono ?_); rintro en x4 ⟨rfl, hp_⟩; obtain ⟨c4, ec_⟩ : ∃ z, z = c3.need (2 + 2 * c2.wordV == c0.wordV) 5 := ⟨_, rfl⟩; rw [← ec_] at hp_; have Ec4 := Aside0.mk ec_; clear ec_; have n0_ := Aside0.mk hp_; clear HP hp_; have HP := n0_; clear n0_))
  clear qF5
  have n0_ := Aside0.mk (PS.Sk.below HP.out (below_drew (Below.refl _ _)))
  clear HP
  have HP := n0_
  clear n0_
  have HBY := Aside0.mk (Cu.wordsV_bd (PS.Sk.good HP.out) (c2.wordV))
  refine start_ (n := 7) (S := fun w' => w'.cell? ⟨a5, 0, none⟩ = some (.pointer (some ⟨g, 0, none⟩)) ∧ w'.cell? ⟨a4, 0, none⟩ = some (.pointer (some ⟨gm, 0, none⟩))) (ds := []) (bm 7 0) (by as_aux_lemma => kernel_rfl) rfl (by as_aux_lemma => kernel_rfl) ⟨(PS.Sk.cell HP.out F5.out F5g F5m), (PS.Sk.cell HP.out F4.out F4g F4m)⟩ (fun hHeld => ?_)
  refine with_tabW queue.tab4 queue.bits4 (fun HT_ HW_ => ?_)
  refine pu_ 2 (some 32) (bm 7 4) HT_ (by as_aux_lemma => kernel_rfl) rfl rfl (fun _ _ _ h => h) (by rfl) (by intro w'; go_simp; with_reducible rfl) (by go_simp; rfl) ?_
  refine tk_ 0 (some 30) (bm 7 5) HT_ HW_ hHeld (by as_aux_lemma => kernel_rfl) rfl rfl (fun _ _ _ h => h) (by rfl) (by rintro w' ⟨s0, s1⟩; go_simp; with_reducible rfl) (by go_simp; rfl) ?_
  refine tk_ 1 (some 31) (bm 7 7) HT_ HW_ hHeld (by as_aux_lemma => kernel_rfl) rfl rfl (fun _ _ _ h => h) (by rfl) (by rintro w' ⟨s0, s1⟩; go_simp; with_reducible rfl) (by go_simp; rfl) ?_
  refine one_ (i := 3) (N := some 33) (bm 7 15) rfl rfl (one_of HT_.out (by as_aux_lemma => kernel_rfl)) (by as_aux_lemma => decide) (fun K hK => ?_)
  refine goes_ Try.func43 (by as_aux_lemma => kernel_rfl) rfl #[.pointer (some ⟨g, 0, none⟩), .int .i64 (c2.wordV)] (by rfl) rfl rfl (by simp only [List.map_toArray, List.map_cons, List.map_nil]; rfl) ?_
  with_reducible refine (PS.Sk.words HP.out (c2.wordV)).mono ?_
  rintro en x5 ⟨A5, n5, rfl, hz_, hr_, hp_⟩
  obtain ⟨c5, ec_⟩ : ∃ z, z = c4.wordsS (c2.wordV) := ⟨_, rfl⟩
  rw [← ec_] at hp_
  have Ec5 := Aside0.mk ec_
  clear ec_
  have R5 := Aside0.mk hr_
  have R5z := Aside0.mk hz_
  clear hr_ hz_
  have n0_ := Aside0.mk hp_
  clear HP hp_
  have HP := n0_
  clear n0_
  obtain ⟨Aw, nw, kw, fw⟩ := PS.Sk.at_words HP.out
  refine ⟨_, rfl, ?_⟩
  refine hK.out _ _ ⟨(PS.Sk.cell HP.out F5.out F5g F5m), (PS.Sk.cell HP.out F4.out F4g F4m)⟩ (fun hHeld => ?_)
  clear hK K
  refine norm_ (a' := ?_) ?_ ?_
  rotate_left
  · show Act.put _ (some 33) _ = _
    simp only [Act.put, List.setIfInBounds_toArray, List.set_cons_zero, List.set_cons_succ, i64_w, i32_w]
    rfl
  refine pu_ 4 (some 34) (bm 7 31) HT_ (by as_aux_lemma => kernel_rfl) rfl rfl (fun _ _ _ h => h) (by rfl) (by intro w'; go_simp; with_reducible rfl) (by go_simp; rfl) ?_
  refine pu_ 5 (some 35) (bm 7 63) HT_ (by as_aux_lemma => kernel_rfl) rfl rfl (fun _ _ _ h => h) (by rfl) (by intro w'; go_simp; with_reducible rfl) (by go_simp; rfl) ?_
  refine one_ (i := 6) (N := none) (bm 7 127) rfl rfl (one_of HT_.out (by as_aux_lemma => kernel_rfl)) (by as_aux_lemma => decide) (fun K hK => ?_)
  refine skip_ (w1 := ?_) (by rfl) rfl ?_ ?_
  rotate_left
  · go_simp
    rfl
  have hp_ := HP.out.put_words R5z.out HBY.out R5.out
  have n0_ := Aside0.mk hp_
  clear HP hp_
  have HP := n0_
  clear n0_
  refine hK.out _ _ ⟨(PS.Sk.cell HP.out F5.out F5g F5m), (PS.Sk.cell HP.out F4.out F4g F4m)⟩ (fun hHeld => ?_)
  clear hK K
  refine done_ (done_of HT_.out (by as_aux_lemma => kernel_rfl)) ?_
  go_wp2
  have eq_ : queueR m c0 = (c5, { m with words := c4.wordsV c2.wordV }) := by
    rw [Ec5.out, Ec4.out, Ec3.out, Ec2.out, Ec1.out]
    rfl
  rw [eq_]
  exact bodyPost_end (results_none rfl _ _ _) rfl (⟨rfl, HP.out⟩)
end Go.Proofs.Ytmglilncdffbkaa.Reg
end
