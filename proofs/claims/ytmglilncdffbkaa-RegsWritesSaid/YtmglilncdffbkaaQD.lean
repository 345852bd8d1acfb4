/- What the laws of this chapter rest on, part 4: what the functions that they reach answer, each shown once. Conditions: what each theorem states. (Merged by a program of this session, wip/tools/merge.py, out of its own texts and of the words that the kit's print wrote for this seat, cut to those that are used.) -/
import Derived.Laws.EntriesVeiled
import Derived.Test.YtmglilncdffbkaaQC
set_option linter.unusedVariables false
set_option linter.unusedSimpArgs false
set_option maxHeartbeats 16000000
set_option maxRecDepth 100000
section
namespace Go.Proofs.Ytmglilncdffbkaa.Reg
open Go.RowKit Go.Proofs.Ytmglilncdffbkaa.P Go.Proofs.Ytmglilncdffbkaa.E Go.Proofs.Ytmglilncdffbkaa.Cur Go.Proofs.Ytmglilncdffbkaa.Cu Go.Proofs.Ytmglilncdffbkaa.Same Go.Proofs.YtmglilncdffbkaaW.PrintWords Go.Proofs.YtmglilncdffbkaaW.PrintLast Go.Proofs.YtmglilncdffbkaaW.PrintMore
theorem eq_func (fn : Fn) (first cap : Array Value) (w : World) : (binOp .eql 1 (.func fn first cap) .nilFunc).run Try.prog w = .ok (.bool false) w := by kernel_rfl
theorem eq_nilf (w : World) : (binOp .eql 1 .nilFunc .nilFunc).run Try.prog w = .ok (.bool true) w := by kernel_rfl
theorem form_0_no {code : Int} (hk : ¬ isCode code) {w : World} {g gm : Nat} (kc : w.cell? ⟨gm, 0, none⟩ = some (.int .u8 code)) :
    Calls Try.prog 21 #[.int .i64 0, .pointer (some ⟨gm, 0, none⟩), .pointer (some ⟨g, 0, none⟩)] w fun en w' => ∃ a4 a5 a7 a8 : Nat, en = .returned (.nilFunc) ∧ (w'.cell? ⟨a4, 0, none⟩ = some (.pointer (some ⟨gm, 0, none⟩)) ∧ w'.cell? ⟨a5, 0, none⟩ = some (.pointer (some ⟨g, 0, none⟩)) ∧ w'.cell? ⟨a7, 0, none⟩ = some (.func (.func 36) #[] #[.pointer (some ⟨a5, 0, none⟩), .pointer (some ⟨a4, 0, none⟩)]) ∧ w'.cell? ⟨a8, 0, none⟩ = some (.bool true)) ∧ w.heap.size ≤ a4 ∧ w.heap.size ≤ a5 ∧ w.heap.size ≤ a7 ∧ w.heap.size ≤ a8 ∧ Below w.heap.size w w' := by
  have KC := Aside0.mk kc
  have HB := Aside0.mk (Below.refl w.heap.size w)
  have b3 : (code == 3) = false := beq_eq_false_iff_ne.2 (fun e => hk (by unfold isCode; omega))
  have b4 : (code == 4) = false := beq_eq_false_iff_ne.2 (fun e => hk (by unfold isCode; omega))
  have b6 : (code == 6) = false := beq_eq_false_iff_ne.2 (fun e => hk (by unfold isCode; omega))
  have b16 : (code == 16) = false := beq_eq_false_iff_ne.2 (fun e => hk (by unfold isCode; omega))
  have b22 : (code == 22) = false := beq_eq_false_iff_ne.2 (fun e => hk (by unfold isCode; omega))
  have b23 : (code == 23) = false := beq_eq_false_iff_ne.2 (fun e => hk (by unfold isCode; omega))
  have b24 : (code == 24) = false := beq_eq_false_iff_ne.2 (fun e => hk (by unfold isCode; omega))
  clear kc hk
  have hmf : ∀ (fn : Fn) (first cap : Array Value) (w : World), (Instr.makeFunc fn first cap).run Try.prog w = .ok (.func fn first cap) w := fun _ _ _ _ => rfl
  go_enter Try.func21, Try.ntmps21
  go_upto_region 1 with (first | ((with_reducible refine gate_dst (N := 4) rfl ?_); refine box_event ?hg (N := 4) ?hd (cs := #[.pointer (some ⟨gm, 0, none⟩)]) (t := 51) ?hr ?_; (case hd => rfl); (case hg => rfl); (case hr => first | (go_simp; done) | (go_simp; rfl)); intro a4 hg_ w4 h1_ hb_; have K4 := Aside0.mk h1_; have L4 := Aside0.mk (show w.heap.size ≤ a4 from by rw [hg_]; exact HB.out.size); have n0_ := Aside0.mk (HB.out.trans (hb_.mono HB.out.size)); clear HB hb_ h1_ hg_; have HB := n0_; clear n0_) | ((with_reducible refine gate_dst (N := 5) rfl ?_); refine box_event ?hg (N := 5) ?hd (cs := #[.pointer (some ⟨g, 0, none⟩)]) (t := 48) ?hr ?_; (case hd => rfl); (case hg => rfl); (case hr => first | (go_simp; done) | (go_simp; rfl)); intro a5 hg_ w5 h1_ hb_; have K5 := Aside0.mk h1_; have L5 := Aside0.mk (show w.heap.size ≤ a5 from by rw [hg_]; exact HB.out.size); have n0_ := Aside0.mk (blk_below K4.out hb_); clear K4; have K4 := n0_; clear n0_; have n0_ := Aside0.mk (HB.out.trans (hb_.mono HB.out.size)); clear HB hb_ h1_ hg_; have HB := n0_; clear n0_))
  go_upto_region 3 with (fail)
  clear hmf
  have B8 := Aside0.mk (((Below.refl w5.heap.size w5).alloc (Nat.le_refl _) (.cells #[.func (.func 36) #[] #[.pointer (some ⟨a5, 0, none⟩), .pointer (some ⟨a4, 0, none⟩)]] 73 (0, 0))).alloc (by rw [World.size_alloc]; omega) (.cells #[.bool true] 4 (0, 0)))
  have k4 : ((w5.alloc (.cells #[.func (.func 36) #[] #[.pointer (some ⟨a5, 0, none⟩), .pointer (some ⟨a4, 0, none⟩)]] 73 (0, 0))).alloc (.cells #[.bool true] 4 (0, 0))).cell? ⟨a4, 0, none⟩ = some (.pointer (some ⟨gm, 0, none⟩)) := (blk_cell (blk_below K4.out B8.out) 0).trans rfl
  have k5 : ((w5.alloc (.cells #[.func (.func 36) #[] #[.pointer (some ⟨a5, 0, none⟩), .pointer (some ⟨a4, 0, none⟩)]] 73 (0, 0))).alloc (.cells #[.bool true] 4 (0, 0))).cell? ⟨a5, 0, none⟩ = some (.pointer (some ⟨g, 0, none⟩)) := (blk_cell (blk_below K5.out B8.out) 0).trans rfl
  have k7 : ((w5.alloc (.cells #[.func (.func 36) #[] #[.pointer (some ⟨a5, 0, none⟩), .pointer (some ⟨a4, 0, none⟩)]] 73 (0, 0))).alloc (.cells #[.bool true] 4 (0, 0))).cell? ⟨w5.heap.size, 0, none⟩ = some (.func (.func 36) #[] #[.pointer (some ⟨a5, 0, none⟩), .pointer (some ⟨a4, 0, none⟩)]) := (blk_cell (blk_below (blk_new w5 (.cells #[.func (.func 36) #[] #[.pointer (some ⟨a5, 0, none⟩), .pointer (some ⟨a4, 0, none⟩)]] 73 (0, 0))) (below_alloc (Below.refl _ _) _)) 0).trans rfl
  have k8 : ((w5.alloc (.cells #[.func (.func 36) #[] #[.pointer (some ⟨a5, 0, none⟩), .pointer (some ⟨a4, 0, none⟩)]] 73 (0, 0))).alloc (.cells #[.bool true] 4 (0, 0))).cell? ⟨(w5.heap.size + 1), 0, none⟩ = some (.bool true) := (blk_cell (show ((w5.alloc (.cells #[.func (.func 36) #[] #[.pointer (some ⟨a5, 0, none⟩), .pointer (some ⟨a4, 0, none⟩)]] 73 (0, 0))).alloc (.cells #[.bool true] 4 (0, 0))).heap[w5.heap.size + 1]? = some (.cells #[.bool true] 4 (0, 0)) from by have h := blk_new (w5.alloc (.cells #[.func (.func 36) #[] #[.pointer (some ⟨a5, 0, none⟩), .pointer (some ⟨a4, 0, none⟩)]] 73 (0, 0))) (.cells #[.bool true] 4 (0, 0)); rw [World.size_alloc] at h; exact h) 0).trans rfl
  have HB8 := Aside0.mk (HB.out.trans (B8.out.mono HB.out.size))
  have kcc : ((w5.alloc (.cells #[.func (.func 36) #[] #[.pointer (some ⟨a5, 0, none⟩), .pointer (some ⟨a4, 0, none⟩)]] 73 (0, 0))).alloc (.cells #[.bool true] 4 (0, 0))).cell? ⟨gm, 0, none⟩ = some (.int .u8 code) := (HB8.out.cell (World.block_lt_of_cell? _ _ KC.out)).trans KC.out
  have hmf : ∀ (fn : Fn) (first cap : Array Value) (w : World), (Instr.makeFunc fn first cap).run Try.prog w = .ok (.func fn first cap) w := fun _ _ _ _ => rfl
  go_wp2
  go_ret
  exact ⟨a4, a5, w5.heap.size, (w5.heap.size + 1), rfl, ⟨k4, k5, k7, k8⟩, L4.out, L5.out, HB.out.size, Nat.le_succ_of_le HB.out.size, HB8.out⟩
theorem form_0_3 {w : World} {g gm : Nat} (kc : w.cell? ⟨gm, 0, none⟩ = some (.int .u8 3)) :
    Calls Try.prog 21 #[.int .i64 0, .pointer (some ⟨gm, 0, none⟩), .pointer (some ⟨g, 0, none⟩)] w fun en w' => ∃ a4 a5 a7 a8 : Nat, en = .returned (.func (.func 39) #[] #[.pointer (some ⟨a7, 0, none⟩)]) ∧ (w'.cell? ⟨a4, 0, none⟩ = some (.pointer (some ⟨gm, 0, none⟩)) ∧ w'.cell? ⟨a5, 0, none⟩ = some (.pointer (some ⟨g, 0, none⟩)) ∧ w'.cell? ⟨a7, 0, none⟩ = some (.func (.func 36) #[] #[.pointer (some ⟨a5, 0, none⟩), .pointer (some ⟨a4, 0, none⟩)]) ∧ w'.cell? ⟨a8, 0, none⟩ = some (.bool true)) ∧ w.heap.size ≤ a4 ∧ w.heap.size ≤ a5 ∧ w.heap.size ≤ a7 ∧ w.heap.size ≤ a8 ∧ Below w.heap.size w w' := by
  have KC := Aside0.mk kc
  have HB := Aside0.mk (Below.refl w.heap.size w)
  clear kc
  have hmf : ∀ (fn : Fn) (first cap : Array Value) (w : World), (Instr.makeFunc fn first cap).run Try.prog w = .ok (.func fn first cap) w := fun _ _ _ _ => rfl
  go_enter Try.func21, Try.ntmps21
  go_upto_region 1 with (first | ((with_reducible refine gate_dst (N := 4) rfl ?_); refine box_event ?hg (N := 4) ?hd (cs := #[.pointer (some ⟨gm, 0, none⟩)]) (t := 51) ?hr ?_; (case hd => rfl); (case hg => rfl); (case hr => first | (go_simp; done) | (go_simp; rfl)); intro a4 hg_ w4 h1_ hb_; have K4 := Aside0.mk h1_; have L4 := Aside0.mk (show w.heap.size ≤ a4 from by rw [hg_]; exact HB.out.size); have n0_ := Aside0.mk (HB.out.trans (hb_.mono HB.out.size)); clear HB hb_ h1_ hg_; have HB := n0_; clear n0_) | ((with_reducible refine gate_dst (N := 5) rfl ?_); refine box_event ?hg (N := 5) ?hd (cs := #[.pointer (some ⟨g, 0, none⟩)]) (t := 48) ?hr ?_; (case hd => rfl); (case hg => rfl); (case hr => first | (go_simp; done) | (go_simp; rfl)); intro a5 hg_ w5 h1_ hb_; have K5 := Aside0.mk h1_; have L5 := Aside0.mk (show w.heap.size ≤ a5 from by rw [hg_]; exact HB.out.size); have n0_ := Aside0.mk (blk_below K4.out hb_); clear K4; have K4 := n0_; clear n0_; have n0_ := Aside0.mk (HB.out.trans (hb_.mono HB.out.size)); clear HB hb_ h1_ hg_; have HB := n0_; clear n0_))
  go_upto_region 3 with (fail)
  clear hmf
  have B8 := Aside0.mk (((Below.refl w5.heap.size w5).alloc (Nat.le_refl _) (.cells #[.func (.func 36) #[] #[.pointer (some ⟨a5, 0, none⟩), .pointer (some ⟨a4, 0, none⟩)]] 73 (0, 0))).alloc (by rw [World.size_alloc]; omega) (.cells #[.bool true] 4 (0, 0)))
  have k4 : ((w5.alloc (.cells #[.func (.func 36) #[] #[.pointer (some ⟨a5, 0, none⟩), .pointer (some ⟨a4, 0, none⟩)]] 73 (0, 0))).alloc (.cells #[.bool true] 4 (0, 0))).cell? ⟨a4, 0, none⟩ = some (.pointer (some ⟨gm, 0, none⟩)) := (blk_cell (blk_below K4.out B8.out) 0).trans rfl
  have k5 : ((w5.alloc (.cells #[.func (.func 36) #[] #[.pointer (some ⟨a5, 0, none⟩), .pointer (some ⟨a4, 0, none⟩)]] 73 (0, 0))).alloc (.cells #[.bool true] 4 (0, 0))).cell? ⟨a5, 0, none⟩ = some (.pointer (some ⟨g, 0, none⟩)) := (blk_cell (blk_below K5.out B8.out) 0).trans rfl
  have k7 : ((w5.alloc (.cells #[.func (.func 36) #[] #[.pointer (some ⟨a5, 0, none⟩), .pointer (some ⟨a4, 0, none⟩)]] 73 (0, 0))).alloc (.cells #[.bool true] 4 (0, 0))).cell? ⟨w5.heap.size, 0, none⟩ = some (.func (.func 36) #[] #[.pointer (some ⟨a5, 0, none⟩), .pointer (some ⟨a4, 0, none⟩)]) := (blk_cell (blk_below (blk_new w5 (.cells #[.func (.func 36) #[] #[.pointer (some ⟨a5, 0, none⟩), .pointer (some ⟨a4, 0, none⟩)]] 73 (0, 0))) (below_alloc (Below.refl _ _) _)) 0).trans rfl
  have k8 : ((w5.alloc (.cells #[.func (.func 36) #[] #[.pointer (some ⟨a5, 0, none⟩), .pointer (some ⟨a4, 0, none⟩)]] 73 (0, 0))).alloc (.cells #[.bool true] 4 (0, 0))).cell? ⟨(w5.heap.size + 1), 0, none⟩ = some (.bool true) := (blk_cell (show ((w5.alloc (.cells #[.func (.func 36) #[] #[.pointer (some ⟨a5, 0, none⟩), .pointer (some ⟨a4, 0, none⟩)]] 73 (0, 0))).alloc (.cells #[.bool true] 4 (0, 0))).heap[w5.heap.size + 1]? = some (.cells #[.bool true] 4 (0, 0)) from by have h := blk_new (w5.alloc (.cells #[.func (.func 36) #[] #[.pointer (some ⟨a5, 0, none⟩), .pointer (some ⟨a4, 0, none⟩)]] 73 (0, 0))) (.cells #[.bool true] 4 (0, 0)); rw [World.size_alloc] at h; exact h) 0).trans rfl
  have HB8 := Aside0.mk (HB.out.trans (B8.out.mono HB.out.size))
  have kcc : ((w5.alloc (.cells #[.func (.func 36) #[] #[.pointer (some ⟨a5, 0, none⟩), .pointer (some ⟨a4, 0, none⟩)]] 73 (0, 0))).alloc (.cells #[.bool true] 4 (0, 0))).cell? ⟨gm, 0, none⟩ = some (.int .u8 3) := (HB8.out.cell (World.block_lt_of_cell? _ _ KC.out)).trans KC.out
  have hmf : ∀ (fn : Fn) (first cap : Array Value) (w : World), (Instr.makeFunc fn first cap).run Try.prog w = .ok (.func fn first cap) w := fun _ _ _ _ => rfl
  go_wp2
  go_ret
  exact ⟨a4, a5, w5.heap.size, (w5.heap.size + 1), rfl, ⟨k4, k5, k7, k8⟩, L4.out, L5.out, HB.out.size, Nat.le_succ_of_le HB.out.size, HB8.out⟩
theorem form_0_4 {w : World} {g gm : Nat} (kc : w.cell? ⟨gm, 0, none⟩ = some (.int .u8 4)) :
    Calls Try.prog 21 #[.int .i64 0, .pointer (some ⟨gm, 0, none⟩), .pointer (some ⟨g, 0, none⟩)] w fun en w' => ∃ a4 a5 a7 a8 : Nat, en = .returned (.func (.func 39) #[] #[.pointer (some ⟨a7, 0, none⟩)]) ∧ (w'.cell? ⟨a4, 0, none⟩ = some (.pointer (some ⟨gm, 0, none⟩)) ∧ w'.cell? ⟨a5, 0, none⟩ = some (.pointer (some ⟨g, 0, none⟩)) ∧ w'.cell? ⟨a7, 0, none⟩ = some (.func (.func 36) #[] #[.pointer (some ⟨a5, 0, none⟩), .pointer (some ⟨a4, 0, none⟩)]) ∧ w'.cell? ⟨a8, 0, none⟩ = some (.bool true)) ∧ w.heap.size ≤ a4 ∧ w.heap.size ≤ a5 ∧ w.heap.size ≤ a7 ∧ w.heap.size ≤ a8 ∧ Below w.heap.size w w' := by
  have KC := Aside0.mk kc
  have HB := Aside0.mk (Below.refl w.heap.size w)
  clear kc
  have hmf : ∀ (fn : Fn) (first cap : Array Value) (w : World), (Instr.makeFunc fn first cap).run Try.prog w = .ok (.func fn first cap) w := fun _ _ _ _ => rfl
  go_enter Try.func21, Try.ntmps21
  go_upto_region 1 with (first | ((with_reducible refine gate_dst (N := 4) rfl ?_); refine box_event ?hg (N := 4) ?hd (cs := #[.pointer (some ⟨gm, 0, none⟩)]) (t := 51) ?hr ?_; (case hd => rfl); (case hg => rfl); (case hr => first | (go_simp; done) | (go_simp; rfl)); intro a4 hg_ w4 h1_ hb_; have K4 := Aside0.mk h1_; have L4 := Aside0.mk (show w.heap.size ≤ a4 from by rw [hg_]; exact HB.out.size); have n0_ := Aside0.mk (HB.out.trans (hb_.mono HB.out.size)); clear HB hb_ h1_ hg_; have HB := n0_; clear n0_) | ((with_reducible refine gate_dst (N := 5) rfl ?_); refine box_event ?hg (N := 5) ?hd (cs := #[.pointer (some ⟨g, 0, none⟩)]) (t := 48) ?hr ?_; (case hd => rfl); (case hg => rfl); (case hr => first | (go_simp; done) | (go_simp; rfl)); intro a5 hg_ w5 h1_ hb_; have K5 := Aside0.mk h1_; have L5 := Aside0.mk (show w.heap.size ≤ a5 from by rw [hg_]; exact HB.out.size); have n0_ := Aside0.mk (blk_below K4.out hb_); clear K4; have K4 := n0_; clear n0_; have n0_ := Aside0.mk (HB.out.trans (hb_.mono HB.out.size)); clear HB hb_ h1_ hg_; have HB := n0_; clear n0_))
  go_upto_region 3 with (fail)
  clear hmf
  have B8 := Aside0.mk (((Below.refl w5.heap.size w5).alloc (Nat.le_refl _) (.cells #[.func (.func 36) #[] #[.pointer (some ⟨a5, 0, none⟩), .pointer (some ⟨a4, 0, none⟩)]] 73 (0, 0))).alloc (by rw [World.size_alloc]; omega) (.cells #[.bool true] 4 (0, 0)))
  have k4 : ((w5.alloc (.cells #[.func (.func 36) #[] #[.pointer (some ⟨a5, 0, none⟩), .pointer (some ⟨a4, 0, none⟩)]] 73 (0, 0))).alloc (.cells #[.bool true] 4 (0, 0))).cell? ⟨a4, 0, none⟩ = some (.pointer (some ⟨gm, 0, none⟩)) := (blk_cell (blk_below K4.out B8.out) 0).trans rfl
  have k5 : ((w5.alloc (.cells #[.func (.func 36) #[] #[.pointer (some ⟨a5, 0, none⟩), .pointer (some ⟨a4, 0, none⟩)]] 73 (0, 0))).alloc (.cells #[.bool true] 4 (0, 0))).cell? ⟨a5, 0, none⟩ = some (.pointer (some ⟨g, 0, none⟩)) := (blk_cell (blk_below K5.out B8.out) 0).trans rfl
  have k7 : ((w5.alloc (.cells #[.func (.func 36) #[] #[.pointer (some ⟨a5, 0, none⟩), .pointer (some ⟨a4, 0, none⟩)]] 73 (0, 0))).alloc (.cells #[.bool true] 4 (0, 0))).cell? ⟨w5.heap.size, 0, none⟩ = some (.func (.func 36) #[] #[.pointer (some ⟨a5, 0, none⟩), .pointer (some ⟨a4, 0, none⟩)]) := (blk_cell (blk_below (blk_new w5 (.cells #[.func (.func 36) #[] #[.pointer (some ⟨a5, 0, none⟩), .pointer (some ⟨a4, 0, none⟩)]] 73 (0, 0))) (below_alloc (Below.refl _ _) _)) 0).trans rfl
  have k8 : ((w5.alloc (.cells #[.func (.func 36) #[] #[.pointer (some ⟨a5, 0, none⟩), .pointer (some ⟨a4, 0, none⟩)]] 73 (0, 0))).alloc (.cells #[.bool true] 4 (0, 0))).cell? ⟨(w5.heap.size + 1), 0, none⟩ = some (.bool true) := (blk_cell (show ((w5.alloc (.cells #[.func (.func 36) #[] #[.pointer (some ⟨a5, 0, none⟩), .pointer (some ⟨a4, 0, none⟩)]] 73 (0, 0))).alloc (.cells #[.bool true] 4 (0, 0))).heap[w5.heap.size + 1]? = some (.cells #[.bool true] 4 (0, 0)) from by have h := blk_new (w5.alloc (.cells #[.func (.func 36) #[] #[.pointer (some ⟨a5, 0, none⟩), .pointer (some ⟨a4, 0, none⟩)]] 73 (0, 0))) (.cells #[.bool true] 4 (0, 0)); rw [World.size_alloc] at h; exact h) 0).trans rfl
  have HB8 := Aside0.mk (HB.out.trans (B8.out.mono HB.out.size))
  have kcc : ((w5.alloc (.cells #[.func (.func 36) #[] #[.pointer (some ⟨a5, 0, none⟩), .pointer (some ⟨a4, 0, none⟩)]] 73 (0, 0))).alloc (.cells #[.bool true] 4 (0, 0))).cell? ⟨gm, 0, none⟩ = some (.int .u8 4) := (HB8.out.cell (World.block_lt_of_cell? _ _ KC.out)).trans KC.out
  have hmf : ∀ (fn : Fn) (first cap : Array Value) (w : World), (Instr.makeFunc fn first cap).run Try.prog w = .ok (.func fn first cap) w := fun _ _ _ _ => rfl
  go_wp2
  go_ret
  exact ⟨a4, a5, w5.heap.size, (w5.heap.size + 1), rfl, ⟨k4, k5, k7, k8⟩, L4.out, L5.out, HB.out.size, Nat.le_succ_of_le HB.out.size, HB8.out⟩
theorem form_0_6 {w : World} {g gm : Nat} (kc : w.cell? ⟨gm, 0, none⟩ = some (.int .u8 6)) :
    Calls Try.prog 21 #[.int .i64 0, .pointer (some ⟨gm, 0, none⟩), .pointer (some ⟨g, 0, none⟩)] w fun en w' => ∃ a4 a5 a7 a8 : Nat, en = .returned (.func (.func 44) #[] #[.pointer (some ⟨a5, 0, none⟩), .pointer (some ⟨a4, 0, none⟩)]) ∧ (w'.cell? ⟨a4, 0, none⟩ = some (.pointer (some ⟨gm, 0, none⟩)) ∧ w'.cell? ⟨a5, 0, none⟩ = some (.pointer (some ⟨g, 0, none⟩)) ∧ w'.cell? ⟨a7, 0, none⟩ = some (.func (.func 36) #[] #[.pointer (some ⟨a5, 0, none⟩), .pointer (some ⟨a4, 0, none⟩)]) ∧ w'.cell? ⟨a8, 0, none⟩ = some (.bool true)) ∧ w.heap.size ≤ a4 ∧ w.heap.size ≤ a5 ∧ w.heap.size ≤ a7 ∧ w.heap.size ≤ a8 ∧ Below w.heap.size w w' := by
  have KC := Aside0.mk kc
  have HB := Aside0.mk (Below.refl w.heap.size w)
  clear kc
  have hmf : ∀ (fn : Fn) (first cap : Array Value) (w : World), (Instr.makeFunc fn first cap).run Try.prog w = .ok (.func fn first cap) w := fun _ _ _ _ => rfl
  go_enter Try.func21, Try.ntmps21
  go_upto_region 1 with (first | ((with_reducible refine gate_dst (N := 4) rfl ?_); refine box_event ?hg (N := 4) ?hd (cs := #[.pointer (some ⟨gm, 0, none⟩)]) (t := 51) ?hr ?_; (case hd => rfl); (case hg => rfl); (case hr => first | (go_simp; done) | (go_simp; rfl)); intro a4 hg_ w4 h1_ hb_; have K4 := Aside0.mk h1_; have L4 := Aside0.mk (show w.heap.size ≤ a4 from by rw [hg_]; exact HB.out.size); have n0_ := Aside0.mk (HB.out.trans (hb_.mono HB.out.size)); clear HB hb_ h1_ hg_; have HB := n0_; clear n0_) | ((with_reducible refine gate_dst (N := 5) rfl ?_); refine box_event ?hg (N := 5) ?hd (cs := #[.pointer (some ⟨g, 0, none⟩)]) (t := 48) ?hr ?_; (case hd => rfl); (case hg => rfl); (case hr => first | (go_simp; done) | (go_simp; rfl)); intro a5 hg_ w5 h1_ hb_; have K5 := Aside0.mk h1_; have L5 := Aside0.mk (show w.heap.size ≤ a5 from by rw [hg_]; exact HB.out.size); have n0_ := Aside0.mk (blk_below K4.out hb_); clear K4; have K4 := n0_; clear n0_; have n0_ := Aside0.mk (HB.out.trans (hb_.mono HB.out.size)); clear HB hb_ h1_ hg_; have HB := n0_; clear n0_))
  go_upto_region 3 with (fail)
  clear hmf
  have B8 := Aside0.mk (((Below.refl w5.heap.size w5).alloc (Nat.le_refl _) (.cells #[.func (.func 36) #[] #[.pointer (some ⟨a5, 0, none⟩), .pointer (some ⟨a4, 0, none⟩)]] 73 (0, 0))).alloc (by rw [World.size_alloc]; omega) (.cells #[.bool true] 4 (0, 0)))
  have k4 : ((w5.alloc (.cells #[.func (.func 36) #[] #[.pointer (some ⟨a5, 0, none⟩), .pointer (some ⟨a4, 0, none⟩)]] 73 (0, 0))).alloc (.cells #[.bool true] 4 (0, 0))).cell? ⟨a4, 0, none⟩ = some (.pointer (some ⟨gm, 0, none⟩)) := (blk_cell (blk_below K4.out B8.out) 0).trans rfl
  have k5 : ((w5.alloc (.cells #[.func (.func 36) #[] #[.pointer (some ⟨a5, 0, none⟩), .pointer (some ⟨a4, 0, none⟩)]] 73 (0, 0))).alloc (.cells #[.bool true] 4 (0, 0))).cell? ⟨a5, 0, none⟩ = some (.pointer (some ⟨g, 0, none⟩)) := (blk_cell (blk_below K5.out B8.out) 0).trans rfl
  have k7 : ((w5.alloc (.cells #[.func (.func 36) #[] #[.pointer (some ⟨a5, 0, none⟩), .pointer (some ⟨a4, 0, none⟩)]] 73 (0, 0))).alloc (.cells #[.bool true] 4 (0, 0))).cell? ⟨w5.heap.size, 0, none⟩ = some (.func (.func 36) #[] #[.pointer (some ⟨a5, 0, none⟩), .pointer (some ⟨a4, 0, none⟩)]) := (blk_cell (blk_below (blk_new w5 (.cells #[.func (.func 36) #[] #[.pointer (some ⟨a5, 0, none⟩), .pointer (some ⟨a4, 0, none⟩)]] 73 (0, 0))) (below_alloc (Below.refl _ _) _)) 0).trans rfl
  have k8 : ((w5.alloc (.cells #[.func (.func 36) #[] #[.pointer (some ⟨a5, 0, none⟩), .pointer (some ⟨a4, 0, none⟩)]] 73 (0, 0))).alloc (.cells #[.bool true] 4 (0, 0))).cell? ⟨(w5.heap.size + 1), 0, none⟩ = some (.bool true) := (blk_cell (show ((w5.alloc (.cells #[.func (.func 36) #[] #[.pointer (some ⟨a5, 0, none⟩), .pointer (some ⟨a4, 0, none⟩)]] 73 (0, 0))).alloc (.cells #[.bool true] 4 (0, 0))).heap[w5.heap.size + 1]? = some (.cells #[.bool true] 4 (0, 0)) from by have h := blk_new (w5.alloc (.cells #[.func (.func 36) #[] #[.pointer (some ⟨a5, 0, none⟩), .pointer (some ⟨a4, 0, none⟩)]] 73 (0, 0))) (.cells #[.bool true] 4 (0, 0)); rw [World.size_alloc] at h; exact h) 0).trans rfl
  have HB8 := Aside0.mk (HB.out.trans (B8.out.mono HB.out.size))
  have kcc : ((w5.alloc (.cells #[.func (.func 36) #[] #[.pointer (some ⟨a5, 0, none⟩), .pointer (some ⟨a4, 0, none⟩)]] 73 (0, 0))).alloc (.cells #[.bool true] 4 (0, 0))).cell? ⟨gm, 0, none⟩ = some (.int .u8 6) := (HB8.out.cell (World.block_lt_of_cell? _ _ KC.out)).trans KC.out
  have hmf : ∀ (fn : Fn) (first cap : Array Value) (w : World), (Instr.makeFunc fn first cap).run Try.prog w = .ok (.func fn first cap) w := fun _ _ _ _ => rfl
  go_wp2
  go_ret
  exact ⟨a4, a5, w5.heap.size, (w5.heap.size + 1), rfl, ⟨k4, k5, k7, k8⟩, L4.out, L5.out, HB.out.size, Nat.le_succ_of_le HB.out.size, HB8.out⟩
theorem form_0_16 {w : World} {g gm : Nat} (kc : w.cell? ⟨gm, 0, none⟩ = some (.int .u8 16)) :
    Calls Try.prog 21 #[.int .i64 0, .pointer (some ⟨gm, 0, none⟩), .pointer (some ⟨g, 0, none⟩)] w fun en w' => ∃ a4 a5 a7 a8 : Nat, en = .returned (.func (.func 45) #[] #[.pointer (some ⟨a7, 0, none⟩), .pointer (some ⟨a8, 0, none⟩), .pointer (some ⟨a5, 0, none⟩), .pointer (some ⟨a4, 0, none⟩)]) ∧ (w'.cell? ⟨a4, 0, none⟩ = some (.pointer (some ⟨gm, 0, none⟩)) ∧ w'.cell? ⟨a5, 0, none⟩ = some (.pointer (some ⟨g, 0, none⟩)) ∧ w'.cell? ⟨a7, 0, none⟩ = some (.func (.func 36) #[] #[.pointer (some ⟨a5, 0, none⟩), .pointer (some ⟨a4, 0, none⟩)]) ∧ w'.cell? ⟨a8, 0, none⟩ = some (.bool true)) ∧ w.heap.size ≤ a4 ∧ w.heap.size ≤ a5 ∧ w.heap.size ≤ a7 ∧ w.heap.size ≤ a8 ∧ Below w.heap.size w w' := by
  have KC := Aside0.mk kc
  have HB := Aside0.mk (Below.refl w.heap.size w)
  clear kc
  have hmf : ∀ (fn : Fn) (first cap : Array Value) (w : World), (Instr.makeFunc fn first cap).run Try.prog w = .ok (.func fn first cap) w := fun _ _ _ _ => rfl
  go_enter Try.func21, Try.ntmps21
  go_upto_region 1 with (first | ((with_reducible refine gate_dst (N := 4) rfl ?_); refine box_event ?hg (N := 4) ?hd (cs := #[.pointer (some ⟨gm, 0, none⟩)]) (t := 51) ?hr ?_; (case hd => rfl); (case hg => rfl); (case hr => first | (go_simp; done) | (go_simp; rfl)); intro a4 hg_ w4 h1_ hb_; have K4 := Aside0.mk h1_; have L4 := Aside0.mk (show w.heap.size ≤ a4 from by rw [hg_]; exact HB.out.size); have n0_ := Aside0.mk (HB.out.trans (hb_.mono HB.out.size)); clear HB hb_ h1_ hg_; have HB := n0_; clear n0_) | ((with_reducible refine gate_dst (N := 5) rfl ?_); refine box_event ?hg (N := 5) ?hd (cs := #[.pointer (some ⟨g, 0, none⟩)]) (t := 48) ?hr ?_; (case hd => rfl); (case hg => rfl); (case hr => first | (go_simp; done) | (go_simp; rfl)); intro a5 hg_ w5 h1_ hb_; have K5 := Aside0.mk h1_; have L5 := Aside0.mk (show w.heap.size ≤ a5 from by rw [hg_]; exact HB.out.size); have n0_ := Aside0.mk (blk_below K4.out hb_); clear K4; have K4 := n0_; clear n0_; have n0_ := Aside0.mk (HB.out.trans (hb_.mono HB.out.size)); clear HB hb_ h1_ hg_; have HB := n0_; clear n0_))
  go_upto_region 3 with (fail)
  clear hmf
  have B8 := Aside0.mk (((Below.refl w5.heap.size w5).alloc (Nat.le_refl _) (.cells #[.func (.func 36) #[] #[.pointer (some ⟨a5, 0, none⟩), .pointer (some ⟨a4, 0, none⟩)]] 73 (0, 0))).alloc (by rw [World.size_alloc]; omega) (.cells #[.bool true] 4 (0, 0)))
  have k4 : ((w5.alloc (.cells #[.func (.func 36) #[] #[.pointer (some ⟨a5, 0, none⟩), .pointer (some ⟨a4, 0, none⟩)]] 73 (0, 0))).alloc (.cells #[.bool true] 4 (0, 0))).cell? ⟨a4, 0, none⟩ = some (.pointer (some ⟨gm, 0, none⟩)) := (blk_cell (blk_below K4.out B8.out) 0).trans rfl
  have k5 : ((w5.alloc (.cells #[.func (.func 36) #[] #[.pointer (some ⟨a5, 0, none⟩), .pointer (some ⟨a4, 0, none⟩)]] 73 (0, 0))).alloc (.cells #[.bool true] 4 (0, 0))).cell? ⟨a5, 0, none⟩ = some (.pointer (some ⟨g, 0, none⟩)) := (blk_cell (blk_below K5.out B8.out) 0).trans rfl
  have k7 : ((w5.alloc (.cells #[.func (.func 36) #[] #[.pointer (some ⟨a5, 0, none⟩), .pointer (some ⟨a4, 0, none⟩)]] 73 (0, 0))).alloc (.cells #[.bool true] 4 (0, 0))).cell? ⟨w5.heap.size, 0, none⟩ = some (.func (.func 36) #[] #[.pointer (some ⟨a5, 0, none⟩), .pointer (some ⟨a4, 0, none⟩)]) := (blk_cell (blk_below (blk_new w5 (.cells #[.func (.func 36) #[] #[.pointer (some ⟨a5, 0, none⟩), .pointer (some ⟨a4, 0, none⟩)]] 73 (0, 0))) (below_alloc (Below.refl _ _) _)) 0).trans rfl
  have k8 : ((w5.alloc (.cells #[.func (.func 36) #[] #[.pointer (some ⟨a5, 0, none⟩), .pointer (some ⟨a4, 0, none⟩)]] 73 (0, 0))).alloc (.cells #[.bool true] 4 (0, 0))).cell? ⟨(w5.heap.size + 1), 0, none⟩ = some (.bool true) := (blk_cell (show ((w5.alloc (.cells #[.func (.func 36) #[] #[.pointer (some ⟨a5, 0, none⟩), .pointer (some ⟨a4, 0, none⟩)]] 73 (0, 0))).alloc (.cells #[.bool true] 4 (0, 0))).heap[w5.heap.size + 1]? = some (.cells #[.bool true] 4 (0, 0)) from by have h := blk_new (w5.alloc (.cells #[.func (.func 36) #[] #[.pointer (some ⟨a5, 0, none⟩), .pointer (some ⟨a4, 0, none⟩)]] 73 (0, 0))) (.cells #[.bool true] 4 (0, 0)); rw [World.size_alloc] at h; exact h) 0).trans rfl
  have HB8 := Aside0.mk (HB.out.trans (B8.out.mono HB.out.size))
  have kcc : ((w5.alloc (.cells #[.func (.func 36) #[] #[.pointer (some ⟨a5, 0, none⟩), .pointer (some ⟨a4, 0, none⟩)]] 73 (0, 0))).alloc (.cells #[.bool true] 4 (0, 0))).cell? ⟨gm, 0, none⟩ = some (.int .u8 16) := (HB8.out.cell (World.block_lt_of_cell? _ _ KC.out)).trans KC.out
  have hmf : ∀ (fn : Fn) (first cap : Array Value) (w : World), (Instr.makeFunc fn first cap).run Try.prog w = .ok (.func fn first cap) w := fun _ _ _ _ => rfl
  go_wp2
  go_ret
  exact ⟨a4, a5, w5.heap.size, (w5.heap.size + 1), rfl, ⟨k4, k5, k7, k8⟩, L4.out, L5.out, HB.out.size, Nat.le_succ_of_le HB.out.size, HB8.out⟩
theorem form_0_22 {w : World} {g gm : Nat} (kc : w.cell? ⟨gm, 0, none⟩ = some (.int .u8 22)) :
    Calls Try.prog 21 #[.int .i64 0, .pointer (some ⟨gm, 0, none⟩), .pointer (some ⟨g, 0, none⟩)] w fun en w' => ∃ a4 a5 a7 a8 : Nat, en = .returned (.func (.func 47) #[] #[.pointer (some ⟨a5, 0, none⟩), .pointer (some ⟨a4, 0, none⟩)]) ∧ (w'.cell? ⟨a4, 0, none⟩ = some (.pointer (some ⟨gm, 0, none⟩)) ∧ w'.cell? ⟨a5, 0, none⟩ = some (.pointer (some ⟨g, 0, none⟩)) ∧ w'.cell? ⟨a7, 0, none⟩ = some (.func (.func 36) #[] #[.pointer (some ⟨a5, 0, none⟩), .pointer (some ⟨a4, 0, none⟩)]) ∧ w'.cell? ⟨a8, 0, none⟩ = some (.bool true)) ∧ w.heap.size ≤ a4 ∧ w.heap.size ≤ a5 ∧ w.heap.size ≤ a7 ∧ w.heap.size ≤ a8 ∧ Below w.heap.size w w' := by
  have KC := Aside0.mk kc
  have HB := Aside0.mk (Below.refl w.heap.size w)
  clear kc
  have hmf : ∀ (fn : Fn) (first cap : Array Value) (w : World), (Instr.makeFunc fn first cap).run Try.prog w = .ok (.func fn first cap) w := fun _ _ _ _ => rfl
  go_enter Try.func21, Try.ntmps21
  go_upto_region 1 with (first | ((with_reducible refine gate_dst (N := 4) rfl ?_); refine box_event ?hg (N := 4) ?hd (cs := #[.pointer (some ⟨gm, 0, none⟩)]) (t := 51) ?hr ?_; (case hd => rfl); (case hg => rfl); (case hr => first | (go_simp; done) | (go_simp; rfl)); intro a4 hg_ w4 h1_ hb_; have K4 := Aside0.mk h1_; have L4 := Aside0.mk (show w.heap.size ≤ a4 from by rw [hg_]; exact HB.out.size); have n0_ := Aside0.mk (HB.out.trans (hb_.mono HB.out.size)); clear HB hb_ h1_ hg_; have HB := n0_; clear n0_) | ((with_reducible refine gate_dst (N := 5) rfl ?_); refine box_event ?hg (N := 5) ?hd (cs := #[.pointer (some ⟨g, 0, none⟩)]) (t := 48) ?hr ?_; (case hd => rfl); (case hg => rfl); (case hr => first | (go_simp; done) | (go_simp; rfl)); intro a5 hg_ w5 h1_ hb_; have K5 := Aside0.mk h1_; have L5 := Aside0.mk (show w.heap.size ≤ a5 from by rw [hg_]; exact HB.out.size); have n0_ := Aside0.mk (blk_below K4.out hb_); clear K4; have K4 := n0_; clear n0_; have n0_ := Aside0.mk (HB.out.trans (hb_.mono HB.out.size)); clear HB hb_ h1_ hg_; have HB := n0_; clear n0_))
  go_upto_region 3 with (fail)
  clear hmf
  have B8 := Aside0.mk (((Below.refl w5.heap.size w5).alloc (Nat.le_refl _) (.cells #[.func (.func 36) #[] #[.pointer (some ⟨a5, 0, none⟩), .pointer (some ⟨a4, 0, none⟩)]] 73 (0, 0))).alloc (by rw [World.size_alloc]; omega) (.cells #[.bool true] 4 (0, 0)))
  have k4 : ((w5.alloc (.cells #[.func (.func 36) #[] #[.pointer (some ⟨a5, 0, none⟩), .pointer (some ⟨a4, 0, none⟩)]] 73 (0, 0))).alloc (.cells #[.bool true] 4 (0, 0))).cell? ⟨a4, 0, none⟩ = some (.pointer (some ⟨gm, 0, none⟩)) := (blk_cell (blk_below K4.out B8.out) 0).trans rfl
  have k5 : ((w5.alloc (.cells #[.func (.func 36) #[] #[.pointer (some ⟨a5, 0, none⟩), .pointer (some ⟨a4, 0, none⟩)]] 73 (0, 0))).alloc (.cells #[.bool true] 4 (0, 0))).cell? ⟨a5, 0, none⟩ = some (.pointer (some ⟨g, 0, none⟩)) := (blk_cell (blk_below K5.out B8.out) 0).trans rfl
  have k7 : ((w5.alloc (.cells #[.func (.func 36) #[] #[.pointer (some ⟨a5, 0, none⟩), .pointer (some ⟨a4, 0, none⟩)]] 73 (0, 0))).alloc (.cells #[.bool true] 4 (0, 0))).cell? ⟨w5.heap.size, 0, none⟩ = some (.func (.func 36) #[] #[.pointer (some ⟨a5, 0, none⟩), .pointer (some ⟨a4, 0, none⟩)]) := (blk_cell (blk_below (blk_new w5 (.cells #[.func (.func 36) #[] #[.pointer (some ⟨a5, 0, none⟩), .pointer (some ⟨a4, 0, none⟩)]] 73 (0, 0))) (below_alloc (Below.refl _ _) _)) 0).trans rfl
  have k8 : ((w5.alloc (.cells #[.func (.func 36) #[] #[.pointer (some ⟨a5, 0, none⟩), .pointer (some ⟨a4, 0, none⟩)]] 73 (0, 0))).alloc (.cells #[.bool true] 4 (0, 0))).cell? ⟨(w5.heap.size + 1), 0, none⟩ = some (.bool true) := (blk_cell (show ((w5.alloc (.cells #[.func (.func 36) #[] #[.pointer (some ⟨a5, 0, none⟩), .pointer (some ⟨a4, 0, none⟩)]] 73 (0, 0))).alloc (.cells #[.bool true] 4 (0, 0))).heap[w5.heap.size + 1]? = some (.cells #[.bool true] 4 (0, 0)) from by have h := blk_new (w5.alloc (.cells #[.func (.func 36) #[] #[.pointer (some ⟨a5, 0, none⟩), .pointer (some ⟨a4, 0, none⟩)]] 73 (0, 0))) (.cells #[.bool true] 4 (0, 0)); rw [World.size_alloc] at h; exact h) 0).trans rfl
  have HB8 := Aside0.mk (HB.out.trans (B8.out.mono HB.out.size))
  have kcc : ((w5.alloc (.cells #[.func (.func 36) #[] #[.pointer (some ⟨a5, 0, none⟩), .pointer (some ⟨a4, 0, none⟩)]] 73 (0, 0))).alloc (.cells #[.bool true] 4 (0, 0))).cell? ⟨gm, 0, none⟩ = some (.int .u8 22) := (HB8.out.cell (World.block_lt_of_cell? _ _ KC.out)).trans KC.out
  have hmf : ∀ (fn : Fn) (first cap : Array Value) (w : World), (Instr.makeFunc fn first cap).run Try.prog w = .ok (.func fn first cap) w := fun _ _ _ _ => rfl
  go_wp2
  go_ret
  exact ⟨a4, a5, w5.heap.size, (w5.heap.size + 1), rfl, ⟨k4, k5, k7, k8⟩, L4.out, L5.out, HB.out.size, Nat.le_succ_of_le HB.out.size, HB8.out⟩
theorem form_0_23 {w : World} {g gm : Nat} (kc : w.cell? ⟨gm, 0, none⟩ = some (.int .u8 23)) :
    Calls Try.prog 21 #[.int .i64 0, .pointer (some ⟨gm, 0, none⟩), .pointer (some ⟨g, 0, none⟩)] w fun en w' => ∃ a4 a5 a7 a8 : Nat, en = .returned (.func (.func 48) #[] #[.pointer (some ⟨a7, 0, none⟩), .pointer (some ⟨a5, 0, none⟩), .pointer (some ⟨a4, 0, none⟩)]) ∧ (w'.cell? ⟨a4, 0, none⟩ = some (.pointer (some ⟨gm, 0, none⟩)) ∧ w'.cell? ⟨a5, 0, none⟩ = some (.pointer (some ⟨g, 0, none⟩)) ∧ w'.cell? ⟨a7, 0, none⟩ = some (.func (.func 36) #[] #[.pointer (some ⟨a5, 0, none⟩), .pointer (some ⟨a4, 0, none⟩)]) ∧ w'.cell? ⟨a8, 0, none⟩ = some (.bool true)) ∧ w.heap.size ≤ a4 ∧ w.heap.size ≤ a5 ∧ w.heap.size ≤ a7 ∧ w.heap.size ≤ a8 ∧ Below w.heap.size w w' := by
  have KC := Aside0.mk kc
  have HB := Aside0.mk (Below.refl w.heap.size w)
  clear kc
  have hmf : ∀ (fn : Fn) (first cap : Array Value) (w : World), (Instr.makeFunc fn first cap).run Try.prog w = .ok (.func fn first cap) w := fun _ _ _ _ => rfl
  go_enter Try.func21, Try.ntmps21
  go_upto_region 1 with (first | ((with_reducible refine gate_dst (N := 4) rfl ?_); refine box_event ?hg (N := 4) ?hd (cs := #[.pointer (some ⟨gm, 0, none⟩)]) (t := 51) ?hr ?_; (case hd => rfl); (case hg => rfl); (case hr => first | (go_simp; done) | (go_simp; rfl)); intro a4 hg_ w4 h1_ hb_; have K4 := Aside0.mk h1_; have L4 := Aside0.mk (show w.heap.size ≤ a4 from by rw [hg_]; exact HB.out.size); have n0_ := Aside0.mk (HB.out.trans (hb_.mono HB.out.size)); clear HB hb_ h1_ hg_; have HB := n0_; clear n0_) | ((with_reducible refine gate_dst (N := 5) rfl ?_); refine box_event ?hg (N := 5) ?hd (cs := #[.pointer (some ⟨g, 0, none⟩)]) (t := 48) ?hr ?_; (case hd => rfl); (case hg => rfl); (case hr => first | (go_simp; done) | (go_simp; rfl)); intro a5 hg_ w5 h1_ hb_; have K5 := Aside0.mk h1_; have L5 := Aside0.mk (show w.heap.size ≤ a5 from by rw [hg_]; exact HB.out.size); have n0_ := Aside0.mk (blk_below K4.out hb_); clear K4; have K4 := n0_; clear n0_; have n0_ := Aside0.mk (HB.out.trans (hb_.mono HB.out.size)); clear HB hb_ h1_ hg_; have HB := n0_; clear n0_))
  go_upto_region 3 with (fail)
  clear hmf
  have B8 := Aside0.mk (((Below.refl w5.heap.size w5).alloc (Nat.le_refl _) (.cells #[.func (.func 36) #[] #[.pointer (some ⟨a5, 0, none⟩), .pointer (some ⟨a4, 0, none⟩)]] 73 (0, 0))).alloc (by rw [World.size_alloc]; omega) (.cells #[.bool true] 4 (0, 0)))
  have k4 : ((w5.alloc (.cells #[.func (.func 36) #[] #[.pointer (some ⟨a5, 0, none⟩), .pointer (some ⟨a4, 0, none⟩)]] 73 (0, 0))).alloc (.cells #[.bool true] 4 (0, 0))).cell? ⟨a4, 0, none⟩ = some (.pointer (some ⟨gm, 0, none⟩)) := (blk_cell (blk_below K4.out B8.out) 0).trans rfl
  have k5 : ((w5.alloc (.cells #[.func (.func 36) #[] #[.pointer (some ⟨a5, 0, none⟩), .pointer (some ⟨a4, 0, none⟩)]] 73 (0, 0))).alloc (.cells #[.bool true] 4 (0, 0))).cell? ⟨a5, 0, none⟩ = some (.pointer (some ⟨g, 0, none⟩)) := (blk_cell (blk_below K5.out B8.out) 0).trans rfl
  have k7 : ((w5.alloc (.cells #[.func (.func 36) #[] #[.pointer (some ⟨a5, 0, none⟩), .pointer (some ⟨a4, 0, none⟩)]] 73 (0, 0))).alloc (.cells #[.bool true] 4 (0, 0))).cell? ⟨w5.heap.size, 0, none⟩ = some (.func (.func 36) #[] #[.pointer (some ⟨a5, 0, none⟩), .pointer (some ⟨a4, 0, none⟩)]) := (blk_cell (blk_below (blk_new w5 (.cells #[.func (.func 36) #[] #[.pointer (some ⟨a5, 0, none⟩), .pointer (some ⟨a4, 0, none⟩)]] 73 (0, 0))) (below_alloc (Below.refl _ _) _)) 0).trans rfl
  have k8 : ((w5.alloc (.cells #[.func (.func 36) #[] #[.pointer (some ⟨a5, 0, none⟩), .pointer (some ⟨a4, 0, none⟩)]] 73 (0, 0))).alloc (.cells #[.bool true] 4 (0, 0))).cell? ⟨(w5.heap.size + 1), 0, none⟩ = some (.bool true) := (blk_cell (show ((w5.alloc (.cells #[.func (.func 36) #[] #[.pointer (some ⟨a5, 0, none⟩), .pointer (some ⟨a4, 0, none⟩)]] 73 (0, 0))).alloc (.cells #[.bool true] 4 (0, 0))).heap[w5.heap.size + 1]? = some (.cells #[.bool true] 4 (0, 0)) from by have h := blk_new (w5.alloc (.cells #[.func (.func 36) #[] #[.pointer (some ⟨a5, 0, none⟩), .pointer (some ⟨a4, 0, none⟩)]] 73 (0, 0))) (.cells #[.bool true] 4 (0, 0)); rw [World.size_alloc] at h; exact h) 0).trans rfl
  have HB8 := Aside0.mk (HB.out.trans (B8.out.mono HB.out.size))
  have kcc : ((w5.alloc (.cells #[.func (.func 36) #[] #[.pointer (some ⟨a5, 0, none⟩), .pointer (some ⟨a4, 0, none⟩)]] 73 (0, 0))).alloc (.cells #[.bool true] 4 (0, 0))).cell? ⟨gm, 0, none⟩ = some (.int .u8 23) := (HB8.out.cell (World.block_lt_of_cell? _ _ KC.out)).trans KC.out
  have hmf : ∀ (fn : Fn) (first cap : Array Value) (w : World), (Instr.makeFunc fn first cap).run Try.prog w = .ok (.func fn first cap) w := fun _ _ _ _ => rfl
  go_wp2
  go_ret
  exact ⟨a4, a5, w5.heap.size, (w5.heap.size + 1), rfl, ⟨k4, k5, k7, k8⟩, L4.out, L5.out, HB.out.size, Nat.le_succ_of_le HB.out.size, HB8.out⟩
theorem form_0_24 {w : World} {g gm : Nat} (kc : w.cell? ⟨gm, 0, none⟩ = some (.int .u8 24)) :
    Calls Try.prog 21 #[.int .i64 0, .pointer (some ⟨gm, 0, none⟩), .pointer (some ⟨g, 0, none⟩)] w fun en w' => ∃ a4 a5 a7 a8 : Nat, en = .returned (.func (.func 49) #[] #[.pointer (some ⟨a5, 0, none⟩), .pointer (some ⟨a4, 0, none⟩)]) ∧ (w'.cell? ⟨a4, 0, none⟩ = some (.pointer (some ⟨gm, 0, none⟩)) ∧ w'.cell? ⟨a5, 0, none⟩ = some (.pointer (some ⟨g, 0, none⟩)) ∧ w'.cell? ⟨a7, 0, none⟩ = some (.func (.func 36) #[] #[.pointer (some ⟨a5, 0, none⟩), .pointer (some ⟨a4, 0, none⟩)]) ∧ w'.cell? ⟨a8, 0, none⟩ = some (.bool true)) ∧ w.heap.size ≤ a4 ∧ w.heap.size ≤ a5 ∧ w.heap.size ≤ a7 ∧ w.heap.size ≤ a8 ∧ Below w.heap.size w w' := by
  have KC := Aside0.mk kc
  have HB := Aside0.mk (Below.refl w.heap.size w)
  clear kc
  have hmf : ∀ (fn : Fn) (first cap : Array Value) (w : World), (Instr.makeFunc fn first cap).run Try.prog w = .ok (.func fn first cap) w := fun _ _ _ _ => rfl
  go_enter Try.func21, Try.ntmps21
  go_upto_region 1 with (first | ((with_reducible refine gate_dst (N := 4) rfl ?_); refine box_event ?hg (N := 4) ?hd (cs := #[.pointer (some ⟨gm, 0, none⟩)]) (t := 51) ?hr ?_; (case hd => rfl); (case hg => rfl); (case hr => first | (go_simp; done) | (go_simp; rfl)); intro a4 hg_ w4 h1_ hb_; have K4 := Aside0.mk h1_; have L4 := Aside0.mk (show w.heap.size ≤ a4 from by rw [hg_]; exact HB.out.size); have n0_ := Aside0.mk (HB.out.trans (hb_.mono HB.out.size)); clear HB hb_ h1_ hg_; have HB := n0_; clear n0_) | ((with_reducible refine gate_dst (N := 5) rfl ?_); refine box_event ?hg (N := 5) ?hd (cs := #[.pointer (some ⟨g, 0, none⟩)]) (t := 48) ?hr ?_; (case hd => rfl); (case hg => rfl); (case hr => first | (go_simp; done) | (go_simp; rfl)); intro a5 hg_ w5 h1_ hb_; have K5 := Aside0.mk h1_; have L5 := Aside0.mk (show w.heap.size ≤ a5 from by rw [hg_]; exact HB.out.size); have n0_ := Aside0.mk (blk_below K4.out hb_); clear K4; have K4 := n0_; clear n0_; have n0_ := Aside0.mk (HB.out.trans (hb_.mono HB.out.size)); clear HB hb_ h1_ hg_; have HB := n0_; clear n0_))
  go_upto_region 3 with (fail)
  clear hmf
  have B8 := Aside0.mk (((Below.refl w5.heap.size w5).alloc (Nat.le_refl _) (.cells #[.func (.func 36) #[] #[.pointer (some ⟨a5, 0, none⟩), .pointer (some ⟨a4, 0, none⟩)]] 73 (0, 0))).alloc (by rw [World.size_alloc]; omega) (.cells #[.bool true] 4 (0, 0)))
  have k4 : ((w5.alloc (.cells #[.func (.func 36) #[] #[.pointer (some ⟨a5, 0, none⟩), .pointer (some ⟨a4, 0, none⟩)]] 73 (0, 0))).alloc (.cells #[.bool true] 4 (0, 0))).cell? ⟨a4, 0, none⟩ = some (.pointer (some ⟨gm, 0, none⟩)) := (blk_cell (blk_below K4.out B8.out) 0).trans rfl
  have k5 : ((w5.alloc (.cells #[.func (.func 36) #[] #[.pointer (some ⟨a5, 0, none⟩), .pointer (some ⟨a4, 0, none⟩)]] 73 (0, 0))).alloc (.cells #[.bool true] 4 (0, 0))).cell? ⟨a5, 0, none⟩ = some (.pointer (some ⟨g, 0, none⟩)) := (blk_cell (blk_below K5.out B8.out) 0).trans rfl
  have k7 : ((w5.alloc (.cells #[.func (.func 36) #[] #[.pointer (some ⟨a5, 0, none⟩), .pointer (some ⟨a4, 0, none⟩)]] 73 (0, 0))).alloc (.cells #[.bool true] 4 (0, 0))).cell? ⟨w5.heap.size, 0, none⟩ = some (.func (.func 36) #[] #[.pointer (some ⟨a5, 0, none⟩), .pointer (some ⟨a4, 0, none⟩)]) := (blk_cell (blk_below (blk_new w5 (.cells #[.func (.func 36) #[] #[.pointer (some ⟨a5, 0, none⟩), .pointer (some ⟨a4, 0, none⟩)]] 73 (0, 0))) (below_alloc (Below.refl _ _) _)) 0).trans rfl
  have k8 : ((w5.alloc (.cells #[.func (.func 36) #[] #[.pointer (some ⟨a5, 0, none⟩), .pointer (some ⟨a4, 0, none⟩)]] 73 (0, 0))).alloc (.cells #[.bool true] 4 (0, 0))).cell? ⟨(w5.heap.size + 1), 0, none⟩ = some (.bool true) := (blk_cell (show ((w5.alloc (.cells #[.func (.func 36) #[] #[.pointer (some ⟨a5, 0, none⟩), .pointer (some ⟨a4, 0, none⟩)]] 73 (0, 0))).alloc (.cells #[.bool true] 4 (0, 0))).heap[w5.heap.size + 1]? = some (.cells #[.bool true] 4 (0, 0)) from by have h := blk_new (w5.alloc (.cells #[.func (.func 36) #[] #[.pointer (some ⟨a5, 0, none⟩), .pointer (some ⟨a4, 0, none⟩)]] 73 (0, 0))) (.cells #[.bool true] 4 (0, 0)); rw [World.size_alloc] at h; exact h) 0).trans rfl
  have HB8 := Aside0.mk (HB.out.trans (B8.out.mono HB.out.size))
  have kcc : ((w5.alloc (.cells #[.func (.func 36) #[] #[.pointer (some ⟨a5, 0, none⟩), .pointer (some ⟨a4, 0, none⟩)]] 73 (0, 0))).alloc (.cells #[.bool true] 4 (0, 0))).cell? ⟨gm, 0, none⟩ = some (.int .u8 24) := (HB8.out.cell (World.block_lt_of_cell? _ _ KC.out)).trans KC.out
  have hmf : ∀ (fn : Fn) (first cap : Array Value) (w : World), (Instr.makeFunc fn first cap).run Try.prog w = .ok (.func fn first cap) w := fun _ _ _ _ => rfl
  go_wp2
  go_ret
  exact ⟨a4, a5, w5.heap.size, (w5.heap.size + 1), rfl, ⟨k4, k5, k7, k8⟩, L4.out, L5.out, HB.out.size, Nat.le_succ_of_le HB.out.size, HB8.out⟩
theorem form_1_no {code : Int} (hk : ¬ isCode code) {w : World} {g gm : Nat} (kc : w.cell? ⟨gm, 0, none⟩ = some (.int .u8 code)) :
    Calls Try.prog 21 #[.int .i64 1, .pointer (some ⟨gm, 0, none⟩), .pointer (some ⟨g, 0, none⟩)] w fun en w' => ∃ a4 a5 a7 a8 : Nat, en = .returned (.nilFunc) ∧ (w'.cell? ⟨a4, 0, none⟩ = some (.pointer (some ⟨gm, 0, none⟩)) ∧ w'.cell? ⟨a5, 0, none⟩ = some (.pointer (some ⟨g, 0, none⟩)) ∧ w'.cell? ⟨a7, 0, none⟩ = some (.func (.func 36) #[] #[.pointer (some ⟨a5, 0, none⟩), .pointer (some ⟨a4, 0, none⟩)]) ∧ w'.cell? ⟨a8, 0, none⟩ = some (.bool false)) ∧ w.heap.size ≤ a4 ∧ w.heap.size ≤ a5 ∧ w.heap.size ≤ a7 ∧ w.heap.size ≤ a8 ∧ Below w.heap.size w w' := by
  have KC := Aside0.mk kc
  have HB := Aside0.mk (Below.refl w.heap.size w)
  have b3 : (code == 3) = false := beq_eq_false_iff_ne.2 (fun e => hk (by unfold isCode; omega))
  have b4 : (code == 4) = false := beq_eq_false_iff_ne.2 (fun e => hk (by unfold isCode; omega))
  have b6 : (code == 6) = false := beq_eq_false_iff_ne.2 (fun e => hk (by unfold isCode; omega))
  have b16 : (code == 16) = false := beq_eq_false_iff_ne.2 (fun e => hk (by unfold isCode; omega))
  have b22 : (code == 22) = false := beq_eq_false_iff_ne.2 (fun e => hk (by unfold isCode; omega))
  have b23 : (code == 23) = false := beq_eq_false_iff_ne.2 (fun e => hk (by unfold isCode; omega))
  have b24 : (code == 24) = false := beq_eq_false_iff_ne.2 (fun e => hk (by unfold isCode; omega))
  clear kc hk
  have hmf : ∀ (fn : Fn) (first cap : Array Value) (w : World), (Instr.makeFunc fn first cap).run Try.prog w = .ok (.func fn first cap) w := fun _ _ _ _ => rfl
  go_enter Try.func21, Try.ntmps21
  go_upto_region 1 with (first | ((with_reducible refine gate_dst (N := 4) rfl ?_); refine box_event ?hg (N := 4) ?hd (cs := #[.pointer (some ⟨gm, 0, none⟩)]) (t := 51) ?hr ?_; (case hd => rfl); (case hg => rfl); (case hr => first | (go_simp; done) | (go_simp; rfl)); intro a4 hg_ w4 h1_ hb_; have K4 := Aside0.mk h1_; have L4 := Aside0.mk (show w.heap.size ≤ a4 from by rw [hg_]; exact HB.out.size); have n0_ := Aside0.mk (HB.out.trans (hb_.mono HB.out.size)); clear HB hb_ h1_ hg_; have HB := n0_; clear n0_) | ((with_reducible refine gate_dst (N := 5) rfl ?_); refine box_event ?hg (N := 5) ?hd (cs := #[.pointer (some ⟨g, 0, none⟩)]) (t := 48) ?hr ?_; (case hd => rfl); (case hg => rfl); (case hr => first | (go_simp; done) | (go_simp; rfl)); intro a5 hg_ w5 h1_ hb_; have K5 := Aside0.mk h1_; have L5 := Aside0.mk (show w.heap.size ≤ a5 from by rw [hg_]; exact HB.out.size); have n0_ := Aside0.mk (blk_below K4.out hb_); clear K4; have K4 := n0_; clear n0_; have n0_ := Aside0.mk (HB.out.trans (hb_.mono HB.out.size)); clear HB hb_ h1_ hg_; have HB := n0_; clear n0_))
  go_upto_region 3 with (fail)
  clear hmf
  have B8 := Aside0.mk (((Below.refl w5.heap.size w5).alloc (Nat.le_refl _) (.cells #[.func (.func 36) #[] #[.pointer (some ⟨a5, 0, none⟩), .pointer (some ⟨a4, 0, none⟩)]] 73 (0, 0))).alloc (by rw [World.size_alloc]; omega) (.cells #[.bool false] 4 (0, 0)))
  have k4 : ((w5.alloc (.cells #[.func (.func 36) #[] #[.pointer (some ⟨a5, 0, none⟩), .pointer (some ⟨a4, 0, none⟩)]] 73 (0, 0))).alloc (.cells #[.bool false] 4 (0, 0))).cell? ⟨a4, 0, none⟩ = some (.pointer (some ⟨gm, 0, none⟩)) := (blk_cell (blk_below K4.out B8.out) 0).trans rfl
  have k5 : ((w5.alloc (.cells #[.func (.func 36) #[] #[.pointer (some ⟨a5, 0, none⟩), .pointer (some ⟨a4, 0, none⟩)]] 73 (0, 0))).alloc (.cells #[.bool false] 4 (0, 0))).cell? ⟨a5, 0, none⟩ = some (.pointer (some ⟨g, 0, none⟩)) := (blk_cell (blk_below K5.out B8.out) 0).trans rfl
  have k7 : ((w5.alloc (.cells #[.func (.func 36) #[] #[.pointer (some ⟨a5, 0, none⟩), .pointer (some ⟨a4, 0, none⟩)]] 73 (0, 0))).alloc (.cells #[.bool false] 4 (0, 0))).cell? ⟨w5.heap.size, 0, none⟩ = some (.func (.func 36) #[] #[.pointer (some ⟨a5, 0, none⟩), .pointer (some ⟨a4, 0, none⟩)]) := (blk_cell (blk_below (blk_new w5 (.cells #[.func (.func 36) #[] #[.pointer (some ⟨a5, 0, none⟩), .pointer (some ⟨a4, 0, none⟩)]] 73 (0, 0))) (below_alloc (Below.refl _ _) _)) 0).trans rfl
  have k8 : ((w5.alloc (.cells #[.func (.func 36) #[] #[.pointer (some ⟨a5, 0, none⟩), .pointer (some ⟨a4, 0, none⟩)]] 73 (0, 0))).alloc (.cells #[.bool false] 4 (0, 0))).cell? ⟨(w5.heap.size + 1), 0, none⟩ = some (.bool false) := (blk_cell (show ((w5.alloc (.cells #[.func (.func 36) #[] #[.pointer (some ⟨a5, 0, none⟩), .pointer (some ⟨a4, 0, none⟩)]] 73 (0, 0))).alloc (.cells #[.bool false] 4 (0, 0))).heap[w5.heap.size + 1]? = some (.cells #[.bool false] 4 (0, 0)) from by have h := blk_new (w5.alloc (.cells #[.func (.func 36) #[] #[.pointer (some ⟨a5, 0, none⟩), .pointer (some ⟨a4, 0, none⟩)]] 73 (0, 0))) (.cells #[.bool false] 4 (0, 0)); rw [World.size_alloc] at h; exact h) 0).trans rfl
  have HB8 := Aside0.mk (HB.out.trans (B8.out.mono HB.out.size))
  have kcc : ((w5.alloc (.cells #[.func (.func 36) #[] #[.pointer (some ⟨a5, 0, none⟩), .pointer (some ⟨a4, 0, none⟩)]] 73 (0, 0))).alloc (.cells #[.bool false] 4 (0, 0))).cell? ⟨gm, 0, none⟩ = some (.int .u8 code) := (HB8.out.cell (World.block_lt_of_cell? _ _ KC.out)).trans KC.out
  have hmf : ∀ (fn : Fn) (first cap : Array Value) (w : World), (Instr.makeFunc fn first cap).run Try.prog w = .ok (.func fn first cap) w := fun _ _ _ _ => rfl
  go_wp2
  go_ret
  exact ⟨a4, a5, w5.heap.size, (w5.heap.size + 1), rfl, ⟨k4, k5, k7, k8⟩, L4.out, L5.out, HB.out.size, Nat.le_succ_of_le HB.out.size, HB8.out⟩
theorem form_1_3 {w : World} {g gm : Nat} (kc : w.cell? ⟨gm, 0, none⟩ = some (.int .u8 3)) :
    Calls Try.prog 21 #[.int .i64 1, .pointer (some ⟨gm, 0, none⟩), .pointer (some ⟨g, 0, none⟩)] w fun en w' => ∃ a4 a5 a7 a8 : Nat, en = .returned (.func (.func 40) #[] #[.pointer (some ⟨a5, 0, none⟩), .pointer (some ⟨a4, 0, none⟩)]) ∧ (w'.cell? ⟨a4, 0, none⟩ = some (.pointer (some ⟨gm, 0, none⟩)) ∧ w'.cell? ⟨a5, 0, none⟩ = some (.pointer (some ⟨g, 0, none⟩)) ∧ w'.cell? ⟨a7, 0, none⟩ = some (.func (.func 36) #[] #[.pointer (some ⟨a5, 0, none⟩), .pointer (some ⟨a4, 0, none⟩)]) ∧ w'.cell? ⟨a8, 0, none⟩ = some (.bool false)) ∧ w.heap.size ≤ a4 ∧ w.heap.size ≤ a5 ∧ w.heap.size ≤ a7 ∧ w.heap.size ≤ a8 ∧ Below w.heap.size w w' := by
  have KC := Aside0.mk kc
  have HB := Aside0.mk (Below.refl w.heap.size w)
  clear kc
  have hmf : ∀ (fn : Fn) (first cap : Array Value) (w : World), (Instr.makeFunc fn first cap).run Try.prog w = .ok (.func fn first cap) w := fun _ _ _ _ => rfl
  go_enter Try.func21, Try.ntmps21
  go_upto_region 1 with (first | ((with_reducible refine gate_dst (N := 4) rfl ?_); refine box_event ?hg (N := 4) ?hd (cs := #[.pointer (some ⟨gm, 0, none⟩)]) (t := 51) ?hr ?_; (case hd => rfl); (case hg => rfl); (case hr => first | (go_simp; done) | (go_simp; rfl)); intro a4 hg_ w4 h1_ hb_; have K4 := Aside0.mk h1_; have L4 := Aside0.mk (show w.heap.size ≤ a4 from by rw [hg_]; exact HB.out.size); have n0_ := Aside0.mk (HB.out.trans (hb_.mono HB.out.size)); clear HB hb_ h1_ hg_; have HB := n0_; clear n0_) | ((with_reducible refine gate_dst (N := 5) rfl ?_); refine box_event ?hg (N := 5) ?hd (cs := #[.pointer (some ⟨g, 0, none⟩)]) (t := 48) ?hr ?_; (case hd => rfl); (case hg => rfl); (case hr => first | (go_simp; done) | (go_simp; rfl)); intro a5 hg_ w5 h1_ hb_; have K5 := Aside0.mk h1_; have L5 := Aside0.mk (show w.heap.size ≤ a5 from by rw [hg_]; exact HB.out.size); have n0_ := Aside0.mk (blk_below K4.out hb_); clear K4; have K4 := n0_; clear n0_; have n0_ := Aside0.mk (HB.out.trans (hb_.mono HB.out.size)); clear HB hb_ h1_ hg_; have HB := n0_; clear n0_))
  go_upto_region 3 with (fail)
  clear hmf
  have B8 := Aside0.mk (((Below.refl w5.heap.size w5).alloc (Nat.le_refl _) (.cells #[.func (.func 36) #[] #[.pointer (some ⟨a5, 0, none⟩), .pointer (some ⟨a4, 0, none⟩)]] 73 (0, 0))).alloc (by rw [World.size_alloc]; omega) (.cells #[.bool false] 4 (0, 0)))
  have k4 : ((w5.alloc (.cells #[.func (.func 36) #[] #[.pointer (some ⟨a5, 0, none⟩), .pointer (some ⟨a4, 0, none⟩)]] 73 (0, 0))).alloc (.cells #[.bool false] 4 (0, 0))).cell? ⟨a4, 0, none⟩ = some (.pointer (some ⟨gm, 0, none⟩)) := (blk_cell (blk_below K4.out B8.out) 0).trans rfl
  have k5 : ((w5.alloc (.cells #[.func (.func 36) #[] #[.pointer (some ⟨a5, 0, none⟩), .pointer (some ⟨a4, 0, none⟩)]] 73 (0, 0))).alloc (.cells #[.bool false] 4 (0, 0))).cell? ⟨a5, 0, none⟩ = some (.pointer (some ⟨g, 0, none⟩)) := (blk_cell (blk_below K5.out B8.out) 0).trans rfl
  have k7 : ((w5.alloc (.cells #[.func (.func 36) #[] #[.pointer (some ⟨a5, 0, none⟩), .pointer (some ⟨a4, 0, none⟩)]] 73 (0, 0))).alloc (.cells #[.bool false] 4 (0, 0))).cell? ⟨w5.heap.size, 0, none⟩ = some (.func (.func 36) #[] #[.pointer (some ⟨a5, 0, none⟩), .pointer (some ⟨a4, 0, none⟩)]) := (blk_cell (blk_below (blk_new w5 (.cells #[.func (.func 36) #[] #[.pointer (some ⟨a5, 0, none⟩), .pointer (some ⟨a4, 0, none⟩)]] 73 (0, 0))) (below_alloc (Below.refl _ _) _)) 0).trans rfl
  have k8 : ((w5.alloc (.cells #[.func (.func 36) #[] #[.pointer (some ⟨a5, 0, none⟩), .pointer (some ⟨a4, 0, none⟩)]] 73 (0, 0))).alloc (.cells #[.bool false] 4 (0, 0))).cell? ⟨(w5.heap.size + 1), 0, none⟩ = some (.bool false) := (blk_cell (show ((w5.alloc (.cells #[.func (.func 36) #[] #[.pointer (some ⟨a5, 0, none⟩), .pointer (some ⟨a4, 0, none⟩)]] 73 (0, 0))).alloc (.cells #[.bool false] 4 (0, 0))).heap[w5.heap.size + 1]? = some (.cells #[.bool false] 4 (0, 0)) from by have h := blk_new (w5.alloc (.cells #[.func (.func 36) #[] #[.pointer (some ⟨a5, 0, none⟩), .pointer (some ⟨a4, 0, none⟩)]] 73 (0, 0))) (.cells #[.bool false] 4 (0, 0)); rw [World.size_alloc] at h; exact h) 0).trans rfl
  have HB8 := Aside0.mk (HB.out.trans (B8.out.mono HB.out.size))
  have kcc : ((w5.alloc (.cells #[.func (.func 36) #[] #[.pointer (some ⟨a5, 0, none⟩), .pointer (some ⟨a4, 0, none⟩)]] 73 (0, 0))).alloc (.cells #[.bool false] 4 (0, 0))).cell? ⟨gm, 0, none⟩ = some (.int .u8 3) := (HB8.out.cell (World.block_lt_of_cell? _ _ KC.out)).trans KC.out
  have hmf : ∀ (fn : Fn) (first cap : Array Value) (w : World), (Instr.makeFunc fn first cap).run Try.prog w = .ok (.func fn first cap) w := fun _ _ _ _ => rfl
  go_wp2
  go_ret
  exact ⟨a4, a5, w5.heap.size, (w5.heap.size + 1), rfl, ⟨k4, k5, k7, k8⟩, L4.out, L5.out, HB.out.size, Nat.le_succ_of_le HB.out.size, HB8.out⟩
theorem form_1_4 {w : World} {g gm : Nat} (kc : w.cell? ⟨gm, 0, none⟩ = some (.int .u8 4)) :
    Calls Try.prog 21 #[.int .i64 1, .pointer (some ⟨gm, 0, none⟩), .pointer (some ⟨g, 0, none⟩)] w fun en w' => ∃ a4 a5 a7 a8 : Nat, en = .returned (.func (.func 40) #[] #[.pointer (some ⟨a5, 0, none⟩), .pointer (some ⟨a4, 0, none⟩)]) ∧ (w'.cell? ⟨a4, 0, none⟩ = some (.pointer (some ⟨gm, 0, none⟩)) ∧ w'.cell? ⟨a5, 0, none⟩ = some (.pointer (some ⟨g, 0, none⟩)) ∧ w'.cell? ⟨a7, 0, none⟩ = some (.func (.func 36) #[] #[.pointer (some ⟨a5, 0, none⟩), .pointer (some ⟨a4, 0, none⟩)]) ∧ w'.cell? ⟨a8, 0, none⟩ = some (.bool false)) ∧ w.heap.size ≤ a4 ∧ w.heap.size ≤ a5 ∧ w.heap.size ≤ a7 ∧ w.heap.size ≤ a8 ∧ Below w.heap.size w w' := by
  have KC := Aside0.mk kc
  have HB := Aside0.mk (Below.refl w.heap.size w)
  clear kc
  have hmf : ∀ (fn : Fn) (first cap : Array Value) (w : World), (Instr.makeFunc fn first cap).run Try.prog w = .ok (.func fn first cap) w := fun _ _ _ _ => rfl
  go_enter Try.func21, Try.ntmps21
  go_upto_region 1 with (first | ((with_reducible refine gate_dst (N := 4) rfl ?_); refine box_event ?hg (N := 4) ?hd (cs := #[.pointer (some ⟨gm, 0, none⟩)]) (t := 51) ?hr ?_; (case hd => rfl); (case hg => rfl); (case hr => first | (go_simp; done) | (go_simp; rfl)); intro a4 hg_ w4 h1_ hb_; have K4 := Aside0.mk h1_; have L4 := Aside0.mk (show w.heap.size ≤ a4 from by rw [hg_]; exact HB.out.size); have n0_ := Aside0.mk (HB.out.trans (hb_.mono HB.out.size)); clear HB hb_ h1_ hg_; have HB := n0_; clear n0_) | ((with_reducible refine gate_dst (N := 5) rfl ?_); refine box_event ?hg (N := 5) ?hd (cs := #[.pointer (some ⟨g, 0, none⟩)]) (t := 48) ?hr ?_; (case hd => rfl); (case hg => rfl); (case hr => first | (go_simp; done) | (go_simp; rfl)); intro a5 hg_ w5 h1_ hb_; have K5 := Aside0.mk h1_; have L5 := Aside0.mk (show w.heap.size ≤ a5 from by rw [hg_]; exact HB.out.size); have n0_ := Aside0.mk (blk_below K4.out hb_); clear K4; have K4 := n0_; clear n0_; have n0_ := Aside0.mk (HB.out.trans (hb_.mono HB.out.size)); clear HB hb_ h1_ hg_; have HB := n0_; clear n0_))
  go_upto_region 3 with (fail)
  clear hmf
  have B8 := Aside0.mk (((Below.refl w5.heap.size w5).alloc (Nat.le_refl _) (.cells #[.func (.func 36) #[] #[.pointer (some ⟨a5, 0, none⟩), .pointer (some ⟨a4, 0, none⟩)]] 73 (0, 0))).alloc (by rw [World.size_alloc]; omega) (.cells #[.bool false] 4 (0, 0)))
  have k4 : ((w5.alloc (.cells #[.func (.func 36) #[] #[.pointer (some ⟨a5, 0, none⟩), .pointer (some ⟨a4, 0, none⟩)]] 73 (0, 0))).alloc (.cells #[.bool false] 4 (0, 0))).cell? ⟨a4, 0, none⟩ = some (.pointer (some ⟨gm, 0, none⟩)) := (blk_cell (blk_below K4.out B8.out) 0).trans rfl
  have k5 : ((w5.alloc (.cells #[.func (.func 36) #[] #[.pointer (some ⟨a5, 0, none⟩), .pointer (some ⟨a4, 0, none⟩)]] 73 (0, 0))).alloc (.cells #[.bool false] 4 (0, 0))).cell? ⟨a5, 0, none⟩ = some (.pointer (some ⟨g, 0, none⟩)) := (blk_cell (blk_below K5.out B8.out) 0).trans rfl
  have k7 : ((w5.alloc (.cells #[.func (.func 36) #[] #[.pointer (some ⟨a5, 0, none⟩), .pointer (some ⟨a4, 0, none⟩)]] 73 (0, 0))).alloc (.cells #[.bool false] 4 (0, 0))).cell? ⟨w5.heap.size, 0, none⟩ = some (.func (.func 36) #[] #[.pointer (some ⟨a5, 0, none⟩), .pointer (some ⟨a4, 0, none⟩)]) := (blk_cell (blk_below (blk_new w5 (.cells #[.func (.func 36) #[] #[.pointer (some ⟨a5, 0, none⟩), .pointer (some ⟨a4, 0, none⟩)]] 73 (0, 0))) (below_alloc (Below.refl _ _) _)) 0).trans rfl
  have k8 : ((w5.alloc (.cells #[.func (.func 36) #[] #[.pointer (some ⟨a5, 0, none⟩), .pointer (some ⟨a4, 0, none⟩)]] 73 (0, 0))).alloc (.cells #[.bool false] 4 (0, 0))).cell? ⟨(w5.heap.size + 1), 0, none⟩ = some (.bool false) := (blk_cell (show ((w5.alloc (.cells #[.func (.func 36) #[] #[.pointer (some ⟨a5, 0, none⟩), .pointer (some ⟨a4, 0, none⟩)]] 73 (0, 0))).alloc (.cells #[.bool false] 4 (0, 0))).heap[w5.heap.size + 1]? = some (.cells #[.bool false] 4 (0, 0)) from by have h := blk_new (w5.alloc (.cells #[.func (.func 36) #[] #[.pointer (some ⟨a5, 0, none⟩), .pointer (some ⟨a4, 0, none⟩)]] 73 (0, 0))) (.cells #[.bool false] 4 (0, 0)); rw [World.size_alloc] at h; exact h) 0).trans rfl
  have HB8 := Aside0.mk (HB.out.trans (B8.out.mono HB.out.size))
  have kcc : ((w5.alloc (.cells #[.func (.func 36) #[] #[.pointer (some ⟨a5, 0, none⟩), .pointer (some ⟨a4, 0, none⟩)]] 73 (0, 0))).alloc (.cells #[.bool false] 4 (0, 0))).cell? ⟨gm, 0, none⟩ = some (.int .u8 4) := (HB8.out.cell (World.block_lt_of_cell? _ _ KC.out)).trans KC.out
  have hmf : ∀ (fn : Fn) (first cap : Array Value) (w : World), (Instr.makeFunc fn first cap).run Try.prog w = .ok (.func fn first cap) w := fun _ _ _ _ => rfl
  go_wp2
  go_ret
  exact ⟨a4, a5, w5.heap.size, (w5.heap.size + 1), rfl, ⟨k4, k5, k7, k8⟩, L4.out, L5.out, HB.out.size, Nat.le_succ_of_le HB.out.size, HB8.out⟩
theorem form_1_6 {w : World} {g gm : Nat} (kc : w.cell? ⟨gm, 0, none⟩ = some (.int .u8 6)) :
    Calls Try.prog 21 #[.int .i64 1, .pointer (some ⟨gm, 0, none⟩), .pointer (some ⟨g, 0, none⟩)] w fun en w' => ∃ a4 a5 a7 a8 : Nat, en = .returned (.func (.func 44) #[] #[.pointer (some ⟨a5, 0, none⟩), .pointer (some ⟨a4, 0, none⟩)]) ∧ (w'.cell? ⟨a4, 0, none⟩ = some (.pointer (some ⟨gm, 0, none⟩)) ∧ w'.cell? ⟨a5, 0, none⟩ = some (.pointer (some ⟨g, 0, none⟩)) ∧ w'.cell? ⟨a7, 0, none⟩ = some (.func (.func 36) #[] #[.pointer (some ⟨a5, 0, none⟩), .pointer (some ⟨a4, 0, none⟩)]) ∧ w'.cell? ⟨a8, 0, none⟩ = some (.bool false)) ∧ w.heap.size ≤ a4 ∧ w.heap.size ≤ a5 ∧ w.heap.size ≤ a7 ∧ w.heap.size ≤ a8 ∧ Below w.heap.size w w' := by
  have KC := Aside0.mk kc
  have HB := Aside0.mk (Below.refl w.heap.size w)
  clear kc
  have hmf : ∀ (fn : Fn) (first cap : Array Value) (w : World), (Instr.makeFunc fn first cap).run Try.prog w = .ok (.func fn first cap) w := fun _ _ _ _ => rfl
  go_enter Try.func21, Try.ntmps21
  go_upto_region 1 with (first | ((with_reducible refine gate_dst (N := 4) rfl ?_); refine box_event ?hg (N := 4) ?hd (cs := #[.pointer (some ⟨gm, 0, none⟩)]) (t := 51) ?hr ?_; (case hd => rfl); (case hg => rfl); (case hr => first | (go_simp; done) | (go_simp; rfl)); intro a4 hg_ w4 h1_ hb_; have K4 := Aside0.mk h1_; have L4 := Aside0.mk (show w.heap.size ≤ a4 from by rw [hg_]; exact HB.out.size); have n0_ := Aside0.mk (HB.out.trans (hb_.mono HB.out.size)); clear HB hb_ h1_ hg_; have HB := n0_; clear n0_) | ((with_reducible refine gate_dst (N := 5) rfl ?_); refine box_event ?hg (N := 5) ?hd (cs := #[.pointer (some ⟨g, 0, none⟩)]) (t := 48) ?hr ?_; (case hd => rfl); (case hg => rfl); (case hr => first | (go_simp; done) | (go_simp; rfl)); intro a5 hg_ w5 h1_ hb_; have K5 := Aside0.mk h1_; have L5 := Aside0.mk (show w.heap.size ≤ a5 from by rw [hg_]; exact HB.out.size); have n0_ := Aside0.mk (blk_below K4.out hb_); clear K4; have K4 := n0_; clear n0_; have n0_ := Aside0.mk (HB.out.trans (hb_.mono HB.out.size)); clear HB hb_ h1_ hg_; have HB := n0_; clear n0_))
  go_upto_region 3 with (fail)
  clear hmf
  have B8 := Aside0.mk (((Below.refl w5.heap.size w5).alloc (Nat.le_refl _) (.cells #[.func (.func 36) #[] #[.pointer (some ⟨a5, 0, none⟩), .pointer (some ⟨a4, 0, none⟩)]] 73 (0, 0))).alloc (by rw [World.size_alloc]; omega) (.cells #[.bool false] 4 (0, 0)))
  have k4 : ((w5.alloc (.cells #[.func (.func 36) #[] #[.pointer (some ⟨a5, 0, none⟩), .pointer (some ⟨a4, 0, none⟩)]] 73 (0, 0))).alloc (.cells #[.bool false] 4 (0, 0))).cell? ⟨a4, 0, none⟩ = some (.pointer (some ⟨gm, 0, none⟩)) := (blk_cell (blk_below K4.out B8.out) 0).trans rfl
  have k5 : ((w5.alloc (.cells #[.func (.func 36) #[] #[.pointer (some ⟨a5, 0, none⟩), .pointer (some ⟨a4, 0, none⟩)]] 73 (0, 0))).alloc (.cells #[.bool false] 4 (0, 0))).cell? ⟨a5, 0, none⟩ = some (.pointer (some ⟨g, 0, none⟩)) := (blk_cell (blk_below K5.out B8.out) 0).trans rfl
  have k7 : ((w5.alloc (.cells #[.func (.func 36) #[] #[.pointer (some ⟨a5, 0, none⟩), .pointer (some ⟨a4, 0, none⟩)]] 73 (0, 0))).alloc (.cells #[.bool false] 4 (0, 0))).cell? ⟨w5.heap.size, 0, none⟩ = some (.func (.func 36) #[] #[.pointer (some ⟨a5, 0, none⟩), .pointer (some ⟨a4, 0, none⟩)]) := (blk_cell (blk_below (blk_new w5 (.cells #[.func (.func 36) #[] #[.pointer (some ⟨a5, 0, none⟩), .pointer (some ⟨a4, 0, none⟩)]] 73 (0, 0))) (below_alloc (Below.refl _ _) _)) 0).trans rfl
  have k8 : ((w5.alloc (.cells #[.func (.func 36) #[] #[.pointer (some ⟨a5, 0, none⟩), .pointer (some ⟨a4, 0, none⟩)]] 73 (0, 0))).alloc (.cells #[.bool false] 4 (0, 0))).cell? ⟨(w5.heap.size + 1), 0, none⟩ = some (.bool false) := (blk_cell (show ((w5.alloc (.cells #[.func (.func 36) #[] #[.pointer (some ⟨a5, 0, none⟩), .pointer (some ⟨a4, 0, none⟩)]] 73 (0, 0))).alloc (.cells #[.bool false] 4 (0, 0))).heap[w5.heap.size + 1]? = some (.cells #[.bool false] 4 (0, 0)) from by have h := blk_new (w5.alloc (.cells #[.func (.func 36) #[] #[.pointer (some ⟨a5, 0, none⟩), .pointer (some ⟨a4, 0, none⟩)]] 73 (0, 0))) (.cells #[.bool false] 4 (0, 0)); rw [World.size_alloc] at h; exact h) 0).trans rfl
  have HB8 := Aside0.mk (HB.out.trans (B8.out.mono HB.out.size))
  have kcc : ((w5.alloc (.cells #[.func (.func 36) #[] #[.pointer (some ⟨a5, 0, none⟩), .pointer (some ⟨a4, 0, none⟩)]] 73 (0, 0))).alloc (.cells #[.bool false] 4 (0, 0))).cell? ⟨gm, 0, none⟩ = some (.int .u8 6) := (HB8.out.cell (World.block_lt_of_cell? _ _ KC.out)).trans KC.out
  have hmf : ∀ (fn : Fn) (first cap : Array Value) (w : World), (Instr.makeFunc fn first cap).run Try.prog w = .ok (.func fn first cap) w := fun _ _ _ _ => rfl
  go_wp2
  go_ret
  exact ⟨a4, a5, w5.heap.size, (w5.heap.size + 1), rfl, ⟨k4, k5, k7, k8⟩, L4.out, L5.out, HB.out.size, Nat.le_succ_of_le HB.out.size, HB8.out⟩
theorem form_1_16 {w : World} {g gm : Nat} (kc : w.cell? ⟨gm, 0, none⟩ = some (.int .u8 16)) :
    Calls Try.prog 21 #[.int .i64 1, .pointer (some ⟨gm, 0, none⟩), .pointer (some ⟨g, 0, none⟩)] w fun en w' => ∃ a4 a5 a7 a8 : Nat, en = .returned (.func (.func 45) #[] #[.pointer (some ⟨a7, 0, none⟩), .pointer (some ⟨a8, 0, none⟩), .pointer (some ⟨a5, 0, none⟩), .pointer (some ⟨a4, 0, none⟩)]) ∧ (w'.cell? ⟨a4, 0, none⟩ = some (.pointer (some ⟨gm, 0, none⟩)) ∧ w'.cell? ⟨a5, 0, none⟩ = some (.pointer (some ⟨g, 0, none⟩)) ∧ w'.cell? ⟨a7, 0, none⟩ = some (.func (.func 36) #[] #[.pointer (some ⟨a5, 0, none⟩), .pointer (some ⟨a4, 0, none⟩)]) ∧ w'.cell? ⟨a8, 0, none⟩ = some (.bool false)) ∧ w.heap.size ≤ a4 ∧ w.heap.size ≤ a5 ∧ w.heap.size ≤ a7 ∧ w.heap.size ≤ a8 ∧ Below w.heap.size w w' := by
  have KC := Aside0.mk kc
  have HB := Aside0.mk (Below.refl w.heap.size w)
  clear kc
  have hmf : ∀ (fn : Fn) (first cap : Array Value) (w : World), (Instr.makeFunc fn first cap).run Try.prog w = .ok (.func fn first cap) w := fun _ _ _ _ => rfl
  go_enter Try.func21, Try.ntmps21
  go_upto_region 1 with (first | ((with_reducible refine gate_dst (N := 4) rfl ?_); refine box_event ?hg (N := 4) ?hd (cs := #[.pointer (some ⟨gm, 0, none⟩)]) (t := 51) ?hr ?_; (case hd => rfl); (case hg => rfl); (case hr => first | (go_simp; done) | (go_simp; rfl)); intro a4 hg_ w4 h1_ hb_; have K4 := Aside0.mk h1_; have L4 := Aside0.mk (show w.heap.size ≤ a4 from by rw [hg_]; exact HB.out.size); have n0_ := Aside0.mk (HB.out.trans (hb_.mono HB.out.size)); clear HB hb_ h1_ hg_; have HB := n0_; clear n0_) | ((with_reducible refine gate_dst (N := 5) rfl ?_); refine box_event ?hg (N := 5) ?hd (cs := #[.pointer (some ⟨g, 0, none⟩)]) (t := 48) ?hr ?_; (case hd => rfl); (case hg => rfl); (case hr => first | (go_simp; done) | (go_simp; rfl)); intro a5 hg_ w5 h1_ hb_; have K5 := Aside0.mk h1_; have L5 := Aside0.mk (show w.heap.size ≤ a5 from by rw [hg_]; exact HB.out.size); have n0_ := Aside0.mk (blk_below K4.out hb_); clear K4; have K4 := n0_; clear n0_; have n0_ := Aside0.mk (HB.out.trans (hb_.mono HB.out.size)); clear HB hb_ h1_ hg_; have HB := n0_; clear n0_))
  go_upto_region 3 with (fail)
  clear hmf
  have B8 := Aside0.mk (((Below.refl w5.heap.size w5).alloc (Nat.le_refl _) (.cells #[.func (.func 36) #[] #[.pointer (some ⟨a5, 0, none⟩), .pointer (some ⟨a4, 0, none⟩)]] 73 (0, 0))).alloc (by rw [World.size_alloc]; omega) (.cells #[.bool false] 4 (0, 0)))
  have k4 : ((w5.alloc (.cells #[.func (.func 36) #[] #[.pointer (some ⟨a5, 0, none⟩), .pointer (some ⟨a4, 0, none⟩)]] 73 (0, 0))).alloc (.cells #[.bool false] 4 (0, 0))).cell? ⟨a4, 0, none⟩ = some (.pointer (some ⟨gm, 0, none⟩)) := (blk_cell (blk_below K4.out B8.out) 0).trans rfl
  have k5 : ((w5.alloc (.cells #[.func (.func 36) #[] #[.pointer (some ⟨a5, 0, none⟩), .pointer (some ⟨a4, 0, none⟩)]] 73 (0, 0))).alloc (.cells #[.bool false] 4 (0, 0))).cell? ⟨a5, 0, none⟩ = some (.pointer (some ⟨g, 0, none⟩)) := (blk_cell (blk_below K5.out B8.out) 0).trans rfl
  have k7 : ((w5.alloc (.cells #[.func (.func 36) #[] #[.pointer (some ⟨a5, 0, none⟩), .pointer (some ⟨a4, 0, none⟩)]] 73 (0, 0))).alloc (.cells #[.bool false] 4 (0, 0))).cell? ⟨w5.heap.size, 0, none⟩ = some (.func (.func 36) #[] #[.pointer (some ⟨a5, 0, none⟩), .pointer (some ⟨a4, 0, none⟩)]) := (blk_cell (blk_below (blk_new w5 (.cells #[.func (.func 36) #[] #[.pointer (some ⟨a5, 0, none⟩), .pointer (some ⟨a4, 0, none⟩)]] 73 (0, 0))) (below_alloc (Below.refl _ _) _)) 0).trans rfl
  have k8 : ((w5.alloc (.cells #[.func (.func 36) #[] #[.pointer (some ⟨a5, 0, none⟩), .pointer (some ⟨a4, 0, none⟩)]] 73 (0, 0))).alloc (.cells #[.bool false] 4 (0, 0))).cell? ⟨(w5.heap.size + 1), 0, none⟩ = some (.bool false) := (blk_cell (show ((w5.alloc (.cells #[.func (.func 36) #[] #[.pointer (some ⟨a5, 0, none⟩), .pointer (some ⟨a4, 0, none⟩)]] 73 (0, 0))).alloc (.cells #[.bool false] 4 (0, 0))).heap[w5.heap.size + 1]? = some (.cells #[.bool false] 4 (0, 0)) from by have h := blk_new (w5.alloc (.cells #[.func (.func 36) #[] #[.pointer (some ⟨a5, 0, none⟩), .pointer (some ⟨a4, 0, none⟩)]] 73 (0, 0))) (.cells #[.bool false] 4 (0, 0)); rw [World.size_alloc] at h; exact h) 0).trans rfl
  have HB8 := Aside0.mk (HB.out.trans (B8.out.mono HB.out.size))
  have kcc : ((w5.alloc (.cells #[.func (.func 36) #[] #[.pointer (some ⟨a5, 0, none⟩), .pointer (some ⟨a4, 0, none⟩)]] 73 (0, 0))).alloc (.cells #[.bool false] 4 (0, 0))).cell? ⟨gm, 0, none⟩ = some (.int .u8 16) := (HB8.out.cell (World.block_lt_of_cell? _ _ KC.out)).trans KC.out
  have hmf : ∀ (fn : Fn) (first cap : Array Value) (w : World), (Instr.makeFunc fn first cap).run Try.prog w = .ok (.func fn first cap) w := fun _ _ _ _ => rfl
  go_wp2
  go_ret
  exact ⟨a4, a5, w5.heap.size, (w5.heap.size + 1), rfl, ⟨k4, k5, k7, k8⟩, L4.out, L5.out, HB.out.size, Nat.le_succ_of_le HB.out.size, HB8.out⟩
theorem form_1_22 {w : World} {g gm : Nat} (kc : w.cell? ⟨gm, 0, none⟩ = some (.int .u8 22)) :
    Calls Try.prog 21 #[.int .i64 1, .pointer (some ⟨gm, 0, none⟩), .pointer (some ⟨g, 0, none⟩)] w fun en w' => ∃ a4 a5 a7 a8 : Nat, en = .returned (.func (.func 47) #[] #[.pointer (some ⟨a5, 0, none⟩), .pointer (some ⟨a4, 0, none⟩)]) ∧ (w'.cell? ⟨a4, 0, none⟩ = some (.pointer (some ⟨gm, 0, none⟩)) ∧ w'.cell? ⟨a5, 0, none⟩ = some (.pointer (some ⟨g, 0, none⟩)) ∧ w'.cell? ⟨a7, 0, none⟩ = some (.func (.func 36) #[] #[.pointer (some ⟨a5, 0, none⟩), .pointer (some ⟨a4, 0, none⟩)]) ∧ w'.cell? ⟨a8, 0, none⟩ = some (.bool false)) ∧ w.heap.size ≤ a4 ∧ w.heap.size ≤ a5 ∧ w.heap.size ≤ a7 ∧ w.heap.size ≤ a8 ∧ Below w.heap.size w w' := by
  have KC := Aside0.mk kc
  have HB := Aside0.mk (Below.refl w.heap.size w)
  clear kc
  have hmf : ∀ (fn : Fn) (first cap : Array Value) (w : World), (Instr.makeFunc fn first cap).run Try.prog w = .ok (.func fn first cap) w := fun _ _ _ _ => rfl
  go_enter Try.func21, Try.ntmps21
  go_upto_region 1 with (first | ((with_reducible refine gate_dst (N := 4) rfl ?_); refine box_event ?hg (N := 4) ?hd (cs := #[.pointer (some ⟨gm, 0, none⟩)]) (t := 51) ?hr ?_; (case hd => rfl); (case hg => rfl); (case hr => first | (go_simp; done) | (go_simp; rfl)); intro a4 hg_ w4 h1_ hb_; have K4 := Aside0.mk h1_; have L4 := Aside0.mk (show w.heap.size ≤ a4 from by rw [hg_]; exact HB.out.size); have n0_ := Aside0.mk (HB.out.trans (hb_.mono HB.out.size)); clear HB hb_ h1_ hg_; have HB := n0_; clear n0_) | ((with_reducible refine gate_dst (N := 5) rfl ?_); refine box_event ?hg (N := 5) ?hd (cs := #[.pointer (some ⟨g, 0, none⟩)]) (t := 48) ?hr ?_; (case hd => rfl); (case hg => rfl); (case hr => first | (go_simp; done) | (go_simp; rfl)); intro a5 hg_ w5 h1_ hb_; have K5 := Aside0.mk h1_; have L5 := Aside0.mk (show w.heap.size ≤ a5 from by rw [hg_]; exact HB.out.size); have n0_ := Aside0.mk (blk_below K4.out hb_); clear K4; have K4 := n0_; clear n0_; have n0_ := Aside0.mk (HB.out.trans (hb_.mono HB.out.size)); clear HB hb_ h1_ hg_; have HB := n0_; clear n0_))
  go_upto_region 3 with (fail)
  clear hmf
  have B8 := Aside0.mk (((Below.refl w5.heap.size w5).alloc (Nat.le_refl _) (.cells #[.func (.func 36) #[] #[.pointer (some ⟨a5, 0, none⟩), .pointer (some ⟨a4, 0, none⟩)]] 73 (0, 0))).alloc (by rw [World.size_alloc]; omega) (.cells #[.bool false] 4 (0, 0)))
  have k4 : ((w5.alloc (.cells #[.func (.func 36) #[] #[.pointer (some ⟨a5, 0, none⟩), .pointer (some ⟨a4, 0, none⟩)]] 73 (0, 0))).alloc (.cells #[.bool false] 4 (0, 0))).cell? ⟨a4, 0, none⟩ = some (.pointer (some ⟨gm, 0, none⟩)) := (blk_cell (blk_below K4.out B8.out) 0).trans rfl
  have k5 : ((w5.alloc (.cells #[.func (.func 36) #[] #[.pointer (some ⟨a5, 0, none⟩), .pointer (some ⟨a4, 0, none⟩)]] 73 (0, 0))).alloc (.cells #[.bool false] 4 (0, 0))).cell? ⟨a5, 0, none⟩ = some (.pointer (some ⟨g, 0, none⟩)) := (blk_cell (blk_below K5.out B8.out) 0).trans rfl
  have k7 : ((w5.alloc (.cells #[.func (.func 36) #[] #[.pointer (some ⟨a5, 0, none⟩), .pointer (some ⟨a4, 0, none⟩)]] 73 (0, 0))).alloc (.cells #[.bool false] 4 (0, 0))).cell? ⟨w5.heap.size, 0, none⟩ = some (.func (.func 36) #[] #[.pointer (some ⟨a5, 0, none⟩), .pointer (some ⟨a4, 0, none⟩)]) := (blk_cell (blk_below (blk_new w5 (.cells #[.func (.func 36) #[] #[.pointer (some ⟨a5, 0, none⟩), .pointer (some ⟨a4, 0, none⟩)]] 73 (0, 0))) (below_alloc (Below.refl _ _) _)) 0).trans rfl
  have k8 : ((w5.alloc (.cells #[.func (.func 36) #[] #[.pointer (some ⟨a5, 0, none⟩), .pointer (some ⟨a4, 0, none⟩)]] 73 (0, 0))).alloc (.cells #[.bool false] 4 (0, 0))).cell? ⟨(w5.heap.size + 1), 0, none⟩ = some (.bool false) := (blk_cell (show ((w5.alloc (.cells #[.func (.func 36) #[] #[.pointer (some ⟨a5, 0, none⟩), .pointer (some ⟨a4, 0, none⟩)]] 73 (0, 0))).alloc (.cells #[.bool false] 4 (0, 0))).heap[w5.heap.size + 1]? = some (.cells #[.bool false] 4 (0, 0)) from by have h := blk_new (w5.alloc (.cells #[.func (.func 36) #[] #[.pointer (some ⟨a5, 0, none⟩), .pointer (some ⟨a4, 0, none⟩)]] 73 (0, 0))) (.cells #[.bool false] 4 (0, 0)); rw [World.size_alloc] at h; exact h) 0).trans rfl
  have HB8 := Aside0.mk (HB.out.trans (B8.out.mono HB.out.size))
  have kcc : ((w5.alloc (.cells #[.func (.func 36) #[] #[.pointer (some ⟨a5, 0, none⟩), .pointer (some ⟨a4, 0, none⟩)]] 73 (0, 0))).alloc (.cells #[.bool false] 4 (0, 0))).cell? ⟨gm, 0, none⟩ = some (.int .u8 22) := (HB8.out.cell (World.block_lt_of_cell? _ _ KC.out)).trans KC.out
  have hmf : ∀ (fn : Fn) (first cap : Array Value) (w : World), (Instr.makeFunc fn first cap).run Try.prog w = .ok (.func fn first cap) w := fun _ _ _ _ => rfl
  go_wp2
  go_ret
  exact ⟨a4, a5, w5.heap.size, (w5.heap.size + 1), rfl, ⟨k4, k5, k7, k8⟩, L4.out, L5.out, HB.out.size, Nat.le_succ_of_le HB.out.size, HB8.out⟩
theorem form_1_23 {w : World} {g gm : Nat} (kc : w.cell? ⟨gm, 0, none⟩ = some (.int .u8 23)) :
    Calls Try.prog 21 #[.int .i64 1, .pointer (some ⟨gm, 0, none⟩), .pointer (some ⟨g, 0, none⟩)] w fun en w' => ∃ a4 a5 a7 a8 : Nat, en = .returned (.func (.func 40) #[] #[.pointer (some ⟨a5, 0, none⟩), .pointer (some ⟨a4, 0, none⟩)]) ∧ (w'.cell? ⟨a4, 0, none⟩ = some (.pointer (some ⟨gm, 0, none⟩)) ∧ w'.cell? ⟨a5, 0, none⟩ = some (.pointer (some ⟨g, 0, none⟩)) ∧ w'.cell? ⟨a7, 0, none⟩ = some (.func (.func 36) #[] #[.pointer (some ⟨a5, 0, none⟩), .pointer (some ⟨a4, 0, none⟩)]) ∧ w'.cell? ⟨a8, 0, none⟩ = some (.bool false)) ∧ w.heap.size ≤ a4 ∧ w.heap.size ≤ a5 ∧ w.heap.size ≤ a7 ∧ w.heap.size ≤ a8 ∧ Below w.heap.size w w' := by
  have KC := Aside0.mk kc
  have HB := Aside0.mk (Below.refl w.heap.size w)
  clear kc
  have hmf : ∀ (fn : Fn) (first cap : Array Value) (w : World), (Instr.makeFunc fn first cap).run Try.prog w = .ok (.func fn first cap) w := fun _ _ _ _ => rfl
  go_enter Try.func21, Try.ntmps21
  go_upto_region 1 with (first | ((with_reducible refine gate_dst (N := 4) rfl ?_); refine box_event ?hg (N := 4) ?hd (cs := #[.pointer (some ⟨gm, 0, none⟩)]) (t := 51) ?hr ?_; (case hd => rfl); (case hg => rfl); (case hr => first | (go_simp; done) | (go_simp; rfl)); intro a4 hg_ w4 h1_ hb_; have K4 := Aside0.mk h1_; have L4 := Aside0.mk (show w.heap.size ≤ a4 from by rw [hg_]; exact HB.out.size); have n0_ := Aside0.mk (HB.out.trans (hb_.mono HB.out.size)); clear HB hb_ h1_ hg_; have HB := n0_; clear n0_) | ((with_reducible refine gate_dst (N := 5) rfl ?_); refine box_event ?hg (N := 5) ?hd (cs := #[.pointer (some ⟨g, 0, none⟩)]) (t := 48) ?hr ?_; (case hd => rfl); (case hg => rfl); (case hr => first | (go_simp; done) | (go_simp; rfl)); intro a5 hg_ w5 h1_ hb_; have K5 := Aside0.mk h1_; have L5 := Aside0.mk (show w.heap.size ≤ a5 from by rw [hg_]; exact HB.out.size); have n0_ := Aside0.mk (blk_below K4.out hb_); clear K4; have K4 := n0_; clear n0_; have n0_ := Aside0.mk (HB.out.trans (hb_.mono HB.out.size)); clear HB hb_ h1_ hg_; have HB := n0_; clear n0_))
  go_upto_region 3 with (fail)
  clear hmf
  have B8 := Aside0.mk (((Below.refl w5.heap.size w5).alloc (Nat.le_refl _) (.cells #[.func (.func 36) #[] #[.pointer (some ⟨a5, 0, none⟩), .pointer (some ⟨a4, 0, none⟩)]] 73 (0, 0))).alloc (by rw [World.size_alloc]; omega) (.cells #[.bool false] 4 (0, 0)))
  have k4 : ((w5.alloc (.cells #[.func (.func 36) #[] #[.pointer (some ⟨a5, 0, none⟩), .pointer (some ⟨a4, 0, none⟩)]] 73 (0, 0))).alloc (.cells #[.bool false] 4 (0, 0))).cell? ⟨a4, 0, none⟩ = some (.pointer (some ⟨gm, 0, none⟩)) := (blk_cell (blk_below K4.out B8.out) 0).trans rfl
  have k5 : ((w5.alloc (.cells #[.func (.func 36) #[] #[.pointer (some ⟨a5, 0, none⟩), .pointer (some ⟨a4, 0, none⟩)]] 73 (0, 0))).alloc (.cells #[.bool false] 4 (0, 0))).cell? ⟨a5, 0, none⟩ = some (.pointer (some ⟨g, 0, none⟩)) := (blk_cell (blk_below K5.out B8.out) 0).trans rfl
  have k7 : ((w5.alloc (.cells #[.func (.func 36) #[] #[.pointer (some ⟨a5, 0, none⟩), .pointer (some ⟨a4, 0, none⟩)]] 73 (0, 0))).alloc (.cells #[.bool false] 4 (0, 0))).cell? ⟨w5.heap.size, 0, none⟩ = some (.func (.func 36) #[] #[.pointer (some ⟨a5, 0, none⟩), .pointer (some ⟨a4, 0, none⟩)]) := (blk_cell (blk_below (blk_new w5 (.cells #[.func (.func 36) #[] #[.pointer (some ⟨a5, 0, none⟩), .pointer (some ⟨a4, 0, none⟩)]] 73 (0, 0))) (below_alloc (Below.refl _ _) _)) 0).trans rfl
  have k8 : ((w5.alloc (.cells #[.func (.func 36) #[] #[.pointer (some ⟨a5, 0, none⟩), .pointer (some ⟨a4, 0, none⟩)]] 73 (0, 0))).alloc (.cells #[.bool false] 4 (0, 0))).cell? ⟨(w5.heap.size + 1), 0, none⟩ = some (.bool false) := (blk_cell (show ((w5.alloc (.cells #[.func (.func 36) #[] #[.pointer (some ⟨a5, 0, none⟩), .pointer (some ⟨a4, 0, none⟩)]] 73 (0, 0))).alloc (.cells #[.bool false] 4 (0, 0))).heap[w5.heap.size + 1]? = some (.cells #[.bool false] 4 (0, 0)) from by have h := blk_new (w5.alloc (.cells #[.func (.func 36) #[] #[.pointer (some ⟨a5, 0, none⟩), .pointer (some ⟨a4, 0, none⟩)]] 73 (0, 0))) (.cells #[.bool false] 4 (0, 0)); rw [World.size_alloc] at h; exact h) 0).trans rfl
  have HB8 := Aside0.mk (HB.out.trans (B8.out.mono HB.out.size))
  have kcc : ((w5.alloc (.cells #[.func (.func 36) #[] #[.pointer (some ⟨a5, 0, none⟩), .pointer (some ⟨a4, 0, none⟩)]] 73 (0, 0))).alloc (.cells #[.bool false] 4 (0, 0))).cell? ⟨gm, 0, none⟩ = some (.int .u8 23) := (HB8.out.cell (World.block_lt_of_cell? _ _ KC.out)).trans KC.out
  have hmf : ∀ (fn : Fn) (first cap : Array Value) (w : World), (Instr.makeFunc fn first cap).run Try.prog w = .ok (.func fn first cap) w := fun _ _ _ _ => rfl
  go_wp2
  go_ret
  exact ⟨a4, a5, w5.heap.size, (w5.heap.size + 1), rfl, ⟨k4, k5, k7, k8⟩, L4.out, L5.out, HB.out.size, Nat.le_succ_of_le HB.out.size, HB8.out⟩
theorem form_1_24 {w : World} {g gm : Nat} (kc : w.cell? ⟨gm, 0, none⟩ = some (.int .u8 24)) :
    Calls Try.prog 21 #[.int .i64 1, .pointer (some ⟨gm, 0, none⟩), .pointer (some ⟨g, 0, none⟩)] w fun en w' => ∃ a4 a5 a7 a8 : Nat, en = .returned (.func (.func 50) #[] #[.pointer (some ⟨a5, 0, none⟩), .pointer (some ⟨a4, 0, none⟩)]) ∧ (w'.cell? ⟨a4, 0, none⟩ = some (.pointer (some ⟨gm, 0, none⟩)) ∧ w'.cell? ⟨a5, 0, none⟩ = some (.pointer (some ⟨g, 0, none⟩)) ∧ w'.cell? ⟨a7, 0, none⟩ = some (.func (.func 36) #[] #[.pointer (some ⟨a5, 0, none⟩), .pointer (some ⟨a4, 0, none⟩)]) ∧ w'.cell? ⟨a8, 0, none⟩ = some (.bool false)) ∧ w.heap.size ≤ a4 ∧ w.heap.size ≤ a5 ∧ w.heap.size ≤ a7 ∧ w.heap.size ≤ a8 ∧ Below w.heap.size w w' := by
  have KC := Aside0.mk kc
  have HB := Aside0.mk (Below.refl w.heap.size w)
  clear kc
  have hmf : ∀ (fn : Fn) (first cap : Array Value) (w : World), (Instr.makeFunc fn first cap).run Try.prog w = .ok (.func fn first cap) w := fun _ _ _ _ => rfl
  go_enter Try.func21, Try.ntmps21
  go_upto_region 1 with (first | ((with_reducible refine gate_dst (N := 4) rfl ?_); refine box_event ?hg (N := 4) ?hd (cs := #[.pointer (some ⟨gm, 0, none⟩)]) (t := 51) ?hr ?_; (case hd => rfl); (case hg => rfl); (case hr => first | (go_simp; done) | (go_simp; rfl)); intro a4 hg_ w4 h1_ hb_; have K4 := Aside0.mk h1_; have L4 := Aside0.mk (show w.heap.size ≤ a4 from by rw [hg_]; exact HB.out.size); have n0_ := Aside0.mk (HB.out.trans (hb_.mono HB.out.size)); clear HB hb_ h1_ hg_; have HB := n0_; clear n0_) | ((with_reducible refine gate_dst (N := 5) rfl ?_); refine box_event ?hg (N := 5) ?hd (cs := #[.pointer (some ⟨g, 0, none⟩)]) (t := 48) ?hr ?_; (case hd => rfl); (case hg => rfl); (case hr => first | (go_simp; done) | (go_simp; rfl)); intro a5 hg_ w5 h1_ hb_; have K5 := Aside0.mk h1_; have L5 := Aside0.mk (show w.heap.size ≤ a5 from by rw [hg_]; exact HB.out.size); have n0_ := Aside0.mk (blk_below K4.out hb_); clear K4; have K4 := n0_; clear n0_; have n0_ := Aside0.mk (HB.out.trans (hb_.mono HB.out.size)); clear HB hb_ h1_ hg_; have HB := n0_; clear n0_))
  go_upto_region 3 with (fail)
  clear hmf
  have B8 := Aside0.mk (((Below.refl w5.heap.size w5).alloc (Nat.le_refl _) (.cells #[.func (.func 36) #[] #[.pointer (some ⟨a5, 0, none⟩), .pointer (some ⟨a4, 0, none⟩)]] 73 (0, 0))).alloc (by rw [World.size_alloc]; omega) (.cells #[.bool false] 4 (0, 0)))
  have k4 : ((w5.alloc (.cells #[.func (.func 36) #[] #[.pointer (some ⟨a5, 0, none⟩), .pointer (some ⟨a4, 0, none⟩)]] 73 (0, 0))).alloc (.cells #[.bool false] 4 (0, 0))).cell? ⟨a4, 0, none⟩ = some (.pointer (some ⟨gm, 0, none⟩)) := (blk_cell (blk_below K4.out B8.out) 0).trans rfl
  have k5 : ((w5.alloc (.cells #[.func (.func 36) #[] #[.pointer (some ⟨a5, 0, none⟩), .pointer (some ⟨a4, 0, none⟩)]] 73 (0, 0))).alloc (.cells #[.bool false] 4 (0, 0))).cell? ⟨a5, 0, none⟩ = some (.pointer (some ⟨g, 0, none⟩)) := (blk_cell (blk_below K5.out B8.out) 0).trans rfl
  have k7 : ((w5.alloc (.cells #[.func (.func 36) #[] #[.pointer (some ⟨a5, 0, none⟩), .pointer (some ⟨a4, 0, none⟩)]] 73 (0, 0))).alloc (.cells #[.bool false] 4 (0, 0))).cell? ⟨w5.heap.size, 0, none⟩ = some (.func (.func 36) #[] #[.pointer (some ⟨a5, 0, none⟩), .pointer (some ⟨a4, 0, none⟩)]) := (blk_cell (blk_below (blk_new w5 (.cells #[.func (.func 36) #[] #[.pointer (some ⟨a5, 0, none⟩), .pointer (some ⟨a4, 0, none⟩)]] 73 (0, 0))) (below_alloc (Below.refl _ _) _)) 0).trans rfl
  have k8 : ((w5.alloc (.cells #[.func (.func 36) #[] #[.pointer (some ⟨a5, 0, none⟩), .pointer (some ⟨a4, 0, none⟩)]] 73 (0, 0))).alloc (.cells #[.bool false] 4 (0, 0))).cell? ⟨(w5.heap.size + 1), 0, none⟩ = some (.bool false) := (blk_cell (show ((w5.alloc (.cells #[.func (.func 36) #[] #[.pointer (some ⟨a5, 0, none⟩), .pointer (some ⟨a4, 0, none⟩)]] 73 (0, 0))).alloc (.cells #[.bool false] 4 (0, 0))).heap[w5.heap.size + 1]? = some (.cells #[.bool false] 4 (0, 0)) from by have h := blk_new (w5.alloc (.cells #[.func (.func 36) #[] #[.pointer (some ⟨a5, 0, none⟩), .pointer (some ⟨a4, 0, none⟩)]] 73 (0, 0))) (.cells #[.bool false] 4 (0, 0)); rw [World.size_alloc] at h; exact h) 0).trans rfl
  have HB8 := Aside0.mk (HB.out.trans (B8.out.mono HB.out.size))
  have kcc : ((w5.alloc (.cells #[.func (.func 36) #[] #[.pointer (some ⟨a5, 0, none⟩), .pointer (some ⟨a4, 0, none⟩)]] 73 (0, 0))).alloc (.cells #[.bool false] 4 (0, 0))).cell? ⟨gm, 0, none⟩ = some (.int .u8 24) := (HB8.out.cell (World.block_lt_of_cell? _ _ KC.out)).trans KC.out
  have hmf : ∀ (fn : Fn) (first cap : Array Value) (w : World), (Instr.makeFunc fn first cap).run Try.prog w = .ok (.func fn first cap) w := fun _ _ _ _ => rfl
  go_wp2
  go_ret
  exact ⟨a4, a5, w5.heap.size, (w5.heap.size + 1), rfl, ⟨k4, k5, k7, k8⟩, L4.out, L5.out, HB.out.size, Nat.le_succ_of_le HB.out.size, HB8.out⟩
theorem St_first {w0 w1 w2 w3 : World} {gr gm g : Nat} {cx : Array Value} {m : Msg} {c : Cu} (hg : gr = w0.heap.size) (hk : w1.heap[gr]? = some (.cells zeroC 30 (0, 0))) (hb : Below w0.heap.size w0 w1) (hm : gm = w1.heap.size) (hk2 : w2.heap[gm]? = some (.cells cx 30 (0, 0))) (hb2 : Below w1.heap.size w1 w2) (M : ∀ W, IsMsg W cx m) (nl : NilL cx)
    (h1 : w2.heap.size ≤ g) (hc : PAt w2.heap.size g w3 g c) (h2 : Below w2.heap.size w2 w3) : PS.St w0 gr g gm w3 c m := by
  have l1 := blk_lt hk
  have l2 := blk_lt hk2
  have s0 := hb.size
  have s1 := hb2.size
  exact ⟨hb.trans ((hb2.mono hb.size).trans (h2.mono (Nat.le_trans hb.size hb2.size))), ⟨w2.heap.size, g, hc, .inl l2, .inl (by omega)⟩, ⟨cx, blk_below hk2 h2, fun W' _ => M W'⟩, blk_below (blk_below hk hb2) h2, ⟨by omega, by omega, by omega⟩, ⟨by omega, by omega, by omega⟩, ⟨cx, blk_below hk2 h2, nl⟩⟩
theorem parse_dir {A : Option Addr} {c : Nat} {l : List Int} {w0 : World} (hr : Kd.C (Kd.int .u8) w0 A l.length l) (hc : l.length ≤ c) (hs : l.length ≤ 1000000) (hb : isBytes l) {dir code : Int} (h0 : dir ≠ 0) (h1 : dir ≠ 1) :
    Calls Try.prog 12 #[.int .i64 dir, .int .u8 code, .slice A l.length c] w0 fun en w' => ∃ cx, en = .returned (.tuple #[.agg cx, .int .i64 1]) ∧ IsMsg w' cx zeroM ∧ Below w0.heap.size w0 w' := by
  clear hr hc hs hb
  have H := Aside0.mk (Held.start w0)
  have e0 : (dir != 0) = true := by simpa using h0
  have e1 : (dir != 1) = true := by simpa using h1
  have e0' : (dir == 0) = false := by simpa using h0
  have e1' : (dir == 1) = false := by simpa using h1
  clear h0 h1
  go_enter Try.func12, Try.ntmps12
  go_wp2_with (first | ((with_reducible refine gate_dst (N := 6) rfl ?_); refine ev_alloc rfl rfl ?_; intro g w1 hg_ h1_ h2_; have n0_ := Aside0.mk (H.out.new hg_ h1_ h2_); clear H; have H := n0_; clear n0_; clear h1_ h2_ hg_) | ((with_reducible refine gate_dst (N := 18) rfl ?_); refine ev_build (zeroC) rfl (by go_simp; first | rfl | done) ?_; intro cx hcx_; have M := Aside0.mk (show ∀ W, IsMsg W cx _ from fun W => by rw [hcx_]; exact zero_is W); clear hcx_) | ((with_reducible refine gate_op (u := .store 30 (.tmp 6) (.tmp 18)) rfl ?_); refine ev_store rfl rfl rfl rfl H.out (i := 0) rfl (rfl) (M.out w0) ?_; intro w2 h3_ h4_; have n0_ := Aside0.mk (h3_); clear H; have H := n0_; clear n0_; clear h3_ h4_))
  refine bodyPost_ret (results_ct rfl _ _ g 30 cx (0, 0) _ rfl (H.out.at 0 rfl) Try.underlying30 rfl (msg_info ((M.out w0).size))) rfl (⟨cx, rfl, M.out _, H.out.b⟩)
theorem parse_no0 {A : Option Addr} {c : Nat} {l : List Int} {w0 : World} (hr : Kd.C (Kd.int .u8) w0 A l.length l) (hc : l.length ≤ c) (hs : l.length ≤ 1000000) (hb : isBytes l) {code : Int} (hcd : 0 ≤ code ∧ code < 256) (hk : ¬ isCode code) :
    Calls Try.prog 12 #[.int .i64 0, .int .u8 code, .slice A l.length c] w0 fun en w' => ∃ cx, en = .returned (.tuple #[.agg cx, .int .i64 4]) ∧ IsMsg w' cx zeroM ∧ Below w0.heap.size w0 w' := by
  have HR := Aside0.mk hr
  have HC := Aside0.mk hc
  have HS := Aside0.mk hs
  have HBB := Aside0.mk hb
  clear hr hc hs hb
  have HKB := Aside0.mk hcd
  have HKN := Aside0.mk hk
  clear hcd hk
  go_enter Try.func12, Try.ntmps12
  go_upto_region 3 with (first | ((with_reducible refine gate_dst (N := 6) rfl ?_); refine ev_alloc rfl rfl ?_; intro gr w1 hg_ h1_ h2_; have HG := Aside0.mk hg_; have H1 := Aside0.mk h1_; have H2 := Aside0.mk h2_; clear hg_ h1_ h2_))
  go_upto_region 4 with (first | ((with_reducible refine gate_dst (N := 20) rfl ?_); refine ev_build ((zeroC.setIfInBounds 0 (.int .u8 (code)))) rfl (by go_simp; first | rfl | done) ?_; intro cx hcx_; have M := Aside0.mk (show ∀ W, IsMsg W cx _ from fun W => by rw [hcx_]; exact (fun W => set_code (zero_is W) (v := code) ⟨by have := HKB.out; omega, by have := HKB.out; omega⟩) W); have NL := Aside0.mk (show NilL cx by rw [hcx_]; exact PS.zero_nil.set (by decide)); clear hcx_) | ((with_reducible refine gate_dst (N := 8) rfl ?_); refine ev_var (y := .tmp 20) rfl rfl rfl rfl rfl (M.out w0) rfl rfl ?_; intro gm w2 hg_ h1_ hb_; have HM1 := Aside0.mk hg_; have HM2 := Aside0.mk h1_; have HM3 := Aside0.mk hb_; clear h1_ hb_ hg_))
  go_upto_region 5 with (first | (go_at_call 20; (with_reducible refine (p_new A c l _ (Kd.C_below HR.out (H2.out.trans (HM3.out.mono H2.out.size))) HC.out HS.out HBB.out).mono ?_); rintro en w3 ⟨g, rfl, q1_, q2_, q3_, q4_⟩; have HP := Aside0.mk (St_first HG.out H1.out H2.out HM1.out HM2.out HM3.out M.out NL.out q1_ q2_ q3_); clear q1_ q2_ q3_ q4_ H1 H2 HG HM1 HM2 HM3))
  go_upto_region 6 with (first | (go_at_call 21; (with_reducible refine (form_0_no HKN.out (PS.St.at_code HP.out).1).mono ?_); rintro en w4 ⟨a4, a5, a7, a8, rfl, ⟨f4_, f5_, f7_, f8_⟩, l4_, l5_, l7_, l8_, hb_⟩; have hl_ := PS.Sk.lt (PS.Sk.start HP.out); have F4 := Aside0.mk f4_; have F5 := Aside0.mk f5_; have F7 := Aside0.mk f7_; have F8 := Aside0.mk f8_; have F4g : a4 ≠ g := (by omega); have F4m : a4 ≠ gm := (by omega); have F5g : a5 ≠ g := (by omega); have F5m : a5 ≠ gm := (by omega); have F7g : a7 ≠ g := (by omega); have F7m : a7 ≠ gm := (by omega); have F8g : a8 ≠ g := (by omega); have F8m : a8 ≠ gm := (by omega); have n0_ := Aside0.mk (PS.St.below HP.out hb_); clear HP hb_ f4_ f5_ f7_ f8_ l4_ l5_ l7_ l8_ hl_; have HP := n0_; clear n0_))
  have hef := eq_nilf
  have H := Aside0.mk (PS.St.held HP.out)
  clear HP NL F4g F4m F5g F5m F7g F7m F8g F8m F4 F5 F7 F8
  go_wp2_with (first | ((with_reducible refine gate_dst (N := 28) rfl ?_); refine ev_build (zeroC) rfl (by go_simp; first | rfl | done) ?_; intro cx hcx_; have M := Aside0.mk (show ∀ W, IsMsg W cx _ from fun W => by rw [hcx_]; exact zero_is W); clear hcx_) | ((with_reducible refine gate_op (u := .store 30 (.tmp 6) (.tmp 28)) rfl ?_); refine ev_store rfl rfl rfl rfl H.out (i := 0) rfl (rfl) (M.out w0) ?_; intro w99 h3_ h4_; have n0_ := Aside0.mk (h3_); clear H; have H := n0_; clear n0_; clear h3_ h4_))
  refine bodyPost_ret (results_ct rfl _ _ gr 30 _ (0, 0) _ rfl (H.out.at 0 rfl) Try.underlying30 rfl (msg_info ((M.out w0).size))) rfl (⟨_, rfl, M.out _, H.out.b⟩)
theorem parse_0_3 {A : Option Addr} {c : Nat} {l : List Int} {w0 : World} (hr : Kd.C (Kd.int .u8) w0 A l.length l) (hc : l.length ≤ c) (hs : l.length ≤ 1000000) (hb : isBytes l) :
    Calls Try.prog 12 #[.int .i64 0, .int .u8 3, .slice A l.length c] w0 fun en w' => ∃ cx, en = .returned (.tuple #[.agg cx, .int .i64 (parse 0 3 l).2]) ∧ IsMsg w' cx (parse 0 3 l).1 ∧ Below w0.heap.size w0 w' := by
  have HR := Aside0.mk hr
  have HC := Aside0.mk hc
  have HS := Aside0.mk hs
  have HBB := Aside0.mk hb
  clear hr hc hs hb
  go_enter Try.func12, Try.ntmps12
  go_upto_region 3 with (first | ((with_reducible refine gate_dst (N := 6) rfl ?_); refine ev_alloc rfl rfl ?_; intro gr w1 hg_ h1_ h2_; have HG := Aside0.mk hg_; have H1 := Aside0.mk h1_; have H2 := Aside0.mk h2_; clear hg_ h1_ h2_))
  go_upto_region 4 with (first | ((with_reducible refine gate_dst (N := 20) rfl ?_); refine ev_build ((zeroC.setIfInBounds 0 (.int .u8 (3)))) rfl (by go_simp; first | rfl | done) ?_; intro cx hcx_; have M := Aside0.mk (show ∀ W, IsMsg W cx _ from fun W => by rw [hcx_]; exact (fun W => set_code (zero_is W) (v := 3) (by decide)) W); have NL := Aside0.mk (show NilL cx by rw [hcx_]; exact PS.zero_nil.set (by decide)); clear hcx_) | ((with_reducible refine gate_dst (N := 8) rfl ?_); refine ev_var (y := .tmp 20) rfl rfl rfl rfl rfl (M.out w0) rfl rfl ?_; intro gm w2 hg_ h1_ hb_; have HM1 := Aside0.mk hg_; have HM2 := Aside0.mk h1_; have HM3 := Aside0.mk hb_; clear h1_ hb_ hg_))
  go_upto_region 5 with (first | (go_at_call 20; (with_reducible refine (p_new A c l _ (Kd.C_below HR.out (H2.out.trans (HM3.out.mono H2.out.size))) HC.out HS.out HBB.out).mono ?_); rintro en w3 ⟨g, rfl, q1_, q2_, q3_, q4_⟩; have HP := Aside0.mk (St_first HG.out H1.out H2.out HM1.out HM2.out HM3.out M.out NL.out q1_ q2_ q3_); clear q1_ q2_ q3_ q4_ H1 H2 HG HM1 HM2 HM3))
  go_upto_region 6 with (first | (go_at_call 21; (with_reducible refine (form_0_3 (PS.St.at_code HP.out).1).mono ?_); rintro en w4 ⟨a4, a5, a7, a8, rfl, ⟨f4_, f5_, f7_, f8_⟩, l4_, l5_, l7_, l8_, hb_⟩; have hl_ := PS.Sk.lt (PS.Sk.start HP.out); have F4 := Aside0.mk f4_; have F5 := Aside0.mk f5_; have F7 := Aside0.mk f7_; have F8 := Aside0.mk f8_; have F4g : a4 ≠ g := (by omega); have F4m : a4 ≠ gm := (by omega); have F5g : a5 ≠ g := (by omega); have F5m : a5 ≠ gm := (by omega); have F7g : a7 ≠ g := (by omega); have F7m : a7 ≠ gm := (by omega); have F8g : a8 ≠ g := (by omega); have F8m : a8 ≠ gm := (by omega); have n0_ := Aside0.mk (PS.St.below HP.out hb_); clear HP hb_ f4_ f5_ f7_ f8_ l4_ l5_ l7_ l8_ hl_; have HP := n0_; clear n0_))
  have hef := eq_func
  go_upto_region 8 with (fail)
  clear hef
  obtain ⟨m0, hm0⟩ : ∃ z, z = ({ zeroM with code := 3 } : Msg) := ⟨_, rfl⟩
  rw [← hm0] at HP
  have HM0 := Aside0.mk hm0
  have HMC := Aside0.mk (show m0.code = 3 by rw [hm0])
  clear hm0 M NL
  have n0_ := Aside0.mk (PS.Sk.start HP.out)
  clear HP
  have HP := n0_
  clear n0_
  go_upto_region 9 with (first | (go_at_call 39; (with_reducible refine (asks_any HP.out F5.out F5g F5m F4.out F4g F4m F7.out F7g F7m).mono ?_); rintro en w6 ⟨rfl, hp_⟩; obtain ⟨cb, e_⟩ : ∃ z, z = whereR 125 m0 ⟨l, false, 0⟩ := ⟨_, rfl⟩; rw [← e_] at hp_; obtain ⟨c9, m9⟩ := cb; have EB := Aside0.mk e_; clear e_; have n0_ := Aside0.mk hp_; clear HP hp_; have HP := n0_; clear n0_))
  replace HP : Aside0 (PS.Sk w4 w0 gr g gm w6 c9 m9) := HP
  have n0_ := Aside0.mk HP.out.st
  clear HP F4g F4m F5g F5m F7g F7m F8g F8m F4 F5 F7 F8
  have HP := n0_
  clear n0_
  have E2 := Aside0.mk (show bodyR 0 m0 (cu l) = (c9, m9) from by
    unfold bodyR
    rw [if_pos (by have := HMC.out; omega)]
    rw [if_pos (by decide)]
    rw [EB.out]
    rfl)
  go_upto_region 10 with (first | (go_at_call 22; (with_reducible refine (PS.St.fin HP.out).mono ?_); rintro en x1 ⟨rfl, hp_⟩; obtain ⟨c10, ec_⟩ : ∃ z, z = c9.fin := ⟨_, rfl⟩; rw [← ec_] at hp_; have Ec10 := Aside0.mk ec_; clear ec_; have n0_ := Aside0.mk hp_; clear HP hp_; have HP := n0_; clear n0_))
  go_upto_region 11 with (first | (go_at_call 23; (with_reducible refine (PS.St.err HP.out).mono ?_); rintro en x2 ⟨rfl, hp_⟩; have n0_ := Aside0.mk hp_; clear HP hp_; have HP := n0_; clear n0_))
  have he1 : parse 0 3 l = if c10.e ≠ 0 then (zeroM, c10.e) else (m9, 0) := by
    unfold parse
    rw [if_neg (by decide), if_neg (by decide), ← HM0.out, E2.out, Ec10.out]
  by_cases h9 : c10.e = 0
  · have ex_ : parse 0 3 l = (m9, 0) := by rw [he1, if_neg (fun h => h h9)]
    have EX := Aside0.mk ex_
    have g1 : (c10.e != 0) = false := by rw [h9]; rfl
    have g2 : (c10.e == 0) = true := by rw [h9]; rfl
    clear h9 ex_ he1
    obtain ⟨cx, h_, hz_, hm_⟩ := PS.St.held2 HP.out
    have H := Aside0.mk h_
    have HZ := Aside0.mk hz_
    have HM := Aside0.mk hm_
    have HB := Aside0.mk HP.out.b
    clear h_ hz_ hm_ HP
    go_wp2_with (first | ((with_reducible refine gate_dst (N := 39) rfl ?_); refine ev_load (x := .tmp 8) rfl rfl rfl H.out (i := 1) rfl (HZ.out) ?_) | ((with_reducible refine gate_op (u := .store 30 (.tmp 6) (.tmp 39)) rfl ?_); refine ev_store rfl rfl rfl rfl H.out (i := 0) rfl rfl (HM.out _ ⟨rfl, rfl, rfl, Kept.refl _ _⟩) ?_; intro x91 h3_ h4_; have HE := Aside0.mk (HM.out _ h4_); clear h4_; have n0_ := Aside0.mk (h3_); clear H; have H := n0_; clear n0_; clear h3_))
    refine bodyPost_ret (results_ct rfl _ _ gr 30 _ (0, 0) _ rfl (H.out.at 0 rfl) Try.underlying30 rfl (msg_info (HZ.out))) rfl (by rw [EX.out]; exact ⟨_, rfl, HE.out, H.out.b⟩)
  · have ex_ : parse 0 3 l = (zeroM, c10.e) := by rw [he1, if_pos h9]
    have EX := Aside0.mk ex_
    have g1 : (c10.e != 0) = true := by simpa using h9
    have g2 : (c10.e == 0) = false := by simpa using h9
    clear h9 ex_ he1
    have H := Aside0.mk (PS.St.held HP.out)
    clear HP
    go_wp2_with (first | ((with_reducible refine gate_dst (N := 37) rfl ?_); refine ev_build (zeroC) rfl (by go_simp; first | rfl | done) ?_; intro cx hcx_; have M := Aside0.mk (show ∀ W, IsMsg W cx _ from fun W => by rw [hcx_]; exact zero_is W); clear hcx_) | ((with_reducible refine gate_op (u := .store 30 (.tmp 6) (.tmp 37)) rfl ?_); refine ev_store rfl rfl rfl rfl H.out (i := 0) rfl (rfl) (M.out w0) ?_; intro x90 h3_ h4_; have n0_ := Aside0.mk (h3_); clear H; have H := n0_; clear n0_; clear h3_ h4_))
    refine bodyPost_ret (results_ct rfl _ _ gr 30 _ (0, 0) _ rfl (H.out.at 0 rfl) Try.underlying30 rfl (msg_info ((M.out w0).size))) rfl (by rw [EX.out]; exact ⟨_, rfl, M.out _, H.out.b⟩)
theorem parse_0_4 {A : Option Addr} {c : Nat} {l : List Int} {w0 : World} (hr : Kd.C (Kd.int .u8) w0 A l.length l) (hc : l.length ≤ c) (hs : l.length ≤ 1000000) (hb : isBytes l) :
    Calls Try.prog 12 #[.int .i64 0, .int .u8 4, .slice A l.length c] w0 fun en w' => ∃ cx, en = .returned (.tuple #[.agg cx, .int .i64 (parse 0 4 l).2]) ∧ IsMsg w' cx (parse 0 4 l).1 ∧ Below w0.heap.size w0 w' := by
  have HR := Aside0.mk hr
  have HC := Aside0.mk hc
  have HS := Aside0.mk hs
  have HBB := Aside0.mk hb
  clear hr hc hs hb
  go_enter Try.func12, Try.ntmps12
  go_upto_region 3 with (first | ((with_reducible refine gate_dst (N := 6) rfl ?_); refine ev_alloc rfl rfl ?_; intro gr w1 hg_ h1_ h2_; have HG := Aside0.mk hg_; have H1 := Aside0.mk h1_; have H2 := Aside0.mk h2_; clear hg_ h1_ h2_))
  go_upto_region 4 with (first | ((with_reducible refine gate_dst (N := 20) rfl ?_); refine ev_build ((zeroC.setIfInBounds 0 (.int .u8 (4)))) rfl (by go_simp; first | rfl | done) ?_; intro cx hcx_; have M := Aside0.mk (show ∀ W, IsMsg W cx _ from fun W => by rw [hcx_]; exact (fun W => set_code (zero_is W) (v := 4) (by decide)) W); have NL := Aside0.mk (show NilL cx by rw [hcx_]; exact PS.zero_nil.set (by decide)); clear hcx_) | ((with_reducible refine gate_dst (N := 8) rfl ?_); refine ev_var (y := .tmp 20) rfl rfl rfl rfl rfl (M.out w0) rfl rfl ?_; intro gm w2 hg_ h1_ hb_; have HM1 := Aside0.mk hg_; have HM2 := Aside0.mk h1_; have HM3 := Aside0.mk hb_; clear h1_ hb_ hg_))
  go_upto_region 5 with (first | (go_at_call 20; (with_reducible refine (p_new A c l _ (Kd.C_below HR.out (H2.out.trans (HM3.out.mono H2.out.size))) HC.out HS.out HBB.out).mono ?_); rintro en w3 ⟨g, rfl, q1_, q2_, q3_, q4_⟩; have HP := Aside0.mk (St_first HG.out H1.out H2.out HM1.out HM2.out HM3.out M.out NL.out q1_ q2_ q3_); clear q1_ q2_ q3_ q4_ H1 H2 HG HM1 HM2 HM3))
  go_upto_region 6 with (first | (go_at_call 21; (with_reducible refine (form_0_4 (PS.St.at_code HP.out).1).mono ?_); rintro en w4 ⟨a4, a5, a7, a8, rfl, ⟨f4_, f5_, f7_, f8_⟩, l4_, l5_, l7_, l8_, hb_⟩; have hl_ := PS.Sk.lt (PS.Sk.start HP.out); have F4 := Aside0.mk f4_; have F5 := Aside0.mk f5_; have F7 := Aside0.mk f7_; have F8 := Aside0.mk f8_; have F4g : a4 ≠ g := (by omega); have F4m : a4 ≠ gm := (by omega); have F5g : a5 ≠ g := (by omega); have F5m : a5 ≠ gm := (by omega); have F7g : a7 ≠ g := (by omega); have F7m : a7 ≠ gm := (by omega); have F8g : a8 ≠ g := (by omega); have F8m : a8 ≠ gm := (by omega); have n0_ := Aside0.mk (PS.St.below HP.out hb_); clear HP hb_ f4_ f5_ f7_ f8_ l4_ l5_ l7_ l8_ hl_; have HP := n0_; clear n0_))
  have hef := eq_func
  go_upto_region 8 with (fail)
  clear hef
  obtain ⟨m0, hm0⟩ : ∃ z, z = ({ zeroM with code := 4 } : Msg) := ⟨_, rfl⟩
  rw [← hm0] at HP
  have HM0 := Aside0.mk hm0
  have HMC := Aside0.mk (show m0.code = 4 by rw [hm0])
  clear hm0 M NL
  have n0_ := Aside0.mk (PS.Sk.start HP.out)
  clear HP
  have HP := n0_
  clear n0_
  go_upto_region 9 with (first | (go_at_call 39; (with_reducible refine (asks_any HP.out F5.out F5g F5m F4.out F4g F4m F7.out F7g F7m).mono ?_); rintro en w6 ⟨rfl, hp_⟩; obtain ⟨cb, e_⟩ : ∃ z, z = whereR 125 m0 ⟨l, false, 0⟩ := ⟨_, rfl⟩; rw [← e_] at hp_; obtain ⟨c9, m9⟩ := cb; have EB := Aside0.mk e_; clear e_; have n0_ := Aside0.mk hp_; clear HP hp_; have HP := n0_; clear n0_))
  replace HP : Aside0 (PS.Sk w4 w0 gr g gm w6 c9 m9) := HP
  have n0_ := Aside0.mk HP.out.st
  clear HP F4g F4m F5g F5m F7g F7m F8g F8m F4 F5 F7 F8
  have HP := n0_
  clear n0_
  have E2 := Aside0.mk (show bodyR 0 m0 (cu l) = (c9, m9) from by
    unfold bodyR
    rw [if_pos (by have := HMC.out; omega)]
    rw [if_pos (by decide)]
    rw [EB.out]
    rfl)
  go_upto_region 10 with (first | (go_at_call 22; (with_reducible refine (PS.St.fin HP.out).mono ?_); rintro en x1 ⟨rfl, hp_⟩; obtain ⟨c10, ec_⟩ : ∃ z, z = c9.fin := ⟨_, rfl⟩; rw [← ec_] at hp_; have Ec10 := Aside0.mk ec_; clear ec_; have n0_ := Aside0.mk hp_; clear HP hp_; have HP := n0_; clear n0_))
  go_upto_region 11 with (first | (go_at_call 23; (with_reducible refine (PS.St.err HP.out).mono ?_); rintro en x2 ⟨rfl, hp_⟩; have n0_ := Aside0.mk hp_; clear HP hp_; have HP := n0_; clear n0_))
  have he1 : parse 0 4 l = if c10.e ≠ 0 then (zeroM, c10.e) else (m9, 0) := by
    unfold parse
    rw [if_neg (by decide), if_neg (by decide), ← HM0.out, E2.out, Ec10.out]
  by_cases h9 : c10.e = 0
  · have ex_ : parse 0 4 l = (m9, 0) := by rw [he1, if_neg (fun h => h h9)]
    have EX := Aside0.mk ex_
    have g1 : (c10.e != 0) = false := by rw [h9]; rfl
    have g2 : (c10.e == 0) = true := by rw [h9]; rfl
    clear h9 ex_ he1
    obtain ⟨cx, h_, hz_, hm_⟩ := PS.St.held2 HP.out
    have H := Aside0.mk h_
    have HZ := Aside0.mk hz_
    have HM := Aside0.mk hm_
    have HB := Aside0.mk HP.out.b
    clear h_ hz_ hm_ HP
    go_wp2_with (first | ((with_reducible refine gate_dst (N := 39) rfl ?_); refine ev_load (x := .tmp 8) rfl rfl rfl H.out (i := 1) rfl (HZ.out) ?_) | ((with_reducible refine gate_op (u := .store 30 (.tmp 6) (.tmp 39)) rfl ?_); refine ev_store rfl rfl rfl rfl H.out (i := 0) rfl rfl (HM.out _ ⟨rfl, rfl, rfl, Kept.refl _ _⟩) ?_; intro x91 h3_ h4_; have HE := Aside0.mk (HM.out _ h4_); clear h4_; have n0_ := Aside0.mk (h3_); clear H; have H := n0_; clear n0_; clear h3_))
    refine bodyPost_ret (results_ct rfl _ _ gr 30 _ (0, 0) _ rfl (H.out.at 0 rfl) Try.underlying30 rfl (msg_info (HZ.out))) rfl (by rw [EX.out]; exact ⟨_, rfl, HE.out, H.out.b⟩)
  · have ex_ : parse 0 4 l = (zeroM, c10.e) := by rw [he1, if_pos h9]
    have EX := Aside0.mk ex_
    have g1 : (c10.e != 0) = true := by simpa using h9
    have g2 : (c10.e == 0) = false := by simpa using h9
    clear h9 ex_ he1
    have H := Aside0.mk (PS.St.held HP.out)
    clear HP
    go_wp2_with (first | ((with_reducible refine gate_dst (N := 37) rfl ?_); refine ev_build (zeroC) rfl (by go_simp; first | rfl | done) ?_; intro cx hcx_; have M := Aside0.mk (show ∀ W, IsMsg W cx _ from fun W => by rw [hcx_]; exact zero_is W); clear hcx_) | ((with_reducible refine gate_op (u := .store 30 (.tmp 6) (.tmp 37)) rfl ?_); refine ev_store rfl rfl rfl rfl H.out (i := 0) rfl (rfl) (M.out w0) ?_; intro x90 h3_ h4_; have n0_ := Aside0.mk (h3_); clear H; have H := n0_; clear n0_; clear h3_ h4_))
    refine bodyPost_ret (results_ct rfl _ _ gr 30 _ (0, 0) _ rfl (H.out.at 0 rfl) Try.underlying30 rfl (msg_info ((M.out w0).size))) rfl (by rw [EX.out]; exact ⟨_, rfl, M.out _, H.out.b⟩)
theorem parse_0_6 {A : Option Addr} {c : Nat} {l : List Int} {w0 : World} (hr : Kd.C (Kd.int .u8) w0 A l.length l) (hc : l.length ≤ c) (hs : l.length ≤ 1000000) (hb : isBytes l) :
    Calls Try.prog 12 #[.int .i64 0, .int .u8 6, .slice A l.length c] w0 fun en w' => ∃ cx, en = .returned (.tuple #[.agg cx, .int .i64 (parse 0 6 l).2]) ∧ IsMsg w' cx (parse 0 6 l).1 ∧ Below w0.heap.size w0 w' := by
  have HR := Aside0.mk hr
  have HC := Aside0.mk hc
  have HS := Aside0.mk hs
  have HBB := Aside0.mk hb
  clear hr hc hs hb
  go_enter Try.func12, Try.ntmps12
  go_upto_region 3 with (first | ((with_reducible refine gate_dst (N := 6) rfl ?_); refine ev_alloc rfl rfl ?_; intro gr w1 hg_ h1_ h2_; have HG := Aside0.mk hg_; have H1 := Aside0.mk h1_; have H2 := Aside0.mk h2_; clear hg_ h1_ h2_))
  go_upto_region 4 with (first | ((with_reducible refine gate_dst (N := 20) rfl ?_); refine ev_build ((zeroC.setIfInBounds 0 (.int .u8 (6)))) rfl (by go_simp; first | rfl | done) ?_; intro cx hcx_; have M := Aside0.mk (show ∀ W, IsMsg W cx _ from fun W => by rw [hcx_]; exact (fun W => set_code (zero_is W) (v := 6) (by decide)) W); have NL := Aside0.mk (show NilL cx by rw [hcx_]; exact PS.zero_nil.set (by decide)); clear hcx_) | ((with_reducible refine gate_dst (N := 8) rfl ?_); refine ev_var (y := .tmp 20) rfl rfl rfl rfl rfl (M.out w0) rfl rfl ?_; intro gm w2 hg_ h1_ hb_; have HM1 := Aside0.mk hg_; have HM2 := Aside0.mk h1_; have HM3 := Aside0.mk hb_; clear h1_ hb_ hg_))
  go_upto_region 5 with (first | (go_at_call 20; (with_reducible refine (p_new A c l _ (Kd.C_below HR.out (H2.out.trans (HM3.out.mono H2.out.size))) HC.out HS.out HBB.out).mono ?_); rintro en w3 ⟨g, rfl, q1_, q2_, q3_, q4_⟩; have HP := Aside0.mk (St_first HG.out H1.out H2.out HM1.out HM2.out HM3.out M.out NL.out q1_ q2_ q3_); clear q1_ q2_ q3_ q4_ H1 H2 HG HM1 HM2 HM3))
  go_upto_region 6 with (first | (go_at_call 21; (with_reducible refine (form_0_6 (PS.St.at_code HP.out).1).mono ?_); rintro en w4 ⟨a4, a5, a7, a8, rfl, ⟨f4_, f5_, f7_, f8_⟩, l4_, l5_, l7_, l8_, hb_⟩; have hl_ := PS.Sk.lt (PS.Sk.start HP.out); have F4 := Aside0.mk f4_; have F5 := Aside0.mk f5_; have F7 := Aside0.mk f7_; have F8 := Aside0.mk f8_; have F4g : a4 ≠ g := (by omega); have F4m : a4 ≠ gm := (by omega); have F5g : a5 ≠ g := (by omega); have F5m : a5 ≠ gm := (by omega); have F7g : a7 ≠ g := (by omega); have F7m : a7 ≠ gm := (by omega); have F8g : a8 ≠ g := (by omega); have F8m : a8 ≠ gm := (by omega); have n0_ := Aside0.mk (PS.St.below HP.out hb_); clear HP hb_ f4_ f5_ f7_ f8_ l4_ l5_ l7_ l8_ hl_; have HP := n0_; clear n0_))
  have hef := eq_func
  go_upto_region 8 with (fail)
  clear hef
  obtain ⟨m0, hm0⟩ : ∃ z, z = ({ zeroM with code := 6 } : Msg) := ⟨_, rfl⟩
  rw [← hm0] at HP
  have HM0 := Aside0.mk hm0
  have HMC := Aside0.mk (show m0.code = 6 by rw [hm0])
  clear hm0 M NL
  have n0_ := Aside0.mk (PS.Sk.start HP.out)
  clear HP
  have HP := n0_
  clear n0_
  go_upto_region 9 with (first | (go_at_call 44; (with_reducible refine (one_any HP.out F5.out F5g F5m F4.out F4g F4m).mono ?_); rintro en w6 ⟨rfl, hp_⟩; obtain ⟨cb, e_⟩ : ∃ z, z = oneR m0 ⟨l, false, 0⟩ := ⟨_, rfl⟩; rw [← e_] at hp_; obtain ⟨c9, m9⟩ := cb; have EB := Aside0.mk e_; clear e_; have n0_ := Aside0.mk hp_; clear HP hp_; have HP := n0_; clear n0_))
  replace HP : Aside0 (PS.Sk w4 w0 gr g gm w6 c9 m9) := HP
  have n0_ := Aside0.mk HP.out.st
  clear HP F4g F4m F5g F5m F7g F7m F8g F8m F4 F5 F7 F8
  have HP := n0_
  clear n0_
  have E2 := Aside0.mk (show bodyR 0 m0 (cu l) = (c9, m9) from by
    unfold bodyR
    rw [if_neg (by have := HMC.out; omega)]
    rw [if_pos (by have := HMC.out; omega)]
    rw [EB.out]
    rfl)
  go_upto_region 10 with (first | (go_at_call 22; (with_reducible refine (PS.St.fin HP.out).mono ?_); rintro en x1 ⟨rfl, hp_⟩; obtain ⟨c10, ec_⟩ : ∃ z, z = c9.fin := ⟨_, rfl⟩; rw [← ec_] at hp_; have Ec10 := Aside0.mk ec_; clear ec_; have n0_ := Aside0.mk hp_; clear HP hp_; have HP := n0_; clear n0_))
  go_upto_region 11 with (first | (go_at_call 23; (with_reducible refine (PS.St.err HP.out).mono ?_); rintro en x2 ⟨rfl, hp_⟩; have n0_ := Aside0.mk hp_; clear HP hp_; have HP := n0_; clear n0_))
  have he1 : parse 0 6 l = if c10.e ≠ 0 then (zeroM, c10.e) else (m9, 0) := by
    unfold parse
    rw [if_neg (by decide), if_neg (by decide), ← HM0.out, E2.out, Ec10.out]
  by_cases h9 : c10.e = 0
  · have ex_ : parse 0 6 l = (m9, 0) := by rw [he1, if_neg (fun h => h h9)]
    have EX := Aside0.mk ex_
    have g1 : (c10.e != 0) = false := by rw [h9]; rfl
    have g2 : (c10.e == 0) = true := by rw [h9]; rfl
    clear h9 ex_ he1
    obtain ⟨cx, h_, hz_, hm_⟩ := PS.St.held2 HP.out
    have H := Aside0.mk h_
    have HZ := Aside0.mk hz_
    have HM := Aside0.mk hm_
    have HB := Aside0.mk HP.out.b
    clear h_ hz_ hm_ HP
    go_wp2_with (first | ((with_reducible refine gate_dst (N := 39) rfl ?_); refine ev_load (x := .tmp 8) rfl rfl rfl H.out (i := 1) rfl (HZ.out) ?_) | ((with_reducible refine gate_op (u := .store 30 (.tmp 6) (.tmp 39)) rfl ?_); refine ev_store rfl rfl rfl rfl H.out (i := 0) rfl rfl (HM.out _ ⟨rfl, rfl, rfl, Kept.refl _ _⟩) ?_; intro x91 h3_ h4_; have HE := Aside0.mk (HM.out _ h4_); clear h4_; have n0_ := Aside0.mk (h3_); clear H; have H := n0_; clear n0_; clear h3_))
    refine bodyPost_ret (results_ct rfl _ _ gr 30 _ (0, 0) _ rfl (H.out.at 0 rfl) Try.underlying30 rfl (msg_info (HZ.out))) rfl (by rw [EX.out]; exact ⟨_, rfl, HE.out, H.out.b⟩)
  · have ex_ : parse 0 6 l = (zeroM, c10.e) := by rw [he1, if_pos h9]
    have EX := Aside0.mk ex_
    have g1 : (c10.e != 0) = true := by simpa using h9
    have g2 : (c10.e == 0) = false := by simpa using h9
    clear h9 ex_ he1
    have H := Aside0.mk (PS.St.held HP.out)
    clear HP
    go_wp2_with (first | ((with_reducible refine gate_dst (N := 37) rfl ?_); refine ev_build (zeroC) rfl (by go_simp; first | rfl | done) ?_; intro cx hcx_; have M := Aside0.mk (show ∀ W, IsMsg W cx _ from fun W => by rw [hcx_]; exact zero_is W); clear hcx_) | ((with_reducible refine gate_op (u := .store 30 (.tmp 6) (.tmp 37)) rfl ?_); refine ev_store rfl rfl rfl rfl H.out (i := 0) rfl (rfl) (M.out w0) ?_; intro x90 h3_ h4_; have n0_ := Aside0.mk (h3_); clear H; have H := n0_; clear n0_; clear h3_ h4_))
    refine bodyPost_ret (results_ct rfl _ _ gr 30 _ (0, 0) _ rfl (H.out.at 0 rfl) Try.underlying30 rfl (msg_info ((M.out w0).size))) rfl (by rw [EX.out]; exact ⟨_, rfl, M.out _, H.out.b⟩)
theorem parse_0_16 {A : Option Addr} {c : Nat} {l : List Int} {w0 : World} (hr : Kd.C (Kd.int .u8) w0 A l.length l) (hc : l.length ≤ c) (hs : l.length ≤ 1000000) (hb : isBytes l) :
    Calls Try.prog 12 #[.int .i64 0, .int .u8 16, .slice A l.length c] w0 fun en w' => ∃ cx, en = .returned (.tuple #[.agg cx, .int .i64 (parse 0 16 l).2]) ∧ IsMsg w' cx (parse 0 16 l).1 ∧ Below w0.heap.size w0 w' := by
  have HR := Aside0.mk hr
  have HC := Aside0.mk hc
  have HS := Aside0.mk hs
  have HBB := Aside0.mk hb
  clear hr hc hs hb
  go_enter Try.func12, Try.ntmps12
  go_upto_region 3 with (first | ((with_reducible refine gate_dst (N := 6) rfl ?_); refine ev_alloc rfl rfl ?_; intro gr w1 hg_ h1_ h2_; have HG := Aside0.mk hg_; have H1 := Aside0.mk h1_; have H2 := Aside0.mk h2_; clear hg_ h1_ h2_))
  go_upto_region 4 with (first | ((with_reducible refine gate_dst (N := 20) rfl ?_); refine ev_build ((zeroC.setIfInBounds 0 (.int .u8 (16)))) rfl (by go_simp; first | rfl | done) ?_; intro cx hcx_; have M := Aside0.mk (show ∀ W, IsMsg W cx _ from fun W => by rw [hcx_]; exact (fun W => set_code (zero_is W) (v := 16) (by decide)) W); have NL := Aside0.mk (show NilL cx by rw [hcx_]; exact PS.zero_nil.set (by decide)); clear hcx_) | ((with_reducible refine gate_dst (N := 8) rfl ?_); refine ev_var (y := .tmp 20) rfl rfl rfl rfl rfl (M.out w0) rfl rfl ?_; intro gm w2 hg_ h1_ hb_; have HM1 := Aside0.mk hg_; have HM2 := Aside0.mk h1_; have HM3 := Aside0.mk hb_; clear h1_ hb_ hg_))
  go_upto_region 5 with (first | (go_at_call 20; (with_reducible refine (p_new A c l _ (Kd.C_below HR.out (H2.out.trans (HM3.out.mono H2.out.size))) HC.out HS.out HBB.out).mono ?_); rintro en w3 ⟨g, rfl, q1_, q2_, q3_, q4_⟩; have HP := Aside0.mk (St_first HG.out H1.out H2.out HM1.out HM2.out HM3.out M.out NL.out q1_ q2_ q3_); clear q1_ q2_ q3_ q4_ H1 H2 HG HM1 HM2 HM3))
  go_upto_region 6 with (first | (go_at_call 21; (with_reducible refine (form_0_16 (PS.St.at_code HP.out).1).mono ?_); rintro en w4 ⟨a4, a5, a7, a8, rfl, ⟨f4_, f5_, f7_, f8_⟩, l4_, l5_, l7_, l8_, hb_⟩; have hl_ := PS.Sk.lt (PS.Sk.start HP.out); have F4 := Aside0.mk f4_; have F5 := Aside0.mk f5_; have F7 := Aside0.mk f7_; have F8 := Aside0.mk f8_; have F4g : a4 ≠ g := (by omega); have F4m : a4 ≠ gm := (by omega); have F5g : a5 ≠ g := (by omega); have F5m : a5 ≠ gm := (by omega); have F7g : a7 ≠ g := (by omega); have F7m : a7 ≠ gm := (by omega); have F8g : a8 ≠ g := (by omega); have F8m : a8 ≠ gm := (by omega); have n0_ := Aside0.mk (PS.St.below HP.out hb_); clear HP hb_ f4_ f5_ f7_ f8_ l4_ l5_ l7_ l8_ hl_; have HP := n0_; clear n0_))
  have hef := eq_func
  go_upto_region 8 with (fail)
  clear hef
  obtain ⟨m0, hm0⟩ : ∃ z, z = ({ zeroM with code := 16 } : Msg) := ⟨_, rfl⟩
  rw [← hm0] at HP
  have HM0 := Aside0.mk hm0
  have HMC := Aside0.mk (show m0.code = 16 by rw [hm0])
  clear hm0 M NL
  have n0_ := Aside0.mk (PS.Sk.start HP.out)
  clear HP
  have HP := n0_
  clear n0_
  go_upto_region 9 with (first | (go_at_call 45; (with_reducible refine (many_1 HP.out F5.out F5g F5m F4.out F4g F4m F7.out F7g F7m F8.out F8g F8m).mono ?_); rintro en w6 ⟨rfl, hp_⟩; obtain ⟨cb, e_⟩ : ∃ z, z = manyR m0 ⟨l, false, 0⟩ := ⟨_, rfl⟩; rw [← e_] at hp_; obtain ⟨c9, m9⟩ := cb; have EB := Aside0.mk e_; clear e_; have n0_ := Aside0.mk hp_; clear HP hp_; have HP := n0_; clear n0_))
  replace HP : Aside0 (PS.Sk w4 w0 gr g gm w6 c9 m9) := HP
  have n0_ := Aside0.mk HP.out.st
  clear HP F4g F4m F5g F5m F7g F7m F8g F8m F4 F5 F7 F8
  have HP := n0_
  clear n0_
  have E2 := Aside0.mk (show bodyR 0 m0 (cu l) = (c9, m9) from by
    unfold bodyR
    rw [if_neg (by have := HMC.out; omega)]
    rw [if_neg (by have := HMC.out; omega)]
    rw [if_pos (by have := HMC.out; omega)]
    rw [if_pos (by decide)]
    rw [EB.out]
    rfl)
  go_upto_region 10 with (first | (go_at_call 22; (with_reducible refine (PS.St.fin HP.out).mono ?_); rintro en x1 ⟨rfl, hp_⟩; obtain ⟨c10, ec_⟩ : ∃ z, z = c9.fin := ⟨_, rfl⟩; rw [← ec_] at hp_; have Ec10 := Aside0.mk ec_; clear ec_; have n0_ := Aside0.mk hp_; clear HP hp_; have HP := n0_; clear n0_))
  go_upto_region 11 with (first | (go_at_call 23; (with_reducible refine (PS.St.err HP.out).mono ?_); rintro en x2 ⟨rfl, hp_⟩; have n0_ := Aside0.mk hp_; clear HP hp_; have HP := n0_; clear n0_))
  have he1 : parse 0 16 l = if c10.e ≠ 0 then (zeroM, c10.e) else (m9, 0) := by
    unfold parse
    rw [if_neg (by decide), if_neg (by decide), ← HM0.out, E2.out, Ec10.out]
  by_cases h9 : c10.e = 0
  · have ex_ : parse 0 16 l = (m9, 0) := by rw [he1, if_neg (fun h => h h9)]
    have EX := Aside0.mk ex_
    have g1 : (c10.e != 0) = false := by rw [h9]; rfl
    have g2 : (c10.e == 0) = true := by rw [h9]; rfl
    clear h9 ex_ he1
    obtain ⟨cx, h_, hz_, hm_⟩ := PS.St.held2 HP.out
    have H := Aside0.mk h_
    have HZ := Aside0.mk hz_
    have HM := Aside0.mk hm_
    have HB := Aside0.mk HP.out.b
    clear h_ hz_ hm_ HP
    go_wp2_with (first | ((with_reducible refine gate_dst (N := 39) rfl ?_); refine ev_load (x := .tmp 8) rfl rfl rfl H.out (i := 1) rfl (HZ.out) ?_) | ((with_reducible refine gate_op (u := .store 30 (.tmp 6) (.tmp 39)) rfl ?_); refine ev_store rfl rfl rfl rfl H.out (i := 0) rfl rfl (HM.out _ ⟨rfl, rfl, rfl, Kept.refl _ _⟩) ?_; intro x91 h3_ h4_; have HE := Aside0.mk (HM.out _ h4_); clear h4_; have n0_ := Aside0.mk (h3_); clear H; have H := n0_; clear n0_; clear h3_))
    refine bodyPost_ret (results_ct rfl _ _ gr 30 _ (0, 0) _ rfl (H.out.at 0 rfl) Try.underlying30 rfl (msg_info (HZ.out))) rfl (by rw [EX.out]; exact ⟨_, rfl, HE.out, H.out.b⟩)
  · have ex_ : parse 0 16 l = (zeroM, c10.e) := by rw [he1, if_pos h9]
    have EX := Aside0.mk ex_
    have g1 : (c10.e != 0) = true := by simpa using h9
    have g2 : (c10.e == 0) = false := by simpa using h9
    clear h9 ex_ he1
    have H := Aside0.mk (PS.St.held HP.out)
    clear HP
    go_wp2_with (first | ((with_reducible refine gate_dst (N := 37) rfl ?_); refine ev_build (zeroC) rfl (by go_simp; first | rfl | done) ?_; intro cx hcx_; have M := Aside0.mk (show ∀ W, IsMsg W cx _ from fun W => by rw [hcx_]; exact zero_is W); clear hcx_) | ((with_reducible refine gate_op (u := .store 30 (.tmp 6) (.tmp 37)) rfl ?_); refine ev_store rfl rfl rfl rfl H.out (i := 0) rfl (rfl) (M.out w0) ?_; intro x90 h3_ h4_; have n0_ := Aside0.mk (h3_); clear H; have H := n0_; clear n0_; clear h3_ h4_))
    refine bodyPost_ret (results_ct rfl _ _ gr 30 _ (0, 0) _ rfl (H.out.at 0 rfl) Try.underlying30 rfl (msg_info ((M.out w0).size))) rfl (by rw [EX.out]; exact ⟨_, rfl, M.out _, H.out.b⟩)
theorem parse_0_22 {A : Option Addr} {c : Nat} {l : List Int} {w0 : World} (hr : Kd.C (Kd.int .u8) w0 A l.length l) (hc : l.length ≤ c) (hs : l.length ≤ 1000000) (hb : isBytes l) :
    Calls Try.prog 12 #[.int .i64 0, .int .u8 22, .slice A l.length c] w0 fun en w' => ∃ cx, en = .returned (.tuple #[.agg cx, .int .i64 (parse 0 22 l).2]) ∧ IsMsg w' cx (parse 0 22 l).1 ∧ Below w0.heap.size w0 w' := by
  have HR := Aside0.mk hr
  have HC := Aside0.mk hc
  have HS := Aside0.mk hs
  have HBB := Aside0.mk hb
  clear hr hc hs hb
  go_enter Try.func12, Try.ntmps12
  go_upto_region 3 with (first | ((with_reducible refine gate_dst (N := 6) rfl ?_); refine ev_alloc rfl rfl ?_; intro gr w1 hg_ h1_ h2_; have HG := Aside0.mk hg_; have H1 := Aside0.mk h1_; have H2 := Aside0.mk h2_; clear hg_ h1_ h2_))
  go_upto_region 4 with (first | ((with_reducible refine gate_dst (N := 20) rfl ?_); refine ev_build ((zeroC.setIfInBounds 0 (.int .u8 (22)))) rfl (by go_simp; first | rfl | done) ?_; intro cx hcx_; have M := Aside0.mk (show ∀ W, IsMsg W cx _ from fun W => by rw [hcx_]; exact (fun W => set_code (zero_is W) (v := 22) (by decide)) W); have NL := Aside0.mk (show NilL cx by rw [hcx_]; exact PS.zero_nil.set (by decide)); clear hcx_) | ((with_reducible refine gate_dst (N := 8) rfl ?_); refine ev_var (y := .tmp 20) rfl rfl rfl rfl rfl (M.out w0) rfl rfl ?_; intro gm w2 hg_ h1_ hb_; have HM1 := Aside0.mk hg_; have HM2 := Aside0.mk h1_; have HM3 := Aside0.mk hb_; clear h1_ hb_ hg_))
  go_upto_region 5 with (first | (go_at_call 20; (with_reducible refine (p_new A c l _ (Kd.C_below HR.out (H2.out.trans (HM3.out.mono H2.out.size))) HC.out HS.out HBB.out).mono ?_); rintro en w3 ⟨g, rfl, q1_, q2_, q3_, q4_⟩; have HP := Aside0.mk (St_first HG.out H1.out H2.out HM1.out HM2.out HM3.out M.out NL.out q1_ q2_ q3_); clear q1_ q2_ q3_ q4_ H1 H2 HG HM1 HM2 HM3))
  go_upto_region 6 with (first | (go_at_call 21; (with_reducible refine (form_0_22 (PS.St.at_code HP.out).1).mono ?_); rintro en w4 ⟨a4, a5, a7, a8, rfl, ⟨f4_, f5_, f7_, f8_⟩, l4_, l5_, l7_, l8_, hb_⟩; have hl_ := PS.Sk.lt (PS.Sk.start HP.out); have F4 := Aside0.mk f4_; have F5 := Aside0.mk f5_; have F7 := Aside0.mk f7_; have F8 := Aside0.mk f8_; have F4g : a4 ≠ g := (by omega); have F4m : a4 ≠ gm := (by omega); have F5g : a5 ≠ g := (by omega); have F5m : a5 ≠ gm := (by omega); have F7g : a7 ≠ g := (by omega); have F7m : a7 ≠ gm := (by omega); have F8g : a8 ≠ g := (by omega); have F8m : a8 ≠ gm := (by omega); have n0_ := Aside0.mk (PS.St.below HP.out hb_); clear HP hb_ f4_ f5_ f7_ f8_ l4_ l5_ l7_ l8_ hl_; have HP := n0_; clear n0_))
  have hef := eq_func
  go_upto_region 8 with (fail)
  clear hef
  obtain ⟨m0, hm0⟩ : ∃ z, z = ({ zeroM with code := 22 } : Msg) := ⟨_, rfl⟩
  rw [← hm0] at HP
  have HM0 := Aside0.mk hm0
  have HMC := Aside0.mk (show m0.code = 22 by rw [hm0])
  clear hm0 M NL
  have n0_ := Aside0.mk (PS.Sk.start HP.out)
  clear HP
  have HP := n0_
  clear n0_
  go_upto_region 9 with (first | (go_at_call 47; (with_reducible refine (mask_any HP.out F5.out F5g F5m F4.out F4g F4m).mono ?_); rintro en w6 ⟨rfl, hp_⟩; obtain ⟨cb, e_⟩ : ∃ z, z = maskR m0 ⟨l, false, 0⟩ := ⟨_, rfl⟩; rw [← e_] at hp_; obtain ⟨c9, m9⟩ := cb; have EB := Aside0.mk e_; clear e_; have n0_ := Aside0.mk hp_; clear HP hp_; have HP := n0_; clear n0_))
  replace HP : Aside0 (PS.Sk w4 w0 gr g gm w6 c9 m9) := HP
  have n0_ := Aside0.mk HP.out.st
  clear HP F4g F4m F5g F5m F7g F7m F8g F8m F4 F5 F7 F8
  have HP := n0_
  clear n0_
  have E2 := Aside0.mk (show bodyR 0 m0 (cu l) = (c9, m9) from by
    unfold bodyR
    rw [if_neg (by have := HMC.out; omega)]
    rw [if_neg (by have := HMC.out; omega)]
    rw [if_neg (by have := HMC.out; omega)]
    rw [if_pos (by have := HMC.out; omega)]
    rw [EB.out]
    rfl)
  go_upto_region 10 with (first | (go_at_call 22; (with_reducible refine (PS.St.fin HP.out).mono ?_); rintro en x1 ⟨rfl, hp_⟩; obtain ⟨c10, ec_⟩ : ∃ z, z = c9.fin := ⟨_, rfl⟩; rw [← ec_] at hp_; have Ec10 := Aside0.mk ec_; clear ec_; have n0_ := Aside0.mk hp_; clear HP hp_; have HP := n0_; clear n0_))
  go_upto_region 11 with (first | (go_at_call 23; (with_reducible refine (PS.St.err HP.out).mono ?_); rintro en x2 ⟨rfl, hp_⟩; have n0_ := Aside0.mk hp_; clear HP hp_; have HP := n0_; clear n0_))
  have he1 : parse 0 22 l = if c10.e ≠ 0 then (zeroM, c10.e) else (m9, 0) := by
    unfold parse
    rw [if_neg (by decide), if_neg (by decide), ← HM0.out, E2.out, Ec10.out]
  by_cases h9 : c10.e = 0
  · have ex_ : parse 0 22 l = (m9, 0) := by rw [he1, if_neg (fun h => h h9)]
    have EX := Aside0.mk ex_
    have g1 : (c10.e != 0) = false := by rw [h9]; rfl
    have g2 : (c10.e == 0) = true := by rw [h9]; rfl
    clear h9 ex_ he1
    obtain ⟨cx, h_, hz_, hm_⟩ := PS.St.held2 HP.out
    have H := Aside0.mk h_
    have HZ := Aside0.mk hz_
    have HM := Aside0.mk hm_
    have HB := Aside0.mk HP.out.b
    clear h_ hz_ hm_ HP
    go_wp2_with (first | ((with_reducible refine gate_dst (N := 39) rfl ?_); refine ev_load (x := .tmp 8) rfl rfl rfl H.out (i := 1) rfl (HZ.out) ?_) | ((with_reducible refine gate_op (u := .store 30 (.tmp 6) (.tmp 39)) rfl ?_); refine ev_store rfl rfl rfl rfl H.out (i := 0) rfl rfl (HM.out _ ⟨rfl, rfl, rfl, Kept.refl _ _⟩) ?_; intro x91 h3_ h4_; have HE := Aside0.mk (HM.out _ h4_); clear h4_; have n0_ := Aside0.mk (h3_); clear H; have H := n0_; clear n0_; clear h3_))
    refine bodyPost_ret (results_ct rfl _ _ gr 30 _ (0, 0) _ rfl (H.out.at 0 rfl) Try.underlying30 rfl (msg_info (HZ.out))) rfl (by rw [EX.out]; exact ⟨_, rfl, HE.out, H.out.b⟩)
  · have ex_ : parse 0 22 l = (zeroM, c10.e) := by rw [he1, if_pos h9]
    have EX := Aside0.mk ex_
    have g1 : (c10.e != 0) = true := by simpa using h9
    have g2 : (c10.e == 0) = false := by simpa using h9
    clear h9 ex_ he1
    have H := Aside0.mk (PS.St.held HP.out)
    clear HP
    go_wp2_with (first | ((with_reducible refine gate_dst (N := 37) rfl ?_); refine ev_build (zeroC) rfl (by go_simp; first | rfl | done) ?_; intro cx hcx_; have M := Aside0.mk (show ∀ W, IsMsg W cx _ from fun W => by rw [hcx_]; exact zero_is W); clear hcx_) | ((with_reducible refine gate_op (u := .store 30 (.tmp 6) (.tmp 37)) rfl ?_); refine ev_store rfl rfl rfl rfl H.out (i := 0) rfl (rfl) (M.out w0) ?_; intro x90 h3_ h4_; have n0_ := Aside0.mk (h3_); clear H; have H := n0_; clear n0_; clear h3_ h4_))
    refine bodyPost_ret (results_ct rfl _ _ gr 30 _ (0, 0) _ rfl (H.out.at 0 rfl) Try.underlying30 rfl (msg_info ((M.out w0).size))) rfl (by rw [EX.out]; exact ⟨_, rfl, M.out _, H.out.b⟩)
theorem parse_0_23 {A : Option Addr} {c : Nat} {l : List Int} {w0 : World} (hr : Kd.C (Kd.int .u8) w0 A l.length l) (hc : l.length ≤ c) (hs : l.length ≤ 1000000) (hb : isBytes l) :
    Calls Try.prog 12 #[.int .i64 0, .int .u8 23, .slice A l.length c] w0 fun en w' => ∃ cx, en = .returned (.tuple #[.agg cx, .int .i64 (parse 0 23 l).2]) ∧ IsMsg w' cx (parse 0 23 l).1 ∧ Below w0.heap.size w0 w' := by
  have HR := Aside0.mk hr
  have HC := Aside0.mk hc
  have HS := Aside0.mk hs
  have HBB := Aside0.mk hb
  clear hr hc hs hb
  go_enter Try.func12, Try.ntmps12
  go_upto_region 3 with (first | ((with_reducible refine gate_dst (N := 6) rfl ?_); refine ev_alloc rfl rfl ?_; intro gr w1 hg_ h1_ h2_; have HG := Aside0.mk hg_; have H1 := Aside0.mk h1_; have H2 := Aside0.mk h2_; clear hg_ h1_ h2_))
  go_upto_region 4 with (first | ((with_reducible refine gate_dst (N := 20) rfl ?_); refine ev_build ((zeroC.setIfInBounds 0 (.int .u8 (23)))) rfl (by go_simp; first | rfl | done) ?_; intro cx hcx_; have M := Aside0.mk (show ∀ W, IsMsg W cx _ from fun W => by rw [hcx_]; exact (fun W => set_code (zero_is W) (v := 23) (by decide)) W); have NL := Aside0.mk (show NilL cx by rw [hcx_]; exact PS.zero_nil.set (by decide)); clear hcx_) | ((with_reducible refine gate_dst (N := 8) rfl ?_); refine ev_var (y := .tmp 20) rfl rfl rfl rfl rfl (M.out w0) rfl rfl ?_; intro gm w2 hg_ h1_ hb_; have HM1 := Aside0.mk hg_; have HM2 := Aside0.mk h1_; have HM3 := Aside0.mk hb_; clear h1_ hb_ hg_))
  go_upto_region 5 with (first | (go_at_call 20; (with_reducible refine (p_new A c l _ (Kd.C_below HR.out (H2.out.trans (HM3.out.mono H2.out.size))) HC.out HS.out HBB.out).mono ?_); rintro en w3 ⟨g, rfl, q1_, q2_, q3_, q4_⟩; have HP := Aside0.mk (St_first HG.out H1.out H2.out HM1.out HM2.out HM3.out M.out NL.out q1_ q2_ q3_); clear q1_ q2_ q3_ q4_ H1 H2 HG HM1 HM2 HM3))
  go_upto_region 6 with (first | (go_at_call 21; (with_reducible refine (form_0_23 (PS.St.at_code HP.out).1).mono ?_); rintro en w4 ⟨a4, a5, a7, a8, rfl, ⟨f4_, f5_, f7_, f8_⟩, l4_, l5_, l7_, l8_, hb_⟩; have hl_ := PS.Sk.lt (PS.Sk.start HP.out); have F4 := Aside0.mk f4_; have F5 := Aside0.mk f5_; have F7 := Aside0.mk f7_; have F8 := Aside0.mk f8_; have F4g : a4 ≠ g := (by omega); have F4m : a4 ≠ gm := (by omega); have F5g : a5 ≠ g := (by omega); have F5m : a5 ≠ gm := (by omega); have F7g : a7 ≠ g := (by omega); have F7m : a7 ≠ gm := (by omega); have F8g : a8 ≠ g := (by omega); have F8m : a8 ≠ gm := (by omega); have n0_ := Aside0.mk (PS.St.below HP.out hb_); clear HP hb_ f4_ f5_ f7_ f8_ l4_ l5_ l7_ l8_ hl_; have HP := n0_; clear n0_))
  have hef := eq_func
  go_upto_region 8 with (fail)
  clear hef
  obtain ⟨m0, hm0⟩ : ∃ z, z = ({ zeroM with code := 23 } : Msg) := ⟨_, rfl⟩
  rw [← hm0] at HP
  have HM0 := Aside0.mk hm0
  have HMC := Aside0.mk (show m0.code = 23 by rw [hm0])
  clear hm0 M NL
  have n0_ := Aside0.mk (PS.Sk.start HP.out)
  clear HP
  have HP := n0_
  clear n0_
  go_upto_region 9 with (first | (go_at_call 48; (with_reducible refine (both_any HP.out F5.out F5g F5m F4.out F4g F4m F7.out F7g F7m).mono ?_); rintro en w6 ⟨rfl, hp_⟩; obtain ⟨cb, e_⟩ : ∃ z, z = bothR m0 ⟨l, false, 0⟩ := ⟨_, rfl⟩; rw [← e_] at hp_; obtain ⟨c9, m9⟩ := cb; have EB := Aside0.mk e_; clear e_; have n0_ := Aside0.mk hp_; clear HP hp_; have HP := n0_; clear n0_))
  replace HP : Aside0 (PS.Sk w4 w0 gr g gm w6 c9 m9) := HP
  have n0_ := Aside0.mk HP.out.st
  clear HP F4g F4m F5g F5m F7g F7m F8g F8m F4 F5 F7 F8
  have HP := n0_
  clear n0_
  have E2 := Aside0.mk (show bodyR 0 m0 (cu l) = (c9, m9) from by
    unfold bodyR
    rw [if_neg (by have := HMC.out; omega)]
    rw [if_neg (by have := HMC.out; omega)]
    rw [if_neg (by have := HMC.out; omega)]
    rw [if_neg (by have := HMC.out; omega)]
    rw [if_pos (by have := HMC.out; omega)]
    rw [if_pos (by decide)]
    rw [EB.out]
    rfl)
  go_upto_region 10 with (first | (go_at_call 22; (with_reducible refine (PS.St.fin HP.out).mono ?_); rintro en x1 ⟨rfl, hp_⟩; obtain ⟨c10, ec_⟩ : ∃ z, z = c9.fin := ⟨_, rfl⟩; rw [← ec_] at hp_; have Ec10 := Aside0.mk ec_; clear ec_; have n0_ := Aside0.mk hp_; clear HP hp_; have HP := n0_; clear n0_))
  go_upto_region 11 with (first | (go_at_call 23; (with_reducible refine (PS.St.err HP.out).mono ?_); rintro en x2 ⟨rfl, hp_⟩; have n0_ := Aside0.mk hp_; clear HP hp_; have HP := n0_; clear n0_))
  have he1 : parse 0 23 l = if c10.e ≠ 0 then (zeroM, c10.e) else (m9, 0) := by
    unfold parse
    rw [if_neg (by decide), if_neg (by decide), ← HM0.out, E2.out, Ec10.out]
  by_cases h9 : c10.e = 0
  · have ex_ : parse 0 23 l = (m9, 0) := by rw [he1, if_neg (fun h => h h9)]
    have EX := Aside0.mk ex_
    have g1 : (c10.e != 0) = false := by rw [h9]; rfl
    have g2 : (c10.e == 0) = true := by rw [h9]; rfl
    clear h9 ex_ he1
    obtain ⟨cx, h_, hz_, hm_⟩ := PS.St.held2 HP.out
    have H := Aside0.mk h_
    have HZ := Aside0.mk hz_
    have HM := Aside0.mk hm_
    have HB := Aside0.mk HP.out.b
    clear h_ hz_ hm_ HP
    go_wp2_with (first | ((with_reducible refine gate_dst (N := 39) rfl ?_); refine ev_load (x := .tmp 8) rfl rfl rfl H.out (i := 1) rfl (HZ.out) ?_) | ((with_reducible refine gate_op (u := .store 30 (.tmp 6) (.tmp 39)) rfl ?_); refine ev_store rfl rfl rfl rfl H.out (i := 0) rfl rfl (HM.out _ ⟨rfl, rfl, rfl, Kept.refl _ _⟩) ?_; intro x91 h3_ h4_; have HE := Aside0.mk (HM.out _ h4_); clear h4_; have n0_ := Aside0.mk (h3_); clear H; have H := n0_; clear n0_; clear h3_))
    refine bodyPost_ret (results_ct rfl _ _ gr 30 _ (0, 0) _ rfl (H.out.at 0 rfl) Try.underlying30 rfl (msg_info (HZ.out))) rfl (by rw [EX.out]; exact ⟨_, rfl, HE.out, H.out.b⟩)
  · have ex_ : parse 0 23 l = (zeroM, c10.e) := by rw [he1, if_pos h9]
    have EX := Aside0.mk ex_
    have g1 : (c10.e != 0) = true := by simpa using h9
    have g2 : (c10.e == 0) = false := by simpa using h9
    clear h9 ex_ he1
    have H := Aside0.mk (PS.St.held HP.out)
    clear HP
    go_wp2_with (first | ((with_reducible refine gate_dst (N := 37) rfl ?_); refine ev_build (zeroC) rfl (by go_simp; first | rfl | done) ?_; intro cx hcx_; have M := Aside0.mk (show ∀ W, IsMsg W cx _ from fun W => by rw [hcx_]; exact zero_is W); clear hcx_) | ((with_reducible refine gate_op (u := .store 30 (.tmp 6) (.tmp 37)) rfl ?_); refine ev_store rfl rfl rfl rfl H.out (i := 0) rfl (rfl) (M.out w0) ?_; intro x90 h3_ h4_; have n0_ := Aside0.mk (h3_); clear H; have H := n0_; clear n0_; clear h3_ h4_))
    refine bodyPost_ret (results_ct rfl _ _ gr 30 _ (0, 0) _ rfl (H.out.at 0 rfl) Try.underlying30 rfl (msg_info ((M.out w0).size))) rfl (by rw [EX.out]; exact ⟨_, rfl, M.out _, H.out.b⟩)
theorem parse_0_24 {A : Option Addr} {c : Nat} {l : List Int} {w0 : World} (hr : Kd.C (Kd.int .u8) w0 A l.length l) (hc : l.length ≤ c) (hs : l.length ≤ 1000000) (hb : isBytes l) :
    Calls Try.prog 12 #[.int .i64 0, .int .u8 24, .slice A l.length c] w0 fun en w' => ∃ cx, en = .returned (.tuple #[.agg cx, .int .i64 (parse 0 24 l).2]) ∧ IsMsg w' cx (parse 0 24 l).1 ∧ Below w0.heap.size w0 w' := by
  have HR := Aside0.mk hr
  have HC := Aside0.mk hc
  have HS := Aside0.mk hs
  have HBB := Aside0.mk hb
  clear hr hc hs hb
  go_enter Try.func12, Try.ntmps12
  go_upto_region 3 with (first | ((with_reducible refine gate_dst (N := 6) rfl ?_); refine ev_alloc rfl rfl ?_; intro gr w1 hg_ h1_ h2_; have HG := Aside0.mk hg_; have H1 := Aside0.mk h1_; have H2 := Aside0.mk h2_; clear hg_ h1_ h2_))
  go_upto_region 4 with (first | ((with_reducible refine gate_dst (N := 20) rfl ?_); refine ev_build ((zeroC.setIfInBounds 0 (.int .u8 (24)))) rfl (by go_simp; first | rfl | done) ?_; intro cx hcx_; have M := Aside0.mk (show ∀ W, IsMsg W cx _ from fun W => by rw [hcx_]; exact (fun W => set_code (zero_is W) (v := 24) (by decide)) W); have NL := Aside0.mk (show NilL cx by rw [hcx_]; exact PS.zero_nil.set (by decide)); clear hcx_) | ((with_reducible refine gate_dst (N := 8) rfl ?_); refine ev_var (y := .tmp 20) rfl rfl rfl rfl rfl (M.out w0) rfl rfl ?_; intro gm w2 hg_ h1_ hb_; have HM1 := Aside0.mk hg_; have HM2 := Aside0.mk h1_; have HM3 := Aside0.mk hb_; clear h1_ hb_ hg_))
  go_upto_region 5 with (first | (go_at_call 20; (with_reducible refine (p_new A c l _ (Kd.C_below HR.out (H2.out.trans (HM3.out.mono H2.out.size))) HC.out HS.out HBB.out).mono ?_); rintro en w3 ⟨g, rfl, q1_, q2_, q3_, q4_⟩; have HP := Aside0.mk (St_first HG.out H1.out H2.out HM1.out HM2.out HM3.out M.out NL.out q1_ q2_ q3_); clear q1_ q2_ q3_ q4_ H1 H2 HG HM1 HM2 HM3))
  go_upto_region 6 with (first | (go_at_call 21; (with_reducible refine (form_0_24 (PS.St.at_code HP.out).1).mono ?_); rintro en w4 ⟨a4, a5, a7, a8, rfl, ⟨f4_, f5_, f7_, f8_⟩, l4_, l5_, l7_, l8_, hb_⟩; have hl_ := PS.Sk.lt (PS.Sk.start HP.out); have F4 := Aside0.mk f4_; have F5 := Aside0.mk f5_; have F7 := Aside0.mk f7_; have F8 := Aside0.mk f8_; have F4g : a4 ≠ g := (by omega); have F4m : a4 ≠ gm := (by omega); have F5g : a5 ≠ g := (by omega); have F5m : a5 ≠ gm := (by omega); have F7g : a7 ≠ g := (by omega); have F7m : a7 ≠ gm := (by omega); have F8g : a8 ≠ g := (by omega); have F8m : a8 ≠ gm := (by omega); have n0_ := Aside0.mk (PS.St.below HP.out hb_); clear HP hb_ f4_ f5_ f7_ f8_ l4_ l5_ l7_ l8_ hl_; have HP := n0_; clear n0_))
  have hef := eq_func
  go_upto_region 8 with (fail)
  clear hef
  obtain ⟨m0, hm0⟩ : ∃ z, z = ({ zeroM with code := 24 } : Msg) := ⟨_, rfl⟩
  rw [← hm0] at HP
  have HM0 := Aside0.mk hm0
  have HMC := Aside0.mk (show m0.code = 24 by rw [hm0])
  clear hm0 M NL
  have n0_ := Aside0.mk (PS.Sk.start HP.out)
  clear HP
  have HP := n0_
  clear n0_
  go_upto_region 9 with (first | (go_at_call 49; (with_reducible refine (place_any HP.out F5.out F5g F5m F4.out F4g F4m).mono ?_); rintro en w6 ⟨rfl, hp_⟩; obtain ⟨cb, e_⟩ : ∃ z, z = placeR m0 ⟨l, false, 0⟩ := ⟨_, rfl⟩; rw [← e_] at hp_; obtain ⟨c9, m9⟩ := cb; have EB := Aside0.mk e_; clear e_; have n0_ := Aside0.mk hp_; clear HP hp_; have HP := n0_; clear n0_))
  replace HP : Aside0 (PS.Sk w4 w0 gr g gm w6 c9 m9) := HP
  have n0_ := Aside0.mk HP.out.st
  clear HP F4g F4m F5g F5m F7g F7m F8g F8m F4 F5 F7 F8
  have HP := n0_
  clear n0_
  have E2 := Aside0.mk (show bodyR 0 m0 (cu l) = (c9, m9) from by
    unfold bodyR
    rw [if_neg (by have := HMC.out; omega)]
    rw [if_neg (by have := HMC.out; omega)]
    rw [if_neg (by have := HMC.out; omega)]
    rw [if_neg (by have := HMC.out; omega)]
    rw [if_neg (by have := HMC.out; omega)]
    rw [if_pos (by decide)]
    rw [EB.out]
    rfl)
  go_upto_region 10 with (first | (go_at_call 22; (with_reducible refine (PS.St.fin HP.out).mono ?_); rintro en x1 ⟨rfl, hp_⟩; obtain ⟨c10, ec_⟩ : ∃ z, z = c9.fin := ⟨_, rfl⟩; rw [← ec_] at hp_; have Ec10 := Aside0.mk ec_; clear ec_; have n0_ := Aside0.mk hp_; clear HP hp_; have HP := n0_; clear n0_))
  go_upto_region 11 with (first | (go_at_call 23; (with_reducible refine (PS.St.err HP.out).mono ?_); rintro en x2 ⟨rfl, hp_⟩; have n0_ := Aside0.mk hp_; clear HP hp_; have HP := n0_; clear n0_))
  have he1 : parse 0 24 l = if c10.e ≠ 0 then (zeroM, c10.e) else (m9, 0) := by
    unfold parse
    rw [if_neg (by decide), if_neg (by decide), ← HM0.out, E2.out, Ec10.out]
  by_cases h9 : c10.e = 0
  · have ex_ : parse 0 24 l = (m9, 0) := by rw [he1, if_neg (fun h => h h9)]
    have EX := Aside0.mk ex_
    have g1 : (c10.e != 0) = false := by rw [h9]; rfl
    have g2 : (c10.e == 0) = true := by rw [h9]; rfl
    clear h9 ex_ he1
    obtain ⟨cx, h_, hz_, hm_⟩ := PS.St.held2 HP.out
    have H := Aside0.mk h_
    have HZ := Aside0.mk hz_
    have HM := Aside0.mk hm_
    have HB := Aside0.mk HP.out.b
    clear h_ hz_ hm_ HP
    go_wp2_with (first | ((with_reducible refine gate_dst (N := 39) rfl ?_); refine ev_load (x := .tmp 8) rfl rfl rfl H.out (i := 1) rfl (HZ.out) ?_) | ((with_reducible refine gate_op (u := .store 30 (.tmp 6) (.tmp 39)) rfl ?_); refine ev_store rfl rfl rfl rfl H.out (i := 0) rfl rfl (HM.out _ ⟨rfl, rfl, rfl, Kept.refl _ _⟩) ?_; intro x91 h3_ h4_; have HE := Aside0.mk (HM.out _ h4_); clear h4_; have n0_ := Aside0.mk (h3_); clear H; have H := n0_; clear n0_; clear h3_))
    refine bodyPost_ret (results_ct rfl _ _ gr 30 _ (0, 0) _ rfl (H.out.at 0 rfl) Try.underlying30 rfl (msg_info (HZ.out))) rfl (by rw [EX.out]; exact ⟨_, rfl, HE.out, H.out.b⟩)
  · have ex_ : parse 0 24 l = (zeroM, c10.e) := by rw [he1, if_pos h9]
    have EX := Aside0.mk ex_
    have g1 : (c10.e != 0) = true := by simpa using h9
    have g2 : (c10.e == 0) = false := by simpa using h9
    clear h9 ex_ he1
    have H := Aside0.mk (PS.St.held HP.out)
    clear HP
    go_wp2_with (first | ((with_reducible refine gate_dst (N := 37) rfl ?_); refine ev_build (zeroC) rfl (by go_simp; first | rfl | done) ?_; intro cx hcx_; have M := Aside0.mk (show ∀ W, IsMsg W cx _ from fun W => by rw [hcx_]; exact zero_is W); clear hcx_) | ((with_reducible refine gate_op (u := .store 30 (.tmp 6) (.tmp 37)) rfl ?_); refine ev_store rfl rfl rfl rfl H.out (i := 0) rfl (rfl) (M.out w0) ?_; intro x90 h3_ h4_; have n0_ := Aside0.mk (h3_); clear H; have H := n0_; clear n0_; clear h3_ h4_))
    refine bodyPost_ret (results_ct rfl _ _ gr 30 _ (0, 0) _ rfl (H.out.at 0 rfl) Try.underlying30 rfl (msg_info ((M.out w0).size))) rfl (by rw [EX.out]; exact ⟨_, rfl, M.out _, H.out.b⟩)
theorem parse_no1 {A : Option Addr} {c : Nat} {l : List Int} {w0 : World} (hr : Kd.C (Kd.int .u8) w0 A l.length l) (hc : l.length ≤ c) (hs : l.length ≤ 1000000) (hb : isBytes l) {code : Int} (hcd : 0 ≤ code ∧ code < 256) (hk : ¬ isCode code) :
    Calls Try.prog 12 #[.int .i64 1, .int .u8 code, .slice A l.length c] w0 fun en w' => ∃ cx, en = .returned (.tuple #[.agg cx, .int .i64 4]) ∧ IsMsg w' cx zeroM ∧ Below w0.heap.size w0 w' := by
  have HR := Aside0.mk hr
  have HC := Aside0.mk hc
  have HS := Aside0.mk hs
  have HBB := Aside0.mk hb
  clear hr hc hs hb
  have HKB := Aside0.mk hcd
  have HKN := Aside0.mk hk
  clear hcd hk
  go_enter Try.func12, Try.ntmps12
  go_upto_region 3 with (first | ((with_reducible refine gate_dst (N := 6) rfl ?_); refine ev_alloc rfl rfl ?_; intro gr w1 hg_ h1_ h2_; have HG := Aside0.mk hg_; have H1 := Aside0.mk h1_; have H2 := Aside0.mk h2_; clear hg_ h1_ h2_))
  go_upto_region 4 with (first | ((with_reducible refine gate_dst (N := 20) rfl ?_); refine ev_build ((zeroC.setIfInBounds 0 (.int .u8 (code)))) rfl (by go_simp; first | rfl | done) ?_; intro cx hcx_; have M := Aside0.mk (show ∀ W, IsMsg W cx _ from fun W => by rw [hcx_]; exact (fun W => set_code (zero_is W) (v := code) ⟨by have := HKB.out; omega, by have := HKB.out; omega⟩) W); have NL := Aside0.mk (show NilL cx by rw [hcx_]; exact PS.zero_nil.set (by decide)); clear hcx_) | ((with_reducible refine gate_dst (N := 8) rfl ?_); refine ev_var (y := .tmp 20) rfl rfl rfl rfl rfl (M.out w0) rfl rfl ?_; intro gm w2 hg_ h1_ hb_; have HM1 := Aside0.mk hg_; have HM2 := Aside0.mk h1_; have HM3 := Aside0.mk hb_; clear h1_ hb_ hg_))
  go_upto_region 5 with (first | (go_at_call 20; (with_reducible refine (p_new A c l _ (Kd.C_below HR.out (H2.out.trans (HM3.out.mono H2.out.size))) HC.out HS.out HBB.out).mono ?_); rintro en w3 ⟨g, rfl, q1_, q2_, q3_, q4_⟩; have HP := Aside0.mk (St_first HG.out H1.out H2.out HM1.out HM2.out HM3.out M.out NL.out q1_ q2_ q3_); clear q1_ q2_ q3_ q4_ H1 H2 HG HM1 HM2 HM3))
  go_upto_region 6 with (first | (go_at_call 21; (with_reducible refine (form_1_no HKN.out (PS.St.at_code HP.out).1).mono ?_); rintro en w4 ⟨a4, a5, a7, a8, rfl, ⟨f4_, f5_, f7_, f8_⟩, l4_, l5_, l7_, l8_, hb_⟩; have hl_ := PS.Sk.lt (PS.Sk.start HP.out); have F4 := Aside0.mk f4_; have F5 := Aside0.mk f5_; have F7 := Aside0.mk f7_; have F8 := Aside0.mk f8_; have F4g : a4 ≠ g := (by omega); have F4m : a4 ≠ gm := (by omega); have F5g : a5 ≠ g := (by omega); have F5m : a5 ≠ gm := (by omega); have F7g : a7 ≠ g := (by omega); have F7m : a7 ≠ gm := (by omega); have F8g : a8 ≠ g := (by omega); have F8m : a8 ≠ gm := (by omega); have n0_ := Aside0.mk (PS.St.below HP.out hb_); clear HP hb_ f4_ f5_ f7_ f8_ l4_ l5_ l7_ l8_ hl_; have HP := n0_; clear n0_))
  have hef := eq_nilf
  have H := Aside0.mk (PS.St.held HP.out)
  clear HP NL F4g F4m F5g F5m F7g F7m F8g F8m F4 F5 F7 F8
  go_wp2_with (first | ((with_reducible refine gate_dst (N := 28) rfl ?_); refine ev_build (zeroC) rfl (by go_simp; first | rfl | done) ?_; intro cx hcx_; have M := Aside0.mk (show ∀ W, IsMsg W cx _ from fun W => by rw [hcx_]; exact zero_is W); clear hcx_) | ((with_reducible refine gate_op (u := .store 30 (.tmp 6) (.tmp 28)) rfl ?_); refine ev_store rfl rfl rfl rfl H.out (i := 0) rfl (rfl) (M.out w0) ?_; intro w99 h3_ h4_; have n0_ := Aside0.mk (h3_); clear H; have H := n0_; clear n0_; clear h3_ h4_))
  refine bodyPost_ret (results_ct rfl _ _ gr 30 _ (0, 0) _ rfl (H.out.at 0 rfl) Try.underlying30 rfl (msg_info ((M.out w0).size))) rfl (⟨_, rfl, M.out _, H.out.b⟩)
theorem parse_1_3 {A : Option Addr} {c : Nat} {l : List Int} {w0 : World} (hr : Kd.C (Kd.int .u8) w0 A l.length l) (hc : l.length ≤ c) (hs : l.length ≤ 1000000) (hb : isBytes l) :
    Calls Try.prog 12 #[.int .i64 1, .int .u8 3, .slice A l.length c] w0 fun en w' => ∃ cx, en = .returned (.tuple #[.agg cx, .int .i64 (parse 1 3 l).2]) ∧ IsMsg w' cx (parse 1 3 l).1 ∧ Below w0.heap.size w0 w' := by
  have HR := Aside0.mk hr
  have HC := Aside0.mk hc
  have HS := Aside0.mk hs
  have HBB := Aside0.mk hb
  clear hr hc hs hb
  go_enter Try.func12, Try.ntmps12
  go_upto_region 3 with (first | ((with_reducible refine gate_dst (N := 6) rfl ?_); refine ev_alloc rfl rfl ?_; intro gr w1 hg_ h1_ h2_; have HG := Aside0.mk hg_; have H1 := Aside0.mk h1_; have H2 := Aside0.mk h2_; clear hg_ h1_ h2_))
  go_upto_region 4 with (first | ((with_reducible refine gate_dst (N := 20) rfl ?_); refine ev_build ((zeroC.setIfInBounds 0 (.int .u8 (3)))) rfl (by go_simp; first | rfl | done) ?_; intro cx hcx_; have M := Aside0.mk (show ∀ W, IsMsg W cx _ from fun W => by rw [hcx_]; exact (fun W => set_code (zero_is W) (v := 3) (by decide)) W); have NL := Aside0.mk (show NilL cx by rw [hcx_]; exact PS.zero_nil.set (by decide)); clear hcx_) | ((with_reducible refine gate_dst (N := 8) rfl ?_); refine ev_var (y := .tmp 20) rfl rfl rfl rfl rfl (M.out w0) rfl rfl ?_; intro gm w2 hg_ h1_ hb_; have HM1 := Aside0.mk hg_; have HM2 := Aside0.mk h1_; have HM3 := Aside0.mk hb_; clear h1_ hb_ hg_))
  go_upto_region 5 with (first | (go_at_call 20; (with_reducible refine (p_new A c l _ (Kd.C_below HR.out (H2.out.trans (HM3.out.mono H2.out.size))) HC.out HS.out HBB.out).mono ?_); rintro en w3 ⟨g, rfl, q1_, q2_, q3_, q4_⟩; have HP := Aside0.mk (St_first HG.out H1.out H2.out HM1.out HM2.out HM3.out M.out NL.out q1_ q2_ q3_); clear q1_ q2_ q3_ q4_ H1 H2 HG HM1 HM2 HM3))
  go_upto_region 6 with (first | (go_at_call 21; (with_reducible refine (form_1_3 (PS.St.at_code HP.out).1).mono ?_); rintro en w4 ⟨a4, a5, a7, a8, rfl, ⟨f4_, f5_, f7_, f8_⟩, l4_, l5_, l7_, l8_, hb_⟩; have hl_ := PS.Sk.lt (PS.Sk.start HP.out); have F4 := Aside0.mk f4_; have F5 := Aside0.mk f5_; have F7 := Aside0.mk f7_; have F8 := Aside0.mk f8_; have F4g : a4 ≠ g := (by omega); have F4m : a4 ≠ gm := (by omega); have F5g : a5 ≠ g := (by omega); have F5m : a5 ≠ gm := (by omega); have F7g : a7 ≠ g := (by omega); have F7m : a7 ≠ gm := (by omega); have F8g : a8 ≠ g := (by omega); have F8m : a8 ≠ gm := (by omega); have n0_ := Aside0.mk (PS.St.below HP.out hb_); clear HP hb_ f4_ f5_ f7_ f8_ l4_ l5_ l7_ l8_ hl_; have HP := n0_; clear n0_))
  have hef := eq_func
  go_upto_region 8 with (fail)
  clear hef
  obtain ⟨m0, hm0⟩ : ∃ z, z = ({ zeroM with code := 3 } : Msg) := ⟨_, rfl⟩
  rw [← hm0] at HP
  have HM0 := Aside0.mk hm0
  have HMC := Aside0.mk (show m0.code = 3 by rw [hm0])
  clear hm0 M NL
  have n0_ := Aside0.mk (PS.Sk.start HP.out)
  clear HP
  have HP := n0_
  clear n0_
  go_upto_region 9 with (first | (go_at_call 40; (with_reducible refine (told_any HP.out F5.out F5g F5m F4.out F4g F4m).mono ?_); rintro en w6 ⟨rfl, hp_⟩; obtain ⟨cb, e_⟩ : ∃ z, z = toldR m0 ⟨l, false, 0⟩ := ⟨_, rfl⟩; rw [← e_] at hp_; obtain ⟨c9, m9⟩ := cb; have EB := Aside0.mk e_; clear e_; have n0_ := Aside0.mk hp_; clear HP hp_; have HP := n0_; clear n0_))
  replace HP : Aside0 (PS.Sk w4 w0 gr g gm w6 c9 m9) := HP
  have n0_ := Aside0.mk HP.out.st
  clear HP F4g F4m F5g F5m F7g F7m F8g F8m F4 F5 F7 F8
  have HP := n0_
  clear n0_
  have E2 := Aside0.mk (show bodyR 1 m0 (cu l) = (c9, m9) from by
    unfold bodyR
    rw [if_pos (by have := HMC.out; omega)]
    rw [if_neg (by decide)]
    rw [EB.out]
    rfl)
  go_upto_region 10 with (first | (go_at_call 22; (with_reducible refine (PS.St.fin HP.out).mono ?_); rintro en x1 ⟨rfl, hp_⟩; obtain ⟨c10, ec_⟩ : ∃ z, z = c9.fin := ⟨_, rfl⟩; rw [← ec_] at hp_; have Ec10 := Aside0.mk ec_; clear ec_; have n0_ := Aside0.mk hp_; clear HP hp_; have HP := n0_; clear n0_))
  go_upto_region 11 with (first | (go_at_call 23; (with_reducible refine (PS.St.err HP.out).mono ?_); rintro en x2 ⟨rfl, hp_⟩; have n0_ := Aside0.mk hp_; clear HP hp_; have HP := n0_; clear n0_))
  have he1 : parse 1 3 l = if c10.e ≠ 0 then (zeroM, c10.e) else (m9, 0) := by
    unfold parse
    rw [if_neg (by decide), if_neg (by decide), ← HM0.out, E2.out, Ec10.out]
  by_cases h9 : c10.e = 0
  · have ex_ : parse 1 3 l = (m9, 0) := by rw [he1, if_neg (fun h => h h9)]
    have EX := Aside0.mk ex_
    have g1 : (c10.e != 0) = false := by rw [h9]; rfl
    have g2 : (c10.e == 0) = true := by rw [h9]; rfl
    clear h9 ex_ he1
    obtain ⟨cx, h_, hz_, hm_⟩ := PS.St.held2 HP.out
    have H := Aside0.mk h_
    have HZ := Aside0.mk hz_
    have HM := Aside0.mk hm_
    have HB := Aside0.mk HP.out.b
    clear h_ hz_ hm_ HP
    go_wp2_with (first | ((with_reducible refine gate_dst (N := 39) rfl ?_); refine ev_load (x := .tmp 8) rfl rfl rfl H.out (i := 1) rfl (HZ.out) ?_) | ((with_reducible refine gate_op (u := .store 30 (.tmp 6) (.tmp 39)) rfl ?_); refine ev_store rfl rfl rfl rfl H.out (i := 0) rfl rfl (HM.out _ ⟨rfl, rfl, rfl, Kept.refl _ _⟩) ?_; intro x91 h3_ h4_; have HE := Aside0.mk (HM.out _ h4_); clear h4_; have n0_ := Aside0.mk (h3_); clear H; have H := n0_; clear n0_; clear h3_))
    refine bodyPost_ret (results_ct rfl _ _ gr 30 _ (0, 0) _ rfl (H.out.at 0 rfl) Try.underlying30 rfl (msg_info (HZ.out))) rfl (by rw [EX.out]; exact ⟨_, rfl, HE.out, H.out.b⟩)
  · have ex_ : parse 1 3 l = (zeroM, c10.e) := by rw [he1, if_pos h9]
    have EX := Aside0.mk ex_
    have g1 : (c10.e != 0) = true := by simpa using h9
    have g2 : (c10.e == 0) = false := by simpa using h9
    clear h9 ex_ he1
    have H := Aside0.mk (PS.St.held HP.out)
    clear HP
    go_wp2_with (first | ((with_reducible refine gate_dst (N := 37) rfl ?_); refine ev_build (zeroC) rfl (by go_simp; first | rfl | done) ?_; intro cx hcx_; have M := Aside0.mk (show ∀ W, IsMsg W cx _ from fun W => by rw [hcx_]; exact zero_is W); clear hcx_) | ((with_reducible refine gate_op (u := .store 30 (.tmp 6) (.tmp 37)) rfl ?_); refine ev_store rfl rfl rfl rfl H.out (i := 0) rfl (rfl) (M.out w0) ?_; intro x90 h3_ h4_; have n0_ := Aside0.mk (h3_); clear H; have H := n0_; clear n0_; clear h3_ h4_))
    refine bodyPost_ret (results_ct rfl _ _ gr 30 _ (0, 0) _ rfl (H.out.at 0 rfl) Try.underlying30 rfl (msg_info ((M.out w0).size))) rfl (by rw [EX.out]; exact ⟨_, rfl, M.out _, H.out.b⟩)
theorem parse_1_4 {A : Option Addr} {c : Nat} {l : List Int} {w0 : World} (hr : Kd.C (Kd.int .u8) w0 A l.length l) (hc : l.length ≤ c) (hs : l.length ≤ 1000000) (hb : isBytes l) :
    Calls Try.prog 12 #[.int .i64 1, .int .u8 4, .slice A l.length c] w0 fun en w' => ∃ cx, en = .returned (.tuple #[.agg cx, .int .i64 (parse 1 4 l).2]) ∧ IsMsg w' cx (parse 1 4 l).1 ∧ Below w0.heap.size w0 w' := by
  have HR := Aside0.mk hr
  have HC := Aside0.mk hc
  have HS := Aside0.mk hs
  have HBB := Aside0.mk hb
  clear hr hc hs hb
  go_enter Try.func12, Try.ntmps12
  go_upto_region 3 with (first | ((with_reducible refine gate_dst (N := 6) rfl ?_); refine ev_alloc rfl rfl ?_; intro gr w1 hg_ h1_ h2_; have HG := Aside0.mk hg_; have H1 := Aside0.mk h1_; have H2 := Aside0.mk h2_; clear hg_ h1_ h2_))
  go_upto_region 4 with (first | ((with_reducible refine gate_dst (N := 20) rfl ?_); refine ev_build ((zeroC.setIfInBounds 0 (.int .u8 (4)))) rfl (by go_simp; first | rfl | done) ?_; intro cx hcx_; have M := Aside0.mk (show ∀ W, IsMsg W cx _ from fun W => by rw [hcx_]; exact (fun W => set_code (zero_is W) (v := 4) (by decide)) W); have NL := Aside0.mk (show NilL cx by rw [hcx_]; exact PS.zero_nil.set (by decide)); clear hcx_) | ((with_reducible refine gate_dst (N := 8) rfl ?_); refine ev_var (y := .tmp 20) rfl rfl rfl rfl rfl (M.out w0) rfl rfl ?_; intro gm w2 hg_ h1_ hb_; have HM1 := Aside0.mk hg_; have HM2 := Aside0.mk h1_; have HM3 := Aside0.mk hb_; clear h1_ hb_ hg_))
  go_upto_region 5 with (first | (go_at_call 20; (with_reducible refine (p_new A c l _ (Kd.C_below HR.out (H2.out.trans (HM3.out.mono H2.out.size))) HC.out HS.out HBB.out).mono ?_); rintro en w3 ⟨g, rfl, q1_, q2_, q3_, q4_⟩; have HP := Aside0.mk (St_first HG.out H1.out H2.out HM1.out HM2.out HM3.out M.out NL.out q1_ q2_ q3_); clear q1_ q2_ q3_ q4_ H1 H2 HG HM1 HM2 HM3))
  go_upto_region 6 with (first | (go_at_call 21; (with_reducible refine (form_1_4 (PS.St.at_code HP.out).1).mono ?_); rintro en w4 ⟨a4, a5, a7, a8, rfl, ⟨f4_, f5_, f7_, f8_⟩, l4_, l5_, l7_, l8_, hb_⟩; have hl_ := PS.Sk.lt (PS.Sk.start HP.out); have F4 := Aside0.mk f4_; have F5 := Aside0.mk f5_; have F7 := Aside0.mk f7_; have F8 := Aside0.mk f8_; have F4g : a4 ≠ g := (by omega); have F4m : a4 ≠ gm := (by omega); have F5g : a5 ≠ g := (by omega); have F5m : a5 ≠ gm := (by omega); have F7g : a7 ≠ g := (by omega); have F7m : a7 ≠ gm := (by omega); have F8g : a8 ≠ g := (by omega); have F8m : a8 ≠ gm := (by omega); have n0_ := Aside0.mk (PS.St.below HP.out hb_); clear HP hb_ f4_ f5_ f7_ f8_ l4_ l5_ l7_ l8_ hl_; have HP := n0_; clear n0_))
  have hef := eq_func
  go_upto_region 8 with (fail)
  clear hef
  obtain ⟨m0, hm0⟩ : ∃ z, z = ({ zeroM with code := 4 } : Msg) := ⟨_, rfl⟩
  rw [← hm0] at HP
  have HM0 := Aside0.mk hm0
  have HMC := Aside0.mk (show m0.code = 4 by rw [hm0])
  clear hm0 M NL
  have n0_ := Aside0.mk (PS.Sk.start HP.out)
  clear HP
  have HP := n0_
  clear n0_
  go_upto_region 9 with (first | (go_at_call 40; (with_reducible refine (told_any HP.out F5.out F5g F5m F4.out F4g F4m).mono ?_); rintro en w6 ⟨rfl, hp_⟩; obtain ⟨cb, e_⟩ : ∃ z, z = toldR m0 ⟨l, false, 0⟩ := ⟨_, rfl⟩; rw [← e_] at hp_; obtain ⟨c9, m9⟩ := cb; have EB := Aside0.mk e_; clear e_; have n0_ := Aside0.mk hp_; clear HP hp_; have HP := n0_; clear n0_))
  replace HP : Aside0 (PS.Sk w4 w0 gr g gm w6 c9 m9) := HP
  have n0_ := Aside0.mk HP.out.st
  clear HP F4g F4m F5g F5m F7g F7m F8g F8m F4 F5 F7 F8
  have HP := n0_
  clear n0_
  have E2 := Aside0.mk (show bodyR 1 m0 (cu l) = (c9, m9) from by
    unfold bodyR
    rw [if_pos (by have := HMC.out; omega)]
    rw [if_neg (by decide)]
    rw [EB.out]
    rfl)
  go_upto_region 10 with (first | (go_at_call 22; (with_reducible refine (PS.St.fin HP.out).mono ?_); rintro en x1 ⟨rfl, hp_⟩; obtain ⟨c10, ec_⟩ : ∃ z, z = c9.fin := ⟨_, rfl⟩; rw [← ec_] at hp_; have Ec10 := Aside0.mk ec_; clear ec_; have n0_ := Aside0.mk hp_; clear HP hp_; have HP := n0_; clear n0_))
  go_upto_region 11 with (first | (go_at_call 23; (with_reducible refine (PS.St.err HP.out).mono ?_); rintro en x2 ⟨rfl, hp_⟩; have n0_ := Aside0.mk hp_; clear HP hp_; have HP := n0_; clear n0_))
  have he1 : parse 1 4 l = if c10.e ≠ 0 then (zeroM, c10.e) else (m9, 0) := by
    unfold parse
    rw [if_neg (by decide), if_neg (by decide), ← HM0.out, E2.out, Ec10.out]
  by_cases h9 : c10.e = 0
  · have ex_ : parse 1 4 l = (m9, 0) := by rw [he1, if_neg (fun h => h h9)]
    have EX := Aside0.mk ex_
    have g1 : (c10.e != 0) = false := by rw [h9]; rfl
    have g2 : (c10.e == 0) = true := by rw [h9]; rfl
    clear h9 ex_ he1
    obtain ⟨cx, h_, hz_, hm_⟩ := PS.St.held2 HP.out
    have H := Aside0.mk h_
    have HZ := Aside0.mk hz_
    have HM := Aside0.mk hm_
    have HB := Aside0.mk HP.out.b
    clear h_ hz_ hm_ HP
    go_wp2_with (first | ((with_reducible refine gate_dst (N := 39) rfl ?_); refine ev_load (x := .tmp 8) rfl rfl rfl H.out (i := 1) rfl (HZ.out) ?_) | ((with_reducible refine gate_op (u := .store 30 (.tmp 6) (.tmp 39)) rfl ?_); refine ev_store rfl rfl rfl rfl H.out (i := 0) rfl rfl (HM.out _ ⟨rfl, rfl, rfl, Kept.refl _ _⟩) ?_; intro x91 h3_ h4_; have HE := Aside0.mk (HM.out _ h4_); clear h4_; have n0_ := Aside0.mk (h3_); clear H; have H := n0_; clear n0_; clear h3_))
    refine bodyPost_ret (results_ct rfl _ _ gr 30 _ (0, 0) _ rfl (H.out.at 0 rfl) Try.underlying30 rfl (msg_info (HZ.out))) rfl (by rw [EX.out]; exact ⟨_, rfl, HE.out, H.out.b⟩)
  · have ex_ : parse 1 4 l = (zeroM, c10.e) := by rw [he1, if_pos h9]
    have EX := Aside0.mk ex_
    have g1 : (c10.e != 0) = true := by simpa using h9
    have g2 : (c10.e == 0) = false := by simpa using h9
    clear h9 ex_ he1
    have H := Aside0.mk (PS.St.held HP.out)
    clear HP
    go_wp2_with (first | ((with_reducible refine gate_dst (N := 37) rfl ?_); refine ev_build (zeroC) rfl (by go_simp; first | rfl | done) ?_; intro cx hcx_; have M := Aside0.mk (show ∀ W, IsMsg W cx _ from fun W => by rw [hcx_]; exact zero_is W); clear hcx_) | ((with_reducible refine gate_op (u := .store 30 (.tmp 6) (.tmp 37)) rfl ?_); refine ev_store rfl rfl rfl rfl H.out (i := 0) rfl (rfl) (M.out w0) ?_; intro x90 h3_ h4_; have n0_ := Aside0.mk (h3_); clear H; have H := n0_; clear n0_; clear h3_ h4_))
    refine bodyPost_ret (results_ct rfl _ _ gr 30 _ (0, 0) _ rfl (H.out.at 0 rfl) Try.underlying30 rfl (msg_info ((M.out w0).size))) rfl (by rw [EX.out]; exact ⟨_, rfl, M.out _, H.out.b⟩)
theorem parse_1_6 {A : Option Addr} {c : Nat} {l : List Int} {w0 : World} (hr : Kd.C (Kd.int .u8) w0 A l.length l) (hc : l.length ≤ c) (hs : l.length ≤ 1000000) (hb : isBytes l) :
    Calls Try.prog 12 #[.int .i64 1, .int .u8 6, .slice A l.length c] w0 fun en w' => ∃ cx, en = .returned (.tuple #[.agg cx, .int .i64 (parse 1 6 l).2]) ∧ IsMsg w' cx (parse 1 6 l).1 ∧ Below w0.heap.size w0 w' := by
  have HR := Aside0.mk hr
  have HC := Aside0.mk hc
  have HS := Aside0.mk hs
  have HBB := Aside0.mk hb
  clear hr hc hs hb
  go_enter Try.func12, Try.ntmps12
  go_upto_region 3 with (first | ((with_reducible refine gate_dst (N := 6) rfl ?_); refine ev_alloc rfl rfl ?_; intro gr w1 hg_ h1_ h2_; have HG := Aside0.mk hg_; have H1 := Aside0.mk h1_; have H2 := Aside0.mk h2_; clear hg_ h1_ h2_))
  go_upto_region 4 with (first | ((with_reducible refine gate_dst (N := 20) rfl ?_); refine ev_build ((zeroC.setIfInBounds 0 (.int .u8 (6)))) rfl (by go_simp; first | rfl | done) ?_; intro cx hcx_; have M := Aside0.mk (show ∀ W, IsMsg W cx _ from fun W => by rw [hcx_]; exact (fun W => set_code (zero_is W) (v := 6) (by decide)) W); have NL := Aside0.mk (show NilL cx by rw [hcx_]; exact PS.zero_nil.set (by decide)); clear hcx_) | ((with_reducible refine gate_dst (N := 8) rfl ?_); refine ev_var (y := .tmp 20) rfl rfl rfl rfl rfl (M.out w0) rfl rfl ?_; intro gm w2 hg_ h1_ hb_; have HM1 := Aside0.mk hg_; have HM2 := Aside0.mk h1_; have HM3 := Aside0.mk hb_; clear h1_ hb_ hg_))
  go_upto_region 5 with (first | (go_at_call 20; (with_reducible refine (p_new A c l _ (Kd.C_below HR.out (H2.out.trans (HM3.out.mono H2.out.size))) HC.out HS.out HBB.out).mono ?_); rintro en w3 ⟨g, rfl, q1_, q2_, q3_, q4_⟩; have HP := Aside0.mk (St_first HG.out H1.out H2.out HM1.out HM2.out HM3.out M.out NL.out q1_ q2_ q3_); clear q1_ q2_ q3_ q4_ H1 H2 HG HM1 HM2 HM3))
  go_upto_region 6 with (first | (go_at_call 21; (with_reducible refine (form_1_6 (PS.St.at_code HP.out).1).mono ?_); rintro en w4 ⟨a4, a5, a7, a8, rfl, ⟨f4_, f5_, f7_, f8_⟩, l4_, l5_, l7_, l8_, hb_⟩; have hl_ := PS.Sk.lt (PS.Sk.start HP.out); have F4 := Aside0.mk f4_; have F5 := Aside0.mk f5_; have F7 := Aside0.mk f7_; have F8 := Aside0.mk f8_; have F4g : a4 ≠ g := (by omega); have F4m : a4 ≠ gm := (by omega); have F5g : a5 ≠ g := (by omega); have F5m : a5 ≠ gm := (by omega); have F7g : a7 ≠ g := (by omega); have F7m : a7 ≠ gm := (by omega); have F8g : a8 ≠ g := (by omega); have F8m : a8 ≠ gm := (by omega); have n0_ := Aside0.mk (PS.St.below HP.out hb_); clear HP hb_ f4_ f5_ f7_ f8_ l4_ l5_ l7_ l8_ hl_; have HP := n0_; clear n0_))
  have hef := eq_func
  go_upto_region 8 with (fail)
  clear hef
  obtain ⟨m0, hm0⟩ : ∃ z, z = ({ zeroM with code := 6 } : Msg) := ⟨_, rfl⟩
  rw [← hm0] at HP
  have HM0 := Aside0.mk hm0
  have HMC := Aside0.mk (show m0.code = 6 by rw [hm0])
  clear hm0 M NL
  have n0_ := Aside0.mk (PS.Sk.start HP.out)
  clear HP
  have HP := n0_
  clear n0_
  go_upto_region 9 with (first | (go_at_call 44; (with_reducible refine (one_any HP.out F5.out F5g F5m F4.out F4g F4m).mono ?_); rintro en w6 ⟨rfl, hp_⟩; obtain ⟨cb, e_⟩ : ∃ z, z = oneR m0 ⟨l, false, 0⟩ := ⟨_, rfl⟩; rw [← e_] at hp_; obtain ⟨c9, m9⟩ := cb; have EB := Aside0.mk e_; clear e_; have n0_ := Aside0.mk hp_; clear HP hp_; have HP := n0_; clear n0_))
  replace HP : Aside0 (PS.Sk w4 w0 gr g gm w6 c9 m9) := HP
  have n0_ := Aside0.mk HP.out.st
  clear HP F4g F4m F5g F5m F7g F7m F8g F8m F4 F5 F7 F8
  have HP := n0_
  clear n0_
  have E2 := Aside0.mk (show bodyR 1 m0 (cu l) = (c9, m9) from by
    unfold bodyR
    rw [if_neg (by have := HMC.out; omega)]
    rw [if_pos (by have := HMC.out; omega)]
    rw [EB.out]
    rfl)
  go_upto_region 10 with (first | (go_at_call 22; (with_reducible refine (PS.St.fin HP.out).mono ?_); rintro en x1 ⟨rfl, hp_⟩; obtain ⟨c10, ec_⟩ : ∃ z, z = c9.fin := ⟨_, rfl⟩; rw [← ec_] at hp_; have Ec10 := Aside0.mk ec_; clear ec_; have n0_ := Aside0.mk hp_; clear HP hp_; have HP := n0_; clear n0_))
  go_upto_region 11 with (first | (go_at_call 23; (with_reducible refine (PS.St.err HP.out).mono ?_); rintro en x2 ⟨rfl, hp_⟩; have n0_ := Aside0.mk hp_; clear HP hp_; have HP := n0_; clear n0_))
  have he1 : parse 1 6 l = if c10.e ≠ 0 then (zeroM, c10.e) else (m9, 0) := by
    unfold parse
    rw [if_neg (by decide), if_neg (by decide), ← HM0.out, E2.out, Ec10.out]
  by_cases h9 : c10.e = 0
  · have ex_ : parse 1 6 l = (m9, 0) := by rw [he1, if_neg (fun h => h h9)]
    have EX := Aside0.mk ex_
    have g1 : (c10.e != 0) = false := by rw [h9]; rfl
    have g2 : (c10.e == 0) = true := by rw [h9]; rfl
    clear h9 ex_ he1
    obtain ⟨cx, h_, hz_, hm_⟩ := PS.St.held2 HP.out
    have H := Aside0.mk h_
    have HZ := Aside0.mk hz_
    have HM := Aside0.mk hm_
    have HB := Aside0.mk HP.out.b
    clear h_ hz_ hm_ HP
    go_wp2_with (first | ((with_reducible refine gate_dst (N := 39) rfl ?_); refine ev_load (x := .tmp 8) rfl rfl rfl H.out (i := 1) rfl (HZ.out) ?_) | ((with_reducible refine gate_op (u := .store 30 (.tmp 6) (.tmp 39)) rfl ?_); refine ev_store rfl rfl rfl rfl H.out (i := 0) rfl rfl (HM.out _ ⟨rfl, rfl, rfl, Kept.refl _ _⟩) ?_; intro x91 h3_ h4_; have HE := Aside0.mk (HM.out _ h4_); clear h4_; have n0_ := Aside0.mk (h3_); clear H; have H := n0_; clear n0_; clear h3_))
    refine bodyPost_ret (results_ct rfl _ _ gr 30 _ (0, 0) _ rfl (H.out.at 0 rfl) Try.underlying30 rfl (msg_info (HZ.out))) rfl (by rw [EX.out]; exact ⟨_, rfl, HE.out, H.out.b⟩)
  · have ex_ : parse 1 6 l = (zeroM, c10.e) := by rw [he1, if_pos h9]
    have EX := Aside0.mk ex_
    have g1 : (c10.e != 0) = true := by simpa using h9
    have g2 : (c10.e == 0) = false := by simpa using h9
    clear h9 ex_ he1
    have H := Aside0.mk (PS.St.held HP.out)
    clear HP
    go_wp2_with (first | ((with_reducible refine gate_dst (N := 37) rfl ?_); refine ev_build (zeroC) rfl (by go_simp; first | rfl | done) ?_; intro cx hcx_; have M := Aside0.mk (show ∀ W, IsMsg W cx _ from fun W => by rw [hcx_]; exact zero_is W); clear hcx_) | ((with_reducible refine gate_op (u := .store 30 (.tmp 6) (.tmp 37)) rfl ?_); refine ev_store rfl rfl rfl rfl H.out (i := 0) rfl (rfl) (M.out w0) ?_; intro x90 h3_ h4_; have n0_ := Aside0.mk (h3_); clear H; have H := n0_; clear n0_; clear h3_ h4_))
    refine bodyPost_ret (results_ct rfl _ _ gr 30 _ (0, 0) _ rfl (H.out.at 0 rfl) Try.underlying30 rfl (msg_info ((M.out w0).size))) rfl (by rw [EX.out]; exact ⟨_, rfl, M.out _, H.out.b⟩)
theorem parse_1_16 {A : Option Addr} {c : Nat} {l : List Int} {w0 : World} (hr : Kd.C (Kd.int .u8) w0 A l.length l) (hc : l.length ≤ c) (hs : l.length ≤ 1000000) (hb : isBytes l) :
    Calls Try.prog 12 #[.int .i64 1, .int .u8 16, .slice A l.length c] w0 fun en w' => ∃ cx, en = .returned (.tuple #[.agg cx, .int .i64 (parse 1 16 l).2]) ∧ IsMsg w' cx (parse 1 16 l).1 ∧ Below w0.heap.size w0 w' := by
  have HR := Aside0.mk hr
  have HC := Aside0.mk hc
  have HS := Aside0.mk hs
  have HBB := Aside0.mk hb
  clear hr hc hs hb
  go_enter Try.func12, Try.ntmps12
  go_upto_region 3 with (first | ((with_reducible refine gate_dst (N := 6) rfl ?_); refine ev_alloc rfl rfl ?_; intro gr w1 hg_ h1_ h2_; have HG := Aside0.mk hg_; have H1 := Aside0.mk h1_; have H2 := Aside0.mk h2_; clear hg_ h1_ h2_))
  go_upto_region 4 with (first | ((with_reducible refine gate_dst (N := 20) rfl ?_); refine ev_build ((zeroC.setIfInBounds 0 (.int .u8 (16)))) rfl (by go_simp; first | rfl | done) ?_; intro cx hcx_; have M := Aside0.mk (show ∀ W, IsMsg W cx _ from fun W => by rw [hcx_]; exact (fun W => set_code (zero_is W) (v := 16) (by decide)) W); have NL := Aside0.mk (show NilL cx by rw [hcx_]; exact PS.zero_nil.set (by decide)); clear hcx_) | ((with_reducible refine gate_dst (N := 8) rfl ?_); refine ev_var (y := .tmp 20) rfl rfl rfl rfl rfl (M.out w0) rfl rfl ?_; intro gm w2 hg_ h1_ hb_; have HM1 := Aside0.mk hg_; have HM2 := Aside0.mk h1_; have HM3 := Aside0.mk hb_; clear h1_ hb_ hg_))
  go_upto_region 5 with (first | (go_at_call 20; (with_reducible refine (p_new A c l _ (Kd.C_below HR.out (H2.out.trans (HM3.out.mono H2.out.size))) HC.out HS.out HBB.out).mono ?_); rintro en w3 ⟨g, rfl, q1_, q2_, q3_, q4_⟩; have HP := Aside0.mk (St_first HG.out H1.out H2.out HM1.out HM2.out HM3.out M.out NL.out q1_ q2_ q3_); clear q1_ q2_ q3_ q4_ H1 H2 HG HM1 HM2 HM3))
  go_upto_region 6 with (first | (go_at_call 21; (with_reducible refine (form_1_16 (PS.St.at_code HP.out).1).mono ?_); rintro en w4 ⟨a4, a5, a7, a8, rfl, ⟨f4_, f5_, f7_, f8_⟩, l4_, l5_, l7_, l8_, hb_⟩; have hl_ := PS.Sk.lt (PS.Sk.start HP.out); have F4 := Aside0.mk f4_; have F5 := Aside0.mk f5_; have F7 := Aside0.mk f7_; have F8 := Aside0.mk f8_; have F4g : a4 ≠ g := (by omega); have F4m : a4 ≠ gm := (by omega); have F5g : a5 ≠ g := (by omega); have F5m : a5 ≠ gm := (by omega); have F7g : a7 ≠ g := (by omega); have F7m : a7 ≠ gm := (by omega); have F8g : a8 ≠ g := (by omega); have F8m : a8 ≠ gm := (by omega); have n0_ := Aside0.mk (PS.St.below HP.out hb_); clear HP hb_ f4_ f5_ f7_ f8_ l4_ l5_ l7_ l8_ hl_; have HP := n0_; clear n0_))
  have hef := eq_func
  go_upto_region 8 with (fail)
  clear hef
  obtain ⟨m0, hm0⟩ : ∃ z, z = ({ zeroM with code := 16 } : Msg) := ⟨_, rfl⟩
  rw [← hm0] at HP
  have HM0 := Aside0.mk hm0
  have HMC := Aside0.mk (show m0.code = 16 by rw [hm0])
  clear hm0 M NL
  have n0_ := Aside0.mk (PS.Sk.start HP.out)
  clear HP
  have HP := n0_
  clear n0_
  go_upto_region 9 with (first | (go_at_call 45; (with_reducible refine (many_0 HP.out F5.out F5g F5m F4.out F4g F4m F7.out F7g F7m F8.out F8g F8m).mono ?_); rintro en w6 ⟨rfl, hp_⟩; obtain ⟨cb, e_⟩ : ∃ z, z = whereR 123 m0 ⟨l, false, 0⟩ := ⟨_, rfl⟩; rw [← e_] at hp_; obtain ⟨c9, m9⟩ := cb; have EB := Aside0.mk e_; clear e_; have n0_ := Aside0.mk hp_; clear HP hp_; have HP := n0_; clear n0_))
  replace HP : Aside0 (PS.Sk w4 w0 gr g gm w6 c9 m9) := HP
  have n0_ := Aside0.mk HP.out.st
  clear HP F4g F4m F5g F5m F7g F7m F8g F8m F4 F5 F7 F8
  have HP := n0_
  clear n0_
  have E2 := Aside0.mk (show bodyR 1 m0 (cu l) = (c9, m9) from by
    unfold bodyR
    rw [if_neg (by have := HMC.out; omega)]
    rw [if_neg (by have := HMC.out; omega)]
    rw [if_pos (by have := HMC.out; omega)]
    rw [if_neg (by decide)]
    rw [EB.out]
    rfl)
  go_upto_region 10 with (first | (go_at_call 22; (with_reducible refine (PS.St.fin HP.out).mono ?_); rintro en x1 ⟨rfl, hp_⟩; obtain ⟨c10, ec_⟩ : ∃ z, z = c9.fin := ⟨_, rfl⟩; rw [← ec_] at hp_; have Ec10 := Aside0.mk ec_; clear ec_; have n0_ := Aside0.mk hp_; clear HP hp_; have HP := n0_; clear n0_))
  go_upto_region 11 with (first | (go_at_call 23; (with_reducible refine (PS.St.err HP.out).mono ?_); rintro en x2 ⟨rfl, hp_⟩; have n0_ := Aside0.mk hp_; clear HP hp_; have HP := n0_; clear n0_))
  have he1 : parse 1 16 l = if c10.e ≠ 0 then (zeroM, c10.e) else (m9, 0) := by
    unfold parse
    rw [if_neg (by decide), if_neg (by decide), ← HM0.out, E2.out, Ec10.out]
  by_cases h9 : c10.e = 0
  · have ex_ : parse 1 16 l = (m9, 0) := by rw [he1, if_neg (fun h => h h9)]
    have EX := Aside0.mk ex_
    have g1 : (c10.e != 0) = false := by rw [h9]; rfl
    have g2 : (c10.e == 0) = true := by rw [h9]; rfl
    clear h9 ex_ he1
    obtain ⟨cx, h_, hz_, hm_⟩ := PS.St.held2 HP.out
    have H := Aside0.mk h_
    have HZ := Aside0.mk hz_
    have HM := Aside0.mk hm_
    have HB := Aside0.mk HP.out.b
    clear h_ hz_ hm_ HP
    go_wp2_with (first | ((with_reducible refine gate_dst (N := 39) rfl ?_); refine ev_load (x := .tmp 8) rfl rfl rfl H.out (i := 1) rfl (HZ.out) ?_) | ((with_reducible refine gate_op (u := .store 30 (.tmp 6) (.tmp 39)) rfl ?_); refine ev_store rfl rfl rfl rfl H.out (i := 0) rfl rfl (HM.out _ ⟨rfl, rfl, rfl, Kept.refl _ _⟩) ?_; intro x91 h3_ h4_; have HE := Aside0.mk (HM.out _ h4_); clear h4_; have n0_ := Aside0.mk (h3_); clear H; have H := n0_; clear n0_; clear h3_))
    refine bodyPost_ret (results_ct rfl _ _ gr 30 _ (0, 0) _ rfl (H.out.at 0 rfl) Try.underlying30 rfl (msg_info (HZ.out))) rfl (by rw [EX.out]; exact ⟨_, rfl, HE.out, H.out.b⟩)
  · have ex_ : parse 1 16 l = (zeroM, c10.e) := by rw [he1, if_pos h9]
    have EX := Aside0.mk ex_
    have g1 : (c10.e != 0) = true := by simpa using h9
    have g2 : (c10.e == 0) = false := by simpa using h9
    clear h9 ex_ he1
    have H := Aside0.mk (PS.St.held HP.out)
    clear HP
    go_wp2_with (first | ((with_reducible refine gate_dst (N := 37) rfl ?_); refine ev_build (zeroC) rfl (by go_simp; first | rfl | done) ?_; intro cx hcx_; have M := Aside0.mk (show ∀ W, IsMsg W cx _ from fun W => by rw [hcx_]; exact zero_is W); clear hcx_) | ((with_reducible refine gate_op (u := .store 30 (.tmp 6) (.tmp 37)) rfl ?_); refine ev_store rfl rfl rfl rfl H.out (i := 0) rfl (rfl) (M.out w0) ?_; intro x90 h3_ h4_; have n0_ := Aside0.mk (h3_); clear H; have H := n0_; clear n0_; clear h3_ h4_))
    refine bodyPost_ret (results_ct rfl _ _ gr 30 _ (0, 0) _ rfl (H.out.at 0 rfl) Try.underlying30 rfl (msg_info ((M.out w0).size))) rfl (by rw [EX.out]; exact ⟨_, rfl, M.out _, H.out.b⟩)
theorem parse_1_22 {A : Option Addr} {c : Nat} {l : List Int} {w0 : World} (hr : Kd.C (Kd.int .u8) w0 A l.length l) (hc : l.length ≤ c) (hs : l.length ≤ 1000000) (hb : isBytes l) :
    Calls Try.prog 12 #[.int .i64 1, .int .u8 22, .slice A l.length c] w0 fun en w' => ∃ cx, en = .returned (.tuple #[.agg cx, .int .i64 (parse 1 22 l).2]) ∧ IsMsg w' cx (parse 1 22 l).1 ∧ Below w0.heap.size w0 w' := by
  have HR := Aside0.mk hr
  have HC := Aside0.mk hc
  have HS := Aside0.mk hs
  have HBB := Aside0.mk hb
  clear hr hc hs hb
  go_enter Try.func12, Try.ntmps12
  go_upto_region 3 with (first | ((with_reducible refine gate_dst (N := 6) rfl ?_); refine ev_alloc rfl rfl ?_; intro gr w1 hg_ h1_ h2_; have HG := Aside0.mk hg_; have H1 := Aside0.mk h1_; have H2 := Aside0.mk h2_; clear hg_ h1_ h2_))
  go_upto_region 4 with (first | ((with_reducible refine gate_dst (N := 20) rfl ?_); refine ev_build ((zeroC.setIfInBounds 0 (.int .u8 (22)))) rfl (by go_simp; first | rfl | done) ?_; intro cx hcx_; have M := Aside0.mk (show ∀ W, IsMsg W cx _ from fun W => by rw [hcx_]; exact (fun W => set_code (zero_is W) (v := 22) (by decide)) W); have NL := Aside0.mk (show NilL cx by rw [hcx_]; exact PS.zero_nil.set (by decide)); clear hcx_) | ((with_reducible refine gate_dst (N := 8) rfl ?_); refine ev_var (y := .tmp 20) rfl rfl rfl rfl rfl (M.out w0) rfl rfl ?_; intro gm w2 hg_ h1_ hb_; have HM1 := Aside0.mk hg_; have HM2 := Aside0.mk h1_; have HM3 := Aside0.mk hb_; clear h1_ hb_ hg_))
  go_upto_region 5 with (first | (go_at_call 20; (with_reducible refine (p_new A c l _ (Kd.C_below HR.out (H2.out.trans (HM3.out.mono H2.out.size))) HC.out HS.out HBB.out).mono ?_); rintro en w3 ⟨g, rfl, q1_, q2_, q3_, q4_⟩; have HP := Aside0.mk (St_first HG.out H1.out H2.out HM1.out HM2.out HM3.out M.out NL.out q1_ q2_ q3_); clear q1_ q2_ q3_ q4_ H1 H2 HG HM1 HM2 HM3))
  go_upto_region 6 with (first | (go_at_call 21; (with_reducible refine (form_1_22 (PS.St.at_code HP.out).1).mono ?_); rintro en w4 ⟨a4, a5, a7, a8, rfl, ⟨f4_, f5_, f7_, f8_⟩, l4_, l5_, l7_, l8_, hb_⟩; have hl_ := PS.Sk.lt (PS.Sk.start HP.out); have F4 := Aside0.mk f4_; have F5 := Aside0.mk f5_; have F7 := Aside0.mk f7_; have F8 := Aside0.mk f8_; have F4g : a4 ≠ g := (by omega); have F4m : a4 ≠ gm := (by omega); have F5g : a5 ≠ g := (by omega); have F5m : a5 ≠ gm := (by omega); have F7g : a7 ≠ g := (by omega); have F7m : a7 ≠ gm := (by omega); have F8g : a8 ≠ g := (by omega); have F8m : a8 ≠ gm := (by omega); have n0_ := Aside0.mk (PS.St.below HP.out hb_); clear HP hb_ f4_ f5_ f7_ f8_ l4_ l5_ l7_ l8_ hl_; have HP := n0_; clear n0_))
  have hef := eq_func
  go_upto_region 8 with (fail)
  clear hef
  obtain ⟨m0, hm0⟩ : ∃ z, z = ({ zeroM with code := 22 } : Msg) := ⟨_, rfl⟩
  rw [← hm0] at HP
  have HM0 := Aside0.mk hm0
  have HMC := Aside0.mk (show m0.code = 22 by rw [hm0])
  clear hm0 M NL
  have n0_ := Aside0.mk (PS.Sk.start HP.out)
  clear HP
  have HP := n0_
  clear n0_
  go_upto_region 9 with (first | (go_at_call 47; (with_reducible refine (mask_any HP.out F5.out F5g F5m F4.out F4g F4m).mono ?_); rintro en w6 ⟨rfl, hp_⟩; obtain ⟨cb, e_⟩ : ∃ z, z = maskR m0 ⟨l, false, 0⟩ := ⟨_, rfl⟩; rw [← e_] at hp_; obtain ⟨c9, m9⟩ := cb; have EB := Aside0.mk e_; clear e_; have n0_ := Aside0.mk hp_; clear HP hp_; have HP := n0_; clear n0_))
  replace HP : Aside0 (PS.Sk w4 w0 gr g gm w6 c9 m9) := HP
  have n0_ := Aside0.mk HP.out.st
  clear HP F4g F4m F5g F5m F7g F7m F8g F8m F4 F5 F7 F8
  have HP := n0_
  clear n0_
  have E2 := Aside0.mk (show bodyR 1 m0 (cu l) = (c9, m9) from by
    unfold bodyR
    rw [if_neg (by have := HMC.out; omega)]
    rw [if_neg (by have := HMC.out; omega)]
    rw [if_neg (by have := HMC.out; omega)]
    rw [if_pos (by have := HMC.out; omega)]
    rw [EB.out]
    rfl)
  go_upto_region 10 with (first | (go_at_call 22; (with_reducible refine (PS.St.fin HP.out).mono ?_); rintro en x1 ⟨rfl, hp_⟩; obtain ⟨c10, ec_⟩ : ∃ z, z = c9.fin := ⟨_, rfl⟩; rw [← ec_] at hp_; have Ec10 := Aside0.mk ec_; clear ec_; have n0_ := Aside0.mk hp_; clear HP hp_; have HP := n0_; clear n0_))
  go_upto_region 11 with (first | (go_at_call 23; (with_reducible refine (PS.St.err HP.out).mono ?_); rintro en x2 ⟨rfl, hp_⟩; have n0_ := Aside0.mk hp_; clear HP hp_; have HP := n0_; clear n0_))
  have he1 : parse 1 22 l = if c10.e ≠ 0 then (zeroM, c10.e) else (m9, 0) := by
    unfold parse
    rw [if_neg (by decide), if_neg (by decide), ← HM0.out, E2.out, Ec10.out]
  by_cases h9 : c10.e = 0
  · have ex_ : parse 1 22 l = (m9, 0) := by rw [he1, if_neg (fun h => h h9)]
    have EX := Aside0.mk ex_
    have g1 : (c10.e != 0) = false := by rw [h9]; rfl
    have g2 : (c10.e == 0) = true := by rw [h9]; rfl
    clear h9 ex_ he1
    obtain ⟨cx, h_, hz_, hm_⟩ := PS.St.held2 HP.out
    have H := Aside0.mk h_
    have HZ := Aside0.mk hz_
    have HM := Aside0.mk hm_
    have HB := Aside0.mk HP.out.b
    clear h_ hz_ hm_ HP
    go_wp2_with (first | ((with_reducible refine gate_dst (N := 39) rfl ?_); refine ev_load (x := .tmp 8) rfl rfl rfl H.out (i := 1) rfl (HZ.out) ?_) | ((with_reducible refine gate_op (u := .store 30 (.tmp 6) (.tmp 39)) rfl ?_); refine ev_store rfl rfl rfl rfl H.out (i := 0) rfl rfl (HM.out _ ⟨rfl, rfl, rfl, Kept.refl _ _⟩) ?_; intro x91 h3_ h4_; have HE := Aside0.mk (HM.out _ h4_); clear h4_; have n0_ := Aside0.mk (h3_); clear H; have H := n0_; clear n0_; clear h3_))
    refine bodyPost_ret (results_ct rfl _ _ gr 30 _ (0, 0) _ rfl (H.out.at 0 rfl) Try.underlying30 rfl (msg_info (HZ.out))) rfl (by rw [EX.out]; exact ⟨_, rfl, HE.out, H.out.b⟩)
  · have ex_ : parse 1 22 l = (zeroM, c10.e) := by rw [he1, if_pos h9]
    have EX := Aside0.mk ex_
    have g1 : (c10.e != 0) = true := by simpa using h9
    have g2 : (c10.e == 0) = false := by simpa using h9
    clear h9 ex_ he1
    have H := Aside0.mk (PS.St.held HP.out)
    clear HP
    go_wp2_with (first | ((with_reducible refine gate_dst (N := 37) rfl ?_); refine ev_build (zeroC) rfl (by go_simp; first | rfl | done) ?_; intro cx hcx_; have M := Aside0.mk (show ∀ W, IsMsg W cx _ from fun W => by rw [hcx_]; exact zero_is W); clear hcx_) | ((with_reducible refine gate_op (u := .store 30 (.tmp 6) (.tmp 37)) rfl ?_); refine ev_store rfl rfl rfl rfl H.out (i := 0) rfl (rfl) (M.out w0) ?_; intro x90 h3_ h4_; have n0_ := Aside0.mk (h3_); clear H; have H := n0_; clear n0_; clear h3_ h4_))
    refine bodyPost_ret (results_ct rfl _ _ gr 30 _ (0, 0) _ rfl (H.out.at 0 rfl) Try.underlying30 rfl (msg_info ((M.out w0).size))) rfl (by rw [EX.out]; exact ⟨_, rfl, M.out _, H.out.b⟩)
theorem parse_1_23 {A : Option Addr} {c : Nat} {l : List Int} {w0 : World} (hr : Kd.C (Kd.int .u8) w0 A l.length l) (hc : l.length ≤ c) (hs : l.length ≤ 1000000) (hb : isBytes l) :
    Calls Try.prog 12 #[.int .i64 1, .int .u8 23, .slice A l.length c] w0 fun en w' => ∃ cx, en = .returned (.tuple #[.agg cx, .int .i64 (parse 1 23 l).2]) ∧ IsMsg w' cx (parse 1 23 l).1 ∧ Below w0.heap.size w0 w' := by
  have HR := Aside0.mk hr
  have HC := Aside0.mk hc
  have HS := Aside0.mk hs
  have HBB := Aside0.mk hb
  clear hr hc hs hb
  go_enter Try.func12, Try.ntmps12
  go_upto_region 3 with (first | ((with_reducible refine gate_dst (N := 6) rfl ?_); refine ev_alloc rfl rfl ?_; intro gr w1 hg_ h1_ h2_; have HG := Aside0.mk hg_; have H1 := Aside0.mk h1_; have H2 := Aside0.mk h2_; clear hg_ h1_ h2_))
  go_upto_region 4 with (first | ((with_reducible refine gate_dst (N := 20) rfl ?_); refine ev_build ((zeroC.setIfInBounds 0 (.int .u8 (23)))) rfl (by go_simp; first | rfl | done) ?_; intro cx hcx_; have M := Aside0.mk (show ∀ W, IsMsg W cx _ from fun W => by rw [hcx_]; exact (fun W => set_code (zero_is W) (v := 23) (by decide)) W); have NL := Aside0.mk (show NilL cx by rw [hcx_]; exact PS.zero_nil.set (by decide)); clear hcx_) | ((with_reducible refine gate_dst (N := 8) rfl ?_); refine ev_var (y := .tmp 20) rfl rfl rfl rfl rfl (M.out w0) rfl rfl ?_; intro gm w2 hg_ h1_ hb_; have HM1 := Aside0.mk hg_; have HM2 := Aside0.mk h1_; have HM3 := Aside0.mk hb_; clear h1_ hb_ hg_))
  go_upto_region 5 with (first | (go_at_call 20; (with_reducible refine (p_new A c l _ (Kd.C_below HR.out (H2.out.trans (HM3.out.mono H2.out.size))) HC.out HS.out HBB.out).mono ?_); rintro en w3 ⟨g, rfl, q1_, q2_, q3_, q4_⟩; have HP := Aside0.mk (St_first HG.out H1.out H2.out HM1.out HM2.out HM3.out M.out NL.out q1_ q2_ q3_); clear q1_ q2_ q3_ q4_ H1 H2 HG HM1 HM2 HM3))
  go_upto_region 6 with (first | (go_at_call 21; (with_reducible refine (form_1_23 (PS.St.at_code HP.out).1).mono ?_); rintro en w4 ⟨a4, a5, a7, a8, rfl, ⟨f4_, f5_, f7_, f8_⟩, l4_, l5_, l7_, l8_, hb_⟩; have hl_ := PS.Sk.lt (PS.Sk.start HP.out); have F4 := Aside0.mk f4_; have F5 := Aside0.mk f5_; have F7 := Aside0.mk f7_; have F8 := Aside0.mk f8_; have F4g : a4 ≠ g := (by omega); have F4m : a4 ≠ gm := (by omega); have F5g : a5 ≠ g := (by omega); have F5m : a5 ≠ gm := (by omega); have F7g : a7 ≠ g := (by omega); have F7m : a7 ≠ gm := (by omega); have F8g : a8 ≠ g := (by omega); have F8m : a8 ≠ gm := (by omega); have n0_ := Aside0.mk (PS.St.below HP.out hb_); clear HP hb_ f4_ f5_ f7_ f8_ l4_ l5_ l7_ l8_ hl_; have HP := n0_; clear n0_))
  have hef := eq_func
  go_upto_region 8 with (fail)
  clear hef
  obtain ⟨m0, hm0⟩ : ∃ z, z = ({ zeroM with code := 23 } : Msg) := ⟨_, rfl⟩
  rw [← hm0] at HP
  have HM0 := Aside0.mk hm0
  have HMC := Aside0.mk (show m0.code = 23 by rw [hm0])
  clear hm0 M NL
  have n0_ := Aside0.mk (PS.Sk.start HP.out)
  clear HP
  have HP := n0_
  clear n0_
  go_upto_region 9 with (first | (go_at_call 40; (with_reducible refine (told_any HP.out F5.out F5g F5m F4.out F4g F4m).mono ?_); rintro en w6 ⟨rfl, hp_⟩; obtain ⟨cb, e_⟩ : ∃ z, z = toldR m0 ⟨l, false, 0⟩ := ⟨_, rfl⟩; rw [← e_] at hp_; obtain ⟨c9, m9⟩ := cb; have EB := Aside0.mk e_; clear e_; have n0_ := Aside0.mk hp_; clear HP hp_; have HP := n0_; clear n0_))
  replace HP : Aside0 (PS.Sk w4 w0 gr g gm w6 c9 m9) := HP
  have n0_ := Aside0.mk HP.out.st
  clear HP F4g F4m F5g F5m F7g F7m F8g F8m F4 F5 F7 F8
  have HP := n0_
  clear n0_
  have E2 := Aside0.mk (show bodyR 1 m0 (cu l) = (c9, m9) from by
    unfold bodyR
    rw [if_neg (by have := HMC.out; omega)]
    rw [if_neg (by have := HMC.out; omega)]
    rw [if_neg (by have := HMC.out; omega)]
    rw [if_neg (by have := HMC.out; omega)]
    rw [if_pos (by have := HMC.out; omega)]
    rw [if_neg (by decide)]
    rw [EB.out]
    rfl)
  go_upto_region 10 with (first | (go_at_call 22; (with_reducible refine (PS.St.fin HP.out).mono ?_); rintro en x1 ⟨rfl, hp_⟩; obtain ⟨c10, ec_⟩ : ∃ z, z = c9.fin := ⟨_, rfl⟩; rw [← ec_] at hp_; have Ec10 := Aside0.mk ec_; clear ec_; have n0_ := Aside0.mk hp_; clear HP hp_; have HP := n0_; clear n0_))
  go_upto_region 11 with (first | (go_at_call 23; (with_reducible refine (PS.St.err HP.out).mono ?_); rintro en x2 ⟨rfl, hp_⟩; have n0_ := Aside0.mk hp_; clear HP hp_; have HP := n0_; clear n0_))
  have he1 : parse 1 23 l = if c10.e ≠ 0 then (zeroM, c10.e) else (m9, 0) := by
    unfold parse
    rw [if_neg (by decide), if_neg (by decide), ← HM0.out, E2.out, Ec10.out]
  by_cases h9 : c10.e = 0
  · have ex_ : parse 1 23 l = (m9, 0) := by rw [he1, if_neg (fun h => h h9)]
    have EX := Aside0.mk ex_
    have g1 : (c10.e != 0) = false := by rw [h9]; rfl
    have g2 : (c10.e == 0) = true := by rw [h9]; rfl
    clear h9 ex_ he1
    obtain ⟨cx, h_, hz_, hm_⟩ := PS.St.held2 HP.out
    have H := Aside0.mk h_
    have HZ := Aside0.mk hz_
    have HM := Aside0.mk hm_
    have HB := Aside0.mk HP.out.b
    clear h_ hz_ hm_ HP
    go_wp2_with (first | ((with_reducible refine gate_dst (N := 39) rfl ?_); refine ev_load (x := .tmp 8) rfl rfl rfl H.out (i := 1) rfl (HZ.out) ?_) | ((with_reducible refine gate_op (u := .store 30 (.tmp 6) (.tmp 39)) rfl ?_); refine ev_store rfl rfl rfl rfl H.out (i := 0) rfl rfl (HM.out _ ⟨rfl, rfl, rfl, Kept.refl _ _⟩) ?_; intro x91 h3_ h4_; have HE := Aside0.mk (HM.out _ h4_); clear h4_; have n0_ := Aside0.mk (h3_); clear H; have H := n0_; clear n0_; clear h3_))
    refine bodyPost_ret (results_ct rfl _ _ gr 30 _ (0, 0) _ rfl (H.out.at 0 rfl) Try.underlying30 rfl (msg_info (HZ.out))) rfl (by rw [EX.out]; exact ⟨_, rfl, HE.out, H.out.b⟩)
  · have ex_ : parse 1 23 l = (zeroM, c10.e) := by rw [he1, if_pos h9]
    have EX := Aside0.mk ex_
    have g1 : (c10.e != 0) = true := by simpa using h9
    have g2 : (c10.e == 0) = false := by simpa using h9
    clear h9 ex_ he1
    have H := Aside0.mk (PS.St.held HP.out)
    clear HP
    go_wp2_with (first | ((with_reducible refine gate_dst (N := 37) rfl ?_); refine ev_build (zeroC) rfl (by go_simp; first | rfl | done) ?_; intro cx hcx_; have M := Aside0.mk (show ∀ W, IsMsg W cx _ from fun W => by rw [hcx_]; exact zero_is W); clear hcx_) | ((with_reducible refine gate_op (u := .store 30 (.tmp 6) (.tmp 37)) rfl ?_); refine ev_store rfl rfl rfl rfl H.out (i := 0) rfl (rfl) (M.out w0) ?_; intro x90 h3_ h4_; have n0_ := Aside0.mk (h3_); clear H; have H := n0_; clear n0_; clear h3_ h4_))
    refine bodyPost_ret (results_ct rfl _ _ gr 30 _ (0, 0) _ rfl (H.out.at 0 rfl) Try.underlying30 rfl (msg_info ((M.out w0).size))) rfl (by rw [EX.out]; exact ⟨_, rfl, M.out _, H.out.b⟩)
theorem parse_1_24 {A : Option Addr} {c : Nat} {l : List Int} {w0 : World} (hr : Kd.C (Kd.int .u8) w0 A l.length l) (hc : l.length ≤ c) (hs : l.length ≤ 1000000) (hb : isBytes l) :
    Calls Try.prog 12 #[.int .i64 1, .int .u8 24, .slice A l.length c] w0 fun en w' => ∃ cx, en = .returned (.tuple #[.agg cx, .int .i64 (parse 1 24 l).2]) ∧ IsMsg w' cx (parse 1 24 l).1 ∧ Below w0.heap.size w0 w' := by
  have HR := Aside0.mk hr
  have HC := Aside0.mk hc
  have HS := Aside0.mk hs
  have HBB := Aside0.mk hb
  clear hr hc hs hb
  go_enter Try.func12, Try.ntmps12
  go_upto_region 3 with (first | ((with_reducible refine gate_dst (N := 6) rfl ?_); refine ev_alloc rfl rfl ?_; intro gr w1 hg_ h1_ h2_; have HG := Aside0.mk hg_; have H1 := Aside0.mk h1_; have H2 := Aside0.mk h2_; clear hg_ h1_ h2_))
  go_upto_region 4 with (first | ((with_reducible refine gate_dst (N := 20) rfl ?_); refine ev_build ((zeroC.setIfInBounds 0 (.int .u8 (24)))) rfl (by go_simp; first | rfl | done) ?_; intro cx hcx_; have M := Aside0.mk (show ∀ W, IsMsg W cx _ from fun W => by rw [hcx_]; exact (fun W => set_code (zero_is W) (v := 24) (by decide)) W); have NL := Aside0.mk (show NilL cx by rw [hcx_]; exact PS.zero_nil.set (by decide)); clear hcx_) | ((with_reducible refine gate_dst (N := 8) rfl ?_); refine ev_var (y := .tmp 20) rfl rfl rfl rfl rfl (M.out w0) rfl rfl ?_; intro gm w2 hg_ h1_ hb_; have HM1 := Aside0.mk hg_; have HM2 := Aside0.mk h1_; have HM3 := Aside0.mk hb_; clear h1_ hb_ hg_))
  go_upto_region 5 with (first | (go_at_call 20; (with_reducible refine (p_new A c l _ (Kd.C_below HR.out (H2.out.trans (HM3.out.mono H2.out.size))) HC.out HS.out HBB.out).mono ?_); rintro en w3 ⟨g, rfl, q1_, q2_, q3_, q4_⟩; have HP := Aside0.mk (St_first HG.out H1.out H2.out HM1.out HM2.out HM3.out M.out NL.out q1_ q2_ q3_); clear q1_ q2_ q3_ q4_ H1 H2 HG HM1 HM2 HM3))
  go_upto_region 6 with (first | (go_at_call 21; (with_reducible refine (form_1_24 (PS.St.at_code HP.out).1).mono ?_); rintro en w4 ⟨a4, a5, a7, a8, rfl, ⟨f4_, f5_, f7_, f8_⟩, l4_, l5_, l7_, l8_, hb_⟩; have hl_ := PS.Sk.lt (PS.Sk.start HP.out); have F4 := Aside0.mk f4_; have F5 := Aside0.mk f5_; have F7 := Aside0.mk f7_; have F8 := Aside0.mk f8_; have F4g : a4 ≠ g := (by omega); have F4m : a4 ≠ gm := (by omega); have F5g : a5 ≠ g := (by omega); have F5m : a5 ≠ gm := (by omega); have F7g : a7 ≠ g := (by omega); have F7m : a7 ≠ gm := (by omega); have F8g : a8 ≠ g := (by omega); have F8m : a8 ≠ gm := (by omega); have n0_ := Aside0.mk (PS.St.below HP.out hb_); clear HP hb_ f4_ f5_ f7_ f8_ l4_ l5_ l7_ l8_ hl_; have HP := n0_; clear n0_))
  have hef := eq_func
  go_upto_region 8 with (fail)
  clear hef
  obtain ⟨m0, hm0⟩ : ∃ z, z = ({ zeroM with code := 24 } : Msg) := ⟨_, rfl⟩
  rw [← hm0] at HP
  have HM0 := Aside0.mk hm0
  have HMC := Aside0.mk (show m0.code = 24 by rw [hm0])
  clear hm0 M NL
  have n0_ := Aside0.mk (PS.Sk.start HP.out)
  clear HP
  have HP := n0_
  clear n0_
  go_upto_region 9 with (first | (go_at_call 50; (with_reducible refine (queue_any HP.out F5.out F5g F5m F4.out F4g F4m).mono ?_); rintro en w6 ⟨rfl, hp_⟩; obtain ⟨cb, e_⟩ : ∃ z, z = queueR m0 ⟨l, false, 0⟩ := ⟨_, rfl⟩; rw [← e_] at hp_; obtain ⟨c9, m9⟩ := cb; have EB := Aside0.mk e_; clear e_; have n0_ := Aside0.mk hp_; clear HP hp_; have HP := n0_; clear n0_))
  replace HP : Aside0 (PS.Sk w4 w0 gr g gm w6 c9 m9) := HP
  have n0_ := Aside0.mk HP.out.st
  clear HP F4g F4m F5g F5m F7g F7m F8g F8m F4 F5 F7 F8
  have HP := n0_
  clear n0_
  have E2 := Aside0.mk (show bodyR 1 m0 (cu l) = (c9, m9) from by
    unfold bodyR
    rw [if_neg (by have := HMC.out; omega)]
    rw [if_neg (by have := HMC.out; omega)]
    rw [if_neg (by have := HMC.out; omega)]
    rw [if_neg (by have := HMC.out; omega)]
    rw [if_neg (by have := HMC.out; omega)]
    rw [if_neg (by decide)]
    rw [EB.out]
    rfl)
  go_upto_region 10 with (first | (go_at_call 22; (with_reducible refine (PS.St.fin HP.out).mono ?_); rintro en x1 ⟨rfl, hp_⟩; obtain ⟨c10, ec_⟩ : ∃ z, z = c9.fin := ⟨_, rfl⟩; rw [← ec_] at hp_; have Ec10 := Aside0.mk ec_; clear ec_; have n0_ := Aside0.mk hp_; clear HP hp_; have HP := n0_; clear n0_))
  go_upto_region 11 with (first | (go_at_call 23; (with_reducible refine (PS.St.err HP.out).mono ?_); rintro en x2 ⟨rfl, hp_⟩; have n0_ := Aside0.mk hp_; clear HP hp_; have HP := n0_; clear n0_))
  have he1 : parse 1 24 l = if c10.e ≠ 0 then (zeroM, c10.e) else (m9, 0) := by
    unfold parse
    rw [if_neg (by decide), if_neg (by decide), ← HM0.out, E2.out, Ec10.out]
  by_cases h9 : c10.e = 0
  · have ex_ : parse 1 24 l = (m9, 0) := by rw [he1, if_neg (fun h => h h9)]
    have EX := Aside0.mk ex_
    have g1 : (c10.e != 0) = false := by rw [h9]; rfl
    have g2 : (c10.e == 0) = true := by rw [h9]; rfl
    clear h9 ex_ he1
    obtain ⟨cx, h_, hz_, hm_⟩ := PS.St.held2 HP.out
    have H := Aside0.mk h_
    have HZ := Aside0.mk hz_
    have HM := Aside0.mk hm_
    have HB := Aside0.mk HP.out.b
    clear h_ hz_ hm_ HP
    go_wp2_with (first | ((with_reducible refine gate_dst (N := 39) rfl ?_); refine ev_load (x := .tmp 8) rfl rfl rfl H.out (i := 1) rfl (HZ.out) ?_) | ((with_reducible refine gate_op (u := .store 30 (.tmp 6) (.tmp 39)) rfl ?_); refine ev_store rfl rfl rfl rfl H.out (i := 0) rfl rfl (HM.out _ ⟨rfl, rfl, rfl, Kept.refl _ _⟩) ?_; intro x91 h3_ h4_; have HE := Aside0.mk (HM.out _ h4_); clear h4_; have n0_ := Aside0.mk (h3_); clear H; have H := n0_; clear n0_; clear h3_))
    refine bodyPost_ret (results_ct rfl _ _ gr 30 _ (0, 0) _ rfl (H.out.at 0 rfl) Try.underlying30 rfl (msg_info (HZ.out))) rfl (by rw [EX.out]; exact ⟨_, rfl, HE.out, H.out.b⟩)
  · have ex_ : parse 1 24 l = (zeroM, c10.e) := by rw [he1, if_pos h9]
    have EX := Aside0.mk ex_
    have g1 : (c10.e != 0) = true := by simpa using h9
    have g2 : (c10.e == 0) = false := by simpa using h9
    clear h9 ex_ he1
    have H := Aside0.mk (PS.St.held HP.out)
    clear HP
    go_wp2_with (first | ((with_reducible refine gate_dst (N := 37) rfl ?_); refine ev_build (zeroC) rfl (by go_simp; first | rfl | done) ?_; intro cx hcx_; have M := Aside0.mk (show ∀ W, IsMsg W cx _ from fun W => by rw [hcx_]; exact zero_is W); clear hcx_) | ((with_reducible refine gate_op (u := .store 30 (.tmp 6) (.tmp 37)) rfl ?_); refine ev_store rfl rfl rfl rfl H.out (i := 0) rfl (rfl) (M.out w0) ?_; intro x90 h3_ h4_; have n0_ := Aside0.mk (h3_); clear H; have H := n0_; clear n0_; clear h3_ h4_))
    refine bodyPost_ret (results_ct rfl _ _ gr 30 _ (0, 0) _ rfl (H.out.at 0 rfl) Try.underlying30 rfl (msg_info ((M.out w0).size))) rfl (by rw [EX.out]; exact ⟨_, rfl, M.out _, H.out.b⟩)
theorem parse_any {dir code : Int} {A : Option Addr} {c : Nat} {l : List Int} {w0 : World} (hr : Kd.C (Kd.int .u8) w0 A l.length l) (hc : l.length ≤ c) (hs : l.length ≤ 1000000) (hb : isBytes l) (hcd : 0 ≤ code ∧ code < 256) :
    Calls Try.prog 12 #[.int .i64 dir, .int .u8 code, .slice A l.length c] w0 fun en w' => ∃ cx, en = .returned (.tuple #[.agg cx, .int .i64 (parse dir code l).2]) ∧ IsMsg w' cx (parse dir code l).1 ∧ Below w0.heap.size w0 w' := by
  by_cases h0 : dir = 0
  · subst h0
    by_cases k3 : code = 3
    · subst k3; exact parse_0_3 hr hc hs hb
    by_cases k4 : code = 4
    · subst k4; exact parse_0_4 hr hc hs hb
    by_cases k6 : code = 6
    · subst k6; exact parse_0_6 hr hc hs hb
    by_cases k16 : code = 16
    · subst k16; exact parse_0_16 hr hc hs hb
    by_cases k22 : code = 22
    · subst k22; exact parse_0_22 hr hc hs hb
    by_cases k23 : code = 23
    · subst k23; exact parse_0_23 hr hc hs hb
    by_cases k24 : code = 24
    · subst k24; exact parse_0_24 hr hc hs hb
    have hn : ¬ isCode code := by unfold isCode; omega
    have e : parse 0 code l = (zeroM, 4) := by unfold parse; rw [if_neg (by decide), if_pos hn]
    rw [e]; exact parse_no0 hr hc hs hb hcd hn
  by_cases h1 : dir = 1
  · subst h1
    by_cases k3 : code = 3
    · subst k3; exact parse_1_3 hr hc hs hb
    by_cases k4 : code = 4
    · subst k4; exact parse_1_4 hr hc hs hb
    by_cases k6 : code = 6
    · subst k6; exact parse_1_6 hr hc hs hb
    by_cases k16 : code = 16
    · subst k16; exact parse_1_16 hr hc hs hb
    by_cases k22 : code = 22
    · subst k22; exact parse_1_22 hr hc hs hb
    by_cases k23 : code = 23
    · subst k23; exact parse_1_23 hr hc hs hb
    by_cases k24 : code = 24
    · subst k24; exact parse_1_24 hr hc hs hb
    have hn : ¬ isCode code := by unfold isCode; omega
    have e : parse 1 code l = (zeroM, 4) := by unfold parse; rw [if_neg (by decide), if_pos hn]
    rw [e]; exact parse_no1 hr hc hs hb hcd hn
  have e : parse dir code l = (zeroM, 1) := by unfold parse; rw [if_pos ⟨h0, h1⟩]
  rw [e]; exact parse_dir hr hc hs hb h0 h1
end Go.Proofs.Ytmglilncdffbkaa.Reg
end
section
namespace Go.Proofs.Ytmglilncdffbkaa.QS
open Go.RowKit Go.Proofs.Ytmglilncdffbkaa.P Go.Proofs.Ytmglilncdffbkaa.E Go.Proofs.Ytmglilncdffbkaa.Cur Go.Proofs.Ytmglilncdffbkaa.RCur Go.Proofs.Ytmglilncdffbkaa.Cu Go.Proofs.Ytmglilncdffbkaa.Same Go.Proofs.YtmglilncdffbkaaW.PrintWords Go.Proofs.YtmglilncdffbkaaW.PrintLast Go.Proofs.YtmglilncdffbkaaW.PrintMore
structure St (w0 : World) (gr g gm : Nat) (w : World) (c : Cu) (m : Msg) : Prop where
  b : Below w0.heap.size w0 w
  cur : QAt w0.heap.size w g c
  cx : ∃ cx, w.heap[gm]? = some (.cells cx 30 (0, 0)) ∧ ∀ W', Kept w W' (fun k => k = g ∨ k = gm ∨ k = gr) → IsMsg W' cx m
  res : w.heap[gr]? = some (.cells zeroC 30 (0, 0))
  h1 : w0.heap.size ≤ g ∧ w0.heap.size ≤ gm ∧ w0.heap.size ≤ gr
  h2 : gm ≠ g ∧ gr ≠ g ∧ gr ≠ gm
  nl : ∃ cx, w.heap[gm]? = some (.cells cx 30 (0, 0)) ∧ NilL cx
section
variable {w0 w w' : World} {gr g gm : Nat} {c c' : Cu} {m m' : Msg}
theorem St.upd (h : St w0 gr g gm w c m) (k : Upd g w w') (hc : QAt w0.heap.size w' g c') : St w0 gr g gm w' c' m := by
  obtain ⟨cx, a1, a2⟩ := h.cx
  refine ⟨h.b.trans (k.below h.h1.1 h.b.size), hc, ⟨cx, blk_kept a1 k.kept h.h2.1, fun W' hk => a2 W' ((k.kept.mono fun j hj => .inl hj).then_ hk (fun j hj => .inl hj))⟩, blk_kept h.res k.kept h.h2.2.1, h.h1, h.h2, by obtain ⟨cy, n1, n2⟩ := h.nl; exact ⟨cy, blk_kept n1 k.kept h.h2.1, n2⟩⟩
theorem St.good (h : St w0 gr g gm w c m) : c.good := by
  exact QAt.good h.cur
theorem St.below (h : St w0 gr g gm w c m) (hb : Below w.heap.size w w') : St w0 gr g gm w' c m := by
  obtain ⟨cx, a1, a2⟩ := h.cx
  refine ⟨h.b.trans (hb.mono h.b.size), ?_, ⟨cx, blk_below a1 hb, fun W' hk => a2 W' ((Kept.of_below hb _).then_ hk (fun j hj => .inl hj))⟩, blk_below h.res hb, h.h1, h.h2, by obtain ⟨cy, n1, n2⟩ := h.nl; exact ⟨cy, blk_below n1 hb, n2⟩⟩
  exact h.cur.on (S := fun _ => False) (Kept.of_below hb _) (fun _ h => h.elim) (fun h => h)
theorem St.byte (h : St w0 gr g gm w c m) : Calls Try.prog 24 #[.pointer (some ⟨g, 0, none⟩)] w fun en w' => en = .returned (.int .u8 c.byteV) ∧ St w0 gr g gm w' c.byteS m := by
  have hc := h.cur
  refine (q_byte hc).mono ?_
  rintro en w' ⟨rfl, b1, b2⟩
  exact ⟨rfl, h.upd b2 b1⟩
theorem St.words (h : St w0 gr g gm w c m) (n : Int) : Calls Try.prog 26 #[.pointer (some ⟨g, 0, none⟩), .int .i64 n] w fun en w' => ∃ A' c', en = .returned (.slice A' (c.wordsV n).length c') ∧ (c.wordsV n).length ≤ c' ∧ (∀ W', Kept w' W' (fun k => k = g ∨ k = gm ∨ k = gr) → Kd.C (Kd.int .u16) W' A' (c.wordsV n).length (c.wordsV n)) ∧ St w0 gr g gm w' (c.wordsS n) m := by
  obtain ⟨cx, a1, a2⟩ := h.cx
  have lm := blk_lt a1
  have lr := blk_lt h.res
  have hc := h.cur
  refine (q_words hc n).mono ?_
  rintro en w' ⟨A', c', rfl, b1, b2, b3, b4⟩
  refine ⟨A', c', rfl, b1, fun W' hk => (b2.on (hk.mono fun j hj => ?_)).now, h.upd b4 b3⟩
  have lg := QAt.lt hc
  rcases hj with rfl | rfl | rfl <;> exact .inl (by omega)
theorem St.word (h : St w0 gr g gm w c m) : Calls Try.prog 27 #[.pointer (some ⟨g, 0, none⟩)] w fun en w' => en = .returned (.int .u16 c.wordV) ∧ St w0 gr g gm w' c.wordS m := by
  have hc := h.cur
  refine (q_word hc).mono ?_
  rintro en w' ⟨rfl, b1, b2⟩
  exact ⟨rfl, h.upd b2 b1⟩
theorem St.need (h : St w0 gr g gm w c m) (ok : Bool) (f : Int) : Calls Try.prog 25 #[.pointer (some ⟨g, 0, none⟩), .bool ok, .int .i64 f] w fun en w' => en = .returned (.tuple #[]) ∧ St w0 gr g gm w' (c.need ok f) m := by
  have hc := h.cur
  refine (q_need hc ok f).mono ?_
  rintro en w' ⟨rfl, b1, b2⟩
  exact ⟨rfl, h.upd b2 b1⟩
theorem St.fin (h : St w0 gr g gm w c m) : Calls Try.prog 29 #[.pointer (some ⟨g, 0, none⟩)] w fun en w' => en = .returned (.tuple #[]) ∧ St w0 gr g gm w' c.fin m := by
  have hc := h.cur
  refine (q_end hc).mono ?_
  rintro en w' ⟨rfl, b1, b2⟩
  exact ⟨rfl, h.upd b2 b1⟩
theorem St.put (h : St w0 gr g gm w c m) (i : Nat) (v : Value) (hi : i ≠ 15 ∧ i ≠ 21) (hm : ∀ W' cx, Kept w W' (fun k => k = g ∨ k = gm ∨ k = gr) → IsMsg W' cx m → IsMsg W' (cx.setIfInBounds i v) m') : St w0 gr g gm (w.setCell ⟨gm, i, none⟩ v) c m' := by
  obtain ⟨cx, a1, a2⟩ := h.cx
  have hk : Kept w (w.setCell ⟨gm, i, none⟩ v) (fun k => k = gm) := (Kept.refl w (fun k => k = gm)).setCell (p := ⟨gm, i, none⟩) (.inl rfl) v
  refine ⟨below_set h.b h.h1.2.1, ?_, ⟨_, blk_put a1 i v rfl, fun W' k => ?_⟩, blk_kept h.res hk h.h2.2.2, h.h1, h.h2, by obtain ⟨cy, n1, n2⟩ := h.nl; exact ⟨_, blk_put n1 i v rfl, n2.set hi⟩⟩
  · exact h.cur.on hk (fun k e => by rw [e]; exact h.h1.2.1) (fun e => h.h2.1 e.symm)
  · have k2 : Kept w W' (fun k => k = g ∨ k = gm ∨ k = gr) := (hk.mono fun j hj => .inr (.inl hj)).then_ k (fun j hj => .inl hj)
    exact hm W' cx k2 (a2 W' k2)
theorem St.put_addr (h : St w0 gr g gm w c m) {v : Int} (hv : 0 ≤ v ∧ v < 65536) : St w0 gr g gm (w.setCell ⟨gm, 2, none⟩ (.int .u16 v)) c { m with addr := v } :=
  h.put 2 _ (by decide) fun W' cx _ hm => set_addr hm hv
theorem St.put_count (h : St w0 gr g gm w c m) {v : Int} (hv : 0 ≤ v ∧ v < 65536) : St w0 gr g gm (w.setCell ⟨gm, 3, none⟩ (.int .u16 v)) c { m with count := v } :=
  h.put 3 _ (by decide) fun W' cx _ hm => set_count hm hv
theorem St.put_value (h : St w0 gr g gm w c m) {v : Int} (hv : 0 ≤ v ∧ v < 65536) : St w0 gr g gm (w.setCell ⟨gm, 4, none⟩ (.int .u16 v)) c { m with value := v } :=
  h.put 4 _ (by decide) fun W' cx _ hm => set_value hm hv
theorem St.put_and (h : St w0 gr g gm w c m) {v : Int} (hv : 0 ≤ v ∧ v < 65536) : St w0 gr g gm (w.setCell ⟨gm, 5, none⟩ (.int .u16 v)) c { m with and_ := v } :=
  h.put 5 _ (by decide) fun W' cx _ hm => set_and hm hv
theorem St.put_or (h : St w0 gr g gm w c m) {v : Int} (hv : 0 ≤ v ∧ v < 65536) : St w0 gr g gm (w.setCell ⟨gm, 6, none⟩ (.int .u16 v)) c { m with or_ := v } :=
  h.put 6 _ (by decide) fun W' cx _ hm => set_or hm hv
theorem St.put_addr2 (h : St w0 gr g gm w c m) {v : Int} (hv : 0 ≤ v ∧ v < 65536) : St w0 gr g gm (w.setCell ⟨gm, 7, none⟩ (.int .u16 v)) c { m with addr2 := v } :=
  h.put 7 _ (by decide) fun W' cx _ hm => set_addr2 hm hv
theorem St.put_words (h : St w0 gr g gm w c m) {A : Option Addr} {n : Nat} {l : List Int} (hn : l.length ≤ n) (hg : ∀ x ∈ l, 0 ≤ x ∧ x < 65536) (hr : ∀ W', Kept w W' (fun k => k = g ∨ k = gm ∨ k = gr) → Kd.C (Kd.int .u16) W' A l.length l) : St w0 gr g gm (w.setCell ⟨gm, 12, none⟩ (.slice A l.length n)) c { m with words := l } :=
  h.put 12 _ (by decide) fun W' cx k hm => set_words hm hn hg (hr W' k)
theorem St.at_addr (h : St w0 gr g gm w c m) : w.cell? ⟨gm, 2, none⟩ = some (.int .u16 m.addr) ∧ w.frozen? ⟨gm, 2, none⟩ = false := by
  obtain ⟨cx, a1, a2⟩ := h.cx
  exact ⟨bx_addr a1 (a2 w (Kept.refl _ _)), blk_frozen a1 2⟩
theorem St.at_count (h : St w0 gr g gm w c m) : w.cell? ⟨gm, 3, none⟩ = some (.int .u16 m.count) ∧ w.frozen? ⟨gm, 3, none⟩ = false := by
  obtain ⟨cx, a1, a2⟩ := h.cx
  exact ⟨bx_count a1 (a2 w (Kept.refl _ _)), blk_frozen a1 3⟩
theorem St.at_value (h : St w0 gr g gm w c m) : w.cell? ⟨gm, 4, none⟩ = some (.int .u16 m.value) ∧ w.frozen? ⟨gm, 4, none⟩ = false := by
  obtain ⟨cx, a1, a2⟩ := h.cx
  exact ⟨bx_value a1 (a2 w (Kept.refl _ _)), blk_frozen a1 4⟩
theorem St.at_and (h : St w0 gr g gm w c m) : w.cell? ⟨gm, 5, none⟩ = some (.int .u16 m.and_) ∧ w.frozen? ⟨gm, 5, none⟩ = false := by
  obtain ⟨cx, a1, a2⟩ := h.cx
  exact ⟨bx_and a1 (a2 w (Kept.refl _ _)), blk_frozen a1 5⟩
theorem St.at_or (h : St w0 gr g gm w c m) : w.cell? ⟨gm, 6, none⟩ = some (.int .u16 m.or_) ∧ w.frozen? ⟨gm, 6, none⟩ = false := by
  obtain ⟨cx, a1, a2⟩ := h.cx
  exact ⟨bx_or a1 (a2 w (Kept.refl _ _)), blk_frozen a1 6⟩
theorem St.at_addr2 (h : St w0 gr g gm w c m) : w.cell? ⟨gm, 7, none⟩ = some (.int .u16 m.addr2) ∧ w.frozen? ⟨gm, 7, none⟩ = false := by
  obtain ⟨cx, a1, a2⟩ := h.cx
  exact ⟨bx_addr2 a1 (a2 w (Kept.refl _ _)), blk_frozen a1 7⟩
theorem St.at_words (h : St w0 gr g gm w c m) : ∃ A n, w.cell? ⟨gm, 12, none⟩ = some (.slice A m.words.length n) ∧ w.frozen? ⟨gm, 12, none⟩ = false := by
  obtain ⟨cx, a1, a2⟩ := h.cx
  obtain ⟨A12, c12, A13, c13, A14, c14, A15, c15, A21, c21, l, _⟩ := (a2 w (Kept.refl _ _)).lists
  exact ⟨A12, c12, (blk_cell a1 12).trans l.1, blk_frozen a1 12⟩
theorem St.held (h : St w0 gr g gm w c m) : Held w0 [(gr, zeroC)] w := ⟨h.b, fun p hp => by obtain rfl := List.mem_singleton.1 hp; exact ⟨h.h1.2.2, h.res⟩, List.pairwise_singleton _ _⟩
theorem St.held2 (h : St w0 gr g gm w c m) : ∃ cx, Held w0 [(gr, zeroC), (gm, cx)] w ∧ cx.size = 22 ∧ ∀ w', Up1 gr w w' → IsMsg w' cx m := by
  obtain ⟨cx, a1, a2⟩ := h.cx
  refine ⟨cx, ⟨h.b, fun p hp => ?_, ?_⟩, (a2 w (Kept.refl _ _)).size, fun w' hu => a2 w' (hu.kept.mono fun j hj => .inr (.inr hj))⟩
  · rcases List.mem_cons.1 hp with rfl | hp
    · exact ⟨h.h1.2.2, h.res⟩
    · obtain rfl := List.mem_singleton.1 hp
      exact ⟨h.h1.2.1, a1⟩
  · refine List.pairwise_cons.2 ⟨fun q hq => ?_, List.pairwise_singleton _ _⟩
    obtain rfl := List.mem_singleton.1 hq
    exact h.h2.2.2
end
theorem zero_nil : NilL zeroC := by
  intro i A n hi e
  rcases hi with rfl | rfl <;> exact ⟨(Value.slice.inj (Option.some.inj e)).1.symm, (Value.slice.inj (Option.some.inj e)).2.2.symm⟩
theorem ev_cur {ops : Array Oper} {rest : List Oper} {o : Oper} {a : Act} {w : World} {Q : Exit → Act → World → Prop} {A : Option Addr} {n c : Nat} {y : Operand} (ho : o.op = .box 55 y) (hgd : o.guard = none) (hy : a.eval y = .agg #[.slice A n c, .int .i64 0, .bool false, .int .i64 0])
    (h : ∀ g w1, g = w.heap.size → w1 = w.alloc (.cells #[.slice A n c, .int .i64 0, .bool false, .int .i64 0] 55) → wpList Try.prog ops Q rest (a.put o.dst (.pointer (some ⟨g, 0, none⟩))) w1) : wpList Try.prog ops Q (o :: rest) a w := by
  refine Kd.event_run hgd ?_ (h _ _ rfl rfl)
  unfold execOp
  rw [ho]
  simp only [hy]
  rfl
structure Nw (w0 : World) (gr g : Nat) (w : World) (c : Cu) : Prop where
  b : Below w0.heap.size w0 w
  cur : QAt w0.heap.size w g c
  res : w.heap[gr]? = some (.cells zeroC 30 (0, 0))
  h1 : w0.heap.size ≤ g ∧ w0.heap.size ≤ gr
  h2 : gr ≠ g
theorem Nw.first {w0 w1 w2 : World} {gr g : Nat} {A : Option Addr} {n : Nat} {l : List Int} (hr : Kd.C (Kd.int .u8) w0 A l.length l) (hc : l.length ≤ n) (hs : l.length ≤ 1000000) (hbb : isBytes l) (hg : gr = w0.heap.size) (hk : w1.heap[gr]? = some (.cells zeroC 30 (0, 0))) (hb : Below w0.heap.size w0 w1)
    (h1 : g = w1.heap.size) (h2 : w2 = w1.alloc (.cells #[.slice A l.length n, .int .i64 0, .bool false, .int .i64 0] 55)) : Nw w0 gr g w2 ⟨l, false, 0⟩ := by
  have hrow : Row 0 w0.heap.size w0 A l := Kd.C_kept_came (Kd.heap_int .u8) hr (Below.refl _ _) (fun k hk => by omega)
  have hl := blk_lt hk
  have hq := q_new hrow hc hs hbb (W := w1) (Kept.of_below hb _)
  have hb2 : Below w1.heap.size w1 w2 := by rw [h2]; exact below_alloc (Below.refl _ _) _
  exact ⟨hb.trans (hb2.mono hb.size), by rw [h1, h2]; exact hq, blk_below hk hb2, ⟨by rw [h1]; exact hb.size, by omega⟩, by omega⟩
theorem Nw.new {w0 w w' : World} {gr g gm : Nat} {c : Cu} {m : Msg} {cx : Array Value} (h : Nw w0 gr g w c) (hg : gm = w.heap.size) (hk : w'.heap[gm]? = some (.cells cx 30 (0, 0))) (hb : Below w.heap.size w w') (M : ∀ W, IsMsg W cx m) (nl : NilL cx) : St w0 gr g gm w' c m := by
  have lg := QAt.lt h.cur
  have lr := blk_lt h.res
  exact ⟨h.b.trans (hb.mono h.b.size), h.cur.on (S := fun _ => False) (Kept.of_below hb _) (fun _ h => h.elim) (fun h => h), ⟨cx, hk, fun W' _ => M W'⟩, blk_below h.res hb, ⟨h.h1.1, by have := h.b.size; omega, h.h1.2⟩, ⟨by omega, h.h2, by omega⟩, ⟨cx, hk, nl⟩⟩
theorem St.blk {w0 w : World} {gr g gm : Nat} {c : Cu} {m : Msg} (h : St w0 gr g gm w c m) : ∃ v0 v1 v2, w.heap[g]? = some (.cells #[v0, v1, v2, .int .i64 c.e] 55 (0, 0)) := by
  obtain ⟨all, n, ⟨_, _, _, A, k, a1, _⟩, _⟩ := h.cur
  exact ⟨_, _, _, a1⟩
end Go.Proofs.Ytmglilncdffbkaa.QS
end
