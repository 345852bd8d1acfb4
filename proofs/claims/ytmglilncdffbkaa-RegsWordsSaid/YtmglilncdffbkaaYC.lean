/- What the laws of this chapter rest on, part 3: what the functions that they reach answer, each shown once. Conditions: what each theorem states. (Merged by a program of this session, wip/tools/merge.py, out of its own texts and of the words that the kit's print wrote for this seat, cut to those that are used.) -/
import Derived.Laws.EntriesVeiled
import Derived.Test.YtmglilncdffbkaaYB
set_option linter.unusedVariables false
set_option linter.unusedSimpArgs false
set_option maxHeartbeats 16000000
set_option maxRecDepth 100000
section
namespace Go.Proofs.Ytmglilncdffbkaa.Reg
open Go.RowKit Go.Proofs.Ytmglilncdffbkaa.P Go.Proofs.Ytmglilncdffbkaa.E Go.Proofs.Ytmglilncdffbkaa.Cur Go.Proofs.Ytmglilncdffbkaa.Cu Go.Proofs.Ytmglilncdffbkaa.Same Go.Proofs.YtmglilncdffbkaaW.PrintWords Go.Proofs.YtmglilncdffbkaaW.PrintLast Go.Proofs.YtmglilncdffbkaaW.PrintMore
theorem eq_func (fn : Fn) (first cap : Array Value) (w : World) : (binOp .eql 1 (.func fn first cap) .nilFunc).run Try.prog w = .ok (.bool false) w := by kernel_rfl
theorem eq_nilf (w : World) : (binOp .eql 1 .nilFunc .nilFunc).run Try.prog w = .ok (.bool true) w := by kernel_rfl
theorem form_0_no {code : Int} (hk : ¬ isCode code) {w : World} {g gm : Nat} (kc : w.cell? ⟨gm, 0, none⟩ = some (.int .u8 code)) :
    Calls Try.prog 21 #[.int .i64 0, .pointer (some ⟨gm, 0, none⟩), .pointer (some ⟨g, 0, none⟩)] w fun en w' => ∃ a4 a5 a7 a8 : Nat, en = .returned (.nilFunc) ∧ (w'.cell? ⟨a4, 0, none⟩ = some (.pointer (some ⟨gm, 0, none⟩)) ∧ w'.cell? ⟨a5, 0, none⟩ = some (.pointer (some ⟨g, 0, none⟩)) ∧ w'.cell? ⟨a7, 0, none⟩ = some (.func (.func 36) #[] #[.pointer (some ⟨a5, 0, none⟩), .pointer (some ⟨a4, 0, none⟩)]) ∧ w'.cell? ⟨a8, 0, none⟩ = some (.bool true)) ∧ w.heap.size ≤ a4 ∧ w.heap.size ≤ a5 ∧ w.heap.size ≤ a7 ∧ w.heap.size ≤ a8 ∧ Below w.heap.size w w' := by
  have KC := Aside0.mk kc
  have HB := Aside0.mk (Below.refl w.heap.size w)
  have b3 : (code == 3) = false := beq_eq_false_iff_ne.2 (fun e => hk (by unfold isCode; omega))
  have b4 : (code == 4) = false := beq_eq_false_iff_ne.2 (fun e => hk (by unfold isCode; omega))
  have b6 : (code == 6) = false := beq_eq_false_iff_ne.2 (fun e => hk (by unfold isCode; omega))
  have b16 : (code == 16) = false := beq_eq_false_iff_ne.2 (fun e => hk (by unfold isCode; omega))
  have b22 : (code == 22) = false := beq_eq_false_iff_ne.2 (fun e => hk (by unfold isCode; omega))
  have b23 : (code == 23) = false := beq_eq_false_iff_ne.2 (fun e => hk (by unfold isCode; omega))
  have b24 : (code == 24) = false := beq_eq_false_iff_ne.2 (fun e => hk (by unfold isCode; omega))
  clear kc hk
  have hmf : ∀ (fn : Fn) (first cap : Array Value) (w : World), (Instr.makeFunc fn first cap).run Try.prog w = .ok (.func fn first cap) w := fun _ _ _ _ => rfl
  go_enter Try.func21, Try.ntmps21
  go_upto_region 1 with (first | ((with_reducible refine gate_dst (N := 4) rfl ?_); refine box_event ?hg (N := 4) ?hd (cs := #[.pointer (some ⟨gm, 0, none⟩)]) (t := 51) ?hr ?_; (case hd => rfl); (case hg => rfl); (case hr => first | (go_simp; done) | (go_simp; rfl)); intro a4 hg_ w4 h1_ hb_; have K4 := Aside0.mk h1_; have L4 := Aside0.mk (show w.heap.size ≤ a4 from by rw [hg_]; exact HB.out.size); have n0_ := Aside0.mk (HB.out.trans (hb_.mono HB.out.size)); clear HB hb_ h1_ hg_; have HB := n0_; clear n0_) | ((with_reducible refine gate_dst (N := 5) rfl ?_); refine box_event ?hg (N := 5) ?hd (cs := #[.pointer (some ⟨g, 0, none⟩)]) (t := 48) ?hr ?_; (case hd => rfl); (case hg => rfl); (case hr => first | (go_simp; done) | (go_simp; rfl)); intro a5 hg_ w5 h1_ hb_; have K5 := Aside0.mk h1_; have L5 := Aside0.mk (show w.heap.size ≤ a5 from by rw [hg_]; exact HB.out.size); have n0_ := Aside0.mk (blk_below K4.out hb_); clear K4; have K4 := n0_; clear n0_; have n0_ := Aside0.mk (HB.out.trans (hb_.mono HB.out.size)); clear HB hb_ h1_ hg_; have HB := n0_; clear n0_))
  go_upto_region 3 with (fail)
  clear hmf
  have B8 := Aside0.mk (((Below.refl w5.heap.size w5).alloc (Nat.le_refl _) (.cells #[.func (.func 36) #[] #[.pointer (some ⟨a5, 0, none⟩), .pointer (some ⟨a4, 0, none⟩)]] 73 (0, 0))).alloc (by rw [World.size_alloc]; omega) (.cells #[.bool true] 4 (0, 0)))
  have k4 : ((w5.alloc (.cells #[.func (.func 36) #[] #[.pointer (some ⟨a5, 0, none⟩), .pointer (some ⟨a4, 0, none⟩)]] 73 (0, 0))).alloc (.cells #[.bool true] 4 (0, 0))).cell? ⟨a4, 0, none⟩ = some (.pointer (some ⟨gm, 0, none⟩)) := (blk_cell (blk_below K4.out B8.out) 0).trans rfl
  have k5 : ((w5.alloc (.cells #[.func (.func 36) #[] #[.pointer (some ⟨a5, 0, none⟩), .pointer (some ⟨a4, 0, none⟩)]] 73 (0, 0))).alloc (.cells #[.bool true] 4 (0, 0))).cell? ⟨a5, 0, none⟩ = some (.pointer (some ⟨g, 0, none⟩)) := (blk_cell (blk_below K5.out B8.out) 0).trans rfl
  have k7 : ((w5.alloc (.cells #[.func (.func 36) #[] #[.pointer (some ⟨a5, 0, none⟩), .pointer (some ⟨a4, 0, none⟩)]] 73 (0, 0))).alloc (.cells #[.bool true] 4 (0, 0))).cell? ⟨w5.heap.size, 0, none⟩ = some (.func (.func 36) #[] #[.pointer (some ⟨a5, 0, none⟩), .pointer (some ⟨a4, 0, none⟩)]) := (blk_cell (blk_below (blk_new w5 (.cells #[.func (.func 36) #[] #[.pointer (some ⟨a5, 0, none⟩), .pointer (some ⟨a4, 0, none⟩)]] 73 (0, 0))) (below_alloc (Below.refl _ _) _)) 0).trans rfl
  have k8 : ((w5.alloc (.cells #[.func (.func 36) #[] #[.pointer (some ⟨a5, 0, none⟩), .pointer (some ⟨a4, 0, none⟩)]] 73 (0, 0))).alloc (.cells #[.bool true] 4 (0, 0))).cell? ⟨(w5.heap.size + 1), 0, none⟩ = some (.bool true) := (blk_cell (show ((w5.alloc (.cells #[.func (.func 36) #[] #[.pointer (some ⟨a5, 0, none⟩), .pointer (some ⟨a4, 0, none⟩)]] 73 (0, 0))).alloc (.cells #[.bool true] 4 (0, 0))).heap[w5.heap.size + 1]? = some (.cells #[.bool true] 4 (0, 0)) from by have h := blk_new (w5.alloc (.cells #[.func (.func 36) #[] #[.pointer (some ⟨a5, 0, none⟩), .pointer (some ⟨a4, 0, none⟩)]] 73 (0, 0))) (.cells #[.bool true] 4 (0, 0)); rw [World.size_alloc] at h; exact h) 0).trans rfl
  have HB8 := Aside0.mk (HB.out.trans (B8.out.mono HB.out.size))
  have kcc : ((w5.alloc (.cells #[.func (.func 36) #[] #[.pointer (some ⟨a5, 0, none⟩), .pointer (some ⟨a4, 0, none⟩)]] 73 (0, 0))).alloc (.cells #[.bool true] 4 (0, 0))).cell? ⟨gm, 0, none⟩ = some (.int .u8 code) := (HB8.out.cell (World.block_lt_of_cell? _ _ KC.out)).trans KC.out
  have hmf : ∀ (fn : Fn) (first cap : Array Value) (w : World), (Instr.makeFunc fn first cap).run Try.prog w = .ok (.func fn first cap) w := fun _ _ _ _ => rfl
  go_wp2
  go_ret
  exact ⟨a4, a5, w5.heap.size, (w5.heap.size + 1), rfl, ⟨k4, k5, k7, k8⟩, L4.out, L5.out, HB.out.size, Nat.le_succ_of_le HB.out.size, HB8.out⟩
theorem form_0_3 {w : World} {g gm : Nat} (kc : w.cell? ⟨gm, 0, none⟩ = some (.int .u8 3)) :
    Calls Try.prog 21 #[.int .i64 0, .pointer (some ⟨gm, 0, none⟩), .pointer (some ⟨g, 0, none⟩)] w fun en w' => ∃ a4 a5 a7 a8 : Nat, en = .returned (.func (.func 39) #[] #[.pointer (some ⟨a7, 0, none⟩)]) ∧ (w'.cell? ⟨a4, 0, none⟩ = some (.pointer (some ⟨gm, 0, none⟩)) ∧ w'.cell? ⟨a5, 0, none⟩ = some (.pointer (some ⟨g, 0, none⟩)) ∧ w'.cell? ⟨a7, 0, none⟩ = some (.func (.func 36) #[] #[.pointer (some ⟨a5, 0, none⟩), .pointer (some ⟨a4, 0, none⟩)]) ∧ w'.cell? ⟨a8, 0, none⟩ = some (.bool true)) ∧ w.heap.size ≤ a4 ∧ w.heap.size ≤ a5 ∧ w.heap.size ≤ a7 ∧ w.heap.size ≤ a8 ∧ Below w.heap.size w w' := by
  have KC := Aside0.mk kc
  have HB := Aside0.mk (Below.refl w.heap.size w)
  clear kc
  have hmf : ∀ (fn : Fn) (first cap : Array Value) (w : World), (Instr.makeFunc fn first cap).run Try.prog w = .ok (.func fn first cap) w := fun _ _ _ _ => rfl
  go_enter Try.func21, Try.ntmps21
  go_upto_region 1 with (first | ((with_reducible refine gate_dst (N := 4) rfl ?_); refine box_event ?hg (N := 4) ?hd (cs := #[.pointer (some ⟨gm, 0, none⟩)]) (t := 51) ?hr ?_; (case hd => rfl); (case hg => rfl); (case hr => first | (go_simp; done) | (go_simp; rfl)); intro a4 hg_ w4 h1_ hb_; have K4 := Aside0.mk h1_; have L4 := Aside0.mk (show w.heap.size ≤ a4 from by rw [hg_]; exact HB.out.size); have n0_ := Aside0.mk (HB.out.trans (hb_.mono HB.out.size)); clear HB hb_ h1_ hg_; have HB := n0_; clear n0_) | ((with_reducible refine gate_dst (N := 5) rfl ?_); refine box_event ?hg (N := 5) ?hd (cs := #[.pointer (some ⟨g, 0, none⟩)]) (t := 48) ?hr ?_; (case hd => rfl); (case hg => rfl); (case hr => first | (go_simp; done) | (go_simp; rfl)); intro a5 hg_ w5 h1_ hb_; have K5 := Aside0.mk h1_; have L5 := Aside0.mk (show w.heap.size ≤ a5 from by rw [hg_]; exact HB.out.size); have n0_ := Aside0.mk (blk_below K4.out hb_); clear K4; have K4 := n0_; clear n0_; have n0_ := Aside0.mk (HB.out.trans (hb_.mono HB.out.size)); clear HB hb_ h1_ hg_; have HB := n0_; clear n0_))
  go_upto_region 3 with (fail)
  clear hmf
  have B8 := Aside0.mk (((Below.refl w5.heap.size w5).alloc (Nat.le_refl _) (.cells #[.func (.func 36) #[] #[.pointer (some ⟨a5, 0, none⟩), .pointer (some ⟨a4, 0, none⟩)]] 73 (0, 0))).alloc (by rw [World.size_alloc]; omega) (.cells #[.bool true] 4 (0, 0)))
  have k4 : ((w5.alloc (.cells #[.func (.func 36) #[] #[.pointer (some ⟨a5, 0, none⟩), .pointer (some ⟨a4, 0, none⟩)]] 73 (0, 0))).alloc (.cells #[.bool true] 4 (0, 0))).cell? ⟨a4, 0, none⟩ = some (.pointer (some ⟨gm, 0, none⟩)) := (blk_cell (blk_below K4.out B8.out) 0).trans rfl
  have k5 : ((w5.alloc (.cells #[.func (.func 36) #[] #[.pointer (some ⟨a5, 0, none⟩), .pointer (some ⟨a4, 0, none⟩)]] 73 (0, 0))).alloc (.cells #[.bool true] 4 (0, 0))).cell? ⟨a5, 0, none⟩ = some (.pointer (some ⟨g, 0, none⟩)) := (blk_cell (blk_below K5.out B8.out) 0).trans rfl
  have k7 : ((w5.alloc (.cells #[.func (.func 36) #[] #[.pointer (some ⟨a5, 0, none⟩), .pointer (some ⟨a4, 0, none⟩)]] 73 (0, 0))).alloc (.cells #[.bool true] 4 (0, 0))).cell? ⟨w5.heap.size, 0, none⟩ = some (.func (.func 36) #[] #[.pointer (some ⟨a5, 0, none⟩), .pointer (some ⟨a4, 0, none⟩)]) := (blk_cell (blk_below (blk_new w5 (.cells #[.func (.func 36) #[] #[.pointer (some ⟨a5, 0, none⟩), .pointer (some ⟨a4, 0, none⟩)]] 73 (0, 0))) (below_alloc (Below.refl _ _) _)) 0).trans rfl
  have k8 : ((w5.alloc (.cells #[.func (.func 36) #[] #[.pointer (some ⟨a5, 0, none⟩), .pointer (some ⟨a4, 0, none⟩)]] 73 (0, 0))).alloc (.cells #[.bool true] 4 (0, 0))).cell? ⟨(w5.heap.size + 1), 0, none⟩ = some (.bool true) := (blk_cell (show ((w5.alloc (.cells #[.func (.func 36) #[] #[.pointer (some ⟨a5, 0, none⟩), .pointer (some ⟨a4, 0, none⟩)]] 73 (0, 0))).alloc (.cells #[.bool true] 4 (0, 0))).heap[w5.heap.size + 1]? = some (.cells #[.bool true] 4 (0, 0)) from by have h := blk_new (w5.alloc (.cells #[.func (.func 36) #[] #[.pointer (some ⟨a5, 0, none⟩), .pointer (some ⟨a4, 0, none⟩)]] 73 (0, 0))) (.cells #[.bool true] 4 (0, 0)); rw [World.size_alloc] at h; exact h) 0).trans rfl
  have HB8 := Aside0.mk (HB.out.trans (B8.out.mono HB.out.size))
  have kcc : ((w5.alloc (.cells #[.func (.func 36) #[] #[.pointer (some ⟨a5, 0, none⟩), .pointer (some ⟨a4, 0, none⟩)]] 73 (0, 0))).alloc (.cells #[.bool true] 4 (0, 0))).cell? ⟨gm, 0, none⟩ = some (.int .u8 3) := (HB8.out.cell (World.block_lt_of_cell? _ _ KC.out)).trans KC.out
  have hmf : ∀ (fn : Fn) (first cap : Array Value) (w : World), (Instr.makeFunc fn first cap).run Try.prog w = .ok (.func fn first cap) w := fun _ _ _ _ => rfl
  go_wp2
  go_ret
  exact ⟨a4, a5, w5.heap.size, (w5.heap.size + 1), rfl, ⟨k4, k5, k7, k8⟩, L4.out, L5.out, HB.out.size, Nat.le_succ_of_le HB.out.size, HB8.out⟩
theorem form_0_4 {w : World} {g gm : Nat} (kc : w.cell? ⟨gm, 0, none⟩ = some (.int .u8 4)) :
    Calls Try.prog 21 #[.int .i64 0, .pointer (some ⟨gm, 0, none⟩), .pointer (some ⟨g, 0, none⟩)] w fun en w' => ∃ a4 a5 a7 a8 : Nat, en = .returned (.func (.func 39) #[] #[.pointer (some ⟨a7, 0, none⟩)]) ∧ (w'.cell? ⟨a4, 0, none⟩ = some (.pointer (some ⟨gm, 0, none⟩)) ∧ w'.cell? ⟨a5, 0, none⟩ = some (.pointer (some ⟨g, 0, none⟩)) ∧ w'.cell? ⟨a7, 0, none⟩ = some (.func (.func 36) #[] #[.pointer (some ⟨a5, 0, none⟩), .pointer (some ⟨a4, 0, none⟩)]) ∧ w'.cell? ⟨a8, 0, none⟩ = some (.bool true)) ∧ w.heap.size ≤ a4 ∧ w.heap.size ≤ a5 ∧ w.heap.size ≤ a7 ∧ w.heap.size ≤ a8 ∧ Below w.heap.size w w' := by
  have KC := Aside0.mk kc
  have HB := Aside0.mk (Below.refl w.heap.size w)
  clear kc
  have hmf : ∀ (fn : Fn) (first cap : Array Value) (w : World), (Instr.makeFunc fn first cap).run Try.prog w = .ok (.func fn first cap) w := fun _ _ _ _ => rfl
  go_enter Try.func21, Try.ntmps21
  go_upto_region 1 with (first | ((with_reducible refine gate_dst (N := 4) rfl ?_); refine box_event ?hg (N := 4) ?hd (cs := #[.pointer (some ⟨gm, 0, none⟩)]) (t := 51) ?hr ?_; (case hd => rfl); (case hg => rfl); (case hr => first | (go_simp; done) | (go_simp; rfl)); intro a4 hg_ w4 h1_ hb_; have K4 := Aside0.mk h1_; have L4 := Aside0.mk (show w.heap.size ≤ a4 from by rw [hg_]; exact HB.out.size); have n0_ := Aside0.mk (HB.out.trans (hb_.mono HB.out.size)); clear HB hb_ h1_ hg_; have HB := n0_; clear n0_) | ((with_reducible refine gate_dst (N := 5) rfl ?_); refine box_event ?hg (N := 5) ?hd (cs := #[.pointer (some ⟨g, 0, none⟩)]) (t := 48) ?hr ?_; (case hd => rfl); (case hg => rfl); (case hr => first | (go_simp; done) | (go_simp; rfl)); intro a5 hg_ w5 h1_ hb_; have K5 := Aside0.mk h1_; have L5 := Aside0.mk (show w.heap.size ≤ a5 from by rw [hg_]; exact HB.out.size); have n0_ := Aside0.mk (blk_below K4.out hb_); clear K4; have K4 := n0_; clear n0_; have n0_ := Aside0.mk (HB.out.trans (hb_.mono HB.out.size)); clear HB hb_ h1_ hg_; have HB := n0_; clear n0_))
  go_upto_region 3 with (fail)
  clear hmf
  have B8 := Aside0.mk (((Below.refl w5.heap.size w5).alloc (Nat.le_refl _) (.cells #[.func (.func 36) #[] #[.pointer (some ⟨a5, 0, none⟩), .pointer (some ⟨a4, 0, none⟩)]] 73 (0, 0))).alloc (by rw [World.size_alloc]; omega) (.cells #[.bool true] 4 (0, 0)))
  have k4 : ((w5.alloc (.cells #[.func (.func 36) #[] #[.pointer (some ⟨a5, 0, none⟩), .pointer (some ⟨a4, 0, none⟩)]] 73 (0, 0))).alloc (.cells #[.bool true] 4 (0, 0))).cell? ⟨a4, 0, none⟩ = some (.pointer (some ⟨gm, 0, none⟩)) := (blk_cell (blk_below K4.out B8.out) 0).trans rfl
  have k5 : ((w5.alloc (.cells #[.func (.func 36) #[] #[.pointer (some ⟨a5, 0, none⟩), .pointer (some ⟨a4, 0, none⟩)]] 73 (0, 0))).alloc (.cells #[.bool true] 4 (0, 0))).cell? ⟨a5, 0, none⟩ = some (.pointer (some ⟨g, 0, none⟩)) := (blk_cell (blk_below K5.out B8.out) 0).trans rfl
  have k7 : ((w5.alloc (.cells #[.func (.func 36) #[] #[.pointer (some ⟨a5, 0, none⟩), .pointer (some ⟨a4, 0, none⟩)]] 73 (0, 0))).alloc (.cells #[.bool true] 4 (0, 0))).cell? ⟨w5.heap.size, 0, none⟩ = some (.func (.func 36) #[] #[.pointer (some ⟨a5, 0, none⟩), .pointer (some ⟨a4, 0, none⟩)]) := (blk_cell (blk_below (blk_new w5 (.cells #[.func (.func 36) #[] #[.pointer (some ⟨a5, 0, none⟩), .pointer (some ⟨a4, 0, none⟩)]] 73 (0, 0))) (below_alloc (Below.refl _ _) _)) 0).trans rfl
  have k8 : ((w5.alloc (.cells #[.func (.func 36) #[] #[.pointer (some ⟨a5, 0, none⟩), .pointer (some ⟨a4, 0, none⟩)]] 73 (0, 0))).alloc (.cells #[.bool true] 4 (0, 0))).cell? ⟨(w5.heap.size + 1), 0, none⟩ = some (.bool true) := (blk_cell (show ((w5.alloc (.cells #[.func (.func 36) #[] #[.pointer (some ⟨a5, 0, none⟩), .pointer (some ⟨a4, 0, none⟩)]] 73 (0, 0))).alloc (.cells #[.bool true] 4 (0, 0))).heap[w5.heap.size + 1]? = some (.cells #[.bool true] 4 (0, 0)) from by have h := blk_new (w5.alloc (.cells #[.func (.func 36) #[] #[.pointer (some ⟨a5, 0, none⟩), .pointer (some ⟨a4, 0, none⟩)]] 73 (0, 0))) (.cells #[.bool true] 4 (0, 0)); rw [World.size_alloc] at h; exact h) 0).trans rfl
  have HB8 := Aside0.mk (HB.out.trans (B8.out.mono HB.out.size))
  have kcc : ((w5.alloc (.cells #[.func (.func 36) #[] #[.pointer (some ⟨a5, 0, none⟩), .pointer (some ⟨a4, 0, none⟩)]] 73 (0, 0))).alloc (.cells #[.bool true] 4 (0, 0))).cell? ⟨gm, 0, none⟩ = some (.int .u8 4) := (HB8.out.cell (World.block_lt_of_cell? _ _ KC.out)).trans KC.out
  have hmf : ∀ (fn : Fn) (first cap : Array Value) (w : World), (Instr.makeFunc fn first cap).run Try.prog w = .ok (.func fn first cap) w := fun _ _ _ _ => rfl
  go_wp2
  go_ret
  exact ⟨a4, a5, w5.heap.size, (w5.heap.size + 1), rfl, ⟨k4, k5, k7, k8⟩, L4.out, L5.out, HB.out.size, Nat.le_succ_of_le HB.out.size, HB8.out⟩
theorem form_0_6 {w : World} {g gm : Nat} (kc : w.cell? ⟨gm, 0, none⟩ = some (.int .u8 6)) :
    Calls Try.prog 21 #[.int .i64 0, .pointer (some ⟨gm, 0, none⟩), .pointer (some ⟨g, 0, none⟩)] w fun en w' => ∃ a4 a5 a7 a8 : Nat, en = .returned (.func (.func 44) #[] #[.pointer (some ⟨a5, 0, none⟩), .pointer (some ⟨a4, 0, none⟩)]) ∧ (w'.cell? ⟨a4, 0, none⟩ = some (.pointer (some ⟨gm, 0, none⟩)) ∧ w'.cell? ⟨a5, 0, none⟩ = some (.pointer (some ⟨g, 0, none⟩)) ∧ w'.cell? ⟨a7, 0, none⟩ = some (.func (.func 36) #[] #[.pointer (some ⟨a5, 0, none⟩), .pointer (some ⟨a4, 0, none⟩)]) ∧ w'.cell? ⟨a8, 0, none⟩ = some (.bool true)) ∧ w.heap.size ≤ a4 ∧ w.heap.size ≤ a5 ∧ w.heap.size ≤ a7 ∧ w.heap.size ≤ a8 ∧ Below w.heap.size w w' := by
  have KC := Aside0.mk kc
  have HB := Aside0.mk (Below.refl w.heap.size w)
  clear kc
  have hmf : ∀ (fn : Fn) (first cap : Array Value) (w : World), (Instr.makeFunc fn first cap).run Try.prog w = .ok (.func fn first cap) w := fun _ _ _ _ => rfl
  go_enter Try.func21, Try.ntmps21
  go_upto_region 1 with (first | ((with_reducible refine gate_dst (N := 4) rfl ?_); refine box_event ?hg (N := 4) ?hd (cs := #[.pointer (some ⟨gm, 0, none⟩)]) (t := 51) ?hr ?_; (case hd => rfl); (case hg => rfl); (case hr => first | (go_simp; done) | (go_simp; rfl)); intro a4 hg_ w4 h1_ hb_; have K4 := Aside0.mk h1_; have L4 := Aside0.mk (show w.heap.size ≤ a4 from by rw [hg_]; exact HB.out.size); have n0_ := Aside0.mk (HB.out.trans (hb_.mono HB.out.size)); clear HB hb_ h1_ hg_; have HB := n0_; clear n0_) | ((with_reducible refine gate_dst (N := 5) rfl ?_); refine box_event ?hg (N := 5) ?hd (cs := #[.pointer (some ⟨g, 0, none⟩)]) (t := 48) ?hr ?_; (case hd => rfl); (case hg => rfl); (case hr => first | (go_simp; done) | (go_simp; rfl)); intro a5 hg_ w5 h1_ hb_; have K5 := Aside0.mk h1_; have L5 := Aside0.mk (show w.heap.size ≤ a5 from by rw [hg_]; exact HB.out.size); have n0_ := Aside0.mk (blk_below K4.out hb_); clear K4; have K4 := n0_; clear n0_; have n0_ := Aside0.mk (HB.out.trans (hb_.mono HB.out.size)); clear HB hb_ h1_ hg_; have HB := n0_; clear n0_))
  go_upto_region 3 with (fail)
  clear hmf
  have B8 := Aside0.mk (((Below.refl w5.heap.size w5).alloc (Nat.le_refl _) (.cells #[.func (.func 36) #[] #[.pointer (some ⟨a5, 0, none⟩), .pointer (some ⟨a4, 0, none⟩)]] 73 (0, 0))).alloc (by rw [World.size_alloc]; omega) (.cells #[.bool true] 4 (0, 0)))
  have k4 : ((w5.alloc (.cells #[.func (.func 36) #[] #[.pointer (some ⟨a5, 0, none⟩), .pointer (some ⟨a4, 0, none⟩)]] 73 (0, 0))).alloc (.cells #[.bool true] 4 (0, 0))).cell? ⟨a4, 0, none⟩ = some (.pointer (some ⟨gm, 0, none⟩)) := (blk_cell (blk_below K4.out B8.out) 0).trans rfl
  have k5 : ((w5.alloc (.cells #[.func (.func 36) #[] #[.pointer (some ⟨a5, 0, none⟩), .pointer (some ⟨a4, 0, none⟩)]] 73 (0, 0))).alloc (.cells #[.bool true] 4 (0, 0))).cell? ⟨a5, 0, none⟩ = some (.pointer (some ⟨g, 0, none⟩)) := (blk_cell (blk_below K5.out B8.out) 0).trans rfl
  have k7 : ((w5.alloc (.cells #[.func (.func 36) #[] #[.pointer (some ⟨a5, 0, none⟩), .pointer (some ⟨a4, 0, none⟩)]] 73 (0, 0))).alloc (.cells #[.bool true] 4 (0, 0))).cell? ⟨w5.heap.size, 0, none⟩ = some (.func (.func 36) #[] #[.pointer (some ⟨a5, 0, none⟩), .pointer (some ⟨a4, 0, none⟩)]) := (blk_cell (blk_below (blk_new w5 (.cells #[.func (.func 36) #[] #[.pointer (some ⟨a5, 0, none⟩), .pointer (some ⟨a4, 0, none⟩)]] 73 (0, 0))) (below_alloc (Below.refl _ _) _)) 0).trans rfl
  have k8 : ((w5.alloc (.cells #[.func (.func 36) #[] #[.pointer (some ⟨a5, 0, none⟩), .pointer (some ⟨a4, 0, none⟩)]] 73 (0, 0))).alloc (.cells #[.bool true] 4 (0, 0))).cell? ⟨(w5.heap.size + 1), 0, none⟩ = some (.bool true) := (blk_cell (show ((w5.alloc (.cells #[.func (.func 36) #[] #[.pointer (some ⟨a5, 0, none⟩), .pointer (some ⟨a4, 0, none⟩)]] 73 (0, 0))).alloc (.cells #[.bool true] 4 (0, 0))).heap[w5.heap.size + 1]? = some (.cells #[.bool true] 4 (0, 0)) from by have h := blk_new (w5.alloc (.cells #[.func (.func 36) #[] #[.pointer (some ⟨a5, 0, none⟩), .pointer (some ⟨a4, 0, none⟩)]] 73 (0, 0))) (.cells #[.bool true] 4 (0, 0)); rw [World.size_alloc] at h; exact h) 0).trans rfl
  have HB8 := Aside0.mk (HB.out.trans (B8.out.mono HB.out.size))
  have kcc : ((w5.alloc (.cells #[.func (.func 36) #[] #[.pointer (some ⟨a5, 0, none⟩), .pointer (some ⟨a4, 0, none⟩)]] 73 (0, 0))).alloc (.cells #[.bool true] 4 (0, 0))).cell? ⟨gm, 0, none⟩ = some (.int .u8 6) := (HB8.out.cell (World.block_lt_of_cell? _ _ KC.out)).trans KC.out
  have hmf : ∀ (fn : Fn) (first cap : Array Value) (w : World), (Instr.makeFunc fn first cap).run Try.prog w = .ok (.func fn first cap) w := fun _ _ _ _ => rfl
  go_wp2
  go_ret
  exact ⟨a4, a5, w5.heap.size, (w5.heap.size + 1), rfl, ⟨k4, k5, k7, k8⟩, L4.out, L5.out, HB.out.size, Nat.le_succ_of_le HB.out.size, HB8.out⟩
theorem form_0_16 {w : World} {g gm : Nat} (kc : w.cell? ⟨gm, 0, none⟩ = some (.int .u8 16)) :
    Calls Try.prog 21 #[.int .i64 0, .pointer (some ⟨gm, 0, none⟩), .pointer (some ⟨g, 0, none⟩)] w fun en w' => ∃ a4 a5 a7 a8 : Nat, en = .returned (.func (.func 45) #[] #[.pointer (some ⟨a7, 0, none⟩), .pointer (some ⟨a8, 0, none⟩), .pointer (some ⟨a5, 0, none⟩), .pointer (some ⟨a4, 0, none⟩)]) ∧ (w'.cell? ⟨a4, 0, none⟩ = some (.pointer (some ⟨gm, 0, none⟩)) ∧ w'.cell? ⟨a5, 0, none⟩ = some (.pointer (some ⟨g, 0, none⟩)) ∧ w'.cell? ⟨a7, 0, none⟩ = some (.func (.func 36) #[] #[.pointer (some ⟨a5, 0, none⟩), .pointer (some ⟨a4, 0, none⟩)]) ∧ w'.cell? ⟨a8, 0, none⟩ = some (.bool true)) ∧ w.heap.size ≤ a4 ∧ w.heap.size ≤ a5 ∧ w.heap.size ≤ a7 ∧ w.heap.size ≤ a8 ∧ Below w.heap.size w w' := by
  have KC := Aside0.mk kc
  have HB := Aside0.mk (Below.refl w.heap.size w)
  clear kc
  have hmf : ∀ (fn : Fn) (first cap : Array Value) (w : World), (Instr.makeFunc fn first cap).run Try.prog w = .ok (.func fn first cap) w := fun _ _ _ _ => rfl
  go_enter Try.func21, Try.ntmps21
  go_upto_region 1 with (first | ((with_reducible refine gate_dst (N := 4) rfl ?_); refine box_event ?hg (N := 4) ?hd (cs := #[.pointer (some ⟨gm, 0, none⟩)]) (t := 51) ?hr ?_; (case hd => rfl); (case hg => rfl); (case hr => first | (go_simp; done) | (go_simp; rfl)); intro a4 hg_ w4 h1_ hb_; have K4 := Aside0.mk h1_; have L4 := Aside0.mk (show w.heap.size ≤ a4 from by rw [hg_]; exact HB.out.size); have n0_ := Aside0.mk (HB.out.trans (hb_.mono HB.out.size)); clear HB hb_ h1_ hg_; have HB := n0_; clear n0_) | ((with_reducible refine gate_dst (N := 5) rfl ?_); refine box_event ?hg (N := 5) ?hd (cs := #[.pointer (some ⟨g, 0, none⟩)]) (t := 48) ?hr ?_; (case hd => rfl); (case hg => rfl); (case hr => first | (go_simp; done) | (go_simp; rfl)); intro a5 hg_ w5 h1_ hb_; have K5 := Aside0.mk h1_; have L5 := Aside0.mk (show w.heap.size ≤ a5 from by rw [hg_]; exact HB.out.size); have n0_ := Aside0.mk (blk_below K4.out hb_); clear K4; have K4 := n0_; clear n0_; have n0_ := Aside0.mk (HB.out.trans (hb_.mono HB.out.size)); clear HB hb_ h1_ hg_; have HB := n0_; clear n0_))
  go_upto_region 3 with (fail)
  clear hmf
  have B8 := Aside0.mk (((Below.refl w5.heap.size w5).alloc (Nat.le_refl _) (.cells #[.func (.func 36) #[] #[.pointer (some ⟨a5, 0, none⟩), .pointer (some ⟨a4, 0, none⟩)]] 73 (0, 0))).alloc (by rw [World.size_alloc]; omega) (.cells #[.bool true] 4 (0, 0)))
  have k4 : ((w5.alloc (.cells #[.func (.func 36) #[] #[.pointer (some ⟨a5, 0, none⟩), .pointer (some ⟨a4, 0, none⟩)]] 73 (0, 0))).alloc (.cells #[.bool true] 4 (0, 0))).cell? ⟨a4, 0, none⟩ = some (.pointer (some ⟨gm, 0, none⟩)) := (blk_cell (blk_below K4.out B8.out) 0).trans rfl
  have k5 : ((w5.alloc (.cells #[.func (.func 36) #[] #[.pointer (some ⟨a5, 0, none⟩), .pointer (some ⟨a4, 0, none⟩)]] 73 (0, 0))).alloc (.cells #[.bool true] 4 (0, 0))).cell? ⟨a5, 0, none⟩ = some (.pointer (some ⟨g, 0, none⟩)) := (blk_cell (blk_below K5.out B8.out) 0).trans rfl
  have k7 : ((w5.alloc (.cells #[.func (.func 36) #[] #[.pointer (some ⟨a5, 0, none⟩), .pointer (some ⟨a4, 0, none⟩)]] 73 (0, 0))).alloc (.cells #[.bool true] 4 (0, 0))).cell? ⟨w5.heap.size, 0, none⟩ = some (.func (.func 36) #[] #[.pointer (some ⟨a5, 0, none⟩), .pointer (some ⟨a4, 0, none⟩)]) := (blk_cell (blk_below (blk_new w5 (.cells #[.func (.func 36) #[] #[.pointer (some ⟨a5, 0, none⟩), .pointer (some ⟨a4, 0, none⟩)]] 73 (0, 0))) (below_alloc (Below.refl _ _) _)) 0).trans rfl
  have k8 : ((w5.alloc (.cells #[.func (.func 36) #[] #[.pointer (some ⟨a5, 0, none⟩), .pointer (some ⟨a4, 0, none⟩)]] 73 (0, 0))).alloc (.cells #[.bool true] 4 (0, 0))).cell? ⟨(w5.heap.size + 1), 0, none⟩ = some (.bool true) := (blk_cell (show ((w5.alloc (.cells #[.func (.func 36) #[] #[.pointer (some ⟨a5, 0, none⟩), .pointer (some ⟨a4, 0, none⟩)]] 73 (0, 0))).alloc (.cells #[.bool true] 4 (0, 0))).heap[w5.heap.size + 1]? = some (.cells #[.bool true] 4 (0, 0)) from by have h := blk_new (w5.alloc (.cells #[.func (.func 36) #[] #[.pointer (some ⟨a5, 0, none⟩), .pointer (some ⟨a4, 0, none⟩)]] 73 (0, 0))) (.cells #[.bool true] 4 (0, 0)); rw [World.size_alloc] at h; exact h) 0).trans rfl
  have HB8 := Aside0.mk (HB.out.trans (B8.out.mono HB.out.size))
  have kcc : ((w5.alloc (.cells #[.func (.func 36) #[] #[.pointer (some ⟨a5, 0, none⟩), .pointer (some ⟨a4, 0, none⟩)]] 73 (0, 0))).alloc (.cells #[.bool true] 4 (0, 0))).cell? ⟨gm, 0, none⟩ = some (.int .u8 16) := (HB8.out.cell (World.block_lt_of_cell? _ _ KC.out)).trans KC.out
  have hmf : ∀ (fn : Fn) (first cap : Array Value) (w : World), (Instr.makeFunc fn first cap).run Try.prog w = .ok (.func fn first cap) w := fun _ _ _ _ => rfl
  go_wp2
  go_ret
  exact ⟨a4, a5, w5.heap.size, (w5.heap.size + 1), rfl, ⟨k4, k5, k7, k8⟩, L4.out, L5.out, HB.out.size, Nat.le_succ_of_le HB.out.size, HB8.out⟩
theorem form_0_22 {w : World} {g gm : Nat} (kc : w.cell? ⟨gm, 0, none⟩ = some (.int .u8 22)) :
    Calls Try.prog 21 #[.int .i64 0, .pointer (some ⟨gm, 0, none⟩), .pointer (some ⟨g, 0, none⟩)] w fun en w' => ∃ a4 a5 a7 a8 : Nat, en = .returned (.func (.func 47) #[] #[.pointer (some ⟨a5, 0, none⟩), .pointer (some ⟨a4, 0, none⟩)]) ∧ (w'.cell? ⟨a4, 0, none⟩ = some (.pointer (some ⟨gm, 0, none⟩)) ∧ w'.cell? ⟨a5, 0, none⟩ = some (.pointer (some ⟨g, 0, none⟩)) ∧ w'.cell? ⟨a7, 0, none⟩ = some (.func (.func 36) #[] #[.pointer (some ⟨a5, 0, none⟩), .pointer (some ⟨a4, 0, none⟩)]) ∧ w'.cell? ⟨a8, 0, none⟩ = some (.bool true)) ∧ w.heap.size ≤ a4 ∧ w.heap.size ≤ a5 ∧ w.heap.size ≤ a7 ∧ w.heap.size ≤ a8 ∧ Below w.heap.size w w' := by
  have KC := Aside0.mk kc
  have HB := Aside0.mk (Below.refl w.heap.size w)
  clear kc
  have hmf : ∀ (fn : Fn) (first cap : Array Value) (w : World), (Instr.makeFunc fn first cap).run Try.prog w = .ok (.func fn first cap) w := fun _ _ _ _ => rfl
  go_enter Try.func21, Try.ntmps21
  go_upto_region 1 with (first | ((with_reducible refine gate_dst (N := 4) rfl ?_); refine box_event ?hg (N := 4) ?hd (cs := #[.pointer (some ⟨gm, 0, none⟩)]) (t := 51) ?hr ?_; (case hd => rfl); (case hg => rfl); (case hr => first | (go_simp; done) | (go_simp; rfl)); intro a4 hg_ w4 h1_ hb_; have K4 := Aside0.mk h1_; have L4 := Aside0.mk (show w.heap.size ≤ a4 from by rw [hg_]; exact HB.out.size); have n0_ := Aside0.mk (HB.out.trans (hb_.mono HB.out.size)); clear HB hb_ h1_ hg_; have HB := n0_; clear n0_) | ((with_reducible refine gate_dst (N := 5) rfl ?_); refine box_event ?hg (N := 5) ?hd (cs := #[.pointer (some ⟨g, 0, none⟩)]) (t := 48) ?hr ?_; (case hd => rfl); (case hg => rfl); (case hr => first | (go_simp; done) | (go_simp; rfl)); intro a5 hg_ w5 h1_ hb_; have K5 := Aside0.mk h1_; have L5 := Aside0.mk (show w.heap.size ≤ a5 from by rw [hg_]; exact HB.out.size); have n0_ := Aside0.mk (blk_below K4.out hb_); clear K4; have K4 := n0_; clear n0_; have n0_ := Aside0.mk (HB.out.trans (hb_.mono HB.out.size)); clear HB hb_ h1_ hg_; have HB := n0_; clear n0_))
  go_upto_region 3 with (fail)
  clear hmf
  have B8 := Aside0.mk (((Below.refl w5.heap.size w5).alloc (Nat.le_refl _) (.cells #[.func (.func 36) #[] #[.pointer (some ⟨a5, 0, none⟩), .pointer (some ⟨a4, 0, none⟩)]] 73 (0, 0))).alloc (by rw [World.size_alloc]; omega) (.cells #[.bool true] 4 (0, 0)))
  have k4 : ((w5.alloc (.cells #[.func (.func 36) #[] #[.pointer (some ⟨a5, 0, none⟩), .pointer (some ⟨a4, 0, none⟩)]] 73 (0, 0))).alloc (.cells #[.bool true] 4 (0, 0))).cell? ⟨a4, 0, none⟩ = some (.pointer (some ⟨gm, 0, none⟩)) := (blk_cell (blk_below K4.out B8.out) 0).trans rfl
  have k5 : ((w5.alloc (.cells #[.func (.func 36) #[] #[.pointer (some ⟨a5, 0, none⟩), .pointer (some ⟨a4, 0, none⟩)]] 73 (0, 0))).alloc (.cells #[.bool true] 4 (0, 0))).cell? ⟨a5, 0, none⟩ = some (.pointer (some ⟨g, 0, none⟩)) := (blk_cell (blk_below K5.out B8.out) 0).trans rfl
  have k7 : ((w5.alloc (.cells #[.func (.func 36) #[] #[.pointer (some ⟨a5, 0, none⟩), .pointer (some ⟨a4, 0, none⟩)]] 73 (0, 0))).alloc (.cells #[.bool true] 4 (0, 0))).cell? ⟨w5.heap.size, 0, none⟩ = some (.func (.func 36) #[] #[.pointer (some ⟨a5, 0, none⟩), .pointer (some ⟨a4, 0, none⟩)]) := (blk_cell (blk_below (blk_new w5 (.cells #[.func (.func 36) #[] #[.pointer (some ⟨a5, 0, none⟩), .pointer (some ⟨a4, 0, none⟩)]] 73 (0, 0))) (below_alloc (Below.refl _ _) _)) 0).trans rfl
  have k8 : ((w5.alloc (.cells #[.func (.func 36) #[] #[.pointer (some ⟨a5, 0, none⟩), .pointer (some ⟨a4, 0, none⟩)]] 73 (0, 0))).alloc (.cells #[.bool true] 4 (0, 0))).cell? ⟨(w5.heap.size + 1), 0, none⟩ = some (.bool true) := (blk_cell (show ((w5.alloc (.cells #[.func (.func 36) #[] #[.pointer (some ⟨a5, 0, none⟩), .pointer (some ⟨a4, 0, none⟩)]] 73 (0, 0))).alloc (.cells #[.bool true] 4 (0, 0))).heap[w5.heap.size + 1]? = some (.cells #[.bool true] 4 (0, 0)) from by have h := blk_new (w5.alloc (.cells #[.func (.func 36) #[] #[.pointer (some ⟨a5, 0, none⟩), .pointer (some ⟨a4, 0, none⟩)]] 73 (0, 0))) (.cells #[.bool true] 4 (0, 0)); rw [World.size_alloc] at h; exact h) 0).trans rfl
  have HB8 := Aside0.mk (HB.out.trans (B8.out.mono HB.out.size))
  have kcc : ((w5.alloc (.cells #[.func (.func 36) #[] #[.pointer (some ⟨a5, 0, none⟩), .pointer (some ⟨a4, 0, none⟩)]] 73 (0, 0))).alloc (.cells #[.bool true] 4 (0, 0))).cell? ⟨gm, 0, none⟩ = some (.int .u8 22) := (HB8.out.cell (World.block_lt_of_cell? _ _ KC.out)).trans KC.out
  have hmf : ∀ (fn : Fn) (first cap : Array Value) (w : World), (Instr.makeFunc fn first cap).run Try.prog w = .ok (.func fn first cap) w := fun _ _ _ _ => rfl
  go_wp2
  go_ret
  exact ⟨a4, a5, w5.heap.size, (w5.heap.size + 1), rfl, ⟨k4, k5, k7, k8⟩, L4.out, L5.out, HB.out.size, Nat.le_succ_of_le HB.out.size, HB8.out⟩
theorem form_0_23 {w : World} {g gm : Nat} (kc : w.cell? ⟨gm, 0, none⟩ = some (.int .u8 23)) :
    Calls Try.prog 21 #[.int .i64 0, .pointer (some ⟨gm, 0, none⟩), .pointer (some ⟨g, 0, none⟩)] w fun en w' => ∃ a4 a5 a7 a8 : Nat, en = .returned (.func (.func 48) #[] #[.pointer (some ⟨a7, 0, none⟩), .pointer (some ⟨a5, 0, none⟩), .pointer (some ⟨a4, 0, none⟩)]) ∧ (w'.cell? ⟨a4, 0, none⟩ = some (.pointer (some ⟨gm, 0, none⟩)) ∧ w'.cell? ⟨a5, 0, none⟩ = some (.pointer (some ⟨g, 0, none⟩)) ∧ w'.cell? ⟨a7, 0, none⟩ = some (.func (.func 36) #[] #[.pointer (some ⟨a5, 0, none⟩), .pointer (some ⟨a4, 0, none⟩)]) ∧ w'.cell? ⟨a8, 0, none⟩ = some (.bool true)) ∧ w.heap.size ≤ a4 ∧ w.heap.size ≤ a5 ∧ w.heap.size ≤ a7 ∧ w.heap.size ≤ a8 ∧ Below w.heap.size w w' := by
  have KC := Aside0.mk kc
  have HB := Aside0.mk (Below.refl w.heap.size w)
  clear kc
  have hmf : ∀ (fn : Fn) (first cap : Array Value) (w : World), (Instr.makeFunc fn first cap).run Try.prog w = .ok (.func fn first cap) w := fun _ _ _ _ => rfl
  go_enter Try.func21, Try.ntmps21
  go_upto_region 1 with (first | ((with_reducible refine gate_dst (N := 4) rfl ?_); refine box_event ?hg (N := 4) ?hd (cs := #[.pointer (some ⟨gm, 0, none⟩)]) (t := 51) ?hr ?_; (case hd => rfl); (case hg => rfl); (case hr => first | (go_simp; done) | (go_simp; rfl)); intro a4 hg_ w4 h1_ hb_; have K4 := Aside0.mk h1_; have L4 := Aside0.mk (show w.heap.size ≤ a4 from by rw [hg_]; exact HB.out.size); have n0_ := Aside0.mk (HB.out.trans (hb_.mono HB.out.size)); clear HB hb_ h1_ hg_; have HB := n0_; clear n0_) | ((with_reducible refine gate_dst (N := 5) rfl ?_); refine box_event ?hg (N := 5) ?hd (cs := #[.pointer (some ⟨g, 0, none⟩)]) (t := 48) ?hr ?_; (case hd => rfl); (case hg => rfl); (case hr => first | (go_simp; done) | (go_simp; rfl)); intro a5 hg_ w5 h1_ hb_; have K5 := Aside0.mk h1_; have L5 := Aside0.mk (show w.heap.size ≤ a5 from by rw [hg_]; exact HB.out.size); have n0_ := Aside0.mk (blk_below K4.out hb_); clear K4; have K4 := n0_; clear n0_; have n0_ := Aside0.mk (HB.out.trans (hb_.mono HB.out.size)); clear HB hb_ h1_ hg_; have HB := n0_; clear n0_))
  go_upto_region 3 with (fail)
  clear hmf
  have B8 := Aside0.mk (((Below.refl w5.heap.size w5).alloc (Nat.le_refl _) (.cells #[.func (.func 36) #[] #[.pointer (some ⟨a5, 0, none⟩), .pointer (some ⟨a4, 0, none⟩)]] 73 (0, 0))).alloc (by rw [World.size_alloc]; omega) (.cells #[.bool true] 4 (0, 0)))
  have k4 : ((w5.alloc (.cells #[.func (.func 36) #[] #[.pointer (some ⟨a5, 0, none⟩), .pointer (some ⟨a4, 0, none⟩)]] 73 (0, 0))).alloc (.cells #[.bool true] 4 (0, 0))).cell? ⟨a4, 0, none⟩ = some (.pointer (some ⟨gm, 0, none⟩)) := (blk_cell (blk_below K4.out B8.out) 0).trans rfl
  have k5 : ((w5.alloc (.cells #[.func (.func 36) #[] #[.pointer (some ⟨a5, 0, none⟩), .pointer (some ⟨a4, 0, none⟩)]] 73 (0, 0))).alloc (.cells #[.bool true] 4 (0, 0))).cell? ⟨a5, 0, none⟩ = some (.pointer (some ⟨g, 0, none⟩)) := (blk_cell (blk_below K5.out B8.out) 0).trans rfl
  have k7 : ((w5.alloc (.cells #[.func (.func 36) #[] #[.pointer (some ⟨a5, 0, none⟩), .pointer (some ⟨a4, 0, none⟩)]] 73 (0, 0))).alloc (.cells #[.bool true] 4 (0, 0))).cell? ⟨w5.heap.size, 0, none⟩ = some (.func (.func 36) #[] #[.pointer (some ⟨a5, 0, none⟩), .pointer (some ⟨a4, 0, none⟩)]) := (blk_cell (blk_below (blk_new w5 (.cells #[.func (.func 36) #[] #[.pointer (some ⟨a5, 0, none⟩), .pointer (some ⟨a4, 0, none⟩)]] 73 (0, 0))) (below_alloc (Below.refl _ _) _)) 0).trans rfl
  have k8 : ((w5.alloc (.cells #[.func (.func 36) #[] #[.pointer (some ⟨a5, 0, none⟩), .pointer (some ⟨a4, 0, none⟩)]] 73 (0, 0))).alloc (.cells #[.bool true] 4 (0, 0))).cell? ⟨(w5.heap.size + 1), 0, none⟩ = some (.bool true) := (blk_cell (show ((w5.alloc (.cells #[.func (.func 36) #[] #[.pointer (some ⟨a5, 0, none⟩), .pointer (some ⟨a4, 0, none⟩)]] 73 (0, 0))).alloc (.cells #[.bool true] 4 (0, 0))).heap[w5.heap.size + 1]? = some (.cells #[.bool true] 4 (0, 0)) from by have h := blk_new (w5.alloc (.cells #[.func (.func 36) #[] #[.pointer (some ⟨a5, 0, none⟩), .pointer (some ⟨a4, 0, none⟩)]] 73 (0, 0))) (.cells #[.bool true] 4 (0, 0)); rw [World.size_alloc] at h; exact h) 0).trans rfl
  have HB8 := Aside0.mk (HB.out.trans (B8.out.mono HB.out.size))
  have kcc : ((w5.alloc (.cells #[.func (.func 36) #[] #[.pointer (some ⟨a5, 0, none⟩), .pointer (some ⟨a4, 0, none⟩)]] 73 (0, 0))).alloc (.cells #[.bool true] 4 (0, 0))).cell? ⟨gm, 0, none⟩ = some (.int .u8 23) := (HB8.out.cell (World.block_lt_of_cell? _ _ KC.out)).trans KC.out
  have hmf : ∀ (fn : Fn) (first cap : Array Value) (w : World), (Instr.makeFunc fn first cap).run Try.prog w = .ok (.func fn first cap) w := fun _ _ _ _ => rfl
  go_wp2
  go_ret
  exact ⟨a4, a5, w5.heap.size, (w5.heap.size + 1), rfl, ⟨k4, k5, k7, k8⟩, L4.out, L5.out, HB.out.size, Nat.le_succ_of_le HB.out.size, HB8.out⟩
theorem form_0_24 {w : World} {g gm : Nat} (kc : w.cell? ⟨gm, 0, none⟩ = some (.int .u8 24)) :
    Calls Try.prog 21 #[.int .i64 0, .pointer (some ⟨gm, 0, none⟩), .pointer (some ⟨g, 0, none⟩)] w fun en w' => ∃ a4 a5 a7 a8 : Nat, en = .returned (.func (.func 49) #[] #[.pointer (some ⟨a5, 0, none⟩), .pointer (some ⟨a4, 0, none⟩)]) ∧ (w'.cell? ⟨a4, 0, none⟩ = some (.pointer (some ⟨gm, 0, none⟩)) ∧ w'.cell? ⟨a5, 0, none⟩ = some (.pointer (some ⟨g, 0, none⟩)) ∧ w'.cell? ⟨a7, 0, none⟩ = some (.func (.func 36) #[] #[.pointer (some ⟨a5, 0, none⟩), .pointer (some ⟨a4, 0, none⟩)]) ∧ w'.cell? ⟨a8, 0, none⟩ = some (.bool true)) ∧ w.heap.size ≤ a4 ∧ w.heap.size ≤ a5 ∧ w.heap.size ≤ a7 ∧ w.heap.size ≤ a8 ∧ Below w.heap.size w w' := by
  have KC := Aside0.mk kc
  have HB := Aside0.mk (Below.refl w.heap.size w)
  clear kc
  have hmf : ∀ (fn : Fn) (first cap : Array Value) (w : World), (Instr.makeFunc fn first cap).run Try.prog w = .ok (.func fn first cap) w := fun _ _ _ _ => rfl
  go_enter Try.func21, Try.ntmps21
  go_upto_region 1 with (first | ((with_reducible refine gate_dst (N := 4) rfl ?_); refine box_event ?hg (N := 4) ?hd (cs := #[.pointer (some ⟨gm, 0, none⟩)]) (t := 51) ?hr ?_; (case hd => rfl); (case hg => rfl); (case hr => first | (go_simp; done) | (go_simp; rfl)); intro a4 hg_ w4 h1_ hb_; have K4 := Aside0.mk h1_; have L4 := Aside0.mk (show w.heap.size ≤ a4 from by rw [hg_]; exact HB.out.size); have n0_ := Aside0.mk (HB.out.trans (hb_.mono HB.out.size)); clear HB hb_ h1_ hg_; have HB := n0_; clear n0_) | ((with_reducible refine gate_dst (N := 5) rfl ?_); refine box_event ?hg (N := 5) ?hd (cs := #[.pointer (some ⟨g, 0, none⟩)]) (t := 48) ?hr ?_; (case hd => rfl); (case hg => rfl); (case hr => first | (go_simp; done) | (go_simp; rfl)); intro a5 hg_ w5 h1_ hb_; have K5 := Aside0.mk h1_; have L5 := Aside0.mk (show w.heap.size ≤ a5 from by rw [hg_]; exact HB.out.size); have n0_ := Aside0.mk (blk_below K4.out hb_); clear K4; have K4 := n0_; clear n0_; have n0_ := Aside0.mk (HB.out.trans (hb_.mono HB.out.size)); clear HB hb_ h1_ hg_; have HB := n0_; clear n0_))
  go_upto_region 3 with (fail)
  clear hmf
  have B8 := Aside0.mk (((Below.refl w5.heap.size w5).alloc (Nat.le_refl _) (.cells #[.func (.func 36) #[] #[.pointer (some ⟨a5, 0, none⟩), .pointer (some ⟨a4, 0, none⟩)]] 73 (0, 0))).alloc (by rw [World.size_alloc]; omega) (.cells #[.bool true] 4 (0, 0)))
  have k4 : ((w5.alloc (.cells #[.func (.func 36) #[] #[.pointer (some ⟨a5, 0, none⟩), .pointer (some ⟨a4, 0, none⟩)]] 73 (0, 0))).alloc (.cells #[.bool true] 4 (0, 0))).cell? ⟨a4, 0, none⟩ = some (.pointer (some ⟨gm, 0, none⟩)) := (blk_cell (blk_below K4.out B8.out) 0).trans rfl
  have k5 : ((w5.alloc (.cells #[.func (.func 36) #[] #[.pointer (some ⟨a5, 0, none⟩), .pointer (some ⟨a4, 0, none⟩)]] 73 (0, 0))).alloc (.cells #[.bool true] 4 (0, 0))).cell? ⟨a5, 0, none⟩ = some (.pointer (some ⟨g, 0, none⟩)) := (blk_cell (blk_below K5.out B8.out) 0).trans rfl
  have k7 : ((w5.alloc (.cells #[.func (.func 36) #[] #[.pointer (some ⟨a5, 0, none⟩), .pointer (some ⟨a4, 0, none⟩)]] 73 (0, 0))).alloc (.cells #[.bool true] 4 (0, 0))).cell? ⟨w5.heap.size, 0, none⟩ = some (.func (.func 36) #[] #[.pointer (some ⟨a5, 0, none⟩), .pointer (some ⟨a4, 0, none⟩)]) := (blk_cell (blk_below (blk_new w5 (.cells #[.func (.func 36) #[] #[.pointer (some ⟨a5, 0, none⟩), .pointer (some ⟨a4, 0, none⟩)]] 73 (0, 0))) (below_alloc (Below.refl _ _) _)) 0).trans rfl
  have k8 : ((w5.alloc (.cells #[.func (.func 36) #[] #[.pointer (some ⟨a5, 0, none⟩), .pointer (some ⟨a4, 0, none⟩)]] 73 (0, 0))).alloc (.cells #[.bool true] 4 (0, 0))).cell? ⟨(w5.heap.size + 1), 0, none⟩ = some (.bool true) := (blk_cell (show ((w5.alloc (.cells #[.func (.func 36) #[] #[.pointer (some ⟨a5, 0, none⟩), .pointer (some ⟨a4, 0, none⟩)]] 73 (0, 0))).alloc (.cells #[.bool true] 4 (0, 0))).heap[w5.heap.size + 1]? = some (.cells #[.bool true] 4 (0, 0)) from by have h := blk_new (w5.alloc (.cells #[.func (.func 36) #[] #[.pointer (some ⟨a5, 0, none⟩), .pointer (some ⟨a4, 0, none⟩)]] 73 (0, 0))) (.cells #[.bool true] 4 (0, 0)); rw [World.size_alloc] at h; exact h) 0).trans rfl
  have HB8 := Aside0.mk (HB.out.trans (B8.out.mono HB.out.size))
  have kcc : ((w5.alloc (.cells #[.func (.func 36) #[] #[.pointer (some ⟨a5, 0, none⟩), .pointer (some ⟨a4, 0, none⟩)]] 73 (0, 0))).alloc (.cells #[.bool true] 4 (0, 0))).cell? ⟨gm, 0, none⟩ = some (.int .u8 24) := (HB8.out.cell (World.block_lt_of_cell? _ _ KC.out)).trans KC.out
  have hmf : ∀ (fn : Fn) (first cap : Array Value) (w : World), (Instr.makeFunc fn first cap).run Try.prog w = .ok (.func fn first cap) w := fun _ _ _ _ => rfl
  go_wp2
  go_ret
  exact ⟨a4, a5, w5.heap.size, (w5.heap.size + 1), rfl, ⟨k4, k5, k7, k8⟩, L4.out, L5.out, HB.out.size, Nat.le_succ_of_le HB.out.size, HB8.out⟩
theorem form_1_no {code : Int} (hk : ¬ isCode code) {w : World} {g gm : Nat} (kc : w.cell? ⟨gm, 0, none⟩ = some (.int .u8 code)) :
    Calls Try.prog 21 #[.int .i64 1, .pointer (some ⟨gm, 0, none⟩), .pointer (some ⟨g, 0, none⟩)] w fun en w' => ∃ a4 a5 a7 a8 : Nat, en = .returned (.nilFunc) ∧ (w'.cell? ⟨a4, 0, none⟩ = some (.pointer (some ⟨gm, 0, none⟩)) ∧ w'.cell? ⟨a5, 0, none⟩ = some (.pointer (some ⟨g, 0, none⟩)) ∧ w'.cell? ⟨a7, 0, none⟩ = some (.func (.func 36) #[] #[.pointer (some ⟨a5, 0, none⟩), .pointer (some ⟨a4, 0, none⟩)]) ∧ w'.cell? ⟨a8, 0, none⟩ = some (.bool false)) ∧ w.heap.size ≤ a4 ∧ w.heap.size ≤ a5 ∧ w.heap.size ≤ a7 ∧ w.heap.size ≤ a8 ∧ Below w.heap.size w w' := by
  have KC := Aside0.mk kc
  have HB := Aside0.mk (Below.refl w.heap.size w)
  have b3 : (code == 3) = false := beq_eq_false_iff_ne.2 (fun e => hk (by unfold isCode; omega))
  have b4 : (code == 4) = false := beq_eq_false_iff_ne.2 (fun e => hk (by unfold isCode; omega))
  have b6 : (code == 6) = false := beq_eq_false_iff_ne.2 (fun e => hk (by unfold isCode; omega))
  have b16 : (code == 16) = false := beq_eq_false_iff_ne.2 (fun e => hk (by unfold isCode; omega))
  have b22 : (code == 22) = false := beq_eq_false_iff_ne.2 (fun e => hk (by unfold isCode; omega))
  have b23 : (code == 23) = false := beq_eq_false_iff_ne.2 (fun e => hk (by unfold isCode; omega))
  have b24 : (code == 24) = false := beq_eq_false_iff_ne.2 (fun e => hk (by unfold isCode; omega))
  clear kc hk
  have hmf : ∀ (fn : Fn) (first cap : Array Value) (w : World), (Instr.makeFunc fn first cap).run Try.prog w = .ok (.func fn first cap) w := fun _ _ _ _ => rfl
  go_enter Try.func21, Try.ntmps21
  go_upto_region 1 with (first | ((with_reducible refine gate_dst (N := 4) rfl ?_); refine box_event ?hg (N := 4) ?hd (cs := #[.pointer (some ⟨gm, 0, none⟩)]) (t := 51) ?hr ?_; (case hd => rfl); (case hg => rfl); (case hr => first | (go_simp; done) | (go_simp; rfl)); intro a4 hg_ w4 h1_ hb_; have K4 := Aside0.mk h1_; have L4 := Aside0.mk (show w.heap.size ≤ a4 from by rw [hg_]; exact HB.out.size); have n0_ := Aside0.mk (HB.out.trans (hb_.mono HB.out.size)); clear HB hb_ h1_ hg_; have HB := n0_; clear n0_) | ((with_reducible refine gate_dst (N := 5) rfl ?_); refine box_event ?hg (N := 5) ?hd (cs := #[.pointer (some ⟨g, 0, none⟩)]) (t := 48) ?hr ?_; (case hd => rfl); (case hg => rfl); (case hr => first | (go_simp; done) | (go_simp; rfl)); intro a5 hg_ w5 h1_ hb_; have K5 := Aside0.mk h1_; have L5 := Aside0.mk (show w.heap.size ≤ a5 from by rw [hg_]; exact HB.out.size); have n0_ := Aside0.mk (blk_below K4.out hb_); clear K4; have K4 := n0_; clear n0_; have n0_ := Aside0.mk (HB.out.trans (hb_.mono HB.out.size)); clear HB hb_ h1_ hg_; have HB := n0_; clear n0_))
  go_upto_region 3 with (fail)
  clear hmf
  have B8 := Aside0.mk (((Below.refl w5.heap.size w5).alloc (Nat.le_refl _) (.cells #[.func (.func 36) #[] #[.pointer (some ⟨a5, 0, none⟩), .pointer (some ⟨a4, 0, none⟩)]] 73 (0, 0))).alloc (by rw [World.size_alloc]; omega) (.cells #[.bool false] 4 (0, 0)))
  have k4 : ((w5.alloc (.cells #[.func (.func 36) #[] #[.pointer (some ⟨a5, 0, none⟩), .pointer (some ⟨a4, 0, none⟩)]] 73 (0, 0))).alloc (.cells #[.bool false] 4 (0, 0))).cell? ⟨a4, 0, none⟩ = some (.pointer (some ⟨gm, 0, none⟩)) := (blk_cell (blk_below K4.out B8.out) 0).trans rfl
  have k5 : ((w5.alloc (.cells #[.func (.func 36) #[] #[.pointer (some ⟨a5, 0, none⟩), .pointer (some ⟨a4, 0, none⟩)]] 73 (0, 0))).alloc (.cells #[.bool false] 4 (0, 0))).cell? ⟨a5, 0, none⟩ = some (.pointer (some ⟨g, 0, none⟩)) := (blk_cell (blk_below K5.out B8.out) 0).trans rfl
  have k7 : ((w5.alloc (.cells #[.func (.func 36) #[] #[.pointer (some ⟨a5, 0, none⟩), .pointer (some ⟨a4, 0, none⟩)]] 73 (0, 0))).alloc (.cells #[.bool false] 4 (0, 0))).cell? ⟨w5.heap.size, 0, none⟩ = some (.func (.func 36) #[] #[.pointer (some ⟨a5, 0, none⟩), .pointer (some ⟨a4, 0, none⟩)]) := (blk_cell (blk_below (blk_new w5 (.cells #[.func (.func 36) #[] #[.pointer (some ⟨a5, 0, none⟩), .pointer (some ⟨a4, 0, none⟩)]] 73 (0, 0))) (below_alloc (Below.refl _ _) _)) 0).trans rfl
  have k8 : ((w5.alloc (.cells #[.func (.func 36) #[] #[.pointer (some ⟨a5, 0, none⟩), .pointer (some ⟨a4, 0, none⟩)]] 73 (0, 0))).alloc (.cells #[.bool false] 4 (0, 0))).cell? ⟨(w5.heap.size + 1), 0, none⟩ = some (.bool false) := (blk_cell (show ((w5.alloc (.cells #[.func (.func 36) #[] #[.pointer (some ⟨a5, 0, none⟩), .pointer (some ⟨a4, 0, none⟩)]] 73 (0, 0))).alloc (.cells #[.bool false] 4 (0, 0))).heap[w5.heap.size + 1]? = some (.cells #[.bool false] 4 (0, 0)) from by have h := blk_new (w5.alloc (.cells #[.func (.func 36) #[] #[.pointer (some ⟨a5, 0, none⟩), .pointer (some ⟨a4, 0, none⟩)]] 73 (0, 0))) (.cells #[.bool false] 4 (0, 0)); rw [World.size_alloc] at h; exact h) 0).trans rfl
  have HB8 := Aside0.mk (HB.out.trans (B8.out.mono HB.out.size))
  have kcc : ((w5.alloc (.cells #[.func (.func 36) #[] #[.pointer (some ⟨a5, 0, none⟩), .pointer (some ⟨a4, 0, none⟩)]] 73 (0, 0))).alloc (.cells #[.bool false] 4 (0, 0))).cell? ⟨gm, 0, none⟩ = some (.int .u8 code) := (HB8.out.cell (World.block_lt_of_cell? _ _ KC.out)).trans KC.out
  have hmf : ∀ (fn : Fn) (first cap : Array Value) (w : World), (Instr.makeFunc fn first cap).run Try.prog w = .ok (.func fn first cap) w := fun _ _ _ _ => rfl
  go_wp2
  go_ret
  exact ⟨a4, a5, w5.heap.size, (w5.heap.size + 1), rfl, ⟨k4, k5, k7, k8⟩, L4.out, L5.out, HB.out.size, Nat.le_succ_of_le HB.out.size, HB8.out⟩
theorem form_1_3 {w : World} {g gm : Nat} (kc : w.cell? ⟨gm, 0, none⟩ = some (.int .u8 3)) :
    Calls Try.prog 21 #[.int .i64 1, .pointer (some ⟨gm, 0, none⟩), .pointer (some ⟨g, 0, none⟩)] w fun en w' => ∃ a4 a5 a7 a8 : Nat, en = .returned (.func (.func 40) #[] #[.pointer (some ⟨a5, 0, none⟩), .pointer (some ⟨a4, 0, none⟩)]) ∧ (w'.cell? ⟨a4, 0, none⟩ = some (.pointer (some ⟨gm, 0, none⟩)) ∧ w'.cell? ⟨a5, 0, none⟩ = some (.pointer (some ⟨g, 0, none⟩)) ∧ w'.cell? ⟨a7, 0, none⟩ = some (.func (.func 36) #[] #[.pointer (some ⟨a5, 0, none⟩), .pointer (some ⟨a4, 0, none⟩)]) ∧ w'.cell? ⟨a8, 0, none⟩ = some (.bool false)) ∧ w.heap.size ≤ a4 ∧ w.heap.size ≤ a5 ∧ w.heap.size ≤ a7 ∧ w.heap.size ≤ a8 ∧ Below w.heap.size w w' := by
  have KC := Aside0.mk kc
  have HB := Aside0.mk (Below.refl w.heap.size w)
  clear kc
  have hmf : ∀ (fn : Fn) (first cap : Array Value) (w : World), (Instr.makeFunc fn first cap).run Try.prog w = .ok (.func fn first cap) w := fun _ _ _ _ => rfl
  go_enter Try.func21, Try.ntmps21
  go_upto_region 1 with (first | ((with_reducible refine gate_dst (N := 4) rfl ?_); refine box_event ?hg (N := 4) ?hd (cs := #[.pointer (some ⟨gm, 0, none⟩)]) (t := 51) ?hr ?_; (case hd => rfl); (case hg => rfl); (case hr => first | (go_simp; done) | (go_simp; rfl)); intro a4 hg_ w4 h1_ hb_; have K4 := Aside0.mk h1_; have L4 := Aside0.mk (show w.heap.size ≤ a4 from by rw [hg_]; exact HB.out.size); have n0_ := Aside0.mk (HB.out.trans (hb_.mono HB.out.size)); clear HB hb_ h1_ hg_; have HB := n0_; clear n0_) | ((with_reducible refine gate_dst (N := 5) rfl ?_); refine box_event ?hg (N := 5) ?hd (cs := #[.pointer (some ⟨g, 0, none⟩)]) (t := 48) ?hr ?_; (case hd => rfl); (case hg => rfl); (case hr => first | (go_simp; done) | (go_simp; rfl)); intro a5 hg_ w5 h1_ hb_; have K5 := Aside0.mk h1_; have L5 := Aside0.mk (show w.heap.size ≤ a5 from by rw [hg_]; exact HB.out.size); have n0_ := Aside0.mk (blk_below K4.out hb_); clear K4; have K4 := n0_; clear n0_; have n0_ := Aside0.mk (HB.out.trans (hb_.mono HB.out.size)); clear HB hb_ h1_ hg_; have HB := n0_; clear n0_))
  go_upto_region 3 with (fail)
  clear hmf
  have B8 := Aside0.mk (((Below.refl w5.heap.size w5).alloc (Nat.le_refl _) (.cells #[.func (.func 36) #[] #[.pointer (some ⟨a5, 0, none⟩), .pointer (some ⟨a4, 0, none⟩)]] 73 (0, 0))).alloc (by rw [World.size_alloc]; omega) (.cells #[.bool false] 4 (0, 0)))
  have k4 : ((w5.alloc (.cells #[.func (.func 36) #[] #[.pointer (some ⟨a5, 0, none⟩), .pointer (some ⟨a4, 0, none⟩)]] 73 (0, 0))).alloc (.cells #[.bool false] 4 (0, 0))).cell? ⟨a4, 0, none⟩ = some (.pointer (some ⟨gm, 0, none⟩)) := (blk_cell (blk_below K4.out B8.out) 0).trans rfl
  have k5 : ((w5.alloc (.cells #[.func (.func 36) #[] #[.pointer (some ⟨a5, 0, none⟩), .pointer (some ⟨a4, 0, none⟩)]] 73 (0, 0))).alloc (.cells #[.bool false] 4 (0, 0))).cell? ⟨a5, 0, none⟩ = some (.pointer (some ⟨g, 0, none⟩)) := (blk_cell (blk_below K5.out B8.out) 0).trans rfl
  have k7 : ((w5.alloc (.cells #[.func (.func 36) #[] #[.pointer (some ⟨a5, 0, none⟩), .pointer (some ⟨a4, 0, none⟩)]] 73 (0, 0))).alloc (.cells #[.bool false] 4 (0, 0))).cell? ⟨w5.heap.size, 0, none⟩ = some (.func (.func 36) #[] #[.pointer (some ⟨a5, 0, none⟩), .pointer (some ⟨a4, 0, none⟩)]) := (blk_cell (blk_below (blk_new w5 (.cells #[.func (.func 36) #[] #[.pointer (some ⟨a5, 0, none⟩), .pointer (some ⟨a4, 0, none⟩)]] 73 (0, 0))) (below_alloc (Below.refl _ _) _)) 0).trans rfl
  have k8 : ((w5.alloc (.cells #[.func (.func 36) #[] #[.pointer (some ⟨a5, 0, none⟩), .pointer (some ⟨a4, 0, none⟩)]] 73 (0, 0))).alloc (.cells #[.bool false] 4 (0, 0))).cell? ⟨(w5.heap.size + 1), 0, none⟩ = some (.bool false) := (blk_cell (show ((w5.alloc (.cells #[.func (.func 36) #[] #[.pointer (some ⟨a5, 0, none⟩), .pointer (some ⟨a4, 0, none⟩)]] 73 (0, 0))).alloc (.cells #[.bool false] 4 (0, 0))).heap[w5.heap.size + 1]? = some (.cells #[.bool false] 4 (0, 0)) from by have h := blk_new (w5.alloc (.cells #[.func (.func 36) #[] #[.pointer (some ⟨a5, 0, none⟩), .pointer (some ⟨a4, 0, none⟩)]] 73 (0, 0))) (.cells #[.bool false] 4 (0, 0)); rw [World.size_alloc] at h; exact h) 0).trans rfl
  have HB8 := Aside0.mk (HB.out.trans (B8.out.mono HB.out.size))
  have kcc : ((w5.alloc (.cells #[.func (.func 36) #[] #[.pointer (some ⟨a5, 0, none⟩), .pointer (some ⟨a4, 0, none⟩)]] 73 (0, 0))).alloc (.cells #[.bool false] 4 (0, 0))).cell? ⟨gm, 0, none⟩ = some (.int .u8 3) := (HB8.out.cell (World.block_lt_of_cell? _ _ KC.out)).trans KC.out
  have hmf : ∀ (fn : Fn) (first cap : Array Value) (w : World), (Instr.makeFunc fn first cap).run Try.prog w = .ok (.func fn first cap) w := fun _ _ _ _ => rfl
  go_wp2
  go_ret
  exact ⟨a4, a5, w5.heap.size, (w5.heap.size + 1), rfl, ⟨k4, k5, k7, k8⟩, L4.out, L5.out, HB.out.size, Nat.le_succ_of_le HB.out.size, HB8.out⟩
theorem form_1_4 {w : World} {g gm : Nat} (kc : w.cell? ⟨gm, 0, none⟩ = some (.int .u8 4)) :
    Calls Try.prog 21 #[.int .i64 1, .pointer (some ⟨gm, 0, none⟩), .pointer (some ⟨g, 0, none⟩)] w fun en w' => ∃ a4 a5 a7 a8 : Nat, en = .returned (.func (.func 40) #[] #[.pointer (some ⟨a5, 0, none⟩), .pointer (some ⟨a4, 0, none⟩)]) ∧ (w'.cell? ⟨a4, 0, none⟩ = some (.pointer (some ⟨gm, 0, none⟩)) ∧ w'.cell? ⟨a5, 0, none⟩ = some (.pointer (some ⟨g, 0, none⟩)) ∧ w'.cell? ⟨a7, 0, none⟩ = some (.func (.func 36) #[] #[.pointer (some ⟨a5, 0, none⟩), .pointer (some ⟨a4, 0, none⟩)]) ∧ w'.cell? ⟨a8, 0, none⟩ = some (.bool false)) ∧ w.heap.size ≤ a4 ∧ w.heap.size ≤ a5 ∧ w.heap.size ≤ a7 ∧ w.heap.size ≤ a8 ∧ Below w.heap.size w w' := by
  have KC := Aside0.mk kc
  have HB := Aside0.mk (Below.refl w.heap.size w)
  clear kc
  have hmf : ∀ (fn : Fn) (first cap : Array Value) (w : World), (Instr.makeFunc fn first cap).run Try.prog w = .ok (.func fn first cap) w := fun _ _ _ _ => rfl
  go_enter Try.func21, Try.ntmps21
  go_upto_region 1 with (first | ((with_reducible refine gate_dst (N := 4) rfl ?_); refine box_event ?hg (N := 4) ?hd (cs := #[.pointer (some ⟨gm, 0, none⟩)]) (t := 51) ?hr ?_; (case hd => rfl); (case hg => rfl); (case hr => first | (go_simp; done) | (go_simp; rfl)); intro a4 hg_ w4 h1_ hb_; have K4 := Aside0.mk h1_; have L4 := Aside0.mk (show w.heap.size ≤ a4 from by rw [hg_]; exact HB.out.size); have n0_ := Aside0.mk (HB.out.trans (hb_.mono HB.out.size)); clear HB hb_ h1_ hg_; have HB := n0_; clear n0_) | ((with_reducible refine gate_dst (N := 5) rfl ?_); refine box_event ?hg (N := 5) ?hd (cs := #[.pointer (some ⟨g, 0, none⟩)]) (t := 48) ?hr ?_; (case hd => rfl); (case hg => rfl); (case hr => first | (go_simp; done) | (go_simp; rfl)); intro a5 hg_ w5 h1_ hb_; have K5 := Aside0.mk h1_; have L5 := Aside0.mk (show w.heap.size ≤ a5 from by rw [hg_]; exact HB.out.size); have n0_ := Aside0.mk (blk_below K4.out hb_); clear K4; have K4 := n0_; clear n0_; have n0_ := Aside0.mk (HB.out.trans (hb_.mono HB.out.size)); clear HB hb_ h1_ hg_; have HB := n0_; clear n0_))
  go_upto_region 3 with (fail)
  clear hmf
  have B8 := Aside0.mk (((Below.refl w5.heap.size w5).alloc (Nat.le_refl _) (.cells #[.func (.func 36) #[] #[.pointer (some ⟨a5, 0, none⟩), .pointer (some ⟨a4, 0, none⟩)]] 73 (0, 0))).alloc (by rw [World.size_alloc]; omega) (.cells #[.bool false] 4 (0, 0)))
  have k4 : ((w5.alloc (.cells #[.func (.func 36) #[] #[.pointer (some ⟨a5, 0, none⟩), .pointer (some ⟨a4, 0, none⟩)]] 73 (0, 0))).alloc (.cells #[.bool false] 4 (0, 0))).cell? ⟨a4, 0, none⟩ = some (.pointer (some ⟨gm, 0, none⟩)) := (blk_cell (blk_below K4.out B8.out) 0).trans rfl
  have k5 : ((w5.alloc (.cells #[.func (.func 36) #[] #[.pointer (some ⟨a5, 0, none⟩), .pointer (some ⟨a4, 0, none⟩)]] 73 (0, 0))).alloc (.cells #[.bool false] 4 (0, 0))).cell? ⟨a5, 0, none⟩ = some (.pointer (some ⟨g, 0, none⟩)) := (blk_cell (blk_below K5.out B8.out) 0).trans rfl
  have k7 : ((w5.alloc (.cells #[.func (.func 36) #[] #[.pointer (some ⟨a5, 0, none⟩), .pointer (some ⟨a4, 0, none⟩)]] 73 (0, 0))).alloc (.cells #[.bool false] 4 (0, 0))).cell? ⟨w5.heap.size, 0, none⟩ = some (.func (.func 36) #[] #[.pointer (some ⟨a5, 0, none⟩), .pointer (some ⟨a4, 0, none⟩)]) := (blk_cell (blk_below (blk_new w5 (.cells #[.func (.func 36) #[] #[.pointer (some ⟨a5, 0, none⟩), .pointer (some ⟨a4, 0, none⟩)]] 73 (0, 0))) (below_alloc (Below.refl _ _) _)) 0).trans rfl
  have k8 : ((w5.alloc (.cells #[.func (.func 36) #[] #[.pointer (some ⟨a5, 0, none⟩), .pointer (some ⟨a4, 0, none⟩)]] 73 (0, 0))).alloc (.cells #[.bool false] 4 (0, 0))).cell? ⟨(w5.heap.size + 1), 0, none⟩ = some (.bool false) := (blk_cell (show ((w5.alloc (.cells #[.func (.func 36) #[] #[.pointer (some ⟨a5, 0, none⟩), .pointer (some ⟨a4, 0, none⟩)]] 73 (0, 0))).alloc (.cells #[.bool false] 4 (0, 0))).heap[w5.heap.size + 1]? = some (.cells #[.bool false] 4 (0, 0)) from by have h := blk_new (w5.alloc (.cells #[.func (.func 36) #[] #[.pointer (some ⟨a5, 0, none⟩), .pointer (some ⟨a4, 0, none⟩)]] 73 (0, 0))) (.cells #[.bool false] 4 (0, 0)); rw [World.size_alloc] at h; exact h) 0).trans rfl
  have HB8 := Aside0.mk (HB.out.trans (B8.out.mono HB.out.size))
  have kcc : ((w5.alloc (.cells #[.func (.func 36) #[] #[.pointer (some ⟨a5, 0, none⟩), .pointer (some ⟨a4, 0, none⟩)]] 73 (0, 0))).alloc (.cells #[.bool false] 4 (0, 0))).cell? ⟨gm, 0, none⟩ = some (.int .u8 4) := (HB8.out.cell (World.block_lt_of_cell? _ _ KC.out)).trans KC.out
  have hmf : ∀ (fn : Fn) (first cap : Array Value) (w : World), (Instr.makeFunc fn first cap).run Try.prog w = .ok (.func fn first cap) w := fun _ _ _ _ => rfl
  go_wp2
  go_ret
  exact ⟨a4, a5, w5.heap.size, (w5.heap.size + 1), rfl, ⟨k4, k5, k7, k8⟩, L4.out, L5.out, HB.out.size, Nat.le_succ_of_le HB.out.size, HB8.out⟩
theorem form_1_6 {w : World} {g gm : Nat} (kc : w.cell? ⟨gm, 0, none⟩ = some (.int .u8 6)) :
    Calls Try.prog 21 #[.int .i64 1, .pointer (some ⟨gm, 0, none⟩), .pointer (some ⟨g, 0, none⟩)] w fun en w' => ∃ a4 a5 a7 a8 : Nat, en = .returned (.func (.func 44) #[] #[.pointer (some ⟨a5, 0, none⟩), .pointer (some ⟨a4, 0, none⟩)]) ∧ (w'.cell? ⟨a4, 0, none⟩ = some (.pointer (some ⟨gm, 0, none⟩)) ∧ w'.cell? ⟨a5, 0, none⟩ = some (.pointer (some ⟨g, 0, none⟩)) ∧ w'.cell? ⟨a7, 0, none⟩ = some (.func (.func 36) #[] #[.pointer (some ⟨a5, 0, none⟩), .pointer (some ⟨a4, 0, none⟩)]) ∧ w'.cell? ⟨a8, 0, none⟩ = some (.bool false)) ∧ w.heap.size ≤ a4 ∧ w.heap.size ≤ a5 ∧ w.heap.size ≤ a7 ∧ w.heap.size ≤ a8 ∧ Below w.heap.size w w' := by
  have KC := Aside0.mk kc
  have HB := Aside0.mk (Below.refl w.heap.size w)
  clear kc
  have hmf : ∀ (fn : Fn) (first cap : Array Value) (w : World), (Instr.makeFunc fn first cap).run Try.prog w = .ok (.func fn first cap) w := fun _ _ _ _ => rfl
  go_enter Try.func21, Try.ntmps21
  go_upto_region 1 with (first | ((with_reducible refine gate_dst (N := 4) rfl ?_); refine box_event ?hg (N := 4) ?hd (cs := #[.pointer (some ⟨gm, 0, none⟩)]) (t := 51) ?hr ?_; (case hd => rfl); (case hg => rfl); (case hr => first | (go_simp; done) | (go_simp; rfl)); intro a4 hg_ w4 h1_ hb_; have K4 := Aside0.mk h1_; have L4 := Aside0.mk (show w.heap.size ≤ a4 from by rw [hg_]; exact HB.out.size); have n0_ := Aside0.mk (HB.out.trans (hb_.mono HB.out.size)); clear HB hb_ h1_ hg_; have HB := n0_; clear n0_) | ((with_reducible refine gate_dst (N := 5) rfl ?_); refine box_event ?hg (N := 5) ?hd (cs := #[.pointer (some ⟨g, 0, none⟩)]) (t := 48) ?hr ?_; (case hd => rfl); (case hg => rfl); (case hr => first | (go_simp; done) | (go_simp; rfl)); intro a5 hg_ w5 h1_ hb_; have K5 := Aside0.mk h1_; have L5 := Aside0.mk (show w.heap.size ≤ a5 from by rw [hg_]; exact HB.out.size); have n0_ := Aside0.mk (blk_below K4.out hb_); clear K4; have K4 := n0_; clear n0_; have n0_ := Aside0.mk (HB.out.trans (hb_.mono HB.out.size)); clear HB hb_ h1_ hg_; have HB := n0_; clear n0_))
  go_upto_region 3 with (fail)
  clear hmf
  have B8 := Aside0.mk (((Below.refl w5.heap.size w5).alloc (Nat.le_refl _) (.cells #[.func (.func 36) #[] #[.pointer (some ⟨a5, 0, none⟩), .pointer (some ⟨a4, 0, none⟩)]] 73 (0, 0))).alloc (by rw [World.size_alloc]; omega) (.cells #[.bool false] 4 (0, 0)))
  have k4 : ((w5.alloc (.cells #[.func (.func 36) #[] #[.pointer (some ⟨a5, 0, none⟩), .pointer (some ⟨a4, 0, none⟩)]] 73 (0, 0))).alloc (.cells #[.bool false] 4 (0, 0))).cell? ⟨a4, 0, none⟩ = some (.pointer (some ⟨gm, 0, none⟩)) := (blk_cell (blk_below K4.out B8.out) 0).trans rfl
  have k5 : ((w5.alloc (.cells #[.func (.func 36) #[] #[.pointer (some ⟨a5, 0, none⟩), .pointer (some ⟨a4, 0, none⟩)]] 73 (0, 0))).alloc (.cells #[.bool false] 4 (0, 0))).cell? ⟨a5, 0, none⟩ = some (.pointer (some ⟨g, 0, none⟩)) := (blk_cell (blk_below K5.out B8.out) 0).trans rfl
  have k7 : ((w5.alloc (.cells #[.func (.func 36) #[] #[.pointer (some ⟨a5, 0, none⟩), .pointer (some ⟨a4, 0, none⟩)]] 73 (0, 0))).alloc (.cells #[.bool false] 4 (0, 0))).cell? ⟨w5.heap.size, 0, none⟩ = some (.func (.func 36) #[] #[.pointer (some ⟨a5, 0, none⟩), .pointer (some ⟨a4, 0, none⟩)]) := (blk_cell (blk_below (blk_new w5 (.cells #[.func (.func 36) #[] #[.pointer (some ⟨a5, 0, none⟩), .pointer (some ⟨a4, 0, none⟩)]] 73 (0, 0))) (below_alloc (Below.refl _ _) _)) 0).trans rfl
  have k8 : ((w5.alloc (.cells #[.func (.func 36) #[] #[.pointer (some ⟨a5, 0, none⟩), .pointer (some ⟨a4, 0, none⟩)]] 73 (0, 0))).alloc (.cells #[.bool false] 4 (0, 0))).cell? ⟨(w5.heap.size + 1), 0, none⟩ = some (.bool false) := (blk_cell (show ((w5.alloc (.cells #[.func (.func 36) #[] #[.pointer (some ⟨a5, 0, none⟩), .pointer (some ⟨a4, 0, none⟩)]] 73 (0, 0))).alloc (.cells #[.bool false] 4 (0, 0))).heap[w5.heap.size + 1]? = some (.cells #[.bool false] 4 (0, 0)) from by have h := blk_new (w5.alloc (.cells #[.func (.func 36) #[] #[.pointer (some ⟨a5, 0, none⟩), .pointer (some ⟨a4, 0, none⟩)]] 73 (0, 0))) (.cells #[.bool false] 4 (0, 0)); rw [World.size_alloc] at h; exact h) 0).trans rfl
  have HB8 := Aside0.mk (HB.out.trans (B8.out.mono HB.out.size))
  have kcc : ((w5.alloc (.cells #[.func (.func 36) #[] #[.pointer (some ⟨a5, 0, none⟩), .pointer (some ⟨a4, 0, none⟩)]] 73 (0, 0))).alloc (.cells #[.bool false] 4 (0, 0))).cell? ⟨gm, 0, none⟩ = some (.int .u8 6) := (HB8.out.cell (World.block_lt_of_cell? _ _ KC.out)).trans KC.out
  have hmf : ∀ (fn : Fn) (first cap : Array Value) (w : World), (Instr.makeFunc fn first cap).run Try.prog w = .ok (.func fn first cap) w := fun _ _ _ _ => rfl
  go_wp2
  go_ret
  exact ⟨a4, a5, w5.heap.size, (w5.heap.size + 1), rfl, ⟨k4, k5, k7, k8⟩, L4.out, L5.out, HB.out.size, Nat.le_succ_of_le HB.out.size, HB8.out⟩
theorem form_1_16 {w : World} {g gm : Nat} (kc : w.cell? ⟨gm, 0, none⟩ = some (.int .u8 16)) :
    Calls Try.prog 21 #[.int .i64 1, .pointer (some ⟨gm, 0, none⟩), .pointer (some ⟨g, 0, none⟩)] w fun en w' => ∃ a4 a5 a7 a8 : Nat, en = .returned (.func (.func 45) #[] #[.pointer (some ⟨a7, 0, none⟩), .pointer (some ⟨a8, 0, none⟩), .pointer (some ⟨a5, 0, none⟩), .pointer (some ⟨a4, 0, none⟩)]) ∧ (w'.cell? ⟨a4, 0, none⟩ = some (.pointer (some ⟨gm, 0, none⟩)) ∧ w'.cell? ⟨a5, 0, none⟩ = some (.pointer (some ⟨g, 0, none⟩)) ∧ w'.cell? ⟨a7, 0, none⟩ = some (.func (.func 36) #[] #[.pointer (some ⟨a5, 0, none⟩), .pointer (some ⟨a4, 0, none⟩)]) ∧ w'.cell? ⟨a8, 0, none⟩ = some (.bool false)) ∧ w.heap.size ≤ a4 ∧ w.heap.size ≤ a5 ∧ w.heap.size ≤ a7 ∧ w.heap.size ≤ a8 ∧ Below w.heap.size w w' := by
  have KC := Aside0.mk kc
  have HB := Aside0.mk (Below.refl w.heap.size w)
  clear kc
  have hmf : ∀ (fn : Fn) (first cap : Array Value) (w : World), (Instr.makeFunc fn first cap).run Try.prog w = .ok (.func fn first cap) w := fun _ _ _ _ => rfl
  go_enter Try.func21, Try.ntmps21
  go_upto_region 1 with (first | ((with_reducible refine gate_dst (N := 4) rfl ?_); refine box_event ?hg (N := 4) ?hd (cs := #[.pointer (some ⟨gm, 0, none⟩)]) (t := 51) ?hr ?_; (case hd => rfl); (case hg => rfl); (case hr => first | (go_simp; done) | (go_simp; rfl)); intro a4 hg_ w4 h1_ hb_; have K4 := Aside0.mk h1_; have L4 := Aside0.mk (show w.heap.size ≤ a4 from by rw [hg_]; exact HB.out.size); have n0_ := Aside0.mk (HB.out.trans (hb_.mono HB.out.size)); clear HB hb_ h1_ hg_; have HB := n0_; clear n0_) | ((with_reducible refine gate_dst (N := 5) rfl ?_); refine box_event ?hg (N := 5) ?hd (cs := #[.pointer (some ⟨g, 0, none⟩)]) (t := 48) ?hr ?_; (case hd => rfl); (case hg => rfl); (case hr => first | (go_simp; done) | (go_simp; rfl)); intro a5 hg_ w5 h1_ hb_; have K5 := Aside0.mk h1_; have L5 := Aside0.mk (show w.heap.size ≤ a5 from by rw [hg_]; exact HB.out.size); have n0_ := Aside0.mk (blk_below K4.out hb_); clear K4; have K4 := n0_; clear n0_; have n0_ := Aside0.mk (HB.out.trans (hb_.mono HB.out.size)); clear HB hb_ h1_ hg_; have HB := n0_; clear n0_))
  go_upto_region 3 with (fail)
  clear hmf
  have B8 := Aside0.mk (((Below.refl w5.heap.size w5).alloc (Nat.le_refl _) (.cells #[.func (.func 36) #[] #[.pointer (some ⟨a5, 0, none⟩), .pointer (some ⟨a4, 0, none⟩)]] 73 (0, 0))).alloc (by rw [World.size_alloc]; omega) (.cells #[.bool false] 4 (0, 0)))
  have k4 : ((w5.alloc (.cells #[.func (.func 36) #[] #[.pointer (some ⟨a5, 0, none⟩), .pointer (some ⟨a4, 0, none⟩)]] 73 (0, 0))).alloc (.cells #[.bool false] 4 (0, 0))).cell? ⟨a4, 0, none⟩ = some (.pointer (some ⟨gm, 0, none⟩)) := (blk_cell (blk_below K4.out B8.out) 0).trans rfl
  have k5 : ((w5.alloc (.cells #[.func (.func 36) #[] #[.pointer (some ⟨a5, 0, none⟩), .pointer (some ⟨a4, 0, none⟩)]] 73 (0, 0))).alloc (.cells #[.bool false] 4 (0, 0))).cell? ⟨a5, 0, none⟩ = some (.pointer (some ⟨g, 0, none⟩)) := (blk_cell (blk_below K5.out B8.out) 0).trans rfl
  have k7 : ((w5.alloc (.cells #[.func (.func 36) #[] #[.pointer (some ⟨a5, 0, none⟩), .pointer (some ⟨a4, 0, none⟩)]] 73 (0, 0))).alloc (.cells #[.bool false] 4 (0, 0))).cell? ⟨w5.heap.size, 0, none⟩ = some (.func (.func 36) #[] #[.pointer (some ⟨a5, 0, none⟩), .pointer (some ⟨a4, 0, none⟩)]) := (blk_cell (blk_below (blk_new w5 (.cells #[.func (.func 36) #[] #[.pointer (some ⟨a5, 0, none⟩), .pointer (some ⟨a4, 0, none⟩)]] 73 (0, 0))) (below_alloc (Below.refl _ _) _)) 0).trans rfl
  have k8 : ((w5.alloc (.cells #[.func (.func 36) #[] #[.pointer (some ⟨a5, 0, none⟩), .pointer (some ⟨a4, 0, none⟩)]] 73 (0, 0))).alloc (.cells #[.bool false] 4 (0, 0))).cell? ⟨(w5.heap.size + 1), 0, none⟩ = some (.bool false) := (blk_cell (show ((w5.alloc (.cells #[.func (.func 36) #[] #[.pointer (some ⟨a5, 0, none⟩), .pointer (some ⟨a4, 0, none⟩)]] 73 (0, 0))).alloc (.cells #[.bool false] 4 (0, 0))).heap[w5.heap.size + 1]? = some (.cells #[.bool false] 4 (0, 0)) from by have h := blk_new (w5.alloc (.cells #[.func (.func 36) #[] #[.pointer (some ⟨a5, 0, none⟩), .pointer (some ⟨a4, 0, none⟩)]] 73 (0, 0))) (.cells #[.bool false] 4 (0, 0)); rw [World.size_alloc] at h; exact h) 0).trans rfl
  have HB8 := Aside0.mk (HB.out.trans (B8.out.mono HB.out.size))
  have kcc : ((w5.alloc (.cells #[.func (.func 36) #[] #[.pointer (some ⟨a5, 0, none⟩), .pointer (some ⟨a4, 0, none⟩)]] 73 (0, 0))).alloc (.cells #[.bool false] 4 (0, 0))).cell? ⟨gm, 0, none⟩ = some (.int .u8 16) := (HB8.out.cell (World.block_lt_of_cell? _ _ KC.out)).trans KC.out
  have hmf : ∀ (fn : Fn) (first cap : Array Value) (w : World), (Instr.makeFunc fn first cap).run Try.prog w = .ok (.func fn first cap) w := fun _ _ _ _ => rfl
  go_wp2
  go_ret
  exact ⟨a4, a5, w5.heap.size, (w5.heap.size + 1), rfl, ⟨k4, k5, k7, k8⟩, L4.out, L5.out, HB.out.size, Nat.le_succ_of_le HB.out.size, HB8.out⟩
theorem form_1_22 {w : World} {g gm : Nat} (kc : w.cell? ⟨gm, 0, none⟩ = some (.int .u8 22)) :
    Calls Try.prog 21 #[.int .i64 1, .pointer (some ⟨gm, 0, none⟩), .pointer (some ⟨g, 0, none⟩)] w fun en w' => ∃ a4 a5 a7 a8 : Nat, en = .returned (.func (.func 47) #[] #[.pointer (some ⟨a5, 0, none⟩), .pointer (some ⟨a4, 0, none⟩)]) ∧ (w'.cell? ⟨a4, 0, none⟩ = some (.pointer (some ⟨gm, 0, none⟩)) ∧ w'.cell? ⟨a5, 0, none⟩ = some (.pointer (some ⟨g, 0, none⟩)) ∧ w'.cell? ⟨a7, 0, none⟩ = some (.func (.func 36) #[] #[.pointer (some ⟨a5, 0, none⟩), .pointer (some ⟨a4, 0, none⟩)]) ∧ w'.cell? ⟨a8, 0, none⟩ = some (.bool false)) ∧ w.heap.size ≤ a4 ∧ w.heap.size ≤ a5 ∧ w.heap.size ≤ a7 ∧ w.heap.size ≤ a8 ∧ Below w.heap.size w w' := by
  have KC := Aside0.mk kc
  have HB := Aside0.mk (Below.refl w.heap.size w)
  clear kc
  have hmf : ∀ (fn : Fn) (first cap : Array Value) (w : World), (Instr.makeFunc fn first cap).run Try.prog w = .ok (.func fn first cap) w := fun _ _ _ _ => rfl
  go_enter Try.func21, Try.ntmps21
  go_upto_region 1 with (first | ((with_reducible refine gate_dst (N := 4) rfl ?_); refine box_event ?hg (N := 4) ?hd (cs := #[.pointer (some ⟨gm, 0, none⟩)]) (t := 51) ?hr ?_; (case hd => rfl); (case hg => rfl); (case hr => first | (go_simp; done) | (go_simp; rfl)); intro a4 hg_ w4 h1_ hb_; have K4 := Aside0.mk h1_; have L4 := Aside0.mk (show w.heap.size ≤ a4 from by rw [hg_]; exact HB.out.size); have n0_ := Aside0.mk (HB.out.trans (hb_.mono HB.out.size)); clear HB hb_ h1_ hg_; have HB := n0_; clear n0_) | ((with_reducible refine gate_dst (N := 5) rfl ?_); refine box_event ?hg (N := 5) ?hd (cs := #[.pointer (some ⟨g, 0, none⟩)]) (t := 48) ?hr ?_; (case hd => rfl); (case hg => rfl); (case hr => first | (go_simp; done) | (go_simp; rfl)); intro a5 hg_ w5 h1_ hb_; have K5 := Aside0.mk h1_; have L5 := Aside0.mk (show w.heap.size ≤ a5 from by rw [hg_]; exact HB.out.size); have n0_ := Aside0.mk (blk_below K4.out hb_); clear K4; have K4 := n0_; clear n0_; have n0_ := Aside0.mk (HB.out.trans (hb_.mono HB.out.size)); clear HB hb_ h1_ hg_; have HB := n0_; clear n0_))
  go_upto_region 3 with (fail)
  clear hmf
  have B8 := Aside0.mk (((Below.refl w5.heap.size w5).alloc (Nat.le_refl _) (.cells #[.func (.func 36) #[] #[.pointer (some ⟨a5, 0, none⟩), .pointer (some ⟨a4, 0, none⟩)]] 73 (0, 0))).alloc (by rw [World.size_alloc]; omega) (.cells #[.bool false] 4 (0, 0)))
  have k4 : ((w5.alloc (.cells #[.func (.func 36) #[] #[.pointer (some ⟨a5, 0, none⟩), .pointer (some ⟨a4, 0, none⟩)]] 73 (0, 0))).alloc (.cells #[.bool false] 4 (0, 0))).cell? ⟨a4, 0, none⟩ = some (.pointer (some ⟨gm, 0, none⟩)) := (blk_cell (blk_below K4.out B8.out) 0).trans rfl
  have k5 : ((w5.alloc (.cells #[.func (.func 36) #[] #[.pointer (some ⟨a5, 0, none⟩), .pointer (some ⟨a4, 0, none⟩)]] 73 (0, 0))).alloc (.cells #[.bool false] 4 (0, 0))).cell? ⟨a5, 0, none⟩ = some (.pointer (some ⟨g, 0, none⟩)) := (blk_cell (blk_below K5.out B8.out) 0).trans rfl
  have k7 : ((w5.alloc (.cells #[.func (.func 36) #[] #[.pointer (some ⟨a5, 0, none⟩), .pointer (some ⟨a4, 0, none⟩)]] 73 (0, 0))).alloc (.cells #[.bool false] 4 (0, 0))).cell? ⟨w5.heap.size, 0, none⟩ = some (.func (.func 36) #[] #[.pointer (some ⟨a5, 0, none⟩), .pointer (some ⟨a4, 0, none⟩)]) := (blk_cell (blk_below (blk_new w5 (.cells #[.func (.func 36) #[] #[.pointer (some ⟨a5, 0, none⟩), .pointer (some ⟨a4, 0, none⟩)]] 73 (0, 0))) (below_alloc (Below.refl _ _) _)) 0).trans rfl
  have k8 : ((w5.alloc (.cells #[.func (.func 36) #[] #[.pointer (some ⟨a5, 0, none⟩), .pointer (some ⟨a4, 0, none⟩)]] 73 (0, 0))).alloc (.cells #[.bool false] 4 (0, 0))).cell? ⟨(w5.heap.size + 1), 0, none⟩ = some (.bool false) := (blk_cell (show ((w5.alloc (.cells #[.func (.func 36) #[] #[.pointer (some ⟨a5, 0, none⟩), .pointer (some ⟨a4, 0, none⟩)]] 73 (0, 0))).alloc (.cells #[.bool false] 4 (0, 0))).heap[w5.heap.size + 1]? = some (.cells #[.bool false] 4 (0, 0)) from by have h := blk_new (w5.alloc (.cells #[.func (.func 36) #[] #[.pointer (some ⟨a5, 0, none⟩), .pointer (some ⟨a4, 0, none⟩)]] 73 (0, 0))) (.cells #[.bool false] 4 (0, 0)); rw [World.size_alloc] at h; exact h) 0).trans rfl
  have HB8 := Aside0.mk (HB.out.trans (B8.out.mono HB.out.size))
  have kcc : ((w5.alloc (.cells #[.func (.func 36) #[] #[.pointer (some ⟨a5, 0, none⟩), .pointer (some ⟨a4, 0, none⟩)]] 73 (0, 0))).alloc (.cells #[.bool false] 4 (0, 0))).cell? ⟨gm, 0, none⟩ = some (.int .u8 22) := (HB8.out.cell (World.block_lt_of_cell? _ _ KC.out)).trans KC.out
  have hmf : ∀ (fn : Fn) (first cap : Array Value) (w : World), (Instr.makeFunc fn first cap).run Try.prog w = .ok (.func fn first cap) w := fun _ _ _ _ => rfl
  go_wp2
  go_ret
  exact ⟨a4, a5, w5.heap.size, (w5.heap.size + 1), rfl, ⟨k4, k5, k7, k8⟩, L4.out, L5.out, HB.out.size, Nat.le_succ_of_le HB.out.size, HB8.out⟩
theorem form_1_23 {w : World} {g gm : Nat} (kc : w.cell? ⟨gm, 0, none⟩ = some (.int .u8 23)) :
    Calls Try.prog 21 #[.int .i64 1, .pointer (some ⟨gm, 0, none⟩), .pointer (some ⟨g, 0, none⟩)] w fun en w' => ∃ a4 a5 a7 a8 : Nat, en = .returned (.func (.func 40) #[] #[.pointer (some ⟨a5, 0, none⟩), .pointer (some ⟨a4, 0, none⟩)]) ∧ (w'.cell? ⟨a4, 0, none⟩ = some (.pointer (some ⟨gm, 0, none⟩)) ∧ w'.cell? ⟨a5, 0, none⟩ = some (.pointer (some ⟨g, 0, none⟩)) ∧ w'.cell? ⟨a7, 0, none⟩ = some (.func (.func 36) #[] #[.pointer (some ⟨a5, 0, none⟩), .pointer (some ⟨a4, 0, none⟩)]) ∧ w'.cell? ⟨a8, 0, none⟩ = some (.bool false)) ∧ w.heap.size ≤ a4 ∧ w.heap.size ≤ a5 ∧ w.heap.size ≤ a7 ∧ w.heap.size ≤ a8 ∧ Below w.heap.size w w' := by
  have KC := Aside0.mk kc
  have HB := Aside0.mk (Below.refl w.heap.size w)
  clear kc
  have hmf : ∀ (fn : Fn) (first cap : Array Value) (w : World), (Instr.makeFunc fn first cap).run Try.prog w = .ok (.func fn first cap) w := fun _ _ _ _ => rfl
  go_enter Try.func21, Try.ntmps21
  go_upto_region 1 with (first | ((with_reducible refine gate_dst (N := 4) rfl ?_); refine box_event ?hg (N := 4) ?hd (cs := #[.pointer (some ⟨gm, 0, none⟩)]) (t := 51) ?hr ?_; (case hd => rfl); (case hg => rfl); (case hr => first | (go_simp; done) | (go_simp; rfl)); intro a4 hg_ w4 h1_ hb_; have K4 := Aside0.mk h1_; have L4 := Aside0.mk (show w.heap.size ≤ a4 from by rw [hg_]; exact HB.out.size); have n0_ := Aside0.mk (HB.out.trans (hb_.mono HB.out.size)); clear HB hb_ h1_ hg_; have HB := n0_; clear n0_) | ((with_reducible refine gate_dst (N := 5) rfl ?_); refine box_event ?hg (N := 5) ?hd (cs := #[.pointer (some ⟨g, 0, none⟩)]) (t := 48) ?hr ?_; (case hd => rfl); (case hg => rfl); (case hr => first | (go_simp; done) | (go_simp; rfl)); intro a5 hg_ w5 h1_ hb_; have K5 := Aside0.mk h1_; have L5 := Aside0.mk (show w.heap.size ≤ a5 from by rw [hg_]; exact HB.out.size); have n0_ := Aside0.mk (blk_below K4.out hb_); clear K4; have K4 := n0_; clear n0_; have n0_ := Aside0.mk (HB.out.trans (hb_.mono HB.out.size)); clear HB hb_ h1_ hg_; have HB := n0_; clear n0_))
  go_upto_region 3 with (fail)
  clear hmf
  have B8 := Aside0.mk (((Below.refl w5.heap.size w5).alloc (Nat.le_refl _) (.cells #[.func (.func 36) #[] #[.pointer (some ⟨a5, 0, none⟩), .pointer (some ⟨a4, 0, none⟩)]] 73 (0, 0))).alloc (by rw [World.size_alloc]; omega) (.cells #[.bool false] 4 (0, 0)))
  have k4 : ((w5.alloc (.cells #[.func (.func 36) #[] #[.pointer (some ⟨a5, 0, none⟩), .pointer (some ⟨a4, 0, none⟩)]] 73 (0, 0))).alloc (.cells #[.bool false] 4 (0, 0))).cell? ⟨a4, 0, none⟩ = some (.pointer (some ⟨gm, 0, none⟩)) := (blk_cell (blk_below K4.out B8.out) 0).trans rfl
  have k5 : ((w5.alloc (.cells #[.func (.func 36) #[] #[.pointer (some ⟨a5, 0, none⟩), .pointer (some ⟨a4, 0, none⟩)]] 73 (0, 0))).alloc (.cells #[.bool false] 4 (0, 0))).cell? ⟨a5, 0, none⟩ = some (.pointer (some ⟨g, 0, none⟩)) := (blk_cell (blk_below K5.out B8.out) 0).trans rfl
  have k7 : ((w5.alloc (.cells #[.func (.func 36) #[] #[.pointer (some ⟨a5, 0, none⟩), .pointer (some ⟨a4, 0, none⟩)]] 73 (0, 0))).alloc (.cells #[.bool false] 4 (0, 0))).cell? ⟨w5.heap.size, 0, none⟩ = some (.func (.func 36) #[] #[.pointer (some ⟨a5, 0, none⟩), .pointer (some ⟨a4, 0, none⟩)]) := (blk_cell (blk_below (blk_new w5 (.cells #[.func (.func 36) #[] #[.pointer (some ⟨a5, 0, none⟩), .pointer (some ⟨a4, 0, none⟩)]] 73 (0, 0))) (below_alloc (Below.refl _ _) _)) 0).trans rfl
  have k8 : ((w5.alloc (.cells #[.func (.func 36) #[] #[.pointer (some ⟨a5, 0, none⟩), .pointer (some ⟨a4, 0, none⟩)]] 73 (0, 0))).alloc (.cells #[.bool false] 4 (0, 0))).cell? ⟨(w5.heap.size + 1), 0, none⟩ = some (.bool false) := (blk_cell (show ((w5.alloc (.cells #[.func (.func 36) #[] #[.pointer (some ⟨a5, 0, none⟩), .pointer (some ⟨a4, 0, none⟩)]] 73 (0, 0))).alloc (.cells #[.bool false] 4 (0, 0))).heap[w5.heap.size + 1]? = some (.cells #[.bool false] 4 (0, 0)) from by have h := blk_new (w5.alloc (.cells #[.func (.func 36) #[] #[.pointer (some ⟨a5, 0, none⟩), .pointer (some ⟨a4, 0, none⟩)]] 73 (0, 0))) (.cells #[.bool false] 4 (0, 0)); rw [World.size_alloc] at h; exact h) 0).trans rfl
  have HB8 := Aside0.mk (HB.out.trans (B8.out.mono HB.out.size))
  have kcc : ((w5.alloc (.cells #[.func (.func 36) #[] #[.pointer (some ⟨a5, 0, none⟩), .pointer (some ⟨a4, 0, none⟩)]] 73 (0, 0))).alloc (.cells #[.bool false] 4 (0, 0))).cell? ⟨gm, 0, none⟩ = some (.int .u8 23) := (HB8.out.cell (World.block_lt_of_cell? _ _ KC.out)).trans KC.out
  have hmf : ∀ (fn : Fn) (first cap : Array Value) (w : World), (Instr.makeFunc fn first cap).run Try.prog w = .ok (.func fn first cap) w := fun _ _ _ _ => rfl
  go_wp2
  go_ret
  exact ⟨a4, a5, w5.heap.size, (w5.heap.size + 1), rfl, ⟨k4, k5, k7, k8⟩, L4.out, L5.out, HB.out.size, Nat.le_succ_of_le HB.out.size, HB8.out⟩
theorem form_1_24 {w : World} {g gm : Nat} (kc : w.cell? ⟨gm, 0, none⟩ = some (.int .u8 24)) :
    Calls Try.prog 21 #[.int .i64 1, .pointer (some ⟨gm, 0, none⟩), .pointer (some ⟨g, 0, none⟩)] w fun en w' => ∃ a4 a5 a7 a8 : Nat, en = .returned (.func (.func 50) #[] #[.pointer (some ⟨a5, 0, none⟩), .pointer (some ⟨a4, 0, none⟩)]) ∧ (w'.cell? ⟨a4, 0, none⟩ = some (.pointer (some ⟨gm, 0, none⟩)) ∧ w'.cell? ⟨a5, 0, none⟩ = some (.pointer (some ⟨g, 0, none⟩)) ∧ w'.cell? ⟨a7, 0, none⟩ = some (.func (.func 36) #[] #[.pointer (some ⟨a5, 0, none⟩), .pointer (some ⟨a4, 0, none⟩)]) ∧ w'.cell? ⟨a8, 0, none⟩ = some (.bool false)) ∧ w.heap.size ≤ a4 ∧ w.heap.size ≤ a5 ∧ w.heap.size ≤ a7 ∧ w.heap.size ≤ a8 ∧ Below w.heap.size w w' := by
  have KC := Aside0.mk kc
  have HB := Aside0.mk (Below.refl w.heap.size w)
  clear kc
  have hmf : ∀ (fn : Fn) (first cap : Array Value) (w : World), (Instr.makeFunc fn first cap).run Try.prog w = .ok (.func fn first cap) w := fun _ _ _ _ => rfl
  go_enter Try.func21, Try.ntmps21
  go_upto_region 1 with (first | ((with_reducible refine gate_dst (N := 4) rfl ?_); refine box_event ?hg (N := 4) ?hd (cs := #[.pointer (some ⟨gm, 0, none⟩)]) (t := 51) ?hr ?_; (case hd => rfl); (case hg => rfl); (case hr => first | (go_simp; done) | (go_simp; rfl)); intro a4 hg_ w4 h1_ hb_; have K4 := Aside0.mk h1_; have L4 := Aside0.mk (show w.heap.size ≤ a4 from by rw [hg_]; exact HB.out.size); have n0_ := Aside0.mk (HB.out.trans (hb_.mono HB.out.size)); clear HB hb_ h1_ hg_; have HB := n0_; clear n0_) | ((with_reducible refine gate_dst (N := 5) rfl ?_); refine box_event ?hg (N := 5) ?hd (cs := #[.pointer (some ⟨g, 0, none⟩)]) (t := 48) ?hr ?_; (case hd => rfl); (case hg => rfl); (case hr => first | (go_simp; done) | (go_simp; rfl)); intro a5 hg_ w5 h1_ hb_; have K5 := Aside0.mk h1_; have L5 := Aside0.mk (show w.heap.size ≤ a5 from by rw [hg_]; exact HB.out.size); have n0_ := Aside0.mk (blk_below K4.out hb_); clear K4; have K4 := n0_; clear n0_; have n0_ := Aside0.mk (HB.out.trans (hb_.mono HB.out.size)); clear HB hb_ h1_ hg_; have HB := n0_; clear n0_))
  go_upto_region 3 with (fail)
  clear hmf
  have B8 := Aside0.mk (((Below.refl w5.heap.size w5).alloc (Nat.le_refl _) (.cells #[.func (.func 36) #[] #[.pointer (some ⟨a5, 0, none⟩), .pointer (some ⟨a4, 0, none⟩)]] 73 (0, 0))).alloc (by rw [World.size_alloc]; omega) (.cells #[.bool false] 4 (0, 0)))
  have k4 : ((w5.alloc (.cells #[.func (.func 36) #[] #[.pointer (some ⟨a5, 0, none⟩), .pointer (some ⟨a4, 0, none⟩)]] 73 (0, 0))).alloc (.cells #[.bool false] 4 (0, 0))).cell? ⟨a4, 0, none⟩ = some (.pointer (some ⟨gm, 0, none⟩)) := (blk_cell (blk_below K4.out B8.out) 0).trans rfl
  have k5 : ((w5.alloc (.cells #[.func (.func 36) #[] #[.pointer (some ⟨a5, 0, none⟩), .pointer (some ⟨a4, 0, none⟩)]] 73 (0, 0))).alloc (.cells #[.bool false] 4 (0, 0))).cell? ⟨a5, 0, none⟩ = some (.pointer (some ⟨g, 0, none⟩)) := (blk_cell (blk_below K5.out B8.out) 0).trans rfl
  have k7 : ((w5.alloc (.cells #[.func (.func 36) #[] #[.pointer (some ⟨a5, 0, none⟩), .pointer (some ⟨a4, 0, none⟩)]] 73 (0, 0))).alloc (.cells #[.bool false] 4 (0, 0))).cell? ⟨w5.heap.size, 0, none⟩ = some (.func (.func 36) #[] #[.pointer (some ⟨a5, 0, none⟩), .pointer (some ⟨a4, 0, none⟩)]) := (blk_cell (blk_below (blk_new w5 (.cells #[.func (.func 36) #[] #[.pointer (some ⟨a5, 0, none⟩), .pointer (some ⟨a4, 0, none⟩)]] 73 (0, 0))) (below_alloc (Below.refl _ _) _)) 0).trans rfl
  have k8 : ((w5.alloc (.cells #[.func (.func 36) #[] #[.pointer (some ⟨a5, 0, none⟩), .pointer (some ⟨a4, 0, none⟩)]] 73 (0, 0))).alloc (.cells #[.bool false] 4 (0, 0))).cell? ⟨(w5.heap.size + 1), 0, none⟩ = some (.bool false) := (blk_cell (show ((w5.alloc (.cells #[.func (.func 36) #[] #[.pointer (some ⟨a5, 0, none⟩), .pointer (some ⟨a4, 0, none⟩)]] 73 (0, 0))).alloc (.cells #[.bool false] 4 (0, 0))).heap[w5.heap.size + 1]? = some (.cells #[.bool false] 4 (0, 0)) from by have h := blk_new (w5.alloc (.cells #[.func (.func 36) #[] #[.pointer (some ⟨a5, 0, none⟩), .pointer (some ⟨a4, 0, none⟩)]] 73 (0, 0))) (.cells #[.bool false] 4 (0, 0)); rw [World.size_alloc] at h; exact h) 0).trans rfl
  have HB8 := Aside0.mk (HB.out.trans (B8.out.mono HB.out.size))
  have kcc : ((w5.alloc (.cells #[.func (.func 36) #[] #[.pointer (some ⟨a5, 0, none⟩), .pointer (some ⟨a4, 0, none⟩)]] 73 (0, 0))).alloc (.cells #[.bool false] 4 (0, 0))).cell? ⟨gm, 0, none⟩ = some (.int .u8 24) := (HB8.out.cell (World.block_lt_of_cell? _ _ KC.out)).trans KC.out
  have hmf : ∀ (fn : Fn) (first cap : Array Value) (w : World), (Instr.makeFunc fn first cap).run Try.prog w = .ok (.func fn first cap) w := fun _ _ _ _ => rfl
  go_wp2
  go_ret
  exact ⟨a4, a5, w5.heap.size, (w5.heap.size + 1), rfl, ⟨k4, k5, k7, k8⟩, L4.out, L5.out, HB.out.size, Nat.le_succ_of_le HB.out.size, HB8.out⟩
theorem St_first {w0 w1 w2 w3 : World} {gr gm g : Nat} {cx : Array Value} {m : Msg} {c : Cu} (hg : gr = w0.heap.size) (hk : w1.heap[gr]? = some (.cells zeroC 30 (0, 0))) (hb : Below w0.heap.size w0 w1) (hm : gm = w1.heap.size) (hk2 : w2.heap[gm]? = some (.cells cx 30 (0, 0))) (hb2 : Below w1.heap.size w1 w2) (M : ∀ W, IsMsg W cx m) (nl : NilL cx)
    (h1 : w2.heap.size ≤ g) (hc : PAt w2.heap.size g w3 g c) (h2 : Below w2.heap.size w2 w3) : PS.St w0 gr g gm w3 c m := by
  have l1 := blk_lt hk
  have l2 := blk_lt hk2
  have s0 := hb.size
  have s1 := hb2.size
  exact ⟨hb.trans ((hb2.mono hb.size).trans (h2.mono (Nat.le_trans hb.size hb2.size))), ⟨w2.heap.size, g, hc, .inl l2, .inl (by omega)⟩, ⟨cx, blk_below hk2 h2, fun W' _ => M W'⟩, blk_below (blk_below hk hb2) h2, ⟨by omega, by omega, by omega⟩, ⟨by omega, by omega, by omega⟩, ⟨cx, blk_below hk2 h2, nl⟩⟩
theorem parse_dir {A : Option Addr} {c : Nat} {l : List Int} {w0 : World} (hr : Kd.C (Kd.int .u8) w0 A l.length l) (hc : l.length ≤ c) (hs : l.length ≤ 1000000) (hb : isBytes l) {dir code : Int} (h0 : dir ≠ 0) (h1 : dir ≠ 1) :
    Calls Try.prog 12 #[.int .i64 dir, .int .u8 code, .slice A l.length c] w0 fun en w' => ∃ cx, en = .returned (.tuple #[.agg cx, .int .i64 1]) ∧ IsMsg w' cx zeroM ∧ Below w0.heap.size w0 w' := by
  clear hr hc hs hb
  have H := Aside0.mk (Held.start w0)
  have e0 : (dir != 0) = true := by simpa using h0
  have e1 : (dir != 1) = true := by simpa using h1
  have e0' : (dir == 0) = false := by simpa using h0
  have e1' : (dir == 1) = false := by simpa using h1
  clear h0 h1
  go_enter Try.func12, Try.ntmps12
  go_wp2_with (first | ((with_reducible refine gate_dst (N := 6) rfl ?_); refine ev_alloc rfl rfl ?_; intro g w1 hg_ h1_ h2_; have n0_ := Aside0.mk (H.out.new hg_ h1_ h2_); clear H; have H := n0_; clear n0_; clear h1_ h2_ hg_) | ((with_reducible refine gate_dst (N := 18) rfl ?_); refine ev_build (zeroC) rfl (by go_simp; first | rfl | done) ?_; intro cx hcx_; have M := Aside0.mk (show ∀ W, IsMsg W cx _ from fun W => by rw [hcx_]; exact zero_is W); clear hcx_) | ((with_reducible refine gate_op (u := .store 30 (.tmp 6) (.tmp 18)) rfl ?_); refine ev_store rfl rfl rfl rfl H.out (i := 0) rfl (rfl) (M.out w0) ?_; intro w2 h3_ h4_; have n0_ := Aside0.mk (h3_); clear H; have H := n0_; clear n0_; clear h3_ h4_))
  refine bodyPost_ret (results_ct rfl _ _ g 30 cx (0, 0) _ rfl (H.out.at 0 rfl) Try.underlying30 rfl (msg_info ((M.out w0).size))) rfl (⟨cx, rfl, M.out _, H.out.b⟩)
theorem parse_no0 {A : Option Addr} {c : Nat} {l : List Int} {w0 : World} (hr : Kd.C (Kd.int .u8) w0 A l.length l) (hc : l.length ≤ c) (hs : l.length ≤ 1000000) (hb : isBytes l) {code : Int} (hcd : 0 ≤ code ∧ code < 256) (hk : ¬ isCode code) :
    Calls Try.prog 12 #[.int .i64 0, .int .u8 code, .slice A l.length c] w0 fun en w' => ∃ cx, en = .returned (.tuple #[.agg cx, .int .i64 4]) ∧ IsMsg w' cx zeroM ∧ Below w0.heap.size w0 w' := by
  have HR := Aside0.mk hr
  have HC := Aside0.mk hc
  have HS := Aside0.mk hs
  have HBB := Aside0.mk hb
  clear hr hc hs hb
  have HKB := Aside0.mk hcd
  have HKN := Aside0.mk hk
  clear hcd hk
  go_enter Try.func12, Try.ntmps12
  go_upto_region 3 with (first | ((with_reducible refine gate_dst (N := 6) rfl ?_); refine ev_alloc rfl rfl ?_; intro gr w1 hg_ h1_ h2_; have HG := Aside0.mk hg_; have H1 := Aside0.mk h1_; have H2 := Aside0.mk h2_; clear hg_ h1_ h2_))
  go_upto_region 4 with (first | ((with_reducible refine gate_dst (N := 20) rfl ?_); refine ev_build ((zeroC.setIfInBounds 0 (.int .u8 (code)))) rfl (by go_simp; first | rfl | done) ?_; intro cx hcx_; have M := Aside0.mk (show ∀ W, IsMsg W cx _ from fun W => by rw [hcx_]; exact (fun W => set_code (zero_is W) (v := code) ⟨by have := HKB.out; omega, by have := HKB.out; omega⟩) W); have NL := Aside0.mk (show NilL cx by rw [hcx_]; exact PS.zero_nil.set (by decide)); clear hcx_) | ((with_reducible refine gate_dst (N := 8) rfl ?_); refine ev_var (y := .tmp 20) rfl rfl rfl rfl rfl (M.out w0) rfl rfl ?_; intro gm w2 hg_ h1_ hb_; have HM1 := Aside0.mk hg_; have HM2 := Aside0.mk h1_; have HM3 := Aside0.mk hb_; clear h1_ hb_ hg_))
  go_upto_region 5 with (first | (go_at_call 20; (with_reducible refine (p_new A c l _ (Kd.C_below HR.out (H2.out.trans (HM3.out.mono H2.out.size))) HC.out HS.out HBB.out).mono ?_); rintro en w3 ⟨g, rfl, q1_, q2_, q3_, q4_⟩; have HP := Aside0.mk (St_first HG.out H1.out H2.out HM1.out HM2.out HM3.out M.out NL.out q1_ q2_ q3_); clear q1_ q2_ q3_ q4_ H1 H2 HG HM1 HM2 HM3))
  go_upto_region 6 with (first | (go_at_call 21; (with_reducible refine (form_0_no HKN.out (PS.St.at_code HP.out).1).mono ?_); rintro en w4 ⟨a4, a5, a7, a8, rfl, ⟨f4_, f5_, f7_, f8_⟩, l4_, l5_, l7_, l8_, hb_⟩; have hl_ := PS.Sk.lt (PS.Sk.start HP.out); have F4 := Aside0.mk f4_; have F5 := Aside0.mk f5_; have F7 := Aside0.mk f7_; have F8 := Aside0.mk f8_; have F4g : a4 ≠ g := (by omega); have F4m : a4 ≠ gm := (by omega); have F5g : a5 ≠ g := (by omega); have F5m : a5 ≠ gm := (by omega); have F7g : a7 ≠ g := (by omega); have F7m : a7 ≠ gm := (by omega); have F8g : a8 ≠ g := (by omega); have F8m : a8 ≠ gm := (by omega); have n0_ := Aside0.mk (PS.St.below HP.out hb_); clear HP hb_ f4_ f5_ f7_ f8_ l4_ l5_ l7_ l8_ hl_; have HP := n0_; clear n0_))
  have hef := eq_nilf
  have H := Aside0.mk (PS.St.held HP.out)
  clear HP NL F4g F4m F5g F5m F7g F7m F8g F8m F4 F5 F7 F8
  go_wp2_with (first | ((with_reducible refine gate_dst (N := 28) rfl ?_); refine ev_build (zeroC) rfl (by go_simp; first | rfl | done) ?_; intro cx hcx_; have M := Aside0.mk (show ∀ W, IsMsg W cx _ from fun W => by rw [hcx_]; exact zero_is W); clear hcx_) | ((with_reducible refine gate_op (u := .store 30 (.tmp 6) (.tmp 28)) rfl ?_); refine ev_store rfl rfl rfl rfl H.out (i := 0) rfl (rfl) (M.out w0) ?_; intro w99 h3_ h4_; have n0_ := Aside0.mk (h3_); clear H; have H := n0_; clear n0_; clear h3_ h4_))
  refine bodyPost_ret (results_ct rfl _ _ gr 30 _ (0, 0) _ rfl (H.out.at 0 rfl) Try.underlying30 rfl (msg_info ((M.out w0).size))) rfl (⟨_, rfl, M.out _, H.out.b⟩)
theorem parse_0_3 {A : Option Addr} {c : Nat} {l : List Int} {w0 : World} (hr : Kd.C (Kd.int .u8) w0 A l.length l) (hc : l.length ≤ c) (hs : l.length ≤ 1000000) (hb : isBytes l) :
    Calls Try.prog 12 #[.int .i64 0, .int .u8 3, .slice A l.length c] w0 fun en w' => ∃ cx, en = .returned (.tuple #[.agg cx, .int .i64 (parse 0 3 l).2]) ∧ IsMsg w' cx (parse 0 3 l).1 ∧ Below w0.heap.size w0 w' := by
  have HR := Aside0.mk hr
  have HC := Aside0.mk hc
  have HS := Aside0.mk hs
  have HBB := Aside0.mk hb
  clear hr hc hs hb
  go_enter Try.func12, Try.ntmps12
  go_upto_region 3 with (first | ((with_reducible refine gate_dst (N := 6) rfl ?_); refine ev_alloc rfl rfl ?_; intro gr w1 hg_ h1_ h2_; have HG := Aside0.mk hg_; have H1 := Aside0.mk h1_; have H2 := Aside0.mk h2_; clear hg_ h1_ h2_))
  go_upto_region 4 with (first | ((with_reducible refine gate_dst (N := 20) rfl ?_); refine ev_build ((zeroC.setIfInBounds 0 (.int .u8 (3)))) rfl (by go_simp; first | rfl | done) ?_; intro cx hcx_; have M := Aside0.mk (show ∀ W, IsMsg W cx _ from fun W => by rw [hcx_]; exact (fun W => set_code (zero_is W) (v := 3) (by decide)) W); have NL := Aside0.mk (show NilL cx by rw [hcx_]; exact PS.zero_nil.set (by decide)); clear hcx_) | ((with_reducible refine gate_dst (N := 8) rfl ?_); refine ev_var (y := .tmp 20) rfl rfl rfl rfl rfl (M.out w0) rfl rfl ?_; intro gm w2 hg_ h1_ hb_; have HM1 := Aside0.mk hg_; have HM2 := Aside0.mk h1_; have HM3 := Aside0.mk hb_; clear h1_ hb_ hg_))
  go_upto_region 5 with (first | (go_at_call 20; (with_reducible refine (p_new A c l _ (Kd.C_below HR.out (H2.out.trans (HM3.out.mono H2.out.size))) HC.out HS.out HBB.out).mono ?_); rintro en w3 ⟨g, rfl, q1_, q2_, q3_, q4_⟩; have HP := Aside0.mk (St_first HG.out H1.out H2.out HM1.out HM2.out HM3.out M.out NL.out q1_ q2_ q3_); clear q1_ q2_ q3_ q4_ H1 H2 HG HM1 HM2 HM3))
  go_upto_region 6 with (first | (go_at_call 21; (with_reducible refine (form_0_3 (PS.St.at_code HP.out).1).mono ?_); rintro en w4 ⟨a4, a5, a7, a8, rfl, ⟨f4_, f5_, f7_, f8_⟩, l4_, l5_, l7_, l8_, hb_⟩; have hl_ := PS.Sk.lt (PS.Sk.start HP.out); have F4 := Aside0.mk f4_; have F5 := Aside0.mk f5_; have F7 := Aside0.mk f7_; have F8 := Aside0.mk f8_; have F4g : a4 ≠ g := (by omega); have F4m : a4 ≠ gm := (by omega); have F5g : a5 ≠ g := (by omega); have F5m : a5 ≠ gm := (by omega); have F7g : a7 ≠ g := (by omega); have F7m : a7 ≠ gm := (by omega); have F8g : a8 ≠ g := (by omega); have F8m : a8 ≠ gm := (by omega); have n0_ := Aside0.mk (PS.St.below HP.out hb_); clear HP hb_ f4_ f5_ f7_ f8_ l4_ l5_ l7_ l8_ hl_; have HP := n0_; clear n0_))
  have hef := eq_func
  go_upto_region 8 with (fail)
  clear hef
  obtain ⟨m0, hm0⟩ : ∃ z, z = ({ zeroM with code := 3 } : Msg) := ⟨_, rfl⟩
  rw [← hm0] at HP
  have HM0 := Aside0.mk hm0
  have HMC := Aside0.mk (show m0.code = 3 by rw [hm0])
  clear hm0 M NL
  have n0_ := Aside0.mk (PS.Sk.start HP.out)
  clear HP
  have HP := n0_
  clear n0_
  go_upto_region 9 with (first | (go_at_call 39; (with_reducible refine (asks_any HP.out F5.out F5g F5m F4.out F4g F4m F7.out F7g F7m).mono ?_); rintro en w6 ⟨rfl, hp_⟩; obtain ⟨cb, e_⟩ : ∃ z, z = whereR 125 m0 ⟨l, false, 0⟩ := ⟨_, rfl⟩; rw [← e_] at hp_; obtain ⟨c9, m9⟩ := cb; have EB := Aside0.mk e_; clear e_; have n0_ := Aside0.mk hp_; clear HP hp_; have HP := n0_; clear n0_))
  replace HP : Aside0 (PS.Sk w4 w0 gr g gm w6 c9 m9) := HP
  have n0_ := Aside0.mk HP.out.st
  clear HP F4g F4m F5g F5m F7g F7m F8g F8m F4 F5 F7 F8
  have HP := n0_
  clear n0_
  have E2 := Aside0.mk (show bodyR 0 m0 (cu l) = (c9, m9) from by
    unfold bodyR
    rw [if_pos (by have := HMC.out; omega)]
    rw [if_pos (by decide)]
    rw [EB.out]
    rfl)
  go_upto_region 10 with (first | (go_at_call 22; (with_reducible refine (PS.St.fin HP.out).mono ?_); rintro en x1 ⟨rfl, hp_⟩; obtain ⟨c10, ec_⟩ : ∃ z, z = c9.fin := ⟨_, rfl⟩; rw [← ec_] at hp_; have Ec10 := Aside0.mk ec_; clear ec_; have n0_ := Aside0.mk hp_; clear HP hp_; have HP := n0_; clear n0_))
  go_upto_region 11 with (first | (go_at_call 23; (with_reducible refine (PS.St.err HP.out).mono ?_); rintro en x2 ⟨rfl, hp_⟩; have n0_ := Aside0.mk hp_; clear HP hp_; have HP := n0_; clear n0_))
  have he1 : parse 0 3 l = if c10.e ≠ 0 then (zeroM, c10.e) else (m9, 0) := by
    unfold parse
    rw [if_neg (by decide), if_neg (by decide), ← HM0.out, E2.out, Ec10.out]
  by_cases h9 : c10.e = 0
  · have ex_ : parse 0 3 l = (m9, 0) := by rw [he1, if_neg (fun h => h h9)]
    have EX := Aside0.mk ex_
    have g1 : (c10.e != 0) = false := by rw [h9]; rfl
    have g2 : (c10.e == 0) = true := by rw [h9]; rfl
    clear h9 ex_ he1
    obtain ⟨cx, h_, hz_, hm_⟩ := PS.St.held2 HP.out
    have H := Aside0.mk h_
    have HZ := Aside0.mk hz_
    have HM := Aside0.mk hm_
    have HB := Aside0.mk HP.out.b
    clear h_ hz_ hm_ HP
    go_wp2_with (first | ((with_reducible refine gate_dst (N := 39) rfl ?_); refine ev_load (x := .tmp 8) rfl rfl rfl H.out (i := 1) rfl (HZ.out) ?_) | ((with_reducible refine gate_op (u := .store 30 (.tmp 6) (.tmp 39)) rfl ?_); refine ev_store rfl rfl rfl rfl H.out (i := 0) rfl rfl (HM.out _ ⟨rfl, rfl, rfl, Kept.refl _ _⟩) ?_; intro x91 h3_ h4_; have HE := Aside0.mk (HM.out _ h4_); clear h4_; have n0_ := Aside0.mk (h3_); clear H; have H := n0_; clear n0_; clear h3_))
    refine bodyPost_ret (results_ct rfl _ _ gr 30 _ (0, 0) _ rfl (H.out.at 0 rfl) Try.underlying30 rfl (msg_info (HZ.out))) rfl (by rw [EX.out]; exact ⟨_, rfl, HE.out, H.out.b⟩)
  · have ex_ : parse 0 3 l = (zeroM, c10.e) := by rw [he1, if_pos h9]
    have EX := Aside0.mk ex_
    have g1 : (c10.e != 0) = true := by simpa using h9
    have g2 : (c10.e == 0) = false := by simpa using h9
    clear h9 ex_ he1
    have H := Aside0.mk (PS.St.held HP.out)
    clear HP
    go_wp2_with (first | ((with_reducible refine gate_dst (N := 37) rfl ?_); refine ev_build (zeroC) rfl (by go_simp; first | rfl | done) ?_; intro cx hcx_; have M := Aside0.mk (show ∀ W, IsMsg W cx _ from fun W => by rw [hcx_]; exact zero_is W); clear hcx_) | ((with_reducible refine gate_op (u := .store 30 (.tmp 6) (.tmp 37)) rfl ?_); refine ev_store rfl rfl rfl rfl H.out (i := 0) rfl (rfl) (M.out w0) ?_; intro x90 h3_ h4_; have n0_ := Aside0.mk (h3_); clear H; have H := n0_; clear n0_; clear h3_ h4_))
    refine bodyPost_ret (results_ct rfl _ _ gr 30 _ (0, 0) _ rfl (H.out.at 0 rfl) Try.underlying30 rfl (msg_info ((M.out w0).size))) rfl (by rw [EX.out]; exact ⟨_, rfl, M.out _, H.out.b⟩)
theorem parse_0_4 {A : Option Addr} {c : Nat} {l : List Int} {w0 : World} (hr : Kd.C (Kd.int .u8) w0 A l.length l) (hc : l.length ≤ c) (hs : l.length ≤ 1000000) (hb : isBytes l) :
    Calls Try.prog 12 #[.int .i64 0, .int .u8 4, .slice A l.length c] w0 fun en w' => ∃ cx, en = .returned (.tuple #[.agg cx, .int .i64 (parse 0 4 l).2]) ∧ IsMsg w' cx (parse 0 4 l).1 ∧ Below w0.heap.size w0 w' := by
  have HR := Aside0.mk hr
  have HC := Aside0.mk hc
  have HS := Aside0.mk hs
  have HBB := Aside0.mk hb
  clear hr hc hs hb
  go_enter Try.func12, Try.ntmps12
  go_upto_region 3 with (first | ((with_reducible refine gate_dst (N := 6) rfl ?_); refine ev_alloc rfl rfl ?_; intro gr w1 hg_ h1_ h2_; have HG := Aside0.mk hg_; have H1 := Aside0.mk h1_; have H2 := Aside0.mk h2_; clear hg_ h1_ h2_))
  go_upto_region 4 with (first | ((with_reducible refine gate_dst (N := 20) rfl ?_); refine ev_build ((zeroC.setIfInBounds 0 (.int .u8 (4)))) rfl (by go_simp; first | rfl | done) ?_; intro cx hcx_; have M := Aside0.mk (show ∀ W, IsMsg W cx _ from fun W => by rw [hcx_]; exact (fun W => set_code (zero_is W) (v := 4) (by decide)) W); have NL := Aside0.mk (show NilL cx by rw [hcx_]; exact PS.zero_nil.set (by decide)); clear hcx_) | ((with_reducible refine gate_dst (N := 8) rfl ?_); refine ev_var (y := .tmp 20) rfl rfl rfl rfl rfl (M.out w0) rfl rfl ?_; intro gm w2 hg_ h1_ hb_; have HM1 := Aside0.mk hg_; have HM2 := Aside0.mk h1_; have HM3 := Aside0.mk hb_; clear h1_ hb_ hg_))
  go_upto_region 5 with (first | (go_at_call 20; (with_reducible refine (p_new A c l _ (Kd.C_below HR.out (H2.out.trans (HM3.out.mono H2.out.size))) HC.out HS.out HBB.out).mono ?_); rintro en w3 ⟨g, rfl, q1_, q2_, q3_, q4_⟩; have HP := Aside0.mk (St_first HG.out H1.out H2.out HM1.out HM2.out HM3.out M.out NL.out q1_ q2_ q3_); clear q1_ q2_ q3_ q4_ H1 H2 HG HM1 HM2 HM3))
  go_upto_region 6 with (first | (go_at_call 21; (with_reducible refine (form_0_4 (PS.St.at_code HP.out).1).mono ?_); rintro en w4 ⟨a4, a5, a7, a8, rfl, ⟨f4_, f5_, f7_, f8_⟩, l4_, l5_, l7_, l8_, hb_⟩; have hl_ := PS.Sk.lt (PS.Sk.start HP.out); have F4 := Aside0.mk f4_; have F5 := Aside0.mk f5_; have F7 := Aside0.mk f7_; have F8 := Aside0.mk f8_; have F4g : a4 ≠ g := (by omega); have F4m : a4 ≠ gm := (by omega); have F5g : a5 ≠ g := (by omega); have F5m : a5 ≠ gm := (by omega); have F7g : a7 ≠ g := (by omega); have F7m : a7 ≠ gm := (by omega); have F8g : a8 ≠ g := (by omega); have F8m : a8 ≠ gm := (by omega); have n0_ := Aside0.mk (PS.St.below HP.out hb_); clear HP hb_ f4_ f5_ f7_ f8_ l4_ l5_ l7_ l8_ hl_; have HP := n0_; clear n0_))
  have hef := eq_func
  go_upto_region 8 with (fail)
  clear hef
  obtain ⟨m0, hm0⟩ : ∃ z, z = ({ zeroM with code := 4 } : Msg) := ⟨_, rfl⟩
  rw [← hm0] at HP
  have HM0 := Aside0.mk hm0
  have HMC := Aside0.mk (show m0.code = 4 by rw [hm0])
  clear hm0 M NL
  have n0_ := Aside0.mk (PS.Sk.start HP.out)
  clear HP
  have HP := n0_
  clear n0_
  go_upto_region 9 with (first | (go_at_call 39; (with_reducible refine (asks_any HP.out F5.out F5g F5m F4.out F4g F4m F7.out F7g F7m).mono ?_); rintro en w6 ⟨rfl, hp_⟩; obtain ⟨cb, e_⟩ : ∃ z, z = whereR 125 m0 ⟨l, false, 0⟩ := ⟨_, rfl⟩; rw [← e_] at hp_; obtain ⟨c9, m9⟩ := cb; have EB := Aside0.mk e_; clear e_; have n0_ := Aside0.mk hp_; clear HP hp_; have HP := n0_; clear n0_))
  replace HP : Aside0 (PS.Sk w4 w0 gr g gm w6 c9 m9) := HP
  have n0_ := Aside0.mk HP.out.st
  clear HP F4g F4m F5g F5m F7g F7m F8g F8m F4 F5 F7 F8
  have HP := n0_
  clear n0_
  have E2 := Aside0.mk (show bodyR 0 m0 (cu l) = (c9, m9) from by
    unfold bodyR
    rw [if_pos (by have := HMC.out; omega)]
    rw [if_pos (by decide)]
    rw [EB.out]
    rfl)
  go_upto_region 10 with (first | (go_at_call 22; (with_reducible refine (PS.St.fin HP.out).mono ?_); rintro en x1 ⟨rfl, hp_⟩; obtain ⟨c10, ec_⟩ : ∃ z, z = c9.fin := ⟨_, rfl⟩; rw [← ec_] at hp_; have Ec10 := Aside0.mk ec_; clear ec_; have n0_ := Aside0.mk hp_; clear HP hp_; have HP := n0_; clear n0_))
  go_upto_region 11 with (first | (go_at_call 23; (with_reducible refine (PS.St.err HP.out).mono ?_); rintro en x2 ⟨rfl, hp_⟩; have n0_ := Aside0.mk hp_; clear HP hp_; have HP := n0_; clear n0_))
  have he1 : parse 0 4 l = if c10.e ≠ 0 then (zeroM, c10.e) else (m9, 0) := by
    unfold parse
    rw [if_neg (by decide), if_neg (by decide), ← HM0.out, E2.out, Ec10.out]
  by_cases h9 : c10.e = 0
  · have ex_ : parse 0 4 l = (m9, 0) := by rw [he1, if_neg (fun h => h h9)]
    have EX := Aside0.mk ex_
    have g1 : (c10.e != 0) = false := by rw [h9]; rfl
    have g2 : (c10.e == 0) = true := by rw [h9]; rfl
    clear h9 ex_ he1
    obtain ⟨cx, h_, hz_, hm_⟩ := PS.St.held2 HP.out
    have H := Aside0.mk h_
    have HZ := Aside0.mk hz_
    have HM := Aside0.mk hm_
    have HB := Aside0.mk HP.out.b
    clear h_ hz_ hm_ HP
    go_wp2_with (first | ((with_reducible refine gate_dst (N := 39) rfl ?_); refine ev_load (x := .tmp 8) rfl rfl rfl H.out (i := 1) rfl (HZ.out) ?_) | ((with_reducible refine gate_op (u := .store 30 (.tmp 6) (.tmp 39)) rfl ?_); refine ev_store rfl rfl rfl rfl H.out (i := 0) rfl rfl (HM.out _ ⟨rfl, rfl, rfl, Kept.refl _ _⟩) ?_; intro x91 h3_ h4_; have HE := Aside0.mk (HM.out _ h4_); clear h4_; have n0_ := Aside0.mk (h3_); clear H; have H := n0_; clear n0_; clear h3_))
    refine bodyPost_ret (results_ct rfl _ _ gr 30 _ (0, 0) _ rfl (H.out.at 0 rfl) Try.underlying30 rfl (msg_info (HZ.out))) rfl (by rw [EX.out]; exact ⟨_, rfl, HE.out, H.out.b⟩)
  · have ex_ : parse 0 4 l = (zeroM, c10.e) := by rw [he1, if_pos h9]
    have EX := Aside0.mk ex_
    have g1 : (c10.e != 0) = true := by simpa using h9
    have g2 : (c10.e == 0) = false := by simpa using h9
    clear h9 ex_ he1
    have H := Aside0.mk (PS.St.held HP.out)
    clear HP
    go_wp2_with (first | ((with_reducible refine gate_dst (N := 37) rfl ?_); refine ev_build (zeroC) rfl (by go_simp; first | rfl | done) ?_; intro cx hcx_; have M := Aside0.mk (show ∀ W, IsMsg W cx _ from fun W => by rw [hcx_]; exact zero_is W); clear hcx_) | ((with_reducible refine gate_op (u := .store 30 (.tmp 6) (.tmp 37)) rfl ?_); refine ev_store rfl rfl rfl rfl H.out (i := 0) rfl (rfl) (M.out w0) ?_; intro x90 h3_ h4_; have n0_ := Aside0.mk (h3_); clear H; have H := n0_; clear n0_; clear h3_ h4_))
    refine bodyPost_ret (results_ct rfl _ _ gr 30 _ (0, 0) _ rfl (H.out.at 0 rfl) Try.underlying30 rfl (msg_info ((M.out w0).size))) rfl (by rw [EX.out]; exact ⟨_, rfl, M.out _, H.out.b⟩)
theorem parse_0_6 {A : Option Addr} {c : Nat} {l : List Int} {w0 : World} (hr : Kd.C (Kd.int .u8) w0 A l.length l) (hc : l.length ≤ c) (hs : l.length ≤ 1000000) (hb : isBytes l) :
    Calls Try.prog 12 #[.int .i64 0, .int .u8 6, .slice A l.length c] w0 fun en w' => ∃ cx, en = .returned (.tuple #[.agg cx, .int .i64 (parse 0 6 l).2]) ∧ IsMsg w' cx (parse 0 6 l).1 ∧ Below w0.heap.size w0 w' := by
  have HR := Aside0.mk hr
  have HC := Aside0.mk hc
  have HS := Aside0.mk hs
  have HBB := Aside0.mk hb
  clear hr hc hs hb
  go_enter Try.func12, Try.ntmps12
  go_upto_region 3 with (first | ((with_reducible refine gate_dst (N := 6) rfl ?_); refine ev_alloc rfl rfl ?_; intro gr w1 hg_ h1_ h2_; have HG := Aside0.mk hg_; have H1 := Aside0.mk h1_; have H2 := Aside0.mk h2_; clear hg_ h1_ h2_))
  go_upto_region 4 with (first | ((with_reducible refine gate_dst (N := 20) rfl ?_); refine ev_build ((zeroC.setIfInBounds 0 (.int .u8 (6)))) rfl (by go_simp; first | rfl | done) ?_; intro cx hcx_; have M := Aside0.mk (show ∀ W, IsMsg W cx _ from fun W => by rw [hcx_]; exact (fun W => set_code (zero_is W) (v := 6) (by decide)) W); have NL := Aside0.mk (show NilL cx by rw [hcx_]; exact PS.zero_nil.set (by decide)); clear hcx_) | ((with_reducible refine gate_dst (N := 8) rfl ?_); refine ev_var (y := .tmp 20) rfl rfl rfl rfl rfl (M.out w0) rfl rfl ?_; intro gm w2 hg_ h1_ hb_; have HM1 := Aside0.mk hg_; have HM2 := Aside0.mk h1_; have HM3 := Aside0.mk hb_; clear h1_ hb_ hg_))
  go_upto_region 5 with (first | (go_at_call 20; (with_reducible refine (p_new A c l _ (Kd.C_below HR.out (H2.out.trans (HM3.out.mono H2.out.size))) HC.out HS.out HBB.out).mono ?_); rintro en w3 ⟨g, rfl, q1_, q2_, q3_, q4_⟩; have HP := Aside0.mk (St_first HG.out H1.out H2.out HM1.out HM2.out HM3.out M.out NL.out q1_ q2_ q3_); clear q1_ q2_ q3_ q4_ H1 H2 HG HM1 HM2 HM3))
  go_upto_region 6 with (first | (go_at_call 21; (with_reducible refine (form_0_6 (PS.St.at_code HP.out).1).mono ?_); rintro en w4 ⟨a4, a5, a7, a8, rfl, ⟨f4_, f5_, f7_, f8_⟩, l4_, l5_, l7_, l8_, hb_⟩; have hl_ := PS.Sk.lt (PS.Sk.start HP.out); have F4 := Aside0.mk f4_; have F5 := Aside0.mk f5_; have F7 := Aside0.mk f7_; have F8 := Aside0.mk f8_; have F4g : a4 ≠ g := (by omega); have F4m : a4 ≠ gm := (by omega); have F5g : a5 ≠ g := (by omega); have F5m : a5 ≠ gm := (by omega); have F7g : a7 ≠ g := (by omega); have F7m : a7 ≠ gm := (by omega); have F8g : a8 ≠ g := (by omega); have F8m : a8 ≠ gm := (by omega); have n0_ := Aside0.mk (PS.St.below HP.out hb_); clear HP hb_ f4_ f5_ f7_ f8_ l4_ l5_ l7_ l8_ hl_; have HP := n0_; clear n0_))
  have hef := eq_func
  go_upto_region 8 with (fail)
  clear hef
  obtain ⟨m0, hm0⟩ : ∃ z, z = ({ zeroM with code := 6 } : Msg) := ⟨_, rfl⟩
  rw [← hm0] at HP
  have HM0 := Aside0.mk hm0
  have HMC := Aside0.mk (show m0.code = 6 by rw [hm0])
  clear hm0 M NL
  have n0_ := Aside0.mk (PS.Sk.start HP.out)
  clear HP
  have HP := n0_
  clear n0_
  go_upto_region 9 with (first | (go_at_call 44; (with_reducible refine (one_any HP.out F5.out F5g F5m F4.out F4g F4m).mono ?_); rintro en w6 ⟨rfl, hp_⟩; obtain ⟨cb, e_⟩ : ∃ z, z = oneR m0 ⟨l, false, 0⟩ := ⟨_, rfl⟩; rw [← e_] at hp_; obtain ⟨c9, m9⟩ := cb; have EB := Aside0.mk e_; clear e_; have n0_ := Aside0.mk hp_; clear HP hp_; have HP := n0_; clear n0_))
  replace HP : Aside0 (PS.Sk w4 w0 gr g gm w6 c9 m9) := HP
  have n0_ := Aside0.mk HP.out.st
  clear HP F4g F4m F5g F5m F7g F7m F8g F8m F4 F5 F7 F8
  have HP := n0_
  clear n0_
  have E2 := Aside0.mk (show bodyR 0 m0 (cu l) = (c9, m9) from by
    unfold bodyR
    rw [if_neg (by have := HMC.out; omega)]
    rw [if_pos (by have := HMC.out; omega)]
    rw [EB.out]
    rfl)
  go_upto_region 10 with (first | (go_at_call 22; (with_reducible refine (PS.St.fin HP.out).mono ?_); rintro en x1 ⟨rfl, hp_⟩; obtain ⟨c10, ec_⟩ : ∃ z, z = c9.fin := ⟨_, rfl⟩; rw [← ec_] at hp_; have Ec10 := Aside0.mk ec_; clear ec_; have n0_ := Aside0.mk hp_; clear HP hp_; have HP := n0_; clear n0_))
  go_upto_region 11 with (first | (go_at_call 23; (with_reducible refine (PS.St.err HP.out).mono ?_); rintro en x2 ⟨rfl, hp_⟩; have n0_ := Aside0.mk hp_; clear HP hp_; have HP := n0_; clear n0_))
  have he1 : parse 0 6 l = if c10.e ≠ 0 then (zeroM, c10.e) else (m9, 0) := by
    unfold parse
    rw [if_neg (by decide), if_neg (by decide), ← HM0.out, E2.out, Ec10.out]
  by_cases h9 : c10.e = 0
  · have ex_ : parse 0 6 l = (m9, 0) := by rw [he1, if_neg (fun h => h h9)]
    have EX := Aside0.mk ex_
    have g1 : (c10.e != 0) = false := by rw [h9]; rfl
    have g2 : (c10.e == 0) = true := by rw [h9]; rfl
    clear h9 ex_ he1
    obtain ⟨cx, h_, hz_, hm_⟩ := PS.St.held2 HP.out
    have H := Aside0.mk h_
    have HZ := Aside0.mk hz_
    have HM := Aside0.mk hm_
    have HB := Aside0.mk HP.out.b
    clear h_ hz_ hm_ HP
    go_wp2_with (first | ((with_reducible refine gate_dst (N := 39) rfl ?_); refine ev_load (x := .tmp 8) rfl rfl rfl H.out (i := 1) rfl (HZ.out) ?_) | ((with_reducible refine gate_op (u := .store 30 (.tmp 6) (.tmp 39)) rfl ?_); refine ev_store rfl rfl rfl rfl H.out (i := 0) rfl rfl (HM.out _ ⟨rfl, rfl, rfl, Kept.refl _ _⟩) ?_; intro x91 h3_ h4_; have HE := Aside0.mk (HM.out _ h4_); clear h4_; have n0_ := Aside0.mk (h3_); clear H; have H := n0_; clear n0_; clear h3_))
    refine bodyPost_ret (results_ct rfl _ _ gr 30 _ (0, 0) _ rfl (H.out.at 0 rfl) Try.underlying30 rfl (msg_info (HZ.out))) rfl (by rw [EX.out]; exact ⟨_, rfl, HE.out, H.out.b⟩)
  · have ex_ : parse 0 6 l = (zeroM, c10.e) := by rw [he1, if_pos h9]
    have EX := Aside0.mk ex_
    have g1 : (c10.e != 0) = true := by simpa using h9
    have g2 : (c10.e == 0) = false := by simpa using h9
    clear h9 ex_ he1
    have H := Aside0.mk (PS.St.held HP.out)
    clear HP
    go_wp2_with (first | ((with_reducible refine gate_dst (N := 37) rfl ?_); refine ev_build (zeroC) rfl (by go_simp; first | rfl | done) ?_; intro cx hcx_; have M := Aside0.mk (show ∀ W, IsMsg W cx _ from fun W => by rw [hcx_]; exact zero_is W); clear hcx_) | ((with_reducible refine gate_op (u := .store 30 (.tmp 6) (.tmp 37)) rfl ?_); refine ev_store rfl rfl rfl rfl H.out (i := 0) rfl (rfl) (M.out w0) ?_; intro x90 h3_ h4_; have n0_ := Aside0.mk (h3_); clear H; have H := n0_; clear n0_; clear h3_ h4_))
    refine bodyPost_ret (results_ct rfl _ _ gr 30 _ (0, 0) _ rfl (H.out.at 0 rfl) Try.underlying30 rfl (msg_info ((M.out w0).size))) rfl (by rw [EX.out]; exact ⟨_, rfl, M.out _, H.out.b⟩)
theorem parse_0_16 {A : Option Addr} {c : Nat} {l : List Int} {w0 : World} (hr : Kd.C (Kd.int .u8) w0 A l.length l) (hc : l.length ≤ c) (hs : l.length ≤ 1000000) (hb : isBytes l) :
    Calls Try.prog 12 #[.int .i64 0, .int .u8 16, .slice A l.length c] w0 fun en w' => ∃ cx, en = .returned (.tuple #[.agg cx, .int .i64 (parse 0 16 l).2]) ∧ IsMsg w' cx (parse 0 16 l).1 ∧ Below w0.heap.size w0 w' := by
  have HR := Aside0.mk hr
  have HC := Aside0.mk hc
  have HS := Aside0.mk hs
  have HBB := Aside0.mk hb
  clear hr hc hs hb
  go_enter Try.func12, Try.ntmps12
  go_upto_region 3 with (first | ((with_reducible refine gate_dst (N := 6) rfl ?_); refine ev_alloc rfl rfl ?_; intro gr w1 hg_ h1_ h2_; have HG := Aside0.mk hg_; have H1 := Aside0.mk h1_; have H2 := Aside0.mk h2_; clear hg_ h1_ h2_))
  go_upto_region 4 with (first | ((with_reducible refine gate_dst (N := 20) rfl ?_); refine ev_build ((zeroC.setIfInBounds 0 (.int .u8 (16)))) rfl (by go_simp; first | rfl | done) ?_; intro cx hcx_; have M := Aside0.mk (show ∀ W, IsMsg W cx _ from fun W => by rw [hcx_]; exact (fun W => set_code (zero_is W) (v := 16) (by decide)) W); have NL := Aside0.mk (show NilL cx by rw [hcx_]; exact PS.zero_nil.set (by decide)); clear hcx_) | ((with_reducible refine gate_dst (N := 8) rfl ?_); refine ev_var (y := .tmp 20) rfl rfl rfl rfl rfl (M.out w0) rfl rfl ?_; intro gm w2 hg_ h1_ hb_; have HM1 := Aside0.mk hg_; have HM2 := Aside0.mk h1_; have HM3 := Aside0.mk hb_; clear h1_ hb_ hg_))
  go_upto_region 5 with (first | (go_at_call 20; (with_reducible refine (p_new A c l _ (Kd.C_below HR.out (H2.out.trans (HM3.out.mono H2.out.size))) HC.out HS.out HBB.out).mono ?_); rintro en w3 ⟨g, rfl, q1_, q2_, q3_, q4_⟩; have HP := Aside0.mk (St_first HG.out H1.out H2.out HM1.out HM2.out HM3.out M.out NL.out q1_ q2_ q3_); clear q1_ q2_ q3_ q4_ H1 H2 HG HM1 HM2 HM3))
  go_upto_region 6 with (first | (go_at_call 21; (with_reducible refine (form_0_16 (PS.St.at_code HP.out).1).mono ?_); rintro en w4 ⟨a4, a5, a7, a8, rfl, ⟨f4_, f5_, f7_, f8_⟩, l4_, l5_, l7_, l8_, hb_⟩; have hl_ := PS.Sk.lt (PS.Sk.start HP.out); have F4 := Aside0.mk f4_; have F5 := Aside0.mk f5_; have F7 := Aside0.mk f7_; have F8 := Aside0.mk f8_; have F4g : a4 ≠ g := (by omega); have F4m : a4 ≠ gm := (by omega); have F5g : a5 ≠ g := (by omega); have F5m : a5 ≠ gm := (by omega); have F7g : a7 ≠ g := (by omega); have F7m : a7 ≠ gm := (by omega); have F8g : a8 ≠ g := (by omega); have F8m : a8 ≠ gm := (by omega); have n0_ := Aside0.mk (PS.St.below HP.out hb_); clear HP hb_ f4_ f5_ f7_ f8_ l4_ l5_ l7_ l8_ hl_; have HP := n0_; clear n0_))
  have hef := eq_func
  go_upto_region 8 with (fail)
  clear hef
  obtain ⟨m0, hm0⟩ : ∃ z, z = ({ zeroM with code := 16 } : Msg) := ⟨_, rfl⟩
  rw [← hm0] at HP
  have HM0 := Aside0.mk hm0
  have HMC := Aside0.mk (show m0.code = 16 by rw [hm0])
  clear hm0 M NL
  have n0_ := Aside0.mk (PS.Sk.start HP.out)
  clear HP
  have HP := n0_
  clear n0_
  go_upto_region 9 with (first | (go_at_call 45; (with_reducible refine (many_1 HP.out F5.out F5g F5m F4.out F4g F4m F7.out F7g F7m F8.out F8g F8m).mono ?_); rintro en w6 ⟨rfl, hp_⟩; obtain ⟨cb, e_⟩ : ∃ z, z = manyR m0 ⟨l, false, 0⟩ := ⟨_, rfl⟩; rw [← e_] at hp_; obtain ⟨c9, m9⟩ := cb; have EB := Aside0.mk e_; clear e_; have n0_ := Aside0.mk hp_; clear HP hp_; have HP := n0_; clear n0_))
  replace HP : Aside0 (PS.Sk w4 w0 gr g gm w6 c9 m9) := HP
  have n0_ := Aside0.mk HP.out.st
  clear HP F4g F4m F5g F5m F7g F7m F8g F8m F4 F5 F7 F8
  have HP := n0_
  clear n0_
  have E2 := Aside0.mk (show bodyR 0 m0 (cu l) = (c9, m9) from by
    unfold bodyR
    rw [if_neg (by have := HMC.out; omega)]
    rw [if_neg (by have := HMC.out; omega)]
    rw [if_pos (by have := HMC.out; omega)]
    rw [if_pos (by decide)]
    rw [EB.out]
    rfl)
  go_upto_region 10 with (first | (go_at_call 22; (with_reducible refine (PS.St.fin HP.out).mono ?_); rintro en x1 ⟨rfl, hp_⟩; obtain ⟨c10, ec_⟩ : ∃ z, z = c9.fin := ⟨_, rfl⟩; rw [← ec_] at hp_; have Ec10 := Aside0.mk ec_; clear ec_; have n0_ := Aside0.mk hp_; clear HP hp_; have HP := n0_; clear n0_))
  go_upto_region 11 with (first | (go_at_call 23; (with_reducible refine (PS.St.err HP.out).mono ?_); rintro en x2 ⟨rfl, hp_⟩; have n0_ := Aside0.mk hp_; clear HP hp_; have HP := n0_; clear n0_))
  have he1 : parse 0 16 l = if c10.e ≠ 0 then (zeroM, c10.e) else (m9, 0) := by
    unfold parse
    rw [if_neg (by decide), if_neg (by decide), ← HM0.out, E2.out, Ec10.out]
  by_cases h9 : c10.e = 0
  · have ex_ : parse 0 16 l = (m9, 0) := by rw [he1, if_neg (fun h => h h9)]
    have EX := Aside0.mk ex_
    have g1 : (c10.e != 0) = false := by rw [h9]; rfl
    have g2 : (c10.e == 0) = true := by rw [h9]; rfl
    clear h9 ex_ he1
    obtain ⟨cx, h_, hz_, hm_⟩ := PS.St.held2 HP.out
    have H := Aside0.mk h_
    have HZ := Aside0.mk hz_
    have HM := Aside0.mk hm_
    have HB := Aside0.mk HP.out.b
    clear h_ hz_ hm_ HP
    go_wp2_with (first | ((with_reducible refine gate_dst (N := 39) rfl ?_); refine ev_load (x := .tmp 8) rfl rfl rfl H.out (i := 1) rfl (HZ.out) ?_) | ((with_reducible refine gate_op (u := .store 30 (.tmp 6) (.tmp 39)) rfl ?_); refine ev_store rfl rfl rfl rfl H.out (i := 0) rfl rfl (HM.out _ ⟨rfl, rfl, rfl, Kept.refl _ _⟩) ?_; intro x91 h3_ h4_; have HE := Aside0.mk (HM.out _ h4_); clear h4_; have n0_ := Aside0.mk (h3_); clear H; have H := n0_; clear n0_; clear h3_))
    refine bodyPost_ret (results_ct rfl _ _ gr 30 _ (0, 0) _ rfl (H.out.at 0 rfl) Try.underlying30 rfl (msg_info (HZ.out))) rfl (by rw [EX.out]; exact ⟨_, rfl, HE.out, H.out.b⟩)
  · have ex_ : parse 0 16 l = (zeroM, c10.e) := by rw [he1, if_pos h9]
    have EX := Aside0.mk ex_
    have g1 : (c10.e != 0) = true := by simpa using h9
    have g2 : (c10.e == 0) = false := by simpa using h9
    clear h9 ex_ he1
    have H := Aside0.mk (PS.St.held HP.out)
    clear HP
    go_wp2_with (first | ((with_reducible refine gate_dst (N := 37) rfl ?_); refine ev_build (zeroC) rfl (by go_simp; first | rfl | done) ?_; intro cx hcx_; have M := Aside0.mk (show ∀ W, IsMsg W cx _ from fun W => by rw [hcx_]; exact zero_is W); clear hcx_) | ((with_reducible refine gate_op (u := .store 30 (.tmp 6) (.tmp 37)) rfl ?_); refine ev_store rfl rfl rfl rfl H.out (i := 0) rfl (rfl) (M.out w0) ?_; intro x90 h3_ h4_; have n0_ := Aside0.mk (h3_); clear H; have H := n0_; clear n0_; clear h3_ h4_))
    refine bodyPost_ret (results_ct rfl _ _ gr 30 _ (0, 0) _ rfl (H.out.at 0 rfl) Try.underlying30 rfl (msg_info ((M.out w0).size))) rfl (by rw [EX.out]; exact ⟨_, rfl, M.out _, H.out.b⟩)
theorem parse_0_22 {A : Option Addr} {c : Nat} {l : List Int} {w0 : World} (hr : Kd.C (Kd.int .u8) w0 A l.length l) (hc : l.length ≤ c) (hs : l.length ≤ 1000000) (hb : isBytes l) :
    Calls Try.prog 12 #[.int .i64 0, .int .u8 22, .slice A l.length c] w0 fun en w' => ∃ cx, en = .returned (.tuple #[.agg cx, .int .i64 (parse 0 22 l).2]) ∧ IsMsg w' cx (parse 0 22 l).1 ∧ Below w0.heap.size w0 w' := by
  have HR := Aside0.mk hr
  have HC := Aside0.mk hc
  have HS := Aside0.mk hs
  have HBB := Aside0.mk hb
  clear hr hc hs hb
  go_enter Try.func12, Try.ntmps12
  go_upto_region 3 with (first | ((with_reducible refine gate_dst (N := 6) rfl ?_); refine ev_alloc rfl rfl ?_; intro gr w1 hg_ h1_ h2_; have HG := Aside0.mk hg_; have H1 := Aside0.mk h1_; have H2 := Aside0.mk h2_; clear hg_ h1_ h2_))
  go_upto_region 4 with (first | ((with_reducible refine gate_dst (N := 20) rfl ?_); refine ev_build ((zeroC.setIfInBounds 0 (.int .u8 (22)))) rfl (by go_simp; first | rfl | done) ?_; intro cx hcx_; have M := Aside0.mk (show ∀ W, IsMsg W cx _ from fun W => by rw [hcx_]; exact (fun W => set_code (zero_is W) (v := 22) (by decide)) W); have NL := Aside0.mk (show NilL cx by rw [hcx_]; exact PS.zero_nil.set (by decide)); clear hcx_) | ((with_reducible refine gate_dst (N := 8) rfl ?_); refine ev_var (y := .tmp 20) rfl rfl rfl rfl rfl (M.out w0) rfl rfl ?_; intro gm w2 hg_ h1_ hb_; have HM1 := Aside0.mk hg_; have HM2 := Aside0.mk h1_; have HM3 := Aside0.mk hb_; clear h1_ hb_ hg_))
  go_upto_region 5 with (first | (go_at_call 20; (with_reducible refine (p_new A c l _ (Kd.C_below HR.out (H2.out.trans (HM3.out.mono H2.out.size))) HC.out HS.out HBB.out).mono ?_); rintro en w3 ⟨g, rfl, q1_, q2_, q3_, q4_⟩; have HP := Aside0.mk (St_first HG.out H1.out H2.out HM1.out HM2.out HM3.out M.out NL.out q1_ q2_ q3_); clear q1_ q2_ q3_ q4_ H1 H2 HG HM1 HM2 HM3))
  go_upto_region 6 with (first | (go_at_call 21; (with_reducible refine (form_0_22 (PS.St.at_code HP.out).1).mono ?_); rintro en w4 ⟨a4, a5, a7, a8, rfl, ⟨f4_, f5_, f7_, f8_⟩, l4_, l5_, l7_, l8_, hb_⟩; have hl_ := PS.Sk.lt (PS.Sk.start HP.out); have F4 := Aside0.mk f4_; have F5 := Aside0.mk f5_; have F7 := Aside0.mk f7_; have F8 := Aside0.mk f8_; have F4g : a4 ≠ g := (by omega); have F4m : a4 ≠ gm := (by omega); have F5g : a5 ≠ g := (by omega); have F5m : a5 ≠ gm := (by omega); have F7g : a7 ≠ g := (by omega); have F7m : a7 ≠ gm := (by omega); have F8g : a8 ≠ g := (by omega); have F8m : a8 ≠ gm := (by omega); have n0_ := Aside0.mk (PS.St.below HP.out hb_); clear HP hb_ f4_ f5_ f7_ f8_ l4_ l5_ l7_ l8_ hl_; have HP := n0_; clear n0_))
  have hef := eq_func
  go_upto_region 8 with (fail)
  clear hef
  obtain ⟨m0, hm0⟩ : ∃ z, z = ({ zeroM with code := 22 } : Msg) := ⟨_, rfl⟩
  rw [← hm0] at HP
  have HM0 := Aside0.mk hm0
  have HMC := Aside0.mk (show m0.code = 22 by rw [hm0])
  clear hm0 M NL
  have n0_ := Aside0.mk (PS.Sk.start HP.out)
  clear HP
  have HP := n0_
  clear n0_
  go_upto_region 9 with (first | (go_at_call 47; (with_reducible refine (mask_any HP.out F5.out F5g F5m F4.out F4g F4m).mono ?_); rintro en w6 ⟨rfl, hp_⟩; obtain ⟨cb, e_⟩ : ∃ z, z = maskR m0 ⟨l, false, 0⟩ := ⟨_, rfl⟩; rw [← e_] at hp_; obtain ⟨c9, m9⟩ := cb; have EB := Aside0.mk e_; clear e_; have n0_ := Aside0.mk hp_; clear HP hp_; have HP := n0_; clear n0_))
  replace HP : Aside0 (PS.Sk w4 w0 gr g gm w6 c9 m9) := HP
  have n0_ := Aside0.mk HP.out.st
  clear HP F4g F4m F5g F5m F7g F7m F8g F8m F4 F5 F7 F8
  have HP := n0_
  clear n0_
  have E2 := Aside0.mk (show bodyR 0 m0 (cu l) = (c9, m9) from by
    unfold bodyR
    rw [if_neg (by have := HMC.out; omega)]
    rw [if_neg (by have := HMC.out; omega)]
    rw [if_neg (by have := HMC.out; omega)]
    rw [if_pos (by have := HMC.out; omega)]
    rw [EB.out]
    rfl)
  go_upto_region 10 with (first | (go_at_call 22; (with_reducible refine (PS.St.fin HP.out).mono ?_); rintro en x1 ⟨rfl, hp_⟩; obtain ⟨c10, ec_⟩ : ∃ z, z = c9.fin := ⟨_, rfl⟩; rw [← ec_] at hp_; have Ec10 := Aside0.mk ec_; clear ec_; have n0_ := Aside0.mk hp_; clear HP hp_; have HP := n0_; clear n0_))
  go_upto_region 11 with (first | (go_at_call 23; (with_reducible refine (PS.St.err HP.out).mono ?_); rintro en x2 ⟨rfl, hp_⟩; have n0_ := Aside0.mk hp_; clear HP hp_; have HP := n0_; clear n0_))
  have he1 : parse 0 22 l = if c10.e ≠ 0 then (zeroM, c10.e) else (m9, 0) := by
    unfold parse
    rw [if_neg (by decide), if_neg (by decide), ← HM0.out, E2.out, Ec10.out]
  by_cases h9 : c10.e = 0
  · have ex_ : parse 0 22 l = (m9, 0) := by rw [he1, if_neg (fun h => h h9)]
    have EX := Aside0.mk ex_
    have g1 : (c10.e != 0) = false := by rw [h9]; rfl
    have g2 : (c10.e == 0) = true := by rw [h9]; rfl
    clear h9 ex_ he1
    obtain ⟨cx, h_, hz_, hm_⟩ := PS.St.held2 HP.out
    have H := Aside0.mk h_
    have HZ := Aside0.mk hz_
    have HM := Aside0.mk hm_
    have HB := Aside0.mk HP.out.b
    clear h_ hz_ hm_ HP
    go_wp2_with (first | ((with_reducible refine gate_dst (N := 39) rfl ?_); refine ev_load (x := .tmp 8) rfl rfl rfl H.out (i := 1) rfl (HZ.out) ?_) | ((with_reducible refine gate_op (u := .store 30 (.tmp 6) (.tmp 39)) rfl ?_); refine ev_store rfl rfl rfl rfl H.out (i := 0) rfl rfl (HM.out _ ⟨rfl, rfl, rfl, Kept.refl _ _⟩) ?_; intro x91 h3_ h4_; have HE := Aside0.mk (HM.out _ h4_); clear h4_; have n0_ := Aside0.mk (h3_); clear H; have H := n0_; clear n0_; clear h3_))
    refine bodyPost_ret (results_ct rfl _ _ gr 30 _ (0, 0) _ rfl (H.out.at 0 rfl) Try.underlying30 rfl (msg_info (HZ.out))) rfl (by rw [EX.out]; exact ⟨_, rfl, HE.out, H.out.b⟩)
  · have ex_ : parse 0 22 l = (zeroM, c10.e) := by rw [he1, if_pos h9]
    have EX := Aside0.mk ex_
    have g1 : (c10.e != 0) = true := by simpa using h9
    have g2 : (c10.e == 0) = false := by simpa using h9
    clear h9 ex_ he1
    have H := Aside0.mk (PS.St.held HP.out)
    clear HP
    go_wp2_with (first | ((with_reducible refine gate_dst (N := 37) rfl ?_); refine ev_build (zeroC) rfl (by go_simp; first | rfl | done) ?_; intro cx hcx_; have M := Aside0.mk (show ∀ W, IsMsg W cx _ from fun W => by rw [hcx_]; exact zero_is W); clear hcx_) | ((with_reducible refine gate_op (u := .store 30 (.tmp 6) (.tmp 37)) rfl ?_); refine ev_store rfl rfl rfl rfl H.out (i := 0) rfl (rfl) (M.out w0) ?_; intro x90 h3_ h4_; have n0_ := Aside0.mk (h3_); clear H; have H := n0_; clear n0_; clear h3_ h4_))
    refine bodyPost_ret (results_ct rfl _ _ gr 30 _ (0, 0) _ rfl (H.out.at 0 rfl) Try.underlying30 rfl (msg_info ((M.out w0).size))) rfl (by rw [EX.out]; exact ⟨_, rfl, M.out _, H.out.b⟩)
theorem parse_0_23 {A : Option Addr} {c : Nat} {l : List Int} {w0 : World} (hr : Kd.C (Kd.int .u8) w0 A l.length l) (hc : l.length ≤ c) (hs : l.length ≤ 1000000) (hb : isBytes l) :
    Calls Try.prog 12 #[.int .i64 0, .int .u8 23, .slice A l.length c] w0 fun en w' => ∃ cx, en = .returned (.tuple #[.agg cx, .int .i64 (parse 0 23 l).2]) ∧ IsMsg w' cx (parse 0 23 l).1 ∧ Below w0.heap.size w0 w' := by
  have HR := Aside0.mk hr
  have HC := Aside0.mk hc
  have HS := Aside0.mk hs
  have HBB := Aside0.mk hb
  clear hr hc hs hb
  go_enter Try.func12, Try.ntmps12
  go_upto_region 3 with (first | ((with_reducible refine gate_dst (N := 6) rfl ?_); refine ev_alloc rfl rfl ?_; intro gr w1 hg_ h1_ h2_; have HG := Aside0.mk hg_; have H1 := Aside0.mk h1_; have H2 := Aside0.mk h2_; clear hg_ h1_ h2_))
  go_upto_region 4 with (first | ((with_reducible refine gate_dst (N := 20) rfl ?_); refine ev_build ((zeroC.setIfInBounds 0 (.int .u8 (23)))) rfl (by go_simp; first | rfl | done) ?_; intro cx hcx_; have M := Aside0.mk (show ∀ W, IsMsg W cx _ from fun W => by rw [hcx_]; exact (fun W => set_code (zero_is W) (v := 23) (by decide)) W); have NL := Aside0.mk (show NilL cx by rw [hcx_]; exact PS.zero_nil.set (by decide)); clear hcx_) | ((with_reducible refine gate_dst (N := 8) rfl ?_); refine ev_var (y := .tmp 20) rfl rfl rfl rfl rfl (M.out w0) rfl rfl ?_; intro gm w2 hg_ h1_ hb_; have HM1 := Aside0.mk hg_; have HM2 := Aside0.mk h1_; have HM3 := Aside0.mk hb_; clear h1_ hb_ hg_))
  go_upto_region 5 with (first | (go_at_call 20; (with_reducible refine (p_new A c l _ (Kd.C_below HR.out (H2.out.trans (HM3.out.mono H2.out.size))) HC.out HS.out HBB.out).mono ?_); rintro en w3 ⟨g, rfl, q1_, q2_, q3_, q4_⟩; have HP := Aside0.mk (St_first HG.out H1.out H2.out HM1.out HM2.out HM3.out M.out NL.out q1_ q2_ q3_); clear q1_ q2_ q3_ q4_ H1 H2 HG HM1 HM2 HM3))
  go_upto_region 6 with (first | (go_at_call 21; (with_reducible refine (form_0_23 (PS.St.at_code HP.out).1).mono ?_); rintro en w4 ⟨a4, a5, a7, a8, rfl, ⟨f4_, f5_, f7_, f8_⟩, l4_, l5_, l7_, l8_, hb_⟩; have hl_ := PS.Sk.lt (PS.Sk.start HP.out); have F4 := Aside0.mk f4_; have F5 := Aside0.mk f5_; have F7 := Aside0.mk f7_; have F8 := Aside0.mk f8_; have F4g : a4 ≠ g := (by omega); have F4m : a4 ≠ gm := (by omega); have F5g : a5 ≠ g := (by omega); have F5m : a5 ≠ gm := (by omega); have F7g : a7 ≠ g := (by omega); have F7m : a7 ≠ gm := (by omega); have F8g : a8 ≠ g := (by omega); have F8m : a8 ≠ gm := (by omega); have n0_ := Aside0.mk (PS.St.below HP.out hb_); clear HP hb_ f4_ f5_ f7_ f8_ l4_ l5_ l7_ l8_ hl_; have HP := n0_; clear n0_))
  have hef := eq_func
  go_upto_region 8 with (fail)
  clear hef
  obtain ⟨m0, hm0⟩ : ∃ z, z = ({ zeroM with code := 23 } : Msg) := ⟨_, rfl⟩
  rw [← hm0] at HP
  have HM0 := Aside0.mk hm0
  have HMC := Aside0.mk (show m0.code = 23 by rw [hm0])
  clear hm0 M NL
  have n0_ := Aside0.mk (PS.Sk.start HP.out)
  clear HP
  have HP := n0_
  clear n0_
  go_upto_region 9 with (first | (go_at_call 48; (with_reducible refine (both_any HP.out F5.out F5g F5m F4.out F4g F4m F7.out F7g F7m).mono ?_); rintro en w6 ⟨rfl, hp_⟩; obtain ⟨cb, e_⟩ : ∃ z, z = bothR m0 ⟨l, false, 0⟩ := ⟨_, rfl⟩; rw [← e_] at hp_; obtain ⟨c9, m9⟩ := cb; have EB := Aside0.mk e_; clear e_; have n0_ := Aside0.mk hp_; clear HP hp_; have HP := n0_; clear n0_))
  replace HP : Aside0 (PS.Sk w4 w0 gr g gm w6 c9 m9) := HP
  have n0_ := Aside0.mk HP.out.st
  clear HP F4g F4m F5g F5m F7g F7m F8g F8m F4 F5 F7 F8
  have HP := n0_
  clear n0_
  have E2 := Aside0.mk (show bodyR 0 m0 (cu l) = (c9, m9) from by
    unfold bodyR
    rw [if_neg (by have := HMC.out; omega)]
    rw [if_neg (by have := HMC.out; omega)]
    rw [if_neg (by have := HMC.out; omega)]
    rw [if_neg (by have := HMC.out; omega)]
    rw [if_pos (by have := HMC.out; omega)]
    rw [if_pos (by decide)]
    rw [EB.out]
    rfl)
  go_upto_region 10 with (first | (go_at_call 22; (with_reducible refine (PS.St.fin HP.out).mono ?_); rintro en x1 ⟨rfl, hp_⟩; obtain ⟨c10, ec_⟩ : ∃ z, z = c9.fin := ⟨_, rfl⟩; rw [← ec_] at hp_; have Ec10 := Aside0.mk ec_; clear ec_; have n0_ := Aside0.mk hp_; clear HP hp_; have HP := n0_; clear n0_))
  go_upto_region 11 with (first | (go_at_call 23; (with_reducible refine (PS.St.err HP.out).mono ?_); rintro en x2 ⟨rfl, hp_⟩; have n0_ := Aside0.mk hp_; clear HP hp_; have HP := n0_; clear n0_))
  have he1 : parse 0 23 l = if c10.e ≠ 0 then (zeroM, c10.e) else (m9, 0) := by
    unfold parse
    rw [if_neg (by decide), if_neg (by decide), ← HM0.out, E2.out, Ec10.out]
  by_cases h9 : c10.e = 0
  · have ex_ : parse 0 23 l = (m9, 0) := by rw [he1, if_neg (fun h => h h9)]
    have EX := Aside0.mk ex_
    have g1 : (c10.e != 0) = false := by rw [h9]; rfl
    have g2 : (c10.e == 0) = true := by rw [h9]; rfl
    clear h9 ex_ he1
    obtain ⟨cx, h_, hz_, hm_⟩ := PS.St.held2 HP.out
    have H := Aside0.mk h_
    have HZ := Aside0.mk hz_
    have HM := Aside0.mk hm_
    have HB := Aside0.mk HP.out.b
    clear h_ hz_ hm_ HP
    go_wp2_with (first | ((with_reducible refine gate_dst (N := 39) rfl ?_); refine ev_load (x := .tmp 8) rfl rfl rfl H.out (i := 1) rfl (HZ.out) ?_) | ((with_reducible refine gate_op (u := .store 30 (.tmp 6) (.tmp 39)) rfl ?_); refine ev_store rfl rfl rfl rfl H.out (i := 0) rfl rfl (HM.out _ ⟨rfl, rfl, rfl, Kept.refl _ _⟩) ?_; intro x91 h3_ h4_; have HE := Aside0.mk (HM.out _ h4_); clear h4_; have n0_ := Aside0.mk (h3_); clear H; have H := n0_; clear n0_; clear h3_))
    refine bodyPost_ret (results_ct rfl _ _ gr 30 _ (0, 0) _ rfl (H.out.at 0 rfl) Try.underlying30 rfl (msg_info (HZ.out))) rfl (by rw [EX.out]; exact ⟨_, rfl, HE.out, H.out.b⟩)
  · have ex_ : parse 0 23 l = (zeroM, c10.e) := by rw [he1, if_pos h9]
    have EX := Aside0.mk ex_
    have g1 : (c10.e != 0) = true := by simpa using h9
    have g2 : (c10.e == 0) = false := by simpa using h9
    clear h9 ex_ he1
    have H := Aside0.mk (PS.St.held HP.out)
    clear HP
    go_wp2_with (first | ((with_reducible refine gate_dst (N := 37) rfl ?_); refine ev_build (zeroC) rfl (by go_simp; first | rfl | done) ?_; intro cx hcx_; have M := Aside0.mk (show ∀ W, IsMsg W cx _ from fun W => by rw [hcx_]; exact zero_is W); clear hcx_) | ((with_reducible refine gate_op (u := .store 30 (.tmp 6) (.tmp 37)) rfl ?_); refine ev_store rfl rfl rfl rfl H.out (i := 0) rfl (rfl) (M.out w0) ?_; intro x90 h3_ h4_; have n0_ := Aside0.mk (h3_); clear H; have H := n0_; clear n0_; clear h3_ h4_))
    refine bodyPost_ret (results_ct rfl _ _ gr 30 _ (0, 0) _ rfl (H.out.at 0 rfl) Try.underlying30 rfl (msg_info ((M.out w0).size))) rfl (by rw [EX.out]; exact ⟨_, rfl, M.out _, H.out.b⟩)
theorem parse_0_24 {A : Option Addr} {c : Nat} {l : List Int} {w0 : World} (hr : Kd.C (Kd.int .u8) w0 A l.length l) (hc : l.length ≤ c) (hs : l.length ≤ 1000000) (hb : isBytes l) :
    Calls Try.prog 12 #[.int .i64 0, .int .u8 24, .slice A l.length c] w0 fun en w' => ∃ cx, en = .returned (.tuple #[.agg cx, .int .i64 (parse 0 24 l).2]) ∧ IsMsg w' cx (parse 0 24 l).1 ∧ Below w0.heap.size w0 w' := by
  have HR := Aside0.mk hr
  have HC := Aside0.mk hc
  have HS := Aside0.mk hs
  have HBB := Aside0.mk hb
  clear hr hc hs hb
  go_enter Try.func12, Try.ntmps12
  go_upto_region 3 with (first | ((with_reducible refine gate_dst (N := 6) rfl ?_); refine ev_alloc rfl rfl ?_; intro gr w1 hg_ h1_ h2_; have HG := Aside0.mk hg_; have H1 := Aside0.mk h1_; have H2 := Aside0.mk h2_; clear hg_ h1_ h2_))
  go_upto_region 4 with (first | ((with_reducible refine gate_dst (N := 20) rfl ?_); refine ev_build ((zeroC.setIfInBounds 0 (.int .u8 (24)))) rfl (by go_simp; first | rfl | done) ?_; intro cx hcx_; have M := Aside0.mk (show ∀ W, IsMsg W cx _ from fun W => by rw [hcx_]; exact (fun W => set_code (zero_is W) (v := 24) (by decide)) W); have NL := Aside0.mk (show NilL cx by rw [hcx_]; exact PS.zero_nil.set (by decide)); clear hcx_) | ((with_reducible refine gate_dst (N := 8) rfl ?_); refine ev_var (y := .tmp 20) rfl rfl rfl rfl rfl (M.out w0) rfl rfl ?_; intro gm w2 hg_ h1_ hb_; have HM1 := Aside0.mk hg_; have HM2 := Aside0.mk h1_; have HM3 := Aside0.mk hb_; clear h1_ hb_ hg_))
  go_upto_region 5 with (first | (go_at_call 20; (with_reducible refine (p_new A c l _ (Kd.C_below HR.out (H2.out.trans (HM3.out.mono H2.out.size))) HC.out HS.out HBB.out).mono ?_); rintro en w3 ⟨g, rfl, q1_, q2_, q3_, q4_⟩; have HP := Aside0.mk (St_first HG.out H1.out H2.out HM1.out HM2.out HM3.out M.out NL.out q1_ q2_ q3_); clear q1_ q2_ q3_ q4_ H1 H2 HG HM1 HM2 HM3))
  go_upto_region 6 with (first | (go_at_call 21; (with_reducible refine (form_0_24 (PS.St.at_code HP.out).1).mono ?_); rintro en w4 ⟨a4, a5, a7, a8, rfl, ⟨f4_, f5_, f7_, f8_⟩, l4_, l5_, l7_, l8_, hb_⟩; have hl_ := PS.Sk.lt (PS.Sk.start HP.out); have F4 := Aside0.mk f4_; have F5 := Aside0.mk f5_; have F7 := Aside0.mk f7_; have F8 := Aside0.mk f8_; have F4g : a4 ≠ g := (by omega); have F4m : a4 ≠ gm := (by omega); have F5g : a5 ≠ g := (by omega); have F5m : a5 ≠ gm := (by omega); have F7g : a7 ≠ g := (by omega); have F7m : a7 ≠ gm := (by omega); have F8g : a8 ≠ g := (by omega); have F8m : a8 ≠ gm := (by omega); have n0_ := Aside0.mk (PS.St.below HP.out hb_); clear HP hb_ f4_ f5_ f7_ f8_ l4_ l5_ l7_ l8_ hl_; have HP := n0_; clear n0_))
  have hef := eq_func
  go_upto_region 8 with (fail)
  clear hef
  obtain ⟨m0, hm0⟩ : ∃ z, z = ({ zeroM with code := 24 } : Msg) := ⟨_, rfl⟩
  rw [← hm0] at HP
  have HM0 := Aside0.mk hm0
  have HMC := Aside0.mk (show m0.code = 24 by rw [hm0])
  clear hm0 M NL
  have n0_ := Aside0.mk (PS.Sk.start HP.out)
  clear HP
  have HP := n0_
  clear n0_
  go_upto_region 9 with (first | (go_at_call 49; (with_reducible refine (place_any HP.out F5.out F5g F5m F4.out F4g F4m).mono ?_); rintro en w6 ⟨rfl, hp_⟩; obtain ⟨cb, e_⟩ : ∃ z, z = placeR m0 ⟨l, false, 0⟩ := ⟨_, rfl⟩; rw [← e_] at hp_; obtain ⟨c9, m9⟩ := cb; have EB := Aside0.mk e_; clear e_; have n0_ := Aside0.mk hp_; clear HP hp_; have HP := n0_; clear n0_))
  replace HP : Aside0 (PS.Sk w4 w0 gr g gm w6 c9 m9) := HP
  have n0_ := Aside0.mk HP.out.st
  clear HP F4g F4m F5g F5m F7g F7m F8g F8m F4 F5 F7 F8
  have HP := n0_
  clear n0_
  have E2 := Aside0.mk (show bodyR 0 m0 (cu l) = (c9, m9) from by
    unfold bodyR
    rw [if_neg (by have := HMC.out; omega)]
    rw [if_neg (by have := HMC.out; omega)]
    rw [if_neg (by have := HMC.out; omega)]
    rw [if_neg (by have := HMC.out; omega)]
    rw [if_neg (by have := HMC.out; omega)]
    rw [if_pos (by decide)]
    rw [EB.out]
    rfl)
  go_upto_region 10 with (first | (go_at_call 22; (with_reducible refine (PS.St.fin HP.out).mono ?_); rintro en x1 ⟨rfl, hp_⟩; obtain ⟨c10, ec_⟩ : ∃ z, z = c9.fin := ⟨_, rfl⟩; rw [← ec_] at hp_; have Ec10 := Aside0.mk ec_; clear ec_; have n0_ := Aside0.mk hp_; clear HP hp_; have HP := n0_; clear n0_))
  go_upto_region 11 with (first | (go_at_call 23; (with_reducible refine (PS.St.err HP.out).mono ?_); rintro en x2 ⟨rfl, hp_⟩; have n0_ := Aside0.mk hp_; clear HP hp_; have HP := n0_; clear n0_))
  have he1 : parse 0 24 l = if c10.e ≠ 0 then (zeroM, c10.e) else (m9, 0) := by
    unfold parse
    rw [if_neg (by decide), if_neg (by decide), ← HM0.out, E2.out, Ec10.out]
  by_cases h9 : c10.e = 0
  · have ex_ : parse 0 24 l = (m9, 0) := by rw [he1, if_neg (fun h => h h9)]
    have EX := Aside0.mk ex_
    have g1 : (c10.e != 0) = false := by rw [h9]; rfl
    have g2 : (c10.e == 0) = true := by rw [h9]; rfl
    clear h9 ex_ he1
    obtain ⟨cx, h_, hz_, hm_⟩ := PS.St.held2 HP.out
    have H := Aside0.mk h_
    have HZ := Aside0.mk hz_
    have HM := Aside0.mk hm_
    have HB := Aside0.mk HP.out.b
    clear h_ hz_ hm_ HP
    go_wp2_with (first | ((with_reducible refine gate_dst (N := 39) rfl ?_); refine ev_load (x := .tmp 8) rfl rfl rfl H.out (i := 1) rfl (HZ.out) ?_) | ((with_reducible refine gate_op (u := .store 30 (.tmp 6) (.tmp 39)) rfl ?_); refine ev_store rfl rfl rfl rfl H.out (i := 0) rfl rfl (HM.out _ ⟨rfl, rfl, rfl, Kept.refl _ _⟩) ?_; intro x91 h3_ h4_; have HE := Aside0.mk (HM.out _ h4_); clear h4_; have n0_ := Aside0.mk (h3_); clear H; have H := n0_; clear n0_; clear h3_))
    refine bodyPost_ret (results_ct rfl _ _ gr 30 _ (0, 0) _ rfl (H.out.at 0 rfl) Try.underlying30 rfl (msg_info (HZ.out))) rfl (by rw [EX.out]; exact ⟨_, rfl, HE.out, H.out.b⟩)
  · have ex_ : parse 0 24 l = (zeroM, c10.e) := by rw [he1, if_pos h9]
    have EX := Aside0.mk ex_
    have g1 : (c10.e != 0) = true := by simpa using h9
    have g2 : (c10.e == 0) = false := by simpa using h9
    clear h9 ex_ he1
    have H := Aside0.mk (PS.St.held HP.out)
    clear HP
    go_wp2_with (first | ((with_reducible refine gate_dst (N := 37) rfl ?_); refine ev_build (zeroC) rfl (by go_simp; first | rfl | done) ?_; intro cx hcx_; have M := Aside0.mk (show ∀ W, IsMsg W cx _ from fun W => by rw [hcx_]; exact zero_is W); clear hcx_) | ((with_reducible refine gate_op (u := .store 30 (.tmp 6) (.tmp 37)) rfl ?_); refine ev_store rfl rfl rfl rfl H.out (i := 0) rfl (rfl) (M.out w0) ?_; intro x90 h3_ h4_; have n0_ := Aside0.mk (h3_); clear H; have H := n0_; clear n0_; clear h3_ h4_))
    refine bodyPost_ret (results_ct rfl _ _ gr 30 _ (0, 0) _ rfl (H.out.at 0 rfl) Try.underlying30 rfl (msg_info ((M.out w0).size))) rfl (by rw [EX.out]; exact ⟨_, rfl, M.out _, H.out.b⟩)
theorem parse_no1 {A : Option Addr} {c : Nat} {l : List Int} {w0 : World} (hr : Kd.C (Kd.int .u8) w0 A l.length l) (hc : l.length ≤ c) (hs : l.length ≤ 1000000) (hb : isBytes l) {code : Int} (hcd : 0 ≤ code ∧ code < 256) (hk : ¬ isCode code) :
    Calls Try.prog 12 #[.int .i64 1, .int .u8 code, .slice A l.length c] w0 fun en w' => ∃ cx, en = .returned (.tuple #[.agg cx, .int .i64 4]) ∧ IsMsg w' cx zeroM ∧ Below w0.heap.size w0 w' := by
  have HR := Aside0.mk hr
  have HC := Aside0.mk hc
  have HS := Aside0.mk hs
  have HBB := Aside0.mk hb
  clear hr hc hs hb
  have HKB := Aside0.mk hcd
  have HKN := Aside0.mk hk
  clear hcd hk
  go_enter Try.func12, Try.ntmps12
  go_upto_region 3 with (first | ((with_reducible refine gate_dst (N := 6) rfl ?_); refine ev_alloc rfl rfl ?_; intro gr w1 hg_ h1_ h2_; have HG := Aside0.mk hg_; have H1 := Aside0.mk h1_; have H2 := Aside0.mk h2_; clear hg_ h1_ h2_))
  go_upto_region 4 with (first | ((with_reducible refine gate_dst (N := 20) rfl ?_); refine ev_build ((zeroC.setIfInBounds 0 (.int .u8 (code)))) rfl (by go_simp; first | rfl | done) ?_; intro cx hcx_; have M := Aside0.mk (show ∀ W, IsMsg W cx _ from fun W => by rw [hcx_]; exact (fun W => set_code (zero_is W) (v := code) ⟨by have := HKB.out; omega, by have := HKB.out; omega⟩) W); have NL := Aside0.mk (show NilL cx by rw [hcx_]; exact PS.zero_nil.set (by decide)); clear hcx_) | ((with_reducible refine gate_dst (N := 8) rfl ?_); refine ev_var (y := .tmp 20) rfl rfl rfl rfl rfl (M.out w0) rfl rfl ?_; intro gm w2 hg_ h1_ hb_; have HM1 := Aside0.mk hg_; have HM2 := Aside0.mk h1_; have HM3 := Aside0.mk hb_; clear h1_ hb_ hg_))
  go_upto_region 5 with (first | (go_at_call 20; (with_reducible refine (p_new A c l _ (Kd.C_below HR.out (H2.out.trans (HM3.out.mono H2.out.size))) HC.out HS.out HBB.out).mono ?_); rintro en w3 ⟨g, rfl, q1_, q2_, q3_, q4_⟩; have HP := Aside0.mk (St_first HG.out H1.out H2.out HM1.out HM2.out HM3.out M.out NL.out q1_ q2_ q3_); clear q1_ q2_ q3_ q4_ H1 H2 HG HM1 HM2 HM3))
  go_upto_region 6 with (first | (go_at_call 21; (with_reducible refine (form_1_no HKN.out (PS.St.at_code HP.out).1).mono ?_); rintro en w4 ⟨a4, a5, a7, a8, rfl, ⟨f4_, f5_, f7_, f8_⟩, l4_, l5_, l7_, l8_, hb_⟩; have hl_ := PS.Sk.lt (PS.Sk.start HP.out); have F4 := Aside0.mk f4_; have F5 := Aside0.mk f5_; have F7 := Aside0.mk f7_; have F8 := Aside0.mk f8_; have F4g : a4 ≠ g := (by omega); have F4m : a4 ≠ gm := (by omega); have F5g : a5 ≠ g := (by omega); have F5m : a5 ≠ gm := (by omega); have F7g : a7 ≠ g := (by omega); have F7m : a7 ≠ gm := (by omega); have F8g : a8 ≠ g := (by omega); have F8m : a8 ≠ gm := (by omega); have n0_ := Aside0.mk (PS.St.below HP.out hb_); clear HP hb_ f4_ f5_ f7_ f8_ l4_ l5_ l7_ l8_ hl_; have HP := n0_; clear n0_))
  have hef := eq_nilf
  have H := Aside0.mk (PS.St.held HP.out)
  clear HP NL F4g F4m F5g F5m F7g F7m F8g F8m F4 F5 F7 F8
  go_wp2_with (first | ((with_reducible refine gate_dst (N := 28) rfl ?_); refine ev_build (zeroC) rfl (by go_simp; first | rfl | done) ?_; intro cx hcx_; have M := Aside0.mk (show ∀ W, IsMsg W cx _ from fun W => by rw [hcx_]; exact zero_is W); clear hcx_) | ((with_reducible refine gate_op (u := .store 30 (.tmp 6) (.tmp 28)) rfl ?_); refine ev_store rfl rfl rfl rfl H.out (i := 0) rfl (rfl) (M.out w0) ?_; intro w99 h3_ h4_; have n0_ := Aside0.mk (h3_); clear H; have H := n0_; clear n0_; clear h3_ h4_))
  refine bodyPost_ret (results_ct rfl _ _ gr 30 _ (0, 0) _ rfl (H.out.at 0 rfl) Try.underlying30 rfl (msg_info ((M.out w0).size))) rfl (⟨_, rfl, M.out _, H.out.b⟩)
theorem parse_1_3 {A : Option Addr} {c : Nat} {l : List Int} {w0 : World} (hr : Kd.C (Kd.int .u8) w0 A l.length l) (hc : l.length ≤ c) (hs : l.length ≤ 1000000) (hb : isBytes l) :
    Calls Try.prog 12 #[.int .i64 1, .int .u8 3, .slice A l.length c] w0 fun en w' => ∃ cx, en = .returned (.tuple #[.agg cx, .int .i64 (parse 1 3 l).2]) ∧ IsMsg w' cx (parse 1 3 l).1 ∧ Below w0.heap.size w0 w' := by
  have HR := Aside0.mk hr
  have HC := Aside0.mk hc
  have HS := Aside0.mk hs
  have HBB := Aside0.mk hb
  clear hr hc hs hb
  go_enter Try.func12, Try.ntmps12
  go_upto_region 3 with (first | ((with_reducible refine gate_dst (N := 6) rfl ?_); refine ev_alloc rfl rfl ?_; intro gr w1 hg_ h1_ h2_; have HG := Aside0.mk hg_; have H1 := Aside0.mk h1_; have H2 := Aside0.mk h2_; clear hg_ h1_ h2_))
  go_upto_region 4 with (first | ((with_reducible refine gate_dst (N := 20) rfl ?_); refine ev_build ((zeroC.setIfInBounds 0 (.int .u8 (3)))) rfl (by go_simp; first | rfl | done) ?_; intro cx hcx_; have M := Aside0.mk (show ∀ W, IsMsg W cx _ from fun W => by rw [hcx_]; exact (fun W => set_code (zero_is W) (v := 3) (by decide)) W); have NL := Aside0.mk (show NilL cx by rw [hcx_]; exact PS.zero_nil.set (by decide)); clear hcx_) | ((with_reducible refine gate_dst (N := 8) rfl ?_); refine ev_var (y := .tmp 20) rfl rfl rfl rfl rfl (M.out w0) rfl rfl ?_; intro gm w2 hg_ h1_ hb_; have HM1 := Aside0.mk hg_; have HM2 := Aside0.mk h1_; have HM3 := Aside0.mk hb_; clear h1_ hb_ hg_))
  go_upto_region 5 with (first | (go_at_call 20; (with_reducible refine (p_new A c l _ (Kd.C_below HR.out (H2.out.trans (HM3.out.mono H2.out.size))) HC.out HS.out HBB.out).mono ?_); rintro en w3 ⟨g, rfl, q1_, q2_, q3_, q4_⟩; have HP := Aside0.mk (St_first HG.out H1.out H2.out HM1.out HM2.out HM3.out M.out NL.out q1_ q2_ q3_); clear q1_ q2_ q3_ q4_ H1 H2 HG HM1 HM2 HM3))
  go_upto_region 6 with (first | (go_at_call 21; (with_reducible refine (form_1_3 (PS.St.at_code HP.out).1).mono ?_); rintro en w4 ⟨a4, a5, a7, a8, rfl, ⟨f4_, f5_, f7_, f8_⟩, l4_, l5_, l7_, l8_, hb_⟩; have hl_ := PS.Sk.lt (PS.Sk.start HP.out); have F4 := Aside0.mk f4_; have F5 := Aside0.mk f5_; have F7 := Aside0.mk f7_; have F8 := Aside0.mk f8_; have F4g : a4 ≠ g := (by omega); have F4m : a4 ≠ gm := (by omega); have F5g : a5 ≠ g := (by omega); have F5m : a5 ≠ gm := (by omega); have F7g : a7 ≠ g := (by omega); have F7m : a7 ≠ gm := (by omega); have F8g : a8 ≠ g := (by omega); have F8m : a8 ≠ gm := (by omega); have n0_ := Aside0.mk (PS.St.below HP.out hb_); clear HP hb_ f4_ f5_ f7_ f8_ l4_ l5_ l7_ l8_ hl_; have HP := n0_; clear n0_))
  have hef := eq_func
  go_upto_region 8 with (fail)
  clear hef
  obtain ⟨m0, hm0⟩ : ∃ z, z = ({ zeroM with code := 3 } : Msg) := ⟨_, rfl⟩
  rw [← hm0] at HP
  have HM0 := Aside0.mk hm0
  have HMC := Aside0.mk (show m0.code = 3 by rw [hm0])
  clear hm0 M NL
  have n0_ := Aside0.mk (PS.Sk.start HP.out)
  clear HP
  have HP := n0_
  clear n0_
  go_upto_region 9 with (first | (go_at_call 40; (with_reducible refine (told_any HP.out F5.out F5g F5m F4.out F4g F4m).mono ?_); rintro en w6 ⟨rfl, hp_⟩; obtain ⟨cb, e_⟩ : ∃ z, z = toldR m0 ⟨l, false, 0⟩ := ⟨_, rfl⟩; rw [← e_] at hp_; obtain ⟨c9, m9⟩ := cb; have EB := Aside0.mk e_; clear e_; have n0_ := Aside0.mk hp_; clear HP hp_; have HP := n0_; clear n0_))
  replace HP : Aside0 (PS.Sk w4 w0 gr g gm w6 c9 m9) := HP
  have n0_ := Aside0.mk HP.out.st
  clear HP F4g F4m F5g F5m F7g F7m F8g F8m F4 F5 F7 F8
  have HP := n0_
  clear n0_
  have E2 := Aside0.mk (show bodyR 1 m0 (cu l) = (c9, m9) from by
    unfold bodyR
    rw [if_pos (by have := HMC.out; omega)]
    rw [if_neg (by decide)]
    rw [EB.out]
    rfl)
  go_upto_region 10 with (first | (go_at_call 22; (with_reducible refine (PS.St.fin HP.out).mono ?_); rintro en x1 ⟨rfl, hp_⟩; obtain ⟨c10, ec_⟩ : ∃ z, z = c9.fin := ⟨_, rfl⟩; rw [← ec_] at hp_; have Ec10 := Aside0.mk ec_; clear ec_; have n0_ := Aside0.mk hp_; clear HP hp_; have HP := n0_; clear n0_))
  go_upto_region 11 with (first | (go_at_call 23; (with_reducible refine (PS.St.err HP.out).mono ?_); rintro en x2 ⟨rfl, hp_⟩; have n0_ := Aside0.mk hp_; clear HP hp_; have HP := n0_; clear n0_))
  have he1 : parse 1 3 l = if c10.e ≠ 0 then (zeroM, c10.e) else (m9, 0) := by
    unfold parse
    rw [if_neg (by decide), if_neg (by decide), ← HM0.out, E2.out, Ec10.out]
  by_cases h9 : c10.e = 0
  · have ex_ : parse 1 3 l = (m9, 0) := by rw [he1, if_neg (fun h => h h9)]
    have EX := Aside0.mk ex_
    have g1 : (c10.e != 0) = false := by rw [h9]; rfl
    have g2 : (c10.e == 0) = true := by rw [h9]; rfl
    clear h9 ex_ he1
    obtain ⟨cx, h_, hz_, hm_⟩ := PS.St.held2 HP.out
    have H := Aside0.mk h_
    have HZ := Aside0.mk hz_
    have HM := Aside0.mk hm_
    have HB := Aside0.mk HP.out.b
    clear h_ hz_ hm_ HP
    go_wp2_with (first | ((with_reducible refine gate_dst (N := 39) rfl ?_); refine ev_load (x := .tmp 8) rfl rfl rfl H.out (i := 1) rfl (HZ.out) ?_) | ((with_reducible refine gate_op (u := .store 30 (.tmp 6) (.tmp 39)) rfl ?_); refine ev_store rfl rfl rfl rfl H.out (i := 0) rfl rfl (HM.out _ ⟨rfl, rfl, rfl, Kept.refl _ _⟩) ?_; intro x91 h3_ h4_; have HE := Aside0.mk (HM.out _ h4_); clear h4_; have n0_ := Aside0.mk (h3_); clear H; have H := n0_; clear n0_; clear h3_))
    refine bodyPost_ret (results_ct rfl _ _ gr 30 _ (0, 0) _ rfl (H.out.at 0 rfl) Try.underlying30 rfl (msg_info (HZ.out))) rfl (by rw [EX.out]; exact ⟨_, rfl, HE.out, H.out.b⟩)
  · have ex_ : parse 1 3 l = (zeroM, c10.e) := by rw [he1, if_pos h9]
    have EX := Aside0.mk ex_
    have g1 : (c10.e != 0) = true := by simpa using h9
    have g2 : (c10.e == 0) = false := by simpa using h9
    clear h9 ex_ he1
    have H := Aside0.mk (PS.St.held HP.out)
    clear HP
    go_wp2_with (first | ((with_reducible refine gate_dst (N := 37) rfl ?_); refine ev_build (zeroC) rfl (by go_simp; first | rfl | done) ?_; intro cx hcx_; have M := Aside0.mk (show ∀ W, IsMsg W cx _ from fun W => by rw [hcx_]; exact zero_is W); clear hcx_) | ((with_reducible refine gate_op (u := .store 30 (.tmp 6) (.tmp 37)) rfl ?_); refine ev_store rfl rfl rfl rfl H.out (i := 0) rfl (rfl) (M.out w0) ?_; intro x90 h3_ h4_; have n0_ := Aside0.mk (h3_); clear H; have H := n0_; clear n0_; clear h3_ h4_))
    refine bodyPost_ret (results_ct rfl _ _ gr 30 _ (0, 0) _ rfl (H.out.at 0 rfl) Try.underlying30 rfl (msg_info ((M.out w0).size))) rfl (by rw [EX.out]; exact ⟨_, rfl, M.out _, H.out.b⟩)
theorem parse_1_4 {A : Option Addr} {c : Nat} {l : List Int} {w0 : World} (hr : Kd.C (Kd.int .u8) w0 A l.length l) (hc : l.length ≤ c) (hs : l.length ≤ 1000000) (hb : isBytes l) :
    Calls Try.prog 12 #[.int .i64 1, .int .u8 4, .slice A l.length c] w0 fun en w' => ∃ cx, en = .returned (.tuple #[.agg cx, .int .i64 (parse 1 4 l).2]) ∧ IsMsg w' cx (parse 1 4 l).1 ∧ Below w0.heap.size w0 w' := by
  have HR := Aside0.mk hr
  have HC := Aside0.mk hc
  have HS := Aside0.mk hs
  have HBB := Aside0.mk hb
  clear hr hc hs hb
  go_enter Try.func12, Try.ntmps12
  go_upto_region 3 with (first | ((with_reducible refine gate_dst (N := 6) rfl ?_); refine ev_alloc rfl rfl ?_; intro gr w1 hg_ h1_ h2_; have HG := Aside0.mk hg_; have H1 := Aside0.mk h1_; have H2 := Aside0.mk h2_; clear hg_ h1_ h2_))
  go_upto_region 4 with (first | ((with_reducible refine gate_dst (N := 20) rfl ?_); refine ev_build ((zeroC.setIfInBounds 0 (.int .u8 (4)))) rfl (by go_simp; first | rfl | done) ?_; intro cx hcx_; have M := Aside0.mk (show ∀ W, IsMsg W cx _ from fun W => by rw [hcx_]; exact (fun W => set_code (zero_is W) (v := 4) (by decide)) W); have NL := Aside0.mk (show NilL cx by rw [hcx_]; exact PS.zero_nil.set (by decide)); clear hcx_) | ((with_reducible refine gate_dst (N := 8) rfl ?_); refine ev_var (y := .tmp 20) rfl rfl rfl rfl rfl (M.out w0) rfl rfl ?_; intro gm w2 hg_ h1_ hb_; have HM1 := Aside0.mk hg_; have HM2 := Aside0.mk h1_; have HM3 := Aside0.mk hb_; clear h1_ hb_ hg_))
  go_upto_region 5 with (first | (go_at_call 20; (with_reducible refine (p_new A c l _ (Kd.C_below HR.out (H2.out.trans (HM3.out.mono H2.out.size))) HC.out HS.out HBB.out).mono ?_); rintro en w3 ⟨g, rfl, q1_, q2_, q3_, q4_⟩; have HP := Aside0.mk (St_first HG.out H1.out H2.out HM1.out HM2.out HM3.out M.out NL.out q1_ q2_ q3_); clear q1_ q2_ q3_ q4_ H1 H2 HG HM1 HM2 HM3))
  go_upto_region 6 with (first | (go_at_call 21; (with_reducible refine (form_1_4 (PS.St.at_code HP.out).1).mono ?_); rintro en w4 ⟨a4, a5, a7, a8, rfl, ⟨f4_, f5_, f7_, f8_⟩, l4_, l5_, l7_, l8_, hb_⟩; have hl_ := PS.Sk.lt (PS.Sk.start HP.out); have F4 := Aside0.mk f4_; have F5 := Aside0.mk f5_; have F7 := Aside0.mk f7_; have F8 := Aside0.mk f8_; have F4g : a4 ≠ g := (by omega); have F4m : a4 ≠ gm := (by omega); have F5g : a5 ≠ g := (by omega); have F5m : a5 ≠ gm := (by omega); have F7g : a7 ≠ g := (by omega); have F7m : a7 ≠ gm := (by omega); have F8g : a8 ≠ g := (by omega); have F8m : a8 ≠ gm := (by omega); have n0_ := Aside0.mk (PS.St.below HP.out hb_); clear HP hb_ f4_ f5_ f7_ f8_ l4_ l5_ l7_ l8_ hl_; have HP := n0_; clear n0_))
  have hef := eq_func
  go_upto_region 8 with (fail)
  clear hef
  obtain ⟨m0, hm0⟩ : ∃ z, z = ({ zeroM with code := 4 } : Msg) := ⟨_, rfl⟩
  rw [← hm0] at HP
  have HM0 := Aside0.mk hm0
  have HMC := Aside0.mk (show m0.code = 4 by rw [hm0])
  clear hm0 M NL
  have n0_ := Aside0.mk (PS.Sk.start HP.out)
  clear HP
  have HP := n0_
  clear n0_
  go_upto_region 9 with (first | (go_at_call 40; (with_reducible refine (told_any HP.out F5.out F5g F5m F4.out F4g F4m).mono ?_); rintro en w6 ⟨rfl, hp_⟩; obtain ⟨cb, e_⟩ : ∃ z, z = toldR m0 ⟨l, false, 0⟩ := ⟨_, rfl⟩; rw [← e_] at hp_; obtain ⟨c9, m9⟩ := cb; have EB := Aside0.mk e_; clear e_; have n0_ := Aside0.mk hp_; clear HP hp_; have HP := n0_; clear n0_))
  replace HP : Aside0 (PS.Sk w4 w0 gr g gm w6 c9 m9) := HP
  have n0_ := Aside0.mk HP.out.st
  clear HP F4g F4m F5g F5m F7g F7m F8g F8m F4 F5 F7 F8
  have HP := n0_
  clear n0_
  have E2 := Aside0.mk (show bodyR 1 m0 (cu l) = (c9, m9) from by
    unfold bodyR
    rw [if_pos (by have := HMC.out; omega)]
    rw [if_neg (by decide)]
    rw [EB.out]
    rfl)
  go_upto_region 10 with (first | (go_at_call 22; (with_reducible refine (PS.St.fin HP.out).mono ?_); rintro en x1 ⟨rfl, hp_⟩; obtain ⟨c10, ec_⟩ : ∃ z, z = c9.fin := ⟨_, rfl⟩; rw [← ec_] at hp_; have Ec10 := Aside0.mk ec_; clear ec_; have n0_ := Aside0.mk hp_; clear HP hp_; have HP := n0_; clear n0_))
  go_upto_region 11 with (first | (go_at_call 23; (with_reducible refine (PS.St.err HP.out).mono ?_); rintro en x2 ⟨rfl, hp_⟩; have n0_ := Aside0.mk hp_; clear HP hp_; have HP := n0_; clear n0_))
  have he1 : parse 1 4 l = if c10.e ≠ 0 then (zeroM, c10.e) else (m9, 0) := by
    unfold parse
    rw [if_neg (by decide), if_neg (by decide), ← HM0.out, E2.out, Ec10.out]
  by_cases h9 : c10.e = 0
  · have ex_ : parse 1 4 l = (m9, 0) := by rw [he1, if_neg (fun h => h h9)]
    have EX := Aside0.mk ex_
    have g1 : (c10.e != 0) = false := by rw [h9]; rfl
    have g2 : (c10.e == 0) = true := by rw [h9]; rfl
    clear h9 ex_ he1
    obtain ⟨cx, h_, hz_, hm_⟩ := PS.St.held2 HP.out
    have H := Aside0.mk h_
    have HZ := Aside0.mk hz_
    have HM := Aside0.mk hm_
    have HB := Aside0.mk HP.out.b
    clear h_ hz_ hm_ HP
    go_wp2_with (first | ((with_reducible refine gate_dst (N := 39) rfl ?_); refine ev_load (x := .tmp 8) rfl rfl rfl H.out (i := 1) rfl (HZ.out) ?_) | ((with_reducible refine gate_op (u := .store 30 (.tmp 6) (.tmp 39)) rfl ?_); refine ev_store rfl rfl rfl rfl H.out (i := 0) rfl rfl (HM.out _ ⟨rfl, rfl, rfl, Kept.refl _ _⟩) ?_; intro x91 h3_ h4_; have HE := Aside0.mk (HM.out _ h4_); clear h4_; have n0_ := Aside0.mk (h3_); clear H; have H := n0_; clear n0_; clear h3_))
    refine bodyPost_ret (results_ct rfl _ _ gr 30 _ (0, 0) _ rfl (H.out.at 0 rfl) Try.underlying30 rfl (msg_info (HZ.out))) rfl (by rw [EX.out]; exact ⟨_, rfl, HE.out, H.out.b⟩)
  · have ex_ : parse 1 4 l = (zeroM, c10.e) := by rw [he1, if_pos h9]
    have EX := Aside0.mk ex_
    have g1 : (c10.e != 0) = true := by simpa using h9
    have g2 : (c10.e == 0) = false := by simpa using h9
    clear h9 ex_ he1
    have H := Aside0.mk (PS.St.held HP.out)
    clear HP
    go_wp2_with (first | ((with_reducible refine gate_dst (N := 37) rfl ?_); refine ev_build (zeroC) rfl (by go_simp; first | rfl | done) ?_; intro cx hcx_; have M := Aside0.mk (show ∀ W, IsMsg W cx _ from fun W => by rw [hcx_]; exact zero_is W); clear hcx_) | ((with_reducible refine gate_op (u := .store 30 (.tmp 6) (.tmp 37)) rfl ?_); refine ev_store rfl rfl rfl rfl H.out (i := 0) rfl (rfl) (M.out w0) ?_; intro x90 h3_ h4_; have n0_ := Aside0.mk (h3_); clear H; have H := n0_; clear n0_; clear h3_ h4_))
    refine bodyPost_ret (results_ct rfl _ _ gr 30 _ (0, 0) _ rfl (H.out.at 0 rfl) Try.underlying30 rfl (msg_info ((M.out w0).size))) rfl (by rw [EX.out]; exact ⟨_, rfl, M.out _, H.out.b⟩)
theorem parse_1_6 {A : Option Addr} {c : Nat} {l : List Int} {w0 : World} (hr : Kd.C (Kd.int .u8) w0 A l.length l) (hc : l.length ≤ c) (hs : l.length ≤ 1000000) (hb : isBytes l) :
    Calls Try.prog 12 #[.int .i64 1, .int .u8 6, .slice A l.length c] w0 fun en w' => ∃ cx, en = .returned (.tuple #[.agg cx, .int .i64 (parse 1 6 l).2]) ∧ IsMsg w' cx (parse 1 6 l).1 ∧ Below w0.heap.size w0 w' := by
  have HR := Aside0.mk hr
  have HC := Aside0.mk hc
  have HS := Aside0.mk hs
  have HBB := Aside0.mk hb
  clear hr hc hs hb
  go_enter Try.func12, Try.ntmps12
  go_upto_region 3 with (first | ((with_reducible refine gate_dst (N := 6) rfl ?_); refine ev_alloc rfl rfl ?_; intro gr w1 hg_ h1_ h2_; have HG := Aside0.mk hg_; have H1 := Aside0.mk h1_; have H2 := Aside0.mk h2_; clear hg_ h1_ h2_))
  go_upto_region 4 with (first | ((with_reducible refine gate_dst (N := 20) rfl ?_); refine ev_build ((zeroC.setIfInBounds 0 (.int .u8 (6)))) rfl (by go_simp; first | rfl | done) ?_; intro cx hcx_; have M := Aside0.mk (show ∀ W, IsMsg W cx _ from fun W => by rw [hcx_]; exact (fun W => set_code (zero_is W) (v := 6) (by decide)) W); have NL := Aside0.mk (show NilL cx by rw [hcx_]; exact PS.zero_nil.set (by decide)); clear hcx_) | ((with_reducible refine gate_dst (N := 8) rfl ?_); refine ev_var (y := .tmp 20) rfl rfl rfl rfl rfl (M.out w0) rfl rfl ?_; intro gm w2 hg_ h1_ hb_; have HM1 := Aside0.mk hg_; have HM2 := Aside0.mk h1_; have HM3 := Aside0.mk hb_; clear h1_ hb_ hg_))
  go_upto_region 5 with (first | (go_at_call 20; (with_reducible refine (p_new A c l _ (Kd.C_below HR.out (H2.out.trans (HM3.out.mono H2.out.size))) HC.out HS.out HBB.out).mono ?_); rintro en w3 ⟨g, rfl, q1_, q2_, q3_, q4_⟩; have HP := Aside0.mk (St_first HG.out H1.out H2.out HM1.out HM2.out HM3.out M.out NL.out q1_ q2_ q3_); clear q1_ q2_ q3_ q4_ H1 H2 HG HM1 HM2 HM3))
  go_upto_region 6 with (first | (go_at_call 21; (with_reducible refine (form_1_6 (PS.St.at_code HP.out).1).mono ?_); rintro en w4 ⟨a4, a5, a7, a8, rfl, ⟨f4_, f5_, f7_, f8_⟩, l4_, l5_, l7_, l8_, hb_⟩; have hl_ := PS.Sk.lt (PS.Sk.start HP.out); have F4 := Aside0.mk f4_; have F5 := Aside0.mk f5_; have F7 := Aside0.mk f7_; have F8 := Aside0.mk f8_; have F4g : a4 ≠ g := (by omega); have F4m : a4 ≠ gm := (by omega); have F5g : a5 ≠ g := (by omega); have F5m : a5 ≠ gm := (by omega); have F7g : a7 ≠ g := (by omega); have F7m : a7 ≠ gm := (by omega); have F8g : a8 ≠ g := (by omega); have F8m : a8 ≠ gm := (by omega); have n0_ := Aside0.mk (PS.St.below HP.out hb_); clear HP hb_ f4_ f5_ f7_ f8_ l4_ l5_ l7_ l8_ hl_; have HP := n0_; clear n0_))
  have hef := eq_func
  go_upto_region 8 with (fail)
  clear hef
  obtain ⟨m0, hm0⟩ : ∃ z, z = ({ zeroM with code := 6 } : Msg) := ⟨_, rfl⟩
  rw [← hm0] at HP
  have HM0 := Aside0.mk hm0
  have HMC := Aside0.mk (show m0.code = 6 by rw [hm0])
  clear hm0 M NL
  have n0_ := Aside0.mk (PS.Sk.start HP.out)
  clear HP
  have HP := n0_
  clear n0_
  go_upto_region 9 with (first | (go_at_call 44; (with_reducible refine (one_any HP.out F5.out F5g F5m F4.out F4g F4m).mono ?_); rintro en w6 ⟨rfl, hp_⟩; obtain ⟨cb, e_⟩ : ∃ z, z = oneR m0 ⟨l, false, 0⟩ := ⟨_, rfl⟩; rw [← e_] at hp_; obtain ⟨c9, m9⟩ := cb; have EB := Aside0.mk e_; clear e_; have n0_ := Aside0.mk hp_; clear HP hp_; have HP := n0_; clear n0_))
  replace HP : Aside0 (PS.Sk w4 w0 gr g gm w6 c9 m9) := HP
  have n0_ := Aside0.mk HP.out.st
  clear HP F4g F4m F5g F5m F7g F7m F8g F8m F4 F5 F7 F8
  have HP := n0_
  clear n0_
  have E2 := Aside0.mk (show bodyR 1 m0 (cu l) = (c9, m9) from by
    unfold bodyR
    rw [if_neg (by have := HMC.out; omega)]
    rw [if_pos (by have := HMC.out; omega)]
    rw [EB.out]
    rfl)
  go_upto_region 10 with (first | (go_at_call 22; (with_reducible refine (PS.St.fin HP.out).mono ?_); rintro en x1 ⟨rfl, hp_⟩; obtain ⟨c10, ec_⟩ : ∃ z, z = c9.fin := ⟨_, rfl⟩; rw [← ec_] at hp_; have Ec10 := Aside0.mk ec_; clear ec_; have n0_ := Aside0.mk hp_; clear HP hp_; have HP := n0_; clear n0_))
  go_upto_region 11 with (first | (go_at_call 23; (with_reducible refine (PS.St.err HP.out).mono ?_); rintro en x2 ⟨rfl, hp_⟩; have n0_ := Aside0.mk hp_; clear HP hp_; have HP := n0_; clear n0_))
  have he1 : parse 1 6 l = if c10.e ≠ 0 then (zeroM, c10.e) else (m9, 0) := by
    unfold parse
    rw [if_neg (by decide), if_neg (by decide), ← HM0.out, E2.out, Ec10.out]
  by_cases h9 : c10.e = 0
  · have ex_ : parse 1 6 l = (m9, 0) := by rw [he1, if_neg (fun h => h h9)]
    have EX := Aside0.mk ex_
    have g1 : (c10.e != 0) = false := by rw [h9]; rfl
    have g2 : (c10.e == 0) = true := by rw [h9]; rfl
    clear h9 ex_ he1
    obtain ⟨cx, h_, hz_, hm_⟩ := PS.St.held2 HP.out
    have H := Aside0.mk h_
    have HZ := Aside0.mk hz_
    have HM := Aside0.mk hm_
    have HB := Aside0.mk HP.out.b
    clear h_ hz_ hm_ HP
    go_wp2_with (first | ((with_reducible refine gate_dst (N := 39) rfl ?_); refine ev_load (x := .tmp 8) rfl rfl rfl H.out (i := 1) rfl (HZ.out) ?_) | ((with_reducible refine gate_op (u := .store 30 (.tmp 6) (.tmp 39)) rfl ?_); refine ev_store rfl rfl rfl rfl H.out (i := 0) rfl rfl (HM.out _ ⟨rfl, rfl, rfl, Kept.refl _ _⟩) ?_; intro x91 h3_ h4_; have HE := Aside0.mk (HM.out _ h4_); clear h4_; have n0_ := Aside0.mk (h3_); clear H; have H := n0_; clear n0_; clear h3_))
    refine bodyPost_ret (results_ct rfl _ _ gr 30 _ (0, 0) _ rfl (H.out.at 0 rfl) Try.underlying30 rfl (msg_info (HZ.out))) rfl (by rw [EX.out]; exact ⟨_, rfl, HE.out, H.out.b⟩)
  · have ex_ : parse 1 6 l = (zeroM, c10.e) := by rw [he1, if_pos h9]
    have EX := Aside0.mk ex_
    have g1 : (c10.e != 0) = true := by simpa using h9
    have g2 : (c10.e == 0) = false := by simpa using h9
    clear h9 ex_ he1
    have H := Aside0.mk (PS.St.held HP.out)
    clear HP
    go_wp2_with (first | ((with_reducible refine gate_dst (N := 37) rfl ?_); refine ev_build (zeroC) rfl (by go_simp; first | rfl | done) ?_; intro cx hcx_; have M := Aside0.mk (show ∀ W, IsMsg W cx _ from fun W => by rw [hcx_]; exact zero_is W); clear hcx_) | ((with_reducible refine gate_op (u := .store 30 (.tmp 6) (.tmp 37)) rfl ?_); refine ev_store rfl rfl rfl rfl H.out (i := 0) rfl (rfl) (M.out w0) ?_; intro x90 h3_ h4_; have n0_ := Aside0.mk (h3_); clear H; have H := n0_; clear n0_; clear h3_ h4_))
    refine bodyPost_ret (results_ct rfl _ _ gr 30 _ (0, 0) _ rfl (H.out.at 0 rfl) Try.underlying30 rfl (msg_info ((M.out w0).size))) rfl (by rw [EX.out]; exact ⟨_, rfl, M.out _, H.out.b⟩)
theorem parse_1_16 {A : Option Addr} {c : Nat} {l : List Int} {w0 : World} (hr : Kd.C (Kd.int .u8) w0 A l.length l) (hc : l.length ≤ c) (hs : l.length ≤ 1000000) (hb : isBytes l) :
    Calls Try.prog 12 #[.int .i64 1, .int .u8 16, .slice A l.length c] w0 fun en w' => ∃ cx, en = .returned (.tuple #[.agg cx, .int .i64 (parse 1 16 l).2]) ∧ IsMsg w' cx (parse 1 16 l).1 ∧ Below w0.heap.size w0 w' := by
  have HR := Aside0.mk hr
  have HC := Aside0.mk hc
  have HS := Aside0.mk hs
  have HBB := Aside0.mk hb
  clear hr hc hs hb
  go_enter Try.func12, Try.ntmps12
  go_upto_region 3 with (first | ((with_reducible refine gate_dst (N := 6) rfl ?_); refine ev_alloc rfl rfl ?_; intro gr w1 hg_ h1_ h2_; have HG := Aside0.mk hg_; have H1 := Aside0.mk h1_; have H2 := Aside0.mk h2_; clear hg_ h1_ h2_))
  go_upto_region 4 with (first | ((with_reducible refine gate_dst (N := 20) rfl ?_); refine ev_build ((zeroC.setIfInBounds 0 (.int .u8 (16)))) rfl (by go_simp; first | rfl | done) ?_; intro cx hcx_; have M := Aside0.mk (show ∀ W, IsMsg W cx _ from fun W => by rw [hcx_]; exact (fun W => set_code (zero_is W) (v := 16) (by decide)) W); have NL := Aside0.mk (show NilL cx by rw [hcx_]; exact PS.zero_nil.set (by decide)); clear hcx_) | ((with_reducible refine gate_dst (N := 8) rfl ?_); refine ev_var (y := .tmp 20) rfl rfl rfl rfl rfl (M.out w0) rfl rfl ?_; intro gm w2 hg_ h1_ hb_; have HM1 := Aside0.mk hg_; have HM2 := Aside0.mk h1_; have HM3 := Aside0.mk hb_; clear h1_ hb_ hg_))
  go_upto_region 5 with (first | (go_at_call 20; (with_reducible refine (p_new A c l _ (Kd.C_below HR.out (H2.out.trans (HM3.out.mono H2.out.size))) HC.out HS.out HBB.out).mono ?_); rintro en w3 ⟨g, rfl, q1_, q2_, q3_, q4_⟩; have HP := Aside0.mk (St_first HG.out H1.out H2.out HM1.out HM2.out HM3.out M.out NL.out q1_ q2_ q3_); clear q1_ q2_ q3_ q4_ H1 H2 HG HM1 HM2 HM3))
  go_upto_region 6 with (first | (go_at_call 21; (with_reducible refine (form_1_16 (PS.St.at_code HP.out).1).mono ?_); rintro en w4 ⟨a4, a5, a7, a8, rfl, ⟨f4_, f5_, f7_, f8_⟩, l4_, l5_, l7_, l8_, hb_⟩; have hl_ := PS.Sk.lt (PS.Sk.start HP.out); have F4 := Aside0.mk f4_; have F5 := Aside0.mk f5_; have F7 := Aside0.mk f7_; have F8 := Aside0.mk f8_; have F4g : a4 ≠ g := (by omega); have F4m : a4 ≠ gm := (by omega); have F5g : a5 ≠ g := (by omega); have F5m : a5 ≠ gm := (by omega); have F7g : a7 ≠ g := (by omega); have F7m : a7 ≠ gm := (by omega); have F8g : a8 ≠ g := (by omega); have F8m : a8 ≠ gm := (by omega); have n0_ := Aside0.mk (PS.St.below HP.out hb_); clear HP hb_ f4_ f5_ f7_ f8_ l4_ l5_ l7_ l8_ hl_; have HP := n0_; clear n0_))
  have hef := eq_func
  go_upto_region 8 with (fail)
  clear hef
  obtain ⟨m0, hm0⟩ : ∃ z, z = ({ zeroM with code := 16 } : Msg) := ⟨_, rfl⟩
  rw [← hm0] at HP
  have HM0 := Aside0.mk hm0
  have HMC := Aside0.mk (show m0.code = 16 by rw [hm0])
  clear hm0 M NL
  have n0_ := Aside0.mk (PS.Sk.start HP.out)
  clear HP
  have HP := n0_
  clear n0_
  go_upto_region 9 with (first | (go_at_call 45; (with_reducible refine (many_0 HP.out F5.out F5g F5m F4.out F4g F4m F7.out F7g F7m F8.out F8g F8m).mono ?_); rintro en w6 ⟨rfl, hp_⟩; obtain ⟨cb, e_⟩ : ∃ z, z = whereR 123 m0 ⟨l, false, 0⟩ := ⟨_, rfl⟩; rw [← e_] at hp_; obtain ⟨c9, m9⟩ := cb; have EB := Aside0.mk e_; clear e_; have n0_ := Aside0.mk hp_; clear HP hp_; have HP := n0_; clear n0_))
  replace HP : Aside0 (PS.Sk w4 w0 gr g gm w6 c9 m9) := HP
  have n0_ := Aside0.mk HP.out.st
  clear HP F4g F4m F5g F5m F7g F7m F8g F8m F4 F5 F7 F8
  have HP := n0_
  clear n0_
  have E2 := Aside0.mk (show bodyR 1 m0 (cu l) = (c9, m9) from by
    unfold bodyR
    rw [if_neg (by have := HMC.out; omega)]
    rw [if_neg (by have := HMC.out; omega)]
    rw [if_pos (by have := HMC.out; omega)]
    rw [if_neg (by decide)]
    rw [EB.out]
    rfl)
  go_upto_region 10 with (first | (go_at_call 22; (with_reducible refine (PS.St.fin HP.out).mono ?_); rintro en x1 ⟨rfl, hp_⟩; obtain ⟨c10, ec_⟩ : ∃ z, z = c9.fin := ⟨_, rfl⟩; rw [← ec_] at hp_; have Ec10 := Aside0.mk ec_; clear ec_; have n0_ := Aside0.mk hp_; clear HP hp_; have HP := n0_; clear n0_))
  go_upto_region 11 with (first | (go_at_call 23; (with_reducible refine (PS.St.err HP.out).mono ?_); rintro en x2 ⟨rfl, hp_⟩; have n0_ := Aside0.mk hp_; clear HP hp_; have HP := n0_; clear n0_))
  have he1 : parse 1 16 l = if c10.e ≠ 0 then (zeroM, c10.e) else (m9, 0) := by
    unfold parse
    rw [if_neg (by decide), if_neg (by decide), ← HM0.out, E2.out, Ec10.out]
  by_cases h9 : c10.e = 0
  · have ex_ : parse 1 16 l = (m9, 0) := by rw [he1, if_neg (fun h => h h9)]
    have EX := Aside0.mk ex_
    have g1 : (c10.e != 0) = false := by rw [h9]; rfl
    have g2 : (c10.e == 0) = true := by rw [h9]; rfl
    clear h9 ex_ he1
    obtain ⟨cx, h_, hz_, hm_⟩ := PS.St.held2 HP.out
    have H := Aside0.mk h_
    have HZ := Aside0.mk hz_
    have HM := Aside0.mk hm_
    have HB := Aside0.mk HP.out.b
    clear h_ hz_ hm_ HP
    go_wp2_with (first | ((with_reducible refine gate_dst (N := 39) rfl ?_); refine ev_load (x := .tmp 8) rfl rfl rfl H.out (i := 1) rfl (HZ.out) ?_) | ((with_reducible refine gate_op (u := .store 30 (.tmp 6) (.tmp 39)) rfl ?_); refine ev_store rfl rfl rfl rfl H.out (i := 0) rfl rfl (HM.out _ ⟨rfl, rfl, rfl, Kept.refl _ _⟩) ?_; intro x91 h3_ h4_; have HE := Aside0.mk (HM.out _ h4_); clear h4_; have n0_ := Aside0.mk (h3_); clear H; have H := n0_; clear n0_; clear h3_))
    refine bodyPost_ret (results_ct rfl _ _ gr 30 _ (0, 0) _ rfl (H.out.at 0 rfl) Try.underlying30 rfl (msg_info (HZ.out))) rfl (by rw [EX.out]; exact ⟨_, rfl, HE.out, H.out.b⟩)
  · have ex_ : parse 1 16 l = (zeroM, c10.e) := by rw [he1, if_pos h9]
    have EX := Aside0.mk ex_
    have g1 : (c10.e != 0) = true := by simpa using h9
    have g2 : (c10.e == 0) = false := by simpa using h9
    clear h9 ex_ he1
    have H := Aside0.mk (PS.St.held HP.out)
    clear HP
    go_wp2_with (first | ((with_reducible refine gate_dst (N := 37) rfl ?_); refine ev_build (zeroC) rfl (by go_simp; first | rfl | done) ?_; intro cx hcx_; have M := Aside0.mk (show ∀ W, IsMsg W cx _ from fun W => by rw [hcx_]; exact zero_is W); clear hcx_) | ((with_reducible refine gate_op (u := .store 30 (.tmp 6) (.tmp 37)) rfl ?_); refine ev_store rfl rfl rfl rfl H.out (i := 0) rfl (rfl) (M.out w0) ?_; intro x90 h3_ h4_; have n0_ := Aside0.mk (h3_); clear H; have H := n0_; clear n0_; clear h3_ h4_))
    refine bodyPost_ret (results_ct rfl _ _ gr 30 _ (0, 0) _ rfl (H.out.at 0 rfl) Try.underlying30 rfl (msg_info ((M.out w0).size))) rfl (by rw [EX.out]; exact ⟨_, rfl, M.out _, H.out.b⟩)
theorem parse_1_22 {A : Option Addr} {c : Nat} {l : List Int} {w0 : World} (hr : Kd.C (Kd.int .u8) w0 A l.length l) (hc : l.length ≤ c) (hs : l.length ≤ 1000000) (hb : isBytes l) :
    Calls Try.prog 12 #[.int .i64 1, .int .u8 22, .slice A l.length c] w0 fun en w' => ∃ cx, en = .returned (.tuple #[.agg cx, .int .i64 (parse 1 22 l).2]) ∧ IsMsg w' cx (parse 1 22 l).1 ∧ Below w0.heap.size w0 w' := by
  have HR := Aside0.mk hr
  have HC := Aside0.mk hc
  have HS := Aside0.mk hs
  have HBB := Aside0.mk hb
  clear hr hc hs hb
  go_enter Try.func12, Try.ntmps12
  go_upto_region 3 with (first | ((with_reducible refine gate_dst (N := 6) rfl ?_); refine ev_alloc rfl rfl ?_; intro gr w1 hg_ h1_ h2_; have HG := Aside0.mk hg_; have H1 := Aside0.mk h1_; have H2 := Aside0.mk h2_; clear hg_ h1_ h2_))
  go_upto_region 4 with (first | ((with_reducible refine gate_dst (N := 20) rfl ?_); refine ev_build ((zeroC.setIfInBounds 0 (.int .u8 (22)))) rfl (by go_simp; first | rfl | done) ?_; intro cx hcx_; have M := Aside0.mk (show ∀ W, IsMsg W cx _ from fun W => by rw [hcx_]; exact (fun W => set_code (zero_is W) (v := 22) (by decide)) W); have NL := Aside0.mk (show NilL cx by rw [hcx_]; exact PS.zero_nil.set (by decide)); clear hcx_) | ((with_reducible refine gate_dst (N := 8) rfl ?_); refine ev_var (y := .tmp 20) rfl rfl rfl rfl rfl (M.out w0) rfl rfl ?_; intro gm w2 hg_ h1_ hb_; have HM1 := Aside0.mk hg_; have HM2 := Aside0.mk h1_; have HM3 := Aside0.mk hb_; clear h1_ hb_ hg_))
  go_upto_region 5 with (first | (go_at_call 20; (with_reducible refine (p_new A c l _ (Kd.C_below HR.out (H2.out.trans (HM3.out.mono H2.out.size))) HC.out HS.out HBB.out).mono ?_); rintro en w3 ⟨g, rfl, q1_, q2_, q3_, q4_⟩; have HP := Aside0.mk (St_first HG.out H1.out H2.out HM1.out HM2.out HM3.out M.out NL.out q1_ q2_ q3_); clear q1_ q2_ q3_ q4_ H1 H2 HG HM1 HM2 HM3))
  go_upto_region 6 with (first | (go_at_call 21; (with_reducible refine (form_1_22 (PS.St.at_code HP.out).1).mono ?_); rintro en w4 ⟨a4, a5, a7, a8, rfl, ⟨f4_, f5_, f7_, f8_⟩, l4_, l5_, l7_, l8_, hb_⟩; have hl_ := PS.Sk.lt (PS.Sk.start HP.out); have F4 := Aside0.mk f4_; have F5 := Aside0.mk f5_; have F7 := Aside0.mk f7_; have F8 := Aside0.mk f8_; have F4g : a4 ≠ g := (by omega); have F4m : a4 ≠ gm := (by omega); have F5g : a5 ≠ g := (by omega); have F5m : a5 ≠ gm := (by omega); have F7g : a7 ≠ g := (by omega); have F7m : a7 ≠ gm := (by omega); have F8g : a8 ≠ g := (by omega); have F8m : a8 ≠ gm := (by omega); have n0_ := Aside0.mk (PS.St.below HP.out hb_); clear HP hb_ f4_ f5_ f7_ f8_ l4_ l5_ l7_ l8_ hl_; have HP := n0_; clear n0_))
  have hef := eq_func
  go_upto_region 8 with (fail)
  clear hef
  obtain ⟨m0, hm0⟩ : ∃ z, z = ({ zeroM with code := 22 } : Msg) := ⟨_, rfl⟩
  rw [← hm0] at HP
  have HM0 := Aside0.mk hm0
  have HMC := Aside0.mk (show m0.code = 22 by rw [hm0])
  clear hm0 M NL
  have n0_ := Aside0.mk (PS.Sk.start HP.out)
  clear HP
  have HP := n0_
  clear n0_
  go_upto_region 9 with (first | (go_at_call 47; (with_reducible refine (mask_any HP.out F5.out F5g F5m F4.out F4g F4m).mono ?_); rintro en w6 ⟨rfl, hp_⟩; obtain ⟨cb, e_⟩ : ∃ z, z = maskR m0 ⟨l, false, 0⟩ := ⟨_, rfl⟩; rw [← e_] at hp_; obtain ⟨c9, m9⟩ := cb; have EB := Aside0.mk e_; clear e_; have n0_ := Aside0.mk hp_; clear HP hp_; have HP := n0_; clear n0_))
  replace HP : Aside0 (PS.Sk w4 w0 gr g gm w6 c9 m9) := HP
  have n0_ := Aside0.mk HP.out.st
  clear HP F4g F4m F5g F5m F7g F7m F8g F8m F4 F5 F7 F8
  have HP := n0_
  clear n0_
  have E2 := Aside0.mk (show bodyR 1 m0 (cu l) = (c9, m9) from by
    unfold bodyR
    rw [if_neg (by have := HMC.out; omega)]
    rw [if_neg (by have := HMC.out; omega)]
    rw [if_neg (by have := HMC.out; omega)]
    rw [if_pos (by have := HMC.out; omega)]
    rw [EB.out]
    rfl)
  go_upto_region 10 with (first | (go_at_call 22; (with_reducible refine (PS.St.fin HP.out).mono ?_); rintro en x1 ⟨rfl, hp_⟩; obtain ⟨c10, ec_⟩ : ∃ z, z = c9.fin := ⟨_, rfl⟩; rw [← ec_] at hp_; have Ec10 := Aside0.mk ec_; clear ec_; have n0_ := Aside0.mk hp_; clear HP hp_; have HP := n0_; clear n0_))
  go_upto_region 11 with (first | (go_at_call 23; (with_reducible refine (PS.St.err HP.out).mono ?_); rintro en x2 ⟨rfl, hp_⟩; have n0_ := Aside0.mk hp_; clear HP hp_; have HP := n0_; clear n0_))
  have he1 : parse 1 22 l = if c10.e ≠ 0 then (zeroM, c10.e) else (m9, 0) := by
    unfold parse
    rw [if_neg (by decide), if_neg (by decide), ← HM0.out, E2.out, Ec10.out]
  by_cases h9 : c10.e = 0
  · have ex_ : parse 1 22 l = (m9, 0) := by rw [he1, if_neg (fun h => h h9)]
    have EX := Aside0.mk ex_
    have g1 : (c10.e != 0) = false := by rw [h9]; rfl
    have g2 : (c10.e == 0) = true := by rw [h9]; rfl
    clear h9 ex_ he1
    obtain ⟨cx, h_, hz_, hm_⟩ := PS.St.held2 HP.out
    have H := Aside0.mk h_
    have HZ := Aside0.mk hz_
    have HM := Aside0.mk hm_
    have HB := Aside0.mk HP.out.b
    clear h_ hz_ hm_ HP
    go_wp2_with (first | ((with_reducible refine gate_dst (N := 39) rfl ?_); refine ev_load (x := .tmp 8) rfl rfl rfl H.out (i := 1) rfl (HZ.out) ?_) | ((with_reducible refine gate_op (u := .store 30 (.tmp 6) (.tmp 39)) rfl ?_); refine ev_store rfl rfl rfl rfl H.out (i := 0) rfl rfl (HM.out _ ⟨rfl, rfl, rfl, Kept.refl _ _⟩) ?_; intro x91 h3_ h4_; have HE := Aside0.mk (HM.out _ h4_); clear h4_; have n0_ := Aside0.mk (h3_); clear H; have H := n0_; clear n0_; clear h3_))
    refine bodyPost_ret (results_ct rfl _ _ gr 30 _ (0, 0) _ rfl (H.out.at 0 rfl) Try.underlying30 rfl (msg_info (HZ.out))) rfl (by rw [EX.out]; exact ⟨_, rfl, HE.out, H.out.b⟩)
  · have ex_ : parse 1 22 l = (zeroM, c10.e) := by rw [he1, if_pos h9]
    have EX := Aside0.mk ex_
    have g1 : (c10.e != 0) = true := by simpa using h9
    have g2 : (c10.e == 0) = false := by simpa using h9
    clear h9 ex_ he1
    have H := Aside0.mk (PS.St.held HP.out)
    clear HP
    go_wp2_with (first | ((with_reducible refine gate_dst (N := 37) rfl ?_); refine ev_build (zeroC) rfl (by go_simp; first | rfl | done) ?_; intro cx hcx_; have M := Aside0.mk (show ∀ W, IsMsg W cx _ from fun W => by rw [hcx_]; exact zero_is W); clear hcx_) | ((with_reducible refine gate_op (u := .store 30 (.tmp 6) (.tmp 37)) rfl ?_); refine ev_store rfl rfl rfl rfl H.out (i := 0) rfl (rfl) (M.out w0) ?_; intro x90 h3_ h4_; have n0_ := Aside0.mk (h3_); clear H; have H := n0_; clear n0_; clear h3_ h4_))
    refine bodyPost_ret (results_ct rfl _ _ gr 30 _ (0, 0) _ rfl (H.out.at 0 rfl) Try.underlying30 rfl (msg_info ((M.out w0).size))) rfl (by rw [EX.out]; exact ⟨_, rfl, M.out _, H.out.b⟩)
theorem parse_1_23 {A : Option Addr} {c : Nat} {l : List Int} {w0 : World} (hr : Kd.C (Kd.int .u8) w0 A l.length l) (hc : l.length ≤ c) (hs : l.length ≤ 1000000) (hb : isBytes l) :
    Calls Try.prog 12 #[.int .i64 1, .int .u8 23, .slice A l.length c] w0 fun en w' => ∃ cx, en = .returned (.tuple #[.agg cx, .int .i64 (parse 1 23 l).2]) ∧ IsMsg w' cx (parse 1 23 l).1 ∧ Below w0.heap.size w0 w' := by
  have HR := Aside0.mk hr
  have HC := Aside0.mk hc
  have HS := Aside0.mk hs
  have HBB := Aside0.mk hb
  clear hr hc hs hb
  go_enter Try.func12, Try.ntmps12
  go_upto_region 3 with (first | ((with_reducible refine gate_dst (N := 6) rfl ?_); refine ev_alloc rfl rfl ?_; intro gr w1 hg_ h1_ h2_; have HG := Aside0.mk hg_; have H1 := Aside0.mk h1_; have H2 := Aside0.mk h2_; clear hg_ h1_ h2_))
  go_upto_region 4 with (first | ((with_reducible refine gate_dst (N := 20) rfl ?_); refine ev_build ((zeroC.setIfInBounds 0 (.int .u8 (23)))) rfl (by go_simp; first | rfl | done) ?_; intro cx hcx_; have M := Aside0.mk (show ∀ W, IsMsg W cx _ from fun W => by rw [hcx_]; exact (fun W => set_code (zero_is W) (v := 23) (by decide)) W); have NL := Aside0.mk (show NilL cx by rw [hcx_]; exact PS.zero_nil.set (by decide)); clear hcx_) | ((with_reducible refine gate_dst (N := 8) rfl ?_); refine ev_var (y := .tmp 20) rfl rfl rfl rfl rfl (M.out w0) rfl rfl ?_; intro gm w2 hg_ h1_ hb_; have HM1 := Aside0.mk hg_; have HM2 := Aside0.mk h1_; have HM3 := Aside0.mk hb_; clear h1_ hb_ hg_))
  go_upto_region 5 with (first | (go_at_call 20; (with_reducible refine (p_new A c l _ (Kd.C_below HR.out (H2.out.trans (HM3.out.mono H2.out.size))) HC.out HS.out HBB.out).mono ?_); rintro en w3 ⟨g, rfl, q1_, q2_, q3_, q4_⟩; have HP := Aside0.mk (St_first HG.out H1.out H2.out HM1.out HM2.out HM3.out M.out NL.out q1_ q2_ q3_); clear q1_ q2_ q3_ q4_ H1 H2 HG HM1 HM2 HM3))
  go_upto_region 6 with (first | (go_at_call 21; (with_reducible refine (form_1_23 (PS.St.at_code HP.out).1).mono ?_); rintro en w4 ⟨a4, a5, a7, a8, rfl, ⟨f4_, f5_, f7_, f8_⟩, l4_, l5_, l7_, l8_, hb_⟩; have hl_ := PS.Sk.lt (PS.Sk.start HP.out); have F4 := Aside0.mk f4_; have F5 := Aside0.mk f5_; have F7 := Aside0.mk f7_; have F8 := Aside0.mk f8_; have F4g : a4 ≠ g := (by omega); have F4m : a4 ≠ gm := (by omega); have F5g : a5 ≠ g := (by omega); have F5m : a5 ≠ gm := (by omega); have F7g : a7 ≠ g := (by omega); have F7m : a7 ≠ gm := (by omega); have F8g : a8 ≠ g := (by omega); have F8m : a8 ≠ gm := (by omega); have n0_ := Aside0.mk (PS.St.below HP.out hb_); clear HP hb_ f4_ f5_ f7_ f8_ l4_ l5_ l7_ l8_ hl_; have HP := n0_; clear n0_))
  have hef := eq_func
  go_upto_region 8 with (fail)
  clear hef
  obtain ⟨m0, hm0⟩ : ∃ z, z = ({ zeroM with code := 23 } : Msg) := ⟨_, rfl⟩
  rw [← hm0] at HP
  have HM0 := Aside0.mk hm0
  have HMC := Aside0.mk (show m0.code = 23 by rw [hm0])
  clear hm0 M NL
  have n0_ := Aside0.mk (PS.Sk.start HP.out)
  clear HP
  have HP := n0_
  clear n0_
  go_upto_region 9 with (first | (go_at_call 40; (with_reducible refine (told_any HP.out F5.out F5g F5m F4.out F4g F4m).mono ?_); rintro en w6 ⟨rfl, hp_⟩; obtain ⟨cb, e_⟩ : ∃ z, z = toldR m0 ⟨l, false, 0⟩ := ⟨_, rfl⟩; rw [← e_] at hp_; obtain ⟨c9, m9⟩ := cb; have EB := Aside0.mk e_; clear e_; have n0_ := Aside0.mk hp_; clear HP hp_; have HP := n0_; clear n0_))
  replace HP : Aside0 (PS.Sk w4 w0 gr g gm w6 c9 m9) := HP
  have n0_ := Aside0.mk HP.out.st
  clear HP F4g F4m F5g F5m F7g F7m F8g F8m F4 F5 F7 F8
  have HP := n0_
  clear n0_
  have E2 := Aside0.mk (show bodyR 1 m0 (cu l) = (c9, m9) from by
    unfold bodyR
    rw [if_neg (by have := HMC.out; omega)]
    rw [if_neg (by have := HMC.out; omega)]
    rw [if_neg (by have := HMC.out; omega)]
    rw [if_neg (by have := HMC.out; omega)]
    rw [if_pos (by have := HMC.out; omega)]
    rw [if_neg (by decide)]
    rw [EB.out]
    rfl)
  go_upto_region 10 with (first | (go_at_call 22; (with_reducible refine (PS.St.fin HP.out).mono ?_); rintro en x1 ⟨rfl, hp_⟩; obtain ⟨c10, ec_⟩ : ∃ z, z = c9.fin := ⟨_, rfl⟩; rw [← ec_] at hp_; have Ec10 := Aside0.mk ec_; clear ec_; have n0_ := Aside0.mk hp_; clear HP hp_; have HP := n0_; clear n0_))
  go_upto_region 11 with (first | (go_at_call 23; (with_reducible refine (PS.St.err HP.out).mono ?_); rintro en x2 ⟨rfl, hp_⟩; have n0_ := Aside0.mk hp_; clear HP hp_; have HP := n0_; clear n0_))
  have he1 : parse 1 23 l = if c10.e ≠ 0 then (zeroM, c10.e) else (m9, 0) := by
    unfold parse
    rw [if_neg (by decide), if_neg (by decide), ← HM0.out, E2.out, Ec10.out]
  by_cases h9 : c10.e = 0
  · have ex_ : parse 1 23 l = (m9, 0) := by rw [he1, if_neg (fun h => h h9)]
    have EX := Aside0.mk ex_
    have g1 : (c10.e != 0) = false := by rw [h9]; rfl
    have g2 : (c10.e == 0) = true := by rw [h9]; rfl
    clear h9 ex_ he1
    obtain ⟨cx, h_, hz_, hm_⟩ := PS.St.held2 HP.out
    have H := Aside0.mk h_
    have HZ := Aside0.mk hz_
    have HM := Aside0.mk hm_
    have HB := Aside0.mk HP.out.b
    clear h_ hz_ hm_ HP
    go_wp2_with (first | ((with_reducible refine gate_dst (N := 39) rfl ?_); refine ev_load (x := .tmp 8) rfl rfl rfl H.out (i := 1) rfl (HZ.out) ?_) | ((with_reducible refine gate_op (u := .store 30 (.tmp 6) (.tmp 39)) rfl ?_); refine ev_store rfl rfl rfl rfl H.out (i := 0) rfl rfl (HM.out _ ⟨rfl, rfl, rfl, Kept.refl _ _⟩) ?_; intro x91 h3_ h4_; have HE := Aside0.mk (HM.out _ h4_); clear h4_; have n0_ := Aside0.mk (h3_); clear H; have H := n0_; clear n0_; clear h3_))
    refine bodyPost_ret (results_ct rfl _ _ gr 30 _ (0, 0) _ rfl (H.out.at 0 rfl) Try.underlying30 rfl (msg_info (HZ.out))) rfl (by rw [EX.out]; exact ⟨_, rfl, HE.out, H.out.b⟩)
  · have ex_ : parse 1 23 l = (zeroM, c10.e) := by rw [he1, if_pos h9]
    have EX := Aside0.mk ex_
    have g1 : (c10.e != 0) = true := by simpa using h9
    have g2 : (c10.e == 0) = false := by simpa using h9
    clear h9 ex_ he1
    have H := Aside0.mk (PS.St.held HP.out)
    clear HP
    go_wp2_with (first | ((with_reducible refine gate_dst (N := 37) rfl ?_); refine ev_build (zeroC) rfl (by go_simp; first | rfl | done) ?_; intro cx hcx_; have M := Aside0.mk (show ∀ W, IsMsg W cx _ from fun W => by rw [hcx_]; exact zero_is W); clear hcx_) | ((with_reducible refine gate_op (u := .store 30 (.tmp 6) (.tmp 37)) rfl ?_); refine ev_store rfl rfl rfl rfl H.out (i := 0) rfl (rfl) (M.out w0) ?_; intro x90 h3_ h4_; have n0_ := Aside0.mk (h3_); clear H; have H := n0_; clear n0_; clear h3_ h4_))
    refine bodyPost_ret (results_ct rfl _ _ gr 30 _ (0, 0) _ rfl (H.out.at 0 rfl) Try.underlying30 rfl (msg_info ((M.out w0).size))) rfl (by rw [EX.out]; exact ⟨_, rfl, M.out _, H.out.b⟩)
theorem parse_1_24 {A : Option Addr} {c : Nat} {l : List Int} {w0 : World} (hr : Kd.C (Kd.int .u8) w0 A l.length l) (hc : l.length ≤ c) (hs : l.length ≤ 1000000) (hb : isBytes l) :
    Calls Try.prog 12 #[.int .i64 1, .int .u8 24, .slice A l.length c] w0 fun en w' => ∃ cx, en = .returned (.tuple #[.agg cx, .int .i64 (parse 1 24 l).2]) ∧ IsMsg w' cx (parse 1 24 l).1 ∧ Below w0.heap.size w0 w' := by
  have HR := Aside0.mk hr
  have HC := Aside0.mk hc
  have HS := Aside0.mk hs
  have HBB := Aside0.mk hb
  clear hr hc hs hb
  go_enter Try.func12, Try.ntmps12
  go_upto_region 3 with (first | ((with_reducible refine gate_dst (N := 6) rfl ?_); refine ev_alloc rfl rfl ?_; intro gr w1 hg_ h1_ h2_; have HG := Aside0.mk hg_; have H1 := Aside0.mk h1_; have H2 := Aside0.mk h2_; clear hg_ h1_ h2_))
  go_upto_region 4 with (first | ((with_reducible refine gate_dst (N := 20) rfl ?_); refine ev_build ((zeroC.setIfInBounds 0 (.int .u8 (24)))) rfl (by go_simp; first | rfl | done) ?_; intro cx hcx_; have M := Aside0.mk (show ∀ W, IsMsg W cx _ from fun W => by rw [hcx_]; exact (fun W => set_code (zero_is W) (v := 24) (by decide)) W); have NL := Aside0.mk (show NilL cx by rw [hcx_]; exact PS.zero_nil.set (by decide)); clear hcx_) | ((with_reducible refine gate_dst (N := 8) rfl ?_); refine ev_var (y := .tmp 20) rfl rfl rfl rfl rfl (M.out w0) rfl rfl ?_; intro gm w2 hg_ h1_ hb_; have HM1 := Aside0.mk hg_; have HM2 := Aside0.mk h1_; have HM3 := Aside0.mk hb_; clear h1_ hb_ hg_))
  go_upto_region 5 with (first | (go_at_call 20; (with_reducible refine (p_new A c l _ (Kd.C_below HR.out (H2.out.trans (HM3.out.mono H2.out.size))) HC.out HS.out HBB.out).mono ?_); rintro en w3 ⟨g, rfl, q1_, q2_, q3_, q4_⟩; have HP := Aside0.mk (St_first HG.out H1.out H2.out HM1.out HM2.out HM3.out M.out NL.out q1_ q2_ q3_); clear q1_ q2_ q3_ q4_ H1 H2 HG HM1 HM2 HM3))
  go_upto_region 6 with (first | (go_at_call 21; (with_reducible refine (form_1_24 (PS.St.at_code HP.out).1).mono ?_); rintro en w4 ⟨a4, a5, a7, a8, rfl, ⟨f4_, f5_, f7_, f8_⟩, l4_, l5_, l7_, l8_, hb_⟩; have hl_ := PS.Sk.lt (PS.Sk.start HP.out); have F4 := Aside0.mk f4_; have F5 := Aside0.mk f5_; have F7 := Aside0.mk f7_; have F8 := Aside0.mk f8_; have F4g : a4 ≠ g := (by omega); have F4m : a4 ≠ gm := (by omega); have F5g : a5 ≠ g := (by omega); have F5m : a5 ≠ gm := (by omega); have F7g : a7 ≠ g := (by omega); have F7m : a7 ≠ gm := (by omega); have F8g : a8 ≠ g := (by omega); have F8m : a8 ≠ gm := (by omega); have n0_ := Aside0.mk (PS.St.below HP.out hb_); clear HP hb_ f4_ f5_ f7_ f8_ l4_ l5_ l7_ l8_ hl_; have HP := n0_; clear n0_))
  have hef := eq_func
  go_upto_region 8 with (fail)
  clear hef
  obtain ⟨m0, hm0⟩ : ∃ z, z = ({ zeroM with code := 24 } : Msg) := ⟨_, rfl⟩
  rw [← hm0] at HP
  have HM0 := Aside0.mk hm0
  have HMC := Aside0.mk (show m0.code = 24 by rw [hm0])
  clear hm0 M NL
  have n0_ := Aside0.mk (PS.Sk.start HP.out)
  clear HP
  have HP := n0_
  clear n0_
  go_upto_region 9 with (first | (go_at_call 50; (with_reducible refine (queue_any HP.out F5.out F5g F5m F4.out F4g F4m).mono ?_); rintro en w6 ⟨rfl, hp_⟩; obtain ⟨cb, e_⟩ : ∃ z, z = queueR m0 ⟨l, false, 0⟩ := ⟨_, rfl⟩; rw [← e_] at hp_; obtain ⟨c9, m9⟩ := cb; have EB := Aside0.mk e_; clear e_; have n0_ := Aside0.mk hp_; clear HP hp_; have HP := n0_; clear n0_))
  replace HP : Aside0 (PS.Sk w4 w0 gr g gm w6 c9 m9) := HP
  have n0_ := Aside0.mk HP.out.st
  clear HP F4g F4m F5g F5m F7g F7m F8g F8m F4 F5 F7 F8
  have HP := n0_
  clear n0_
  have E2 := Aside0.mk (show bodyR 1 m0 (cu l) = (c9, m9) from by
    unfold bodyR
    rw [if_neg (by have := HMC.out; omega)]
    rw [if_neg (by have := HMC.out; omega)]
    rw [if_neg (by have := HMC.out; omega)]
    rw [if_neg (by have := HMC.out; omega)]
    rw [if_neg (by have := HMC.out; omega)]
    rw [if_neg (by decide)]
    rw [EB.out]
    rfl)
  go_upto_region 10 with (first | (go_at_call 22; (with_reducible refine (PS.St.fin HP.out).mono ?_); rintro en x1 ⟨rfl, hp_⟩; obtain ⟨c10, ec_⟩ : ∃ z, z = c9.fin := ⟨_, rfl⟩; rw [← ec_] at hp_; have Ec10 := Aside0.mk ec_; clear ec_; have n0_ := Aside0.mk hp_; clear HP hp_; have HP := n0_; clear n0_))
  go_upto_region 11 with (first | (go_at_call 23; (with_reducible refine (PS.St.err HP.out).mono ?_); rintro en x2 ⟨rfl, hp_⟩; have n0_ := Aside0.mk hp_; clear HP hp_; have HP := n0_; clear n0_))
  have he1 : parse 1 24 l = if c10.e ≠ 0 then (zeroM, c10.e) else (m9, 0) := by
    unfold parse
    rw [if_neg (by decide), if_neg (by decide), ← HM0.out, E2.out, Ec10.out]
  by_cases h9 : c10.e = 0
  · have ex_ : parse 1 24 l = (m9, 0) := by rw [he1, if_neg (fun h => h h9)]
    have EX := Aside0.mk ex_
    have g1 : (c10.e != 0) = false := by rw [h9]; rfl
    have g2 : (c10.e == 0) = true := by rw [h9]; rfl
    clear h9 ex_ he1
    obtain ⟨cx, h_, hz_, hm_⟩ := PS.St.held2 HP.out
    have H := Aside0.mk h_
    have HZ := Aside0.mk hz_
    have HM := Aside0.mk hm_
    have HB := Aside0.mk HP.out.b
    clear h_ hz_ hm_ HP
    go_wp2_with (first | ((with_reducible refine gate_dst (N := 39) rfl ?_); refine ev_load (x := .tmp 8) rfl rfl rfl H.out (i := 1) rfl (HZ.out) ?_) | ((with_reducible refine gate_op (u := .store 30 (.tmp 6) (.tmp 39)) rfl ?_); refine ev_store rfl rfl rfl rfl H.out (i := 0) rfl rfl (HM.out _ ⟨rfl, rfl, rfl, Kept.refl _ _⟩) ?_; intro x91 h3_ h4_; have HE := Aside0.mk (HM.out _ h4_); clear h4_; have n0_ := Aside0.mk (h3_); clear H; have H := n0_; clear n0_; clear h3_))
    refine bodyPost_ret (results_ct rfl _ _ gr 30 _ (0, 0) _ rfl (H.out.at 0 rfl) Try.underlying30 rfl (msg_info (HZ.out))) rfl (by rw [EX.out]; exact ⟨_, rfl, HE.out, H.out.b⟩)
  · have ex_ : parse 1 24 l = (zeroM, c10.e) := by rw [he1, if_pos h9]
    have EX := Aside0.mk ex_
    have g1 : (c10.e != 0) = true := by simpa using h9
    have g2 : (c10.e == 0) = false := by simpa using h9
    clear h9 ex_ he1
    have H := Aside0.mk (PS.St.held HP.out)
    clear HP
    go_wp2_with (first | ((with_reducible refine gate_dst (N := 37) rfl ?_); refine ev_build (zeroC) rfl (by go_simp; first | rfl | done) ?_; intro cx hcx_; have M := Aside0.mk (show ∀ W, IsMsg W cx _ from fun W => by rw [hcx_]; exact zero_is W); clear hcx_) | ((with_reducible refine gate_op (u := .store 30 (.tmp 6) (.tmp 37)) rfl ?_); refine ev_store rfl rfl rfl rfl H.out (i := 0) rfl (rfl) (M.out w0) ?_; intro x90 h3_ h4_; have n0_ := Aside0.mk (h3_); clear H; have H := n0_; clear n0_; clear h3_ h4_))
    refine bodyPost_ret (results_ct rfl _ _ gr 30 _ (0, 0) _ rfl (H.out.at 0 rfl) Try.underlying30 rfl (msg_info ((M.out w0).size))) rfl (by rw [EX.out]; exact ⟨_, rfl, M.out _, H.out.b⟩)
theorem parse_any {dir code : Int} {A : Option Addr} {c : Nat} {l : List Int} {w0 : World} (hr : Kd.C (Kd.int .u8) w0 A l.length l) (hc : l.length ≤ c) (hs : l.length ≤ 1000000) (hb : isBytes l) (hcd : 0 ≤ code ∧ code < 256) :
    Calls Try.prog 12 #[.int .i64 dir, .int .u8 code, .slice A l.length c] w0 fun en w' => ∃ cx, en = .returned (.tuple #[.agg cx, .int .i64 (parse dir code l).2]) ∧ IsMsg w' cx (parse dir code l).1 ∧ Below w0.heap.size w0 w' := by
  by_cases h0 : dir = 0
  · subst h0
    by_cases k3 : code = 3
    · subst k3; exact parse_0_3 hr hc hs hb
    by_cases k4 : code = 4
    · subst k4; exact parse_0_4 hr hc hs hb
    by_cases k6 : code = 6
    · subst k6; exact parse_0_6 hr hc hs hb
    by_cases k16 : code = 16
    · subst k16; exact parse_0_16 hr hc hs hb
    by_cases k22 : code = 22
    · subst k22; exact parse_0_22 hr hc hs hb
    by_cases k23 : code = 23
    · subst k23; exact parse_0_23 hr hc hs hb
    by_cases k24 : code = 24
    · subst k24; exact parse_0_24 hr hc hs hb
    have hn : ¬ isCode code := by unfold isCode; omega
    have e : parse 0 code l = (zeroM, 4) := by unfold parse; rw [if_neg (by decide), if_pos hn]
    rw [e]; exact parse_no0 hr hc hs hb hcd hn
  by_cases h1 : dir = 1
  · subst h1
    by_cases k3 : code = 3
    · subst k3; exact parse_1_3 hr hc hs hb
    by_cases k4 : code = 4
    · subst k4; exact parse_1_4 hr hc hs hb
    by_cases k6 : code = 6
    · subst k6; exact parse_1_6 hr hc hs hb
    by_cases k16 : code = 16
    · subst k16; exact parse_1_16 hr hc hs hb
    by_cases k22 : code = 22
    · subst k22; exact parse_1_22 hr hc hs hb
    by_cases k23 : code = 23
    · subst k23; exact parse_1_23 hr hc hs hb
    by_cases k24 : code = 24
    · subst k24; exact parse_1_24 hr hc hs hb
    have hn : ¬ isCode code := by unfold isCode; omega
    have e : parse 1 code l = (zeroM, 4) := by unfold parse; rw [if_neg (by decide), if_pos hn]
    rw [e]; exact parse_no1 hr hc hs hb hcd hn
  have e : parse dir code l = (zeroM, 1) := by unfold parse; rw [if_pos ⟨h0, h1⟩]
  rw [e]; exact parse_dir hr hc hs hb h0 h1
end Go.Proofs.Ytmglilncdffbkaa.Reg
end
section
namespace Go.Proofs.Ytmglilncdffbkaa.QS
open Go.RowKit Go.Proofs.Ytmglilncdffbkaa.P Go.Proofs.Ytmglilncdffbkaa.E Go.Proofs.Ytmglilncdffbkaa.Cur Go.Proofs.Ytmglilncdffbkaa.RCur Go.Proofs.Ytmglilncdffbkaa.Cu Go.Proofs.Ytmglilncdffbkaa.Same Go.Proofs.YtmglilncdffbkaaW.PrintWords Go.Proofs.YtmglilncdffbkaaW.PrintLast Go.Proofs.YtmglilncdffbkaaW.PrintMore
structure St (w0 : World) (gr g gm : Nat) (w : World) (c : Cu) (m : Msg) : Prop where
  b : Below w0.heap.size w0 w
  cur : QAt w0.heap.size w g c
  cx : ∃ cx, w.heap[gm]? = some (.cells cx 30 (0, 0)) ∧ ∀ W', Kept w W' (fun k => k = g ∨ k = gm ∨ k = gr) → IsMsg W' cx m
  res : w.heap[gr]? = some (.cells zeroC 30 (0, 0))
  h1 : w0.heap.size ≤ g ∧ w0.heap.size ≤ gm ∧ w0.heap.size ≤ gr
  h2 : gm ≠ g ∧ gr ≠ g ∧ gr ≠ gm
  nl : ∃ cx, w.heap[gm]? = some (.cells cx 30 (0, 0)) ∧ NilL cx
section
variable {w0 w w' : World} {gr g gm : Nat} {c c' : Cu} {m m' : Msg}
end
structure Nw (w0 : World) (gr g : Nat) (w : World) (c : Cu) : Prop where
  b : Below w0.heap.size w0 w
  cur : QAt w0.heap.size w g c
  res : w.heap[gr]? = some (.cells zeroC 30 (0, 0))
  h1 : w0.heap.size ≤ g ∧ w0.heap.size ≤ gr
  h2 : gr ≠ g
end Go.Proofs.Ytmglilncdffbkaa.QS
end
section
namespace Go.Proofs.Ytmglilncdffbkaa.RegR
open Go.RowKit Go.Proofs.Ytmglilncdffbkaa.P Go.Proofs.Ytmglilncdffbkaa.E Go.Proofs.Ytmglilncdffbkaa.Cur Go.Proofs.Ytmglilncdffbkaa.Cu Go.Proofs.Ytmglilncdffbkaa.Same Go.Proofs.Ytmglilncdffbkaa.Reg Go.Proofs.YtmglilncdffbkaaW.PrintWords Go.Proofs.YtmglilncdffbkaaW.PrintLast Go.Proofs.YtmglilncdffbkaaW.PrintMore
end Go.Proofs.Ytmglilncdffbkaa.RegR
end
section
namespace Go.Proofs.Ytmglilncdffbkaa.Com
open Go.RowKit Go.Proofs.Ytmglilncdffbkaa.P Go.Proofs.Ytmglilncdffbkaa.E Go.Proofs.Ytmglilncdffbkaa.Same Go.Proofs.YtmglilncdffbkaaW.PrintWords Go.Proofs.YtmglilncdffbkaaW.PrintLast Go.Proofs.YtmglilncdffbkaaW.PrintMore
def ParseC (fn : Nat) (dir code : Int) (l : List Int) (P : Msg × Int) : Prop := ∀ (A : Option Addr) (c : Nat) (W : World), Kd.C (Kd.int .u8) W A l.length l → l.length ≤ c → Calls Try.prog fn #[.int .i64 dir, .int .u8 code, .slice A l.length c] W fun en w' => ∃ cx, en = .returned (.tuple #[.agg cx, .int .i64 P.2]) ∧ IsMsg w' cx P.1 ∧ Below W.heap.size W w'
def LayC (fn : Nat) (dir : Int) (m : Msg) (l : List Int) : Prop := ∀ (cx : Array Value) (W : World), IsMsg W cx m → Calls Try.prog fn #[.int .i64 dir, .agg cx] W fun en w' => ∃ A c, en = .returned (.slice A l.length c) ∧ l.length ≤ c ∧ Kd.C (Kd.int .u8) w' A l.length l ∧ Below W.heap.size W w'
def WriteC (fn : Nat) (dir : Int) (m : Msg) (R : List Int × Int) : Prop := ∀ (cx : Array Value) (W : World), IsMsg W cx m → Calls Try.prog fn #[.int .i64 dir, .agg cx] W fun en w' => ∃ A c, en = .returned (.tuple #[.slice A R.1.length c, .int .i64 R.2]) ∧ R.1.length ≤ c ∧ Kd.C (Kd.int .u8) w' A R.1.length R.1 ∧ Below W.heap.size W w'
theorem ParseC.c {fn : Nat} {dir code : Int} {l : List Int} {P : Msg × Int} (h : ParseC fn dir code l P) {A : Option Addr} {c : Nat} {W : World} (hr : Kd.C (Kd.int .u8) W A l.length l) (hc : l.length ≤ c) : Calls Try.prog fn #[.int .i64 dir, .int .u8 code, .slice A l.length c] W fun en w' => ∃ cx, en = .returned (.tuple #[.agg cx, .int .i64 P.2]) ∧ IsMsg w' cx P.1 ∧ Below W.heap.size W w' := h A c W hr hc
theorem LayC.c {fn : Nat} {dir : Int} {m : Msg} {l : List Int} (h : LayC fn dir m l) {cx : Array Value} {W : World} (hm : IsMsg W cx m) : Calls Try.prog fn #[.int .i64 dir, .agg cx] W fun en w' => ∃ A c, en = .returned (.slice A l.length c) ∧ l.length ≤ c ∧ Kd.C (Kd.int .u8) w' A l.length l ∧ Below W.heap.size W w' := h cx W hm
theorem WriteC.n {fn : Nat} {dir : Int} {m : Msg} {xs : List Int} {e : Int} (h : WriteC fn dir m (xs, e)) {n : Nat} (hn : xs.length = n) {cx : Array Value} {W : World} (hm : IsMsg W cx m) : Calls Try.prog fn #[.int .i64 dir, .agg cx] W fun en w' => ∃ A c, en = .returned (.tuple #[.slice A n c, .int .i64 e]) ∧ n ≤ c ∧ Kd.C (Kd.int .u8) w' A n xs ∧ Below W.heap.size W w' := by
  subst hn
  exact h cx W hm
theorem ParseC.ex {fn : Nat} {dir code : Int} {bs xs : List Int} {P : Msg × Int} (h : ParseC fn dir code xs P) (he : bs = xs) : ParseC fn dir code bs P := he ▸ h
theorem ev_rlit {P : Program} {ops : Array Oper} {rest : List Oper} {o : Oper} {a : Act} {w : World} {Q : Exit → Act → World → Prop} (q : IntKind) (xs : List Int) (e : TypeId) {N : Tmp} (hd : o.dst = some N) (hgd : o.guard = none)
    (hrun : (execOp a.eval o).run P w = .ok (.value (.slice (some ⟨w.heap.size, 0, none⟩) xs.length xs.length)) (w.alloc (.cells (xs.map (Value.int q)).toArray e))) (hl : xs.length ≤ 1000000)
    (h : ∀ v w1, Kd.R (Kd.int q) e w1 w.heap.size (fun _ => True) v xs → Below w.heap.size w w1 → wpList P ops Q rest (a.put o.dst v) w1) : wpList P ops Q (o :: rest) a w := by
  refine Kd.R_lit (Kd.int q) (w0 := w) w.heap.size e hgd hd (xs := xs) (inner := xs.map (Value.int q)) (ok := fun _ => True) (okp := fun _ => True) hrun ?_ (fun _ hk => hk) trivial (Below.refl _ _) (Nat.le_refl _) (by omega) (fun v w1 h1 h2 _ _ => h v w1 h1 h2)
  clear h hrun hl
  induction xs with
  | nil => exact Reps.none _ _
  | cons x xs ih => exact Reps.one (show Kd.M (Kd.int q) _ _ _ x [.int q x] from rfl) ih
theorem ev_app {P : Program} {ops : Array Oper} {rest : List Oper} {o : Oper} {a : Act} {W0 W : World} {Q : Exit → Act → World → Prop} (q : IntKind) (e : TypeId) (s x : Operand) (t : TypeId) (bytes : Nat) (hgd : o.guard = none)
    (ho : o.op = .call { callee := .builtin .append, args := #[s, x], argTypes := #[t, t] }) (ht : P.underlying t = some (.slice e)) (hinfo : (P.info? e).map (fun i => (i.zero, i.size, i.bytes)) = some (some (.int q 0), 1, bytes)) (hb0 : 0 < bytes) (hb8 : bytes ≤ 8)
    {v : Value} {xs ys : List Int} {A : Option Addr} {m c : Nat} (hs : a.eval s = v) (hx : a.eval x = .slice A m c) {ok : Nat → Prop} (HO : Kd.R (Kd.int q) e W W0.heap.size ok v xs) (HR : Kd.C (Kd.int q) W A m ys) (HB : Below W0.heap.size W0 W) (hl : xs.length + m ≤ 1000000)
    {zs : List Int} {n : Nat} (hz : xs ++ ys = zs) (hn : zs.length = n)
    (h : ∀ v1 A1 c1 w1, v1 = .slice A1 n c1 → Kd.R (Kd.int q) e w1 W0.heap.size (fun _ => True) v1 zs → Kd.C (Kd.int q) w1 A1 n zs → n ≤ c1 → Below W0.heap.size W0 w1 → wpList P ops Q rest (a.put o.dst (.slice A1 n c1)) w1) : wpList P ops Q (o :: rest) a W := by
  subst hz
  subst hn
  refine Kd.R_append_rows (Kd.int q) (w0 := W0) W0.heap.size hgd s x t e (.int q 0) bytes ho ht hinfo rfl (show 0 < 1 by decide) hb0 v xs ys A m c (fun _ => True) (fun _ => False) hs hx ⟨fun _ _ => trivial, HO.2.imp_ (fun _ _ hp => hp)⟩ HR (fun _ _ h => h) (fun _ h => h.elim) (fun _ _ => trivial) HB HB.size ?_ ?_
  · exact Nat.le_trans (Nat.mul_le_mul hl hb8) (by decide)
  · intro v1 w1 h1 h2 _ _
    obtain ⟨A1, c1, e1, e2, e3⟩ := Kd.R_reads h1
    rw [e1]
    exact h v1 A1 c1 w1 e1 h1 e3 e2 h2
def writeR (m : Msg) (l : List Int) (P : Msg × Int) : List Int × Int := if P.2 = 0 ∧ sameB P.1 m = true then (l, 0) else ([], 1)
theorem write_err {dir : Int} {m : Msg} {l : List Int} {P : Msg × Int} (hl : LayC 32 dir m l) (hp : ParseC 12 dir m.code l P) {cx : Array Value} {w : World} (hm : IsMsg w cx m) (he : P.2 ≠ 0) :
    Calls Try.prog 16 #[.int .i64 dir, .agg cx] w fun en w' => ∃ A c, en = .returned (.tuple #[.slice A (([] : List Int)).length c, .int .i64 1]) ∧ (([] : List Int)).length ≤ c ∧ Kd.C (Kd.int .u8) w' A (([] : List Int)).length (([] : List Int)) ∧ Below w.heap.size w w' := by
  have HL := Aside0.mk hl
  have HPC := Aside0.mk hp
  have H := Aside0.mk (Hd.start w)
  have hsz := hm.size
  have hix := msg_info hsz
  have n0_ := Aside0.mk ((((H.out.on (below_alloc (Below.refl _ _) (Obj.cells cx 30)))).add (sta_blk _ _) (blk_new _ _)).add (sta_msg _ _) (hm.on (below_alloc (Below.refl _ _) _)))
  clear H
  have H := n0_
  clear n0_
  have e0 : (P.2 == 0) = false := beq_eq_false_iff_ne.2 he
  have e1 : (P.2 != 0) = true := by rw [bne, e0]; rfl
  clear hl hp he hm
  go_enter Try.func16, Try.ntmps16
  go_upto_region 2 with (first | ((with_reducible refine gate_dst (N := 10) rfl ?_); (try (refine gate_guard (by rfl) ?_; dsimp only)); refine ev_get (x := .tmp 3) rfl rfl rfl H.out.f.1.2 H.out.f.2 ?_) | (go_at_call 32; (with_reducible refine (LayC.c HL.out H.out.f.2).mono ?_); rintro en wb ⟨Ab, cb, rfl, hz_, hr_, hb_⟩; have n0_ := Aside0.mk ((H.out.on hb_).add (sta_C _ _ _ _) (hr_)); clear H; have H := n0_; clear n0_; have Zb := Aside0.mk hz_; clear hb_ hr_ hz_))
  have kc := bx_code H.out.f.1.1.2 H.out.f.1.2
  go_upto_region 3 with (first | (go_at_call 12; (with_reducible refine (ParseC.c HPC.out H.out.f.2 Zb.out).mono ?_); rintro en wx ⟨cx2, rfl, hm_, hb_⟩; have n0_ := Aside0.mk ((H.out.on hb_).add (sta_msg _ _) (hm_)); clear H; have H := n0_; clear n0_; clear hb_ hm_) | ((with_reducible refine gate_dst (N := 7) rfl ?_); refine ev_var (y := .tmp 18) rfl rfl rfl rfl rfl H.out.f.2 rfl rfl ?_; intro gx wv hg_ h1_ hb_; have n0_ := Aside0.mk ((H.out.on hb_).add (sta_blk _ _) (h1_)); clear H; have H := n0_; clear n0_; clear h1_ hb_ hg_))
  clear kc
  go_wp2
  go_ret2
  exact ⟨none, 0, rfl, Nat.le_refl _, Kd.C_nil _ _, H.out.b⟩
theorem write_not {dir : Int} {m : Msg} {l : List Int} {P : Msg × Int} (hl : LayC 32 dir m l) (hp : ParseC 12 dir m.code l P) {cx : Array Value} {w : World} (hm : IsMsg w cx m) (he : P.2 = 0) (hs : sameB P.1 m = false) :
    Calls Try.prog 16 #[.int .i64 dir, .agg cx] w fun en w' => ∃ A c, en = .returned (.tuple #[.slice A (([] : List Int)).length c, .int .i64 1]) ∧ (([] : List Int)).length ≤ c ∧ Kd.C (Kd.int .u8) w' A (([] : List Int)).length (([] : List Int)) ∧ Below w.heap.size w w' := by
  have HL := Aside0.mk hl
  have HPC := Aside0.mk hp
  have H := Aside0.mk (Hd.start w)
  have hsz := hm.size
  have hix := msg_info hsz
  have n0_ := Aside0.mk ((((H.out.on (below_alloc (Below.refl _ _) (Obj.cells cx 30)))).add (sta_blk _ _) (blk_new _ _)).add (sta_msg _ _) (hm.on (below_alloc (Below.refl _ _) _)))
  clear H
  have H := n0_
  clear n0_
  have e0 : (P.2 == 0) = true := beq_iff_eq.2 he
  have e1 : (P.2 != 0) = false := by rw [bne, e0]; rfl
  clear hl hp he hm
  go_enter Try.func16, Try.ntmps16
  go_upto_region 2 with (first | ((with_reducible refine gate_dst (N := 10) rfl ?_); (try (refine gate_guard (by rfl) ?_; dsimp only)); refine ev_get (x := .tmp 3) rfl rfl rfl H.out.f.1.2 H.out.f.2 ?_) | (go_at_call 32; (with_reducible refine (LayC.c HL.out H.out.f.2).mono ?_); rintro en wb ⟨Ab, cb, rfl, hz_, hr_, hb_⟩; have n0_ := Aside0.mk ((H.out.on hb_).add (sta_C _ _ _ _) (hr_)); clear H; have H := n0_; clear n0_; have Zb := Aside0.mk hz_; clear hb_ hr_ hz_))
  have kc := bx_code H.out.f.1.1.2 H.out.f.1.2
  go_upto_region 3 with (first | (go_at_call 12; (with_reducible refine (ParseC.c HPC.out H.out.f.2 Zb.out).mono ?_); rintro en wx ⟨cx2, rfl, hm_, hb_⟩; have n0_ := Aside0.mk ((H.out.on hb_).add (sta_msg _ _) (hm_)); clear H; have H := n0_; clear n0_; clear hb_ hm_) | ((with_reducible refine gate_dst (N := 7) rfl ?_); refine ev_var (y := .tmp 18) rfl rfl rfl rfl rfl H.out.f.2 rfl rfl ?_; intro gx wv hg_ h1_ hb_; have n0_ := Aside0.mk ((H.out.on hb_).add (sta_blk _ _) (h1_)); clear H; have H := n0_; clear n0_; clear h1_ hb_ hg_))
  clear kc
  go_wp2_with (first | ((with_reducible refine gate_dst (N := 23) rfl ?_); (try (refine gate_guard (by rfl) ?_; dsimp only)); refine ev_get (x := .tmp 7) rfl rfl rfl H.out.f.2 H.out.f.1.2 ?_) | ((with_reducible refine gate_dst (N := 24) rfl ?_); (try (refine gate_guard (by rfl) ?_; dsimp only)); refine ev_get (x := .tmp 3) rfl rfl rfl H.out.f.1.1.1.1.2 H.out.f.1.1.1.2 ?_) | (go_at_call 33; (with_reducible refine (same_msg H.out.f.1.2 H.out.f.1.1.1.2).mono ?_); rintro en ws ⟨rfl, hb_⟩; have n0_ := Aside0.mk (H.out.on hb_); clear H; have H := n0_; clear n0_; clear hb_))
  go_ret2
  exact ⟨none, 0, rfl, Nat.le_refl _, Kd.C_nil _ _, H.out.b⟩
theorem write_yes {dir : Int} {m : Msg} {l : List Int} {P : Msg × Int} (hl : LayC 32 dir m l) (hp : ParseC 12 dir m.code l P) {cx : Array Value} {w : World} (hm : IsMsg w cx m) (he : P.2 = 0) (hs : sameB P.1 m = true) :
    Calls Try.prog 16 #[.int .i64 dir, .agg cx] w fun en w' => ∃ A c, en = .returned (.tuple #[.slice A (l).length c, .int .i64 0]) ∧ (l).length ≤ c ∧ Kd.C (Kd.int .u8) w' A (l).length (l) ∧ Below w.heap.size w w' := by
  have HL := Aside0.mk hl
  have HPC := Aside0.mk hp
  have H := Aside0.mk (Hd.start w)
  have hsz := hm.size
  have hix := msg_info hsz
  have n0_ := Aside0.mk ((((H.out.on (below_alloc (Below.refl _ _) (Obj.cells cx 30)))).add (sta_blk _ _) (blk_new _ _)).add (sta_msg _ _) (hm.on (below_alloc (Below.refl _ _) _)))
  clear H
  have H := n0_
  clear n0_
  have e0 : (P.2 == 0) = true := beq_iff_eq.2 he
  have e1 : (P.2 != 0) = false := by rw [bne, e0]; rfl
  clear hl hp he hm
  go_enter Try.func16, Try.ntmps16
  go_upto_region 2 with (first | ((with_reducible refine gate_dst (N := 10) rfl ?_); (try (refine gate_guard (by rfl) ?_; dsimp only)); refine ev_get (x := .tmp 3) rfl rfl rfl H.out.f.1.2 H.out.f.2 ?_) | (go_at_call 32; (with_reducible refine (LayC.c HL.out H.out.f.2).mono ?_); rintro en wb ⟨Ab, cb, rfl, hz_, hr_, hb_⟩; have n0_ := Aside0.mk ((H.out.on hb_).add (sta_C _ _ _ _) (hr_)); clear H; have H := n0_; clear n0_; have Zb := Aside0.mk hz_; clear hb_ hr_ hz_))
  have kc := bx_code H.out.f.1.1.2 H.out.f.1.2
  go_upto_region 3 with (first | (go_at_call 12; (with_reducible refine (ParseC.c HPC.out H.out.f.2 Zb.out).mono ?_); rintro en wx ⟨cx2, rfl, hm_, hb_⟩; have n0_ := Aside0.mk ((H.out.on hb_).add (sta_msg _ _) (hm_)); clear H; have H := n0_; clear n0_; clear hb_ hm_) | ((with_reducible refine gate_dst (N := 7) rfl ?_); refine ev_var (y := .tmp 18) rfl rfl rfl rfl rfl H.out.f.2 rfl rfl ?_; intro gx wv hg_ h1_ hb_; have n0_ := Aside0.mk ((H.out.on hb_).add (sta_blk _ _) (h1_)); clear H; have H := n0_; clear n0_; clear h1_ hb_ hg_))
  clear kc
  go_wp2_with (first | ((with_reducible refine gate_dst (N := 23) rfl ?_); (try (refine gate_guard (by rfl) ?_; dsimp only)); refine ev_get (x := .tmp 7) rfl rfl rfl H.out.f.2 H.out.f.1.2 ?_) | ((with_reducible refine gate_dst (N := 24) rfl ?_); (try (refine gate_guard (by rfl) ?_; dsimp only)); refine ev_get (x := .tmp 3) rfl rfl rfl H.out.f.1.1.1.1.2 H.out.f.1.1.1.2 ?_) | (go_at_call 33; (with_reducible refine (same_msg H.out.f.1.2 H.out.f.1.1.1.2).mono ?_); rintro en ws ⟨rfl, hb_⟩; have n0_ := Aside0.mk (H.out.on hb_); clear H; have H := n0_; clear n0_; clear hb_))
  go_ret2
  exact ⟨Ab, cb, rfl, Zb.out, H.out.f.1.1.2, H.out.b⟩
theorem write_of {dir : Int} {m : Msg} {l : List Int} {P : Msg × Int} (hl : LayC 32 dir m l) (hp : ParseC 12 dir m.code l P) : WriteC 16 dir m (writeR m l P) := by
  intro cx W hm
  unfold writeR
  by_cases he : P.2 = 0
  · cases hs : sameB P.1 m with
    | false => rw [if_neg (fun h => by cases h.2)]; exact write_not hl hp hm he hs
    | true => rw [if_pos ⟨he, rfl⟩]; exact write_yes hl hp hm he hs
  · rw [if_neg (fun h => he h.1)]; exact write_err hl hp hm he
end Go.Proofs.Ytmglilncdffbkaa.Com
end
section
namespace Go.Proofs.Ytmglilncdffbkaa.P
open Go.RowKit Go.Proofs.YtmglilncdffbkaaW.PrintWords Go.Proofs.YtmglilncdffbkaaW.PrintLast Go.Proofs.YtmglilncdffbkaaW.PrintMore
attribute [local go_sem] max2_int min2_int max_two min_two max_three min_three max_four min_four   -- for this text's walks alone
def word_Put.l0 : Nat → List Int → List Int → Int → Int → Option (List Int)
  | 0, _, _, _, _ => none
  | k + 1, x3, x6, x7, x8 => if x8 < x7 then (if 0 ≤ x8 then (if x8 < (x6.length : Int) then ((some (([((rd x6 x8) / 256) % 256, (rd x6 x8) % 256] : List Int) : List Int)).bind fun y111 => (if x3.length + y111.length < 140737488355328 then (word_Put.l0 k (x3 ++ y111) x6 x7 (wrap64 (x8 + 1))) else (none))) else (none)) else (none)) else (some x3)
def word_Put.f (k : Nat) (l0 : List Int) : Option (List Int) := word_Put.l0 k ([] : List Int) l0 (l0.length : Int) 0
theorem word_Put.mono_l : ∀ k, (∀ y0 y1 y2 y3, LeO (word_Put.l0 k y0 y1 y2 y3) (word_Put.l0 (k + 1) y0 y1 y2 y3))
  | 0 => fun _ _ _ _ r h => by simp [word_Put.l0] at h
  | k + 1 => by
    have ih0 := word_Put.mono_l k
    · intro y0 y1 y2 y3
      unfold word_Put.l0
      repeat' first
      | (with_reducible exact ih0 _ _ _ _)
      | (with_reducible exact LeO.refl _)
      | (with_reducible exact LeO.none _)
      | (with_reducible refine LeO.ite ?_ ?_)
      | (with_reducible refine LeO.bind ?_ (fun _ => ?_))
      | exact ih0 _ _ _ _
      | exact LeO.none _
      | refine LeO.ite ?_ ?_
      | refine LeO.bind ?_ (fun _ => ?_)
theorem word_Put.mono : ∀ a0 k, LeO (word_Put.f k a0) (word_Put.f (k + 1) a0) := by
  intro a0 k
  have ih0 := word_Put.mono_l k
  unfold word_Put.f
  repeat' first
      | (with_reducible exact ih0 _ _ _ _)
      | (with_reducible exact LeO.refl _)
      | (with_reducible exact LeO.none _)
      | (with_reducible refine LeO.ite ?_ ?_)
      | (with_reducible refine LeO.bind ?_ (fun _ => ?_))
      | exact ih0 _ _ _ _
      | exact LeO.none _
      | refine LeO.ite ?_ ?_
      | refine LeO.bind ?_ (fun _ => ?_)
theorem word_Put.calls (k : Nat) (A0 : Option Addr) (c0 : Nat) (l0 : List Int) (r : List Int) (w : World) (hr0 : Kd.C (Kd.int .u16) w A0 l0.length l0) (hc0 : l0.length ≤ c0) (h : word_Put.f k l0 = some r) :
    Calls Try.prog 55 #[.slice A0 l0.length c0] w fun e w' => ∃ v0_ : Value, e = .returned (v0_) ∧ Kd.R (Kd.int .u8) 5 w' w.heap.size (fun _ => True) v0_ r ∧ Below w.heap.size w w' := by
  have HR0 := Aside0.mk hr0
  have HC0 := Aside0.mk hc0
  clear hr0 hc0
  have HB := Aside0.mk (Below.refl w.heap.size w)
  have H : (word_Put.l0 k ([] : List Int) l0 (l0.length : Int) 0) = some r := h
  clear h
  have H' := Aside0.mk H
  clear H
  go_enter Try.func55, Try.ntmps55
  go_wp2
  go_loopg [3, 8] k (fun kq v3 v8 w' => ∃ (x3_1 : List Int) (x8_1 : Int), v8 = .int .i64 x8_1 ∧ Aside0 (word_Put.l0 kq x3_1 l0 (l0.length : Int) x8_1 = some r) ∧ Aside0 (kq ≤ k) ∧ Aside0 (Kd.R (Kd.int .u8) 5 w' w.heap.size (fun _ => True) v3 x3_1) ∧ Aside0 (Below w.heap.size w w'))
  case atStart => exact ⟨(([] : List Int)), (0), (by first | rfl | (simp; done) | (simp [*]; done)), H', ⟨Nat.le_refl _⟩, ⟨by first | exact Kd.R_nil _ _ _ _ _ | exact Kd.N_nil _ _ _ _ _ | exact Kd.V_nil _ _ _ _ _ | exact Kd.Q_nil _ _ _ _ _ | exact Kd.S_nil _ _ _ _ _⟩, ⟨by repeat (first | (with_reducible first | exact HB.out | apply below_alloc | apply pw_below_drewN | apply below_drew1) | exact HB.out)⟩⟩
  case round =>
    clear H'
    obtain ⟨x3_1, x8_1, rfl, HA, HK1, HO_3, HB⟩ := hrel
    cases gk with
    | zero => exact absurd HA.out (by simp [word_Put.l0])
    | succ k1 =>
      have H := HA.out
      clear HA
      simp only [word_Put.l0] at H
      by_cases c2 : x8_1 < (l0.length : Int)
      · rw [if_pos c2] at H
        have c2b0 : decide (x8_1 < (l0.length : Int)) = true := decide_eq_true c2
        clear c2
        by_cases c3 : 0 ≤ x8_1
        · rw [if_pos c3] at H
          have c3b0 : decide (0 ≤ x8_1) = true := decide_eq_true c3
          clear c3
          by_cases c4 : x8_1 < (l0.length : Int)
          · rw [if_pos c4] at H
            have c4b0 : decide (x8_1 < (l0.length : Int)) = true := decide_eq_true c4
            clear c4
            obtain ⟨y111, hy111⟩ : ∃ y_ : List Int, y_ = (([((rd l0 x8_1) / 256) % 256, (rd l0 x8_1) % 256] : List Int)) := ⟨_, rfl⟩
            replace H : (if x3_1.length + y111.length < 140737488355328 then (word_Put.l0 k1 (x3_1 ++ y111) l0 (l0.length : Int) (wrap64 (x8_1 + 1))) else (none)) = some r := by first | (rw [hy111]; with_reducible exact H) | (have H2_ := (Option.bind_some _ _).symm.trans H; rw [hy111]; with_reducible exact H2_) | (have H2_ := (Option.bind_some _ _).symm.trans H; with_reducible exact H2_) | with_reducible exact H | (rw [hy111]; exact H) | exact H
            have Ny111 := Aside0.mk hy111
            clear hy111
            by_cases c5 : x3_1.length + y111.length < 140737488355328
            · rw [if_pos c5] at H
              have LMc5 := Aside0.mk c5
              clear c5
              obtain ⟨y114, hy114⟩ : ∃ y_ : List Int, y_ = (x3_1 ++ y111) := ⟨_, rfl⟩
              replace H : (word_Put.l0 k1 y114 l0 (l0.length : Int) (wrap64 (x8_1 + 1))) = some r := by first | (rw [hy114]; with_reducible exact H) | (have H2_ := (Option.bind_some _ _).symm.trans H; rw [hy114]; with_reducible exact H2_) | (have H2_ := (Option.bind_some _ _).symm.trans H; with_reducible exact H2_) | with_reducible exact H | (rw [hy114]; exact H) | exact H
              have Ny114 := Aside0.mk hy114
              clear hy114
              have H' := Aside0.mk H
              clear H
              have p110 : 0 ≤ (x8_1 : Int) := of_decide_eq_true (by first | (with_reducible assumption) | assumption)
              have q110 : x8_1 < (l0.length : Int) := of_decide_eq_true (by first | (with_reducible assumption) | assumption)
              obtain ⟨ad110, e110, hx110_0⟩ := Kd.at_int HR0.out x8_1 p110 q110
              cases e110
              replace hx110_0 := (HB.out.cell (World.block_lt_of_cell? w _ hx110_0)).trans hx110_0
              replace p110 := eq_true p110
              replace q110 := eq_true q110
              go_wp2_with (first | ((with_reducible refine gate_dst (N := 18) rfl ?_); refine Kd.R_lit (Kd.int .u8) _ 5 ?hg (N := 18) ?hd (xs := ([((rd l0 x8_1) / 256) % 256, (rd l0 x8_1) % 256] : List Int)) (inner := [.int .u8 (((rd l0 x8_1) / 256) % 256), .int .u8 ((rd l0 x8_1) % 256)]) (ok := fun _ => True) (okp := fun _ => True) ?hr ?hp (fun _ hk => hk) trivial (Below.refl _ _) (Nat.le_refl _) (by simp) ?_; (case hd => rfl); (case hg => rfl); (case hr => first | (go_simp; done) | (go_simp; rfl)); (case hp => exact (Reps.one (show Kd.M (Kd.int .u8) _ _ _ (((rd l0 x8_1) / 256) % 256) [.int .u8 (((rd l0 x8_1) / 256) % 256)] from rfl) (Reps.one (show Kd.M (Kd.int .u8) _ _ _ ((rd l0 x8_1) % 256) [.int .u8 ((rd l0 x8_1) % 256)] from rfl) (Reps.none _ _)))); intro v112 w6 ho7 hb hg_ hnew_; clear hg_ hnew_; (first | rw [← Ny111.out] at ho7 | (simp only [Int.reduceToNat] at ho7; rw [← Ny111.out] at ho7)); have n0_ := Aside0.mk (Kd.R_elder' (by (with_reducible repeat (first | apply Kd.R_alloc | apply Kd.R_drewN | apply Kd.R_drew)); exact HO_3.out) (Kd.R_base ho7) hb); have n1_ := Aside0.mk (Kd.R_lower (Kd.R_new' ho7 (Kd.R_lt (by (with_reducible repeat (first | apply Kd.R_alloc | apply Kd.R_drewN | apply Kd.R_drew)); exact HO_3.out))) (below_size (by repeat (first | (with_reducible first | exact HB.out | apply below_alloc | apply pw_below_drewN | apply below_drew1) | exact HB.out)))); have n2_ := Aside0.mk (below_step (by repeat (first | (with_reducible first | exact HB.out | apply below_alloc | apply pw_below_drewN | apply below_drew1) | exact HB.out)) hb); clear HO_3; clear HB; have HO_3 := n0_; have HO113 := n1_; have HB := n2_; clear n0_ n1_ n2_; clear hb ho7; obtain ⟨Ao9, co9, eo9⟩ := Kd.R_slice HO113.out; subst eo9) | ((with_reducible refine gate_builtin (b := .append) (xs := #[.tmp 12, .tmp 18]) rfl ?_); at_builtin; refine Kd.R_append_rows (Kd.int .u8) (w0 := w) w.heap.size rfl (.tmp 12) (.tmp 18) 22 5 (.int .u8 0) 1 rfl Try.underlying22 info5 rfl (by decide) (by omega) u3 x3_1 y111 _ _ _ (fun k_ => some k_ ≠ (.slice Ao9 y111.length co9 : Value).ownBlock) (fun _ => False) rfl rfl ?aO ?aR (fun _ _ h => h) (fun _ h => h.elim) ?aF ?aB ?aS ?aL ?_; (case aR => repeat (first | exact (Kd.R_reads' HO113.out).2.2 | (with_reducible refine Kd.C_alloc ?_ _) | (with_reducible refine Kd.C_drewN ?_ _) | (with_reducible refine Kd.C_drew ?_))); (case aB => exact (by repeat (first | (with_reducible first | exact HB.out | apply below_alloc | apply pw_below_drewN | apply below_drew1) | exact HB.out))); (case aF => exact (fun k_ hk => Kd.fresh' (Kd.R_lt (by (with_reducible repeat (first | apply Kd.R_alloc | apply Kd.R_drewN | apply Kd.R_drew)); exact HO113.out)) k_ hk)); (case aO => exact (by (with_reducible repeat (first | apply Kd.R_alloc | apply Kd.R_drewN | apply Kd.R_drew)); exact Kd.R_mono HO_3.out (fun _ hk => hk.2))); (case aS => exact (below_size (by repeat (first | (with_reducible first | exact HB.out | apply below_alloc | apply pw_below_drewN | apply below_drew1) | exact HB.out)))); (case aL => have := LMc5.out; omega); intro v115 w8 ho hb hg hat; rw [← Ny114.out] at ho; have n0_ := Aside0.mk (Kd.R_after (ok := (fun _ => True)) (by (with_reducible repeat (first | apply Kd.R_alloc | apply Kd.R_drewN | apply Kd.R_drew)); exact HO113.out) hg hat); have n1_ := Aside0.mk (hb); have n2_ := Aside0.mk (ho); clear HO113; clear HB; clear HO_3; have HO113 := n0_; have HB := n1_; have HO116 := n2_; clear n0_ n1_ n2_; clear ho hb hg hat))
              go_roundg k1
              case measure => have := HK1.out; omega
              case rel => exact ⟨(y114), (wrap64 (x8_1 + 1)), (by first | rfl | (simp; done) | (simp [*]; done)), H', ⟨by have := HK1.out; omega⟩, ⟨by (with_reducible repeat (first | apply Kd.R_alloc | apply Kd.R_drewN | apply Kd.R_drew)); exact Kd.R_mono HO116.out (fun _ hk => trivial)⟩, ⟨by repeat (first | (with_reducible first | exact HB.out | apply below_alloc | apply pw_below_drewN | apply below_drew1) | exact HB.out)⟩⟩
            · rw [if_neg c5] at H
              exact absurd H (by simp)
          · rw [if_neg c4] at H
            exact absurd H (by simp)
        · rw [if_neg c3] at H
          exact absurd H (by simp)
      · rw [if_neg c2] at H
        have c2b0 : decide (x8_1 < (l0.length : Int)) = false := decide_eq_false c2
        clear c2
        obtain rfl := Option.some.inj H
        go_wp2
        go_ret
        exact ⟨_, by first | rfl | (simp [errW_none, errW_some] <;> rfl) | (simp [*, errW_none, errW_some] <;> rfl), by (with_reducible repeat (first | apply Kd.R_alloc | apply Kd.R_drewN | apply Kd.R_drew)); exact HO_3.out, by repeat (first | (with_reducible first | exact HB.out | apply below_alloc | apply pw_below_drewN | apply below_drew1) | exact HB.out)⟩
end Go.Proofs.Ytmglilncdffbkaa.P
end
section
namespace Go.Proofs.Ytmglilncdffbkaa.P
open Go.RowKit Go.Proofs.YtmglilncdffbkaaW.PrintWords Go.Proofs.YtmglilncdffbkaaW.PrintLast Go.Proofs.YtmglilncdffbkaaW.PrintMore
attribute [local go_sem] max2_int min2_int max_two min_two max_three min_three max_four min_four   -- for this text's walks alone
end Go.Proofs.Ytmglilncdffbkaa.P
end
section
namespace Go.Proofs.Ytmglilncdffbkaa.Put
open Go.RowKit Go.Proofs.Ytmglilncdffbkaa.P Go.Proofs.Ytmglilncdffbkaa.E Go.Proofs.Ytmglilncdffbkaa.Take Go.Proofs.YtmglilncdffbkaaW.PrintWords Go.Proofs.YtmglilncdffbkaaW.PrintLast Go.Proofs.YtmglilncdffbkaaW.PrintMore
def is16 (ws : List Int) : Prop := ∀ w ∈ ws, 0 ≤ w ∧ w < 65536
def putL : List Int → List Int
  | [] => []
  | w :: r => (w / 256) % 256 :: w % 256 :: putL r
theorem putL_length : ∀ ws : List Int, (putL ws).length = 2 * ws.length
  | [] => rfl
  | w :: r => by simp only [putL, List.length_cons, putL_length r]; omega
theorem putL_append : ∀ a b : List Int, putL (a ++ b) = putL a ++ putL b
  | [], b => rfl
  | w :: r, b => by simp only [List.cons_append, putL, putL_append r b]
theorem putL_bytes : ∀ ws : List Int, isBytes (putL ws)
  | [] => fun x h => by cases h
  | w :: r => fun x hx => by
    rcases List.mem_cons.1 hx with rfl | hx
    · omega
    rcases List.mem_cons.1 hx with rfl | hx
    · omega
    · exact putL_bytes r x hx
theorem words_cons (a b : Int) (t : List Int) (ht : t.length % 2 = 0) : words (a :: b :: t) = (a * 256 + b) :: words t := by
  unfold words
  rw [if_pos (by simp only [List.length_cons]; omega), if_pos ht, show (a :: b :: t).length / 2 = t.length / 2 + 1 by simp only [List.length_cons]; omega]
  unfold pre
  rw [List.range_succ_eq_map, List.map_cons, List.map_map]
  congr 1
theorem words_nil : words [] = [] := rfl
theorem words_putL : ∀ {ws : List Int}, is16 ws → words (putL ws) = ws
  | [], _ => rfl
  | w :: r, h => by
    have h1 := h w List.mem_cons_self
    simp only [putL]
    rw [words_cons _ _ _ (by rw [putL_length]; omega), words_putL (fun x hx => h x (List.mem_cons_of_mem _ hx)), show w / 256 % 256 * 256 + w % 256 = w by omega]
theorem words_facts : ∀ (n : Nat) (l : List Int), l.length = 2 * n → isBytes l → putL (words l) = l ∧ is16 (words l) ∧ (words l).length = n
  | 0, l, hn, _ => by
    obtain rfl : l = [] := List.eq_nil_of_length_eq_zero hn
    refine ⟨rfl, fun x hx => ?_, rfl⟩
    exact absurd hx (by rw [words_nil]; exact List.not_mem_nil)
  | n + 1, [], hn, _ => by
    simp only [List.length_nil] at hn
    omega
  | n + 1, [a], hn, _ => by
    simp only [List.length_cons, List.length_nil] at hn
    omega
  | n + 1, a :: b :: t, hn, hb => by
    have hl : t.length = 2 * n := by simp only [List.length_cons] at hn; omega
    have ha := hb a (by simp)
    have hb1 := hb b (by simp)
    obtain ⟨h1, h2, h3⟩ := words_facts n t hl (fun x hx => hb x (by simp [hx]))
    rw [words_cons a b t (by omega)]
    refine ⟨?_, ?_, by rw [List.length_cons, h3]⟩
    · simp only [putL, h1]
      rw [show (a * 256 + b) / 256 % 256 = a by omega, show (a * 256 + b) % 256 = b by omega]
    · intro x hx
      rcases List.mem_cons.1 hx with rfl | hx
      · omega
      · exact h2 x hx
theorem put_l0 (ws : List Int) (h : is16 ws) (hl : ws.length ≤ 1000000) : ∀ (d i : Nat), d = ws.length - i → i ≤ ws.length → word_Put.l0 (d + 1) (putL (ws.take i)) ws (ws.length : Int) (i : Int) = some (putL ws) := by
  intro d
  induction d with
  | zero =>
    intro i hd hi
    have e : i = ws.length := by omega
    subst e
    unfold word_Put.l0
    rw [if_neg (by omega), List.take_length]
  | succ d ih =>
    intro i hd hi
    have hlt : i < ws.length := by omega
    have e1 : rd ws (i : Int) = ws.getD i 0 := by simp [rd]
    have e2 : wrap64 ((i : Int) + 1) = ((i + 1 : Nat) : Int) := by rw [wrap64_id (by omega) (by omega)]; omega
    have e3 : ws.take (i + 1) = ws.take i ++ [ws.getD i 0] := by
      rw [List.take_add_one, List.getD_eq_getElem?_getD, List.getElem?_eq_getElem hlt]; rfl
    have h2 := ih (i + 1) (by omega) (by omega)
    rw [e3, putL_append] at h2
    unfold word_Put.l0
    rw [if_pos (show (i : Int) < (ws.length : Int) by omega), if_pos (show (0 : Int) ≤ (i : Int) by omega), if_pos (show (i : Int) < (ws.length : Int) by omega), e1, e2]
    simp only [Option.bind_some]
    rw [if_pos (show (putL (ws.take i)).length + [ws.getD i 0 / 256 % 256, ws.getD i 0 % 256].length < 140737488355328 by rw [putL_length, List.length_take]; simp only [List.length_cons, List.length_nil]; omega)]
    exact h2
theorem put_ev (ws : List Int) (h : is16 ws) (hl : ws.length ≤ 1000000) : Ev (fun k => word_Put.f k ws) (putL ws) := Ev.of (word_Put.mono ws) (k := ws.length + 1) (put_l0 ws h hl ws.length 0 (by omega) (by omega))
theorem is16_2 {a b : Int} (ha : 0 ≤ a ∧ a < 65536) (hb : 0 ≤ b ∧ b < 65536) : is16 [a, b] := fun x hx => by
  rcases List.mem_cons.1 hx with rfl | hx
  · exact ha
  · obtain rfl := List.mem_singleton.1 hx; exact hb
end Go.Proofs.Ytmglilncdffbkaa.Put
end
