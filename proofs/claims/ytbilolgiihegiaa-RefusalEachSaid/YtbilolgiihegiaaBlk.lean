/- Messages in blocks: a whole message stored into a variable, loaded out of it; the empty message; what each cell of a message holds. -/
import Derived.Test.YtbilolgiihegiaaMsg
import Derived.Deep.MidRow
set_option linter.unusedVariables false
set_option linter.unusedSimpArgs false
namespace Go.Proofs.Ytbilolgiihegiaa.Same
open Go.RowKit Go.Proofs.Ytbilolgiihegiaa.P Go.Proofs.Ytbilolgiihegiaa.E Go.Proofs.YtbilolgiihegiaaW.PrintWords Go.Proofs.YtbilolgiihegiaaW.PrintLast Go.Proofs.YtbilolgiihegiaaW.PrintMore
/-- But for block g all is as it was. -/
structure Up1 (g : Nat) (w w' : World) : Prop where
  os : w'.os = w.os
  tape : w'.tape = w.tape
  output : w'.output = w.output
  kept : Kept w w' (fun k => k = g)
theorem Up1.below {g B : Nat} {w w' : World} (h : Up1 g w w') (hB : B ≤ g) (hs : B ≤ w.heap.size) : Below B w w' := ⟨h.os, h.tape, h.output, h.kept.1, fun k hk => h.kept.2 k (by omega) (by omega)⟩
theorem Up1.blk {g k : Nat} {w w' : World} {o : Obj} (h : Up1 g w w') (hk : w.heap[k]? = some o) (hne : k ≠ g) : w'.heap[k]? = some o := blk_kept hk h.kept hne
/-- A whole row stored over a block. -/
theorem setCells_blk {w : World} {g : Nat} {cur cx : Array Value} {t : TypeId} (hb : w.heap[g]? = some (.cells cur t (0, 0))) (hs : cur.size = cx.size) : (w.setCells g 0 cx.toList).heap[g]? = some (.cells cx t (0, 0)) ∧ Up1 g w (w.setCells g 0 cx.toList) := by
  obtain ⟨cur', h1, h2, h3⟩ := setCells_row cx.toList 0 w cur hb (by simp [hs])
  have e : cur' = cx := by
    apply Array.ext'
    rw [h3]
    simp [hs]
  rw [e] at h1
  obtain ⟨a1, a2, a3, a4⟩ := setCells_same g cx.toList 0 w
  exact ⟨h1, a1, a2, a3, by rw [a4]; exact Nat.le_refl _, fun k hk hn => setCells_far cx.toList 0 k hn⟩
theorem run_store_row {P : Program} {w : World} {g : Nat} {cur cx : Array Value} {t ty : TypeId} (hb : w.heap[g]? = some (.cells cur t (0, 0))) (hs : cur.size = cx.size) (hi : (P.info? ty).map (·.size) = some cx.size) (h1 : cx.all (·.oneCell') = true) :
    (Instr.storeAt ty (.pointer (some ⟨g, 0, none⟩)) (.agg cx)).run P w = .ok () (w.setCells g 0 cx.toList) := by
  refine run_storeAt_mid w g 0 ty cx (fun j hj => ?_) hi h1
  rw [Nat.zero_add]
  have := blk_cell hb j
  have hj' : j < cur.size := by omega
  exact ⟨by rw [this]; simp [hj'], blk_frozen hb j⟩
theorem wpList_store_row {P : Program} {ops : Array Oper} {rest : List Oper} {op : Oper} {a : Act} {w : World} {Q : Exit → Act → World → Prop} (ty : TypeId) (x y : Operand) {g : Nat} {cur cx : Array Value} {t : TypeId}
    (ho : op.op = .store ty x y) (hgd : op.guard = none) (hx : a.eval x = .pointer (some ⟨g, 0, none⟩)) (hy : a.eval y = .agg cx) (hb : w.heap[g]? = some (.cells cur t (0, 0))) (hs : cur.size = cx.size) (hi : (P.info? ty).map (·.size) = some cx.size) (h1 : cx.all (·.oneCell') = true)
    (h : ∀ w', w'.heap[g]? = some (.cells cx t (0, 0)) → Up1 g w w' → wpList P ops Q rest (a.put op.dst undef) w') : wpList P ops Q (op :: rest) a w := by
  refine wpList_plain hgd fun _ hK => ?_
  unfold Oper.wp execOp
  have hr := run_store_row (P := P) (ty := ty) hb hs hi h1
  simp only [ho, hx, hy, hr, Sem.run_bind, Sem.run_pure, Result.andThen_ok]
  obtain ⟨b1, b2⟩ := setCells_blk hb hs
  exact hK _ _ (h _ b1 b2)
/-- This very operation comes next. -/
theorem gate_op {P : Program} {ops : Array Oper} {rest : List Oper} {op : Oper} {a : Act} {w : World} {Q : Exit → Act → World → Prop} {u : Op} (_ : op.op = u) (h : wpList P ops Q (op :: rest) a w) : wpList P ops Q (op :: rest) a w := h
/-- The empty message. -/
def zeroM : Msg := ⟨0, 0, 0, 0, 0, 0, 0, 0, 0, 0, 0, 0, [], [], [], [], 0, 0, 0, 0, 0, []⟩
def zeroC : Array Value := #[.int .u8 0, .int .u8 0, .int .u16 0, .int .u16 0, .int .u16 0, .int .u16 0, .int .u16 0, .int .u16 0, .int .u16 0, .int .u16 0, .int .u16 0, .int .u16 0, .slice none 0 0, .slice none 0 0, .slice none 0 0, .slice none 0 0, .int .u8 0, .int .u8 0, .int .u8 0, .int .u8 0, .int .u8 0, .slice none 0 0]
theorem zero_good : goodM zeroM := by
  refine ⟨by decide, ?_, ?_, ?_⟩
  · intro x h; cases h
  · intro x h; cases h
  · intro x h; cases h
theorem nil_row {α : Type} (d : Kd α) (w : World) : Kd.C d w none ([] : List α).length [] ∧ ([] : List α).length ≤ 0 := ⟨Kd.C_nil d w, Nat.le_refl _⟩
theorem zero_is (w : World) : IsMsg w zeroC zeroM := by
  refine ⟨none, 0, none, 0, none, 0, none, 0, none, 0, ?_, zero_good, ?_⟩
  · rfl
  · exact ⟨nil_row _ w, nil_row _ w, nil_row _ w, nil_row _ w, nil_row _ w⟩
theorem IsMsg.one {w : World} {cx : Array Value} {m : Msg} (h : IsMsg w cx m) : cx.all (·.oneCell') = true := by
  obtain ⟨A12, c12, A13, c13, A14, c14, A15, c15, A21, c21, rfl, ok, ⟨hr12, hc12⟩, ⟨hr13, hc13⟩, ⟨hr14, hc14⟩, ⟨hr15, hc15⟩, ⟨hr21, hc21⟩⟩ := h
  simp [Value.oneCell']
theorem IsMsg.good {w : World} {cx : Array Value} {m : Msg} (h : IsMsg w cx m) : goodM m := by
  obtain ⟨A12, c12, A13, c13, A14, c14, A15, c15, A21, c21, rfl, ok, ⟨hr12, hc12⟩, ⟨hr13, hc13⟩, ⟨hr14, hc14⟩, ⟨hr15, hc15⟩, ⟨hr21, hc21⟩⟩ := h
  exact ok
theorem msg_info {cx : Array Value} (h : cx.size = 22) : (Try.prog.info? 30).map (·.size) = some cx.size := by rw [h]; kernel_rfl
/-- The cells of a message that hold numbers, by its block. -/
def celled (cx : Array Value) (i : Nat) (v : Value) : Prop := cx[i]? = some v
theorem IsMsg.celled {w : World} {cx : Array Value} {m : Msg} (h : IsMsg w cx m) : Same.celled cx 0 (.int .u8 m.code) ∧ Same.celled cx 1 (.int .u8 m.fail) ∧ Same.celled cx 2 (.int .u16 m.addr) ∧ Same.celled cx 3 (.int .u16 m.count) ∧ Same.celled cx 4 (.int .u16 m.value) ∧ Same.celled cx 5 (.int .u16 m.and_) ∧ Same.celled cx 6 (.int .u16 m.or_) ∧ Same.celled cx 7 (.int .u16 m.addr2) ∧ Same.celled cx 8 (.int .u16 m.sub) ∧ Same.celled cx 9 (.int .u16 m.status) ∧ Same.celled cx 10 (.int .u16 m.events) ∧ Same.celled cx 11 (.int .u16 m.messages) ∧ Same.celled cx 16 (.int .u8 m.mei) ∧ Same.celled cx 17 (.int .u8 m.kind) ∧ Same.celled cx 18 (.int .u8 m.level) ∧ Same.celled cx 19 (.int .u8 m.more) ∧ Same.celled cx 20 (.int .u8 m.next) := by
  obtain ⟨A12, c12, A13, c13, A14, c14, A15, c15, A21, c21, rfl, ok, ⟨hr12, hc12⟩, ⟨hr13, hc13⟩, ⟨hr14, hc14⟩, ⟨hr15, hc15⟩, ⟨hr21, hc21⟩⟩ := h
  exact ⟨rfl, rfl, rfl, rfl, rfl, rfl, rfl, rfl, rfl, rfl, rfl, rfl, rfl, rfl, rfl, rfl, rfl⟩
section
variable {w W : World} {g : Nat} {cx : Array Value} {t : TypeId} {m : Msg} (hb : w.heap[g]? = some (.cells cx t (0, 0))) (h : IsMsg W cx m)
include hb h
theorem bx_code : w.cell? ⟨g, 0, none⟩ = some (.int .u8 m.code) := (blk_cell hb 0).trans h.celled.1
theorem bx_fail : w.cell? ⟨g, 1, none⟩ = some (.int .u8 m.fail) := (blk_cell hb 1).trans h.celled.2.1
theorem bx_addr : w.cell? ⟨g, 2, none⟩ = some (.int .u16 m.addr) := (blk_cell hb 2).trans h.celled.2.2.1
theorem bx_count : w.cell? ⟨g, 3, none⟩ = some (.int .u16 m.count) := (blk_cell hb 3).trans h.celled.2.2.2.1
theorem bx_value : w.cell? ⟨g, 4, none⟩ = some (.int .u16 m.value) := (blk_cell hb 4).trans h.celled.2.2.2.2.1
theorem bx_and : w.cell? ⟨g, 5, none⟩ = some (.int .u16 m.and_) := (blk_cell hb 5).trans h.celled.2.2.2.2.2.1
theorem bx_or : w.cell? ⟨g, 6, none⟩ = some (.int .u16 m.or_) := (blk_cell hb 6).trans h.celled.2.2.2.2.2.2.1
theorem bx_addr2 : w.cell? ⟨g, 7, none⟩ = some (.int .u16 m.addr2) := (blk_cell hb 7).trans h.celled.2.2.2.2.2.2.2.1
theorem bx_sub : w.cell? ⟨g, 8, none⟩ = some (.int .u16 m.sub) := (blk_cell hb 8).trans h.celled.2.2.2.2.2.2.2.2.1
theorem bx_status : w.cell? ⟨g, 9, none⟩ = some (.int .u16 m.status) := (blk_cell hb 9).trans h.celled.2.2.2.2.2.2.2.2.2.1
theorem bx_events : w.cell? ⟨g, 10, none⟩ = some (.int .u16 m.events) := (blk_cell hb 10).trans h.celled.2.2.2.2.2.2.2.2.2.2.1
theorem bx_messages : w.cell? ⟨g, 11, none⟩ = some (.int .u16 m.messages) := (blk_cell hb 11).trans h.celled.2.2.2.2.2.2.2.2.2.2.2.1
theorem bx_mei : w.cell? ⟨g, 16, none⟩ = some (.int .u8 m.mei) := (blk_cell hb 16).trans h.celled.2.2.2.2.2.2.2.2.2.2.2.2.1
theorem bx_kind : w.cell? ⟨g, 17, none⟩ = some (.int .u8 m.kind) := (blk_cell hb 17).trans h.celled.2.2.2.2.2.2.2.2.2.2.2.2.2.1
theorem bx_level : w.cell? ⟨g, 18, none⟩ = some (.int .u8 m.level) := (blk_cell hb 18).trans h.celled.2.2.2.2.2.2.2.2.2.2.2.2.2.2.1
theorem bx_more : w.cell? ⟨g, 19, none⟩ = some (.int .u8 m.more) := (blk_cell hb 19).trans h.celled.2.2.2.2.2.2.2.2.2.2.2.2.2.2.2.1
theorem bx_next : w.cell? ⟨g, 20, none⟩ = some (.int .u8 m.next) := (blk_cell hb 20).trans h.celled.2.2.2.2.2.2.2.2.2.2.2.2.2.2.2.2
end
/-- A byte of a row that came in. -/
theorem at_u8 {w : World} {A : Option Addr} {l : List Int} (h : Kd.C (Kd.int .u8) w A l.length l) (i : Nat) (hi : i < l.length) : ∃ ad, A = some ad ∧ w.cell? (ad.add i) = some (.int .u8 (l.getD i 0)) := by
  obtain ⟨ad, e, h2⟩ := Kd.at_int h (i : Int) (by omega) (by omega)
  rw [Int.toNat_natCast] at h2
  refine ⟨ad, e, h2.trans ?_⟩
  simp [rd]
theorem goodM_num {m : Msg} (h : goodM m) : ((0 ≤ m.code ∧ m.code < 256) ∧ (0 ≤ m.fail ∧ m.fail < 256) ∧ (0 ≤ m.addr ∧ m.addr < 65536) ∧ (0 ≤ m.count ∧ m.count < 65536) ∧ (0 ≤ m.value ∧ m.value < 65536) ∧ (0 ≤ m.and_ ∧ m.and_ < 65536) ∧ (0 ≤ m.or_ ∧ m.or_ < 65536) ∧ (0 ≤ m.addr2 ∧ m.addr2 < 65536) ∧ (0 ≤ m.sub ∧ m.sub < 65536) ∧ (0 ≤ m.status ∧ m.status < 65536) ∧ (0 ≤ m.events ∧ m.events < 65536) ∧ (0 ≤ m.messages ∧ m.messages < 65536) ∧ (0 ≤ m.mei ∧ m.mei < 256) ∧ (0 ≤ m.kind ∧ m.kind < 256) ∧ (0 ≤ m.level ∧ m.level < 256) ∧ (0 ≤ m.more ∧ m.more < 256) ∧ (0 ≤ m.next ∧ m.next < 256)) ∧ isBytes m.data ∧ (∀ o ∈ m.objects, isBytes o.f1) := by
  obtain ⟨h1, _⟩ := h
  simp only [okM, u8B, u16B, Bool.and_eq_true, decide_eq_true_eq, List.all_eq_true] at h1
  obtain ⟨⟨⟨⟨⟨⟨⟨⟨⟨⟨⟨⟨⟨⟨⟨⟨⟨⟨a0, a1⟩, a2⟩, a3⟩, a4⟩, a5⟩, a6⟩, a7⟩, a8⟩, a9⟩, a10⟩, a11⟩, a16⟩, a17⟩, a18⟩, a19⟩, a20⟩, a14⟩, a21⟩ := h1
  exact ⟨⟨a0, a1, a2, a3, a4, a5, a6, a7, a8, a9, a10, a11, a16, a17, a18, a19, a20⟩, a14, fun o ho x hx => a21 o ho x hx⟩
/-- A message's variable is made: it is empty. -/
theorem run_alloc_msg (ev : Operand → Value) (o : Oper) (ho : o.op = .alloc 30) (W : World) : (execOp ev o).run Try.prog W = .ok (.value (.pointer (some ⟨W.heap.size, 0, none⟩))) (W.alloc (.cells zeroC 30 (0, 0))) := by
  unfold execOp
  rw [ho]
  kernel_rfl
theorem ev_alloc {ops : Array Oper} {rest : List Oper} {o : Oper} {a : Act} {w : World} {Q : Exit → Act → World → Prop} (ho : o.op = .alloc 30) (hgd : o.guard = none)
    (h : ∀ g w1, g = w.heap.size → w1.heap[g]? = some (.cells zeroC 30 (0, 0)) → Below w.heap.size w w1 → wpList Try.prog ops Q rest (a.put o.dst (.pointer (some ⟨g, 0, none⟩))) w1) : wpList Try.prog ops Q (o :: rest) a w :=
  Kd.event_run hgd (run_alloc_msg a.eval o ho w) (h _ _ rfl (blk_new w _) (below_alloc (Below.refl _ _) _))
/-- A message's literal, under a letter. -/
theorem ev_build {P : Program} {ops : Array Oper} {rest : List Oper} {o : Oper} {a : Act} {w : World} {Q : Exit → Act → World → Prop} (cs : Array Value) (hgd : o.guard = none) (hrun : (execOp a.eval o).run P w = .ok (.value (.agg cs)) w)
    (h : ∀ cx, cx = cs → wpList P ops Q rest (a.put o.dst (.agg cx)) w) : wpList P ops Q (o :: rest) a w := Kd.event_run hgd hrun (h _ rfl)
/-- A block of numbers is a row of them. -/
theorem C_block (q : IntKind) (xs : List Int) {w : World} {g : Nat} {t : TypeId} (hb : w.heap[g]? = some (.cells (xs.map (Value.int q)).toArray t (0, 0))) (hl : xs.length ≤ 1000000) : Kd.C (Kd.int q) w (some ⟨g, 0, none⟩) xs.length xs := by
  refine Kd.C_of_reads (d := 0) ⟨rfl, by omega, fun _ => ⟨_, rfl, fun j hj => ?_⟩⟩
  have e : (⟨g, 0, none⟩ : Addr).add j = ⟨g, j, none⟩ := by unfold Addr.add; split <;> simp_all
  rw [e, blk_cell hb j]
  simp [hj]
/-- A slice's literal of numbers. -/
theorem ev_lit {P : Program} {ops : Array Oper} {rest : List Oper} {o : Oper} {a : Act} {w : World} {Q : Exit → Act → World → Prop} (q : IntKind) (xs : List Int) (t : TypeId) (hgd : o.guard = none)
    (hrun : (execOp a.eval o).run P w = .ok (.value (.slice (some ⟨w.heap.size, 0, none⟩) xs.length xs.length)) (w.alloc (.cells (xs.map (Value.int q)).toArray t (0, 0)))) (hl : xs.length ≤ 1000000)
    (h : ∀ A c w1 bs, bs = xs → Kd.C (Kd.int q) w1 A bs.length bs → bs.length ≤ c → Below w.heap.size w w1 → wpList P ops Q rest (a.put o.dst (.slice A bs.length c)) w1) : wpList P ops Q (o :: rest) a w :=
  Kd.event_run hgd hrun (h _ _ _ xs rfl (C_block q xs (blk_new w _) hl) (Nat.le_refl _) (below_alloc (Below.refl _ _) _))
/-- The messages that lie in blocks of the call's own. -/
structure Held (w0 : World) (L : List (Nat × Array Value)) (W : World) : Prop where
  b : Below w0.heap.size w0 W
  h : ∀ p ∈ L, w0.heap.size ≤ p.1 ∧ W.heap[p.1]? = some (.cells p.2 30 (0, 0))
  d : L.Pairwise (fun p q => p.1 ≠ q.1)
theorem Held.start (w : World) : Held w [] w := ⟨Below.refl _ _, (fun p h => by cases h), List.Pairwise.nil⟩
theorem Held.box (w : World) (cx : Array Value) : Held w [(w.heap.size, cx)] (w.alloc (.cells cx 30 (0, 0))) :=
  ⟨below_alloc (Below.refl _ _) _, fun p hp => by obtain rfl := List.mem_singleton.1 hp; exact ⟨Nat.le_refl _, blk_new _ _⟩, List.pairwise_singleton _ _⟩
theorem Held.on {w0 W W' : World} {L : List (Nat × Array Value)} (h : Held w0 L W) (hb : Below W.heap.size W W') : Held w0 L W' :=
  ⟨h.b.trans (hb.mono h.b.size), fun p hp => ⟨(h.h p hp).1, blk_below (h.h p hp).2 hb⟩, h.d⟩
theorem Held.drew {w0 W : World} {L : List (Nat × Array Value)} (h : Held w0 L W) : Held w0 L W.drew := ⟨h.b.drew, fun p hp => ⟨(h.h p hp).1, blk_drew (h.h p hp).2⟩, h.d⟩
theorem Held.drewN {w0 W : World} {L : List (Nat × Array Value)} (h : Held w0 L W) (n : Nat) : Held w0 L (W.drewN n) := ⟨pw_below_drewN h.b n, fun p hp => ⟨(h.h p hp).1, blk_drewN (h.h p hp).2 n⟩, h.d⟩
theorem Held.at {w0 W : World} {L : List (Nat × Array Value)} (h : Held w0 L W) (i : Nat) {g : Nat} {cx : Array Value} (hi : L[i]? = some (g, cx)) : W.heap[g]? = some (.cells cx 30 (0, 0)) := (h.h (g, cx) (List.mem_of_getElem? hi)).2
theorem Held.new {w0 W W' : World} {L : List (Nat × Array Value)} {g : Nat} {cx : Array Value} (h : Held w0 L W) (hg : g = W.heap.size) (hblk : W'.heap[g]? = some (.cells cx 30 (0, 0))) (hb : Below W.heap.size W W') : Held w0 (L ++ [(g, cx)]) W' := by
  have h2 := h.on hb
  refine ⟨h2.b, fun p hp => ?_, List.pairwise_append.2 ⟨h.d, List.pairwise_singleton _ _, fun p hp q hq => ?_⟩⟩
  · rcases List.mem_append.1 hp with hp | hp
    · exact h2.h p hp
    · obtain rfl := List.mem_singleton.1 hp
      exact ⟨by rw [hg]; exact h.b.size, hblk⟩
  · obtain rfl := List.mem_singleton.1 hq
    have := blk_lt (h.h p hp).2
    show p.1 ≠ g
    omega
theorem Held.put {w0 W W' : World} {L : List (Nat × Array Value)} (h : Held w0 L W) (i : Nat) {g : Nat} {cx cy : Array Value} (hi : L[i]? = some (g, cx)) (hblk : W'.heap[g]? = some (.cells cy 30 (0, 0))) (hu : Up1 g W W') : Held w0 (L.set i (g, cy)) W' := by
  have hg := (h.h (g, cx) (List.mem_of_getElem? hi)).1
  obtain ⟨hlt, hval⟩ := List.getElem?_eq_some_iff.1 hi
  refine ⟨h.b.trans (hu.below hg h.b.size), fun p hp => ?_, ?_⟩
  · obtain ⟨j, hj, rfl⟩ := List.mem_iff_getElem.1 hp
    have hj' : j < L.length := by simpa using hj
    rw [List.getElem_set]
    split
    · exact ⟨hg, hblk⟩
    · rename_i hne
      have hmem := h.h L[j] (List.getElem_mem hj')
      refine ⟨hmem.1, hu.blk hmem.2 ?_⟩
      have hpw := List.pairwise_iff_getElem.1 h.d
      rcases Nat.lt_or_gt_of_ne hne with hl | hl
      · have := hpw i j hlt hj' hl
        rw [hval] at this
        exact fun e => this e.symm
      · have := hpw j i hj' hlt hl
        rw [hval] at this
        exact this
  · refine List.pairwise_iff_getElem.2 fun a b ha hb hab => ?_
    have ha' : a < L.length := by simpa using ha
    have hb' : b < L.length := by simpa using hb
    have hpw := List.pairwise_iff_getElem.1 h.d a b ha' hb' hab
    rw [List.getElem_set, List.getElem_set]
    split <;> split
    · rename_i e1 e2; omega
    · rename_i e1 _; subst e1; rw [hval] at hpw; exact hpw
    · rename_i _ e2; subst e2; rw [hval] at hpw; exact hpw
    · exact hpw
/-- A whole message is stored into a variable of the call's own. -/
theorem ev_store {ops : Array Oper} {rest : List Oper} {op : Oper} {a : Act} {w w0 W0 : World} {Q : Exit → Act → World → Prop} {x y : Operand} {g : Nat} {L : List (Nat × Array Value)} {i : Nat} {cur cx : Array Value} {m : Msg}
    (ho : op.op = .store 30 x y) (hgd : op.guard = none) (hx : a.eval x = .pointer (some ⟨g, 0, none⟩)) (hy : a.eval y = .agg cx) (H : Held w0 L w) (hi : L[i]? = some (g, cur)) (hs : cur.size = 22) (M : IsMsg W0 cx m)
    (h : ∀ w', Held w0 (L.set i (g, cx)) w' → Up1 g w w' → wpList Try.prog ops Q rest (a.put op.dst undef) w') : wpList Try.prog ops Q (op :: rest) a w :=
  wpList_store_row 30 x y ho hgd hx hy (H.at i hi) (hs.trans M.size.symm) (msg_info M.size) M.one (fun w' h1 h2 => h w' (H.put i hi h1 h2) h2)
/-- A message's variable is made and the message stored into it. -/
theorem ev_var {ops : Array Oper} {rest : List Oper} {o1 o2 : Oper} {a : Act} {w W0 : World} {Q : Exit → Act → World → Prop} {x y : Operand} {cx : Array Value} {m : Msg}
    (ho1 : o1.op = .alloc 30) (hg1 : o1.guard = none) (ho2 : o2.op = .store 30 x y) (hg2 : o2.guard = none) (hd2 : o2.dst = none) (M : IsMsg W0 cx m)
    (hx : (a.put o1.dst (.pointer (some ⟨w.heap.size, 0, none⟩))).eval x = .pointer (some ⟨w.heap.size, 0, none⟩)) (hy : (a.put o1.dst (.pointer (some ⟨w.heap.size, 0, none⟩))).eval y = .agg cx)
    (h : ∀ g w', g = w.heap.size → w'.heap[g]? = some (.cells cx 30 (0, 0)) → Below w.heap.size w w' → wpList Try.prog ops Q rest (a.put o1.dst (.pointer (some ⟨g, 0, none⟩))) w') : wpList Try.prog ops Q (o1 :: o2 :: rest) a w := by
  refine Kd.event_run hg1 (run_alloc_msg a.eval o1 ho1 w) ?_
  refine wpList_store_row 30 x y ho2 hg2 hx hy (blk_new w _) (M.size.symm ▸ rfl) (msg_info M.size) M.one (fun w' h1 h2 => ?_)
  rw [hd2]
  exact h _ w' rfl h1 ((below_alloc (Below.refl _ _) _).trans ((h2.below (Nat.le_refl _) (by simp)).mono (by simp)))
/-- A whole message is loaded out of a variable of the call's own. -/
theorem ev_load {ops : Array Oper} {rest : List Oper} {op : Oper} {a : Act} {w w0 : World} {Q : Exit → Act → World → Prop} {x : Operand} {g : Nat} {L : List (Nat × Array Value)} {i : Nat} {cx : Array Value}
    (ho : op.op = .load 30 x) (hgd : op.guard = none) (hx : a.eval x = .pointer (some ⟨g, 0, none⟩)) (H : Held w0 L w) (hi : L[i]? = some (g, cx)) (hs : cx.size = 22)
    (h : wpList Try.prog ops Q rest (a.put op.dst (.agg cx)) w) : wpList Try.prog ops Q (op :: rest) a w :=
  wpList_load_row hgd 30 x ho g hx 30 cx (0, 0) _ (H.at i hi) Try.underlying30 rfl (msg_info hs) h
/-- The same in a region that draws its order. -/
theorem store_ {ops : Array Oper} {oi : Oper} {a : Act} {w w0 W0 : World} {K : Act → World → Prop} {Q : Exit → Act → World → Prop} {x y : Operand} {g : Nat} {L : List (Nat × Array Value)} {i : Nat} {cur cx : Array Value} {m : Msg}
    (hw : Region.wanted oi (yielded ops a.tmps) = true) (hN : oi.dst = none) (ho : oi.op = .store 30 x y) (hx : a.eval x = .pointer (some ⟨g, 0, none⟩)) (hy : a.eval y = .agg cx) (H : Held w0 L w) (hi : L[i]? = some (g, cur)) (hs : cur.size = 22) (M : IsMsg W0 cx m)
    (h : ∀ w', Held w0 (L.set i (g, cx)) w' → Up1 g w w' → K a w') : if Region.wanted oi (yielded ops a.tmps) = true then Oper.wp Try.prog oi a w K Q else K (a.put none undef) w := by
  have hr := run_store_row (P := Try.prog) (ty := 30) (H.at i hi) (hs.trans M.size.symm) (msg_info M.size) M.one
  obtain ⟨b1, b2⟩ := setCells_blk (H.at i hi) (hs.trans M.size.symm)
  refine skip_ hw hN ?_ (h _ (H.put i hi b1 b2) b2)
  unfold execOp
  simp only [ho, hx, hy, hr, Sem.run_bind, Sem.run_pure, Result.andThen_ok]
/-- What stays true while nothing that was is written. -/
def Sta (F : World → Prop) : Prop := ∀ W W', Below W.heap.size W W' → F W → F W'
theorem sta_C {α : Type} (d : Kd α) (A : Option Addr) (n : Nat) (xs : List α) : Sta fun W => d.C W A n xs := fun _ _ hb h => Kd.C_below h hb
theorem sta_msg (cx : Array Value) (m : Msg) : Sta fun W => IsMsg W cx m := fun _ _ hb h => h.on hb
theorem sta_blk (g : Nat) (o : Obj) : Sta fun W => W.heap[g]? = some o := fun _ _ hb h => blk_below h hb
theorem sta_cell (a : Addr) (v : Value) : Sta fun W => W.cell? a = some v := fun W _ hb h => (hb.cell (World.block_lt_of_cell? W _ h)).trans h
theorem sta_below (n : Nat) (W0 : World) : Sta fun W => n ≤ W.heap.size ∧ Below n W0 W := fun _ _ hb h => ⟨Nat.le_trans h.1 hb.size, h.2.trans (hb.mono h.1)⟩
/-- What is known along a walk: what was is as it was; F. -/
structure Hd (w0 : World) (F : World → Prop) (W : World) : Prop where
  b : Below w0.heap.size w0 W
  f : F W
  st : Sta F
theorem Hd.start (w : World) : Hd w (fun _ => True) w := ⟨Below.refl _ _, trivial, fun _ _ _ h => h⟩
theorem Hd.on {w0 W W' : World} {F : World → Prop} (h : Hd w0 F W) (hb : Below W.heap.size W W') : Hd w0 F W' := ⟨h.b.trans (hb.mono h.b.size), h.st _ _ hb h.f, h.st⟩
theorem Hd.add {w0 W : World} {F G : World → Prop} (h : Hd w0 F W) (sg : Sta G) (g : G W) : Hd w0 (fun W => F W ∧ G W) W := ⟨h.b, ⟨h.f, g⟩, fun _ _ hb hfg => ⟨h.st _ _ hb hfg.1, sg _ _ hb hfg.2⟩⟩
theorem Hd.al {w0 W : World} {F : World → Prop} (h : Hd w0 F W) (o : Obj) : Hd w0 F (W.alloc o) := h.on (below_alloc (Below.refl _ _) o)
theorem Hd.dr {w0 W : World} {F : World → Prop} (h : Hd w0 F W) : Hd w0 F W.drew := h.on (below_drew (Below.refl _ _))
theorem Hd.drN {w0 W : World} {F : World → Prop} (h : Hd w0 F W) (n : Nat) : Hd w0 F (W.drewN n) := h.on (pw_below_drewN (Below.refl _ _) n)
/-- A whole message is loaded out of its variable. -/
theorem ev_get {ops : Array Oper} {rest : List Oper} {op : Oper} {a : Act} {w : World} {Q : Exit → Act → World → Prop} {x : Operand} {g : Nat} {cx : Array Value} {m : Msg} {W0 : World}
    (ho : op.op = .load 30 x) (hgd : op.guard = none) (hx : a.eval x = .pointer (some ⟨g, 0, none⟩)) (hb : w.heap[g]? = some (.cells cx 30 (0, 0))) (M : IsMsg W0 cx m)
    (h : wpList Try.prog ops Q rest (a.put op.dst (.agg cx)) w) : wpList Try.prog ops Q (op :: rest) a w :=
  wpList_load_row hgd 30 x ho g hx 30 cx (0, 0) _ hb Try.underlying30 rfl (msg_info M.size) h
end Go.Proofs.Ytbilolgiihegiaa.Same
